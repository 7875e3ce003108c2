/-
  No cell of these rows narrows 'for every input' (looked for: loops, veiled, ifaces, maps, wideKeys, modest, calm, conditions, laid).
  DERIVED. THE GIVEN ROWS OF THIS SEAT. 5 by the template 'for every input the law returns true; each argument reads behind the call as it read before'; 0 by the template 'total and deterministic' (their statements: YtgjibbicplbgbaaTotals.lean).
  GIVEN WITH THE SEED: the statements are not yours to turn. If you find one false, say at which input.
  Laid BY PROGRAM, IN A SANDBOX (cutbox-rows.mjs): the forced cells as the released guide's own fill.sh prints them over the translation e0a9b8ab8fb134b0… (all of the seat's roots in one cut). By AI agents, Wed Nov 11 2026. No macro, syntax, notation, axiom, sorry.
-/
import Derived.Test.YtgjibbicplbgbaaChecked
import GoSem.Claim
import GoSem.ClaimJoined
import GoSem.ClaimMapViews
import Derived.JoinedTies
import Derived.KernelRfl
namespace Go.Proofs.Ytgjibbicplbgbaa
/- THE CELL 'sum', in the pinned program and in every row, IS THE sha256 OF THE DUMP (.gsa) THAT YtgjibbicplbgbaaProg.lean LOADS. Nothing in Lean hashes anything: it is a label: what it is worth is what the hold of that sum in a sandbox is worth. -/
noncomputable def Try.pinned : Pinned := { name := "ytgjibbicplbgbaa", sum := "e0a9b8ab8fb134b02117dcce9c77e193644c90db46390e6ebf0946827d7e1a1b", checked := Try.checked }
namespace Rows
def none {H : Type} : Left H := { results := [], args := [] }

/-- 'selvagelaw14.AllocSlots': WHATEVER THE INPUT: true; the input reads as it did. -/
def allocSlotsSpec : ChangeSpec := { name := "allocSlots", fn := fun _ => fun
  | [d1, d2, d3] => { results := [.lit (.bool true)], args := [d1, d2, d3] }
  | _ => none }
def allocSlotsRow : OpenClaim := { program := "ytgjibbicplbgbaa", sum := "e0a9b8ab8fb134b02117dcce9c77e193644c90db46390e6ebf0946827d7e1a1b", func := "selvage/selvagelaw14.AllocSlots", spec := "allocSlots", inPlace := ["math.Float64bits"], unfollowed := true, recurses := true, apart := false }
def AllocSlotsSaid : Prop := allocSlotsRow.holds Try.pinned (OpenSpec.ofChange allocSlotsSpec)

/-- ITS FALSE NEIGHBOUR: 'it returns false'. Refute it at one input. -/
def allocSlotsWrong : ChangeSpec := { name := "allocSlots", fn := fun _ => fun
  | [d1, d2, d3] => { results := [.lit (.bool false)], args := [d1, d2, d3] }
  | _ => none }
def AllocSlotsWrongFalsely : Prop := allocSlotsRow.holds Try.pinned (OpenSpec.ofChange allocSlotsWrong)

/-- 'selvagelaw14.AllocAll': WHATEVER THE INPUT: true; the input reads as it did. -/
def allocAllSpec : ChangeSpec := { name := "allocAll", fn := fun _ => fun
  | [d1, d2, d3, d4] => { results := [.lit (.bool true)], args := [d1, d2, d3, d4] }
  | _ => none }
def allocAllRow : OpenClaim := { program := "ytgjibbicplbgbaa", sum := "e0a9b8ab8fb134b02117dcce9c77e193644c90db46390e6ebf0946827d7e1a1b", func := "selvage/selvagelaw14.AllocAll", spec := "allocAll", inPlace := ["math.Float64bits"], unfollowed := true, recurses := true, apart := false }
def AllocAllSaid : Prop := allocAllRow.holds Try.pinned (OpenSpec.ofChange allocAllSpec)

/-- ITS FALSE NEIGHBOUR: 'it returns false'. Refute it at one input. -/
def allocAllWrong : ChangeSpec := { name := "allocAll", fn := fun _ => fun
  | [d1, d2, d3, d4] => { results := [.lit (.bool false)], args := [d1, d2, d3, d4] }
  | _ => none }
def AllocAllWrongFalsely : Prop := allocAllRow.holds Try.pinned (OpenSpec.ofChange allocAllWrong)

/-- 'selvagelaw14.AllocApart': WHATEVER THE INPUT: true; the input reads as it did. -/
def allocApartSpec : ChangeSpec := { name := "allocApart", fn := fun _ => fun
  | [d1, d2, d3] => { results := [.lit (.bool true)], args := [d1, d2, d3] }
  | _ => none }
def allocApartRow : OpenClaim := { program := "ytgjibbicplbgbaa", sum := "e0a9b8ab8fb134b02117dcce9c77e193644c90db46390e6ebf0946827d7e1a1b", func := "selvage/selvagelaw14.AllocApart", spec := "allocApart", inPlace := ["math.Float64bits"], unfollowed := true, recurses := true, apart := false }
def AllocApartSaid : Prop := allocApartRow.holds Try.pinned (OpenSpec.ofChange allocApartSpec)

/-- ITS FALSE NEIGHBOUR: 'it returns false'. Refute it at one input. -/
def allocApartWrong : ChangeSpec := { name := "allocApart", fn := fun _ => fun
  | [d1, d2, d3] => { results := [.lit (.bool false)], args := [d1, d2, d3] }
  | _ => none }
def AllocApartWrongFalsely : Prop := allocApartRow.holds Try.pinned (OpenSpec.ofChange allocApartWrong)

/-- 'selvagelaw14.AllocSpans': WHATEVER THE INPUT: true; the input reads as it did. -/
def allocSpansSpec : ChangeSpec := { name := "allocSpans", fn := fun _ => fun
  | [d1, d2] => { results := [.lit (.bool true)], args := [d1, d2] }
  | _ => none }
def allocSpansRow : OpenClaim := { program := "ytgjibbicplbgbaa", sum := "e0a9b8ab8fb134b02117dcce9c77e193644c90db46390e6ebf0946827d7e1a1b", func := "selvage/selvagelaw14.AllocSpans", spec := "allocSpans", inPlace := ["math.Float64bits"], unfollowed := true, recurses := true, apart := false }
def AllocSpansSaid : Prop := allocSpansRow.holds Try.pinned (OpenSpec.ofChange allocSpansSpec)

/-- ITS FALSE NEIGHBOUR: 'it returns false'. Refute it at one input. -/
def allocSpansWrong : ChangeSpec := { name := "allocSpans", fn := fun _ => fun
  | [d1, d2] => { results := [.lit (.bool false)], args := [d1, d2] }
  | _ => none }
def AllocSpansWrongFalsely : Prop := allocSpansRow.holds Try.pinned (OpenSpec.ofChange allocSpansWrong)

/-- 'selvagelaw14.AllocEnough': WHATEVER THE INPUT: true; the input reads as it did. -/
def allocEnoughSpec : ChangeSpec := { name := "allocEnough", fn := fun _ => fun
  | [d1, d2, d3] => { results := [.lit (.bool true)], args := [d1, d2, d3] }
  | _ => none }
def allocEnoughRow : OpenClaim := { program := "ytgjibbicplbgbaa", sum := "e0a9b8ab8fb134b02117dcce9c77e193644c90db46390e6ebf0946827d7e1a1b", func := "selvage/selvagelaw14.AllocEnough", spec := "allocEnough", inPlace := ["math.Float64bits"], unfollowed := true, recurses := true, apart := false }
def AllocEnoughSaid : Prop := allocEnoughRow.holds Try.pinned (OpenSpec.ofChange allocEnoughSpec)

/-- ITS FALSE NEIGHBOUR: 'it returns false'. Refute it at one input. -/
def allocEnoughWrong : ChangeSpec := { name := "allocEnough", fn := fun _ => fun
  | [d1, d2, d3] => { results := [.lit (.bool false)], args := [d1, d2, d3] }
  | _ => none }
def AllocEnoughWrongFalsely : Prop := allocEnoughRow.holds Try.pinned (OpenSpec.ofChange allocEnoughWrong)

/- THE SECOND FORM. 'bulk': how many values and letters a reading holds, each counted each time it is reached (what is shared counts as often as it is met; a slice's spare places count too). A statement '..UptoSaid' is the law's where the arguments, and the package variables that the reading takes, are together of bulk at most 1048576: NARROWER than '..Said'. Prove '..Said' where nothing that the law and all that it calls make is longer than what came in: it says more and counts as full. Else prove '..UptoSaid'. A law counts once. -/
mutual
def uptoBulk {H : Type} : DataW H → Nat
  | .lit (.string bytes) => bytes.length + 1
  | .lit _ => 1
  | .nil => 1
  | .ptr d => uptoBulk d + 1
  | .slice elems spare => uptoBulkAll elems + uptoBulkAll spare + 1
  | .agg parts => uptoBulkAll parts + 1
  | .iface _ d => uptoBulk d + 1
  | .map entries => uptoBulkEntries entries + 1
  | .held _ => 1
def uptoBulkAll {H : Type} : List (DataW H) → Nat
  | [] => 0
  | d :: r => uptoBulk d + uptoBulkAll r
def uptoBulkEntries {H : Type} : List (Lit × DataW H) → Nat
  | [] => 0
  | x :: r => uptoBulkEntry x + uptoBulkEntries r
def uptoBulkEntry {H : Type} : Lit × DataW H → Nat
  | (.string bytes, d) => bytes.length + uptoBulk d + 1
  | (_, d) => uptoBulk d + 1
 end
def uptoSmall : (H : Type) → List (DataW H) → Bool := fun _ ds => decide (uptoBulkAll ds ≤ 1048576)
def OpenSpec.upto (s : _root_.Go.ChangeSpec) : _root_.Go.OpenSpec := { _root_.Go.OpenSpec.ofChange s with cond := some uptoSmall }

/-- 'selvagelaw14.AllocSlots', WHERE WHAT IT READS IS OF BULK AT MOST 1048576: true; the input reads as it did. -/
def allocSlotsUptoRow : OpenClaim := { program := "ytgjibbicplbgbaa", sum := "e0a9b8ab8fb134b02117dcce9c77e193644c90db46390e6ebf0946827d7e1a1b", func := "selvage/selvagelaw14.AllocSlots", spec := "allocSlots", inPlace := ["math.Float64bits"], unfollowed := true, recurses := true, apart := false, narrowed := true }
def AllocSlotsUptoSaid : Prop := allocSlotsUptoRow.holds Try.pinned (OpenSpec.upto allocSlotsSpec)

/-- 'selvagelaw14.AllocAll', WHERE WHAT IT READS IS OF BULK AT MOST 1048576: true; the input reads as it did. -/
def allocAllUptoRow : OpenClaim := { program := "ytgjibbicplbgbaa", sum := "e0a9b8ab8fb134b02117dcce9c77e193644c90db46390e6ebf0946827d7e1a1b", func := "selvage/selvagelaw14.AllocAll", spec := "allocAll", inPlace := ["math.Float64bits"], unfollowed := true, recurses := true, apart := false, narrowed := true }
def AllocAllUptoSaid : Prop := allocAllUptoRow.holds Try.pinned (OpenSpec.upto allocAllSpec)

/-- 'selvagelaw14.AllocApart', WHERE WHAT IT READS IS OF BULK AT MOST 1048576: true; the input reads as it did. -/
def allocApartUptoRow : OpenClaim := { program := "ytgjibbicplbgbaa", sum := "e0a9b8ab8fb134b02117dcce9c77e193644c90db46390e6ebf0946827d7e1a1b", func := "selvage/selvagelaw14.AllocApart", spec := "allocApart", inPlace := ["math.Float64bits"], unfollowed := true, recurses := true, apart := false, narrowed := true }
def AllocApartUptoSaid : Prop := allocApartUptoRow.holds Try.pinned (OpenSpec.upto allocApartSpec)

/-- 'selvagelaw14.AllocSpans', WHERE WHAT IT READS IS OF BULK AT MOST 1048576: true; the input reads as it did. -/
def allocSpansUptoRow : OpenClaim := { program := "ytgjibbicplbgbaa", sum := "e0a9b8ab8fb134b02117dcce9c77e193644c90db46390e6ebf0946827d7e1a1b", func := "selvage/selvagelaw14.AllocSpans", spec := "allocSpans", inPlace := ["math.Float64bits"], unfollowed := true, recurses := true, apart := false, narrowed := true }
def AllocSpansUptoSaid : Prop := allocSpansUptoRow.holds Try.pinned (OpenSpec.upto allocSpansSpec)

/-- 'selvagelaw14.AllocEnough', WHERE WHAT IT READS IS OF BULK AT MOST 1048576: true; the input reads as it did. -/
def allocEnoughUptoRow : OpenClaim := { program := "ytgjibbicplbgbaa", sum := "e0a9b8ab8fb134b02117dcce9c77e193644c90db46390e6ebf0946827d7e1a1b", func := "selvage/selvagelaw14.AllocEnough", spec := "allocEnough", inPlace := ["math.Float64bits"], unfollowed := true, recurses := true, apart := false, narrowed := true }
def AllocEnoughUptoSaid : Prop := allocEnoughUptoRow.holds Try.pinned (OpenSpec.upto allocEnoughSpec)

end Rows
end Go.Proofs.Ytgjibbicplbgbaa
