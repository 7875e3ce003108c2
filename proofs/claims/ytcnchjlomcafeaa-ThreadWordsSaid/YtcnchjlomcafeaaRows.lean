/-
  No cell of these rows narrows 'for every input' (looked for: loops, veiled, ifaces, maps, wideKeys, modest, calm, conditions, laid).
  DERIVED. THE GIVEN ROWS OF THIS SEAT. 6 by the template 'for every input the law returns true; each argument reads behind the call as it read before'; 0 by the template 'total and deterministic' (their statements: YtcnchjlomcafeaaTotals.lean).
  GIVEN WITH THE SEED: the statements are not yours to turn. If you find one false, say at which input.
  Laid BY PROGRAM, IN A SANDBOX (cutbox-rows.mjs): the forced cells as the released guide's own fill.sh prints them over the translation ca4af645be0be401… (all of the seat's roots in one cut). By AI agents, Wed Nov 11 2026. No macro, syntax, notation, axiom, sorry.
-/
import Derived.Test.YtcnchjlomcafeaaChecked
import GoSem.Claim
import GoSem.ClaimJoined
import GoSem.ClaimMapViews
import Derived.JoinedTies
import Derived.KernelRfl
namespace Go.Proofs.Ytcnchjlomcafeaa
/- THE CELL 'sum', in the pinned program and in every row, IS THE sha256 OF THE DUMP (.gsa) THAT YtcnchjlomcafeaaProg.lean LOADS. Nothing in Lean hashes anything: it is a label: what it is worth is what the hold of that sum in a sandbox is worth. -/
noncomputable def Try.pinned : Pinned := { name := "ytcnchjlomcafeaa", sum := "ca4af645be0be4018704143ac287b5875a84f7720d055d0e57da91353ab45fb5", checked := Try.checked }
namespace Rows
def none {H : Type} : Left H := { results := [], args := [] }

/-- 'selvagelaw16.ThreadRuns': WHATEVER THE INPUT: true; the input reads as it did. -/
def threadRunsSpec : ChangeSpec := { name := "threadRuns", fn := fun _ => fun
  | [d1, d2, d3, d4] => { results := [.lit (.bool true)], args := [d1, d2, d3, d4] }
  | _ => none }
def threadRunsRow : OpenClaim := { program := "ytcnchjlomcafeaa", sum := "ca4af645be0be4018704143ac287b5875a84f7720d055d0e57da91353ab45fb5", func := "selvage/selvagelaw16.ThreadRuns", spec := "threadRuns", unfollowed := true, recurses := true, apart := false }
def ThreadRunsSaid : Prop := threadRunsRow.holds Try.pinned (OpenSpec.ofChange threadRunsSpec)

/-- ITS FALSE NEIGHBOUR: 'it returns false'. Refute it at one input. -/
def threadRunsWrong : ChangeSpec := { name := "threadRuns", fn := fun _ => fun
  | [d1, d2, d3, d4] => { results := [.lit (.bool false)], args := [d1, d2, d3, d4] }
  | _ => none }
def ThreadRunsWrongFalsely : Prop := threadRunsRow.holds Try.pinned (OpenSpec.ofChange threadRunsWrong)

/-- 'selvagelaw16.ThreadHangs': WHATEVER THE INPUT: true; the input reads as it did. -/
def threadHangsSpec : ChangeSpec := { name := "threadHangs", fn := fun _ => fun
  | [d1, d2, d3, d4] => { results := [.lit (.bool true)], args := [d1, d2, d3, d4] }
  | _ => none }
def threadHangsRow : OpenClaim := { program := "ytcnchjlomcafeaa", sum := "ca4af645be0be4018704143ac287b5875a84f7720d055d0e57da91353ab45fb5", func := "selvage/selvagelaw16.ThreadHangs", spec := "threadHangs", unfollowed := true, recurses := true, apart := false }
def ThreadHangsSaid : Prop := threadHangsRow.holds Try.pinned (OpenSpec.ofChange threadHangsSpec)

/-- ITS FALSE NEIGHBOUR: 'it returns false'. Refute it at one input. -/
def threadHangsWrong : ChangeSpec := { name := "threadHangs", fn := fun _ => fun
  | [d1, d2, d3, d4] => { results := [.lit (.bool false)], args := [d1, d2, d3, d4] }
  | _ => none }
def ThreadHangsWrongFalsely : Prop := threadHangsRow.holds Try.pinned (OpenSpec.ofChange threadHangsWrong)

/-- 'selvagelaw16.ThreadMore': WHATEVER THE INPUT: true; the input reads as it did. -/
def threadMoreSpec : ChangeSpec := { name := "threadMore", fn := fun _ => fun
  | [d1, d2, d3, d4, d5] => { results := [.lit (.bool true)], args := [d1, d2, d3, d4, d5] }
  | _ => none }
def threadMoreRow : OpenClaim := { program := "ytcnchjlomcafeaa", sum := "ca4af645be0be4018704143ac287b5875a84f7720d055d0e57da91353ab45fb5", func := "selvage/selvagelaw16.ThreadMore", spec := "threadMore", unfollowed := true, recurses := true, apart := false }
def ThreadMoreSaid : Prop := threadMoreRow.holds Try.pinned (OpenSpec.ofChange threadMoreSpec)

/-- ITS FALSE NEIGHBOUR: 'it returns false'. Refute it at one input. -/
def threadMoreWrong : ChangeSpec := { name := "threadMore", fn := fun _ => fun
  | [d1, d2, d3, d4, d5] => { results := [.lit (.bool false)], args := [d1, d2, d3, d4, d5] }
  | _ => none }
def ThreadMoreWrongFalsely : Prop := threadMoreRow.holds Try.pinned (OpenSpec.ofChange threadMoreWrong)

/-- 'selvagelaw16.ThreadTail': WHATEVER THE INPUT: true; the input reads as it did. -/
def threadTailSpec : ChangeSpec := { name := "threadTail", fn := fun _ => fun
  | [d1, d2, d3, d4, d5] => { results := [.lit (.bool true)], args := [d1, d2, d3, d4, d5] }
  | _ => none }
def threadTailRow : OpenClaim := { program := "ytcnchjlomcafeaa", sum := "ca4af645be0be4018704143ac287b5875a84f7720d055d0e57da91353ab45fb5", func := "selvage/selvagelaw16.ThreadTail", spec := "threadTail", unfollowed := true, recurses := true, apart := false }
def ThreadTailSaid : Prop := threadTailRow.holds Try.pinned (OpenSpec.ofChange threadTailSpec)

/-- ITS FALSE NEIGHBOUR: 'it returns false'. Refute it at one input. -/
def threadTailWrong : ChangeSpec := { name := "threadTail", fn := fun _ => fun
  | [d1, d2, d3, d4, d5] => { results := [.lit (.bool false)], args := [d1, d2, d3, d4, d5] }
  | _ => none }
def ThreadTailWrongFalsely : Prop := threadTailRow.holds Try.pinned (OpenSpec.ofChange threadTailWrong)

/-- 'selvagelaw16.ThreadActs': WHATEVER THE INPUT: true; the input reads as it did. -/
def threadActsSpec : ChangeSpec := { name := "threadActs", fn := fun _ => fun
  | [d1, d2] => { results := [.lit (.bool true)], args := [d1, d2] }
  | _ => none }
def threadActsRow : OpenClaim := { program := "ytcnchjlomcafeaa", sum := "ca4af645be0be4018704143ac287b5875a84f7720d055d0e57da91353ab45fb5", func := "selvage/selvagelaw16.ThreadActs", spec := "threadActs", unfollowed := true, recurses := true, apart := false }
def ThreadActsSaid : Prop := threadActsRow.holds Try.pinned (OpenSpec.ofChange threadActsSpec)

/-- ITS FALSE NEIGHBOUR: 'it returns false'. Refute it at one input. -/
def threadActsWrong : ChangeSpec := { name := "threadActs", fn := fun _ => fun
  | [d1, d2] => { results := [.lit (.bool false)], args := [d1, d2] }
  | _ => none }
def ThreadActsWrongFalsely : Prop := threadActsRow.holds Try.pinned (OpenSpec.ofChange threadActsWrong)

/-- 'selvagelaw16.ThreadWords': WHATEVER THE INPUT: true; the input reads as it did. -/
def threadWordsSpec : ChangeSpec := { name := "threadWords", fn := fun _ => fun
  | [d1, d2, d3, d4] => { results := [.lit (.bool true)], args := [d1, d2, d3, d4] }
  | _ => none }
def threadWordsRow : OpenClaim := { program := "ytcnchjlomcafeaa", sum := "ca4af645be0be4018704143ac287b5875a84f7720d055d0e57da91353ab45fb5", func := "selvage/selvagelaw16.ThreadWords", spec := "threadWords", unfollowed := true, recurses := true, apart := false }
def ThreadWordsSaid : Prop := threadWordsRow.holds Try.pinned (OpenSpec.ofChange threadWordsSpec)

/-- ITS FALSE NEIGHBOUR: 'it returns false'. Refute it at one input. -/
def threadWordsWrong : ChangeSpec := { name := "threadWords", fn := fun _ => fun
  | [d1, d2, d3, d4] => { results := [.lit (.bool false)], args := [d1, d2, d3, d4] }
  | _ => none }
def ThreadWordsWrongFalsely : Prop := threadWordsRow.holds Try.pinned (OpenSpec.ofChange threadWordsWrong)

/- THE SECOND FORM. 'bulk': how many values and letters a reading holds, each counted each time it is reached (what is shared counts as often as it is met; a slice's spare places count too). A statement '..UptoSaid' is the law's where the arguments, and the package variables that the reading takes, are together of bulk at most 1048576: NARROWER than '..Said'. Prove '..Said' where nothing that the law and all that it calls make is longer than what came in: it says more and counts as full. Else prove '..UptoSaid'. A law counts once. -/
mutual
def uptoBulk {H : Type} : DataW H → Nat
  | .lit (.string bytes) => bytes.length + 1
  | .lit _ => 1
  | .nil => 1
  | .ptr d => uptoBulk d + 1
  | .slice elems spare => uptoBulkAll elems + uptoBulkAll spare + 1
  | .agg parts => uptoBulkAll parts + 1
  | .iface _ d => uptoBulk d + 1
  | .map entries => uptoBulkEntries entries + 1
  | .held _ => 1
def uptoBulkAll {H : Type} : List (DataW H) → Nat
  | [] => 0
  | d :: r => uptoBulk d + uptoBulkAll r
def uptoBulkEntries {H : Type} : List (Lit × DataW H) → Nat
  | [] => 0
  | x :: r => uptoBulkEntry x + uptoBulkEntries r
def uptoBulkEntry {H : Type} : Lit × DataW H → Nat
  | (.string bytes, d) => bytes.length + uptoBulk d + 1
  | (_, d) => uptoBulk d + 1
 end
def uptoSmall : (H : Type) → List (DataW H) → Bool := fun _ ds => decide (uptoBulkAll ds ≤ 1048576)
def OpenSpec.upto (s : _root_.Go.ChangeSpec) : _root_.Go.OpenSpec := { _root_.Go.OpenSpec.ofChange s with cond := some uptoSmall }

/-- 'selvagelaw16.ThreadRuns', WHERE WHAT IT READS IS OF BULK AT MOST 1048576: true; the input reads as it did. -/
def threadRunsUptoRow : OpenClaim := { program := "ytcnchjlomcafeaa", sum := "ca4af645be0be4018704143ac287b5875a84f7720d055d0e57da91353ab45fb5", func := "selvage/selvagelaw16.ThreadRuns", spec := "threadRuns", unfollowed := true, recurses := true, apart := false, narrowed := true }
def ThreadRunsUptoSaid : Prop := threadRunsUptoRow.holds Try.pinned (OpenSpec.upto threadRunsSpec)

/-- 'selvagelaw16.ThreadHangs', WHERE WHAT IT READS IS OF BULK AT MOST 1048576: true; the input reads as it did. -/
def threadHangsUptoRow : OpenClaim := { program := "ytcnchjlomcafeaa", sum := "ca4af645be0be4018704143ac287b5875a84f7720d055d0e57da91353ab45fb5", func := "selvage/selvagelaw16.ThreadHangs", spec := "threadHangs", unfollowed := true, recurses := true, apart := false, narrowed := true }
def ThreadHangsUptoSaid : Prop := threadHangsUptoRow.holds Try.pinned (OpenSpec.upto threadHangsSpec)

/-- 'selvagelaw16.ThreadMore', WHERE WHAT IT READS IS OF BULK AT MOST 1048576: true; the input reads as it did. -/
def threadMoreUptoRow : OpenClaim := { program := "ytcnchjlomcafeaa", sum := "ca4af645be0be4018704143ac287b5875a84f7720d055d0e57da91353ab45fb5", func := "selvage/selvagelaw16.ThreadMore", spec := "threadMore", unfollowed := true, recurses := true, apart := false, narrowed := true }
def ThreadMoreUptoSaid : Prop := threadMoreUptoRow.holds Try.pinned (OpenSpec.upto threadMoreSpec)

/-- 'selvagelaw16.ThreadTail', WHERE WHAT IT READS IS OF BULK AT MOST 1048576: true; the input reads as it did. -/
def threadTailUptoRow : OpenClaim := { program := "ytcnchjlomcafeaa", sum := "ca4af645be0be4018704143ac287b5875a84f7720d055d0e57da91353ab45fb5", func := "selvage/selvagelaw16.ThreadTail", spec := "threadTail", unfollowed := true, recurses := true, apart := false, narrowed := true }
def ThreadTailUptoSaid : Prop := threadTailUptoRow.holds Try.pinned (OpenSpec.upto threadTailSpec)

/-- 'selvagelaw16.ThreadActs', WHERE WHAT IT READS IS OF BULK AT MOST 1048576: true; the input reads as it did. -/
def threadActsUptoRow : OpenClaim := { program := "ytcnchjlomcafeaa", sum := "ca4af645be0be4018704143ac287b5875a84f7720d055d0e57da91353ab45fb5", func := "selvage/selvagelaw16.ThreadActs", spec := "threadActs", unfollowed := true, recurses := true, apart := false, narrowed := true }
def ThreadActsUptoSaid : Prop := threadActsUptoRow.holds Try.pinned (OpenSpec.upto threadActsSpec)

/-- 'selvagelaw16.ThreadWords', WHERE WHAT IT READS IS OF BULK AT MOST 1048576: true; the input reads as it did. -/
def threadWordsUptoRow : OpenClaim := { program := "ytcnchjlomcafeaa", sum := "ca4af645be0be4018704143ac287b5875a84f7720d055d0e57da91353ab45fb5", func := "selvage/selvagelaw16.ThreadWords", spec := "threadWords", unfollowed := true, recurses := true, apart := false, narrowed := true }
def ThreadWordsUptoSaid : Prop := threadWordsUptoRow.holds Try.pinned (OpenSpec.upto threadWordsSpec)

end Rows
end Go.Proofs.Ytcnchjlomcafeaa
