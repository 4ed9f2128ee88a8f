/-
  No cell of these rows narrows 'for every input' (looked for: loops, veiled, ifaces, maps, wideKeys, modest, calm, conditions, laid).
  DERIVED. THE GIVEN ROWS OF THIS SEAT. 9 by the template 'for every input the law returns true; each argument reads behind the call as it read before'; 0 by the template 'total and deterministic' (their statements: YtmbngahboaljpaaTotals.lean).
  GIVEN WITH THE SEED: the statements are not yours to turn. If you find one false, say at which input.
  Laid BY PROGRAM, IN A SANDBOX (cutbox-rows.mjs): the forced cells as the released guide's own fill.sh prints them over the translation 7d824a8f6bc86543… (all of the seat's roots in one cut). By AI agents, Wed Nov 11 2026. No macro, syntax, notation, axiom, sorry.
-/
import Derived.Test.YtmbngahboaljpaaChecked
import GoSem.Claim
import GoSem.ClaimJoined
import GoSem.ClaimMapViews
import Derived.JoinedTies
import Derived.KernelRfl
namespace Go.Proofs.Ytmbngahboaljpaa
/- THE CELL 'sum', in the pinned program and in every row, IS THE sha256 OF THE DUMP (.gsa) THAT YtmbngahboaljpaaProg.lean LOADS. Nothing in Lean hashes anything: it is a label: what it is worth is what the hold of that sum in a sandbox is worth. -/
noncomputable def Try.pinned : Pinned := { name := "ytmbngahboaljpaa", sum := "7d824a8f6bc865435494751892472be750009f94a50cc163af9fcff4cd72cef5", checked := Try.checked }
namespace Rows
def none {H : Type} : Left H := { results := [], args := [] }

/-- 'lethelaw07.TreeHeaps': WHATEVER THE INPUT: true; the input reads as it did. -/
def treeHeapsSpec : ChangeSpec := { name := "treeHeaps", fn := fun _ => fun
  | [d1, d2] => { results := [.lit (.bool true)], args := [d1, d2] }
  | _ => none }
def treeHeapsRow : OpenClaim := { program := "ytmbngahboaljpaa", sum := "7d824a8f6bc865435494751892472be750009f94a50cc163af9fcff4cd72cef5", func := "lethe/lethelaw07.TreeHeaps", spec := "treeHeaps", apart := false }
def TreeHeapsSaid : Prop := treeHeapsRow.holds Try.pinned (OpenSpec.ofChange treeHeapsSpec)

/-- ITS FALSE NEIGHBOUR: 'it returns false'. Refute it at one input. -/
def treeHeapsWrong : ChangeSpec := { name := "treeHeaps", fn := fun _ => fun
  | [d1, d2] => { results := [.lit (.bool false)], args := [d1, d2] }
  | _ => none }
def TreeHeapsWrongFalsely : Prop := treeHeapsRow.holds Try.pinned (OpenSpec.ofChange treeHeapsWrong)

/-- 'lethelaw07.TreeOwn': WHATEVER THE INPUT: true; the input reads as it did. -/
def treeOwnSpec : ChangeSpec := { name := "treeOwn", fn := fun _ => fun
  | [d] => { results := [.lit (.bool true)], args := [d] }
  | _ => none }
def treeOwnRow : OpenClaim := { program := "ytmbngahboaljpaa", sum := "7d824a8f6bc865435494751892472be750009f94a50cc163af9fcff4cd72cef5", func := "lethe/lethelaw07.TreeOwn", spec := "treeOwn", inPlace := ["slices.overlaps[lethe/api.Entry]", "slices.overlaps[lethe/api.Kid]"], unfollowed := true, recurses := true, apart := false }
def TreeOwnSaid : Prop := treeOwnRow.holds Try.pinned (OpenSpec.ofChange treeOwnSpec)

/-- ITS FALSE NEIGHBOUR: 'it returns false'. Refute it at one input. -/
def treeOwnWrong : ChangeSpec := { name := "treeOwn", fn := fun _ => fun
  | [d] => { results := [.lit (.bool false)], args := [d] }
  | _ => none }
def TreeOwnWrongFalsely : Prop := treeOwnRow.holds Try.pinned (OpenSpec.ofChange treeOwnWrong)

/-- 'lethelaw07.TreeMoves': WHATEVER THE INPUT: true; the input reads as it did. -/
def treeMovesSpec : ChangeSpec := { name := "treeMoves", fn := fun _ => fun
  | [d1, d2] => { results := [.lit (.bool true)], args := [d1, d2] }
  | _ => none }
def treeMovesRow : OpenClaim := { program := "ytmbngahboaljpaa", sum := "7d824a8f6bc865435494751892472be750009f94a50cc163af9fcff4cd72cef5", func := "lethe/lethelaw07.TreeMoves", spec := "treeMoves", inPlace := ["slices.overlaps[lethe/api.Entry]", "slices.overlaps[lethe/api.Kid]"], unfollowed := true, recurses := true, apart := false }
def TreeMovesSaid : Prop := treeMovesRow.holds Try.pinned (OpenSpec.ofChange treeMovesSpec)

/-- ITS FALSE NEIGHBOUR: 'it returns false'. Refute it at one input. -/
def treeMovesWrong : ChangeSpec := { name := "treeMoves", fn := fun _ => fun
  | [d1, d2] => { results := [.lit (.bool false)], args := [d1, d2] }
  | _ => none }
def TreeMovesWrongFalsely : Prop := treeMovesRow.holds Try.pinned (OpenSpec.ofChange treeMovesWrong)

/-- 'lethelaw07.TreeShapes': WHATEVER THE INPUT: true; the input reads as it did. -/
def treeShapesSpec : ChangeSpec := { name := "treeShapes", fn := fun _ => fun
  | [d] => { results := [.lit (.bool true)], args := [d] }
  | _ => none }
def treeShapesRow : OpenClaim := { program := "ytmbngahboaljpaa", sum := "7d824a8f6bc865435494751892472be750009f94a50cc163af9fcff4cd72cef5", func := "lethe/lethelaw07.TreeShapes", spec := "treeShapes", inPlace := ["slices.overlaps[lethe/api.Kid]", "slices.overlaps[lethe/api.Entry]"], unfollowed := true, recurses := true, apart := false }
def TreeShapesSaid : Prop := treeShapesRow.holds Try.pinned (OpenSpec.ofChange treeShapesSpec)

/-- ITS FALSE NEIGHBOUR: 'it returns false'. Refute it at one input. -/
def treeShapesWrong : ChangeSpec := { name := "treeShapes", fn := fun _ => fun
  | [d] => { results := [.lit (.bool false)], args := [d] }
  | _ => none }
def TreeShapesWrongFalsely : Prop := treeShapesRow.holds Try.pinned (OpenSpec.ofChange treeShapesWrong)

/-- 'lethelaw07.TreeFresh': WHATEVER THE INPUT: true; the input reads as it did. -/
def treeFreshSpec : ChangeSpec := { name := "treeFresh", fn := fun _ => fun
  | [d] => { results := [.lit (.bool true)], args := [d] }
  | _ => none }
def treeFreshRow : OpenClaim := { program := "ytmbngahboaljpaa", sum := "7d824a8f6bc865435494751892472be750009f94a50cc163af9fcff4cd72cef5", func := "lethe/lethelaw07.TreeFresh", spec := "treeFresh", inPlace := ["slices.overlaps[lethe/api.Kid]", "slices.overlaps[lethe/api.Entry]"], unfollowed := true, recurses := true, apart := false }
def TreeFreshSaid : Prop := treeFreshRow.holds Try.pinned (OpenSpec.ofChange treeFreshSpec)

/-- ITS FALSE NEIGHBOUR: 'it returns false'. Refute it at one input. -/
def treeFreshWrong : ChangeSpec := { name := "treeFresh", fn := fun _ => fun
  | [d] => { results := [.lit (.bool false)], args := [d] }
  | _ => none }
def TreeFreshWrongFalsely : Prop := treeFreshRow.holds Try.pinned (OpenSpec.ofChange treeFreshWrong)

/-- 'lethelaw07.TreeUndo': WHATEVER THE INPUT: true; the input reads as it did. -/
def treeUndoSpec : ChangeSpec := { name := "treeUndo", fn := fun _ => fun
  | [d1, d2] => { results := [.lit (.bool true)], args := [d1, d2] }
  | _ => none }
def treeUndoRow : OpenClaim := { program := "ytmbngahboaljpaa", sum := "7d824a8f6bc865435494751892472be750009f94a50cc163af9fcff4cd72cef5", func := "lethe/lethelaw07.TreeUndo", spec := "treeUndo", inPlace := ["slices.overlaps[lethe/api.Entry]", "slices.overlaps[lethe/api.Kid]"], unfollowed := true, recurses := true, apart := false }
def TreeUndoSaid : Prop := treeUndoRow.holds Try.pinned (OpenSpec.ofChange treeUndoSpec)

/-- ITS FALSE NEIGHBOUR: 'it returns false'. Refute it at one input. -/
def treeUndoWrong : ChangeSpec := { name := "treeUndo", fn := fun _ => fun
  | [d1, d2] => { results := [.lit (.bool false)], args := [d1, d2] }
  | _ => none }
def TreeUndoWrongFalsely : Prop := treeUndoRow.holds Try.pinned (OpenSpec.ofChange treeUndoWrong)

/-- 'lethelaw07.TreeMap': WHATEVER THE INPUT: true; the input reads as it did. -/
def treeMapSpec : ChangeSpec := { name := "treeMap", fn := fun _ => fun
  | [d] => { results := [.lit (.bool true)], args := [d] }
  | _ => none }
def treeMapRow : OpenClaim := { program := "ytmbngahboaljpaa", sum := "7d824a8f6bc865435494751892472be750009f94a50cc163af9fcff4cd72cef5", func := "lethe/lethelaw07.TreeMap", spec := "treeMap", inPlace := ["slices.overlaps[lethe/api.Kid]", "slices.overlaps[lethe/api.Entry]"], unfollowed := true, recurses := true, apart := false }
def TreeMapSaid : Prop := treeMapRow.holds Try.pinned (OpenSpec.ofChange treeMapSpec)

/-- ITS FALSE NEIGHBOUR: 'it returns false'. Refute it at one input. -/
def treeMapWrong : ChangeSpec := { name := "treeMap", fn := fun _ => fun
  | [d] => { results := [.lit (.bool false)], args := [d] }
  | _ => none }
def TreeMapWrongFalsely : Prop := treeMapRow.holds Try.pinned (OpenSpec.ofChange treeMapWrong)

/-- 'lethelaw07.TreeLost': WHATEVER THE INPUT: true; the input reads as it did. -/
def treeLostSpec : ChangeSpec := { name := "treeLost", fn := fun _ => fun
  | [d1, d2, d3] => { results := [.lit (.bool true)], args := [d1, d2, d3] }
  | _ => none }
def treeLostRow : OpenClaim := { program := "ytmbngahboaljpaa", sum := "7d824a8f6bc865435494751892472be750009f94a50cc163af9fcff4cd72cef5", func := "lethe/lethelaw07.TreeLost", spec := "treeLost", inPlace := ["slices.overlaps[lethe/api.Entry]", "slices.overlaps[lethe/api.Kid]"], unfollowed := true, recurses := true, apart := false }
def TreeLostSaid : Prop := treeLostRow.holds Try.pinned (OpenSpec.ofChange treeLostSpec)

/-- ITS FALSE NEIGHBOUR: 'it returns false'. Refute it at one input. -/
def treeLostWrong : ChangeSpec := { name := "treeLost", fn := fun _ => fun
  | [d1, d2, d3] => { results := [.lit (.bool false)], args := [d1, d2, d3] }
  | _ => none }
def TreeLostWrongFalsely : Prop := treeLostRow.holds Try.pinned (OpenSpec.ofChange treeLostWrong)

/-- 'lethelaw07.TreePlays': WHATEVER THE INPUT: true; the input reads as it did. -/
def treePlaysSpec : ChangeSpec := { name := "treePlays", fn := fun _ => fun
  | [d] => { results := [.lit (.bool true)], args := [d] }
  | _ => none }
def treePlaysRow : OpenClaim := { program := "ytmbngahboaljpaa", sum := "7d824a8f6bc865435494751892472be750009f94a50cc163af9fcff4cd72cef5", func := "lethe/lethelaw07.TreePlays", spec := "treePlays", inPlace := ["slices.overlaps[lethe/api.Kid]", "slices.overlaps[lethe/api.Entry]"], unfollowed := true, recurses := true, apart := false }
def TreePlaysSaid : Prop := treePlaysRow.holds Try.pinned (OpenSpec.ofChange treePlaysSpec)

/-- ITS FALSE NEIGHBOUR: 'it returns false'. Refute it at one input. -/
def treePlaysWrong : ChangeSpec := { name := "treePlays", fn := fun _ => fun
  | [d] => { results := [.lit (.bool false)], args := [d] }
  | _ => none }
def TreePlaysWrongFalsely : Prop := treePlaysRow.holds Try.pinned (OpenSpec.ofChange treePlaysWrong)

/- THE SECOND FORM. 'bulk': how many values and letters a reading holds, each counted each time it is reached (what is shared counts as often as it is met; a slice's spare places count too). A statement '..UptoSaid' is the law's where the arguments, and the package variables that the reading takes, are together of bulk at most 1048576: NARROWER than '..Said'. Prove '..Said' where nothing that the law and all that it calls make is longer than what came in: it says more and counts as full. Else prove '..UptoSaid'. A law counts once. -/
mutual
def uptoBulk {H : Type} : DataW H → Nat
  | .lit (.string bytes) => bytes.length + 1
  | .lit _ => 1
  | .nil => 1
  | .ptr d => uptoBulk d + 1
  | .slice elems spare => uptoBulkAll elems + uptoBulkAll spare + 1
  | .agg parts => uptoBulkAll parts + 1
  | .iface _ d => uptoBulk d + 1
  | .map entries => uptoBulkEntries entries + 1
  | .held _ => 1
def uptoBulkAll {H : Type} : List (DataW H) → Nat
  | [] => 0
  | d :: r => uptoBulk d + uptoBulkAll r
def uptoBulkEntries {H : Type} : List (Lit × DataW H) → Nat
  | [] => 0
  | x :: r => uptoBulkEntry x + uptoBulkEntries r
def uptoBulkEntry {H : Type} : Lit × DataW H → Nat
  | (.string bytes, d) => bytes.length + uptoBulk d + 1
  | (_, d) => uptoBulk d + 1
 end
def uptoSmall : (H : Type) → List (DataW H) → Bool := fun _ ds => decide (uptoBulkAll ds ≤ 1048576)
def OpenSpec.upto (s : _root_.Go.ChangeSpec) : _root_.Go.OpenSpec := { _root_.Go.OpenSpec.ofChange s with cond := some uptoSmall }

/-- 'lethelaw07.TreeHeaps', WHERE WHAT IT READS IS OF BULK AT MOST 1048576: true; the input reads as it did. -/
def treeHeapsUptoRow : OpenClaim := { program := "ytmbngahboaljpaa", sum := "7d824a8f6bc865435494751892472be750009f94a50cc163af9fcff4cd72cef5", func := "lethe/lethelaw07.TreeHeaps", spec := "treeHeaps", apart := false, narrowed := true }
def TreeHeapsUptoSaid : Prop := treeHeapsUptoRow.holds Try.pinned (OpenSpec.upto treeHeapsSpec)

/-- 'lethelaw07.TreeOwn', WHERE WHAT IT READS IS OF BULK AT MOST 1048576: true; the input reads as it did. -/
def treeOwnUptoRow : OpenClaim := { program := "ytmbngahboaljpaa", sum := "7d824a8f6bc865435494751892472be750009f94a50cc163af9fcff4cd72cef5", func := "lethe/lethelaw07.TreeOwn", spec := "treeOwn", inPlace := ["slices.overlaps[lethe/api.Entry]", "slices.overlaps[lethe/api.Kid]"], unfollowed := true, recurses := true, apart := false, narrowed := true }
def TreeOwnUptoSaid : Prop := treeOwnUptoRow.holds Try.pinned (OpenSpec.upto treeOwnSpec)

/-- 'lethelaw07.TreeMoves', WHERE WHAT IT READS IS OF BULK AT MOST 1048576: true; the input reads as it did. -/
def treeMovesUptoRow : OpenClaim := { program := "ytmbngahboaljpaa", sum := "7d824a8f6bc865435494751892472be750009f94a50cc163af9fcff4cd72cef5", func := "lethe/lethelaw07.TreeMoves", spec := "treeMoves", inPlace := ["slices.overlaps[lethe/api.Entry]", "slices.overlaps[lethe/api.Kid]"], unfollowed := true, recurses := true, apart := false, narrowed := true }
def TreeMovesUptoSaid : Prop := treeMovesUptoRow.holds Try.pinned (OpenSpec.upto treeMovesSpec)

/-- 'lethelaw07.TreeShapes', WHERE WHAT IT READS IS OF BULK AT MOST 1048576: true; the input reads as it did. -/
def treeShapesUptoRow : OpenClaim := { program := "ytmbngahboaljpaa", sum := "7d824a8f6bc865435494751892472be750009f94a50cc163af9fcff4cd72cef5", func := "lethe/lethelaw07.TreeShapes", spec := "treeShapes", inPlace := ["slices.overlaps[lethe/api.Kid]", "slices.overlaps[lethe/api.Entry]"], unfollowed := true, recurses := true, apart := false, narrowed := true }
def TreeShapesUptoSaid : Prop := treeShapesUptoRow.holds Try.pinned (OpenSpec.upto treeShapesSpec)

/-- 'lethelaw07.TreeFresh', WHERE WHAT IT READS IS OF BULK AT MOST 1048576: true; the input reads as it did. -/
def treeFreshUptoRow : OpenClaim := { program := "ytmbngahboaljpaa", sum := "7d824a8f6bc865435494751892472be750009f94a50cc163af9fcff4cd72cef5", func := "lethe/lethelaw07.TreeFresh", spec := "treeFresh", inPlace := ["slices.overlaps[lethe/api.Kid]", "slices.overlaps[lethe/api.Entry]"], unfollowed := true, recurses := true, apart := false, narrowed := true }
def TreeFreshUptoSaid : Prop := treeFreshUptoRow.holds Try.pinned (OpenSpec.upto treeFreshSpec)

/-- 'lethelaw07.TreeUndo', WHERE WHAT IT READS IS OF BULK AT MOST 1048576: true; the input reads as it did. -/
def treeUndoUptoRow : OpenClaim := { program := "ytmbngahboaljpaa", sum := "7d824a8f6bc865435494751892472be750009f94a50cc163af9fcff4cd72cef5", func := "lethe/lethelaw07.TreeUndo", spec := "treeUndo", inPlace := ["slices.overlaps[lethe/api.Entry]", "slices.overlaps[lethe/api.Kid]"], unfollowed := true, recurses := true, apart := false, narrowed := true }
def TreeUndoUptoSaid : Prop := treeUndoUptoRow.holds Try.pinned (OpenSpec.upto treeUndoSpec)

/-- 'lethelaw07.TreeMap', WHERE WHAT IT READS IS OF BULK AT MOST 1048576: true; the input reads as it did. -/
def treeMapUptoRow : OpenClaim := { program := "ytmbngahboaljpaa", sum := "7d824a8f6bc865435494751892472be750009f94a50cc163af9fcff4cd72cef5", func := "lethe/lethelaw07.TreeMap", spec := "treeMap", inPlace := ["slices.overlaps[lethe/api.Kid]", "slices.overlaps[lethe/api.Entry]"], unfollowed := true, recurses := true, apart := false, narrowed := true }
def TreeMapUptoSaid : Prop := treeMapUptoRow.holds Try.pinned (OpenSpec.upto treeMapSpec)

/-- 'lethelaw07.TreeLost', WHERE WHAT IT READS IS OF BULK AT MOST 1048576: true; the input reads as it did. -/
def treeLostUptoRow : OpenClaim := { program := "ytmbngahboaljpaa", sum := "7d824a8f6bc865435494751892472be750009f94a50cc163af9fcff4cd72cef5", func := "lethe/lethelaw07.TreeLost", spec := "treeLost", inPlace := ["slices.overlaps[lethe/api.Entry]", "slices.overlaps[lethe/api.Kid]"], unfollowed := true, recurses := true, apart := false, narrowed := true }
def TreeLostUptoSaid : Prop := treeLostUptoRow.holds Try.pinned (OpenSpec.upto treeLostSpec)

/-- 'lethelaw07.TreePlays', WHERE WHAT IT READS IS OF BULK AT MOST 1048576: true; the input reads as it did. -/
def treePlaysUptoRow : OpenClaim := { program := "ytmbngahboaljpaa", sum := "7d824a8f6bc865435494751892472be750009f94a50cc163af9fcff4cd72cef5", func := "lethe/lethelaw07.TreePlays", spec := "treePlays", inPlace := ["slices.overlaps[lethe/api.Kid]", "slices.overlaps[lethe/api.Entry]"], unfollowed := true, recurses := true, apart := false, narrowed := true }
def TreePlaysUptoSaid : Prop := treePlaysUptoRow.holds Try.pinned (OpenSpec.upto treePlaysSpec)

end Rows
end Go.Proofs.Ytmbngahboaljpaa
