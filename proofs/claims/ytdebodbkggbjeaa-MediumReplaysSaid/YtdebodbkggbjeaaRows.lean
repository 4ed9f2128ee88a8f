/-
  No cell of these rows narrows 'for every input' (looked for: loops, veiled, ifaces, maps, wideKeys, modest, calm, conditions, laid).
  DERIVED. THE GIVEN ROWS OF THIS SEAT. 8 by the template 'for every input the law returns true; each argument reads behind the call as it read before'; 0 by the template 'total and deterministic' (their statements: YtdebodbkggbjeaaTotals.lean).
  GIVEN WITH THE SEED: the statements are not yours to turn. If you find one false, say at which input.
  Laid BY PROGRAM, IN A SANDBOX (cutbox-rows.mjs): the forced cells as the released guide's own fill.sh prints them over the translation 2a247bce734a849f… (all of the seat's roots in one cut). By AI agents, Wed Nov 11 2026. No macro, syntax, notation, axiom, sorry.
-/
import Derived.Test.YtdebodbkggbjeaaChecked
import GoSem.Claim
import GoSem.ClaimJoined
import GoSem.ClaimMapViews
import Derived.JoinedTies
import Derived.KernelRfl
namespace Go.Proofs.Ytdebodbkggbjeaa
/- THE CELL 'sum', in the pinned program and in every row, IS THE sha256 OF THE DUMP (.gsa) THAT YtdebodbkggbjeaaProg.lean LOADS. Nothing in Lean hashes anything: it is a label: what it is worth is what the hold of that sum in a sandbox is worth. -/
noncomputable def Try.pinned : Pinned := { name := "ytdebodbkggbjeaa", sum := "2a247bce734a849fb115bb13c23550bcb1f7b2bbb7e0706c856ef84bbdbd5303", checked := Try.checked }
namespace Rows
def none {H : Type} : Left H := { results := [], args := [] }

/-- 'lethelaw11.PowerPlays': WHATEVER THE INPUT: true; the input reads as it did. -/
def powerPlaysSpec : ChangeSpec := { name := "powerPlays", fn := fun _ => fun
  | [d] => { results := [.lit (.bool true)], args := [d] }
  | _ => none }
def powerPlaysRow : OpenClaim := { program := "ytdebodbkggbjeaa", sum := "2a247bce734a849fb115bb13c23550bcb1f7b2bbb7e0706c856ef84bbdbd5303", func := "lethe/lethelaw11.PowerPlays", spec := "powerPlays", apart := false }
def PowerPlaysSaid : Prop := powerPlaysRow.holds Try.pinned (OpenSpec.ofChange powerPlaysSpec)

/-- ITS FALSE NEIGHBOUR: 'it returns false'. Refute it at one input. -/
def powerPlaysWrong : ChangeSpec := { name := "powerPlays", fn := fun _ => fun
  | [d] => { results := [.lit (.bool false)], args := [d] }
  | _ => none }
def PowerPlaysWrongFalsely : Prop := powerPlaysRow.holds Try.pinned (OpenSpec.ofChange powerPlaysWrong)

/-- 'lethelaw11.PowerCuts': WHATEVER THE INPUT: true; the input reads as it did. -/
def powerCutsSpec : ChangeSpec := { name := "powerCuts", fn := fun _ => fun
  | [d1, d2] => { results := [.lit (.bool true)], args := [d1, d2] }
  | _ => none }
def powerCutsRow : OpenClaim := { program := "ytdebodbkggbjeaa", sum := "2a247bce734a849fb115bb13c23550bcb1f7b2bbb7e0706c856ef84bbdbd5303", func := "lethe/lethelaw11.PowerCuts", spec := "powerCuts", apart := false }
def PowerCutsSaid : Prop := powerCutsRow.holds Try.pinned (OpenSpec.ofChange powerCutsSpec)

/-- ITS FALSE NEIGHBOUR: 'it returns false'. Refute it at one input. -/
def powerCutsWrong : ChangeSpec := { name := "powerCuts", fn := fun _ => fun
  | [d1, d2] => { results := [.lit (.bool false)], args := [d1, d2] }
  | _ => none }
def PowerCutsWrongFalsely : Prop := powerCutsRow.holds Try.pinned (OpenSpec.ofChange powerCutsWrong)

/-- 'lethelaw12.MediumCuts': WHATEVER THE INPUT: true; the input reads as it did. -/
def mediumCutsSpec : ChangeSpec := { name := "mediumCuts", fn := fun _ => fun
  | [d] => { results := [.lit (.bool true)], args := [d] }
  | _ => none }
def mediumCutsRow : OpenClaim := { program := "ytdebodbkggbjeaa", sum := "2a247bce734a849fb115bb13c23550bcb1f7b2bbb7e0706c856ef84bbdbd5303", func := "lethe/lethelaw12.MediumCuts", spec := "mediumCuts", apart := false }
def MediumCutsSaid : Prop := mediumCutsRow.holds Try.pinned (OpenSpec.ofChange mediumCutsSpec)

/-- ITS FALSE NEIGHBOUR: 'it returns false'. Refute it at one input. -/
def mediumCutsWrong : ChangeSpec := { name := "mediumCuts", fn := fun _ => fun
  | [d] => { results := [.lit (.bool false)], args := [d] }
  | _ => none }
def MediumCutsWrongFalsely : Prop := mediumCutsRow.holds Try.pinned (OpenSpec.ofChange mediumCutsWrong)

/-- 'lethelaw12.MediumCounts': WHATEVER THE INPUT: true; the input reads as it did. -/
def mediumCountsSpec : ChangeSpec := { name := "mediumCounts", fn := fun _ => fun
  | [d1, d2, d3] => { results := [.lit (.bool true)], args := [d1, d2, d3] }
  | _ => none }
def mediumCountsRow : OpenClaim := { program := "ytdebodbkggbjeaa", sum := "2a247bce734a849fb115bb13c23550bcb1f7b2bbb7e0706c856ef84bbdbd5303", func := "lethe/lethelaw12.MediumCounts", spec := "mediumCounts", unfollowed := true, recurses := true, apart := false }
def MediumCountsSaid : Prop := mediumCountsRow.holds Try.pinned (OpenSpec.ofChange mediumCountsSpec)

/-- ITS FALSE NEIGHBOUR: 'it returns false'. Refute it at one input. -/
def mediumCountsWrong : ChangeSpec := { name := "mediumCounts", fn := fun _ => fun
  | [d1, d2, d3] => { results := [.lit (.bool false)], args := [d1, d2, d3] }
  | _ => none }
def MediumCountsWrongFalsely : Prop := mediumCountsRow.holds Try.pinned (OpenSpec.ofChange mediumCountsWrong)

/-- 'lethelaw13.CellForgets': WHATEVER THE INPUT: true; the input reads as it did. -/
def cellForgetsSpec : ChangeSpec := { name := "cellForgets", fn := fun _ => fun
  | [d1, d2] => { results := [.lit (.bool true)], args := [d1, d2] }
  | _ => none }
def cellForgetsRow : OpenClaim := { program := "ytdebodbkggbjeaa", sum := "2a247bce734a849fb115bb13c23550bcb1f7b2bbb7e0706c856ef84bbdbd5303", func := "lethe/lethelaw13.CellForgets", spec := "cellForgets", apart := false }
def CellForgetsSaid : Prop := cellForgetsRow.holds Try.pinned (OpenSpec.ofChange cellForgetsSpec)

/-- ITS FALSE NEIGHBOUR: 'it returns false'. Refute it at one input. -/
def cellForgetsWrong : ChangeSpec := { name := "cellForgets", fn := fun _ => fun
  | [d1, d2] => { results := [.lit (.bool false)], args := [d1, d2] }
  | _ => none }
def CellForgetsWrongFalsely : Prop := cellForgetsRow.holds Try.pinned (OpenSpec.ofChange cellForgetsWrong)

/-- 'lethelaw13.CellPlays': WHATEVER THE INPUT: true; the input reads as it did. -/
def cellPlaysSpec : ChangeSpec := { name := "cellPlays", fn := fun _ => fun
  | [d] => { results := [.lit (.bool true)], args := [d] }
  | _ => none }
def cellPlaysRow : OpenClaim := { program := "ytdebodbkggbjeaa", sum := "2a247bce734a849fb115bb13c23550bcb1f7b2bbb7e0706c856ef84bbdbd5303", func := "lethe/lethelaw13.CellPlays", spec := "cellPlays", apart := false }
def CellPlaysSaid : Prop := cellPlaysRow.holds Try.pinned (OpenSpec.ofChange cellPlaysSpec)

/-- ITS FALSE NEIGHBOUR: 'it returns false'. Refute it at one input. -/
def cellPlaysWrong : ChangeSpec := { name := "cellPlays", fn := fun _ => fun
  | [d] => { results := [.lit (.bool false)], args := [d] }
  | _ => none }
def CellPlaysWrongFalsely : Prop := cellPlaysRow.holds Try.pinned (OpenSpec.ofChange cellPlaysWrong)

/-- 'lethelaw13.CellShares': WHATEVER THE INPUT: true; the input reads as it did. -/
def cellSharesSpec : ChangeSpec := { name := "cellShares", fn := fun _ => fun
  | [d1, d2] => { results := [.lit (.bool true)], args := [d1, d2] }
  | _ => none }
def cellSharesRow : OpenClaim := { program := "ytdebodbkggbjeaa", sum := "2a247bce734a849fb115bb13c23550bcb1f7b2bbb7e0706c856ef84bbdbd5303", func := "lethe/lethelaw13.CellShares", spec := "cellShares", apart := false }
def CellSharesSaid : Prop := cellSharesRow.holds Try.pinned (OpenSpec.ofChange cellSharesSpec)

/-- ITS FALSE NEIGHBOUR: 'it returns false'. Refute it at one input. -/
def cellSharesWrong : ChangeSpec := { name := "cellShares", fn := fun _ => fun
  | [d1, d2] => { results := [.lit (.bool false)], args := [d1, d2] }
  | _ => none }
def CellSharesWrongFalsely : Prop := cellSharesRow.holds Try.pinned (OpenSpec.ofChange cellSharesWrong)

/-- 'lethelaw12.MediumReplays': WHATEVER THE INPUT: true; the input reads as it did. -/
def mediumReplaysSpec : ChangeSpec := { name := "mediumReplays", fn := fun _ => fun
  | [d1, d2, d3] => { results := [.lit (.bool true)], args := [d1, d2, d3] }
  | _ => none }
def mediumReplaysRow : OpenClaim := { program := "ytdebodbkggbjeaa", sum := "2a247bce734a849fb115bb13c23550bcb1f7b2bbb7e0706c856ef84bbdbd5303", func := "lethe/lethelaw12.MediumReplays", spec := "mediumReplays", unfollowed := true, recurses := true, apart := false }
def MediumReplaysSaid : Prop := mediumReplaysRow.holds Try.pinned (OpenSpec.ofChange mediumReplaysSpec)

/-- ITS FALSE NEIGHBOUR: 'it returns false'. Refute it at one input. -/
def mediumReplaysWrong : ChangeSpec := { name := "mediumReplays", fn := fun _ => fun
  | [d1, d2, d3] => { results := [.lit (.bool false)], args := [d1, d2, d3] }
  | _ => none }
def MediumReplaysWrongFalsely : Prop := mediumReplaysRow.holds Try.pinned (OpenSpec.ofChange mediumReplaysWrong)

/- THE SECOND FORM. 'bulk': how many values and letters a reading holds, each counted each time it is reached (what is shared counts as often as it is met; a slice's spare places count too). A statement '..UptoSaid' is the law's where the arguments, and the package variables that the reading takes, are together of bulk at most 1048576: NARROWER than '..Said'. Prove '..Said' where nothing that the law and all that it calls make is longer than what came in: it says more and counts as full. Else prove '..UptoSaid'. A law counts once. -/
mutual
def uptoBulk {H : Type} : DataW H → Nat
  | .lit (.string bytes) => bytes.length + 1
  | .lit _ => 1
  | .nil => 1
  | .ptr d => uptoBulk d + 1
  | .slice elems spare => uptoBulkAll elems + uptoBulkAll spare + 1
  | .agg parts => uptoBulkAll parts + 1
  | .iface _ d => uptoBulk d + 1
  | .map entries => uptoBulkEntries entries + 1
  | .held _ => 1
def uptoBulkAll {H : Type} : List (DataW H) → Nat
  | [] => 0
  | d :: r => uptoBulk d + uptoBulkAll r
def uptoBulkEntries {H : Type} : List (Lit × DataW H) → Nat
  | [] => 0
  | x :: r => uptoBulkEntry x + uptoBulkEntries r
def uptoBulkEntry {H : Type} : Lit × DataW H → Nat
  | (.string bytes, d) => bytes.length + uptoBulk d + 1
  | (_, d) => uptoBulk d + 1
 end
def uptoSmall : (H : Type) → List (DataW H) → Bool := fun _ ds => decide (uptoBulkAll ds ≤ 1048576)
def OpenSpec.upto (s : _root_.Go.ChangeSpec) : _root_.Go.OpenSpec := { _root_.Go.OpenSpec.ofChange s with cond := some uptoSmall }

/-- 'lethelaw11.PowerPlays', WHERE WHAT IT READS IS OF BULK AT MOST 1048576: true; the input reads as it did. -/
def powerPlaysUptoRow : OpenClaim := { program := "ytdebodbkggbjeaa", sum := "2a247bce734a849fb115bb13c23550bcb1f7b2bbb7e0706c856ef84bbdbd5303", func := "lethe/lethelaw11.PowerPlays", spec := "powerPlays", apart := false, narrowed := true }
def PowerPlaysUptoSaid : Prop := powerPlaysUptoRow.holds Try.pinned (OpenSpec.upto powerPlaysSpec)

/-- 'lethelaw11.PowerCuts', WHERE WHAT IT READS IS OF BULK AT MOST 1048576: true; the input reads as it did. -/
def powerCutsUptoRow : OpenClaim := { program := "ytdebodbkggbjeaa", sum := "2a247bce734a849fb115bb13c23550bcb1f7b2bbb7e0706c856ef84bbdbd5303", func := "lethe/lethelaw11.PowerCuts", spec := "powerCuts", apart := false, narrowed := true }
def PowerCutsUptoSaid : Prop := powerCutsUptoRow.holds Try.pinned (OpenSpec.upto powerCutsSpec)

/-- 'lethelaw12.MediumCuts', WHERE WHAT IT READS IS OF BULK AT MOST 1048576: true; the input reads as it did. -/
def mediumCutsUptoRow : OpenClaim := { program := "ytdebodbkggbjeaa", sum := "2a247bce734a849fb115bb13c23550bcb1f7b2bbb7e0706c856ef84bbdbd5303", func := "lethe/lethelaw12.MediumCuts", spec := "mediumCuts", apart := false, narrowed := true }
def MediumCutsUptoSaid : Prop := mediumCutsUptoRow.holds Try.pinned (OpenSpec.upto mediumCutsSpec)

/-- 'lethelaw12.MediumCounts', WHERE WHAT IT READS IS OF BULK AT MOST 1048576: true; the input reads as it did. -/
def mediumCountsUptoRow : OpenClaim := { program := "ytdebodbkggbjeaa", sum := "2a247bce734a849fb115bb13c23550bcb1f7b2bbb7e0706c856ef84bbdbd5303", func := "lethe/lethelaw12.MediumCounts", spec := "mediumCounts", unfollowed := true, recurses := true, apart := false, narrowed := true }
def MediumCountsUptoSaid : Prop := mediumCountsUptoRow.holds Try.pinned (OpenSpec.upto mediumCountsSpec)

/-- 'lethelaw13.CellForgets', WHERE WHAT IT READS IS OF BULK AT MOST 1048576: true; the input reads as it did. -/
def cellForgetsUptoRow : OpenClaim := { program := "ytdebodbkggbjeaa", sum := "2a247bce734a849fb115bb13c23550bcb1f7b2bbb7e0706c856ef84bbdbd5303", func := "lethe/lethelaw13.CellForgets", spec := "cellForgets", apart := false, narrowed := true }
def CellForgetsUptoSaid : Prop := cellForgetsUptoRow.holds Try.pinned (OpenSpec.upto cellForgetsSpec)

/-- 'lethelaw13.CellPlays', WHERE WHAT IT READS IS OF BULK AT MOST 1048576: true; the input reads as it did. -/
def cellPlaysUptoRow : OpenClaim := { program := "ytdebodbkggbjeaa", sum := "2a247bce734a849fb115bb13c23550bcb1f7b2bbb7e0706c856ef84bbdbd5303", func := "lethe/lethelaw13.CellPlays", spec := "cellPlays", apart := false, narrowed := true }
def CellPlaysUptoSaid : Prop := cellPlaysUptoRow.holds Try.pinned (OpenSpec.upto cellPlaysSpec)

/-- 'lethelaw13.CellShares', WHERE WHAT IT READS IS OF BULK AT MOST 1048576: true; the input reads as it did. -/
def cellSharesUptoRow : OpenClaim := { program := "ytdebodbkggbjeaa", sum := "2a247bce734a849fb115bb13c23550bcb1f7b2bbb7e0706c856ef84bbdbd5303", func := "lethe/lethelaw13.CellShares", spec := "cellShares", apart := false, narrowed := true }
def CellSharesUptoSaid : Prop := cellSharesUptoRow.holds Try.pinned (OpenSpec.upto cellSharesSpec)

/-- 'lethelaw12.MediumReplays', WHERE WHAT IT READS IS OF BULK AT MOST 1048576: true; the input reads as it did. -/
def mediumReplaysUptoRow : OpenClaim := { program := "ytdebodbkggbjeaa", sum := "2a247bce734a849fb115bb13c23550bcb1f7b2bbb7e0706c856ef84bbdbd5303", func := "lethe/lethelaw12.MediumReplays", spec := "mediumReplays", unfollowed := true, recurses := true, apart := false, narrowed := true }
def MediumReplaysUptoSaid : Prop := mediumReplaysUptoRow.holds Try.pinned (OpenSpec.upto mediumReplaysSpec)

end Rows
end Go.Proofs.Ytdebodbkggbjeaa
