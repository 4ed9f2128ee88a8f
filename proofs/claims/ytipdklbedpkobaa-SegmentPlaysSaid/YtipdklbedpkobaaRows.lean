/-
  No cell of these rows narrows 'for every input' (looked for: loops, veiled, ifaces, maps, wideKeys, modest, calm, conditions, laid).
  DERIVED. THE GIVEN ROWS OF THIS SEAT. 6 by the template 'for every input the law returns true; each argument reads behind the call as it read before'; 0 by the template 'total and deterministic' (their statements: YtipdklbedpkobaaTotals.lean).
  GIVEN WITH THE SEED: the statements are not yours to turn. If you find one false, say at which input.
  Laid BY PROGRAM, IN A SANDBOX (cutbox-rows.mjs): the forced cells as the released guide's own fill.sh prints them over the translation 1d5ac38f67ad50ab… (all of the seat's roots in one cut). By AI agents, Wed Nov 11 2026. No macro, syntax, notation, axiom, sorry.
-/
import Derived.Test.YtipdklbedpkobaaChecked
import GoSem.Claim
import GoSem.ClaimJoined
import GoSem.ClaimMapViews
import Derived.JoinedTies
import Derived.KernelRfl
namespace Go.Proofs.Ytipdklbedpkobaa
/- THE CELL 'sum', in the pinned program and in every row, IS THE sha256 OF THE DUMP (.gsa) THAT YtipdklbedpkobaaProg.lean LOADS. Nothing in Lean hashes anything: it is a label: what it is worth is what the hold of that sum in a sandbox is worth. -/
noncomputable def Try.pinned : Pinned := { name := "ytipdklbedpkobaa", sum := "1d5ac38f67ad50abe99d532f31227586735d8b5f1f0153b067cc11f05a372ff2", checked := Try.checked }
namespace Rows
def none {H : Type} : Left H := { results := [], args := [] }

/-- 'lethelaw16.PagesMade': WHATEVER THE INPUT: true; the input reads as it did. -/
def pagesMadeSpec : ChangeSpec := { name := "pagesMade", fn := fun _ => fun
  | [d1, d2] => { results := [.lit (.bool true)], args := [d1, d2] }
  | _ => none }
def pagesMadeRow : OpenClaim := { program := "ytipdklbedpkobaa", sum := "1d5ac38f67ad50abe99d532f31227586735d8b5f1f0153b067cc11f05a372ff2", func := "lethe/lethelaw16.PagesMade", spec := "pagesMade", apart := false }
def PagesMadeSaid : Prop := pagesMadeRow.holds Try.pinned (OpenSpec.ofChange pagesMadeSpec)

/-- ITS FALSE NEIGHBOUR: 'it returns false'. Refute it at one input. -/
def pagesMadeWrong : ChangeSpec := { name := "pagesMade", fn := fun _ => fun
  | [d1, d2] => { results := [.lit (.bool false)], args := [d1, d2] }
  | _ => none }
def PagesMadeWrongFalsely : Prop := pagesMadeRow.holds Try.pinned (OpenSpec.ofChange pagesMadeWrong)

/-- 'lethelaw14.SegmentRoom': WHATEVER THE INPUT: true; the input reads as it did. -/
def segmentRoomSpec : ChangeSpec := { name := "segmentRoom", fn := fun _ => fun
  | [d1, d2, d3] => { results := [.lit (.bool true)], args := [d1, d2, d3] }
  | _ => none }
def segmentRoomRow : OpenClaim := { program := "ytipdklbedpkobaa", sum := "1d5ac38f67ad50abe99d532f31227586735d8b5f1f0153b067cc11f05a372ff2", func := "lethe/lethelaw14.SegmentRoom", spec := "segmentRoom", unfollowed := true, recurses := true, apart := false }
def SegmentRoomSaid : Prop := segmentRoomRow.holds Try.pinned (OpenSpec.ofChange segmentRoomSpec)

/-- ITS FALSE NEIGHBOUR: 'it returns false'. Refute it at one input. -/
def segmentRoomWrong : ChangeSpec := { name := "segmentRoom", fn := fun _ => fun
  | [d1, d2, d3] => { results := [.lit (.bool false)], args := [d1, d2, d3] }
  | _ => none }
def SegmentRoomWrongFalsely : Prop := segmentRoomRow.holds Try.pinned (OpenSpec.ofChange segmentRoomWrong)

/-- 'lethelaw14.SegmentFrees': WHATEVER THE INPUT: true; the input reads as it did. -/
def segmentFreesSpec : ChangeSpec := { name := "segmentFrees", fn := fun _ => fun
  | [d1, d2, d3] => { results := [.lit (.bool true)], args := [d1, d2, d3] }
  | _ => none }
def segmentFreesRow : OpenClaim := { program := "ytipdklbedpkobaa", sum := "1d5ac38f67ad50abe99d532f31227586735d8b5f1f0153b067cc11f05a372ff2", func := "lethe/lethelaw14.SegmentFrees", spec := "segmentFrees", unfollowed := true, recurses := true, apart := false }
def SegmentFreesSaid : Prop := segmentFreesRow.holds Try.pinned (OpenSpec.ofChange segmentFreesSpec)

/-- ITS FALSE NEIGHBOUR: 'it returns false'. Refute it at one input. -/
def segmentFreesWrong : ChangeSpec := { name := "segmentFrees", fn := fun _ => fun
  | [d1, d2, d3] => { results := [.lit (.bool false)], args := [d1, d2, d3] }
  | _ => none }
def SegmentFreesWrongFalsely : Prop := segmentFreesRow.holds Try.pinned (OpenSpec.ofChange segmentFreesWrong)

/-- 'lethelaw14.SegmentThree': WHATEVER THE INPUT: true; the input reads as it did. -/
def segmentThreeSpec : ChangeSpec := { name := "segmentThree", fn := fun _ => fun
  | [d1, d2, d3] => { results := [.lit (.bool true)], args := [d1, d2, d3] }
  | _ => none }
def segmentThreeRow : OpenClaim := { program := "ytipdklbedpkobaa", sum := "1d5ac38f67ad50abe99d532f31227586735d8b5f1f0153b067cc11f05a372ff2", func := "lethe/lethelaw14.SegmentThree", spec := "segmentThree", unfollowed := true, recurses := true, apart := false }
def SegmentThreeSaid : Prop := segmentThreeRow.holds Try.pinned (OpenSpec.ofChange segmentThreeSpec)

/-- ITS FALSE NEIGHBOUR: 'it returns false'. Refute it at one input. -/
def segmentThreeWrong : ChangeSpec := { name := "segmentThree", fn := fun _ => fun
  | [d1, d2, d3] => { results := [.lit (.bool false)], args := [d1, d2, d3] }
  | _ => none }
def SegmentThreeWrongFalsely : Prop := segmentThreeRow.holds Try.pinned (OpenSpec.ofChange segmentThreeWrong)

/-- 'lethelaw14.SegmentBegins': WHATEVER THE INPUT: true; the input reads as it did. -/
def segmentBeginsSpec : ChangeSpec := { name := "segmentBegins", fn := fun _ => fun
  | [d] => { results := [.lit (.bool true)], args := [d] }
  | _ => none }
def segmentBeginsRow : OpenClaim := { program := "ytipdklbedpkobaa", sum := "1d5ac38f67ad50abe99d532f31227586735d8b5f1f0153b067cc11f05a372ff2", func := "lethe/lethelaw14.SegmentBegins", spec := "segmentBegins", unfollowed := true, recurses := true, apart := false }
def SegmentBeginsSaid : Prop := segmentBeginsRow.holds Try.pinned (OpenSpec.ofChange segmentBeginsSpec)

/-- ITS FALSE NEIGHBOUR: 'it returns false'. Refute it at one input. -/
def segmentBeginsWrong : ChangeSpec := { name := "segmentBegins", fn := fun _ => fun
  | [d] => { results := [.lit (.bool false)], args := [d] }
  | _ => none }
def SegmentBeginsWrongFalsely : Prop := segmentBeginsRow.holds Try.pinned (OpenSpec.ofChange segmentBeginsWrong)

/-- 'lethelaw14.SegmentPlays': WHATEVER THE INPUT: true; the input reads as it did. -/
def segmentPlaysSpec : ChangeSpec := { name := "segmentPlays", fn := fun _ => fun
  | [d1, d2, d3] => { results := [.lit (.bool true)], args := [d1, d2, d3] }
  | _ => none }
def segmentPlaysRow : OpenClaim := { program := "ytipdklbedpkobaa", sum := "1d5ac38f67ad50abe99d532f31227586735d8b5f1f0153b067cc11f05a372ff2", func := "lethe/lethelaw14.SegmentPlays", spec := "segmentPlays", unfollowed := true, recurses := true, apart := false }
def SegmentPlaysSaid : Prop := segmentPlaysRow.holds Try.pinned (OpenSpec.ofChange segmentPlaysSpec)

/-- ITS FALSE NEIGHBOUR: 'it returns false'. Refute it at one input. -/
def segmentPlaysWrong : ChangeSpec := { name := "segmentPlays", fn := fun _ => fun
  | [d1, d2, d3] => { results := [.lit (.bool false)], args := [d1, d2, d3] }
  | _ => none }
def SegmentPlaysWrongFalsely : Prop := segmentPlaysRow.holds Try.pinned (OpenSpec.ofChange segmentPlaysWrong)

/- THE SECOND FORM. 'bulk': how many values and letters a reading holds, each counted each time it is reached (what is shared counts as often as it is met; a slice's spare places count too). A statement '..UptoSaid' is the law's where the arguments, and the package variables that the reading takes, are together of bulk at most 1048576: NARROWER than '..Said'. Prove '..Said' where nothing that the law and all that it calls make is longer than what came in: it says more and counts as full. Else prove '..UptoSaid'. A law counts once. -/
mutual
def uptoBulk {H : Type} : DataW H → Nat
  | .lit (.string bytes) => bytes.length + 1
  | .lit _ => 1
  | .nil => 1
  | .ptr d => uptoBulk d + 1
  | .slice elems spare => uptoBulkAll elems + uptoBulkAll spare + 1
  | .agg parts => uptoBulkAll parts + 1
  | .iface _ d => uptoBulk d + 1
  | .map entries => uptoBulkEntries entries + 1
  | .held _ => 1
def uptoBulkAll {H : Type} : List (DataW H) → Nat
  | [] => 0
  | d :: r => uptoBulk d + uptoBulkAll r
def uptoBulkEntries {H : Type} : List (Lit × DataW H) → Nat
  | [] => 0
  | x :: r => uptoBulkEntry x + uptoBulkEntries r
def uptoBulkEntry {H : Type} : Lit × DataW H → Nat
  | (.string bytes, d) => bytes.length + uptoBulk d + 1
  | (_, d) => uptoBulk d + 1
 end
def uptoSmall : (H : Type) → List (DataW H) → Bool := fun _ ds => decide (uptoBulkAll ds ≤ 1048576)
def OpenSpec.upto (s : _root_.Go.ChangeSpec) : _root_.Go.OpenSpec := { _root_.Go.OpenSpec.ofChange s with cond := some uptoSmall }

/-- 'lethelaw16.PagesMade', WHERE WHAT IT READS IS OF BULK AT MOST 1048576: true; the input reads as it did. -/
def pagesMadeUptoRow : OpenClaim := { program := "ytipdklbedpkobaa", sum := "1d5ac38f67ad50abe99d532f31227586735d8b5f1f0153b067cc11f05a372ff2", func := "lethe/lethelaw16.PagesMade", spec := "pagesMade", apart := false, narrowed := true }
def PagesMadeUptoSaid : Prop := pagesMadeUptoRow.holds Try.pinned (OpenSpec.upto pagesMadeSpec)

/-- 'lethelaw14.SegmentRoom', WHERE WHAT IT READS IS OF BULK AT MOST 1048576: true; the input reads as it did. -/
def segmentRoomUptoRow : OpenClaim := { program := "ytipdklbedpkobaa", sum := "1d5ac38f67ad50abe99d532f31227586735d8b5f1f0153b067cc11f05a372ff2", func := "lethe/lethelaw14.SegmentRoom", spec := "segmentRoom", unfollowed := true, recurses := true, apart := false, narrowed := true }
def SegmentRoomUptoSaid : Prop := segmentRoomUptoRow.holds Try.pinned (OpenSpec.upto segmentRoomSpec)

/-- 'lethelaw14.SegmentFrees', WHERE WHAT IT READS IS OF BULK AT MOST 1048576: true; the input reads as it did. -/
def segmentFreesUptoRow : OpenClaim := { program := "ytipdklbedpkobaa", sum := "1d5ac38f67ad50abe99d532f31227586735d8b5f1f0153b067cc11f05a372ff2", func := "lethe/lethelaw14.SegmentFrees", spec := "segmentFrees", unfollowed := true, recurses := true, apart := false, narrowed := true }
def SegmentFreesUptoSaid : Prop := segmentFreesUptoRow.holds Try.pinned (OpenSpec.upto segmentFreesSpec)

/-- 'lethelaw14.SegmentThree', WHERE WHAT IT READS IS OF BULK AT MOST 1048576: true; the input reads as it did. -/
def segmentThreeUptoRow : OpenClaim := { program := "ytipdklbedpkobaa", sum := "1d5ac38f67ad50abe99d532f31227586735d8b5f1f0153b067cc11f05a372ff2", func := "lethe/lethelaw14.SegmentThree", spec := "segmentThree", unfollowed := true, recurses := true, apart := false, narrowed := true }
def SegmentThreeUptoSaid : Prop := segmentThreeUptoRow.holds Try.pinned (OpenSpec.upto segmentThreeSpec)

/-- 'lethelaw14.SegmentBegins', WHERE WHAT IT READS IS OF BULK AT MOST 1048576: true; the input reads as it did. -/
def segmentBeginsUptoRow : OpenClaim := { program := "ytipdklbedpkobaa", sum := "1d5ac38f67ad50abe99d532f31227586735d8b5f1f0153b067cc11f05a372ff2", func := "lethe/lethelaw14.SegmentBegins", spec := "segmentBegins", unfollowed := true, recurses := true, apart := false, narrowed := true }
def SegmentBeginsUptoSaid : Prop := segmentBeginsUptoRow.holds Try.pinned (OpenSpec.upto segmentBeginsSpec)

/-- 'lethelaw14.SegmentPlays', WHERE WHAT IT READS IS OF BULK AT MOST 1048576: true; the input reads as it did. -/
def segmentPlaysUptoRow : OpenClaim := { program := "ytipdklbedpkobaa", sum := "1d5ac38f67ad50abe99d532f31227586735d8b5f1f0153b067cc11f05a372ff2", func := "lethe/lethelaw14.SegmentPlays", spec := "segmentPlays", unfollowed := true, recurses := true, apart := false, narrowed := true }
def SegmentPlaysUptoSaid : Prop := segmentPlaysUptoRow.holds Try.pinned (OpenSpec.upto segmentPlaysSpec)

end Rows
end Go.Proofs.Ytipdklbedpkobaa
