/-
  No cell of these rows narrows 'for every input' (looked for: loops, veiled, ifaces, maps, wideKeys, modest, calm, conditions, laid).
  DERIVED. THE GIVEN ROWS OF THIS SEAT. 6 by the template 'for every input the law returns true; each argument reads behind the call as it read before'; 0 by the template 'total and deterministic' (their statements: YtdiocmjhencbpaaTotals.lean).
  GIVEN WITH THE SEED: the statements are not yours to turn. If you find one false, say at which input.
  Laid BY PROGRAM, IN A SANDBOX (cutbox-rows.mjs): the forced cells as the released guide's own fill.sh prints them over the translation 0ce3eb3976d518af… (all of the seat's roots in one cut). By AI agents, Wed Nov 11 2026. No macro, syntax, notation, axiom, sorry.
-/
import Derived.Test.YtdiocmjhencbpaaChecked
import GoSem.Claim
import GoSem.ClaimJoined
import GoSem.ClaimMapViews
import Derived.JoinedTies
import Derived.KernelRfl
namespace Go.Proofs.Ytdiocmjhencbpaa
/- THE CELL 'sum', in the pinned program and in every row, IS THE sha256 OF THE DUMP (.gsa) THAT YtdiocmjhencbpaaProg.lean LOADS. Nothing in Lean hashes anything: it is a label: what it is worth is what the hold of that sum in a sandbox is worth. -/
noncomputable def Try.pinned : Pinned := { name := "ytdiocmjhencbpaa", sum := "0ce3eb3976d518af0645f131f1cb2d2c543186e1fefc52f3952e3c3bd69a080f", checked := Try.checked }
namespace Rows
def none {H : Type} : Left H := { results := [], args := [] }

/-- 'lethelaw08.ListLost': WHATEVER THE INPUT: true; the input reads as it did. -/
def listLostSpec : ChangeSpec := { name := "listLost", fn := fun _ => fun
  | [d1, d2, d3, d4] => { results := [.lit (.bool true)], args := [d1, d2, d3, d4] }
  | _ => none }
def listLostRow : OpenClaim := { program := "ytdiocmjhencbpaa", sum := "0ce3eb3976d518af0645f131f1cb2d2c543186e1fefc52f3952e3c3bd69a080f", func := "lethe/lethelaw08.ListLost", spec := "listLost", unfollowed := true, recurses := true, apart := false }
def ListLostSaid : Prop := listLostRow.holds Try.pinned (OpenSpec.ofChange listLostSpec)

/-- ITS FALSE NEIGHBOUR: 'it returns false'. Refute it at one input. -/
def listLostWrong : ChangeSpec := { name := "listLost", fn := fun _ => fun
  | [d1, d2, d3, d4] => { results := [.lit (.bool false)], args := [d1, d2, d3, d4] }
  | _ => none }
def ListLostWrongFalsely : Prop := listLostRow.holds Try.pinned (OpenSpec.ofChange listLostWrong)

/-- 'lethelaw08.ListRanges': WHATEVER THE INPUT: true; the input reads as it did. -/
def listRangesSpec : ChangeSpec := { name := "listRanges", fn := fun _ => fun
  | [d1, d2, d3, d4] => { results := [.lit (.bool true)], args := [d1, d2, d3, d4] }
  | _ => none }
def listRangesRow : OpenClaim := { program := "ytdiocmjhencbpaa", sum := "0ce3eb3976d518af0645f131f1cb2d2c543186e1fefc52f3952e3c3bd69a080f", func := "lethe/lethelaw08.ListRanges", spec := "listRanges", inPlace := ["slices.overlaps[lethe/api.Entry]", "slices.overlaps[lethe/api.Kid]"], unfollowed := true, recurses := true, apart := false }
def ListRangesSaid : Prop := listRangesRow.holds Try.pinned (OpenSpec.ofChange listRangesSpec)

/-- ITS FALSE NEIGHBOUR: 'it returns false'. Refute it at one input. -/
def listRangesWrong : ChangeSpec := { name := "listRanges", fn := fun _ => fun
  | [d1, d2, d3, d4] => { results := [.lit (.bool false)], args := [d1, d2, d3, d4] }
  | _ => none }
def ListRangesWrongFalsely : Prop := listRangesRow.holds Try.pinned (OpenSpec.ofChange listRangesWrong)

/-- 'lethelaw08.ListNames': WHATEVER THE INPUT: true; the input reads as it did. -/
def listNamesSpec : ChangeSpec := { name := "listNames", fn := fun _ => fun
  | [d1, d2] => { results := [.lit (.bool true)], args := [d1, d2] }
  | _ => none }
def listNamesRow : OpenClaim := { program := "ytdiocmjhencbpaa", sum := "0ce3eb3976d518af0645f131f1cb2d2c543186e1fefc52f3952e3c3bd69a080f", func := "lethe/lethelaw08.ListNames", spec := "listNames", inPlace := ["slices.overlaps[lethe/api.Entry]", "slices.overlaps[lethe/api.Kid]"], unfollowed := true, recurses := true, apart := false }
def ListNamesSaid : Prop := listNamesRow.holds Try.pinned (OpenSpec.ofChange listNamesSpec)

/-- ITS FALSE NEIGHBOUR: 'it returns false'. Refute it at one input. -/
def listNamesWrong : ChangeSpec := { name := "listNames", fn := fun _ => fun
  | [d1, d2] => { results := [.lit (.bool false)], args := [d1, d2] }
  | _ => none }
def ListNamesWrongFalsely : Prop := listNamesRow.holds Try.pinned (OpenSpec.ofChange listNamesWrong)

/-- 'lethelaw08.ListUnion': WHATEVER THE INPUT: true; the input reads as it did. -/
def listUnionSpec : ChangeSpec := { name := "listUnion", fn := fun _ => fun
  | [d1, d2, d3] => { results := [.lit (.bool true)], args := [d1, d2, d3] }
  | _ => none }
def listUnionRow : OpenClaim := { program := "ytdiocmjhencbpaa", sum := "0ce3eb3976d518af0645f131f1cb2d2c543186e1fefc52f3952e3c3bd69a080f", func := "lethe/lethelaw08.ListUnion", spec := "listUnion", inPlace := ["slices.overlaps[lethe/api.Entry]", "slices.overlaps[lethe/api.Kid]"], unfollowed := true, recurses := true, apart := false }
def ListUnionSaid : Prop := listUnionRow.holds Try.pinned (OpenSpec.ofChange listUnionSpec)

/-- ITS FALSE NEIGHBOUR: 'it returns false'. Refute it at one input. -/
def listUnionWrong : ChangeSpec := { name := "listUnion", fn := fun _ => fun
  | [d1, d2, d3] => { results := [.lit (.bool false)], args := [d1, d2, d3] }
  | _ => none }
def ListUnionWrongFalsely : Prop := listUnionRow.holds Try.pinned (OpenSpec.ofChange listUnionWrong)

/-- 'lethelaw08.ListAgree': WHATEVER THE INPUT: true; the input reads as it did. -/
def listAgreeSpec : ChangeSpec := { name := "listAgree", fn := fun _ => fun
  | [d1, d2, d3] => { results := [.lit (.bool true)], args := [d1, d2, d3] }
  | _ => none }
def listAgreeRow : OpenClaim := { program := "ytdiocmjhencbpaa", sum := "0ce3eb3976d518af0645f131f1cb2d2c543186e1fefc52f3952e3c3bd69a080f", func := "lethe/lethelaw08.ListAgree", spec := "listAgree", inPlace := ["slices.overlaps[lethe/api.Entry]", "slices.overlaps[lethe/api.Kid]"], unfollowed := true, recurses := true, apart := false }
def ListAgreeSaid : Prop := listAgreeRow.holds Try.pinned (OpenSpec.ofChange listAgreeSpec)

/-- ITS FALSE NEIGHBOUR: 'it returns false'. Refute it at one input. -/
def listAgreeWrong : ChangeSpec := { name := "listAgree", fn := fun _ => fun
  | [d1, d2, d3] => { results := [.lit (.bool false)], args := [d1, d2, d3] }
  | _ => none }
def ListAgreeWrongFalsely : Prop := listAgreeRow.holds Try.pinned (OpenSpec.ofChange listAgreeWrong)

/-- 'lethelaw08.ListSound': WHATEVER THE INPUT: true; the input reads as it did. -/
def listSoundSpec : ChangeSpec := { name := "listSound", fn := fun _ => fun
  | [d1, d2] => { results := [.lit (.bool true)], args := [d1, d2] }
  | _ => none }
def listSoundRow : OpenClaim := { program := "ytdiocmjhencbpaa", sum := "0ce3eb3976d518af0645f131f1cb2d2c543186e1fefc52f3952e3c3bd69a080f", func := "lethe/lethelaw08.ListSound", spec := "listSound", inPlace := ["slices.overlaps[lethe/api.Entry]", "slices.overlaps[lethe/api.Kid]"], unfollowed := true, recurses := true, apart := false }
def ListSoundSaid : Prop := listSoundRow.holds Try.pinned (OpenSpec.ofChange listSoundSpec)

/-- ITS FALSE NEIGHBOUR: 'it returns false'. Refute it at one input. -/
def listSoundWrong : ChangeSpec := { name := "listSound", fn := fun _ => fun
  | [d1, d2] => { results := [.lit (.bool false)], args := [d1, d2] }
  | _ => none }
def ListSoundWrongFalsely : Prop := listSoundRow.holds Try.pinned (OpenSpec.ofChange listSoundWrong)

/- THE SECOND FORM. 'bulk': how many values and letters a reading holds, each counted each time it is reached (what is shared counts as often as it is met; a slice's spare places count too). A statement '..UptoSaid' is the law's where the arguments, and the package variables that the reading takes, are together of bulk at most 1048576: NARROWER than '..Said'. Prove '..Said' where nothing that the law and all that it calls make is longer than what came in: it says more and counts as full. Else prove '..UptoSaid'. A law counts once. -/
mutual
def uptoBulk {H : Type} : DataW H → Nat
  | .lit (.string bytes) => bytes.length + 1
  | .lit _ => 1
  | .nil => 1
  | .ptr d => uptoBulk d + 1
  | .slice elems spare => uptoBulkAll elems + uptoBulkAll spare + 1
  | .agg parts => uptoBulkAll parts + 1
  | .iface _ d => uptoBulk d + 1
  | .map entries => uptoBulkEntries entries + 1
  | .held _ => 1
def uptoBulkAll {H : Type} : List (DataW H) → Nat
  | [] => 0
  | d :: r => uptoBulk d + uptoBulkAll r
def uptoBulkEntries {H : Type} : List (Lit × DataW H) → Nat
  | [] => 0
  | x :: r => uptoBulkEntry x + uptoBulkEntries r
def uptoBulkEntry {H : Type} : Lit × DataW H → Nat
  | (.string bytes, d) => bytes.length + uptoBulk d + 1
  | (_, d) => uptoBulk d + 1
 end
def uptoSmall : (H : Type) → List (DataW H) → Bool := fun _ ds => decide (uptoBulkAll ds ≤ 1048576)
def OpenSpec.upto (s : _root_.Go.ChangeSpec) : _root_.Go.OpenSpec := { _root_.Go.OpenSpec.ofChange s with cond := some uptoSmall }

/-- 'lethelaw08.ListLost', WHERE WHAT IT READS IS OF BULK AT MOST 1048576: true; the input reads as it did. -/
def listLostUptoRow : OpenClaim := { program := "ytdiocmjhencbpaa", sum := "0ce3eb3976d518af0645f131f1cb2d2c543186e1fefc52f3952e3c3bd69a080f", func := "lethe/lethelaw08.ListLost", spec := "listLost", unfollowed := true, recurses := true, apart := false, narrowed := true }
def ListLostUptoSaid : Prop := listLostUptoRow.holds Try.pinned (OpenSpec.upto listLostSpec)

/-- 'lethelaw08.ListRanges', WHERE WHAT IT READS IS OF BULK AT MOST 1048576: true; the input reads as it did. -/
def listRangesUptoRow : OpenClaim := { program := "ytdiocmjhencbpaa", sum := "0ce3eb3976d518af0645f131f1cb2d2c543186e1fefc52f3952e3c3bd69a080f", func := "lethe/lethelaw08.ListRanges", spec := "listRanges", inPlace := ["slices.overlaps[lethe/api.Entry]", "slices.overlaps[lethe/api.Kid]"], unfollowed := true, recurses := true, apart := false, narrowed := true }
def ListRangesUptoSaid : Prop := listRangesUptoRow.holds Try.pinned (OpenSpec.upto listRangesSpec)

/-- 'lethelaw08.ListNames', WHERE WHAT IT READS IS OF BULK AT MOST 1048576: true; the input reads as it did. -/
def listNamesUptoRow : OpenClaim := { program := "ytdiocmjhencbpaa", sum := "0ce3eb3976d518af0645f131f1cb2d2c543186e1fefc52f3952e3c3bd69a080f", func := "lethe/lethelaw08.ListNames", spec := "listNames", inPlace := ["slices.overlaps[lethe/api.Entry]", "slices.overlaps[lethe/api.Kid]"], unfollowed := true, recurses := true, apart := false, narrowed := true }
def ListNamesUptoSaid : Prop := listNamesUptoRow.holds Try.pinned (OpenSpec.upto listNamesSpec)

/-- 'lethelaw08.ListUnion', WHERE WHAT IT READS IS OF BULK AT MOST 1048576: true; the input reads as it did. -/
def listUnionUptoRow : OpenClaim := { program := "ytdiocmjhencbpaa", sum := "0ce3eb3976d518af0645f131f1cb2d2c543186e1fefc52f3952e3c3bd69a080f", func := "lethe/lethelaw08.ListUnion", spec := "listUnion", inPlace := ["slices.overlaps[lethe/api.Entry]", "slices.overlaps[lethe/api.Kid]"], unfollowed := true, recurses := true, apart := false, narrowed := true }
def ListUnionUptoSaid : Prop := listUnionUptoRow.holds Try.pinned (OpenSpec.upto listUnionSpec)

/-- 'lethelaw08.ListAgree', WHERE WHAT IT READS IS OF BULK AT MOST 1048576: true; the input reads as it did. -/
def listAgreeUptoRow : OpenClaim := { program := "ytdiocmjhencbpaa", sum := "0ce3eb3976d518af0645f131f1cb2d2c543186e1fefc52f3952e3c3bd69a080f", func := "lethe/lethelaw08.ListAgree", spec := "listAgree", inPlace := ["slices.overlaps[lethe/api.Entry]", "slices.overlaps[lethe/api.Kid]"], unfollowed := true, recurses := true, apart := false, narrowed := true }
def ListAgreeUptoSaid : Prop := listAgreeUptoRow.holds Try.pinned (OpenSpec.upto listAgreeSpec)

/-- 'lethelaw08.ListSound', WHERE WHAT IT READS IS OF BULK AT MOST 1048576: true; the input reads as it did. -/
def listSoundUptoRow : OpenClaim := { program := "ytdiocmjhencbpaa", sum := "0ce3eb3976d518af0645f131f1cb2d2c543186e1fefc52f3952e3c3bd69a080f", func := "lethe/lethelaw08.ListSound", spec := "listSound", inPlace := ["slices.overlaps[lethe/api.Entry]", "slices.overlaps[lethe/api.Kid]"], unfollowed := true, recurses := true, apart := false, narrowed := true }
def ListSoundUptoSaid : Prop := listSoundUptoRow.holds Try.pinned (OpenSpec.upto listSoundSpec)

end Rows
end Go.Proofs.Ytdiocmjhencbpaa
