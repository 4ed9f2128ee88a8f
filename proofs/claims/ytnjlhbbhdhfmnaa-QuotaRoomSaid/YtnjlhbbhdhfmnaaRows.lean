/-
  No cell of these rows narrows 'for every input' (looked for: loops, veiled, ifaces, maps, wideKeys, modest, calm, conditions, laid).
  DERIVED. THE GIVEN ROWS OF THIS SEAT. 5 by the template 'for every input the law returns true; each argument reads behind the call as it read before'; 0 by the template 'total and deterministic' (their statements: YtnjlhbbhdhfmnaaTotals.lean).
  GIVEN WITH THE SEED: the statements are not yours to turn. If you find one false, say at which input.
  Laid BY PROGRAM, IN A SANDBOX (cutbox-rows.mjs): the forced cells as the released guide's own fill.sh prints them over the translation 831961216fde501c… (all of the seat's roots in one cut). By AI agents, Wed Nov 11 2026. No macro, syntax, notation, axiom, sorry.
-/
import Derived.Test.YtnjlhbbhdhfmnaaChecked
import GoSem.Claim
import GoSem.ClaimJoined
import GoSem.ClaimMapViews
import Derived.JoinedTies
import Derived.KernelRfl
namespace Go.Proofs.Ytnjlhbbhdhfmnaa
/- THE CELL 'sum', in the pinned program and in every row, IS THE sha256 OF THE DUMP (.gsa) THAT YtnjlhbbhdhfmnaaProg.lean LOADS. Nothing in Lean hashes anything: it is a label: what it is worth is what the hold of that sum in a sandbox is worth. -/
noncomputable def Try.pinned : Pinned := { name := "ytnjlhbbhdhfmnaa", sum := "831961216fde501c19ce7bc476a6a9bb2a35111ff1a583a340938503f005cb76", checked := Try.checked }
namespace Rows
def none {H : Type} : Left H := { results := [], args := [] }

/-- 'lethelaw04.QuotaRights': WHATEVER THE INPUT: true; the input reads as it did. -/
def quotaRightsSpec : ChangeSpec := { name := "quotaRights", fn := fun _ => fun
  | [d] => { results := [.lit (.bool true)], args := [d] }
  | _ => none }
def quotaRightsRow : OpenClaim := { program := "ytnjlhbbhdhfmnaa", sum := "831961216fde501c19ce7bc476a6a9bb2a35111ff1a583a340938503f005cb76", func := "lethe/lethelaw04.QuotaRights", spec := "quotaRights", apart := false }
def QuotaRightsSaid : Prop := quotaRightsRow.holds Try.pinned (OpenSpec.ofChange quotaRightsSpec)

/-- ITS FALSE NEIGHBOUR: 'it returns false'. Refute it at one input. -/
def quotaRightsWrong : ChangeSpec := { name := "quotaRights", fn := fun _ => fun
  | [d] => { results := [.lit (.bool false)], args := [d] }
  | _ => none }
def QuotaRightsWrongFalsely : Prop := quotaRightsRow.holds Try.pinned (OpenSpec.ofChange quotaRightsWrong)

/-- 'lethelaw04.QuotaLevels': WHATEVER THE INPUT: true; the input reads as it did. -/
def quotaLevelsSpec : ChangeSpec := { name := "quotaLevels", fn := fun _ => fun
  | [d] => { results := [.lit (.bool true)], args := [d] }
  | _ => none }
def quotaLevelsRow : OpenClaim := { program := "ytnjlhbbhdhfmnaa", sum := "831961216fde501c19ce7bc476a6a9bb2a35111ff1a583a340938503f005cb76", func := "lethe/lethelaw04.QuotaLevels", spec := "quotaLevels", unfollowed := true, recurses := true, apart := false }
def QuotaLevelsSaid : Prop := quotaLevelsRow.holds Try.pinned (OpenSpec.ofChange quotaLevelsSpec)

/-- ITS FALSE NEIGHBOUR: 'it returns false'. Refute it at one input. -/
def quotaLevelsWrong : ChangeSpec := { name := "quotaLevels", fn := fun _ => fun
  | [d] => { results := [.lit (.bool false)], args := [d] }
  | _ => none }
def QuotaLevelsWrongFalsely : Prop := quotaLevelsRow.holds Try.pinned (OpenSpec.ofChange quotaLevelsWrong)

/-- 'lethelaw04.QuotaNumbers': WHATEVER THE INPUT: true; the input reads as it did. -/
def quotaNumbersSpec : ChangeSpec := { name := "quotaNumbers", fn := fun _ => fun
  | [d] => { results := [.lit (.bool true)], args := [d] }
  | _ => none }
def quotaNumbersRow : OpenClaim := { program := "ytnjlhbbhdhfmnaa", sum := "831961216fde501c19ce7bc476a6a9bb2a35111ff1a583a340938503f005cb76", func := "lethe/lethelaw04.QuotaNumbers", spec := "quotaNumbers", unfollowed := true, recurses := true, apart := false }
def QuotaNumbersSaid : Prop := quotaNumbersRow.holds Try.pinned (OpenSpec.ofChange quotaNumbersSpec)

/-- ITS FALSE NEIGHBOUR: 'it returns false'. Refute it at one input. -/
def quotaNumbersWrong : ChangeSpec := { name := "quotaNumbers", fn := fun _ => fun
  | [d] => { results := [.lit (.bool false)], args := [d] }
  | _ => none }
def QuotaNumbersWrongFalsely : Prop := quotaNumbersRow.holds Try.pinned (OpenSpec.ofChange quotaNumbersWrong)

/-- 'lethelaw04.QuotaRoom': WHATEVER THE INPUT: true; the input reads as it did. -/
def quotaRoomSpec : ChangeSpec := { name := "quotaRoom", fn := fun _ => fun
  | [d] => { results := [.lit (.bool true)], args := [d] }
  | _ => none }
def quotaRoomRow : OpenClaim := { program := "ytnjlhbbhdhfmnaa", sum := "831961216fde501c19ce7bc476a6a9bb2a35111ff1a583a340938503f005cb76", func := "lethe/lethelaw04.QuotaRoom", spec := "quotaRoom", unfollowed := true, recurses := true, apart := false }
def QuotaRoomSaid : Prop := quotaRoomRow.holds Try.pinned (OpenSpec.ofChange quotaRoomSpec)

/-- ITS FALSE NEIGHBOUR: 'it returns false'. Refute it at one input. -/
def quotaRoomWrong : ChangeSpec := { name := "quotaRoom", fn := fun _ => fun
  | [d] => { results := [.lit (.bool false)], args := [d] }
  | _ => none }
def QuotaRoomWrongFalsely : Prop := quotaRoomRow.holds Try.pinned (OpenSpec.ofChange quotaRoomWrong)

/-- 'lethelaw04.QuotaGrows': WHATEVER THE INPUT: true; the input reads as it did. -/
def quotaGrowsSpec : ChangeSpec := { name := "quotaGrows", fn := fun _ => fun
  | [d1, d2, d3, d4] => { results := [.lit (.bool true)], args := [d1, d2, d3, d4] }
  | _ => none }
def quotaGrowsRow : OpenClaim := { program := "ytnjlhbbhdhfmnaa", sum := "831961216fde501c19ce7bc476a6a9bb2a35111ff1a583a340938503f005cb76", func := "lethe/lethelaw04.QuotaGrows", spec := "quotaGrows", unfollowed := true, recurses := true, apart := false }
def QuotaGrowsSaid : Prop := quotaGrowsRow.holds Try.pinned (OpenSpec.ofChange quotaGrowsSpec)

/-- ITS FALSE NEIGHBOUR: 'it returns false'. Refute it at one input. -/
def quotaGrowsWrong : ChangeSpec := { name := "quotaGrows", fn := fun _ => fun
  | [d1, d2, d3, d4] => { results := [.lit (.bool false)], args := [d1, d2, d3, d4] }
  | _ => none }
def QuotaGrowsWrongFalsely : Prop := quotaGrowsRow.holds Try.pinned (OpenSpec.ofChange quotaGrowsWrong)

/- THE SECOND FORM. 'bulk': how many values and letters a reading holds, each counted each time it is reached (what is shared counts as often as it is met; a slice's spare places count too). A statement '..UptoSaid' is the law's where the arguments, and the package variables that the reading takes, are together of bulk at most 1048576: NARROWER than '..Said'. Prove '..Said' where nothing that the law and all that it calls make is longer than what came in: it says more and counts as full. Else prove '..UptoSaid'. A law counts once. -/
mutual
def uptoBulk {H : Type} : DataW H → Nat
  | .lit (.string bytes) => bytes.length + 1
  | .lit _ => 1
  | .nil => 1
  | .ptr d => uptoBulk d + 1
  | .slice elems spare => uptoBulkAll elems + uptoBulkAll spare + 1
  | .agg parts => uptoBulkAll parts + 1
  | .iface _ d => uptoBulk d + 1
  | .map entries => uptoBulkEntries entries + 1
  | .held _ => 1
def uptoBulkAll {H : Type} : List (DataW H) → Nat
  | [] => 0
  | d :: r => uptoBulk d + uptoBulkAll r
def uptoBulkEntries {H : Type} : List (Lit × DataW H) → Nat
  | [] => 0
  | x :: r => uptoBulkEntry x + uptoBulkEntries r
def uptoBulkEntry {H : Type} : Lit × DataW H → Nat
  | (.string bytes, d) => bytes.length + uptoBulk d + 1
  | (_, d) => uptoBulk d + 1
 end
def uptoSmall : (H : Type) → List (DataW H) → Bool := fun _ ds => decide (uptoBulkAll ds ≤ 1048576)
def OpenSpec.upto (s : _root_.Go.ChangeSpec) : _root_.Go.OpenSpec := { _root_.Go.OpenSpec.ofChange s with cond := some uptoSmall }

/-- 'lethelaw04.QuotaRights', WHERE WHAT IT READS IS OF BULK AT MOST 1048576: true; the input reads as it did. -/
def quotaRightsUptoRow : OpenClaim := { program := "ytnjlhbbhdhfmnaa", sum := "831961216fde501c19ce7bc476a6a9bb2a35111ff1a583a340938503f005cb76", func := "lethe/lethelaw04.QuotaRights", spec := "quotaRights", apart := false, narrowed := true }
def QuotaRightsUptoSaid : Prop := quotaRightsUptoRow.holds Try.pinned (OpenSpec.upto quotaRightsSpec)

/-- 'lethelaw04.QuotaLevels', WHERE WHAT IT READS IS OF BULK AT MOST 1048576: true; the input reads as it did. -/
def quotaLevelsUptoRow : OpenClaim := { program := "ytnjlhbbhdhfmnaa", sum := "831961216fde501c19ce7bc476a6a9bb2a35111ff1a583a340938503f005cb76", func := "lethe/lethelaw04.QuotaLevels", spec := "quotaLevels", unfollowed := true, recurses := true, apart := false, narrowed := true }
def QuotaLevelsUptoSaid : Prop := quotaLevelsUptoRow.holds Try.pinned (OpenSpec.upto quotaLevelsSpec)

/-- 'lethelaw04.QuotaNumbers', WHERE WHAT IT READS IS OF BULK AT MOST 1048576: true; the input reads as it did. -/
def quotaNumbersUptoRow : OpenClaim := { program := "ytnjlhbbhdhfmnaa", sum := "831961216fde501c19ce7bc476a6a9bb2a35111ff1a583a340938503f005cb76", func := "lethe/lethelaw04.QuotaNumbers", spec := "quotaNumbers", unfollowed := true, recurses := true, apart := false, narrowed := true }
def QuotaNumbersUptoSaid : Prop := quotaNumbersUptoRow.holds Try.pinned (OpenSpec.upto quotaNumbersSpec)

/-- 'lethelaw04.QuotaRoom', WHERE WHAT IT READS IS OF BULK AT MOST 1048576: true; the input reads as it did. -/
def quotaRoomUptoRow : OpenClaim := { program := "ytnjlhbbhdhfmnaa", sum := "831961216fde501c19ce7bc476a6a9bb2a35111ff1a583a340938503f005cb76", func := "lethe/lethelaw04.QuotaRoom", spec := "quotaRoom", unfollowed := true, recurses := true, apart := false, narrowed := true }
def QuotaRoomUptoSaid : Prop := quotaRoomUptoRow.holds Try.pinned (OpenSpec.upto quotaRoomSpec)

/-- 'lethelaw04.QuotaGrows', WHERE WHAT IT READS IS OF BULK AT MOST 1048576: true; the input reads as it did. -/
def quotaGrowsUptoRow : OpenClaim := { program := "ytnjlhbbhdhfmnaa", sum := "831961216fde501c19ce7bc476a6a9bb2a35111ff1a583a340938503f005cb76", func := "lethe/lethelaw04.QuotaGrows", spec := "quotaGrows", unfollowed := true, recurses := true, apart := false, narrowed := true }
def QuotaGrowsUptoSaid : Prop := quotaGrowsUptoRow.holds Try.pinned (OpenSpec.upto quotaGrowsSpec)

end Rows
end Go.Proofs.Ytnjlhbbhdhfmnaa
