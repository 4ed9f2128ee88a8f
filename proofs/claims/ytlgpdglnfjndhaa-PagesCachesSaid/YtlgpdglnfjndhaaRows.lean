/-
  No cell of these rows narrows 'for every input' (looked for: loops, veiled, ifaces, maps, wideKeys, modest, calm, conditions, laid).
  DERIVED. THE GIVEN ROWS OF THIS SEAT. 3 by the template 'for every input the law returns true; each argument reads behind the call as it read before'; 0 by the template 'total and deterministic' (their statements: YtlgpdglnfjndhaaTotals.lean).
  GIVEN WITH THE SEED: the statements are not yours to turn. If you find one false, say at which input.
  Laid BY PROGRAM, IN A SANDBOX (cutbox-rows.mjs): the forced cells as the released guide's own fill.sh prints them over the translation 7d9bb045b2489d9a… (all of the seat's roots in one cut). By AI agents, Wed Nov 11 2026. No macro, syntax, notation, axiom, sorry.
-/
import Derived.Test.YtlgpdglnfjndhaaChecked
import GoSem.Claim
import GoSem.ClaimJoined
import GoSem.ClaimMapViews
import Derived.JoinedTies
import Derived.KernelRfl
namespace Go.Proofs.Ytlgpdglnfjndhaa
/- THE CELL 'sum', in the pinned program and in every row, IS THE sha256 OF THE DUMP (.gsa) THAT YtlgpdglnfjndhaaProg.lean LOADS. Nothing in Lean hashes anything: it is a label: what it is worth is what the hold of that sum in a sandbox is worth. -/
noncomputable def Try.pinned : Pinned := { name := "ytlgpdglnfjndhaa", sum := "7d9bb045b2489d9afd9cbad34251812c37cc1322c8884e998c88d9462cd90709", checked := Try.checked }
namespace Rows
def none {H : Type} : Left H := { results := [], args := [] }

/-- 'lethelaw16.PagesCuts': WHATEVER THE INPUT: true; the input reads as it did. -/
def pagesCutsSpec : ChangeSpec := { name := "pagesCuts", fn := fun _ => fun
  | [d1, d2, d3, d4] => { results := [.lit (.bool true)], args := [d1, d2, d3, d4] }
  | _ => none }
def pagesCutsRow : OpenClaim := { program := "ytlgpdglnfjndhaa", sum := "7d9bb045b2489d9afd9cbad34251812c37cc1322c8884e998c88d9462cd90709", func := "lethe/lethelaw16.PagesCuts", spec := "pagesCuts", unfollowed := true, recurses := true, apart := false }
def PagesCutsSaid : Prop := pagesCutsRow.holds Try.pinned (OpenSpec.ofChange pagesCutsSpec)

/-- ITS FALSE NEIGHBOUR: 'it returns false'. Refute it at one input. -/
def pagesCutsWrong : ChangeSpec := { name := "pagesCuts", fn := fun _ => fun
  | [d1, d2, d3, d4] => { results := [.lit (.bool false)], args := [d1, d2, d3, d4] }
  | _ => none }
def PagesCutsWrongFalsely : Prop := pagesCutsRow.holds Try.pinned (OpenSpec.ofChange pagesCutsWrong)

/-- 'lethelaw16.PagesHarmed': WHATEVER THE INPUT: true; the input reads as it did. -/
def pagesHarmedSpec : ChangeSpec := { name := "pagesHarmed", fn := fun _ => fun
  | [d1, d2, d3, d4] => { results := [.lit (.bool true)], args := [d1, d2, d3, d4] }
  | _ => none }
def pagesHarmedRow : OpenClaim := { program := "ytlgpdglnfjndhaa", sum := "7d9bb045b2489d9afd9cbad34251812c37cc1322c8884e998c88d9462cd90709", func := "lethe/lethelaw16.PagesHarmed", spec := "pagesHarmed", unfollowed := true, recurses := true, apart := false }
def PagesHarmedSaid : Prop := pagesHarmedRow.holds Try.pinned (OpenSpec.ofChange pagesHarmedSpec)

/-- ITS FALSE NEIGHBOUR: 'it returns false'. Refute it at one input. -/
def pagesHarmedWrong : ChangeSpec := { name := "pagesHarmed", fn := fun _ => fun
  | [d1, d2, d3, d4] => { results := [.lit (.bool false)], args := [d1, d2, d3, d4] }
  | _ => none }
def PagesHarmedWrongFalsely : Prop := pagesHarmedRow.holds Try.pinned (OpenSpec.ofChange pagesHarmedWrong)

/-- 'lethelaw16.PagesCaches': WHATEVER THE INPUT: true; the input reads as it did. -/
def pagesCachesSpec : ChangeSpec := { name := "pagesCaches", fn := fun _ => fun
  | [d1, d2, d3, d4, d5] => { results := [.lit (.bool true)], args := [d1, d2, d3, d4, d5] }
  | _ => none }
def pagesCachesRow : OpenClaim := { program := "ytlgpdglnfjndhaa", sum := "7d9bb045b2489d9afd9cbad34251812c37cc1322c8884e998c88d9462cd90709", func := "lethe/lethelaw16.PagesCaches", spec := "pagesCaches", unfollowed := true, recurses := true, apart := false }
def PagesCachesSaid : Prop := pagesCachesRow.holds Try.pinned (OpenSpec.ofChange pagesCachesSpec)

/-- ITS FALSE NEIGHBOUR: 'it returns false'. Refute it at one input. -/
def pagesCachesWrong : ChangeSpec := { name := "pagesCaches", fn := fun _ => fun
  | [d1, d2, d3, d4, d5] => { results := [.lit (.bool false)], args := [d1, d2, d3, d4, d5] }
  | _ => none }
def PagesCachesWrongFalsely : Prop := pagesCachesRow.holds Try.pinned (OpenSpec.ofChange pagesCachesWrong)

/- THE SECOND FORM. 'bulk': how many values and letters a reading holds, each counted each time it is reached (what is shared counts as often as it is met; a slice's spare places count too). A statement '..UptoSaid' is the law's where the arguments, and the package variables that the reading takes, are together of bulk at most 1048576: NARROWER than '..Said'. Prove '..Said' where nothing that the law and all that it calls make is longer than what came in: it says more and counts as full. Else prove '..UptoSaid'. A law counts once. -/
mutual
def uptoBulk {H : Type} : DataW H → Nat
  | .lit (.string bytes) => bytes.length + 1
  | .lit _ => 1
  | .nil => 1
  | .ptr d => uptoBulk d + 1
  | .slice elems spare => uptoBulkAll elems + uptoBulkAll spare + 1
  | .agg parts => uptoBulkAll parts + 1
  | .iface _ d => uptoBulk d + 1
  | .map entries => uptoBulkEntries entries + 1
  | .held _ => 1
def uptoBulkAll {H : Type} : List (DataW H) → Nat
  | [] => 0
  | d :: r => uptoBulk d + uptoBulkAll r
def uptoBulkEntries {H : Type} : List (Lit × DataW H) → Nat
  | [] => 0
  | x :: r => uptoBulkEntry x + uptoBulkEntries r
def uptoBulkEntry {H : Type} : Lit × DataW H → Nat
  | (.string bytes, d) => bytes.length + uptoBulk d + 1
  | (_, d) => uptoBulk d + 1
 end
def uptoSmall : (H : Type) → List (DataW H) → Bool := fun _ ds => decide (uptoBulkAll ds ≤ 1048576)
def OpenSpec.upto (s : _root_.Go.ChangeSpec) : _root_.Go.OpenSpec := { _root_.Go.OpenSpec.ofChange s with cond := some uptoSmall }

/-- 'lethelaw16.PagesCuts', WHERE WHAT IT READS IS OF BULK AT MOST 1048576: true; the input reads as it did. -/
def pagesCutsUptoRow : OpenClaim := { program := "ytlgpdglnfjndhaa", sum := "7d9bb045b2489d9afd9cbad34251812c37cc1322c8884e998c88d9462cd90709", func := "lethe/lethelaw16.PagesCuts", spec := "pagesCuts", unfollowed := true, recurses := true, apart := false, narrowed := true }
def PagesCutsUptoSaid : Prop := pagesCutsUptoRow.holds Try.pinned (OpenSpec.upto pagesCutsSpec)

/-- 'lethelaw16.PagesHarmed', WHERE WHAT IT READS IS OF BULK AT MOST 1048576: true; the input reads as it did. -/
def pagesHarmedUptoRow : OpenClaim := { program := "ytlgpdglnfjndhaa", sum := "7d9bb045b2489d9afd9cbad34251812c37cc1322c8884e998c88d9462cd90709", func := "lethe/lethelaw16.PagesHarmed", spec := "pagesHarmed", unfollowed := true, recurses := true, apart := false, narrowed := true }
def PagesHarmedUptoSaid : Prop := pagesHarmedUptoRow.holds Try.pinned (OpenSpec.upto pagesHarmedSpec)

/-- 'lethelaw16.PagesCaches', WHERE WHAT IT READS IS OF BULK AT MOST 1048576: true; the input reads as it did. -/
def pagesCachesUptoRow : OpenClaim := { program := "ytlgpdglnfjndhaa", sum := "7d9bb045b2489d9afd9cbad34251812c37cc1322c8884e998c88d9462cd90709", func := "lethe/lethelaw16.PagesCaches", spec := "pagesCaches", unfollowed := true, recurses := true, apart := false, narrowed := true }
def PagesCachesUptoSaid : Prop := pagesCachesUptoRow.holds Try.pinned (OpenSpec.upto pagesCachesSpec)

end Rows
end Go.Proofs.Ytlgpdglnfjndhaa
