/-
  No cell of these rows narrows 'for every input' (looked for: loops, veiled, ifaces, maps, wideKeys, modest, calm, conditions, laid).
  DERIVED. THE GIVEN ROWS OF THIS SEAT. 5 by the template 'for every input the law returns true; each argument reads behind the call as it read before'; 0 by the template 'total and deterministic' (their statements: YtnkddbbcfolcdaaTotals.lean).
  GIVEN WITH THE SEED: the statements are not yours to turn. If you find one false, say at which input.
  Laid BY PROGRAM, IN A SANDBOX (cutbox-rows.mjs): the forced cells as the released guide's own fill.sh prints them over the translation 6fe01adcf78c122e… (all of the seat's roots in one cut). By AI agents, Wed Nov 11 2026. No macro, syntax, notation, axiom, sorry.
-/
import Derived.Test.YtnkddbbcfolcdaaChecked
import GoSem.Claim
import GoSem.ClaimJoined
import GoSem.ClaimMapViews
import Derived.JoinedTies
import Derived.KernelRfl
namespace Go.Proofs.Ytnkddbbcfolcdaa
/- THE CELL 'sum', in the pinned program and in every row, IS THE sha256 OF THE DUMP (.gsa) THAT YtnkddbbcfolcdaaProg.lean LOADS. Nothing in Lean hashes anything: it is a label: what it is worth is what the hold of that sum in a sandbox is worth. -/
noncomputable def Try.pinned : Pinned := { name := "ytnkddbbcfolcdaa", sum := "6fe01adcf78c122e5be38f28f3d2ee7edd0dc859e8e1cf0e05d6a6623b2f6996", checked := Try.checked }
namespace Rows
def none {H : Type} : Left H := { results := [], args := [] }

/-- 'lethelaw15.CacheOwn': WHATEVER THE INPUT: true; the input reads as it did. -/
def cacheOwnSpec : ChangeSpec := { name := "cacheOwn", fn := fun _ => fun
  | [d] => { results := [.lit (.bool true)], args := [d] }
  | _ => none }
def cacheOwnRow : OpenClaim := { program := "ytnkddbbcfolcdaa", sum := "6fe01adcf78c122e5be38f28f3d2ee7edd0dc859e8e1cf0e05d6a6623b2f6996", func := "lethe/lethelaw15.CacheOwn", spec := "cacheOwn", unfollowed := true, recurses := true, apart := false }
def CacheOwnSaid : Prop := cacheOwnRow.holds Try.pinned (OpenSpec.ofChange cacheOwnSpec)

/-- ITS FALSE NEIGHBOUR: 'it returns false'. Refute it at one input. -/
def cacheOwnWrong : ChangeSpec := { name := "cacheOwn", fn := fun _ => fun
  | [d] => { results := [.lit (.bool false)], args := [d] }
  | _ => none }
def CacheOwnWrongFalsely : Prop := cacheOwnRow.holds Try.pinned (OpenSpec.ofChange cacheOwnWrong)

/-- 'lethelaw15.CacheWiped': WHATEVER THE INPUT: true; the input reads as it did. -/
def cacheWipedSpec : ChangeSpec := { name := "cacheWiped", fn := fun _ => fun
  | [d1, d2, d3] => { results := [.lit (.bool true)], args := [d1, d2, d3] }
  | _ => none }
def cacheWipedRow : OpenClaim := { program := "ytnkddbbcfolcdaa", sum := "6fe01adcf78c122e5be38f28f3d2ee7edd0dc859e8e1cf0e05d6a6623b2f6996", func := "lethe/lethelaw15.CacheWiped", spec := "cacheWiped", unfollowed := true, recurses := true, apart := false }
def CacheWipedSaid : Prop := cacheWipedRow.holds Try.pinned (OpenSpec.ofChange cacheWipedSpec)

/-- ITS FALSE NEIGHBOUR: 'it returns false'. Refute it at one input. -/
def cacheWipedWrong : ChangeSpec := { name := "cacheWiped", fn := fun _ => fun
  | [d1, d2, d3] => { results := [.lit (.bool false)], args := [d1, d2, d3] }
  | _ => none }
def CacheWipedWrongFalsely : Prop := cacheWipedRow.holds Try.pinned (OpenSpec.ofChange cacheWipedWrong)

/-- 'lethelaw15.CacheHits': WHATEVER THE INPUT: true; the input reads as it did. -/
def cacheHitsSpec : ChangeSpec := { name := "cacheHits", fn := fun _ => fun
  | [d1, d2] => { results := [.lit (.bool true)], args := [d1, d2] }
  | _ => none }
def cacheHitsRow : OpenClaim := { program := "ytnkddbbcfolcdaa", sum := "6fe01adcf78c122e5be38f28f3d2ee7edd0dc859e8e1cf0e05d6a6623b2f6996", func := "lethe/lethelaw15.CacheHits", spec := "cacheHits", unfollowed := true, recurses := true, apart := false }
def CacheHitsSaid : Prop := cacheHitsRow.holds Try.pinned (OpenSpec.ofChange cacheHitsSpec)

/-- ITS FALSE NEIGHBOUR: 'it returns false'. Refute it at one input. -/
def cacheHitsWrong : ChangeSpec := { name := "cacheHits", fn := fun _ => fun
  | [d1, d2] => { results := [.lit (.bool false)], args := [d1, d2] }
  | _ => none }
def CacheHitsWrongFalsely : Prop := cacheHitsRow.holds Try.pinned (OpenSpec.ofChange cacheHitsWrong)

/-- 'lethelaw15.CacheTrue': WHATEVER THE INPUT: true; the input reads as it did. -/
def cacheTrueSpec : ChangeSpec := { name := "cacheTrue", fn := fun _ => fun
  | [d1, d2] => { results := [.lit (.bool true)], args := [d1, d2] }
  | _ => none }
def cacheTrueRow : OpenClaim := { program := "ytnkddbbcfolcdaa", sum := "6fe01adcf78c122e5be38f28f3d2ee7edd0dc859e8e1cf0e05d6a6623b2f6996", func := "lethe/lethelaw15.CacheTrue", spec := "cacheTrue", unfollowed := true, recurses := true, apart := false }
def CacheTrueSaid : Prop := cacheTrueRow.holds Try.pinned (OpenSpec.ofChange cacheTrueSpec)

/-- ITS FALSE NEIGHBOUR: 'it returns false'. Refute it at one input. -/
def cacheTrueWrong : ChangeSpec := { name := "cacheTrue", fn := fun _ => fun
  | [d1, d2] => { results := [.lit (.bool false)], args := [d1, d2] }
  | _ => none }
def CacheTrueWrongFalsely : Prop := cacheTrueRow.holds Try.pinned (OpenSpec.ofChange cacheTrueWrong)

/-- 'lethelaw15.CachePlays': WHATEVER THE INPUT: true; the input reads as it did. -/
def cachePlaysSpec : ChangeSpec := { name := "cachePlays", fn := fun _ => fun
  | [d1, d2] => { results := [.lit (.bool true)], args := [d1, d2] }
  | _ => none }
def cachePlaysRow : OpenClaim := { program := "ytnkddbbcfolcdaa", sum := "6fe01adcf78c122e5be38f28f3d2ee7edd0dc859e8e1cf0e05d6a6623b2f6996", func := "lethe/lethelaw15.CachePlays", spec := "cachePlays", unfollowed := true, recurses := true, apart := false }
def CachePlaysSaid : Prop := cachePlaysRow.holds Try.pinned (OpenSpec.ofChange cachePlaysSpec)

/-- ITS FALSE NEIGHBOUR: 'it returns false'. Refute it at one input. -/
def cachePlaysWrong : ChangeSpec := { name := "cachePlays", fn := fun _ => fun
  | [d1, d2] => { results := [.lit (.bool false)], args := [d1, d2] }
  | _ => none }
def CachePlaysWrongFalsely : Prop := cachePlaysRow.holds Try.pinned (OpenSpec.ofChange cachePlaysWrong)

/- THE SECOND FORM. 'bulk': how many values and letters a reading holds, each counted each time it is reached (what is shared counts as often as it is met; a slice's spare places count too). A statement '..UptoSaid' is the law's where the arguments, and the package variables that the reading takes, are together of bulk at most 1048576: NARROWER than '..Said'. Prove '..Said' where nothing that the law and all that it calls make is longer than what came in: it says more and counts as full. Else prove '..UptoSaid'. A law counts once. -/
mutual
def uptoBulk {H : Type} : DataW H → Nat
  | .lit (.string bytes) => bytes.length + 1
  | .lit _ => 1
  | .nil => 1
  | .ptr d => uptoBulk d + 1
  | .slice elems spare => uptoBulkAll elems + uptoBulkAll spare + 1
  | .agg parts => uptoBulkAll parts + 1
  | .iface _ d => uptoBulk d + 1
  | .map entries => uptoBulkEntries entries + 1
  | .held _ => 1
def uptoBulkAll {H : Type} : List (DataW H) → Nat
  | [] => 0
  | d :: r => uptoBulk d + uptoBulkAll r
def uptoBulkEntries {H : Type} : List (Lit × DataW H) → Nat
  | [] => 0
  | x :: r => uptoBulkEntry x + uptoBulkEntries r
def uptoBulkEntry {H : Type} : Lit × DataW H → Nat
  | (.string bytes, d) => bytes.length + uptoBulk d + 1
  | (_, d) => uptoBulk d + 1
 end
def uptoSmall : (H : Type) → List (DataW H) → Bool := fun _ ds => decide (uptoBulkAll ds ≤ 1048576)
def OpenSpec.upto (s : _root_.Go.ChangeSpec) : _root_.Go.OpenSpec := { _root_.Go.OpenSpec.ofChange s with cond := some uptoSmall }

/-- 'lethelaw15.CacheOwn', WHERE WHAT IT READS IS OF BULK AT MOST 1048576: true; the input reads as it did. -/
def cacheOwnUptoRow : OpenClaim := { program := "ytnkddbbcfolcdaa", sum := "6fe01adcf78c122e5be38f28f3d2ee7edd0dc859e8e1cf0e05d6a6623b2f6996", func := "lethe/lethelaw15.CacheOwn", spec := "cacheOwn", unfollowed := true, recurses := true, apart := false, narrowed := true }
def CacheOwnUptoSaid : Prop := cacheOwnUptoRow.holds Try.pinned (OpenSpec.upto cacheOwnSpec)

/-- 'lethelaw15.CacheWiped', WHERE WHAT IT READS IS OF BULK AT MOST 1048576: true; the input reads as it did. -/
def cacheWipedUptoRow : OpenClaim := { program := "ytnkddbbcfolcdaa", sum := "6fe01adcf78c122e5be38f28f3d2ee7edd0dc859e8e1cf0e05d6a6623b2f6996", func := "lethe/lethelaw15.CacheWiped", spec := "cacheWiped", unfollowed := true, recurses := true, apart := false, narrowed := true }
def CacheWipedUptoSaid : Prop := cacheWipedUptoRow.holds Try.pinned (OpenSpec.upto cacheWipedSpec)

/-- 'lethelaw15.CacheHits', WHERE WHAT IT READS IS OF BULK AT MOST 1048576: true; the input reads as it did. -/
def cacheHitsUptoRow : OpenClaim := { program := "ytnkddbbcfolcdaa", sum := "6fe01adcf78c122e5be38f28f3d2ee7edd0dc859e8e1cf0e05d6a6623b2f6996", func := "lethe/lethelaw15.CacheHits", spec := "cacheHits", unfollowed := true, recurses := true, apart := false, narrowed := true }
def CacheHitsUptoSaid : Prop := cacheHitsUptoRow.holds Try.pinned (OpenSpec.upto cacheHitsSpec)

/-- 'lethelaw15.CacheTrue', WHERE WHAT IT READS IS OF BULK AT MOST 1048576: true; the input reads as it did. -/
def cacheTrueUptoRow : OpenClaim := { program := "ytnkddbbcfolcdaa", sum := "6fe01adcf78c122e5be38f28f3d2ee7edd0dc859e8e1cf0e05d6a6623b2f6996", func := "lethe/lethelaw15.CacheTrue", spec := "cacheTrue", unfollowed := true, recurses := true, apart := false, narrowed := true }
def CacheTrueUptoSaid : Prop := cacheTrueUptoRow.holds Try.pinned (OpenSpec.upto cacheTrueSpec)

/-- 'lethelaw15.CachePlays', WHERE WHAT IT READS IS OF BULK AT MOST 1048576: true; the input reads as it did. -/
def cachePlaysUptoRow : OpenClaim := { program := "ytnkddbbcfolcdaa", sum := "6fe01adcf78c122e5be38f28f3d2ee7edd0dc859e8e1cf0e05d6a6623b2f6996", func := "lethe/lethelaw15.CachePlays", spec := "cachePlays", unfollowed := true, recurses := true, apart := false, narrowed := true }
def CachePlaysUptoSaid : Prop := cachePlaysUptoRow.holds Try.pinned (OpenSpec.upto cachePlaysSpec)

end Rows
end Go.Proofs.Ytnkddbbcfolcdaa
