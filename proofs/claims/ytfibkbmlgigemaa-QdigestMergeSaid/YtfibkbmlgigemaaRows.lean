/-
  No cell of these rows narrows 'for every input' (looked for: loops, veiled, ifaces, maps, wideKeys, modest, calm, conditions, laid).
  DERIVED. THE GIVEN ROWS OF THIS SEAT. 8 by the template 'for every input the law returns true; each argument reads behind the call as it read before'; 0 by the template 'total and deterministic' (their statements: YtfibkbmlgigemaaTotals.lean).
  GIVEN WITH THE SEED: the statements are not yours to turn. If you find one false, say at which input.
  Laid BY PROGRAM, IN A SANDBOX (cutbox-rows.mjs): the forced cells as the released guide's own fill.sh prints them over the translation 3d8060e125af8831… (all of the seat's roots in one cut). By AI agents, Wed Nov 11 2026. No macro, syntax, notation, axiom, sorry.
-/
import Derived.Test.YtfibkbmlgigemaaChecked
import GoSem.Claim
import GoSem.ClaimJoined
import GoSem.ClaimMapViews
import Derived.JoinedTies
import Derived.KernelRfl
namespace Go.Proofs.Ytfibkbmlgigemaa
/- THE CELL 'sum', in the pinned program and in every row, IS THE sha256 OF THE DUMP (.gsa) THAT YtfibkbmlgigemaaProg.lean LOADS. Nothing in Lean hashes anything: it is a label: what it is worth is what the hold of that sum in a sandbox is worth. -/
noncomputable def Try.pinned : Pinned := { name := "ytfibkbmlgigemaa", sum := "3d8060e125af883190d5bf0307ae7bc44eded84e49194b7c23b69e6fed6302c5", checked := Try.checked }
namespace Rows
def none {H : Type} : Left H := { results := [], args := [] }

/-- 'lookoutlaw31.QdigestBuild': WHATEVER THE INPUT: true; the input reads as it did. -/
def qdigestBuildSpec : ChangeSpec := { name := "qdigestBuild", fn := fun _ => fun
  | [d1, d2, d3] => { results := [.lit (.bool true)], args := [d1, d2, d3] }
  | _ => none }
def qdigestBuildRow : OpenClaim := { program := "ytfibkbmlgigemaa", sum := "3d8060e125af883190d5bf0307ae7bc44eded84e49194b7c23b69e6fed6302c5", func := "lookout/lookoutlaw31.QdigestBuild", spec := "qdigestBuild", inPlace := ["slices.overlaps[lookout/api.DigestNode]"], unfollowed := true, recurses := true, named := ["math/bits.divideError", "math/bits.overflowError"], apart := false }
def QdigestBuildSaid : Prop := qdigestBuildRow.holds Try.pinned (OpenSpec.ofChange qdigestBuildSpec)

/-- ITS FALSE NEIGHBOUR: 'it returns false'. Refute it at one input. -/
def qdigestBuildWrong : ChangeSpec := { name := "qdigestBuild", fn := fun _ => fun
  | [d1, d2, d3] => { results := [.lit (.bool false)], args := [d1, d2, d3] }
  | _ => none }
def QdigestBuildWrongFalsely : Prop := qdigestBuildRow.holds Try.pinned (OpenSpec.ofChange qdigestBuildWrong)

/-- 'lookoutlaw31.QdigestQueries': WHATEVER THE INPUT: true; the input reads as it did. -/
def qdigestQueriesSpec : ChangeSpec := { name := "qdigestQueries", fn := fun _ => fun
  | [d1, d2, d3] => { results := [.lit (.bool true)], args := [d1, d2, d3] }
  | _ => none }
def qdigestQueriesRow : OpenClaim := { program := "ytfibkbmlgigemaa", sum := "3d8060e125af883190d5bf0307ae7bc44eded84e49194b7c23b69e6fed6302c5", func := "lookout/lookoutlaw31.QdigestQueries", spec := "qdigestQueries", inPlace := ["slices.overlaps[lookout/api.DigestNode]"], unfollowed := true, recurses := true, named := ["math/bits.divideError", "math/bits.overflowError"], apart := false }
def QdigestQueriesSaid : Prop := qdigestQueriesRow.holds Try.pinned (OpenSpec.ofChange qdigestQueriesSpec)

/-- ITS FALSE NEIGHBOUR: 'it returns false'. Refute it at one input. -/
def qdigestQueriesWrong : ChangeSpec := { name := "qdigestQueries", fn := fun _ => fun
  | [d1, d2, d3] => { results := [.lit (.bool false)], args := [d1, d2, d3] }
  | _ => none }
def QdigestQueriesWrongFalsely : Prop := qdigestQueriesRow.holds Try.pinned (OpenSpec.ofChange qdigestQueriesWrong)

/-- 'lookoutlaw31.QdigestRanks': WHATEVER THE INPUT: true; the input reads as it did. -/
def qdigestRanksSpec : ChangeSpec := { name := "qdigestRanks", fn := fun _ => fun
  | [d1, d2] => { results := [.lit (.bool true)], args := [d1, d2] }
  | _ => none }
def qdigestRanksRow : OpenClaim := { program := "ytfibkbmlgigemaa", sum := "3d8060e125af883190d5bf0307ae7bc44eded84e49194b7c23b69e6fed6302c5", func := "lookout/lookoutlaw31.QdigestRanks", spec := "qdigestRanks", inPlace := ["slices.overlaps[lookout/api.DigestNode]"], unfollowed := true, recurses := true, named := ["math/bits.divideError", "math/bits.overflowError"], apart := false }
def QdigestRanksSaid : Prop := qdigestRanksRow.holds Try.pinned (OpenSpec.ofChange qdigestRanksSpec)

/-- ITS FALSE NEIGHBOUR: 'it returns false'. Refute it at one input. -/
def qdigestRanksWrong : ChangeSpec := { name := "qdigestRanks", fn := fun _ => fun
  | [d1, d2] => { results := [.lit (.bool false)], args := [d1, d2] }
  | _ => none }
def QdigestRanksWrongFalsely : Prop := qdigestRanksRow.holds Try.pinned (OpenSpec.ofChange qdigestRanksWrong)

/-- 'lookoutlaw31.QdigestCompress': WHATEVER THE INPUT: true; the input reads as it did. -/
def qdigestCompressSpec : ChangeSpec := { name := "qdigestCompress", fn := fun _ => fun
  | [d1, d2] => { results := [.lit (.bool true)], args := [d1, d2] }
  | _ => none }
def qdigestCompressRow : OpenClaim := { program := "ytfibkbmlgigemaa", sum := "3d8060e125af883190d5bf0307ae7bc44eded84e49194b7c23b69e6fed6302c5", func := "lookout/lookoutlaw31.QdigestCompress", spec := "qdigestCompress", inPlace := ["slices.overlaps[lookout/api.DigestNode]"], unfollowed := true, recurses := true, named := ["math/bits.divideError", "math/bits.overflowError"], apart := false }
def QdigestCompressSaid : Prop := qdigestCompressRow.holds Try.pinned (OpenSpec.ofChange qdigestCompressSpec)

/-- ITS FALSE NEIGHBOUR: 'it returns false'. Refute it at one input. -/
def qdigestCompressWrong : ChangeSpec := { name := "qdigestCompress", fn := fun _ => fun
  | [d1, d2] => { results := [.lit (.bool false)], args := [d1, d2] }
  | _ => none }
def QdigestCompressWrongFalsely : Prop := qdigestCompressRow.holds Try.pinned (OpenSpec.ofChange qdigestCompressWrong)

/-- 'lookoutlaw31.QdigestMerged': WHATEVER THE INPUT: true; the input reads as it did. -/
def qdigestMergedSpec : ChangeSpec := { name := "qdigestMerged", fn := fun _ => fun
  | [d1, d2] => { results := [.lit (.bool true)], args := [d1, d2] }
  | _ => none }
def qdigestMergedRow : OpenClaim := { program := "ytfibkbmlgigemaa", sum := "3d8060e125af883190d5bf0307ae7bc44eded84e49194b7c23b69e6fed6302c5", func := "lookout/lookoutlaw31.QdigestMerged", spec := "qdigestMerged", inPlace := ["slices.overlaps[lookout/api.DigestNode]"], unfollowed := true, recurses := true, named := ["math/bits.divideError", "math/bits.overflowError"], apart := false }
def QdigestMergedSaid : Prop := qdigestMergedRow.holds Try.pinned (OpenSpec.ofChange qdigestMergedSpec)

/-- ITS FALSE NEIGHBOUR: 'it returns false'. Refute it at one input. -/
def qdigestMergedWrong : ChangeSpec := { name := "qdigestMerged", fn := fun _ => fun
  | [d1, d2] => { results := [.lit (.bool false)], args := [d1, d2] }
  | _ => none }
def QdigestMergedWrongFalsely : Prop := qdigestMergedRow.holds Try.pinned (OpenSpec.ofChange qdigestMergedWrong)

/-- 'lookoutlaw31.QdigestCodec': WHATEVER THE INPUT: true; the input reads as it did. -/
def qdigestCodecSpec : ChangeSpec := { name := "qdigestCodec", fn := fun _ => fun
  | [d1, d2] => { results := [.lit (.bool true)], args := [d1, d2] }
  | _ => none }
def qdigestCodecRow : OpenClaim := { program := "ytfibkbmlgigemaa", sum := "3d8060e125af883190d5bf0307ae7bc44eded84e49194b7c23b69e6fed6302c5", func := "lookout/lookoutlaw31.QdigestCodec", spec := "qdigestCodec", inPlace := ["slices.overlaps[lookout/api.DigestNode]"], unfollowed := true, recurses := true, named := ["math/bits.divideError", "math/bits.overflowError"], apart := false }
def QdigestCodecSaid : Prop := qdigestCodecRow.holds Try.pinned (OpenSpec.ofChange qdigestCodecSpec)

/-- ITS FALSE NEIGHBOUR: 'it returns false'. Refute it at one input. -/
def qdigestCodecWrong : ChangeSpec := { name := "qdigestCodec", fn := fun _ => fun
  | [d1, d2] => { results := [.lit (.bool false)], args := [d1, d2] }
  | _ => none }
def QdigestCodecWrongFalsely : Prop := qdigestCodecRow.holds Try.pinned (OpenSpec.ofChange qdigestCodecWrong)

/-- 'lookoutlaw31.QdigestMerge': WHATEVER THE INPUT: true; the input reads as it did. -/
def qdigestMergeSpec : ChangeSpec := { name := "qdigestMerge", fn := fun _ => fun
  | [d1, d2, d3] => { results := [.lit (.bool true)], args := [d1, d2, d3] }
  | _ => none }
def qdigestMergeRow : OpenClaim := { program := "ytfibkbmlgigemaa", sum := "3d8060e125af883190d5bf0307ae7bc44eded84e49194b7c23b69e6fed6302c5", func := "lookout/lookoutlaw31.QdigestMerge", spec := "qdigestMerge", inPlace := ["slices.overlaps[lookout/api.DigestNode]"], unfollowed := true, recurses := true, named := ["math/bits.divideError", "math/bits.overflowError"], apart := false }
def QdigestMergeSaid : Prop := qdigestMergeRow.holds Try.pinned (OpenSpec.ofChange qdigestMergeSpec)

/-- ITS FALSE NEIGHBOUR: 'it returns false'. Refute it at one input. -/
def qdigestMergeWrong : ChangeSpec := { name := "qdigestMerge", fn := fun _ => fun
  | [d1, d2, d3] => { results := [.lit (.bool false)], args := [d1, d2, d3] }
  | _ => none }
def QdigestMergeWrongFalsely : Prop := qdigestMergeRow.holds Try.pinned (OpenSpec.ofChange qdigestMergeWrong)

/-- 'lookoutlaw31.QdigestQuantiles': WHATEVER THE INPUT: true; the input reads as it did. -/
def qdigestQuantilesSpec : ChangeSpec := { name := "qdigestQuantiles", fn := fun _ => fun
  | [d1, d2, d3] => { results := [.lit (.bool true)], args := [d1, d2, d3] }
  | _ => none }
def qdigestQuantilesRow : OpenClaim := { program := "ytfibkbmlgigemaa", sum := "3d8060e125af883190d5bf0307ae7bc44eded84e49194b7c23b69e6fed6302c5", func := "lookout/lookoutlaw31.QdigestQuantiles", spec := "qdigestQuantiles", inPlace := ["slices.overlaps[lookout/api.DigestNode]"], unfollowed := true, recurses := true, named := ["math/bits.divideError", "math/bits.overflowError"], apart := false }
def QdigestQuantilesSaid : Prop := qdigestQuantilesRow.holds Try.pinned (OpenSpec.ofChange qdigestQuantilesSpec)

/-- ITS FALSE NEIGHBOUR: 'it returns false'. Refute it at one input. -/
def qdigestQuantilesWrong : ChangeSpec := { name := "qdigestQuantiles", fn := fun _ => fun
  | [d1, d2, d3] => { results := [.lit (.bool false)], args := [d1, d2, d3] }
  | _ => none }
def QdigestQuantilesWrongFalsely : Prop := qdigestQuantilesRow.holds Try.pinned (OpenSpec.ofChange qdigestQuantilesWrong)

/- THE SECOND FORM. 'bulk': how many values and letters a reading holds, each counted each time it is reached (what is shared counts as often as it is met; a slice's spare places count too). A statement '..UptoSaid' is the law's where the arguments, and the package variables that the reading takes, are together of bulk at most 1048576: NARROWER than '..Said'. Prove '..Said' where nothing that the law and all that it calls make is longer than what came in: it says more and counts as full. Else prove '..UptoSaid'. A law counts once. -/
mutual
def uptoBulk {H : Type} : DataW H → Nat
  | .lit (.string bytes) => bytes.length + 1
  | .lit _ => 1
  | .nil => 1
  | .ptr d => uptoBulk d + 1
  | .slice elems spare => uptoBulkAll elems + uptoBulkAll spare + 1
  | .agg parts => uptoBulkAll parts + 1
  | .iface _ d => uptoBulk d + 1
  | .map entries => uptoBulkEntries entries + 1
  | .held _ => 1
def uptoBulkAll {H : Type} : List (DataW H) → Nat
  | [] => 0
  | d :: r => uptoBulk d + uptoBulkAll r
def uptoBulkEntries {H : Type} : List (Lit × DataW H) → Nat
  | [] => 0
  | x :: r => uptoBulkEntry x + uptoBulkEntries r
def uptoBulkEntry {H : Type} : Lit × DataW H → Nat
  | (.string bytes, d) => bytes.length + uptoBulk d + 1
  | (_, d) => uptoBulk d + 1
 end
def uptoSmall : (H : Type) → List (DataW H) → Bool := fun _ ds => decide (uptoBulkAll ds ≤ 1048576)
def OpenSpec.upto (s : _root_.Go.ChangeSpec) : _root_.Go.OpenSpec := { _root_.Go.OpenSpec.ofChange s with cond := some uptoSmall }

/-- 'lookoutlaw31.QdigestBuild', WHERE WHAT IT READS IS OF BULK AT MOST 1048576: true; the input reads as it did. -/
def qdigestBuildUptoRow : OpenClaim := { program := "ytfibkbmlgigemaa", sum := "3d8060e125af883190d5bf0307ae7bc44eded84e49194b7c23b69e6fed6302c5", func := "lookout/lookoutlaw31.QdigestBuild", spec := "qdigestBuild", inPlace := ["slices.overlaps[lookout/api.DigestNode]"], unfollowed := true, recurses := true, named := ["math/bits.divideError", "math/bits.overflowError"], apart := false, narrowed := true }
def QdigestBuildUptoSaid : Prop := qdigestBuildUptoRow.holds Try.pinned (OpenSpec.upto qdigestBuildSpec)

/-- 'lookoutlaw31.QdigestQueries', WHERE WHAT IT READS IS OF BULK AT MOST 1048576: true; the input reads as it did. -/
def qdigestQueriesUptoRow : OpenClaim := { program := "ytfibkbmlgigemaa", sum := "3d8060e125af883190d5bf0307ae7bc44eded84e49194b7c23b69e6fed6302c5", func := "lookout/lookoutlaw31.QdigestQueries", spec := "qdigestQueries", inPlace := ["slices.overlaps[lookout/api.DigestNode]"], unfollowed := true, recurses := true, named := ["math/bits.divideError", "math/bits.overflowError"], apart := false, narrowed := true }
def QdigestQueriesUptoSaid : Prop := qdigestQueriesUptoRow.holds Try.pinned (OpenSpec.upto qdigestQueriesSpec)

/-- 'lookoutlaw31.QdigestRanks', WHERE WHAT IT READS IS OF BULK AT MOST 1048576: true; the input reads as it did. -/
def qdigestRanksUptoRow : OpenClaim := { program := "ytfibkbmlgigemaa", sum := "3d8060e125af883190d5bf0307ae7bc44eded84e49194b7c23b69e6fed6302c5", func := "lookout/lookoutlaw31.QdigestRanks", spec := "qdigestRanks", inPlace := ["slices.overlaps[lookout/api.DigestNode]"], unfollowed := true, recurses := true, named := ["math/bits.divideError", "math/bits.overflowError"], apart := false, narrowed := true }
def QdigestRanksUptoSaid : Prop := qdigestRanksUptoRow.holds Try.pinned (OpenSpec.upto qdigestRanksSpec)

/-- 'lookoutlaw31.QdigestCompress', WHERE WHAT IT READS IS OF BULK AT MOST 1048576: true; the input reads as it did. -/
def qdigestCompressUptoRow : OpenClaim := { program := "ytfibkbmlgigemaa", sum := "3d8060e125af883190d5bf0307ae7bc44eded84e49194b7c23b69e6fed6302c5", func := "lookout/lookoutlaw31.QdigestCompress", spec := "qdigestCompress", inPlace := ["slices.overlaps[lookout/api.DigestNode]"], unfollowed := true, recurses := true, named := ["math/bits.divideError", "math/bits.overflowError"], apart := false, narrowed := true }
def QdigestCompressUptoSaid : Prop := qdigestCompressUptoRow.holds Try.pinned (OpenSpec.upto qdigestCompressSpec)

/-- 'lookoutlaw31.QdigestMerged', WHERE WHAT IT READS IS OF BULK AT MOST 1048576: true; the input reads as it did. -/
def qdigestMergedUptoRow : OpenClaim := { program := "ytfibkbmlgigemaa", sum := "3d8060e125af883190d5bf0307ae7bc44eded84e49194b7c23b69e6fed6302c5", func := "lookout/lookoutlaw31.QdigestMerged", spec := "qdigestMerged", inPlace := ["slices.overlaps[lookout/api.DigestNode]"], unfollowed := true, recurses := true, named := ["math/bits.divideError", "math/bits.overflowError"], apart := false, narrowed := true }
def QdigestMergedUptoSaid : Prop := qdigestMergedUptoRow.holds Try.pinned (OpenSpec.upto qdigestMergedSpec)

/-- 'lookoutlaw31.QdigestCodec', WHERE WHAT IT READS IS OF BULK AT MOST 1048576: true; the input reads as it did. -/
def qdigestCodecUptoRow : OpenClaim := { program := "ytfibkbmlgigemaa", sum := "3d8060e125af883190d5bf0307ae7bc44eded84e49194b7c23b69e6fed6302c5", func := "lookout/lookoutlaw31.QdigestCodec", spec := "qdigestCodec", inPlace := ["slices.overlaps[lookout/api.DigestNode]"], unfollowed := true, recurses := true, named := ["math/bits.divideError", "math/bits.overflowError"], apart := false, narrowed := true }
def QdigestCodecUptoSaid : Prop := qdigestCodecUptoRow.holds Try.pinned (OpenSpec.upto qdigestCodecSpec)

/-- 'lookoutlaw31.QdigestMerge', WHERE WHAT IT READS IS OF BULK AT MOST 1048576: true; the input reads as it did. -/
def qdigestMergeUptoRow : OpenClaim := { program := "ytfibkbmlgigemaa", sum := "3d8060e125af883190d5bf0307ae7bc44eded84e49194b7c23b69e6fed6302c5", func := "lookout/lookoutlaw31.QdigestMerge", spec := "qdigestMerge", inPlace := ["slices.overlaps[lookout/api.DigestNode]"], unfollowed := true, recurses := true, named := ["math/bits.divideError", "math/bits.overflowError"], apart := false, narrowed := true }
def QdigestMergeUptoSaid : Prop := qdigestMergeUptoRow.holds Try.pinned (OpenSpec.upto qdigestMergeSpec)

/-- 'lookoutlaw31.QdigestQuantiles', WHERE WHAT IT READS IS OF BULK AT MOST 1048576: true; the input reads as it did. -/
def qdigestQuantilesUptoRow : OpenClaim := { program := "ytfibkbmlgigemaa", sum := "3d8060e125af883190d5bf0307ae7bc44eded84e49194b7c23b69e6fed6302c5", func := "lookout/lookoutlaw31.QdigestQuantiles", spec := "qdigestQuantiles", inPlace := ["slices.overlaps[lookout/api.DigestNode]"], unfollowed := true, recurses := true, named := ["math/bits.divideError", "math/bits.overflowError"], apart := false, narrowed := true }
def QdigestQuantilesUptoSaid : Prop := qdigestQuantilesUptoRow.holds Try.pinned (OpenSpec.upto qdigestQuantilesSpec)

end Rows
end Go.Proofs.Ytfibkbmlgigemaa
