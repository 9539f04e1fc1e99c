/-
  No cell of these rows narrows 'for every input' (looked for: loops, veiled, ifaces, maps, wideKeys, modest, calm, conditions, laid).
  DERIVED. THE GIVEN ROWS OF THIS SEAT. 4 by the template 'for every input the law returns true; each argument reads behind the call as it read before'; 0 by the template 'total and deterministic' (their statements: YtbhcfbnkdbioaaaTotals.lean).
  GIVEN WITH THE SEED: the statements are not yours to turn. If you find one false, say at which input.
  Laid BY PROGRAM, IN A SANDBOX (cutbox-rows.mjs): the forced cells as the released guide's own fill.sh prints them over the translation eead201f612203de… (all of the seat's roots in one cut). By AI agents, Wed Nov 11 2026. No macro, syntax, notation, axiom, sorry.
-/
import Derived.Test.YtbhcfbnkdbioaaaChecked
import GoSem.Claim
import GoSem.ClaimJoined
import GoSem.ClaimMapViews
import Derived.JoinedTies
import Derived.KernelRfl
namespace Go.Proofs.Ytbhcfbnkdbioaaa
/- THE CELL 'sum', in the pinned program and in every row, IS THE sha256 OF THE DUMP (.gsa) THAT YtbhcfbnkdbioaaaProg.lean LOADS. Nothing in Lean hashes anything: it is a label: what it is worth is what the hold of that sum in a sandbox is worth. -/
noncomputable def Try.pinned : Pinned := { name := "ytbhcfbnkdbioaaa", sum := "eead201f612203de0b3bd70363b617cf8195d778b9fc0d7a86b5c3b9dce1248a", checked := Try.checked }
namespace Rows
def none {H : Type} : Left H := { results := [], args := [] }

/-- 'lookoutlaw39.FlameInvert': WHATEVER THE INPUT: true; the input reads as it did. -/
def flameInvertSpec : ChangeSpec := { name := "flameInvert", fn := fun _ => fun
  | [d1, d2] => { results := [.lit (.bool true)], args := [d1, d2] }
  | _ => none }
def flameInvertRow : OpenClaim := { program := "ytbhcfbnkdbioaaa", sum := "eead201f612203de0b3bd70363b617cf8195d778b9fc0d7a86b5c3b9dce1248a", func := "lookout/lookoutlaw39.FlameInvert", spec := "flameInvert", unfollowed := true, recurses := true, apart := false }
def FlameInvertSaid : Prop := flameInvertRow.holds Try.pinned (OpenSpec.ofChange flameInvertSpec)

/-- ITS FALSE NEIGHBOUR: 'it returns false'. Refute it at one input. -/
def flameInvertWrong : ChangeSpec := { name := "flameInvert", fn := fun _ => fun
  | [d1, d2] => { results := [.lit (.bool false)], args := [d1, d2] }
  | _ => none }
def FlameInvertWrongFalsely : Prop := flameInvertRow.holds Try.pinned (OpenSpec.ofChange flameInvertWrong)

/-- 'lookoutlaw39.FlamePrune': WHATEVER THE INPUT: true; the input reads as it did. -/
def flamePruneSpec : ChangeSpec := { name := "flamePrune", fn := fun _ => fun
  | [d1, d2, d3] => { results := [.lit (.bool true)], args := [d1, d2, d3] }
  | _ => none }
def flamePruneRow : OpenClaim := { program := "ytbhcfbnkdbioaaa", sum := "eead201f612203de0b3bd70363b617cf8195d778b9fc0d7a86b5c3b9dce1248a", func := "lookout/lookoutlaw39.FlamePrune", spec := "flamePrune", unfollowed := true, recurses := true, apart := false }
def FlamePruneSaid : Prop := flamePruneRow.holds Try.pinned (OpenSpec.ofChange flamePruneSpec)

/-- ITS FALSE NEIGHBOUR: 'it returns false'. Refute it at one input. -/
def flamePruneWrong : ChangeSpec := { name := "flamePrune", fn := fun _ => fun
  | [d1, d2, d3] => { results := [.lit (.bool false)], args := [d1, d2, d3] }
  | _ => none }
def FlamePruneWrongFalsely : Prop := flamePruneRow.holds Try.pinned (OpenSpec.ofChange flamePruneWrong)

/-- 'lookoutlaw39.FlameTable': WHATEVER THE INPUT: true; the input reads as it did. -/
def flameTableSpec : ChangeSpec := { name := "flameTable", fn := fun _ => fun
  | [d] => { results := [.lit (.bool true)], args := [d] }
  | _ => none }
def flameTableRow : OpenClaim := { program := "ytbhcfbnkdbioaaa", sum := "eead201f612203de0b3bd70363b617cf8195d778b9fc0d7a86b5c3b9dce1248a", func := "lookout/lookoutlaw39.FlameTable", spec := "flameTable", unfollowed := true, recurses := true, apart := false }
def FlameTableSaid : Prop := flameTableRow.holds Try.pinned (OpenSpec.ofChange flameTableSpec)

/-- ITS FALSE NEIGHBOUR: 'it returns false'. Refute it at one input. -/
def flameTableWrong : ChangeSpec := { name := "flameTable", fn := fun _ => fun
  | [d] => { results := [.lit (.bool false)], args := [d] }
  | _ => none }
def FlameTableWrongFalsely : Prop := flameTableRow.holds Try.pinned (OpenSpec.ofChange flameTableWrong)

/-- 'lookoutlaw39.FlameFocus': WHATEVER THE INPUT: true; the input reads as it did. -/
def flameFocusSpec : ChangeSpec := { name := "flameFocus", fn := fun _ => fun
  | [d1, d2] => { results := [.lit (.bool true)], args := [d1, d2] }
  | _ => none }
def flameFocusRow : OpenClaim := { program := "ytbhcfbnkdbioaaa", sum := "eead201f612203de0b3bd70363b617cf8195d778b9fc0d7a86b5c3b9dce1248a", func := "lookout/lookoutlaw39.FlameFocus", spec := "flameFocus", unfollowed := true, recurses := true, apart := false }
def FlameFocusSaid : Prop := flameFocusRow.holds Try.pinned (OpenSpec.ofChange flameFocusSpec)

/-- ITS FALSE NEIGHBOUR: 'it returns false'. Refute it at one input. -/
def flameFocusWrong : ChangeSpec := { name := "flameFocus", fn := fun _ => fun
  | [d1, d2] => { results := [.lit (.bool false)], args := [d1, d2] }
  | _ => none }
def FlameFocusWrongFalsely : Prop := flameFocusRow.holds Try.pinned (OpenSpec.ofChange flameFocusWrong)

/- THE SECOND FORM. 'bulk': how many values and letters a reading holds, each counted each time it is reached (what is shared counts as often as it is met; a slice's spare places count too). A statement '..UptoSaid' is the law's where the arguments, and the package variables that the reading takes, are together of bulk at most 1048576: NARROWER than '..Said'. Prove '..Said' where nothing that the law and all that it calls make is longer than what came in: it says more and counts as full. Else prove '..UptoSaid'. A law counts once. -/
mutual
def uptoBulk {H : Type} : DataW H → Nat
  | .lit (.string bytes) => bytes.length + 1
  | .lit _ => 1
  | .nil => 1
  | .ptr d => uptoBulk d + 1
  | .slice elems spare => uptoBulkAll elems + uptoBulkAll spare + 1
  | .agg parts => uptoBulkAll parts + 1
  | .iface _ d => uptoBulk d + 1
  | .map entries => uptoBulkEntries entries + 1
  | .held _ => 1
def uptoBulkAll {H : Type} : List (DataW H) → Nat
  | [] => 0
  | d :: r => uptoBulk d + uptoBulkAll r
def uptoBulkEntries {H : Type} : List (Lit × DataW H) → Nat
  | [] => 0
  | x :: r => uptoBulkEntry x + uptoBulkEntries r
def uptoBulkEntry {H : Type} : Lit × DataW H → Nat
  | (.string bytes, d) => bytes.length + uptoBulk d + 1
  | (_, d) => uptoBulk d + 1
 end
def uptoSmall : (H : Type) → List (DataW H) → Bool := fun _ ds => decide (uptoBulkAll ds ≤ 1048576)
def OpenSpec.upto (s : _root_.Go.ChangeSpec) : _root_.Go.OpenSpec := { _root_.Go.OpenSpec.ofChange s with cond := some uptoSmall }

/-- 'lookoutlaw39.FlameInvert', WHERE WHAT IT READS IS OF BULK AT MOST 1048576: true; the input reads as it did. -/
def flameInvertUptoRow : OpenClaim := { program := "ytbhcfbnkdbioaaa", sum := "eead201f612203de0b3bd70363b617cf8195d778b9fc0d7a86b5c3b9dce1248a", func := "lookout/lookoutlaw39.FlameInvert", spec := "flameInvert", unfollowed := true, recurses := true, apart := false, narrowed := true }
def FlameInvertUptoSaid : Prop := flameInvertUptoRow.holds Try.pinned (OpenSpec.upto flameInvertSpec)

/-- 'lookoutlaw39.FlamePrune', WHERE WHAT IT READS IS OF BULK AT MOST 1048576: true; the input reads as it did. -/
def flamePruneUptoRow : OpenClaim := { program := "ytbhcfbnkdbioaaa", sum := "eead201f612203de0b3bd70363b617cf8195d778b9fc0d7a86b5c3b9dce1248a", func := "lookout/lookoutlaw39.FlamePrune", spec := "flamePrune", unfollowed := true, recurses := true, apart := false, narrowed := true }
def FlamePruneUptoSaid : Prop := flamePruneUptoRow.holds Try.pinned (OpenSpec.upto flamePruneSpec)

/-- 'lookoutlaw39.FlameTable', WHERE WHAT IT READS IS OF BULK AT MOST 1048576: true; the input reads as it did. -/
def flameTableUptoRow : OpenClaim := { program := "ytbhcfbnkdbioaaa", sum := "eead201f612203de0b3bd70363b617cf8195d778b9fc0d7a86b5c3b9dce1248a", func := "lookout/lookoutlaw39.FlameTable", spec := "flameTable", unfollowed := true, recurses := true, apart := false, narrowed := true }
def FlameTableUptoSaid : Prop := flameTableUptoRow.holds Try.pinned (OpenSpec.upto flameTableSpec)

/-- 'lookoutlaw39.FlameFocus', WHERE WHAT IT READS IS OF BULK AT MOST 1048576: true; the input reads as it did. -/
def flameFocusUptoRow : OpenClaim := { program := "ytbhcfbnkdbioaaa", sum := "eead201f612203de0b3bd70363b617cf8195d778b9fc0d7a86b5c3b9dce1248a", func := "lookout/lookoutlaw39.FlameFocus", spec := "flameFocus", unfollowed := true, recurses := true, apart := false, narrowed := true }
def FlameFocusUptoSaid : Prop := flameFocusUptoRow.holds Try.pinned (OpenSpec.upto flameFocusSpec)

end Rows
end Go.Proofs.Ytbhcfbnkdbioaaa
