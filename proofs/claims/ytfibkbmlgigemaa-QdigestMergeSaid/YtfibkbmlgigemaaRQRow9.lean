/- QdigestMerge returns true for every input, and leaves its arguments as they were. No conditions beyond the given statement. -/
import Derived.Test.YtfibkbmlgigemaaRows
import Derived.Test.YtfibkbmlgigemaaM7
import Derived.ProofKit
set_option maxRecDepth 100000
namespace Go.Q
open Go Go.T Go.Pl Go.Proofs
theorem law9_F (vs : List TV) (h1 : vs.map (·.t) = c9.as) (h2 : ∀ v ∈ vs, InV v) : ∃ x, zAg c9 x = vs ∧ ∃ y, c9.F x = some y ∧ zBB c9 y = ⟨.bool, true⟩ := by
 obtain ⟨d, e, s, rfl⟩ := three_of (a := tD) (b := tD) (c := .str) h1
 obtain ⟨bits, k, count, nodes⟩ := (d : Dg)
 exact ⟨((bits, k, count, nodes), (e : Dg), s), rfl, true, law9 bits k count nodes (e : Dg) s, rfl⟩
end Go.Q
namespace Go.Proofs.Ytfibkbmlgigemaa
open Go.ChangeShapes Go.WideShapes Go.ChangeAt Go.RowKit
theorem Try.own : ownKnob Try.prog.godebug = none := by kernel_rfl
theorem Try.laidOut : laidOutB Try.prog = true := by kernel_rfl
theorem merge_holds_lifted (os : Os) (started : os.Started) (H : Type) (enc : TypeId × Value → H) :
   ReturnsInHanded {} Try.checked os 9 .any (Rows.qdigestMergeSpec.pre6 enc Try.prog Try.f9 Rows.qdigestMergeRow.domain false) (Rows.qdigestMergeSpec.post enc Try.prog Try.f9 false true false false) := by
 refine returnsInHanded_of_change (C := Try.checked) Try.own started (by kernel_rfl) Try.func9
   (ChangeSpec.witness6 (enc := enc) (C := Try.checked) false ⟨#[], #[.agg #[.int .i64 0, .int .i64 0, .int .i64 0, .slice none 0 0], .agg #[.int .i64 0, .int .i64 0, .int .i64 0, .slice none 0 0], .string ⟨#[]⟩], []⟩ 8 (by kernel_rfl) (by kernel_rfl) (by kernel_rfl) (by kernel_rfl)) ?_
 intro W base args ds gs before hval0 hW hcnd _
 exact Go.T.law_post (c := Go.Q.c9) (tb := 4) Try.laidOut Go.Q.ok9 rfl rfl rfl (by kernel_rfl) (by kernel_rfl) (by decide +kernel) (by kernel_rfl) (by kernel_rfl) Go.Q.law9_F rfl (fun ds hds => match ds, hds with | [_, _, _], _ => ⟨rfl, rfl, rfl⟩) hval0 hW
theorem merge_holds : Rows.QdigestMergeSaid :=
 OpenClaim.holds_of_wide 9 Try.f9 rfl rfl rfl rfl rfl rfl rfl ⟨rfl, rfl, rfl, rfl, rfl⟩ rfl rfl rfl rfl rfl (by kernel_rfl) Try.func9 (by kernel_rfl)
   (of_decide_eq_true (by kernel_rfl)) (by unfold Func.isWrapper; first | (rw [if_pos (by decide +kernel)]; kernel_rfl) | (rw [if_neg (by decide +kernel)]; exact ⟨rfl, rfl⟩))
   (fun os started H enc _ => merge_holds_lifted os started H enc)
end Go.Proofs.Ytfibkbmlgigemaa
