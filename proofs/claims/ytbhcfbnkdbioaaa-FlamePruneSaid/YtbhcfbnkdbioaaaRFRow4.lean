/- FlamePrune returns true for every input, and leaves its arguments as they were. No conditions beyond the given statement. -/
import Derived.Test.YtbhcfbnkdbioaaaRows
import Derived.Test.YtbhcfbnkdbioaaaM7
import Derived.ProofKit
set_option maxRecDepth 100000
namespace Go.Fl
open Go Go.T Go.Pl Go.Proofs
theorem law4_F (vs : List TV) (h1 : vs.map (·.t) = c4.as) (h2 : ∀ v ∈ vs, InV v) : ∃ x, zBD c4 x = vs ∧ ∃ y, c4.F x = some y ∧ zBQ c4 y = ⟨.bool, true⟩ := by
 obtain ⟨f, a, b, rfl⟩ := three_of (a := .sl tN) (b := .int .i64) (c := .int .i64) h1
 have hf : InV ⟨.sl tN, f⟩ := h2 _ (by simp)
 exact ⟨((f : List FN), (a : Int), (b : Int)), rfl, true, law4 awake (Nat.le_trans hf.1 (by decide)) a b, rfl⟩
end Go.Fl
namespace Go.Proofs.Ytbhcfbnkdbioaaa
open Go.ChangeShapes Go.WideShapes Go.ChangeAt Go.RowKit
theorem Try.own : ownKnob Try.prog.godebug = none := by kernel_rfl
theorem Try.laidOut : laidOutB Try.prog = true := by kernel_rfl
theorem prune_holds_lifted (os : Os) (started : os.Started) (H : Type) (enc : TypeId × Value → H) :
   ReturnsInHanded {} Try.checked os 4 .any (Rows.flamePruneSpec.pre6 enc Try.prog Try.f4 Rows.flamePruneRow.domain false) (Rows.flamePruneSpec.post enc Try.prog Try.f4 false true false false) := by
 refine returnsInHanded_of_change (C := Try.checked) Try.own started (by kernel_rfl) Try.func4
   (ChangeSpec.witness6 (enc := enc) (C := Try.checked) false ⟨#[], #[.slice none 0 0, .int .i64 0, .int .i64 0], []⟩ 8 (by kernel_rfl) (by kernel_rfl) (by kernel_rfl) (by kernel_rfl)) ?_
 intro W base args ds gs before hval0 hW hcnd _
 exact Go.T.law_post (c := Go.Fl.c4) (tb := 4) Try.laidOut Go.Fl.ok4 rfl rfl rfl (by kernel_rfl) (by kernel_rfl) (by decide +kernel) (by kernel_rfl) (by kernel_rfl) Go.Fl.law4_F rfl (fun ds hds => match ds, hds with | [_, _, _], _ => ⟨rfl, rfl, rfl⟩) hval0 hW
theorem prune_holds : Rows.FlamePruneSaid :=
 OpenClaim.holds_of_wide 4 Try.f4 rfl rfl rfl rfl rfl rfl rfl ⟨rfl, rfl, rfl, rfl, rfl⟩ rfl rfl rfl rfl rfl (by kernel_rfl) Try.func4 (by kernel_rfl)
   (of_decide_eq_true (by kernel_rfl)) (by unfold Func.isWrapper; first | (rw [if_pos (by decide +kernel)]; kernel_rfl) | (rw [if_neg (by decide +kernel)]; exact ⟨rfl, rfl⟩))
   (fun os started H enc _ => prune_holds_lifted os started H enc)
end Go.Proofs.Ytbhcfbnkdbioaaa
