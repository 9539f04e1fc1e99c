/- FlameViews returns true for every input, and leaves its arguments as they were. No conditions beyond the given statement. -/
import Derived.Test.YtbhcfbnkdbioaaaGreatRows
import Derived.Test.YtbhcfbnkdbioaaaGreatM7
import Derived.ProofKit
set_option maxRecDepth 100000
namespace Go.Fl
open Go Go.T Go.Pl Go.Proofs
theorem law3_F (vs : List TV) (h1 : vs.map (·.t) = c3.as) (h2 : ∀ v ∈ vs, InV v) : ∃ x, zBH c3 x = vs ∧ ∃ y, c3.F x = some y ∧ zBT c3 y = ⟨.bool, true⟩ := by
 obtain ⟨f, n, k, rfl⟩ := three_of (a := .sl tN) (b := .str) (c := .int .i64) h1
 have hf : InV ⟨.sl tN, f⟩ := h2 _ (by simp)
 exact ⟨((f : List FN), (n : Nm), (k : Int)), rfl, true, law3 (Nat.le_trans hf.1 (by decide)) n k, rfl⟩
end Go.Fl
namespace Go.Proofs.YtbhcfbnkdbioaaaGreat
open Go.ChangeShapes Go.WideShapes Go.ChangeAt Go.RowKit
theorem Tryz.own : ownKnob Tryz.prog.godebug = none := by kernel_rfl
theorem Tryz.laidOut : laidOutB Tryz.prog = true := by kernel_rfl
theorem views_holds_lifted (os : Os) (started : os.Started) (H : Type) (enc : TypeId × Value → H) :
   ReturnsInHanded {} Tryz.checked os 3 .any (Rows.flameViewsSpec.pre6 enc Tryz.prog Tryz.f3 Rows.flameViewsRow.domain false) (Rows.flameViewsSpec.post enc Tryz.prog Tryz.f3 false true false false) := by
 refine returnsInHanded_of_change (C := Tryz.checked) Tryz.own started (by kernel_rfl) Tryz.func3
   (ChangeSpec.witness6 (enc := enc) (C := Tryz.checked) false ⟨#[], #[.slice none 0 0, .string ⟨#[]⟩, .int .i64 0], []⟩ 8 (by kernel_rfl) (by kernel_rfl) (by kernel_rfl) (by kernel_rfl)) ?_
 intro W base args ds gs before hval0 hW hcnd _
 exact Go.T.law_post (c := Go.Fl.c3) (tb := 4) Tryz.laidOut Go.Fl.ok3 rfl rfl rfl (by kernel_rfl) (by kernel_rfl) (by decide +kernel) (by kernel_rfl) (by kernel_rfl) Go.Fl.law3_F rfl (fun ds hds => match ds, hds with | [_, _, _], _ => ⟨rfl, rfl, rfl⟩) hval0 hW
theorem views_holds : Rows.FlameViewsSaid :=
 OpenClaim.holds_of_wide 3 Tryz.f3 rfl rfl rfl rfl rfl rfl rfl ⟨rfl, rfl, rfl, rfl, rfl⟩ rfl rfl rfl rfl rfl (by kernel_rfl) Tryz.func3 (by kernel_rfl)
   (of_decide_eq_true (by kernel_rfl)) (by unfold Func.isWrapper; first | (rw [if_pos (by decide +kernel)]; kernel_rfl) | (rw [if_neg (by decide +kernel)]; exact ⟨rfl, rfl⟩))
   (fun os started H enc _ => views_holds_lifted os started H enc)
end Go.Proofs.YtbhcfbnkdbioaaaGreat
