/- FlameTable returns true for every input, and leaves its arguments as they were. No conditions beyond the given statement. -/
import Derived.Test.YtbhcfbnkdbioaaaRows
import Derived.Test.YtbhcfbnkdbioaaaM7
import Derived.ProofKit
set_option maxRecDepth 100000
namespace Go.Fl
open Go Go.T Go.Pl Go.Proofs
theorem law5_F (vs : List TV) (h1 : vs.map (·.t) = c5.as) (h2 : ∀ v ∈ vs, InV v) : ∃ x, zBC c5 x = vs ∧ ∃ y, c5.F x = some y ∧ zBQ c5 y = ⟨.bool, true⟩ := by
 obtain ⟨f, rfl⟩ := one_of (a := .sl tN) h1
 have hf : InV ⟨.sl tN, f⟩ := h2 _ (by simp)
 exact ⟨(f : List FN), rfl, true, law5 awake (Nat.le_trans hf.1 (by decide)), rfl⟩
end Go.Fl
namespace Go.Proofs.Ytbhcfbnkdbioaaa
open Go.ChangeShapes Go.WideShapes Go.ChangeAt Go.RowKit
theorem Try.own : ownKnob Try.prog.godebug = none := by kernel_rfl
theorem Try.laidOut : laidOutB Try.prog = true := by kernel_rfl
theorem table_holds_lifted (os : Os) (started : os.Started) (H : Type) (enc : TypeId × Value → H) :
   ReturnsInHanded {} Try.checked os 5 .any (Rows.flameTableSpec.pre6 enc Try.prog Try.f5 Rows.flameTableRow.domain false) (Rows.flameTableSpec.post enc Try.prog Try.f5 false true false false) := by
 refine returnsInHanded_of_change (C := Try.checked) Try.own started (by kernel_rfl) Try.func5
   (ChangeSpec.witness6 (enc := enc) (C := Try.checked) false ⟨#[], #[.slice none 0 0], []⟩ 8 (by kernel_rfl) (by kernel_rfl) (by kernel_rfl) (by kernel_rfl)) ?_
 intro W base args ds gs before hval0 hW hcnd _
 exact Go.T.law_post (c := Go.Fl.c5) (tb := 4) Try.laidOut Go.Fl.ok5 rfl rfl rfl (by kernel_rfl) (by kernel_rfl) (by decide +kernel) (by kernel_rfl) (by kernel_rfl) Go.Fl.law5_F rfl (fun ds hds => match ds, hds with | [_], _ => ⟨rfl, rfl, rfl⟩) hval0 hW
theorem table_holds : Rows.FlameTableSaid :=
 OpenClaim.holds_of_wide 5 Try.f5 rfl rfl rfl rfl rfl rfl rfl ⟨rfl, rfl, rfl, rfl, rfl⟩ rfl rfl rfl rfl rfl (by kernel_rfl) Try.func5 (by kernel_rfl)
   (of_decide_eq_true (by kernel_rfl)) (by unfold Func.isWrapper; first | (rw [if_pos (by decide +kernel)]; kernel_rfl) | (rw [if_neg (by decide +kernel)]; exact ⟨rfl, rfl⟩))
   (fun os started H enc _ => table_holds_lifted os started H enc)
end Go.Proofs.Ytbhcfbnkdbioaaa
