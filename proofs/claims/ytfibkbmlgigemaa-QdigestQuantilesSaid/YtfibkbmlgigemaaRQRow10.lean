/- QdigestQuantiles returns true for every input, and leaves its arguments as they were. No conditions beyond the given statement. -/
import Derived.Test.YtfibkbmlgigemaaRows
import Derived.Test.YtfibkbmlgigemaaM7
import Derived.ProofKit
set_option maxRecDepth 100000
namespace Go.Q
open Go Go.T Go.Pl Go.Proofs
theorem law10_F (vs : List TV) (h1 : vs.map (·.t) = c10.as) (h2 : ∀ v ∈ vs, InV v) : ∃ x, zBA c10 x = vs ∧ ∃ y, c10.F x = some y ∧ zBR c10 y = ⟨.bool, true⟩ := by
 obtain ⟨n, l, phi, rfl⟩ := three_of (a := .int .u8) (b := .sl (.agg (.pr (.int .u8) .bool))) (c := .agg (.pr tI tI)) h1
 obtain ⟨a, b⟩ := (phi : Int × Int)
 have hn : InV ⟨.int .u8, n⟩ := h2 _ (by simp)
 have hl : InV ⟨.sl (.agg (.pr (.int .u8) .bool)), l⟩ := h2 _ (by simp)
 have hl' : ∀ s : Int × Bool, List.Mem s l → 0 ≤ s.1 ∧ s.1 < 256 := fun s hs => u8_in (hl.2 s hs).1
 exact ⟨((n : Int), (l : List (Int × Bool)), ((a, b) : Int × Int)), rfl, true, law10 n (u8_in hn) l hl' a b, rfl⟩
end Go.Q
namespace Go.Proofs.Ytfibkbmlgigemaa
open Go.ChangeShapes Go.WideShapes Go.ChangeAt Go.RowKit
theorem Try.own : ownKnob Try.prog.godebug = none := by kernel_rfl
theorem Try.laidOut : laidOutB Try.prog = true := by kernel_rfl
theorem quantiles_holds_lifted (os : Os) (started : os.Started) (H : Type) (enc : TypeId × Value → H) :
   ReturnsInHanded {} Try.checked os 10 .any (Rows.qdigestQuantilesSpec.pre6 enc Try.prog Try.f10 Rows.qdigestQuantilesRow.domain false) (Rows.qdigestQuantilesSpec.post enc Try.prog Try.f10 false true false false) := by
 refine returnsInHanded_of_change (C := Try.checked) Try.own started (by kernel_rfl) Try.func10
   (ChangeSpec.witness6 (enc := enc) (C := Try.checked) false ⟨#[], #[.int .u8 0, .slice none 0 0, .agg #[.int .i64 0, .int .i64 0]], []⟩ 8 (by kernel_rfl) (by kernel_rfl) (by kernel_rfl) (by kernel_rfl)) ?_
 intro W base args ds gs before hval0 hW hcnd _
 exact Go.T.law_post (c := Go.Q.c10) (tb := 4) Try.laidOut Go.Q.ok10 rfl rfl rfl (by kernel_rfl) (by kernel_rfl) (by decide +kernel) (by kernel_rfl) (by kernel_rfl) Go.Q.law10_F rfl (fun ds hds => match ds, hds with | [_, _, _], _ => ⟨rfl, rfl, rfl⟩) hval0 hW
theorem quantiles_holds : Rows.QdigestQuantilesSaid :=
 OpenClaim.holds_of_wide 10 Try.f10 rfl rfl rfl rfl rfl rfl rfl ⟨rfl, rfl, rfl, rfl, rfl⟩ rfl rfl rfl rfl rfl (by kernel_rfl) Try.func10 (by kernel_rfl)
   (of_decide_eq_true (by kernel_rfl)) (by unfold Func.isWrapper; first | (rw [if_pos (by decide +kernel)]; kernel_rfl) | (rw [if_neg (by decide +kernel)]; exact ⟨rfl, rfl⟩))
   (fun os started H enc _ => quantiles_holds_lifted os started H enc)
end Go.Proofs.Ytfibkbmlgigemaa
