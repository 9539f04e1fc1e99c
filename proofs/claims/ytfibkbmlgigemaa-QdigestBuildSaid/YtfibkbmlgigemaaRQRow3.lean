/- QdigestBuild returns true for every input, and leaves its arguments as they were. No conditions beyond the given statement. -/
import Derived.Test.YtfibkbmlgigemaaRows
import Derived.Test.YtfibkbmlgigemaaM7
import Derived.ProofKit
set_option maxRecDepth 100000
namespace Go.Q
open Go Go.T Go.Pl Go.Proofs
theorem law3_F (vs : List TV) (h1 : vs.map (·.t) = c3.as) (h2 : ∀ v ∈ vs, InV v) : ∃ x, conArgs c3 x = vs ∧ ∃ y, c3.F x = some y ∧ conRes c3 y = ⟨.bool, true⟩ := by
  obtain ⟨d, two, n, rfl⟩ := three_of (a := tD) (b := .agg (.pr tI tI)) (c := tI) h1
  obtain ⟨bits, k, count, nodes⟩ := (d : Dg)
  obtain ⟨a, b⟩ := (two : Int × Int)
  have hn : InV ⟨tI, n⟩ := h2 _ (by simp)
  have hab : InV ⟨.agg (.pr tI tI), ((a, b) : Int × Int)⟩ := h2 _ (List.mem_cons_of_mem _ List.mem_cons_self)
  exact ⟨((bits, k, count, nodes), ((a, b) : Int × Int), n), rfl, true, law3 bits k count nodes a b n (i64_in hab.1) (i64_in hab.2) (i64_in hn), rfl⟩
end Go.Q
namespace Go.Proofs.Ytfibkbmlgigemaa
open Go.ChangeShapes Go.WideShapes Go.ChangeAt Go.RowKit
theorem Try.own : ownKnob Try.prog.godebug = none := by kernel_rfl
theorem Try.laidOut : laidOutB Try.prog = true := by kernel_rfl
theorem build_holds_lifted (os : Os) (started : os.Started) (H : Type) (enc : TypeId × Value → H) :
    ReturnsInHanded {} Try.checked os 3 .any (Rows.qdigestBuildSpec.pre6 enc Try.prog Try.f3 Rows.qdigestBuildRow.domain false) (Rows.qdigestBuildSpec.post enc Try.prog Try.f3 false true false false) := by
  refine returnsInHanded_of_change (C := Try.checked) Try.own started (by kernel_rfl) Try.func3
    (ChangeSpec.witness6 (enc := enc) (C := Try.checked) false ⟨#[], #[.agg #[.int .i64 0, .int .i64 0, .int .i64 0, .slice none 0 0], .agg #[.int .i64 0, .int .i64 0], .int .i64 0], []⟩ 8 (by kernel_rfl) (by kernel_rfl) (by kernel_rfl) (by kernel_rfl)) ?_
  intro W base args ds gs before hval0 hW hcnd _
  exact Go.T.law_post (c := Go.Q.c3) (tb := 4) Try.laidOut Go.Q.ok3 rfl rfl rfl (by kernel_rfl) (by kernel_rfl) (by decide +kernel) (by kernel_rfl) (by kernel_rfl) Go.Q.law3_F rfl (fun ds hds => match ds, hds with | [_, _, _], _ => ⟨rfl, rfl, rfl⟩) hval0 hW
theorem build_holds : Rows.QdigestBuildSaid :=
  OpenClaim.holds_of_wide 3 Try.f3 rfl rfl rfl rfl rfl rfl rfl ⟨rfl, rfl, rfl, rfl, rfl⟩ rfl rfl rfl rfl rfl (by kernel_rfl) Try.func3 (by kernel_rfl)
    (of_decide_eq_true (by kernel_rfl)) (by unfold Func.isWrapper; first | (rw [if_pos (by decide +kernel)]; kernel_rfl) | (rw [if_neg (by decide +kernel)]; exact ⟨rfl, rfl⟩))
    (fun os started H enc _ => build_holds_lifted os started H enc)
end Go.Proofs.Ytfibkbmlgigemaa
