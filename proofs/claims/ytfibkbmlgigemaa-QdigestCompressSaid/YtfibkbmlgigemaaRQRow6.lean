/- QdigestCompress returns true for every input, and leaves its arguments as they were. No conditions beyond the given statement. -/
import Derived.Test.YtfibkbmlgigemaaRows
import Derived.Test.YtfibkbmlgigemaaM7
import Derived.ProofKit
set_option maxRecDepth 100000
namespace Go.Q
open Go Go.T Go.Pl Go.Proofs
theorem two_of {a b : Ty} : ∀ {vs : List TV}, vs.map (·.t) = [a, b] → ∃ x y, vs = [⟨a, x⟩, ⟨b, y⟩]
  | [⟨t, x⟩, ⟨u, y⟩], h => by
    simp only [List.map_cons, List.map_nil, List.cons.injEq, and_true] at h
    obtain ⟨h1, h2⟩ := h
    subst h1; subst h2
    exact ⟨x, y, rfl⟩
  | [], h => by cases h
  | [_], h => by cases h
  | _ :: _ :: _ :: _, h => by cases h
theorem u8_in {n : Int} (h : (Lit.int .u8 n).wf = true) : 0 ≤ n ∧ n < 256 := by
  simp [Lit.wf, IntKind.min, IntKind.max, IntKind.signed, IntKind.bits] at h
  omega
theorem law6_F (vs : List TV) (h1 : vs.map (·.t) = c6.as) (h2 : ∀ v ∈ vs, InV v) : ∃ x, conArgs c6 x = vs ∧ ∃ y, c6.F x = some y ∧ conRes c6 y = ⟨.bool, true⟩ := by
  obtain ⟨d, n, rfl⟩ := two_of (a := tD) (b := .int .u8) h1
  obtain ⟨bits, k, count, nodes⟩ := (d : Dg)
  have hn : InV ⟨.int .u8, n⟩ := h2 _ (by simp)
  have hn' := u8_in (n := n) hn
  exact ⟨((bits, k, count, nodes), n), rfl, true, law6 bits k count nodes n hn', rfl⟩
end Go.Q
namespace Go.Proofs.Ytfibkbmlgigemaa
open Go.ChangeShapes Go.WideShapes Go.ChangeAt Go.RowKit
theorem Try.own : ownKnob Try.prog.godebug = none := by kernel_rfl
theorem Try.laidOut : laidOutB Try.prog = true := by kernel_rfl
theorem compress_lifted (os : Os) (started : os.Started) (H : Type) (enc : TypeId × Value → H) :
    ReturnsInHanded {} Try.checked os 6 .any (Rows.qdigestCompressSpec.pre6 enc Try.prog Try.f6 Rows.qdigestCompressRow.domain false) (Rows.qdigestCompressSpec.post enc Try.prog Try.f6 false true false false) := by
  refine returnsInHanded_of_change (C := Try.checked) Try.own started (by kernel_rfl) Try.func6
    (ChangeSpec.witness6 (enc := enc) (C := Try.checked) false ⟨#[], #[.agg #[.int .i64 0, .int .i64 0, .int .i64 0, .slice none 0 0], .int .u8 0], []⟩ 8 (by kernel_rfl) (by kernel_rfl) (by kernel_rfl) (by kernel_rfl)) ?_
  intro W base args ds gs before hval0 hW hcnd _
  exact Go.T.law_post (c := Go.Q.c6) (tb := 4) Try.laidOut Go.Q.ok6 rfl rfl rfl (by kernel_rfl) (by kernel_rfl) (by decide +kernel) (by kernel_rfl) (by kernel_rfl) Go.Q.law6_F rfl (fun ds hds => match ds, hds with | [_, _], _ => ⟨rfl, rfl, rfl⟩) hval0 hW
theorem compress_holds : Rows.QdigestCompressSaid :=
  OpenClaim.holds_of_wide 6 Try.f6 rfl rfl rfl rfl rfl rfl rfl ⟨rfl, rfl, rfl, rfl, rfl⟩ rfl rfl rfl rfl rfl (by kernel_rfl) Try.func6 (by kernel_rfl)
    (of_decide_eq_true (by kernel_rfl)) (by unfold Func.isWrapper; first | (rw [if_pos (by decide +kernel)]; kernel_rfl) | (rw [if_neg (by decide +kernel)]; exact ⟨rfl, rfl⟩))
    (fun os started H enc _ => compress_lifted os started H enc)
end Go.Proofs.Ytfibkbmlgigemaa
