/- QdigestRanks returns true for every input, and leaves its arguments as they were. No conditions beyond the given statement. -/
import Derived.Test.YtfibkbmlgigemaaRows
import Derived.Test.YtfibkbmlgigemaaM7
import Derived.ProofKit
set_option maxRecDepth 100000
namespace Go.Q
open Go Go.T Go.Pl Go.Proofs
theorem two_of {a b : Ty} : ∀ {vs : List TV}, vs.map (·.t) = [a, b] → ∃ x y, vs = [⟨a, x⟩, ⟨b, y⟩]
  | [⟨t, x⟩, ⟨u, y⟩], h => by
    simp only [List.map_cons, List.map_nil, List.cons.injEq, and_true] at h
    obtain ⟨h1, h2⟩ := h
    subst h1; subst h2
    exact ⟨x, y, rfl⟩
  | [], h => by cases h
  | [_], h => by cases h
  | _ :: _ :: _ :: _, h => by cases h
theorem u8_in {n : Int} (h : (Lit.int .u8 n).wf = true) : 0 ≤ n ∧ n < 256 := by
  simp [Lit.wf, IntKind.min, IntKind.max, IntKind.signed, IntKind.bits] at h
  omega
theorem law5_F (vs : List TV) (h1 : vs.map (·.t) = c5.as) (h2 : ∀ v ∈ vs, InV v) : ∃ x, conArgs c5 x = vs ∧ ∃ y, c5.F x = some y ∧ conRes c5 y = ⟨.bool, true⟩ := by
  obtain ⟨n, l, rfl⟩ := two_of (a := .int .u8) (b := .sl (.agg (.pr (.int .u8) .bool))) h1
  have hn : InV ⟨.int .u8, n⟩ := h2 _ (by simp)
  have hl : InV ⟨.sl (.agg (.pr (.int .u8) .bool)), l⟩ := h2 _ (by simp)
  have hn' := u8_in (n := n) hn
  have hl' : ∀ s : Int × Bool, List.Mem s l → 0 ≤ s.1 ∧ s.1 < 256 := fun s hs => u8_in (hl.2 s hs).1
  exact ⟨((n : Int), (l : List (Int × Bool))), rfl, true, law5 n hn' l hl', rfl⟩
end Go.Q
namespace Go.Proofs.Ytfibkbmlgigemaa
open Go.ChangeShapes Go.WideShapes Go.ChangeAt Go.RowKit
theorem Try.own : ownKnob Try.prog.godebug = none := by kernel_rfl
theorem Try.laidOut : laidOutB Try.prog = true := by kernel_rfl
theorem ranks_holds_lifted (os : Os) (started : os.Started) (H : Type) (enc : TypeId × Value → H) :
    ReturnsInHanded {} Try.checked os 5 .any (Rows.qdigestRanksSpec.pre6 enc Try.prog Try.f5 Rows.qdigestRanksRow.domain false) (Rows.qdigestRanksSpec.post enc Try.prog Try.f5 false true false false) := by
  refine returnsInHanded_of_change (C := Try.checked) Try.own started (by kernel_rfl) Try.func5
    (ChangeSpec.witness6 (enc := enc) (C := Try.checked) false ⟨#[], #[.int .u8 0, .slice none 0 0], []⟩ 8 (by kernel_rfl) (by kernel_rfl) (by kernel_rfl) (by kernel_rfl)) ?_
  intro W base args ds gs before hval0 hW hcnd _
  exact Go.T.law_post (c := Go.Q.c5) (tb := 4) Try.laidOut Go.Q.ok5 rfl rfl rfl (by kernel_rfl) (by kernel_rfl) (by decide +kernel) (by kernel_rfl) (by kernel_rfl) Go.Q.law5_F rfl (fun ds hds => match ds, hds with | [_, _], _ => ⟨rfl, rfl, rfl⟩) hval0 hW
theorem ranks_holds : Rows.QdigestRanksSaid :=
  OpenClaim.holds_of_wide 5 Try.f5 rfl rfl rfl rfl rfl rfl rfl ⟨rfl, rfl, rfl, rfl, rfl⟩ rfl rfl rfl rfl rfl (by kernel_rfl) Try.func5 (by kernel_rfl)
    (of_decide_eq_true (by kernel_rfl)) (by unfold Func.isWrapper; first | (rw [if_pos (by decide +kernel)]; kernel_rfl) | (rw [if_neg (by decide +kernel)]; exact ⟨rfl, rfl⟩))
    (fun os started H enc _ => ranks_holds_lifted os started H enc)
end Go.Proofs.Ytfibkbmlgigemaa
