/- QdigestMerged returns true for every input, and leaves its arguments as they were. No conditions beyond the given statement. -/
import Derived.Test.YtfibkbmlgigemaaRows
import Derived.Test.YtfibkbmlgigemaaM7
import Derived.ProofKit
set_option maxRecDepth 100000
namespace Go.Q
open Go Go.T Go.Pl Go.Proofs
instance : Go.Ab.DM := ⟨True⟩
theorem law7_F (vs : List TV) (h1 : vs.map (·.t) = c7.as) (h2 : ∀ v ∈ vs, InV v) : ∃ x, zBG c7 x = vs ∧ ∃ y, c7.F x = some y ∧ zBV c7 y = ⟨.bool, true⟩ := by
 obtain ⟨n, l, rfl⟩ := two_of (a := .int .u8) (b := .agg (.pr (.sl (.agg (.pr (.int .u8) .bool))) (.pr (.sl (.agg (.pr (.int .u8) .bool))) (.sl (.agg (.pr (.int .u8) .bool)))))) h1
 obtain ⟨a, b, c⟩ := (l : List (Int × Bool) × List (Int × Bool) × List (Int × Bool))
 have hn : InV ⟨.int .u8, n⟩ := h2 _ (by simp)
 have hl : InV ⟨.agg (.pr (.sl (.agg (.pr (.int .u8) .bool))) (.pr (.sl (.agg (.pr (.int .u8) .bool))) (.sl (.agg (.pr (.int .u8) .bool))))), (a, b, c)⟩ := h2 _ (by simp)
 have ha : ∀ s : Int × Bool, List.Mem s a → 0 ≤ s.1 ∧ s.1 < 256 := fun s hs => u8_in (hl.1.2 s hs).1
 have hb : ∀ s : Int × Bool, List.Mem s b → 0 ≤ s.1 ∧ s.1 < 256 := fun s hs => u8_in (hl.2.1.2 s hs).1
 have hc : ∀ s : Int × Bool, List.Mem s c → 0 ≤ s.1 ∧ s.1 < 256 := fun s hs => u8_in (hl.2.2.2 s hs).1
 exact ⟨((n : Int), a, b, c), rfl, true, law7 n (u8_in hn) a b c ha hb hc, rfl⟩
end Go.Q
namespace Go.Proofs.Ytfibkbmlgigemaa
open Go.ChangeShapes Go.WideShapes Go.ChangeAt Go.RowKit
theorem Try.own : ownKnob Try.prog.godebug = none := by kernel_rfl
theorem Try.laidOut : laidOutB Try.prog = true := by kernel_rfl
theorem merged_holds_lifted (os : Os) (started : os.Started) (H : Type) (enc : TypeId × Value → H) :
   ReturnsInHanded {} Try.checked os 7 .any (Rows.qdigestMergedSpec.pre6 enc Try.prog Try.f7 Rows.qdigestMergedRow.domain false) (Rows.qdigestMergedSpec.post enc Try.prog Try.f7 false true false false) := by
 refine returnsInHanded_of_change (C := Try.checked) Try.own started (by kernel_rfl) Try.func7
   (ChangeSpec.witness6 (enc := enc) (C := Try.checked) false ⟨#[], #[.int .u8 0, .agg #[.slice none 0 0, .slice none 0 0, .slice none 0 0]], []⟩ 8 (by kernel_rfl) (by kernel_rfl) (by kernel_rfl) (by kernel_rfl)) ?_
 intro W base args ds gs before hval0 hW hcnd _
 exact Go.T.law_post (c := Go.Q.c7) (tb := 4) Try.laidOut Go.Q.ok7 rfl rfl rfl (by kernel_rfl) (by kernel_rfl) (by decide +kernel) (by kernel_rfl) (by kernel_rfl) Go.Q.law7_F rfl (fun ds hds => match ds, hds with | [_, _], _ => ⟨rfl, rfl, rfl⟩) hval0 hW
theorem merged_holds : Rows.QdigestMergedSaid :=
 OpenClaim.holds_of_wide 7 Try.f7 rfl rfl rfl rfl rfl rfl rfl ⟨rfl, rfl, rfl, rfl, rfl⟩ rfl rfl rfl rfl rfl (by kernel_rfl) Try.func7 (by kernel_rfl)
   (of_decide_eq_true (by kernel_rfl)) (by unfold Func.isWrapper; first | (rw [if_pos (by decide +kernel)]; kernel_rfl) | (rw [if_neg (by decide +kernel)]; exact ⟨rfl, rfl⟩))
   (fun os started H enc _ => merged_holds_lifted os started H enc)
end Go.Proofs.Ytfibkbmlgigemaa
