/- Part 7 of what the claim leans on: QCmp, QCmp2, QCmp3, QCmp4, QAwk, QLaw6, QPut, QBuild. -/
import Derived.Test.YtfibkbmlgigemaaM6
import Derived.Calls
import Derived.KernelRfl
import Derived.Orders
import Derived.Laws.Sem
import Derived.Laws.CopyRow
import Derived.Laws.Cells
import Derived.Room.Entries
import Derived.Lib.Overlaps
import GoSem.Conv.BytesToString
import Derived.OrdersHeld
import Derived.ProofKit
import Derived.OpenShut
import Derived.Carry
import Derived.Shelf.SlSortCmp.InsertionK
import Derived.Test.YtfibkbmlgigemaaProg
import Derived.Shelf.SlSortCmp.WholeK
import Derived.Ground.SlsfProg
set_option linter.unusedVariables false
set_option linter.unusedSimpArgs false
set_option maxRecDepth 100000
namespace Go.Q
open Go Go.T Go.Pl Go.Proofs Go.Proofs.Qd
abbrev cn (M : KV Int) (j : Int) : Int := mget ieq 0 M j
abbrev chl (M : KV Int) (m : Int) : Int := cn M (2 * m) + cn M (2 * m + 1)
def can (th : Int) (M : KV Int) (m : Int) : Prop := chl M m ≠ 0 ∧ cn M m + chl M m ≤ th
def mrg (M : KV Int) (m : Int) : KV Int := mdel ieq (mdel ieq (mput ieq M m (cn M m + chl M m)) (2 * m)) (2 * m + 1)
def hiInd (w : Nat) (v id : Int) : Int := if HI w id.toNat ≤ v then 1 else 0
def loInd (w : Nat) (v id : Int) : Int := if LO w id.toNat ≤ v then 1 else 0
def dep (id : Int) : Nat := blen id.toNat
structure MInv (w : Nat) (th count : Int) (nodes M : KV Int) : Prop where
  nod : (keys M).Nodup
  node : ∀ id ∈ keys M, (∃ x : Nat, id = x ∧ Nod w x) ∧ 1 ≤ cn M id ∧ cn M id ≤ count
  inner : ∀ id ∈ keys M, id < ((2 ^ w : Nat) : Int) → cn M id ≤ th
  sum : wsum (fun _ => 1) M = count
  lo : ∀ v, wsum (hiInd w v) M ≤ wsum (hiInd w v) nodes
  hi : ∀ v, wsum (loInd w v) nodes ≤ wsum (loInd w v) M
section
variable {w : Nat} {th count : Int} {nodes M : KV Int} {m : Int}
theorem MInv.cn0 (h : MInv w th count nodes M) (j : Int) : 0 ≤ cn M j ∧ (j ∈ keys M → 1 ≤ cn M j) ∧ (j ∉ keys M → cn M j = 0) ∧ cn M j ≤ max count 0 := by
  by_cases hj : j ∈ keys M
  · have := (h.node j hj).2; exact ⟨by omega, fun _ => this.1, fun h' => absurd hj h', by omega⟩
  · have : cn M j = 0 := get_out 0 hj
    exact ⟨by omega, fun h' => absurd h' hj, fun _ => this, by omega⟩
theorem MInv.can_nod (h : MInv w th count nodes M) (hm : 1 ≤ m) (hc : can th M m) (hw : 1 ≤ w ∧ w ≤ 20) : ∃ x : Nat, m = x ∧ Nod w x ∧ 0 < sh w x ∧ x < 2 ^ w := by
  have key : 2 * m ∈ keys M ∨ 2 * m + 1 ∈ keys M := by
    by_cases h1 : 2 * m ∈ keys M
    · exact .inl h1
    by_cases h2 : 2 * m + 1 ∈ keys M
    · exact .inr h2
    exact absurd (show chl M m = 0 by show cn M (2 * m) + cn M (2 * m + 1) = 0; rw [(h.cn0 _).2.2.1 h1, (h.cn0 _).2.2.1 h2]; rfl) hc.1
  have hp : 2 ^ (w + 1) = 2 * 2 ^ w := by rw [Nat.pow_succ]; omega
  have hx : m.toNat < 2 ^ w := by
    rcases key with h1 | h1
    · obtain ⟨⟨y, hy, hY⟩, _⟩ := h.node _ h1; have := hY.x2; omega
    · obtain ⟨⟨y, hy, hY⟩, _⟩ := h.node _ h1; have := hY.x2; omega
  have hN : Nod w m.toNat := ⟨hw.1, hw.2, by omega, by omega⟩
  refine ⟨m.toNat, by omega, hN, ?_, hx⟩
  rcases Nat.eq_zero_or_pos (sh w m.toNat) with h0 | h0
  · have := hN.top h0; omega
  · exact h0
theorem hi_child {x : Nat} (h : Nod w x) (hs : 0 < sh w x) : HI w (2 * x) ≤ HI w x ∧ HI w (2 * x + 1) = HI w x ∧ LO w (2 * x) = LO w x ∧ LO w x ≤ LO w (2 * x + 1) := by
  obtain ⟨h1, h2, h3, h4, h5⟩ := h.dbl hs
  have e1 : sh w (2 * x) = sh w x - 1 := by omega
  have e2 : sh w (2 * x + 1) = sh w x - 1 := by omega
  obtain ⟨s, hsx⟩ : ∃ s, sh w x = s + 1 := ⟨sh w x - 1, by omega⟩
  have p : 2 ^ (s + 1) = 2 * 2 ^ s := by rw [Nat.pow_succ]; omega
  unfold HI LO
  rw [e1, e2, hsx, Nat.add_sub_cancel, p]
  have a1 : (x + 1) * (2 * 2 ^ s) = (2 * x + 1 + 1) * 2 ^ s := by rw [← Nat.mul_assoc]; congr 1; omega
  have a2 : x * (2 * 2 ^ s) = 2 * x * 2 ^ s := by rw [← Nat.mul_assoc]; congr 1; omega
  have a3 : (2 * x + 1) * 2 ^ s ≤ (2 * x + 1 + 1) * 2 ^ s := Nat.mul_le_mul_right _ (by omega)
  have a4 : 2 * x * 2 ^ s ≤ (2 * x + 1) * 2 ^ s := Nat.mul_le_mul_right _ (by omega)
  rw [a1, a2]
  refine ⟨by omega, rfl, rfl, by omega⟩
theorem get_mrg (hn : (keys M).Nodup) (j : Int) : cn (mrg M m) j = if j = 2 * m + 1 then 0 else if j = 2 * m then 0 else if j = m then cn M m + chl M m else cn M j := by
  unfold cn mrg
  rw [get_del 0 (nodup_del (nodup_put hn _ _) _), get_del 0 (nodup_put hn _ _), get_put]
theorem keys_mrg (hn : (keys M).Nodup) (j : Int) : j ∈ keys (mrg M m) ↔ j ≠ 2 * m + 1 ∧ j ≠ 2 * m ∧ (j = m ∨ j ∈ keys M) := by
  unfold mrg
  rw [mem_del (nodup_del (nodup_put hn _ _) _), mem_del (nodup_put hn _ _), mem_put]
theorem wsum_mrg (g : Int → Int) (hn : (keys M).Nodup) (hm : 1 ≤ m) : wsum g (mrg M m) = wsum g M + chl M m * g m - cn M (2 * m) * g (2 * m) - cn M (2 * m + 1) * g (2 * m + 1) := by
  unfold mrg
  rw [wsum_del, wsum_del, wsum_put, get_del 0 (nodup_put hn _ _), if_neg (by omega), get_put, get_put, if_neg (by omega), if_neg (by omega)]
  show wsum g M + (cn M m + chl M m - cn M m) * g m - _ - _ = _
  rw [show cn M m + chl M m - cn M m = chl M m by omega]
theorem MInv.mrg (h : MInv w th count nodes M) (hm : 1 ≤ m) (hc : can th M m) (hw : 1 ≤ w ∧ w ≤ 20) (hth : th ≤ count) : MInv w th count nodes (mrg M m) := by
  obtain ⟨x, rfl, hX, hs, hlt⟩ := h.can_nod hm hc hw
  obtain ⟨c1, c2⟩ := hc
  have a0 := (h.cn0 (2 * x)).1
  have b0 := (h.cn0 (2 * x + 1)).1
  have m0 := (h.cn0 x).1
  have hch : 1 ≤ chl M x := by have : 0 ≤ chl M x := by show 0 ≤ cn M _ + cn M _; omega
                               omega
  have hi := hi_child hX hs
  have t1 : ((x : Int)).toNat = x := Int.toNat_natCast x
  have t2 : (2 * (x : Int)).toNat = 2 * x := by omega
  have t3 : (2 * (x : Int) + 1).toNat = 2 * x + 1 := by omega
  refine ⟨?_, fun j hj => ?_, fun j hj hlj => ?_, ?_, fun v => ?_, fun v => ?_⟩
  · exact nodup_del (nodup_del (nodup_put h.nod _ _) _) _
  · obtain ⟨g1, g2, g3⟩ := (keys_mrg h.nod j).1 hj
    rw [get_mrg h.nod, if_neg g1, if_neg g2]
    by_cases e : j = x
    · subst e; rw [if_pos rfl]; exact ⟨⟨x, rfl, hX⟩, by omega, by omega⟩
    · rw [if_neg e]; exact h.node j (g3.resolve_left e)
  · obtain ⟨g1, g2, g3⟩ := (keys_mrg h.nod j).1 hj
    rw [get_mrg h.nod, if_neg g1, if_neg g2]
    by_cases e : j = x
    · subst e; rw [if_pos rfl]; exact c2
    · rw [if_neg e]; exact h.inner j (g3.resolve_left e) hlj
  · rw [wsum_mrg _ h.nod hm, h.sum]
    show count + (cn M _ + cn M _) * 1 - _ * 1 - _ * 1 = count
    omega
  · rw [wsum_mrg _ h.nod hm]
    have h0 := h.lo v
    refine Int.le_trans ?_ h0
    have i1 : hiInd w v x ≤ hiInd w v (2 * x) := by
      unfold hiInd; rw [t1, t2]; split <;> split <;> omega
    have i2 : hiInd w v x ≤ hiInd w v (2 * x + 1) := by
      unfold hiInd; rw [t1, t3]; split <;> split <;> omega
    have j1 := Int.mul_le_mul_of_nonneg_left i1 a0
    have j2 := Int.mul_le_mul_of_nonneg_left i2 b0
    have e : chl M x * hiInd w v x = cn M (2 * x) * hiInd w v x + cn M (2 * x + 1) * hiInd w v x := Int.add_mul _ _ _
    omega
  · rw [wsum_mrg _ h.nod hm]
    have h0 := h.hi v
    refine Int.le_trans h0 ?_
    have i1 : loInd w v (2 * x) ≤ loInd w v x := by
      unfold loInd; rw [t1, t2]; split <;> split <;> omega
    have i2 : loInd w v (2 * x + 1) ≤ loInd w v x := by
      unfold loInd; rw [t1, t3]; split <;> split <;> omega
    have j1 := Int.mul_le_mul_of_nonneg_left i1 a0
    have j2 := Int.mul_le_mul_of_nonneg_left i2 b0
    have e : chl M x * loInd w v x = cn M (2 * x) * loInd w v x + cn M (2 * x + 1) * loInd w v x := Int.add_mul _ _ _
    omega
theorem MInv.dep (h : MInv w th count nodes M) (hm : 1 ≤ m) (hc : can th M m) (hw : 1 ≤ w ∧ w ≤ 20) : ksum dep (Q.mrg M m) + 1 ≤ ksum dep M := by
  obtain ⟨x, rfl, hX, hs, hlt⟩ := h.can_nod hm hc hw
  obtain ⟨d1, d2, d3, d4, _⟩ := hX.dbl hs
  have l0 := hX.le; have l1 := d1.le; have l2 := d2.le
  have e2 : Q.dep (2 * (x : Int)) = Q.dep x + 1 := by
    unfold Q.dep
    rw [show (2 * (x : Int)).toNat = 2 * x by omega, Int.toNat_natCast]
    unfold sh at d3 hs; omega
  have e3 : Q.dep (2 * (x : Int) + 1) = Q.dep x + 1 := by
    unfold Q.dep
    rw [show (2 * (x : Int) + 1).toNat = 2 * x + 1 by omega, Int.toNat_natCast]
    unfold sh at d4 hs; omega
  have hp := nodup_put h.nod (x : Int) (cn M x + chl M x)
  have s1 := ksum_put Q.dep M (x : Int) (cn M x + chl M x)
  have s2 := ksum_del Q.dep (mput ieq M (x : Int) (cn M x + chl M x)) (2 * x)
  have s3 := ksum_del Q.dep (mdel ieq (mput ieq M (x : Int) (cn M x + chl M x)) (2 * x)) (2 * x + 1)
  have k2 : 2 * (x : Int) ∈ keys (mput ieq M (x : Int) (cn M x + chl M x)) ↔ 2 * (x : Int) ∈ keys M := by rw [mem_put]; exact ⟨fun h' => h'.resolve_left (by omega), .inr⟩
  have k3 : 2 * (x : Int) + 1 ∈ keys (mdel ieq (mput ieq M (x : Int) (cn M x + chl M x)) (2 * x)) ↔ 2 * (x : Int) + 1 ∈ keys M := by
    rw [mem_del hp, mem_put]; exact ⟨fun h' => h'.2.resolve_left (by omega), fun h' => ⟨by omega, .inr h'⟩⟩
  have key : 2 * (x : Int) ∈ keys M ∨ 2 * (x : Int) + 1 ∈ keys M := by
    by_cases h1 : 2 * (x : Int) ∈ keys M
    · exact .inl h1
    by_cases h2 : 2 * (x : Int) + 1 ∈ keys M
    · exact .inr h2
    exact absurd (show chl M x = 0 by show cn M (2 * x) + cn M (2 * x + 1) = 0; rw [(h.cn0 _).2.2.1 h1, (h.cn0 _).2.2.1 h2]; rfl) hc.1
  rw [e2] at s2; rw [e3] at s3
  simp only [k2] at s2
  simp only [k3] at s3
  show ksum Q.dep (mdel ieq (mdel ieq (mput ieq M (x : Int) (cn M x + chl M x)) (2 * x)) (2 * x + 1)) + 1 ≤ _
  generalize ksum Q.dep (mdel ieq (mdel ieq (mput ieq M (x : Int) (cn M x + chl M x)) (2 * x)) (2 * x + 1)) = A at *
  generalize ksum Q.dep (mdel ieq (mput ieq M (x : Int) (cn M x + chl M x)) (2 * x)) = B at *
  generalize ksum Q.dep (mput ieq M (x : Int) (cn M x + chl M x)) = C at *
  have : C ≤ ksum Q.dep M + Q.dep x := by rw [s1]; split <;> omega
  rcases key with h1 | h1
  · rw [if_pos h1] at s2; omega
  · rw [if_pos h1] at s3; omega
theorem ksum_one (M : KV Int) : ksum (fun _ => 1) M = M.length := by
  unfold ksum keys
  induction M with
  | nil => rfl
  | cons p M ih => simp only [List.map_cons, List.sum_cons, ih, List.length_cons]; omega
theorem MInv.shrink (h : MInv w th count nodes M) (hm : 1 ≤ m) (hc : can th M m) : (Q.mrg M m).length ≤ M.length := by
  have hp := nodup_put h.nod m (cn M m + chl M m)
  have s1 := ksum_put (fun _ => 1) M m (cn M m + chl M m)
  have s2 := ksum_del (fun _ => 1) (mput ieq M m (cn M m + chl M m)) (2 * m)
  have s3 := ksum_del (fun _ => 1) (mdel ieq (mput ieq M m (cn M m + chl M m)) (2 * m)) (2 * m + 1)
  have k2 : 2 * m ∈ keys (mput ieq M m (cn M m + chl M m)) ↔ 2 * m ∈ keys M := by rw [mem_put]; exact ⟨fun h' => h'.resolve_left (by omega), .inr⟩
  have k3 : 2 * m + 1 ∈ keys (mdel ieq (mput ieq M m (cn M m + chl M m)) (2 * m)) ↔ 2 * m + 1 ∈ keys M := by
    rw [mem_del hp, mem_put]; exact ⟨fun h' => h'.2.resolve_left (by omega), fun h' => ⟨by omega, .inr h'⟩⟩
  have key : 2 * m ∈ keys M ∨ 2 * m + 1 ∈ keys M := by
    by_cases h1 : 2 * m ∈ keys M
    · exact .inl h1
    by_cases h2 : 2 * m + 1 ∈ keys M
    · exact .inr h2
    exact absurd (show chl M m = 0 by show cn M (2 * m) + cn M (2 * m + 1) = 0; rw [(h.cn0 _).2.2.1 h1, (h.cn0 _).2.2.1 h2]; rfl) hc.1
  simp only [k2] at s2
  simp only [k3] at s3
  simp only [ksum_one] at s1 s2 s3
  show (mdel ieq (mdel ieq (mput ieq M m (cn M m + chl M m)) (2 * m)) (2 * m + 1)).length ≤ _
  generalize (mdel ieq (mdel ieq (mput ieq M m (cn M m + chl M m)) (2 * m)) (2 * m + 1)).length = A at *
  generalize (mdel ieq (mput ieq M m (cn M m + chl M m)) (2 * m)).length = B at *
  generalize (mput ieq M m (cn M m + chl M m)).length = C at *
  have : C ≤ M.length + 1 := by rw [s1]; split <;> omega
  rcases key with h1 | h1
  · rw [if_pos h1] at s2; omega
  · rw [if_pos h1] at s3; omega
end
noncomputable def body18 (x : Dg) (s5 : List Nd × List Int) : Option ((List Nd × List Int) ⊕ (List Nd ⊕ (Dg × Int))) :=
call (F47 s5.2) fun (r6 : Int) =>
sel (ilt 0 r6) (join (call (F48 s5.2) fun (r7 : (Int × (List Int))) =>
sel (pickV (ieq (iadd .i64 (mget ieq 0 s5.1 (imul .i64 2 r7.1)) (mget ieq 0 s5.1 (iadd .i64 (imul .i64 2 r7.1) 1))) 0) true (ilt (iquo .i64 x.2.2.1 x.2.1) (iadd .i64 (mget ieq 0 s5.1 r7.1) (iadd .i64 (mget ieq 0 s5.1 (imul .i64 2 r7.1)) (mget ieq 0 s5.1 (iadd .i64 (imul .i64 2 r7.1) 1)))))) (some (.inl (s5.1, r7.2))) <|
join (need (ile 0 x.1) <|
sel (ilt (imul .i64 2 r7.1) (ishl .i64 1 x.1)) (call (F49 (imul .i64 2 r7.1, r7.2)) fun (r8 : (List Int)) =>
call (F49 (iadd .i64 (imul .i64 2 r7.1) 1, r8)) fun (r9 : (List Int)) =>
some (.inl r9)) <|
some (.inl r7.2)) fun (j10 : (List Int)) =>
sel (ilt 1 r7.1) (need (ine 2 0) <|
call (F49 (iquo .i64 r7.1 2, j10)) fun (r11 : (List Int)) =>
some (.inl (mdel ieq (mdel ieq (mput ieq s5.1 r7.1 (iadd .i64 (mget ieq 0 s5.1 r7.1) (iadd .i64 (mget ieq 0 s5.1 (imul .i64 2 r7.1)) (mget ieq 0 s5.1 (iadd .i64 (imul .i64 2 r7.1) 1))))) (imul .i64 2 r7.1)) (iadd .i64 (imul .i64 2 r7.1) 1), r11))) <|
some (.inl (mdel ieq (mdel ieq (mput ieq s5.1 r7.1 (iadd .i64 (mget ieq 0 s5.1 r7.1) (iadd .i64 (mget ieq 0 s5.1 (imul .i64 2 r7.1)) (mget ieq 0 s5.1 (iadd .i64 (imul .i64 2 r7.1) 1))))) (imul .i64 2 r7.1)) (iadd .i64 (imul .i64 2 r7.1) 1), j10))) fun (j12 : ((List (Int × Int)) × (List Int))) =>
some (.inl (j12.1, j12.2))) <|
some (.inr (.inl s5.1))
section
variable {w : Nat} {k count : Int} {nodes nd0 : List Nd}
theorem imul_2 {m : Int} (h : 0 ≤ m ∧ m < 4611686018427387904) : imul .i64 2 m = 2 * m := wrap_id (by omega) (by omega)
theorem iquo_2 {m : Int} (h : 0 ≤ m ∧ m < 4611686018427387904) : iquo .i64 m 2 = m / 2 := by
  have e : m.tdiv 2 = m / 2 := Int.tdiv_eq_ediv_of_nonneg h.1
  unfold iquo; rw [e]; exact wrap_id (by omega) (by omega)
inductive Gr (th : Int) : List Nd → List Nd → Prop
  | done (M) : (∀ m, 1 ≤ m → ¬ can th M m) → Gr th M M
  | step (M m r) : 1 ≤ m → can th M m → (∀ y, 1 ≤ y → can th M y → y ≤ m) → Gr th (mrg M m) r → Gr th M r
theorem cmp_loop (hw : 1 ≤ w ∧ w ≤ 20) (hc : 0 ≤ count ∧ count ≤ 1099511627776) (hth : thr count k ≤ count) : ∀ (μ : Nat) (M : List Nd) (T : List Int), T.length + 3 * ksum dep M = μ → μ ≤ 900000 → MInv w (thr count k) count nodes M → (∀ m ∈ T, 1 ≤ m ∧ m < ((2 ^ w : Nat) : Int)) → (∀ m, 1 ≤ m → can (thr count k) M m → m ∈ T) → Heap1 T →
    ∃ M', iter (body18 ((w : Int), k, count, nd0)) (M, T) = some (.inl M') ∧ MInv w (thr count k) count nodes M' ∧ (∀ m, 1 ≤ m → ¬ can (thr count k) M' m) ∧ ((∀ m, 1 ≤ m → ¬ can (thr count k) M m) → M' = M) ∧ ksum dep M' ≤ ksum dep M ∧ M'.length ≤ M.length ∧ Gr (thr count k) M M' := by
  intro μ
  induction μ using Nat.strongRecOn with
  | _ μ ih =>
  intro M T hμ hb hM hT hcov hH
  have p20 := pow21 hw.2
  cases hT0 : T with
  | nil =>
    subst hT0
    refine ⟨M, iter_r ?_, hM, fun m h1 h2 => (by cases hcov m h1 h2), fun _ => rfl, Nat.le_refl _, Nat.le_refl _, .done M fun m h1 h2 => (by cases hcov m h1 h2)⟩
    unfold body18
    rw [call_s (F47_eq _)]; rfl
  | cons t0 T0 =>
    rw [← hT0]
    have hne : T ≠ [] := by rw [hT0]; simp
    have hpos : 0 < T.length := by rw [hT0]; simp
    obtain ⟨m, r, h48, hperm, hmax, hHr⟩ := F48_heap hne (by omega) hH
    have hml := hperm.length_eq
    rw [List.length_cons] at hml
    have hm := hT m (hperm.subset (by simp))
    have hr : ∀ y ∈ r, 1 ≤ y ∧ y < ((2 ^ w : Nat) : Int) := fun y hy => hT y (hperm.subset (by simp [hy]))
    have e2 : imul .i64 2 m = 2 * m := imul_2 (by omega)
    have e3 : iadd .i64 (2 * m) 1 = 2 * m + 1 := iadd_ok (by omega) (by omega)
    have a0 := hM.cn0 (2 * m); have b0 := hM.cn0 (2 * m + 1); have m0 := hM.cn0 m
    have e4 : iadd .i64 (mget ieq 0 M (2 * m)) (mget ieq 0 M (2 * m + 1)) = chl M m := iadd_ok (by show _ ≤ cn M _ + cn M _; omega) (by show cn M _ + cn M _ < _; omega)
    have ech : chl M m = cn M (2 * m) + cn M (2 * m + 1) := rfl
    have e5 : iadd .i64 (mget ieq 0 M m) (chl M m) = cn M m + chl M m := iadd_ok (by show _ ≤ cn M m + chl M m; omega) (by show cn M m + chl M m < _; omega)
    have hstep : ∀ R, join (call (F48 T) fun (r7 : (Int × (List Int))) =>
        sel (pickV (ieq (iadd .i64 (mget ieq 0 M (imul .i64 2 r7.1)) (mget ieq 0 M (iadd .i64 (imul .i64 2 r7.1) 1))) 0) true (ilt (iquo .i64 count k) (iadd .i64 (mget ieq 0 M r7.1) (iadd .i64 (mget ieq 0 M (imul .i64 2 r7.1)) (mget ieq 0 M (iadd .i64 (imul .i64 2 r7.1) 1)))))) (some (.inl (M, r7.2))) <|
        join (need (ile 0 (w : Int)) <|
        sel (ilt (imul .i64 2 r7.1) (ishl .i64 1 (w : Int))) (call (F49 (imul .i64 2 r7.1, r7.2)) fun (r8 : (List Int)) =>
        call (F49 (iadd .i64 (imul .i64 2 r7.1) 1, r8)) fun (r9 : (List Int)) =>
        some (.inl r9)) <|
        some (.inl r7.2)) fun (j10 : (List Int)) =>
        sel (ilt 1 r7.1) (need (ine 2 0) <|
        call (F49 (iquo .i64 r7.1 2, j10)) fun (r11 : (List Int)) =>
        some (.inl (mdel ieq (mdel ieq (mput ieq M r7.1 (iadd .i64 (mget ieq 0 M r7.1) (iadd .i64 (mget ieq 0 M (imul .i64 2 r7.1)) (mget ieq 0 M (iadd .i64 (imul .i64 2 r7.1) 1))))) (imul .i64 2 r7.1)) (iadd .i64 (imul .i64 2 r7.1) 1), r11))) <|
        some (.inl (mdel ieq (mdel ieq (mput ieq M r7.1 (iadd .i64 (mget ieq 0 M r7.1) (iadd .i64 (mget ieq 0 M (imul .i64 2 r7.1)) (mget ieq 0 M (iadd .i64 (imul .i64 2 r7.1) 1))))) (imul .i64 2 r7.1)) (iadd .i64 (imul .i64 2 r7.1) 1), j10))) (fun (j12 : ((List (Int × Int)) × (List Int))) =>
        (some (.inl (j12.1, j12.2)) : Option ((List Nd × List Int) ⊕ (List Nd ⊕ (Dg × Int))))) = some (.inl R) → body18 ((w : Int), k, count, nd0) (M, T) = some (.inl R) := by
      intro R h
      unfold body18
      rw [call_s (F47_eq _), sel_t (by rw [ilt_d]; simp; omega)]
      exact h
    by_cases hcan : can (thr count k) M m
    · obtain ⟨x, hx, hX, hs, hlt⟩ := hM.can_nod hm.1 hcan hw
      have hM' := hM.mrg hm.1 hcan hw hth
      have hd := hM.dep hm.1 hcan hw
      have hq1 : ∃ r1, (need (ile 0 (w : Int)) <| sel (ilt (2 * m) (ishl .i64 1 (w : Int))) (call (F49 (2 * m, r)) fun (r8 : (List Int)) => call (F49 (2 * m + 1, r8)) fun (r9 : (List Int)) => (some (.inl r9) : Option (List Int ⊕ ((List Nd × List Int) ⊕ ((List Nd × List Int) ⊕ (List Nd ⊕ (Dg × Int))))))) <| some (.inl r)) = some (.inl r1) ∧ r1.length ≤ r.length + 2 ∧ (∀ y ∈ r, y ∈ r1) ∧ (∀ y ∈ r1, y ∈ r ∨ ((y = 2 * m ∨ y = 2 * m + 1) ∧ 2 * m < ((2 ^ w : Nat) : Int))) ∧ (2 * m < ((2 ^ w : Nat) : Int) → 2 * m ∈ r1 ∧ 2 * m + 1 ∈ r1) ∧ Heap1 r1 := by
        rw [need_t (by rw [ile_d]; simp), ishl_1 w hw.2, ilt_d, sel_i]
        by_cases h2 : 2 * m < ((2 ^ w : Nat) : Int)
        · rw [if_pos h2]
          obtain ⟨q1, g1, g2, hq1⟩ := F49_heap (x := 2 * m) (l := r) (by omega) hHr
          obtain ⟨q2, g3, g4, hq2⟩ := F49_heap (x := 2 * m + 1) (l := q1) (by have := g2.length_eq; simp at this; omega) hq1
          have l1 := g2.length_eq; have l2 := g4.length_eq
          simp only [List.length_cons] at l1 l2
          refine ⟨q2, by rw [call_s g1, call_s g3], by omega, fun y hy => g4.symm.subset (List.mem_cons_of_mem _ (g2.symm.subset (List.mem_cons_of_mem _ hy))), fun y hy => ?_, fun _ => ⟨g4.symm.subset (List.mem_cons_of_mem _ (g2.symm.subset (by simp))), g4.symm.subset (by simp)⟩, hq2⟩
          rcases List.mem_cons.1 (g4.subset hy) with h | h
          · exact .inr ⟨.inr h, h2⟩
          · rcases List.mem_cons.1 (g2.subset h) with h | h
            · exact .inr ⟨.inl h, h2⟩
            · exact .inl h
        · rw [if_neg h2]
          exact ⟨r, rfl, by omega, fun y hy => hy, fun y hy => .inl hy, fun h => absurd h h2, hHr⟩
      obtain ⟨r1, q1, ql, qs, qb, qc, hH1⟩ := hq1
      have hq2 : ∃ r2, (sel (ilt 1 m) (need (ine 2 0) <| call (F49 (m / 2, r1)) fun (r11 : (List Int)) => (some (.inl (mrg M m, r11)) : Option ((List Nd × List Int) ⊕ ((List Nd × List Int) ⊕ (List Nd ⊕ (Dg × Int)))))) <| some (.inl (mrg M m, r1))) = some (.inl (mrg M m, r2)) ∧ r2.length ≤ r1.length + 1 ∧ (∀ y ∈ r1, y ∈ r2) ∧ (∀ y ∈ r2, y ∈ r1 ∨ (y = m / 2 ∧ 1 < m)) ∧ (1 < m → m / 2 ∈ r2) ∧ Heap1 r2 := by
        rw [ilt_d, sel_i]
        by_cases h2 : 1 < m
        · rw [if_pos h2, need_t (show ine 2 0 = true from rfl)]
          obtain ⟨q3, g1, g2, hq3⟩ := F49_heap (x := m / 2) (l := r1) (by omega) hH1
          have l1 := g2.length_eq
          simp only [List.length_cons] at l1
          refine ⟨q3, by rw [call_s g1], by omega, fun y hy => g2.symm.subset (List.mem_cons_of_mem _ hy), fun y hy => ?_, fun _ => g2.symm.subset (by simp), hq3⟩
          rcases List.mem_cons.1 (g2.subset hy) with h | h
          · exact .inr ⟨h, h2⟩
          · exact .inl h
        · rw [if_neg h2]
          exact ⟨r1, rfl, by omega, fun y hy => hy, fun y hy => .inl hy, fun h => absurd h h2, hH1⟩
      obtain ⟨r2, q2, ql2, qs2, qb2, qc2, hH2⟩ := hq2
      have hlen : r2.length + 3 * ksum dep (mrg M m) < μ := by omega
      have hT2 : ∀ y ∈ r2, 1 ≤ y ∧ y < ((2 ^ w : Nat) : Int) := fun y hy => by
        rcases qb2 y hy with h | ⟨rfl, h⟩
        · rcases qb y h with h | ⟨h, h'⟩
          · exact hr y h
          · have hp : ((2 ^ w : Nat) : Int) = 2 * ((2 ^ (w - 1) : Nat) : Int) := by
              have : 2 ^ w = 2 * 2 ^ (w - 1) := by rw [← Nat.pow_succ']; congr 1; omega
              omega
            omega
        · omega
      have hC2 : ∀ y, 1 ≤ y → can (thr count k) (mrg M m) y → y ∈ r2 := fun y h1 h2 => by
        have hyd := hM'.can_nod h1 h2 hw
        obtain ⟨c1, c2⟩ := h2
        have g1 : cn (mrg M m) (2 * y) = cn M (2 * y) ∨ y = m ∨ 2 * y = m := by
          rw [get_mrg hM.nod]
          by_cases d1 : 2 * y = 2 * m + 1
          · omega
          by_cases d2 : 2 * y = 2 * m
          · exact .inr (.inl (by omega))
          by_cases d3 : 2 * y = m
          · exact .inr (.inr d3)
          rw [if_neg d1, if_neg d2, if_neg d3]; exact .inl rfl
        have g2 : cn (mrg M m) (2 * y + 1) = cn M (2 * y + 1) ∨ y = m ∨ 2 * y + 1 = m := by
          rw [get_mrg hM.nod]
          by_cases d1 : 2 * y + 1 = 2 * m + 1
          · exact .inr (.inl (by omega))
          by_cases d2 : 2 * y + 1 = 2 * m
          · omega
          by_cases d3 : 2 * y + 1 = m
          · exact .inr (.inr d3)
          rw [if_neg d1, if_neg d2, if_neg d3]; exact .inl rfl
        have g3 : cn (mrg M m) y = cn M y ∨ y = m ∨ y = 2 * m ∨ y = 2 * m + 1 := by
          rw [get_mrg hM.nod]
          by_cases d1 : y = 2 * m + 1
          · exact .inr (.inr (.inr d1))
          by_cases d2 : y = 2 * m
          · exact .inr (.inr (.inl d2))
          by_cases d3 : y = m
          · exact .inr (.inl d3)
          rw [if_neg d1, if_neg d2, if_neg d3]; exact .inl rfl
        have nm : y ≠ m := fun e => by
          subst e
          apply c1
          show cn (mrg M y) (2 * y) + cn (mrg M y) (2 * y + 1) = 0
          rw [get_mrg hM.nod, get_mrg hM.nod, if_neg (by omega), if_pos rfl, if_pos rfl]; rfl
        by_cases up1 : y = m / 2 ∧ 1 < m
        · rw [up1.1]; exact qc2 up1.2
        obtain ⟨yn, hyn, hY, _, hylt⟩ := hyd
        by_cases dn : y = 2 * m ∨ y = 2 * m + 1
        · have := qc (by omega)
          rcases dn with rfl | rfl
          · exact qs2 _ this.1
          · exact qs2 _ this.2
        have f1 := g1.resolve_right (by omega)
        have f2 := g2.resolve_right (by omega)
        have f3 := g3.resolve_right (by omega)
        have hcy : can (thr count k) M y := by
          unfold can chl at *
          rw [f1, f2] at c1 c2; rw [f3] at c2
          exact ⟨c1, c2⟩
        have := hcov y h1 hcy
        rcases List.mem_cons.1 (hperm.symm.subset this) with h | h
        · exact absurd h nm
        · exact qs2 _ (qs _ h)
      obtain ⟨M', i1, i2, i3, i4, i5⟩ := ih _ hlen (mrg M m) r2 rfl (by omega) hM' hT2 hC2 hH2
      refine ⟨M', iter_l (hstep _ ?_) i1, i2, i3, fun h => absurd hcan (h m hm.1), by omega, Nat.le_trans i5.2.1 (hM.shrink hm.1 hcan), .step M m M' hm.1 hcan (fun y h1 h2 => hmax y (hcov y h1 h2)) i5.2.2⟩
      rw [call_s h48]
      dsimp only
      rw [e2, e3, e4, e5, iquo_2 (by omega), iquo_thr, pick_or, ieq_d, ilt_d, ← Bool.decide_or, sel_i, if_neg (fun h => by obtain ⟨c1, c2⟩ := hcan; omega)]
      refine Eq.trans (congrArg (fun o => join o _) (Eq.trans (join_l q1) q2)) rfl
    · obtain ⟨M', i1, i2, i3, i4, i5⟩ := ih (r.length + 3 * ksum dep M) (by omega) M r rfl (by omega) hM hr (fun y h1 h2 => by
        rcases List.mem_cons.1 (hperm.symm.subset (hcov y h1 h2)) with h | h
        · subst h; exact absurd h2 hcan
        · exact h) hHr
      refine ⟨M', iter_l (hstep _ ?_) i1, i2, i3, i4, i5⟩
      rw [call_s h48]
      dsimp only
      rw [e2, e3, e4, e5, iquo_thr, pick_or, ieq_d, ilt_d, ← Bool.decide_or, sel_i, if_pos (by unfold can at hcan; omega)]; rfl
end
def Asc (l : List Nd) : Prop := l.Pairwise fun a b => a.1 < b.1
theorem asc_unique : ∀ {l l' : List Nd}, Asc l → Asc l' → l.Perm l' → l = l'
  | [], l', _, _, h => (List.nil_perm.1 h).symm
  | a :: l, [], _, _, h => absurd h.length_eq (by simp)
  | a :: l, b :: l', ha, hb, h => by
    have ha' := List.pairwise_cons.1 ha
    have hb' := List.pairwise_cons.1 hb
    have e : a = b := by
      have h1 : a ∈ b :: l' := h.subset (by simp)
      have h2 : b ∈ a :: l := h.symm.subset (by simp)
      rcases List.mem_cons.1 h1 with h1 | h1
      · exact h1
      rcases List.mem_cons.1 h2 with h2 | h2
      · exact h2.symm
      have := ha'.1 b h2
      have := hb'.1 a h1
      omega
    subst e
    rw [asc_unique ha'.2 hb'.2 ((List.perm_cons a).1 h)]
theorem asc_nodup {l : List Nd} (h : Asc l) : (keys l).Nodup := by
  unfold keys
  rw [List.Nodup, List.pairwise_map]
  exact h.imp fun h e => by omega
theorem asc_of {l : List Nd} (h : (keys l).Nodup) (hs : l.Pairwise fun a b => ∀ i j, key51 a = some i → key51 b = some j → i ≤ j) : Asc l := by
  unfold keys at h
  rw [List.Nodup, List.pairwise_map] at h
  exact (List.Pairwise.and h hs).imp fun ⟨h1, h2⟩ => by have := h2 _ _ rfl rfl; omega
theorem sort_ex (l : List Nd) : ∃ r : List Nd, r.Perm l ∧ r.Pairwise fun a b => ∀ i j, key51 a = some i → key51 b = some j → i ≤ j := by
  refine ⟨l.mergeSort (fun a b => decide (a.1 ≤ b.1)), List.mergeSort_perm _ _, ?_⟩
  have := List.pairwise_mergeSort (le := fun a b : Nd => decide (a.1 ≤ b.1)) (fun a b c h1 h2 => by simp at *; omega) (fun a b => by simp; omega) l
  refine this.imp fun {a b} h i j hi hj => ?_
  have := Option.some.inj hi; have := Option.some.inj hj
  simp at h; omega
theorem callQ_of {A R : Type} {p : A → Prop} {k : A → Option R} {r : R} (h1 : ∃ a, p a) (h2 : ∀ a, p a → k a = some r) : callQ p k = some r := by
  have hx : (∃ a, p a) ∧ ∃ r, ∀ a, p a → k a = some r := ⟨h1, r, h2⟩
  unfold callQ
  rw [dif_pos hx]
  obtain ⟨a, ha⟩ := h1
  have := Classical.choose_spec hx.2 a ha
  rw [h2 a ha] at this
  exact this.symm
theorem mrange_of {A S E : Type} {l : List A} {B : A → S → Option (S ⊕ E)} {N : S → Option (S ⊕ E)} {s : S} {e : E} (h : ∀ l', l'.Perm l → foldM B N l' s = some e) : mrange l B N s = some e := by
  have hx : ∃ e, ∀ l', l'.Perm l → foldM B N l' s = some e := ⟨e, h⟩
  unfold mrange
  rw [dif_pos hx]
  have := Classical.choose_spec hx l (.refl _)
  rw [h l (.refl _)] at this
  exact this.symm
theorem foldM_app {E : Type} {N : List Nd → Option (List Nd ⊕ E)} {e : E} : ∀ (l s : List Nd), s.length + l.length ≤ 1000000 → N (s ++ l) = some (.inr e) →
    foldM (fun (p14 : (Int × Int)) (s15 : (List (Int × Int))) => need (room (nadd (llen s15) (llen ((p14.1, p14.2) :: ([] : List (Int × Int))))) 16) <| some (.inl (lcat s15 ((p14.1, p14.2) :: ([] : List (Int × Int)))))) N l s = some e
  | [], s, _, h => by
    rw [List.append_nil] at h
    rw [foldM, h]
  | a :: l, s, h, hN => by
    rw [List.length_cons] at h
    rw [foldM, need_t (by simp [room, nadd, llen]; omega)]
    dsimp only
    exact foldM_app (N := N) l (s ++ [a]) (by simp; omega) (by simpa using hN)
theorem mk8 {n : Nat} (h : n ≤ 1000000) : Go.T.mk 0 (n2i n) 8 = true := by
  unfold Go.T.mk n2i; simp; omega
theorem mk16 {n : Nat} (h : n ≤ 1000000) : Go.T.mk 0 (n2i n) 16 = true := by
  unfold Go.T.mk n2i; simp; omega
theorem get_perm {M M' : KV Int} (h : M.Perm M') (hn : (keys M).Nodup) (j : Int) : mget ieq 0 M j = mget ieq 0 M' j := by
  have hk : (keys M).Perm (keys M') := h.map _
  have hn' : (keys M').Nodup := hk.nodup_iff.1 hn
  by_cases hj : j ∈ keys M
  · have h1 := (mem_get 0 hn j _).2 ⟨hj, rfl⟩
    exact ((mem_get 0 hn' j _).1 (h.subset h1)).2.symm
  · rw [get_out 0 hj, get_out 0 (fun h' => hj (hk.symm.subset h'))]
theorem MInv.perm {w : Nat} {th count : Int} {nodes M M' : KV Int} (h : MInv w th count nodes M) (hp : M.Perm M') : MInv w th count nodes M' := by
  have hk : (keys M).Perm (keys M') := hp.map _
  have hg := fun j => get_perm hp h.nod j
  refine ⟨hk.nodup_iff.1 h.nod, fun id hid => ?_, fun id hid hlt => ?_, by rw [← wsum_perm hp]; exact h.sum, fun v => by rw [← wsum_perm hp]; exact h.lo v, fun v => by rw [← wsum_perm hp]; exact h.hi v⟩
  · have := h.node id (hk.symm.subset hid)
    unfold cn at this ⊢; rw [← hg]; exact this
  · have := h.inner id (hk.symm.subset hid) hlt
    unfold cn at this ⊢; rw [← hg]; exact this
theorem can_perm {th : Int} {M M' : KV Int} (hn : (keys M).Nodup) (hp : M.Perm M') (m : Int) : can th M m ↔ can th M' m := by
  have hg := fun j => get_perm hp hn j
  unfold can chl cn; rw [hg, hg, hg]
theorem len_ksum {w : Nat} {th count : Int} {nodes M : KV Int} (h : MInv w th count nodes M) : M.length ≤ ksum dep M := by
  have : ∀ l : List Int, (∀ id ∈ l, (∃ x : Nat, id = x ∧ Nod w x)) → l.length ≤ (l.map dep).sum := by
    intro l
    induction l with
    | nil => simp
    | cons a l ih =>
      intro hl
      obtain ⟨x, hx, hX⟩ := hl a (by simp)
      have := ih fun id hid => hl id (by simp [hid])
      have h1 : 1 ≤ dep a := by unfold dep; rw [hx, Int.toNat_natCast]; exact (blen_pos hX.x1).1
      rw [List.length_cons, List.map_cons, List.sum_cons]; omega
  have h2 := this (keys M) fun id hid => (h.node id hid).1
  simpa [keys, ksum] using h2
def todo : List Nd → List Int
  | [] => []
  | n :: l => if 1 < n.1 then n.1 / 2 :: todo l else todo l
theorem todo_len : ∀ l, (todo l).length ≤ l.length
  | [] => by simp [todo]
  | n :: l => by have := todo_len l; rw [todo]; split <;> simp <;> omega
theorem mem_todo : ∀ {l : List Nd} {m : Int}, m ∈ todo l ↔ ∃ n ∈ l, 1 < n.1 ∧ n.1 / 2 = m
  | [], m => by simp [todo]
  | n :: l, m => by
    rw [todo]
    split
    · rw [List.mem_cons, mem_todo]
      constructor
      · rintro (h | ⟨n', h1, h2⟩)
        · exact ⟨n, by simp, by assumption, h.symm⟩
        · exact ⟨n', by simp [h1], h2⟩
      · rintro ⟨n', h1, h2⟩
        rcases List.mem_cons.1 h1 with rfl | h1
        · exact .inl h2.2.symm
        · exact .inr ⟨n', h1, h2⟩
    · rw [mem_todo]
      constructor
      · rintro ⟨n', h1, h2⟩; exact ⟨n', by simp [h1], h2⟩
      · rintro ⟨n', h1, h2⟩
        rcases List.mem_cons.1 h1 with rfl | h1
        · exact absurd h2.1 (by assumption)
        · exact ⟨n', h1, h2⟩
def g18 (st : List Nd × List Int) (n : Nd) : List Nd × List Int := (mput ieq st.1 n.1 n.2, if 1 < n.1 then st.2 ++ [n.1 / 2] else st.2)
theorem put_new {M : KV Int} {k v : Int} (h : k ∉ keys M) : mput ieq M k v = M ++ [(k, v)] := by
  induction M with
  | nil => rfl
  | cons p M ih =>
    obtain ⟨j, x⟩ := p
    rw [keys_cons, List.mem_cons, not_or] at h
    rw [put_ne h.1, ih h.2]; rfl
theorem fold18 : ∀ (l acc : List Nd) (T : List Int), (keys (acc ++ l)).Nodup → l.foldl g18 (acc, T) = (acc ++ l, T ++ todo l)
  | [], acc, T, _ => by simp [todo]
  | n :: l, acc, T, h => by
    have h1 : n.1 ∉ keys acc := by
      intro h'
      unfold keys at h h'
      rw [List.map_append, List.map_cons, List.nodup_append] at h
      exact h.2.2 _ h' _ (by simp) rfl
    rw [List.foldl_cons]
    have e : g18 (acc, T) n = (acc ++ [n], if 1 < n.1 then T ++ [n.1 / 2] else T) := by unfold g18; rw [put_new h1]
    rw [e, fold18 l (acc ++ [n]) _ (by simpa using h), todo]
    split <;> simp
theorem thr_le {count k : Int} (hc : 0 ≤ count ∧ count ≤ 1099511627776) (hk : 1 ≤ k) : thr count k = count / k ∧ 0 ≤ thr count k ∧ thr count k ≤ count := by
  have e : count.tdiv k = count / k := Int.tdiv_eq_ediv_of_nonneg hc.1
  have h1 : count / k ≤ count := Int.ediv_le_self _ hc.1
  have h2 : 0 ≤ count / k := Int.ediv_nonneg hc.1 (by omega)
  have h3 : thr count k = count / k := by unfold thr; rw [e]; exact wrap_id (by omega) (by omega)
  omega
theorem cn_at {M : KV Int} (hn : (keys M).Nodup) {n : Nd} (h : n ∈ M) : cn M n.1 = n.2 := ((mem_get 0 hn n.1 n.2).1 h).2
theorem Dig.inv {w : Nat} {k count : Int} {nodes : List Nd} (D : Dig w k count nodes) : MInv w (thr count k) count nodes nodes := by
  have hn : (keys nodes).Nodup := asc_nodup D.asc
  have hk : ∀ id ∈ keys nodes, ∃ n ∈ nodes, n.1 = id ∧ cn nodes id = n.2 := fun id hid => by
    obtain ⟨n, h1, rfl⟩ := List.mem_map.1 hid
    exact ⟨n, h1, rfl, cn_at hn h1⟩
  refine ⟨hn, fun id hid => ?_, fun id hid hlt => ?_, ?_, fun v => Int.le_refl _, fun v => Int.le_refl _⟩
  · obtain ⟨n, h1, rfl, h2⟩ := hk id hid
    rw [h2]; exact D.node n h1
  · obtain ⟨n, h1, rfl, h2⟩ := hk id hid
    rw [h2]; exact D.inner n h1 hlt
  · have : wsum (fun _ => 1) nodes = (nodes.map (·.2)).sum := by unfold wsum; simp
    rw [this]; exact D.sum
theorem Dig.ksum {w : Nat} {k count : Int} {nodes : List Nd} (D : Dig w k count nodes) : Pl.ksum dep nodes ≤ 42000 := by
  have : ∀ l : List Nd, (∀ n ∈ l, ∃ x : Nat, n.1 = x ∧ Nod w x) → Pl.ksum dep l ≤ 21 * l.length := by
    intro l
    induction l with
    | nil => intro _; exact Nat.le_refl _
    | cons n l ih =>
      intro h
      obtain ⟨x, hx, hX⟩ := h n (by simp)
      have h1 := ih fun m hm => h m (by simp [hm])
      have h2 : dep n.1 ≤ 21 := by unfold dep; rw [hx, Int.toNat_natCast]; have := hX.le; have := hX.w2; omega
      have e : Pl.ksum dep (n :: l) = dep n.1 + Pl.ksum dep l := by unfold Pl.ksum keys; simp
      rw [e, List.length_cons]; omega
  have h := this nodes fun n hn => (D.node n hn).1
  have := D.len; omega
theorem F18_bad {bits k count : Int} {nodes : List Nd} (h : qcheck bits k count nodes ≠ 0) : F18 (bits, k, count, nodes) = some ((0, 0, 0, []), 1) := by
  unfold F18
  rw [call_s (F20_eq bits k count nodes), ine_d, sel_i, if_pos h]
structure Cmpd (w : Nat) (k count : Int) (nodes r : List Nd) : Prop where
  inv : MInv w (thr count k) count nodes r
  asc : Asc r
  none : ∀ m, 1 ≤ m → ¬ can (thr count k) r m
  same : (∀ m, 1 ≤ m → ¬ can (thr count k) nodes m) → r = nodes
  len : r.length ≤ nodes.length
  gr : ∃ M, Gr (thr count k) nodes M ∧ r.Perm M
theorem F18_good {bits k count : Int} {nodes : List Nd} (h : qcheck bits k count nodes = 0) : ∃ r, F18 (bits, k, count, nodes) = some ((bits, k, count, r), 0) ∧ Cmpd bits.toNat k count nodes r := by
  obtain ⟨hb, D⟩ := dig_of h
  have hw : 1 ≤ bits.toNat ∧ bits.toNat ≤ 20 := ⟨D.w1, D.w2⟩
  have hq := F20_eq bits k count nodes
  rw [h] at hq
  generalize hW : bits.toNat = w at *
  subst hb
  have p20 := pow21 hw.2
  have hlen := D.len
  have hk := D.k1
  obtain ⟨_, t1, t2⟩ := thr_le ⟨D.c0, D.c1⟩ D.k1
  have hl1 : iter (fun (s1 : (Int × ((List (Int × Int)) × (List Int)))) =>
      sel (ilt s1.1 (n2i (llen nodes))) (join (need (inL s1.1 (llen nodes)) <|
      sel (ilt 1 ((lget (0, 0) nodes (i2n s1.1)).1)) (need (ine 2 0) <|
      need (room (nadd (llen s1.2.2) (llen (iquo .i64 ((lget (0, 0) nodes (i2n s1.1)).1) 2 :: ([] : List Int)))) 8) <|
      some (.inl (mput ieq s1.2.1 ((lget (0, 0) nodes (i2n s1.1)).1) ((lget (0, 0) nodes (i2n s1.1)).2), lcat s1.2.2 (iquo .i64 ((lget (0, 0) nodes (i2n s1.1)).1) 2 :: ([] : List Int))))) <|
      some (.inl (mput ieq s1.2.1 ((lget (0, 0) nodes (i2n s1.1)).1) ((lget (0, 0) nodes (i2n s1.1)).2), s1.2.2))) fun (j2 : ((List (Int × Int)) × (List Int))) =>
      some (.inl (iadd .i64 s1.1 1, j2.1, j2.2))) <|
      (some (.inr (.inl (s1.2.1, s1.2.2))) : Option ((Int × ((List (Int × Int)) × (List Int))) ⊕ (((List (Int × Int)) × (List Int)) ⊕ (Dg × Int))))) (0, ([] : List (Int × Int)), lrep 0 0) = some (.inl (nodes, todo nodes)) := by
    refine (iter_for nodes (fun st i => (i, st.1, st.2)) (fun s a => .inl (g18 s a)) (fun st => (.inl st : (List Nd × List Int) ⊕ (Dg × Int))) (fun i st => st.2.length ≤ i) (([] : List Nd), ([] : List Int)) (by simp) ?_ ?_).trans ?_
    · rintro i ⟨M, T⟩ hi hI
      have hlt : (i : Int) < nodes.length := by omega
      have hin : inL (i : Int) nodes.length = true := inL_t hi
      have hg : lget (0, 0) nodes i = nodes[i] := lget_t hi
      obtain ⟨⟨x, hx, hX⟩, hc⟩ := D.node nodes[i] (List.getElem_mem hi)
      have hx2 := hX.x2
      have hp : 2 ^ (w + 1) = 2 * 2 ^ w := by rw [Nat.pow_succ]; omega
      dsimp only at hI ⊢
      simp only [n2i_c, llen_c, i2n_c, hg, hin, need_t, ilt_d, sel_i, hlt, if_true]
      generalize nodes[i] = n at *
      rw [iadd_ok (by omega) (by omega), iquo_2 (by omega)]
      unfold g18
      dsimp only
      by_cases h1 : 1 < n.1
      · rw [if_pos h1, if_pos h1, need_t (show ine 2 0 = true from rfl), need_t (by simp [room, nadd]; omega)]
        refine ⟨rfl, fun st' h => ?_⟩
        have := Sum.inl.inj h; subst this
        simp; omega
      · rw [if_neg h1, if_neg h1]
        refine ⟨rfl, fun st' h => ?_⟩
        have := Sum.inl.inj h; subst this
        dsimp only; omega
    · intro st hI
      simp only [n2i_c, llen_c, ilt_d, sel_i]
      rw [if_neg (by omega)]
    · rw [fold_l, fold18 nodes [] [] (by simpa using asc_nodup D.asc)]; simp
  have hT : (todo nodes).length ≤ nodes.length := todo_len nodes
  obtain ⟨T, hT1, hT2, hT3⟩ := F46_heap (l := todo nodes) (by omega)
  have hTl := hT2.length_eq
  have hk0 := D.ksum
  have hinv := D.inv
  obtain ⟨M', l1, l2, l3, l4, l5, l6⟩ := cmp_loop (nd0 := nodes) (nodes := nodes) hw ⟨D.c0, D.c1⟩ t2 _ nodes T rfl (by omega) hinv (fun m hm => by
    obtain ⟨n, h1, h2, rfl⟩ := mem_todo.1 (hT2.subset hm)
    obtain ⟨⟨x, hx, hX⟩, _⟩ := D.node n h1
    have hx2 := hX.x2
    have hp : 2 ^ (w + 1) = 2 * 2 ^ w := by rw [Nat.pow_succ]; omega
    omega) (fun m h1 h2 => by
    have key : 2 * m ∈ keys nodes ∨ 2 * m + 1 ∈ keys nodes := by
      by_cases g1 : 2 * m ∈ keys nodes
      · exact .inl g1
      by_cases g2 : 2 * m + 1 ∈ keys nodes
      · exact .inr g2
      exact absurd (show chl nodes m = 0 by show cn nodes (2 * m) + cn nodes (2 * m + 1) = 0; rw [(hinv.cn0 _).2.2.1 g1, (hinv.cn0 _).2.2.1 g2]; rfl) h2.1
    refine hT2.symm.subset (mem_todo.2 ?_)
    rcases key with g | g
    · obtain ⟨n, g1, g2⟩ := List.mem_map.1 g
      exact ⟨n, g1, by omega, by omega⟩
    · obtain ⟨n, g1, g2⟩ := List.mem_map.1 g
      exact ⟨n, g1, by omega, by omega⟩) hT3
  have hML := len_ksum l2
  obtain ⟨r, r1, r2⟩ := sort_ex M'
  have hnr : (keys r).Nodup := (r1.map _).symm.nodup_iff.1 l2.nod
  have hra : Asc r := asc_of hnr r2
  refine ⟨r, ?_, l2.perm r1.symm, hra, fun m h1 h2 => l3 m h1 ((can_perm l2.nod r1.symm m).2 h2), fun hno => ?_, by have := r1.length_eq; omega, M', l6.2, r1⟩
  · unfold F18
    rw [call_s hq, sel_f (show ine 0 0 = false from rfl), need_t (mk8 (by show nodes.length ≤ _; omega))]
    refine Eq.trans (join_l hl1) ?_
    dsimp only
    rw [call_s hT1, need_t (by rw [ine_d]; simp; omega)]
    refine Eq.trans (join_l l1) ?_
    rw [need_t (mk16 (by show M'.length ≤ _; omega))]
    refine mrange_of fun l' hl' => ?_
    have hl'n := hl'.length_eq
    have hq : callQ (Q50 l') (fun (r17 : (List (Int × Int))) => some ((((w : Int), k, count, r17), (0 : Int)) : Dg × Int)) = some (((w : Int), k, count, r), 0) := by
      refine callQ_of ⟨r, ⟨by omega, fun n hn => ⟨n.1, rfl, ?_⟩, r1.trans hl'.symm, r2⟩⟩ fun a ha => ?_
      · obtain ⟨⟨x, hx, hX⟩, _⟩ := l2.node n.1 (List.mem_map_of_mem (hl'.subset hn))
        have hx2 := hX.x2
        have hp : 2 ^ (w + 1) = 2 * 2 ^ w := by rw [Nat.pow_succ]; omega
        exact ⟨by omega, by omega⟩
      · obtain ⟨_, _, a1, a2⟩ := ha
        have hna : (keys a).Nodup := ((a1.trans hl').map _).symm.nodup_iff.1 l2.nod
        have := asc_unique (asc_of hna a2) hra ((a1.trans hl').trans r1.symm)
        rw [this]
    refine foldM_app l' _ (by simp [lrep]; omega) ?_
    show Go.T.up (callQ (Q50 l') _) = _
    rw [hq]; rfl
  · have := l4 hno
    subst this
    exact asc_unique hra D.asc r1
theorem join_it {S S' R : Type} {body : S → Option (S ⊕ (S' ⊕ R))} {s : S} {k : S' → Option R} (n : Nat) (s' : S') (h : iterN body n s = some (.inl s')) : join (iter body s) k = k s' := join_l (iter_of h)
theorem t39 : F39 (3, 2, [1, 1, 5, 6]) = some ((3, 2, 4, [(9, 2), (13, 1), (14, 1)]), true) := by
  unfold F39
  rw [call_s (show F13 (3, 2) = some ((3, 2, 0, []), 0) by kernel_rfl)]
  exact Eq.trans (join_it 6 (0, 3, 2, 4, [(9, 2), (13, 1), (14, 1)]) (by kernel_rfl)) rfl
theorem t18 : F18 (3, 2, 4, [(9, 2), (13, 1), (14, 1)]) = some ((3, 2, 4, [(2, 2), (3, 2)]), 0) := by
  unfold F18
  rw [call_s (F20_eq 3 2 4 [(9, 2), (13, 1), (14, 1)]), sel_f (by kernel_rfl), need_t (by kernel_rfl)]
  refine Eq.trans (join_it 5 ([(9, 2), (13, 1), (14, 1)], [4, 6, 7]) (by kernel_rfl)) ?_
  rw [call_s (show F46 [4, 6, 7] = some [7, 6, 4] by kernel_rfl), need_t (by kernel_rfl)]
  refine Eq.trans (join_it (body := body18 (3, 2, 4, [(9, 2), (13, 1), (14, 1)])) 40 [(3, 2), (2, 2)] (by kernel_rfl)) ?_
  rw [need_t (by kernel_rfl)]
  refine mrange_of fun l' hl' => ?_
  have hn := hl'.length_eq
  have hp : l'.Perm [(2, 2), (3, 2)] := hl'.trans (List.Perm.swap _ _ _)
  have hra : Asc [(2, 2), (3, 2)] := by unfold Asc; simp
  refine foldM_app l' _ (by rw [hn]; decide) ?_
  have hq : callQ (Q50 l') (fun (r17 : (List (Int × Int))) => some ((((3 : Int), (2 : Int), (4 : Int), r17), (0 : Int)) : Dg × Int)) = some ((3, 2, 4, [(2, 2), (3, 2)]), 0) := by
    refine callQ_of ⟨[(2, 2), (3, 2)], ⟨by rw [hn]; decide, fun n hm => ⟨n.1, rfl, ?_⟩, hp.symm, ?_⟩⟩ fun a ha => ?_
    · have := hp.subset hm
      simp at this
      rcases this with rfl | rfl <;> exact ⟨by decide, by decide⟩
    · exact hra.imp fun {a b} h i j hi hj => by
        have := Option.some.inj hi; have := Option.some.inj hj; omega
    · obtain ⟨_, _, a1, a2⟩ := ha
      have hna : (keys a).Nodup := ((a1.trans hp).map _).symm.nodup_iff.1 (asc_nodup hra)
      rw [asc_unique (asc_of hna a2) hra (a1.trans hp)]
  show Go.T.up (callQ (Q50 l') _) = _
  rw [hq]; rfl
theorem key_unique {kf : Nd → Int} : ∀ {l r : List Nd}, (l.Pairwise fun a b => kf a < kf b) → (r.Pairwise fun a b => kf a ≤ kf b) → r.Perm l → r = l
  | [], r, _, _, h => List.perm_nil.1 h
  | a :: l, [], _, _, h => absurd h.length_eq (by simp)
  | a :: l, b :: r, ha, hb, h => by
    have ha' := List.pairwise_cons.1 ha
    have hb' := List.pairwise_cons.1 hb
    have e : b = a := by
      have h1 : b ∈ a :: l := h.subset (by simp)
      have h2 : a ∈ b :: r := h.symm.subset (by simp)
      rcases List.mem_cons.1 h1 with h1 | h1
      · exact h1
      rcases List.mem_cons.1 h2 with h2 | h2
      · exact h2.symm
      have := ha'.1 b h1
      have := hb'.1 a h2
      omega
    subst e
    rw [key_unique ha'.2 hb'.2 ((List.perm_cons b).1 h)]
theorem t22 : F22 ((3, 2, 4, [(2, 2), (3, 2)]), 5) = some (2, 4, 0) := (F22_eq _ _ _ _ _).trans (by kernel_rfl)
theorem t57 : F57 (1, 2) = some 0 := by
  unfold F57
  rw [sel_f (by kernel_rfl), sel_f (by kernel_rfl), call_s (show F82 1 = some 1 by kernel_rfl), call_s (a := 1) ?_]
  · rfl
  · unfold F81
    exact Eq.trans (join_it 5 1 (by kernel_rfl)) rfl
theorem t61a : F61a ([(2, 2), (3, 2)], 2, (), (3, 2, 4, [(2, 2), (3, 2)])) = some 0 := by
  unfold F61a
  have k1 : F59 ((2, 2), (3, 2, 4, [(2, 2), (3, 2)])) = some 0 := by kernel_rfl
  have k2 : F59 ((3, 2), (3, 2, 4, [(2, 2), (3, 2)])) = some 4 := by kernel_rfl
  have hpw : ([(2, 2), (3, 2)] : List Nd).Pairwise fun a b => (F59 (a, (3, 2, 4, [(2, 2), (3, 2)]))).getD 0 < (F59 (b, (3, 2, 4, [(2, 2), (3, 2)]))).getD 0 := by
    simp only [List.pairwise_cons, List.mem_singleton, forall_eq]
    rw [k1, k2]; simp
  have hdom : ∀ n ∈ ([(2, 2), (3, 2)] : List Nd), ∃ k, F59 (n, (3, 2, 4, [(2, 2), (3, 2)])) = some k ∧ keyOk k := fun n hn => by
    simp at hn
    rcases hn with rfl | rfl
    · exact ⟨_, k1, by decide, by decide⟩
    · exact ⟨_, k2, by decide, by decide⟩
  refine callQ_of ⟨[(2, 2), (3, 2)], by simp, by decide, hdom, .refl _, ?_⟩ fun r hr => ?_
  · exact hpw.imp fun {a b} h i j hi hj => by dsimp only at hi hj; rw [hi, hj] at h; simp at h; omega
  · obtain ⟨_, _, _, hp, hs⟩ := hr
    have hp : r.Perm [(2, 2), (3, 2)] := hp
    have : r = [(2, 2), (3, 2)] := key_unique hpw (hs.imp_of_mem fun {a b} ha hb h => by
      obtain ⟨i, hi, _⟩ := hdom a (hp.subset ha)
      obtain ⟨j, hj, _⟩ := hdom b (hp.subset hb)
      rw [hi, hj]; exact h i j hi hj) hp
    subst this
    exact Eq.trans (join_it 5 0 (by kernel_rfl)) rfl
theorem t61b : F61b ([(2, 2), (3, 2)], 2, (), (3, 2, 4, [(2, 2), (3, 2)])) = some 3 := by
  unfold F61b
  have k1 : F60 ((2, 2), (3, 2, 4, [(2, 2), (3, 2)])) = some 3 := by kernel_rfl
  have k2 : F60 ((3, 2), (3, 2, 4, [(2, 2), (3, 2)])) = some 7 := by kernel_rfl
  have hpw : ([(2, 2), (3, 2)] : List Nd).Pairwise fun a b => (F60 (a, (3, 2, 4, [(2, 2), (3, 2)]))).getD 0 < (F60 (b, (3, 2, 4, [(2, 2), (3, 2)]))).getD 0 := by
    simp only [List.pairwise_cons, List.mem_singleton, forall_eq]
    rw [k1, k2]; simp
  have hdom : ∀ n ∈ ([(2, 2), (3, 2)] : List Nd), ∃ k, F60 (n, (3, 2, 4, [(2, 2), (3, 2)])) = some k ∧ keyOk k := fun n hn => by
    simp at hn
    rcases hn with rfl | rfl
    · exact ⟨_, k1, by decide, by decide⟩
    · exact ⟨_, k2, by decide, by decide⟩
  refine callQ_of ⟨[(2, 2), (3, 2)], by simp, by decide, hdom, .refl _, ?_⟩ fun r hr => ?_
  · exact hpw.imp fun {a b} h i j hi hj => by dsimp only at hi hj; rw [hi, hj] at h; simp at h; omega
  · obtain ⟨_, _, _, hp, hs⟩ := hr
    have hp : r.Perm [(2, 2), (3, 2)] := hp
    have : r = [(2, 2), (3, 2)] := key_unique hpw (hs.imp_of_mem fun {a b} ha hb h => by
      obtain ⟨i, hi, _⟩ := hdom a (hp.subset ha)
      obtain ⟨j, hj, _⟩ := hdom b (hp.subset hb)
      rw [hi, hj]; exact h i j hi hj) hp
    subst this
    exact Eq.trans (join_it 5 3 (by kernel_rfl)) rfl
theorem t24 : F24 ((3, 2, 4, [(2, 2), (3, 2)]), 1, 2) = some (0, 3, 0) := by
  unfold F24
  rw [call_s (show F20 (3, 2, 4, [(2, 2), (3, 2)]) = some 0 from (F20_eq _ _ _ _).trans (by kernel_rfl))]
  rw [sel_t (show bnot (ine 0 0) = true by kernel_rfl), call_s t57, sel_f (by kernel_rfl), sel_f (by kernel_rfl), sel_f (by kernel_rfl), call_s (show F58 ((1, 2), 4) = some 2 by kernel_rfl)]
  exact Eq.trans (call_s t61a) (call_s t61b)
theorem t40 : F40 ([(2, 2), (3, 2)], [(2, 2), (3, 2)]) = some true := by
  unfold F40
  rw [sel_f (by kernel_rfl)]
  exact Eq.trans (join_it 5 () (by kernel_rfl)) rfl
theorem awake : F12 () = some true := by
  unfold F12
  rw [call_s t39, call_s t18, call_s t22, call_s t24, sel_t (by kernel_rfl), sel_t (by kernel_rfl), call_s t40]
  rfl
theorem chk_ok {bits count th : Int} : ∀ {l : List Nd} {before sum : Int}, (∀ n ∈ l, before < n.1 ∧ n.1 < shl 2 bits ∧ 1 ≤ n.2 ∧ n.2 ≤ count ∧ (n.1 < shl 1 bits → n.2 ≤ th)) → Asc l → chk bits count th l before sum = some (sum + (l.map (·.2)).sum)
  | [], before, sum, _, _ => by simp [chk]
  | n :: l, before, sum, h, ha => by
    obtain ⟨h1, h2, h3, h4, h5⟩ := h n (by simp)
    have ha' := List.pairwise_cons.1 ha
    rw [chk, if_neg (by omega), if_neg (by omega), chk_ok (fun m hm => ?_) ha'.2]
    · simp [Int.add_assoc]
    · obtain ⟨_, g⟩ := h m (by simp [hm])
      exact ⟨ha'.1 m hm, g⟩
theorem Cmpd.check {w : Nat} {k count : Int} {nodes r : List Nd} (D : Dig w k count nodes) (C : Cmpd w k count nodes r) : qcheck (w : Int) k count r = 0 := by
  have hlen := C.len
  have := D.len; have := D.w1; have := D.w2; have := D.k1; have := D.k2; have := D.c0; have := D.c1
  have p2 := shl_two (bits := (w : Int)) ⟨by omega, by omega⟩
  have p1 := shl_one (bits := (w : Int)) ⟨by omega, by omega⟩
  rw [Int.toNat_natCast] at p1 p2
  unfold qcheck
  rw [if_neg (by omega), if_neg (by omega), chk_ok (fun n hn => ?_) C.asc]
  · have hs : (r.map (·.2)).sum = count := by
      have := C.inv.sum
      unfold wsum at this
      simpa using this
    simp only [hs, Int.zero_add]
    rw [if_neg (by simp)]
  · have hk : n.1 ∈ keys r := List.mem_map_of_mem hn
    have hc := cn_at C.inv.nod hn
    obtain ⟨⟨x, hx, hX⟩, h1, h2⟩ := C.inv.node n.1 hk
    have h3 := C.inv.inner n.1 hk
    rw [hc] at h1 h2 h3
    have hx1 := hX.x1; have hx2 := hX.x2
    refine ⟨by omega, by omega, h1, h2, fun h => h3 (by omega)⟩
theorem F15_same (d : Dg) (h : d.2.2.2.length ≤ 1000000) : F15 (d, d) = some true := by
  obtain ⟨bits, k, count, l⟩ := d
  have h : l.length ≤ 1000000 := h
  unfold F15
  simp only [ine_d, ne_eq, not_true_eq_false, decide_false, pick_or, Bool.or_false]
  rw [sel_f rfl]
  refine Eq.trans (join_of _ (iter_for l (fun (_ : Unit) i => i) (fun s a => .inl s) (fun _ => (.inl () : PUnit ⊕ Bool)) (fun _ _ => True) () trivial ?_ ?_)) ?_
  · intro i st hi _
    have hlt : (i : Int) < l.length := by omega
    have hin : inL (i : Int) l.length = true := inL_t hi
    refine ⟨?_, fun _ _ => trivial⟩
    simp only [n2i_c, llen_c, i2n_c, hin, need_t, ilt_d, sel_i, hlt, if_true, ieq_t, band_d, Bool.and_self, bnot_d, Bool.not_true]
    rw [sel_f rfl, iadd_ok (by omega) (by omega)]; rfl
  · intro st _
    simp only [n2i_c, llen_c, ilt_d, sel_i]
    rw [if_neg (by omega)]
  · rw [fold_l]; rfl
def ins : List Nd → Int → Int → List Nd
  | [], id, n => [(id, n)]
  | p :: l, id, n => if p.1 < id then p :: ins l id n else if p.1 = id then (id, p.2 + n) :: l else (id, n) :: p :: l
theorem mem_ins {id n : Int} {m : Nd} : ∀ {l : List Nd}, m ∈ ins l id n → m.1 = id ∨ m ∈ l
  | [], h => by simp [ins] at h; subst h; exact .inl rfl
  | p :: l, h => by
    rw [ins] at h
    split at h
    · rcases List.mem_cons.1 h with h | h
      · subst h; exact .inr (by simp)
      · rcases mem_ins h with h | h
        · exact .inl h
        · exact .inr (by simp [h])
    · split at h
      · rcases List.mem_cons.1 h with h | h
        · subst h; exact .inl rfl
        · exact .inr (by simp [h])
      · rcases List.mem_cons.1 h with h | h
        · subst h; exact .inl rfl
        · exact .inr h
theorem ins_asc {id n : Int} : ∀ {l : List Nd}, Asc l → Asc (ins l id n)
  | [], _ => List.pairwise_singleton _ _
  | p :: l, h => by
    have h' := List.pairwise_cons.1 h
    rw [ins]
    split
    · rename_i g
      refine List.pairwise_cons.2 ⟨fun m hm => ?_, ins_asc h'.2⟩
      rcases mem_ins hm with e | e
      · omega
      · exact h'.1 m e
    · split
      · rename_i g1 g2
        exact List.pairwise_cons.2 ⟨fun m hm => by have := h'.1 m hm; dsimp only; omega, h'.2⟩
      · rename_i g1 g2
        refine List.pairwise_cons.2 ⟨fun m hm => ?_, h⟩
        rcases List.mem_cons.1 hm with rfl | e
        · dsimp only; omega
        · have := h'.1 m e; dsimp only; omega
theorem keys_ins {id n j : Int} : ∀ {l : List Nd}, j ∈ keys (ins l id n) ↔ j = id ∨ j ∈ keys l
  | [] => by simp [ins, keys]
  | p :: l => by
    rw [ins]
    split
    · rw [keys_cons, List.mem_cons, keys_ins, keys_cons, List.mem_cons]
      exact ⟨fun h => by rcases h with h | h | h <;> simp [h], fun h => by rcases h with h | h | h <;> simp [h]⟩
    · split
      · rename_i g1 g2
        rw [keys_cons, List.mem_cons, keys_cons, List.mem_cons, g2]
        exact ⟨fun h => .inr h, fun h => h.elim .inl fun h => h⟩
      · rw [keys_cons, List.mem_cons]
theorem asc_lt {p : Nd} {l : List Nd} (h : Asc (p :: l)) {j : Int} (hj : j ≤ p.1) : j ∉ keys l := fun hm => by
  obtain ⟨m, hm', rfl⟩ := List.mem_map.1 hm
  have := (List.pairwise_cons.1 h).1 m hm'
  omega
theorem cn_ins {id n : Int} (j : Int) : ∀ {l : List Nd}, Asc l → cn (ins l id n) j = cn l j + if j = id then n else 0
  | [], _ => by
    unfold cn
    rw [ins, get_nil]
    by_cases h : j = id
    · subst h; rw [get_eq, if_pos rfl]; omega
    · rw [get_ne 0 h, get_nil, if_neg h]; rfl
  | p :: l, h => by
    have h' := List.pairwise_cons.1 h
    obtain ⟨a, c⟩ := p
    unfold cn at *
    rw [ins]
    dsimp only
    split
    · rename_i g
      by_cases e : j = a
      · subst e; rw [get_eq, get_eq, if_neg (by omega)]; omega
      · rw [get_ne 0 e, get_ne 0 e]; exact cn_ins j h'.2
    · split
      · rename_i g1 g2
        subst g2
        by_cases e : j = a
        · subst e; rw [get_eq, get_eq, if_pos rfl]
        · rw [get_ne 0 e, get_ne 0 e, if_neg e]; omega
      · rename_i g1 g2
        by_cases e : j = id
        · subst e
          rw [get_eq, get_ne 0 (fun e => g2 e.symm), get_out 0 (asc_lt h (by dsimp only; omega)), if_pos rfl]; omega
        · rw [get_ne 0 e, if_neg e]; omega
theorem wsum_ins (g : Int → Int) {id n : Int} : ∀ {l : List Nd}, wsum g (ins l id n) = wsum g l + n * g id
  | [] => by rw [ins, wsum_cons, wsum_nil]; dsimp only; omega
  | p :: l => by
    rw [ins]
    split
    · rw [wsum_cons, wsum_cons, wsum_ins g]; omega
    · split
      · rename_i g1 g2
        rw [wsum_cons, wsum_cons, g2]; dsimp only; rw [Int.add_mul]; omega
      · rw [wsum_cons]; dsimp only; omega
theorem len_ins {id n : Int} : ∀ {l : List Nd}, l.length ≤ (ins l id n).length ∧ (ins l id n).length ≤ l.length + 1
  | [] => by simp [ins]
  | p :: l => by
    have := len_ins (id := id) (n := n) (l := l)
    rw [ins]
    split
    · simp; omega
    · split <;> simp
theorem fnd_cons (p : Nd) (l : List Nd) (t : Int) : fnd (p :: l) t = (p.1 == t || fnd l t) := rfl
theorem fnd_iff (l : List Nd) (t : Int) : fnd l t = true ↔ t ∈ keys l := by
  simp [fnd, keys]
theorem lb_cons_lt {p : Nd} {l : List Nd} {t : Int} (h : p.1 < t) : lb (p :: l) t = lb l t + 1 := by
  unfold lb; rw [List.takeWhile_cons_of_pos (by simpa using h)]; rfl
theorem lb_cons_ge {p : Nd} {l : List Nd} {t : Int} (h : ¬ p.1 < t) : lb (p :: l) t = 0 := by
  unfold lb; rw [List.takeWhile_cons_of_neg (by simpa using h)]; rfl
theorem ins_bump {id n : Int} : ∀ {l : List Nd}, fnd l id = true → Asc l → bump l (lb l id) n = ins l id n ∧ (ins l id n).length = l.length
  | [], h, _ => by cases h
  | p :: l, h, ha => by
    rw [ins]
    by_cases g : p.1 < id
    · rw [lb_cons_lt g, if_pos g]
      rw [fnd_cons, Bool.or_eq_true, beq_iff_eq] at h
      obtain ⟨i1, i2⟩ := ins_bump (n := n) (h.resolve_left (by omega)) (List.pairwise_cons.1 ha).2
      refine ⟨?_, by simp [i2]⟩
      rw [← i1]; rfl
    · rw [lb_cons_ge g, if_neg g]
      by_cases e : p.1 = id
      · rw [if_pos e, ← e]; exact ⟨rfl, rfl⟩
      · exact absurd ((fnd_iff _ _).1 h) (fun hm => by
          rw [keys_cons, List.mem_cons] at hm
          exact asc_lt ha (by omega) (hm.resolve_left (Ne.symm e)))
theorem ins_new {id n : Int} : ∀ {l : List Nd}, fnd l id = false → insL l (lb l id) (id, n) = ins l id n ∧ (ins l id n).length = l.length + 1
  | [], _ => ⟨rfl, rfl⟩
  | p :: l, h => by
    rw [fnd_cons, Bool.or_eq_false_iff] at h
    have hne : p.1 ≠ id := by simpa using h.1
    rw [ins]
    by_cases g : p.1 < id
    · rw [lb_cons_lt g, if_pos g]
      obtain ⟨i1, i2⟩ := ins_new (n := n) h.2
      refine ⟨?_, by simp [i2]⟩
      rw [← i1]; rfl
    · rw [lb_cons_ge g, if_neg g, if_neg hne]
      exact ⟨rfl, rfl⟩
theorem wsum1 (l : List Nd) : wsum (fun _ => 1) l = (l.map (·.2)).sum := by unfold wsum; simp
theorem Dig.check {w : Nat} {k count : Int} {r : List Nd} (D : Dig w k count r) : qcheck (w : Int) k count r = 0 := by
  have := D.len; have := D.w1; have := D.w2; have := D.k1; have := D.k2; have := D.c0; have := D.c1
  have p2 := shl_two (bits := (w : Int)) ⟨by omega, by omega⟩
  have p1 := shl_one (bits := (w : Int)) ⟨by omega, by omega⟩
  rw [Int.toNat_natCast] at p1 p2
  unfold qcheck
  rw [if_neg (by omega), if_neg (by omega), chk_ok (fun n hn => ?_) D.asc]
  · simp only [D.sum, Int.zero_add]
    rw [if_neg (by simp)]
  · obtain ⟨⟨x, hx, hX⟩, h1, h2⟩ := D.node n hn
    have h3 := D.inner n hn
    have hx1 := hX.x1; have hx2 := hX.x2
    exact ⟨by omega, by omega, h1, h2, fun h => h3 (by omega)⟩
theorem Dig.of_cn {w : Nat} {k count : Int} {r : List Nd} (hw : 1 ≤ w ∧ w ≤ 20) (hk : 1 ≤ k ∧ k ≤ 10000) (hc : 0 ≤ count ∧ count ≤ 1099511627776) (hl : r.length ≤ 2000) (ha : Asc r)
    (hn : ∀ id ∈ keys r, (∃ x : Nat, id = x ∧ Nod w x) ∧ 1 ≤ cn r id ∧ cn r id ≤ count) (hi : ∀ id ∈ keys r, id < ((2 ^ w : Nat) : Int) → cn r id ≤ thr count k) (hs : wsum (fun _ => 1) r = count) : Dig w k count r := by
  refine ⟨hw.1, hw.2, hk.1, hk.2, hc.1, hc.2, hl, fun n h => ?_, fun n h => ?_, ha, ?_⟩
  · have := hn n.1 (List.mem_map_of_mem h)
    rw [cn_at (asc_nodup ha) h] at this; exact this
  · have := hi n.1 (List.mem_map_of_mem h)
    rw [cn_at (asc_nodup ha) h] at this; exact this
  · rw [← wsum1]; exact hs
theorem thr_mono {a b k : Int} (ha : 0 ≤ a) (hab : a ≤ b) (hb : b ≤ 1099511627776) (hk : 1 ≤ k) : thr a k ≤ thr b k := by
  rw [(thr_le ⟨ha, by omega⟩ hk).1, (thr_le ⟨by omega, hb⟩ hk).1]
  exact Int.ediv_le_ediv (by omega) hab
theorem Dig.add {w : Nat} {k count v n : Int} {nodes : List Nd} (D : Dig w k count nodes) (hv : 0 ≤ v ∧ v < ((2 ^ w : Nat) : Int)) (hn : 1 ≤ n) (hc : count + n ≤ 1099511627776) (hl : (ins nodes (((2 ^ w : Nat) : Int) + v) n).length ≤ 2000) : Dig w k (count + n) (ins nodes (((2 ^ w : Nat) : Int) + v) n) := by
  have c0 := D.c0
  refine .of_cn ⟨D.w1, D.w2⟩ ⟨D.k1, D.k2⟩ ⟨by omega, hc⟩ hl (ins_asc D.asc) (fun id h => ?_) (fun id h hlt => ?_) ?_
  · have hcn := D.inv.cn0 id
    rw [cn_ins id D.asc]
    rcases keys_ins.1 h with rfl | h
    · have hp : 2 ^ (w + 1) = 2 * 2 ^ w := by rw [Nat.pow_succ]; omega
      rw [if_pos rfl]
      exact ⟨⟨2 ^ w + v.toNat, by omega, ⟨D.w1, D.w2, by have := Nat.two_pow_pos w; omega, by omega⟩⟩, by omega, by omega⟩
    · obtain ⟨hN, _⟩ := D.inv.node id h
      have := hcn.2.1 h
      refine ⟨hN, ?_⟩
      split <;> omega
  · rcases keys_ins.1 h with rfl | h
    · omega
    · rw [cn_ins id D.asc, if_neg (by omega)]
      have := D.inv.inner id h hlt
      have := thr_mono c0 (show count ≤ count + n by omega) hc D.k1
      omega
  · rw [wsum_ins, D.inv.sum]; omega
theorem F16_eq {bits k count : Int} {nodes : List Nd} {v n : Int} (hl : nodes.length ≤ 100000000) (hv : inI v) (hn : inI n) : F16 ((bits, k, count, nodes), v, n) = some (if qcheck bits k count nodes ≠ 0 then (zDg, 1) else if v < 0 ∨ shl 1 bits ≤ v ∨ n < 1 then (zDg, 2) else if 1099511627776 - count < n then (zDg, 4) else if 2000 < (ins nodes (shl 1 bits + v) n).length then (zDg, 4) else ((bits, k, count + n, ins nodes (shl 1 bits + v) n), 0)) := by
  unfold F16
  rw [if_pos ⟨hl, hv, hn⟩]
  congr 1
  dsimp only
  unfold qaddT
  by_cases h0 : qcheck bits k count nodes ≠ 0
  · rw [if_pos h0, if_pos h0]
  rw [if_neg h0, if_neg h0]
  obtain ⟨hb, D⟩ := dig_of (by omega : qcheck bits k count nodes = 0)
  have hlen := D.len
  split
  · rfl
  split
  · rfl
  by_cases hf : fnd nodes (shl 1 bits + v) = true
  · obtain ⟨i1, i2⟩ := ins_bump (n := n) hf D.asc
    rw [if_pos hf, i1, if_neg (by omega)]
  · obtain ⟨i1, i2⟩ := ins_new (n := n) (Bool.eq_false_iff.2 hf)
    rw [if_neg hf, i1]
    by_cases h2 : 2000 ≤ nodes.length
    · rw [if_pos h2, if_pos (by omega)]
    · rw [if_neg h2, if_neg (by omega)]
theorem F52_eq (l : List Nd) (id : Int) (hl : l.length ≤ 1000000) : F52 (l, id) = some (cn l id) := by
  unfold F52
  refine Eq.trans (join_of _ (iter_for l (fun (_ : Unit) i => i) (fun _ (a : Nd) => if a.1 = id then .inr (.inr a.2) else .inl ()) (fun _ => (.inl () : PUnit ⊕ Int)) (fun _ _ => True) () trivial ?_ ?_)) ?_
  · intro i st hi _
    have hlt : (i : Int) < l.length := by omega
    have hin : inL (i : Int) l.length = true := inL_t hi
    have hg : lget (0, 0) l i = l[i] := lget_t hi
    refine ⟨?_, fun _ _ => trivial⟩
    simp only [n2i_c, llen_c, i2n_c, hg, hin, need_t, ilt_d, ieq_d, sel_i, hlt, if_true]
    generalize l[i] = a
    by_cases c : a.1 = id
    · rw [if_pos c, if_pos c]; rfl
    · rw [if_neg c, if_neg c, iadd_ok (by omega) (by omega)]; rfl
  · intro st _
    simp only [n2i_c, llen_c, ilt_d, sel_i]
    rw [if_neg (by omega)]
  · induction l with
    | nil => rfl
    | cons a l ih =>
      rw [foldE]
      obtain ⟨j, c⟩ := a
      by_cases e : j = id
      · subst e
        rw [if_pos rfl]; unfold cn; rw [get_eq]; rfl
      · rw [if_neg e]; unfold cn; rw [get_ne 0 (fun e' => e e'.symm)]
        exact ih (by simp at hl; omega)
theorem F53_eq (l : List Nd) (m : Int) (hl : l.length ≤ 1000000) (h : ∀ p ∈ l, 0 ≤ p.1 ∧ p.1 < 4611686018427387904) : F53 (l, m) = some (l.filter fun p => decide (p.1 / 2 ≠ m)) := by
  unfold F53
  refine Eq.trans (join_of _ (iter_for l (fun st i => (i, st)) (fun (s : List Nd) a => .inl (s ++ [a].filter fun p => decide (p.1 / 2 ≠ m))) (fun st => .inl st) (fun i st => st.length ≤ i) ([] : List Nd) (by simp) ?_ ?_)) ?_
  · intro i st hi hI
    have hlt : (i : Int) < l.length := by omega
    have hin : inL (i : Int) l.length = true := inL_t hi
    have hg : lget (0, 0) l i = l[i] := lget_t hi
    have ha := h l[i] (List.getElem_mem hi)
    simp only [n2i_c, llen_c, i2n_c, hg, hin, need_t, ilt_d, ine_d, sel_i, hlt, if_true]
    generalize l[i] = a at ha ⊢
    rw [need_t (show decide ((2 : Int) ≠ 0) = true from rfl), iquo_2 ha, iadd_ok (by omega) (by omega)]
    by_cases c : a.1 / 2 ≠ m
    · rw [if_pos c, need_t (by simp [room, nadd]; omega), List.filter_cons_of_pos (by simpa using c), List.filter_nil]
      exact ⟨rfl, fun st' h => by have := Sum.inl.inj h; subst this; simp; omega⟩
    · rw [if_neg c, List.filter_cons_of_neg (by simpa using c), List.filter_nil, List.append_nil]
      exact ⟨rfl, fun st' h => by have := Sum.inl.inj h; subst this; omega⟩
  · intro st hI
    simp only [n2i_c, llen_c, ilt_d, sel_i]
    rw [if_neg (by omega)]
  · rw [fold_l]
    have : ∀ (l s : List Nd), l.foldl (fun s a => s ++ [a].filter fun p => decide (p.1 / 2 ≠ m)) s = s ++ l.filter fun p => decide (p.1 / 2 ≠ m) := by
      intro l
      induction l with
      | nil => intro s; simp
      | cons a l ih => intro s; rw [List.foldl_cons, ih, List.append_assoc, ← List.filter_append]; rfl
    rw [this]; rfl
theorem ins_found {id n : Int} : ∀ {l : List Nd} (h : lb l id < l.length), l[lb l id].1 = id → ins l id n = l.take (lb l id) ++ (id, l[lb l id].2 + n) :: l.drop (lb l id + 1)
  | p :: l, h, e => by
    rw [ins]
    by_cases g : p.1 < id
    · simp only [lb_cons_lt g] at h e ⊢
      rw [List.length_cons] at h
      have := ins_found (id := id) (n := n) (l := l) (by omega) (by simpa using e)
      rw [if_pos g, this]; simp
    · simp only [lb_cons_ge g] at h e ⊢
      rw [List.getElem_cons_zero] at e
      rw [if_neg g, if_pos e]; simp
theorem ins_other {id n : Int} : ∀ {l : List Nd}, (∀ h : lb l id < l.length, l[lb l id].1 ≠ id) → ins l id n = l.take (lb l id) ++ (id, n) :: l.drop (lb l id)
  | [], _ => rfl
  | p :: l, e => by
    rw [ins]
    by_cases g : p.1 < id
    · simp only [lb_cons_lt g] at e ⊢
      have := ins_other (n := n) (l := l) (fun h => by simpa using e (by simp; omega))
      rw [if_pos g, this]; simp
    · simp only [lb_cons_ge g] at e ⊢
      have e := e (by simp)
      rw [List.getElem_cons_zero] at e
      rw [if_neg g, if_neg e]; simp
theorem F45_eq {l : List Nd} {id n : Int} (hl : l.length ≤ 1000000) (h : ∀ p ∈ l, 0 ≤ p.2 ∧ p.2 ≤ 1099511627776) (hn : 0 ≤ n ∧ n ≤ 1099511627776) : F45 (l, id, n) = some (ins l id n) := by
  unfold F45
  refine Eq.trans (join_of _ (iter_for l (fun (_ : Nat) i => i) (fun (s : Nat) (a : Nd) => if a.1 < id then .inl (s + 1) else .inr (.inl (s : Int))) (fun s => (.inl (s : Int) : Int ⊕ List Nd)) (fun i s => s = i) 0 rfl ?_ ?_)) ?_
  · rintro i st hi rfl
    have hlt : (st : Int) < l.length := by omega
    have hin : inL (st : Int) l.length = true := inL_t hi
    have hg : lget (0, 0) l st = l[st] := lget_t hi
    simp only [n2i_c, llen_c, i2n_c, hg, hin, ilt_d, pick_and, hlt, decide_true, Bool.true_and, sel_i]
    rw [need_t (impl_t fun _ => rfl), iadd_ok (by omega) (by omega)]
    generalize l[st] = a
    by_cases c : a.1 < id
    · rw [if_pos c, if_pos c]
      exact ⟨rfl, fun st' h => by have := Sum.inl.inj h; omega⟩
    · rw [if_neg c, if_neg c]
      exact ⟨rfl, fun st' h => by cases h⟩
  · rintro st rfl
    simp only [n2i_c, llen_c, ilt_d, pick_and]
    rw [need_t (impl_t fun h => by simp at h), sel_f (by simp)]
  · have key : ∀ (l : List Nd) (s : Nat), foldE (fun (s : Nat) (a : Nd) => if a.1 < id then .inl (s + 1) else .inr (.inl (s : Int))) (fun s => (.inl (s : Int) : Int ⊕ List Nd)) l s = .inl ((s + lb l id : Nat) : Int) := by
      intro l
      induction l with
      | nil => intro s; rfl
      | cons a l ih =>
        intro s
        rw [foldE]
        by_cases g : a.1 < id
        · rw [if_pos g, lb_cons_lt g]
          dsimp only
          rw [ih]; congr 2; omega
        · rw [if_neg g, lb_cons_ge g]; rfl
    rw [key]
    have hlb := lb_le l id
    simp only [Nat.zero_add, Sum.elim_inl, n2i_c, llen_c]
    have e0 : i2n 0 = 0 := rfl
    have el : lsub l 0 (nsub (lb l id) 0) = l.take (lb l id) := by simp [lsub, nsub]
    simp only [i2n_c, e0, el]
    have hlt : (l.take (lb l id)).length = lb l id := by simp; omega
    rw [need_t (by simp [inS]; omega), need_t (by simp [room, nadd, hlt]; omega), need_t (impl_t fun h => by rw [ilt_d] at h; exact inL_t (by simpa using h))]
    simp only [ilt_d, ieq_d, pick_and]
    have hnil : ∀ x : List Nd, lcat ([] : List Nd) x = x := fun x => rfl
    have hdr : ∀ j, j ≤ l.length → lsub l j (nsub l.length j) = l.drop j := fun j hj => by
      simp only [lsub, nsub]
      rw [List.take_of_length_le (by simp)]
    by_cases c : lb l id < l.length
    · have hg : lget (0, 0) l (lb l id) = l[lb l id] := lget_t c
      simp only [hg]
      have hp := h l[lb l id] (List.getElem_mem c)
      by_cases e : l[lb l id].1 = id
      · rw [sel_t (by simp [c, e]), need_t (inL_t c), iadd_ok (a := l[lb l id].2) (by omega) (by omega), iadd_ok (by omega) (by omega)]
        have ej : i2n ((lb l id : Int) + 1) = lb l id + 1 := rfl
        rw [need_t (by simp [room, nadd, hlt, hnil]; omega), need_t (by simp [inS]; omega), ej, hdr _ (by omega), need_t (by simp [room, nadd, hnil, lcat]; omega), ins_found c e]
        simp [lcat]
      · rw [sel_f (by simp [e]), need_t (by simp [room, nadd, hlt, hnil]; omega), need_t (by simp [inS]; omega), hdr _ hlb, need_t (by simp [room, nadd, hnil, lcat]; omega), ins_other (fun _ => e)]
        simp [lcat]
    · rw [sel_f (by simp; intro h; omega), need_t (by simp [room, nadd, hlt, hnil]; omega), need_t (by simp [inS]; omega), hdr _ hlb, need_t (by simp [room, nadd, hnil, lcat]; omega), ins_other (fun h => absurd h c)]
      simp [lcat]
theorem F17_eq {bits k count : Int} {nodes : List Nd} {v n : Int} (hl : nodes.length ≤ 100000000) (hv : inI v) (hn : inI n) : F17 ((bits, k, count, nodes), v, n) = some (if qcheck bits k count nodes ≠ 0 then (zDg, 1) else if v < 0 ∨ shl 1 bits ≤ v ∨ n < 1 then (zDg, 2) else if 1099511627776 - count < n then (zDg, 4) else if 2000 < (ins nodes (shl 1 bits + v) n).length then (zDg, 4) else ((bits, k, count + n, ins nodes (shl 1 bits + v) n), 0)) := by
  unfold F17
  rw [call_s (F21_eq bits k count nodes), ine_d, sel_i]
  by_cases h0 : qcheck bits k count nodes ≠ 0
  · rw [if_pos h0, if_pos h0]; rfl
  rw [if_neg h0, if_neg h0]
  obtain ⟨hb, D⟩ := dig_of (by omega : qcheck bits k count nodes = 0)
  have hlen := D.len
  generalize hW : bits.toNat = w at *
  subst hb
  have p20 := pow21 D.w2
  dsimp only
  rw [need_t (impl_t fun _ => by rw [ile_d]; simp)]
  simp only [pick_or, ilt_d, ile_d, ← Bool.decide_or, sel_i, ishl_shl, or_assoc]
  split
  · rfl
  rename_i h1
  have c0 := D.c0; have c1 := D.c1
  by_cases h2 : 1099511627776 < n
  · rw [if_pos h2, if_pos (by omega)]; rfl
  rw [if_neg h2, need_t (by simp)]
  have s1 : shl 1 (w : Int) = ((2 ^ w : Nat) : Int) := ishl_1 w D.w2
  rw [s1] at h1 ⊢
  rw [iadd_ok (by omega) (by omega), call_s (F45_eq (by omega) (fun p hp => by have := (D.node p hp).2; omega) ⟨by omega, by omega⟩), iadd_ok (by omega) (by omega)]
  unfold F44
  simp only [pick_or, ilt_d, n2i_c, llen_c, ← Bool.decide_or, sel_i]
  by_cases h3 : 1099511627776 - count < n
  · rw [if_pos h3, if_pos (by omega)]; rfl
  rw [if_neg h3]
  by_cases h4 : 2000 < (ins nodes (((2 ^ w : Nat) : Int) + v) n).length
  · rw [if_pos h4, if_pos (by omega)]; rfl
  · rw [if_neg h4, if_neg (by omega)]; rfl
noncomputable def body19 (x : Dg) (s1 : List Nd × Int) : Option ((List Nd × Int) ⊕ (List Nd ⊕ (Dg × Int))) :=
sel (ile 0 s1.2) (join (need (inL s1.2 (llen s1.1)) <|
need (ine 2 0) <|
call (F52 (s1.1, imul .i64 2 (iquo .i64 ((lget (0, 0) s1.1 (i2n s1.2)).1) 2))) fun (r2 : Int) =>
call (F52 (s1.1, iadd .i64 (imul .i64 2 (iquo .i64 ((lget (0, 0) s1.1 (i2n s1.2)).1) 2)) 1)) fun (r3 : Int) =>
need (impl (bnot (ieq (iquo .i64 ((lget (0, 0) s1.1 (i2n s1.2)).1) 2) 0)) (ine x.2.1 0)) <|
call (sel (bnot (ieq (iquo .i64 ((lget (0, 0) s1.1 (i2n s1.2)).1) 2) 0)) (F52 (s1.1, iquo .i64 ((lget (0, 0) s1.1 (i2n s1.2)).1) 2)) <|
some 0) fun (r4 : Int) =>
sel (pickV (ieq (iquo .i64 ((lget (0, 0) s1.1 (i2n s1.2)).1) 2) 0) true (ilt (iquo .i64 x.2.2.1 x.2.1) (iadd .i64 (iadd .i64 r2 r3) r4))) (some (.inl (s1.1, isub .i64 s1.2 1))) <|
call (F53 (s1.1, iquo .i64 ((lget (0, 0) s1.1 (i2n s1.2)).1) 2)) fun (r5 : (List (Int × Int))) =>
call (F45 (r5, iquo .i64 ((lget (0, 0) s1.1 (i2n s1.2)).1) 2, iadd .i64 r2 r3)) fun (r6 : (List (Int × Int))) =>
some (.inl (r6, isub .i64 (n2i (llen r6)) 1))) fun (j7 : ((List (Int × Int)) × Int)) =>
some (.inl (j7.1, j7.2))) <|
some (.inr (.inl s1.1))
def rstep (l : List Nd) (m : Int) : List Nd := ins (l.filter fun p => decide (p.1 / 2 ≠ m)) m (chl l m)
section
variable {w : Nat} {k count : Int} {nodes nd0 l M : List Nd}
theorem mem_keysD {l : List Nd} {p : Nd} (h : p ∈ l) : p.1 ∈ keys l := List.mem_map_of_mem h
theorem body19_at {i : Nat} (hk : 1 ≤ k) (hc : 0 ≤ count ∧ count ≤ 1099511627776) (hl : l.length ≤ 2000) (hM : MInv w (thr count k) count nodes l) (hi : i < l.length) :
    body19 ((w : Int), k, count, nd0) (l, (i : Int)) = some (.inl (if l[i].1 / 2 = 0 ∨ thr count k < chl l (l[i].1 / 2) + cn l (l[i].1 / 2) then (l, (i : Int) - 1) else (rstep l (l[i].1 / 2), ((rstep l (l[i].1 / 2)).length : Int) - 1))) := by
  unfold body19
  obtain ⟨⟨x, hx, hX⟩, hc1⟩ := hM.node l[i].1 (mem_keysD (List.getElem_mem hi))
  have hx1 := hX.x1; have hx2 := hX.x2
  have p20 := pow21 hX.w2
  have hp : 2 ^ (w + 1) = 2 * 2 ^ w := by rw [Nat.pow_succ]; omega
  have hg : lget (0, 0) l i = l[i] := lget_t hi
  dsimp only
  rw [sel_t (by rw [ile_d]; simp), need_t (show inL (i : Int) (llen l) = true from inL_t hi), need_t (show ine 2 0 = true from rfl)]
  simp only [i2n_c, hg]
  generalize l[i] = a at hx ⊢
  rw [iquo_2 (by omega)]
  generalize hm : a.1 / 2 = m
  have h2 := hM.cn0 (2 * m); have h3 := hM.cn0 (2 * m + 1); have h4 := hM.cn0 m
  rw [imul_2 (by omega), iadd_ok (a := 2 * m) (by omega) (by omega), call_s (F52_eq l _ (by omega)), call_s (F52_eq l _ (by omega)), need_t (impl_t fun _ => by rw [ine_d]; simp; omega), iadd_ok (a := cn l (2 * m)) (by omega) (by omega), iquo_thr]
  have ech : cn l (2 * m) + cn l (2 * m + 1) = chl l m := rfl
  rw [ech]
  have hch : 0 ≤ chl l m ∧ chl l m ≤ 2 * count := by omega
  by_cases c0 : m = 0
  · rw [if_pos (.inl c0), sel_f (by rw [bnot_d, ieq_d]; simp [c0]), call_b, sel_t (by rw [pick_or, ieq_d]; simp [c0]), isub_s (by omega) (by omega)]; rfl
  · rw [sel_t (by rw [bnot_d, ieq_d]; simp [c0]), call_s (F52_eq l _ (by omega)), iadd_ok (by omega) (by omega)]
    by_cases c1 : thr count k < chl l m + cn l m
    · rw [if_pos (.inr c1), sel_t (by rw [pick_or, ilt_d]; simp [c1]), isub_s (by omega) (by omega)]; rfl
    · rw [if_neg (by simp [c0, c1]), sel_f (by rw [pick_or, ilt_d, ieq_d]; simp [c0]; omega)]
      have hflen : (l.filter fun p => decide (p.1 / 2 ≠ m)).length ≤ l.length := List.length_filter_le _ _
      have t1 := (thr_le hc hk).2.2
      rw [call_s (F53_eq l m (by omega) fun p hp' => by
        obtain ⟨⟨y, hy, hY⟩, _⟩ := hM.node p.1 (mem_keysD hp')
        have := hY.x2; omega), call_s (F45_eq (by omega) (fun p hp' => by
        have hp' := (List.mem_filter.1 hp').1
        have := (hM.node p.1 (mem_keysD hp')).2
        rw [cn_at hM.nod hp'] at this; omega) ⟨hch.1, by omega⟩)]
      have hlen := len_ins (id := m) (n := chl l m) (l := l.filter fun p => decide (p.1 / 2 ≠ m))
      rw [n2i_c, llen_c, isub_s (by omega) (by omega)]; rfl
theorem keys_flt {m j : Int} : j ∈ keys (l.filter fun p => decide (p.1 / 2 ≠ m)) ↔ j ∈ keys l ∧ j / 2 ≠ m := by
  unfold keys
  simp only [List.mem_map, List.mem_filter, decide_eq_true_eq]
  constructor
  · rintro ⟨p, ⟨h1, h2⟩, rfl⟩; exact ⟨⟨p, h1, rfl⟩, h2⟩
  · rintro ⟨⟨p, h1, rfl⟩, h2⟩; exact ⟨p, ⟨h1, h2⟩, rfl⟩
theorem cn_flt {m j : Int} : cn (l.filter fun p => decide (p.1 / 2 ≠ m)) j = if j / 2 = m then 0 else cn l j := by
  induction l with
  | nil => unfold cn; simp only [List.filter_nil, get_nil]; split <;> rfl
  | cons a l ih =>
    obtain ⟨i, c⟩ := a
    by_cases h : i / 2 ≠ m
    · rw [List.filter_cons_of_pos (by simpa using h)]
      unfold cn at *
      by_cases e : j = i
      · subst e; rw [get_eq, get_eq, if_neg h]
      · rw [get_ne 0 e, get_ne 0 e, ih]
    · rw [List.filter_cons_of_neg (by simpa using h), ih]
      unfold cn at *
      by_cases e : j = i
      · subst e; rw [if_pos (by omega), if_pos (by omega)]
      · rw [get_ne 0 e]
theorem perm_get {M M' : KV Int} (h1 : (keys M).Nodup) (h2 : (keys M').Nodup) (hk : ∀ j, j ∈ keys M ↔ j ∈ keys M') (hc : ∀ j, cn M j = cn M' j) : M.Perm M' := by
  have nd : ∀ {M : KV Int}, (keys M).Nodup → M.Nodup := fun {M} h => by
    unfold keys at h
    rw [List.Nodup, List.pairwise_map] at h
    exact h.imp fun hab e => hab (by rw [e])
  rw [List.perm_ext_iff_of_nodup (nd h1) (nd h2)]
  rintro ⟨j, c⟩
  rw [mem_get 0 h1, mem_get 0 h2, hk j]
  have := hc j
  unfold cn at this
  rw [this]
theorem asc_flt {m : Int} (h : Asc l) : Asc (l.filter fun p => decide (p.1 / 2 ≠ m)) := List.Pairwise.filter _ h
theorem rstep_perm {m : Int} (hm : 1 ≤ m) (ha : Asc l) (hn : (keys M).Nodup) (hp : l.Perm M) : Asc (rstep l m) ∧ (rstep l m).Perm (mrg M m) := by
  have hfa := asc_flt (m := m) ha
  refine ⟨ins_asc hfa, perm_get (asc_nodup (ins_asc hfa)) (nodup_del (nodup_del (nodup_put hn _ _) _) _) (fun j => ?_) fun j => ?_⟩
  · unfold rstep
    rw [keys_ins, keys_flt, keys_mrg hn, show j ∈ keys l ↔ j ∈ keys M from ⟨fun h => (hp.map _).subset h, fun h => (hp.map _).symm.subset h⟩]
    constructor
    · rintro (rfl | ⟨h1, h2⟩)
      · exact ⟨by omega, by omega, .inl rfl⟩
      · exact ⟨by omega, by omega, .inr h1⟩
    · rintro ⟨h1, h2, h3 | h3⟩
      · exact .inl h3
      · exact .inr ⟨h3, by omega⟩
  · have hl : ∀ i, cn l i = cn M i := fun i => get_perm hp (asc_nodup ha) i
    have hch : chl l m = chl M m := by show cn l _ + cn l _ = cn M _ + cn M _; rw [hl, hl]
    unfold rstep
    rw [cn_ins j hfa, cn_flt, get_mrg hn, hch, hl j]
    by_cases e1 : j = 2 * m + 1
    · rw [if_pos (by omega), if_neg (by omega), if_pos e1]; rfl
    by_cases e2 : j = 2 * m
    · rw [if_pos (by omega), if_neg (by omega), if_neg e1, if_pos e2]; rfl
    rw [if_neg (by omega), if_neg e1, if_neg e2]
    by_cases e3 : j = m
    · subst e3; rw [if_pos rfl, if_pos rfl]
    · rw [if_neg e3, if_neg e3]; omega
theorem ref_loop (hk : 1 ≤ k) (hw : 1 ≤ w ∧ w ≤ 20) (hc : 0 ≤ count ∧ count ≤ 1099511627776) {M M' : List Nd} (hG : Gr (thr count k) M M') : MInv w (thr count k) count nodes M → M.length ≤ 2000 → ∀ l, Asc l → l.Perm M →
    ∃ r, iter (body19 ((w : Int), k, count, nd0)) (l, (l.length : Int) - 1) = some (.inl r) ∧ Asc r ∧ r.Perm M' := by
  have hth := (thr_le hc hk).2.2
  have fin : ∀ l : List Nd, iter (body19 ((w : Int), k, count, nd0)) (l, -1) = some (.inl l) := fun l => by
    refine iter_r ?_
    unfold body19
    rw [sel_f (show ile 0 (-1) = false from rfl)]
  have chpos : ∀ {l : List Nd} {i : Nat}, MInv w (thr count k) count nodes l → (hi : i < l.length) → 1 ≤ chl l (l[i].1 / 2) := fun {l} {i} hM hi => by
    have h := (hM.node l[i].1 (mem_keysD (List.getElem_mem hi)))
    obtain ⟨⟨x, hx, hX⟩, h1, _⟩ := h
    have h2 := hM.cn0 (2 * (l[i].1 / 2)); have h3 := hM.cn0 (2 * (l[i].1 / 2) + 1)
    have : l[i].1 = 2 * (l[i].1 / 2) ∨ l[i].1 = 2 * (l[i].1 / 2) + 1 := by omega
    have ech : chl l (l[i].1 / 2) = cn l (2 * (l[i].1 / 2)) + cn l (2 * (l[i].1 / 2) + 1) := rfl
    rcases this with e | e
    · rw [← e] at h2 h3 ech; omega
    · rw [← e] at h3 ech; omega
  induction hG with
  | done M hno =>
    intro hM hlen l ha hp
    have hMl := hM.perm hp.symm
    have hno' : ∀ m, 1 ≤ m → ¬ can (thr count k) l m := fun m h1 h2 => hno m h1 ((can_perm (asc_nodup ha) hp m).1 h2)
    have hll := hp.length_eq
    have scan : ∀ n, n ≤ l.length → iter (body19 ((w : Int), k, count, nd0)) (l, (n : Int) - 1) = some (.inl l) := by
      intro n
      induction n with
      | zero => intro _; exact fin l
      | succ n ih =>
        intro hn
        have hb := body19_at (nd0 := nd0) hk hc (by omega) hMl (show n < l.length by omega)
        rw [if_pos ?_] at hb
        · rw [show ((n + 1 : Nat) : Int) - 1 = (n : Int) by omega]
          exact iter_l hb (ih (by omega))
        · by_cases e : l[n].1 / 2 = 0
          · exact .inl e
          · obtain ⟨⟨x, hx, hX⟩, _⟩ := hMl.node l[n].1 (mem_keysD (List.getElem_mem _))
            have := hno' (l[n].1 / 2) (by omega)
            have := chpos hMl (show n < l.length by omega)
            unfold can at *
            exact .inr (by omega)
    exact ⟨l, scan l.length (Nat.le_refl _), ha, hp⟩
  | step M m r hm hcan hmax hG ih =>
    intro hM hlen l ha hp
    have hMl := hM.perm hp.symm
    have hll := hp.length_eq
    have hcl := (can_perm (asc_nodup ha) hp m).2 hcan
    have hmaxl : ∀ y, 1 ≤ y → can (thr count k) l y → y ≤ m := fun y h1 h2 => hmax y h1 ((can_perm (asc_nodup ha) hp y).1 h2)
    obtain ⟨sa, sp⟩ := rstep_perm hm ha hM.nod hp
    obtain ⟨r', i1, i2, i3⟩ := ih (hM.mrg hm hcan hw hth) (Nat.le_trans (hM.shrink hm hcan) hlen) (rstep l m) sa sp
    have scan : ∀ n, n ≤ l.length → (∃ j, ∃ h : j < l.length, j < n ∧ l[j].1 / 2 = m) → iter (body19 ((w : Int), k, count, nd0)) (l, (n : Int) - 1) = some (.inl r') := by
      intro n
      induction n with
      | zero => rintro _ ⟨j, _, h, _⟩; omega
      | succ n ih2 =>
        rintro hn ⟨j, hj, hjn, hjm⟩
        have hb := body19_at (nd0 := nd0) hk hc (by omega) hMl (show n < l.length by omega)
        rw [show ((n + 1 : Nat) : Int) - 1 = (n : Int) by omega]
        by_cases e : l[n].1 / 2 = m
        · rw [e, if_neg (by unfold can at hcl; omega)] at hb
          exact iter_l hb i1
        · have hjn' : j < n := by
            rcases Nat.lt_or_eq_of_le (show j ≤ n by omega) with h | h
            · exact h
            · subst h; exact absurd hjm e
          have hlt : l[j].1 < l[n].1 := (List.pairwise_iff_getElem.1 ha) j n hj (by omega) hjn'
          have hchp := chpos hMl (show n < l.length by omega)
          have hnc : ¬ can (thr count k) l (l[n].1 / 2) := fun h => by
            have := hmaxl _ (by omega) h
            omega
          rw [if_pos (.inr (by unfold can at hnc; omega))] at hb
          exact iter_l hb (ih2 (by omega) ⟨j, hj, hjn', hjm⟩)
    refine ⟨r', scan l.length (Nat.le_refl _) ?_, i2, i3⟩
    have hk : 2 * m ∈ keys l ∨ 2 * m + 1 ∈ keys l := by
      by_cases h1 : 2 * m ∈ keys l
      · exact .inl h1
      by_cases h2 : 2 * m + 1 ∈ keys l
      · exact .inr h2
      exact absurd (show chl l m = 0 by show cn l (2 * m) + cn l (2 * m + 1) = 0; rw [(hMl.cn0 _).2.2.1 h1, (hMl.cn0 _).2.2.1 h2]; rfl) hcl.1
    rcases hk with h | h
    · obtain ⟨p, hp1, hp2⟩ := List.mem_map.1 h
      obtain ⟨j, hj, rfl⟩ := List.getElem_of_mem hp1
      exact ⟨j, hj, hj, by omega⟩
    · obtain ⟨p, hp1, hp2⟩ := List.mem_map.1 h
      obtain ⟨j, hj, rfl⟩ := List.getElem_of_mem hp1
      exact ⟨j, hj, hj, by omega⟩
end
theorem F19_bad {bits k count : Int} {nodes : List Nd} (h : qcheck bits k count nodes ≠ 0) : F19 (bits, k, count, nodes) = some ((0, 0, 0, []), 1) := by
  unfold F19
  rw [call_s (F21_eq bits k count nodes), ine_d, sel_i, if_pos h]
theorem F19_good {w : Nat} {k count : Int} {nodes r : List Nd} (D : Dig w k count nodes) (C : Cmpd w k count nodes r) : F19 ((w : Int), k, count, nodes) = some (((w : Int), k, count, r), 0) := by
  have hlen := D.len
  obtain ⟨M, hG, hp⟩ := C.gr
  obtain ⟨r', h1, h2, h3⟩ := ref_loop (nd0 := nodes) D.k1 ⟨D.w1, D.w2⟩ ⟨D.c0, D.c1⟩ hG D.inv D.len nodes D.asc (.refl _)
  have : r' = r := asc_unique h2 C.asc (h3.trans hp.symm)
  subst this
  have hq := F21_eq (w : Int) k count nodes
  rw [D.check] at hq
  unfold F19
  rw [call_s hq, sel_f (show ine 0 0 = false from rfl), need_t (by simp [room, nadd, llen]; omega)]
  have e : isub .i64 (n2i (llen (lcat ([] : List Nd) nodes))) 1 = (nodes.length : Int) - 1 := isub_s (a := (nodes.length : Int)) (by omega) (by omega)
  dsimp only
  rw [e]
  exact join_l h1
theorem law3 (bits k count : Int) (nodes : List Nd) (a b n : Int) (ha : inI a) (hb : inI b) (hn : inI n) : F3 ((bits, k, count, nodes), (a, b), n) = some true := by
  unfold F3
  by_cases g : (24 : Int) < nodes.length
  · rw [call_s (show F11 (bits, k, count, nodes) = some true by unfold F11; rw [ilt_d, n2i_c, llen_c]; simp [g])]
    rw [sel_t rfl, call_s awake]
  rw [call_s (show F11 (bits, k, count, nodes) = some false by unfold F11; rw [ilt_d, n2i_c, llen_c]; simp [g]), sel_f rfl]
  have e14 : F14 (a, b) = F13 (a, b) := rfl
  have e13 : ∃ d e, F13 (a, b) = some (d, e) ∧ d.2.2.2 = [] := by
    unfold F13
    simp only [pick_or, ilt_d, ← Bool.decide_or, sel_i]
    split
    · exact ⟨_, _, rfl, rfl⟩
    · exact ⟨_, _, rfl, rfl⟩
  obtain ⟨d, e, h13, hd⟩ := e13
  rw [e14, call_s h13, call_s h13, call_s (F15_same d (by rw [hd]; simp)), sel_f (by rw [pick_or, ine_d]; simp [bnot])]
  have hlen : nodes.length ≤ 24 := by omega
  rw [call_s (F16_eq (by omega) ha hn), call_s (F17_eq (by omega) ha hn)]
  have hins := (len_ins (id := shl 1 bits + a) (n := n) (l := nodes)).2
  generalize hX : (if qcheck bits k count nodes ≠ 0 then (zDg, (1 : Int)) else if a < 0 ∨ shl 1 bits ≤ a ∨ n < 1 then (zDg, 2) else if 1099511627776 - count < n then (zDg, 4) else if 2000 < (ins nodes (shl 1 bits + a) n).length then (zDg, 4) else ((bits, k, count + n, ins nodes (shl 1 bits + a) n), 0)) = X
  have hXl : X.1.2.2.2.length ≤ 1000000 := by
    rw [← hX]
    split
    · simp [zDg]
    split
    · simp [zDg]
    split
    · simp [zDg]
    split
    · simp [zDg]
    · show (ins nodes (shl 1 bits + a) n).length ≤ _; omega
  rw [call_s (F15_same X.1 hXl), sel_f (by rw [pick_or, ine_d]; simp [bnot])]
  have h18 : ∃ d : Dg × Int, F18 (bits, k, count, nodes) = some d ∧ F19 (bits, k, count, nodes) = some d ∧ d.1.2.2.2.length ≤ 1000000 := by
    by_cases h : qcheck bits k count nodes = 0
    · obtain ⟨r, hr, C⟩ := F18_good h
      obtain ⟨hb, D⟩ := dig_of h
      generalize bits.toNat = w at *
      subst hb
      exact ⟨_, hr, F19_good D C, by have := C.len; show r.length ≤ _; omega⟩
    · exact ⟨_, F18_bad h, F19_bad h, by simp⟩
  obtain ⟨d, h18, h19, hdl⟩ := h18
  rw [call_s h18, call_s h19, call_s (F15_same d.1 hdl), sel_t (by rw [pick_and, ieq_t]; rfl), call_s (F20_eq _ _ _ _), sel_t (by rw [pick_and, ieq_t]; rfl), call_s (F21_eq _ _ _ _), sel_t (by simp [pick_and, ieq_t]), call_s awake]
  simp [pick_and, ieq_t]
end Go.Q
