/- Part 7 of what the claim leans on: QCmp3, QCmp4, QAwk, QLaw6, QPut, QRanks, QBuild, QMerge, QMerged. -/
import Derived.Test.YtfibkbmlgigemaaM6
import Derived.Calls
import Derived.KernelRfl
import Derived.Orders
import Derived.Laws.Sem
import Derived.Laws.CopyRow
import Derived.Laws.Cells
import Derived.Room.Entries
import Derived.Lib.Overlaps
import GoSem.Conv.BytesToString
import Derived.OrdersHeld
import Derived.ProofKit
import Derived.OpenShut
import Derived.Carry
import Derived.Shelf.SlSortCmp.InsertionK
import Derived.Shelf.Sort.Plain
import Derived.Test.YtfibkbmlgigemaaProg
import Derived.Shelf.SlSortCmp.WholeK
import Derived.Ground.SlsfProg
set_option linter.unusedVariables false
set_option linter.unusedSimpArgs false
set_option maxRecDepth 100000
set_option linter.unusedSectionVars false
namespace Go.Q
open Go Go.T Go.Pl Go.Proofs Go.Proofs.Qd
variable [Go.Ab.DM]
def Asc (l : List Nd) : Prop := l.Pairwise fun a b => a.1 < b.1
theorem asc_unique : ∀ {l l' : List Nd}, Asc l → Asc l' → l.Perm l' → l = l'
 | [], l', _, _, h => (List.nil_perm.1 h).symm
 | a :: l, [], _, _, h => absurd h.length_eq (by simp)
 | a :: l, b :: l', ha, hb, h => by
   have ha' := List.pairwise_cons.1 ha
   have hb' := List.pairwise_cons.1 hb
   have e : a = b := by
     have h1 : a ∈ b :: l' := h.subset (by simp)
     have h2 : b ∈ a :: l := h.symm.subset (by simp)
     rcases List.mem_cons.1 h1 with h1 | h1
     · exact h1
     rcases List.mem_cons.1 h2 with h2 | h2
     · exact h2.symm
     have := ha'.1 b h2
     have := hb'.1 a h1
     omega
   subst e
   rw [asc_unique ha'.2 hb'.2 ((List.perm_cons a).1 h)]
theorem asc_nodup {l : List Nd} (h : Asc l) : (zBP l).Nodup := by
 unfold zBP
 rw [List.Nodup, List.pairwise_map]
 exact h.imp fun h e => by omega
theorem asc_of {l : List Nd} (h : (zBP l).Nodup) (hs : l.Pairwise fun a b => ∀ i j, key51 a = some i → key51 b = some j → i ≤ j) : Asc l := by
 unfold zBP at h
 rw [List.Nodup, List.pairwise_map] at h
 exact (List.Pairwise.and h hs).imp fun ⟨h1, h2⟩ => by have := h2 _ _ rfl rfl; omega
theorem sort_ex (l : List Nd) : ∃ r : List Nd, r.Perm l ∧ r.Pairwise fun a b => ∀ i j, key51 a = some i → key51 b = some j → i ≤ j := by
 refine ⟨l.mergeSort (fun a b => decide (a.1 ≤ b.1)), List.mergeSort_perm _ _, ?_⟩
 have := List.pairwise_mergeSort (le := fun a b : Nd => decide (a.1 ≤ b.1)) (fun a b c h1 h2 => by simp at *; omega) (fun a b => by simp; omega) l
 refine this.imp fun {a b} h i j hi hj => ?_
 have := Option.some.inj hi; have := Option.some.inj hj
 simp at h; omega
theorem callQ_of {A R : Type} {p : A → Prop} {k : A → Option R} {r : R} (h1 : ∃ a, p a) (h2 : ∀ a, p a → k a = some r) : callQ p k = some r := by
 have hx : (∃ a, p a) ∧ ∃ r, ∀ a, p a → k a = some r := ⟨h1, r, h2⟩
 unfold callQ
 rw [dif_pos hx]
 obtain ⟨a, ha⟩ := h1
 have := Classical.choose_spec hx.2 a ha
 rw [h2 a ha] at this
 exact this.symm
theorem mrange_of {A S E : Type} {l : List A} {B : A → S → Option (S ⊕ E)} {N : S → Option (S ⊕ E)} {s : S} {e : E} (h : ∀ l', l'.Perm l → foldM B N l' s = some e) : mrange l B N s = some e := by
 have hx : ∃ e, ∀ l', l'.Perm l → foldM B N l' s = some e := ⟨e, h⟩
 unfold mrange
 rw [dif_pos hx]
 have := Classical.choose_spec hx l (.refl _)
 rw [h l (.refl _)] at this
 exact this.symm
theorem foldM_app {E : Type} {N : List Nd → Option (List Nd ⊕ E)} {e : E} : ∀ (l s : List Nd), s.length + l.length ≤ 1000000 → N (s ++ l) = some (.inr e) →
   foldM (fun (p14 : (Int × Int)) (s15 : (List (Int × Int))) => need (room (nadd (zAj s15) (zAj ((p14.1, p14.2) :: ([] : List (Int × Int))))) 16) <| some (.inl (lcat s15 ((p14.1, p14.2) :: ([] : List (Int × Int)))))) N l s = some e
 | [], s, _, h => by
   rw [List.append_nil] at h
   rw [foldM, h]
 | a :: l, s, h, hN => by
   rw [List.length_cons] at h
   rw [foldM, zAd (by simp [room, nadd, zAj]; omega)]
   dsimp only
   exact foldM_app (N := N) l (s ++ [a]) (by simp; omega) (by simpa using hN)
theorem mk8 {n : Nat} (h : n ≤ 1000000) : Go.T.mk 0 (n2i n) 8 = true := by
 unfold Go.T.mk n2i; simp; omega
theorem mk16 {n : Nat} (h : n ≤ 1000000) : Go.T.mk 0 (n2i n) 16 = true := by
 unfold Go.T.mk n2i; simp; omega
theorem get_perm {M M' : KV Int} (h : M.Perm M') (hn : (zBP M).Nodup) (j : Int) : zDb ieq 0 M j = zDb ieq 0 M' j := by
 have hk : (zBP M).Perm (zBP M') := h.map _
 have hn' : (zBP M').Nodup := hk.nodup_iff.1 hn
 by_cases hj : j ∈ zBP M
 · have h1 := (mem_get 0 hn j _).2 ⟨hj, rfl⟩
   exact ((mem_get 0 hn' j _).1 (h.subset h1)).2.symm
 · rw [get_out 0 hj, get_out 0 (fun h' => hj (hk.symm.subset h'))]
theorem MInv.perm {w : Nat} {th count : Int} {nodes M M' : KV Int} (h : MInv w th count nodes M) (hp : M.Perm M') : MInv w th count nodes M' := by
 have hk : (zBP M).Perm (zBP M') := hp.map _
 have hg := fun j => get_perm hp h.nod j
 refine ⟨hk.nodup_iff.1 h.nod, fun id hid => ?_, fun id hid hlt => ?_, by rw [← wsum_perm hp]; exact h.sum, fun v => by rw [← wsum_perm hp]; exact h.lo v, fun v => by rw [← wsum_perm hp]; exact h.hi v⟩
 · have := h.node id (hk.symm.subset hid)
   unfold cn at this ⊢; rw [← hg]; exact this
 · have := h.inner id (hk.symm.subset hid) hlt
   unfold cn at this ⊢; rw [← hg]; exact this
theorem can_perm {th : Int} {M M' : KV Int} (hn : (zBP M).Nodup) (hp : M.Perm M') (m : Int) : can th M m ↔ can th M' m := by
 have hg := fun j => get_perm hp hn j
 unfold can chl cn; rw [hg, hg, hg]
theorem len_ksum {w : Nat} {th count : Int} {nodes M : KV Int} (h : MInv w th count nodes M) : M.length ≤ ksum dep M := by
 have : ∀ l : List Int, (∀ id ∈ l, (∃ x : Nat, id = x ∧ Nod w x)) → l.length ≤ (l.map dep).sum := by
   intro l
   induction l with
   | nil => simp
   | cons a l ih =>
     intro hl
     obtain ⟨x, hx, hX⟩ := hl a (by simp)
     have := ih fun id hid => hl id (by simp [hid])
     have h1 : 1 ≤ dep a := by unfold dep; rw [hx, Int.toNat_natCast]; exact (blen_pos hX.x1).1
     rw [List.length_cons, List.map_cons, List.sum_cons]; omega
 have h2 := this (zBP M) fun id hid => (h.node id hid).1
 simpa [zBP, ksum] using h2
def todo : List Nd → List Int
 | [] => []
 | n :: l => if 1 < n.1 then n.1 / 2 :: todo l else todo l
theorem todo_len : ∀ l, (todo l).length ≤ l.length
 | [] => by simp [todo]
 | n :: l => by have := todo_len l; rw [todo]; split <;> simp <;> omega
theorem mem_todo : ∀ {l : List Nd} {m : Int}, m ∈ todo l ↔ ∃ n ∈ l, 1 < n.1 ∧ n.1 / 2 = m
 | [], m => by simp [todo]
 | n :: l, m => by
   rw [todo]
   split
   · rw [List.mem_cons, mem_todo]
     constructor
     · rintro (h | ⟨n', h1, h2⟩)
       · exact ⟨n, by simp, by assumption, h.symm⟩
       · exact ⟨n', by simp [h1], h2⟩
     · rintro ⟨n', h1, h2⟩
       rcases List.mem_cons.1 h1 with rfl | h1
       · exact .inl h2.2.symm
       · exact .inr ⟨n', h1, h2⟩
   · rw [mem_todo]
     constructor
     · rintro ⟨n', h1, h2⟩; exact ⟨n', by simp [h1], h2⟩
     · rintro ⟨n', h1, h2⟩
       rcases List.mem_cons.1 h1 with rfl | h1
       · exact absurd h2.1 (by assumption)
       · exact ⟨n', h1, h2⟩
def g18 (st : List Nd × List Int) (n : Nd) : List Nd × List Int := (mput ieq st.1 n.1 n.2, if 1 < n.1 then st.2 ++ [n.1 / 2] else st.2)
theorem put_new {M : KV Int} {k v : Int} (h : k ∉ zBP M) : mput ieq M k v = M ++ [(k, v)] := by
 induction M with
 | nil => rfl
 | cons p M ih =>
   obtain ⟨j, x⟩ := p
   rw [zAk, List.mem_cons, not_or] at h
   rw [put_ne h.1, ih h.2]; rfl
theorem fold18 : ∀ (l acc : List Nd) (T : List Int), (zBP (acc ++ l)).Nodup → l.foldl g18 (acc, T) = (acc ++ l, T ++ todo l)
 | [], acc, T, _ => by simp [todo]
 | n :: l, acc, T, h => by
   have h1 : n.1 ∉ zBP acc := by
     intro h'
     unfold zBP at h h'
     rw [List.map_append, List.map_cons, List.nodup_append] at h
     exact h.2.2 _ h' _ (by simp) rfl
   rw [List.foldl_cons]
   have e : g18 (acc, T) n = (acc ++ [n], if 1 < n.1 then T ++ [n.1 / 2] else T) := by unfold g18; rw [put_new h1]
   rw [e, fold18 l (acc ++ [n]) _ (by simpa using h), todo]
   split <;> simp
theorem thr_le {count k : Int} (hc : 0 ≤ count ∧ count ≤ 1099511627776) (hk : 1 ≤ k) : thr count k = count / k ∧ 0 ≤ thr count k ∧ thr count k ≤ count := by
 have e : count.tdiv k = count / k := Int.tdiv_eq_ediv_of_nonneg hc.1
 have h1 : count / k ≤ count := Int.ediv_le_self _ hc.1
 have h2 : 0 ≤ count / k := Int.ediv_nonneg hc.1 (by omega)
 have h3 : thr count k = count / k := by unfold thr; rw [e]; exact zAs (by omega) (by omega)
 omega
theorem cn_at {M : KV Int} (hn : (zBP M).Nodup) {n : Nd} (h : n ∈ M) : cn M n.1 = n.2 := ((mem_get 0 hn n.1 n.2).1 h).2
theorem Dig.inv {w : Nat} {k count : Int} {nodes : List Nd} (D : Dig w k count nodes) : MInv w (thr count k) count nodes nodes := by
 have hn : (zBP nodes).Nodup := asc_nodup D.asc
 have hk : ∀ id ∈ zBP nodes, ∃ n ∈ nodes, n.1 = id ∧ cn nodes id = n.2 := fun id hid => by
   obtain ⟨n, h1, rfl⟩ := List.mem_map.1 hid
   exact ⟨n, h1, rfl, cn_at hn h1⟩
 refine ⟨hn, fun id hid => ?_, fun id hid hlt => ?_, ?_, fun v => Int.le_refl _, fun v => Int.le_refl _⟩
 · obtain ⟨n, h1, rfl, h2⟩ := hk id hid
   rw [h2]; exact D.node n h1
 · obtain ⟨n, h1, rfl, h2⟩ := hk id hid
   rw [h2]; exact D.inner n h1 hlt
 · have : zDI (fun _ => 1) nodes = (nodes.map (·.2)).sum := by unfold zDI; simp
   rw [this]; exact D.sum
theorem Dig.ksum {w : Nat} {k count : Int} {nodes : List Nd} (D : Dig w k count nodes) : Pl.ksum dep nodes ≤ 42000 := by
 have : ∀ l : List Nd, (∀ n ∈ l, ∃ x : Nat, n.1 = x ∧ Nod w x) → Pl.ksum dep l ≤ 21 * l.length := by
   intro l
   induction l with
   | nil => intro _; exact Nat.le_refl _
   | cons n l ih =>
     intro h
     obtain ⟨x, hx, hX⟩ := h n (by simp)
     have h1 := ih fun m hm => h m (by simp [hm])
     have h2 : dep n.1 ≤ 21 := by unfold dep; rw [hx, Int.toNat_natCast]; have := hX.le; have := hX.w2; omega
     have e : Pl.ksum dep (n :: l) = dep n.1 + Pl.ksum dep l := by unfold Pl.ksum zBP; simp
     rw [e, List.length_cons]; omega
 have h := this nodes fun n hn => (D.node n hn).1
 have := D.len; omega
end Go.Q
namespace Go.Q
open Go Go.T Go.Pl Go.Proofs Go.Proofs.Qd
variable [Go.Ab.DM]
structure Cmpd (w : Nat) (k count : Int) (nodes r : List Nd) : Prop where
 inv : MInv w (thr count k) count nodes r
 asc : Asc r
 none : ∀ m, 1 ≤ m → ¬ can (thr count k) r m
 same : (∀ m, 1 ≤ m → ¬ can (thr count k) nodes m) → r = nodes
 len : r.length ≤ nodes.length
 gr : ∃ M, Gr (thr count k) nodes M ∧ r.Perm M
theorem F18_good {bits k count : Int} {nodes : List Nd} (h : zDB bits k count nodes = 0) : ∃ r, F18 (bits, k, count, nodes) = some ((bits, k, count, r), 0) ∧ Cmpd bits.toNat k count nodes r := by
 obtain ⟨hb, D⟩ := dig_of h
 have hw : 1 ≤ bits.toNat ∧ bits.toNat ≤ 20 := ⟨D.w1, D.w2⟩
 have hq := F20_eq bits k count nodes
 rw [h] at hq
 generalize hW : bits.toNat = w at *
 subst hb
 have p20 := pow21 hw.2
 have hlen := D.len
 have hk := D.k1
 obtain ⟨_, t1, t2⟩ := thr_le ⟨D.c0, D.c1⟩ D.k1
 have hl1 : iter (fun (s1 : (Int × ((List (Int × Int)) × (List Int)))) =>
     sel (ilt s1.1 (n2i (zAj nodes))) (join (need (inL s1.1 (zAj nodes)) <|
     sel (ilt 1 ((zAz (0, 0) nodes (i2n s1.1)).1)) (need (ine 2 0) <|
     need (room (nadd (zAj s1.2.2) (zAj (iquo .i64 ((zAz (0, 0) nodes (i2n s1.1)).1) 2 :: ([] : List Int)))) 8) <|
     some (.inl (mput ieq s1.2.1 ((zAz (0, 0) nodes (i2n s1.1)).1) ((zAz (0, 0) nodes (i2n s1.1)).2), lcat s1.2.2 (iquo .i64 ((zAz (0, 0) nodes (i2n s1.1)).1) 2 :: ([] : List Int))))) <|
     some (.inl (mput ieq s1.2.1 ((zAz (0, 0) nodes (i2n s1.1)).1) ((zAz (0, 0) nodes (i2n s1.1)).2), s1.2.2))) fun (j2 : ((List (Int × Int)) × (List Int))) =>
     some (.inl (zAu .i64 s1.1 1, j2.1, j2.2))) <|
     (some (.inr (.inl (s1.2.1, s1.2.2))) : Option ((Int × ((List (Int × Int)) × (List Int))) ⊕ (((List (Int × Int)) × (List Int)) ⊕ (Dg × Int))))) (0, ([] : List (Int × Int)), lrep 0 0) = some (.inl (nodes, todo nodes)) := by
   refine (iter_for nodes (fun st i => (i, st.1, st.2)) (fun s a => .inl (g18 s a)) (fun st => (.inl st : (List Nd × List Int) ⊕ (Dg × Int))) (fun i st => st.2.length ≤ i) (([] : List Nd), ([] : List Int)) (by simp) ?_ ?_).trans ?_
   · rintro i ⟨M, T⟩ hi hI
     have hlt : (i : Int) < nodes.length := by omega
     have hin : inL (i : Int) nodes.length = true := inL_t hi
     have hg : zAz (0, 0) nodes i = nodes[i] := lget_t hi
     obtain ⟨⟨x, hx, hX⟩, hc⟩ := D.node nodes[i] (List.getElem_mem hi)
     have hx2 := hX.x2
     have hp : 2 ^ (w + 1) = 2 * 2 ^ w := by rw [Nat.pow_succ]; omega
     dsimp only at hI ⊢
     simp only [n2i_c, zCs, i2n_c, hg, hin, zAd, ilt_d, sel_i, hlt, if_true]
     generalize nodes[i] = n at *
     rw [zBT (by omega) (by omega), iquo_2 (by omega)]
     unfold g18
     dsimp only
     by_cases h1 : 1 < n.1
     · rw [if_pos h1, if_pos h1, zAd (show ine 2 0 = true from rfl), zAd (by simp [room, nadd]; omega)]
       refine ⟨rfl, fun st' h => ?_⟩
       have := Sum.inl.inj h; subst this
       simp; omega
     · rw [if_neg h1, if_neg h1]
       refine ⟨rfl, fun st' h => ?_⟩
       have := Sum.inl.inj h; subst this
       dsimp only; omega
   · intro st hI
     simp only [n2i_c, zCs, ilt_d, sel_i]
     rw [if_neg (by omega)]
   · rw [fold_l, fold18 nodes [] [] (by simpa using asc_nodup D.asc)]; simp
 have hT : (todo nodes).length ≤ nodes.length := todo_len nodes
 obtain ⟨T, hT1, hT2, hT3⟩ := F46_heap (l := todo nodes) (by omega)
 have hTl := hT2.length_eq
 have hk0 := D.ksum
 have hinv := D.inv
 obtain ⟨M', l1, l2, l3, l4, l5, l6⟩ := cmp_loop (nd0 := nodes) (nodes := nodes) hw ⟨D.c0, D.c1⟩ t2 _ nodes T rfl (by omega) hinv (fun m hm => by
   obtain ⟨n, h1, h2, rfl⟩ := mem_todo.1 (hT2.subset hm)
   obtain ⟨⟨x, hx, hX⟩, _⟩ := D.node n h1
   have hx2 := hX.x2
   have hp : 2 ^ (w + 1) = 2 * 2 ^ w := by rw [Nat.pow_succ]; omega
   omega) (fun m h1 h2 => by
   have key : 2 * m ∈ zBP nodes ∨ 2 * m + 1 ∈ zBP nodes := by
     by_cases g1 : 2 * m ∈ zBP nodes
     · exact .inl g1
     by_cases g2 : 2 * m + 1 ∈ zBP nodes
     · exact .inr g2
     exact absurd (show chl nodes m = 0 by show cn nodes (2 * m) + cn nodes (2 * m + 1) = 0; rw [(hinv.cn0 _).2.2.1 g1, (hinv.cn0 _).2.2.1 g2]; rfl) h2.1
   refine hT2.symm.subset (mem_todo.2 ?_)
   rcases key with g | g
   · obtain ⟨n, g1, g2⟩ := List.mem_map.1 g
     exact ⟨n, g1, by omega, by omega⟩
   · obtain ⟨n, g1, g2⟩ := List.mem_map.1 g
     exact ⟨n, g1, by omega, by omega⟩) hT3
 have hML := len_ksum l2
 obtain ⟨r, r1, r2⟩ := sort_ex M'
 have hnr : (zBP r).Nodup := (r1.map _).symm.nodup_iff.1 l2.nod
 have hra : Asc r := asc_of hnr r2
 refine ⟨r, ?_, l2.perm r1.symm, hra, fun m h1 h2 => l3 m h1 ((can_perm l2.nod r1.symm m).2 h2), fun hno => ?_, by have := r1.length_eq; omega, M', l6.2, r1⟩
 · unfold F18
   rw [zAb hq, zDV (show ine 0 0 = false from rfl), zAd (mk8 (by show nodes.length ≤ _; omega))]
   refine Eq.trans (join_l hl1) ?_
   dsimp only
   rw [zAb hT1, zAd (by rw [ine_d]; simp; omega)]
   refine Eq.trans (join_l l1) ?_
   rw [zAd (mk16 (by show M'.length ≤ _; omega))]
   refine mrange_of fun l' hl' => ?_
   have hl'n := hl'.length_eq
   have hq : callQ (Q50 l') (fun (r17 : (List (Int × Int))) => some ((((w : Int), k, count, r17), (0 : Int)) : Dg × Int)) = some (((w : Int), k, count, r), 0) := by
     refine callQ_of ⟨r, ⟨by omega, fun n hn => ⟨n.1, rfl, ?_⟩, r1.trans hl'.symm, r2⟩⟩ fun a ha => ?_
     · obtain ⟨⟨x, hx, hX⟩, _⟩ := l2.node n.1 (List.mem_map_of_mem (hl'.subset hn))
       have hx2 := hX.x2
       have hp : 2 ^ (w + 1) = 2 * 2 ^ w := by rw [Nat.pow_succ]; omega
       exact ⟨by omega, by omega⟩
     · obtain ⟨_, _, a1, a2⟩ := ha
       have hna : (zBP a).Nodup := ((a1.trans hl').map _).symm.nodup_iff.1 l2.nod
       have := asc_unique (asc_of hna a2) hra ((a1.trans hl').trans r1.symm)
       rw [this]
   refine foldM_app l' _ (by simp [lrep]; omega) ?_
   show Go.T.up (callQ (Q50 l') _) = _
   rw [hq]; rfl
 · have := l4 hno
   subst this
   exact asc_unique hra D.asc r1
end Go.Q
namespace Go.Q
open Go Go.T Go.Pl Go.Proofs Go.Proofs.Qd
variable [Go.Ab.DM]
theorem join_it {S S' R : Type} {body : S → Option (S ⊕ (S' ⊕ R))} {s : S} {k : S' → Option R} (n : Nat) (s' : S') (h : iterN body n s = some (.inl s')) : join (iter body s) k = k s' := join_l (iter_of h)
theorem t39 : F39 (3, 2, [1, 1, 5, 6]) = some ((3, 2, 4, [(9, 2), (13, 1), (14, 1)]), true) := by
 unfold F39
 rw [zAb (show F13 (3, 2) = some ((3, 2, 0, []), 0) by kernel_rfl)]
 exact Eq.trans (join_it 6 (0, 3, 2, 4, [(9, 2), (13, 1), (14, 1)]) (by kernel_rfl)) rfl
theorem t18 : F18 (3, 2, 4, [(9, 2), (13, 1), (14, 1)]) = some ((3, 2, 4, [(2, 2), (3, 2)]), 0) := by
 unfold F18
 rw [zAb (F20_eq 3 2 4 [(9, 2), (13, 1), (14, 1)]), zDV (by kernel_rfl), zAd (by kernel_rfl)]
 refine Eq.trans (join_it 5 ([(9, 2), (13, 1), (14, 1)], [4, 6, 7]) (by kernel_rfl)) ?_
 rw [zAb (show F46 [4, 6, 7] = some [7, 6, 4] by kernel_rfl), zAd (by kernel_rfl)]
 refine Eq.trans (join_it (body := body18 (3, 2, 4, [(9, 2), (13, 1), (14, 1)])) 40 [(3, 2), (2, 2)] (by kernel_rfl)) ?_
 rw [zAd (by kernel_rfl)]
 refine mrange_of fun l' hl' => ?_
 have hn := hl'.length_eq
 have hp : l'.Perm [(2, 2), (3, 2)] := hl'.trans (List.Perm.swap _ _ _)
 have hra : Asc [(2, 2), (3, 2)] := by unfold Asc; simp
 refine foldM_app l' _ (by rw [hn]; decide) ?_
 have hq : callQ (Q50 l') (fun (r17 : (List (Int × Int))) => some ((((3 : Int), (2 : Int), (4 : Int), r17), (0 : Int)) : Dg × Int)) = some ((3, 2, 4, [(2, 2), (3, 2)]), 0) := by
   refine callQ_of ⟨[(2, 2), (3, 2)], ⟨by rw [hn]; decide, fun n hm => ⟨n.1, rfl, ?_⟩, hp.symm, ?_⟩⟩ fun a ha => ?_
   · have := hp.subset hm
     simp at this
     rcases this with rfl | rfl <;> exact ⟨by decide, by decide⟩
   · exact hra.imp fun {a b} h i j hi hj => by
       have := Option.some.inj hi; have := Option.some.inj hj; omega
   · obtain ⟨_, _, a1, a2⟩ := ha
     have hna : (zBP a).Nodup := ((a1.trans hp).map _).symm.nodup_iff.1 (asc_nodup hra)
     rw [asc_unique (asc_of hna a2) hra (a1.trans hp)]
 show Go.T.up (callQ (Q50 l') _) = _
 rw [hq]; rfl
theorem key_unique {kf : Nd → Int} : ∀ {l r : List Nd}, (l.Pairwise fun a b => kf a < kf b) → (r.Pairwise fun a b => kf a ≤ kf b) → r.Perm l → r = l
 | [], r, _, _, h => List.perm_nil.1 h
 | a :: l, [], _, _, h => absurd h.length_eq (by simp)
 | a :: l, b :: r, ha, hb, h => by
   have ha' := List.pairwise_cons.1 ha
   have hb' := List.pairwise_cons.1 hb
   have e : b = a := by
     have h1 : b ∈ a :: l := h.subset (by simp)
     have h2 : a ∈ b :: r := h.symm.subset (by simp)
     rcases List.mem_cons.1 h1 with h1 | h1
     · exact h1
     rcases List.mem_cons.1 h2 with h2 | h2
     · exact h2.symm
     have := ha'.1 b h1
     have := hb'.1 a h2
     omega
   subst e
   rw [key_unique ha'.2 hb'.2 ((List.perm_cons b).1 h)]
theorem t22 : F22 ((3, 2, 4, [(2, 2), (3, 2)]), 5) = some (2, 4, 0) := (F22_eq _ _ _ _ _).trans (by kernel_rfl)
theorem t57 : F57 (1, 2) = some 0 := by
 unfold F57
 rw [zDV (by kernel_rfl), zDV (by kernel_rfl), zAb (show F82 1 = some 1 by kernel_rfl), zAb (a := 1) ?_]
 · rfl
 · unfold F81
   exact Eq.trans (join_it 5 1 (by kernel_rfl)) rfl
theorem t61a : F61a ([(2, 2), (3, 2)], 2, (), (3, 2, 4, [(2, 2), (3, 2)])) = some 0 := by
 unfold F61a
 have k1 : F59 ((2, 2), (3, 2, 4, [(2, 2), (3, 2)])) = some 0 := by kernel_rfl
 have k2 : F59 ((3, 2), (3, 2, 4, [(2, 2), (3, 2)])) = some 4 := by kernel_rfl
 have hpw : ([(2, 2), (3, 2)] : List Nd).Pairwise fun a b => (F59 (a, (3, 2, 4, [(2, 2), (3, 2)]))).getD 0 < (F59 (b, (3, 2, 4, [(2, 2), (3, 2)]))).getD 0 := by
   simp only [List.pairwise_cons, List.mem_singleton, forall_eq]
   rw [k1, k2]; simp
 have hdom : ∀ n ∈ ([(2, 2), (3, 2)] : List Nd), ∃ k, F59 (n, (3, 2, 4, [(2, 2), (3, 2)])) = some k ∧ keyOk k := fun n hn => by
   simp at hn
   rcases hn with rfl | rfl
   · exact ⟨_, k1, by decide, by decide⟩
   · exact ⟨_, k2, by decide, by decide⟩
 refine callQ_of ⟨[(2, 2), (3, 2)], by simp, by decide, hdom, .refl _, ?_⟩ fun r hr => ?_
 · exact hpw.imp fun {a b} h i j hi hj => by dsimp only at hi hj; rw [hi, hj] at h; simp at h; omega
 · obtain ⟨_, _, _, hp, hs⟩ := hr
   have hp : r.Perm [(2, 2), (3, 2)] := hp
   have : r = [(2, 2), (3, 2)] := key_unique hpw (hs.imp_of_mem fun {a b} ha hb h => by
     obtain ⟨i, hi, _⟩ := hdom a (hp.subset ha)
     obtain ⟨j, hj, _⟩ := hdom b (hp.subset hb)
     rw [hi, hj]; exact h i j hi hj) hp
   subst this
   exact Eq.trans (join_it 5 0 (by kernel_rfl)) rfl
theorem t61b : F61b ([(2, 2), (3, 2)], 2, (), (3, 2, 4, [(2, 2), (3, 2)])) = some 3 := by
 unfold F61b
 have k1 : F60 ((2, 2), (3, 2, 4, [(2, 2), (3, 2)])) = some 3 := by kernel_rfl
 have k2 : F60 ((3, 2), (3, 2, 4, [(2, 2), (3, 2)])) = some 7 := by kernel_rfl
 have hpw : ([(2, 2), (3, 2)] : List Nd).Pairwise fun a b => (F60 (a, (3, 2, 4, [(2, 2), (3, 2)]))).getD 0 < (F60 (b, (3, 2, 4, [(2, 2), (3, 2)]))).getD 0 := by
   simp only [List.pairwise_cons, List.mem_singleton, forall_eq]
   rw [k1, k2]; simp
 have hdom : ∀ n ∈ ([(2, 2), (3, 2)] : List Nd), ∃ k, F60 (n, (3, 2, 4, [(2, 2), (3, 2)])) = some k ∧ keyOk k := fun n hn => by
   simp at hn
   rcases hn with rfl | rfl
   · exact ⟨_, k1, by decide, by decide⟩
   · exact ⟨_, k2, by decide, by decide⟩
 refine callQ_of ⟨[(2, 2), (3, 2)], by simp, by decide, hdom, .refl _, ?_⟩ fun r hr => ?_
 · exact hpw.imp fun {a b} h i j hi hj => by dsimp only at hi hj; rw [hi, hj] at h; simp at h; omega
 · obtain ⟨_, _, _, hp, hs⟩ := hr
   have hp : r.Perm [(2, 2), (3, 2)] := hp
   have : r = [(2, 2), (3, 2)] := key_unique hpw (hs.imp_of_mem fun {a b} ha hb h => by
     obtain ⟨i, hi, _⟩ := hdom a (hp.subset ha)
     obtain ⟨j, hj, _⟩ := hdom b (hp.subset hb)
     rw [hi, hj]; exact h i j hi hj) hp
   subst this
   exact Eq.trans (join_it 5 3 (by kernel_rfl)) rfl
theorem t24 : F24 ((3, 2, 4, [(2, 2), (3, 2)]), 1, 2) = some (0, 3, 0) := by
 unfold F24
 rw [zAb (show F20 (3, 2, 4, [(2, 2), (3, 2)]) = some 0 from (F20_eq _ _ _ _).trans (by kernel_rfl))]
 rw [sel_t (show bnot (ine 0 0) = true by kernel_rfl), zAb t57, zDV (by kernel_rfl), zDV (by kernel_rfl), zDV (by kernel_rfl), zAb (show F58 ((1, 2), 4) = some 2 by kernel_rfl)]
 exact Eq.trans (zAb t61a) (zAb t61b)
theorem t40 : F40 ([(2, 2), (3, 2)], [(2, 2), (3, 2)]) = some true := by
 unfold F40
 rw [zDV (by kernel_rfl)]
 exact Eq.trans (join_it 5 () (by kernel_rfl)) rfl
theorem awake : F12 () = some true := by
 unfold F12
 rw [zAb t39, zAb t18, zAb t22, zAb t24, sel_t (by kernel_rfl), sel_t (by kernel_rfl), zAb t40]
 rfl
end Go.Q
namespace Go.Q
open Go Go.T Go.Pl Go.Proofs Go.Proofs.Qd
variable [Go.Ab.DM]
theorem fold_rk (w : Nat) (v : Int) : ∀ (l : List Nd) (a b : Int), l.foldl (rkG w v) (a, b) = (a + zDI (zDL w v) l, b + zDI (zDJ w v) l)
 | [], a, b => by simp [zDI]
 | n :: l, a, b => by
   rw [List.foldl_cons, show rkG w v (a, b) n = (a + n.2 * zDL w v n.1, b + n.2 * zDJ w v n.1) by
     unfold rkG zDL zDJ
     dsimp only
     congr 1
     · split <;> simp
     · split <;> simp, fold_rk w v l, zAW, zAW, Int.add_assoc, Int.add_assoc]
theorem chk_ok {bits count th : Int} : ∀ {l : List Nd} {before sum : Int}, (∀ n ∈ l, before < n.1 ∧ n.1 < shl 2 bits ∧ 1 ≤ n.2 ∧ n.2 ≤ count ∧ (n.1 < shl 1 bits → n.2 ≤ th)) → Asc l → chk bits count th l before sum = some (sum + (l.map (·.2)).sum)
 | [], before, sum, _, _ => by simp [chk]
 | n :: l, before, sum, h, ha => by
   obtain ⟨h1, h2, h3, h4, h5⟩ := h n (by simp)
   have ha' := List.pairwise_cons.1 ha
   rw [chk, if_neg (by omega), if_neg (by omega), chk_ok (fun m hm => ?_) ha'.2]
   · simp [Int.add_assoc]
   · obtain ⟨_, g⟩ := h m (by simp [hm])
     exact ⟨ha'.1 m hm, g⟩
theorem Cmpd.check {w : Nat} {k count : Int} {nodes r : List Nd} (D : Dig w k count nodes) (C : Cmpd w k count nodes r) : zDB (w : Int) k count r = 0 := by
 have hlen := C.len
 have := D.len; have := D.w1; have := D.w2; have := D.k1; have := D.k2; have := D.c0; have := D.c1
 have p2 := shl_two (bits := (w : Int)) ⟨by omega, by omega⟩
 have p1 := shl_one (bits := (w : Int)) ⟨by omega, by omega⟩
 rw [Int.toNat_natCast] at p1 p2
 unfold zDB
 rw [if_neg (by omega), if_neg (by omega), chk_ok (fun n hn => ?_) C.asc]
 · have hs : (r.map (·.2)).sum = count := by
     have := C.inv.sum
     unfold zDI at this
     simpa using this
   simp only [hs, Int.zero_add]
   rw [if_neg (by simp)]
 · have hk : n.1 ∈ zBP r := List.mem_map_of_mem hn
   have hc := cn_at C.inv.nod hn
   obtain ⟨⟨x, hx, hX⟩, h1, h2⟩ := C.inv.node n.1 hk
   have h3 := C.inv.inner n.1 hk
   rw [hc] at h1 h2 h3
   have hx1 := hX.x1; have hx2 := hX.x2
   refine ⟨by omega, by omega, h1, h2, fun h => h3 (by omega)⟩
theorem F15_same (d : Dg) (h : d.2.2.2.length ≤ 1000000) : F15 (d, d) = some true := by
 obtain ⟨bits, k, count, l⟩ := d
 have h : l.length ≤ 1000000 := h
 unfold F15
 simp only [ine_d, ne_eq, not_true_eq_false, decide_false, pick_or, Bool.or_false]
 rw [zDV rfl]
 refine Eq.trans (join_of _ (iter_for l (fun (_ : Unit) i => i) (fun s a => .inl s) (fun _ => (.inl () : PUnit ⊕ Bool)) (fun _ _ => True) () trivial ?_ ?_)) ?_
 · intro i st hi _
   have hlt : (i : Int) < l.length := by omega
   have hin : inL (i : Int) l.length = true := inL_t hi
   refine ⟨?_, fun _ _ => trivial⟩
   simp only [n2i_c, zCs, i2n_c, hin, zAd, ilt_d, sel_i, hlt, if_true, ieq_t, band_d, Bool.and_self, bnot_d, Bool.not_true]
   rw [zDV rfl, zBT (by omega) (by omega)]; rfl
 · intro st _
   simp only [n2i_c, zCs, ilt_d, sel_i]
   rw [if_neg (by omega)]
 · rw [fold_l]; rfl
end Go.Q
namespace Go.Q
open Go Go.T Go.Pl Go.Proofs Go.Proofs.Qd
variable [Go.Ab.DM]
def ins : List Nd → Int → Int → List Nd
 | [], id, n => [(id, n)]
 | p :: l, id, n => if p.1 < id then p :: ins l id n else if p.1 = id then (id, p.2 + n) :: l else (id, n) :: p :: l
theorem mem_ins {id n : Int} {m : Nd} : ∀ {l : List Nd}, m ∈ ins l id n → m.1 = id ∨ m ∈ l
 | [], h => by simp [ins] at h; subst h; exact .inl rfl
 | p :: l, h => by
   rw [ins] at h
   split at h
   · rcases List.mem_cons.1 h with h | h
     · subst h; exact .inr (by simp)
     · rcases mem_ins h with h | h
       · exact .inl h
       · exact .inr (by simp [h])
   · split at h
     · rcases List.mem_cons.1 h with h | h
       · subst h; exact .inl rfl
       · exact .inr (by simp [h])
     · rcases List.mem_cons.1 h with h | h
       · subst h; exact .inl rfl
       · exact .inr h
theorem ins_asc {id n : Int} : ∀ {l : List Nd}, Asc l → Asc (ins l id n)
 | [], _ => List.pairwise_singleton _ _
 | p :: l, h => by
   have h' := List.pairwise_cons.1 h
   rw [ins]
   split
   · rename_i g
     refine List.pairwise_cons.2 ⟨fun m hm => ?_, ins_asc h'.2⟩
     rcases mem_ins hm with e | e
     · omega
     · exact h'.1 m e
   · split
     · rename_i g1 g2
       exact List.pairwise_cons.2 ⟨fun m hm => by have := h'.1 m hm; dsimp only; omega, h'.2⟩
     · rename_i g1 g2
       refine List.pairwise_cons.2 ⟨fun m hm => ?_, h⟩
       rcases List.mem_cons.1 hm with rfl | e
       · dsimp only; omega
       · have := h'.1 m e; dsimp only; omega
theorem keys_ins {id n j : Int} : ∀ {l : List Nd}, j ∈ zBP (ins l id n) ↔ j = id ∨ j ∈ zBP l
 | [] => by simp [ins, zBP]
 | p :: l => by
   rw [ins]
   split
   · rw [zAk, List.mem_cons, keys_ins, zAk, List.mem_cons]
     exact ⟨fun h => by rcases h with h | h | h <;> simp [h], fun h => by rcases h with h | h | h <;> simp [h]⟩
   · split
     · rename_i g1 g2
       rw [zAk, List.mem_cons, zAk, List.mem_cons, g2]
       exact ⟨fun h => .inr h, fun h => h.elim .inl fun h => h⟩
     · rw [zAk, List.mem_cons]
theorem asc_lt {p : Nd} {l : List Nd} (h : Asc (p :: l)) {j : Int} (hj : j ≤ p.1) : j ∉ zBP l := fun hm => by
 obtain ⟨m, hm', rfl⟩ := List.mem_map.1 hm
 have := (List.pairwise_cons.1 h).1 m hm'
 omega
theorem cn_ins {id n : Int} (j : Int) : ∀ {l : List Nd}, Asc l → cn (ins l id n) j = cn l j + if j = id then n else 0
 | [], _ => by
   unfold cn
   rw [ins, get_nil]
   by_cases h : j = id
   · subst h; rw [zCi, if_pos rfl]; omega
   · rw [zCI 0 h, get_nil, if_neg h]; rfl
 | p :: l, h => by
   have h' := List.pairwise_cons.1 h
   obtain ⟨a, c⟩ := p
   unfold cn at *
   rw [ins]
   dsimp only
   split
   · rename_i g
     by_cases e : j = a
     · subst e; rw [zCi, zCi, if_neg (by omega)]; omega
     · rw [zCI 0 e, zCI 0 e]; exact cn_ins j h'.2
   · split
     · rename_i g1 g2
       subst g2
       by_cases e : j = a
       · subst e; rw [zCi, zCi, if_pos rfl]
       · rw [zCI 0 e, zCI 0 e, if_neg e]; omega
     · rename_i g1 g2
       by_cases e : j = id
       · subst e
         rw [zCi, zCI 0 (fun e => g2 e.symm), get_out 0 (asc_lt h (by dsimp only; omega)), if_pos rfl]; omega
       · rw [zCI 0 e, if_neg e]; omega
theorem wsum_ins (g : Int → Int) {id n : Int} : ∀ {l : List Nd}, zDI g (ins l id n) = zDI g l + n * g id
 | [] => by rw [ins, zAW, wsum_nil]; dsimp only; omega
 | p :: l => by
   rw [ins]
   split
   · rw [zAW, zAW, wsum_ins g]; omega
   · split
     · rename_i g1 g2
       rw [zAW, zAW, g2]; dsimp only; rw [Int.add_mul]; omega
     · rw [zAW]; dsimp only; omega
theorem len_ins {id n : Int} : ∀ {l : List Nd}, l.length ≤ (ins l id n).length ∧ (ins l id n).length ≤ l.length + 1
 | [] => by simp [ins]
 | p :: l => by
   have := len_ins (id := id) (n := n) (l := l)
   rw [ins]
   split
   · simp; omega
   · split <;> simp
theorem fnd_cons (p : Nd) (l : List Nd) (t : Int) : fnd (p :: l) t = (p.1 == t || fnd l t) := rfl
theorem fnd_iff (l : List Nd) (t : Int) : fnd l t = true ↔ t ∈ zBP l := by
 simp [fnd, zBP]
theorem lb_cons_lt {p : Nd} {l : List Nd} {t : Int} (h : p.1 < t) : lb (p :: l) t = lb l t + 1 := by
 unfold lb; rw [List.takeWhile_cons_of_pos (by simpa using h)]; rfl
theorem lb_cons_ge {p : Nd} {l : List Nd} {t : Int} (h : ¬ p.1 < t) : lb (p :: l) t = 0 := by
 unfold lb; rw [List.takeWhile_cons_of_neg (by simpa using h)]; rfl
theorem ins_bump {id n : Int} : ∀ {l : List Nd}, fnd l id = true → Asc l → bump l (lb l id) n = ins l id n ∧ (ins l id n).length = l.length
 | [], h, _ => by cases h
 | p :: l, h, ha => by
   rw [ins]
   by_cases g : p.1 < id
   · rw [lb_cons_lt g, if_pos g]
     rw [fnd_cons, Bool.or_eq_true, beq_iff_eq] at h
     obtain ⟨i1, i2⟩ := ins_bump (n := n) (h.resolve_left (by omega)) (List.pairwise_cons.1 ha).2
     refine ⟨?_, by simp [i2]⟩
     rw [← i1]; rfl
   · rw [lb_cons_ge g, if_neg g]
     by_cases e : p.1 = id
     · rw [if_pos e, ← e]; exact ⟨rfl, rfl⟩
     · exact absurd ((fnd_iff _ _).1 h) (fun hm => by
         rw [zAk, List.mem_cons] at hm
         exact asc_lt ha (by omega) (hm.resolve_left (Ne.symm e)))
theorem ins_new {id n : Int} : ∀ {l : List Nd}, fnd l id = false → insL l (lb l id) (id, n) = ins l id n ∧ (ins l id n).length = l.length + 1
 | [], _ => ⟨rfl, rfl⟩
 | p :: l, h => by
   rw [fnd_cons, Bool.or_eq_false_iff] at h
   have hne : p.1 ≠ id := by simpa using h.1
   rw [ins]
   by_cases g : p.1 < id
   · rw [lb_cons_lt g, if_pos g]
     obtain ⟨i1, i2⟩ := ins_new (n := n) h.2
     refine ⟨?_, by simp [i2]⟩
     rw [← i1]; rfl
   · rw [lb_cons_ge g, if_neg g, if_neg hne]
     exact ⟨rfl, rfl⟩
theorem wsum1 (l : List Nd) : zDI (fun _ => 1) l = (l.map (·.2)).sum := by unfold zDI; simp
theorem Dig.check {w : Nat} {k count : Int} {r : List Nd} (D : Dig w k count r) : zDB (w : Int) k count r = 0 := by
 have := D.len; have := D.w1; have := D.w2; have := D.k1; have := D.k2; have := D.c0; have := D.c1
 have p2 := shl_two (bits := (w : Int)) ⟨by omega, by omega⟩
 have p1 := shl_one (bits := (w : Int)) ⟨by omega, by omega⟩
 rw [Int.toNat_natCast] at p1 p2
 unfold zDB
 rw [if_neg (by omega), if_neg (by omega), chk_ok (fun n hn => ?_) D.asc]
 · simp only [D.sum, Int.zero_add]
   rw [if_neg (by simp)]
 · obtain ⟨⟨x, hx, hX⟩, h1, h2⟩ := D.node n hn
   have h3 := D.inner n hn
   have hx1 := hX.x1; have hx2 := hX.x2
   exact ⟨by omega, by omega, h1, h2, fun h => h3 (by omega)⟩
theorem Dig.of_cn {w : Nat} {k count : Int} {r : List Nd} (hw : 1 ≤ w ∧ w ≤ 20) (hk : 1 ≤ k ∧ k ≤ 10000) (hc : 0 ≤ count ∧ count ≤ 1099511627776) (hl : r.length ≤ 2000) (ha : Asc r)
   (hn : ∀ id ∈ zBP r, (∃ x : Nat, id = x ∧ Nod w x) ∧ 1 ≤ cn r id ∧ cn r id ≤ count) (hi : ∀ id ∈ zBP r, id < ((2 ^ w : Nat) : Int) → cn r id ≤ thr count k) (hs : zDI (fun _ => 1) r = count) : Dig w k count r := by
 refine ⟨hw.1, hw.2, hk.1, hk.2, hc.1, hc.2, hl, fun n h => ?_, fun n h => ?_, ha, ?_⟩
 · have := hn n.1 (List.mem_map_of_mem h)
   rw [cn_at (asc_nodup ha) h] at this; exact this
 · have := hi n.1 (List.mem_map_of_mem h)
   rw [cn_at (asc_nodup ha) h] at this; exact this
 · rw [← wsum1]; exact hs
theorem Cmpd.dig {w : Nat} {k count : Int} {nodes r : List Nd} (D : Dig w k count nodes) (C : Cmpd w k count nodes r) : Dig w k count r :=
 .of_cn ⟨D.w1, D.w2⟩ ⟨D.k1, D.k2⟩ ⟨D.c0, D.c1⟩ (Nat.le_trans C.len D.len) C.asc C.inv.node C.inv.inner C.inv.sum
theorem thr_mono {a b k : Int} (ha : 0 ≤ a) (hab : a ≤ b) (hb : b ≤ 1099511627776) (hk : 1 ≤ k) : thr a k ≤ thr b k := by
 rw [(thr_le ⟨ha, by omega⟩ hk).1, (thr_le ⟨by omega, hb⟩ hk).1]
 exact Int.ediv_le_ediv (by omega) hab
theorem Dig.add {w : Nat} {k count v n : Int} {nodes : List Nd} (D : Dig w k count nodes) (hv : 0 ≤ v ∧ v < ((2 ^ w : Nat) : Int)) (hn : 1 ≤ n) (hc : count + n ≤ 1099511627776) (hl : (ins nodes (((2 ^ w : Nat) : Int) + v) n).length ≤ 2000) : Dig w k (count + n) (ins nodes (((2 ^ w : Nat) : Int) + v) n) := by
 have c0 := D.c0
 refine .of_cn ⟨D.w1, D.w2⟩ ⟨D.k1, D.k2⟩ ⟨by omega, hc⟩ hl (ins_asc D.asc) (fun id h => ?_) (fun id h hlt => ?_) ?_
 · have hcn := D.inv.cn0 id
   rw [cn_ins id D.asc]
   rcases keys_ins.1 h with rfl | h
   · have hp : 2 ^ (w + 1) = 2 * 2 ^ w := by rw [Nat.pow_succ]; omega
     rw [if_pos rfl]
     exact ⟨⟨2 ^ w + v.toNat, by omega, ⟨D.w1, D.w2, by have := Nat.two_pow_pos w; omega, by omega⟩⟩, by omega, by omega⟩
   · obtain ⟨hN, _⟩ := D.inv.node id h
     have := hcn.2.1 h
     refine ⟨hN, ?_⟩
     split <;> omega
 · rcases keys_ins.1 h with rfl | h
   · omega
   · rw [cn_ins id D.asc, if_neg (by omega)]
     have := D.inv.inner id h hlt
     have := thr_mono c0 (show count ≤ count + n by omega) hc D.k1
     omega
 · rw [wsum_ins, D.inv.sum]; omega
theorem F16_eq {bits k count : Int} {nodes : List Nd} {v n : Int} (hl : nodes.length ≤ 100000000) (hv : inI v) (hn : inI n) : F16 ((bits, k, count, nodes), v, n) = some (if zDB bits k count nodes ≠ 0 then (zDg, 1) else if v < 0 ∨ shl 1 bits ≤ v ∨ n < 1 then (zDg, 2) else if 1099511627776 - count < n then (zDg, 4) else if 2000 < (ins nodes (shl 1 bits + v) n).length then (zDg, 4) else ((bits, k, count + n, ins nodes (shl 1 bits + v) n), 0)) := by
 unfold F16
 rw [if_pos ⟨hl, hv, hn⟩]
 congr 1
 dsimp only
 unfold qaddT
 by_cases h0 : zDB bits k count nodes ≠ 0
 · rw [if_pos h0, if_pos h0]
 rw [if_neg h0, if_neg h0]
 obtain ⟨hb, D⟩ := dig_of (by omega : zDB bits k count nodes = 0)
 have hlen := D.len
 split
 · rfl
 split
 · rfl
 by_cases hf : fnd nodes (shl 1 bits + v) = true
 · obtain ⟨i1, i2⟩ := ins_bump (n := n) hf D.asc
   rw [if_pos hf, i1, if_neg (by omega)]
 · obtain ⟨i1, i2⟩ := ins_new (n := n) (Bool.eq_false_iff.2 hf)
   rw [if_neg hf, i1]
   by_cases h2 : 2000 ≤ nodes.length
   · rw [if_pos h2, if_pos (by omega)]
   · rw [if_neg h2, if_neg (by omega)]
end Go.Q
namespace Go.Q
open Go Go.T Go.Pl Go.Proofs Go.Proofs.Qd
variable [Go.Ab.DM]
def rnk (all : List Int) (v : Int) : Int := (all.map fun x => if x ≤ v then (1 : Int) else 0).sum
theorem rnk_add (all : List Int) (x v : Int) : rnk (all ++ [x]) v = rnk all v + if x ≤ v then 1 else 0 := by
 unfold rnk; simp
theorem rnk_app (a b : List Int) (v : Int) : rnk (a ++ b) v = rnk a v + rnk b v := by
 unfold rnk; simp
theorem F63_eq (all : List Int) (v : Int) (h : all.length ≤ 1000000) : F63 (all, v) = some (rnk all v) := by
 unfold F63
 refine Eq.trans (join_of _ (iter_for all (fun st i => (st, i)) (fun (s a : Int) => .inl (if a ≤ v then s + 1 else s)) (fun st => .inl st) (fun i st => 0 ≤ st ∧ st ≤ (i : Int)) (0 : Int) (by simp) ?_ ?_)) ?_
 · intro i st hi hI
   have hlt : (i : Int) < all.length := by omega
   have hin : inL (i : Int) all.length = true := inL_t hi
   have hg : zAz 0 all i = all[i] := lget_t hi
   simp only [n2i_c, zCs, i2n_c, hg, hin, zAd, ilt_d, ile_d, sel_i, hlt, if_true]
   generalize all[i] = a
   by_cases c : a ≤ v
   · rw [if_pos c, if_pos c, zBT (by omega) (by omega), join_bl, zBT (by omega) (by omega)]
     exact ⟨rfl, fun st' h => by have := Sum.inl.inj h; subst this; omega⟩
   · rw [if_neg c, if_neg c, join_bl, zBT (by omega) (by omega)]
     exact ⟨rfl, fun st' h => by have := Sum.inl.inj h; subst this; omega⟩
 · intro st hI
   simp only [n2i_c, zCs, ilt_d, sel_i]
   rw [if_neg (by omega)]
 · rw [fold_l]
   have : ∀ (l : List Int) (s : Int), l.foldl (fun (s a : Int) => if a ≤ v then s + 1 else s) s = s + rnk l v := by
     intro l
     induction l with
     | nil => intro s; simp [rnk]
     | cons a l ih =>
       intro s
       rw [List.foldl_cons, ih]
       unfold rnk
       rw [List.map_cons, List.sum_cons]
       split <;> omega
   rw [this]; simp
theorem wsum_le {g h : Int → Int} : ∀ {M : KV Int}, (∀ p ∈ M, 0 ≤ p.2 ∧ g p.1 ≤ h p.1) → zDI g M ≤ zDI h M
 | [], _ => Int.le_refl _
 | p :: M, H => by
   obtain ⟨a, b⟩ := H p (by simp)
   have := Int.mul_le_mul_of_nonneg_left b a
   have := wsum_le (g := g) (h := h) (M := M) fun q hq => H q (by simp [hq])
   rw [zAW, zAW]; omega
theorem wsum_plus (g h : Int → Int) : ∀ (M : KV Int), zDI (fun x => g x + h x) M = zDI g M + zDI h M
 | [] => rfl
 | p :: M => by rw [zAW, zAW, zAW, wsum_plus g h M, Int.mul_add]; omega
theorem wsum_zero : ∀ (M : KV Int), zDI (fun _ => 0) M = 0
 | [] => rfl
 | p :: M => by rw [zAW, wsum_zero M]; simp
theorem wsum_at (a : Int) : ∀ {M : KV Int}, (zBP M).Nodup → zDI (fun x => if x = a then 1 else 0) M = cn M a
 | [], _ => rfl
 | (j, x) :: M, h => by
   rw [zAk, List.nodup_cons] at h
   rw [zAW, wsum_at a h.2]
   unfold cn
   by_cases e : a = j
   · subst e
     rw [zCi, if_pos rfl, get_out 0 h.1]; simp
   · rw [zCI 0 e, if_neg (fun e' => e e'.symm)]; simp
def anc (w : Nat) (v : Int) (s : Nat) : Int := (((2 ^ w + v.toNat) / 2 ^ s : Nat) : Int)
def ancs (w : Nat) (v : Int) : Nat → Int → Int
 | 0, _ => 0
 | n + 1, id => ancs w v n id + if id = anc w v (n + 1) then 1 else 0
theorem ancs_nn (w : Nat) (v id : Int) : ∀ n, 0 ≤ ancs w v n id
 | 0 => Int.le_refl _
 | n + 1 => by have := ancs_nn w v id n; rw [ancs]; split <;> omega
theorem ancs_ge {w : Nat} {v id : Int} {s : Nat} (hs : 1 ≤ s) (h : id = anc w v s) : ∀ {n}, s ≤ n → 1 ≤ ancs w v n id
 | 0, h' => by omega
 | n + 1, h' => by
   rw [ancs]
   by_cases e : s = n + 1
   · subst e; rw [if_pos h]; have := ancs_nn w v id n; omega
   · have := ancs_ge hs h (n := n) (by omega)
     split <;> omega
theorem ind_anc {w x : Nat} {v : Int} (h : Nod w x) (hv : 0 ≤ v) : zDJ w v x ≤ zDL w v x + ancs w v w x := by
 have h0 := ancs_nn w v x w
 unfold zDJ zDL
 rw [Int.toNat_natCast]
 by_cases h1 : LO w x ≤ v
 · rw [if_pos h1]
   by_cases h2 : HI w x ≤ v
   · rw [if_pos h2]; omega
   · rw [if_neg h2]
     unfold LO HI at *
     obtain ⟨b1, b2, b3⟩ := h.bounds
     have hs : 1 ≤ sh w x := by
       rcases Nat.eq_zero_or_pos (sh w x) with e | e
       · rw [e] at h1 h2; simp at h1 h2; omega
       · exact e
     have : (x : Int) = anc w v (sh w x) := by
       unfold anc
       congr 1
       symm
       rw [Nat.div_eq_iff (Nat.two_pow_pos _)]
       have e : (x + 1) * 2 ^ sh w x = x * 2 ^ sh w x + 2 ^ sh w x := Nat.succ_mul _ _
       have e2 : x * 2 ^ sh w x = 2 ^ sh w x * x := Nat.mul_comm _ _
       omega
     have := ancs_ge hs this b3
     omega
 · rw [if_neg h1]
   split <;> omega
theorem Dig.width {w : Nat} {k count v : Int} {nodes : List Nd} (D : Dig w k count nodes) (hv : 0 ≤ v ∧ v < ((2 ^ w : Nat) : Int)) : zDI (zDJ w v) nodes ≤ zDI (zDL w v) nodes + w * thr count k := by
 have h1 : zDI (zDJ w v) nodes ≤ zDI (fun x => zDL w v x + ancs w v w x) nodes := wsum_le fun p hp => by
   obtain ⟨⟨x, hx, hX⟩, h1, _⟩ := D.node p hp
   rw [hx]
   exact ⟨by omega, ind_anc hX hv.1⟩
 rw [wsum_plus] at h1
 have th0 := (thr_le ⟨D.c0, D.c1⟩ D.k1).2.1
 have hcn : ∀ s, 1 ≤ s → cn nodes (anc w v s) ≤ thr count k := fun s hs => by
   by_cases hk : anc w v s ∈ zBP nodes
   · refine D.inv.inner _ hk ?_
     have : (2 ^ w + v.toNat) / 2 ^ s < 2 ^ w := by
       rw [Nat.div_lt_iff_lt_mul (Nat.two_pow_pos _)]
       have : 2 ^ w * 2 ≤ 2 ^ w * 2 ^ s := Nat.mul_le_mul_left _ (by
         calc 2 = 2 ^ 1 := rfl
           _ ≤ 2 ^ s := Nat.pow_le_pow_right (by decide) hs)
       omega
     unfold anc; omega
   · rw [show cn nodes (anc w v s) = 0 from get_out 0 hk]; exact th0
 have h2 : ∀ n : Nat, zDI (ancs w v n) nodes ≤ n * thr count k := by
   intro n
   induction n with
   | zero => rw [show ancs w v 0 = fun _ => 0 from rfl, wsum_zero]; simp
   | succ n ih =>
     rw [show ancs w v (n + 1) = fun x => ancs w v n x + (if x = anc w v (n + 1) then 1 else 0) from rfl, wsum_plus, wsum_at _ D.inv.nod]
     have := hcn (n + 1) (by omega)
     have e : ((n + 1 : Nat) : Int) * thr count k = n * thr count k + thr count k := by push_cast; rw [Int.add_mul, Int.one_mul]
     omega
 have := h2 w
 omega
structure Tru (w : Nat) (k : Int) (nodes : List Nd) (all : List Int) : Prop where
 dig : Dig w k all.length nodes
 lo : ∀ v, zDI (zDL w v) nodes ≤ rnk all v
 hi : ∀ v, rnk all v ≤ zDI (zDJ w v) nodes
theorem Tru.cmp {w : Nat} {k : Int} {nodes r : List Nd} {all : List Int} (T : Tru w k nodes all) (C : Cmpd w k all.length nodes r) : Tru w k r all :=
 ⟨C.dig T.dig, fun v => Int.le_trans (C.inv.lo v) (T.lo v), fun v => Int.le_trans (T.hi v) (C.inv.hi v)⟩
theorem leaf_ind {w : Nat} {v x : Int} (hw : 1 ≤ w ∧ w ≤ 20) (hx : 0 ≤ x ∧ x < ((2 ^ w : Nat) : Int)) : zDL w v (((2 ^ w : Nat) : Int) + x) = (if x ≤ v then 1 else 0) ∧ zDJ w v (((2 ^ w : Nat) : Int) + x) = (if x ≤ v then 1 else 0) := by
 have hp : 2 ^ (w + 1) = 2 * 2 ^ w := by rw [Nat.pow_succ]; omega
 have e : (((2 ^ w : Nat) : Int) + x).toNat = 2 ^ w + x.toNat := by omega
 have hb : blen (2 ^ w + x.toNat) = w + 1 := blen_of (by omega) (by omega)
 have hs : sh w (2 ^ w + x.toNat) = 0 := by unfold sh; omega
 unfold zDL zDJ HI LO
 rw [e, hs]
 simp only [Nat.pow_zero, Nat.mul_one]
 constructor
 · split <;> split <;> omega
 · split <;> split <;> omega
theorem Tru.add {w : Nat} {k x : Int} {nodes : List Nd} {all : List Int} (T : Tru w k nodes all) (hx : 0 ≤ x ∧ x < ((2 ^ w : Nat) : Int)) (hl : all.length < 1000) : Tru w k (ins nodes (((2 ^ w : Nat) : Int) + x) 1) (all ++ [x]) ∧ (ins nodes (((2 ^ w : Nat) : Int) + x) 1).length ≤ 2000 := by
 have D := T.dig
 have h1 : (nodes.length : Int) ≤ all.length := by
   have := D.inv.sum
   have h : zDI (fun _ => 1) nodes = all.length := this
   rw [← h]
   have : ∀ M : KV Int, (∀ p ∈ M, 1 ≤ p.2) → (M.length : Int) ≤ zDI (fun _ => 1) M := by
     intro M
     induction M with
     | nil => intro _; simp [zDI]
     | cons p M ih =>
       intro H
       have := ih fun q hq => H q (by simp [hq])
       have := H p (by simp)
       rw [zAW, List.length_cons]; push_cast; omega
   exact this nodes fun p hp => (D.node p hp).2.1
 have h2 := len_ins (id := ((2 ^ w : Nat) : Int) + x) (n := 1) (l := nodes)
 have e : (((all ++ [x]).length : Nat) : Int) = all.length + 1 := by simp
 refine ⟨⟨?_, fun v => ?_, fun v => ?_⟩, by omega⟩
 · rw [e]; exact D.add hx (by omega) (by omega) (by omega)
 · rw [wsum_ins, rnk_add, (leaf_ind ⟨D.w1, D.w2⟩ hx).1]
   have := T.lo v; omega
 · rw [wsum_ins, rnk_add, (leaf_ind ⟨D.w1, D.w2⟩ hx).2]
   have := T.hi v; omega
theorem ind_01 (w : Nat) (v id : Int) : (0 ≤ zDL w v id ∧ zDL w v id ≤ 1) ∧ (0 ≤ zDJ w v id ∧ zDJ w v id ≤ 1) := by
 unfold zDL zDJ
 constructor
 · split <;> omega
 · split <;> omega
theorem Dig.rank {w : Nat} {k count : Int} {nodes : List Nd} (D : Dig w k count nodes) (v : Int) : (0 ≤ zDI (zDL w v) nodes ∧ zDI (zDL w v) nodes ≤ count) ∧ (0 ≤ zDI (zDJ w v) nodes ∧ zDI (zDJ w v) nodes ≤ count) := by
 have hs := D.inv.sum
 have hp : ∀ p ∈ nodes, 0 ≤ p.2 := fun p hp => by have := (D.node p hp).2.1; omega
 have z := wsum_zero nodes
 have a1 := wsum_le (g := fun _ => 0) (h := zDL w v) (M := nodes) fun p h => ⟨hp p h, (ind_01 w v p.1).1.1⟩
 have a2 := wsum_le (g := zDL w v) (h := fun _ => 1) (M := nodes) fun p h => ⟨hp p h, (ind_01 w v p.1).1.2⟩
 have a3 := wsum_le (g := fun _ => 0) (h := zDJ w v) (M := nodes) fun p h => ⟨hp p h, (ind_01 w v p.1).2.1⟩
 have a4 := wsum_le (g := zDJ w v) (h := fun _ => 1) (M := nodes) fun p h => ⟨hp p h, (ind_01 w v p.1).2.2⟩
 omega
theorem Dig.rankT {w : Nat} {k count v : Int} {nodes : List Nd} (D : Dig w k count nodes) (hv : 0 ≤ v ∧ v < ((2 ^ w : Nat) : Int)) : Q.rankT (w : Int) k count nodes v = (zDI (zDL w v) nodes, zDI (zDJ w v) nodes, 0) := by
 unfold Q.rankT
 rw [if_neg (by rw [D.check]; simp), ← ishl_shl, ishl_1 w D.w2, if_neg (by omega), Int.toNat_natCast, fold_rk]; simp
theorem F28_tru {w : Nat} {k : Int} {nodes : List Nd} {all : List Int} (T : Tru w k nodes all) (hw : w ≤ 8) (hl : all.length ≤ 1000000) : F28 (((w : Int), k, (all.length : Int), nodes), all) = some true := by
 have D := T.dig
 have hk1 := D.k1
 unfold F28
 dsimp only
 have e0 : ine (all.length : Int) (n2i (zAj all)) = false := by rw [n2i_c, zCs, ine_d]; simp
 rw [e0, sel_t (show bnot false = true from rfl), zAb (F20_eq _ _ _ _), D.check, zDV (show zAJ false true (ine 0 0) = false from rfl)]
 have e1 : imax (w : Int) 0 = w := by unfold imax; rw [if_neg (by simp)]
 have e2 : imin (w : Int) 8 = w := by unfold imin; rw [if_neg (by simp; omega)]
 rw [e1, e2, zAd (by rw [ile_d]; simp), ishl_1 w D.w2]
 have p8 : 2 ^ w ≤ 256 := Nat.le_trans (Nat.pow_le_pow_right (by decide) hw) (by decide)
 have e3 : imin ((2 ^ w : Nat) : Int) 256 = ((2 ^ w : Nat) : Int) := by unfold imin; rw [if_neg (by simp only [decide_eq_true_eq]; omega)]
 rw [e3]
 refine Eq.trans (join_of _ (iter_for (List.range (2 ^ w)) (fun (_ : Unit) i => i) (fun s a => .inl s) (fun _ => (.inl () : PUnit ⊕ Bool)) (fun _ _ => True) () trivial ?_ ?_)) ?_
 · intro i st hi _
   rw [List.length_range] at hi
   have hlt : (i : Int) < ((2 ^ w : Nat) : Int) := by omega
   refine ⟨?_, fun _ _ => trivial⟩
   rw [ilt_d, sel_i, if_pos hlt, zAb (F22_eq _ _ _ _ _), D.rankT ⟨by omega, hlt⟩, zAb (F63_eq all _ hl)]
   have h1 := T.lo i; have h2 := T.hi i; have h3 := D.width (v := i) ⟨by omega, hlt⟩
   obtain ⟨⟨r1, r2⟩, r3, r4⟩ := D.rank i
   obtain ⟨_, t1, t2⟩ := thr_le ⟨D.c0, D.c1⟩ D.k1
   have hc1 := D.c1
   have hwt : (w : Int) * thr all.length k ≤ 20 * 1099511627776 := by
     have : (w : Int) * thr all.length k ≤ 20 * thr all.length k := Int.mul_le_mul_of_nonneg_right (by omega) t1
     omega
   have hwt0 : 0 ≤ (w : Int) * thr all.length k := Int.mul_nonneg (by omega) t1
   dsimp only
   rw [zAd (impl_t fun _ => by rw [ine_d]; simp; omega), iquo_thr]
   have e4 : zCA .i64 (w : Int) (thr all.length k) = w * thr all.length k := zAs (by omega) (by omega)
   have e5 : isub .i64 (zDI (zDJ w i) nodes) (zDI (zDL w i) nodes) = zDI (zDJ w i) nodes - zDI (zDL w i) nodes := isub_s (by omega) (by omega)
   rw [e4, e5, zDV, zBT (by omega) (by omega)]
   · rfl
   · simp only [pick_or, ilt_d, ine_d, Bool.or_eq_false_iff, decide_eq_false_iff_not]
     exact ⟨⟨⟨⟨by simp, by omega⟩, by omega⟩, by omega⟩, by omega⟩
 · intro st _
   rw [List.length_range, ilt_d, sel_i, if_neg (by omega)]
 · rw [fold_l]; rfl
theorem F27_tru {w : Nat} {k : Int} (hw : 1 ≤ w ∧ w ≤ 8) (hk : 1 ≤ k ∧ k ≤ 8) (l : List (Int × Bool)) (hl : l.length ≤ 30) (hv : ∀ s ∈ l, 0 ≤ s.1 ∧ s.1 < 256) :
   ∃ y, F27 ((w : Int), k, l) = some y ∧ ∃ nodes all, y = (((w : Int), k, (all.length : Int), nodes), all, true) ∧ Tru w k nodes all ∧ all.length = l.length ∧ ∀ x ∈ all, 0 ≤ x ∧ x < ((2 ^ w : Nat) : Int) := by
 have hp := Nat.two_pow_pos w
 have p8 : 2 ^ w ≤ 256 := Nat.le_trans (Nat.pow_le_pow_right (by decide) hw.2) (by decide)
 unfold F27
 dsimp only
 have e13 : F13 ((w : Int), k) = some (((w : Int), k, 0, []), 0) := by
   unfold F13
   simp only [pick_or, ilt_d, ← Bool.decide_or, sel_i]
   rw [if_neg (by omega)]
 rw [zAb e13, zDV (by rw [pick_or, ine_d, n2i_c, zCs, ilt_d]; simp; omega)]
 refine join_to l.length (fun i s => ∃ nodes all, s = ((i : Int), ((w : Int), k, (all.length : Int), nodes), all) ∧ Tru w k nodes all ∧ all.length = i ∧ ∀ x ∈ all, 0 ≤ x ∧ x < ((2 ^ w : Nat) : Int)) ?_ ?_ ?_
 · refine ⟨[], [], rfl, ⟨⟨hw.1, by omega, hk.1, by omega, by simp, by simp, by simp, by simp, by simp, List.Pairwise.nil, rfl⟩, fun v => by simp [zDI, rnk], fun v => by simp [zDI, rnk]⟩, rfl, by simp⟩
 · rintro i _ hi ⟨nodes, all, rfl, T, ha, hall⟩
   have hlt : (i : Int) < l.length := by omega
   have hin : inL (i : Int) l.length = true := inL_t hi
   have hg : zAz (0, false) l i = l[i] := lget_t hi
   have hsv := hv l[i] (List.getElem_mem hi)
   simp only [n2i_c, zCs, i2n_c, hg, hin, zAd, ilt_d, sel_i, hlt, if_true]
   generalize l[i] = s at hsv ⊢
   obtain ⟨sv, sc⟩ := s
   dsimp only at hsv ⊢
   have e1 : zAe .i64 sv = sv := zAs (by omega) (by omega)
   have e2 : irem sv ((2 ^ w : Nat) : Int) = sv % ((2 ^ w : Nat) : Int) := by unfold irem; exact Int.tmod_eq_emod_of_nonneg hsv.1
   rw [zAd (by rw [ile_d]; simp), ishl_1 w (by omega), zAd (by rw [ine_d]; exact decide_eq_true (by omega)), e1, e2]
   have hx : 0 ≤ sv % ((2 ^ w : Nat) : Int) ∧ sv % ((2 ^ w : Nat) : Int) < ((2 ^ w : Nat) : Int) := ⟨Int.emod_nonneg _ (by omega), Int.emod_lt_of_pos _ (by omega)⟩
   generalize sv % ((2 ^ w : Nat) : Int) = x at hx ⊢
   obtain ⟨T1, hl1⟩ := T.add hx (by omega)
   have D := T.dig
   have hlen := D.len
   rw [zAd (by simp [room, nadd]; omega), zAb (F16_eq (by omega) ⟨by omega, by omega⟩ ⟨by decide, by decide⟩), D.check, if_neg (by simp), ← ishl_shl, ishl_1 w (by omega), if_neg (by omega), if_neg (by omega), if_neg (by omega)]
   dsimp only
   rw [zDV (show ine 0 0 = false from rfl), zBT (by omega) (by omega)]
   have e3 : (((all ++ [x]).length : Nat) : Int) = all.length + 1 := by simp
   have hall' : ∀ y ∈ all ++ [x], 0 ≤ y ∧ y < ((2 ^ w : Nat) : Int) := fun y hy => by
     rcases List.mem_append.1 hy with h | h
     · exact hall y h
     · simp at h; subst h; exact hx
   cases sc with
   | false =>
     rw [zDV rfl]
     refine ⟨_, rfl, _, _, ?_, T1, by simp [ha], hall'⟩
     rw [e3]; rfl
   | true =>
     rw [sel_t rfl, ← e3]
     obtain ⟨r, hr, C⟩ := F18_good T1.dig.check
     rw [Int.toNat_natCast] at C
     rw [zAb hr, zDV (show ine 0 0 = false from rfl)]
     exact ⟨_, rfl, _, _, rfl, T1.cmp C, by simp [ha], hall'⟩
 · rintro _ ⟨nodes, all, rfl, T, ha, hall⟩
   refine ⟨(((w : Int), k, (all.length : Int), nodes), all), ?_, _, rfl, nodes, all, rfl, T, ha, hall⟩
   simp only [n2i_c, zCs, ilt_d, sel_i]
   rw [if_neg (by omega)]
theorem F26_eq {n : Int} (h : 0 ≤ n ∧ n < 256) : ∃ (w : Nat) (k : Int), F26 n = some ((w : Int), k) ∧ (1 ≤ w ∧ w ≤ 8) ∧ 1 ≤ k ∧ k ≤ 8 := by
 have e1 : zAe .i64 n = n := zAs (by omega) (by omega)
 have e2 : irem n 8 = n % 8 := by unfold irem; exact Int.tmod_eq_emod_of_nonneg h.1
 have e3 : iquo .i64 n 8 = n / 8 := by
   have e : n.tdiv 8 = n / 8 := Int.tdiv_eq_ediv_of_nonneg h.1
   unfold iquo; rw [e]; exact zAs (by omega) (by omega)
 have e4 : irem (n / 8) 8 = n / 8 % 8 := by unfold irem; exact Int.tmod_eq_emod_of_nonneg (by omega)
 refine ⟨(1 + n % 8).toNat, 1 + n / 8 % 8, ?_, by omega, by omega⟩
 unfold F26
 rw [zAd (show ine 8 0 = true from rfl), zAd (show ine 8 0 = true from rfl), zAd (show ine 8 0 = true from rfl), e1, e2, e3, e4, zBT (by omega) (by omega), zBT (by omega) (by omega)]
 congr 2
 omega
end Go.Q
namespace Go.Q
open Go Go.T Go.Pl Go.Proofs Go.Proofs.Qd
variable [Go.Ab.DM]
section
variable {w : Nat} {k count : Int} {nodes nd0 l M : List Nd}
theorem perm_get {M M' : KV Int} (h1 : (zBP M).Nodup) (h2 : (zBP M').Nodup) (hk : ∀ j, j ∈ zBP M ↔ j ∈ zBP M') (hc : ∀ j, cn M j = cn M' j) : M.Perm M' := by
 have nd : ∀ {M : KV Int}, (zBP M).Nodup → M.Nodup := fun {M} h => by
   unfold zBP at h
   rw [List.Nodup, List.pairwise_map] at h
   exact h.imp fun hab e => hab (by rw [e])
 rw [List.perm_ext_iff_of_nodup (nd h1) (nd h2)]
 rintro ⟨j, c⟩
 rw [mem_get 0 h1, mem_get 0 h2, hk j]
 have := hc j
 unfold cn at this
 rw [this]
end
end Go.Q
namespace Go.Q
open Go Go.T Go.Pl Go.Proofs Go.Proofs.Qd
variable [Go.Ab.DM]
def mg : List Nd → List Nd → List Nd
 | [], b => b
 | p :: a, [] => p :: a
 | p :: a, q :: b => if p.1 < q.1 then p :: mg a (q :: b) else if q.1 < p.1 then q :: mg (p :: a) b else (p.1, p.2 + q.2) :: mg a b
termination_by a b => a.length + b.length
theorem mg_nil : ∀ a, mg a [] = a
 | [] => by rw [mg]
 | p :: a => by rw [mg]
theorem mg_lt {p q : Nd} {a b : List Nd} (h : p.1 < q.1) : mg (p :: a) (q :: b) = p :: mg a (q :: b) := by rw [mg, if_pos h]
theorem mg_gt {p q : Nd} {a b : List Nd} (h : q.1 < p.1) : mg (p :: a) (q :: b) = q :: mg (p :: a) b := by rw [mg, if_neg (by omega), if_pos h]
theorem mg_eq {p q : Nd} {a b : List Nd} (h1 : ¬ p.1 < q.1) (h2 : ¬ q.1 < p.1) : mg (p :: a) (q :: b) = (p.1, p.2 + q.2) :: mg a b := by rw [mg, if_neg h1, if_neg h2]
theorem mg_wsum (g : Int → Int) (a b : List Nd) : zDI g (mg a b) = zDI g a + zDI g b := by
 fun_induction mg a b with
 | case1 b => rw [wsum_nil]; omega
 | case2 p a => rw [wsum_nil]; omega
 | case3 p a q b h ih => rw [zAW, ih, zAW g p]; omega
 | case4 p a q b h1 h2 ih => rw [zAW, ih, zAW g q b]; omega
 | case5 p a q b h1 h2 ih =>
   have e : q.1 = p.1 := by omega
   rw [zAW, ih, zAW g p, zAW g q b, e]; dsimp only; rw [Int.add_mul]; omega
theorem mg_len (a b : List Nd) : (mg a b).length ≤ a.length + b.length := by
 fun_induction mg a b with
 | case1 b => simp
 | case2 p a => simp
 | case3 p a q b h ih => simp only [List.length_cons] at *; omega
 | case4 p a q b h1 h2 ih => simp only [List.length_cons] at *; omega
 | case5 p a q b h1 h2 ih => simp only [List.length_cons] at *; omega
theorem mg_keys (a b : List Nd) (j : Int) : j ∈ zBP (mg a b) ↔ j ∈ zBP a ∨ j ∈ zBP b := by
 fun_induction mg a b with
 | case1 b => simp [zBP]
 | case2 p a => simp [zBP]
 | case3 p a q b h ih => rw [zAk, List.mem_cons, ih, zAk p a, List.mem_cons, or_assoc]
 | case4 p a q b h1 h2 ih =>
   rw [zAk, List.mem_cons, ih, zAk q b, List.mem_cons]
   exact ⟨fun h => by rcases h with h | h | h <;> simp [h], fun h => by rcases h with h | h | h <;> simp [h]⟩
 | case5 p a q b h1 h2 ih =>
   have e : q.1 = p.1 := by omega
   rw [zAk, List.mem_cons, ih, zAk p a, zAk q b, List.mem_cons, List.mem_cons, e]
   exact ⟨fun h => by rcases h with h | h | h <;> simp [h], fun h => by rcases h with (h | h) | h | h <;> simp [h]⟩
theorem mg_mem {a b : List Nd} {m : Nd} (h : m ∈ mg a b) : m.1 ∈ zBP a ∨ m.1 ∈ zBP b := (mg_keys a b m.1).1 (List.mem_map_of_mem h)
theorem asc_gt {p : Nd} {l : List Nd} (h : Asc (p :: l)) {j : Int} (hj : j ∈ zBP l) : p.1 < j := by
 obtain ⟨m, hm, rfl⟩ := List.mem_map.1 hj
 exact (List.pairwise_cons.1 h).1 m hm
theorem mg_asc (a b : List Nd) : Asc a → Asc b → Asc (mg a b) := by
 fun_induction mg a b with
 | case1 b => exact fun _ h => h
 | case2 p a => exact fun h _ => h
 | case3 p a q b h ih =>
   intro ha hb
   refine List.pairwise_cons.2 ⟨fun m hm => ?_, ih (List.pairwise_cons.1 ha).2 hb⟩
   rcases mg_mem hm with g | g
   · exact asc_gt ha g
   · rw [zAk, List.mem_cons] at g
     rcases g with g | g
     · omega
     · have := asc_gt hb g; omega
 | case4 p a q b h1 h2 ih =>
   intro ha hb
   refine List.pairwise_cons.2 ⟨fun m hm => ?_, ih ha (List.pairwise_cons.1 hb).2⟩
   rcases mg_mem hm with g | g
   · rw [zAk, List.mem_cons] at g
     rcases g with g | g
     · omega
     · have := asc_gt ha g; omega
   · exact asc_gt hb g
 | case5 p a q b h1 h2 ih =>
   intro ha hb
   refine List.pairwise_cons.2 ⟨fun m hm => ?_, ih (List.pairwise_cons.1 ha).2 (List.pairwise_cons.1 hb).2⟩
   rcases mg_mem hm with g | g
   · exact asc_gt ha g
   · have := asc_gt hb g; dsimp only; omega
theorem mg_cn (j : Int) (a b : List Nd) : Asc a → Asc b → cn (mg a b) j = cn a j + cn b j := by
 fun_induction mg a b with
 | case1 b => intro _ _; unfold cn; rw [get_nil]; omega
 | case2 p a => intro _ _; unfold cn; rw [get_nil]; omega
 | case3 p a q b h ih =>
   intro ha hb
   have ih := ih (List.pairwise_cons.1 ha).2 hb
   obtain ⟨i, c⟩ := p
   unfold cn at *
   by_cases e : j = i
   · subst e
     have : j ∉ zBP (q :: b) := fun hm => by
       rw [zAk, List.mem_cons] at hm
       rcases hm with g | g
       · dsimp only at h; omega
       · have := asc_gt hb g; dsimp only at h; omega
     rw [zCi, zCi, get_out 0 this]; omega
   · rw [zCI 0 e, ih, zCI 0 e]
 | case4 p a q b h1 h2 ih =>
   intro ha hb
   have ih := ih ha (List.pairwise_cons.1 hb).2
   obtain ⟨i, c⟩ := q
   unfold cn at *
   by_cases e : j = i
   · subst e
     have : j ∉ zBP (p :: a) := fun hm => by
       rw [zAk, List.mem_cons] at hm
       rcases hm with g | g
       · dsimp only at h2; omega
       · have := asc_gt ha g; dsimp only at h2; omega
     rw [zCi, zCi, get_out 0 this]; omega
   · rw [zCI 0 e, ih, zCI 0 (M := b) e]
 | case5 p a q b h1 h2 ih =>
   intro ha hb
   have ih := ih (List.pairwise_cons.1 ha).2 (List.pairwise_cons.1 hb).2
   obtain ⟨i, c⟩ := p
   obtain ⟨i', c'⟩ := q
   dsimp only at h1 h2
   have ei : i' = i := by omega
   subst ei
   unfold cn at *
   by_cases e : j = i'
   · subst e; rw [zCi, zCi, zCi]
   · rw [zCI 0 e, ih, zCI 0 e, zCI 0 e]
theorem asc_ext {a b : List Nd} (ha : Asc a) (hb : Asc b) (hk : ∀ j, j ∈ zBP a ↔ j ∈ zBP b) (hc : ∀ j, cn a j = cn b j) : a = b :=
 asc_unique ha hb (perm_get (asc_nodup ha) (asc_nodup hb) hk hc)
theorem mg_comm {a b : List Nd} (ha : Asc a) (hb : Asc b) : mg a b = mg b a :=
 asc_ext (mg_asc a b ha hb) (mg_asc b a hb ha) (fun j => by rw [mg_keys, mg_keys, or_comm]) (fun j => by rw [mg_cn j a b ha hb, mg_cn j b a hb ha, Int.add_comm])
theorem mg_assoc {a b c : List Nd} (ha : Asc a) (hb : Asc b) (hc : Asc c) : mg (mg a b) c = mg a (mg b c) :=
 asc_ext (mg_asc _ _ (mg_asc a b ha hb) hc) (mg_asc _ _ ha (mg_asc b c hb hc)) (fun j => by rw [mg_keys, mg_keys, mg_keys, mg_keys, or_assoc]) (fun j => by
   rw [mg_cn j _ _ (mg_asc a b ha hb) hc, mg_cn j a b ha hb, mg_cn j _ _ ha (mg_asc b c hb hc), mg_cn j b c hb hc, Int.add_assoc])
theorem thr_add {a b k : Int} (ha : 0 ≤ a) (hb : 0 ≤ b) (h : a + b ≤ 1099511627776) (hk : 1 ≤ k) : thr a k + thr b k ≤ thr (a + b) k := by
 rw [(thr_le ⟨ha, by omega⟩ hk).1, (thr_le ⟨hb, by omega⟩ hk).1, (thr_le ⟨by omega, h⟩ hk).1]
 rw [Int.le_ediv_iff_mul_le (by omega), Int.add_mul]
 have := Int.ediv_mul_le a (show k ≠ 0 by omega)
 have := Int.ediv_mul_le b (show k ≠ 0 by omega)
 omega
theorem Dig.merge {w : Nat} {k ca cb : Int} {a b : List Nd} (A : Dig w k ca a) (B : Dig w k cb b) (hc : ca + cb ≤ 1099511627776) (hl : (mg a b).length ≤ 2000) : Dig w k (ca + cb) (mg a b) := by
 have a0 := A.c0; have b0 := B.c0
 refine .of_cn ⟨A.w1, A.w2⟩ ⟨A.k1, A.k2⟩ ⟨by omega, hc⟩ hl (mg_asc a b A.asc B.asc) (fun id h => ?_) (fun id h hlt => ?_) (by rw [mg_wsum, A.inv.sum, B.inv.sum])
 · rw [mg_cn id a b A.asc B.asc]
   have h1 := A.inv.cn0 id; have h2 := B.inv.cn0 id
   rcases (mg_keys a b id).1 h with g | g
   · have := A.inv.node id g; exact ⟨this.1, by omega, by omega⟩
   · have := B.inv.node id g; exact ⟨this.1, by omega, by omega⟩
 · rw [mg_cn id a b A.asc B.asc]
   have h1 := A.inv.cn0 id; have h2 := B.inv.cn0 id
   have t := thr_add a0 b0 hc A.k1
   have ta := (thr_le ⟨A.c0, A.c1⟩ A.k1).2.1
   have tb := (thr_le ⟨B.c0, B.c1⟩ B.k1).2.1
   have ea : cn a id ≤ thr ca k := by
     by_cases g : id ∈ zBP a
     · exact A.inv.inner id g hlt
     · rw [h1.2.2.1 g]; exact ta
   have eb : cn b id ≤ thr cb k := by
     by_cases g : id ∈ zBP b
     · exact B.inv.inner id g hlt
     · rw [h2.2.2.1 g]; exact tb
   omega
theorem drop_at {l : List Nd} {i : Nat} (h : i < l.length) : l.drop i = l[i] :: l.drop (i + 1) := List.drop_eq_getElem_cons h
theorem ex_some {α : Type} {o : Option α} {r : α} (h : ∃ y, o = some y ∧ y = r) : o = some r := by
 obtain ⟨y, h1, h2⟩ := h
 exact h2 ▸ h1
theorem F29_ok {w : Nat} {k ca cb : Int} {a b : List Nd} (A : Dig w k ca a) (B : Dig w k cb b) (hc : ca + cb ≤ 1099511627776) : F29 (((w : Int), k, ca, a), ((w : Int), k, cb, b)) = some (if 2000 < (mg a b).length then ((0, 0, 0, []), 4) else (((w : Int), k, ca + cb, mg a b), 0)) := by
 have a0 := A.c0; have b0 := B.c0; have a1 := A.c1; have b1 := B.c1; have la := A.len; have lb := B.len
 have ml := mg_len a b
 have qa := F20_eq (w : Int) k ca a
 have qb := F20_eq (w : Int) k cb b
 rw [A.check] at qa; rw [B.check] at qb
 have hA : ∀ p ∈ a, 1 ≤ p.2 ∧ p.2 ≤ 1099511627776 := fun p hp => by have := (A.node p hp).2; omega
 have hB : ∀ p ∈ b, 1 ≤ p.2 ∧ p.2 ≤ 1099511627776 := fun p hp => by have := (B.node p hp).2; omega
 unfold F29
 dsimp only
 rw [zAb qa, sel_t (show bnot (ine 0 0) = true from rfl), zAb qb, zDV (show zAJ (ine 0 0) true (ine 0 0) = false from rfl), pick_or, ine_d, ine_d, zDV (by simp), isub_s (by omega) (by omega), ilt_d, zDV (by simp; omega)]
 simp only [n2i_c, zCs]
 rw [zBT (a := (a.length : Int)) (by omega) (by omega), zAd (by simp [Go.T.mk]; omega)]
 refine ex_some ?_
 refine join_wf (fun s => ∃ (i j : Nat) (acc : List Nd), s = ((i : Int), (j : Int), acc) ∧ i ≤ a.length ∧ j ≤ b.length ∧ acc ++ mg (a.drop i) (b.drop j) = mg a b ∧ acc.length ≤ i + j) (fun s => (a.length + b.length - s.1 - s.2.1).toNat) (fun e => e = .inl (mg a b)) ⟨0, 0, [], rfl, by omega, by omega, rfl, by simp⟩ ?_ ?_
 · rintro _ ⟨i, j, acc, rfl, hi, hj, hm, hacc⟩
   dsimp only
   simp only [pick_or, pick_and, ilt_d, ieq_d, bnot_d, band_d]
   by_cases h0 : i < a.length ∨ j < b.length
   · left
     rw [sel_t (by simp; omega)]
     have ix : ∀ {l : List Nd} {n : Nat}, n < l.length → inL (n : Int) l.length = true ∧ zAz (0, 0) l (i2n (n : Int)) = l[n]! := fun {l} {n} h => ⟨inL_t h, by rw [i2n_c, lget_t h, getElem!_pos l n h]⟩
     by_cases hi' : i < a.length
     · obtain ⟨ia, ga⟩ := ix hi'
       have hai : a[i]! = a[i] := getElem!_pos a i hi'
       have pa := hA a[i] (List.getElem_mem hi')
       by_cases hj' : j < b.length
       · obtain ⟨ib, gb⟩ := ix hj'
         have hbj : b[j]! = b[j] := getElem!_pos b j hj'
         have pb := hB b[j] (List.getElem_mem hj')
         simp only [ia, ib, ga, gb, hai, hbj]
         rw [drop_at hi', drop_at hj'] at hm
         rw [zAd (impl_t fun _ => rfl), zAd (impl_t fun _ => rfl)]
         by_cases c1 : a[i].1 < b[j].1
         · rw [mg_lt c1, ← drop_at hj'] at hm
           rw [sel_t (by simp [c1]; omega), zAd rfl, zAd (by simp [room, nadd, zAj]; omega), zBT (by omega) (by omega)]
           exact ⟨_, rfl, ⟨i + 1, j, acc ++ [a[i]], rfl, by omega, hj, by rw [List.append_assoc]; exact hm, by simp; omega⟩, by dsimp only; omega⟩
         · rw [zDV (by simp [c1]; omega), zAd (impl_t fun _ => rfl), zAd (impl_t fun _ => rfl)]
           by_cases c2 : b[j].1 < a[i].1
           · rw [mg_gt c2, ← drop_at hi'] at hm
             rw [sel_t (by simp [c2]), zAd rfl, zAd (by simp [room, nadd, zAj]; omega), zBT (by omega) (by omega)]
             exact ⟨_, rfl, ⟨i, j + 1, acc ++ [b[j]], rfl, hi, by omega, by rw [List.append_assoc]; exact hm, by simp; omega⟩, by dsimp only; omega⟩
           · rw [mg_eq c1 c2] at hm
             rw [zDV (by simp [c2]; omega), zAd rfl, zAd rfl, zAd rfl, zBT (a := a[i].2) (by omega) (by omega), zAd (by simp [room, nadd, zAj]; omega), zBT (a := (i : Int)) (by omega) (by omega), zBT (a := (j : Int)) (by omega) (by omega)]
             exact ⟨_, rfl, ⟨i + 1, j + 1, acc ++ [(a[i].1, a[i].2 + b[j].2)], rfl, by omega, by omega, by rw [List.append_assoc]; exact hm, by simp; omega⟩, by dsimp only; omega⟩
       · have ej : j = b.length := by omega
         subst ej
         simp only [ia, ga, hai]
         rw [drop_at hi', List.drop_length, mg_nil] at hm
         rw [zAd (impl_t fun h => by simp at h), zAd (impl_t fun h => by simp at h), sel_t (by simp), zAd rfl, zAd (by simp [room, nadd, zAj]; omega), zBT (by omega) (by omega)]
         exact ⟨_, rfl, ⟨i + 1, b.length, acc ++ [a[i]], rfl, by omega, hj, by rw [List.append_assoc, List.drop_length, mg_nil]; exact hm, by simp; omega⟩, by dsimp only; omega⟩
     · have ei : i = a.length := by omega
       subst ei
       have hj' : j < b.length := by omega
       obtain ⟨ib, gb⟩ := ix hj'
       have hbj : b[j]! = b[j] := getElem!_pos b j hj'
       simp only [ib, gb, hbj]
       rw [List.drop_length, drop_at hj', mg] at hm
       rw [zAd (impl_t fun h => by simp at h), zAd (impl_t fun h => by simp at h), zDV (by simp; omega), zAd (impl_t fun h => by simp at h), zAd (impl_t fun h => by simp at h), sel_t (by simp), zAd rfl, zAd (by simp [room, nadd, zAj]; omega), zBT (by omega) (by omega)]
       exact ⟨_, rfl, ⟨a.length, j + 1, acc ++ [b[j]], rfl, hi, by omega, by rw [List.append_assoc, List.drop_length, mg]; exact hm, by simp; omega⟩, by dsimp only; omega⟩
   · right
     rw [zDV (by simp; omega)]
     have ei : i = a.length := by omega
     have ej : j = b.length := by omega
     subst ei; subst ej
     rw [List.drop_length, List.drop_length, mg, List.append_nil] at hm
     subst hm
     exact ⟨_, rfl, rfl⟩
 · rintro _ rfl
   rw [Sum.elim_inl, ilt_d, sel_i]
   by_cases g : 2000 < (mg a b).length
   · rw [if_pos (by omega), if_pos g]; exact ⟨_, rfl, rfl⟩
   · rw [if_neg (by omega), if_neg g, zBT (by omega) (by omega)]; exact ⟨_, rfl, rfl⟩
end Go.Q
namespace Go.Q
open Go Go.T Go.Pl Go.Proofs Go.Proofs.Qd
variable [Go.Ab.DM]
theorem len_sum : ∀ {l : List Nd}, (∀ n ∈ l, 1 ≤ n.2) → (l.length : Int) ≤ (l.map (·.2)).sum
 | [], _ => by simp
 | p :: l, h => by
   have h1 := len_sum (l := l) fun n hn => h n (List.mem_cons_of_mem _ hn)
   have h2 := h p (List.mem_cons_self ..)
   rw [List.map_cons, List.sum_cons, List.length_cons]; omega
theorem Dig.len_count {w : Nat} {k count : Int} {l : List Nd} (D : Dig w k count l) : (l.length : Int) ≤ count := by
 have := len_sum fun n hn => (D.node n hn).2.1
 rw [D.sum] at this; exact this
theorem Tru.merge {w : Nat} {k : Int} {a b : List Nd} {p q : List Int} (A : Tru w k a p) (B : Tru w k b q) (h : p.length + q.length ≤ 1000) : Tru w k (mg a b) (p ++ q) := by
 have la := A.dig.len_count; have lb := B.dig.len_count
 have ml := mg_len a b
 refine ⟨?_, fun v => ?_, fun v => ?_⟩
 · have := A.dig.merge B.dig (by omega) (by omega)
   rwa [show (p.length : Int) + q.length = ((p ++ q).length : Nat) by simp] at this
 · rw [mg_wsum, rnk_app]; have := A.lo v; have := B.lo v; omega
 · rw [mg_wsum, rnk_app]; have := A.hi v; have := B.hi v; omega
theorem F29_tru {w : Nat} {k : Int} {a b : List Nd} {p q : List Int} (A : Tru w k a p) (B : Tru w k b q) (h : p.length + q.length ≤ 1000) : F29 (((w : Int), k, (p.length : Int), a), ((w : Int), k, (q.length : Int), b)) = some (((w : Int), k, ((p ++ q).length : Int), mg a b), 0) := by
 have la := A.dig.len_count; have lb := B.dig.len_count
 have ml := mg_len a b
 rw [F29_ok A.dig B.dig (by omega), if_neg (by omega), show (p.length : Int) + q.length = ((p ++ q).length : Nat) by simp]
theorem F15_of {d e : Dg} (h : d = e) (hl : d.2.2.2.length ≤ 1000000) : F15 (d, e) = some true := by subst h; exact F15_same d hl
theorem F27_long {w : Nat} {k : Int} (hw : 1 ≤ w ∧ w ≤ 8) (hk : 1 ≤ k ∧ k ≤ 8) {l : List (Int × Bool)} (g : ¬ l.length ≤ 30) : F27 ((w : Int), k, l) = some (((w : Int), k, 0, []), [], false) := by
 have e13 : F13 ((w : Int), k) = some (((w : Int), k, 0, []), 0) := by
   unfold F13
   simp only [pick_or, ilt_d, ← Bool.decide_or, sel_i]
   rw [if_neg (by omega)]
 unfold F27
 dsimp only
 rw [zAb e13, sel_t]
 rw [pick_or, ine_d, n2i_c, zCs, ilt_d]; simp; omega
theorem law7 (n : Int) (hn : 0 ≤ n ∧ n < 256) (l1 l2 l3 : List (Int × Bool)) (h1 : ∀ s ∈ l1, 0 ≤ s.1 ∧ s.1 < 256) (h2 : ∀ s ∈ l2, 0 ≤ s.1 ∧ s.1 < 256) (h3 : ∀ s ∈ l3, 0 ≤ s.1 ∧ s.1 < 256) : F7 (n, l1, l2, l3) = some true := by
 unfold F7
 obtain ⟨w, k, h26, hw, hk⟩ := F26_eq hn
 have hlt : ∀ {l : List (Int × Bool)}, ¬ l.length ≤ 30 → ilt 30 (n2i (zAj l)) = true := fun h => by rw [ilt_d, n2i_c, zCs]; simp; omega
 have hrm : ∀ {m : Nat}, m ≤ 1000 → room m 8 = true := fun h => by simp [room]; omega
 dsimp only
 rw [zAb h26]
 dsimp only
 by_cases g1 : l1.length ≤ 30
 rotate_left
 · refine Eq.trans (join_r (r := true) ?_) rfl
   rw [zAb (F27_long hw hk g1), sel_t (show bnot false = true from rfl), hlt g1, sel_t rfl, zAb awake]; rfl
 by_cases g2 : l2.length ≤ 30
 rotate_left
 · refine Eq.trans (join_r (r := true) ?_) rfl
   obtain ⟨y1, f1, a, p, rfl, A, ha, _⟩ := F27_tru hw hk l1 g1 h1
   rw [zAb f1]
   dsimp only
   rw [zDV (show bnot true = false from rfl), zAd (hrm (by rw [zCs]; omega)), zAb (F27_long hw hk g2), sel_t (show bnot false = true from rfl), hlt g2, sel_t rfl, zAb awake]; rfl
 obtain ⟨y1, f1, a, p, rfl, A, ha, _⟩ := F27_tru hw hk l1 g1 h1
 obtain ⟨y2, f2, b, q, rfl, B, hb, _⟩ := F27_tru hw hk l2 g2 h2
 by_cases g3 : l3.length ≤ 30
 rotate_left
 · refine Eq.trans (join_r (r := true) ?_) rfl
   rw [zAb f1]
   dsimp only
   rw [zDV (show bnot true = false from rfl), zAd (hrm (by rw [zCs]; omega)), zAb f2]
   dsimp only
   rw [zDV (show bnot true = false from rfl), zAd (hrm (by simp only [zCs, nadd]; omega)), zAb (F27_long hw hk g3), sel_t (show bnot false = true from rfl), hlt g3, sel_t rfl, zAb awake]; rfl
 obtain ⟨y3, f3, c, r, rfl, C, hc, _⟩ := F27_tru hw hk l3 g3 h3
 refine Eq.trans (join_l (s := (((w : Int), k, (p.length : Int), a, (w : Int), k, (q.length : Int), b, (w : Int), k, (r.length : Int), c), p ++ q ++ r)) ?_) ?_
 · rw [zAb f1]
   dsimp only
   rw [zDV (show bnot true = false from rfl), zAd (hrm (by rw [zCs]; omega)), zAb f2]
   dsimp only
   rw [zDV (show bnot true = false from rfl), zAd (hrm (by simp only [zCs, nadd]; omega)), zAb f3]
   dsimp only
   rw [zDV (show bnot true = false from rfl), zAd (hrm (by simp only [nadd, lcat, zCs, List.length_append]; omega))]
   rfl
 dsimp only
 have AB := A.merge B (by omega)
 have BC := B.merge C (by omega)
 have L := AB.merge C (by simp; omega)
 have hll := L.dig.len
 have e13 : F13 ((w : Int), k) = some (((w : Int), k, 0, []), 0) := by
   unfold F13
   simp only [pick_or, ilt_d, ← Bool.decide_or, sel_i]
   rw [if_neg (by omega)]
 have N : Tru w k [] [] := ⟨⟨hw.1, by omega, hk.1, by omega, by simp, by simp, by simp, by simp, by simp, List.Pairwise.nil, rfl⟩, fun v => by simp [zDI, rnk], fun v => by simp [zDI, rnk]⟩
 rw [zAb (F29_tru A B (by omega)), zAb (F29_tru B A (by omega)), zAb (F29_tru B C (by omega))]
 dsimp only
 rw [zAb (F29_tru AB C (by simp; omega)), zAb (F29_tru A BC (by simp; omega)), zAb e13]
 dsimp only
 have e14 : F29 (((w : Int), k, 0, []), ((w : Int), k, ((p ++ q).length : Int), mg a b)) = some (((w : Int), k, (([] ++ (p ++ q) : List Int).length : Int), mg [] (mg a b)), 0) := F29_tru N AB (by simp; omega)
 rw [zAb e14]
 obtain ⟨s, hs, S⟩ := F18_good L.dig.check
 rw [Int.toNat_natCast] at S
 rw [zAb hs]
 dsimp only
 refine Eq.trans (join_it 8 () (by kernel_rfl)) ?_
 have c1 : mg b a = mg a b := mg_comm B.dig.asc A.dig.asc
 have c2 : mg a (mg b c) = mg (mg a b) c := (mg_assoc A.dig.asc B.dig.asc C.dig.asc).symm
 have c3 : mg [] (mg a b) = mg a b := by rw [mg]
 have lm := AB.dig.len
 rw [zAb (F15_of (by rw [c1]; simp [Nat.add_comm]) (by dsimp only; omega)), sel_t rfl, zAb (F15_of (by rw [c2]; simp [Nat.add_assoc]) (by dsimp only; omega)), show zAJ true true false = true from rfl, sel_t rfl, zAb (F15_of (by rw [c3]; simp) (by rw [c3]; dsimp only; omega)), show zAJ true true false = true from rfl, sel_t rfl, zAb (F28_tru L hw.2 (by simp; omega)), show zAJ true true false = true from rfl, sel_t rfl, zAb (F28_tru (L.cmp S) hw.2 (by simp; omega)), show zAJ true true false = true from rfl, sel_t rfl, zAb awake]
 rfl
end Go.Q
