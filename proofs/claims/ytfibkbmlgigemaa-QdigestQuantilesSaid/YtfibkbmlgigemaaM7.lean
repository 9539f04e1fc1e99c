/- Part 7 of what the claim leans on: QCmp3, QCmp4, QAwk, QLaw6, QPut, QRanks, QRankR, QDiv, QRatio, QQuant, QQuantS. -/
import Derived.Test.YtfibkbmlgigemaaM6
import Derived.Calls
import Derived.KernelRfl
import Derived.Orders
import Derived.Laws.Sem
import Derived.Laws.CopyRow
import Derived.Laws.Cells
import Derived.Room.Entries
import Derived.Lib.Overlaps
import GoSem.Conv.BytesToString
import Derived.OrdersHeld
import Derived.ProofKit
import Derived.OpenShut
import Derived.Carry
import Derived.Shelf.SlSortCmp.InsertionK
import Derived.Shelf.Sort.Plain
import Derived.Test.YtfibkbmlgigemaaProg
import Derived.Shelf.SlSortCmp.WholeK
import Derived.Ground.SlsfProg
import Derived.Lib.Mul64
import Derived.Laws.Bits64b
set_option linter.unusedVariables false
set_option linter.unusedSimpArgs false
set_option maxRecDepth 100000
namespace Go.Q
open Go Go.T Go.Pl Go.Proofs Go.Proofs.Qd
def Asc (l : List Nd) : Prop := l.Pairwise fun a b => a.1 < b.1
theorem asc_unique : ∀ {l l' : List Nd}, Asc l → Asc l' → l.Perm l' → l = l'
 | [], l', _, _, h => (List.nil_perm.1 h).symm
 | a :: l, [], _, _, h => absurd h.length_eq (by simp)
 | a :: l, b :: l', ha, hb, h => by
   have ha' := List.pairwise_cons.1 ha
   have hb' := List.pairwise_cons.1 hb
   have e : a = b := by
     have h1 : a ∈ b :: l' := h.subset (by simp)
     have h2 : b ∈ a :: l := h.symm.subset (by simp)
     rcases List.mem_cons.1 h1 with h1 | h1
     · exact h1
     rcases List.mem_cons.1 h2 with h2 | h2
     · exact h2.symm
     have := ha'.1 b h2
     have := hb'.1 a h1
     omega
   subst e
   rw [asc_unique ha'.2 hb'.2 ((List.perm_cons a).1 h)]
theorem asc_nodup {l : List Nd} (h : Asc l) : (zBg l).Nodup := by
 unfold zBg
 rw [List.Nodup, List.pairwise_map]
 exact h.imp fun h e => by omega
theorem asc_of {l : List Nd} (h : (zBg l).Nodup) (hs : l.Pairwise fun a b => ∀ i j, key51 a = some i → key51 b = some j → i ≤ j) : Asc l := by
 unfold zBg at h
 rw [List.Nodup, List.pairwise_map] at h
 exact (List.Pairwise.and h hs).imp fun ⟨h1, h2⟩ => by have := h2 _ _ rfl rfl; omega
theorem sort_ex (l : List Nd) : ∃ r : List Nd, r.Perm l ∧ r.Pairwise fun a b => ∀ i j, key51 a = some i → key51 b = some j → i ≤ j := by
 refine ⟨l.mergeSort (fun a b => decide (a.1 ≤ b.1)), List.mergeSort_perm _ _, ?_⟩
 have := List.pairwise_mergeSort (le := fun a b : Nd => decide (a.1 ≤ b.1)) (fun a b c h1 h2 => by simp at *; omega) (fun a b => by simp; omega) l
 refine this.imp fun {a b} h i j hi hj => ?_
 have := Option.some.inj hi; have := Option.some.inj hj
 simp at h; omega
theorem callQ_of {A R : Type} {p : A → Prop} {k : A → Option R} {r : R} (h1 : ∃ a, p a) (h2 : ∀ a, p a → k a = some r) : callQ p k = some r := by
 have hx : (∃ a, p a) ∧ ∃ r, ∀ a, p a → k a = some r := ⟨h1, r, h2⟩
 unfold callQ
 rw [dif_pos hx]
 obtain ⟨a, ha⟩ := h1
 have := Classical.choose_spec hx.2 a ha
 rw [h2 a ha] at this
 exact this.symm
theorem mrange_of {A S E : Type} {l : List A} {B : A → S → Option (S ⊕ E)} {N : S → Option (S ⊕ E)} {s : S} {e : E} (h : ∀ l', l'.Perm l → foldM B N l' s = some e) : mrange l B N s = some e := by
 have hx : ∃ e, ∀ l', l'.Perm l → foldM B N l' s = some e := ⟨e, h⟩
 unfold mrange
 rw [dif_pos hx]
 have := Classical.choose_spec hx l (.refl _)
 rw [h l (.refl _)] at this
 exact this.symm
theorem foldM_app {E : Type} {N : List Nd → Option (List Nd ⊕ E)} {e : E} : ∀ (l s : List Nd), s.length + l.length ≤ 1000000 → N (s ++ l) = some (.inr e) →
   foldM (fun (p14 : (Int × Int)) (s15 : (List (Int × Int))) => need (room (nadd (zBF s15) (zBF ((p14.1, p14.2) :: ([] : List (Int × Int))))) 16) <| some (.inl (lcat s15 ((p14.1, p14.2) :: ([] : List (Int × Int)))))) N l s = some e
 | [], s, _, h => by
   rw [List.append_nil] at h
   rw [foldM, h]
 | a :: l, s, h, hN => by
   rw [List.length_cons] at h
   rw [foldM, zAq (by simp [room, nadd, zBF]; omega)]
   dsimp only
   exact foldM_app (N := N) l (s ++ [a]) (by simp; omega) (by simpa using hN)
theorem mk8 {n : Nat} (h : n ≤ 1000000) : Go.T.mk 0 (n2i n) 8 = true := by
 unfold Go.T.mk n2i; simp; omega
theorem mk16 {n : Nat} (h : n ≤ 1000000) : Go.T.mk 0 (n2i n) 16 = true := by
 unfold Go.T.mk n2i; simp; omega
theorem get_perm {M M' : KV Int} (h : M.Perm M') (hn : (zBg M).Nodup) (j : Int) : zDe ieq 0 M j = zDe ieq 0 M' j := by
 have hk : (zBg M).Perm (zBg M') := h.map _
 have hn' : (zBg M').Nodup := hk.nodup_iff.1 hn
 by_cases hj : j ∈ zBg M
 · have h1 := (mem_get 0 hn j _).2 ⟨hj, rfl⟩
   exact ((mem_get 0 hn' j _).1 (h.subset h1)).2.symm
 · rw [get_out 0 hj, get_out 0 (fun h' => hj (hk.symm.subset h'))]
theorem MInv.perm {w : Nat} {th count : Int} {nodes M M' : KV Int} (h : MInv w th count nodes M) (hp : M.Perm M') : MInv w th count nodes M' := by
 have hk : (zBg M).Perm (zBg M') := hp.map _
 have hg := fun j => get_perm hp h.nod j
 refine ⟨hk.nodup_iff.1 h.nod, fun id hid => ?_, fun id hid hlt => ?_, by rw [← wsum_perm hp]; exact h.sum, fun v => by rw [← wsum_perm hp]; exact h.lo v, fun v => by rw [← wsum_perm hp]; exact h.hi v⟩
 · have := h.node id (hk.symm.subset hid)
   unfold cn at this ⊢; rw [← hg]; exact this
 · have := h.inner id (hk.symm.subset hid) hlt
   unfold cn at this ⊢; rw [← hg]; exact this
theorem can_perm {th : Int} {M M' : KV Int} (hn : (zBg M).Nodup) (hp : M.Perm M') (m : Int) : can th M m ↔ can th M' m := by
 have hg := fun j => get_perm hp hn j
 unfold can chl cn; rw [hg, hg, hg]
theorem len_ksum {w : Nat} {th count : Int} {nodes M : KV Int} (h : MInv w th count nodes M) : M.length ≤ ksum dep M := by
 have : ∀ l : List Int, (∀ id ∈ l, (∃ x : Nat, id = x ∧ Nod w x)) → l.length ≤ (l.map dep).sum := by
   intro l
   induction l with
   | nil => simp
   | cons a l ih =>
     intro hl
     obtain ⟨x, hx, hX⟩ := hl a (by simp)
     have := ih fun id hid => hl id (by simp [hid])
     have h1 : 1 ≤ dep a := by unfold dep; rw [hx, Int.toNat_natCast]; exact (blen_pos hX.x1).1
     rw [List.length_cons, List.map_cons, List.sum_cons]; omega
 have h2 := this (zBg M) fun id hid => (h.node id hid).1
 simpa [zBg, ksum] using h2
def todo : List Nd → List Int
 | [] => []
 | n :: l => if 1 < n.1 then n.1 / 2 :: todo l else todo l
theorem todo_len : ∀ l, (todo l).length ≤ l.length
 | [] => by simp [todo]
 | n :: l => by have := todo_len l; rw [todo]; split <;> simp <;> omega
theorem mem_todo : ∀ {l : List Nd} {m : Int}, m ∈ todo l ↔ ∃ n ∈ l, 1 < n.1 ∧ n.1 / 2 = m
 | [], m => by simp [todo]
 | n :: l, m => by
   rw [todo]
   split
   · rw [List.mem_cons, mem_todo]
     constructor
     · rintro (h | ⟨n', h1, h2⟩)
       · exact ⟨n, by simp, by assumption, h.symm⟩
       · exact ⟨n', by simp [h1], h2⟩
     · rintro ⟨n', h1, h2⟩
       rcases List.mem_cons.1 h1 with rfl | h1
       · exact .inl h2.2.symm
       · exact .inr ⟨n', h1, h2⟩
   · rw [mem_todo]
     constructor
     · rintro ⟨n', h1, h2⟩; exact ⟨n', by simp [h1], h2⟩
     · rintro ⟨n', h1, h2⟩
       rcases List.mem_cons.1 h1 with rfl | h1
       · exact absurd h2.1 (by assumption)
       · exact ⟨n', h1, h2⟩
def g18 (st : List Nd × List Int) (n : Nd) : List Nd × List Int := (mput ieq st.1 n.1 n.2, if 1 < n.1 then st.2 ++ [n.1 / 2] else st.2)
theorem put_new {M : KV Int} {k v : Int} (h : k ∉ zBg M) : mput ieq M k v = M ++ [(k, v)] := by
 induction M with
 | nil => rfl
 | cons p M ih =>
   obtain ⟨j, x⟩ := p
   rw [zBb, List.mem_cons, not_or] at h
   rw [put_ne h.1, ih h.2]; rfl
theorem fold18 : ∀ (l acc : List Nd) (T : List Int), (zBg (acc ++ l)).Nodup → l.foldl g18 (acc, T) = (acc ++ l, T ++ todo l)
 | [], acc, T, _ => by simp [todo]
 | n :: l, acc, T, h => by
   have h1 : n.1 ∉ zBg acc := by
     intro h'
     unfold zBg at h h'
     rw [List.map_append, List.map_cons, List.nodup_append] at h
     exact h.2.2 _ h' _ (by simp) rfl
   rw [List.foldl_cons]
   have e : g18 (acc, T) n = (acc ++ [n], if 1 < n.1 then T ++ [n.1 / 2] else T) := by unfold g18; rw [put_new h1]
   rw [e, fold18 l (acc ++ [n]) _ (by simpa using h), todo]
   split <;> simp
theorem thr_le {count k : Int} (hc : 0 ≤ count ∧ count ≤ 1099511627776) (hk : 1 ≤ k) : thr count k = count / k ∧ 0 ≤ thr count k ∧ thr count k ≤ count := by
 have e : count.tdiv k = count / k := Int.tdiv_eq_ediv_of_nonneg hc.1
 have h1 : count / k ≤ count := Int.ediv_le_self _ hc.1
 have h2 : 0 ≤ count / k := Int.ediv_nonneg hc.1 (by omega)
 have h3 : thr count k = count / k := by unfold thr; rw [e]; exact zAd (by omega) (by omega)
 omega
theorem cn_at {M : KV Int} (hn : (zBg M).Nodup) {n : Nd} (h : n ∈ M) : cn M n.1 = n.2 := ((mem_get 0 hn n.1 n.2).1 h).2
theorem Dig.inv {w : Nat} {k count : Int} {nodes : List Nd} (D : Dig w k count nodes) : MInv w (thr count k) count nodes nodes := by
 have hn : (zBg nodes).Nodup := asc_nodup D.asc
 have hk : ∀ id ∈ zBg nodes, ∃ n ∈ nodes, n.1 = id ∧ cn nodes id = n.2 := fun id hid => by
   obtain ⟨n, h1, rfl⟩ := List.mem_map.1 hid
   exact ⟨n, h1, rfl, cn_at hn h1⟩
 refine ⟨hn, fun id hid => ?_, fun id hid hlt => ?_, ?_, fun v => Int.le_refl _, fun v => Int.le_refl _⟩
 · obtain ⟨n, h1, rfl, h2⟩ := hk id hid
   rw [h2]; exact D.node n h1
 · obtain ⟨n, h1, rfl, h2⟩ := hk id hid
   rw [h2]; exact D.inner n h1 hlt
 · have : zCP (fun _ => 1) nodes = (nodes.map (·.2)).sum := by unfold zCP; simp
   rw [this]; exact D.sum
theorem Dig.ksum {w : Nat} {k count : Int} {nodes : List Nd} (D : Dig w k count nodes) : Pl.ksum dep nodes ≤ 42000 := by
 have : ∀ l : List Nd, (∀ n ∈ l, ∃ x : Nat, n.1 = x ∧ Nod w x) → Pl.ksum dep l ≤ 21 * l.length := by
   intro l
   induction l with
   | nil => intro _; exact Nat.le_refl _
   | cons n l ih =>
     intro h
     obtain ⟨x, hx, hX⟩ := h n (by simp)
     have h1 := ih fun m hm => h m (by simp [hm])
     have h2 : dep n.1 ≤ 21 := by unfold dep; rw [hx, Int.toNat_natCast]; have := hX.le; have := hX.w2; omega
     have e : Pl.ksum dep (n :: l) = dep n.1 + Pl.ksum dep l := by unfold Pl.ksum zBg; simp
     rw [e, List.length_cons]; omega
 have h := this nodes fun n hn => (D.node n hn).1
 have := D.len; omega
structure Cmpd (w : Nat) (k count : Int) (nodes r : List Nd) : Prop where
 inv : MInv w (thr count k) count nodes r
 asc : Asc r
 none : ∀ m, 1 ≤ m → ¬ can (thr count k) r m
 same : (∀ m, 1 ≤ m → ¬ can (thr count k) nodes m) → r = nodes
 len : r.length ≤ nodes.length
 gr : ∃ M, Gr (thr count k) nodes M ∧ r.Perm M
theorem F18_good {bits k count : Int} {nodes : List Nd} (h : zDC bits k count nodes = 0) : ∃ r, F18 (bits, k, count, nodes) = some ((bits, k, count, r), 0) ∧ Cmpd bits.toNat k count nodes r := by
 obtain ⟨hb, D⟩ := dig_of h
 have hw : 1 ≤ bits.toNat ∧ bits.toNat ≤ 20 := ⟨D.w1, D.w2⟩
 have hq := F20_eq bits k count nodes
 rw [h] at hq
 generalize hW : bits.toNat = w at *
 subst hb
 have p20 := pow21 hw.2
 have hlen := D.len
 have hk := D.k1
 obtain ⟨_, t1, t2⟩ := thr_le ⟨D.c0, D.c1⟩ D.k1
 have hl1 : iter (fun (s1 : (Int × ((List (Int × Int)) × (List Int)))) =>
     sel (ilt s1.1 (n2i (zBF nodes))) (join (need (inL s1.1 (zBF nodes)) <|
     sel (ilt 1 ((zBC (0, 0) nodes (i2n s1.1)).1)) (need (ine 2 0) <|
     need (room (nadd (zBF s1.2.2) (zBF (zDH .i64 ((zBC (0, 0) nodes (i2n s1.1)).1) 2 :: ([] : List Int)))) 8) <|
     some (.inl (mput ieq s1.2.1 ((zBC (0, 0) nodes (i2n s1.1)).1) ((zBC (0, 0) nodes (i2n s1.1)).2), lcat s1.2.2 (zDH .i64 ((zBC (0, 0) nodes (i2n s1.1)).1) 2 :: ([] : List Int))))) <|
     some (.inl (mput ieq s1.2.1 ((zBC (0, 0) nodes (i2n s1.1)).1) ((zBC (0, 0) nodes (i2n s1.1)).2), s1.2.2))) fun (j2 : ((List (Int × Int)) × (List Int))) =>
     some (.inl (zAn .i64 s1.1 1, j2.1, j2.2))) <|
     (some (.inr (.inl (s1.2.1, s1.2.2))) : Option ((Int × ((List (Int × Int)) × (List Int))) ⊕ (((List (Int × Int)) × (List Int)) ⊕ (Dg × Int))))) (0, ([] : List (Int × Int)), lrep 0 0) = some (.inl (nodes, todo nodes)) := by
   refine (iter_for nodes (fun st i => (i, st.1, st.2)) (fun s a => .inl (g18 s a)) (fun st => (.inl st : (List Nd × List Int) ⊕ (Dg × Int))) (fun i st => st.2.length ≤ i) (([] : List Nd), ([] : List Int)) (by simp) ?_ ?_).trans ?_
   · rintro i ⟨M, T⟩ hi hI
     have hlt : (i : Int) < nodes.length := by omega
     have hin : inL (i : Int) nodes.length = true := inL_t hi
     have hg : zBC (0, 0) nodes i = nodes[i] := lget_t hi
     obtain ⟨⟨x, hx, hX⟩, hc⟩ := D.node nodes[i] (List.getElem_mem hi)
     have hx2 := hX.x2
     have hp : 2 ^ (w + 1) = 2 * 2 ^ w := by rw [Nat.pow_succ]; omega
     dsimp only at hI ⊢
     simp only [n2i_c, llen_c, i2n_c, hg, hin, zAq, zCA, zCY, hlt, if_true]
     generalize nodes[i] = n at *
     rw [zCI (by omega) (by omega), iquo_2 (by omega)]
     unfold g18
     dsimp only
     by_cases h1 : 1 < n.1
     · rw [if_pos h1, if_pos h1, zAq (show ine 2 0 = true from rfl), zAq (by simp [room, nadd]; omega)]
       refine ⟨rfl, fun st' h => ?_⟩
       have := Sum.inl.inj h; subst this
       simp; omega
     · rw [if_neg h1, if_neg h1]
       refine ⟨rfl, fun st' h => ?_⟩
       have := Sum.inl.inj h; subst this
       dsimp only; omega
   · intro st hI
     simp only [n2i_c, llen_c, zCA, zCY]
     rw [if_neg (by omega)]
   · rw [fold_l, fold18 nodes [] [] (by simpa using asc_nodup D.asc)]; simp
 have hT : (todo nodes).length ≤ nodes.length := todo_len nodes
 obtain ⟨T, hT1, hT2, hT3⟩ := F46_heap (l := todo nodes) (by omega)
 have hTl := hT2.length_eq
 have hk0 := D.ksum
 have hinv := D.inv
 obtain ⟨M', l1, l2, l3, l4, l5, l6⟩ := cmp_loop (nd0 := nodes) (nodes := nodes) hw ⟨D.c0, D.c1⟩ t2 _ nodes T rfl (by omega) hinv (fun m hm => by
   obtain ⟨n, h1, h2, rfl⟩ := mem_todo.1 (hT2.subset hm)
   obtain ⟨⟨x, hx, hX⟩, _⟩ := D.node n h1
   have hx2 := hX.x2
   have hp : 2 ^ (w + 1) = 2 * 2 ^ w := by rw [Nat.pow_succ]; omega
   omega) (fun m h1 h2 => by
   have key : 2 * m ∈ zBg nodes ∨ 2 * m + 1 ∈ zBg nodes := by
     by_cases g1 : 2 * m ∈ zBg nodes
     · exact .inl g1
     by_cases g2 : 2 * m + 1 ∈ zBg nodes
     · exact .inr g2
     exact absurd (show chl nodes m = 0 by show cn nodes (2 * m) + cn nodes (2 * m + 1) = 0; rw [(hinv.cn0 _).2.2.1 g1, (hinv.cn0 _).2.2.1 g2]; rfl) h2.1
   refine hT2.symm.subset (mem_todo.2 ?_)
   rcases key with g | g
   · obtain ⟨n, g1, g2⟩ := List.mem_map.1 g
     exact ⟨n, g1, by omega, by omega⟩
   · obtain ⟨n, g1, g2⟩ := List.mem_map.1 g
     exact ⟨n, g1, by omega, by omega⟩) hT3
 have hML := len_ksum l2
 obtain ⟨r, r1, r2⟩ := sort_ex M'
 have hnr : (zBg r).Nodup := (r1.map _).symm.nodup_iff.1 l2.nod
 have hra : Asc r := asc_of hnr r2
 refine ⟨r, ?_, l2.perm r1.symm, hra, fun m h1 h2 => l3 m h1 ((can_perm l2.nod r1.symm m).2 h2), fun hno => ?_, by have := r1.length_eq; omega, M', l6.2, r1⟩
 · unfold F18
   rw [zAV hq, zCl (show ine 0 0 = false from rfl), zAq (mk8 (by show nodes.length ≤ _; omega))]
   refine Eq.trans (join_l hl1) ?_
   dsimp only
   rw [zAV hT1, zAq (by rw [ine_d]; simp; omega)]
   refine Eq.trans (join_l l1) ?_
   rw [zAq (mk16 (by show M'.length ≤ _; omega))]
   refine mrange_of fun l' hl' => ?_
   have hl'n := hl'.length_eq
   have hq : callQ (Q50 l') (fun (r17 : (List (Int × Int))) => some ((((w : Int), k, count, r17), (0 : Int)) : Dg × Int)) = some (((w : Int), k, count, r), 0) := by
     refine callQ_of ⟨r, ⟨by omega, fun n hn => ⟨n.1, rfl, ?_⟩, r1.trans hl'.symm, r2⟩⟩ fun a ha => ?_
     · obtain ⟨⟨x, hx, hX⟩, _⟩ := l2.node n.1 (List.mem_map_of_mem (hl'.subset hn))
       have hx2 := hX.x2
       have hp : 2 ^ (w + 1) = 2 * 2 ^ w := by rw [Nat.pow_succ]; omega
       exact ⟨by omega, by omega⟩
     · obtain ⟨_, _, a1, a2⟩ := ha
       have hna : (zBg a).Nodup := ((a1.trans hl').map _).symm.nodup_iff.1 l2.nod
       have := asc_unique (asc_of hna a2) hra ((a1.trans hl').trans r1.symm)
       rw [this]
   refine foldM_app l' _ (by simp [lrep]; omega) ?_
   show Go.T.up (callQ (Q50 l') _) = _
   rw [hq]; rfl
 · have := l4 hno
   subst this
   exact asc_unique hra D.asc r1
theorem join_it {S S' R : Type} {body : S → Option (S ⊕ (S' ⊕ R))} {s : S} {k : S' → Option R} (n : Nat) (s' : S') (h : iterN body n s = some (.inl s')) : join (iter body s) k = k s' := join_l (iter_of h)
theorem t39 : F39 (3, 2, [1, 1, 5, 6]) = some ((3, 2, 4, [(9, 2), (13, 1), (14, 1)]), true) := by
 unfold F39
 rw [zAV (show F13 (3, 2) = some ((3, 2, 0, []), 0) by kernel_rfl)]
 exact Eq.trans (join_it 6 (0, 3, 2, 4, [(9, 2), (13, 1), (14, 1)]) (by kernel_rfl)) rfl
theorem t18 : F18 (3, 2, 4, [(9, 2), (13, 1), (14, 1)]) = some ((3, 2, 4, [(2, 2), (3, 2)]), 0) := by
 unfold F18
 rw [zAV (F20_eq 3 2 4 [(9, 2), (13, 1), (14, 1)]), zCl (by kernel_rfl), zAq (by kernel_rfl)]
 refine Eq.trans (join_it 5 ([(9, 2), (13, 1), (14, 1)], [4, 6, 7]) (by kernel_rfl)) ?_
 rw [zAV (show F46 [4, 6, 7] = some [7, 6, 4] by kernel_rfl), zAq (by kernel_rfl)]
 refine Eq.trans (join_it (body := body18 (3, 2, 4, [(9, 2), (13, 1), (14, 1)])) 40 [(3, 2), (2, 2)] (by kernel_rfl)) ?_
 rw [zAq (by kernel_rfl)]
 refine mrange_of fun l' hl' => ?_
 have hn := hl'.length_eq
 have hp : l'.Perm [(2, 2), (3, 2)] := hl'.trans (List.Perm.swap _ _ _)
 have hra : Asc [(2, 2), (3, 2)] := by unfold Asc; simp
 refine foldM_app l' _ (by rw [hn]; decide) ?_
 have hq : callQ (Q50 l') (fun (r17 : (List (Int × Int))) => some ((((3 : Int), (2 : Int), (4 : Int), r17), (0 : Int)) : Dg × Int)) = some ((3, 2, 4, [(2, 2), (3, 2)]), 0) := by
   refine callQ_of ⟨[(2, 2), (3, 2)], ⟨by rw [hn]; decide, fun n hm => ⟨n.1, rfl, ?_⟩, hp.symm, ?_⟩⟩ fun a ha => ?_
   · have := hp.subset hm
     simp at this
     rcases this with rfl | rfl <;> exact ⟨by decide, by decide⟩
   · exact hra.imp fun {a b} h i j hi hj => by
       have := Option.some.inj hi; have := Option.some.inj hj; omega
   · obtain ⟨_, _, a1, a2⟩ := ha
     have hna : (zBg a).Nodup := ((a1.trans hp).map _).symm.nodup_iff.1 (asc_nodup hra)
     rw [asc_unique (asc_of hna a2) hra (a1.trans hp)]
 show Go.T.up (callQ (Q50 l') _) = _
 rw [hq]; rfl
theorem key_unique {kf : Nd → Int} : ∀ {l r : List Nd}, (l.Pairwise fun a b => kf a < kf b) → (r.Pairwise fun a b => kf a ≤ kf b) → r.Perm l → r = l
 | [], r, _, _, h => List.perm_nil.1 h
 | a :: l, [], _, _, h => absurd h.length_eq (by simp)
 | a :: l, b :: r, ha, hb, h => by
   have ha' := List.pairwise_cons.1 ha
   have hb' := List.pairwise_cons.1 hb
   have e : b = a := by
     have h1 : b ∈ a :: l := h.subset (by simp)
     have h2 : a ∈ b :: r := h.symm.subset (by simp)
     rcases List.mem_cons.1 h1 with h1 | h1
     · exact h1
     rcases List.mem_cons.1 h2 with h2 | h2
     · exact h2.symm
     have := ha'.1 b h1
     have := hb'.1 a h2
     omega
   subst e
   rw [key_unique ha'.2 hb'.2 ((List.perm_cons b).1 h)]
theorem t22 : F22 ((3, 2, 4, [(2, 2), (3, 2)]), 5) = some (2, 4, 0) := (F22_eq _ _ _ _ _).trans (by kernel_rfl)
theorem t57 : F57 (1, 2) = some 0 := by
 unfold F57
 rw [zCl (by kernel_rfl), zCl (by kernel_rfl), zAV (show F82 1 = some 1 by kernel_rfl), zAV (a := 1) ?_]
 · rfl
 · unfold F81
   exact Eq.trans (join_it 5 1 (by kernel_rfl)) rfl
theorem t61a : F61a ([(2, 2), (3, 2)], 2, (), (3, 2, 4, [(2, 2), (3, 2)])) = some 0 := by
 unfold F61a
 have k1 : F59 ((2, 2), (3, 2, 4, [(2, 2), (3, 2)])) = some 0 := by kernel_rfl
 have k2 : F59 ((3, 2), (3, 2, 4, [(2, 2), (3, 2)])) = some 4 := by kernel_rfl
 have hpw : ([(2, 2), (3, 2)] : List Nd).Pairwise fun a b => (F59 (a, (3, 2, 4, [(2, 2), (3, 2)]))).getD 0 < (F59 (b, (3, 2, 4, [(2, 2), (3, 2)]))).getD 0 := by
   simp only [List.pairwise_cons, List.mem_singleton, forall_eq]
   rw [k1, k2]; simp
 have hdom : ∀ n ∈ ([(2, 2), (3, 2)] : List Nd), ∃ k, F59 (n, (3, 2, 4, [(2, 2), (3, 2)])) = some k ∧ keyOk k := fun n hn => by
   simp at hn
   rcases hn with rfl | rfl
   · exact ⟨_, k1, by decide, by decide⟩
   · exact ⟨_, k2, by decide, by decide⟩
 refine callQ_of ⟨[(2, 2), (3, 2)], by simp, by decide, hdom, .refl _, ?_⟩ fun r hr => ?_
 · exact hpw.imp fun {a b} h i j hi hj => by dsimp only at hi hj; rw [hi, hj] at h; simp at h; omega
 · obtain ⟨_, _, _, hp, hs⟩ := hr
   have hp : r.Perm [(2, 2), (3, 2)] := hp
   have : r = [(2, 2), (3, 2)] := key_unique hpw (hs.imp_of_mem fun {a b} ha hb h => by
     obtain ⟨i, hi, _⟩ := hdom a (hp.subset ha)
     obtain ⟨j, hj, _⟩ := hdom b (hp.subset hb)
     rw [hi, hj]; exact h i j hi hj) hp
   subst this
   exact Eq.trans (join_it 5 0 (by kernel_rfl)) rfl
theorem t61b : F61b ([(2, 2), (3, 2)], 2, (), (3, 2, 4, [(2, 2), (3, 2)])) = some 3 := by
 unfold F61b
 have k1 : F60 ((2, 2), (3, 2, 4, [(2, 2), (3, 2)])) = some 3 := by kernel_rfl
 have k2 : F60 ((3, 2), (3, 2, 4, [(2, 2), (3, 2)])) = some 7 := by kernel_rfl
 have hpw : ([(2, 2), (3, 2)] : List Nd).Pairwise fun a b => (F60 (a, (3, 2, 4, [(2, 2), (3, 2)]))).getD 0 < (F60 (b, (3, 2, 4, [(2, 2), (3, 2)]))).getD 0 := by
   simp only [List.pairwise_cons, List.mem_singleton, forall_eq]
   rw [k1, k2]; simp
 have hdom : ∀ n ∈ ([(2, 2), (3, 2)] : List Nd), ∃ k, F60 (n, (3, 2, 4, [(2, 2), (3, 2)])) = some k ∧ keyOk k := fun n hn => by
   simp at hn
   rcases hn with rfl | rfl
   · exact ⟨_, k1, by decide, by decide⟩
   · exact ⟨_, k2, by decide, by decide⟩
 refine callQ_of ⟨[(2, 2), (3, 2)], by simp, by decide, hdom, .refl _, ?_⟩ fun r hr => ?_
 · exact hpw.imp fun {a b} h i j hi hj => by dsimp only at hi hj; rw [hi, hj] at h; simp at h; omega
 · obtain ⟨_, _, _, hp, hs⟩ := hr
   have hp : r.Perm [(2, 2), (3, 2)] := hp
   have : r = [(2, 2), (3, 2)] := key_unique hpw (hs.imp_of_mem fun {a b} ha hb h => by
     obtain ⟨i, hi, _⟩ := hdom a (hp.subset ha)
     obtain ⟨j, hj, _⟩ := hdom b (hp.subset hb)
     rw [hi, hj]; exact h i j hi hj) hp
   subst this
   exact Eq.trans (join_it 5 3 (by kernel_rfl)) rfl
theorem t24 : F24 ((3, 2, 4, [(2, 2), (3, 2)]), 1, 2) = some (0, 3, 0) := by
 unfold F24
 rw [zAV (show F20 (3, 2, 4, [(2, 2), (3, 2)]) = some 0 from (F20_eq _ _ _ _).trans (by kernel_rfl))]
 rw [sel_t (show bnot (ine 0 0) = true by kernel_rfl), zAV t57, zCl (by kernel_rfl), zCl (by kernel_rfl), zCl (by kernel_rfl), zAV (show F58 ((1, 2), 4) = some 2 by kernel_rfl)]
 exact Eq.trans (zAV t61a) (zAV t61b)
theorem t40 : F40 ([(2, 2), (3, 2)], [(2, 2), (3, 2)]) = some true := by
 unfold F40
 rw [zCl (by kernel_rfl)]
 exact Eq.trans (join_it 5 () (by kernel_rfl)) rfl
theorem awake : F12 () = some true := by
 unfold F12
 rw [zAV t39, zAV t18, zAV t22, zAV t24, sel_t (by kernel_rfl), sel_t (by kernel_rfl), zAV t40]
 rfl
theorem fold_rk (w : Nat) (v : Int) : ∀ (l : List Nd) (a b : Int), l.foldl (rkG w v) (a, b) = (a + zCP (zDX w v) l, b + zCP (zDW w v) l)
 | [], a, b => by simp [zCP]
 | n :: l, a, b => by
   rw [List.foldl_cons, show rkG w v (a, b) n = (a + n.2 * zDX w v n.1, b + n.2 * zDW w v n.1) by
     unfold rkG zDX zDW
     dsimp only
     congr 1
     · split <;> simp
     · split <;> simp, fold_rk w v l, zAe, zAe, Int.add_assoc, Int.add_assoc]
theorem chk_ok {bits count th : Int} : ∀ {l : List Nd} {before sum : Int}, (∀ n ∈ l, before < n.1 ∧ n.1 < shl 2 bits ∧ 1 ≤ n.2 ∧ n.2 ≤ count ∧ (n.1 < shl 1 bits → n.2 ≤ th)) → Asc l → chk bits count th l before sum = some (sum + (l.map (·.2)).sum)
 | [], before, sum, _, _ => by simp [chk]
 | n :: l, before, sum, h, ha => by
   obtain ⟨h1, h2, h3, h4, h5⟩ := h n (by simp)
   have ha' := List.pairwise_cons.1 ha
   rw [chk, if_neg (by omega), if_neg (by omega), chk_ok (fun m hm => ?_) ha'.2]
   · simp [Int.add_assoc]
   · obtain ⟨_, g⟩ := h m (by simp [hm])
     exact ⟨ha'.1 m hm, g⟩
theorem Cmpd.check {w : Nat} {k count : Int} {nodes r : List Nd} (D : Dig w k count nodes) (C : Cmpd w k count nodes r) : zDC (w : Int) k count r = 0 := by
 have hlen := C.len
 have := D.len; have := D.w1; have := D.w2; have := D.k1; have := D.k2; have := D.c0; have := D.c1
 have p2 := shl_two (bits := (w : Int)) ⟨by omega, by omega⟩
 have p1 := shl_one (bits := (w : Int)) ⟨by omega, by omega⟩
 rw [Int.toNat_natCast] at p1 p2
 unfold zDC
 rw [if_neg (by omega), if_neg (by omega), chk_ok (fun n hn => ?_) C.asc]
 · have hs : (r.map (·.2)).sum = count := by
     have := C.inv.sum
     unfold zCP at this
     simpa using this
   simp only [hs, Int.zero_add]
   rw [if_neg (by simp)]
 · have hk : n.1 ∈ zBg r := List.mem_map_of_mem hn
   have hc := cn_at C.inv.nod hn
   obtain ⟨⟨x, hx, hX⟩, h1, h2⟩ := C.inv.node n.1 hk
   have h3 := C.inv.inner n.1 hk
   rw [hc] at h1 h2 h3
   have hx1 := hX.x1; have hx2 := hX.x2
   refine ⟨by omega, by omega, h1, h2, fun h => h3 (by omega)⟩
def ins : List Nd → Int → Int → List Nd
 | [], id, n => [(id, n)]
 | p :: l, id, n => if p.1 < id then p :: ins l id n else if p.1 = id then (id, p.2 + n) :: l else (id, n) :: p :: l
theorem mem_ins {id n : Int} {m : Nd} : ∀ {l : List Nd}, m ∈ ins l id n → m.1 = id ∨ m ∈ l
 | [], h => by simp [ins] at h; subst h; exact .inl rfl
 | p :: l, h => by
   rw [ins] at h
   split at h
   · rcases List.mem_cons.1 h with h | h
     · subst h; exact .inr (by simp)
     · rcases mem_ins h with h | h
       · exact .inl h
       · exact .inr (by simp [h])
   · split at h
     · rcases List.mem_cons.1 h with h | h
       · subst h; exact .inl rfl
       · exact .inr (by simp [h])
     · rcases List.mem_cons.1 h with h | h
       · subst h; exact .inl rfl
       · exact .inr h
theorem ins_asc {id n : Int} : ∀ {l : List Nd}, Asc l → Asc (ins l id n)
 | [], _ => List.pairwise_singleton _ _
 | p :: l, h => by
   have h' := List.pairwise_cons.1 h
   rw [ins]
   split
   · rename_i g
     refine List.pairwise_cons.2 ⟨fun m hm => ?_, ins_asc h'.2⟩
     rcases mem_ins hm with e | e
     · omega
     · exact h'.1 m e
   · split
     · rename_i g1 g2
       exact List.pairwise_cons.2 ⟨fun m hm => by have := h'.1 m hm; dsimp only; omega, h'.2⟩
     · rename_i g1 g2
       refine List.pairwise_cons.2 ⟨fun m hm => ?_, h⟩
       rcases List.mem_cons.1 hm with rfl | e
       · dsimp only; omega
       · have := h'.1 m e; dsimp only; omega
theorem keys_ins {id n j : Int} : ∀ {l : List Nd}, j ∈ zBg (ins l id n) ↔ j = id ∨ j ∈ zBg l
 | [] => by simp [ins, zBg]
 | p :: l => by
   rw [ins]
   split
   · rw [zBb, List.mem_cons, keys_ins, zBb, List.mem_cons]
     exact ⟨fun h => by rcases h with h | h | h <;> simp [h], fun h => by rcases h with h | h | h <;> simp [h]⟩
   · split
     · rename_i g1 g2
       rw [zBb, List.mem_cons, zBb, List.mem_cons, g2]
       exact ⟨fun h => .inr h, fun h => h.elim .inl fun h => h⟩
     · rw [zBb, List.mem_cons]
theorem asc_lt {p : Nd} {l : List Nd} (h : Asc (p :: l)) {j : Int} (hj : j ≤ p.1) : j ∉ zBg l := fun hm => by
 obtain ⟨m, hm', rfl⟩ := List.mem_map.1 hm
 have := (List.pairwise_cons.1 h).1 m hm'
 omega
theorem cn_ins {id n : Int} (j : Int) : ∀ {l : List Nd}, Asc l → cn (ins l id n) j = cn l j + if j = id then n else 0
 | [], _ => by
   unfold cn
   rw [ins, get_nil]
   by_cases h : j = id
   · subst h; rw [get_eq, if_pos rfl]; omega
   · rw [zDQ 0 h, get_nil, if_neg h]; rfl
 | p :: l, h => by
   have h' := List.pairwise_cons.1 h
   obtain ⟨a, c⟩ := p
   unfold cn at *
   rw [ins]
   dsimp only
   split
   · rename_i g
     by_cases e : j = a
     · subst e; rw [get_eq, get_eq, if_neg (by omega)]; omega
     · rw [zDQ 0 e, zDQ 0 e]; exact cn_ins j h'.2
   · split
     · rename_i g1 g2
       subst g2
       by_cases e : j = a
       · subst e; rw [get_eq, get_eq, if_pos rfl]
       · rw [zDQ 0 e, zDQ 0 e, if_neg e]; omega
     · rename_i g1 g2
       by_cases e : j = id
       · subst e
         rw [get_eq, zDQ 0 (fun e => g2 e.symm), get_out 0 (asc_lt h (by dsimp only; omega)), if_pos rfl]; omega
       · rw [zDQ 0 e, if_neg e]; omega
theorem wsum_ins (g : Int → Int) {id n : Int} : ∀ {l : List Nd}, zCP g (ins l id n) = zCP g l + n * g id
 | [] => by rw [ins, zAe, wsum_nil]; dsimp only; omega
 | p :: l => by
   rw [ins]
   split
   · rw [zAe, zAe, wsum_ins g]; omega
   · split
     · rename_i g1 g2
       rw [zAe, zAe, g2]; dsimp only; rw [Int.add_mul]; omega
     · rw [zAe]; dsimp only; omega
theorem len_ins {id n : Int} : ∀ {l : List Nd}, l.length ≤ (ins l id n).length ∧ (ins l id n).length ≤ l.length + 1
 | [] => by simp [ins]
 | p :: l => by
   have := len_ins (id := id) (n := n) (l := l)
   rw [ins]
   split
   · simp; omega
   · split <;> simp
theorem fnd_cons (p : Nd) (l : List Nd) (t : Int) : fnd (p :: l) t = (p.1 == t || fnd l t) := rfl
theorem fnd_iff (l : List Nd) (t : Int) : fnd l t = true ↔ t ∈ zBg l := by
 simp [fnd, zBg]
theorem lb_cons_lt {p : Nd} {l : List Nd} {t : Int} (h : p.1 < t) : lb (p :: l) t = lb l t + 1 := by
 unfold lb; rw [List.takeWhile_cons_of_pos (by simpa using h)]; rfl
theorem lb_cons_ge {p : Nd} {l : List Nd} {t : Int} (h : ¬ p.1 < t) : lb (p :: l) t = 0 := by
 unfold lb; rw [List.takeWhile_cons_of_neg (by simpa using h)]; rfl
theorem ins_bump {id n : Int} : ∀ {l : List Nd}, fnd l id = true → Asc l → bump l (lb l id) n = ins l id n ∧ (ins l id n).length = l.length
 | [], h, _ => by cases h
 | p :: l, h, ha => by
   rw [ins]
   by_cases g : p.1 < id
   · rw [lb_cons_lt g, if_pos g]
     rw [fnd_cons, Bool.or_eq_true, beq_iff_eq] at h
     obtain ⟨i1, i2⟩ := ins_bump (n := n) (h.resolve_left (by omega)) (List.pairwise_cons.1 ha).2
     refine ⟨?_, by simp [i2]⟩
     rw [← i1]; rfl
   · rw [lb_cons_ge g, if_neg g]
     by_cases e : p.1 = id
     · rw [if_pos e, ← e]; exact ⟨rfl, rfl⟩
     · exact absurd ((fnd_iff _ _).1 h) (fun hm => by
         rw [zBb, List.mem_cons] at hm
         exact asc_lt ha (by omega) (hm.resolve_left (Ne.symm e)))
theorem ins_new {id n : Int} : ∀ {l : List Nd}, fnd l id = false → insL l (lb l id) (id, n) = ins l id n ∧ (ins l id n).length = l.length + 1
 | [], _ => ⟨rfl, rfl⟩
 | p :: l, h => by
   rw [fnd_cons, Bool.or_eq_false_iff] at h
   have hne : p.1 ≠ id := by simpa using h.1
   rw [ins]
   by_cases g : p.1 < id
   · rw [lb_cons_lt g, if_pos g]
     obtain ⟨i1, i2⟩ := ins_new (n := n) h.2
     refine ⟨?_, by simp [i2]⟩
     rw [← i1]; rfl
   · rw [lb_cons_ge g, if_neg g, if_neg hne]
     exact ⟨rfl, rfl⟩
theorem wsum1 (l : List Nd) : zCP (fun _ => 1) l = (l.map (·.2)).sum := by unfold zCP; simp
theorem Dig.check {w : Nat} {k count : Int} {r : List Nd} (D : Dig w k count r) : zDC (w : Int) k count r = 0 := by
 have := D.len; have := D.w1; have := D.w2; have := D.k1; have := D.k2; have := D.c0; have := D.c1
 have p2 := shl_two (bits := (w : Int)) ⟨by omega, by omega⟩
 have p1 := shl_one (bits := (w : Int)) ⟨by omega, by omega⟩
 rw [Int.toNat_natCast] at p1 p2
 unfold zDC
 rw [if_neg (by omega), if_neg (by omega), chk_ok (fun n hn => ?_) D.asc]
 · simp only [D.sum, Int.zero_add]
   rw [if_neg (by simp)]
 · obtain ⟨⟨x, hx, hX⟩, h1, h2⟩ := D.node n hn
   have h3 := D.inner n hn
   have hx1 := hX.x1; have hx2 := hX.x2
   exact ⟨by omega, by omega, h1, h2, fun h => h3 (by omega)⟩
theorem Dig.of_cn {w : Nat} {k count : Int} {r : List Nd} (hw : 1 ≤ w ∧ w ≤ 20) (hk : 1 ≤ k ∧ k ≤ 10000) (hc : 0 ≤ count ∧ count ≤ 1099511627776) (hl : r.length ≤ 2000) (ha : Asc r)
   (hn : ∀ id ∈ zBg r, (∃ x : Nat, id = x ∧ Nod w x) ∧ 1 ≤ cn r id ∧ cn r id ≤ count) (hi : ∀ id ∈ zBg r, id < ((2 ^ w : Nat) : Int) → cn r id ≤ thr count k) (hs : zCP (fun _ => 1) r = count) : Dig w k count r := by
 refine ⟨hw.1, hw.2, hk.1, hk.2, hc.1, hc.2, hl, fun n h => ?_, fun n h => ?_, ha, ?_⟩
 · have := hn n.1 (List.mem_map_of_mem h)
   rw [cn_at (asc_nodup ha) h] at this; exact this
 · have := hi n.1 (List.mem_map_of_mem h)
   rw [cn_at (asc_nodup ha) h] at this; exact this
 · rw [← wsum1]; exact hs
theorem Cmpd.dig {w : Nat} {k count : Int} {nodes r : List Nd} (D : Dig w k count nodes) (C : Cmpd w k count nodes r) : Dig w k count r :=
 .of_cn ⟨D.w1, D.w2⟩ ⟨D.k1, D.k2⟩ ⟨D.c0, D.c1⟩ (Nat.le_trans C.len D.len) C.asc C.inv.node C.inv.inner C.inv.sum
theorem thr_mono {a b k : Int} (ha : 0 ≤ a) (hab : a ≤ b) (hb : b ≤ 1099511627776) (hk : 1 ≤ k) : thr a k ≤ thr b k := by
 rw [(thr_le ⟨ha, by omega⟩ hk).1, (thr_le ⟨by omega, hb⟩ hk).1]
 exact Int.ediv_le_ediv (by omega) hab
theorem Dig.add {w : Nat} {k count v n : Int} {nodes : List Nd} (D : Dig w k count nodes) (hv : 0 ≤ v ∧ v < ((2 ^ w : Nat) : Int)) (hn : 1 ≤ n) (hc : count + n ≤ 1099511627776) (hl : (ins nodes (((2 ^ w : Nat) : Int) + v) n).length ≤ 2000) : Dig w k (count + n) (ins nodes (((2 ^ w : Nat) : Int) + v) n) := by
 have c0 := D.c0
 refine .of_cn ⟨D.w1, D.w2⟩ ⟨D.k1, D.k2⟩ ⟨by omega, hc⟩ hl (ins_asc D.asc) (fun id h => ?_) (fun id h hlt => ?_) ?_
 · have hcn := D.inv.cn0 id
   rw [cn_ins id D.asc]
   rcases keys_ins.1 h with rfl | h
   · have hp : 2 ^ (w + 1) = 2 * 2 ^ w := by rw [Nat.pow_succ]; omega
     rw [if_pos rfl]
     exact ⟨⟨2 ^ w + v.toNat, by omega, ⟨D.w1, D.w2, by have := Nat.two_pow_pos w; omega, by omega⟩⟩, by omega, by omega⟩
   · obtain ⟨hN, _⟩ := D.inv.node id h
     have := hcn.2.1 h
     refine ⟨hN, ?_⟩
     split <;> omega
 · rcases keys_ins.1 h with rfl | h
   · omega
   · rw [cn_ins id D.asc, if_neg (by omega)]
     have := D.inv.inner id h hlt
     have := thr_mono c0 (show count ≤ count + n by omega) hc D.k1
     omega
 · rw [wsum_ins, D.inv.sum]; omega
theorem F16_eq {bits k count : Int} {nodes : List Nd} {v n : Int} (hl : nodes.length ≤ 100000000) (hv : inI v) (hn : inI n) : F16 ((bits, k, count, nodes), v, n) = some (if zDC bits k count nodes ≠ 0 then (zDg, 1) else if v < 0 ∨ shl 1 bits ≤ v ∨ n < 1 then (zDg, 2) else if 1099511627776 - count < n then (zDg, 4) else if 2000 < (ins nodes (shl 1 bits + v) n).length then (zDg, 4) else ((bits, k, count + n, ins nodes (shl 1 bits + v) n), 0)) := by
 unfold F16
 rw [if_pos ⟨hl, hv, hn⟩]
 congr 1
 dsimp only
 unfold qaddT
 by_cases h0 : zDC bits k count nodes ≠ 0
 · rw [if_pos h0, if_pos h0]
 rw [if_neg h0, if_neg h0]
 obtain ⟨hb, D⟩ := dig_of (by omega : zDC bits k count nodes = 0)
 have hlen := D.len
 split
 · rfl
 split
 · rfl
 by_cases hf : fnd nodes (shl 1 bits + v) = true
 · obtain ⟨i1, i2⟩ := ins_bump (n := n) hf D.asc
   rw [if_pos hf, i1, if_neg (by omega)]
 · obtain ⟨i1, i2⟩ := ins_new (n := n) (Bool.eq_false_iff.2 hf)
   rw [if_neg hf, i1]
   by_cases h2 : 2000 ≤ nodes.length
   · rw [if_pos h2, if_pos (by omega)]
   · rw [if_neg h2, if_neg (by omega)]
def rnk (all : List Int) (v : Int) : Int := (all.map fun x => if x ≤ v then (1 : Int) else 0).sum
theorem rnk_add (all : List Int) (x v : Int) : rnk (all ++ [x]) v = rnk all v + if x ≤ v then 1 else 0 := by
 unfold rnk; simp
theorem rnk_app (a b : List Int) (v : Int) : rnk (a ++ b) v = rnk a v + rnk b v := by
 unfold rnk; simp
theorem wsum_le {g h : Int → Int} : ∀ {M : KV Int}, (∀ p ∈ M, 0 ≤ p.2 ∧ g p.1 ≤ h p.1) → zCP g M ≤ zCP h M
 | [], _ => Int.le_refl _
 | p :: M, H => by
   obtain ⟨a, b⟩ := H p (by simp)
   have := Int.mul_le_mul_of_nonneg_left b a
   have := wsum_le (g := g) (h := h) (M := M) fun q hq => H q (by simp [hq])
   rw [zAe, zAe]; omega
theorem wsum_plus (g h : Int → Int) : ∀ (M : KV Int), zCP (fun x => g x + h x) M = zCP g M + zCP h M
 | [] => rfl
 | p :: M => by rw [zAe, zAe, zAe, wsum_plus g h M, Int.mul_add]; omega
theorem wsum_zero : ∀ (M : KV Int), zCP (fun _ => 0) M = 0
 | [] => rfl
 | p :: M => by rw [zAe, wsum_zero M]; simp
theorem wsum_at (a : Int) : ∀ {M : KV Int}, (zBg M).Nodup → zCP (fun x => if x = a then 1 else 0) M = cn M a
 | [], _ => rfl
 | (j, x) :: M, h => by
   rw [zBb, List.nodup_cons] at h
   rw [zAe, wsum_at a h.2]
   unfold cn
   by_cases e : a = j
   · subst e
     rw [get_eq, if_pos rfl, get_out 0 h.1]; simp
   · rw [zDQ 0 e, if_neg (fun e' => e e'.symm)]; simp
def anc (w : Nat) (v : Int) (s : Nat) : Int := (((2 ^ w + v.toNat) / 2 ^ s : Nat) : Int)
def ancs (w : Nat) (v : Int) : Nat → Int → Int
 | 0, _ => 0
 | n + 1, id => ancs w v n id + if id = anc w v (n + 1) then 1 else 0
theorem ancs_nn (w : Nat) (v id : Int) : ∀ n, 0 ≤ ancs w v n id
 | 0 => Int.le_refl _
 | n + 1 => by have := ancs_nn w v id n; rw [ancs]; split <;> omega
theorem ancs_ge {w : Nat} {v id : Int} {s : Nat} (hs : 1 ≤ s) (h : id = anc w v s) : ∀ {n}, s ≤ n → 1 ≤ ancs w v n id
 | 0, h' => by omega
 | n + 1, h' => by
   rw [ancs]
   by_cases e : s = n + 1
   · subst e; rw [if_pos h]; have := ancs_nn w v id n; omega
   · have := ancs_ge hs h (n := n) (by omega)
     split <;> omega
theorem ind_anc {w x : Nat} {v : Int} (h : Nod w x) (hv : 0 ≤ v) : zDW w v x ≤ zDX w v x + ancs w v w x := by
 have h0 := ancs_nn w v x w
 unfold zDW zDX
 rw [Int.toNat_natCast]
 by_cases h1 : LO w x ≤ v
 · rw [if_pos h1]
   by_cases h2 : HI w x ≤ v
   · rw [if_pos h2]; omega
   · rw [if_neg h2]
     unfold LO HI at *
     obtain ⟨b1, b2, b3⟩ := h.bounds
     have hs : 1 ≤ sh w x := by
       rcases Nat.eq_zero_or_pos (sh w x) with e | e
       · rw [e] at h1 h2; simp at h1 h2; omega
       · exact e
     have : (x : Int) = anc w v (sh w x) := by
       unfold anc
       congr 1
       symm
       rw [Nat.div_eq_iff (Nat.two_pow_pos _)]
       have e : (x + 1) * 2 ^ sh w x = x * 2 ^ sh w x + 2 ^ sh w x := Nat.succ_mul _ _
       have e2 : x * 2 ^ sh w x = 2 ^ sh w x * x := Nat.mul_comm _ _
       omega
     have := ancs_ge hs this b3
     omega
 · rw [if_neg h1]
   split <;> omega
theorem Dig.width {w : Nat} {k count v : Int} {nodes : List Nd} (D : Dig w k count nodes) (hv : 0 ≤ v ∧ v < ((2 ^ w : Nat) : Int)) : zCP (zDW w v) nodes ≤ zCP (zDX w v) nodes + w * thr count k := by
 have h1 : zCP (zDW w v) nodes ≤ zCP (fun x => zDX w v x + ancs w v w x) nodes := wsum_le fun p hp => by
   obtain ⟨⟨x, hx, hX⟩, h1, _⟩ := D.node p hp
   rw [hx]
   exact ⟨by omega, ind_anc hX hv.1⟩
 rw [wsum_plus] at h1
 have th0 := (thr_le ⟨D.c0, D.c1⟩ D.k1).2.1
 have hcn : ∀ s, 1 ≤ s → cn nodes (anc w v s) ≤ thr count k := fun s hs => by
   by_cases hk : anc w v s ∈ zBg nodes
   · refine D.inv.inner _ hk ?_
     have : (2 ^ w + v.toNat) / 2 ^ s < 2 ^ w := by
       rw [Nat.div_lt_iff_lt_mul (Nat.two_pow_pos _)]
       have : 2 ^ w * 2 ≤ 2 ^ w * 2 ^ s := Nat.mul_le_mul_left _ (by
         calc 2 = 2 ^ 1 := rfl
           _ ≤ 2 ^ s := Nat.pow_le_pow_right (by decide) hs)
       omega
     unfold anc; omega
   · rw [show cn nodes (anc w v s) = 0 from get_out 0 hk]; exact th0
 have h2 : ∀ n : Nat, zCP (ancs w v n) nodes ≤ n * thr count k := by
   intro n
   induction n with
   | zero => rw [show ancs w v 0 = fun _ => 0 from rfl, wsum_zero]; simp
   | succ n ih =>
     rw [show ancs w v (n + 1) = fun x => ancs w v n x + (if x = anc w v (n + 1) then 1 else 0) from rfl, wsum_plus, wsum_at _ D.inv.nod]
     have := hcn (n + 1) (by omega)
     have e : ((n + 1 : Nat) : Int) * thr count k = n * thr count k + thr count k := by push_cast; rw [Int.add_mul, Int.one_mul]
     omega
 have := h2 w
 omega
structure Tru (w : Nat) (k : Int) (nodes : List Nd) (all : List Int) : Prop where
 dig : Dig w k all.length nodes
 lo : ∀ v, zCP (zDX w v) nodes ≤ rnk all v
 hi : ∀ v, rnk all v ≤ zCP (zDW w v) nodes
theorem Tru.cmp {w : Nat} {k : Int} {nodes r : List Nd} {all : List Int} (T : Tru w k nodes all) (C : Cmpd w k all.length nodes r) : Tru w k r all :=
 ⟨C.dig T.dig, fun v => Int.le_trans (C.inv.lo v) (T.lo v), fun v => Int.le_trans (T.hi v) (C.inv.hi v)⟩
theorem leaf_ind {w : Nat} {v x : Int} (hw : 1 ≤ w ∧ w ≤ 20) (hx : 0 ≤ x ∧ x < ((2 ^ w : Nat) : Int)) : zDX w v (((2 ^ w : Nat) : Int) + x) = (if x ≤ v then 1 else 0) ∧ zDW w v (((2 ^ w : Nat) : Int) + x) = (if x ≤ v then 1 else 0) := by
 have hp : 2 ^ (w + 1) = 2 * 2 ^ w := by rw [Nat.pow_succ]; omega
 have e : (((2 ^ w : Nat) : Int) + x).toNat = 2 ^ w + x.toNat := by omega
 have hb : blen (2 ^ w + x.toNat) = w + 1 := blen_of (by omega) (by omega)
 have hs : sh w (2 ^ w + x.toNat) = 0 := by unfold sh; omega
 unfold zDX zDW HI LO
 rw [e, hs]
 simp only [Nat.pow_zero, Nat.mul_one]
 constructor
 · split <;> split <;> omega
 · split <;> split <;> omega
theorem Tru.add {w : Nat} {k x : Int} {nodes : List Nd} {all : List Int} (T : Tru w k nodes all) (hx : 0 ≤ x ∧ x < ((2 ^ w : Nat) : Int)) (hl : all.length < 1000) : Tru w k (ins nodes (((2 ^ w : Nat) : Int) + x) 1) (all ++ [x]) ∧ (ins nodes (((2 ^ w : Nat) : Int) + x) 1).length ≤ 2000 := by
 have D := T.dig
 have h1 : (nodes.length : Int) ≤ all.length := by
   have := D.inv.sum
   have h : zCP (fun _ => 1) nodes = all.length := this
   rw [← h]
   have : ∀ M : KV Int, (∀ p ∈ M, 1 ≤ p.2) → (M.length : Int) ≤ zCP (fun _ => 1) M := by
     intro M
     induction M with
     | nil => intro _; simp [zCP]
     | cons p M ih =>
       intro H
       have := ih fun q hq => H q (by simp [hq])
       have := H p (by simp)
       rw [zAe, List.length_cons]; push_cast; omega
   exact this nodes fun p hp => (D.node p hp).2.1
 have h2 := len_ins (id := ((2 ^ w : Nat) : Int) + x) (n := 1) (l := nodes)
 have e : (((all ++ [x]).length : Nat) : Int) = all.length + 1 := by simp
 refine ⟨⟨?_, fun v => ?_, fun v => ?_⟩, by omega⟩
 · rw [e]; exact D.add hx (by omega) (by omega) (by omega)
 · rw [wsum_ins, rnk_add, (leaf_ind ⟨D.w1, D.w2⟩ hx).1]
   have := T.lo v; omega
 · rw [wsum_ins, rnk_add, (leaf_ind ⟨D.w1, D.w2⟩ hx).2]
   have := T.hi v; omega
theorem ind_01 (w : Nat) (v id : Int) : (0 ≤ zDX w v id ∧ zDX w v id ≤ 1) ∧ (0 ≤ zDW w v id ∧ zDW w v id ≤ 1) := by
 unfold zDX zDW
 constructor
 · split <;> omega
 · split <;> omega
theorem Dig.rank {w : Nat} {k count : Int} {nodes : List Nd} (D : Dig w k count nodes) (v : Int) : (0 ≤ zCP (zDX w v) nodes ∧ zCP (zDX w v) nodes ≤ count) ∧ (0 ≤ zCP (zDW w v) nodes ∧ zCP (zDW w v) nodes ≤ count) := by
 have hs := D.inv.sum
 have hp : ∀ p ∈ nodes, 0 ≤ p.2 := fun p hp => by have := (D.node p hp).2.1; omega
 have z := wsum_zero nodes
 have a1 := wsum_le (g := fun _ => 0) (h := zDX w v) (M := nodes) fun p h => ⟨hp p h, (ind_01 w v p.1).1.1⟩
 have a2 := wsum_le (g := zDX w v) (h := fun _ => 1) (M := nodes) fun p h => ⟨hp p h, (ind_01 w v p.1).1.2⟩
 have a3 := wsum_le (g := fun _ => 0) (h := zDW w v) (M := nodes) fun p h => ⟨hp p h, (ind_01 w v p.1).2.1⟩
 have a4 := wsum_le (g := zDW w v) (h := fun _ => 1) (M := nodes) fun p h => ⟨hp p h, (ind_01 w v p.1).2.2⟩
 omega
theorem Dig.rankT {w : Nat} {k count v : Int} {nodes : List Nd} (D : Dig w k count nodes) (hv : 0 ≤ v ∧ v < ((2 ^ w : Nat) : Int)) : Q.rankT (w : Int) k count nodes v = (zCP (zDX w v) nodes, zCP (zDW w v) nodes, 0) := by
 unfold Q.rankT
 rw [if_neg (by rw [D.check]; simp), ← ishl_shl, ishl_1 w D.w2, if_neg (by omega), Int.toNat_natCast, fold_rk]; simp
theorem F26_eq {n : Int} (h : 0 ≤ n ∧ n < 256) : ∃ (w : Nat) (k : Int), F26 n = some ((w : Int), k) ∧ (1 ≤ w ∧ w ≤ 8) ∧ 1 ≤ k ∧ k ≤ 8 := by
 have e1 : zAZ .i64 n = n := zAd (by omega) (by omega)
 have e2 : irem n 8 = n % 8 := by unfold irem; exact Int.tmod_eq_emod_of_nonneg h.1
 have e3 : zDH .i64 n 8 = n / 8 := by
   have e : n.tdiv 8 = n / 8 := Int.tdiv_eq_ediv_of_nonneg h.1
   unfold zDH; rw [e]; exact zAd (by omega) (by omega)
 have e4 : irem (n / 8) 8 = n / 8 % 8 := by unfold irem; exact Int.tmod_eq_emod_of_nonneg (by omega)
 refine ⟨(1 + n % 8).toNat, 1 + n / 8 % 8, ?_, by omega, by omega⟩
 unfold F26
 rw [zAq (show ine 8 0 = true from rfl), zAq (show ine 8 0 = true from rfl), zAq (show ine 8 0 = true from rfl), e1, e2, e3, e4, zCI (by omega) (by omega), zCI (by omega) (by omega)]
 congr 2
 omega
theorem uwrap (a : Nat) : IntKind.u64.wrap (a : Int) = ((a % 18446744073709551616 : Nat) : Int) := by rw [IntKind.wrap_u64]; omega
theorem uadd (a b : Nat) : zAn .u64 (a : Int) (b : Int) = (((a + b) % 18446744073709551616 : Nat) : Int) := by
 unfold zAn; rw [← uwrap]; push_cast; rfl
theorem umul (a b : Nat) : zBh .u64 (a : Int) (b : Int) = (((a * b) % 18446744073709551616 : Nat) : Int) := by
 unfold zBh; rw [← uwrap]; push_cast; rfl
theorem usub {a b : Nat} (h : b ≤ a) (ha : a < 18446744073709551616) : zCb .u64 (a : Int) (b : Int) = ((a - b : Nat) : Int) := by
 unfold zCb; rw [IntKind.wrap_u64]; omega
theorem uquo {a : Nat} (b : Nat) (ha : a < 18446744073709551616) : zDH .u64 (a : Int) (b : Int) = ((a / b : Nat) : Int) := by
 have h : a / b ≤ a := Nat.div_le_self _ _
 have e : (a : Int).tdiv b = ((a / b : Nat) : Int) := rfl
 unfold zDH; rw [e, uwrap, Nat.mod_eq_of_lt (by omega)]
theorem urem (a b : Nat) : irem (a : Int) (b : Int) = ((a % b : Nat) : Int) := rfl
theorem uand {a : Nat} (ha : a < 18446744073709551616) : iand .u64 (a : Int) 4294967295 = ((a % 4294967296 : Nat) : Int) := by
 show IntKind.u64.wrap ((BitVec.ofInt 64 (a : Int) &&& BitVec.ofInt 64 ((4294967295 : Nat) : Int)).toNat : Int) = _
 rw [BitVec.ofInt_natCast, BitVec.ofInt_natCast, BitVec.toNat_and, BitVec.toNat_ofNat, BitVec.toNat_ofNat, Nat.mod_eq_of_lt (by omega), show 4294967295 % 2 ^ 64 = 2 ^ 32 - 1 from rfl, Nat.and_two_pow_sub_one_eq_mod, uwrap, Nat.mod_eq_of_lt (by omega)]
theorem uor {a b s : Nat} (hb : b < 2 ^ s) (h : a * 2 ^ s + b < 18446744073709551616) : ior .u64 ((a * 2 ^ s : Nat) : Int) (b : Int) = ((a * 2 ^ s + b : Nat) : Int) := by
 show IntKind.u64.wrap ((BitVec.ofInt 64 ((a * 2 ^ s : Nat) : Int) ||| BitVec.ofInt 64 (b : Int)).toNat : Int) = _
 rw [BitVec.ofInt_natCast, BitVec.ofInt_natCast, BitVec.toNat_or, BitVec.toNat_ofNat, BitVec.toNat_ofNat, Nat.mod_eq_of_lt (by omega), Nat.mod_eq_of_lt (by omega), Nat.mul_comm, ← Nat.two_pow_add_eq_or_of_lt hb, uwrap, Nat.mod_eq_of_lt (by rw [Nat.mul_comm]; exact h)]
theorem ushl {a s : Nat} (hs : s ≤ 64) : zCj .u64 (a : Int) (s : Int) = (((a * 2 ^ s) % 18446744073709551616 : Nat) : Int) := by
 unfold zCj
 rw [Int.toNat_natCast, show IntKind.u64.bits = 64 from rfl, Nat.min_eq_left hs, ← uwrap]; push_cast; rfl
theorem F83_eq {x y : Nat} (hx : x < 18446744073709551616) (hy : y < 18446744073709551616) : F83 ((x : Int), (y : Int)) = some (((x * y / 18446744073709551616 : Nat) : Int), ((x * y % 18446744073709551616 : Nat) : Int)) := by
 obtain ⟨h1, h2, h3, h4⟩ := Go.Lib.mul64_hi x y hx hy
 have s32 : ∀ a : Nat, ishr .u64 (a : Int) 32 = ((a / 4294967296 : Nat) : Int) := fun a => ishr_u a 32 (by omega)
 unfold F83
 have z : (ile 0 32) = true := rfl
 simp only [z, zAq, s32, uand hx, uand hy, umul]
 rw [Nat.mod_eq_of_lt h1]
 have m1 : x / 4294967296 * (y % 4294967296) < 18446744073709551616 := by omega
 simp only [Nat.mod_eq_of_lt m1, s32, uadd, Nat.mod_eq_of_lt h2, uand h2]
 have m2 : x % 4294967296 * (y / 4294967296) < 18446744073709551616 := by omega
 have m3 : x / 4294967296 * (y / 4294967296) < 18446744073709551616 := by
   have := Go.Lib.half_mul_le (a := x / 4294967296) (b := y / 4294967296) (by omega) (by omega); omega
 simp only [Nat.mod_eq_of_lt m2, Nat.mod_eq_of_lt h3, s32, Nat.mod_eq_of_lt m3]
 have hxy : x * y / 18446744073709551616 < 18446744073709551616 := by
   rw [Nat.div_lt_iff_lt_mul (by decide)]
   exact Nat.lt_of_le_of_lt (Nat.mul_le_mul (Nat.le_of_lt_succ (n := 18446744073709551615) (by omega)) (Nat.le_of_lt_succ (n := 18446744073709551615) (by omega))) (by decide)
 have m4 : x / 4294967296 * (y / 4294967296) + (x / 4294967296 * (y % 4294967296) + x % 4294967296 * (y % 4294967296) / 4294967296) / 4294967296 < 18446744073709551616 := by omega
 simp only [Nat.mod_eq_of_lt m4, h4, Nat.mod_eq_of_lt hxy]
theorem dv_loop {S R : Type} {body : S → Option (S ⊕ (Int ⊕ R))} (en : Nat → Nat → S) {U d y1 y0 Y T : Nat} (hYd : y1 * 4294967296 + y0 = Y) (hT : (U * 4294967296 + d) / Y = T) (h0 : y0 < 4294967296) (h1 : 0 < y1) (h1' : y1 < 4294967296) (hd : d < 4294967296) (hU : U < Y)
   (hb : ∀ q r, q < 18446744073709551616 → r < 4294967296 → body (en q r) = some (if 4294967296 ≤ q ∨ 4294967296 * r + d < q * y0 then (if 4294967296 ≤ r + y1 then .inr (.inl ((q - 1 : Nat) : Int)) else .inl (en (q - 1) (r + y1))) else .inr (.inl (q : Int)))) :
   ∀ q r, q < 18446744073709551616 → r < 4294967296 → q * y1 + r = U → T ≤ q → iter body (en q r) = some (.inl (T : Int)) := by
 have hY : 0 < Y := by omega
 have hT1 : T * Y ≤ U * 4294967296 + d := by rw [← hT]; exact Nat.div_mul_le_self _ _
 have hT2 : U * 4294967296 + d < (T + 1) * Y := by
   have a := Nat.div_add_mod' (U * 4294967296 + d) Y
   have b := Nat.mod_lt (U * 4294967296 + d) hY
   have c : (T + 1) * Y = T * Y + 1 * Y := Nat.add_mul _ _ _
   rw [hT] at a; omega
 have key : ∀ q r, q * y1 + r = U → q * Y + r * 4294967296 = U * 4294967296 + q * y0 := fun q r h => by
   have e1 : q * Y = q * y1 * 4294967296 + q * y0 := (congrArg (q * ·) hYd.symm).trans ((Nat.mul_add q _ y0).trans (congrArg (· + q * y0) (Nat.mul_assoc q y1 _).symm))
   have e2 : U * 4294967296 = q * y1 * 4294967296 + r * 4294967296 := (congrArg (· * 4294967296) h.symm).trans (Nat.add_mul _ _ _)
   omega
 have hTB : T < 4294967296 := by
   rw [← hT, Nat.div_lt_iff_lt_mul hY]
   have : U * 4294967296 + 4294967296 ≤ Y * 4294967296 := by omega
   have e : 4294967296 * Y = Y * 4294967296 := Nat.mul_comm _ _
   omega
 have mono : ∀ a b, a ≤ b → a * Y ≤ b * Y := fun a b h => Nat.mul_le_mul_right _ h
 intro q
 induction q with
 | zero =>
   intro r _ hr hU1 hTq
   have : T = 0 := by omega
   subst this
   refine iter_r ((hb 0 r (by decide) hr).trans ?_)
   rw [if_neg (by omega)]
 | succ q ih =>
   intro r hq hr hU1 hTq
   have k1 := key (q + 1) r hU1
   by_cases c : 4294967296 ≤ q + 1 ∨ 4294967296 * r + d < (q + 1) * y0
   · have hlt : T ≤ q := by
       rcases c with c | c
       · omega
       · rcases Nat.lt_or_ge q T with h | h
         · have := mono (q + 1) T (by omega); omega
         · exact h
     have e : q * y1 + (r + y1) = U := by rw [← hU1, Nat.add_mul]; omega
     by_cases g : 4294967296 ≤ r + y1
     · refine iter_r ((hb (q + 1) r hq hr).trans ?_)
       rw [if_pos c, if_pos g, Nat.add_sub_cancel]
       have k2 := key q (r + y1) e
       have hqB : q < 4294967296 := by
         rcases Nat.lt_or_ge q 4294967296 with h | h
         · exact h
         · have := Nat.mul_le_mul_right y1 h
           omega
       have hqy : q * y0 ≤ 4294967295 * 4294967295 := Nat.mul_le_mul (by omega) (by omega)
       have : q ≤ T := by
         rcases Nat.lt_or_ge T q with h | h
         · have := mono (T + 1) q h; omega
         · exact h
       have : q = T := by omega
       rw [this]
     · refine iter_l (s' := en q (r + y1)) ((hb (q + 1) r hq hr).trans ?_) (ih (r + y1) (by omega) (by omega) e hlt)
       rw [if_pos c, if_neg g, Nat.add_sub_cancel]
   · refine iter_r ((hb (q + 1) r hq hr).trans ?_)
     rw [if_neg c]
     have : q + 1 ≤ T := by
       rcases Nat.lt_or_ge T (q + 1) with h | h
       · have := mono (T + 1) (q + 1) h; omega
       · exact h
     have : q + 1 = T := by omega
     rw [this]
theorem F109_eq {x : Nat} (hx : x < 18446744073709551616) : F109 (x : Int) = some ((64 - blen x : Nat) : Int) := by
 have hb : blen x ≤ 64 := by
   rcases Nat.eq_zero_or_pos x with h | h
   · subst h; decide
   · obtain ⟨h1, h2, _⟩ := blen_pos h
     rcases Nat.lt_or_ge 64 (blen x) with g | g
     · have : 2 ^ 64 ≤ 2 ^ (blen x - 1) := Nat.pow_le_pow_right (by decide) (by omega)
       omega
     · exact g
 unfold F109
 rw [zAV (F105_eq x hx), isub_s (by omega) (by omega)]
 congr 1; omega
theorem dv_fin {U l1 l0 Y q V : Nat} (h : q * Y + V = U * 4294967296 + l1) (hY : 0 < Y) : (U * 18446744073709551616 + (l1 * 4294967296 + l0)) / Y = (V * 4294967296 + l0) / Y + q * 4294967296 ∧ (U * 18446744073709551616 + (l1 * 4294967296 + l0)) % Y = (V * 4294967296 + l0) % Y := by
 have hN : U * 18446744073709551616 + (l1 * 4294967296 + l0) = (V * 4294967296 + l0) + q * 4294967296 * Y := by
   have e : q * 4294967296 * Y = q * Y * 4294967296 := Nat.mul_right_comm _ _ _
   generalize q * Y = P at h e
   generalize q * 4294967296 * Y = R at e ⊢
   omega
 rw [hN]
 exact ⟨Nat.add_mul_div_right _ _ hY, Nat.add_mul_mod_self_right _ _ _⟩
theorem dv_digit {V d Y q r : Nat} (h : q * Y + r = V * 4294967296 + d) (hr : r < Y) (hY : Y < 18446744073709551616) : zCb .u64 (zAn .u64 (zBh .u64 (V : Int) 4294967296) (d : Int)) (zBh .u64 (q : Int) (Y : Int)) = (r : Int) := by
 have e4 : zBh .u64 (V : Int) 4294967296 = ((V * 4294967296 % 18446744073709551616 : Nat) : Int) := umul V 4294967296
 rw [e4, umul, uadd]
 generalize q * Y = P at h ⊢
 unfold zCb; rw [IntKind.wrap_u64]
 omega
theorem dv_start {V d Y y1 y0 : Nat} (hYd : y1 * 4294967296 + y0 = Y) (h1 : 2147483648 ≤ y1) (h1' : y1 < 4294967296) (hV : V < Y) (hY : Y < 18446744073709551616) (hd : d < 4294967296) :
   V / y1 < 18446744073709551616 ∧ V - V / y1 * y1 < 4294967296 ∧ V / y1 * y1 + (V - V / y1 * y1) = V ∧ (V * 4294967296 + d) / Y ≤ V / y1 ∧ zCb .u64 (V : Int) (zBh .u64 ((V / y1 : Nat) : Int) (y1 : Int)) = ((V - V / y1 * y1 : Nat) : Int) := by
 have a := Nat.div_add_mod' V y1
 have b := Nat.mod_lt V (show 0 < y1 by omega)
 have c := Nat.div_le_self V y1
 have g : (V * 4294967296 + d) / Y < V / y1 + 1 := by
   rw [Nat.div_lt_iff_lt_mul (by omega)]
   generalize V / y1 = q at *
   have e1 : (q + 1) * Y = (q + 1) * y1 * 4294967296 + (q + 1) * y0 := (congrArg ((q + 1) * ·) hYd.symm).trans ((Nat.mul_add (q + 1) _ y0).trans (congrArg (· + (q + 1) * y0) (Nat.mul_assoc (q + 1) y1 _).symm))
   have e2 : (q + 1) * y1 = q * y1 + 1 * y1 := Nat.add_mul _ _ _
   generalize (q + 1) * Y = A at *
   generalize (q + 1) * y0 = B at *
   generalize (q + 1) * y1 = C at *
   generalize q * y1 = D at *
   omega
 have hlt : V / y1 * y1 ≤ V := by omega
 refine ⟨by omega, by omega, by omega, by omega, ?_⟩
 rw [umul, Nat.mod_eq_of_lt (by omega), usub hlt (by omega)]
theorem dv_cond {q r d y0 : Nat} (h0 : y0 < 4294967296) (hq : q < 18446744073709551616) (hr : r < 4294967296) (hd : d < 4294967296) : zAJ (ile 4294967296 (q : Int)) true (ilt (zAn .u64 (zBh .u64 4294967296 (r : Int)) (d : Int)) (zBh .u64 (q : Int) (y0 : Int))) = decide (4294967296 ≤ q ∨ 4294967296 * r + d < q * y0) := by
 rw [zCH, ile_d, zCA]
 by_cases c : 4294967296 ≤ q
 · have : (4294967296 : Int) ≤ (q : Int) := by omega
   simp [c, this]
 · have : ¬ (4294967296 : Int) ≤ (q : Int) := by omega
   have hqy : q * y0 ≤ 4294967295 * 4294967295 := Nat.mul_le_mul (by omega) (by omega)
   have e4 : zBh .u64 4294967296 (r : Int) = ((4294967296 * r : Nat) : Int) := by
     have := umul 4294967296 r
     rw [Nat.mod_eq_of_lt (by omega)] at this; exact this
   rw [e4, uadd, umul, Nat.mod_eq_of_lt (by omega), Nat.mod_eq_of_lt (by omega)]
   simp only [this, decide_false, Bool.false_or, c, false_or]
   congr 1
   generalize q * y0 = P at *
   exact propext ⟨fun h => by omega, fun h => by omega⟩
theorem F84_eq {hi lo y : Nat} (hh : hi < y) (hl : lo < 18446744073709551616) (hy : y < 18446744073709551616) : F84 ((hi : Int), (lo : Int), (y : Int)) = some ((((hi * 18446744073709551616 + lo) / y : Nat) : Int), (((hi * 18446744073709551616 + lo) % y : Nat) : Int)) := by
 have hy0 : 0 < y := by omega
 unfold F84
 dsimp only
 rw [ieq_d, zCl (by simp; omega), join_bl, ile_d, zCl (by simp; omega), join_bl, ieq_d]
 have ny : ine (y : Int) 0 = true := by rw [ine_d]; simp; omega
 by_cases g : hi = 0
 · subst g
   rw [sel_t (by simp), zAq ny, zAq ny, uquo _ hl, urem]; simp
 rw [zCl (by simp; omega), zAV (F109_eq hy)]
 obtain ⟨b1, b2, b3⟩ := blen_pos hy0
 have hb : blen y ≤ 64 := by
   rcases Nat.lt_or_ge 64 (blen y) with g | g
   · have : 2 ^ 64 ≤ 2 ^ (blen y - 1) := Nat.pow_le_pow_right (by decide) (by omega)
     omega
   · exact g
 generalize hs : 64 - blen y = s
 have hs64 : s ≤ 63 := by omega
 have ew : zAZ .u64 (s : Int) = (s : Int) := by unfold zAZ; rw [uwrap, Nat.mod_eq_of_lt (by omega)]
 rw [ew]
 have p64 : 2 ^ s * 2 ^ (64 - s) = 18446744073709551616 := by rw [← Nat.pow_add, show s + (64 - s) = 64 by omega]
 have hps := Nat.two_pow_pos s
 have hpt := Nat.two_pow_pos (64 - s)
 have hYlt : y * 2 ^ s < 18446744073709551616 := by
   have : y * 2 ^ s < 2 ^ blen y * 2 ^ s := Nat.mul_lt_mul_of_pos_right b3 hps
   rw [← Nat.pow_add, show blen y + s = 64 by omega] at this; exact this
 have hYge : 9223372036854775808 ≤ y * 2 ^ s := by
   have : 2 ^ (blen y - 1) * 2 ^ s ≤ y * 2 ^ s := Nat.mul_le_mul_right _ b2
   rw [← Nat.pow_add, show blen y - 1 + s = 63 by omega] at this; exact this
 have eY : zCj .u64 (y : Int) (s : Int) = ((y * 2 ^ s : Nat) : Int) := by rw [ushl (by omega), Nat.mod_eq_of_lt hYlt]
 have hlq : lo / 2 ^ (64 - s) < 2 ^ s := by rw [Nat.div_lt_iff_lt_mul hpt, p64]; exact hl
 have hdiv : lo * 2 ^ s / 18446744073709551616 = lo / 2 ^ (64 - s) := by
   rw [← p64, Nat.mul_comm (2 ^ s), Nat.mul_div_mul_right _ _ hps]
 have hsum : (hi * 2 ^ s + lo / 2 ^ (64 - s)) * 18446744073709551616 + lo * 2 ^ s % 18446744073709551616 = (hi * 18446744073709551616 + lo) * 2 ^ s := by
   have := Nat.div_add_mod (lo * 2 ^ s) 18446744073709551616
   rw [hdiv] at this
   rw [Nat.add_mul, Nat.add_mul, Nat.mul_right_comm]
   omega
 have hU : hi * 2 ^ s + lo / 2 ^ (64 - s) < y * 2 ^ s := by
   have : (hi + 1) * 2 ^ s ≤ y * 2 ^ s := Nat.mul_le_mul_right _ hh
   rw [Nat.add_mul] at this; omega
 have e64 : zCb .u64 64 (s : Int) = ((64 - s : Nat) : Int) := usub (a := 64) (by omega) (by decide)
 have eU : ior .u64 (zCj .u64 (hi : Int) (s : Int)) (ishr .u64 (lo : Int) (zCb .u64 64 (s : Int))) = ((hi * 2 ^ s + lo / 2 ^ (64 - s) : Nat) : Int) := by
   rw [e64, ishr_u _ _ (by omega), ushl (by omega), Nat.mod_eq_of_lt (by omega)]
   exact uor hlq (by omega)
 have eL : zCj .u64 (lo : Int) (s : Int) = ((lo * 2 ^ s % 18446744073709551616 : Nat) : Int) := ushl (by omega)
 have hL : lo * 2 ^ s % 18446744073709551616 < 18446744073709551616 := Nat.mod_lt _ (by decide)
 rw [eU, eY, eL]
 have hmul : (hi * 18446744073709551616 + lo) * 2 ^ s / (y * 2 ^ s) = (hi * 18446744073709551616 + lo) / y := Nat.mul_div_mul_right _ _ hps
 have hmod : (hi * 18446744073709551616 + lo) * 2 ^ s % (y * 2 ^ s) = (hi * 18446744073709551616 + lo) % y * 2 ^ s := Nat.mul_mod_mul_right _ _ _
 have hrem : (hi * 18446744073709551616 + lo) % y * 2 ^ s / 2 ^ s = (hi * 18446744073709551616 + lo) % y := Nat.mul_div_cancel _ hps
 have hqlt : (hi * 18446744073709551616 + lo) / y < 18446744073709551616 := by
   rw [Nat.div_lt_iff_lt_mul hy0]
   have : (hi + 1) * 18446744073709551616 ≤ y * 18446744073709551616 := Nat.mul_le_mul_right _ hh
   have e : 18446744073709551616 * y = y * 18446744073709551616 := Nat.mul_comm _ _
   omega
 rw [← hmul] at hqlt ⊢
 rw [← hrem, ← hmod, ← hsum] at ⊢
 rw [← hsum] at hqlt
 generalize y * 2 ^ s = Y at *
 generalize hi * 2 ^ s + lo / 2 ^ (64 - s) = U at *
 generalize lo * 2 ^ s % 18446744073709551616 = L at *
 clear hmul hmod hrem hsum hdiv hlq eU eL eY
 have s32 : ∀ a : Nat, ishr .u64 (a : Int) 32 = ((a / 4294967296 : Nat) : Int) := fun a => ishr_u a 32 (by omega)
 rw [s32, s32, uand hYlt, uand hL]
 have hYd : Y / 4294967296 * 4294967296 + Y % 4294967296 = Y := Nat.div_add_mod' _ _
 have hY0 : Y % 4294967296 < 4294967296 := Nat.mod_lt _ (by decide)
 have hY1 : 2147483648 ≤ Y / 4294967296 := by omega
 have hY1' : Y / 4294967296 < 4294967296 := by omega
 have hLd : L / 4294967296 * 4294967296 + L % 4294967296 = L := Nat.div_add_mod' _ _
 have hL0 : L % 4294967296 < 4294967296 := Nat.mod_lt _ (by decide)
 have hL1 : L / 4294967296 < 4294967296 := by omega
 generalize hy1 : Y / 4294967296 = y1 at *
 generalize hy0d : Y % 4294967296 = y0 at *
 generalize L / 4294967296 = l1 at *
 generalize L % 4294967296 = l0 at *
 have t64 : ile 0 (zCb .u64 64 (s : Int)) = true := by rw [e64, ile_d]; simp
 have n1 : ine (y1 : Int) 0 = true := by rw [ine_d]; simp; omega
 have t32 : ile 0 32 = true := rfl
 have ts : ile 0 (s : Int) = true := by rw [ile_d]; simp
 rw [zAq ts, zAq t32, zAq ts, zAq t64, zAq ts, zAq t32, zAq n1]
 have step : ∀ q r : Nat, q < 18446744073709551616 → r < 4294967296 → 1 ≤ q → zCb .u64 (q : Int) 1 = ((q - 1 : Nat) : Int) ∧ zAn .u64 (r : Int) (y1 : Int) = ((r + y1 : Nat) : Int) := fun q r hq hr h1 => ⟨usub (b := 1) h1 hq, by rw [uadd, Nat.mod_eq_of_lt (by omega)]⟩
 have qpos : ∀ q r d : Nat, 4294967296 ≤ q ∨ 4294967296 * r + d < q * y0 → 1 ≤ q := fun q r d c => by
   rcases Nat.eq_zero_or_pos q with h | h
   · subst h; omega
   · exact h
 have d1 := dv_start (d := l1) hYd hY1 hY1' hU hYlt hL1
 obtain ⟨q1, hq1⟩ : ∃ q, (U * 4294967296 + l1) / Y = q := ⟨_, rfl⟩
 obtain ⟨V, hV⟩ : ∃ v, (U * 4294967296 + l1) % Y = v := ⟨_, rfl⟩
 have hYp : 0 < Y := by omega
 have m1 := Nat.div_add_mod' (U * 4294967296 + l1) Y
 have m2 := Nat.mod_lt (U * 4294967296 + l1) hYp
 rw [hq1, hV] at m1
 rw [hV] at m2
 have d2 := dv_start (d := l0) hYd hY1 hY1' m2 hYlt hL0
 obtain ⟨f1, f2⟩ := dv_fin (l0 := l0) m1 hYp
 rw [hLd] at f1 f2
 rw [f1] at hqlt
 rw [f1, f2]
 obtain ⟨q0, hq0⟩ : ∃ q, (V * 4294967296 + l0) / Y = q := ⟨_, rfl⟩
 obtain ⟨W, hW⟩ : ∃ v, (V * 4294967296 + l0) % Y = v := ⟨_, rfl⟩
 have m3 := Nat.div_add_mod' (V * 4294967296 + l0) Y
 have m4 := Nat.mod_lt (V * 4294967296 + l0) hYp
 rw [hq0, hW] at m3
 rw [hW] at m4
 rw [hq0] at hqlt d2
 rw [hq0, hW]
 rw [hq1] at d1
 rw [uquo (a := U) y1 (by omega), d1.2.2.2.2]
 refine Eq.trans (join_l (dv_loop (fun q r => ((q : Int), (r : Int))) (U := U) (d := l1) (y1 := y1) (y0 := y0) hYd hq1 hY0 (by omega) hY1' hL1 hU (fun q r hq hr => ?_) _ _ d1.1 d1.2.1 d1.2.2.1 d1.2.2.2.1)) ?_
 · dsimp only
   rw [dv_cond hY0 hq hr hL1, zCY]
   by_cases c : 4294967296 ≤ q ∨ 4294967296 * r + l1 < q * y0
   · obtain ⟨a1, a2⟩ := step q r hq hr (qpos q r l1 c)
     rw [if_pos c, if_pos c, a1, a2, ile_d, zCY]
     by_cases g : 4294967296 ≤ r + y1
     · rw [if_pos (by omega), if_pos g]
     · rw [if_neg (by omega), if_neg g]
   · rw [if_neg c, if_neg c]
 rw [zAq n1, dv_digit m1 m2 hYlt, uquo (a := V) y1 (by omega), d2.2.2.2.2]
 refine Eq.trans (join_l (dv_loop (fun q r => ((r : Int), (q : Int))) (U := V) (d := l0) (y1 := y1) (y0 := y0) hYd hq0 hY0 (by omega) hY1' hL0 m2 (fun q r hq hr => ?_) _ _ d2.1 d2.2.1 d2.2.2.1 d2.2.2.2.1)) ?_
 · dsimp only
   rw [dv_cond hY0 hq hr hL0, zCY]
   by_cases c : 4294967296 ≤ q ∨ 4294967296 * r + l0 < q * y0
   · obtain ⟨a1, a2⟩ := step q r hq hr (qpos q r l0 c)
     rw [if_pos c, if_pos c, a1, a2, ile_d, zCY]
     by_cases g : 4294967296 ≤ r + y1
     · rw [if_pos (by omega), if_pos g]
     · rw [if_neg (by omega), if_neg g]
   · rw [if_neg c, if_neg c]
 have e4 : zBh .u64 (q1 : Int) 4294967296 = ((q1 * 4294967296 : Nat) : Int) := by
   have := umul q1 4294967296
   rw [Nat.mod_eq_of_lt (by omega)] at this; exact this
 rw [zAq ts, dv_digit m3 m4 hYlt, ishr_u _ _ (by omega), e4, uadd, Nat.mod_eq_of_lt (by omega), Nat.add_comm]
theorem gcd_loop {R : Type} {body : Int × Int → Option ((Int × Int) ⊕ (Int ⊕ R))} (hb : ∀ a b : Nat, a < 18446744073709551616 → b < 18446744073709551616 → body ((a : Int), (b : Int)) = some (if b = 0 then .inr (.inl (a : Int)) else .inl ((b : Int), ((a % b : Nat) : Int)))) :
   ∀ b a : Nat, a < 18446744073709551616 → b < 18446744073709551616 → iter body ((a : Int), (b : Int)) = some (.inl ((Nat.gcd a b : Nat) : Int)) := by
 intro b
 induction b using Nat.strongRecOn with
 | _ b ih =>
 intro a ha hb'
 by_cases h : b = 0
 · subst h
   refine iter_r ((hb a 0 ha hb').trans ?_)
   rw [if_pos rfl, Nat.gcd_zero_right]
 · have hm := Nat.mod_lt a (Nat.pos_of_ne_zero h)
   refine iter_l (s' := ((b : Int), ((a % b : Nat) : Int))) ((hb a b ha hb').trans (by rw [if_neg h])) ?_
   rw [ih (a % b) hm b hb' (by omega), Nat.gcd_comm a b, Nat.gcd_rec b a, Nat.gcd_comm]
theorem F81_eq {a b : Nat} (ha : a < 18446744073709551616) (hb : b < 18446744073709551616) : F81 ((a : Int), (b : Int)) = some ((Nat.gcd a b : Nat) : Int) := by
 unfold F81
 refine Eq.trans (join_l (gcd_loop (fun a b ha hb => ?_) b a ha hb)) rfl
 dsimp only
 rw [ine_d]
 by_cases h : b = 0
 · subst h; rw [zCl (by simp), if_pos rfl]
 · rw [sel_t (by simp; omega), zAq (by simp; omega), if_neg h, urem]
theorem F68_eq {a b : Nat} (ha : a < 18446744073709551616) (hb : b < 18446744073709551616) : F68 ((a : Int), (b : Int)) = some ((Nat.gcd a b : Nat) : Int) := by
 unfold F68
 refine Eq.trans (join_l (gcd_loop (fun a b ha hb => ?_) b a ha hb)) rfl
 dsimp only
 rw [ine_d, zCA]
 by_cases h : b = 0
 · subst h; rw [zCl (by simp), if_pos rfl]
 · rw [sel_t (by simp; omega), zAq (by simp; omega), if_neg h, urem]
theorem F69_eq {x : Int} (h : -9223372036854775808 < x ∧ x < 9223372036854775808) : F69 x = some (x.natAbs : Int) := by
 unfold F69
 rw [zCA, zCY]
 by_cases c : x < 0
 · rw [if_pos c]
   have : ineg .i64 x = (x.natAbs : Int) := (zAd (x := 0 - x) (by omega) (by omega)).trans (by omega)
   rw [this]
 · rw [if_neg c]; congr 1; omega
theorem F82_eq {x : Int} (h : -9223372036854775808 < x ∧ x < 9223372036854775808) : F82 x = some (x.natAbs : Int) := by
 unfold F82
 rw [zCA, zCY]
 by_cases c : x < 0
 · rw [if_pos c]
   unfold ineg zAZ
   rw [IntKind.wrap_u64, IntKind.wrap_u64]
   congr 1; omega
 · rw [if_neg c]
   unfold zAZ
   rw [IntKind.wrap_u64]
   congr 1; omega
def rchk (n d : Int) : Int := if d < 1 ∨ 1152921504606846976 < d ∨ n < -1152921504606846976 ∨ 1152921504606846976 < n then 1 else if Nat.gcd n.natAbs d.toNat ≠ 1 then 1 else 0
theorem F57_eq (n d : Int) : F57 (n, d) = some (rchk n d) := by
 unfold F57 rchk
 simp only [zCH, zCA, ← Bool.decide_or, zCY]
 by_cases h1 : d < 1 ∨ 1152921504606846976 < d
 · rw [if_pos h1, if_pos (by omega)]
 rw [if_neg h1]
 by_cases h2 : n < -1152921504606846976 ∨ 1152921504606846976 < n
 · rw [if_pos h2, if_pos (by omega)]
 have ed : zAZ .u64 d = ((d.toNat : Nat) : Int) := by
   unfold zAZ
   rw [IntKind.wrap_u64]
   omega
 rw [if_neg h2, if_neg (by omega), zAV (F82_eq (by omega)), ed, zAV (F81_eq (by omega) (by omega)), ine_d, zCY]
 by_cases g : Nat.gcd n.natAbs d.toNat = 1
 · rw [if_neg (by omega), if_neg (by omega)]
 · rw [if_pos (by omega), if_pos g]
theorem F35_eq (n d : Int) : F35 (n, d) = some (rchk n d) := by
 unfold F35 rchk
 simp only [zCH, zCA, ← Bool.decide_or]
 have hc : (((d < 1 ∨ 1152921504606846976 < d) ∨ n < -1152921504606846976) ∨ 1152921504606846976 < n) ↔ (d < 1 ∨ 1152921504606846976 < d ∨ n < -1152921504606846976 ∨ 1152921504606846976 < n) := by simp only [or_assoc]
 simp only [hc]
 by_cases h1 : d < 1 ∨ 1152921504606846976 < d ∨ n < -1152921504606846976 ∨ 1152921504606846976 < n
 · rw [if_pos h1]
   simp only [decide_eq_true h1]
   rw [zCl (show bnot true = false from rfl), call_b, zCl (show bnot true = false from rfl), call_b, sel_t (by simp)]
 · rw [if_neg h1]
   simp only [decide_eq_false h1]
   have ed : d = ((d.toNat : Nat) : Int) := by omega
   rw [sel_t (show bnot false = true from rfl), zAV (F69_eq (by omega)), sel_t (show bnot false = true from rfl), ed, zAV (F68_eq (by omega) (by omega)), ← ed, ine_d, Bool.false_or, zCY]
   by_cases g : Nat.gcd n.natAbs d.toNat = 1
   · rw [if_neg (by omega), if_neg (by omega)]
   · rw [if_pos (by omega), if_pos g]
theorem rchk_ok {n d : Int} (h : rchk n d = 0) : (1 ≤ d ∧ d ≤ 1152921504606846976) ∧ (-1152921504606846976 ≤ n ∧ n ≤ 1152921504606846976) ∧ Nat.gcd n.natAbs d.toNat = 1 := by
 unfold rchk at h
 split at h
 · cases h
 · split at h
   · cases h
   · omega
def wd (z : Int) : Int × (Int × Int) := (z.sign, ((z.natAbs / 1152921504606846976 : Nat) : Int), ((z.natAbs % 1152921504606846976 : Nat) : Int))
theorem split30 (x y : Nat) : ∀ a b c d P : Nat, x = a * P + b → y = c * P + d → x * y = a * c * (P * P) + (a * d + b * c) * P + b * d := by
 rintro a b c d P rfl rfl
 rw [Nat.add_mul, Nat.mul_add, Nat.mul_add, Nat.mul_mul_mul_comm, Nat.mul_right_comm a P d, ← Nat.mul_assoc b c P, Nat.add_mul]
 omega
theorem i64q {a b : Nat} (ha : a < 9223372036854775808) : zDH .i64 (a : Int) (b : Int) = ((a / b : Nat) : Int) := by
 have h : a / b ≤ a := Nat.div_le_self _ _
 have e : (a : Int).tdiv b = ((a / b : Nat) : Int) := rfl
 unfold zDH; rw [e]
 generalize a / b = q at h ⊢
 exact zAd (by omega) (by omega)
theorem i64m {a b : Nat} (h : a * b < 9223372036854775808) : zBh .i64 (a : Int) (b : Int) = ((a * b : Nat) : Int) := by
 unfold zBh
 rw [← Int.natCast_mul]
 exact zAd (by omega) (by omega)
theorem i64a {a b : Nat} (h : a + b < 9223372036854775808) : zAn .i64 (a : Int) (b : Int) = ((a + b : Nat) : Int) := by
 unfold zAn
 rw [← Int.natCast_add]
 exact zAd (by omega) (by omega)
theorem F74_eq {x y : Int} (hx : x.natAbs ≤ 1152921504606846976) (hy : y.natAbs ≤ 1152921504606846976) : F74 (x, y) = some (wd (x * y)) := by
 unfold F74
 rw [zCH, ieq_d, ieq_d, ← Bool.decide_or, zCY]
 by_cases h0 : x = 0 ∨ y = 0
 · rw [if_pos h0]
   have : x * y = 0 := by rcases h0 with rfl | rfl <;> simp
   rw [this]; rfl
 rw [if_neg h0]
 have hs : (sel (bnot (beq (ilt x 0) (ilt y 0))) (some (.inl (-1 : Int))) (some (.inl 1)) : Option (Int ⊕ (Int × (Int × Int)))) = some (.inl (x * y).sign) := by
   rw [Int.sign_mul]
   by_cases a : x < 0
   · by_cases b : y < 0
     · rw [zCl (by simp [beq, bnot, zCA, a, b]), Int.sign_eq_neg_one_of_neg a, Int.sign_eq_neg_one_of_neg b]; rfl
     · rw [sel_t (by simp [beq, bnot, zCA, a, b]), Int.sign_eq_neg_one_of_neg a, Int.sign_eq_one_of_pos (by omega)]; rfl
   · by_cases b : y < 0
     · rw [sel_t (by simp [beq, bnot, zCA, a, b]), Int.sign_eq_one_of_pos (by omega), Int.sign_eq_neg_one_of_neg b]; rfl
     · rw [zCl (by simp [beq, bnot, zCA, a, b]), Int.sign_eq_one_of_pos (by omega), Int.sign_eq_one_of_pos (by omega)]; rfl
 rw [hs, join_bl, zAV (F69_eq (by omega)), zAV (F69_eq (by omega))]
 have z1 : ine 1073741824 0 = true := rfl
 have z2 : ine 1152921504606846976 0 = true := rfl
 simp only [z1, z2, zAq]
 unfold wd
 rw [Int.natAbs_mul]
 generalize x.natAbs = X at *
 generalize y.natAbs = Y at *
 clear hs h0
 have q30 : ∀ a : Nat, a < 9223372036854775808 → zDH .i64 (a : Int) 1073741824 = ((a / 1073741824 : Nat) : Int) := fun a ha => i64q (b := 1073741824) ha
 have q60 : ∀ a : Nat, a < 9223372036854775808 → zDH .i64 (a : Int) 1152921504606846976 = ((a / 1152921504606846976 : Nat) : Int) := fun a ha => i64q (b := 1152921504606846976) ha
 have r30 : ∀ a : Nat, irem (a : Int) 1073741824 = ((a % 1073741824 : Nat) : Int) := fun a => rfl
 have r60 : ∀ a : Nat, irem (a : Int) 1152921504606846976 = ((a % 1152921504606846976 : Nat) : Int) := fun a => rfl
 rw [q30 X (by omega), q30 Y (by omega), r30, r30]
 have key := split30 X Y (X / 1073741824) (X % 1073741824) (Y / 1073741824) (Y % 1073741824) 1073741824 (by omega) (by omega)
 have ha : X / 1073741824 ≤ 1073741824 := by omega
 have hb : X % 1073741824 ≤ 1073741823 := by omega
 have hc : Y / 1073741824 ≤ 1073741824 := by omega
 have hd : Y % 1073741824 ≤ 1073741823 := by omega
 generalize X / 1073741824 = a at *
 generalize X % 1073741824 = b at *
 generalize Y / 1073741824 = c at *
 generalize Y % 1073741824 = d at *
 have mac : a * c ≤ 1073741824 * 1073741824 := Nat.mul_le_mul ha hc
 have mad : a * d ≤ 1073741824 * 1073741823 := Nat.mul_le_mul ha hd
 have mbc : b * c ≤ 1073741823 * 1073741824 := Nat.mul_le_mul hb hc
 have mbd : b * d ≤ 1073741823 * 1073741823 := Nat.mul_le_mul hb hd
 rw [i64m (a := a) (b := c) (by omega), i64m (a := a) (b := d) (by omega), i64m (a := b) (b := c) (by omega), i64m (a := b) (b := d) (by omega)]
 rw [key]
 generalize a * c = A at *
 generalize a * d = B at *
 generalize b * c = C at *
 generalize b * d = D at *
 rw [i64a (a := B) (b := C) (by omega), q30 _ (by omega), r30]
 have m30 : zBh .i64 (((B + C) % 1073741824 : Nat) : Int) 1073741824 = (((B + C) % 1073741824 * 1073741824 : Nat) : Int) := i64m (b := 1073741824) (by omega)
 rw [m30, i64a (a := D) (by omega), q60 _ (by omega), r60, i64a (a := A) (by omega), i64a (by omega)]
 have e : 1073741824 * 1073741824 = 1152921504606846976 := rfl
 rw [e]
 have e1 : (A * 1152921504606846976 + (B + C) * 1073741824 + D) / 1152921504606846976 = A + (B + C) / 1073741824 + (D + (B + C) % 1073741824 * 1073741824) / 1152921504606846976 := by omega
 have e2 : (A * 1152921504606846976 + (B + C) * 1073741824 + D) % 1152921504606846976 = (D + (B + C) % 1073741824 * 1073741824) % 1152921504606846976 := by omega
 rw [e1, e2]
theorem F73_sign {a b : Int} (ha : a.natAbs ≤ 1329227995784915872903807060280344576) (hb : b.natAbs ≤ 1329227995784915872903807060280344576) : ∃ h, F73 (wd a, wd b) = some ((a + b).sign, h) := by
 unfold F73
 dsimp only
 have hsa : (wd a).1 = a.sign := rfl
 have hsb : (wd b).1 = b.sign := rfl
 rw [ieq_d, zCY]
 by_cases a0 : a = 0
 · subst a0
   exact ⟨(wd b).2, by rw [if_pos (show (wd 0).1 = 0 from rfl), Int.zero_add]; rfl⟩
 rw [if_neg (by rw [hsa]; exact fun h => a0 (Int.sign_eq_zero_iff_zero.1 h)), ieq_d, zCY]
 by_cases b0 : b = 0
 · subst b0
   exact ⟨(wd a).2, by rw [if_pos (show (wd 0).1 = 0 from rfl), Int.add_zero]; rfl⟩
 rw [if_neg (by rw [hsb]; exact fun h => b0 (Int.sign_eq_zero_iff_zero.1 h)), ieq_d, zCY]
 by_cases hs : a.sign = b.sign
 · rw [if_pos (show (wd a).1 = (wd b).1 from hs), zAq (show ine 1152921504606846976 0 = true from rfl), zAq (show ine 1152921504606846976 0 = true from rfl)]
   have : (a + b).sign = a.sign := by
     by_cases h : 0 < a
     · rw [Int.sign_eq_one_of_pos h] at hs ⊢
       have := Int.sign_eq_one_iff_pos.1 hs.symm
       exact Int.sign_eq_one_of_pos (by omega)
     · have ha' : a < 0 := by omega
       rw [Int.sign_eq_neg_one_of_neg ha'] at hs ⊢
       have := Int.sign_eq_neg_one_iff_neg.1 hs.symm
       exact Int.sign_eq_neg_one_of_neg (by omega)
   rw [this]; exact ⟨_, rfl⟩
 rw [if_neg (show ¬ (wd a).1 = (wd b).1 from hs)]
 have hlt : F106 (wd a, wd b) = some (decide (a.natAbs < b.natAbs)) := by
   unfold F106 wd
   simp only [zCH, pick_and, zCA, ieq_d]
   congr 1
   rw [← Bool.decide_and, ← Bool.decide_or]
   congr 1
   exact propext ⟨fun h => by omega, fun h => by omega⟩
 rw [zAV hlt]
 have fin : ∀ u v : Int, u.sign ≠ 0 → v.natAbs ≤ u.natAbs → u.natAbs ≤ 1329227995784915872903807060280344576 → u.sign ≠ v.sign → v.sign ≠ 0 → ∃ h, join (sel (ilt (zCb .i64 (wd u).2.2 (wd v).2.2) 0) (some (.inl (zCb .i64 (zCb .i64 (wd u).2.1 (wd v).2.1) 1, zAn .i64 (zCb .i64 (wd u).2.2 (wd v).2.2) 1152921504606846976))) (some (.inl (zCb .i64 (wd u).2.1 (wd v).2.1, zCb .i64 (wd u).2.2 (wd v).2.2)))) (fun (j2 : (Int × Int)) => sel (zAJ (ieq j2.1 0) (ieq j2.2 0) false) (some ((0 : Int), (0 : Int), (0 : Int))) (some ((wd u).1, j2.1, j2.2))) = some ((u + v).sign, h) := by
   intro u v hu hv hub huv hv0
   have hsu : (u + v).sign = if v.natAbs = u.natAbs then 0 else u.sign := by
     by_cases p : 0 < u
     · have : v < 0 := by
         rcases Int.lt_trichotomy v 0 with h | h | h
         · exact h
         · subst h; simp at hv0
         · rw [Int.sign_eq_one_of_pos p, Int.sign_eq_one_of_pos h] at huv; exact absurd rfl huv
       split
       · rw [show u + v = 0 by omega]; rfl
       · rw [Int.sign_eq_one_of_pos p, Int.sign_eq_one_of_pos (by omega)]
     · have hun : u < 0 := by
         rcases Int.lt_trichotomy u 0 with h | h | h
         · exact h
         · subst h; simp at hu
         · omega
       have : 0 < v := by
         rcases Int.lt_trichotomy v 0 with h | h | h
         · rw [Int.sign_eq_neg_one_of_neg hun, Int.sign_eq_neg_one_of_neg h] at huv; exact absurd rfl huv
         · subst h; simp at hv0
         · exact h
       split
       · rw [show u + v = 0 by omega]; rfl
       · rw [Int.sign_eq_neg_one_of_neg hun, Int.sign_eq_neg_one_of_neg (by omega)]
   rw [hsu]
   unfold wd
   dsimp only
   generalize u.natAbs = U at *
   generalize v.natAbs = V at *
   rw [isub_s (a := ((U % 1152921504606846976 : Nat) : Int)) (by omega) (by omega), isub_s (a := ((U / 1152921504606846976 : Nat) : Int)) (by omega) (by omega), zCA, zCY]
   split
   · rw [join_bl, isub_s (by omega) (by omega), zCI (by omega) (by omega), pick_and, ieq_d, ieq_d, ← Bool.decide_and, zCY]
     dsimp only
     split
     · exact ⟨_, by rw [if_pos (by omega)]⟩
     · exact ⟨_, by rw [if_neg (by omega)]⟩
   · rw [join_bl, pick_and, ieq_d, ieq_d, ← Bool.decide_and, zCY]
     dsimp only
     split
     · exact ⟨_, by rw [if_pos (by omega)]⟩
     · exact ⟨_, by rw [if_neg (by omega)]⟩
 have sa : a.sign ≠ 0 := fun h => a0 (Int.sign_eq_zero_iff_zero.1 h)
 have sb : b.sign ≠ 0 := fun h => b0 (Int.sign_eq_zero_iff_zero.1 h)
 by_cases g : a.natAbs < b.natAbs
 · rw [decide_eq_true g, sel_t rfl, join_bl, Int.add_comm]
   exact fin b a sb (by omega) hb (fun h => hs h.symm) sa
 · rw [decide_eq_false g, zCl rfl, join_bl]
   exact fin a b sa (by omega) ha hs sb
theorem F38_eq {xn xd yn yd : Int} (hx : rchk xn xd = 0) (hy : rchk yn yd = 0) : F38 ((xn, xd), (yn, yd)) = some (xn * yd - yn * xd).sign := by
 obtain ⟨x1, x2, _⟩ := rchk_ok hx
 obtain ⟨y1, y2, _⟩ := rchk_ok hy
 unfold F38
 rw [zAV (F35_eq xn xd), hx, sel_t (show bnot (ine 0 0) = true from rfl), zAV (F35_eq yn yd), hy, zCl (show zAJ (ine 0 0) true (ine 0 0) = false from rfl)]
 dsimp only
 have en : ineg .i64 yn = -yn := (zAd (x := 0 - yn) (by omega) (by omega)).trans (by omega)
 rw [zAV (F74_eq (by omega) (by omega)), en, zAV (F74_eq (by omega) (by omega))]
 have b1 : (xn * yd).natAbs ≤ 1329227995784915872903807060280344576 := by
   rw [Int.natAbs_mul]
   exact Nat.le_trans (Nat.mul_le_mul (show xn.natAbs ≤ 1152921504606846976 by omega) (show yd.natAbs ≤ 1152921504606846976 by omega)) (by decide)
 have b2 : (-yn * xd).natAbs ≤ 1329227995784915872903807060280344576 := by
   rw [Int.natAbs_mul]
   exact Nat.le_trans (Nat.mul_le_mul (show (-yn).natAbs ≤ 1152921504606846976 by omega) (show xd.natAbs ≤ 1152921504606846976 by omega)) (by decide)
 obtain ⟨h, e⟩ := F73_sign b1 b2
 rw [zAV e]
 rw [show xn * yd + -yn * xd = xn * yd - yn * xd by rw [Int.neg_mul]; omega]
theorem F37_eq {k n : Nat} (hn : 1 ≤ n) (hk : k ≤ 1152921504606846976) (hn2 : n ≤ 1152921504606846976) : F37 ((k : Int), (n : Int)) = some ((((k / Nat.gcd k n : Nat) : Int), ((n / Nat.gcd k n : Nat) : Int)), 0) := by
 have hg : 0 < Nat.gcd k n := Nat.gcd_pos_of_pos_right _ hn
 have hg2 : Nat.gcd k n ≤ n := Nat.gcd_le_right _ hn
 unfold F37
 have mag : ∀ a : Nat, a ≤ 1152921504606846976 → F72 (a : Int) = some (a : Int) := fun a ha => by
   unfold F72
   rw [zCA, zCl (by simp)]
   unfold zAZ; rw [uwrap, Nat.mod_eq_of_lt (by omega)]
 dsimp only
 rw [ieq_d, zCl (by simp; omega), zAV (mag k hk), zAV (mag n hn2)]
 refine Eq.trans (join_l (gcd_loop (fun a b ha hb => ?_) n k (by omega) (by omega))) ?_
 · dsimp only
   rw [ine_d, zCA]
   by_cases h : b = 0
   · subst h; rw [zCl (by simp), if_pos rfl]
   · rw [sel_t (by simp; omega), zAq (by simp; omega), if_neg h, urem]
 · have n1 : ine ((Nat.gcd k n : Nat) : Int) 0 = true := by rw [ine_d]; simp; omega
   have h1 := Nat.div_le_self k (Nat.gcd k n)
   have h2 := Nat.div_le_self n (Nat.gcd k n)
   rw [zAq n1, zAq n1, uquo _ (by omega), uquo _ (by omega)]
   generalize k / Nat.gcd k n = A at *
   generalize n / Nat.gcd k n = B at *
   have w : ∀ a : Nat, a ≤ 1152921504606846976 → zAZ .i64 (a : Int) = (a : Int) := fun a ha => zAd (by omega) (by omega)
   rw [zCl (by rw [zCH, zCA, zCA]; simp; omega), zCl (by simp [beq, bnot, zCA]; omega), w A (by omega), w B (by omega)]
def wantN (N d : Nat) : Nat := max 1 ((N + (d - 1)) / d)
theorem ceil_iff {N d k : Nat} (hd : 1 ≤ d) : (N + (d - 1)) / d ≤ k ↔ N ≤ k * d := by
 rw [Nat.div_le_iff_le_mul_add_pred (by omega)]
 have : d * k = k * d := Nat.mul_comm _ _
 omega
theorem imax_n (q : Nat) : imax 1 (q : Int) = ((max 1 q : Nat) : Int) := by
 unfold imax
 split
 · rename_i h; simp only [decide_eq_true_eq] at h; omega
 · rename_i h; simp only [decide_eq_true_eq] at h; omega
theorem F58_eq {num den n : Nat} (h : num ≤ den) (hd : 1 ≤ den) (hd2 : den ≤ 1152921504606846976) (hn : 1 ≤ n ∧ n ≤ 1099511627776) : F58 (((num : Int), (den : Int)), (n : Int)) = some ((wantN (num * n) den : Nat) : Int) := by
 unfold F58
 have wu : ∀ a : Nat, a ≤ 1152921504606846976 → zAZ .u64 (a : Int) = (a : Int) := fun a ha => by unfold zAZ; rw [uwrap, Nat.mod_eq_of_lt (by omega)]
 dsimp only
 rw [wu num (by omega), wu n (by omega), wu den (by omega), zAV (F83_eq (by omega) (by omega))]
 dsimp only
 have hle : num * n ≤ den * n := Nat.mul_le_mul_right _ h
 have hhi : num * n / 18446744073709551616 < den := by
   rw [Nat.div_lt_iff_lt_mul (by decide)]
   have : den * n < den * 18446744073709551616 := Nat.mul_lt_mul_of_pos_left (by omega) hd
   omega
 rw [zAV (F84_eq hhi (Nat.mod_lt _ (by decide)) (by omega)), Nat.div_add_mod']
 generalize num * n = N at *
 have hq : N / den ≤ n := by
   rw [Nat.div_le_iff_le_mul_add_pred (by omega)]; omega
 have hq2 : (N + (den - 1)) / den = if 0 < N % den then N / den + 1 else N / den := by
   have hm := Nat.div_add_mod' N den
   have hl := Nat.mod_lt N (show 0 < den by omega)
   have e1 : (N / den + 1) * den = N / den * den + 1 * den := Nat.add_mul _ _ _
   split
   · rw [Nat.div_eq_iff (by omega)]
     have e2 : den * (N / den + 1) = (N / den + 1) * den := Nat.mul_comm _ _
     generalize (N / den + 1) * den = A at *
     generalize N / den * den = B at *
     constructor <;> omega
   · rw [Nat.div_eq_iff (by omega)]
     have e2 : den * (N / den) = N / den * den := Nat.mul_comm _ _
     generalize N / den * den = B at *
     constructor <;> omega
 unfold wantN
 rw [hq2, zCA, zCY]
 dsimp only
 generalize N / den = q at hq ⊢
 by_cases c : 0 < N % den
 · have ea : zAn .u64 (q : Int) 1 = ((q + 1 : Nat) : Int) := by
     have := uadd q 1
     rw [Nat.mod_eq_of_lt (by omega)] at this; exact this
   have ew : zAZ .i64 ((q + 1 : Nat) : Int) = ((q + 1 : Nat) : Int) := zAd (by omega) (by omega)
   rw [if_pos (by omega), if_pos c, ea, ew, imax_n]
 · have ew : zAZ .i64 (q : Int) = (q : Int) := zAd (by omega) (by omega)
   rw [if_neg (by omega), if_neg c, ew, imax_n]
theorem part_ok {k n : Nat} (hn : 1 ≤ n) (hk : k ≤ 1152921504606846976) (hn2 : n ≤ 1152921504606846976) : rchk ((k / Nat.gcd k n : Nat) : Int) ((n / Nat.gcd k n : Nat) : Int) = 0 := by
 have hg : 0 < Nat.gcd k n := Nat.gcd_pos_of_pos_right _ hn
 have h1 := Nat.div_le_self k (Nat.gcd k n)
 have h2 := Nat.div_le_self n (Nat.gcd k n)
 have h3 : 1 ≤ n / Nat.gcd k n := Nat.div_pos (Nat.gcd_le_right _ hn) hg
 have a0 := Int.natCast_nonneg (k / Nat.gcd k n)
 have b0 := Int.natCast_nonneg (n / Nat.gcd k n)
 unfold rchk
 rw [if_neg (by omega), if_neg]
 rw [Int.natAbs_natCast, Int.toNat_natCast]
 exact fun h => h (Nat.gcd_div_gcd_div_gcd_of_pos_right hn)
theorem part_le {k n num den : Nat} (hn : 1 ≤ n) : (0 ≤ ((((k / Nat.gcd k n : Nat) : Int)) * den - num * ((n / Nat.gcd k n : Nat) : Int)).sign) ↔ num * n ≤ k * den := by
 have hg : 0 < Nat.gcd k n := Nat.gcd_pos_of_pos_right _ hn
 have hk : k / Nat.gcd k n * Nat.gcd k n = k := Nat.div_mul_cancel (Nat.gcd_dvd_left _ _)
 have hm : n / Nat.gcd k n * Nat.gcd k n = n := Nat.div_mul_cancel (Nat.gcd_dvd_right _ _)
 generalize Nat.gcd k n = g at *
 generalize k / g = A at *
 generalize n / g = B at *
 subst hk; subst hm
 have e1 : num * (B * g) = num * B * g := (Nat.mul_assoc _ _ _).symm
 have e2 : A * g * den = A * den * g := Nat.mul_right_comm _ _ _
 rw [e1, e2, Nat.mul_le_mul_right_iff hg]
 have e3 : ((A : Int) * den - num * B) = ((A * den : Nat) : Int) - ((num * B : Nat) : Int) := by push_cast; rfl
 rw [e3]
 generalize A * den = X
 generalize num * B = Y
 constructor
 · intro h
   rcases Nat.lt_or_ge X Y with g' | g'
   · rw [Int.sign_eq_neg_one_of_neg (by omega)] at h; omega
   · exact g'
 · intro h
   exact Int.sign_nonneg_iff.2 (by omega)
theorem F62_eq {num den n : Nat} (h : num ≤ den) (hr : rchk num den = 0) (hn : 1 ≤ n ∧ n ≤ 1099511627776) : F62 (((num : Int), (den : Int)), (n : Int)) = some ((wantN (num * n) den : Nat) : Int) := by
 obtain ⟨⟨hd, hd2⟩, _⟩ := rchk_ok hr
 unfold F62
 have hle : num * n ≤ n * den := by rw [Nat.mul_comm n den]; exact Nat.mul_le_mul_right _ h
 obtain ⟨y, hy, rfl⟩ : ∃ y, join (iter (fun (s0 : (Int × Int)) =>
     sel (ilt s0.1 s0.2) (join (need (ine 2 0) <|
     call (F37 (zDH .i64 (zAn .i64 s0.1 s0.2) 2, (n : Int))) fun (r1 : ((Int × Int) × Int)) =>
     call (sel (ieq r1.2 0) (F38 (r1.1, ((num : Int), (den : Int)))) <|
     some 0) fun (r2 : Int) =>
     sel (zAJ (ieq r1.2 0) (ile 0 r2) false) (some (.inl (s0.1, zDH .i64 (zAn .i64 s0.1 s0.2) 2))) <|
     some (.inl (zAn .i64 (zDH .i64 (zAn .i64 s0.1 s0.2) 2) 1, s0.2))) fun (j3 : (Int × Int)) =>
     some (.inl (j3.1, j3.2))) <|
     (some (.inr (.inl s0.1)) : Option ((Int × Int) ⊕ (Int ⊕ Int)))) (0, (n : Int))) (fun (j4 : Int) =>
     sel (ilt j4 1) (some 1) <|
     some j4) = some y ∧ y = ((wantN (num * n) den : Nat) : Int) := by
   refine join_wf (fun s => ∃ a b : Nat, s = ((a : Int), (b : Int)) ∧ a ≤ b ∧ b ≤ n ∧ (∀ k, k < a → ¬ num * n ≤ k * den) ∧ num * n ≤ b * den) (fun s => (s.2 - s.1).toNat) (fun e => e = .inl (((num * n + (den - 1)) / den : Nat) : Int)) ⟨0, n, rfl, by omega, by omega, fun k hk => by omega, hle⟩ ?_ ?_
   · rintro _ ⟨a, b, rfl, hab, hbn, hlow, hhigh⟩
     dsimp only
     rw [zCA, zCY]
     by_cases c : a < b
     · left
       have e1 : zAn .i64 (a : Int) (b : Int) = ((a + b : Nat) : Int) := i64a (by omega)
       have e2 : zDH .i64 ((a + b : Nat) : Int) 2 = (((a + b) / 2 : Nat) : Int) := i64q (b := 2) (by omega)
       have hm1 : a ≤ (a + b) / 2 := by omega
       have hm2 : (a + b) / 2 < b := by omega
       rw [if_pos (by omega), zAq (show ine 2 0 = true from rfl), e1, e2]
       generalize (a + b) / 2 = m at hm1 hm2 ⊢
       rw [zAV (F37_eq hn.1 (by omega) (by omega))]
       dsimp only
       rw [sel_t (show ieq 0 0 = true from rfl), zAV (F38_eq (part_ok hn.1 (by omega) (by omega)) hr), pick_and, ile_d]
       by_cases g : num * n ≤ m * den
       · rw [sel_t (by rw [decide_eq_true ((part_le hn.1).2 g)]; rfl)]
         exact ⟨_, rfl, ⟨a, m, rfl, hm1, by omega, hlow, g⟩, by dsimp only; omega⟩
       · rw [zCl (by rw [decide_eq_false (fun h => g ((part_le hn.1).1 h))]; rfl), zCI (by omega) (by omega)]
         refine ⟨_, rfl, ⟨m + 1, b, rfl, by omega, hbn, fun k hk hk2 => g ?_, hhigh⟩, by dsimp only; omega⟩
         exact Nat.le_trans hk2 (Nat.mul_le_mul_right _ (by omega))
     · right
       rw [if_neg (by omega)]
       refine ⟨_, rfl, ?_⟩
       have : a = b := by omega
       subst this
       congr 2
       have h1 := (ceil_iff (N := num * n) (d := den) (k := a) (by omega)).2 hhigh
       rcases Nat.lt_or_ge ((num * n + (den - 1)) / den) a with g | g
       · exact absurd ((ceil_iff (by omega)).1 (Nat.le_refl _)) (hlow _ g)
       · omega
   · rintro _ rfl
     refine ⟨_, ?_, rfl⟩
     rw [Sum.elim_inl, zCA, zCY]
     unfold wantN
     split
     · congr 1; omega
     · congr 1; omega
 exact hy
def ind (kk : Int → Int) (e id : Int) : Int := if kk id ≤ e then 1 else 0
structure Reach (kk : Int → Int) (nodes : List Nd) (rank e : Int) : Prop where
 one : ∃ n ∈ nodes, kk n.1 = e
 enough : rank ≤ zCP (ind kk e) nodes
 below : ∀ v, v < e → zCP (ind kk v) nodes < rank
theorem Reach.least {kk : Int → Int} {nodes : List Nd} {rank e : Int} (h : Reach kk nodes rank e) {n : Nd} (hr : rank ≤ zCP (ind kk (kk n.1)) nodes) : e ≤ kk n.1 := by
 rcases Int.lt_or_le (kk n.1) e with g | g
 · have := h.below _ g; omega
 · exact g
theorem Reach.same {kk : Int → Int} {nodes : List Nd} {rank e e' : Int} (h : Reach kk nodes rank e) (h' : Reach kk nodes rank e') : e = e' := by
 rcases Int.lt_trichotomy e e' with g | g | g
 · have := h'.below e g; have := h.enough; omega
 · exact g
 · have := h.below e' g; have := h'.enough; omega
theorem wsum_append (g : Int → Int) (a b : List Nd) : zCP g (a ++ b) = zCP g a + zCP g b := by unfold zCP; simp
def gR (kk : Int → Int) (rank : Int) (st : Int × Int) (n : Nd) : (Int × Int) ⊕ (Int ⊕ Int) := if rank ≤ st.1 + n.2 then .inr (.inl (kk n.1)) else .inl (st.1 + n.2, kk n.1)
theorem walk_reach {kk : Int → Int} {rank : Int} : ∀ (suf pre : List Nd) (last : Int), (∀ n ∈ pre ++ suf, 0 ≤ n.2) → ((pre ++ suf).Pairwise fun a b => kk a.1 ≤ kk b.1) → zCP (fun _ => 1) pre < rank → rank ≤ zCP (fun _ => 1) (pre ++ suf) →
   ∃ e, foldE (gR kk rank) (fun st => (.inl st.2 : Int ⊕ Int)) suf (zCP (fun _ => 1) pre, last) = .inl e ∧ Reach kk (pre ++ suf) rank e
 | [], pre, last, h0, hs, h1, h2 => by rw [List.append_nil] at h2; omega
 | n :: suf, pre, last, h0, hs, h1, h2 => by
   have hs' := List.pairwise_append.1 hs
   have hs2 := List.pairwise_cons.1 hs'.2.1
   have hp0 : ∀ p ∈ pre, 0 ≤ p.2 := fun p hp => h0 p (by simp [hp])
   have hq0 : ∀ p ∈ suf, 0 ≤ p.2 := fun p hp => h0 p (by simp [hp])
   have hn0 := h0 n (by simp)
   have ind01 : ∀ e id, 0 ≤ ind kk e id ∧ ind kk e id ≤ 1 := fun e id => by unfold ind; split <;> omega
   rw [foldE]
   unfold gR
   by_cases c : rank ≤ zCP (fun _ => 1) pre + n.2
   · rw [if_pos c]
     refine ⟨kk n.1, rfl, ⟨n, by simp, rfl⟩, ?_, fun v g => ?_⟩
     · rw [wsum_append, zAe]
       have a1 : zCP (fun _ => 1) pre ≤ zCP (ind kk (kk n.1)) pre := wsum_le fun p hp => ⟨hp0 p hp, by
         have := hs'.2.2 p hp n (by simp)
         unfold ind; rw [if_pos this]; omega⟩
       have a2 : zCP (fun _ => 0) suf ≤ zCP (ind kk (kk n.1)) suf := wsum_le fun p hp => ⟨hq0 p hp, (ind01 _ _).1⟩
       rw [wsum_zero] at a2
       have a3 : ind kk (kk n.1) n.1 = 1 := by unfold ind; rw [if_pos (by omega)]
       rw [a3]; omega
     · rw [wsum_append, zAe]
       have a1 : zCP (ind kk v) pre ≤ zCP (fun _ => 1) pre := wsum_le fun p hp => ⟨hp0 p hp, (ind01 _ _).2⟩
       have a2 : zCP (ind kk v) suf ≤ zCP (fun _ => 0) suf := wsum_le fun p hp => ⟨hq0 p hp, by
         have := hs2.1 p hp
         unfold ind; rw [if_neg (by omega)]; omega⟩
       rw [wsum_zero] at a2
       have a3 : ind kk v n.1 = 0 := by unfold ind; rw [if_neg (by omega)]
       rw [a3]; omega
   · rw [if_neg c]
     have e : zCP (fun _ => 1) (pre ++ [n]) = zCP (fun _ => 1) pre + n.2 := by rw [wsum_append, zAe, wsum_nil]; omega
     have e2 : pre ++ n :: suf = pre ++ [n] ++ suf := by simp
     rw [e2] at h0 hs h2 ⊢
     have := walk_reach suf (pre ++ [n]) (kk n.1) h0 hs (by omega) h2
     rw [e] at this
     exact this
theorem Reach.perm {kk : Int → Int} {l l' : List Nd} {rank e : Int} (h : Reach kk l rank e) (hp : l.Perm l') : Reach kk l' rank e := by
 obtain ⟨⟨n, hn, he⟩, h2, h3⟩ := h
 refine ⟨⟨n, hp.subset hn, he⟩, by rw [← wsum_perm hp]; exact h2, fun v hv => by rw [← wsum_perm hp]; exact h3 v hv⟩
theorem sort_kk (kk : Int → Int) (l : List Nd) : ∃ r : List Nd, r.Perm l ∧ r.Pairwise fun a b => kk a.1 ≤ kk b.1 := by
 refine ⟨l.mergeSort (fun a b => decide (kk a.1 ≤ kk b.1)), List.mergeSort_perm _ _, ?_⟩
 have := List.pairwise_mergeSort (le := fun a b : Nd => decide (kk a.1 ≤ kk b.1)) (fun a b c h1 h2 => by simp at *; omega) (fun a b => by simp; omega) l
 exact this.imp fun {a b} h => by simpa using h
theorem reach_loop {kk : Int → Int} {Fk : Nd → Option Int} {nodes r : List Nd} {rank count : Int} (hl : nodes.length ≤ 2000) (hn : ∀ n ∈ nodes, Fk n = some (kk n.1) ∧ 1 ≤ n.2 ∧ n.2 ≤ 1099511627776) (hsum : zCP (fun _ => 1) nodes = count) (hr : 1 ≤ rank ∧ rank ≤ count) (hp : r.Perm nodes) (hs : r.Pairwise fun a b => kk a.1 ≤ kk b.1) :
   ∃ e, Reach kk nodes rank e ∧ join (iter (fun (s1 : (Int × (Int × Int))) =>
     sel (ilt s1.2.2 (n2i (zBF r))) (need (inL s1.2.2 (zBF r)) <|
     call (Fk (zBC (0, 0) r (i2n s1.2.2))) fun (r2 : Int) =>
     sel (ile rank (zAn .i64 s1.1 ((zBC (0, 0) r (i2n s1.2.2)).2))) (some (.inr (.inl r2))) <|
     some (.inl (zAn .i64 s1.1 ((zBC (0, 0) r (i2n s1.2.2)).2), r2, zAn .i64 s1.2.2 1))) <|
     (some (.inr (.inl s1.2.1)) : Option ((Int × (Int × Int)) ⊕ (Int ⊕ Int)))) (0, 0, 0)) (fun (j3 : Int) => some j3) = some e := by
 have hrl := hp.length_eq
 obtain ⟨e, h1, h2⟩ := walk_reach (kk := kk) (rank := rank) r [] 0 (fun n hn' => by have := hn n (hp.subset (by simpa using hn')); omega) (by simpa using hs) (by rw [wsum_nil]; omega) (by
   rw [List.nil_append, wsum_perm hp, hsum]; omega)
 rw [List.nil_append] at h2
 refine ⟨e, h2.perm hp, ?_⟩
 refine Eq.trans (join_of _ (iter_for r (fun st i => (st.1, st.2, i)) (gR kk rank) (fun st => .inl st.2) (fun i st => 0 ≤ st.1 ∧ st.1 ≤ i * 1099511627776) (0, 0) (by simp) ?_ ?_)) ?_
 · rintro i ⟨a, b⟩ hi hI
   have hlt : (i : Int) < r.length := by omega
   have hin : inL (i : Int) r.length = true := inL_t hi
   have hg : zBC (0, 0) r i = r[i] := lget_t hi
   obtain ⟨n1, n2⟩ := hn r[i] (hp.subset (List.getElem_mem hi))
   dsimp only at hI ⊢
   simp only [n2i_c, llen_c, i2n_c, hg, hin, zAq, zCA, ile_d, zCY, hlt, if_true]
   rw [zAV n1]
   generalize r[i] = n at n2 ⊢
   unfold gR
   dsimp only
   rw [zCI (a := a) (by omega) (by omega), zCI (by omega) (by omega)]
   by_cases c : rank ≤ a + n.2
   · rw [if_pos c, if_pos c]
     exact ⟨rfl, fun st' h => by cases h⟩
   · rw [if_neg c, if_neg c]
     exact ⟨rfl, fun st' h => by have := Sum.inl.inj h; subst this; dsimp only; omega⟩
 · intro st hI
   simp only [n2i_c, llen_c, zCA, zCY]
   rw [if_neg (by omega)]
 · rw [wsum_nil] at h1
   rw [h1]; rfl
def kLO (w : Nat) (id : Int) : Int := LO w id.toNat
def kHI (w : Nat) (id : Int) : Int := HI w id.toNat
section
variable {w : Nat} {k count : Int} {nodes : List Nd}
theorem Dig.ends (D : Dig w k count nodes) {n : Nd} (h : n ∈ nodes) (x : Dg) (hx : x.1 = w) : F59 (n, x) = some (kLO w n.1) ∧ F60 (n, x) = some (kHI w n.1) ∧ (0 ≤ kLO w n.1 ∧ kLO w n.1 < ((2 ^ w : Nat) : Int)) ∧ (0 ≤ kHI w n.1 ∧ kHI w n.1 < ((2 ^ w : Nat) : Int)) ∧ ∃ y : Nat, n.1 = y ∧ Nod w y := by
 obtain ⟨⟨y, hy, hY⟩, _⟩ := D.node n h
 have e := F54_eq hY
 obtain ⟨b1, b2, b3⟩ := hY.bounds
 have hp : 2 ^ (w + 1) = 2 * 2 ^ w := by rw [Nat.pow_succ]; omega
 have hps := Nat.two_pow_pos (sh w y)
 have e2 : (y + 1) * 2 ^ sh w y = y * 2 ^ sh w y + 1 * 2 ^ sh w y := Nat.add_mul _ _ _
 refine ⟨?_, ?_, ?_, ?_, y, hy, hY⟩
 · unfold F59 kLO
   dsimp only
   rw [hx, hy, zAV e, Int.toNat_natCast]
 · unfold F60 kHI
   dsimp only
   rw [hx, hy, zAV e, Int.toNat_natCast]
 · unfold kLO LO
   rw [hy, Int.toNat_natCast]; omega
 · unfold kHI HI
   rw [hy, Int.toNat_natCast]; omega
theorem Dig.nodes_ne (D : Dig w k count nodes) (h : 1 ≤ count) : nodes ≠ [] := by
 rintro rfl
 have := D.sum
 simp at this; omega
theorem F61_eq (D : Dig w k count nodes) {rank : Int} (hr : 1 ≤ rank ∧ rank ≤ count) : (∃ e, Reach (kLO w) nodes rank e ∧ F61a (nodes, rank, (), ((w : Int), k, count, nodes)) = some e) ∧ ∃ e, Reach (kHI w) nodes rank e ∧ F61b (nodes, rank, (), ((w : Int), k, count, nodes)) = some e := by
 have hlen := D.len
 have p20 := pow21 D.w2
 have hc1 := D.c1
 have hb : ∀ n ∈ nodes, 1 ≤ n.2 ∧ n.2 ≤ 1099511627776 := fun n hn => by have := (D.node n hn).2; omega
 have hsum := D.inv.sum
 have hne := D.nodes_ne (by omega)
 constructor
 · have hk := fun n (hn : n ∈ nodes) => D.ends hn ((w : Int), k, count, nodes) rfl
   obtain ⟨r, r1, r2⟩ := sort_kk (kLO w) nodes
   obtain ⟨e, e1, e2⟩ := reach_loop (kk := kLO w) (Fk := fun n => F59 (n, ((w : Int), k, count, nodes))) hlen (fun n hn => ⟨(hk n hn).1, hb n hn⟩) hsum hr r1 r2
   refine ⟨e, e1, ?_⟩
   unfold F61a
   refine callQ_of ⟨r, hne, by show nodes.length ≤ _; omega, fun n hn => ⟨_, (hk n hn).1, ?_⟩, r1, ?_⟩ fun r' hr' => ?_
   · have := (hk n hn).2.2.1
     exact ⟨by omega, by omega⟩
   · exact r2.imp_of_mem fun {a b} ha hb' h i j hi hj => by
       dsimp only at hi hj
       rw [(hk a (r1.subset ha)).1] at hi
       rw [(hk b (r1.subset hb')).1] at hj
       have := Option.some.inj hi; have := Option.some.inj hj; omega
   · obtain ⟨_, _, _, p1, p2⟩ := hr'
     have p1 : r'.Perm nodes := p1
     obtain ⟨e', e1', e2'⟩ := reach_loop (kk := kLO w) (Fk := fun n => F59 (n, ((w : Int), k, count, nodes))) hlen (fun n hn => ⟨(hk n hn).1, hb n hn⟩) hsum hr p1 (p2.imp_of_mem fun {a b} ha hb' h => h _ _ (hk a (p1.subset ha)).1 (hk b (p1.subset hb')).1)
     rw [e1.same e1']
     exact e2'
 · have hk := fun n (hn : n ∈ nodes) => D.ends hn ((w : Int), k, count, nodes) rfl
   obtain ⟨r, r1, r2⟩ := sort_kk (kHI w) nodes
   obtain ⟨e, e1, e2⟩ := reach_loop (kk := kHI w) (Fk := fun n => F60 (n, ((w : Int), k, count, nodes))) hlen (fun n hn => ⟨(hk n hn).2.1, hb n hn⟩) hsum hr r1 r2
   refine ⟨e, e1, ?_⟩
   unfold F61b
   refine callQ_of ⟨r, hne, by show nodes.length ≤ _; omega, fun n hn => ⟨_, (hk n hn).2.1, ?_⟩, r1, ?_⟩ fun r' hr' => ?_
   · have := (hk n hn).2.2.2.1
     exact ⟨by omega, by omega⟩
   · exact r2.imp_of_mem fun {a b} ha hb' h i j hi hj => by
       dsimp only at hi hj
       rw [(hk a (r1.subset ha)).2.1] at hi
       rw [(hk b (r1.subset hb')).2.1] at hj
       have := Option.some.inj hi; have := Option.some.inj hj; omega
   · obtain ⟨_, _, _, p1, p2⟩ := hr'
     have p1 : r'.Perm nodes := p1
     obtain ⟨e', e1', e2'⟩ := reach_loop (kk := kHI w) (Fk := fun n => F60 (n, ((w : Int), k, count, nodes))) hlen (fun n hn => ⟨(hk n hn).2.1, hb n hn⟩) hsum hr p1 (p2.imp_of_mem fun {a b} ha hb' h => h _ _ (hk a (p1.subset ha)).2.1 (hk b (p1.subset hb')).2.1)
     rw [e1.same e1']
     exact e2'
end
theorem F24_ok {w : Nat} {k count : Int} {nodes : List Nd} (D : Dig w k count nodes) {num den : Int} (hr : rchk num den = 0) (h01 : 0 ≤ num ∧ num ≤ den) (hc : 1 ≤ count) : ∃ (a b : Int) (W : Nat), F24 (((w : Int), k, count, nodes), num, den) = some (a, b, 0) ∧ Reach (kLO w) nodes W a ∧ Reach (kHI w) nodes W b ∧ W = wantN (num.toNat * count.toNat) den.toNat ∧ 1 ≤ W ∧ (W : Int) ≤ count ∧ F62 ((num, den), count) = some (W : Int) := by
 have h20 := F20_eq (w : Int) k count nodes
 rw [D.check] at h20
 have h57 := F57_eq num den
 rw [hr] at h57
 have c0 := D.c0; have c1 := D.c1
 obtain ⟨⟨d1, d2⟩, _⟩ := rchk_ok hr
 have en : num = (num.toNat : Int) := by omega
 have ed : den = (den.toNat : Int) := by omega
 have ec : count = (count.toNat : Int) := by omega
 have hle : num.toNat ≤ den.toNat := by omega
 have w58 := F58_eq (n := count.toNat) hle (by omega) (by omega) (by omega)
 have w62 := F62_eq (n := count.toNat) hle (by rw [← en, ← ed]; exact hr) (by omega)
 rw [← en, ← ed, ← ec] at w58 w62
 have hwant : 1 ≤ wantN (num.toNat * count.toNat) den.toNat ∧ wantN (num.toNat * count.toNat) den.toNat ≤ count.toNat := by
   have : (num.toNat * count.toNat + (den.toNat - 1)) / den.toNat ≤ count.toNat := (ceil_iff (by omega)).2 (by
     rw [Nat.mul_comm count.toNat]; exact Nat.mul_le_mul_right _ hle)
   unfold wantN; omega
 obtain ⟨W, hW⟩ : ∃ W, wantN (num.toNat * count.toNat) den.toNat = W := ⟨_, rfl⟩
 rw [hW] at w58 w62 hwant
 obtain ⟨⟨a, ha, fa⟩, b, hb, fb⟩ := F61_eq D (rank := (W : Int)) (by omega)
 refine ⟨a, b, W, ?_, ha, hb, hW.symm, hwant.1, by omega, w62⟩
 unfold F24
 rw [zAV h20, sel_t (show bnot (ine 0 0) = true from rfl), zAV h57, zCl (show zAJ (ine 0 0) true (ine 0 0) = false from rfl), zCl (by simp only [zCH, zCA, ← Bool.decide_or]; exact decide_eq_false (show ¬ (num < 0 ∨ den < num) by omega)), zCl (by rw [ieq_d]; exact decide_eq_false (show ¬ count = 0 by omega)), zAV w58, zAV fa, zAV fb]
theorem F24_bad {w : Nat} {k count : Int} {nodes : List Nd} (D : Dig w k count nodes) {num den : Int} (h : rchk num den ≠ 0 ∨ (num < 0 ∨ den < num) ∨ count = 0) : ∃ e, e ≠ 0 ∧ F24 (((w : Int), k, count, nodes), num, den) = some (0, 0, e) := by
 have h20 := F20_eq (w : Int) k count nodes
 rw [D.check] at h20
 unfold F24
 rw [zAV h20, sel_t (show bnot (ine 0 0) = true from rfl), zAV (F57_eq num den)]
 by_cases hr : rchk num den ≠ 0
 · exact ⟨1, by decide, by rw [sel_t (by simp [zCH, ine_d, hr])]⟩
 · rw [zCl (by simp [zCH, ine_d]; omega), zCH, zCA, zCA, ← Bool.decide_or, zCY]
   by_cases h1 : num < 0 ∨ den < num
   · exact ⟨2, by decide, by rw [if_pos h1]⟩
   · rw [if_neg h1, ieq_d, zCY]
     exact ⟨28, by decide, by rw [if_pos (show ((w : Int), k, count, nodes).2.2.1 = 0 by dsimp only; omega)]⟩
theorem rnk_perm {a b : List Int} (h : a.Perm b) (v : Int) : rnk a v = rnk b v := by
 unfold rnk
 induction h with
 | nil => rfl
 | cons x _ ih => simp [ih]
 | swap x y l => simp; omega
 | trans _ _ h1 h2 => exact h1.trans h2
theorem rnk_all {l : List Int} {v : Int} (h : ∀ x ∈ l, x ≤ v) : rnk l v = l.length := by
 induction l with
 | nil => rfl
 | cons a l ih =>
   have := ih fun x hx => h x (by simp [hx])
   have ha := h a (by simp)
   unfold rnk at *
   rw [List.map_cons, List.sum_cons, this, if_pos ha]; simp; omega
theorem rnk_none {l : List Int} {v : Int} (h : ∀ x ∈ l, v < x) : rnk l v = 0 := by
 induction l with
 | nil => rfl
 | cons a l ih =>
   have := ih fun x hx => h x (by simp [hx])
   have ha := h a (by simp)
   unfold rnk at *
   rw [List.map_cons, List.sum_cons, this, if_neg (by omega)]; rfl
theorem rnk_le (l : List Int) (v : Int) : 0 ≤ rnk l v ∧ rnk l v ≤ l.length := by
 induction l with
 | nil => simp [rnk]
 | cons a l ih =>
   unfold rnk at *
   rw [List.map_cons, List.sum_cons, List.length_cons]
   split <;> omega
theorem sorted_rank {S : List Int} (hs : S.Pairwise fun a b => a ≤ b) {j : Nat} (hj : j < S.length) : (j : Int) + 1 ≤ rnk S S[j] ∧ ∀ v, v < S[j] → rnk S v ≤ j := by
 have hp := List.pairwise_iff_getElem.1 hs
 constructor
 · have e : S = S.take (j + 1) ++ S.drop (j + 1) := (List.take_append_drop _ _).symm
   have h1 : rnk (S.take (j + 1)) S[j] = (S.take (j + 1)).length := rnk_all fun x hx => by
     obtain ⟨i, hi, rfl⟩ := List.getElem_of_mem hx
     rw [List.length_take] at hi
     rw [List.getElem_take]
     rcases Nat.lt_or_eq_of_le (show i ≤ j by omega) with h | h
     · exact hp i j (by omega) hj h
     · subst h; exact Int.le_refl _
   have h2 : rnk S S[j] = rnk (S.take (j + 1)) S[j] + rnk (S.drop (j + 1)) S[j] := by rw [← rnk_app, ← e]
   have h3 := (rnk_le (S.drop (j + 1)) S[j]).1
   rw [List.length_take] at h1
   omega
 · intro v hv
   have e : S = S.take j ++ S.drop j := (List.take_append_drop _ _).symm
   have h1 : rnk (S.drop j) v = 0 := rnk_none fun x hx => by
     obtain ⟨i, hi, rfl⟩ := List.getElem_of_mem hx
     rw [List.length_drop] at hi
     rw [List.getElem_drop]
     rcases Nat.eq_zero_or_pos i with h | h
     · subst h; simpa using hv
     · have := hp j (j + i) hj (by omega) (by omega); omega
   have h2 : rnk S v = rnk (S.take j) v + rnk (S.drop j) v := by rw [← rnk_app, ← e]
   have h3 := (rnk_le (S.take j) v).2
   rw [List.length_take] at h3
   omega
theorem between {w : Nat} {k : Int} {nodes : List Nd} {all S : List Int} (T : Tru w k nodes all) (hp : S.Perm all) (hs : S.Pairwise fun a b => a ≤ b) {W : Nat} (hW : 1 ≤ W) (hj : W - 1 < S.length) {a b : Int} (ha : Reach (kLO w) nodes W a) (hb : Reach (kHI w) nodes W b) : a ≤ S[W - 1] ∧ S[W - 1] ≤ b := by
 obtain ⟨r1, r2⟩ := sorted_rank hs hj
 constructor
 · rcases Int.lt_or_le S[W - 1] a with g | g
   · have h1 := ha.below _ g
     have h2 : zCP (zDW w S[W - 1]) nodes = zCP (ind (kLO w) S[W - 1]) nodes := rfl
     have h3 := T.hi S[W - 1]
     rw [← rnk_perm hp] at h3
     omega
   · exact g
 · rcases Int.lt_or_le b S[W - 1] with g | g
   · have h1 := hb.enough
     have h2 : zCP (zDX w b) nodes = zCP (ind (kHI w) b) nodes := rfl
     have h3 := T.lo b
     rw [← rnk_perm hp] at h3
     have h4 := r2 b g
     omega
   · exact g
theorem F27o_tru {w : Nat} {k : Int} (hw : 1 ≤ w ∧ w ≤ 8) (hk : 1 ≤ k ∧ k ≤ 8) (l : List (Int × Bool)) (hl : l.length ≤ 30) (hv : ∀ s ∈ l, 0 ≤ s.1 ∧ s.1 < 256) :
   ∃ y, F27o ((w : Int), k, l) = some y ∧ ∃ nodes all, y = ((((w : Int), k, (all.length : Int), nodes), (), true), all) ∧ Tru w k nodes all ∧ all.length = l.length := by
 have hp := Nat.two_pow_pos w
 have p8 : 2 ^ w ≤ 256 := Nat.le_trans (Nat.pow_le_pow_right (by decide) hw.2) (by decide)
 unfold F27o
 dsimp only
 have e13 : F13 ((w : Int), k) = some (((w : Int), k, 0, []), 0) := by
   unfold F13
   simp only [zCH, zCA, ← Bool.decide_or, zCY]
   rw [if_neg (by omega)]
 rw [zAV e13, zCl (by rw [zCH, ine_d, n2i_c, llen_c, zCA]; simp; omega)]
 refine join_to l.length (fun i s => ∃ nodes all, s = ((i : Int), ((w : Int), k, (all.length : Int), nodes), all) ∧ Tru w k nodes all ∧ all.length = i) ?_ ?_ ?_
 · refine ⟨[], [], rfl, ⟨⟨hw.1, by omega, hk.1, by omega, by simp, by simp, by simp, by simp, by simp, List.Pairwise.nil, rfl⟩, fun v => by simp [zCP, rnk], fun v => by simp [zCP, rnk]⟩, rfl⟩
 · rintro i _ hi ⟨nodes, all, rfl, T, ha⟩
   have hlt : (i : Int) < l.length := by omega
   have hin : inL (i : Int) l.length = true := inL_t hi
   have hg : zBC (0, false) l i = l[i] := lget_t hi
   have hsv := hv l[i] (List.getElem_mem hi)
   simp only [n2i_c, llen_c, i2n_c, hg, hin, zAq, zCA, zCY, hlt, if_true]
   generalize l[i] = s at hsv ⊢
   obtain ⟨sv, sc⟩ := s
   dsimp only at hsv ⊢
   have e1 : zAZ .i64 sv = sv := zAd (by omega) (by omega)
   have e2 : irem sv ((2 ^ w : Nat) : Int) = sv % ((2 ^ w : Nat) : Int) := by unfold irem; exact Int.tmod_eq_emod_of_nonneg hsv.1
   rw [zAq (by rw [ile_d]; simp), ishl_1 w (by omega), zAq (by rw [ine_d]; exact decide_eq_true (by omega)), e1, e2]
   have hx : 0 ≤ sv % ((2 ^ w : Nat) : Int) ∧ sv % ((2 ^ w : Nat) : Int) < ((2 ^ w : Nat) : Int) := ⟨Int.emod_nonneg _ (by omega), Int.emod_lt_of_pos _ (by omega)⟩
   generalize sv % ((2 ^ w : Nat) : Int) = x at hx ⊢
   obtain ⟨T1, hl1⟩ := T.add hx (by omega)
   have D := T.dig
   have hlen := D.len
   rw [zAq (by simp [room, nadd]; omega), zAV (F16_eq (by omega) ⟨by omega, by omega⟩ ⟨by decide, by decide⟩), D.check, if_neg (by simp), ← ishl_shl, ishl_1 w (by omega), if_neg (by omega), if_neg (by omega), if_neg (by omega)]
   dsimp only
   rw [zCl (show ine 0 0 = false from rfl), zCI (by omega) (by omega)]
   have e3 : (((all ++ [x]).length : Nat) : Int) = all.length + 1 := by simp
   cases sc with
   | false =>
     rw [zCl rfl]
     refine ⟨_, rfl, _, _, ?_, T1, by simp [ha]⟩
     rw [e3]; rfl
   | true =>
     rw [sel_t rfl, ← e3]
     obtain ⟨r, hr, C⟩ := F18_good T1.dig.check
     rw [Int.toNat_natCast] at C
     rw [zAV hr, zCl (show ine 0 0 = false from rfl)]
     exact ⟨_, rfl, _, _, rfl, T1.cmp C, by simp [ha]⟩
 · rintro _ ⟨nodes, all, rfl, T, ha⟩
   refine ⟨(((w : Int), k, (all.length : Int), nodes), all), ?_, _, rfl, nodes, all, rfl, T, ha⟩
   simp only [n2i_c, llen_c, zCA, zCY]
   rw [if_neg (by omega)]
theorem law10 (n : Int) (hn : 0 ≤ n ∧ n < 256) (l : List (Int × Bool)) (hv : ∀ s ∈ l, 0 ≤ s.1 ∧ s.1 < 256) (num den : Int) : F10 (n, l, num, den) = some true := by
 unfold F10
 obtain ⟨w, k, h26, hw, hk⟩ := F26_eq hn
 dsimp only
 rw [zAV h26]
 dsimp only
 by_cases g : l.length ≤ 30
 · obtain ⟨y, h27, nodes, all, rfl, T, ha⟩ := F27o_tru hw hk l g hv
   rw [zAV h27]
   dsimp only
   rw [zCl (show bnot true = false from rfl)]
   simp only [n2i_c, llen_c]
   by_cases hbad : rchk num den ≠ 0 ∨ (num < 0 ∨ den < num) ∨ (all.length : Int) = 0
   · obtain ⟨e, he, f⟩ := F24_bad T.dig hbad
     have hine : ine e 0 = true := by rw [ine_d]; exact decide_eq_true he
     rw [zAV f, zAV (F35_eq num den), sel_t]
     · rw [hine, sel_t rfl, zAV awake]; rfl
     · simp only [zCH, ine_d, zCA, ieq_d, ← Bool.decide_or]
       exact decide_eq_true (by simp only [or_assoc] at hbad ⊢; exact hbad)
   · have hr : rchk num den = 0 := by omega
     obtain ⟨a, b, W, f, hA, hB, eW, w1, w2, _⟩ := F24_ok T.dig hr (by omega) (show 1 ≤ (all.length : Int) by omega)
     rw [zAV f, zAV (F35_eq num den), zCl]
     · obtain ⟨hd, _⟩ := rchk_ok hr
       obtain ⟨num, rfl⟩ : ∃ m : Nat, num = m := ⟨num.toNat, by omega⟩
       obtain ⟨den, rfl⟩ : ∃ m : Nat, den = m := ⟨den.toNat, by omega⟩
       simp only [Int.toNat_natCast] at eW
       have h36 : F36 all = some (all.mergeSort fun x y => decide (x ≤ y)) := by
         unfold F36
         rw [Nat.ble_eq_true_of_le (show 1 ≤ all.length by omega), Nat.ble_eq_true_of_le (show all.length ≤ 1000000 by omega)]; rfl
       have hS1 : (all.mergeSort fun x y => decide (x ≤ y)).Perm all := List.mergeSort_perm _ _
       have hS2 : (all.mergeSort fun x y => decide (x ≤ y)).Pairwise fun a b => a ≤ b := by
         have := List.pairwise_mergeSort (le := fun a b : Int => decide (a ≤ b)) (fun a b c h1 h2 => by simp at *; omega) (fun a b => by simp; omega) all
         exact this.imp fun {a b} h => by simpa using h
       rw [zAV h36]
       generalize (all.mergeSort fun x y => decide (x ≤ y)) = S at hS1 hS2
       have hSl := hS1.length_eq
       obtain ⟨bt1, bt2⟩ := between T hS1 hS2 w1 (by omega) hA hB
       have hloop := iter_wf (body := fun (s7 : Int) =>
           sel (ilt s7 (n2i (zBF S))) (call (F37 (s7, n2i (zBF S))) fun (r8 : ((Int × Int) × Int)) =>
           call (F38 (r8.1, ((num : Int), (den : Int)))) fun (r9 : Int) =>
           sel (ile 0 r9) (some (.inr (.inl s7))) <|
           some (.inl (zAn .i64 s7 1))) <|
           (some (.inr (.inl s7)) : Option (Int ⊕ (Int ⊕ Bool)))) (fun s => ∃ i : Nat, s = i ∧ 1 ≤ i ∧ i ≤ W) (fun s => S.length - s.toNat) (fun e => e = .inl (W : Int)) (by
         rintro _ ⟨i, rfl, i1, i2⟩
         simp only [n2i_c, llen_c, zCA, ile_d, zCY]
         by_cases c : (i : Int) < S.length
         · rw [if_pos c, zAV (F37_eq (by omega) (by omega) (by omega))]
           dsimp only
           rw [zAV (F38_eq (part_ok (by omega) (by omega) (by omega)) hr)]
           by_cases q : num * S.length ≤ i * den
           · right
             rw [if_pos ((part_le (by omega)).2 q)]
             refine ⟨_, rfl, ?_⟩
             have := (ceil_iff (N := num * S.length) (d := den) (k := i) (by omega)).2 q
             rw [hSl] at this
             unfold wantN at eW
             congr 2; omega
           · left
             rw [if_neg (fun h => q ((part_le (by omega)).1 h)), zCI (by omega) (by omega)]
             have : ¬ (num * S.length + (den - 1)) / den ≤ i := fun h => q ((ceil_iff (by omega)).1 h)
             rw [hSl] at this
             unfold wantN at eW
             exact ⟨_, rfl, ⟨i + 1, rfl, by omega, by omega⟩, by omega⟩
         · right
           rw [if_neg c]
           refine ⟨_, rfl, ?_⟩
           congr 2; omega) 1 ⟨1, rfl, by omega, w1⟩
       obtain ⟨_, hl1, rfl⟩ := hloop
       refine Eq.trans (join_l hl1) ?_
       have ej : zCb .i64 (W : Int) 1 = ((W - 1 : Nat) : Int) := (isub_s (by omega) (by omega)).trans (by omega)
       have hg : zBC 0 S (W - 1) = S[W - 1] := lget_t (by omega)
       simp only [n2i_c, llen_c, ej, i2n_c, hg]
       have hin : inL ((W - 1 : Nat) : Int) S.length = true := inL_t (by omega)
       have b1 : ile a S[W - 1] = true := by rw [ile_d]; exact decide_eq_true bt1
       have b2 : ile S[W - 1] b = true := by rw [ile_d]; exact decide_eq_true bt2
       rw [zAq (impl_t fun _ => hin), zAq (impl_t fun _ => hin), b1, b2, sel_t (show zAJ (zAJ (ieq 0 0) true false) true false = true from rfl), zAV awake]
       rfl
     · simp only [zCH, ine_d, zCA, ieq_d, ← Bool.decide_or]
       exact decide_eq_false (by simp only [or_assoc] at hbad ⊢; exact hbad)
 · have h27 : F27o ((w : Int), k, l) = some ((((w : Int), k, 0, []), (), false), []) := by
     have e13 : F13 ((w : Int), k) = some (((w : Int), k, 0, []), 0) := by
       unfold F13
       simp only [zCH, zCA, ← Bool.decide_or, zCY]
       rw [if_neg (by omega)]
     unfold F27o
     dsimp only
     rw [zAV e13, sel_t]
     rw [zCH, ine_d, n2i_c, llen_c, zCA]; simp; omega
   have hlt : ilt 30 (n2i (zBF l)) = true := by rw [zCA, n2i_c, llen_c]; simp; omega
   rw [zAV h27]
   dsimp only
   rw [sel_t (show bnot false = true from rfl), hlt, sel_t rfl, zAV awake]
   rfl
end Go.Q
