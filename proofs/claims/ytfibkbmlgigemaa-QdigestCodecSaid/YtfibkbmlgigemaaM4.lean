/- Part 4 of what the claim leans on: THeap4, THeap5, THeap6, THide, TPack, TPack2, TPack3, TJoin, TJoin2, TCall, TCall2, TCall3, TCall4, TCall5, TOp, TOp2, TOp3, TOp4, TOp5, TDrawH, TLdF, TWalk. -/
import Derived.Test.YtfibkbmlgigemaaM3
import Derived.Calls
import Derived.KernelRfl
import Derived.Orders
import Derived.Laws.Sem
import Derived.Laws.CopyRow
import Derived.Laws.Cells
import Derived.Room.Entries
import Derived.Lib.Overlaps
import GoSem.Conv.BytesToString
import Derived.OrdersHeld
set_option linter.unusedVariables false
set_option linter.unusedSectionVars false
set_option linter.unusedSimpArgs false
namespace Go.T
open Go.Ab
variable [Go.Ab.DM]
section
variable {P : Program} {B : Base} {ζ ζ' : Nat → Row} {num num' : Nat → Nat} {rows rows' : Rows} {s : St} {e : Env} {H H' H'' : Heap} {R : Type} {r : R}
theorem map_enc_len (l : List (Nat × TV)) : (l.map fun p => (p.1, enc (zAB num rows) p.2)).map (·.1) = l.map (·.1) := by simp
theorem buildSlice_sound' {d : Nat} (ha : Abs B ζ num s e H) {c : List (Nat × Bool)} (hh : zAz s.gs c = true) {t el : TypeId} {n z : Nat} {ps : Array (Nat × Operand)} {u : Ty} {l : List (Nat × TV)} {xs : List u.I} (hel : zBD P t = some el) (hz : tsz P el = some z) (hl : evPs s.env c ps.toList = some l)
   (hb : (Nat.beq z u.w && u.elem && (l.map (·.1) == List.range n) && decide (n * z ≤ 16777216) && ((P.info? el).bind (·.zero)).isSome && l.all (fun p => liesT (zAi d (refsOf (l.map (·.2))) 0 s.rows) p.2 && Nat.beq (zAq p.2).length z)) = true)
   (hx : convAll (zAi d (refsOf (l.map (·.2))) 0 s.rows) u (l.map (·.2)) = some xs) {C : Env → D → Heap → Prop}
   (hC : ∀ e1 dd H' ζ' num' H'', Step B d ζ num s e1 dd H' ⟨.own s.rows.length, ()⟩ { s with rows := zAi d (refsOf (l.map (·.2))) 0 s.rows ++ [(d, .many u xs)] } ζ' num' H'' → C e1 dd H') :
   ∃ e1 H1, (WeakS e H e1 H1 ∧ ∃ rf, e1 = zCn num { s with rows := rf }) ∧ zBf P t n (ps.toList.map fun p => (p.1, ev e1 p.2)) H1 (C e1) := by
 simp only [Bool.and_eq_true, Nat.beq_eq, beq_iff_eq, decide_eq_true_eq] at hb
 obtain ⟨⟨⟨⟨⟨hzw, hue⟩, hnum⟩, hsz⟩, hzero⟩, hall⟩ := hb
 obtain ⟨ha1, hw1⟩ := fr_abs ha (zBe d (refsOf (l.map (·.2))) s.rows)
 have hle1 := fr_Le (ζ := ζ) (num := num) (s := s) d (refsOf (l.map (·.2)))
 have hlen1 := freeze_len d (refsOf (l.map (·.2))) s.rows 0
 generalize zAi d (refsOf (l.map (·.2))) 0 s.rows = rf at *
 obtain ⟨h1, h2⟩ := evPs_sound ha1 (by exact hh) (by exact hl)
 refine ⟨_, _, ⟨hw1, rf, rfl⟩, ?_⟩
 rw [h1]
 unfold zBf
 rw [hel]
 simp only
 rw [hz]
 have hok : ∀ v ∈ l.map (·.2), okV rf v := fun v hv => by
   simp only [List.mem_map] at hv
   obtain ⟨p, hp, rfl⟩ := hv
   exact h2 p hp
 obtain ⟨hte, hxl⟩ := convAll_te (num := num) hue (l.map (·.2)) xs hok hx
 refine ⟨by rw [map_enc_len]; exact hnum, hsz, fun _ => hzero, ?_, ?_⟩
 · rw [List.all_map, List.all_eq_true]
   rw [List.all_eq_true] at hall
   intro p hp
   have := hall p hp
   simp only [Bool.and_eq_true, Nat.beq_eq] at this
   simp only [Function.comp, Bool.and_eq_true, beq_iff_eq]
   exact ⟨by rw [enc_width]; exact this.2, lies_lies this.1⟩
 · have hm : n = xs.length := by
     rw [hxl, List.length_map]
     have := congrArg List.length hnum
     simpa using this.symm
   have st := (list_step (d := d) (s := { s with rows := rf }) ha1 hue hte hm).pre (ζ := ζ) (num := num) (s := s) (fun _ => Tl.refl _) hle1 rfl rfl
   dsimp only at st
   rw [hlen1] at st
   have e2 : (l.map fun p => (p.1, enc (zAB num rf) p.2)).map (·.2) = (l.map (·.2)).map (enc (zAB num rf)) := by simp [Function.comp]
   rw [e2, hzw]
   exact hC _ _ _ _ _ _ st
theorem makeSlice_sound' {d : Nat} (ha : Abs B ζ num s e H) {t el : TypeId} {z by_ : Nat} {u : Ty} {zv : TV} {y : u.I} {a b : Int} {ka kb : IntKind} (hel : zBD P t = some el) (hz : tsz P el = some z) (hby : tby P el = some by_) (hzv : zeroT P el = some zv)
   (hb : (Nat.beq z u.w && u.elem && liesT [] zv && Nat.beq (zAq zv).length z) = true) (hcv : zBG [] u zv = some y) (hmk : mk a b by_ = true) {C : D → Heap → Prop}
   (hC : ∀ dd H' ζ' num' H'', Step B d ζ num s e dd H' ⟨.own s.rows.length, ()⟩ { s with rows := s.rows ++ [(d, .many u (lrep a y))] } ζ' num' H'' → C dd H') :
   zBk P t (.v (.int ka a)) (.v (.int kb b)) H C := by
 simp only [Bool.and_eq_true, Nat.beq_eq] at hb
 obtain ⟨⟨⟨hzw, hue⟩, hlies⟩, hk⟩ := hb
 simp only [mk, Bool.and_eq_true, decide_eq_true_eq] at hmk
 obtain ⟨⟨⟨h1, h2⟩, h3⟩, h4⟩ := hmk
 obtain ⟨hz1, hz2⟩ := zDC hzv (zAB num s.rows) s.rows
 have hpure := zeroT_pure hzv
 have hsame : enc (zAB num s.rows) zv = enc (zAB num []) zv := enc_pure hpure _ _
 have hte : Te (enc (zAB num s.rows) zv) (e0 u y) := by
   rw [hsame]; exact conv_te hue (zDC hzv (zAB num []) []).2 hcv
 unfold zBk
 simp only
 rw [hel]
 simp only
 rw [hz, hby, hz1]
 refine ⟨⟨by rw [enc_width]; exact hk, by rw [hsame]; exact lies_lies hlies, h1, h2, h3, h4⟩, .inr ?_⟩
 have hrep : ∀ n : Nat, Tes (List.replicate n (enc (zAB num s.rows) zv)) ((List.replicate n y).map (e0 u)) := by
   intro n
   induction n with
   | zero => exact .nil
   | succ n ih => exact .cons hte ih
 rw [hzw]
 exact hC _ _ _ _ _ (list_step ha hue (hrep a.toNat) (by simp [lrep]))
theorem makeMap_step {d : Nat} (ha : Abs B ζ num s e H) {a b : Ty} (hk : (keq a).isSome = true) (hb : b.pure = true) :
   Step B d ζ num s e (.mp H.length) (H ++ [some (.mp [] 0)]) ⟨.mp s.rows.length, ()⟩ { s with rows := s.rows ++ [(d, .mp a b [])] } (updN ζ s.rows.length (.mp [] 0)) (updN num s.rows.length H.length) (H ++ [some (.mp [] 0)]) := by
 refine push_step ha (SameRel.refl _) ⟨hk, hb, [], 0, ⟨by rw [zBd, Heap.get_push, if_pos rfl], zBd _ _ _⟩, rfl, .nil, by simp, by simp⟩ (fun t x h => by cases h) (Tl.of_eq ?_) (by show s.rows.length < _; simp)
 show _ = mpD (updN num s.rows.length H.length s.rows.length) (zAA (s.rows ++ [(d, .mp a b [])]) s.rows.length)
 rw [zBd, zBQ]; rfl
theorem Tls_modify {a b : List D} (h : Tls a b) {x y : D} (hxy : Tl x y) (j : Nat) : Tls (a.modify j fun _ => x) (b.set j y) := by
 induction h generalizing j with
 | nil => simp; exact .nil
 | cons h1 h2 ih =>
   cases j with
   | zero => exact .cons hxy h2
   | succ j => simp only [List.modify_succ_cons, List.set_cons_succ]; exact .cons h1 (ih j)
theorem map_modify_keys (es : MapD) (kv : Value) (x : D) (j : Nat) : (es.modify j fun p => (p.1, kv, x)).map (·.2.1) = (es.map (·.2.1)).set j kv := by
 induction es generalizing j with
 | nil => simp
 | cons p es ih => cases j <;> simp [List.modify_succ_cons, ih]
theorem map_modify_vals (es : MapD) (kv : Value) (x : D) (j : Nat) : (es.modify j fun p => (p.1, kv, x)).map (·.2.2) = (es.map (·.2.2)).modify j fun _ => x := by
 induction es generalizing j with
 | nil => simp
 | cons p es ih => cases j <;> simp [List.modify_succ_cons, ih]
theorem map_modify_born (es : MapD) (kv : Value) (x : D) (j : Nat) : (es.modify j fun p => (p.1, kv, x)).map (·.1) = es.map (·.1) := by
 induction es generalizing j with
 | nil => simp
 | cons p es ih => cases j <;> simp [List.modify_succ_cons, ih]
theorem Tls_erase {a b : List D} (h : Tls a b) (j : Nat) : Tls (a.eraseIdx j) (b.eraseIdx j) := by
 induction h generalizing j with
 | nil => simp; exact .nil
 | cons h1 h2 ih => cases j with
   | zero => exact h2
   | succ j => exact .cons h1 (ih j)
theorem map_upd {d q : Nat} (ha : Abs B ζ num s e H) {a b : Ty} {l l' : List (a.I × b.I)} (hrow : zAA s.rows q = .mp a b l) (hno : zCy q s.rows = true) {es' : MapD} {cl' : Nat} {v : TV} {dd : D} (hk : es'.map (·.2.1) = l'.map (fun p => keyV a p.1)) (hv : Tls (es'.map (·.2.2)) (l'.map fun p => e0 b p.2)) (hlt : ∀ p ∈ es', p.1 < cl') (hnd : (es'.map (·.1)).Nodup)
   (hd : ∀ ρ, Tl dd (enc ρ v)) (hok : okV s.rows v) : Step B d ζ num s e dd (H.set (num q) (some (.mp es' cl'))) v { s with rows := setRow s.rows q d (.mp a b l') } (updN ζ q (.mp es' cl')) num (H.set (num q) (some (.mp es' cl'))) := by
 have hR := ha.hrel.row q
 rw [hrow] at hR
 obtain ⟨hke, hbp, es0, cl0, ⟨hg, _⟩, _⟩ := hR
 have hql : q < s.rows.length := zAo (by rw [hrow]; simp)
 exact set_stepZ ha hql (SameRel.refl _) (by rw [hrow]; rfl) ⟨hke, hbp, es', cl', ⟨by rw [Heap.get_set H (Heap.get_lt hg), if_pos rfl], zBd _ _ _⟩, hk, hv, hlt, hnd⟩ (by rw [hrow]; exact ref_mp _) (fun h => by simp [zAO] at h) (fun t x h => by cases h) (fun _ _ _ _ => hno) (hd _) hok
theorem mapUpdate_sound' {d : Nat} (ha : Abs B ζ num s e H) {t : TypeId} {q : Nat} {a b b0 : Ty} {eq : a.I → a.I → Bool} {l : List (a.I × b.I)} {kx vx : TV} {ky : a.I} {vy : b.I} {ym : (Ty.mp q).I} (hrow : zAA s.rows q = .mp a b l) (he : keq a = some eq) (hkx : zBG [] a kx = some ky) (hvx : zBG s.rows b vx = some vy) (hox : okV s.rows vx) (hmt : mapT P t = some (a, b0)) (hno : zCy q s.rows = true) {C : D → Heap → Prop}
   (hC : ∀ dd H' ζ' num' H'', Step B d ζ num s e dd H' ⟨.any, ()⟩ { s with rows := setRow s.rows q d (.mp a b (mput eq l ky vy)) } ζ' num' H'' → C dd H') :
   zBr P t (enc (zAB num s.rows) ⟨.mp q, ym⟩) (enc (zAB num s.rows) kx) (enc (zAB num s.rows) vx) H C := by
 obtain ⟨kt, et, kd, h1, h2, h3⟩ := mapT_some hmt
 obtain ⟨hu1, hu2, hkk⟩ := tmap_some h1
 have hR := ha.hrel.row q
 rw [hrow] at hR
 obtain ⟨hke, hbp, es, cl, ⟨hg, _⟩, hk1, hv1, hlt, hnd⟩ := hR
 have hq : enc (zAB num s.rows) ⟨.mp q, ym⟩ = .mp (num q) := by
   show mpD (num q) (zAA s.rows q) = _
   rw [hrow]; rfl
 have hval : Tl (enc (zAB num s.rows) vx) (e0 b vy) := convS_tl hox hvx
 unfold zBr
 rw [h1, conv_key hke hkx (zAB num s.rows), hq]
 simp only [hg]
 rcases findD_sound (v := b) (key_same hu2 hkk h2 he) ky vy es l 0 hk1 hv1 with ⟨g1, g2, g3, g4, g5⟩ | ⟨j, g1, g2, ⟨x, p, g3, g4, g5⟩, g6, g7, g8⟩
 · rw [g1]
   simp only [updM]
   refine hC _ _ _ num _ (map_upd ha hrow hno ?_ ?_ ?_ ?_ (fun ρ => Tl.any _) trivial)
   · rw [g4]; simp [hk1]
   · rw [g4]; simp only [List.map_append, List.map_cons, List.map_nil]; exact hv1.app (.cons hval .nil)
   · intro p hp
     simp only [List.mem_append, List.mem_cons, List.not_mem_nil, or_false] at hp
     rcases hp with hp | rfl
     · have := hlt p hp; omega
     · exact Nat.lt_succ_self _
   · simp only [List.map_append, List.map_cons, List.map_nil]
     rw [List.nodup_append]
     refine ⟨hnd, by simp, fun x hx y hy => ?_⟩
     simp only [List.mem_cons, List.not_mem_nil, or_false] at hy
     subst hy
     simp only [List.mem_map] at hx
     obtain ⟨p, hp, rfl⟩ := hx
     exact Nat.ne_of_lt (hlt p hp)
 · rw [g1]
   simp only [updM, Nat.zero_add]
   refine hC _ _ _ num _ (map_upd ha hrow hno ?_ ?_ ?_ ?_ (fun ρ => Tl.any _) trivial)
   · rw [g6, map_modify_keys, hk1, List.map_set]
   · rw [g6, map_modify_vals, List.map_set]; exact Tls_modify hv1 hval j
   · intro p hp
     have : p.1 ∈ (es.modify j fun p => (p.1, keyV a ky, enc (zAB num s.rows) vx)).map (·.1) := List.mem_map_of_mem (f := (·.1)) hp
     rw [map_modify_born] at this
     simp only [List.mem_map] at this
     obtain ⟨p', hp', he'⟩ := this
     rw [← he']; exact hlt p' hp'
   · rw [map_modify_born]; exact hnd
theorem delete_sound' {d : Nat} (ha : Abs B ζ num s e H) {t : TypeId} {ts : Array TypeId} {q : Nat} {a b b0 : Ty} {eq : a.I → a.I → Bool} {l : List (a.I × b.I)} {kx : TV} {ky : a.I} {ym : (Ty.mp q).I} (ht : ts[0]? = some t) (hrow : zAA s.rows q = .mp a b l) (he : keq a = some eq) (hkx : zBG [] a kx = some ky) (hmt : mapT P t = some (a, b0)) (hno : zCy q s.rows = true) {C : D → Heap → Prop}
   (hC : ∀ dd H' ζ' num' H'', Step B d ζ num s e dd H' ⟨.tup .unit, ()⟩ { s with rows := setRow s.rows q d (.mp a b (mdel eq l ky)) } ζ' num' H'' → C dd H') :
   aDelete P ts (enc (zAB num s.rows) ⟨.mp q, ym⟩) (enc (zAB num s.rows) kx) H C := by
 obtain ⟨kt, et, kd, h1, h2, h3⟩ := mapT_some hmt
 obtain ⟨hu1, hu2, hkk⟩ := tmap_some h1
 have hR := ha.hrel.row q
 rw [hrow] at hR
 obtain ⟨hke, hbp, es, cl, ⟨hg, _⟩, hk1, hv1, hlt, hnd⟩ := hR
 have hq : enc (zAB num s.rows) ⟨.mp q, ym⟩ = .mp (num q) := by
   show mpD (num q) (zAA s.rows q) = _
   rw [hrow]; rfl
 unfold aDelete
 rw [ht, Option.bind_some, h1, conv_key hke hkx (zAB num s.rows), hq]
 simp only [hg]
 rcases findD_sound (v := b) (key_same hu2 hkk h2 he) ky b.dv es l 0 hk1 hv1 with ⟨g1, g2, g3, g4, g5⟩ | ⟨j, g1, g2, ⟨x, p, g3, g4, g5⟩, g6, g7, g8⟩
 · rw [g1]
   simp only
   exact hC _ _ _ num _ (map_upd ha hrow hno (by rw [g5]; exact hk1) (by rw [g5]; exact hv1) hlt hnd (fun ρ => Tl.refl _) trivial)
 · rw [g1]
   simp only [Nat.zero_add]
   refine hC _ _ _ num _ (map_upd ha hrow hno ?_ ?_ (fun p hp => hlt p (List.mem_of_mem_eraseIdx hp)) ?_ (fun ρ => Tl.refl _) trivial)
   · rw [g7, zCz, hk1, ← zCz]
   · rw [g7, zCz, zCz]; exact Tls_erase hv1 j
   · rw [zCz]; exact hnd.eraseIdx j
end
end Go.T
namespace Go.T
open Go.Ab
variable [Go.Ab.DM]
section
variable {P : Program} {B : Base} {ζ ζ' : Nat → Row} {num num' : Nat → Nat} {rows rows' : Rows} {s : St} {e : Env} {H H' H'' : Heap} {R : Type} {r : R}
theorem splice_map {u : Ty} (l ys : List u.I) (p n : Nat) : zCC (l.map (e0 u)) p ((ys.map (e0 u)).take n) = (lsplice l p (lsub ys 0 n)).map (e0 u) := by
 simp only [zCC, lsplice, lsub, List.drop_zero, List.map_append, List.map_take, List.map_drop, List.length_take, List.length_map]
theorem copy_step {d q : Nat} (ha : Abs B ζ num s e H) {t el : TypeId} {ts : Array TypeId} {u : Ty} {l ys : List u.I} {b : TV} {a : TV} {i m : Nat} (ht : ts[0]? = some t) (hel : zBD P t = some el) (hz : tsz P el = some u.w) (hrow : zAA s.rows q = .many u l) (hb : okV s.rows b) (hys : elemsT s.rows u b = some ys) (hD : enc (zAB num s.rows) a = .sl (num q) i m) (him : i + m ≤ l.length) {C : D → Heap → Prop}
   (hC : ∀ dd H' ζ' num' H'', Step B d ζ num s e dd H' ⟨.int .i64, n2i (nmin (zAr ys) m)⟩ { s with rows := setRow s.rows q d (.many u (lsplice l i (lsub ys 0 (nmin (zAr ys) m)))) } ζ' num' H'' → C dd H') :
   aCopy P ts (enc (zAB num s.rows) a) (enc (zAB num s.rows) b) H C := by
 have hR := ha.hrel.row q
 rw [hrow] at hR
 have hql : q < s.rows.length := zAo (by rw [hrow]; simp)
 unfold aCopy
 rw [ht]
 simp only
 rw [hel]
 simp only
 rw [hz, hD]
 refine ⟨_, zDN ha.hrel hb hys, ?_⟩
 show ∃ xs, H.get (num q) = some (.cells u.w xs) ∧ i + m ≤ xs.length ∧ C (.v (.int .i64 (min (ys.map (e0 u)).length m : Nat))) (H.set (num q) (some (.cells u.w (zCC xs i ((ys.map (e0 u)).take (min (ys.map (e0 u)).length m))))))
 refine ⟨_, hR.2, by rw [List.length_map]; exact him, ?_⟩
 rw [splice_map, List.length_map]
 have hlen : (lsplice l i (lsub ys 0 (min ys.length m))).length = l.length := by simp [lsplice, lsub]; omega
 refine hC _ _ ζ num (H.set (num q) (some (.cells u.w ((lsplice l i (lsub ys 0 (nmin (zAr ys) m))).map (e0 u))))) (set_step ha hql (SameRel.refl _) (by rw [hrow]; rfl) ⟨hR.1, by rw [Heap.get_set H (Heap.get_lt hR.2), if_pos rfl]⟩ (by rw [hrow]; exact ref_many _ hlen) (fun _ => by rw [hrow]; exact ⟨rfl, hlen⟩) (fun t x h => by cases h) (fun a b l h => by rw [hrow] at h; cases h) (Tl.refl _) trivial)
theorem sit_push {d : Nat} (ha : Abs B ζ num s e H) (b : ByteArray) :
   Step B d ζ num s e (.pt H.length 0 0) (H ++ [some (.sit b 0)]) ⟨.p0 s.rows.length 0, ()⟩ { s with rows := s.rows ++ [(d, .sit b 0)] } (updN ζ s.rows.length (.sit ByteArray.empty 0)) (updN num s.rows.length H.length) (H ++ [some (.sit b 0)]) := by
 refine push_step ha (SameRel.refl _) (by show Heap.get _ _ = _; rw [zBd, Heap.get_push, if_pos rfl]) (fun t x h => by cases h) (Tl.of_eq ?_) (by show s.rows.length < _; simp)
 show _ = p0D (updN num s.rows.length H.length s.rows.length) 0 (zAA (s.rows ++ [(d, .sit b 0)]) s.rows.length)
 rw [zBd, zBQ]; rfl
theorem it_push {d q : Nat} (ha : Abs B ζ num s e H) {a b : Ty} {l : List (a.I × b.I)} (hrow : zAA s.rows q = .mp a b l) {es : MapD} {cl : Nat} (hg : H.get (num q) = some (.mp es cl)) :
   Step B d ζ num s e (.pt H.length 0 0) (H ++ [some (.it (num q) cl [] cl)]) ⟨.p0 s.rows.length 0, ()⟩ { s with rows := s.rows ++ [(d, .itb q)] } (updN ζ s.rows.length (.it (num q) cl [] cl)) (updN num s.rows.length H.length) (H ++ [some (.it (num q) cl [] cl)]) := by
 have hql : q < s.rows.length := zAo (by rw [hrow]; simp)
 refine push_step ha (SameRel.refl _) ⟨by rw [zBd, zBd, Heap.get_push, if_pos rfl], ⟨a, b, l, by rw [rowAt_app_lt _ _ q hql]; exact hrow⟩, es, cl, ?_, by rw [zBd, updN_ne (Nat.ne_of_lt hql)]⟩ (fun t x h => by cases h) (Tl.of_eq ?_) (by show s.rows.length < _; simp)
 · rw [updN_ne (Nat.ne_of_lt hql), Heap.get_push, if_neg (Nat.ne_of_lt (Heap.get_lt hg))]; exact hg
 · show _ = p0D (updN num s.rows.length H.length s.rows.length) 0 (zAA (s.rows ++ [(d, .itb q)]) s.rows.length)
   rw [zBd, zBQ]; rfl
theorem ref_sit (n : Nat) {b : ByteArray} {p p' : Nat} : RefTl n (.sit b p) n (.sit b p') := ⟨Tl.refl _, fun _ => Tl.refl _, fun _ => Tl.refl _, fun _ _ => Tl.refl _, Tl.refl _⟩
theorem same_step {d : Nat} (ha : Abs B ζ num s e H) {v : TV} {dd : D} (hd : Tl dd (enc (zAB num s.rows) v)) (hv : okV s.rows v) : Step B d ζ num s e dd H v s ζ num H :=
 ⟨fun own X w hs => ⟨hs, .refl _ _ _, fun i x hx => by rw [← ha.env]; exact hx, fun x hx => hd _ _ _ _ _ hx⟩, by have := ha; rw [ha.env] at this; exact this, hv, Le.refl _ _ _ _, rfl, rfl⟩
theorem nextS_sound {d q : Nat} (ha : Abs B ζ num s e H) {b : ByteArray} {p : Nat} (hrow : zAA s.rows q = .sit b p) {k : TV → St → Option R} (h : sel (nlt p (zDS b)) (k (tupV [⟨.tt, ()⟩, ⟨.int .i64, n2i p⟩, ⟨.int .i32, rrune b p⟩]) { s with rows := setRow s.rows q d (.sit b (rnext b p)) }) (k (tupV [⟨.ff, ()⟩]) s) = some r) {C : D → Heap → Prop}
   (hC : ∀ v s' ζ' num' dd H' H'', k v s' = some r → Step B d ζ num s e dd H' v s' ζ' num' H'' → C dd H') : aNext true (.pt (num q) 0 0) H C := by
 have hR := ha.hrel.row q
 rw [hrow] at hR
 have hR : H.get (num q) = some (.sit b p) := hR
 have hql : q < s.rows.length := zAo (by rw [hrow]; simp)
 unfold aNext
 simp only [hR]
 refine ⟨fun hp => ?_, fun hp => ?_⟩
 · have h1 : nlt p (zDS b) = true := decide_eq_true hp
   rw [h1] at h
   refine hC _ _ ζ num _ _ (H.set (num q) (some (.sit b (rnext b p)))) h (set_step ha hql (SameRel.refl _) (by rw [hrow]; rfl) (by show Heap.get _ _ = _; rw [Heap.get_set H (Heap.get_lt hR), if_pos rfl]) (by rw [hrow]; exact ref_sit _) (fun h => by simp [zAO] at h) (fun t x h => by cases h) (fun a b l h => by rw [hrow] at h; cases h) (Tl.of_eq ?_) ?_)
   · rw [enc_tup]; rfl
   · exact ok_tup _ fun u hu => by
       simp only [List.mem_cons, List.not_mem_nil, or_false] at hu
       rcases hu with rfl | rfl | rfl <;> trivial
 · have h1 : nlt p (zDS b) = false := decide_eq_false hp
   rw [h1] at h
   refine hC _ _ ζ num _ _ H h (same_step ha (Tl.of_eq ?_) ?_)
   · rw [enc_tup]; rfl
   · exact ok_tup _ fun u hu => by
       simp only [List.mem_cons, List.not_mem_nil, or_false] at hu
       subst hu; trivial
end
end Go.T
namespace Go.T
open Go.Ab
variable [Go.Ab.DM]
section
variable {P : Program} {Γ : List Con} {B : Base} {ζ ζ' : Nat → Row} {num num' : Nat → Nat} {rows rows' : Rows} {s : St} {e : Env} {H H' H'' : Heap} {R : Type} {r : R}
theorem zAW {b : Bool} {x : Option R} (h : (bif b then x else none) = some r) : b = true ∧ x = some r := by
 cases b with
 | true => exact ⟨rfl, h⟩
 | false => cases h
theorem iter_none : ∀ (rows : Rows) (m : Nat), (∀ z, zAA rows z ≠ .itb m ∧ ∀ k v x y, zAA rows z ≠ .ite m k v x y) → zCy m rows = true
 | [], m, _ => rfl
 | (lv, row) :: l, m, h => by
   have h0 := h 0
   have ih := iter_none l m fun z => h (z + 1)
   simp only [zAA] at h0
   cases row with
   | itb q =>
     simp only [zCy, Bool.and_eq_true, Bool.not_eq_true', ih, and_true]
     cases hb : Nat.beq q m with
     | true => rw [Nat.beq_eq] at hb; subst hb; exact absurd rfl h0.1
     | false => rfl
   | ite q k v x y =>
     simp only [zCy, Bool.and_eq_true, Bool.not_eq_true', ih, and_true]
     cases hb : Nat.beq q m with
     | true => rw [Nat.beq_eq] at hb; subst hb; exact absurd rfl (h0.2 k v x y)
     | false => rfl
   | _ => exact ih
theorem noIter_fr (hf : FrStep rows rows') {m : Nat} (h : zCy m rows = true) : zCy m rows' = true := by
 refine iter_none rows' m fun z => ⟨fun hz => ?_, fun k v x y hz => ?_⟩
 · exact set_stepZ.iter_absurd rows m z h (.inl (by rw [← zBK hf (by rw [hz]; rfl), hz]))
 · exact set_stepZ.iter_absurd rows m z h (.inr ⟨k, v, x, y, by rw [← zBK hf (by rw [hz]; rfl), hz]⟩)
theorem mapT_at {a : Ty} {o : Option (Ty × Ty)} (h : (match o with | some q => decide (q.1 = a) | none => false) = true) : ∃ b, o = some (a, b) := by
 cases o with
 | none => cases h
 | some q => obtain ⟨x, y⟩ := q; have := of_decide_eq_true h; dsimp only at this; subst this; exact ⟨y, rfl⟩
theorem weak_same (h : SameRel H H') : WeakS e H e H' := fun own X w hs => by
 obtain ⟨h1, h2, h3⟩ := h own X w hs
 exact ⟨h1, h2, fun i v hv => h3 _ _ hv⟩
theorem heapT_sound {dr : Bool} {d : Nat} (ha : Abs B ζ num s e H) {c : List (Nat × Bool)} (hh : zAz s.gs c = true) {o : Oper} (hcall : isCall o = false) {k : TV → St → Option R} (h : heapT P Γ dr d none c s o k = some r) {C : Env → D → Heap → Prop}
   (hC : ∀ e1 v s' ζ' num' dd H' H'', k v s' = some r → Step B d ζ num s e1 dd H' v s' ζ' num' H'' → C e1 dd H') : ∃ e1 H1, (WeakS e H e1 H1 ∧ ∃ rf, e1 = zCn num { s with rows := rf }) ∧ zDG P (zAE o) o e1 H1 (C e1) := by
 have hr := ha.hrel
 obtain ⟨dst, op, ty, pos, after, guard⟩ := o
 cases op with
 | alloc t =>
   simp only [heapT] at h
   split at h
   · rename_i v hv
     cases hb : liesT s.rows v <;> rw [hb] at h
     · cases h
     · obtain ⟨h1, h2⟩ := zDC hv (zAB num s.rows) s.rows
       exact ⟨e, H, ⟨WeakS.refl _ _, s.rows, ha.env⟩, _, h1, lies_lies hb, hC _ _ _ _ _ _ _ _ h (var_step ha h2 hb)⟩
   · cases h
 | box t x =>
   simp only [heapT] at h
   split at h
   · rename_i v hv
     cases hb : liesT s.rows v <;> rw [hb] at h
     · cases h
     · obtain ⟨h1, h2⟩ := zAM ha hh hv
       refine ⟨e, H, ⟨WeakS.refl _ _, s.rows, ha.env⟩, ?_⟩
       show aBox (ev e x) H (C e)
       rw [h1]
       exact ⟨lies_lies hb, hC _ _ _ _ _ _ _ _ h (var_step ha h2 hb)⟩
   · cases h
 | buildSlice t n ps =>
   simp only [heapT] at h
   split at h
   · rename_i el hel
     split at h
     · rename_i u z l hu hz hl
       cases hb : (Nat.beq z u.w && u.elem && (l.map (·.1) == List.range n) && decide (n * z ≤ 16777216) && ((P.info? el).bind (·.zero)).isSome && l.all (fun p => liesT (zAi d (refsOf (l.map (·.2))) 0 s.rows) p.2 && Nat.beq (zAq p.2).length z)) <;> rw [hb] at h
       · cases h
       · rw [cond_true] at h
         split at h
         · rename_i xs hxs
           exact buildSlice_sound' ha hh hel hz hl hb hxs fun e1 dd H' ζ' num' H'' hs => hC _ _ _ _ _ _ _ _ h hs
         · cases h
     · cases h
   · cases h
 | makeSlice t l cp =>
   simp only [heapT] at h
   split at h
   · rename_i ka a kb b el h1 h2 hel
     split at h
     · rename_i u z by_ zv hu hz hby hzv
       cases hb : (Nat.beq z u.w && u.elem && liesT [] zv && Nat.beq (zAq zv).length z) <;> rw [hb] at h
       · cases h
       · rw [cond_true] at h
         split at h
         · rename_i y hy
           obtain ⟨hm, h⟩ := need_some h
           refine ⟨e, H, ⟨WeakS.refl _ _, s.rows, ha.env⟩, ?_⟩
           show zBk P t (ev e l) (ev e cp) H (C e)
           rw [(zAM ha hh h1).1, (zAM ha hh h2).1]
           exact makeSlice_sound' ha hel hz hby hzv hb hy hm fun dd H' ζ' num' H'' hs => hC _ _ _ _ _ _ _ _ h hs
         · cases h
     · cases h
   · cases h
 | makeMap t x =>
   simp only [heapT] at h
   split at h
   · rename_i a b kk n hm hx
     cases hb : ((keq a).isSome && b.pure) <;> rw [hb] at h
     · cases h
     · rw [cond_true] at h
       simp only [Bool.and_eq_true] at hb
       obtain ⟨kt, et, kd, h1, h2, h3⟩ := mapT_some hm
       refine ⟨e, H, ⟨WeakS.refl _ _, s.rows, ha.env⟩, ⟨?_, hC _ _ _ _ _ _ _ _ h (makeMap_step ha hb.1 hb.2)⟩⟩
       cases x with
       | none => trivial
       | some x =>
         show match (some (ev e x) : Option D) with | none => True | some (.v (.int _ _)) => (tmap P t).isSome = true | _ => False
         have hx : evT s.env c x = some ⟨.int kk, n⟩ := hx
         rw [(zAM ha hh hx).1]
         show (tmap P t).isSome = true
         rw [h1]; rfl
   · cases h
 | store t a x =>
   simp only [heapT] at h
   split at h
   · rename_i va vx hva hvx
     split at h
     · rename_i rows' hst
       exact storeT_sound ha hh hva hvx hst fun e1 dd H' ζ' num' H'' hs => hC _ _ _ _ _ _ _ _ h hs
     · cases h
   · cases h
 | mapUpdate t m key x =>
   simp only [heapT] at h
   split at h
   · rename_i q ym kx vx hm hkx hvx
     split at h
     · rename_i a b l hrow
       split at h
       · rename_i eq ky vy heq hky hvy
         obtain ⟨hb, h⟩ := zAW h
         rw [Bool.and_eq_true] at hb
         obtain ⟨hb1, hno⟩ := hb
         · obtain ⟨qb, hq2⟩ := mapT_at hb1
           · obtain ⟨ha1, hw1⟩ := fr_abs ha (zBe d vx.t.refs s.rows)
             have hno1 := noIter_fr (zBe d vx.t.refs s.rows) hno
             have hle1 := fr_Le (ζ := ζ) (num := num) (s := s) d vx.t.refs
             generalize zAi d vx.t.refs 0 s.rows = rf at *
             obtain ⟨g1, g2⟩ := zAM ha1 (by exact hh) (by exact hvx)
             refine ⟨_, _, ⟨hw1, rf, rfl⟩, ?_⟩
             show zBr P t (ev _ m) (ev _ key) (ev _ x) _ _
             rw [(zAM ha1 (by exact hh) (by exact hm)).1, (zAM ha1 (by exact hh) (by exact hkx)).1, g1]
             exact mapUpdate_sound' (d := d) (s := { s with rows := rf }) ha1 hrow heq hky hvy g2 hq2 hno1 fun dd H' ζ' num' H'' hs => hC _ _ _ _ _ _ _ _ h (hs.pre (ζ := ζ) (num := num) (s := s) (fun _ => Tl.refl _) hle1 rfl rfl)
       · cases h
     · cases h
   · cases h
 | range t x =>
   simp only [heapT] at h
   split at h
   · rename_i b hu hx
     refine ⟨e, H, ⟨WeakS.refl _ _, s.rows, ha.env⟩, ?_⟩
     show aRange P t (ev e x) H (C e)
     rw [(zAM ha hh hx).1]
     unfold aRange
     rw [hu]
     exact hC _ _ _ _ _ _ _ _ h (sit_push ha b)
   · rename_i k1 v1 q ym hu hx
     split at h
     · rename_i a b l hrow
       have hR := hr.row q
       rw [hrow] at hR
       obtain ⟨hke, hbp, es, cl, ⟨hg, _⟩, _⟩ := hR
       refine ⟨e, H, ⟨WeakS.refl _ _, s.rows, ha.env⟩, ?_⟩
       show aRange P t (ev e x) H (C e)
       rw [(zAM ha hh hx).1]
       unfold aRange
       rw [hu, show enc (zAB num s.rows) ⟨.mp q, ym⟩ = .mp (num q) from by show mpD (num q) (zAA s.rows q) = _; rw [hrow]; rfl]
       simp only [hg]
       exact hC _ _ _ _ _ _ _ _ h (it_push ha hrow hg)
     · cases h
   · cases h
 | next it str =>
   simp only [heapT] at h
   split at h
   · rename_i q y hit
     split at h
     · rename_i b p hrow
       refine ⟨e, H, ⟨WeakS.refl _ _, s.rows, ha.env⟩, ?_⟩
       show aNext true (ev e it) H (C e)
       rw [(zAM ha hh hit).1, show enc (zAB num s.rows) ⟨.p0 q 0, y⟩ = .pt (num q) 0 0 from by show p0D (num q) 0 (zAA s.rows q) = _; rw [hrow]; rfl]
       exact nextS_sound ha hrow h fun v s' ζ' num' dd H' H'' hk hs => hC _ _ _ _ _ _ _ _ hk hs
     · cases h
   · cases h
 | call cl =>
   obtain ⟨f, args, ts⟩ := cl
   cases f with
   | builtin b =>
     cases b with
     | append =>
       simp only [heapT] at h
       split at h
       · rename_i a b t t1 hargs ht0 ht1
         obtain ⟨g1, g2⟩ := zCb ha hh hargs
         obtain ⟨H1, hw, hA⟩ := appendT_sound (C := C e) ha ht0 ht1 (g2 a (by simp)) (g2 b (by simp)) h fun v s' ζ' num' dd H' H'' hk hs => hC _ _ _ _ _ _ _ _ hk hs
         refine ⟨e, H1, ⟨weak_same hw, s.rows, ha.env⟩, ?_⟩
         show zBA P ts (args.toList.map (ev e)) H1 (C e)
         rw [g1]; exact hA
       · cases h
     | copy =>
       simp only [heapT] at h
       split at h
       · rename_i a b t hargs ht0
         obtain ⟨g1, g2⟩ := zCb ha hh hargs
         have ga := g2 a (by simp)
         have gb := g2 b (by simp)
         refine ⟨e, H, ⟨WeakS.refl _ _, s.rows, ha.env⟩, ?_⟩
         show aCopyL P ts (args.toList.map (ev e)) H (C e)
         rw [g1]
         show aCopy P ts (enc (zAB num s.rows) a) (enc (zAB num s.rows) b) H (C e)
         split at h
         · rename_i el hel
           split at h
           · rename_i q y
             split at h
             · rename_i u l hrow
               split at h
               · rename_i ys hys
                 cases hb : szOk P t el u <;> rw [hb] at h
                 · cases h
                 · rw [cond_true] at h
                   refine copy_step ha ht0 hel (sz_ok hb) hrow gb hys (i := 0) (m := l.length) ?_ (by omega) fun dd H' ζ' num' H'' hs => hC _ _ _ _ _ _ _ _ h hs
                   show ownD (num q) (zAA s.rows q) = _
                   rw [hrow]; rfl
               · cases h
             · cases h
           · rename_i q y
             split at h
             · rename_i u l hrow
               split at h
               · rename_i ys hys
                 cases hb : szOk P t el u <;> rw [hb] at h
                 · cases h
                 · rw [cond_true] at h
                   have hbound : y.1 + y.2 ≤ l.length := by
                     have := ga.2
                     rw [hrow] at this
                     exact this rfl
                   refine copy_step ha ht0 hel (sz_ok hb) hrow gb hys (i := y.1) (m := y.2) ?_ hbound fun dd H' ζ' num' H'' hs => hC _ _ _ _ _ _ _ _ h hs
                   show subD (num q) y (zAA s.rows q) = _
                   rw [hrow]; rfl
               · cases h
             · cases h
           · cases h
         · cases h
       · cases h
     | delete =>
       simp only [heapT] at h
       split at h
       · rename_i q ym kx t hargs ht0
         obtain ⟨g1, g2⟩ := zCb ha hh hargs
         refine ⟨e, H, ⟨WeakS.refl _ _, s.rows, ha.env⟩, ?_⟩
         show aDeleteL P ts (args.toList.map (ev e)) H (C e)
         rw [g1]
         show aDelete P ts (enc (zAB num s.rows) ⟨.mp q, ym⟩) (enc (zAB num s.rows) kx) H (C e)
         split at h
         · rename_i a b l hrow
           split at h
           · rename_i eq ky heq hky
             obtain ⟨hb, h⟩ := zAW h
             rw [Bool.and_eq_true] at hb
             obtain ⟨hb1, hno⟩ := hb
             · obtain ⟨qb, hq2⟩ := mapT_at hb1
               · exact delete_sound' ha ht0 hrow heq hky hq2 hno fun dd H' ζ' num' H'' hs => hC _ _ _ _ _ _ _ _ h hs
           · cases h
         · cases h
       · cases h
     | _ => cases h
   | value f => cases hcall
   | _ => cases h
 | _ => cases h
end
end Go.T
namespace Go.Ab
variable [Go.Ab.DM]
mutual
def D.nomem : D → Bool
 | .agg cs => zCd cs
 | .tup cs => zCd cs
 | .fz _ _ => false
 | .fp _ _ _ _ => false
 | .fn _ fs cs => zCd fs && zCd cs
 | .ifc _ d => d.nomem
 | _ => true
def zCd : List D → Bool
 | [] => true
 | d :: ds => d.nomem && zCd ds
end
section
variable {own : Nat → Own} {U U' : Nat → Prop} {w : World} {n : Nat}
mutual
theorem VRel_nomem : ∀ (d : D) (x : Value), d.nomem = true → VRel own U w n d x → VRel own U' w n d x
 | .v x, val, hn, h => by simpa [VRel] using h
 | .agg cs, val, hn, h => by rw [VRel] at h ⊢; obtain ⟨vs, h1, h2⟩ := h; exact ⟨vs, h1, VRels_nomem cs vs hn h2⟩
 | .tup cs, val, hn, h => by rw [VRel] at h ⊢; obtain ⟨vs, h1, h2⟩ := h; exact ⟨vs, h1, VRels_nomem cs vs hn h2⟩
 | .fz k xs, val, hn, h => by simp [D.nomem] at hn
 | .fp k xs i o, val, hn, h => by simp [D.nomem] at hn
 | .sl r i m, val, hn, h => by simpa [VRel] using h
 | .slc r i m c, val, hn, h => by simpa [VRel] using h
 | .pt r i o, val, hn, h => by simpa [VRel] using h
 | .fn f fs cs, val, hn, h => by
   simp only [D.nomem, Bool.and_eq_true] at hn
   rw [VRel] at h ⊢; obtain ⟨vs, us, h1, h2, h3⟩ := h; exact ⟨vs, us, h1, VRels_nomem fs vs hn.1 h2, VRels_nomem cs us hn.2 h3⟩
 | .ifc t d, val, hn, h => by rw [VRel] at h ⊢; obtain ⟨x, h1, h2⟩ := h; exact ⟨x, h1, VRel_nomem d x hn h2⟩
 | .mp r, val, hn, h => by simpa [VRel] using h
 | .any, val, hn, h => by rw [VRel]; trivial
termination_by d => SizeOf.sizeOf d
theorem VRels_nomem : ∀ (ds : List D) (xs : List Value), zCd ds = true → VRels own U w n ds xs → VRels own U' w n ds xs
 | [], xs, hn, h => by simpa [VRels] using h
 | d :: ds, xs, hn, h => by
   simp only [zCd, Bool.and_eq_true] at hn
   rw [VRels] at h ⊢; obtain ⟨x, ys, h1, h2, h3⟩ := h
   exact ⟨x, ys, h1, VRel_nomem d x hn.1 h2, VRels_nomem ds ys hn.2 h3⟩
termination_by ds => SizeOf.sizeOf ds
end
theorem Flat_nomem : ∀ (ds : List D) (b off : Nat), zCd ds = true → Flat own U w n ds b off → Flat own U' w n ds b off
 | [], b, off, hn, h => by simp [Flat]
 | d :: ds, b, off, hn, h => by
   simp only [zCd, Bool.and_eq_true] at hn
   rw [Flat] at h ⊢
   obtain ⟨h0, ⟨x, h1, h2⟩, h3⟩ := h
   exact ⟨h0, ⟨x, h1, VRel_nomem d x hn.1 h2⟩, Flat_nomem ds b (off + 1) hn.2 h3⟩
theorem nomems_cells (d : D) : zCd d.cells = d.nomem := by cases d <;> simp [D.cells, zCd, D.nomem]
theorem Cells_nomem {k : Nat} : ∀ (ds : List D) (b off : Nat), zCd ds = true → Cells own U w n k ds b off → Cells own U' w n k ds b off
 | [], b, off, hn, h => by simp [Cells]
 | d :: ds, b, off, hn, h => by
   simp only [zCd, Bool.and_eq_true] at hn
   rw [Cells] at h ⊢
   refine ⟨?_, Cells_nomem ds b (off + k) hn.2 h.2⟩
   have h1 := h.1
   rw [zCV] at h1 ⊢
   exact ⟨h1.1, Flat_nomem _ b off (by rw [nomems_cells]; exact hn.1) h1.2⟩
def Row.nomem : Row → Bool
 | .cells _ xs => zCd xs
 | .mp es _ => zCd (es.map (·.2.2))
 | _ => true
theorem RowOk_nomem {o : Own} {row : Row} (hn : row.nomem = true) (h : RowOk own n U w o row) : RowOk own n U' w o row := by
 cases row with
 | cells k xs =>
   obtain ⟨h1, c, t, h2, h3, h4, h5⟩ := h
   exact ⟨h1, c, t, h2, h3, h4, Cells_nomem xs _ _ hn h5⟩
 | mp es cl =>
   obtain ⟨en, h1, h2, h3⟩ := h
   exact ⟨en, h1, h2, VRels_nomem _ _ hn h3⟩
 | it m since seen last => exact h
 | sit s pos => exact h
end
def maskH (S : Nat → Bool) (H : Heap) : Heap := H.mapIdx fun i o => bif S i then o else none
theorem mask_len (S : Nat → Bool) (H : Heap) : (maskH S H).length = H.length := by simp [maskH]
theorem mask_get (S : Nat → Bool) (H : Heap) (r : Nat) : (maskH S H).get r = if S r = true then H.get r else none := by
 unfold maskH Heap.get
 rw [List.getElem?_mapIdx]
 cases H[r]? with
 | none => simp
 | some o => cases hS : S r <;> simp [hS]
section
variable {P : Program} {f : FuncId} {own own' : Nat → Own} {H Hf H1 H2 : Heap} {X : Nat → Prop} {w w' : World} {S : Nat → Bool}
def hidX (own : Nat → Own) (Hf : Heap) (X : Nat → Prop) (S : Nat → Bool) : Nat → Prop := fun b => X b ∨ ∃ r row, S r = false ∧ Hf.get r = some row ∧ (own r).b = b
theorem hid_unowned (hf : Sim own Hf X w) (b : Nat) : zAL own (maskH S Hf) (hidX own Hf X S) w b ↔ zAL own Hf X w b := by
 constructor
 · rintro ⟨h1, h2, h3⟩
   refine ⟨h1, fun hx => h2 (.inl hx), fun r row h4 h5 => ?_⟩
   cases hS : S r with
   | true => exact h3 r row (by rw [mask_get, if_pos hS]; exact h4) h5
   | false => exact h2 (.inr ⟨r, row, hS, h4, h5⟩)
 · rintro ⟨h1, h2, h3⟩
   refine ⟨h1, fun hx => ?_, fun r row h4 h5 => ?_⟩
   · rcases hx with hx | ⟨r, row, h4, h5, h6⟩
     · exact h2 hx
     · exact h3 r row h5 h6
   · rw [mask_get] at h4
     split at h4
     · exact h3 r row h4 h5
     · cases h4
theorem hid_keeps (hf : Sim own Hf X w) : Keeps own Hf.length (zAL own Hf X w) w own (maskH S Hf).length (zAL own (maskH S Hf) (hidX own Hf X S) w) w :=
 ⟨by rw [mask_len]; exact Nat.le_refl _, fun _ _ => rfl, fun b hb => (hid_unowned hf b).2 hb, fun _ _ _ => rfl⟩
theorem hid_sim (hf : Sim own Hf X w) : Sim own (maskH S Hf) (hidX own Hf X S) w := by
 refine ⟨fun r row h => ?_, fun r r' row row' h1 h2 hne => ?_, fun b hb => ?_⟩
 · rw [mask_get] at h
   split at h
   · rename_i hS
     obtain ⟨h1, h2⟩ := hf.live r row h
     refine ⟨RowOk.mono (hid_keeps hf) rfl h1, fun hx => ?_⟩
     rcases hx with hx | ⟨r', row', h3, h4, h5⟩
     · exact h2 hx
     · refine hf.excl r' r row' row h4 h (fun he => ?_) h5
       subst he; rw [hS] at h3; cases h3
   · cases h
 · rw [mask_get] at h1 h2
   split at h1 <;> split at h2 <;> first | cases h1; done | cases h2; done | exact hf.excl r r' row row' h1 h2 hne
 · rcases hb with hb | ⟨r, row, h1, h2, rfl⟩
   · exact hf.hid b hb
   · exact (hf.live r row h2).1.lt
structure Over (H Hf H1 : Heap) (S : Nat → Bool) (dd : D) (H2 : Heap) : Prop where
 len : H2.length = H1.length
 rows : ∀ r row, H2.get r = some row → (r < H.length ∧ S r = false ∧ H.get r = some row) ∨ (H1.get r = some row ∧ (row.nomem = true ∨ ∀ r row, H.get r = some row → ∃ row', Hf.get r = some row'))
 lent : dd.nomem = true ∨ ∀ r row, H.get r = some row → ∃ row', Hf.get r = some row'
theorem hid_out {dd : D} {v : Value} (hs : Sim own H X w) (hf : Sim own Hf X w) (hlen : Hf.length = H.length) (hsub : ∀ r row, Hf.get r = some row → ∃ row', H.get r = some row')
   (h1 : Sim own' H1 (hidX own Hf X S) w') (hx : Ext (hidX own Hf X S) own (maskH S Hf) w own' H1 w') (hv : Rel own' H1 (hidX own Hf X S) w' dd v) (ho : Over H Hf H1 S dd H2) :
   Sim own' H2 X w' ∧ Rel own' H2 X w' dd v ∧ Ext X own H w own' H2 w' := by
 have hn : H.length ≤ H2.length := by rw [ho.len, ← hlen, ← mask_len S Hf]; exact hx.hn
 have hown : ∀ r, r < H.length → own' r = own r := fun r hr => hx.ho r (by rw [mask_len, hlen]; exact hr)
 have hcase : ∀ r row, S r = false → H.get r = some row → (hidX own Hf X S (own r).b ∨ zAL own Hf X w (own r).b) := fun r row hS hg => by
   cases hfr : Hf.get r with
   | some row' => exact .inl (.inr ⟨r, row', hS, hfr, rfl⟩)
   | none =>
     refine .inr ⟨(hs.live r row hg).1.lt, (hs.live r row hg).2, fun r' row' h2 h3 => ?_⟩
     obtain ⟨row2, h4⟩ := hsub r' row' h2
     refine hs.excl r' r row2 row h4 hg (fun he => ?_) h3
     subst he; rw [hfr] at h2; cases h2
 have hsame : ∀ b, hidX own Hf X S b ∨ zAL own Hf X w b → w'.heap[b]? = w.heap[b]? := fun b hb => by
   rcases hb with hb | hb
   · exact hx.hx b hb
   · exact (hx.hb b ((hid_unowned hf b).2 hb)).2
 have hnot : ∀ b, hidX own Hf X S b ∨ zAL own Hf X w b → ∀ r row, H1.get r = some row → (own' r).b ≠ b := fun b hb r row hg he => by
   rcases hb with hb | hb
   · exact (h1.live r row hg).2 (by rw [he]; exact hb)
   · exact (hx.hb b ((hid_unowned hf b).2 hb)).1.2.2 r row hg he
 have hUf : ∀ b, zAL own H X w b → zAL own Hf X w b := fun b hb => ⟨hb.1, hb.2.1, fun r row h2 h3 => by
   obtain ⟨row', h4⟩ := hsub r row h2
   exact hb.2.2 r row' h4 h3⟩
 have hU : ∀ b, zAL own H X w b → zAL own' H2 X w' b := fun b hb => by
   refine ⟨Nat.lt_of_lt_of_le hb.1 hx.size, hb.2.1, fun r row h2 h3 => ?_⟩
   rcases ho.rows r row h2 with ⟨h4, h5, h6⟩ | ⟨h4, _⟩
   · rw [hown r h4] at h3; exact hb.2.2 r row h6 h3
   · exact hnot b (.inr (hUf b hb)) r row h4 h3
 have hk : Keeps own H.length (zAL own H X w) w own' H2.length (zAL own' H2 X w') w' := ⟨hn, hown, hU, fun b hb => zBz (hsame b (.inr (hUf b hb)))⟩
 have hU1 : (∀ r row, H.get r = some row → ∃ row', Hf.get r = some row') → ∀ b, zAL own' H1 (hidX own Hf X S) w' b → zAL own' H2 X w' b := fun hz b hb => by
   refine ⟨hb.1, fun hxb => hb.2.1 (.inl hxb), fun r row h2 h3 => ?_⟩
   rcases ho.rows r row h2 with ⟨h4, h5, h6⟩ | ⟨h4, _⟩
   · obtain ⟨row', h7⟩ := hz r row h6
     exact hb.2.1 (.inr ⟨r, row', h5, h7, by rw [← hown r h4]; exact h3⟩)
   · exact hb.2.2 r row h4 h3
 refine ⟨⟨fun r row h2 => ?_, fun r r' row row' h2 h3 hne => ?_, fun b hb => Nat.lt_of_lt_of_le (hs.hid b hb) hx.size⟩, ?_, ⟨hx.size, hn, hown, fun b hb => ⟨hU b hb, hsame b (.inr (hUf b hb))⟩, fun b hb => hx.hx b (.inl hb), hx.st⟩⟩
 · rcases ho.rows r row h2 with ⟨h4, h5, h6⟩ | ⟨h4, h4n⟩
   · obtain ⟨h7, h8⟩ := hs.live r row h6
     rw [hown r h4]
     exact ⟨RowOk.mono hk (hsame _ (hcase r row h5 h6)) h7, h8⟩
   · obtain ⟨h7, h8⟩ := h1.live r row h4
     refine ⟨?_, fun hxb => h8 (.inl hxb)⟩
     rcases h4n with hz | hz
     · rw [ho.len]; exact RowOk_nomem hz h7
     · exact RowOk.mono ⟨by rw [ho.len]; exact Nat.le_refl _, fun _ _ => rfl, hU1 hz, fun _ _ _ => rfl⟩ rfl h7
 · rcases ho.rows r row h2 with ⟨h4, h5, h6⟩ | ⟨h4, _⟩ <;> rcases ho.rows r' row' h3 with ⟨g4, g5, g6⟩ | ⟨g4, _⟩
   · rw [hown r h4, hown r' g4]; exact hs.excl r r' row row' h6 g6 hne
   · rw [hown r h4]; exact (hnot _ (hcase r row h5 h6) r' row' g4).symm
   · rw [hown r' g4]; exact hnot _ (hcase r' row' g5 g6) r row h4
   · exact h1.excl r r' row row' h4 g4 hne
 · rcases ho.lent with hz | hz
   · show VRel own' _ w' H2.length dd v
     rw [ho.len]; exact VRel_nomem dd v hz hv
   · exact VRel.mono (n := H1.length) (n' := H2.length) ⟨by rw [ho.len]; exact Nat.le_refl _, fun _ _ => rfl, hU1 hz, fun _ _ _ => rfl⟩ _ _ hv
theorem Rels_hid (hf : Sim own Hf X w) {ds : List D} {vs : List Value} (h : zCG own Hf X w ds vs) : zCG own (maskH S Hf) (hidX own Hf X S) w ds vs := VRels.mono (hid_keeps hf) ds vs h
theorem Sound.hide {ds0 ds : List D} {R R' : D → Heap → Prop} (h : Sound P f ds (maskH S Hf) R) (hlen : Hf.length = H.length) (hsub : ∀ r row, Hf.get r = some row → ∃ row', H.get r = some row')
   (hrel : ∀ own X w, Sim own H X w → Sim own Hf X w ∧ ∀ vs, zCG own H X w ds0 vs → zCG own Hf X w ds vs) (hR : ∀ dd H1, (maskH S Hf).length ≤ H1.length → R dd H1 → ∃ H2, Over H Hf H1 S dd H2 ∧ R' dd H2) : Sound P f ds0 H R' := by
 refine ⟨h.1, fun own X w vs hs hv => ?_⟩
 obtain ⟨hf, hr⟩ := hrel own X w hs
 refine Calls.mono (h.2 own (hidX own Hf X S) w vs (hid_sim hf) (Rels_hid hf (hr vs hv))) fun e w' ⟨own', d, H1, v, h1, h2, h3, h4, h5⟩ => ?_
 obtain ⟨H2, ho, hR2⟩ := hR d H1 h4.hn h5
 obtain ⟨g1, g2, g3⟩ := hid_out hs hf hlen hsub h2 h4 h3 ho
 exact ⟨own', d, H2, v, h1, g1, g2, g3, hR2⟩
theorem Sound.hideK {ds0 ds : List D} {R R' : D → Heap → Prop} (hS : ∀ r, S r = false) (h : Sound P f ds (maskH S Hf) R) (hlen : Hf.length = H.length) (hsub : ∀ r row, Hf.get r = some row → ∃ row', H.get r = some row')
   (hrel : ∀ own X w, Sim own H X w → Sim own Hf X w ∧ ∀ vs, zCG own H X w ds0 vs → zCG own Hf X w ds vs) (hR : ∀ dd H1, (maskH S Hf).length ≤ H1.length → R dd H1 → ∃ H2, Over H Hf H1 S dd H2 ∧ R' dd H2) : SoundK P f ds0 H R' := by
 refine ⟨h.1, fun own X w vs hs hv => ?_⟩
 obtain ⟨hf, hr⟩ := hrel own X w hs
 refine Calls.mono (h.2 own (hidX own Hf X S) w vs (hid_sim hf) (Rels_hid hf (hr vs hv))) fun e w' ⟨own', d, H1, v, h1, h2, h3, h4, h5⟩ => ?_
 obtain ⟨H2, ho, hR2⟩ := hR d H1 h4.hn h5
 obtain ⟨g1, g2, g3⟩ := hid_out hs hf hlen hsub h2 h4 h3 ho
 refine ⟨own', d, H2, v, h1, g1, g2, ⟨g3, fun b hb => ?_⟩, hR2⟩
 by_cases hxb : hidX own Hf X S b
 · exact h4.hx b hxb
 · refine (h4.hb b ⟨hb, hxb, fun r row hg => ?_⟩).2
   rw [mask_get, if_neg (by rw [hS r]; simp)] at hg
   cases hg
end
end Go.Ab
namespace Go.T
open Go.Ab
variable [Go.Ab.DM]
section
variable {ρ : List (Nat × Nat)} {isL : Nat → Bool} {num num' : Nat → Nat} {rows rows' : Rows}
structure PRel (ρ : List (Nat × Nat)) (isL : Nat → Bool) (num : Nat → Nat) (rows : Rows) (num' : Nat → Nat) (rows' : Rows) : Prop where
 ref : ∀ r q, zCP ρ r = some q → RefTl (num q) (zAA rows q) (num' r) (zAA rows' r) ∧ (zAO (zAA rows' r) = true → zAO (zAA rows q) = true ∧ zCT (zAA rows' r) = zCT (zAA rows q))
 nul : ∀ r, zCP ρ r = none → isL r = true → ∃ t, zAA rows' r = .lst t []
structure PTold (num : Nat → Nat) (rows : Rows) (num' : Nat → Nat) (rows' : Rows) (v : TV) (b : Ty) (y : b.I) : Prop where
 one : Tl (enc (zAB num rows) v) (E b (zAB num' rows') y).1
 all : Tls (encs (zAB num rows) v) (E b (zAB num' rows') y).2
 ok : (∀ r ∈ b.refs, r < rows'.length) → okT rows' b y
theorem zBq {v : TV} {b : Ty} {y : b.I} (hv : v.t.sp = false) (hb : b.sp = false) (h : Tl (enc (zAB num rows) v) (E b (zAB num' rows') y).1) (hok : (∀ r ∈ b.refs, r < rows'.length) → okT rows' b y) : PTold num rows num' rows' v b y :=
 ⟨h, by unfold encs; rw [E_one hv, E_one hb]; exact .cons h .nil, hok⟩
theorem ptold_conv {v : TV} {b : Ty} {y : b.I} (hp : b.pure = true) (hv : okV rows v) (h : zBG rows b v = some y) : PTold num rows num' rows' v b y := by
 obtain ⟨h1, h2⟩ := convS_told (num := num) b v y hv h
 have e := E_pure b hp zCr (zAB num' rows') y
 exact ⟨by rw [← e]; exact h1, by rw [← e]; exact h2, fun _ => zCc b y hp⟩
theorem packV_pr (a b : Ty) (v : TV) : packV ρ isL rows (.pr a b) v = if (Ty.pr a b).pure then zBG rows (.pr a b) v else match v with
   | ⟨.pr a' b', x⟩ => (match packV ρ isL rows a ⟨a', x.1⟩, packV ρ isL rows b ⟨b', x.2⟩ with
     | some y, some z => some (y, z)
     | _, _ => none)
   | _ => none := rfl
theorem packV_agg (s : Ty) (v : TV) : packV ρ isL rows (.agg s) v = if s.pure then zBG rows (.agg s) v else match v with | ⟨.agg s', x⟩ => packV ρ isL rows s ⟨s', x⟩ | _ => none := rfl
theorem packV_tup (s : Ty) (v : TV) : packV ρ isL rows (.tup s) v = if s.pure then zBG rows (.tup s) v else match v with | ⟨.tup s', x⟩ => packV ρ isL rows s ⟨s', x⟩ | _ => none := rfl
theorem packV_fn (f : FuncId) (a c : Ty) (v : TV) : packV ρ isL rows (.fn f a c) v = if (Ty.fn f a c).pure then zBG rows (.fn f a c) v else match v with
   | ⟨.fn f' a' c', x⟩ => bif Nat.beq f f' then (match packV ρ isL rows a ⟨a', x.1⟩, packV ρ isL rows c ⟨c', x.2⟩ with
     | some y, some z => some (y, z)
     | _, _ => none) else none
   | _ => none := rfl
theorem packV_ifc (id : TypeId) (t : Ty) (v : TV) : packV ρ isL rows (.ifc id t) v = if t.pure then zBG rows (.ifc id t) v else match v with
   | ⟨.ifc id' t', x⟩ => bif Nat.beq id id' then packV ρ isL rows t ⟨t', x⟩ else none
   | _ => none := rfl
def packLeaf : Ty → Bool
 | .pr _ _ | .agg _ | .tup _ | .fn _ _ _ | .ifc _ _ | .own _ | .sub _ | .p0 _ _ | .pt _ _ | .mp _ => false
 | _ => true
theorem packV_leaf {t : Ty} (h : packLeaf t = true) (v : TV) : packV ρ isL rows t v = zBG rows t v := by cases t <;> first | rfl | simp [packLeaf] at h
theorem ptold_leafconv {v : TV} {b : Ty} {y : b.I} (hp : packLeaf b = true) (hv : okV rows v) (h : zBG rows b v = some y) : PTold num rows num' rows' v b y := by
 obtain ⟨h1, h2⟩ := convS_told (num := num) b v y hv h
 have e : E b zCr y = E b (zAB num' rows') y := by cases b <;> first | rfl | simp [packLeaf] at hp
 exact ⟨by rw [← e]; exact h1, by rw [← e]; exact h2, fun _ => by cases b <;> first | trivial | simp [packLeaf] at hp⟩
theorem own_sub (n : Nat) (row : TRow) {m : Nat} (h : rowLen row = some m) : Tl (ownD n row) (subD n (0, m) row) := by
 cases row with
 | many t l => have := Option.some.inj h; subst this; exact Tl.refl _
 | lst t l => have := Option.some.inj h; subst this; cases l <;> exact Tl.refl _
 | fro t l =>
   have := Option.some.inj h; subst this
   refine Tl.of_eq ?_
   simp only [ownD, subD, List.drop_zero, zAr]
   rw [List.take_of_length_le (Nat.le_refl _)]
 | _ => cases h
theorem beq_q {q q' : Nat} {R : Type} {x : Option R} {r : R} (h : (bif Nat.beq q q' then x else none) = some r) : q = q' ∧ x = some r := by
 obtain ⟨h1, h2⟩ := zAW h
 rw [Nat.beq_eq] at h1
 exact ⟨h1, h2⟩
theorem packV_told (hp : PRel ρ isL num rows num' rows') : ∀ (b : Ty) (v : TV) (y : b.I), okV rows v → packV ρ isL rows b v = some y → PTold num rows num' rows' v b y := by
 intro b
 induction b with
 | pr a b iha ihb =>
   rintro ⟨tv, x⟩ y hv h
   rw [packV_pr] at h
   split at h
   · rename_i hpu; exact ptold_conv hpu hv h
   · cases tv with
     | pr a' b' =>
       dsimp only at h
       split at h
       · rename_i y1 z1 h1 h2
         have := Option.some.inj h; subst this
         have ga := iha ⟨a', x.1⟩ y1 hv.1 h1
         have gb := ihb ⟨b', x.2⟩ z1 hv.2 h2
         exact ⟨Tl.refl _, .cons ga.one gb.all, fun hr => ⟨ga.ok fun r h => hr r (by simp [Ty.refs, h]), gb.ok fun r h => hr r (by simp [Ty.refs, h])⟩⟩
       · cases h
     | _ => cases h
 | agg s ih =>
   rintro ⟨tv, x⟩ y hv h
   rw [packV_agg] at h
   split at h
   · rename_i hpu; exact ptold_conv hpu hv h
   · cases tv with
     | agg s' => have g := ih ⟨s', x⟩ y hv h; exact zBq rfl rfl (Tl.agg g.all) g.ok
     | _ => cases h
 | tup s ih =>
   rintro ⟨tv, x⟩ y hv h
   rw [packV_tup] at h
   split at h
   · rename_i hpu; exact ptold_conv hpu hv h
   · cases tv with
     | tup s' => have g := ih ⟨s', x⟩ y hv h; exact zBq rfl rfl (Tl.tup g.all) g.ok
     | _ => cases h
 | fn f a c iha ihc =>
   rintro ⟨tv, x⟩ y hv h
   rw [packV_fn] at h
   split at h
   · rename_i hpu; exact ptold_conv hpu hv h
   · cases tv with
     | fn f' a' c' =>
       dsimp only at h
       obtain ⟨hf, h⟩ := beq_q h
       subst hf
       split at h
       · rename_i y1 z1 h1 h2
         have := Option.some.inj h; subst this
         have ga := iha ⟨a', x.1⟩ y1 hv.1 h1
         have gc := ihc ⟨c', x.2⟩ z1 hv.2 h2
         exact zBq rfl rfl (Tl.fn ga.all gc.all) fun hr => ⟨ga.ok fun r h => hr r (by simp [Ty.refs, h]), gc.ok fun r h => hr r (by simp [Ty.refs, h])⟩
       · cases h
     | _ => cases h
 | ifc id t ih =>
   rintro ⟨tv, x⟩ y hv h
   rw [packV_ifc] at h
   split at h
   · rename_i hpu; exact ptold_conv hpu hv h
   · cases tv with
     | ifc id' t' =>
       dsimp only at h
       obtain ⟨hf, h⟩ := beq_q h
       subst hf
       have g := ih ⟨t', x⟩ y hv h
       exact zBq rfl rfl (Tl.ifc g.one) g.ok
     | _ => cases h
 | own r =>
   rintro ⟨tv, x⟩ y hv h
   have hok : (∀ q ∈ (Ty.own r).refs, q < rows'.length) → okT rows' (.own r) y := fun hr => hr r (by simp [Ty.refs])
   cases tv with
   | own q =>
     have h : (match zCP ρ r with | some q' => bif Nat.beq q q' then some () else none | none => none) = some y := h
     split at h
     · rename_i q' hg
       obtain ⟨hq, _⟩ := beq_q h
       subst hq
       exact zBq rfl rfl (hp.ref r q hg).1.own hok
     · cases h
   | nul c =>
     cases c with
     | zero =>
       have h : (match zCP ρ r with | some _ => none | none => bif isL r then some () else none) = some y := h
       split at h
       · cases h
       · rename_i hg
         obtain ⟨hl, _⟩ := zAW h
         obtain ⟨t, ht⟩ := hp.nul r hg hl
         refine zBq rfl rfl (Tl.of_eq ?_) hok
         show D.v (.slice none 0 0) = ownD (num' r) (zAA rows' r)
         rw [ht]; rfl
     | succ c => cases h
   | _ => cases h
 | sub r =>
   rintro ⟨tv, x⟩ y hv h
   cases tv with
   | sub q =>
     have h : (match zCP ρ r with | some q' => bif Nat.beq q q' then some x else none | none => none) = some y := h
     split at h
     · rename_i q' hg
       obtain ⟨hq, hx⟩ := beq_q h
       subst hq
       have := Option.some.inj hx; subst this
       obtain ⟨h1, h2⟩ := hp.ref r q hg
       exact zBq rfl rfl (h1.sub x) fun hr => ⟨hr r (by simp [Ty.refs]), fun hl => by obtain ⟨h3, h4⟩ := h2 hl; rw [h4]; exact hv.2 h3⟩
     · cases h
   | own q =>
     have h : (match zCP ρ r, rowLen (zAA rows q) with | some q', some n => bif Nat.beq q q' then some (0, n) else none | _, _ => none) = some y := h
     split at h
     · rename_i q' m hg hm
       obtain ⟨hq, hx⟩ := beq_q h
       subst hq
       have := Option.some.inj hx; subst this
       obtain ⟨h1, h2⟩ := hp.ref r q hg
       refine zBq rfl rfl (Tl.trans (own_sub _ _ hm) (h1.sub (0, m))) fun hr => ⟨hr r (by simp [Ty.refs]), fun hl => ?_⟩
       obtain ⟨h3, h4⟩ := h2 hl
       rw [h4]
       have : m = zCT (zAA rows q) := by
         cases hrow : zAA rows q <;> rw [hrow] at hm <;> first | (exact (Option.some.inj hm).symm) | cases hm
       dsimp only; omega
     · cases h
   | nul c =>
     cases c with
     | zero =>
       have h : (match zCP ρ r with | some _ => none | none => bif isL r then some (0, 0) else none) = some y := h
       split at h
       · cases h
       · rename_i hg
         obtain ⟨hl, h⟩ := zAW h
         have := Option.some.inj h; subst this
         obtain ⟨t, ht⟩ := hp.nul r hg hl
         refine zBq rfl rfl (Tl.of_eq ?_) fun hr => ⟨hr r (by simp [Ty.refs]), fun _ => by rw [ht]; exact Nat.le_refl _⟩
         show D.v (.slice none 0 0) = subD (num' r) (0, 0) (zAA rows' r)
         rw [ht]; rfl
     | succ c => cases h
   | _ => cases h
 | p0 r o =>
   rintro ⟨tv, x⟩ y hv h
   cases tv with
   | p0 q o' =>
     have h : (match zCP ρ r with | some q' => bif Nat.beq q q' && Nat.beq o o' then some () else none | none => none) = some y := h
     split at h
     · rename_i q' hg
       obtain ⟨hq, _⟩ := zAW h
       simp only [Bool.and_eq_true, Nat.beq_eq] at hq
       obtain ⟨hq, ho⟩ := hq
       subst hq; subst ho
       exact zBq rfl rfl ((hp.ref r q hg).1.p0 o) fun hr => hr r (by simp [Ty.refs])
     · cases h
   | _ => cases h
 | pt r o =>
   rintro ⟨tv, x⟩ y hv h
   cases tv with
   | pt q o' =>
     have h : (match zCP ρ r with | some q' => bif Nat.beq q q' && Nat.beq o o' then some x else none | none => none) = some y := h
     split at h
     · rename_i q' hg
       obtain ⟨hq, hx⟩ := zAW h
       simp only [Bool.and_eq_true, Nat.beq_eq] at hq
       obtain ⟨hq, ho⟩ := hq
       subst hq; subst ho
       have := Option.some.inj hx; subst this
       obtain ⟨h1, h2⟩ := hp.ref r q hg
       exact zBq rfl rfl (h1.pt o x) fun hr => ⟨hr r (by simp [Ty.refs]), fun hl => by obtain ⟨h3, h4⟩ := h2 hl; rw [h4]; exact hv.2 h3⟩
     · cases h
   | _ => cases h
 | mp r =>
   rintro ⟨tv, x⟩ y hv h
   cases tv with
   | mp q =>
     have h : (match zCP ρ r with | some q' => bif Nat.beq q q' then some () else none | none => none) = some y := h
     split at h
     · rename_i q' hg
       obtain ⟨hq, _⟩ := beq_q h
       subst hq
       exact zBq rfl rfl (hp.ref r q hg).1.mp fun hr => hr r (by simp [Ty.refs])
     · cases h
   | _ => cases h
 | _ => intro v y hv h; rw [packV_leaf (by rfl)] at h; exact ptold_leafconv (by rfl) hv h
end
end Go.T
namespace Go.T
open Go.Ab
variable [Go.Ab.DM]
section
variable {ρ : List (Nat × Nat)} {isL : Nat → Bool} {num num' : Nat → Nat} {rows rows' : Rows}
theorem lf_id {v : TV} (h : v.t.sp = false) : v.lf = v := by
 obtain ⟨t, x⟩ := v
 cases t <;> first | rfl | simp [Ty.sp] at h
theorem leaves_one {t : Ty} (h : t.sp = false) (x : t.I) : zAI t x = [⟨t, x⟩] := by cases t <;> first | rfl | simp [Ty.sp] at h
theorem spine_leaves : ∀ (l : List TV), (∀ v ∈ l, v.t.sp = false) → zAI (spine l).t (spine l).x = l
 | [], _ => rfl
 | [v], h => by
   have hv := h v (by simp)
   show zAI v.lf.t v.lf.x = [v]
   rw [lf_id hv, leaves_one hv]
 | v :: u :: r, h => by
   show (⟨v.t, v.x⟩ : TV) :: zAI (spine (u :: r)).t (spine (u :: r)).x = _
   rw [spine_leaves (u :: r) fun w hw => h w (List.mem_cons_of_mem _ hw)]
theorem packAll_leaves {ts : List Ty} {l : List TV} {x : (zAT ts).I} (h : packAll ts l = some x) : zAI (zAT ts) x = l := by
 simp only [packAll] at h
 split at h
 · rename_i he
   obtain ⟨hb, hx⟩ := zAW h
   have := Option.some.inj hx; subst this
   rw [List.all_eq_true] at hb
   have hl := spine_leaves l fun v hv => by have := hb v hv; simpa using this
   have cast_leaves : ∀ (t u : Ty) (h : t = u) (y : t.I), zAI u (castI h y) = zAI t y := by intro t u h y; subst h; rfl
   rw [cast_leaves]; exact hl
 · cases h
theorem triv_dv : ∀ (t : Ty), t.triv = true → ∀ x : t.I, x = t.dv := by
 intro t
 induction t with
 | pr a b iha ihb =>
   intro h x
   simp only [Ty.triv, Bool.and_eq_true] at h
   exact Prod.ext (iha h.1 x.1) (ihb h.2 x.2)
 | agg s ih => intro h x; exact ih h x
 | tup s ih => intro h x; exact ih h x
 | fn f a c iha ihc =>
   intro h x
   simp only [Ty.triv, Bool.and_eq_true] at h
   exact Prod.ext (iha h.1 x.1) (ihc h.2 x.2)
 | fp t o ih => intro h x; exact ih h x
 | ifc id t ih => intro h x; exact ih h x
 | _ => intro h x; first | (simp [Ty.triv] at h; done) | rfl
inductive Packed (ρ : List (Nat × Nat)) (isL : Nat → Bool) (rows : Rows) : List Ty → List TV → List TV → Prop
 | nil : Packed ρ isL rows [] [] []
 | cons {t v ts vs us} {y : t.I} : packV ρ isL rows t v = some y → Packed ρ isL rows ts vs us → Packed ρ isL rows (t :: ts) (v :: vs) (⟨t, y⟩ :: us)
theorem packVals_un : ∀ {ts : List Ty} {vs l : List TV}, packVals ρ isL rows ts vs = some l → ∃ us, Packed ρ isL rows ts vs us ∧ ∀ rest, zBt ts (l ++ rest) = (us, rest)
 | [], [], l, h => by have := Option.some.inj h; subst this; exact ⟨[], .nil, fun _ => rfl⟩
 | [], _ :: _, l, h => by cases h
 | _ :: _, [], l, h => by cases h
 | t :: ts, v :: vs, l, h => by
   simp only [packVals] at h
   split at h
   · rename_i y l' h1 h2
     have := Option.some.inj h; subst this
     obtain ⟨us, h3, h4⟩ := packVals_un h2
     refine ⟨⟨t, y⟩ :: us, .cons h1 h3, fun rest => ?_⟩
     cases ht : t.triv with
     | true =>
       simp only [cond_true, zBt, ht, h4]
       rw [triv_dv t ht y]
     | false => simp only [cond_false, zBt, ht, List.cons_append, h4]
   · cases h
inductive PkRow (ρ : List (Nat × Nat)) (isL : Nat → Bool) (rows : Rows) (r : Nat) : RTy → TRow → Prop
 | gone : PkRow ρ isL rows r .gone .gone
 | one {q : Nat} {t u : Ty} {x : u.I} {y : t.I} : zCP ρ r = some q → zAA rows q = .one u x → packV ρ isL rows t ⟨u, x⟩ = some y → t.lay = true → zBi t = zBi u → PkRow ρ isL rows r (.one t) (.one t y)
 | many {q t l} : zCP ρ r = some q → zAA rows q = .many t l → PkRow ρ isL rows r (.many t) (.many t l)
 | lst {q t l} : zCP ρ r = some q → zAA rows q = .lst t l → PkRow ρ isL rows r (.lst t) (.lst t l)
 | fro {q t l} : zCP ρ r = some q → zAA rows q = .fro t l → PkRow ρ isL rows r (.fro t) (.fro t l)
 | fr1 {q t x} : zCP ρ r = some q → zAA rows q = .fr1 t x → PkRow ρ isL rows r (.fr1 t) (.fr1 t x)
 | mp {q k v l} : zCP ρ r = some q → zAA rows q = .mp k v l → PkRow ρ isL rows r (.mp k v) (.mp k v l)
 | sit {q s p} : zCP ρ r = some q → zAA rows q = .sit s p → PkRow ρ isL rows r .sit (.sit s p)
 | nil {t} : zCP ρ r = none → t.elem = true → PkRow ρ isL rows r (.lst t) (.lst t [])
theorem packRow_un {r : Nat} {e : RTy} {vs : List TV} (h : packRow ρ isL rows r e = some vs) : ∃ row, PkRow ρ isL rows r e row ∧ ∀ l rest, zBa ((r, e) :: l) (vs ++ rest) = (r, row) :: zBa l rest := by
 have single : ∀ (e : RTy) (v : TV) (row : TRow), e.dat.triv = false → rowOf e v = row → ∀ l rest, zBa ((r, e) :: l) ([v] ++ rest) = (r, row) :: zBa l rest := by
   intro e v row ht hr l rest
   simp only [zBa, ht, cond_false, List.cons_append, List.nil_append, hr]
 cases e with
 | gone => have := Option.some.inj h; subst this; exact ⟨.gone, .gone, fun l rest => rfl⟩
 | one t =>
   simp only [packRow] at h
   split at h
   · rename_i q hg
     cases hrow : zAA rows q <;> rw [hrow] at h <;> first | (cases h; done) | skip
     rename_i u x
     obtain ⟨hb, h⟩ := zAW h
     rw [Bool.and_eq_true, beq_iff_eq] at hb
     split at h
     · rename_i y hy
       have := Option.some.inj h; subst this
       refine ⟨.one _ y, .one hg hrow hy hb.1 hb.2, ?_⟩
       cases ht : Ty.triv _ with
       | true =>
         intro l rest
         have hd : (RTy.one _).dat.triv = true := ht
         simp only [cond_true, zBa, hd, List.nil_append]
         rw [triv_dv _ ht y]; rfl
       | false => exact single _ _ _ ht rfl
     · cases h
   · cases h
 | many t =>
   simp only [packRow] at h
   split at h
   · rename_i q hg
     cases hrow : zAA rows q <;> rw [hrow] at h <;> first | (cases h; done) | skip
     rename_i u l
     obtain ⟨hb, hx⟩ := zAW h
     have hb := of_decide_eq_true hb
     subst hb
     have := Option.some.inj hx; subst this
     exact ⟨_, .many hg hrow, single _ _ _ rfl rfl⟩
   · cases h
 | lst t =>
   simp only [packRow] at h
   split at h
   · rename_i q hg
     cases hrow : zAA rows q <;> rw [hrow] at h <;> first | (cases h; done) | skip
     rename_i u l
     obtain ⟨hb, hx⟩ := zAW h
     have hb := of_decide_eq_true hb
     subst hb
     have := Option.some.inj hx; subst this
     exact ⟨_, .lst hg hrow, single _ _ _ rfl rfl⟩
   · rename_i hg
     obtain ⟨hb, h⟩ := zAW h
     have := Option.some.inj h; subst this
     exact ⟨_, .nil hg hb, single _ _ _ rfl rfl⟩
 | fro t =>
   simp only [packRow] at h
   split at h
   · rename_i q hg
     cases hrow : zAA rows q <;> rw [hrow] at h <;> first | (cases h; done) | skip
     rename_i u l
     obtain ⟨hb, hx⟩ := zAW h
     have hb := of_decide_eq_true hb
     subst hb
     have := Option.some.inj hx; subst this
     exact ⟨_, .fro hg hrow, single _ _ _ rfl rfl⟩
   · cases h
 | fr1 t =>
   simp only [packRow] at h
   split at h
   · rename_i q hg
     cases hrow : zAA rows q <;> rw [hrow] at h <;> first | (cases h; done) | skip
     rename_i u x
     obtain ⟨hb, hx⟩ := zAW h
     have hb := of_decide_eq_true hb
     subst hb
     have := Option.some.inj hx; subst this
     refine ⟨.fr1 _ x, .fr1 hg hrow, ?_⟩
     cases ht : Ty.triv _ with
     | true =>
       intro l rest
       have hd : (RTy.fr1 _).dat.triv = true := ht
       simp only [cond_true, zBa, hd, List.nil_append]
       rw [triv_dv _ ht x]; rfl
     | false => exact single _ _ _ ht rfl
   · cases h
 | mp k v =>
   simp only [packRow] at h
   split at h
   · rename_i q hg
     cases hrow : zAA rows q <;> rw [hrow] at h <;> first | (cases h; done) | skip
     rename_i k' v' l
     obtain ⟨hb, hx⟩ := zAW h
     rw [Bool.and_eq_true] at hb
     have hb1 := of_decide_eq_true hb.1
     have hb2 := of_decide_eq_true hb.2
     subst hb1; subst hb2
     have := Option.some.inj hx; subst this
     exact ⟨_, .mp hg hrow, single _ _ _ rfl rfl⟩
   · cases h
 | sit =>
   simp only [packRow] at h
   split at h
   · rename_i q hg
     cases hrow : zAA rows q <;> rw [hrow] at h <;> first | (cases h; done) | skip
     rename_i s p
     have := Option.some.inj h; subst this
     exact ⟨_, .sit hg hrow, single _ _ _ rfl rfl⟩
   · cases h
inductive PkRows (ρ : List (Nat × Nat)) (isL : Nat → Bool) (rows : Rows) : List (Nat × RTy) → List (Nat × TRow) → Prop
 | nil : PkRows ρ isL rows [] []
 | cons {r e row l m} : PkRow ρ isL rows r e row → PkRows ρ isL rows l m → PkRows ρ isL rows ((r, e) :: l) ((r, row) :: m)
theorem packRows_un : ∀ {l : List (Nat × RTy)} {vs : List TV}, packRows ρ isL rows l = some vs → ∃ m, PkRows ρ isL rows l m ∧ zBa l vs = m
 | [], vs, h => by have := Option.some.inj h; subst this; exact ⟨[], .nil, rfl⟩
 | (r, e) :: l, vs, h => by
   simp only [packRows] at h
   split at h
   · rename_i v vs' h1 h2
     have := Option.some.inj h; subst this
     obtain ⟨row, h3, h4⟩ := packRow_un h1
     obtain ⟨m, h5, h6⟩ := packRows_un h2
     exact ⟨(r, row) :: m, .cons h3 h5, by rw [h4, h6]⟩
   · cases h
theorem PkRows.look : ∀ {l : List (Nat × RTy)} {m : List (Nat × TRow)}, PkRows ρ isL rows l m → ∀ r, (match zBT l r with | some e => ∃ row, rowIn m r = some row ∧ PkRow ρ isL rows r e row | none => rowIn m r = none)
 | _, _, .nil, r => rfl
 | _, _, .cons (r := q) (e := e) (row := row) (l := l) (m := m) h1 h2, r => by
   have ih := PkRows.look h2 r
   simp only [zBT, rowIn]
   cases hb : Nat.beq q r with
   | true => rw [Nat.beq_eq] at hb; subst hb; exact ⟨row, rfl, h1⟩
   | false => exact ih
end
end Go.T
namespace Go.T
open Go.Ab
variable [Go.Ab.DM]
def src (ρ : List (Nat × Nat)) (r : Nat) : Nat := (zCP ρ r).getD r
theorem zAX {ρ : List (Nat × Nat)} {r q : Nat} (h : zCP ρ r = some q) : src ρ r = q := by unfold src; rw [h]; rfl
section
variable {ρ : List (Nat × Nat)} {isL : Nat → Bool} {ζ : Nat → Row} {num : Nat → Nat} {rf rows' : Rows} {H : Heap}
inductive Tgt (ρ : List (Nat × Nat)) (isL : Nat → Bool) (rf rows' : Rows) (r : Nat) : TRow → Prop
 | gone : Tgt ρ isL rf rows' r .gone
 | pk {e row} : PkRow ρ isL rf r e row → Tgt ρ isL rf rows' r row
 | keep : src ρ r = r → (∀ t x, zAA rf r = .one t x → ∀ z ∈ t.refs, zCP ρ z = some z) → (∀ m, (zAA rf r = .itb m ∨ ∃ k v x y, zAA rf r = .ite m k v x y) → src ρ m = m ∧ zAA rows' m = zAA rf m) → Tgt ρ isL rf rows' r (zAA rf r)
theorem tgt_ref {r q : Nat} {row : TRow} (h : Tgt ρ isL rf rows' r row) (hg : zCP ρ r = some q) : RefTl (num q) (zAA rf q) (num (src ρ r)) row ∧ (zAO row = true → zAO (zAA rf q) = true ∧ zCT row = zCT (zAA rf q)) := by
 rw [zAX hg]
 cases h with
 | gone => exact ⟨RefTl.gone _ _ _, fun h => by simp [zAO] at h⟩
 | pk h =>
   have eq : ∀ {q'}, zCP ρ r = some q' → q' = q := fun h => by rw [hg] at h; exact (Option.some.inj h).symm
   cases h with
   | gone => exact ⟨RefTl.gone _ _ _, fun h => by simp [zAO] at h⟩
   | one h1 h2 h3 h4 h5 => have := eq h1; subst this; rw [h2]; exact ⟨ref_one _, fun h => by simp [zAO] at h⟩
   | many h1 h2 => have := eq h1; subst this; rw [h2]; exact ⟨RefTl.refl _ _, fun _ => ⟨rfl, rfl⟩⟩
   | lst h1 h2 => have := eq h1; subst this; rw [h2]; exact ⟨RefTl.refl _ _, fun _ => ⟨rfl, rfl⟩⟩
   | fro h1 h2 => have := eq h1; subst this; rw [h2]; exact ⟨RefTl.refl _ _, fun _ => ⟨rfl, rfl⟩⟩
   | fr1 h1 h2 => have := eq h1; subst this; rw [h2]; exact ⟨RefTl.refl _ _, fun h => by simp [zAO] at h⟩
   | mp h1 h2 => have := eq h1; subst this; rw [h2]; exact ⟨RefTl.refl _ _, fun h => by simp [zAO] at h⟩
   | sit h1 h2 => have := eq h1; subst this; rw [h2]; exact ⟨RefTl.refl _ _, fun h => by simp [zAO] at h⟩
   | nil h1 _ => rw [hg] at h1; cases h1
 | keep h1 _ _ => have : q = r := by rw [← zAX hg]; exact h1
                  subst this; exact ⟨RefTl.refl _ _, fun h => ⟨h, rfl⟩⟩
theorem tgt_prel (hT : ∀ r, Tgt ρ isL rf rows' r (zAA rows' r)) (hnul : ∀ r, zCP ρ r = none → isL r = true → ∃ t, zAA rows' r = .lst t []) : PRel ρ isL num rf (fun r => num (src ρ r)) rows' :=
 ⟨fun r q h => tgt_ref (hT r) h, hnul⟩
theorem enc_self {num' : Nat → Nat} (hp : PRel ρ isL num rf num' rows') (t : Ty) (x : t.I) (hz : ∀ z ∈ t.refs, zCP ρ z = some z) (hx : okT rf t x) :
   (Tl (E t (zAB num rf) x).1 (E t (zAB num' rows') x).1 ∧ Tls (E t (zAB num rf) x).2 (E t (zAB num' rows') x).2) ∧ ((∀ z ∈ t.refs, z < rows'.length) → okT rows' t x) := by
 induction t with
 | pr a b iha ihb =>
   have ga := iha x.1 (fun z h => hz z (by simp [Ty.refs, h])) hx.1
   have gb := ihb x.2 (fun z h => hz z (by simp [Ty.refs, h])) hx.2
   exact ⟨⟨Tl.refl _, .cons ga.1.1 gb.1.2⟩, fun hr => ⟨ga.2 fun z h => hr z (by simp [Ty.refs, h]), gb.2 fun z h => hr z (by simp [Ty.refs, h])⟩⟩
 | unit => exact ⟨⟨Tl.refl _, .nil⟩, fun _ => trivial⟩
 | agg s ih => have g := ih x hz hx; have := Tl.agg g.1.2; exact ⟨⟨this, .cons this .nil⟩, g.2⟩
 | tup s ih => have g := ih x hz hx; have := Tl.tup g.1.2; exact ⟨⟨this, .cons this .nil⟩, g.2⟩
 | fn f a c iha ihc =>
   have ga := iha x.1 (fun z h => hz z (by simp [Ty.refs, h])) hx.1
   have gc := ihc x.2 (fun z h => hz z (by simp [Ty.refs, h])) hx.2
   have := Tl.fn (f := .func f) ga.1.2 gc.1.2
   exact ⟨⟨this, .cons this .nil⟩, fun hr => ⟨ga.2 fun z h => hr z (by simp [Ty.refs, h]), gc.2 fun z h => hr z (by simp [Ty.refs, h])⟩⟩
 | ifc id t ih => have g := ih x hz hx; have := Tl.ifc (t := id) g.1.1; exact ⟨⟨this, .cons this .nil⟩, g.2⟩
 | own r => have := (hp.ref r r (hz r (by simp [Ty.refs]))).1.own; exact ⟨⟨this, .cons this .nil⟩, fun hr => hr r (by simp [Ty.refs])⟩
 | sub r =>
   obtain ⟨h1, h2⟩ := hp.ref r r (hz r (by simp [Ty.refs]))
   have := h1.sub x
   exact ⟨⟨this, .cons this .nil⟩, fun hr => ⟨hr r (by simp [Ty.refs]), fun hl => by obtain ⟨h3, h4⟩ := h2 hl; rw [h4]; exact hx.2 h3⟩⟩
 | p0 r o => have := (hp.ref r r (hz r (by simp [Ty.refs]))).1.p0 o; exact ⟨⟨this, .cons this .nil⟩, fun hr => hr r (by simp [Ty.refs])⟩
 | pt r o =>
   obtain ⟨h1, h2⟩ := hp.ref r r (hz r (by simp [Ty.refs]))
   have := h1.pt o x
   exact ⟨⟨this, .cons this .nil⟩, fun hr => ⟨hr r (by simp [Ty.refs]), fun hl => by obtain ⟨h3, h4⟩ := h2 hl; rw [h4]; exact hx.2 h3⟩⟩
 | mp r => have := (hp.ref r r (hz r (by simp [Ty.refs]))).1.mp; exact ⟨⟨this, .cons this .nil⟩, fun hr => hr r (by simp [Ty.refs])⟩
 | _ => exact ⟨⟨Tl.refl _, Tls.refl _⟩, fun _ => trivial⟩
theorem cast_tls {a b c d : List D} (h : a = b) (h' : c = d) (ht : Tls a c) : Tls b d := by subst h; subst h'; exact ht
theorem cells_told {num' : Nat → Nat} {t u : Ty} {x : u.I} {y : t.I} (h : PTold num rf num' rows' ⟨u, x⟩ t y) (hv : okV rf ⟨u, x⟩) (hp : packV ρ isL rf t ⟨u, x⟩ = some y) (hr : PRel ρ isL num rf num' rows') (hl : t.lay = true) (hag : zBi t = zBi u) : Tls ((zAq ⟨u, x⟩).map (enc (zAB num rf))) ((zAq ⟨t, y⟩).map (enc (zAB num' rows'))) := by
 have plain : zBi t = false → Tls ((zAq ⟨u, x⟩).map (enc (zAB num rf))) ((zAq ⟨t, y⟩).map (enc (zAB num' rows'))) := fun ht => by
   rw [← zBW, ← zBW, zAy (by rw [zDA]; exact hag ▸ ht), zAy (by rw [zDA]; exact ht)]
   exact .cons h.one .nil
 cases t with
 | agg s =>
   cases u with
   | agg s' =>
     refine cast_tls (E_leaves s' _ x) (E_leaves s _ y) ?_
     rw [packV_agg] at hp
     split at hp
     · rename_i hpu
       rw [convS_agg] at hp
       split at hp
       · rename_i hh
         have := Option.some.inj hp; subst this
         obtain ⟨h1, h2⟩ := hh
         have h1 : s' = s := by injection h1
         subst h1
         rw [castI_rfl]
         exact Tls_of_eq (congrArg Prod.snd (E_pure s' h2 _ _ x))
       · have g := (convS_told (num := num) s ⟨s', x⟩ y hv hp).2
         have e := E_pure s hpu zCr (zAB num' rows') y
         rw [← e]; exact g
     · exact (packV_told hr s ⟨s', x⟩ y hv hp).all
   | _ => simp [zBi] at hag
 | _ => exact plain rfl
where
 Tls_of_eq {a b : List D} (h : a = b) : Tls a b := h ▸ Tls.refl a
theorem tgt_live {r : Nat} {row : TRow} (h : Tgt ρ isL rf rows' r row) (hl : zAQ row = true) : zAQ (zAA rf (src ρ r)) = true := by
 cases h with
 | gone => simp [zAQ] at hl
 | pk h =>
   cases h with
   | gone => simp [zAQ] at hl
   | one h1 h2 h3 h4 h5 => rw [zAX h1, h2]; rfl
   | many h1 h2 => rw [zAX h1, h2]; exact hl
   | lst h1 h2 => rw [zAX h1, h2]; exact hl
   | fro h1 h2 => rw [zAX h1, h2]; exact hl
   | fr1 h1 h2 => rw [zAX h1, h2]; exact hl
   | mp h1 h2 => rw [zAX h1, h2]; exact hl
   | sit h1 h2 => rw [zAX h1, h2]; exact hl
   | nil h1 _ => simp [zAQ] at hl
 | keep h1 _ _ => rw [h1]; exact hl
theorem tgt_hrel (hr : HRel ζ num rf H) (hT : ∀ r, Tgt ρ isL rf rows' r (zAA rows' r)) (hnul : ∀ r, zCP ρ r = none → isL r = true → ∃ t, zAA rows' r = .lst t [])
   (hrefs : ∀ r t y, zAA rows' r = .one t y → ∀ z ∈ t.refs, z < rows'.length) (hinj : ∀ r z, zAQ (zAA rows' r) = true → zAQ (zAA rows' z) = true → r ≠ z → src ρ r ≠ src ρ z) :
   HRel (fun r => ζ (src ρ r)) (fun r => num (src ρ r)) rows' H := by
 have hp := tgt_prel (num := num) hT hnul
 refine ⟨fun r => ?_, fun r z h1 h2 hrz => hr.inj _ _ (tgt_live (hT r) h1) (tgt_live (hT z) h2) (hinj r z h1 h2 hrz), fun r t x hrow => ?_⟩
 · have hTr := hT r
   generalize hrow' : zAA rows' r = row at *
   cases hTr with
   | gone => trivial
   | pk h =>
     cases h with
     | gone => trivial
     | one h1 h2 h3 h4 h5 =>
       have hR := hr.row (src ρ r)
       rw [zAX h1, h2] at hR
       obtain ⟨g1, k, d, g2, g3, g4⟩ := hR
       have hv := hr.ok _ _ _ h2
       refine ⟨h4, k, d, by dsimp only; rw [zAX h1]; exact g2, by rw [g3, h5], g4.trans (cells_told (packV_told hp _ ⟨_, _⟩ _ hv h3) hv h3 hp h4 h5)⟩
     | many h1 h2 => have hR := hr.row (src ρ r); rw [zAX h1, h2] at hR; simp only [zBw] at hR ⊢; rw [zAX h1]; exact hR
     | lst h1 h2 => have hR := hr.row (src ρ r); rw [zAX h1, h2] at hR; simp only [zBw] at hR ⊢; rw [zAX h1]; exact hR
     | fro h1 h2 => have hR := hr.row (src ρ r); rw [zAX h1, h2] at hR; exact hR
     | fr1 h1 h2 => have hR := hr.row (src ρ r); rw [zAX h1, h2] at hR; exact hR
     | mp h1 h2 => have hR := hr.row (src ρ r); rw [zAX h1, h2] at hR; simp only [zBw] at hR ⊢; rw [zAX h1]; exact hR
     | sit h1 h2 => have hR := hr.row (src ρ r); rw [zAX h1, h2] at hR; simp only [zBw] at hR ⊢; rw [zAX h1]; exact hR
     | nil h1 h2 => exact ⟨h2, fun h => absurd rfl h⟩
   | keep h1 h2 h3 =>
     have hR := hr.row r
     cases hrow : zAA rf r with
     | one t x =>
       rw [hrow] at hR
       obtain ⟨g1, k, d, g2, g3, g4⟩ := hR
       refine ⟨g1, k, d, by dsimp only; rw [h1]; exact g2, g3, g4.trans ?_⟩
       have hz := h2 t x hrow
       have hok := hr.ok _ _ _ hrow
       have ge := enc_self hp t x hz hok
       rw [← zBW, ← zBW]
       cases t with
       | agg s => exact (enc_self hp s x hz hok).1.2
       | _ =>
         rw [zAy (by rw [zDA]; rfl), zAy (by rw [zDA]; rfl)]
         exact .cons ge.1.1 .nil
     | many t l => rw [hrow] at hR; simp only [zBw] at hR ⊢; rw [h1]; exact hR
     | lst t l => rw [hrow] at hR; simp only [zBw] at hR ⊢; rw [h1]; exact hR
     | fro t l => rw [hrow] at hR; exact hR
     | fr1 t l => rw [hrow] at hR; exact hR
     | mp k v l => rw [hrow] at hR; simp only [zBw] at hR ⊢; rw [h1]; exact hR
     | itb m =>
       rw [hrow] at hR
       obtain ⟨g1, ⟨a, b, l, g2⟩, es, cl, g3, g4⟩ := hR
       obtain ⟨g5, g6⟩ := h3 m (.inl hrow)
       refine ⟨by dsimp only; rw [h1]; exact g1, ⟨a, b, l, by rw [g6]; exact g2⟩, es, cl, by dsimp only; rw [g5]; exact g3, by dsimp only; rw [h1, g5]; exact g4⟩
     | ite m k v x y =>
       rw [hrow] at hR
       obtain ⟨g1, ⟨a, b, l, g2⟩, hp1, hp2, since, seen, bb, es, cl, dd, g3, g4, g8⟩ := hR
       obtain ⟨g5, g6⟩ := h3 m (.inr ⟨_, _, _, _, hrow⟩)
       refine ⟨by dsimp only; rw [h1]; exact g1, ⟨a, b, l, by rw [g6]; exact g2⟩, hp1, hp2, since, seen, bb, es, cl, dd, by dsimp only; rw [g5]; exact g3, by dsimp only; rw [h1, g5]; exact g4, g8⟩
     | sit b p => rw [hrow] at hR; simp only [zBw] at hR ⊢; rw [h1]; exact hR
     | gone => trivial
 · have hTr := hT r
   have hz := hrefs r t x hrow
   rw [hrow] at hTr
   generalize hrow' : TRow.one t x = row at hTr
   cases hTr with
   | gone => cases hrow'
   | pk h =>
     cases h <;> first | (cases hrow'; done) | skip
     rename_i h1 h2 h3 h4 h5
     cases hrow'
     exact (packV_told hp _ ⟨_, _⟩ _ (hr.ok _ _ _ h2) h3).ok hz
   | keep h1 h2 h3 => exact (enc_self hp t x (h2 t x hrow'.symm) (hr.ok _ _ _ hrow'.symm)).2 hz
theorem tgt_lens {B : Base} (hT : ∀ r, Tgt ρ isL rf rows' r (zAA rows' r)) (hl : ∀ r, r < B.k → zAO (zAA rf r) = true → zCT (zAA rf r) = B.len0 r) {r : Nat} (hr : r < B.k) (hs : src ρ r = r) (hg : zCP ρ r = some r ∨ zAA rows' r = zAA rf r ∨ zAA rows' r = .gone) (hi : zAO (zAA rows' r) = true) : zCT (zAA rows' r) = B.len0 r := by
 rcases hg with hg | hg | hg
 · obtain ⟨_, h2⟩ := tgt_ref (num := fun i => i) (hT r) hg
   obtain ⟨h3, h4⟩ := h2 hi
   rw [h4]; exact hl r hr h3
 · rw [hg] at hi ⊢; exact hl r hr hi
 · rw [hg] at hi; simp [zAO] at hi
end
end Go.T
namespace Go.T
open Go.Ab
variable [Go.Ab.DM]
section
variable {ρ : List (Nat × Nat)} {rows : Rows}
theorem getN_app {a b : List (Nat × Nat)} {z : Nat} : zCP (a ++ b) z = match zCP a z with | some q => some q | none => zCP b z := by
 induction a with
 | nil => rfl
 | cons p a ih =>
   simp only [List.cons_append, zCP]
   cases Nat.beq p.1 z <;> simp [ih]
theorem getN_id {a b : List (Nat × Nat)} (h : ∀ p ∈ a, p.1 = p.2) {z : Nat} (hz : ∃ p ∈ a, p.1 = z) : zCP (a ++ b) z = some z := by
 rw [getN_app]
 have : zCP a z = some z := by
   induction a with
   | nil => obtain ⟨p, hp, _⟩ := hz; cases hp
   | cons p a ih =>
     simp only [zCP]
     cases hb : Nat.beq p.1 z with
     | true =>
       rw [Nat.beq_eq] at hb
       rw [cond_true, ← h p (by simp), hb]
     | false =>
       rw [cond_false]
       refine ih (fun q hq => h q (List.mem_cons_of_mem _ hq)) ?_
       obtain ⟨q, hq, hqz⟩ := hz
       rcases List.mem_cons.1 hq with rfl | hq
       · rw [hqz, Nat.beq_refl] at hb; cases hb
       · exact ⟨q, hq, hqz⟩
 rw [this]
theorem getN_mem {a : List (Nat × Nat)} {r q : Nat} (h : zCP a r = some q) : (r, q) ∈ a := by
 induction a with
 | nil => cases h
 | cons p a ih =>
   simp only [zCP] at h
   cases hb : Nat.beq p.1 r with
   | true =>
     rw [hb, cond_true] at h
     have := Option.some.inj h
     rw [Nat.beq_eq] at hb
     rw [← hb, ← this]; exact List.mem_cons_self ..
   | false => rw [hb] at h; exact List.mem_cons_of_mem _ (ih h)
theorem uniRows_app : ∀ (l : List (Nat × RTy)) (ρ : List (Nat × Nat)), ∃ x, uniRows rows ρ l = ρ ++ x
 | [], ρ => ⟨[], by simp [uniRows]⟩
 | (r, e) :: l, ρ => by
   simp only [uniRows]
   split
   · obtain ⟨x, h⟩ := uniRows_app l (ρ ++ uni _ _)
     exact ⟨_, by rw [h, List.append_assoc]⟩
   · exact uniRows_app l ρ
theorem idRefs_mem {l : List Nat} : (∀ p ∈ idRefs l, p.1 = p.2) ∧ ∀ z ∈ l, ∃ p ∈ idRefs l, p.1 = z := by
 induction l with
 | nil => exact ⟨fun p h => by simp [idRefs] at h, fun z h => by simp at h⟩
 | cons q l ih =>
   refine ⟨fun p h => ?_, fun z h => ?_⟩
   · rcases List.mem_cons.1 h with rfl | h
     · rfl
     · exact ih.1 p h
   · rcases List.mem_cons.1 h with rfl | h
     · exact ⟨(z, z), List.mem_cons_self .., rfl⟩
     · obtain ⟨p, h1, h2⟩ := ih.2 z h; exact ⟨p, List.mem_cons_of_mem _ h1, h2⟩
theorem uniKeep_id (env : List Ent) : ∀ l : List Nat, (∀ p ∈ uniKeep env l, p.1 = p.2) ∧ ∀ n ∈ l, ∀ e, zAh env n = some e → ∀ z ∈ e.v.t.refs, ∃ p ∈ uniKeep env l, p.1 = z
 | [] => ⟨fun p h => by simp [uniKeep] at h, fun n h => by simp at h⟩
 | n :: l => by
   obtain ⟨h1, h2⟩ := uniKeep_id env l
   cases hf : zAh env n with
   | none =>
     simp only [uniKeep, hf]
     refine ⟨h1, fun m hm e he z hz => ?_⟩
     rcases List.mem_cons.1 hm with rfl | hm
     · rw [hf] at he; cases he
     · exact h2 m hm e he z hz
   | some e0 =>
     simp only [uniKeep, hf]
     refine ⟨fun p hp => ?_, fun m hm e he z hz => ?_⟩
     · rcases List.mem_append.1 hp with hp | hp
       · exact idRefs_mem.1 p hp
       · exact h1 p hp
     · rcases List.mem_cons.1 hm with rfl | hm
       · rw [hf] at he
         have := Option.some.inj he; subst this
         obtain ⟨p, hp, hpz⟩ := idRefs_mem.2 z hz
         exact ⟨p, List.mem_append_left _ hp, hpz⟩
       · obtain ⟨p, hp, hpz⟩ := h2 m hm e he z hz
         exact ⟨p, List.mem_append_right _ hp, hpz⟩
theorem uniKeepR_id (l : List (Nat × RTy)) (rows : Rows) : ∀ n : Nat, (∀ p ∈ uniKeepR l rows n, p.1 = p.2) ∧ ∀ r, r < n → zBT l r = none → ∀ t x, zAA rows r = .one t x → ∀ z ∈ t.refs, ∃ p ∈ uniKeepR l rows n, p.1 = z
 | 0 => ⟨fun p h => by simp [uniKeepR] at h, fun r h => absurd h (Nat.not_lt_zero _)⟩
 | n + 1 => by
   obtain ⟨h1, h2⟩ := uniKeepR_id l rows n
   simp only [uniKeepR]
   refine ⟨fun p hp => ?_, fun r hr hl t x hrow z hz => ?_⟩
   · rcases List.mem_append.1 hp with hp | hp
     · split at hp
       · exact idRefs_mem.1 p hp
       · simp at hp
     · exact h1 p hp
   · by_cases h : r = n
     · subst h
       obtain ⟨p, hp, hpz⟩ := idRefs_mem.2 z hz
       exact ⟨p, List.mem_append_left _ (by rw [hl, hrow]; exact hp), hpz⟩
     · obtain ⟨p, hp, hpz⟩ := h2 r (by omega) hl t x hrow z hz
       exact ⟨p, List.mem_append_right _ hp, hpz⟩
theorem refsBelow_at {n : Nat} {l : List Nat} (h : refsBelow n l = true) : ∀ z ∈ l, z < n := fun z hz => by
 unfold refsBelow at h
 rw [List.all_eq_true] at h
 have := h z hz
 exact Nat.le_of_ble_eq_true this
theorem keepOk_at {d : Nat} {env : List Ent} : ∀ {l : List Nat}, keepOk d env l = true → ∀ n ∈ l, ∃ e, zAh env n = some e ∧ e.lv ≤ d ∧ e.c = []
 | [], _, n, h => by simp at h
 | m :: l, h, n, hn => by
   simp only [keepOk, Bool.and_eq_true] at h
   rcases List.mem_cons.1 hn with rfl | hn
   · have h1 := h.1
     split at h1
     · rename_i e he
       rw [Bool.and_eq_true, List.isEmpty_iff] at h1
       exact ⟨e, he, Nat.le_of_ble_eq_true h1.1, h1.2⟩
     · cases h1
   · exact keepOk_at h.2 n hn
theorem keepBelow_at {N : Nat} {env : List Ent} : ∀ {l : List Nat}, keepBelow N env l = true → ∀ n ∈ l, ∀ e, zAh env n = some e → ∀ z ∈ e.v.t.refs, z < N
 | [], _, n, h => by simp at h
 | m :: l, h, n, hn => by
   simp only [keepBelow, Bool.and_eq_true] at h
   rcases List.mem_cons.1 hn with rfl | hn
   · intro e he
     have h1 := h.1
     rw [he] at h1
     exact refsBelow_at h1
   · exact keepBelow_at h.2 n hn
theorem slotsBelow_at {N : Nat} : ∀ {l : List Ty}, slotsBelow N l = true → ∀ t ∈ l, ∀ z ∈ t.refs, z < N
 | [], _, t, h => by simp at h
 | u :: l, h, t, ht => by
   simp only [slotsBelow, Bool.and_eq_true] at h
   rcases List.mem_cons.1 ht with rfl | ht
   · exact refsBelow_at h.1
   · exact slotsBelow_at h.2 t ht
theorem lookR_mem : ∀ {l : List (Nat × RTy)} {r : Nat} {e : RTy}, zBT l r = some e → (r, e) ∈ l
 | [], r, e, h => by cases h
 | p :: l, r, e, h => by
   simp only [zBT] at h
   cases hb : Nat.beq p.1 r with
   | true =>
     rw [hb, cond_true] at h
     have := Option.some.inj h
     rw [Nat.beq_eq] at hb
     rw [← hb, ← this]; exact List.mem_cons_self ..
   | false => rw [hb] at h; exact List.mem_cons_of_mem _ (lookR_mem h)
theorem rowsBelow_at {N : Nat} : ∀ {l : List (Nat × RTy)}, rowsBelowT N l = true → ∀ r t, (r, RTy.one t) ∈ l → ∀ z ∈ t.refs, z < N
 | [], _, r, t, h => by simp at h
 | (q, e) :: l, h, r, t, ht => by
   simp only [rowsBelowT, Bool.and_eq_true] at h
   rcases List.mem_cons.1 ht with ht | ht
   · injection ht with h1 h2; subst h1; subst h2; exact refsBelow_at h.1
   · exact rowsBelow_at h.2 r t ht
theorem below_at {N : Nat} : ∀ {l : List (Nat × RTy)} {used : List Nat}, below N l used = true → ∀ r e, (r, e) ∈ l → r < N
 | [], _, _, r, e, h => by simp at h
 | (q, e') :: l, used, h, r, e, hr => by
   simp only [below, Bool.and_eq_true] at h
   rcases List.mem_cons.1 hr with hr | hr
   · injection hr with h1 h2; subst h1; exact Nat.le_of_ble_eq_true h.1.1
   · exact below_at h.2 r e hr
theorem rowsOk_at {d : Nat} {l : List (Nat × RTy)} : ∀ {n : Nat}, rowsOk d l rows n = true → ∀ r, r < n → zBT l r = none → ∃ lv, zAP rows r = some lv ∧ lv ≤ d
 | 0, _, r, h, _ => absurd h (Nat.not_lt_zero _)
 | n + 1, h, r, hr, hl => by
   simp only [rowsOk, Bool.and_eq_true] at h
   by_cases hrn : r = n
   · subst hrn
     have h1 := h.1
     rw [hl] at h1
     dsimp only at h1
     split at h1
     · rename_i lv hs; exact ⟨lv, hs, Nat.le_of_ble_eq_true h1⟩
     · cases h1
   · exact rowsOk_at h.2 r (by omega) hl
theorem keptBelow_at {N : Nat} {l : List (Nat × RTy)} : ∀ {n : Nat}, keptBelow N l rows n = true → ∀ r, r < n → zBT l r = none → ∀ q ∈ rowRefs (zAA rows r), q < N ∧ ((∃ t x, zAA rows r = .one t x) ∨ zBT l q = none)
 | 0, _, r, h, _ => absurd h (Nat.not_lt_zero _)
 | n + 1, h, r, hr, hl => by
   simp only [keptBelow, Bool.and_eq_true] at h
   by_cases hrn : r = n
   · subst hrn
     have h1 := h.1
     rw [hl] at h1
     dsimp only at h1
     rw [List.all_eq_true] at h1
     intro q hq
     have h2 := h1 q hq
     rw [Bool.and_eq_true] at h2
     refine ⟨Nat.le_of_ble_eq_true h2.1, ?_⟩
     have h3 := h2.2
     cases hlq : zBT l q with
     | none => exact .inr rfl
     | some e =>
       rw [hlq] at h3
       cases hrow : zAA rows r <;> rw [hrow] at h3 <;> first | (cases h3; done) | exact .inl ⟨_, _, rfl⟩
   · exact keptBelow_at h.2 r (by omega) hl
theorem rhoOk_at {l : List (Nat × RTy)} (h : rhoOk l ρ = true) {r q : Nat} (hg : zCP ρ r = some q) (hl : zBT l r = none) : q = r := by
 unfold rhoOk at h
 rw [List.all_eq_true] at h
 have := h (r, q) (getN_mem hg)
 dsimp only at this
 rw [hl] at this
 dsimp only at this
 rw [Nat.beq_eq] at this
 exact this.symm
structure InjAt (k : Nat) (l0 : List (Nat × RTy)) (n : Nat) (ρ : List (Nat × Nat)) (l : List (Nat × RTy)) (used : List Nat) : Prop where
 one : ∀ r e, zBT l r = some e → e ≠ .gone → (∀ q, zCP ρ r = some q → ((r < k ∧ q = r) ∨ (k ≤ r ∧ k ≤ q)) ∧ q ∉ used ∧ (zBT l0 q = none → n ≤ q)) ∧ (zCP ρ r = none → k ≤ r)
 two : ∀ r z e e' q q', zBT l r = some e → zBT l z = some e' → e ≠ .gone → e' ≠ .gone → r ≠ z → zCP ρ r = some q → zCP ρ z = some q' → q ≠ q'
theorem not_used {q : Nat} {used : List Nat} (h : (!(used.any (Nat.beq q))) = true) : q ∉ used := fun hq => by
 have : used.any (Nat.beq q) = true := by rw [List.any_eq_true]; exact ⟨q, hq, by simp⟩
 rw [this] at h; cases h
theorem injOk_at {k n : Nat} {l0 : List (Nat × RTy)} : ∀ {l : List (Nat × RTy)} {used : List Nat}, injOk k l0 n ρ l used = true → InjAt k l0 n ρ l used
 | [], used, _ => ⟨fun r e h => (by cases h), fun r z e e' q q' h => (by cases h)⟩
 | (r0, e0) :: l, used, h => by
   by_cases he0 : e0 = .gone
   · subst he0
     have h : injOk k l0 n ρ l used = true := h
     obtain ⟨h1, h2⟩ := injOk_at h
     refine ⟨fun r e hl he => ?_, fun r z e e' q q' hl hl' he he' hne => ?_⟩
     · simp only [zBT] at hl
       cases hb : Nat.beq r0 r <;> rw [hb] at hl
       · exact h1 r e hl he
       · exact absurd (Option.some.inj hl).symm he
     · simp only [zBT] at hl hl'
       cases hb : Nat.beq r0 r <;> rw [hb] at hl
       · cases hb' : Nat.beq r0 z <;> rw [hb'] at hl'
         · exact h2 r z e e' q q' hl hl' he he' hne
         · exact absurd (Option.some.inj hl').symm he'
       · exact absurd (Option.some.inj hl).symm he
   · have h : (match zCP ρ r0 with
       | some q => (Nat.blt r0 k && Nat.beq q r0 || Nat.ble k r0 && Nat.ble k q) && !(used.any (Nat.beq q)) && (match zBT l0 q with | some _ => true | none => Nat.ble n q) && injOk k l0 n ρ l (q :: used)
       | none => Nat.ble k r0 && injOk k l0 n ρ l used) = true := by
       cases e0 <;> first | (exact absurd rfl he0; done) | (simp only [injOk] at h; exact h)
     cases hg0 : zCP ρ r0 with
     | none =>
       rw [hg0] at h
       dsimp only at h
       rw [Bool.and_eq_true] at h
       obtain ⟨h1, h2⟩ := injOk_at h.2
       refine ⟨fun r e hl he => ?_, fun r z e e' q q' hl hl' he he' hne g g' => ?_⟩
       · simp only [zBT] at hl
         cases hb : Nat.beq r0 r <;> rw [hb] at hl
         · exact h1 r e hl he
         · rw [Nat.beq_eq] at hb; subst hb
           exact ⟨fun q hq => (by rw [hg0] at hq; cases hq), fun _ => Nat.le_of_ble_eq_true h.1⟩
       · simp only [zBT] at hl hl'
         cases hb : Nat.beq r0 r <;> rw [hb] at hl
         · cases hb' : Nat.beq r0 z <;> rw [hb'] at hl'
           · exact h2 r z e e' q q' hl hl' he he' hne g g'
           · rw [Nat.beq_eq] at hb'; subst hb'; rw [hg0] at g'; cases g'
         · rw [Nat.beq_eq] at hb; subst hb; rw [hg0] at g; cases g
     | some q0 =>
       rw [hg0] at h
       simp only [Bool.and_eq_true, Bool.or_eq_true, Nat.beq_eq] at h
       obtain ⟨⟨⟨ha, hu⟩, hl0⟩, hi⟩ := h
       obtain ⟨h1, h2⟩ := injOk_at hi
       refine ⟨fun r e hl he => ?_, fun r z e e' q q' hl hl' he he' hne g g' => ?_⟩
       · simp only [zBT] at hl
         cases hb : Nat.beq r0 r <;> rw [hb] at hl
         · obtain ⟨g1, g2⟩ := h1 r e hl he
           refine ⟨fun q hq => ?_, g2⟩
           obtain ⟨g3, g4, g5⟩ := g1 q hq
           exact ⟨g3, fun hm => g4 (List.mem_cons_of_mem _ hm), g5⟩
         · rw [Nat.beq_eq] at hb; subst hb
           refine ⟨fun q hq => ?_, fun hq => by rw [hg0] at hq; cases hq⟩
           rw [hg0] at hq
           have := Option.some.inj hq; subst this
           refine ⟨?_, not_used hu, fun hn => ?_⟩
           · rcases ha with ⟨h3, h4⟩ | ⟨h3, h4⟩
             · exact .inl ⟨Nat.le_of_ble_eq_true h3, h4⟩
             · exact .inr ⟨Nat.le_of_ble_eq_true h3, Nat.le_of_ble_eq_true h4⟩
           · rw [hn] at hl0; exact Nat.le_of_ble_eq_true hl0
       · simp only [zBT] at hl hl'
         cases hb : Nat.beq r0 r <;> rw [hb] at hl
         · cases hb' : Nat.beq r0 z <;> rw [hb'] at hl'
           · exact h2 r z e e' q q' hl hl' he he' hne g g'
           · rw [Nat.beq_eq] at hb'; subst hb'
             rw [hg0] at g'
             have := Option.some.inj g'; subst this
             obtain ⟨g3, g4, g5⟩ := (h1 r e hl he).1 q g
             intro hqq; subst hqq; exact g4 (List.mem_cons_self ..)
         · rw [Nat.beq_eq] at hb; subst hb
           rw [hg0] at g
           have := Option.some.inj g; subst this
           cases hb' : Nat.beq r0 z <;> rw [hb'] at hl'
           · obtain ⟨g3, g4, g5⟩ := (h1 z e' hl' he').1 q' g'
             intro hqq; subst hqq; exact g4 (List.mem_cons_self ..)
           · rw [Nat.beq_eq] at hb'; exact absurd hb' hne
end
end Go.T
namespace Go.T
open Go.Ab
variable [Go.Ab.DM]
section
variable {ρ : List (Nat × Nat)} {isL : Nat → Bool} {rows rf : Rows} {env : List Ent}
theorem findE_s : ∀ {env : List Ent} {n : Nat} {e : Ent}, zAh env n = some e → e.s = n
 | [], n, e, h => by cases h
 | a :: l, n, e, h => by
   simp only [zAh] at h
   cases hb : Nat.beq a.s n with
   | true => rw [hb, cond_true] at h; have := Option.some.inj h; subst this; rw [Nat.beq_eq] at hb; exact hb
   | false => rw [hb] at h; exact findE_s h
theorem findE_app {a b : List Ent} {n : Nat} : zAh (a ++ b) n = match zAh a n with | some e => some e | none => zAh b n := by
 induction a with
 | nil => rfl
 | cons p a ih =>
   simp only [List.cons_append, zAh]
   cases Nat.beq p.s n <;> simp [ih]
theorem keepE_at : ∀ {l : List Nat} {n : Nat} {e : Ent}, zAh (keepE env l) n = some e → zAh env n = some e ∧ n ∈ l
 | [], n, e, h => by cases h
 | m :: l, n, e, h => by
   simp only [keepE] at h
   cases hf : zAh env m with
   | none => rw [hf] at h; obtain ⟨h1, h2⟩ := keepE_at h; exact ⟨h1, List.mem_cons_of_mem _ h2⟩
   | some e0 =>
     rw [hf] at h
     simp only [zAh] at h
     have hs := findE_s hf
     cases hb : Nat.beq e0.s n with
     | true =>
       rw [hb, cond_true] at h
       have := Option.some.inj h; subst this
       rw [Nat.beq_eq, hs] at hb
       subst hb
       exact ⟨hf, List.mem_cons_self ..⟩
     | false => rw [hb] at h; obtain ⟨h1, h2⟩ := keepE_at h; exact ⟨h1, List.mem_cons_of_mem _ h2⟩
theorem slotE_at {dl : Nat} : ∀ {l : List (Nat × Ty)} {vs us : List TV}, findVs env l = some vs → Packed ρ isL rf (l.map (·.2)) vs us → ∀ {n : Nat} {ent : Ent}, zAh (slotE dl l us) n = some ent →
   ∃ e t, ∃ y : t.I, zAh env n = some e ∧ e.c = [] ∧ packV ρ isL rf t e.v = some y ∧ ent = ⟨n, dl, [], ⟨t, y⟩⟩ ∧ t ∈ l.map (·.2)
 | [], _, _, _, _, n, ent, h => by cases h
 | (m, t) :: l, vs, us, hf, hp, n, ent, h => by
   simp only [findVs] at hf
   split at hf
   · rename_i e vs' h1 h2
     obtain ⟨hc, hx⟩ := zAW hf
     have := Option.some.inj hx; subst this
     cases hp with
     | cons h3 h4 =>
       simp only [slotE, zAh] at h
       cases hb : Nat.beq m n with
       | true =>
         rw [hb, cond_true] at h
         have := Option.some.inj h; subst this
         rw [Nat.beq_eq] at hb; subst hb
         exact ⟨e, t, _, h1, List.isEmpty_iff.1 hc, h3, rfl, by simp⟩
       | false =>
         rw [hb] at h
         obtain ⟨e', t', y', g1, g2, g3, g4, g5⟩ := slotE_at h2 h4 h
         exact ⟨e', t', y', g1, g2, g3, g4, by simp only [List.map_cons, List.mem_cons]; exact .inr g5⟩
   · cases hf
theorem newRows_at {dl : Nat} {m : List (Nat × TRow)} {base : Rows} : ∀ (n i r : Nat), (r < n → zAA (zBl dl m base i n) r = (match rowIn m (i + r) with | some row => row | none => match zAP base (i + r) with | some lv => zAA base (i + r) | none => .gone)) ∧
     (∀ lv, zAP (zBl dl m base i n) r = some lv → (lv = dl ∧ ∃ row, rowIn m (i + r) = some row) ∨ (lv = dl ∧ zAP base (i + r) = none) ∨ (rowIn m (i + r) = none ∧ zAP base (i + r) = some lv))
 | 0, i, r => ⟨fun h => absurd h (Nat.not_lt_zero _), fun lv h => by cases h⟩
 | n + 1, i, 0 => by
   refine ⟨fun _ => ?_, fun lv h => ?_⟩
   · simp only [zBl, zAA, Nat.add_zero]
     cases rowIn m i with
     | some row => rfl
     | none => cases zAP base i <;> rfl
   · simp only [zBl, zAP, Nat.add_zero] at h ⊢
     cases h1 : rowIn m i with
     | some row => rw [h1] at h; exact .inl ⟨(Option.some.inj h).symm, row, rfl⟩
     | none =>
       rw [h1] at h
       cases h2 : zAP base i with
       | some lv' => rw [h2] at h; exact .inr (.inr ⟨rfl, h⟩)
       | none => rw [h2] at h; exact .inr (.inl ⟨(Option.some.inj h).symm, rfl⟩)
 | n + 1, i, r + 1 => by
   obtain ⟨h1, h2⟩ := newRows_at (dl := dl) (m := m) (base := base) n (i + 1) r
   rw [show i + 1 + r = i + (r + 1) by omega] at h1 h2
   exact ⟨fun h => h1 (Nat.lt_of_succ_lt_succ h), h2⟩
theorem newRows_len {dl : Nat} {m : List (Nat × TRow)} {base : Rows} : ∀ (n i : Nat), (zBl dl m base i n).length = n
 | 0, i => rfl
 | n + 1, i => by simp [zBl, newRows_len n (i + 1)]
theorem fr_one' {d : Nat} {f : List Nat} {r : Nat} {t : Ty} {x : t.I} (h : zAA (zAi d f 0 rows) r = .one t x) : zAA rows r = .one t x := fr_one (zBe d f rows) h
end
section
variable {B : Base} {ζ ζ0 : Nat → Row} {num num0 : Nat → Nat} {s s0 : St} {e : Env} {H : Heap}
theorem unpack_sound {k d dl : Nat} {σ : Sig} {x : σ.I} (hk : B.k = k) (hd : d ≤ dl) (ha : Abs B ζ num s e H) (hle : Le (d + 1) ζ0 num0 s0 ζ num s) (h : pack k d σ s = some x) :
   ∃ ζ' num' H', WeakS e H (zCn num' (zAn dl σ x s0)) H' ∧ Abs B ζ' num' (zAn dl σ x s0) (zCn num' (zAn dl σ x s0)) H' ∧ Le dl ζ0 num0 s0 ζ' num' (zAn dl σ x s0) := by
 unfold pack at h
 split at h
 rotate_left
 · cases h
 rename_i vs hvs
 dsimp only at h
 obtain ⟨hb, h⟩ := zAW h
 simp only [Bool.and_eq_true] at hb
 obtain ⟨⟨⟨⟨⟨⟨⟨⟨⟨hkeep, hrows⟩, hinj⟩, hbelow⟩, hkb⟩, hsb⟩, hrb⟩, hkr⟩, hkn⟩, hrho⟩ := hb
 split at h
 rotate_left
 · cases h
 rename_i la lb hla hlb
 have hx := packAll_leaves h
 obtain ⟨tail, htail⟩ := uniRows_app (rows := s.rows) σ.rows (uniKeep s.env σ.keep ++ uniKeepR σ.rows s.rows σ.n ++ uniL (σ.slots.map (·.2)) vs)
 have hself : ∀ z, ((∃ p ∈ uniKeep s.env σ.keep, p.1 = z) ∨ ∃ p ∈ uniKeepR σ.rows s.rows σ.n, p.1 = z) → zCP (uniRows s.rows (uniKeep s.env σ.keep ++ uniKeepR σ.rows s.rows σ.n ++ uniL (σ.slots.map (·.2)) vs) σ.rows) z = some z := fun z hz => by
   rw [htail, List.append_assoc]
   refine getN_id (fun p hp => ?_) ?_
   · rcases List.mem_append.1 hp with hp | hp
     · exact (uniKeep_id _ _).1 p hp
     · exact (uniKeepR_id _ _ _).1 p hp
   · rcases hz with ⟨p, hp, hpz⟩ | ⟨p, hp, hpz⟩
     · exact ⟨p, List.mem_append_left _ hp, hpz⟩
     · exact ⟨p, List.mem_append_right _ hp, hpz⟩
 generalize hρ : uniRows s.rows (uniKeep s.env σ.keep ++ uniKeepR σ.rows s.rows σ.n ++ uniL (σ.slots.map (·.2)) vs) σ.rows = ρ at *
 generalize hfz : fzL (σ.slots.map (·.2)) vs ++ fzRows s.rows ρ σ.rows = fz at *
 obtain ⟨ha1, hw1⟩ := fr_abs ha (zBe (d + 1) fz s.rows)
 have hle1 := hle.trans (fr_Le (ζ := ζ) (num := num) (s := s) (d + 1) fz)
 have hone : ∀ r t x, zAA (zAi (d + 1) fz 0 s.rows) r = .one t x → zAA s.rows r = .one t x := fun r t x h => fr_one' h
 have hst : ∀ r lv, zAP (zAi (d + 1) fz 0 s.rows) r = some lv → lv ≤ d → zAA (zAi (d + 1) fz 0 s.rows) r = zAA s.rows r := fun r lv h1 h2 => by
   rcases stampAt_freeze (d + 1) fz s.rows 0 r lv h1 with h3 | h3
   · omega
   · exact h3.2
 generalize zAi (d + 1) fz 0 s.rows = rf at *
 obtain ⟨us, hus, hun⟩ := packVals_un hla
 obtain ⟨m, hm, hum⟩ := packRows_un hlb
 have hu : zAn dl σ x s0 = ⟨slotE dl σ.slots us ++ keepE s0.env σ.keep, zBl dl m s0.rows 0 σ.n, []⟩ := by
   unfold zAn
   rw [hx, hun lb]
   dsimp only
   rw [hum]
 have hkept : ∀ r, r < σ.n → zBT σ.rows r = none → ∃ lv, zAP rf r = some lv ∧ lv ≤ d ∧ zAP s0.rows r = some lv ∧ zAA rf r = zAA s0.rows r ∧ num r = num0 r ∧ ζ r = ζ0 r ∧ zAA rf r = zAA s.rows r := fun r hr hl => by
   obtain ⟨lv, h1, h2⟩ := rowsOk_at hrows r hr hl
   obtain ⟨h3, h4, h5, h6⟩ := hle1.rows r lv h1 (by omega)
   exact ⟨lv, h1, h2, h3, h4, h5, h6, hst r lv h1 h2⟩
 have hia := injOk_at hinj
 have hsrc : ∀ r, zBT σ.rows r = none → src ρ r = r := fun r hl => by
   unfold src
   cases hg : zCP ρ r with
   | none => rfl
   | some q => exact rhoOk_at hrho hg hl
 rw [hu]
 have hlook := hm.look
 have hlt : ∀ r e, zBT σ.rows r = some e → r < σ.n := fun r e h => below_at hbelow r e (lookR_mem h)
 have hat : ∀ r, r < σ.n → zAA (zBl dl m s0.rows 0 σ.n) r = (match rowIn m r with | some row => row | none => zAA rf r) := fun r hr => by
   have h1 := (newRows_at (dl := dl) (m := m) (base := s0.rows) σ.n 0 r).1 hr
   rw [Nat.zero_add] at h1
   rw [h1]
   have h2 := hlook r
   cases hl : zBT σ.rows r with
   | some e => rw [hl] at h2; obtain ⟨row, h3, _⟩ := h2; rw [h3]
   | none =>
     rw [hl] at h2
     obtain ⟨lv, g1, g2, g3, g4, _⟩ := hkept r hr hl
     rw [h2, g3, g4]
 have hge : ∀ r, σ.n ≤ r → zAA (zBl dl m s0.rows 0 σ.n) r = .gone := fun r hr => rowAt_ge _ _ (by rw [newRows_len]; exact hr)
 have hlen := newRows_len (dl := dl) (m := m) (base := s0.rows) σ.n 0
 have hstamp := fun r => (newRows_at (dl := dl) (m := m) (base := s0.rows) σ.n 0 r).2
 generalize zBl dl m s0.rows 0 σ.n = rows' at *
 have hT : ∀ r, Tgt ρ (isLst σ.rows) rf rows' r (zAA rows' r) := fun r => by
   by_cases hr : r < σ.n
   · rw [hat r hr]
     have h2 := hlook r
     cases hl : zBT σ.rows r with
     | some e => rw [hl] at h2; obtain ⟨row, h3, h4⟩ := h2; rw [h3]; exact .pk h4
     | none =>
       rw [hl] at h2
       rw [h2]
       obtain ⟨lv, g1, g2, g3, g4, g5, g6, g7⟩ := hkept r hr hl
       refine .keep (hsrc r hl) (fun t x hrow z hz => hself z (.inr ((uniKeepR_id _ _ _).2 r hr hl t x (hone r t x hrow) z hz))) fun mm hmm => ?_
       have hmem : mm ∈ rowRefs (zAA s.rows r) := by rw [← g7]; rcases hmm with h | ⟨_, _, _, _, h⟩ <;> rw [h] <;> simp [rowRefs]
       obtain ⟨k1, k2⟩ := keptBelow_at hkr r hr hl mm hmem
       have hlm : zBT σ.rows mm = none := by
         rcases k2 with ⟨t, x, k2⟩ | k2
         · rw [← g7] at k2; rcases hmm with h | ⟨_, _, _, _, h⟩ <;> rw [h] at k2 <;> cases k2
         · exact k2
       have h3 := hlook mm
       rw [hlm] at h3
       exact ⟨hsrc mm hlm, by rw [hat mm k1, h3]⟩
   · rw [hge r (by omega)]; exact .gone
 have hnul : ∀ r, zCP ρ r = none → isLst σ.rows r = true → ∃ t, zAA rows' r = .lst t [] := fun r hg hl => by
   unfold isLst at hl
   have h2 := hlook r
   cases hlr : zBT σ.rows r with
   | none => rw [hlr] at hl; cases hl
   | some e =>
     rw [hlr] at hl h2
     cases e <;> first | (cases hl; done) | skip
     obtain ⟨row, h3, h4⟩ := h2
     rw [hat r (hlt r _ hlr), h3]
     cases h4 with
     | lst h5 _ => rw [hg] at h5; cases h5
     | nil => exact ⟨_, rfl⟩
 have hcls : ∀ r, zAQ (zAA rows' r) = true → r < σ.n ∧ ((zBT σ.rows r = none) ∨ ∃ e q, zBT σ.rows r = some e ∧ e ≠ .gone ∧ zCP ρ r = some q) := fun r hl => by
   have hr : r < σ.n := by
     rcases Nat.lt_or_ge r σ.n with h | h
     · exact h
     · rw [hge r h] at hl; simp [zAQ] at hl
   refine ⟨hr, ?_⟩
   have h2 := hlook r
   cases hlr : zBT σ.rows r with
   | none => exact .inl rfl
   | some e =>
     rw [hlr] at h2
     obtain ⟨row, h3, h4⟩ := h2
     rw [hat r hr, h3] at hl
     refine .inr ⟨e, ?_⟩
     cases h4 with
     | gone => simp [zAQ] at hl
     | nil => simp [zAQ] at hl
     | one h5 => exact ⟨_, rfl, by simp, h5⟩
     | many h5 => exact ⟨_, rfl, by simp, h5⟩
     | lst h5 => exact ⟨_, rfl, by simp, h5⟩
     | fro h5 => exact ⟨_, rfl, by simp, h5⟩
     | fr1 h5 => exact ⟨_, rfl, by simp, h5⟩
     | mp h5 => exact ⟨_, rfl, by simp, h5⟩
     | sit h5 => exact ⟨_, rfl, by simp, h5⟩
 have hinj' : ∀ r z, zAQ (zAA rows' r) = true → zAQ (zAA rows' z) = true → r ≠ z → src ρ r ≠ src ρ z := fun r z h1 h2 hne => by
   obtain ⟨hr, h3⟩ := hcls r h1
   obtain ⟨hz, h4⟩ := hcls z h2
   rcases h3 with h3 | ⟨e1, q1, h3, h3g, h3q⟩ <;> rcases h4 with h4 | ⟨e2, q2, h4, h4g, h4q⟩
   · rw [hsrc r h3, hsrc z h4]; exact hne
   · rw [hsrc r h3, zAX h4q]
     intro hq
     have := ((hia.one z e2 h4 h4g).1 q2 h4q).2.2 (hq ▸ h3)
     omega
   · rw [hsrc z h4, zAX h3q]
     intro hq
     have := ((hia.one r e1 h3 h3g).1 q1 h3q).2.2 (hq ▸ h4)
     omega
   · rw [zAX h3q, zAX h4q]; exact hia.two r z e1 e2 q1 q2 h3 h4 h3g h4g hne h3q h4q
 have hrefs : ∀ r t y, zAA rows' r = .one t y → ∀ z ∈ t.refs, z < rows'.length := fun r t y hrow z hz => by
   rw [hlen]
   have hr : r < σ.n := by
     rcases Nat.lt_or_ge r σ.n with h | h
     · exact h
     · rw [hge r h] at hrow; cases hrow
   have h2 := hlook r
   rw [hat r hr] at hrow
   cases hlr : zBT σ.rows r with
   | none =>
     rw [hlr] at h2
     rw [h2] at hrow
     obtain ⟨lv, g1, g2, g3, g4, g5, g6, g7⟩ := hkept r hr hlr
     exact (keptBelow_at hkr r hr hlr z (by rw [hone r t y hrow]; exact hz)).1
   | some e =>
     rw [hlr] at h2
     obtain ⟨row, h3, h4⟩ := h2
     rw [h3] at hrow
     dsimp only at hrow
     subst hrow
     cases h4
     exact rowsBelow_at hrb r _ (lookR_mem hlr) z hz
 have hp := tgt_prel (num := num) hT hnul
 have hR := tgt_hrel ha1.hrel hT hnul hrefs hinj'
 have hent : ∀ n ent, zAh (slotE dl σ.slots us ++ keepE s0.env σ.keep) n = some ent → ent.c = [] ∧ okV rows' ent.v ∧ (ent.lv < dl → zAh s0.env n = some ent) ∧ ∃ e0, zAh s.env n = some e0 ∧ e0.c = [] ∧ Tl (enc (zAB num rf) e0.v) (enc (zAB (fun r => num (src ρ r)) rows') ent.v) := fun n ent hf => by
   rw [findE_app] at hf
   cases hs : zAh (slotE dl σ.slots us) n with
   | some e1 =>
     rw [hs] at hf
     have := Option.some.inj hf; subst this
     obtain ⟨e0, t, y, g1, g2, g3, g4, g5⟩ := slotE_at hvs hus hs
     subst g4
     have hok := ha1.ok n e0 g1 (by rw [g2]; rfl)
     have ht := packV_told hp t e0.v y hok g3
     refine ⟨rfl, ht.ok fun z hz => by rw [hlen]; exact slotsBelow_at hsb t g5 z hz, fun hlv => absurd hlv (Nat.lt_irrefl _), e0, g1, g2, ht.one⟩
   | none =>
     rw [hs] at hf
     obtain ⟨g1, g2⟩ := keepE_at hf
     obtain ⟨e0, g3, g4, g5⟩ := keepOk_at hkeep n g2
     have g6 := hle.env n e0 g3 (by omega)
     rw [g1] at g6
     have := Option.some.inj g6; subst this
     have hz : ∀ z ∈ ent.v.t.refs, zCP ρ z = some z := fun z hz => hself z (.inl ((uniKeep_id _ _).2 n g2 ent g3 z hz))
     have hok := ha1.ok n ent g3 (by rw [g5]; rfl)
     have hs := enc_self hp ent.v.t ent.v.x hz hok
     exact ⟨g5, hs.2 fun z hz' => by rw [hlen]; exact keepBelow_at hkb n g2 ent g3 z hz', fun _ => g1, ent, g3, g5, hs.1.1⟩
 refine ⟨fun r => ζ (src ρ r), fun r => num (src ρ r), _, hw1.trans (WeakS.env fun i => ?_), ⟨rfl, hR, fun n ent hf _ => (hent n ent hf).2.1, fun n b h => (by cases h), fun r hl => ?_, ha1.hlen, ?_, fun r hr hi => ?_⟩, ⟨fun n ent hf hlv => (hent n ent hf).2.2.1 hlv, fun r lv h1 h2 => ?_⟩⟩
 · unfold zCn
   dsimp only
   cases hf : zAh (slotE dl σ.slots us ++ keepE s0.env σ.keep) i with
   | none => exact Tl.any _
   | some ent =>
     obtain ⟨g1, g2, g3, e0, g4, g5, g6⟩ := hent i ent hf
     rw [g4]
     have hh : ∀ gs : List (Nat × Bool), zAz gs [] = true := fun gs => rfl
     simp only [entD, g1, g5, hh, if_true]
     exact g6
 · obtain ⟨h1, h2⟩ := hcls r hl
   have hb := ha1.base (src ρ r) (tgt_live (hT r) hl)
   rcases h2 with h2 | ⟨e1, q1, h2, h2g, h2q⟩
   · rw [hsrc r h2] at hb ⊢; exact hb
   · have h3 := ((hia.one r e1 h2 h2g).1 q1 h2q).1
     rw [zAX h2q] at hb ⊢
     rcases h3 with ⟨h3, h4⟩ | ⟨h3, h4⟩
     · subst h4; exact hb
     · exact ⟨fun h => by omega, fun _ => hb.2 (by omega)⟩
 · show B.k ≤ rows'.length
   rw [hlen, hk]; exact Nat.le_of_ble_eq_true hkn
 · have hr' : r < σ.n := Nat.lt_of_lt_of_le hr (by rw [hk]; exact Nat.le_of_ble_eq_true hkn)
   have h2 := hlook r
   cases hlr : zBT σ.rows r with
   | none =>
     rw [hlr] at h2
     exact tgt_lens (B := B) hT ha1.lens hr (hsrc r hlr) (.inr (.inl (by rw [hat r hr', h2]))) hi
   | some e =>
     by_cases hg : e = .gone
     · subst hg
       rw [hlr] at h2
       obtain ⟨row, h3, h4⟩ := h2
       cases h4
       have hi : zAO (zAA rows' r) = true := hi
       rw [hat r hr', h3] at hi; simp [zAO] at hi
     · cases hq : zCP ρ r with
       | none => have := (hia.one r e hlr hg).2 hq; omega
       | some q =>
         have h3 := ((hia.one r e hlr hg).1 q hq).1
         have hqr : q = r := by rcases h3 with ⟨_, h4⟩ | ⟨h4, _⟩; exact h4; omega
         subst hqr
         exact tgt_lens (B := B) hT ha1.lens hr (zAX hq) (.inl hq) hi
 · have h1 : zAP rows' r = some lv := h1
   have h3 := hstamp r lv h1
   rw [Nat.zero_add] at h3
   rcases h3 with ⟨h3, _⟩ | ⟨h3, _⟩ | ⟨h3, h4⟩
   · omega
   · omega
   · have h2' := hlook r
     have hr : r < σ.n := by
       rcases Nat.lt_or_ge r σ.n with h | h
       · exact h
       · rw [stampAt_ge _ _ (by rw [hlen]; exact h)] at h1; cases h1
     cases hlr : zBT σ.rows r with
     | some e => rw [hlr] at h2'; obtain ⟨row, h5, _⟩ := h2'; rw [h3] at h5; cases h5
     | none =>
       obtain ⟨lv', g1, g2, g3, g4, g5, g6, g7⟩ := hkept r hr hlr
       refine ⟨h4, ?_, ?_, ?_⟩
       · show zAA rows' r = _
         rw [hat r hr, h3]; exact g4
       · show num (src ρ r) = _
         rw [hsrc r hlr]; exact g5
       · show ζ (src ρ r) = _
         rw [hsrc r hlr]; exact g6
end
end Go.T
namespace Go.T
open Go.Ab
variable [Go.Ab.DM]
def zAc (c : Con) (x : (zAT c.inT).I) : List TV := (zBt c.as (zAI (zAT c.inT) x)).1
def zBE (c : Con) (x : (zAT c.inT).I) : Rows := zAm (zBa (numb 0 c.ins) (zBt c.as (zAI (zAT c.inT) x)).2)
def zAt (c : Con) (y : (zAT c.outT).I) : TV := match (zBt [c.res] (zAI (zAT c.outT) y)).1 with | [v] => v | _ => ⟨.any, ()⟩
def zAJ (c : Con) (y : (zAT c.outT).I) : Rows := zAm (zBa (numb 0 c.outs) (zBt [c.res] (zAI (zAT c.outT) y)).2)
def zAu (P : Program) (c : Con) : Prop := ∀ x, (∃ y, c.Q x y) → ∀ (ζ : Nat → Row) (num : Nat → Nat) (H : Heap), HRel ζ num (zBE c x) H → (∀ v ∈ zAc c x, okV (zBE c x) v) →
 Sound P c.f ((zAc c x).map (enc (zAB num (zBE c x)))) H fun dd H' => ∃ y, c.Q x y ∧ ∃ ζ' num', HRel ζ' num' (zAJ c y) H' ∧ dd = enc (zAB num' (zAJ c y)) (zAt c y) ∧ okV (zAJ c y) (zAt c y) ∧
   (∀ r, zAQ (zAA (zAJ c y) r) = true → (r < c.ins.length → num' r = num r) ∧ (c.ins.length ≤ r → H.length ≤ num' r)) ∧ ∀ r, r < c.ins.length → zAO (zAA (zAJ c y) r) = true → zCT (zAA (zAJ c y) r) = zCT (zAA (zBE c x) r)
section
variable {ζ ζ' : Nat → Row} {num num' : Nat → Nat} {rows rows' rf : Rows} {H H' : Heap}
theorem rowAt_stRows : ∀ (l : List (Nat × TRow)) (i : Nat), zAA (zAm l) i = match l[i]? with | some p => p.2 | none => .gone
 | [], i => by simp [zAm, zAA]
 | (_, row) :: l, 0 => rfl
 | (_, row) :: l, i + 1 => by simp only [zAm, zAA, List.getElem?_cons_succ]; exact rowAt_stRows l i
theorem len_stRows : ∀ (l : List (Nat × TRow)), (zAm l).length = l.length
 | [] => rfl
 | (_, row) :: l => by simp [zAm, len_stRows l]
theorem numb_len {α : Type} : ∀ (l : List α) (n : Nat), (numb n l).length = l.length
 | [], n => rfl
 | _ :: l, n => by simp [numb, numb_len l (n + 1)]
theorem PkRows.len {ρ : List (Nat × Nat)} {isL : Nat → Bool} {l : List (Nat × RTy)} {m : List (Nat × TRow)} (h : PkRows ρ isL rows l m) : m.length = l.length := by
 induction h with
 | nil => rfl
 | cons _ _ ih => simp [ih]
theorem PkRows.at {ρ : List (Nat × Nat)} {isL : Nat → Bool} : ∀ {l : List RTy} {n : Nat} {m : List (Nat × TRow)}, PkRows ρ isL rows (numb n l) m → ∀ i, (match l[i]? with | some e => ∃ row, zAA (zAm m) i = row ∧ m[i]? = some (n + i, row) ∧ PkRow ρ isL rows (n + i) e row | none => zAA (zAm m) i = .gone)
 | [], n, m, h, i => by cases h; rfl
 | e :: l, n, m, h, 0 => by cases h with | cons h1 h2 => exact ⟨_, rfl, rfl, h1⟩
 | e :: l, n, m, h, i + 1 => by
   cases h with
   | cons h1 h2 =>
     have ih := PkRows.at h2 i
     simp only [List.getElem?_cons_succ, zAm, zAA]
     rw [show n + (i + 1) = n + 1 + i by omega]
     exact ih
theorem hrel_get (hr : HRel ζ num rows H) (h : ∀ r, zAQ (zAA rows r) = true → H'.get (num r) = H.get (num r)) : HRel ζ num rows H' :=
 ⟨fun r => row_keep (hr.row r) (fun t x => hr.ok r t x) rfl rfl rfl (h r) (fun m a b l hm _ => ⟨hm, rfl, h m (by rw [hm]; rfl)⟩) fun _ _ => RefTl.refl _ _, hr.inj, hr.ok⟩
def zBo : TRow → Nat
 | .one _ _ => 0 | .many _ _ => 1 | .lst _ _ => 2 | .mp _ _ _ => 3 | .sit _ _ => 4 | .fro _ _ => 5 | .fr1 _ _ => 6 | .itb _ => 7 | .ite _ _ _ _ _ => 8 | .gone => 9
theorem kind_ref {n : Nat} {a b : TRow} (h : zBo b = zBo a) (hk : zBo a < 5) (hl : zAO b = true → zCT b = zCT a) : RefTl n a n b := by
 cases a <;> cases b <;> simp [zBo] at h hk <;> first | exact ref_one _ | exact ref_many _ (hl rfl) | exact ref_lst _ (hl rfl) | exact ref_mp _ | exact ⟨Tl.refl _, fun _ => Tl.refl _, fun _ => Tl.refl _, fun _ _ => Tl.refl _, Tl.refl _⟩
theorem kind_live {a b : TRow} (h : zBo b = zBo a) (hl : zAO b = true → zCT b = zCT a) (hb : zAQ b = true) : zAQ a = true := by
 cases a <;> cases b <;> simp [zBo] at h <;> first | rfl | (simp [zAQ] at hb; done) | skip
 rename_i t l t' l'
 have := hl rfl
 simp only [zCT] at this
 simp only [zAQ] at hb ⊢
 cases l <;> cases l' <;> simp at this hb ⊢
theorem kind_list {a b : TRow} (h : zBo b = zBo a) (hb : zAO b = true) : zAO a = true := by
 cases a <;> cases b <;> simp [zBo] at h <;> first | rfl | (simp [zAO] at hb; done)
theorem rowOf_kind (e : RTy) (v : TV) : rowOf e v = .gone ∨ (match e with | .one _ => zBo (rowOf e v) = 0 | .many _ => zBo (rowOf e v) = 1 | .lst _ => zBo (rowOf e v) = 2 | .mp _ _ => zBo (rowOf e v) = 3 | .sit => zBo (rowOf e v) = 4 | .fro _ => zBo (rowOf e v) = 5 | .fr1 _ => zBo (rowOf e v) = 6 | .gone => False) := by
 unfold rowOf
 split <;> first | exact .inr rfl | exact .inl rfl
theorem ren_row_kind (τ : Nat → Nat) (row : TRow) : zBo (renRow τ row) = zBo row ∧ zAO (renRow τ row) = zAO row ∧ zCT (renRow τ row) = zCT row ∧ zAQ (renRow τ row) = zAQ row := by
 cases row <;> exact ⟨rfl, rfl, rfl, rfl⟩
structure SameRef (n : Nat) (row : TRow) (n' : Nat) (row' : TRow) : Prop where
 own : ownD n' row' = ownD n row
 sub : ∀ q, subD n' q row' = subD n q row
 p0 : ∀ o, p0D n' o row' = p0D n o row
 pt : ∀ o i, (zAO row = true → Nat.lt i (zCT row)) → ptD n' o i row' = ptD n o i row
 mp : mpD n' row' = mpD n row
theorem ren_same (τ : Nat → Nat) {n n' : Nat} (row : TRow) (h : zAQ row = true → n' = n) : SameRef n row n' (renRow τ row) := by
 cases row with
 | one t x => have := h rfl; subst this; exact ⟨rfl, fun _ => rfl, fun _ => rfl, fun _ _ _ => rfl, rfl⟩
 | many t l => have := h rfl; subst this; exact ⟨rfl, fun _ => rfl, fun _ => rfl, fun _ _ _ => rfl, rfl⟩
 | lst t l => cases l with
   | nil => exact ⟨rfl, fun _ => rfl, fun _ => rfl, fun _ i hi => absurd (hi rfl) (Nat.not_lt_zero i), rfl⟩
   | cons y l => have := h rfl; subst this; exact ⟨rfl, fun _ => rfl, fun _ => rfl, fun _ _ _ => rfl, rfl⟩
 | mp k v l => have := h rfl; subst this; exact ⟨rfl, fun _ => rfl, fun _ => rfl, fun _ _ _ => rfl, rfl⟩
 | itb m => have := h rfl; subst this; exact ⟨rfl, fun _ => rfl, fun _ => rfl, fun _ _ _ => rfl, rfl⟩
 | ite m k v x y => have := h rfl; subst this; exact ⟨rfl, fun _ => rfl, fun _ => rfl, fun _ _ _ => rfl, rfl⟩
 | sit b p => have := h rfl; subst this; exact ⟨rfl, fun _ => rfl, fun _ => rfl, fun _ _ _ => rfl, rfl⟩
 | _ => exact ⟨rfl, fun _ => rfl, fun _ => rfl, fun _ _ _ => rfl, rfl⟩
structure RenOk (num : Nat → Nat) (rows : Rows) (num' : Nat → Nat) (rows' : Rows) (v : TV) (t : Ty) (x : t.I) : Prop where
 one : enc (zAB num' rows') v = (E t (zAB num rows) x).1
 all : encs (zAB num' rows') v = (E t (zAB num rows) x).2
 ok : okV rows' v
theorem ren_pure {t : Ty} (h : t.pure = true) (x : t.I) : RenOk num rows num' rows' ⟨t, x⟩ t x :=
 ⟨congrArg Prod.fst (E_pure t h _ _ x), congrArg Prod.snd (E_pure t h _ _ x), zCc t x h⟩
theorem ren_leaf {v : TV} {t : Ty} {x : t.I} (hv : v.t.sp = false) (ht : t.sp = false) (h : enc (zAB num' rows') v = (E t (zAB num rows) x).1) (hok : okV rows' v) : RenOk num rows num' rows' v t x :=
 ⟨h, by unfold encs; rw [E_one hv, E_one ht]; exact congrArg (fun d => [d]) h, hok⟩
theorem renV_pr (τ : Nat → Nat) (a b : Ty) (x : (Ty.pr a b).I) : renV τ (.pr a b) x = ⟨.pr (renV τ a x.1).t (renV τ b x.2).t, ((renV τ a x.1).x, (renV τ b x.2).x)⟩ := rfl
theorem renV_agg (τ : Nat → Nat) (s : Ty) (x : (Ty.agg s).I) : renV τ (.agg s) x = bif s.pure then ⟨.agg s, x⟩ else ⟨.agg (renV τ s x).t, (renV τ s x).x⟩ := rfl
theorem renV_tup (τ : Nat → Nat) (s : Ty) (x : (Ty.tup s).I) : renV τ (.tup s) x = bif s.pure then ⟨.tup s, x⟩ else ⟨.tup (renV τ s x).t, (renV τ s x).x⟩ := rfl
theorem ren_ok (τ : Nat → Nat) (h : ∀ r, r < rows.length → SameRef (num r) (zAA rows r) (num' (τ r)) (zAA rows' (τ r))) (hlen : ∀ r, r < rows.length → τ r < rows'.length) (hlens : ∀ r, r < rows.length → zAO (zAA rows' (τ r)) = true → zAO (zAA rows r) = true ∧ zCT (zAA rows' (τ r)) = zCT (zAA rows r)) :
   ∀ (t : Ty) (x : t.I), okT rows t x → RenOk num rows num' rows' (renV τ t x) t x := by
 intro t
 induction t with
 | pr a b iha ihb =>
   intro x hx
   rw [renV_pr]
   have ga := iha x.1 hx.1
   have gb := ihb x.2 hx.2
   exact ⟨rfl, by show enc _ (renV τ a x.1) :: encs _ (renV τ b x.2) = _; rw [ga.one, gb.all]; rfl, ⟨ga.ok, gb.ok⟩⟩
 | unit => intro x hx; exact ⟨rfl, rfl, trivial⟩
 | agg s ih =>
   intro x hx
   rw [renV_agg]
   cases hp : s.pure with
   | true => exact ren_pure (t := .agg s) hp x
   | false =>
     have g := ih x hx
     exact ren_leaf rfl rfl (congrArg D.agg g.all) g.ok
 | tup s ih =>
   intro x hx
   rw [renV_tup]
   cases hp : s.pure with
   | true => exact ren_pure (t := .tup s) hp x
   | false =>
     have g := ih x hx
     exact ren_leaf rfl rfl (congrArg D.tup g.all) g.ok
 | fn f a c iha ihc =>
   intro x hx
   have ga := iha x.1 hx.1
   have gc := ihc x.2 hx.2
   refine ren_leaf rfl rfl ?_ ⟨ga.ok, gc.ok⟩
   show D.fn (.func f) (encs _ (renV τ a x.1)) (encs _ (renV τ c x.2)) = _
   rw [ga.all, gc.all]; rfl
 | ifc id t ih =>
   intro x hx
   have g := ih x hx
   exact ren_leaf rfl rfl (congrArg (D.ifc id) g.one) g.ok
 | own r => intro x hx; exact ren_leaf rfl rfl (h r hx).own (hlen r hx)
 | sub r =>
   intro x hx
   exact ren_leaf rfl rfl ((h r hx.1).sub x) ⟨hlen r hx.1, fun hl => by obtain ⟨h1, h2⟩ := hlens r hx.1 hl; rw [h2]; exact hx.2 h1⟩
 | p0 r o => intro x hx; exact ren_leaf rfl rfl ((h r hx).p0 o) (hlen r hx)
 | pt r o =>
   intro x hx
   exact ren_leaf rfl rfl ((h r hx.1).pt o x hx.2) ⟨hlen r hx.1, fun hl => by obtain ⟨h1, h2⟩ := hlens r hx.1 hl; rw [h2]; exact hx.2 h1⟩
 | mp r => intro x hx; exact ren_leaf rfl rfl (h r hx).mp (hlen r hx)
 | _ => intro x hx; exact ⟨rfl, rfl, trivial⟩
theorem ren_shape (τ : Nat → Nat) (t : Ty) (x : t.I) : zBi (renV τ t x).t = zBi t ∧ (t.lay = true → (renV τ t x).t.lay = true) := by
 have ones : ∀ (s : Ty) (y : s.I), s.ones = true → (renV τ s y).t.ones = true := by
   intro s
   induction s with
   | pr a b iha ihb =>
     intro y h
     simp only [Ty.ones, Bool.and_eq_true] at h
     rw [renV_pr]
     simp only [Ty.ones, Bool.and_eq_true]
     exact ⟨oneT a y.1 h.1, ihb y.2 h.2⟩
   | unit => intro y h; rfl
   | agg s ih => intro y h; simp [Ty.ones, Ty.one] at h
   | tup s ih => intro y h; simp [Ty.ones, Ty.one] at h
   | _ => intro y h; exact oneT _ y h
 cases t with
 | agg s =>
   rw [renV_agg]
   cases s.pure
   · exact ⟨rfl, fun h => ones s x h⟩
   · exact ⟨rfl, id⟩
 | pr a b => exact ⟨rfl, fun h => by simp [Ty.lay, Ty.one] at h⟩
 | tup s => rw [renV_tup]; cases s.pure <;> exact ⟨rfl, fun h => by simp [Ty.lay, Ty.one] at h⟩
 | _ => exact ⟨rfl, fun h => h⟩
where
 oneT (t : Ty) (x : t.I) (h : t.one = true) : (renV τ t x).t.one = true := by
   cases t with
   | pr a b => simp [Ty.one] at h
   | agg s => simp [Ty.one] at h
   | tup s => simp [Ty.one] at h
   | _ => exact h
end
end Go.T
namespace Go.T
open Go.Ab
variable [Go.Ab.DM]
theorem leaves_types : ∀ (ts : List Ty), (∀ t ∈ ts, t.sp = false) → ∀ y : (zAT ts).I, (zAI (zAT ts) y).map (·.t) = ts
 | [], _, y => rfl
 | [t], h, y => congrArg (List.map (·.t)) (leaves_one (h t (by simp)) y)
 | t :: u :: r, h, y => by
   show t :: (zAI (zAT (u :: r)) y.2).map (·.t) = _
   rw [leaves_types (u :: r) (fun v hv => h v (List.mem_cons_of_mem _ hv)) y.2]
theorem noTriv_cons (t : Ty) (l : List Ty) : zCe (t :: l) = if t.triv = true then zCe l else t :: zCe l := by
 unfold zCe
 cases h : t.triv <;> simp [h]
theorem unRows_full : ∀ (l : List (Nat × RTy)) (vs : List TV), vs.map (·.t) = zCe (l.map (·.2.dat)) → (zBa l vs).length = l.length
 | [], vs, _ => rfl
 | (r, e) :: l, vs, h => by
   rw [List.map_cons, noTriv_cons] at h
   simp only [zBa]
   cases ht : e.dat.triv with
   | true => rw [if_pos ht] at h; simp only [cond_true, List.length_cons, unRows_full l vs h]
   | false =>
     rw [if_neg (by rw [ht]; simp)] at h
     simp only [cond_false]
     cases vs with
     | nil => cases h
     | cons v vs =>
       simp only [List.map_cons, List.cons.injEq] at h
       simp only [List.length_cons, unRows_full l vs h.2]
theorem unRows_types : ∀ (l : List RTy) (n : Nat) (vs : List TV), vs.map (·.t) = zCe (l.map RTy.dat) → ∀ i p, (zBa (numb n l) vs)[i]? = some p → ∃ e v, l[i]? = some e ∧ p = (n + i, rowOf e v) ∧ v.t = e.dat
 | [], n, vs, _, i, p, h => by simp [numb, zBa] at h
 | e :: l, n, vs, hvs, i, p, h => by
   rw [List.map_cons, noTriv_cons] at hvs
   simp only [numb, zBa] at h
   have step : ∀ v vs', v.t = e.dat → vs'.map (·.t) = zCe (l.map RTy.dat) → ((n, rowOf e v) :: zBa (numb (n + 1) l) vs')[i]? = some p → ∃ e' v, (e :: l)[i]? = some e' ∧ p = (n + i, rowOf e' v) ∧ v.t = e'.dat := fun v vs' hv hvs' h => by
     cases i with
     | zero => exact ⟨e, v, rfl, (Option.some.inj h).symm, hv⟩
     | succ i =>
       obtain ⟨e', v', h1, h2, h3⟩ := unRows_types l (n + 1) vs' hvs' i p h
       exact ⟨e', v', h1, by rw [h2, show n + 1 + i = n + (i + 1) by omega], h3⟩
   cases ht : e.dat.triv with
   | true => rw [ht, cond_true] at h; rw [if_pos ht] at hvs; exact step _ _ rfl hvs h
   | false =>
     rw [ht, cond_false] at h
     rw [if_neg (by rw [ht]; simp)] at hvs
     cases vs with
     | nil => simp at h
     | cons v vs => simp only [List.map_cons, List.cons.injEq] at hvs; exact step v vs hvs.1 hvs.2 h
theorem out_types {c : Con} (h : (c.outT.all fun t => !t.sp) = true) (y : (zAT c.outT).I) : (zBt [c.res] (zAI (zAT c.outT) y)).2.map (·.t) = zCe (c.outs.map RTy.dat) ∧ ∃ v, (zBt [c.res] (zAI (zAT c.outT) y)).1 = [v] ∧ v.t = c.res := by
 have h1 := leaves_types c.outT (fun t ht => by rw [List.all_eq_true] at h; simpa using h t ht) y
 have h3 : c.outT = zCe (c.res :: c.outs.map RTy.dat) := rfl
 have h1 : (zAI (zAT c.outT) y).map (·.t) = zCe (c.res :: c.outs.map RTy.dat) := h1.trans h3
 rw [noTriv_cons] at h1
 simp only [zBt]
 cases ht : c.res.triv with
 | true => rw [if_pos ht] at h1; exact ⟨h1, _, rfl, rfl⟩
 | false =>
   rw [if_neg (by rw [ht]; simp)] at h1
   simp only [cond_false]
   generalize zAI (zAT c.outT) y = vs at *
   cases vs with
   | nil => cases h1
   | cons v vs => simp only [List.map_cons, List.cons.injEq] at h1; exact ⟨h1.2, v, rfl, h1.1⟩
theorem conOuts_len {c : Con} (h : (c.outT.all fun t => !t.sp) = true) (y : (zAT c.outT).I) : (zAJ c y).length = c.outs.length := by
 have h1 := leaves_types c.outT (fun t ht => by rw [List.all_eq_true] at h; simpa using h t ht) y
 unfold zAJ
 rw [len_stRows, unRows_full, numb_len]
 have h2 : (numb 0 c.outs).map (·.2.dat) = c.outs.map RTy.dat := by
   have : ∀ (l : List RTy) (n : Nat), (numb n l).map (·.2.dat) = l.map RTy.dat := by
     intro l
     induction l with
     | nil => intro n; rfl
     | cons e l ih => intro n; simp [numb, ih]
   exact this _ _
 rw [h2]
 have h3 : c.outT = zCe (c.res :: c.outs.map RTy.dat) := rfl
 have h1 : (zAI (zAT c.outT) y).map (·.t) = zCe (c.res :: c.outs.map RTy.dat) := h1.trans h3
 rw [noTriv_cons] at h1
 simp only [zBt]
 cases ht : c.res.triv with
 | true => rw [if_pos ht] at h1; exact h1
 | false =>
   rw [if_neg (by rw [ht]; simp)] at h1
   simp only [cond_false]
   generalize zAI (zAT c.outT) y = vs at *
   cases vs with
   | nil => cases h1
   | cons v vs => simp only [List.map_cons, List.cons.injEq] at h1; exact h1.2
section
variable {d k base : Nat} {τ : Nat → Nat} {ρ : List (Nat × Nat)}
theorem loc_lt {i : Nat} (h : i < k) : locR ρ k base i = (zCP ρ i).getD 0 := by
 unfold locR
 have : Nat.blt i k = true := Nat.ble_eq_true_of_le h
 rw [this]; rfl
theorem loc_ge {i : Nat} (h : k ≤ i) : locR ρ k base i = base + (i - k) := by
 unfold locR
 cases hb : Nat.blt i k with
 | true => have : i < k := Nat.le_of_ble_eq_true hb; omega
 | false => rfl
theorem loc_inj (hρ : ∀ i, i < k → ∃ q, zCP ρ i = some q ∧ q < base) (hinj : ∀ i j, i < k → j < k → i ≠ j → src ρ i ≠ src ρ j) {i j : Nat} (h : i ≠ j) : locR ρ k base i ≠ locR ρ k base j := by
 have hs : ∀ i, i < k → locR ρ k base i = src ρ i ∧ src ρ i < base := fun i hi => by
   obtain ⟨q, h1, h2⟩ := hρ i hi
   rw [loc_lt hi, h1, zAX h1]; exact ⟨rfl, h2⟩
 rcases Nat.lt_or_ge i k with hi | hi <;> rcases Nat.lt_or_ge j k with hj | hj
 · rw [(hs i hi).1, (hs j hj).1]; exact hinj i j hi hj h
 · rw [(hs i hi).1, loc_ge hj]; have := (hs i hi).2; omega
 · rw [(hs j hj).1, loc_ge hi]; have := (hs j hj).2; omega
 · rw [loc_ge hi, loc_ge hj]; omega
theorem back_at (hρ : ∀ i, i < k → ∃ q, zCP ρ i = some q ∧ q < base) (hinj : ∀ i j, i < k → j < k → i ≠ j → src ρ i ≠ src ρ j) :
   ∀ (m : List (Nat × TRow)) (n : Nat) (rows : Rows), (∀ i p, m[i]? = some p → p.1 = n + i) → rows.length = base + (n - k) →
     (zBZ d τ ρ k rows m).length = base + (n + m.length - k) ∧
     (∀ i p, m[i]? = some p → zAA (zBZ d τ ρ k rows m) (locR ρ k base (n + i)) = renRow τ p.2 ∧ zAP (zBZ d τ ρ k rows m) (locR ρ k base (n + i)) = some d) ∧
     ∀ r, (∀ i, i < m.length → locR ρ k base (n + i) ≠ r) → zAA (zBZ d τ ρ k rows m) r = zAA rows r ∧ zAP (zBZ d τ ρ k rows m) r = zAP rows r
 | [], n, rows, _, hl => ⟨by simpa [zBZ] using hl, fun i p h => by simp at h, fun r _ => ⟨rfl, rfl⟩⟩
 | p :: m, n, rows, hm, hl => by
   have hp : p.1 = n := by have := hm 0 p rfl; simpa using this
   have hm' : ∀ i q, m[i]? = some q → q.1 = n + 1 + i := fun i q h => by have := hm (i + 1) q h; omega
   obtain ⟨pi, prow⟩ := p
   dsimp only at hp; subst hp
   have one : ∃ rows1, zBZ d τ ρ k rows ((pi, prow) :: m) = zBZ d τ ρ k rows1 m ∧ rows1.length = base + (pi + 1 - k) ∧ zAA rows1 (locR ρ k base pi) = renRow τ prow ∧ zAP rows1 (locR ρ k base pi) = some d ∧ ∀ r, locR ρ k base pi ≠ r → zAA rows1 r = zAA rows r ∧ zAP rows1 r = zAP rows r := by
     rcases Nat.lt_or_ge pi k with h | h
     · obtain ⟨q, h1, h2⟩ := hρ pi h
       have hb : Nat.blt pi k = true := Nat.ble_eq_true_of_le h
       have hql : q < rows.length := by omega
       refine ⟨setRow rows q d (renRow τ prow), by simp only [zBZ, hb, cond_true, h1], by rw [zBp, hl]; omega, ?_, ?_, fun r hr => ?_⟩
       · rw [loc_lt h, h1]; exact rowAt_seteq hql
       · rw [loc_lt h, h1, zBX]; show (if q = q ∧ q < rows.length then some d else _) = _; rw [if_pos ⟨rfl, hql⟩]
       · rw [loc_lt h, h1] at hr
         have hr : q ≠ r := hr
         exact ⟨zCi (Ne.symm hr), by rw [zBX, if_neg (fun h => hr h.1.symm)]⟩
     · have hb : Nat.blt pi k = false := by
         cases hb : Nat.blt pi k with
         | false => rfl
         | true => have : pi < k := Nat.le_of_ble_eq_true hb; omega
       have hlen : locR ρ k base pi = rows.length := by rw [loc_ge h, hl]
       refine ⟨rows ++ [(d, renRow τ prow)], by simp only [zBZ, hb, cond_false], by simp [hl]; omega, ?_, ?_, fun r hr => ?_⟩
       · rw [hlen, zBQ]
       · rw [hlen, stampAt_app_len]
       · rw [hlen] at hr
         rcases Nat.lt_trichotomy r rows.length with h' | h' | h'
         · exact ⟨rowAt_app_lt _ _ _ h', stampAt_app_lt _ _ _ h'⟩
         · exact absurd h'.symm hr
         · exact ⟨by rw [rowAt_app_gt _ _ _ h', rowAt_ge _ _ (by omega)], by rw [stampAt_ge _ _ (by simp; omega), stampAt_ge _ _ (by omega)]⟩
   obtain ⟨rows1, e1, e2, e3, e4, e5⟩ := one
   obtain ⟨g1, g2, g3⟩ := back_at hρ hinj m (pi + 1) rows1 hm' e2
   rw [e1]
   have hne : ∀ i, locR ρ k base (pi + 1 + i) ≠ locR ρ k base pi := fun i => loc_inj hρ hinj (by omega)
   refine ⟨by rw [g1, List.length_cons]; congr 1; omega, fun i p h => ?_, fun r hr => ?_⟩
   · cases i with
     | zero =>
       have := Option.some.inj h; subst this
       obtain ⟨h1, h2⟩ := g3 (locR ρ k base pi) fun i _ => hne i
       exact ⟨by rw [show pi + 0 = pi from rfl, h1, e3], by rw [show pi + 0 = pi from rfl, h2, e4]⟩
     | succ i =>
       have := g2 i p h
       rw [show pi + (i + 1) = pi + 1 + i by omega]; exact this
   · obtain ⟨h1, h2⟩ := g3 r fun i hi => by rw [show pi + 1 + i = pi + (i + 1) by omega]; exact hr (i + 1) (by rw [List.length_cons]; omega)
     obtain ⟨h3, h4⟩ := e5 r (hr 0 (by rw [List.length_cons]; omega))
     exact ⟨h1.trans h3, h2.trans h4⟩
end
end Go.T
namespace Go.T
open Go.Ab
variable [Go.Ab.DM]
def kindE : RTy → Nat
 | .one _ => 0 | .many _ => 1 | .lst _ => 2 | .mp _ _ => 3 | .sit => 4 | .fro _ => 5 | .fr1 _ => 6 | .gone => 9
theorem okIO_kind {a b : RTy} (h : okIO a b = true) : kindE a < 5 ∧ (b = .gone ∨ kindE b = kindE a) := by
 cases a <;> cases b <;> simp [okIO] at h <;> simp [kindE]
theorem okIOs_at : ∀ {l m : List RTy}, okIOs l m = true → ∀ (i : Nat) (e : RTy), l[i]? = some e → ∃ e', m[i]? = some e' ∧ okIO e e' = true
 | [], m, _, i, e, h => by simp at h
 | a :: l, [], h, _, _, _ => by cases h
 | a :: l, b :: m, h, i, e, hi => by
   simp only [okIOs, Bool.and_eq_true] at h
   cases i with
   | zero => have := Option.some.inj hi; subst this; exact ⟨b, rfl, h.1⟩
   | succ i => exact okIOs_at h.2 i e hi
theorem okIOs_len : ∀ {l m : List RTy}, okIOs l m = true → l.length ≤ m.length
 | [], m, _ => by simp
 | a :: l, [], h => by cases h
 | a :: l, b :: m, h => by
   simp only [okIOs, Bool.and_eq_true] at h
   have := okIOs_len h.2
   simp only [List.length_cons]; omega
theorem noIters_at {rows : Rows} {ρ : List (Nat × Nat)} : ∀ {l : List RTy} {n : Nat}, noIters rows ρ (numb n l) = true → ∀ (i : Nat) (a b : Ty), l[i]? = some (.mp a b) → ∃ q, zCP ρ (n + i) = some q ∧ zCy q rows = true
 | [], n, _, i, a, b, h => by simp at h
 | e :: l, n, h, i, a, b, hi => by
   have tl : noIters rows ρ (numb (n + 1) l) = true := by
     simp only [numb] at h
     cases e <;> first | exact h | (simp only [noIters, Bool.and_eq_true] at h; exact h.2)
   cases i with
   | zero =>
     have := Option.some.inj hi; subst this
     simp only [numb, noIters, Bool.and_eq_true] at h
     have h1 := h.1
     split at h1
     · rename_i q hq; exact ⟨q, hq, h1⟩
     · cases h1
   | succ i =>
     obtain ⟨q, h1, h2⟩ := noIters_at tl i a b hi
     exact ⟨q, by rw [show n + (i + 1) = n + 1 + i by omega]; exact h1, h2⟩
section
variable {ρ : List (Nat × Nat)} {isL : Nat → Bool} {rows rf : Rows}
theorem pk_kind {r q : Nat} {e : RTy} {row : TRow} (h : PkRow ρ isL rf r e row) (hg : zCP ρ r = some q) (he : kindE e < 5) : zBo row = kindE e ∧ zBo (zAA rf q) = kindE e ∧ zCT row = zCT (zAA rf q) ∧ zAQ row = zAQ (zAA rf q) := by
 have eq : ∀ {q'}, zCP ρ r = some q' → q' = q := fun h => by rw [hg] at h; exact (Option.some.inj h).symm
 cases h with
 | gone => simp [kindE] at he
 | one h1 h2 h3 h4 h5 => have := eq h1; subst this; rw [h2]; exact ⟨rfl, rfl, rfl, rfl⟩
 | many h1 h2 => have := eq h1; subst this; rw [h2]; exact ⟨rfl, rfl, rfl, rfl⟩
 | lst h1 h2 => have := eq h1; subst this; rw [h2]; exact ⟨rfl, rfl, rfl, rfl⟩
 | fro h1 h2 => simp [kindE] at he
 | fr1 h1 h2 => simp [kindE] at he
 | mp h1 h2 => have := eq h1; subst this; rw [h2]; exact ⟨rfl, rfl, rfl, rfl⟩
 | sit h1 h2 => have := eq h1; subst this; rw [h2]; exact ⟨rfl, rfl, rfl, rfl⟩
 | nil h1 _ => rw [hg] at h1; cases h1
theorem fr_kind (hf : FrStep rows rf) {q : Nat} (h : zBo (zAA rf q) < 5) : zAA rf q = zAA rows q := by
 rcases hf.2 q with e | e
 · exact e
 · rw [e] at h ⊢
   cases hr : zAA rows q with
   | one t x => rw [hr] at h; simp only [zCE] at h ⊢; cases hp : t.pure <;> rw [hp] at h <;> first | rfl | (simp [zBo] at h)
   | many t l => rw [hr] at h; simp [zCE, zBo] at h
   | lst t l => rw [hr] at h; simp [zCE, zBo] at h
   | _ => rfl
theorem kind_gone {row : TRow} (h : zBo row = 9) : row = .gone := by cases row <;> simp [zBo] at h; rfl
theorem enc_nomem {num : Nat → Nat} (hrows : ∀ r, zBo (zAA rows r) = 1 ∨ zBo (zAA rows r) = 2 ∨ zBo (zAA rows r) = 9) : ∀ (t : Ty) (x : t.I), t.mem = false → (E t (zAB num rows) x).1.nomem = true ∧ zCd (E t (zAB num rows) x).2 = true := by
 have one : ∀ (t : Ty) (x : t.I), t.sp = false → (E t (zAB num rows) x).1.nomem = true → (E t (zAB num rows) x).1.nomem = true ∧ zCd (E t (zAB num rows) x).2 = true := fun t x hs h => ⟨h, by rw [E_one hs]; simp [zCd, h]⟩
 intro t
 induction t with
 | pr a b iha ihb =>
   intro x h
   simp only [Ty.mem, Bool.or_eq_false_iff] at h
   exact ⟨rfl, by show zCd ((E a _ x.1).1 :: (E b _ x.2).2) = true; simp only [zCd, (iha x.1 h.1).1, (ihb x.2 h.2).2, Bool.and_self]⟩
 | unit => intro x h; exact ⟨rfl, rfl⟩
 | agg s ih => intro x h; exact one _ x rfl (ih x h).2
 | tup s ih => intro x h; exact one _ x rfl (ih x h).2
 | fn f a c iha ihc =>
   intro x h
   simp only [Ty.mem, Bool.or_eq_false_iff] at h
   exact one _ x rfl (by show (zCd (E a _ x.1).2 && zCd (E c _ x.2).2) = true; rw [(iha x.1 h.1).2, (ihc x.2 h.2).2]; rfl)
 | ifc id t ih => intro x h; exact one _ x rfl (ih x h).1
 | own r =>
   intro x _
   refine one _ x rfl ?_
   show (ownD (num r) (zAA rows r)).nomem = true
   rcases hrows r with h | h | h <;> cases hr : zAA rows r <;> rw [hr] at h <;> simp [zBo] at h <;> first | rfl | (rename_i t l; cases l <;> rfl)
 | sub r =>
   intro x _
   refine one _ x rfl ?_
   show (subD (num r) x (zAA rows r)).nomem = true
   rcases hrows r with h | h | h <;> cases hr : zAA rows r <;> rw [hr] at h <;> simp [zBo] at h <;> first | rfl | (rename_i t l; cases l <;> rfl)
 | p0 r o =>
   intro x _
   refine one _ x rfl ?_
   show (p0D (num r) o (zAA rows r)).nomem = true
   rcases hrows r with h | h | h <;> cases hr : zAA rows r <;> rw [hr] at h <;> simp [zBo] at h <;> rfl
 | pt r o =>
   intro x _
   refine one _ x rfl ?_
   show (ptD (num r) o x (zAA rows r)).nomem = true
   rcases hrows r with h | h | h <;> cases hr : zAA rows r <;> rw [hr] at h <;> simp [zBo] at h <;> rfl
 | mp r =>
   intro x _
   refine one _ x rfl ?_
   show (mpD (num r) (zAA rows r)).nomem = true
   rcases hrows r with h | h | h <;> cases hr : zAA rows r <;> rw [hr] at h <;> simp [zBo] at h <;> rfl
 | sl t _ => intro x h; simp [Ty.mem] at h
 | fp t o _ => intro x h; simp [Ty.mem] at h
 | _ => intro x h; exact one _ x rfl rfl
theorem e0_nomem {t : Ty} (hp : t.pure = true) (h : t.mem = false) (l : List t.I) : zCd (l.map (e0 t)) = true := by
 induction l with
 | nil => rfl
 | cons x l ih =>
   have e : e0 t x = (E t (zAB (fun _ => 0) []) x).1 := congrArg Prod.fst (E_pure t hp _ _ x)
   have := (enc_nomem (rows := []) (num := fun _ => 0) (fun r => .inr (.inr rfl)) t x h).1
   simp only [List.map_cons, zCd, ih, Bool.and_true]
   rw [e]; exact this
theorem mk_get (n : Nat) (f : Nat → Option Row) (q : Nat) : Heap.get ((List.range n).map f) q = if q < n then f q else none := by
 unfold Heap.get
 rcases Nat.lt_or_ge q n with h | h
 · simp [h]
 · rw [List.getElem?_eq_none (by simp; exact h), if_neg (by omega)]; rfl
end
end Go.T
namespace Go.T
open Go.Ab
variable [Go.Ab.DM]
section
variable {B : Base} {ζ ζ' : Nat → Row} {num num' : Nat → Nat} {s : St} {e : Env} {H H1 : Heap} {ρ : List (Nat × Nat)} {isL : Nat → Bool} {rf crows : Rows}
def seen (num : Nat → Nat) (ρ : List (Nat × Nat)) (k : Nat) (crows : Rows) (q : Nat) : Bool := (List.range k).any fun i => zAQ (zAA crows i) && Nat.beq (num (src ρ i)) q
theorem seen_iff {k q : Nat} : seen num ρ k crows q = true ↔ ∃ i, i < k ∧ zAQ (zAA crows i) = true ∧ num (src ρ i) = q := by
 unfold seen
 rw [List.any_eq_true]
 constructor
 · rintro ⟨i, h1, h2⟩
   simp only [List.mem_range, Bool.and_eq_true, Nat.beq_eq] at h1 h2
   exact ⟨i, h1, h2.1, h2.2⟩
 · rintro ⟨i, h1, h2, h3⟩
   exact ⟨i, by simpa using h1, by simp [h2, h3]⟩
def left (num' : Nat → Nat) (couts : Rows) (q : Nat) : Bool := (List.range couts.length).any fun i => zAQ (zAA couts i) && Nat.beq (num' i) q
theorem left_iff {couts : Rows} {q : Nat} : left num' couts q = true ↔ ∃ i, zAQ (zAA couts i) = true ∧ num' i = q := by
 unfold left
 rw [List.any_eq_true]
 constructor
 · rintro ⟨i, h1, h2⟩
   simp only [Bool.and_eq_true, Nat.beq_eq] at h2
   exact ⟨i, h2.1, h2.2⟩
 · rintro ⟨i, h2, h3⟩
   have : i < couts.length := zAo (by intro h; rw [h] at h2; simp [zAQ] at h2)
   exact ⟨i, by simpa using this, by simp [h2, h3]⟩
def behind (H H1 : Heap) (S T : Nat → Bool) : Heap := (List.range H1.length).map fun q => if q < H.length ∧ S q = false then H.get q else if T q = true then H1.get q else none
theorem behind_get (S T : Nat → Bool) (hl : H.length ≤ H1.length) (q : Nat) : (behind H H1 S T).get q = if q < H.length ∧ S q = false then H.get q else if T q = true then H1.get q else none := by
 unfold behind
 rw [mk_get]
 split
 · rfl
 · rename_i h
   rw [if_neg (fun h' => h (Nat.lt_of_lt_of_le h'.1 hl))]
   split
   · unfold Heap.get; rw [List.getElem?_eq_none (by omega)]; rfl
   · rfl
theorem call_rows {d : Nat} {c : Con} {y : (zAT c.outT).I} {m : List (Nat × TRow)} (ha : Abs B ζ num s e H) (hf : FrStep s.rows rf)
   (hm : PkRows ρ isL rf (numb 0 c.ins) m) (hρ : ∀ i, i < c.ins.length → ∃ q, zCP ρ i = some q) (hinj : ∀ i j, i < c.ins.length → j < c.ins.length → i ≠ j → src ρ i ≠ src ρ j)
   (hio : okIOs c.ins c.outs = true) (hno : noIters s.rows ρ (numb 0 c.ins) = true) (hsp : (c.outT.all fun t => !t.sp) = true)
   (hR : HRel ζ' num' (zAJ c y) H1) (hres : okV (zAJ c y) (zAt c y)) (hnum : ∀ r, zAQ (zAA (zAJ c y) r) = true → (r < c.ins.length → num' r = num (src ρ r)) ∧ (c.ins.length ≤ r → H.length ≤ num' r))
   (hlens : ∀ r, r < c.ins.length → zAO (zAA (zAJ c y) r) = true → zCT (zAA (zAJ c y) r) = zCT (zAA (zAm m) r)) (hH : H.length ≤ H1.length) (hfull : c.mem = true → rf = s.rows) :
   ∃ H2 ζ2 num2, Over H (frH num s.rows rf H) H1 (seen num ρ c.ins.length (zAm m)) (enc (zAB num' (zAJ c y)) (zAt c y)) H2 ∧
     Step B d ζ num s e (enc (zAB num' (zAJ c y)) (zAt c y)) H2 (renV (locR ρ c.ins.length s.rows.length) (zAt c y).t (zAt c y).x)
       { s with rows := zBZ d (locR ρ c.ins.length s.rows.length) ρ c.ins.length s.rows (zBa (numb 0 c.outs) (zBt [c.res] (zAI (zAT c.outT) y)).2) } ζ2 num2 H2 := by
 have hr := ha.hrel
 have hlen := conOuts_len hsp y
 obtain ⟨htys, vres, hv1, hv2⟩ := out_types hsp y
 have hkl := okIOs_len hio
 have hin : ∀ i, i < c.ins.length → ∃ ei eo, c.ins[i]? = some ei ∧ c.outs[i]? = some eo ∧ okIO ei eo = true ∧ zCP ρ i = some (src ρ i) ∧ src ρ i < s.rows.length ∧ kindE ei < 5 ∧ zBo (zAA (zAm m) i) = kindE ei ∧ zBo (zAA s.rows (src ρ i)) = kindE ei ∧ zCT (zAA (zAm m) i) = zCT (zAA s.rows (src ρ i)) ∧ zAQ (zAA (zAm m) i) = zAQ (zAA s.rows (src ρ i)) := fun i hi => by
   obtain ⟨q, hq⟩ := hρ i hi
   have hs := zAX hq
   rw [hs]
   have hat := hm.at i
   rw [List.getElem?_eq_getElem hi] at hat
   obtain ⟨row, h1, _, h2⟩ := hat
   rw [Nat.zero_add] at h2
   obtain ⟨eo, h3, h4⟩ := okIOs_at hio i _ (List.getElem?_eq_getElem hi)
   obtain ⟨h5, h6⟩ := okIO_kind h4
   obtain ⟨g1, g2, g3, g4⟩ := pk_kind h2 hq h5
   have g5 := fr_kind hf (q := q) (by rw [g2]; exact h5)
   rw [g5] at g2 g3 g4
   refine ⟨_, eo, List.getElem?_eq_getElem hi, h3, h4, hq, zAo (fun hg => ?_), h5, by rw [h1]; exact g1, g2, by rw [h1]; exact g3, by rw [h1]; exact g4⟩
   rw [hg] at g2
   have : (9 : Nat) = kindE c.ins[i] := g2
   omega
 have hout : ∀ i, i < c.outs.length → ∃ eo v, c.outs[i]? = some eo ∧ (zBa (numb 0 c.outs) (zBt [c.res] (zAI (zAT c.outT) y)).2)[i]? = some (i, zAA (zAJ c y) i) ∧ zAA (zAJ c y) i = rowOf eo v ∧ v.t = eo.dat := fun i hi => by
   have h1 : i < (zBa (numb 0 c.outs) (zBt [c.res] (zAI (zAT c.outT) y)).2).length := by rw [← len_stRows]; show i < (zAJ c y).length; rw [hlen]; exact hi
   obtain ⟨eo, v, h2, h3, h4⟩ := unRows_types c.outs 0 _ htys i _ (List.getElem?_eq_getElem h1)
   have h5 : zAA (zAJ c y) i = rowOf eo v := by
     unfold zAJ
     rw [rowAt_stRows, List.getElem?_eq_getElem h1, h3]
   refine ⟨eo, v, h2, ?_, h5, h4⟩
   rw [List.getElem?_eq_getElem h1, h3, h5, Nat.zero_add]
 have hkind : ∀ i, i < c.outs.length → zAA (zAJ c y) i = .gone ∨ ∃ eo, c.outs[i]? = some eo ∧ zBo (zAA (zAJ c y) i) = kindE eo := fun i hi => by
   obtain ⟨eo, v, h1, h2, h3, h4⟩ := hout i hi
   rw [h3]
   rcases rowOf_kind eo v with h | h
   · exact .inl h
   · refine .inr ⟨eo, h1, ?_⟩
     cases eo <;> first | exact h | exact h.elim
 have hpass : ∀ i, i < c.ins.length → zAA (zAJ c y) i = .gone ∨ zBo (zAA (zAJ c y) i) = zBo (zAA s.rows (src ρ i)) := fun i hi => by
   obtain ⟨ei, eo, h1, h2, h3, h4, h5, h6, h7, h8, h9, h10⟩ := hin i hi
   rcases hkind i (by omega) with h | ⟨eo', h11, h12⟩
   · exact .inl h
   · rw [h2] at h11
     have := Option.some.inj h11; subst this
     rcases (okIO_kind h3).2 with h13 | h13
     · subst h13; exact .inl (kind_gone h12)
     · exact .inr (by rw [h12, h13, h8])
 have hpl : ∀ i, i < c.ins.length → zAO (zAA (zAJ c y) i) = true → zCT (zAA (zAJ c y) i) = zCT (zAA s.rows (src ρ i)) := fun i hi hl => by
   obtain ⟨ei, eo, h1, h2, h3, h4, h5, h6, h7, h8, h9, h10⟩ := hin i hi
   rw [hlens i hi hl, h9]
 have hplive : ∀ i, i < c.ins.length → zAQ (zAA (zAJ c y) i) = true → zAQ (zAA s.rows (src ρ i)) = true := fun i hi hl => by
   rcases hpass i hi with h | h
   · rw [h] at hl; simp [zAQ] at hl
   · exact kind_live h (hpl i hi) hl
 have hρ' : ∀ i, i < c.ins.length → ∃ q, zCP ρ i = some q ∧ q < s.rows.length := fun i hi => by
   obtain ⟨ei, eo, h1, h2, h3, h4, h5, _⟩ := hin i hi
   exact ⟨_, h4, h5⟩
 have hmo : ∀ (i : Nat) (p : Nat × TRow), (zBa (numb 0 c.outs) (zBt [c.res] (zAI (zAT c.outT) y)).2)[i]? = some p → p.1 = 0 + i := fun i p h => by
   obtain ⟨eo, v, h2, h3, h4⟩ := unRows_types c.outs 0 _ htys i _ h
   rw [h3]
 have hlmo : (zBa (numb 0 c.outs) (zBt [c.res] (zAI (zAT c.outT) y)).2).length = c.outs.length := by rw [← len_stRows]; exact hlen
 obtain ⟨hbl, hba, hbo⟩ := back_at (d := d) (τ := locR ρ c.ins.length s.rows.length) hρ' hinj _ 0 s.rows hmo (by omega)
 rw [hlmo] at hbl hbo
 have hba : ∀ i, i < c.outs.length → zAA (zBZ d (locR ρ c.ins.length s.rows.length) ρ c.ins.length s.rows (zBa (numb 0 c.outs) (zBt [c.res] (zAI (zAT c.outT) y)).2)) (locR ρ c.ins.length s.rows.length i) = renRow (locR ρ c.ins.length s.rows.length) (zAA (zAJ c y) i) ∧ zAP (zBZ d (locR ρ c.ins.length s.rows.length) ρ c.ins.length s.rows (zBa (numb 0 c.outs) (zBt [c.res] (zAI (zAT c.outT) y)).2)) (locR ρ c.ins.length s.rows.length i) = some d := fun i hi => by
   obtain ⟨eo, v, h1, h2, h3, h4⟩ := hout i hi
   have := hba i _ h2
   rw [Nat.zero_add] at this
   exact this
 simp only [Nat.zero_add] at hbo hbl
 have hlocI : ∀ i, i < c.ins.length → locR ρ c.ins.length s.rows.length i = src ρ i := fun i hi => by
   obtain ⟨q, h1, _⟩ := hρ' i hi
   rw [loc_lt hi, zAX h1, h1]; rfl
 have hlocO : ∀ i, c.ins.length ≤ i → locR ρ c.ins.length s.rows.length i = s.rows.length + (i - c.ins.length) := fun i hi => loc_ge hi
 have hlocinj : ∀ {i j : Nat}, i ≠ j → locR ρ c.ins.length s.rows.length i ≠ locR ρ c.ins.length s.rows.length j := fun h => loc_inj hρ' hinj h
 generalize hτ : locR ρ c.ins.length s.rows.length = τ at *
 generalize hRb : zBZ d τ ρ c.ins.length s.rows (zBa (numb 0 c.outs) (zBt [c.res] (zAI (zAT c.outT) y)).2) = Rb at *
 generalize hco : zAJ c y = co at *
 let num2 : Nat → Nat := fun r => if r < s.rows.length then num r else num' (r - s.rows.length + c.ins.length)
 obtain ⟨ζ2, hz2, hz3⟩ : ∃ ζ2 : Nat → Row, (∀ r, (∀ i, i < c.outs.length → τ i ≠ r) → ζ2 r = ζ r) ∧ ∀ i, i < c.outs.length → ζ2 (τ i) = ζ' i := by
   classical
   refine ⟨fun r => if h : ∃ i, i < c.outs.length ∧ τ i = r then ζ' (Classical.choose h) else ζ r, fun r h => ?_, fun i hi => ?_⟩
   · show dite _ _ _ = _; rw [dif_neg]; rintro ⟨i, h1, h2⟩; exact h i h1 h2
   · have hx : ∃ j, j < c.outs.length ∧ τ j = τ i := ⟨i, hi, rfl⟩
     show dite _ _ _ = _; rw [dif_pos hx]
     have h2 := (Classical.choose_spec hx).2
     congr 1
     by_cases he : Classical.choose hx = i
     · exact he
     · exact absurd h2 (hlocinj he)
 have hn2 : ∀ r, r < s.rows.length → num2 r = num r := fun r h => if_pos h
 have hsrcl : ∀ i, i < c.ins.length → src ρ i < s.rows.length := fun i hi => by
   obtain ⟨q, h1, h2⟩ := hρ' i hi
   rw [zAX h1]; exact h2
 have hnl : ∀ i, zAQ (zAA co i) = true → num2 (τ i) = num' i := fun i hl => by
   rcases Nat.lt_or_ge i c.ins.length with h | h
   · rw [hlocI i h, hn2 _ (hsrcl i h), (hnum i hl).1 h]
   · rw [hlocO i h]
     show (if s.rows.length + (i - c.ins.length) < s.rows.length then _ else _) = _
     rw [if_neg (by omega)]
     congr 1; omega
 have hcol : ∀ i, zAA co i ≠ .gone → i < c.outs.length := fun i h => by rw [← hlen]; exact zAo h
 have hcase : ∀ r, (∃ i, i < c.outs.length ∧ r = τ i) ∨ (zAA Rb r = zAA s.rows r ∧ zAP Rb r = zAP s.rows r ∧ ∀ i, i < c.outs.length → τ i ≠ r) := fun r => by
   by_cases h : ∃ i, i < c.outs.length ∧ r = τ i
   · exact .inl h
   · have h' : ∀ i, i < c.outs.length → τ i ≠ r := fun i hi he => h ⟨i, hi, he.symm⟩
     obtain ⟨h1, h2⟩ := hbo r h'
     exact .inr ⟨h1, h2, h'⟩
 have hle : RowsLe s.rows Rb := ⟨by rw [hbl]; omega, fun r hrl hl => by
   rcases hcase r with ⟨i, hi, rfl⟩ | ⟨h1, _⟩
   · rcases Nat.lt_or_ge i c.ins.length with h | h
     · rw [(hba i hi).1] at hl ⊢
       obtain ⟨k1, k2, k3, k4⟩ := ren_row_kind τ (zAA co i)
       rw [k2] at hl
       rw [k3, hlocI i h]
       rcases hpass i h with hg | hg
       · rw [hg] at hl; simp [zAO] at hl
       · exact ⟨kind_list hg hl, hpl i h hl⟩
     · rw [hlocO i h] at hrl; omega
   · rw [h1] at hl ⊢; exact ⟨hl, rfl⟩⟩
 have hchg : ∀ r, r < s.rows.length → RefTl (num r) (zAA s.rows r) (num2 r) (zAA Rb r) := fun r hrl => by
   rw [hn2 r hrl]
   rcases hcase r with ⟨i, hi, rfl⟩ | ⟨h1, _⟩
   · rcases Nat.lt_or_ge i c.ins.length with h | h
     · rw [(hba i hi).1]
       obtain ⟨k1, k2, k3, k4⟩ := ren_row_kind τ (zAA co i)
       obtain ⟨ei, eo, h1, h2, h3, h4, h5, h6, h7, h8, h9, h10⟩ := hin i h
       rw [hlocI i h]
       rcases hpass i h with hg | hg
       · rw [hg]; exact RefTl.gone _ _ _
       · exact kind_ref (by rw [k1]; exact hg) (by rw [h8]; exact h6) (fun hl => by rw [k3]; exact hpl i h (by rw [← k2]; exact hl))
     · rw [hlocO i h] at hrl; omega
   · rw [h1]; exact RefTl.refl _ _
 have hlocl : ∀ i, i < c.outs.length → τ i < Rb.length := fun i hi => by
   rw [hbl]
   rcases Nat.lt_or_ge i c.ins.length with h | h
   · rw [hlocI i h]; have := hsrcl i h; omega
   · rw [hlocO i h]; omega
 have hren := ren_ok (num := num') (rows := co) (num' := num2) (rows' := Rb) τ (fun r hrl => by
     rw [(hba r (by rw [← hlen]; exact hrl)).1]
     exact ren_same τ _ (hnl r)) (fun r hrl => hlocl r (by rw [← hlen]; exact hrl)) (fun r hrl hl => by
     rw [(hba r (by rw [← hlen]; exact hrl)).1] at hl ⊢
     obtain ⟨k1, k2, k3, k4⟩ := ren_row_kind τ (zAA co r)
     rw [k2] at hl; exact ⟨hl, k3⟩)
 have hseen : ∀ r, zAQ (zAA s.rows r) = true → (∀ i, i < c.outs.length → τ i ≠ r) → seen num ρ c.ins.length (zAm m) (num r) = false := fun r hl hne => by
   cases hs : seen num ρ c.ins.length (zAm m) (num r) with
   | false => rfl
   | true =>
     obtain ⟨i, h1, h2, h3⟩ := seen_iff.1 hs
     obtain ⟨ei, eo, g1, g2, g3, g4, g5, g6, g7, g8, g9, g10⟩ := hin i h1
     have hi : src ρ i ≠ r := by rw [← hlocI i h1]; exact hne i (by omega)
     exact absurd h3 (hr.inj _ _ (by rw [← g10]; exact h2) hl hi)
 have hgetO : ∀ r, zAQ (zAA s.rows r) = true → (∀ i, i < c.outs.length → τ i ≠ r) → (behind H H1 (seen num ρ c.ins.length (zAm m)) (left num' co)).get (num r) = H.get (num r) := fun r hl hne => by
   rw [behind_get _ _ hH, if_pos ⟨live_lt hr hl, hseen r hl hne⟩]
 have hgetI : ∀ i, zAQ (zAA co i) = true → (behind H H1 (seen num ρ c.ins.length (zAm m)) (left num' co)).get (num' i) = H1.get (num' i) := fun i hl => by
   rw [behind_get _ _ hH, if_neg, if_pos (left_iff.2 ⟨i, hl, rfl⟩)]
   rintro ⟨h1, h2⟩
   rcases Nat.lt_or_ge i c.ins.length with h | h
   · obtain ⟨ei, eo, g1, g2, g3, g4, g5, g6, g7, g8, g9, g10⟩ := hin i h
     have : seen num ρ c.ins.length (zAm m) (num' i) = true := seen_iff.2 ⟨i, h, by rw [g10]; exact hplive i h hl, ((hnum i hl).1 h).symm⟩
     rw [this] at h2; cases h2
   · have := (hnum i hl).2 h; omega
 have hfulld : c.mem = true → ∀ r row, H.get r = some row → ∃ row', (frH num s.rows rf H).get r = some row' := fun hcm r row hg => by
   have := hfull hcm; subst this
   by_cases hx : ∃ q, zAQ (zAA s.rows q) = true ∧ num q = r
   · obtain ⟨q, h1, rfl⟩ := hx
     rw [frH_live hr h1, if_pos h1, hg]
     split
     · exact ⟨_, rfl⟩
     · exact ⟨row, rfl⟩
   · rw [frH_other hr (fun q h1 h2 => hx ⟨q, h1, h2⟩)]; exact ⟨row, hg⟩
 have hnm : c.mem = false → c.res.mem = false ∧ ∀ e ∈ c.outs, e.mem = false := fun h => by
   unfold Con.mem at h
   simp only [Bool.or_eq_false_iff, List.any_eq_false] at h
   exact ⟨h.1, fun e he => by have := h.2 e he; simpa using this⟩
 have hrowk : c.mem = false → ∀ r, zBo (zAA co r) = 1 ∨ zBo (zAA co r) = 2 ∨ zBo (zAA co r) = 9 := fun h r => by
   rcases Nat.lt_or_ge r c.outs.length with hrl | hrl
   · rcases hkind r hrl with hg | ⟨eo, h1, h2⟩
     · rw [hg]; exact .inr (.inr rfl)
     · have := (hnm h).2 eo (List.mem_of_getElem? h1)
       rw [h2]
       cases eo <;> first | exact .inl rfl | exact .inr (.inl rfl) | exact .inr (.inr rfl) | cases this
   · rw [rowAt_ge _ _ (by rw [hlen]; exact hrl)]; exact .inr (.inr rfl)
 have hcres : zAt c y = vres := by unfold zAt; rw [hv1]
 have hovr : Over H (frH num s.rows rf H) H1 (seen num ρ c.ins.length (zAm m)) (enc (zAB num' co) (zAt c y)) (behind H H1 (seen num ρ c.ins.length (zAm m)) (left num' co)) := by
   refine ⟨by simp [behind], fun q row hg => ?_, ?_⟩
   · rw [behind_get _ _ hH] at hg
     split at hg
     · rename_i h; exact .inl ⟨h.1, h.2, hg⟩
     · split at hg
       · rename_i h
         refine .inr ⟨hg, ?_⟩
         cases hcm : c.mem with
         | true => exact .inr (hfulld hcm)
         | false =>
           refine .inl ?_
           obtain ⟨i, h1, h2⟩ := left_iff.1 h
           have hil := hcol i (by intro hgn; rw [hgn] at h1; simp [zAQ] at h1)
           obtain ⟨eo, v, g1, g2, g3, g4⟩ := hout i hil
           have g5 := (hnm hcm).2 eo (List.mem_of_getElem? g1)
           have hRi := hR.row i
           rw [g3] at hRi h1
           obtain ⟨tv, xv⟩ := v
           cases eo <;> first | (cases g5; done) | skip
           · rename_i t
             have g4 : tv = .sl t := g4
             subst g4
             obtain ⟨k1, k2⟩ := hRi
             rw [h2, hg] at k2
             have := Option.some.inj k2; subst this
             exact e0_nomem (zBy k1) g5 _
           · rename_i t
             have g4 : tv = .sl t := g4
             subst g4
             obtain ⟨k1, k2⟩ := hRi
             have k3 : xv ≠ [] := by
               intro hx
               have h1 : zAQ (.lst t xv) = true := h1
               rw [hx] at h1; simp [zAQ] at h1
             have k2 := k2 k3
             rw [h2, hg] at k2
             have := Option.some.inj k2; subst this
             exact e0_nomem (zBy k1) g5 _
           · simp [rowOf, zAQ] at h1
       · cases hg
   · cases hcm : c.mem with
     | true => exact .inr (hfulld hcm)
     | false =>
       refine .inl ?_
       rw [hcres]
       exact (enc_nomem (hrowk hcm) vres.t vres.x (by rw [hv2]; exact (hnm hcm).1)).1
 have hrb0 := hren (zAt c y).t (zAt c y).x hres
 refine ⟨behind H H1 (seen num ρ c.ins.length (zAm m)) (left num' co), ζ2, num2, hovr, step_of ha hchg hle ⟨fun r => ?_, fun r z h1 h2 hrz => ?_, fun r t x h => ?_⟩ (fun r hl => ?_) (by simp only [behind, List.length_map, List.length_range]; exact hH) (fun r lv h1 h2 => ?_) (Tl.of_eq hrb0.one.symm) hrb0.ok⟩
 · rcases hcase r with ⟨i, hi, rfl⟩ | ⟨h1, _, hne⟩
   · have hRi := hR.row i
     rw [(hba i hi).1]
     have hgi := hgetI i
     have hni := hnl i
     have hki := hkind i hi
     cases hrow : zAA co i with
     | one t x =>
       rw [hrow] at hRi hgi hni
       obtain ⟨g1, k, dd, g2, g3, g4⟩ := hRi
       have hx := hren t x (hR.ok i t x hrow)
       obtain ⟨s1, s2⟩ := ren_shape τ t x
       refine ⟨s2 g1, k, dd, by rw [hni rfl, hgi rfl]; exact g2, by rw [g3]; exact s1.symm, ?_⟩
       have e1 : (zAq ⟨t, x⟩).map (enc (zAB num' co)) = (enc (zAB num' co) ⟨t, x⟩).cells := (zBW _ _ _).symm
       have e2 : (zAq ⟨(renV τ t x).t, (renV τ t x).x⟩).map (enc (zAB num2 Rb)) = (enc (zAB num2 Rb) (renV τ t x)).cells := (zBW _ _ _).symm
       rw [e2, hx.one]
       rw [e1] at g4
       exact g4
     | many t l => rw [hrow] at hRi hgi hni; exact ⟨hRi.1, by rw [hni rfl, hgi rfl]; exact hRi.2⟩
     | lst t l =>
       rw [hrow] at hRi hgi hni
       refine ⟨hRi.1, fun hne => ?_⟩
       have hlv : zAQ (.lst t l) = true := by cases l <;> simp at hne ⊢ <;> rfl
       rw [hni hlv, hgi hlv]; exact hRi.2 hne
     | fro t l => rw [hrow] at hRi; exact hRi
     | fr1 t x => rw [hrow] at hRi; exact hRi
     | mp a b l => rw [hrow] at hRi hgi hni; simp only [renRow, zBw] at hRi ⊢; rw [hni rfl, hgi rfl, hz3 i hi]; exact hRi
     | sit b p => rw [hrow] at hRi hgi hni; simp only [renRow, zBw] at hRi ⊢; rw [hni rfl, hgi rfl]; exact hRi
     | itb mm =>
       rcases hki with hg | ⟨eo, g1, g2⟩
       · rw [hrow] at hg; cases hg
       · rw [hrow] at g2; cases eo <;> simp [zBo, kindE] at g2
     | ite mm a b x y =>
       rcases hki with hg | ⟨eo, g1, g2⟩
       · rw [hrow] at hg; cases hg
       · rw [hrow] at g2; cases eo <;> simp [zBo, kindE] at g2
     | gone => trivial
   · rcases Nat.lt_or_ge r s.rows.length with hrl | hrl
     · refine row_keep (hr.row r) (fun t x hx => hr.ok r t x hx) h1 (hn2 r hrl) (hz2 r hne) (fun hl => hgetO r hl hne) (fun mm a b l hmm hit => ?_) hchg
       have hml : mm < s.rows.length := zAo (by rw [hmm]; simp)
       have hmne : ∀ i, i < c.outs.length → τ i ≠ mm := fun i hi he => by
         rcases Nat.lt_or_ge i c.ins.length with h | h
         · obtain ⟨ei, eo, g1, g2, g3, g4, g5, g6, g7, g8, g9, g10⟩ := hin i h
           rw [hlocI i h] at he
           rw [he, hmm] at g8
           have hk : kindE ei = 3 := g8.symm
           cases ei <;> simp [kindE] at hk
           obtain ⟨q, k1, k2⟩ := noIters_at hno i _ _ g1
           rw [Nat.zero_add, g4] at k1
           have := Option.some.inj k1
           obtain ⟨z, hz⟩ := hit
           exact set_stepZ.iter_absurd s.rows mm z (by rw [← he, this]; exact k2) hz
         · rw [hlocO i h] at he; omega
       exact ⟨by rw [(hbo mm hmne).1]; exact hmm, hn2 mm hml, hgetO mm (by rw [hmm]; rfl) hmne⟩
     · rw [h1, rowAt_ge _ _ hrl]; trivial
 · have cls : ∀ r, zAQ (zAA Rb r) = true → (∃ i, i < c.outs.length ∧ r = τ i ∧ zAQ (zAA co i) = true ∧ num2 r = num' i ∧ (i < c.ins.length → zAQ (zAA s.rows r) = true ∧ num2 r = num r)) ∨ (zAQ (zAA s.rows r) = true ∧ num2 r = num r ∧ ∀ i, i < c.outs.length → τ i ≠ r) := fun r hl => by
     rcases hcase r with ⟨i, hi, rfl⟩ | ⟨h1, _, hne⟩
     · rw [(hba i hi).1, (ren_row_kind τ (zAA co i)).2.2.2] at hl
       refine .inl ⟨i, hi, rfl, hl, hnl i hl, fun h => ⟨by rw [hlocI i h]; exact hplive i h hl, by rw [hlocI i h]; exact hn2 _ (hsrcl i h)⟩⟩
     · rw [h1] at hl
       exact .inr ⟨hl, hn2 r (zAo (live_row hl)), hne⟩
   rcases cls r h1 with ⟨i, a1, a2, a3, a4, a5⟩ | ⟨a1, a2, a3⟩ <;> rcases cls z h2 with ⟨j, b1, b2, b3, b4, b5⟩ | ⟨b1, b2, b3⟩
   · rw [a4, b4]
     exact hR.inj i j a3 b3 (by intro hij; subst hij; rw [a2, b2] at hrz; exact hrz rfl)
   · rcases Nat.lt_or_ge i c.ins.length with h | h
     · obtain ⟨a6, a7⟩ := a5 h
       rw [a7, b2]; exact hr.inj r z a6 b1 hrz
     · rw [a4, b2]
       have := (hnum i a3).2 h
       have := live_lt hr b1
       omega
   · rcases Nat.lt_or_ge j c.ins.length with h | h
     · obtain ⟨b6, b7⟩ := b5 h
       rw [a2, b7]; exact hr.inj r z a1 b6 hrz
     · rw [a2, b4]
       have := (hnum j b3).2 h
       have := live_lt hr a1
       omega
   · rw [a2, b2]; exact hr.inj r z a1 b1 hrz
 · rcases hcase r with ⟨i, hi, rfl⟩ | ⟨h1, _, hne⟩
   · rw [(hba i hi).1] at h
     cases hrow : zAA co i <;> rw [hrow] at h <;> first | (cases h; done) | skip
     rename_i t0 x0
     have hx := (hren t0 x0 (hR.ok i t0 x0 hrow)).ok
     cases h
     exact hx
   · rw [h1] at h; exact zCs hle t x (hr.ok r t x h)
 · rcases hcase r with ⟨i, hi, rfl⟩ | ⟨h1, _, hne⟩
   · rw [(hba i hi).1, (ren_row_kind τ (zAA co i)).2.2.2] at hl
     rcases Nat.lt_or_ge i c.ins.length with h | h
     · rw [hlocI i h, hn2 _ (hsrcl i h)]; exact ha.base _ (hplive i h hl)
     · rw [hnl i hl, hlocO i h]
       have := ha.klen
       have := (hnum i hl).2 h
       have := ha.hlen
       exact ⟨fun h' => by omega, fun _ => by omega⟩
   · rw [h1] at hl
     rw [hn2 r (zAo (live_row hl))]; exact ha.base r hl
 · rcases hcase r with ⟨i, hi, rfl⟩ | ⟨h3, h4, hne⟩
   · rw [(hba i hi).2] at h1; have := Option.some.inj h1; omega
   · rw [h4] at h1
     have hrl : r < s.rows.length := by
       rcases Nat.lt_or_ge r s.rows.length with h | h
       · exact h
       · rw [stampAt_ge _ _ h] at h1; cases h1
     exact ⟨h1, h3, hn2 r hrl, hz2 r hne⟩
end
end Go.T
namespace Go.T
open Go.Ab
variable [Go.Ab.DM]
section
variable {P : Program} {Γ : List Con} {B : Base} {ζ ζ' : Nat → Row} {num num' : Nat → Nat} {s : St} {e : Env} {H H1 : Heap} {ρ : List (Nat × Nat)} {isL : Nat → Bool} {rf crows : Rows}
theorem FrStep.refl (rows : Rows) : FrStep rows rows := ⟨rfl, fun _ => .inl rfl⟩
theorem args_told (hp : PRel ρ isL num rf num' crows) {ts : List Ty} {vs us : List TV} (h : Packed ρ isL rf ts vs us) (hok : ∀ v ∈ vs, okV rf v) : Tls (vs.map (enc (zAB num rf))) (us.map (enc (zAB num' crows))) ∧ ((∀ t ∈ ts, ∀ z ∈ t.refs, z < crows.length) → ∀ u ∈ us, okV crows u) := by
 induction h with
 | nil => exact ⟨.nil, fun _ u hu => by simp at hu⟩
 | cons h1 h2 ih =>
   obtain ⟨g1, g2⟩ := ih fun v hv => hok v (List.mem_cons_of_mem _ hv)
   have g := packV_told hp _ _ _ (hok _ (List.mem_cons_self ..)) h1
   refine ⟨.cons g.one g1, fun hr u hu => ?_⟩
   rcases List.mem_cons.1 hu with rfl | hu
   · exact g.ok (hr _ (List.mem_cons_self ..))
   · exact g2 (fun t ht => hr t (List.mem_cons_of_mem _ ht)) u hu
theorem fr_rels {own : Nat → Own} {X : Nat → Prop} {w : World} (hs : Sim own H X w) (hr : HRel ζ num s.rows H) (hf : FrStep s.rows rf) : ∀ {vs : List TV}, (∀ v ∈ vs, okV s.rows v) → ∀ {l : List Value}, zCG own H X w (vs.map (enc (zAB num s.rows))) l → zCG own (frH num s.rows rf H) X w (vs.map (enc (zAB num rf))) l
 | [], _, l, h => by simpa [zCG, VRels] using h
 | v :: vs, hok, l, h => by
   simp only [List.map_cons, zCG, VRels] at h ⊢
   obtain ⟨x, xs, h1, h2, h3⟩ := h
   exact ⟨x, xs, h1, fr_rel hs hr hf (t := v.t) (x := v.x) (hok v (List.mem_cons_self ..)) h2, fr_rels hs hr hf (fun u hu => hok u (List.mem_cons_of_mem _ hu)) h3⟩
structure Fit (c : Con) (rows rf : Rows) (ρ : List (Nat × Nat)) (x : (zAT c.inT).I) (args : List TV) : Prop where
 hargs : ∃ us, Packed ρ (fun _ => false) rf c.as args us ∧ zAc c x = us
 hrows : ∃ m, PkRows ρ (fun _ => false) rf (numb 0 c.ins) m ∧ zBE c x = zAm m
 some : ∀ i, i < c.ins.length → ∃ q, zCP ρ i = some q
 inj : ∀ i j, i < c.ins.length → j < c.ins.length → i ≠ j → src ρ i ≠ src ρ j
 slots : slotsBelow c.ins.length c.as = true
 below : rowsBelowT c.ins.length (numb 0 c.ins) = true
 io : okIOs c.ins c.outs = true
 noit : noIters rows ρ (numb 0 c.ins) = true
 sp : (c.outT.all fun t => !t.sp) = true
theorem call_core {d : Nat} {c : Con} {x : (zAT c.inT).I} {args : List TV} (ha : Abs B ζ num s e H) (hf : FrStep s.rows rf) (hok : zAu P c) (hargs : ∀ v ∈ args, okV s.rows v)
   (ft : Fit c s.rows rf ρ x args) (hy : ∃ y, c.Q x y) (hfull : c.mem = true → rf = s.rows) {C : D → Heap → Prop}
   (hC : ∀ y, c.Q x y → ∀ dd H' ζ2 num2, Step B d ζ num s e dd H' (renV (locR ρ c.ins.length s.rows.length) (zAt c y).t (zAt c y).x)
       { s with rows := zBZ d (locR ρ c.ins.length s.rows.length) ρ c.ins.length s.rows (zBa (numb 0 c.outs) (zBt [c.res] (zAI (zAT c.outT) y)).2) } ζ2 num2 H' → C dd H') :
   Sound P c.f (args.map (enc (zAB num s.rows))) H C ∧ (c.ins = [] → SoundK P c.f (args.map (enc (zAB num s.rows))) H C) := by
 have hr := ha.hrel
 obtain ⟨us, hus, hx1⟩ := ft.hargs
 obtain ⟨m, hm, hx2⟩ := ft.hrows
 have hml : (zAm m).length = c.ins.length := by rw [len_stRows, hm.len, numb_len]
 have hT : ∀ r, Tgt ρ (fun _ => false) rf (zAm m) r (zAA (zAm m) r) := fun r => by
   have h := hm.at r
   split at h
   · obtain ⟨row, h1, _, h2⟩ := h
     rw [Nat.zero_add] at h2
     rw [h1]; exact .pk h2
   · rw [h]; exact .gone
 have hnul : ∀ r, zCP ρ r = none → (fun _ : Nat => false) r = true → ∃ t, zAA (zAm m) r = .lst t [] := fun r _ h => by cases h
 have hrefs : ∀ r t y, zAA (zAm m) r = .one t y → ∀ z ∈ t.refs, z < (zAm m).length := fun r t y hrow z hz => by
   rw [hml]
   have h := hm.at r
   split at h
   · rename_i ei hei
     obtain ⟨row, h1, _, h2⟩ := h
     rw [h1] at hrow
     subst hrow
     cases h2
     refine rowsBelow_at ft.below r _ ?_ z hz
     have : ∀ (l : List RTy) (n i : Nat) (e : RTy), l[i]? = some e → (n + i, e) ∈ numb n l := by
       intro l
       induction l with
       | nil => intro n i e h; simp at h
       | cons a l ih =>
         intro n i e h
         cases i with
         | zero => have := Option.some.inj h; subst this; exact List.mem_cons_self ..
         | succ i => have := ih (n + 1) i e h; rw [show n + 1 + i = n + (i + 1) by omega] at this; exact List.mem_cons_of_mem _ this
     have h3 := this c.ins 0 r _ hei
     rw [Nat.zero_add] at h3; exact h3
   · rw [h] at hrow; cases hrow
 have hlt : ∀ r, zAQ (zAA (zAm m) r) = true → r < c.ins.length := fun r hl => by rw [← hml]; exact zAo (live_row hl)
 have hfr := fr_hrel hr hf
 have hp := tgt_prel (num := num) hT hnul
 have hR := tgt_hrel hfr hT hnul hrefs fun r z h1 h2 hne => ft.inj r z (hlt r h1) (hlt z h2) hne
 have hR' : HRel (fun r => ζ (src ρ r)) (fun r => num (src ρ r)) (zAm m) (maskH (seen num ρ c.ins.length (zAm m)) (frH num s.rows rf H)) := hrel_get hR fun r hl => by
   rw [mask_get, if_pos (seen_iff.2 ⟨r, hlt r hl, hl, rfl⟩)]
 have hargsf : ∀ v ∈ args, okV rf v := fun v hv => zCs (fr_le hf) _ _ (hargs v hv)
 obtain ⟨ht, hto⟩ := args_told hp hus hargsf
 have hokA := hto fun t ht z hz => by rw [hml]; exact slotsBelow_at ft.slots t ht z hz
 have hS := hok x hy _ _ (maskH (seen num ρ c.ins.length (zAm m)) (frH num s.rows rf H)) (by rw [hx2]; exact hR') (by rw [hx1, hx2]; exact hokA)
 rw [hx1, hx2] at hS
 have hrel : ∀ own X w, Sim own H X w → Sim own (frH num s.rows rf H) X w ∧ ∀ vs, zCG own H X w (args.map (enc (zAB num s.rows))) vs → zCG own (frH num s.rows rf H) X w (us.map (enc (zAB (fun r => num (src ρ r)) (zAm m)))) vs :=
   fun own X w hs => ⟨fr_sim hs hr hf, fun vs hv => ht.vrels (fr_rels hs hr hf hargs hv)⟩
 have hpost : ∀ dd H1, (maskH (seen num ρ c.ins.length (zAm m)) (frH num s.rows rf H)).length ≤ H1.length → (∃ y, c.Q x y ∧ ∃ ζ' num', HRel ζ' num' (zAJ c y) H1 ∧ dd = enc (zAB num' (zAJ c y)) (zAt c y) ∧ okV (zAJ c y) (zAt c y) ∧
     (∀ r, zAQ (zAA (zAJ c y) r) = true → (r < c.ins.length → num' r = num (src ρ r)) ∧ (c.ins.length ≤ r → (maskH (seen num ρ c.ins.length (zAm m)) (frH num s.rows rf H)).length ≤ num' r)) ∧ ∀ r, r < c.ins.length → zAO (zAA (zAJ c y) r) = true → zCT (zAA (zAJ c y) r) = zCT (zAA (zAm m) r)) →
     ∃ H2, Over H (frH num s.rows rf H) H1 (seen num ρ c.ins.length (zAm m)) dd H2 ∧ C dd H2 := by
   rintro dd H1 hl ⟨y, hQ, ζ', num', g1, rfl, g2, g3, g4⟩
   rw [mask_len, frH_len] at hl g3
   obtain ⟨H2, ζ2, num2, k1, k2⟩ := call_rows (d := d) ha hf hm ft.some ft.inj ft.io ft.noit ft.sp g1 g2 g3 g4 hl hfull
   exact ⟨H2, k1, hC y hQ _ _ _ _ k2⟩
 refine ⟨Sound.hide hS (frH_len _ _ _ _) (fun r row h => frH_sub hr h) hrel hpost, fun hins => Sound.hideK (fun r => ?_) hS (frH_len _ _ _ _) (fun r row h => frH_sub hr h) hrel hpost⟩
 cases hs : seen num ρ c.ins.length (zAm m) r with
 | false => rfl
 | true =>
   obtain ⟨i, h1, _⟩ := seen_iff.1 hs
   rw [hins] at h1; exact absurd h1 (Nat.not_lt_zero _)
theorem getNs_spec : ∀ (n i : Nat), (getNs ρ i n).length ≤ n ∧ ((getNs ρ i n).length = n → ∀ j, j < n → ∃ q, zCP ρ (i + j) = some q ∧ (getNs ρ i n)[j]? = some q)
 | 0, i => ⟨by simp [getNs], fun _ j h => absurd h (Nat.not_lt_zero _)⟩
 | n + 1, i => by
   obtain ⟨h1, h2⟩ := getNs_spec n (i + 1)
   simp only [getNs]
   cases hg : zCP ρ i with
   | none => exact ⟨by simp; omega, fun h => by simp at h; omega⟩
   | some q =>
     refine ⟨by simp; omega, fun h j hj => ?_⟩
     simp at h
     cases j with
     | zero => exact ⟨q, hg, rfl⟩
     | succ j =>
       obtain ⟨q', h3, h4⟩ := h2 h j (by omega)
       exact ⟨q', by rw [show i + (j + 1) = i + 1 + j by omega]; exact h3, h4⟩
theorem distinct_at : ∀ {l : List Nat}, distinct l = true → ∀ (i j : Nat) (a b : Nat), l[i]? = some a → l[j]? = some b → i ≠ j → a ≠ b
 | [], _, i, j, a, b, h, _, _ => by simp at h
 | z :: l, hd, i, j, a, b, hi, hj, hne => by
   simp only [distinct, Bool.and_eq_true] at hd
   have hz := not_used hd.1
   cases i with
   | zero =>
     cases j with
     | zero => exact absurd rfl hne
     | succ j =>
       have := Option.some.inj hi; subst this
       intro hab; subst hab
       exact hz (List.mem_of_getElem? (l := l) hj)
   | succ i =>
     cases j with
     | zero =>
       have := Option.some.inj hj; subst this
       intro hab; subst hab
       exact hz (List.mem_of_getElem? (l := l) hi)
     | succ j => exact distinct_at hd.2 i j a b hi hj (by omega)
theorem fitCon_fit {d : Nat} {c : Con} {args : List TV} {rows : Rows} {q : Got c} (h : fitCon d c rows args = some q) : Fit c rows (zAi d q.fz 0 rows) q.ρ q.x args := by
 unfold fitCon at h
 obtain ⟨hb, h⟩ := zAW h
 simp only [Bool.and_eq_true, Nat.beq_eq] at hb
 obtain ⟨⟨⟨⟨⟨⟨h1, h2⟩, h3⟩, h4⟩, h5⟩, h6⟩, h7⟩ := hb
 split at h
 rotate_left
 · cases h
 rename_i a b hpa hpb
 split at h
 rotate_left
 · cases h
 rename_i x hx
 have := Option.some.inj h; subst this
 dsimp only
 have hl := packAll_leaves hx
 obtain ⟨us, hu1, hu2⟩ := packVals_un hpa
 obtain ⟨m, hm1, hm2⟩ := packRows_un hpb
 have hsome := (getNs_spec (ρ := uniRows rows (uniL c.as args) (numb 0 c.ins)) c.ins.length 0).2 h2
 refine ⟨⟨us, hu1, ?_⟩, ⟨m, hm1, ?_⟩, fun i hi => ?_, fun i j hi hj hne => ?_, h3, h4, h5, h6, h7⟩
 · unfold zAc; rw [hl, hu2]
 · unfold zBE; rw [hl, hu2]; dsimp only; rw [hm2]
 · obtain ⟨q, g1, _⟩ := hsome i hi
   rw [Nat.zero_add] at g1; exact ⟨q, g1⟩
 · obtain ⟨q, g1, g2⟩ := hsome i hi
   obtain ⟨q', g3, g4⟩ := hsome j hj
   rw [Nat.zero_add] at g1 g3
   rw [zAX g1, zAX g3]
   exact distinct_at h1 i j q q' g2 g4 hne
theorem findCon_mem {d : Nat} {f : FuncId} {rows : Rows} {args : List TV} : ∀ {Γ : List Con} {c : Con} {q : Got c}, findCon d f rows args Γ = some ⟨c, q⟩ → c ∈ Γ ∧ c.f = f ∧ fitCon d c rows args = some q
 | [], c, q, h => by cases h
 | a :: Γ, c, q, h => by
   simp only [findCon] at h
   cases hb : Nat.beq a.f f with
   | false =>
     rw [hb, cond_false] at h
     obtain ⟨h1, h2, h3⟩ := findCon_mem h
     exact ⟨List.mem_cons_of_mem _ h1, h2, h3⟩
   | true =>
     rw [hb, cond_true] at h
     rw [Nat.beq_eq] at hb
     split at h
     · rename_i x hx
       have := Option.some.inj h
       cases this
       exact ⟨List.mem_cons_self .., hb, hx⟩
     · obtain ⟨h1, h2, h3⟩ := findCon_mem h
       exact ⟨List.mem_cons_of_mem _ h1, h2, h3⟩
end
end Go.T
namespace Go.T
open Go.Ab
variable [Go.Ab.DM]
section
variable {P : Program} {Γ : List Con} {B : Base} {ζ ζ' : Nat → Row} {num num' : Nat → Nat} {s : St} {e : Env} {H H1 : Heap} {R : Type} {r : R}
def kd (dr : Bool) (o : Oper) : OpKind := bif dr && isCall o then .keep else zAE o
theorem fit_fr {c : Con} {rows rf : Rows} {ρ : List (Nat × Nat)} {x : (zAT c.inT).I} {args : List TV} (h : Fit c rows rf ρ x args) (hf : FrStep rows rf) : Fit c rf rf ρ x args := by
 obtain ⟨h1, h2, h3, h4, h5, h6, h7, h8, h9⟩ := h
 refine ⟨h1, h2, h3, h4, h5, h6, h7, ?_, h9⟩
 have : ∀ (l : List RTy) (n : Nat), noIters rows ρ (numb n l) = true → noIters rf ρ (numb n l) = true := by
   intro l
   induction l with
   | nil => intro n h; exact h
   | cons e l ih =>
     intro n h
     cases e with
     | mp a b =>
       simp only [numb, noIters, Bool.and_eq_true] at h ⊢
       refine ⟨?_, ih _ h.2⟩
       have h1 := h.1
       split at h1
       · exact noIter_fr hf h1
       · cases h1
     | _ => exact ih _ (by simpa only [numb, noIters] using h)
 exact this _ _ h8
theorem callQ_some {A : Type} {p : A → Prop} {k : A → Option R} (h : callQ p k = some r) : (∃ a, p a) ∧ ∀ a, p a → k a = some r := by
 unfold callQ at h
 split at h
 · rename_i hx
   have h2 := Classical.choose_spec hx.2
   rw [Option.some.inj h] at h2
   exact ⟨hx.1, h2⟩
 · cases h
theorem leaves_ok {rows : Rows} (t : Ty) (x : t.I) (h : okT rows t x) : ∀ v ∈ zAI t x, okV rows v := (ok_leaves t x).1 h
theorem backT_eq {d : Nat} {c : Con} {q : Got c} {s : St} {y : (zAT c.outT).I} (hsp : (c.outT.all fun t => !t.sp) = true) : backT d c q s y = (renV (locR q.ρ c.ins.length s.rows.length) (zAt c y).t (zAt c y).x,
   { s with rows := zBZ d (locR q.ρ c.ins.length s.rows.length) q.ρ c.ins.length (bif c.mem then zAi d q.fz 0 s.rows else s.rows) (zBa (numb 0 c.outs) (zBt [c.res] (zAI (zAT c.outT) y)).2) }) := by
 obtain ⟨_, vres, hv1, _⟩ := out_types hsp y
 unfold backT zAt
 dsimp only
 rw [hv1]
theorem callT_sound {dr : Bool} {d : Nat} {g : Option Bool} (hΓ : ∀ c ∈ Γ, zAu P c) (ha : Abs B ζ num s e H) {c : List (Nat × Bool)} (hh : zAz s.gs c = true) (hg : g = none ∨ g = some true) {o : Oper} (hcall : isCall o = true) {k : TV → St → Option R} (h : heapT P Γ dr d g c s o k = some r) {C : Env → D → Heap → Prop}
   (hC : ∀ e1 v s' ζ' num' dd H' H'', k v s' = some r → Step B d ζ num s e1 dd H' v s' ζ' num' H'' → C e1 dd H') : ∃ e1 H1, (WeakS e H e1 H1 ∧ ∃ rf, e1 = zCn num { s with rows := rf }) ∧ zDG P (kd dr o) o e1 H1 (C e1) := by
 obtain ⟨dst, op, ty, pos, after, guard⟩ := o
 cases op <;> first | (cases hcall; done) | skip
 rename_i cl
 obtain ⟨f, args, ts⟩ := cl
 cases f <;> first | (cases hcall; done) | skip
 rename_i f
 simp only [heapT] at h
 have hng : ∀ {x : Option R}, notG g x = some r → False := fun h => by rcases hg with rfl | rfl <;> cases h
 split at h
 rotate_left
 · exact (hng h).elim
 rename_i q ta tb yv l hfv hl
 split at h
 rotate_left
 · exact (hng h).elim
 rename_i con x hfind
 obtain ⟨hb, h⟩ := zAW h
 have h : (∃ y : (zAT con.outT).I, con.Q x.x y) ∧ ∀ y, con.Q x.x y → k (backT d con x s y).1 (backT d con x s y).2 = some r := by
   unfold Con.Q
   cases hq : con.q with
   | none =>
     rw [hq] at h
     dsimp only at h ⊢
     have h' : call (con.F x.x) (fun y => k (backT d con x s y).1 (backT d con x s y).2) = some r := by rcases hg with rfl | rfl <;> exact h
     unfold call at h'
     cases hF : con.F x.x with
     | none => rw [hF] at h'; cases h'
     | some y => rw [hF] at h'; exact ⟨⟨y, rfl⟩, fun y' hy' => by cases hy'; exact h'⟩
   | some q =>
     rw [hq] at h
     dsimp only at h ⊢
     rcases hg with rfl | rfl
     · exact callQ_some h
     · cases h
 obtain ⟨hy, hk⟩ := h
 have hdr : dr = true → con.ins = [] := fun hdr => by
   subst hdr
   rcases hg with rfl | rfl
   · simpa using hb
   · simp only [Bool.and_eq_true] at hb; exact List.isEmpty_iff.1 hb.1
 obtain ⟨hmem, hf, hfit⟩ := findCon_mem hfind
 have hfit := fitCon_fit hfit
 have hok := hΓ con hmem
 have core : ∀ (s1 : St) (e1 : Env) (H1 : Heap) (rf : Rows), s1.env = s.env → s1.gs = s.gs → Abs B ζ num s1 e1 H1 → FrStep s1.rows rf → Fit con s1.rows rf x.ρ x.x (zAI ta yv.1 ++ l ++ zAI tb yv.2) → (con.mem = true → rf = s1.rows) →
     (∀ y, con.Q x.x y → ∀ dd H' ζ2 num2, Step B d ζ num s1 e1 dd H' (renV (locR x.ρ con.ins.length s1.rows.length) (zAt con y).t (zAt con y).x)
       { s1 with rows := zBZ d (locR x.ρ con.ins.length s1.rows.length) x.ρ con.ins.length s1.rows (zBa (numb 0 con.outs) (zBt [con.res] (zAI (zAT con.outT) y)).2) } ζ2 num2 H' → C e1 dd H') →
     zDG P (kd dr ⟨dst, .call ⟨.value f, args, ts⟩, ty, pos, after, guard⟩) ⟨dst, .call ⟨.value f, args, ts⟩, ty, pos, after, guard⟩ e1 H1 (C e1) := fun s1 e1 H1 rf h1 h2 ha1 hf1 ft hfull hstep => by
   have hh1 : zAz s1.gs c = true := by rw [h2]; exact hh
   obtain ⟨g1, g2⟩ := zAM ha1 hh1 (by rw [h1]; exact hfv)
   obtain ⟨g3, g4⟩ := zCb ha1 hh1 (by rw [h1]; exact hl)
   have hargs : ∀ v ∈ zAI ta yv.1 ++ l ++ zAI tb yv.2, okV s1.rows v := fun v hv => by
     rcases List.mem_append.1 hv with hv | hv
     · rcases List.mem_append.1 hv with hv | hv
       · exact leaves_ok ta yv.1 g2.1 v hv
       · exact g4 v hv
     · exact leaves_ok tb yv.2 g2.2 v hv
   obtain ⟨k1, k2⟩ := call_core (d := d) ha1 hf1 hok hargs ft hy hfull hstep
   have he : ev e1 f = .fn (.func q) ((zAI ta yv.1).map (enc (zAB num s1.rows))) ((zAI tb yv.2).map (enc (zAB num s1.rows))) := by
     rw [g1]
     show D.fn (.func q) (E ta _ yv.1).2 (E tb _ yv.2).2 = _
     rw [E_leaves, E_leaves]
   rw [hf, List.map_append, List.map_append, ← g3] at k1 k2
   cases hdrv : dr with
   | true =>
     show aCallK P (ev e1 f) (args.toList.map (ev e1)) H1 (C e1)
     rw [he]
     exact .inl (k2 (hdr hdrv))
   | false =>
     show aCallW P (ev e1 f) (args.toList.map (ev e1)) H1 (C e1)
     rw [he]
     exact .inl k1
 cases hcm : con.mem with
 | false =>
   refine ⟨e, H, ⟨WeakS.refl _ _, s.rows, ha.env⟩, core s e H _ rfl rfl ha (zBe d x.fz s.rows) hfit (fun h => by rw [hcm] at h; cases h) fun y hQ dd H' ζ2 num2 st => hC _ _ _ ζ2 num2 dd H' H' (hk y hQ) ?_⟩
   rw [backT_eq hfit.sp, hcm]
   exact st
 | true =>
   obtain ⟨ha1, hw1⟩ := fr_abs ha (zBe d x.fz s.rows)
   have hle1 := fr_Le (ζ := ζ) (num := num) (s := s) d x.fz
   refine ⟨_, _, ⟨hw1, _, rfl⟩, core { s with rows := zAi d x.fz 0 s.rows } _ _ (zAi d x.fz 0 s.rows) rfl rfl ha1 (FrStep.refl _) (fit_fr hfit (zBe d x.fz s.rows)) (fun _ => rfl) fun y hQ dd H' ζ2 num2 st => hC _ _ _ ζ2 num2 dd H' H' (hk y hQ) ?_⟩
   have st := st.pre (ζ := ζ) (num := num) (s := s) (fun _ => Tl.refl _) hle1 rfl rfl
   dsimp only at st
   rw [freeze_len] at st
   rw [backT_eq hfit.sp, hcm]
   exact st
end
end Go.T
namespace Go.T
open Go.Ab
variable [Go.Ab.DM]
section
variable {P : Program} {Γ : List Con} {B : Base} {ζ ζ' : Nat → Row} {num num' : Nat → Nat} {s : St} {e : Env} {H H1 : Heap} {R : Type} {r : R}
theorem band_eq (a b : Bool) : band a b = (a && b) := by cases a <;> cases b <;> rfl
theorem bnot_eq (a : Bool) : bnot a = !a := by cases a <;> rfl
theorem gB_spec (gs : List (Nat × Bool)) : ∀ (c : List (Nat × Bool)), (gB gs c = none ∧ c = []) ∨ gB gs c = some (zAz gs c)
 | [] => .inl ⟨rfl, rfl⟩
 | (n, w) :: l => by
   refine .inr ?_
   simp only [gB]
   cases hg : getG gs n with
   | none =>
     have : zAz gs ((n, w) :: l) = false := by
       unfold zAz
       rw [List.all_cons]
       dsimp only
       rw [hg]; rfl
     rw [this]
   | some b =>
     have hc : zAz gs ((n, w) :: l) = ((b == w) && zAz gs l) := by
       unfold zAz
       rw [List.all_cons]
       dsimp only
       rw [hg]
     rw [hc]
     rcases gB_spec gs l with ⟨h1, h2⟩ | h1
     · subst h2; rw [h1]
       have : zAz gs [] = true := rfl
       rw [this]
       cases w <;> cases b <;> rfl
     · rw [h1]
       dsimp only
       rw [band_eq]
       cases w <;> cases b <;> simp [bnot_eq]
structure GOk (d : Nat) (s : St) : Prop where
 c : ∀ n ent, zAh s.env n = some ent → ∀ p ∈ ent.c, ∃ b, getG s.gs p.1 = some b
 lv : ∀ n ent, zAh s.env n = some ent → ent.c ≠ [] → d ≤ ent.lv
structure Plain (s : St) : Prop where
 gs : s.gs = []
 c : ∀ n ent, zAh s.env n = some ent → ent.c = []
theorem Plain.gok (h : Plain s) (d : Nat) : GOk d s := ⟨fun n ent hf p hp => (by rw [h.c n ent hf] at hp; cases hp), fun n ent hf hc => absurd (h.c n ent hf) hc⟩
theorem holds_cons {gs : List (Nat × Bool)} {n : Nat} {b : Bool} (hn : getG gs n = none) {c : List (Nat × Bool)} (hc : ∀ p ∈ c, ∃ b, getG gs p.1 = some b) : zAz ((n, b) :: gs) c = zAz gs c := by
 unfold zAz
 rw [Bool.eq_iff_iff, List.all_eq_true, List.all_eq_true]
 have : ∀ p ∈ c, getG ((n, b) :: gs) p.1 = getG gs p.1 := fun p hp => by
   obtain ⟨b', hb⟩ := hc p hp
   simp only [getG]
   cases he : Nat.beq n p.1 with
   | false => rfl
   | true => rw [Nat.beq_eq] at he; rw [he] at hn; rw [hn] at hb; cases hb
 exact ⟨fun h p hp => by rw [← this p hp]; exact h p hp, fun h p hp => by rw [this p hp]; exact h p hp⟩
theorem regG_sound {d : Nat} (ha : Abs B ζ num s e H) (hgo : GOk d s) {n : Nat} {s1 : St} {c : List (Nat × Bool)} (h : regG s n = some (s1, c)) :
   Abs B ζ num s1 e H ∧ GOk d s1 ∧ Le d ζ num s ζ num s1 ∧ s1.rows = s.rows ∧ s1.env = s.env ∧ ∃ b a lv, getG s1.gs n = some b ∧ zAh s.env n = some ⟨a, lv, c, ⟨.bool, b⟩⟩ ∧ (∀ p ∈ c, ∃ b, getG s1.gs p.1 = some b) ∧ ∀ c', (∀ p ∈ c', ∃ b, getG s.gs p.1 = some b) → zAz s1.gs c' = zAz s.gs c' := by
 unfold regG at h
 split at h
 rotate_left
 · cases h
 rename_i a lv c0 b hf
 split at h
 · rename_i b' hg
   have h := Option.some.inj h
   obtain ⟨h1, h2⟩ := Prod.mk.inj h
   subst h1; subst h2
   obtain ⟨a2, lv2, c2, hf2⟩ := ha.gs n b' hg
   rw [hf] at hf2
   have hf2 := Option.some.inj hf2
   have hbb : (⟨.bool, b⟩ : TV) = ⟨.bool, b'⟩ := by injection hf2
   have hbb : b = b' := by injection hbb with _ hx
   subst hbb
   exact ⟨ha, hgo, Le.refl _ _ _ _, rfl, rfl, b, a, lv, hg, hf, fun p hp => hgo.c n _ hf p hp, fun _ _ => rfl⟩
 · rename_i hg
   have h := Option.some.inj h
   obtain ⟨h1, h2⟩ := Prod.mk.inj h
   subst h1; subst h2
   have hhold : ∀ c', (∀ p ∈ c', ∃ b, getG s.gs p.1 = some b) → zAz ((n, b) :: s.gs) c' = zAz s.gs c' := fun c' hc => holds_cons hg hc
   have hreg : ∀ p, (∃ b, getG s.gs p = some b) → ∃ b', getG ((n, b) :: s.gs) p = some b' := fun p ⟨b', hb⟩ => by
     simp only [getG]
     cases Nat.beq n p with
     | true => exact ⟨b, rfl⟩
     | false => exact ⟨b', hb⟩
   refine ⟨⟨?_, ha.hrel, fun m ent hf' hh => ?_, fun m b' hg' => ?_, ha.base, ha.hlen, ha.klen, ha.lens⟩, ⟨fun m ent hf' p hp => hreg _ (hgo.c m ent hf' p hp), hgo.lv⟩, ⟨fun _ _ h _ => h, fun _ _ h _ => ⟨h, rfl, rfl, rfl⟩⟩, rfl, rfl, b, a, lv, ?_, hf, fun p hp => hreg _ (hgo.c n _ hf p hp), hhold⟩
   · rw [ha.env]
     funext i
     unfold zCn
     dsimp only
     cases hf' : zAh s.env i with
     | none => rfl
     | some ent =>
       simp only [entD]
       rw [hhold _ (hgo.c i ent hf')]
   · exact ha.ok m ent hf' (by rw [← hhold _ (hgo.c m ent hf')]; exact hh)
   · have hg' : getG ((n, b) :: s.gs) m = some b' := hg'
     simp only [getG] at hg'
     cases he : Nat.beq n m with
     | true =>
       rw [he, cond_true] at hg'
       have := Option.some.inj hg'; subst this
       rw [Nat.beq_eq] at he; subst he
       exact ⟨a, lv, c0, hf⟩
     | false => rw [he] at hg'; exact ha.gs m b' hg'
   · simp only [getG, Nat.beq_refl]; rfl
theorem guard_at (ha : Abs B ζ num s e H) {n a lv : Nat} {c : List (Nat × Bool)} {b : Bool} (hf : zAh s.env n = some ⟨a, lv, c, ⟨.bool, b⟩⟩) : e n = if zAz s.gs c = true then .v (.bool b) else .v undef := by
 rw [ha.env]
 unfold zCn
 rw [hf]
 rfl
theorem put_sound {d : Nat} {dst : Option Tmp} {c : List (Nat × Bool)} {v : TV} {s' : St} {e1 : Env} {dd : D} {H' : Heap} (ha : Abs B ζ num s (zCn num s) H1) (hgo : GOk d s) (h : put d dst c v s = some s') (hv : zAz s.gs c = true → okV s.rows v) (hc : ∀ p ∈ c, ∃ b, getG s.gs p.1 = some b)
   (hw : ∀ own X w, Sim own H' X w → Sim own H1 X w ∧ Ext X own H' w own H1 w ∧ (∀ i x, Rel own H' X w (e1 i) x → Rel own H1 X w (zCn num s i) x) ∧ (∀ x, Rel own H' X w dd x → Rel own H1 X w (if zAz s.gs c = true then enc (zAB num s.rows) v else .v undef) x)) :
   WeakS (updO e1 dst dd) H' (zCn num s') H1 ∧ Abs B ζ num s' (zCn num s') H1 ∧ GOk d s' ∧ Le d ζ num s ζ num s' := by
 cases dst with
 | none =>
   have := Option.some.inj h; subst this
   refine ⟨fun own X w hs => ?_, ha, hgo, Le.refl _ _ _ _⟩
   obtain ⟨h1, h2, h3, _⟩ := hw own X w hs
   exact ⟨h1, h2, h3⟩
 | some n =>
   simp only [put] at h
   split at h
   rotate_left
   · cases h
   rename_i hg
   have := Option.some.inj h; subst this
   have hfn : ∀ i, zAh (⟨n, d, c, v⟩ :: s.env) i = if i = n then some ⟨n, d, c, v⟩ else zAh s.env i := fun i => by
     simp only [zAh]
     by_cases hi : i = n
     · subst hi; simp
     · rw [if_neg hi]
       cases hb : Nat.beq n i with
       | true => rw [Nat.beq_eq] at hb; exact absurd hb.symm hi
       | false => rfl
   have henv : ∀ i, zCn num ⟨⟨n, d, c, v⟩ :: s.env, s.rows, s.gs⟩ i = if i = n then (if zAz s.gs c = true then enc (zAB num s.rows) v else .v undef) else zCn num s i := fun i => by
     unfold zCn
     dsimp only
     rw [hfn]
     by_cases hi : i = n
     · simp only [hi, if_true]; rfl
     · rw [if_neg hi, if_neg hi]; rfl
   refine ⟨fun own X w hs => ?_, ⟨rfl, ha.hrel, fun m ent hf hh => ?_, fun m b hb => ?_, ha.base, ha.hlen, ha.klen, ha.lens⟩, ⟨fun m ent hf p hp => ?_, fun m ent hf hcn => ?_⟩, ⟨fun m ent hf hlt => ?_, fun r lv h1 h2 => ⟨h1, rfl, rfl, rfl⟩⟩⟩
   · obtain ⟨h1, h2, h3, h4⟩ := hw own X w hs
     refine ⟨h1, h2, fun i x hx => ?_⟩
     rw [henv]
     have hx : Rel own H' X w (if i = n then dd else e1 i) x := hx
     by_cases hi : i = n
     · rw [if_pos hi] at hx ⊢; exact h4 x hx
     · rw [if_neg hi] at hx ⊢; exact h3 i x hx
   · have hf : zAh (⟨n, d, c, v⟩ :: s.env) m = some ent := hf
     rw [hfn] at hf
     by_cases hi : m = n
     · rw [if_pos hi] at hf; have := Option.some.inj hf; subst this; exact hv hh
     · rw [if_neg hi] at hf; exact ha.ok m ent hf hh
   · have hb : getG s.gs m = some b := hb
     obtain ⟨a, lv, c', hf⟩ := ha.gs m b hb
     have hi : m ≠ n := by intro hi; subst hi; rw [hg] at hb; cases hb
     exact ⟨a, lv, c', by show zAh (⟨n, d, c, v⟩ :: s.env) m = _; rw [hfn, if_neg hi]; exact hf⟩
   · have hf : zAh (⟨n, d, c, v⟩ :: s.env) m = some ent := hf
     rw [hfn] at hf
     by_cases hi : m = n
     · rw [if_pos hi] at hf; have := Option.some.inj hf; subst this; exact hc p hp
     · rw [if_neg hi] at hf; exact hgo.c m ent hf p hp
   · have hf : zAh (⟨n, d, c, v⟩ :: s.env) m = some ent := hf
     rw [hfn] at hf
     by_cases hi : m = n
     · rw [if_pos hi] at hf; have := Option.some.inj hf; subst this; exact Nat.le_refl _
     · rw [if_neg hi] at hf; exact hgo.lv m ent hf hcn
   · have hf : zAh (⟨n, d, c, v⟩ :: s.env) m = some ent := hf
     rw [hfn] at hf
     by_cases hi : m = n
     · rw [if_pos hi] at hf; have := Option.some.inj hf; subst this; exact absurd hlt (Nat.lt_irrefl _)
     · rw [if_neg hi] at hf; exact hf
theorem dropC_at : ∀ (env : List Ent) (n : Nat), zAh (dropC env) n = (zAh env n).map fun e => bif e.c.isEmpty then e else ⟨e.s, e.lv, [], ⟨.any, ()⟩⟩
 | [], n => rfl
 | a :: l, n => by
   simp only [dropC, zAh]
   have hs : (bif a.c.isEmpty then a else ⟨a.s, a.lv, [], ⟨.any, ()⟩⟩ : Ent).s = a.s := by cases a.c.isEmpty <;> rfl
   rw [hs]
   cases Nat.beq a.s n with
   | true => rfl
   | false => exact dropC_at l n
theorem endG_sound {d : Nat} (ha : Abs B ζ num s e H) (hgo : GOk d s) : Abs B ζ num (endG s) (zCn num (endG s)) H ∧ Plain (endG s) ∧ Le d ζ num s ζ num (endG s) ∧ WeakS e H (zCn num (endG s)) H := by
 obtain ⟨env, rows, gs⟩ := s
 cases gs with
 | nil =>
   have he := ha.env
   refine ⟨by rw [he] at ha; exact ha, ⟨rfl, fun n ent hf => ?_⟩, Le.refl _ _ _ _, by rw [he]; exact WeakS.refl _ _⟩
   cases hc : ent.c with
   | nil => rfl
   | cons p l =>
     obtain ⟨b, hb⟩ := hgo.c n ent hf p (by rw [hc]; exact List.mem_cons_self ..)
     cases hb
 | cons g gs =>
   have hfd : ∀ n ent, zAh (dropC env) n = some ent → ent.c = [] ∧ ((zAh env n = some ent) ∨ (d ≤ ent.lv ∧ ent.v = ⟨.any, ()⟩)) := fun n ent hf => by
     rw [dropC_at] at hf
     cases h0 : zAh env n with
     | none => rw [h0] at hf; cases hf
     | some e0 =>
       rw [h0] at hf
       have this := Option.some.inj hf
       dsimp only at this
       cases hc : e0.c.isEmpty with
       | true =>
         rw [hc] at this
         have this : e0 = ent := this
         subst this
         exact ⟨List.isEmpty_iff.1 hc, .inl rfl⟩
       | false =>
         rw [hc] at this
         have this : (⟨e0.s, e0.lv, [], ⟨.any, ()⟩⟩ : Ent) = ent := this
         subst this
         exact ⟨rfl, .inr ⟨hgo.lv n e0 h0 (fun hx => by rw [hx] at hc; cases hc), rfl⟩⟩
   refine ⟨⟨rfl, ha.hrel, fun n ent hf _ => ?_, fun n b h => (by cases h), ha.base, ha.hlen, ha.klen, ha.lens⟩, ⟨rfl, fun n ent hf => (hfd n ent hf).1⟩, ⟨fun n ent hf hlt => ?_, fun r lv h1 h2 => ⟨h1, rfl, rfl, rfl⟩⟩, WeakS.env fun i => ?_⟩
   · obtain ⟨h1, h2 | ⟨h2, h3⟩⟩ := hfd n ent hf
     · exact ha.ok n ent h2 (by rw [h1]; rfl)
     · show okV rows ent.v
       rw [h3]; trivial
   · obtain ⟨h1, h2 | ⟨h2, h3⟩⟩ := hfd n ent hf
     · exact h2
     · omega
   · unfold zCn endG
     dsimp only
     cases hf : zAh (dropC env) i with
     | none => exact Tl.any _
     | some ent =>
       have hh : ∀ gs : List (Nat × Bool), zAz gs [] = true := fun _ => rfl
       obtain ⟨h1, h2 | ⟨h2, h3⟩⟩ := hfd i ent hf
       · simp only [entD, h1, hh, if_true]
         rw [ha.at h2 (by rw [h1]; rfl)]
         exact Tl.refl _
       · simp only [entD, h1, hh, if_true, h3]
         exact Tl.any _
theorem needG_skip {b : Bool} {k : Option R} (h : needG (some false) b k = some r) : k = some r := by
 have h : need (impl false b) k = some r := h
 have hi : impl false b = true := by cases b <;> rfl
 rw [hi] at h; exact h
end
end Go.T
namespace Go.T
open Go.Ab
variable [Go.Ab.DM]
section
variable {P : Program} {Γ : List Con} {B : Base} {ζ ζ' : Nat → Row} {num num' : Nat → Nat} {s : St} {e : Env} {H H1 : Heap} {R : Type} {r : R}
theorem binT_skip {op : BinOp} {t : TypeId} {rows : Rows} {x y : TV} {k : TV → Option R} (h : binT P (some false) op t rows x y k = some r) : ∃ v, k v = some r := by
 unfold binT at h
 repeat' split at h
 all_goals first | (cases h; done) | exact ⟨_, h⟩ | exact ⟨_, needG_skip h⟩
theorem indexAddrT_skip {rows : Rows} {t : TypeId} {x i : TV} {ic : Option Nat} {k : TV → Option R} (h : zDK P (some false) rows t x i ic k = some r) : ∃ v, k v = some r := by
 unfold zDK at h
 repeat' split at h
 all_goals first
   | (cases h; done)
   | (obtain ⟨_, h⟩ := zAW h; first | exact ⟨_, h⟩ | exact ⟨_, needG_skip h⟩)
theorem sliceT_skip {rows : Rows} {t : TypeId} {x : TV} {lo hi : Option TV} {k : TV → Option R} (h : sliceT P (some false) rows t x lo hi k = some r) : ∃ v, k v = some r := by
 unfold sliceT at h
 repeat' split at h
 all_goals first
   | (cases h; done)
   | exact ⟨_, needG_skip h⟩
   | (obtain ⟨_, h⟩ := zAW h; exact ⟨_, needG_skip h⟩)
theorem bif_two {b : Bool} {x y : TV} {k : TV → Option R} (h : (bif b then k x else k y) = some r) : ∃ v, k v = some r := by
 cases b <;> exact ⟨_, h⟩
theorem pureT_skip {d : Nat} {c : List (Nat × Bool)} {o : Oper} {k : TV → Option R} (h : zDP P d (some false) c s o k = some r) : ∃ v, k v = some r := by
 obtain ⟨dst, op, ty, pos, after, guard⟩ := o
 cases op <;> simp only [zDP] at h <;> (try (cases h; done))
 case call cl =>
   obtain ⟨f, args, ts⟩ := cl
   cases f <;> (try simp only [zDP] at h) <;> (try (cases h; done))
   rename_i b
   cases b <;> (try simp only [zDP] at h) <;> (repeat' split at h) <;> first | (cases h; done) | exact ⟨_, h⟩
 all_goals (repeat' split at h)
 all_goals first
   | (cases h; done)
   | exact ⟨_, h⟩
   | exact ⟨_, needG_skip h⟩
   | exact binT_skip h
   | exact indexAddrT_skip h
   | exact sliceT_skip h
   | (obtain ⟨_, h⟩ := zAW h; exact ⟨_, h⟩)
   | (obtain ⟨_, h⟩ := zAW h; exact bif_two h)
def Next (B : Base) (d : Nat) (ζ : Nat → Row) (num : Nat → Nat) (s : St) (k : St → Option R) (r : R) (T : Env → Heap → Prop) : Prop :=
 (∀ e H e' H', WeakS e H e' H' → T e' H' → T e H) ∧ ∀ ζ' num' s' H', k s' = some r → Abs B ζ' num' s' (zCn num' s') H' → GOk d s' → Le d ζ num s ζ' num' s' → T (zCn num' s') H'
theorem put_next {d : Nat} {dst : Option Tmp} {c : List (Nat × Bool)} {v : TV} {s1 s' : St} {e1 : Env} {dd : D} {H' H'' : Heap} {k : St → Option R} {T : Env → Heap → Prop} (hN : Next B d ζ num s k r T) (hst : Step B d ζ num s1 e1 dd H' v s' ζ' num' H'') (hle : Le d ζ num s ζ num s1) (hgo : GOk d s1)
   (hh : zAz s1.gs c = true) (hc : ∀ p ∈ c, ∃ b, getG s1.gs p.1 = some b) (h : (match put d dst c v s' with | some s'' => k s'' | none => none) = some r) : T (updO e1 dst dd) H' := by
 split at h
 rotate_left
 · cases h
 rename_i s'' hp
 have hgo' : GOk d s' := ⟨fun n ent hf p hp => by rw [hst.gs]; exact hgo.c n ent (by rw [← hst.env]; exact hf) p hp, fun n ent hf hcn => hgo.lv n ent (by rw [← hst.env]; exact hf) hcn⟩
 obtain ⟨g1, g2, g3, g4⟩ := put_sound (e1 := e1) (dd := dd) (H' := H') hst.abs hgo' hp (fun _ => hst.ok) (by rw [hst.gs]; exact hc) fun own X w hs => by
   obtain ⟨k1, k2, k3, k4⟩ := hst.weak own X w hs
   rw [hst.gs, if_pos hh]
   exact ⟨k1, k2, k3, k4⟩
 exact hN.1 _ _ _ _ g1 (hN.2 _ _ _ _ h g2 g3 ((hle.trans hst.le).trans g4))
theorem put_skip {d : Nat} {dst : Option Tmp} {c : List (Nat × Bool)} {v : TV} {s1 : St} {k : St → Option R} {T : Env → Heap → Prop} (hN : Next B d ζ num s k r T) (ha : Abs B ζ num s1 (zCn num s1) H1) (hle : Le d ζ num s ζ num s1) (hgo : GOk d s1)
   (hh : zAz s1.gs c = false) (hc : ∀ p ∈ c, ∃ b, getG s1.gs p.1 = some b) (h : (match put d dst c v s1 with | some s'' => k s'' | none => none) = some r) : T (updO (zCn num s1) dst (.v undef)) H1 := by
 split at h
 rotate_left
 · cases h
 rename_i s'' hp
 obtain ⟨g1, g2, g3, g4⟩ := put_sound (e1 := zCn num s1) (dd := .v undef) (H' := H1) ha hgo hp (fun h => by rw [hh] at h; cases h) hc fun own X w hs => by
   rw [hh]
   exact ⟨hs, .refl _ _ _, fun _ _ h => h, fun _ h => h⟩
 exact hN.1 _ _ _ _ g1 (hN.2 _ _ _ _ h g2 g3 (hle.trans g4))
end
end Go.T
namespace Go.T
open Go.Ab
variable [Go.Ab.DM]
section
variable {P : Program} {Γ : List Con} {B : Base} {ζ ζ' : Nat → Row} {num num' : Nat → Nat} {s : St} {e : Env} {H H1 : Heap} {R : Type} {r : R}
theorem pick_kind {o : Oper} {x a b : Operand} (h : isPick o = some (x, a, b)) : o.op = .pick x a b := by
 unfold isPick at h
 split at h
 · rename_i c a' b' ho
   have h := Option.some.inj h
   obtain ⟨h1, h2⟩ := Prod.mk.inj h
   obtain ⟨h2, h3⟩ := Prod.mk.inj h2
   subst h1; subst h2; subst h3; exact ho
 · cases h
theorem call_heap {o : Oper} (h : isCall o = true) : isHeapOp o = true := by
 unfold isCall at h
 split at h
 · rename_i ho; unfold isHeapOp; rw [ho]
 · cases h
theorem execT_on {dr : Bool} {d : Nat} {c : List (Nat × Bool)} {o : Oper} {k : St → Option R} {T : Env → Heap → Prop} (hΓ : ∀ c ∈ Γ, zAu P c) (ha : Abs B ζ num s e H) (hgo : GOk d s) (hh : zAz s.gs c = true) (hc : ∀ p ∈ c, ∃ b, getG s.gs p.1 = some b) (hN : Next B d ζ num s k r T) (h : execT P Γ dr d c o s k = some r) :
   ∃ e1 H1, (WeakS e H e1 H1 ∧ ∃ rf, e1 = zCn num { s with rows := rf }) ∧ zDG P (kd dr o) o e1 H1 fun dd H' => T (updO e1 o.dst dd) H' := by
 have hg : ∀ g, gB s.gs c = g → g = none ∨ g = some true := fun g hg => by
   rcases gB_spec s.gs c with ⟨h1, _⟩ | h1
   · rw [h1] at hg; exact .inl hg.symm
   · rw [h1, hh] at hg; exact .inr hg.symm
 have hgo1 := hgo
 unfold execT at h
 split at h
 · -- pick
   rename_i sc a b hp
   split at h
   rotate_left
   · cases h
   rename_i s' cc hreg
   obtain ⟨hsub, h⟩ := zAW h
   obtain ⟨ha', hgo', hle', hrows', henv', q, a0, lv0, hgq, hfq, hcc, hsame⟩ := regG_sound (d := d) ha hgo hreg
   have hhc : zAz s'.gs c = true := by rw [hsame c hc]; exact hh
   have hqe : e sc = .v (.bool q) := by
     rw [guard_at ha hfq, if_pos (holds_sub hsub hh)]
   unfold pickT at h
   rw [hgq] at h
   split at h <;> first | (cases h; done) | skip
   rename_i q' va vb hq' hva hvb
   have := Option.some.inj hq'; subst this
   split at h
   rotate_left
   · cases h
   rename_i ht
   have hop := pick_kind hp
   obtain ⟨dst, op, ty, pos, after, guard⟩ := o
   dsimp only at hop; subst hop
   have hkd : kd dr ⟨dst, .pick (.tmp sc) a b, ty, pos, after, guard⟩ = .pure := by cases dr <;> rfl
   rw [hkd]
   refine ⟨e, H, ⟨WeakS.refl _ _, s.rows, ha.env⟩, ?_⟩
   show aPick (e sc) (ev e a) (ev e b) fun dd => T (updO e dst dd) H
   rw [hqe]
   have hcr : ∀ p ∈ c, ∃ b, getG s'.gs p.1 = some b := fun p hp => by
     obtain ⟨b, hb⟩ := hc p hp
     have : zAz s'.gs [(p.1, b)] = zAz s.gs [(p.1, b)] := hsame _ (fun p' hp' => by simp only [List.mem_cons, List.not_mem_nil, or_false] at hp'; subst hp'; exact ⟨b, hb⟩)
     have h1 : zAz s.gs [(p.1, b)] = true := by simp [zAz, hb]
     rw [h1] at this
     simp only [zAz, List.all_cons, List.all_nil, Bool.and_true] at this
     cases hgp : getG s'.gs p.1 with
     | none => rw [hgp] at this; cases this
     | some b' => exact ⟨b', rfl⟩
   cases q with
   | true =>
     obtain ⟨g1, g2⟩ := zAM ha' (c := (sc, true) :: c) (by unfold zAz; rw [List.all_cons]; dsimp only; rw [hgq]; exact hhc) hva
     show T (updO e dst (ev e a)) H
     refine put_next hN (same_step (d := d) ha' (v := va) (Tl.of_eq g1) g2) hle' hgo' hhc hcr ?_
     exact h
   | false =>
     obtain ⟨g1, g2⟩ := zAM ha' (c := (sc, false) :: c) (by unfold zAz; rw [List.all_cons]; dsimp only; rw [hgq]; exact hhc) hvb
     show T (updO e dst (ev e b)) H
     refine put_next hN (same_step (d := d) ha' (v := vb) (Tl.of_eq g1) g2) hle' hgo' hhc hcr ?_
     have : (⟨va.t, zAK false va.x (castI ht vb.x)⟩ : TV) = vb := by
       obtain ⟨tb, xb⟩ := vb
       obtain ⟨ta, xa⟩ := va
       have ht : tb = ta := ht
       subst ht
       rfl
     rw [this] at h
     exact h
 · cases h
 · cases hheap : isHeapOp o with
   | true =>
     rw [hheap, cond_true] at h
     split at h
     · rename_i g hcall
       exact callT_sound hΓ ha hh (hg _ rfl) hcall h fun e1 v s' ζ' num' dd H' H'' hk hst => put_next hN hst (Le.refl _ _ _ _) hgo hh hc hk
     · rename_i hcall hgn
       have hkd : kd dr o = zAE o := by unfold kd; rw [hcall]; cases dr <;> rfl
       rw [hkd]
       exact heapT_sound ha hh hcall h fun e1 v s' ζ' num' dd H' H'' hk hst => put_next hN hst (Le.refl _ _ _ _) hgo hh hc hk
     · rename_i g hcall hgn
       have hkd : kd dr o = zAE o := by unfold kd; rw [hcall]; cases dr <;> rfl
       rw [hkd]
       rcases hg _ hgn with hx | hx
       · cases hx
       · have := Option.some.inj hx; subst this
         have h : heapT P Γ dr d none c s o (fun v s' => match put d o.dst c v s' with | some s'' => k s'' | none => none) = some r := h
         exact heapT_sound ha hh hcall h fun e1 v s' ζ' num' dd H' H'' hk hst => put_next hN hst (Le.refl _ _ _ _) hgo hh hc hk
   | false =>
     rw [hheap, cond_false] at h
     have hkd : kd dr o = zAE o := by
       unfold kd
       cases hcall : isCall o with
       | true => rw [call_heap hcall] at hheap; cases hheap
       | false => cases dr <;> rfl
     rw [hkd]
     exact ⟨e, H, ⟨WeakS.refl _ _, s.rows, ha.env⟩, pureT_sound ha (hg _ rfl) hh h fun v hk hv dd hd => put_next hN (same_step (d := d) ha hd hv) (Le.refl _ _ _ _) hgo hh hc hk⟩
theorem same_reg {s' : St} (hsame : ∀ c', (∀ p ∈ c', ∃ b, getG s.gs p.1 = some b) → zAz s'.gs c' = zAz s.gs c') {c : List (Nat × Bool)} (hc : ∀ p ∈ c, ∃ b, getG s.gs p.1 = some b) : ∀ p ∈ c, ∃ b, getG s'.gs p.1 = some b := fun p hp => by
 obtain ⟨b, hb⟩ := hc p hp
 have : zAz s'.gs [(p.1, b)] = zAz s.gs [(p.1, b)] := hsame _ (fun p' hp' => by simp only [List.mem_cons, List.not_mem_nil, or_false] at hp'; subst hp'; exact ⟨b, hb⟩)
 have h1 : zAz s.gs [(p.1, b)] = true := by simp [zAz, hb]
 rw [h1] at this
 simp only [zAz, List.all_cons, List.all_nil, Bool.and_true] at this
 cases hgp : getG s'.gs p.1 with
 | none => rw [hgp] at this; cases this
 | some b' => exact ⟨b', rfl⟩
theorem execT_off {dr : Bool} {d : Nat} {c : List (Nat × Bool)} {o : Oper} {k : St → Option R} {T : Env → Heap → Prop} (ha : Abs B ζ num s e H) (hgo : GOk d s) (hh : zAz s.gs c = false) (hc : ∀ p ∈ c, ∃ b, getG s.gs p.1 = some b) (hN : Next B d ζ num s k r T) (h : execT P Γ dr d c o s k = some r) :
   ∃ e1 H1, (WeakS e H e1 H1 ∧ ∃ rf, e1 = zCn num { s with rows := rf }) ∧ T (updO e1 o.dst (.v undef)) H1 := by
 have hg : gB s.gs c = some false := by
   rcases gB_spec s.gs c with ⟨_, h2⟩ | h1
   · subst h2; cases hh
   · rw [h1, hh]
 have ha0 : Abs B ζ num s (zCn num s) H := by have := ha; rw [ha.env] at this; exact this
 have skip : ∀ v, (match put d o.dst c v s with | some s'' => k s'' | none => none) = some r → ∃ e1 H1, (WeakS e H e1 H1 ∧ ∃ rf, e1 = zCn num { s with rows := rf }) ∧ T (updO e1 o.dst (.v undef)) H1 := fun v hv =>
   ⟨e, H, ⟨WeakS.refl _ _, s.rows, ha.env⟩, by rw [ha.env]; exact put_skip hN ha0 (Le.refl _ _ _ _) hgo hh hc hv⟩
 unfold execT at h
 split at h
 · rename_i sc a b hp
   split at h
   rotate_left
   · cases h
   rename_i s' cc hreg
   obtain ⟨hsub, h⟩ := zAW h
   obtain ⟨ha', hgo', hle', hrows', henv', q, a0, lv0, hgq, hfq, hcc, hsame⟩ := regG_sound (d := d) ha hgo hreg
   unfold pickT at h
   split at h <;> first | (cases h; done) | skip
   split at h
   rotate_left
   · cases h
   have ha'' : Abs B ζ num s' (zCn num s') H := by have := ha'; rw [ha'.env] at this; exact this
   refine ⟨e, H, ⟨WeakS.refl _ _, s.rows, ha.env⟩, ?_⟩
   rw [ha'.env]
   exact put_skip hN ha'' hle' hgo' (by rw [hsame c hc]; exact hh) (same_reg hsame hc) h
 · cases h
 · cases hheap : isHeapOp o with
   | false =>
     rw [hheap, cond_false, hg] at h
     obtain ⟨v, hv⟩ := pureT_skip h
     exact skip v hv
   | true =>
     rw [hheap, cond_true, hg] at h
     cases hcall : isCall o with
     | false =>
       rw [hcall] at h
       exact skip ⟨.any, ()⟩ h
     | true =>
       rw [hcall] at h
       dsimp only at h
       obtain ⟨dst, op, ty, pos, after, guard⟩ := o
       cases op <;> first | (cases hcall; done) | skip
       rename Call => cl
       obtain ⟨f, args, ts⟩ := cl
       cases f <;> first | (cases hcall; done) | skip
       rename Operand => f
       simp only [heapT] at h
       split at h
       rotate_left
       · exact skip _ h
       rename_i q ta tb yv l hfv hl
       split at h
       rotate_left
       · exact skip _ h
       rename_i con x hfind
       obtain ⟨hb, h⟩ := zAW h
       rw [Bool.and_eq_true, List.isEmpty_iff, List.isEmpty_iff] at hb
       have h : (match put d dst c (backT d con x s (zAT con.outT).dv).1 (backT d con x s (zAT con.outT).dv).2 with | some s'' => k s'' | none => none) = some r := by
         cases hcq : con.q with
         | none => rw [hcq] at h; exact h
         | some q => rw [hcq] at h; cases h
       have hb2 : (backT d con x s (zAT con.outT).dv).2 = { s with rows := bif con.mem then zAi d x.fz 0 s.rows else s.rows } := by
         unfold backT
         dsimp only
         rw [hb.2]
         rfl
       rw [hb2] at h
       cases hcm : con.mem with
       | false => rw [hcm] at h; exact skip _ h
       | true =>
         rw [hcm] at h
         obtain ⟨ha1, hw1⟩ := fr_abs ha (zBe d x.fz s.rows)
         exact ⟨_, _, ⟨hw1, _, rfl⟩, put_skip hN ha1 (fr_Le d x.fz) ⟨hgo.c, hgo.lv⟩ hh hc h⟩
end
end Go.T
namespace Go.T
open Go.Ab
variable [Go.Ab.DM]
section
variable {P : Program} {Γ : List Con} {B : Base} {R : Type} {r : R}
def dstB (N : Nat) : Option Tmp → Bool | some n => Nat.blt n N | none => true
def okOp (N : Nat) (full : List Oper) (o : Oper) : Bool := dstB N o.dst && (match o.guard with | none => true | some (j, _) => match slotOf full j with | some s => Nat.blt s N | none => false)
theorem dstB_ok {N : Nat} {o : Option Tmp} (h : dstB N o = true) : dstOk N o := by
 cases o with
 | none => trivial
 | some n => exact Nat.le_of_ble_eq_true h
theorem bops_weak {N : Nat} {ops : Array Oper} {Q : Env → Heap → Prop} (hQ : ∀ e H e' H', WeakS e H e' H' → Q e' H' → Q e H) {l : List (OpKind × Oper)} {e e' : Env} {H H' : Heap} (hw : WeakS e H e' H') (h : bops P N ops l e' H' Q) : bops P N ops l e H Q := by
 cases l with
 | nil => exact hQ _ _ _ _ hw h
 | cons p l =>
   obtain ⟨k, o⟩ := p
   simp only [bops] at h ⊢
   obtain ⟨e1, H1, h1, h2⟩ := h
   exact ⟨e1, H1, hw.trans h1, h2⟩
theorem gslot_slot (full : List Oper) (j : Nat) : gslot full.toArray j = slotOf full j := by
 unfold gslot slotOf
 rw [List.getElem?_toArray]
 cases full[j]? <;> rfl
theorem opsT_sound (hΓ : ∀ c ∈ Γ, zAu P c) {dr : Bool} {d N : Nat} {full : List Oper} {k : St → Option R} {Q : Env → Heap → Prop} (hQw : ∀ e H e' H', WeakS e H e' H' → Q e' H' → Q e H) :
   ∀ (l : List Oper) (ζ : Nat → Row) (num : Nat → Nat) (s : St) (e : Env) (H : Heap), Abs B ζ num s e H → GOk d s → (∀ o ∈ l, okOp N full o = true) → opsT P Γ dr d full l s k = some r →
     (∀ ζ' num' s' H', k s' = some r → Abs B ζ' num' s' (zCn num' s') H' → Plain s' → Le d ζ num s ζ' num' s' → Q (zCn num' s') H') → bops P N full.toArray (l.map fun o => (kd dr o, o)) e H Q
 | [], ζ, num, s, e, H, ha, hgo, _, h, hQ => by
   obtain ⟨g1, g2, g3, g4⟩ := endG_sound (d := d) ha hgo
   exact hQw _ _ _ _ g4 (hQ _ _ _ _ h g1 g2 g3)
 | o :: l, ζ, num, s, e, H, ha, hgo, hok, h, hQ => by
   have ho := hok o (List.mem_cons_self ..)
   simp only [okOp, Bool.and_eq_true] at ho
   have hdst := dstB_ok ho.1
   have next : ∀ s1, Le d ζ num s ζ num s1 → Next B d ζ num s1 (fun s' => opsT P Γ dr d full l s' k) r (fun e H => bops P N full.toArray (l.map fun o => (kd dr o, o)) e H Q) := fun s1 hle1 =>
     ⟨fun e H e' H' hw h => bops_weak hQw hw h, fun ζ' num' s' H' h' ha' hgo' hle' => opsT_sound hΓ hQw l ζ' num' s' _ H' ha' hgo' (fun o ho => hok o (List.mem_cons_of_mem _ ho)) h' fun ζ2 num2 s2 H2 k1 k2 k3 k4 => hQ ζ2 num2 s2 H2 k1 k2 k3 ((hle1.trans hle').trans k4)⟩
   rw [List.map_cons]
   simp only [bops]
   simp only [opsT] at h
   cases hg : o.guard with
   | none =>
     rw [hg] at h
     obtain ⟨e1, H1, ⟨hw, _⟩, hA⟩ := execT_on hΓ ha hgo (c := []) rfl (fun p hp => by cases hp) (next s (Le.refl _ _ _ _)) h
     exact ⟨e1, H1, hw, hdst, hA⟩
   | some p =>
     obtain ⟨j, w⟩ := p
     rw [hg] at h ho
     dsimp only at h ho
     split at h
     rotate_left
     · cases h
     rename_i sj hsj
     rw [hsj] at ho
     have hsN : sj < N := Nat.le_of_ble_eq_true ho.2
     split at h
     rotate_left
     · cases h
     rename_i s1 cj hreg
     obtain ⟨ha', hgo', hle', hrows', henv', b, a0, lv0, hgq, hfq, hcc, hsame⟩ := regG_sound (d := d) ha hgo hreg
     have hcr : ∀ p ∈ (sj, w) :: cj, ∃ b, getG s1.gs p.1 = some b := fun p hp => by
       rcases List.mem_cons.1 hp with rfl | hp
       · exact ⟨b, hgq⟩
       · exact hcc p hp
     have hhc : zAz s1.gs ((sj, w) :: cj) = ((b == w) && zAz s1.gs cj) := by
       unfold zAz
       rw [List.all_cons]
       dsimp only
       rw [hgq]
     have hat : ∀ rf, zCn num { s1 with rows := rf } sj = if zAz s1.gs cj = true then .v (.bool b) else .v undef := fun rf => by
       unfold zCn
       dsimp only
       rw [henv', hfq]
       rfl
     cases hcj : zAz s1.gs cj with
     | false =>
       obtain ⟨e1, H1, ⟨hw, rf, hrf⟩, hA⟩ := execT_off ha' hgo' (by rw [hhc, hcj]; simp) hcr (next s1 hle') h
       refine ⟨e1, H1, hw, hdst, sj, by rw [gslot_slot]; exact hsj, hsN, .inr ⟨by rw [hrf, hat, hcj]; rfl, hA⟩⟩
     | true =>
       by_cases hbw : b = w
       · obtain ⟨e1, H1, ⟨hw, rf, hrf⟩, hA⟩ := execT_on hΓ ha' hgo' (by rw [hhc, hcj, hbw]; simp) hcr (next s1 hle') h
         exact ⟨e1, H1, hw, hdst, sj, by rw [gslot_slot]; exact hsj, hsN, .inl ⟨b, by rw [hrf, hat, hcj]; rfl, fun _ => hA, fun hn => absurd hbw hn⟩⟩
       · obtain ⟨e1, H1, ⟨hw, rf, hrf⟩, hA⟩ := execT_off ha' hgo' (by rw [hhc, hcj]; simp [hbw]) hcr (next s1 hle') h
         exact ⟨e1, H1, hw, hdst, sj, by rw [gslot_slot]; exact hsj, hsN, .inl ⟨b, by rw [hrf, hat, hcj]; rfl, fun hn => absurd hn hbw, fun _ => hA⟩⟩
end
end Go.T
namespace Go.Ab
variable [Go.Ab.DM]
def planOkH (ops : Array Oper) : List (OpKind × Nat) → Array Bool → Bool
 | [], L => (Region.ready .any ops L).isEmpty
 | (.pure, i) :: r, L => Region.free .any ops L i && (Region.ready .any ops L).contains i && planOkH ops r (L.setIfInBounds i true)
 | (.load, _) :: _, _ => false
 | (.keep, i) :: r, L => Region.ready .any ops L == [i] && planOkH ops r (L.setIfInBounds i true)
 | (.wr, i) :: r, L => Region.ready .any ops L == [i] && planOkH ops r (L.setIfInBounds i true)
def goodPlanH (ops : Array Oper) (i : Nat) (plan : List (OpKind × Nat)) : Bool :=
 Region.free .any ops (Array.replicate ops.size false) i && (Region.ready .any ops (Array.replicate ops.size false)).contains i && planOkH ops plan ((Array.replicate ops.size false).setIfInBounds i true) && Region.noSelect ops && plan.length + 1 == ops.size
def Sx (own : Nat → Own) (H : Heap) (X : Nat → Prop) (w w' : World) : Prop := ∀ b, zAL own H X w b → w'.heap[b]? = w.heap[b]?
section
variable {P : Program} {f : FuncId} {N n0 : Nat} {R : D → Heap → Prop} {K : List Item} {ops : Array Oper}
theorem load_fp {t : TypeId} {H : Heap} {own X w} {d : D} {v : Value} {k : Nat} {xs : List D} {i o : Nat} (ha : Rel own H X w (.fp k xs i o) v) (h : ldD P t H (.fp k xs i o) = some d) :
   ∃ x, (∀ w' : World, Sx own H X w w' → (Instr.loadAt t v).run P w' = .ok x w') ∧ Rel own H X w d x := by
 unfold ldD at h
 split at h
 · rename_i tg sz htg hsz
   dsimp only at h
   cases hx : xs[i]? with
   | none => simp [hx] at h
   | some e =>
     simp [hx] at h
     rw [Rel, VRel] at ha; obtain ⟨b, off, rfl, h1, h2⟩ := ha
     have he := Cells_get h2 hx
     obtain ⟨x, h8, h9⟩ := elem_load htg hsz he h
     exact ⟨x, fun w' hw' => by simpa [Instr.loadAt, Instr.sureAddr] using h8 w' (hw' _ h1), VRel_zero h9⟩
 · simp at h
theorem hdraw_sound (hsel : Region.noSelect ops = true) {own0 : Nat → Own} {H0 : Heap} {w0 : World} {X : Nat → Prop} : ∀ (plan : List (OpKind × Nat)) (L : Array Bool) (e : Env) (H : Heap), planOkH ops plan L = true →
   bops P N ops (zAx ops plan) e H (fun e' H' => Run P f N n0 R K e' H') → ∀ own w tmps, Ext X own0 H0 w0 own H w → tmps.size = N → Sim own H X w → EnvRel own H X w tmps e →
   wpAnyH P .any ops (RegQ P f N n0 R K X own0 H0 w0) (Sx own0 H0 X w0) plan.length L ⟨tmps, []⟩ w
 | [], L, e, H, hp, ha, own, w, tmps, hx, hN, hs, he => ⟨by simpa [planOkH] using hp, own, H, e, hN, rfl, hs, he, hx, ha⟩
 | (k, i) :: r, L, e, H, hp, ha, own, w, tmps, hx, hN, hs, he => by
   have hready : i ∈ Region.ready .any ops L := by
     cases k <;> simp only [planOkH, Bool.and_eq_true] at hp
     · simpa using hp.1.2
     · cases hp
     · have := hp.1; rw [beq_iff_eq] at this; rw [this]; simp
     · have := hp.1; rw [beq_iff_eq] at this; rw [this]; simp
   obtain ⟨_, o, hi, _⟩ := mem_ready.1 hready
   have hpl : zAx ops ((k, i) :: r) = (k, o) :: zAx ops r := by simp [zAx, hi]
   rw [hpl] at ha
   simp only [bops] at ha
   obtain ⟨e1, H1', hweak, hd, ha⟩ := ha
   obtain ⟨hs1, hx1, he1⟩ := hweak own X w hs
   have hx := Ext.trans hx hx1
   have he : EnvRel own H1' X w tmps e1 := fun q => he1 q _ (he q)
   have hs := hs1
   clear hs1 hx1 he1
   revert hx he hs
   generalize H1' = H at *
   generalize e1 = e at *
   intro hx he hs
   have hρ : ∀ x, Rel own H X w (ev e x) ((⟨tmps, []⟩ : Act).eval x) := fun x => he.eval x
   have hcase : (Region.wanted o (yielded ops tmps) = true ∧ zDG P k o e H fun d H' => bops P N ops (zAx ops r) (updO e o.dst d) H' fun e' H' => Run P f N n0 R K e' H') ∨ (Region.wanted o (yielded ops tmps) = false ∧ bops P N ops (zAx ops r) (updO e o.dst (.v undef)) H fun e' H' => Run P f N n0 R K e' H') := by
     split at ha
     · rename_i hg; exact .inl ⟨by simp [Region.wanted, hg], ha⟩
     · rename_i j want hg
       obtain ⟨s, h1, h2, ⟨b, h3, h4, h5⟩ | ⟨h3, h4⟩⟩ := ha
       · by_cases hbw : b = want
         · exact .inl ⟨by simp [Region.wanted, hg, zCZ h1 h2 hN he h3, hbw], h4 hbw⟩
         · exact .inr ⟨by simp [Region.wanted, hg, zCZ h1 h2 hN he h3, hbw], h5 hbw⟩
       · exact .inr ⟨by simp [Region.wanted, hg, yielded_undef h1 h2 hN he h3], h4⟩
   have next : ∀ (e' : Env) (own1 : Nat → Own) (d : D) (H1 : Heap) (v : Value) (w1 : World), planOkH ops r (L.setIfInBounds i true) = true → e' = updO e o.dst d → Sim own1 H1 X w1 → Rel own1 H1 X w1 d v → Ext X own H w own1 H1 w1 →
       (bops P N ops (zAx ops r) e' H1 fun e' H' => Run P f N n0 R K e' H') → Sx own0 H0 X w0 w1 ∧ wpAnyH P .any ops (RegQ P f N n0 R K X own0 H0 w0) (Sx own0 H0 X w0) r.length (L.setIfInBounds i true) ((⟨tmps, []⟩ : Act).put o.dst v) w1 := by
     intro e' own1 d H1 v w1 hp' he' h1 h2 h3 h4
     subst he'
     have h5 := (he.ext h3).put (o := o.dst) (by rw [hN]; exact hd) h2 []
     have hsz := put_size (tmps := tmps) (ds := []) (o := o.dst) (v := v)
     have hdf := put_defers (tmps := tmps) (ds := []) (o := o.dst) (v := v)
     generalize (⟨tmps, []⟩ : Act).put o.dst v = a at *
     obtain ⟨tm, df⟩ := a
     simp at hsz hdf; subst hdf
     have hx1 := Ext.trans hx h3
     exact ⟨fun b hb => (hx1.hb b hb).2, hdraw_sound hsel r _ _ H1 hp' h4 own1 w1 tm hx1 (by rw [hsz, hN]) h1 h5⟩
   have hundef : Rel own H X w (.v undef) undef := by simp [Rel, VRel]
   have hSx : Sx own0 H0 X w0 w := fun b hb => (hx.hb b hb).2
   cases k with
   | pure =>
     simp only [planOkH, Bool.and_eq_true] at hp
     rcases hcase with ⟨hw, ha⟩ | ⟨hw, ha⟩
     · obtain ⟨v, d, h1, h2, h3⟩ := apure_sound hs hρ ha
       exact wpAnyH_first hi (Region.noSelect_spec hsel) (fun c a w h => zCO h) _ _ _ _ (Region.free_spec hi hp.1.1) hready (.inl ⟨hw, fun w' _ => h1 w'⟩) hSx (next _ own d H v w hp.2 rfl hs h2 (.refl _ _ _) h3).2
     · exact wpAnyH_first hi (Region.noSelect_spec hsel) (fun c a w h => zCO h) _ _ _ _ (Region.free_spec hi hp.1.1) hready (.inr ⟨hw, rfl⟩) hSx (next _ own _ H undef w hp.2 rfl hs hundef (.refl _ _ _) ha).2
   | load => simp only [planOkH] at hp; cases hp
   | keep =>
     simp only [planOkH, Bool.and_eq_true, beq_iff_eq] at hp
     refine ⟨fun h => (by rw [h] at hready; cases hready), fun j hj => ?_⟩
     rw [hp.1, List.mem_singleton] at hj
     subst hj
     unfold wpOp
     simp only [hi]
     rcases hcase with ⟨hw, ha⟩ | ⟨hw, ha⟩
     · simp only [hw, if_true]
       left
       have hk := aKeep_sound hs hρ ha
       unfold Oper.wp
       generalize (execOp (⟨tmps, []⟩ : Act).eval o).run P w = res at hk
       cases res with
       | halt x w' => exact hk.elim
       | ok n w1 =>
         cases n with
         | value v =>
           obtain ⟨own1, d, H1, h1, h2, h3, h4⟩ := hk
           exact next _ own1 d H1 v w1 hp.2 rfl h1 h2 h3.1 h4
         | enter g args =>
           refine Calls.mono hk fun en w' hh => ?_
           obtain ⟨own1, d, H1, v, rfl, h1, h2, h3, h4⟩ := hh
           exact next _ own1 d H1 v w' hp.2 rfl h1 h2 h3.1 h4
         | _ => exact hk.elim
     · simp only [hw, Bool.false_eq_true, if_false]
       exact next _ own _ H undef w hp.2 rfl hs hundef (.refl _ _ _) ha
   | wr =>
     simp only [planOkH, Bool.and_eq_true, beq_iff_eq] at hp
     refine ⟨fun h => (by rw [h] at hready; cases hready), fun j hj => ?_⟩
     rw [hp.1, List.mem_singleton] at hj
     subst hj
     unfold wpOp
     simp only [hi]
     rcases hcase with ⟨hw, ha⟩ | ⟨hw, ha⟩
     · simp only [hw, if_true]
       left
       have hk := aMut_sound (C := fun d H' => bops P N ops (zAx ops r) (updO e o.dst d) H' fun e' H' => Run P f N n0 R K e' H') hs hρ ha
       unfold Oper.wp
       generalize (execOp (⟨tmps, []⟩ : Act).eval o).run P w = res at hk
       cases res with
       | halt x w' => exact hk.elim
       | ok n w1 =>
         cases n with
         | value v =>
           obtain ⟨own1, d, H1, h1, h2, h3, h4⟩ := hk
           exact next _ own1 d H1 v w1 hp.2 rfl h1 h2 h3 h4
         | skip =>
           obtain ⟨own1, H1, h1, h3, h4⟩ := hk
           exact next _ own1 _ H1 undef w1 hp.2 rfl h1 (by simp [Rel, VRel]) h3 h4
         | enter g args =>
           refine Calls.mono hk fun en w' hh => ?_
           obtain ⟨own1, d, H1, v, rfl, h1, h2, h3, h4⟩ := hh
           exact next _ own1 d H1 v w' hp.2 rfl h1 h2 h3 h4
         | _ => exact hk.elim
     · simp only [hw, Bool.false_eq_true, if_false]
       exact next _ own _ H undef w hp.2 rfl hs hundef (.refl _ _ _) ha
theorem run_hdraw {id : Nat} {l : List Oper} {e : Env} {H : Heap} (i : Nat) (plan : List (OpKind × Nat)) (hm : P.follows .mixedOrders = true) (hp : goodPlanH l.toArray i plan = true) {o : Oper} {t : TypeId} {a : Operand} (hi : l[i]? = some o) (ho : o.op = .load t a) (hg : o.guard = none) (hd : dstOk N o.dst)
   (h : ∃ e1 H1, WeakS e H e1 H1 ∧ ∃ k xs j off d, ev e1 a = .fp k xs j off ∧ ldD P t H1 (.fp k xs j off) = some d ∧ bops P N l.toArray (zAx l.toArray plan) (updO e1 o.dst d) H1 fun e' H' => Run P f N n0 R K e' H') : Run P f N n0 R (.code (.region id l.toArray true) :: K) e H := by
 obtain ⟨e1, H1, hw, k, xs, j, off, d, h1, h2, h3⟩ := h
 refine zDT hw ?_
 clear hw
 intro hn own X w tmps cs hN hsim henv
 simp only [goodPlanH, Bool.and_eq_true, beq_iff_eq] at hp
 have hwh : ({ w with drawn := w.drawn + 1 } : World).heap = w.heap := rfl
 have hext := ext_drawn (X := X) own H1 w _ hwh
 have hs' := sim_drawn hwh hsim
 have he' := henv.ext hext
 have hi' : l.toArray[i]? = some o := by simpa using hi
 have hr : i ∈ Region.ready .any l.toArray (Array.replicate l.toArray.size false) := by simpa using hp.1.1.1.2
 have hav : Rel own H1 X { w with drawn := w.drawn + 1 } (.fp k xs j off) ((⟨tmps, []⟩ : Act).eval a) := by have := he'.eval (ds := []) a; rwa [h1] at this
 obtain ⟨x, h4, h5⟩ := load_fp (P := P) hav h2
 have hany : wpAnyH P .any l.toArray (RegQ P f N n0 R K X own H1 w) (Sx own H1 X w) (plan.length + 1) (Array.replicate l.toArray.size false) ⟨tmps, []⟩ { w with drawn := w.drawn + 1 } := by
   refine wpAnyH_first hi' (Region.noSelect_spec hp.1.2) (fun c a w h => zCO h) _ _ _ _ (Region.free_spec hi' hp.1.1.1.1) hr (v := x) (.inl ⟨by simp [Region.wanted, hg], fun w' hw' => ?_⟩) (fun _ _ => rfl) ?_
   · simp only [execOp, ho, Sem.run_bind, h4 w' hw', Result.andThen_ok, Sem.run_pure]
   · have h6 := he'.put (o := o.dst) (by rw [hN]; exact hd) h5 []
     have hsz := put_size (tmps := tmps) (ds := []) (o := o.dst) (v := x)
     have hdf := put_defers (tmps := tmps) (ds := []) (o := o.dst) (v := x)
     generalize (⟨tmps, []⟩ : Act).put o.dst x = a' at *
     obtain ⟨tm, df⟩ := a'
     simp at hsz hdf; subst hdf
     exact hdraw_sound (f := f) (n0 := n0) (R := R) (K := K) hp.1.2 plan _ _ H1 hp.1.1.2 h3 own _ tm hext (by rw [hsz, hN]) hs' h6
 rw [hp.2] at hany
 have hwp : (Code.region id l.toArray true).wp P (RegQ P f N n0 R K X own H1 w) ⟨tmps, []⟩ w := wp_region_held hm hany
 obtain ⟨ex, a', w', hq, harr⟩ := hwp (frameOf f) K cs
 cases ex with
 | normal =>
   obtain ⟨own1, H2, e2, h1, h2, h3, h4, h5, h6⟩ := hq
   obtain ⟨tm, df⟩ := a'
   simp at h1 h2; subst h2
   exact Fin.of_steps hn h5 harr (h6 (Nat.le_trans hn h5.hn) own1 X w' tm cs h1 h3 h4)
 | _ => exact hq.elim
end
end Go.Ab
namespace Go.T
open Go.Ab
variable [Go.Ab.DM]
section
variable {P : Program} {B : Base} {ζ : Nat → Row} {num : Nat → Nat} {s : St} {e : Env} {H : Heap} {R : Type} {r : R}
theorem frzLd_sound {d : Nat} {o : Oper} {k : St → Option R} {T : Env → Heap → Prop} (ha : Abs B ζ num s e H) (hgo : GOk d s) (hN : Next B d ζ num s k r T) (h : frzLd P d o s k = some r) :
   o.guard = none ∧ ∃ t a, o.op = .load t a ∧ ∃ e1 H1, WeakS e H e1 H1 ∧ ∃ kk xs j off dd, ev e1 a = .fp kk xs j off ∧ ldD P t H1 (.fp kk xs j off) = some dd ∧ T (updO e1 o.dst dd) H1 := by
 unfold frzLd at h
 split at h
 rotate_left
 · cases h
 rename_i t a ho hg
 split at h
 rotate_left
 · cases h
 rename_i q off y hv
 split at h
 rotate_left
 · cases h
 rename_i u x hrow
 obtain ⟨ha1, hw1⟩ := fr_abs ha (zBe d [q] s.rows)
 have hle1 : Le d ζ num s ζ num { s with rows := zAi d [q] 0 s.rows } := fr_Le d [q]
 have hgo1 : GOk d { s with rows := zAi d [q] 0 s.rows } := ⟨hgo.c, hgo.lv⟩
 refine ⟨hg, t, a, ho, _, _, hw1, ?_⟩
 have hev := (zAM ha1 (c := []) rfl hv).1
 have hA := pureT_sound ha1 (.inl rfl) (c := []) rfl h (C := fun dd H' => T (updO (zCn num { s with rows := zAi d [q] 0 s.rows }) o.dst dd) H') fun v hk hv dd hd => put_next hN (same_step (d := d) ha1 hd hv) hle1 hgo1 rfl (fun p hp => by cases hp) hk
 have hkd : zAE o = .load := by unfold zAE; rw [ho]
 rw [hkd] at hA
 simp only [zDG, aLoad, ho] at hA
 obtain ⟨dd, h1, h2⟩ := hA
 have he : enc (zAB num (zAi d [q] 0 s.rows)) ⟨.p0 q off, y⟩ = .fp u.w [e0 u x] 0 off := by
   show p0D (num q) off (zAA (zAi d [q] 0 s.rows) q) = _
   rw [hrow]; rfl
 rw [he] at hev
 rw [hev] at h1
 exact ⟨_, _, _, _, dd, hev, h1, h2⟩
end
end Go.T
namespace Go.T
open Go.Ab
variable [Go.Ab.DM]
def kindAt (ops : Array Oper) (i : Nat) : OpKind := match ops[i]? with | some o => kd true o | none => .pure
def wf (N : Nat) : Code → Hint → Bool
 | .seq a b, h => (match h with
   | .j _ ha hb => wf N a ha && wf N b hb
   | .n ha hb => wf N a ha && wf N b hb
   | _ => wf N a .o && wf N b .o)
 | .cond _ x y, h => (match h with
   | .n hx hy => wf N x hx && wf N y hy
   | _ => wf N x .o && wf N y .o)
 | .block _ b, h => (match h with
   | .jb _ hb => wf N b hb
   | .b hb => wf N b hb
   | _ => wf N b .o)
 | .loop b, h => (match h with
   | .l _ hb => wf N b hb
   | .u _ hb => wf N b hb
   | .lm _ _ hb => (match b with
     | .seq (.region _ ops false) rest => ops.toList.all (okOp N ops.toList) && wf N rest hb
     | _ => false)
   | _ => true)
 | .region _ ops draw, h => (match draw, h with
   | false, _ => ops.toList.all (okOp N ops.toList)
   | true, .r plan => ops.toList.all (okOp N ops.toList) && goodPlan ops (plan.map fun i => (kindAt ops i, i))
   | true, .rf i plan => ops.toList.all (okOp N ops.toList) && goodPlanH ops i (plan.map fun i => (kindAt ops i, i))
   | true, _ => true)
 | _, _ => true
omit [Go.Ab.DM] in
theorem iter_some {S E : Type} {body : S → Option (S ⊕ E)} {x : S} {r : E} (h : iter body x = some r) : ∃ n, iterN body n x = some r := by
 unfold iter at h
 split at h
 · rename_i hx
   have h2 := Classical.choose_spec (Classical.choose_spec hx)
   rw [Option.some.inj h] at h2
   exact ⟨_, h2⟩
 · cases h
theorem planned_ops {ops : Array Oper} : ∀ plan : List Nat, zAx ops (plan.map fun i => (kindAt ops i, i)) = (planOps ops.toList plan).map fun o => (kd true o, o)
 | [] => rfl
 | i :: plan => by
   have ih := planned_ops (ops := ops) plan
   unfold zAx at ih ⊢
   rw [List.map_cons, List.filterMap_cons, ih]
   simp only [planOps, kindAt]
   have : ops.toList[i]? = ops[i]? := by simp
   rw [this]
   cases ops[i]? <;> rfl
theorem planOps_mem {l : List Oper} {o : Oper} : ∀ {plan : List Nat}, o ∈ planOps l plan → o ∈ l
 | [], h => by cases h
 | i :: plan, h => by
   simp only [planOps] at h
   split at h
   · rename_i o' ho
     rcases List.mem_cons.1 h with rfl | h
     · exact List.mem_of_getElem? ho
     · exact planOps_mem h
   · exact planOps_mem h
section
variable {P : Program} {Γ : List Con} {B : Base} {f : FuncId} {N n0 : Nat} {Rp : D → Heap → Prop}
def Cont (P : Program) (f : FuncId) (N n0 : Nat) (Rp : D → Heap → Prop) (B : Base) (d : Nat) (ζ : Nat → Row) (num : Nat → Nat) (s : St) {R : Type} (k : St → Option R) (r : R) (K : List Item) : Prop :=
 ∀ ζ' num' s' e' H', k s' = some r → Abs B ζ' num' s' e' H' → Plain s' → Le d ζ num s ζ' num' s' → Run P f N n0 Rp K e' H'
theorem Le.mono {d d' : Nat} {ζ num s ζ' num' s'} (h : Le d' ζ num s ζ' num' s') (hd : d ≤ d') : Le d ζ num s ζ' num' s' :=
 ⟨fun n ent h1 h2 => h.env n ent h1 (Nat.lt_of_lt_of_le h2 hd), fun r lv h1 h2 => h.rows r lv h1 (Nat.lt_of_lt_of_le h2 hd)⟩
theorem Cont.from {d d' : Nat} {ζ num s ζ1 num1 s1} {R : Type} {k : St → Option R} {r : R} {K : List Item} (h : Cont P f N n0 Rp B d ζ num s k r K) (hle : Le d ζ num s ζ1 num1 s1) (hd : d ≤ d') : Cont P f N n0 Rp B d' ζ1 num1 s1 k r K :=
 fun ζ' num' s' e' H' h1 h2 h3 h4 => h ζ' num' s' e' H' h1 h2 h3 (hle.trans (h4.mono hd))
theorem unpack_plain {d : Nat} {σ : Sig} {x : σ.I} {s : St} (h : Plain s) : Plain (zAn d σ x s) := by
 refine ⟨rfl, fun n ent hf => ?_⟩
 have hf : zAh (slotE d σ.slots (zBt (σ.slots.map (·.2)) (zAI (zAT σ.tys) x)).1 ++ keepE s.env σ.keep) n = some ent := hf
 rw [findE_app] at hf
 split at hf
 · rename_i e he
   have := Option.some.inj hf; subst this
   have : ∀ (l : List (Nat × Ty)) (us : List TV) (e : Ent), zAh (slotE d l us) n = some e → e.c = [] := by
     intro l
     induction l with
     | nil => intro us e h; cases h
     | cons p l ih =>
       intro us e h
       cases us with
       | nil => cases h
       | cons u us =>
         simp only [slotE, zAh] at h
         cases hb : Nat.beq p.1 n with
         | true => rw [hb, cond_true] at h; have := Option.some.inj h; subst this; rfl
         | false => rw [hb] at h; exact ih us e h
   exact this _ _ _ he
 · exact h.c n ent (keepE_at hf).1
theorem getX_map {R R' : Type} {g : (St → Option R) → St → Option R'} : ∀ {ex : List (Nat × (St → Option R))} {i : Nat} {k' : St → Option R'}, getX (mapX g ex) i = some k' → ∃ k, getX ex i = some k ∧ k' = g k
 | [], i, k', h => by cases h
 | p :: ex, i, k', h => by
   simp only [mapX, getX] at h ⊢
   cases hb : Nat.beq p.1 i with
   | true => rw [hb, cond_true] at h; exact ⟨p.2, rfl, (Option.some.inj h).symm⟩
   | false => rw [hb] at h; exact getX_map h
structure Outs (P : Program) (f : FuncId) (N n0 : Nat) (Rp : D → Heap → Prop) (B : Base) (ζ : Nat → Row) (num : Nat → Nat) (s : St) {R : Type} (cx : Cx R) (r : R) (K : List Item) : Prop where
 ex : ∀ i k', getX cx.ex i = some k' → ∃ K', exitTo i K = some K' ∧ Cont P f N n0 Rp B cx.d ζ num s k' r K'
 ret : ∀ K', Cont P f N n0 Rp B cx.d ζ num s cx.ret r (.code .ret :: K')
theorem Outs.from {ζ num s ζ1 num1 s1} {R : Type} {cx : Cx R} {r : R} {K : List Item} (h : Outs P f N n0 Rp B ζ num s cx r K) (hle : Le cx.d ζ num s ζ1 num1 s1) : Outs P f N n0 Rp B ζ1 num1 s1 cx r K :=
 ⟨fun i k' hk => by obtain ⟨K', h1, h2⟩ := h.ex i k' hk; exact ⟨K', h1, h2.from hle (Nat.le_refl _)⟩, fun K' => (h.ret K').from hle (Nat.le_refl _)⟩
theorem upR_inr {R S : Type} {k : St → Option R} {s : St} {r : R} (h : upR S k s = some (.inr r)) : k s = some r := by
 unfold upR at h
 cases hk : k s with
 | none => rw [hk] at h; cases h
 | some r' => rw [hk] at h; cases h; rfl
theorem upR_inl {R S : Type} {k : St → Option R} {s : St} {x : S} (h : upR S k s = some (.inl x)) : False := by
 unfold upR at h
 cases hk : k s with
 | none => rw [hk] at h; cases h
 | some r' => rw [hk] at h; cases h
theorem Outs.innerR {ζ num s ζ1 num1 s1} {R S : Type} {cx : Cx R} {r : R} {K : List Item} (h : Outs P f N n0 Rp B ζ num s cx r K) (hle : Le (cx.d + 1) ζ num s ζ1 num1 s1) : Outs P f N n0 Rp B ζ1 num1 s1 (cx.inner S) (.inr r) K :=
 ⟨fun i k' hk => by
   obtain ⟨k0, h1, h2⟩ := getX_map hk
   obtain ⟨K', h3, h4⟩ := h.ex i k0 h1
   refine ⟨K', h3, fun ζ' num' s' e' H' h5 h6 h7 h8 => ?_⟩
   subst h2
   exact h4 ζ' num' s' e' H' (upR_inr h5) h6 h7 ((hle.mono (Nat.le_succ _)).trans (h8.mono (Nat.le_succ _))),
  fun K' ζ' num' s' e' H' h5 h6 h7 h8 => h.ret K' ζ' num' s' e' H' (upR_inr h5) h6 h7 ((hle.mono (Nat.le_succ _)).trans (h8.mono (Nat.le_succ _)))⟩
theorem Outs.innerL {ζ num s ζ1 num1 s1} {R S : Type} {cx : Cx R} {r : R} {x : S} {K : List Item} (h : Outs P f N n0 Rp B ζ num s cx r K) : Outs P f N n0 Rp B ζ1 num1 s1 (cx.inner S) (.inl x) K :=
 ⟨fun i k' hk => by
   obtain ⟨k0, h1, h2⟩ := getX_map hk
   obtain ⟨K', h3, h4⟩ := h.ex i k0 h1
   refine ⟨K', h3, fun ζ' num' s' e' H' h5 h6 h7 h8 => ?_⟩
   subst h2
   exact (upR_inl h5).elim,
  fun K' ζ' num' s' e' H' h5 h6 h7 h8 => (upR_inl h5).elim⟩
theorem map_inl {R S : Type} {o : Option S} {x : S} (h : (o.map Sum.inl : Option (S ⊕ R)) = some (.inl x)) : o = some x := by
 cases o with
 | none => cases h
 | some y => cases h; rfl
theorem map_inl_r {R S : Type} {o : Option S} {r : R} (h : (o.map Sum.inl : Option (S ⊕ R)) = some (.inr r)) : False := by
 cases o <;> cases h
theorem join_some {S R : Type} {o : Option (S ⊕ R)} {k : S → Option R} {r : R} (h : join o k = some r) : (∃ x, o = some (.inl x) ∧ k x = some r) ∨ o = some (.inr r) := by
 unfold join at h
 cases o with
 | none => cases h
 | some v =>
   cases v with
   | inl x => exact .inl ⟨x, rfl, h⟩
   | inr r' => have := Option.some.inj (show some r' = some r from h); subst this; exact .inr rfl
theorem cont_join {R : Type} {d : Nat} {ζ num s} {σ : Sig} {k2 : St → Option R} {r : R} {K : List Item} {k : Nat} (hk : B.k = k) (hp : Plain s) (x : σ.I) (h : k2 (zAn d σ x s) = some r)
   (hC : Cont P f N n0 Rp B d ζ num s k2 r K) : Cont P f N n0 Rp B (d + 1) ζ num s (fun s' => ((pack k d σ s').map .inl : Option (σ.I ⊕ R))) (.inl x) K := fun ζ' num' s' e' H' h1 h2 h3 h4 => by
 obtain ⟨ζ2, num2, H2, g1, g2, g3⟩ := unpack_sound hk (Nat.le_refl d) h2 h4 (map_inl h1)
 exact zDT g1 (hC ζ2 num2 _ _ H2 h g2 (unpack_plain hp) g3)
end
end Go.T
