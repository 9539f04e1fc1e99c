/- Part 5 of what the claim leans on: TRange, TWalk2, TEnd, TShift, TCon, TRead, TLaw, TArgs, TSpec, TSort, TSortS, TPlain, TIter, TAssoc, QMix, QT, QCheckS. -/
import Derived.Test.YtfibkbmlgigemaaM4
import Derived.Calls
import Derived.KernelRfl
import Derived.Orders
import Derived.Laws.Sem
import Derived.Laws.CopyRow
import Derived.Laws.Cells
import Derived.Room.Entries
import Derived.Lib.Overlaps
import GoSem.Conv.BytesToString
import Derived.OrdersHeld
import Derived.ProofKit
import Derived.OpenShut
import Derived.Carry
import Derived.Shelf.SlSortCmp.InsertionK
import Derived.Shelf.Sort.Plain
import Derived.Test.YtfibkbmlgigemaaProg
set_option linter.unusedVariables false
set_option linter.unusedSectionVars false
set_option linter.unusedSimpArgs false
namespace Go.T
open Go.Ab
variable [Go.Ab.DM]
section
variable {B : Base} {ζ ζ' : Nat → Row} {num num' : Nat → Nat} {s : St} {e : Env} {H H' : Heap}
theorem gone_abs {d q : Nat} (ha : Abs B ζ num s e H) (hql : q < s.rows.length) (hmp : ∀ a b l, zAA s.rows q ≠ .mp a b l) :
   Abs B ζ num (zCg q d .gone s) (zCn num (zCg q d .gone s)) H ∧ Le d ζ num s ζ num (zCg q d .gone s) ∧ WeakS e H (zCn num (zCg q d .gone s)) H := by
 unfold zCg
 have hat : ∀ r, zAA (setRow s.rows q d .gone) r = if r = q then .gone else zAA s.rows r := fun r => by rw [zCw]; simp [hql]
 have hne : ∀ r, r ≠ q → zAA (setRow s.rows q d .gone) r = zAA s.rows r := fun r h => by rw [hat, if_neg h]
 have heq : zAA (setRow s.rows q d .gone) q = .gone := by rw [hat, if_pos rfl]
 have hchg : ∀ r, r < s.rows.length → RefTl (num r) (zAA s.rows r) (num r) (zAA (setRow s.rows q d .gone) r) := fun r hr => by
   by_cases h : r = q
   · subst h; rw [heq]; exact RefTl.gone _ _ _
   · exact RefTl.of_eq rfl (hne r h)
 have hle : RowsLe s.rows (setRow s.rows q d .gone) := ⟨by rw [zBp]; exact Nat.le_refl _, fun r hr hl => by
   by_cases h : r = q
   · subst h; rw [heq] at hl; simp [zAO] at hl
   · rw [hne r h] at hl ⊢; exact ⟨hl, rfl⟩⟩
 have cls : ∀ r, zAQ (zAA (setRow s.rows q d .gone) r) = true → r ≠ q ∧ zAQ (zAA s.rows r) = true := fun r hl => by
   by_cases h : r = q
   · subst h; rw [heq] at hl; simp [zAQ] at hl
   · rw [hne r h] at hl; exact ⟨h, hl⟩
 refine ⟨⟨rfl, ⟨fun r => ?_, fun r z h1 h2 hrz => ha.hrel.inj r z (cls r h1).2 (cls z h2).2 hrz, fun r t x h => ?_⟩, fun n ent h1 h2 => zCs hle _ _ (ha.ok n ent h1 h2), ha.gs, fun r hl => ha.base r (cls r hl).2, ha.hlen, by show B.k ≤ (setRow _ _ _ _).length; rw [zBp]; exact ha.klen, lens_le ha.lens ha.klen hle⟩, ⟨fun n ent h _ => h, fun r lv h1 h2 => ?_⟩, WeakS.env fun i => ?_⟩
 · by_cases h : r = q
   · subst h; show zBw _ _ _ _ _ (zAA (setRow _ _ _ _) _); rw [heq]; trivial
   · refine row_keep (ha.hrel.row r) (fun t x hx => ha.hrel.ok r t x hx) (hne r h) rfl rfl (fun _ => rfl) (fun m a b l hm _ => ?_) hchg
     have hmq : m ≠ q := by intro hmq; subst hmq; exact hmp a b l hm
     exact ⟨by rw [hne m hmq]; exact hm, rfl, rfl⟩
 · have h : zAA (setRow s.rows q d .gone) r = .one t x := h
   by_cases h' : r = q
   · subst h'; rw [heq] at h; cases h
   · rw [hne r h'] at h; exact zCs hle t x (ha.hrel.ok r t x h)
 · have h1 : zAP (setRow s.rows q d .gone) r = some lv := h1
   rw [zBX] at h1
   by_cases h : r = q
   · subst h; rw [if_pos ⟨rfl, hql⟩] at h1; have := Option.some.inj h1; omega
   · rw [if_neg (fun h' => h h'.1)] at h1; exact ⟨h1, hne r h, rfl, rfl⟩
 · rw [ha.env]
   unfold zCn
   dsimp only
   cases hf : zAh s.env i with
   | none => exact Tl.any _
   | some ent =>
     simp only [entD]
     cases hh : zAz s.gs ent.c with
     | false => exact Tl.refl _
     | true => simp only [if_true]; exact encV_chg hchg (ha.ok i ent hf hh)
theorem it_step {d q m : Nat} (ha : Abs B ζ num s e H) (hq : zAA s.rows q = .itb m ∨ ∃ k v x y, zAA s.rows q = .ite m k v x y) {k v : Ty} {l : List (k.I × v.I)} {x : k.I} {y : v.I} {since : Nat} {seen : List Nat} {b : Nat} {es : MapD} {cl : Nat} {dv : D}
   (hm : zAA s.rows m = .mp k v l) (hes : H.get (num m) = some (.mp es cl)) (hfind : es.find? (fun p => p.1 == b) = some (b, keyV k x, dv)) (he0 : e0 k x = .v (keyV k x)) (hkp : k.pure = true) (htl : Tl dv (e0 v y)) :
   Step B d ζ num s e (.tup [.v (.bool true), .v (keyV k x), dv]) (H.set (num q) (some (.it (num m) since (seen ++ [b]) cl))) (tupV [⟨.tt, ()⟩, ⟨k, x⟩, ⟨v, y⟩]) (zCg q d (.ite m k v x y) s) (updN ζ q (.it (num m) since (seen ++ [b]) cl)) num (H.set (num q) (some (.it (num m) since (seen ++ [b]) cl))) := by
 have hql : q < s.rows.length := zAo (by rcases hq with h | ⟨_, _, _, _, h⟩ <;> rw [h] <;> simp)
 have hl0 : zAQ (zAA s.rows q) = true := by rcases hq with h | ⟨_, _, _, _, h⟩ <;> rw [h] <;> rfl
 have hlm : zAQ (zAA s.rows m) = true := by rw [hm]; rfl
 have hqm : m ≠ q := by intro h; subst h; rcases hq with h | ⟨_, _, _, _, h⟩ <;> rw [hm] at h <;> cases h
 have hvp : v.pure = true := by have := ha.hrel.row m; rw [hm] at this; exact this.2.1
 have hgl := live_lt ha.hrel hl0
 refine set_stepZ ha hql (SameRel.refl _) hl0 ⟨by rw [Heap.get_set H hgl, if_pos rfl, zBd], ⟨k, v, l, by rw [zCi hqm]; exact hm⟩, hkp, hvp, since, seen, b, es, cl, dv, ?_, zBd _ _ _, hfind, he0, htl⟩ ?_ (fun h => by simp [zAO] at h) (fun t x h => by cases h)
   (fun a b l h => by rcases hq with h' | ⟨_, _, _, _, h'⟩ <;> rw [h] at h' <;> cases h') ?_ ?_
 · rw [Heap.get_set H hgl, if_neg (ha.hrel.inj m q hlm hl0 hqm)]; exact hes
 · rcases hq with h | ⟨_, _, _, _, h⟩ <;> rw [h] <;> exact ⟨Tl.refl _, fun _ => Tl.refl _, fun _ => Tl.refl _, fun _ _ => Tl.refl _, Tl.refl _⟩
 · rw [enc_tup]
   refine Tl.tup (.cons (Tl.refl _) (.cons (Tl.of_eq ?_) (.cons ?_ .nil)))
   · rw [← he0]; show (E k _ x).1 = (E k _ x).1; rw [E_pure k hkp]
   · have : enc (zAB num (setRow s.rows q d (.ite m k v x y))) ⟨v, y⟩ = e0 v y := by show (E v _ y).1 = (E v _ y).1; rw [E_pure v hvp]
     rw [this]; exact htl
 · exact ok_tup _ fun u hu => by
     simp only [List.mem_cons, List.not_mem_nil, or_false] at hu
     rcases hu with rfl | rfl | rfl
     · trivial
     · exact zCc k x hkp
     · exact zCc v y hvp
theorem rowIn_none : ∀ {l : List (Nat × RTy)} {r : Nat} (vs : List TV), zBT l r = none → rowIn (zBa l vs) r = none
 | [], r, vs, h => rfl
 | (q, e) :: l, r, vs, h => by
   simp only [zBT] at h
   cases hb : Nat.beq q r with
   | true => rw [hb] at h; cases h
   | false =>
     rw [hb, cond_false] at h
     simp only [zBa]
     cases e.dat.triv with
     | true => simp only [cond_true, rowIn, hb, cond_false]; exact rowIn_none vs h
     | false =>
       simp only [cond_false]
       cases vs with
       | nil => rfl
       | cons v vs => simp only [rowIn, hb, cond_false]; exact rowIn_none vs h
theorem newRows_ne {dl d r : Nat} {x : TRow} {l : List (Nat × TRow)} {base : Rows} : ∀ (n i : Nat), r < i → zBl dl l (setRow base r d x) i n = zBl dl l base i n
 | 0, i, h => rfl
 | n + 1, i, h => by
   simp only [zBl]
   rw [newRows_ne n (i + 1) (by omega), zBX, zCw, if_neg (by omega), if_neg (by omega)]
theorem newRows_set {dl d r : Nat} {x : TRow} {l : List (Nat × TRow)} {base : Rows} (hb : r < base.length) (hl : rowIn l r = none) : ∀ (n i : Nat), i ≤ r → r < i + n → zBl dl l (setRow base r d x) i n = setRow (zBl dl l base i n) (r - i) d x
 | 0, i, h, h' => by omega
 | n + 1, i, h, h' => by
   by_cases hri : r = i
   · subst hri
     rw [Nat.sub_self]
     simp only [zBl, setRow]
     rw [newRows_ne n (r + 1) (Nat.lt_succ_self r), hl, zBX, zCw, if_pos ⟨rfl, hb⟩, if_pos ⟨rfl, hb⟩]
   · obtain ⟨k, hk⟩ : ∃ k, r - i = k + 1 := ⟨r - i - 1, by omega⟩
     rw [hk]
     simp only [zBl, setRow]
     rw [newRows_set hb hl n (i + 1) (by omega) (by omega), show r - (i + 1) = k by omega, zBX, zCw, if_neg (by omega), if_neg (by omega)]
theorem unpack_set {dl d r : Nat} {row : TRow} {σ : Sig} {x : σ.I} (hl : zBT σ.rows r = none) (hr : r < σ.n) (hb : r < s.rows.length) : zAn dl σ x (zCg r d row s) = zCg r d row (zAn dl σ x s) := by
 unfold zAn zCg
 dsimp only
 rw [newRows_set hb (rowIn_none _ hl) σ.n 0 (Nat.zero_le _) (by omega), Nat.sub_zero]
theorem stamp_lt : ∀ (rows : Rows) (r : Nat), r < rows.length → ∃ lv, zAP rows r = some lv
 | [], r, h => absurd h (Nat.not_lt_zero _)
 | p :: rows, 0, h => ⟨_, rfl⟩
 | p :: rows, r + 1, h => stamp_lt rows r (Nat.lt_of_succ_lt_succ h)
theorem unpack_keep {dl r : Nat} {σ : Sig} {x : σ.I} (hl : zBT σ.rows r = none) (hr : r < σ.n) (hb : r < s.rows.length) : zAA (zAn dl σ x s).rows r = zAA s.rows r ∧ zAP (zAn dl σ x s).rows r = zAP s.rows r := by
 have key : ∀ (n i : Nat) (l : List (Nat × TRow)), rowIn l r = none → i ≤ r → r < i + n → zAA (zBl dl l s.rows i n) (r - i) = zAA s.rows r ∧ zAP (zBl dl l s.rows i n) (r - i) = zAP s.rows r := by
   intro n
   induction n with
   | zero => intro i l _ h h'; omega
   | succ n ih =>
     intro i l hl h h'
     by_cases hri : r = i
     · subst hri
       rw [Nat.sub_self]
       simp only [zBl, hl]
       obtain ⟨lv, h1⟩ := stamp_lt s.rows r hb
       rw [h1]
       exact ⟨rfl, rfl⟩
     · obtain ⟨k, hk⟩ : ∃ k, r - i = k + 1 := ⟨r - i - 1, by omega⟩
       rw [hk]
       simp only [zBl, zAA, zAP]
       have := ih (i + 1) l hl (by omega) (by omega)
       rw [show r - (i + 1) = k by omega] at this
       exact this
 have := key σ.n 0 (zBa σ.rows (zBt (σ.slots.map (·.2)) (zAI (zAT σ.tys) x)).2) (rowIn_none _ hl) (Nat.zero_le _) (by omega)
 rw [Nat.sub_zero] at this
 exact this
theorem pack_kept {k d : Nat} {σ : Sig} {x : σ.I} (h : pack k d σ s = some x) {r : Nat} (hr : r < σ.n) (hl : zBT σ.rows r = none) : ∃ lv, zAP s.rows r = some lv ∧ lv ≤ d := by
 unfold pack at h
 split at h
 rotate_left
 · cases h
 dsimp only at h
 obtain ⟨hb, h⟩ := zAW h
 simp only [Bool.and_eq_true] at hb
 obtain ⟨⟨⟨⟨⟨⟨⟨⟨⟨hkeep, hrows⟩, hinj⟩, hbelow⟩, hkb⟩, hsb⟩, hrb⟩, hkr⟩, hkn⟩, hrho⟩ := hb
 obtain ⟨lv, h1, h2⟩ := rowsOk_at hrows r hr hl
 rcases stampAt_freeze _ _ s.rows 0 r lv h1 with h3 | h3
 · omega
 · exact ⟨lv, h3.1, h2⟩
theorem keepE_find {env : List Ent} {n : Nat} {ent : Ent} (hf : zAh env n = some ent) : ∀ {l : List Nat}, n ∈ l → zAh (keepE env l) n = some ent
 | m :: l, h => by
   simp only [keepE]
   by_cases hmn : m = n
   · subst hmn
     rw [hf]
     simp only [zAh]
     rw [findE_s hf, Nat.beq_refl]; rfl
   · have hl : n ∈ l := by rcases List.mem_cons.1 h with h | h; exact absurd h.symm hmn; exact h
     cases hm : zAh env m with
     | none => exact keepE_find hf hl
     | some e0 =>
       simp only [zAh]
       have : Nat.beq e0.s n = false := by
         rw [findE_s hm]
         cases hb : Nat.beq m n with
         | true => rw [Nat.beq_eq] at hb; exact absurd hb hmn
         | false => rfl
       rw [this, cond_false]; exact keepE_find hf hl
theorem slotE_none {dl n : Nat} : ∀ {l : List (Nat × Ty)} (us : List TV), (∀ p ∈ l, p.1 ≠ n) → zAh (slotE dl l us) n = none
 | [], us, h => rfl
 | (m, t) :: l, us, h => by
   cases us with
   | nil => rfl
   | cons u us =>
     simp only [slotE, zAh]
     have : Nat.beq m n = false := by
       cases hb : Nat.beq m n with
       | true => rw [Nat.beq_eq] at hb; exact absurd hb (h (m, t) (List.mem_cons_self ..))
       | false => rfl
     rw [this, cond_false]; exact slotE_none us fun p hp => h p (List.mem_cons_of_mem _ hp)
theorem unpack_find {dl n : Nat} {σ : Sig} {x : σ.I} {ent : Ent} (hf : zAh s.env n = some ent) (hk : n ∈ σ.keep) (hs : ∀ p ∈ σ.slots, p.1 ≠ n) : zAh (zAn dl σ x s).env n = some ent := by
 show zAh (slotE _ _ _ ++ keepE _ _) n = _
 rw [findE_app, slotE_none _ hs]
 exact keepE_find hf hk
end
theorem perm_pick {α : Type} (f : α → Nat) : ∀ (A : List α), (A.map f).Nodup → ∀ a ∈ A, (a :: A.filter fun x => !(f x == f a)).Perm A
 | [], _, a, h => by cases h
 | b :: A, hn, a, h => by
   simp only [List.map_cons, List.nodup_cons] at hn
   rcases List.mem_cons.1 h with rfl | h
   · have : (a :: A).filter (fun x => !(f x == f a)) = A := by
       rw [List.filter_cons_of_neg (by simp)]
       refine List.filter_eq_self.2 fun x hx => ?_
       have : f x ≠ f a := fun h => hn.1 (h ▸ List.mem_map_of_mem hx)
       simp [this]
     rw [this]
   · have hba : f b ≠ f a := fun h' => hn.1 (h' ▸ List.mem_map_of_mem h)
     rw [List.filter_cons_of_pos (by simp [hba])]
     exact (List.Perm.swap b a _).trans ((perm_pick f A hn.2 a h).cons b)
theorem find_born : ∀ {es : MapD} {p : Nat × Value × D}, (es.map (·.1)).Nodup → p ∈ es → es.find? (fun q => q.1 == p.1) = some p
 | [], p, _, h => by cases h
 | q :: es, p, hn, h => by
   simp only [List.map_cons, List.nodup_cons] at hn
   rcases List.mem_cons.1 h with rfl | h
   · simp
   · have : q.1 ≠ p.1 := fun h' => hn.1 (h' ▸ List.mem_map_of_mem h)
     rw [List.find?_cons_of_neg (by simp [this])]
     exact find_born hn.2 h
theorem mrange_some {A S E : Type} {l : List A} {Bd : A → S → Option (S ⊕ E)} {Nd : S → Option (S ⊕ E)} {s : S} {r : E} (h : mrange l Bd Nd s = some r) : ∀ l', l'.Perm l → foldM Bd Nd l' s = some r := by
 unfold mrange at h
 split at h
 · rename_i hx
   have h2 := Classical.choose_spec hx
   rw [Option.some.inj h] at h2
   exact h2
 · cases h
theorem key_e0 {k : Ty} (h : (keq k).isSome = true) (x : k.I) : e0 k x = .v (keyV k x) := by
 cases k <;> first | (simp [keq] at h; done) | rfl
theorem key_pure {k : Ty} (h : (keq k).isSome = true) : k.pure = true := by
 cases k <;> first | (simp [keq] at h; done) | rfl
section
variable {P : Program} {Γ : List Con} {B : Base} {f : FuncId} {N n0 : Nat} {Rp : D → Heap → Prop}
def SoundAt (P : Program) (Γ : List Con) (B : Base) (f : FuncId) (N n0 : Nat) (Rp : D → Heap → Prop) (c : Code) : Prop :=
 ∀ {R : Type} (h : Hint) (cx : Cx R) (k : St → Option R) (s : St) (r : R) (ζ : Nat → Row) (num : Nat → Nat) (e : Env) (H : Heap) (K : List Item), wf N c h = true → B.k = cx.k → Abs B ζ num s e H → Plain s → trun P Γ c h cx k s = some r →
   Cont P f N n0 Rp B cx.d ζ num s k r K → Outs P f N n0 Rp B ζ num s cx r K → Run P f N n0 Rp (.code c :: K) e H
theorem Outs.innerMR {ζ num s ζ1 num1 s1} {R S : Type} {q : Nat} {cx : Cx R} {r : R} {K : List Item} (h : Outs P f N n0 Rp B ζ num s cx r K) (hle : Le cx.d ζ num s ζ1 num1 s1) : Outs P f N n0 Rp B ζ1 num1 s1 (cx.innerM S q) (.inr r) K := by
 have go : ∀ (k0 : St → Option R) (K' : List Item), Cont P f N n0 Rp B cx.d ζ num s k0 r K' → Cont P f N n0 Rp B (cx.d + 1) ζ1 num1 s1 (fun s' => upR S (dropK q (cx.d + 1) k0) s') (.inr r) K' := fun k0 K' hC ζ' num' s' e' H' h5 h6 h7 h8 => by
   have h9 := upR_inr h5
   obtain ⟨h9, hmp⟩ : k0 (zCg q (cx.d + 1) .gone s') = some r ∧ ∀ a b l, zAA s'.rows q ≠ .mp a b l := by
     unfold dropK at h9
     split at h9
     · cases h9
     · rename_i hne; exact ⟨h9, fun a b l h => hne a b l h⟩
   have hle' : Le cx.d ζ num s ζ' num' s' := hle.trans (h8.mono (Nat.le_succ _))
   by_cases hql : q < s'.rows.length
   · obtain ⟨g1, g2, g3⟩ := gone_abs (d := cx.d + 1) h6 hql hmp
     exact zDT g3 (hC ζ' num' _ _ H' h9 g1 ⟨h7.gs, h7.c⟩ (hle'.trans (g2.mono (Nat.le_succ _))))
   · have hs : zCg q (cx.d + 1) .gone s' = s' := by
       unfold zCg
       have : ∀ (rows : Rows) (q : Nat), ¬ q < rows.length → setRow rows q (cx.d + 1) .gone = rows := by
         intro rows
         induction rows with
         | nil => intro q _; rfl
         | cons p rows ih => intro q h; cases q with
           | zero => simp at h
           | succ q => simp only [setRow]; rw [ih q (by simpa using h)]
       rw [this _ _ hql]
     rw [hs] at h9
     exact hC ζ' num' s' e' H' h9 h6 h7 hle'
 exact ⟨fun i k' hk => by
   obtain ⟨k0, h1, h2⟩ := getX_map hk
   obtain ⟨K', h3, h4⟩ := h.ex i k0 h1
   subst h2
   exact ⟨K', h3, go k0 K' h4⟩, fun K' => go cx.ret _ (h.ret K')⟩
theorem Outs.innerML {ζ num s ζ1 num1 s1} {R S : Type} {q : Nat} {cx : Cx R} {r : R} {x : S} {K : List Item} (h : Outs P f N n0 Rp B ζ num s cx r K) : Outs P f N n0 Rp B ζ1 num1 s1 (cx.innerM S q) (.inl x) K :=
 ⟨fun i k' hk => by
   obtain ⟨k0, h1, h2⟩ := getX_map hk
   obtain ⟨K', h3, h4⟩ := h.ex i k0 h1
   refine ⟨K', h3, fun ζ' num' s' e' H' h5 h6 h7 h8 => ?_⟩
   subst h2
   exact (upR_inl h5).elim,
  fun K' ζ' num' s' e' H' h5 h6 h7 h8 => (upR_inl h5).elim⟩
theorem run_breg' {id : Nat} {ops : Array Oper} {l : List Oper} {e : Env} {H : Heap} {K : List Item} (hl : ops.toList = l) (h : bops P N l.toArray (l.map fun o => (zAE o, o)) e H fun e' H' => Run P f N n0 Rp K e' H') : Run P f N n0 Rp (.code (.region id ops false) :: K) e H := by
 have : ops = l.toArray := by rw [← hl]
 subst this
 exact run_breg h
theorem lm_sound (hΓ : ∀ c ∈ Γ, zAu P c) {σ : Sig} {r m : Nat} {kt vt : Ty} {l : List (kt.I × vt.I)} {id : Nat} {ops : Array Oper} {rest : Code} {o : Oper} {os : List Oper} {hb : Hint} {R : Type} {cx : Cx R} {s : St} {res : R} {ζ : Nat → Row} {num : Nat → Nat} {e : Env} {H : Heap} {K : List Item} {x0 : σ.I}
   (hrest : SoundAt P Γ B f N n0 Rp rest) (hw1 : ops.toList.all (okOp N ops.toList) = true) (hw2 : wf N rest hb = true) (hk : B.k = cx.k) (ha : Abs B ζ num s e H) (hp : Plain s)
   (hr : zAA s.rows r = .itb m) (hm : zAA s.rows m = .mp kt vt l) (hl : zBT σ.rows r = none) (hlm : zBT σ.rows m = none) (hops : ops.toList = o :: os) (hrn : r < σ.n) (hmn : m < σ.n) (hnext : isNext s.env σ r o = true) (hx0 : pack cx.k cx.d σ s = some x0)
   (hmr : mrange l
             (fun p x => match put (cx.d + 1) o.dst [] (tupV [⟨.tt, ()⟩, ⟨kt, p.1⟩, ⟨vt, p.2⟩]) (zCg r cx.d (.ite m kt vt p.1 p.2) (zAn (cx.d + 1) σ x s)) with
               | some u => opsT P Γ false (cx.d + 1) (o :: os) os u fun s1 => trun P Γ rest hb (cx.innerM σ.I r) (fun s' => (pack cx.k cx.d σ s').map .inl) s1
               | none => none)
             (fun x => match put (cx.d + 1) o.dst [] (tupV [⟨.ff, ()⟩]) (zCg r cx.d .gone (zAn (cx.d + 1) σ x s)) with
               | some u => opsT P Γ false (cx.d + 1) (o :: os) os u fun s1 => trun P Γ rest hb (cx.innerM σ.I r) (fun _ => none) s1
               | none => none) x0 = some res)
   (hO : Outs P f N n0 Rp B ζ num s cx res K) : Run P f N n0 Rp (.code (.seq (.region id ops false) rest) :: .inLoop (.seq (.region id ops false) rest) :: K) e H := by
 have hrl : r < s.rows.length := zAo (by rw [hr]; simp)
 have hml : m < s.rows.length := zAo (by rw [hm]; simp)
 obtain ⟨lvr, hsr, hsrd⟩ := pack_kept hx0 hrn hl
 obtain ⟨lvm, hsm, hsmd⟩ := pack_kept hx0 hmn hlm
 have hRm := ha.hrel.row m
 rw [hm] at hRm
 obtain ⟨hke, hvp, es', cl', ⟨hes', hζm⟩, hk1, hv1, hlt, hnd⟩ := hRm
 have hkp := key_pure hke
 have hRr := ha.hrel.row r
 rw [hr] at hRr
 obtain ⟨hgr, _, es, cl, hes, hζr⟩ := hRr
 rw [hes] at hes'
 obtain ⟨rfl, rfl⟩ : es = es' ∧ cl = cl' := by have := Option.some.inj hes'; simp only [Row.mp.injEq] at this; exact this
 clear hes'
 obtain ⟨dst, op, oty, pos, after, guard⟩ := o
 unfold isNext at hnext
 split at hnext
 rotate_left
 · cases hnext
 rename_i t hop hgu
 have hop : op = .next (.tmp t) false := hop
 have hgu : guard = none := hgu
 subst hop hgu
 split at hnext
 rotate_left
 · cases hnext
 rename_i e1s e1l q yq hft
 simp only [Bool.and_eq_true, Nat.beq_eq] at hnext
 obtain ⟨⟨rfl, hkt⟩, hst⟩ := hnext
 have hkt : t ∈ σ.keep := by
   obtain ⟨z, h1, h2⟩ := List.any_eq_true.1 hkt
   rw [Nat.beq_eq] at h2; exact h2 ▸ h1
 have hst : ∀ p ∈ σ.slots, p.1 ≠ t := fun p hp hpt => by
   have : (σ.slots.any fun p => Nat.beq p.1 t) = true := List.any_eq_true.2 ⟨p, hp, by rw [hpt]; exact Nat.beq_refl t⟩
   rw [this] at hst; cases hst
 have hw1' : ∀ o' ∈ ops.toList, okOp N ops.toList o' = true := List.all_eq_true.1 hw1
 have hdst : dstOk N dst := by
   have := hw1' _ (by rw [hops]; exact List.mem_cons_self ..)
   simp only [okOp, Bool.and_eq_true] at this
   exact dstB_ok this.1
 have hfold := mrange_some hmr
 generalize hBd : (fun (p : kt.I × vt.I) (x : σ.I) => (match put (cx.d + 1) dst [] (tupV [⟨.tt, ()⟩, ⟨kt, p.1⟩, ⟨vt, p.2⟩]) (zCg q cx.d (.ite m kt vt p.1 p.2) (zAn (cx.d + 1) σ x s)) with
               | some u => opsT P Γ false (cx.d + 1) (⟨dst, .next (.tmp t) false, oty, pos, after, none⟩ :: os) os u fun s1 => trun P Γ rest hb (cx.innerM σ.I q) (fun s' => (pack cx.k cx.d σ s').map .inl) s1
               | none => none : Option (σ.I ⊕ R))) = Bd at hfold
 generalize hNd : (fun (x : σ.I) => (match put (cx.d + 1) dst [] (tupV [⟨.ff, ()⟩]) (zCg q cx.d .gone (zAn (cx.d + 1) σ x s)) with
               | some u => opsT P Γ false (cx.d + 1) (⟨dst, .next (.tmp t) false, oty, pos, after, none⟩ :: os) os u fun s1 => trun P Γ rest hb (cx.innerM σ.I q) (fun _ => none) s1
               | none => none : Option (σ.I ⊕ R))) = Nd at hfold
 have hlen : es.length = l.length := by have := congrArg List.length hk1; simpa using this
 let left : List Nat → List ((Nat × Value × D) × (kt.I × vt.I)) := fun seen => (es.zip l).filter fun z => !seen.contains z.1.1
 have hleft : ∀ seen, leftM es seen = (left seen).map (·.1) := fun seen => by
   show es.filter _ = ((es.zip l).filter _).map _
   have : ∀ (es : MapD) (l : List (kt.I × vt.I)), es.length = l.length → (es.filter fun p => !seen.contains p.1) = ((es.zip l).filter fun z => !seen.contains z.1.1).map (·.1) := by
     intro es
     induction es with
     | nil => intro l _; simp
     | cons a es ih =>
       intro l hl
       cases l with
       | nil => simp at hl
       | cons b l =>
         simp only [List.zip_cons_cons, List.filter_cons]
         rw [ih l (by simpa using hl)]
         split <;> rfl
   exact this es l hlen
 have hnodup : ((es.zip l).map (fun z => z.1.1)).Nodup := by
   have : (es.zip l).map (fun z => z.1.1) = es.map (·.1) := by
     have h : ((es.zip l).map (·.1)) = es := by rw [List.map_fst_zip]; omega
     rw [← h, List.map_map, h]; rfl
   rw [this]; exact hnd
 have hzip : ∀ z ∈ es.zip l, z.1 ∈ es ∧ z.1.2.1 = keyV kt z.2.1 ∧ Tl z.1.2.2 (e0 vt z.2.2) := fun z hz => by
   refine ⟨(List.of_mem_zip hz).1, ?_, ?_⟩
   · have : ∀ (es : MapD) (l : List (kt.I × vt.I)), es.map (·.2.1) = l.map (fun p => keyV kt p.1) → ∀ z ∈ es.zip l, z.1.2.1 = keyV kt z.2.1 := by
       intro es
       induction es with
       | nil => intro l _ z hz; simp at hz
       | cons a es ih =>
         intro l h z hz
         cases l with
         | nil => simp at hz
         | cons b l =>
           simp only [List.map_cons, List.cons.injEq] at h
           rcases List.mem_cons.1 (by simpa using hz) with rfl | hz
           · exact h.1
           · exact ih l h.2 z hz
     exact this es l hk1 z hz
   · have : ∀ (es : MapD) (l : List (kt.I × vt.I)), Tls (es.map (·.2.2)) (l.map fun p => e0 vt p.2) → ∀ z ∈ es.zip l, Tl z.1.2.2 (e0 vt z.2.2) := by
       intro es
       induction es with
       | nil => intro l _ z hz; simp at hz
       | cons a es ih =>
         intro l h z hz
         cases l with
         | nil => simp at hz
         | cons b l =>
           simp only [List.map_cons] at h
           cases h with
           | cons h1 h2 =>
             rcases List.mem_cons.1 (by simpa using hz) with rfl | hz
             · exact h1
             · exact ih l h2 z hz
     exact this es l hv1 z hz
 have main : ∀ (n : Nat) (seen : List Nat) (sb : St) (ζb : Nat → Row) (x : σ.I) (ζ1 : Nat → Row) (num1 : Nat → Nat) (H1 : Heap), (left seen).length = n → sb.gs = s.gs → sb.env = s.env → sb.rows.length = s.rows.length → (∀ row, zCg q cx.d row sb = zCg q cx.d row s) → zAA sb.rows m = .mp kt vt l → zAP sb.rows m = some lvm →
     (zAA sb.rows q = .itb m ∨ ∃ k v x y, zAA sb.rows q = .ite m k v x y) → (∃ lv, zAP sb.rows q = some lv ∧ lv ≤ cx.d) → ζb m = .mp es cl → ζb q = .it (num m) cl seen cl → Le cx.d ζ num s ζb num sb →
     Abs B ζ1 num1 (zAn (cx.d + 1) σ x sb) (zCn num1 (zAn (cx.d + 1) σ x sb)) H1 → Le (cx.d + 1) ζb num sb ζ1 num1 (zAn (cx.d + 1) σ x sb) → (∀ L, L.Perm ((left seen).map (·.2)) → foldM Bd Nd L x = some res) →
     Run P f N n0 Rp (.code (.seq (.region id ops false) rest) :: .inLoop (.seq (.region id ops false) rest) :: K) (zCn num1 (zAn (cx.d + 1) σ x sb)) H1 := by
   intro n
   induction n using Nat.strongRecOn with
   | _ n ihn =>
   intro seen sb ζb x ζ1 num1 H1 hn hgsb henv hlenb hset hmb hsmb hqb hsqb hζbm hζbq hLeb hab hle1 hperm
   obtain ⟨lvq, hsq1, hsq2⟩ := hsqb
   have hqlb : q < sb.rows.length := by rw [hlenb]; exact hrl
   have hmlb : m < sb.rows.length := by rw [hlenb]; exact hml
   obtain ⟨hq1, hq2⟩ := unpack_keep (dl := cx.d + 1) (x := x) hl hrn hqlb
   obtain ⟨hm1, hm2⟩ := unpack_keep (dl := cx.d + 1) (x := x) hlm hmn hmlb
   obtain ⟨_, hq3, hq4, hq5⟩ := hle1.rows q lvq (by rw [hq2]; exact hsq1) (by omega)
   obtain ⟨_, hm3, hm4, hm5⟩ := hle1.rows m lvm (by rw [hm2]; exact hsmb) (by omega)
   have hqx : zAA (zAn (cx.d + 1) σ x sb).rows q = .itb m ∨ ∃ k v x' y, zAA (zAn (cx.d + 1) σ x sb).rows q = .ite m k v x' y := by rw [hq1]; exact hqb
   have hmx : zAA (zAn (cx.d + 1) σ x sb).rows m = .mp kt vt l := by rw [hm1]; exact hmb
   have hqlx : q < (zAn (cx.d + 1) σ x sb).rows.length := zAo (by rcases hqx with h | ⟨_, _, _, _, h⟩ <;> rw [h] <;> simp)
   have hg1m : H1.get (num1 m) = some (.mp es cl) := by
     have h := hab.hrel.row m
     rw [hmx] at h
     obtain ⟨_, _, es2, cl2, ⟨g1, g2⟩, _⟩ := h
     rw [hm5, hζbm] at g2
     rw [g1, ← g2]
   have hg1q : H1.get (num1 q) = some (.it (num m) cl seen cl) := by
     have h := hab.hrel.row q
     rcases hqx with h' | ⟨_, _, _, _, h'⟩ <;> rw [h'] at h <;> rw [h.1, hq5, hζbq]
   have hnm : num1 m = num m := hm4
   have hnq : num1 q = num q := hq4
   have hplain : Plain (zAn (cx.d + 1) σ x sb) := unpack_plain ⟨by rw [hgsb]; exact hp.gs, fun n ent hf => hp.c n ent (by rw [← henv]; exact hf)⟩
   have hset' : ∀ row, zCg q cx.d row (zAn (cx.d + 1) σ x s) = zCg q cx.d row (zAn (cx.d + 1) σ x sb) := fun row => by
     rw [← unpack_set hl hrn hrl, ← hset row, unpack_set hl hrn hqlb]
   have hev : zCn num1 (zAn (cx.d + 1) σ x sb) t = .pt (num q) 0 0 := by
     unfold zCn
     rw [unpack_find (by rw [henv]; exact hft) hkt hst]
     show p0D (num1 q) 0 (zAA (zAn (cx.d + 1) σ x sb).rows q) = _
     rw [hnq]
     rcases hqx with h' | ⟨_, _, _, _, h'⟩ <;> rw [h'] <;> rfl
   have hqm : m ≠ q := by intro h; rw [h] at hmb; rcases hqb with h' | ⟨_, _, _, _, h'⟩ <;> rw [hmb] at h' <;> cases h'
   have hQw : ∀ e H e' H', WeakS e H e' H' → Run P f N n0 Rp (.code rest :: .inLoop (.seq (.region id ops false) rest) :: K) e' H' → Run P f N n0 Rp (.code rest :: .inLoop (.seq (.region id ops false) rest) :: K) e H := fun e H e' H' hw h => zDT hw h
   have hOl : ∀ {R' : Type} {cx' : Cx R'} {r' : R'} {ζ1 num1 s1}, Outs P f N n0 Rp B ζ1 num1 s1 cx' r' K → Outs P f N n0 Rp B ζ1 num1 s1 cx' r' (.inLoop (.seq (.region id ops false) rest) :: K) := fun h => ⟨fun i k' hk' => h.ex i k' hk', h.ret⟩
   have hos : ∀ o' ∈ os, okOp N (⟨dst, .next (.tmp t) false, oty, pos, after, none⟩ :: os) o' = true := fun o' ho => by
     have := hw1' o' (by rw [hops]; exact List.mem_cons_of_mem _ ho)
     rw [hops] at this; exact this
   have hmpx : ∀ a b l', zAA (zAn (cx.d + 1) σ x sb).rows q ≠ .mp a b l' := fun a b l' h => by
     rcases hqx with h' | ⟨_, _, _, _, h'⟩ <;> rw [h] at h' <;> cases h'
   refine run_seq (run_breg' hops ?_)
   simp only [List.map_cons, bops]
   refine ⟨zCn num1 (zAn (cx.d + 1) σ x sb), H1, WeakS.refl _ _, hdst, ?_⟩
   suffices hN : aNext false (ev (zCn num1 (zAn (cx.d + 1) σ x sb)) (.tmp t)) H1 (fun d H' => bops P N (⟨dst, .next (.tmp t) false, oty, pos, after, none⟩ :: os).toArray (os.map fun o => (zAE o, o)) (updO (zCn num1 (zAn (cx.d + 1) σ x sb)) dst d) H' fun e' H' => Run P f N n0 Rp (.code rest :: .inLoop (.seq (.region id ops false) rest) :: K) e' H') from hN
   rw [show ev (zCn num1 (zAn (cx.d + 1) σ x sb)) (.tmp t) = .pt (num q) 0 0 from hev]
   rw [hnq] at hg1q
   rw [hnm] at hg1m
   unfold aNext
   simp only [hg1q, hg1m]
   have hlts : ∀ p ∈ es, decide (p.1 < cl) = true := fun p hp => decide_eq_true (hlt p hp)
   refine ⟨⟨?_, List.all_eq_true.2 fun p hp => hlts p (List.mem_filter.1 hp).1⟩, fun hnil => ?_, fun p hpl => ?_⟩
   · cases hes0 : es with
     | nil => simp
     | cons p es => have := hlts p (by rw [hes0]; exact List.mem_cons_self ..); simp at this; simp [this]
   · -- no entry is left
     rw [hleft] at hnil
     have hnil : left seen = [] := List.map_eq_nil_iff.1 hnil
     have hfo := hperm [] (by rw [hnil]; exact .refl _)
     simp only [foldM] at hfo
     split at hfo
     rotate_left
     · cases hfo
     rename_i r' hN
     have := Option.some.inj hfo; subst this
     rw [← hNd] at hN
     dsimp only at hN
     rw [hset'] at hN
     split at hN
     rotate_left
     · cases hN
     rename_i u hput
     obtain ⟨g1, g2, g3⟩ := gone_abs (d := cx.d) hab hqlx hmpx
     have hgok : GOk (cx.d + 1) (zCg q cx.d .gone (zAn (cx.d + 1) σ x sb)) := (show Plain (zCg _ _ _ (zAn (cx.d + 1) σ x sb)) from ⟨hplain.gs, hplain.c⟩).gok _
     obtain ⟨k1, k2, k3, k4⟩ := put_sound (d := cx.d + 1) (e1 := zCn num1 (zAn (cx.d + 1) σ x sb)) (dd := .tup [.v (.bool false)]) (H' := H1) g1 hgok hput (fun _ => ok_tup _ fun u hu => by
         simp only [List.mem_cons, List.not_mem_nil, or_false] at hu
         subst hu; trivial) (fun p hp => by cases hp) fun own X w hs => by
       obtain ⟨j1, j2, j3⟩ := g3 own X w hs
       refine ⟨j1, j2, j3, fun y hy => ?_⟩
       rw [if_pos (show zAz _ [] = true from rfl), enc_tup]
       exact hy
     refine bops_weak hQw k1 (opsT_sound (d := cx.d + 1) hΓ hQw os ζ1 num1 u _ H1 k2 k3 hos hN fun ζ' num' s' H' h1 h2 h3 h4 => ?_)
     have hle' : Le cx.d ζ num s ζ' num' s' := (hLeb.trans (hle1.mono (Nat.le_succ _))).trans (g2.trans ((k4.mono (Nat.le_succ _)).trans (h4.mono (Nat.le_succ _))))
     exact hrest hb (cx.innerM σ.I q) _ s' _ ζ' num' _ H' _ hw2 hk h2 h3 h1 (fun ζ'' num'' s'' e'' H'' j1 _ _ _ => by cases j1) (hOl (hO.innerMR hle'))
   · -- an entry
     rw [hleft] at hpl
     obtain ⟨z, hz, rfl⟩ := List.mem_map.1 hpl
     have hz' : z ∈ es.zip l := (List.mem_filter.1 hz).1
     obtain ⟨hz1, hz2, hz3⟩ := hzip z hz'
     have hfind : es.find? (fun p => p.1 == z.1.1) = some (z.1.1, keyV kt z.2.1, z.1.2.2) := by
       rw [find_born hnd hz1, ← hz2]
     have hst1 := it_step (d := cx.d) (since := cl) (seen := seen) hab hqx hmx (by rw [hnm]; exact hg1m) hfind (key_e0 hke z.2.1) hkp hz3
     rw [hnq, hnm] at hst1
     have hstamp : ∀ row, zAP (zCg q cx.d row sb).rows q = some cx.d := fun row => by show zAP (setRow _ _ _ _) _ = _; rw [zBX, if_pos ⟨rfl, hqlb⟩]
     have hrowq : ∀ row, zAA (zCg q cx.d row sb).rows q = row := fun row => rowAt_seteq hqlb
     have hrowne : ∀ row r', r' ≠ q → zAA (zCg q cx.d row sb).rows r' = zAA sb.rows r' ∧ zAP (zCg q cx.d row sb).rows r' = zAP sb.rows r' := fun row r' h => ⟨zCi h, by show zAP (setRow _ _ _ _) _ = _; rw [zBX, if_neg (fun h' => h h'.1)]⟩
     have hLep : Le cx.d ζ num s (updN ζb q (.it (num m) cl (seen ++ [z.1.1]) cl)) num (zCg q cx.d (.ite m kt vt z.2.1 z.2.2) sb) := hLeb.trans ⟨fun n ent h _ => h, fun r' lv h1 h2 => by
       by_cases hr' : r' = q
       · subst hr'; rw [hstamp] at h1; have := Option.some.inj h1; omega
       · obtain ⟨j1, j2⟩ := hrowne (.ite m kt vt z.2.1 z.2.2) r' hr'
         rw [j2] at h1
         exact ⟨h1, j1, rfl, updN_ne hr'⟩⟩
     have hLe1 : Le (cx.d + 1) (updN ζb q (.it (num m) cl (seen ++ [z.1.1]) cl)) num (zCg q cx.d (.ite m kt vt z.2.1 z.2.2) sb) (updN ζ1 q (.it (num m) cl (seen ++ [z.1.1]) cl)) num1 (zCg q cx.d (.ite m kt vt z.2.1 z.2.2) (zAn (cx.d + 1) σ x sb)) := ⟨fun n ent h1 h2 => hle1.env n ent h1 h2, fun r' lv h1 h2 => by
       have h1 : zAP (setRow (zAn (cx.d + 1) σ x sb).rows q cx.d (.ite m kt vt z.2.1 z.2.2)) r' = some lv := h1
       by_cases hr' : r' = q
       · subst hr'
         rw [zBX, if_pos ⟨rfl, hqlx⟩] at h1
         refine ⟨by rw [hstamp]; exact h1, ?_, hnq, by rw [zBd, zBd]⟩
         rw [hrowq]; exact rowAt_seteq hqlx
       · rw [zBX, if_neg (fun h' => hr' h'.1)] at h1
         obtain ⟨j1, j2, j3, j4⟩ := hle1.rows r' lv h1 h2
         obtain ⟨j5, j6⟩ := hrowne (.ite m kt vt z.2.1 z.2.2) r' hr'
         refine ⟨by rw [j6]; exact j1, ?_, j3, by rw [updN_ne hr', updN_ne hr']; exact j4⟩
         rw [j5, ← j2]; exact zCi hr'⟩
     have hperm' : ∀ L, L.Perm ((left (seen ++ [z.1.1])).map (·.2)) → foldM Bd Nd (z.2 :: L) x = some res := fun L hL => by
       refine hperm _ ?_
       have h1 := perm_pick (fun z : (Nat × Value × D) × (kt.I × vt.I) => z.1.1) (left seen) (hnodup.sublist ((List.filter_sublist (l := es.zip l) (p := fun z => !seen.contains z.1.1)).map _)) z hz
       have h2 : left (seen ++ [z.1.1]) = (left seen).filter fun y => !(y.1.1 == z.1.1) := by
         show List.filter _ _ = List.filter _ (List.filter _ _)
         rw [List.filter_filter]
         refine List.filter_congr fun y _ => ?_
         rw [Bool.eq_iff_iff]
         simp [not_or, and_comm]
       rw [h2] at hL
       have h3 := (h1.map (·.2))
       rw [List.map_cons] at h3
       exact (hL.cons z.2).trans h3
     have hlt' : (left (seen ++ [z.1.1])).length < n := by
       rw [← hn]
       have h1 := perm_pick (fun z : (Nat × Value × D) × (kt.I × vt.I) => z.1.1) (left seen) (hnodup.sublist ((List.filter_sublist (l := es.zip l) (p := fun z => !seen.contains z.1.1)).map _)) z hz
       have h2 : left (seen ++ [z.1.1]) = (left seen).filter fun y => !(y.1.1 == z.1.1) := by
         show List.filter _ _ = List.filter _ (List.filter _ _)
         rw [List.filter_filter]
         refine List.filter_congr fun y _ => ?_
         rw [Bool.eq_iff_iff]
         simp [not_or, and_comm]
       have := h1.length_eq
       rw [h2, ← this, List.length_cons]; exact Nat.lt_succ_self _
     have hv : ∃ v, Bd z.2 x = some v ∧ ((∃ x', v = .inl x' ∧ ∀ L, L.Perm ((left (seen ++ [z.1.1])).map (·.2)) → foldM Bd Nd L x' = some res) ∨ v = .inr res) := by
       have h1 := hperm' _ (.refl _)
       simp only [foldM] at h1
       cases hB : Bd z.2 x with
       | none => rw [hB] at h1; cases h1
       | some v =>
         refine ⟨v, rfl, ?_⟩
         cases v with
         | inl x' => exact .inl ⟨x', rfl, fun L hL => by have h2 := hperm' L hL; simp only [foldM, hB] at h2; exact h2⟩
         | inr e' => rw [hB] at h1; have := Option.some.inj h1; subst this; exact .inr rfl
     obtain ⟨v, hBv, hvc⟩ := hv
     rw [← hBd] at hBv
     dsimp only at hBv
     rw [hset'] at hBv
     split at hBv
     rotate_left
     · cases hBv
     rename_i u hput
     have hgok : GOk (cx.d + 1) (zCg q cx.d (.ite m kt vt z.2.1 z.2.2) (zAn (cx.d + 1) σ x sb)) := (show Plain (zCg _ _ _ (zAn (cx.d + 1) σ x sb)) from ⟨hplain.gs, hplain.c⟩).gok _
     obtain ⟨k1, k2, k3, k4⟩ := put_sound (d := cx.d + 1) hst1.abs hgok hput (fun _ => hst1.ok) (fun p hp => by cases hp) fun own X w hs => by
       obtain ⟨j1, j2, j3, j4⟩ := hst1.weak own X w hs
       exact ⟨j1, j2, j3, fun y hy => by rw [if_pos (show zAz _ [] = true from rfl)]; exact j4 y hy⟩
     rw [← hz2] at k1
     refine bops_weak hQw k1 (opsT_sound (d := cx.d + 1) hΓ hQw os _ num1 u _ _ k2 k3 hos hBv fun ζ' num' s' H' h1 h2 h3 h4 => ?_)
     have hLe2 := hLe1.trans (k4.trans h4)
     have hle' : Le cx.d ζ num s ζ' num' s' := hLep.trans (hLe2.mono (Nat.le_succ _))
     rcases hvc with ⟨x', rfl, hf'⟩ | rfl
     · refine hrest hb (cx.innerM σ.I q) _ s' _ ζ' num' _ H' _ hw2 hk h2 h3 h1 (fun ζ'' num'' s'' e'' H'' j1 j2 j3 j4 => ?_) (hOl (Outs.innerML hO))
       obtain ⟨ζ2, num2, H2, w1, w2, w3⟩ := unpack_sound hk (Nat.le_succ cx.d) j2 (hLe2.trans j4) (map_inl j1)
       obtain ⟨m1, m2⟩ := hrowne (.ite m kt vt z.2.1 z.2.2) m hqm
       refine zDT w1 (run_inLoop (ihn _ hlt' (seen ++ [z.1.1]) (zCg q cx.d (.ite m kt vt z.2.1 z.2.2) sb) (updN ζb q (.it (num m) cl (seen ++ [z.1.1]) cl)) x' ζ2 num2 H2 rfl hgsb henv (by show (setRow _ _ _ _).length = _; rw [zBp]; exact hlenb) (fun row => ?_) (by rw [m1]; exact hmb) (by rw [m2]; exact hsmb) (.inr ⟨_, _, _, _, hrowq _⟩) ⟨cx.d, hstamp _, Nat.le_refl _⟩ (by rw [updN_ne hqm]; exact hζbm) (zBd _ _ _) hLep w2 w3 hf'))
       rw [← hset row]
       unfold zCg
       congr 1
       have : ∀ (rows : Rows) (q d d' : Nat) (a b : TRow), setRow (setRow rows q d a) q d' b = setRow rows q d' b := by
         intro rows
         induction rows with
         | nil => intro q d d' a b; rfl
         | cons p rows ih => intro q d d' a b; cases q with
           | zero => rfl
           | succ q => simp only [setRow]; rw [ih]
       exact this _ _ _ _ _ _
     · exact hrest hb (cx.innerM σ.I q) _ s' _ ζ' num' _ H' _ hw2 hk h2 h3 h1 (fun ζ'' num'' s'' e'' H'' j1 _ _ _ => (map_inl_r j1).elim) (hOl (hO.innerMR hle'))
 obtain ⟨ζ2, num2, H2, w1, w2, w3⟩ := unpack_sound hk (Nat.le_succ cx.d) ha (Le.refl _ _ _ _) hx0
 refine zDT w1 (main (left []).length [] s ζ x0 ζ2 num2 H2 rfl rfl rfl rfl (fun _ => rfl) hm hsm (.inl hr) ⟨lvr, hsr, hsrd⟩ hζm hζr (Le.refl _ _ _ _) w2 w3 fun L hL => hfold L ?_)
 refine hL.trans (List.Perm.of_eq ?_)
 show ((es.zip l).filter fun z => !([] : List Nat).contains z.1.1).map (·.2) = l
 rw [List.filter_eq_self.2 (fun z _ => by simp), List.map_snd_zip]
 omega
end
end Go.T
namespace Go.T
open Go.Ab
variable [Go.Ab.DM]
section
variable {P : Program} {Γ : List Con} {B : Base} {f : FuncId} {N n0 : Nat} {Rp : D → Heap → Prop}
theorem trun_sound2 (hΓ : ∀ c ∈ Γ, zAu P c) (hmix : P.follows .mixedOrders = true) : ∀ (c : Code), SoundAt P Γ B f N n0 Rp c ∧ ∀ a b, c = .seq a b → SoundAt P Γ B f N n0 Rp b := by
 intro c
 induction c with
 | skip =>
   refine ⟨?_, fun _ _ h => by cases h⟩
   intro R h cx k s r ζ num e H K hw hk ha hp ht hC hO
   exact zBm (hC ζ num s e H ht ha hp (Le.refl _ _ _ _))
 | seq a b iha ihb =>
   refine ⟨?_, fun _ _ h => by cases h; exact ihb.1⟩
   have iha : SoundAt P Γ B f N n0 Rp a := iha.1
   have ihb : SoundAt P Γ B f N n0 Rp b := ihb.1
   intro R h cx k s r ζ num e H K hw hk ha hp ht hC hO
   refine run_seq ?_
   have hO' : ∀ {R' : Type} {cx' : Cx R'} {r' : R'} {ζ1 num1 s1}, Outs P f N n0 Rp B ζ1 num1 s1 cx' r' K → Outs P f N n0 Rp B ζ1 num1 s1 cx' r' (.code b :: K) := fun h => ⟨fun i k' hk' => h.ex i k' hk', h.ret⟩
   have plain : ∀ ha' hb', wf N a ha' = true → wf N b hb' = true → trun P Γ a ha' cx (fun s' => trun P Γ b hb' cx k s') s = some r → Run P f N n0 Rp (.code a :: .code b :: K) e H := fun ha' hb' hwa hwb ht =>
     iha ha' cx _ s r ζ num e H _ hwa hk ha hp ht (fun ζ' num' s' e' H' h1 h2 h3 h4 => ihb hb' cx k s' r ζ' num' e' H' K hwb hk h2 h3 h1 (hC.from h4 (Nat.le_refl _)) (hO.from h4)) (hO' hO)
   cases h with
   | j σ h1 h2 =>
     simp only [wf, Bool.and_eq_true] at hw
     simp only [trun] at ht
     rcases join_some ht with ⟨x, hx, hk2⟩ | hr
     · refine iha h1 (cx.inner σ.I) _ s (.inl x) ζ num e H _ hw.1 hk ha hp hx (cont_join hk hp x hk2 fun ζ' num' s' e' H' g1 g2 g3 g4 => ihb h2 cx k s' r ζ' num' e' H' K hw.2 hk g2 g3 g1 (hC.from g4 (Nat.le_refl _)) (hO.from g4)) (hO' (Outs.innerL hO))
     · exact iha h1 (cx.inner σ.I) _ s (.inr r) ζ num e H _ hw.1 hk ha hp hr (fun ζ' num' s' e' H' g1 _ _ _ => (map_inl_r g1).elim) (hO' (hO.innerR (Le.refl _ _ _ _)))
   | n h1 h2 => simp only [wf, Bool.and_eq_true] at hw; exact plain h1 h2 hw.1 hw.2 ht
   | _ => simp only [wf, Bool.and_eq_true] at hw; exact plain .o .o hw.1 hw.2 ht
 | cond q x y ihx ihy =>
   refine ⟨?_, fun _ _ h => by cases h⟩
   have ihx : SoundAt P Γ B f N n0 Rp x := ihx.1
   have ihy : SoundAt P Γ B f N n0 Rp y := ihy.1
   intro R h cx k s r ζ num e H K hw hk ha hp ht hC hO
   have hh : zAz s.gs [] = true := rfl
   have go : ∀ hx hy, wf N x hx = true → wf N y hy = true → (match evT s.env [] q with
       | some ⟨.bool, b⟩ => sel b (trun P Γ x hx cx k s) (trun P Γ y hy cx k s)
       | some ⟨.tt, _⟩ => trun P Γ x hx cx k s
       | some ⟨.ff, _⟩ => trun P Γ y hy cx k s
       | _ => none) = some r → Run P f N n0 Rp (.code (.cond q x y) :: K) e H := fun hx hy hwx hwy ht => by
     have vx : trun P Γ x hx cx k s = some r → Run P f N n0 Rp (.code x :: K) e H := fun h => ihx hx cx k s r ζ num e H K hwx hk ha hp h hC hO
     have vy : trun P Γ y hy cx k s = some r → Run P f N n0 Rp (.code y :: K) e H := fun h => ihy hy cx k s r ζ num e H K hwy hk ha hp h hC hO
     split at ht
     · rename_i b hq
       obtain ⟨h1, _⟩ := zAM ha hh hq
       refine run_cond (t := b) h1 (fun hb => vx ?_) (fun hb => vy ?_)
       · subst hb; exact ht
       · subst hb; exact ht
     · rename_i u hq
       obtain ⟨h1, _⟩ := zAM ha hh hq
       exact run_cond (t := true) h1 (fun _ => vx ht) (fun hb => by cases hb)
     · rename_i u hq
       obtain ⟨h1, _⟩ := zAM ha hh hq
       exact run_cond (t := false) h1 (fun hb => by cases hb) (fun _ => vy ht)
     · cases ht
   cases h with
   | n hx hy => simp only [wf, Bool.and_eq_true] at hw; exact go hx hy hw.1 hw.2 ht
   | _ => simp only [wf, Bool.and_eq_true] at hw; exact go .o .o hw.1 hw.2 ht
 | exit i =>
   refine ⟨?_, fun _ _ h => by cases h⟩
   intro R h cx k s r ζ num e H K hw hk ha hp ht hC hO
   simp only [trun] at ht
   split at ht
   · rename_i k' hk'
     obtain ⟨K', h1, h2⟩ := hO.ex i k' hk'
     exact zDV h1 (h2 ζ num s e H ht ha hp (Le.refl _ _ _ _))
   · cases ht
 | ret =>
   refine ⟨?_, fun _ _ h => by cases h⟩
   intro R h cx k s r ζ num e H K hw hk ha hp ht hC hO
   exact hO.ret K ζ num s e H ht ha hp (Le.refl _ _ _ _)
 | block i b ih =>
   refine ⟨?_, fun _ _ h => by cases h⟩
   have ih : SoundAt P Γ B f N n0 Rp b := ih.1
   intro R h cx k s r ζ num e H K hw hk ha hp ht hC hO
   refine zCX ?_
   have plain : ∀ hb, wf N b hb = true → trun P Γ b hb { cx with ex := (i, k) :: cx.ex } k s = some r → Run P f N n0 Rp (.code b :: .inBlock i :: K) e H := fun hb hwb ht => by
     refine ih hb { cx with ex := (i, k) :: cx.ex } k s r ζ num e H _ hwb hk ha hp ht (fun ζ' num' s' e' H' h1 h2 h3 h4 => zCS (hC ζ' num' s' e' H' h1 h2 h3 h4)) ⟨fun j k' hj => ?_, hO.ret⟩
     simp only [getX] at hj
     by_cases hij : i = j
     · subst hij
       rw [Nat.beq_refl, cond_true] at hj
       have := Option.some.inj hj; subst this
       exact ⟨K, by simp [exitTo], hC⟩
     · have hb1 : Nat.beq i j = false := by
         cases hb : Nat.beq i j with
         | true => rw [Nat.beq_eq] at hb; exact absurd hb hij
         | false => rfl
       rw [hb1, cond_false] at hj
       obtain ⟨K', h1, h2⟩ := hO.ex j k' hj
       exact ⟨K', by simp [exitTo, hij, h1], h2⟩
   cases h with
   | b hb => exact plain hb hw ht
   | jb σ hb =>
     simp only [trun] at ht
     have exits : ∀ (v : σ.I ⊕ R), Cont P f N n0 Rp B (cx.d + 1) ζ num s (fun s' => ((pack cx.k cx.d σ s').map .inl : Option (σ.I ⊕ R))) v K → Outs P f N n0 Rp B ζ num s (cx.inner σ.I) v K → Outs P f N n0 Rp B ζ num s { cx.inner σ.I with ex := (i, fun s' => ((pack cx.k cx.d σ s').map .inl : Option (σ.I ⊕ R))) :: (cx.inner σ.I).ex } v (.inBlock i :: K) := fun v hCv hOv => by
       refine ⟨fun j k' hj => ?_, hOv.ret⟩
       simp only [getX] at hj
       by_cases hij : i = j
       · subst hij
         rw [Nat.beq_refl, cond_true] at hj
         have := Option.some.inj hj; subst this
         exact ⟨K, by simp [exitTo], hCv⟩
       · have hb1 : Nat.beq i j = false := by
           cases hb : Nat.beq i j with
           | true => rw [Nat.beq_eq] at hb; exact absurd hb hij
           | false => rfl
         rw [hb1, cond_false] at hj
         obtain ⟨K', h1, h2⟩ := hOv.ex j k' hj
         exact ⟨K', by simp [exitTo, hij, h1], h2⟩
     have body : ∀ (v : σ.I ⊕ R), trun P Γ b hb { cx.inner σ.I with ex := (i, fun s' => (pack cx.k cx.d σ s').map .inl) :: (cx.inner σ.I).ex } (fun s' => (pack cx.k cx.d σ s').map .inl) s = some v → Cont P f N n0 Rp B (cx.d + 1) ζ num s (fun s' => ((pack cx.k cx.d σ s').map .inl : Option (σ.I ⊕ R))) v K → Outs P f N n0 Rp B ζ num s (cx.inner σ.I) v K → Run P f N n0 Rp (.code b :: .inBlock i :: K) e H := fun v hv hCv hOv =>
       ih hb { cx.inner σ.I with ex := (i, fun s' => (pack cx.k cx.d σ s').map .inl) :: (cx.inner σ.I).ex } _ s v ζ num e H _ hw hk ha hp hv (fun ζ' num' s' e' H' h1 h2 h3 h4 => zCS (hCv ζ' num' s' e' H' h1 h2 h3 h4)) (exits v hCv hOv)
     rcases join_some ht with ⟨x, hx, hk2⟩ | hr
     · exact body (.inl x) hx (cont_join hk hp x hk2 hC) (Outs.innerL hO)
     · exact body (.inr r) hr (fun ζ' num' s' e' H' g1 _ _ _ => (map_inl_r g1).elim) (hO.innerR (Le.refl _ _ _ _))
   | _ => exact plain .o hw ht
 | region id ops draw =>
   refine ⟨?_, fun _ _ h => by cases h⟩
   intro R h cx k s r ζ num e H K hw hk ha hp ht hC hO
   have hQw : ∀ e H e' H', WeakS e H e' H' → Run P f N n0 Rp K e' H' → Run P f N n0 Rp K e H := fun e H e' H' hw h => zDT hw h
   cases draw with
   | false =>
     have hw : ops.toList.all (okOp N ops.toList) = true := by simpa only [wf] using hw
     rw [List.all_eq_true] at hw
     have ht : opsT P Γ false cx.d ops.toList ops.toList s k = some r := by simpa only [trun] using ht
     have hb := opsT_sound (N := N) hΓ hQw ops.toList ζ num s e H ha (hp.gok _) hw ht fun ζ' num' s' H' h1 h2 h3 h4 => hC ζ' num' s' _ H' h1 h2 h3 h4
     exact run_breg (l := ops.toList) hb
   | true =>
     cases h <;> first | (simp only [trun] at ht; cases ht; done) | skip
     · rename_i plan
       have hw : (ops.toList.all (okOp N ops.toList) && goodPlan ops (plan.map fun i => (kindAt ops i, i))) = true := by simpa only [wf] using hw
       rw [Bool.and_eq_true, List.all_eq_true] at hw
       have ht : opsT P Γ true cx.d ops.toList (planOps ops.toList plan) s k = some r := by simpa only [trun] using ht
       have hb := opsT_sound (N := N) hΓ hQw (planOps ops.toList plan) ζ num s e H ha (hp.gok _) (fun o ho => hw.1 o (planOps_mem ho)) ht fun ζ' num' s' H' h1 h2 h3 h4 => hC ζ' num' s' _ H' h1 h2 h3 h4
       rw [← planned_ops] at hb
       exact run_bdraw (l := ops.toList) _ hmix hw.2 hb
     · rename_i i plan
       have hw : (ops.toList.all (okOp N ops.toList) && goodPlanH ops i (plan.map fun i => (kindAt ops i, i))) = true := by simpa only [wf] using hw
       rw [Bool.and_eq_true, List.all_eq_true] at hw
       simp only [trun] at ht
       split at ht
       rotate_left
       · cases ht
       · rename_i o hi
         have hmem : o ∈ ops.toList := List.mem_of_getElem? hi
         have hok := hw.1 o hmem
         simp only [okOp, Bool.and_eq_true] at hok
         obtain ⟨hg, t, a, ho, h1⟩ := frzLd_sound ha (hp.gok _) (T := fun e H => bops P N ops (zAx ops (plan.map fun i => (kindAt ops i, i))) e H fun e' H' => Run P f N n0 Rp K e' H') ⟨fun e H e' H' hw h => bops_weak hQw hw h, fun ζ' num' s' H' h' ha' hgo' hle' => by
           rw [planned_ops]
           exact opsT_sound (N := N) (full := ops.toList) hΓ hQw (planOps ops.toList plan) ζ' num' s' _ H' ha' hgo' (fun o ho => hw.1 o (planOps_mem ho)) h' fun ζ2 num2 s2 H2 k1 k2 k3 k4 => hC ζ2 num2 s2 _ H2 k1 k2 k3 (hle'.trans k4)⟩ ht
         exact run_hdraw (l := ops.toList) i _ hmix hw.2 hi ho hg (dstB_ok hok.1) h1
 | loop b ih2 =>
   refine ⟨?_, fun _ _ h => by cases h⟩
   have ih : SoundAt P Γ B f N n0 Rp b := ih2.1
   intro R h cx k s r ζ num e H K hw hk ha hp ht hC hO
   refine run_loop ?_
   by_cases hu : ∃ n hb, h = .u n hb
   · obtain ⟨n, hb, rfl⟩ := hu
     simp only [trun] at ht
     have hOl : ∀ {ζ1 num1 s1}, Outs P f N n0 Rp B ζ1 num1 s1 cx r K → Outs P f N n0 Rp B ζ1 num1 s1 cx r (.inLoop b :: K) := fun h => ⟨fun i k' hk' => h.ex i k' hk', h.ret⟩
     have main : ∀ (n : Nat) (s : St) (ζ : Nat → Row) (num : Nat → Nat) (e : Env) (H : Heap), Abs B ζ num s e H → Plain s → unrN n (fun k' s' => trun P Γ b hb cx k' s') s = some r → Outs P f N n0 Rp B ζ num s cx r K → Run P f N n0 Rp (.code b :: .inLoop b :: K) e H := by
       intro n
       induction n with
       | zero => intro s ζ num e H _ _ h _; cases h
       | succ n ihn =>
         intro s ζ num e H ha hp h hO
         exact ih hb cx _ s r ζ num e H _ hw hk ha hp h (fun ζ' num' s' e' H' g1 g2 g3 g4 => run_inLoop (ihn s' ζ' num' e' H' g2 g3 g1 (hO.from g4))) (hOl hO)
     exact main n s ζ num e H ha hp ht hO
   cases h <;> first | (exact absurd ⟨_, _, rfl⟩ hu; done) | skip
   all_goals clear hu
   all_goals first | (simp only [trun] at ht; cases ht; done) | (cases hw; done) | skip
   rotate_left
   · rename_i σ r0 hb
     cases b <;> first | (simp [wf] at hw; done) | skip
     rename_i b1 rest
     cases b1 <;> first | (simp [wf] at hw; done) | skip
     rename_i id ops draw
     cases draw <;> first | (simp [wf] at hw; done) | skip
     rw [trun.eq_def] at ht; dsimp only at ht
     split at ht
     rotate_left
     · cases ht
     rename_i hr hbb
     cases hbb
     split at ht
     rotate_left
     · cases ht
     rename_i kt vt l o os hm hl hops
     obtain ⟨hb1, ht⟩ := zAW ht
     simp only [Bool.and_eq_true, Option.isNone_iff_eq_none] at hb1
     obtain ⟨⟨⟨hmn, hlm⟩, hrn⟩, hnext⟩ := hb1
     split at ht
     rotate_left
     · cases ht
     rename_i x0 hx0
     have hw : (ops.toList.all (okOp N ops.toList) && wf N rest hb) = true := by simpa only [wf] using hw
     rw [Bool.and_eq_true] at hw
     exact lm_sound hΓ (ih2.2 _ _ rfl) hw.1 hw.2 hk ha hp hr hm hl hlm hops (Nat.le_of_ble_eq_true hrn) (Nat.le_of_ble_eq_true hmn) hnext hx0 ht hO
   rename_i σ hb
   simp only [trun] at ht
   split at ht
   rotate_left
   · cases ht
   rename_i x0 hx0
   obtain ⟨n, hn⟩ := iter_some ht
   have hOl : ∀ {R' : Type} {cx' : Cx R'} {r' : R'} {ζ1 num1 s1}, Outs P f N n0 Rp B ζ1 num1 s1 cx' r' K → Outs P f N n0 Rp B ζ1 num1 s1 cx' r' (.inLoop b :: K) := fun h => ⟨fun i k' hk' => h.ex i k' hk', h.ret⟩
   have main : ∀ (n : Nat) (x : σ.I) (ζ1 : Nat → Row) (num1 : Nat → Nat) (H1 : Heap), Abs B ζ1 num1 (zAn (cx.d + 1) σ x s) (zCn num1 (zAn (cx.d + 1) σ x s)) H1 → Le (cx.d + 1) ζ num s ζ1 num1 (zAn (cx.d + 1) σ x s) →
       iterN (fun x => trun P Γ b hb (cx.inner σ.I) (fun s' => (pack cx.k cx.d σ s').map .inl) (zAn (cx.d + 1) σ x s)) n x = some r → Run P f N n0 Rp (.code b :: .inLoop b :: K) (zCn num1 (zAn (cx.d + 1) σ x s)) H1 := by
     intro n
     induction n with
     | zero => intro x ζ1 num1 H1 _ _ h; cases h
     | succ n ihn =>
       intro x ζ1 num1 H1 ha1 hle1 h
       simp only [iterN] at h
       split at h
       · cases h
       · rename_i x' hx'
         refine ih hb (cx.inner σ.I) _ _ (.inl x') ζ1 num1 _ H1 _ hw hk ha1 (unpack_plain hp) hx' (fun ζ' num' s' e' H' g1 g2 g3 g4 => ?_) (hOl (Outs.innerL hO))
         obtain ⟨ζ2, num2, H2, w1, w2, w3⟩ := unpack_sound hk (Nat.le_succ cx.d) g2 (hle1.trans g4) (map_inl g1)
         exact zDT w1 (run_inLoop (ihn x' ζ2 num2 H2 w2 w3 h))
       · rename_i r' hr'
         have := Option.some.inj h; subst this
         exact ih hb (cx.inner σ.I) _ _ (.inr r') ζ1 num1 _ H1 _ hw hk ha1 (unpack_plain hp) hr' (fun ζ' num' s' e' H' g1 _ _ _ => (map_inl_r g1).elim) (hOl (hO.innerR hle1))
   obtain ⟨ζ2, num2, H2, w1, w2, w3⟩ := unpack_sound hk (Nat.le_succ cx.d) ha (Le.refl _ _ _ _) hx0
   exact zDT w1 (main n x0 ζ2 num2 H2 w2 w3 hn)
 | _ =>
   refine ⟨?_, fun _ _ h => by cases h⟩
   intro R h cx k s r ζ num e H K hw hk ha hp ht hC hO
   simp only [trun] at ht
   cases ht
theorem trun_sound (hΓ : ∀ c ∈ Γ, zAu P c) (hmix : P.follows .mixedOrders = true) (c : Code) : SoundAt P Γ B f N n0 Rp c := (trun_sound2 hΓ hmix c).1
end
end Go.T
namespace Go.T
open Go.Ab
variable [Go.Ab.DM]
section
variable {P : Program} {Γ : List Con} {B : Base} {ζ : Nat → Row} {num : Nat → Nat} {s : St} {e : Env} {H : Heap}
theorem resT_sound (ha : Abs B ζ num s e H) : ∀ {rs : List ResultVar} {l : List TV}, resT P s rs = some l → ∃ ds, aRes P e H rs = some ds ∧ Tls ds (l.map (enc (zAB num s.rows))) ∧ ∀ v ∈ l, okV s.rows v
 | [], l, h => by have := Option.some.inj h; subst this; exact ⟨[], rfl, .nil, by simp⟩
 | .tmp t :: rs, l, h => by
   simp only [resT] at h
   split at h
   · rename_i en l' h1 h2
     obtain ⟨hc, hx⟩ := zAW h
     have := Option.some.inj hx; subst this
     obtain ⟨ds, g1, g2, g3⟩ := resT_sound ha h2
     have hc := List.isEmpty_iff.1 hc
     have hh : zAz s.gs en.c = true := by rw [hc]; rfl
     refine ⟨e t :: ds, by simp only [aRes, g1, Option.map_some], .cons (Tl.of_eq (ha.at h1 hh)) g2, fun v hv => ?_⟩
     rcases List.mem_cons.1 hv with rfl | hv
     · exact ha.ok t en h1 hh
     · exact g3 v hv
   · cases h
 | .cell a t :: rs, l, h => by
   simp only [resT] at h
   split at h
   · rename_i en l' h1 h2
     obtain ⟨hc, hx⟩ := zAW h
     split at hx
     · rename_i v hv
       have := Option.some.inj hx; subst this
       obtain ⟨ds, g1, g2, g3⟩ := resT_sound ha h2
       have hc := List.isEmpty_iff.1 hc
       have hh : zAz s.gs en.c = true := by rw [hc]; rfl
       obtain ⟨d, k1, k2, k3⟩ := loadT_sound ha.hrel (ha.ok a en h1 hh) hv
       rw [← ha.at h1 hh] at k1
       refine ⟨d :: ds, by simp only [aRes, k1, g1, Option.bind_some, Option.map_some], .cons k2 g2, fun v hv => ?_⟩
       rcases List.mem_cons.1 hv with rfl | hv
       · exact k3
       · exact g3 v hv
     · cases hx
   · cases h
theorem retT_sound {ds : List D} {l : List TV} {ρ : Refs} (h : Tls ds (l.map (enc ρ))) : Tl (retD ds) (enc ρ (retT l)) := by
 match l, ds, h with
 | [], _, .nil => exact Tl.of_eq (by rw [show retT [] = tupV [] from rfl, enc_tup]; rfl)
 | [v], _, .cons h .nil => exact h
 | v :: u :: l, _, .cons h1 (.cons h2 h3) =>
   rw [show retT (v :: u :: l) = tupV (v :: u :: l) from rfl, enc_tup]
   exact Tl.tup (.cons h1 (.cons h2 h3))
theorem retT_ok {rows : Rows} {l : List TV} (h : ∀ v ∈ l, okV rows v) : okV rows (retT l) := by
 match l with
 | [] => exact ok_tup _ h
 | [v] => exact h v (by simp)
 | v :: u :: l => exact ok_tup _ h
theorem lookR_numb : ∀ (l : List RTy) (n r : Nat), zBT (numb n l) (n + r) = l[r]?
 | [], n, r => by simp [numb, zBT]
 | e :: l, n, 0 => by simp [numb, zBT]
 | e :: l, n, r + 1 => by
   have := lookR_numb l (n + 1) r
   rw [show n + 1 + r = n + (r + 1) by omega] at this
   simp only [numb, zBT, List.getElem?_cons_succ]
   cases hb : Nat.beq n (n + (r + 1)) with
   | true => rw [Nat.beq_eq] at hb; omega
   | false => exact this
theorem end_sound {c : Con} {k : Nat} {n0 : Nat} (hn0 : n0 ≤ H.length) {rs : List ResultVar} {y : (zAT c.outT).I} (ha : Abs B ζ num s e H) (hk : B.k = k) (h : endT P rs k c.res c.outs s = some y) :
   ∃ ds, aRes P e H rs = some ds ∧ ∃ ζ' num' H', Weak n0 H (retD ds) H' (enc (zAB num' (zAJ c y)) (zAt c y)) ∧ HRel ζ' num' (zAJ c y) H' ∧ okV (zAJ c y) (zAt c y) ∧
     (∀ r, zAQ (zAA (zAJ c y) r) = true → (r < k → num' r = B.num0 r) ∧ (k ≤ r → B.n0 ≤ num' r)) ∧ ∀ r, r < k → zAO (zAA (zAJ c y) r) = true → zCT (zAA (zAJ c y) r) = B.len0 r := by
 unfold endT at h
 split at h
 rotate_left
 · cases h
 rename_i l hl
 dsimp only at h
 obtain ⟨hb, h⟩ := zAW h
 simp only [Bool.and_eq_true] at hb
 obtain ⟨⟨hinj, hsb⟩, hrb⟩ := hb
 split at h
 rotate_left
 · cases h
 rename_i a b hpa hpb
 have hlv : zAI (zAT c.outT) y = a ++ b := packAll_leaves h
 obtain ⟨ds, hds1, hds2, hds3⟩ := resT_sound ha hl
 generalize hρ : uniRows s.rows (ids k ++ uni c.res (retT l).t) (numb 0 c.outs) = ρ at *
 generalize hfz : fzT c.res (retT l).t ++ fzRows s.rows ρ (numb 0 c.outs) = fz at *
 have hf := zBe 1 fz s.rows
 generalize zAi 1 fz 0 s.rows = rf at *
 obtain ⟨us, hu1, hu2⟩ := packVals_un hpa
 obtain ⟨m, hm1, hm2⟩ := packRows_un hpb
 have hco : zAJ c y = zAm m := by
   unfold zAJ
   rw [hlv, hu2]; dsimp only; rw [hm2]
 obtain ⟨w, hw, hus⟩ : ∃ w : c.res.I, packV ρ (isLst (numb 0 c.outs)) rf c.res (retT l) = some w ∧ us = [⟨c.res, w⟩] := by
   cases hu1 with
   | cons h1 h2 => cases h2; exact ⟨_, h1, rfl⟩
 have hcr : zAt c y = ⟨c.res, w⟩ := by
   unfold zAt
   rw [hlv, hu2, hus]
 rw [hco, hcr]
 have hr := ha.hrel
 have hml : (zAm m).length = c.outs.length := by rw [len_stRows, hm1.len, numb_len]
 have hia := injOk_at hinj
 have hlk : ∀ r, zBT (numb 0 c.outs) r = c.outs[r]? := fun r => by have := lookR_numb c.outs 0 r; rw [Nat.zero_add] at this; exact this
 have hat := fun r => hm1.at r
 have hT : ∀ r, Tgt ρ (isLst (numb 0 c.outs)) rf (zAm m) r (zAA (zAm m) r) := fun r => by
   have h := hat r
   split at h
   · obtain ⟨row, h1, _, h2⟩ := h
     rw [Nat.zero_add] at h2
     rw [h1]; exact .pk h2
   · rw [h]; exact .gone
 have hpk : ∀ r, zAQ (zAA (zAm m) r) = true ∨ zAO (zAA (zAm m) r) = true → ∃ ee, zBT (numb 0 c.outs) r = some ee ∧ ee ≠ .gone ∧ PkRow ρ (isLst (numb 0 c.outs)) rf r ee (zAA (zAm m) r) := fun r hl => by
   have h := hat r
   split at h
   · rename_i ei hei
     obtain ⟨row, h1, _, h2⟩ := h
     rw [Nat.zero_add] at h2
     rw [h1] at hl ⊢
     refine ⟨ei, by rw [hlk]; exact hei, fun hg => ?_, h2⟩
     subst hg
     cases h2
     rcases hl with hl | hl <;> simp [zAQ, zAO] at hl
   · rw [h] at hl; rcases hl with hl | hl <;> simp [zAQ, zAO] at hl
 have hsrc : ∀ r, zAQ (zAA (zAm m) r) = true → ∃ ee, zBT (numb 0 c.outs) r = some ee ∧ ee ≠ .gone ∧ zCP ρ r = some (src ρ r) := fun r hl => by
   obtain ⟨ee, h1, h2, h3⟩ := hpk r (.inl hl)
   refine ⟨ee, h1, h2, ?_⟩
   generalize zAA (zAm m) r = row at *
   cases h3 with
   | gone => exact absurd rfl h2
   | one h5 => rw [zAX h5]; exact h5
   | many h5 => rw [zAX h5]; exact h5
   | lst h5 => rw [zAX h5]; exact h5
   | fro h5 => rw [zAX h5]; exact h5
   | fr1 h5 => rw [zAX h5]; exact h5
   | mp h5 => rw [zAX h5]; exact h5
   | sit h5 => rw [zAX h5]; exact h5
   | nil => simp [zAQ] at hl
 have hnul : ∀ r, zCP ρ r = none → isLst (numb 0 c.outs) r = true → ∃ t, zAA (zAm m) r = .lst t [] := fun r hg hl => by
   unfold isLst at hl
   have h := hat r
   rw [hlk] at hl
   split at hl <;> first | (cases hl; done) | skip
   rename_i t ht
   rw [ht] at h
   obtain ⟨row, h1, _, h2⟩ := h
   rw [Nat.zero_add] at h2
   rw [h1]
   cases h2 with
   | lst h5 _ => rw [hg] at h5; cases h5
   | nil => exact ⟨_, rfl⟩
 have hrefs : ∀ r t y, zAA (zAm m) r = .one t y → ∀ z ∈ t.refs, z < (zAm m).length := fun r t y hrow z hz => by
   rw [hml]
   obtain ⟨ee, h1, h2, h3⟩ := hpk r (.inl (by rw [hrow]; rfl))
   rw [hrow] at h3
   cases h3
   exact rowsBelow_at hrb r _ (lookR_mem h1) z hz
 have hR := tgt_hrel (fr_hrel hr hf) hT hnul hrefs fun r z h1 h2 hne => by
   obtain ⟨e1, g1, g2, g3⟩ := hsrc r h1
   obtain ⟨e2, k1, k2, k3⟩ := hsrc z h2
   exact hia.two r z e1 e2 _ _ g1 k1 g2 k2 hne g3 k3
 have hpr := tgt_prel (num := num) hT hnul
 have hokr := retT_ok hds3
 have hokf : okV rf (retT l) := zCs (fr_le hf) _ _ hokr
 have htold := packV_told hpr c.res (retT l) w hokf hw
 refine ⟨ds, hds1, fun r => ζ (src ρ r), fun r => num (src ρ r), frH num s.rows rf H, fun own X wd v hn hs hv => ⟨own, fr_sim hs hr hf, ?_, .of_ext hn (fr_ext hs hr)⟩, hR, htold.ok fun z hz => by rw [hml]; exact slotsBelow_at hsb c.res (by simp) z hz, fun r hl => ?_, fun r hrl hi => ?_⟩
 · exact htold.one _ _ _ _ _ (fr_rel hs hr hf (t := (retT l).t) (x := (retT l).x) hokr (retT_sound hds2 _ _ _ _ _ hv))
 · obtain ⟨e1, g1, g2, g3⟩ := hsrc r hl
   have h1 := ((hia.one r e1 g1 g2).1 _ g3).1
   have hlr := tgt_live (hT r) hl
   have hb := ha.base (src ρ r) (by rw [← zBK hf hlr]; exact hlr)
   rw [hk] at hb
   rcases h1 with ⟨h2, h3⟩ | ⟨h2, h3⟩
   · rw [h3] at hb
     dsimp only
     rw [h3]
     exact ⟨fun _ => hb.1 h2, fun h => by omega⟩
   · exact ⟨fun h => by omega, fun _ => hb.2 h3⟩
 · obtain ⟨e1, g1, g2, g3⟩ := hpk r (.inr hi)
   cases hq : zCP ρ r with
   | none => have := (hia.one r e1 g1 g2).2 hq; omega
   | some q =>
     have h3 := ((hia.one r e1 g1 g2).1 q hq).1
     have hqr : q = r := by rcases h3 with ⟨_, h4⟩ | ⟨h4, _⟩; exact h4; omega
     subst hqr
     exact tgt_lens (B := B) hT (lens_le ha.lens ha.klen (fr_le hf)) (by rw [hk]; exact hrl) (zAX hq) (.inl hq) hi
end
end Go.T
namespace Go.Ab
variable [Go.Ab.DM]
mutual
def D.sh (n : Nat) : D → D
 | .agg cs => .agg (shs n cs)
 | .tup cs => .tup (shs n cs)
 | .sl r i m => .sl (n + r) i m
 | .slc r i m c => .slc (n + r) i m c
 | .pt r i o => .pt (n + r) i o
 | .mp r => .mp (n + r)
 | .fn f fs cs => .fn f (shs n fs) (shs n cs)
 | .ifc t d => .ifc t (d.sh n)
 | .v x => .v x
 | .fz k xs => .fz k xs
 | .fp k xs i o => .fp k xs i o
 | .any => .any
termination_by d => SizeOf.sizeOf d
def shs (n : Nat) : List D → List D
 | [] => []
 | d :: ds => d.sh n :: shs n ds
termination_by ds => SizeOf.sizeOf ds
end
theorem shs_map (n : Nat) : ∀ ds : List D, shs n ds = ds.map (D.sh n)
 | [] => by simp [shs]
 | d :: ds => by rw [shs, shs_map n ds]; rfl
section
variable {own : Nat → Own} {U : Nat → Prop} {w : World}
theorem Cells_own {own own' : Nat → Own} {k : Nat} {xs : List D} {b off : Nat} (h : Cells own U w 0 k xs b off) : Cells own' U w 0 k xs b off :=
 Cells.mono (n := 0) (n' := 0) ⟨Nat.le_refl _, fun r hr => absurd hr (Nat.not_lt_zero _), fun _ h => h, fun _ _ _ => rfl⟩ k xs b off (fun _ => rfl) h
mutual
theorem VRel_sh (n N : Nat) : ∀ (d : D) (v : Value), VRel own U w N (d.sh n) v ↔ VRel (fun r => own (n + r)) U w (N - n) d v
 | .v x, v => by rw [D.sh, VRel, VRel]
 | .agg cs, v => by
   rw [D.sh, VRel, VRel]
   exact ⟨fun ⟨vs, h1, h2⟩ => ⟨vs, h1, (zDa n N cs vs).1 h2⟩, fun ⟨vs, h1, h2⟩ => ⟨vs, h1, (zDa n N cs vs).2 h2⟩⟩
 | .tup cs, v => by
   rw [D.sh, VRel, VRel]
   exact ⟨fun ⟨vs, h1, h2⟩ => ⟨vs, h1, (zDa n N cs vs).1 h2⟩, fun ⟨vs, h1, h2⟩ => ⟨vs, h1, (zDa n N cs vs).2 h2⟩⟩
 | .fz k xs, v => by
   rw [D.sh, VRel, VRel]
   exact ⟨fun ⟨a, c, h1, h2, h3⟩ => ⟨a, c, h1, h2, fun h => by obtain ⟨b, off, h4, h5, h6⟩ := h3 h; exact ⟨b, off, h4, h5, Cells_own h6⟩⟩,
     fun ⟨a, c, h1, h2, h3⟩ => ⟨a, c, h1, h2, fun h => by obtain ⟨b, off, h4, h5, h6⟩ := h3 h; exact ⟨b, off, h4, h5, Cells_own h6⟩⟩⟩
 | .fp k xs i o, v => by
   rw [D.sh, VRel, VRel]
   exact ⟨fun ⟨b, off, h4, h5, h6⟩ => ⟨b, off, h4, h5, Cells_own h6⟩, fun ⟨b, off, h4, h5, h6⟩ => ⟨b, off, h4, h5, Cells_own h6⟩⟩
 | .sl r i m, v => by rw [D.sh, VRel, VRel, show n + r < N ↔ r < N - n by omega]
 | .slc r i m c, v => by rw [D.sh, VRel, VRel, show n + r < N ↔ r < N - n by omega]
 | .pt r i o, v => by rw [D.sh, VRel, VRel, show n + r < N ↔ r < N - n by omega]
 | .mp r, v => by rw [D.sh, VRel, VRel, show n + r < N ↔ r < N - n by omega]
 | .fn f fs cs, v => by
   rw [D.sh, VRel, VRel]
   exact ⟨fun ⟨vs, us, h1, h2, h3⟩ => ⟨vs, us, h1, (zDa n N fs vs).1 h2, (zDa n N cs us).1 h3⟩, fun ⟨vs, us, h1, h2, h3⟩ => ⟨vs, us, h1, (zDa n N fs vs).2 h2, (zDa n N cs us).2 h3⟩⟩
 | .ifc t d, v => by
   rw [D.sh, VRel, VRel]
   exact ⟨fun ⟨x, h1, h2⟩ => ⟨x, h1, (VRel_sh n N d x).1 h2⟩, fun ⟨x, h1, h2⟩ => ⟨x, h1, (VRel_sh n N d x).2 h2⟩⟩
 | .any, v => by rw [D.sh, VRel, VRel]
termination_by d => SizeOf.sizeOf d
theorem zDa (n N : Nat) : ∀ (ds : List D) (vs : List Value), VRels own U w N (shs n ds) vs ↔ VRels (fun r => own (n + r)) U w (N - n) ds vs
 | [], vs => by rw [shs, VRels, VRels]
 | d :: ds, vs => by
   rw [shs, VRels, VRels]
   exact ⟨fun ⟨x, xs, h1, h2, h3⟩ => ⟨x, xs, h1, (VRel_sh n N d x).1 h2, (zDa n N ds xs).1 h3⟩, fun ⟨x, xs, h1, h2, h3⟩ => ⟨x, xs, h1, (VRel_sh n N d x).2 h2, (zDa n N ds xs).2 h3⟩⟩
termination_by ds => SizeOf.sizeOf ds
end
theorem sh_one (n : Nat) (d : D) : (d.sh n).one = d.one := by cases d <;> simp [D.sh, D.one]
theorem sh_cells (n : Nat) (d : D) : (d.sh n).cells = shs n d.cells := by cases d <;> simp [D.sh, D.cells, shs]
theorem Flat_sh (n N : Nat) : ∀ (ds : List D) (b off : Nat), Flat own U w N (shs n ds) b off ↔ Flat (fun r => own (n + r)) U w (N - n) ds b off
 | [], b, off => by rw [shs, Flat, Flat]
 | d :: ds, b, off => by
   rw [shs, Flat, Flat, sh_one, Flat_sh n N ds]
   exact ⟨fun ⟨h1, ⟨x, h2, h3⟩, h4⟩ => ⟨h1, ⟨x, h2, (VRel_sh n N d x).1 h3⟩, h4⟩, fun ⟨h1, ⟨x, h2, h3⟩, h4⟩ => ⟨h1, ⟨x, h2, (VRel_sh n N d x).2 h3⟩, h4⟩⟩
theorem shs_len (n : Nat) (ds : List D) : (shs n ds).length = ds.length := by rw [shs_map, List.length_map]
theorem CellsL_sh (n N k : Nat) : ∀ (ds : List D) (b off : Nat), Cells own U w N k (shs n ds) b off ↔ Cells (fun r => own (n + r)) U w (N - n) k ds b off
 | [], b, off => by rw [shs, Cells, Cells]
 | d :: ds, b, off => by
   rw [shs, Cells, Cells, CellsL_sh n N k ds, zCV, zCV, sh_cells, shs_len, Flat_sh]
end
def shRow (n : Nat) : Row → Row
 | .cells k xs => .cells k (shs n xs)
 | .mp es cl => .mp (es.map fun p => (p.1, p.2.1, p.2.2.sh n)) cl
 | .it m since seen last => .it (n + m) since seen last
 | .sit s p => .sit s p
def shH (n : Nat) (H : Heap) : Heap := List.replicate n none ++ H.map (Option.map (shRow n))
def shOwn (n : Nat) (own : Nat → Own) : Nat → Own := fun r => if r < n then own r else own (r - n)
theorem shH_len (n : Nat) (H : Heap) : (shH n H).length = n + H.length := by simp [shH]
theorem shH_get (n : Nat) (H : Heap) (r : Nat) : (shH n H).get r = if r < n then none else (H.get (r - n)).map (shRow n) := by
 unfold shH Heap.get
 split
 · rename_i h; rw [List.getElem?_append_left (by simpa using h)]; simp [h]
 · rename_i h
   rw [List.getElem?_append_right (by simp; omega)]
   simp only [List.length_replicate, List.getElem?_map]
   cases H[r - n]? with
   | none => rfl
   | some x => cases x <;> rfl
theorem shOwn_at (n : Nat) (own : Nat → Own) : (fun r => shOwn n own (n + r)) = own := by
 funext r
 unfold shOwn
 rw [if_neg (by omega)]
 congr 1; omega
theorem shift_sim {own : Nat → Own} {H : Heap} {X : Nat → Prop} {w : World} (hs : Sim own H X w) :
   Sim (shOwn H.length own) (shH H.length H) X w ∧ Ext X own H w (shOwn H.length own) (shH H.length H) w ∧ ∀ d v, Rel own H X w d v → Rel (shOwn H.length own) (shH H.length H) X w (d.sh H.length) v := by
 generalize hn : H.length = n
 have hget : ∀ r row, (shH n H).get r = some row → ∃ row0, n ≤ r ∧ H.get (r - n) = some row0 ∧ row = shRow n row0 := fun r row h => by
   rw [shH_get] at h
   split at h
   · cases h
   · rename_i hr
     cases h0 : H.get (r - n) with
     | none => rw [h0] at h; cases h
     | some row0 => rw [h0] at h; exact ⟨row0, by omega, rfl, (Option.some.inj h).symm⟩
 have hown : ∀ r, n ≤ r → shOwn n own r = own (r - n) := fun r h => by unfold shOwn; rw [if_neg (by omega)]
 have hU : ∀ b, zAL own H X w b ↔ zAL (shOwn n own) (shH n H) X w b := fun b => by
   constructor
   · rintro ⟨h1, h2, h3⟩
     refine ⟨h1, h2, fun r row h => ?_⟩
     obtain ⟨row0, h4, h5, _⟩ := hget r row h
     rw [hown r h4]; exact h3 _ _ h5
   · rintro ⟨h1, h2, h3⟩
     refine ⟨h1, h2, fun r row h => ?_⟩
     have := h3 (n + r) (shRow n row) (by rw [shH_get, if_neg (by omega), Nat.add_sub_cancel_left, h]; rfl)
     rw [hown _ (by omega), Nat.add_sub_cancel_left] at this
     exact this
 have hUeq : zAL (shOwn n own) (shH n H) X w = zAL own H X w := funext fun b => propext (hU b).symm
 have hlen : (shH n H).length - n = H.length := by rw [shH_len]; omega
 have hrel : ∀ d v, Rel own H X w d v → Rel (shOwn n own) (shH n H) X w (d.sh n) v := fun d v h => by
   rw [Rel, VRel_sh, shOwn_at, hUeq, hlen]; exact h
 refine ⟨⟨fun r row h => ?_, fun r r' row row' h h' hne => ?_, hs.hid⟩, ⟨Nat.le_refl _, by rw [shH_len]; omega, fun r hr => by unfold shOwn; rw [if_pos (by omega)], fun b hb => ⟨(hU b).1 hb, rfl⟩, fun _ _ => rfl, .refl _⟩, hrel⟩
 · obtain ⟨row0, h1, h2, rfl⟩ := hget r row h
   obtain ⟨h3, h4⟩ := hs.live _ _ h2
   rw [hown r h1]
   refine ⟨?_, h4⟩
   cases row0 with
   | cells k xs =>
     obtain ⟨g1, c, t, g2, g3, g4, g5⟩ := h3
     exact ⟨g1, c, t, g2, g3, by rw [shs_len]; exact g4, by rw [CellsL_sh, shOwn_at, hUeq, hlen]; exact g5⟩
   | mp es cl =>
     obtain ⟨en, g1, g2, g3⟩ := h3
     refine ⟨en, g1, by rw [g2, List.map_map]; rfl, ?_⟩
     have : (es.map fun p => (p.1, p.2.1, p.2.2.sh n)).map (·.2.2) = shs n (es.map (·.2.2)) := by rw [shs_map, List.map_map, List.map_map]; rfl
     rw [this, zDa, shOwn_at, hUeq, hlen]; exact g3
   | it m since seen last =>
     obtain ⟨g1, g2, g3⟩ := h3
     exact ⟨by rw [shH_len]; omega, g2, by rw [hown _ (by omega), Nat.add_sub_cancel_left]; exact g3⟩
   | sit s pos => exact h3
 · obtain ⟨row0, h1, h2, _⟩ := hget r row h
   obtain ⟨row0', h1', h2', _⟩ := hget r' row' h'
   rw [hown r h1, hown r' h1']
   exact hs.excl _ _ _ _ h2 h2' (by omega)
theorem Sound.shift {P : Program} {f : FuncId} {ds : List D} {H : Heap} {R R' : D → Heap → Prop} (h : Sound P f ds H R) (hr : ∀ d H', H.length ≤ H'.length → R d H' → R' (d.sh H'.length) (shH H'.length H')) : Sound P f ds H R' := ⟨h.1, fun own X w vs hs hv =>
 Calls.mono (h.2 own X w vs hs hv) fun e w' ⟨own', d, H', v, h1, h2, h3, h4, h5⟩ => by
   obtain ⟨g1, g2, g3⟩ := shift_sim h2
   exact ⟨_, _, _, v, h1, g1, g3 _ _ h3, Ext.trans h4 g2, hr _ _ h4.hn h5⟩⟩
mutual
theorem sh_noref (n : Nat) : ∀ d : D, d.noref = true → d.sh n = d
 | .v x, _ => by rw [D.sh]
 | .fz k xs, _ => by rw [D.sh]
 | .fp k xs i o, _ => by rw [D.sh]
 | .any, _ => by rw [D.sh]
 | .agg cs, h => by rw [D.noref] at h; rw [D.sh, shs_noref n cs h]
 | .tup cs, h => by rw [D.noref] at h; rw [D.sh, shs_noref n cs h]
 | .fn f fs cs, h => by rw [D.noref, Bool.and_eq_true] at h; rw [D.sh, shs_noref n fs h.1, shs_noref n cs h.2]
 | .ifc t d, h => by rw [D.noref] at h; rw [D.sh, sh_noref n d h]
 | .sl r i m, h => by simp [D.noref] at h
 | .slc r i m c, h => by simp [D.noref] at h
 | .pt r i o, h => by simp [D.noref] at h
 | .mp r, h => by simp [D.noref] at h
termination_by d => SizeOf.sizeOf d
theorem shs_noref (n : Nat) : ∀ ds : List D, zAZ ds = true → shs n ds = ds
 | [], _ => by rw [shs]
 | d :: ds, h => by rw [zAZ, Bool.and_eq_true] at h; rw [shs, sh_noref n d h.1, shs_noref n ds h.2]
termination_by ds => SizeOf.sizeOf ds
end
end Go.Ab
namespace Go.T
open Go.Ab
variable [Go.Ab.DM]
theorem Tl_sh (n : Nat) {d d' : D} (h : Tl d d') : Tl (d.sh n) (d'.sh n) := fun own U w N v hv => (VRel_sh n N d' v).2 (h _ _ _ _ _ ((VRel_sh n N d v).1 hv))
theorem Tls_sh (n : Nat) {ds ds' : List D} (h : Tls ds ds') : Tls (shs n ds) (shs n ds') := by
 induction h with
 | nil => rw [shs]; exact .nil
 | cons h1 h2 ih => rw [shs, shs]; exact .cons (Tl_sh n h1) ih
section
variable {ζ : Nat → Row} {num : Nat → Nat} {rows : Rows} {H : Heap}
theorem ownD_sh (n m : Nat) (row : TRow) : ownD (n + m) row = (ownD m row).sh n := by
 cases row <;> simp [ownD, D.sh]
 rename_i t l; cases l <;> simp [D.sh]
theorem subD_sh (n m : Nat) (q : Nat × Nat) (row : TRow) : subD (n + m) q row = (subD m q row).sh n := by
 cases row <;> simp [subD, D.sh]
 rename_i t l; cases l <;> simp [D.sh]
theorem p0D_sh (n m o : Nat) (row : TRow) : p0D (n + m) o row = (p0D m o row).sh n := by cases row <;> simp [p0D, D.sh]
theorem ptD_sh (n m o i : Nat) (row : TRow) : ptD (n + m) o i row = (ptD m o i row).sh n := by cases row <;> simp [ptD, D.sh]
theorem mpD_sh (n m : Nat) (row : TRow) : mpD (n + m) row = (mpD m row).sh n := by cases row <;> simp [mpD, D.sh]
theorem enc_sh (n : Nat) : ∀ (t : Ty) (x : t.I), (E t (zAB (fun r => n + num r) rows) x).1 = ((E t (zAB num rows) x).1).sh n ∧ (E t (zAB (fun r => n + num r) rows) x).2 = shs n (E t (zAB num rows) x).2 := by
 intro t
 have leaf : ∀ (d d' : D), d' = d.sh n → d' = d.sh n ∧ [d'] = shs n [d] := fun d d' h => ⟨h, by rw [h]; simp [shs]⟩
 induction t with
 | pr a b iha ihb =>
   intro x
   refine ⟨by simp [E, D.sh], ?_⟩
   show _ :: _ = shs n (_ :: _)
   rw [shs, (iha x.1).1, (ihb x.2).2]
 | agg s ih =>
   intro x
   refine leaf _ _ ?_
   show D.agg _ = (D.agg _).sh n
   rw [D.sh, (ih x).2]
 | tup s ih =>
   intro x
   refine leaf _ _ ?_
   show D.tup _ = (D.tup _).sh n
   rw [D.sh, (ih x).2]
 | fn f a c iha ihc =>
   intro x
   refine leaf _ _ ?_
   show D.fn _ _ _ = (D.fn _ _ _).sh n
   rw [D.sh, (iha x.1).2, (ihc x.2).2]
 | ifc id t ih =>
   intro x
   refine leaf _ _ ?_
   show D.ifc _ _ = (D.ifc _ _).sh n
   rw [D.sh, (ih x).1]
 | own r => intro x; exact leaf _ _ (ownD_sh n (num r) _)
 | sub r => intro x; exact leaf _ _ (subD_sh n (num r) x _)
 | p0 r o => intro x; exact leaf _ _ (p0D_sh n (num r) o _)
 | pt r o => intro x; exact leaf _ _ (ptD_sh n (num r) o x _)
 | mp r => intro x; exact leaf _ _ (mpD_sh n (num r) _)
 | unit => intro x; refine ⟨by simp [E, D.sh], by simp [E, shs]⟩
 | _ => intro x; refine leaf _ _ (by simp [E, D.sh])
theorem encV_sh (n : Nat) (v : TV) : enc (zAB (fun r => n + num r) rows) v = (enc (zAB num rows) v).sh n := (enc_sh n v.t v.x).1
theorem encs_sh (n : Nat) : ∀ L : List TV, L.map (enc (zAB (fun r => n + num r) rows)) = shs n (L.map (enc (zAB num rows)))
 | [] => by simp [shs]
 | v :: L => by simp only [List.map_cons, shs, encV_sh, encs_sh n L]
theorem e0_sh (n : Nat) {t : Ty} (h : t.pure = true) (x : t.I) : (e0 t x).sh n = e0 t x := sh_noref n _ (e0_noref t x h).1
theorem e0s_sh (n : Nat) {t : Ty} (h : t.pure = true) : ∀ l : List t.I, shs n (l.map (e0 t)) = l.map (e0 t) := fun l => shs_noref n _ (zCJ h l)
theorem sh_agg (n : Nat) (d : D) : zBN (d.sh n) = zBN d := by cases d <;> simp [D.sh, zBN]
theorem hrel_sh (n : Nat) (h : HRel ζ num rows H) : HRel (fun r => shRow n (ζ r)) (fun r => n + num r) rows (shH n H) := by
 have hget : ∀ r row, H.get r = some row → (shH n H).get (n + r) = some (shRow n row) := fun r row hg => by rw [shH_get, if_neg (by omega), Nat.add_sub_cancel_left, hg]; rfl
 refine ⟨fun r => ?_, fun r q h1 h2 hne => fun he => h.inj r q h1 h2 hne (by omega), h.ok⟩
 have hR := h.row r
 cases hrow : zAA rows r with
 | one t x =>
   rw [hrow] at hR
   obtain ⟨h1, k, d, h2, h3, h4⟩ := hR
   refine ⟨h1, k, d.sh n, by rw [hget _ _ h2]; simp [shRow, shs], by rw [sh_agg]; exact h3, ?_⟩
   rw [encs_sh, sh_cells]; exact Tls_sh n h4
 | many t l =>
   rw [hrow] at hR
   exact ⟨hR.1, by rw [hget _ _ hR.2]; simp only [shRow]; rw [e0s_sh n (zBy hR.1)]⟩
 | lst t l =>
   rw [hrow] at hR
   exact ⟨hR.1, fun hne => by rw [hget _ _ (hR.2 hne)]; simp only [shRow]; rw [e0s_sh n (zBy hR.1)]⟩
 | fro t l => rw [hrow] at hR; exact hR
 | fr1 t x => rw [hrow] at hR; exact hR
 | mp k v l =>
   rw [hrow] at hR
   obtain ⟨h1, h2, es, cl, ⟨h3, h4⟩, h5, h6, h7, h8⟩ := hR
   refine ⟨h1, h2, es.map (fun p : Nat × Value × D => (p.1, p.2.1, p.2.2.sh n)), cl, ⟨hget _ _ h3, by show shRow n (ζ r) = _; rw [h4]; rfl⟩, by rw [← h5, List.map_map]; rfl, ?_, fun p hp => ?_, by rw [List.map_map]; exact h8⟩
   · have e1 : (es.map fun p : Nat × Value × D => (p.1, p.2.1, p.2.2.sh n)).map (·.2.2) = shs n (es.map (·.2.2)) := by rw [shs_map, List.map_map, List.map_map]; rfl
     have e2 : (l.map fun p => e0 v p.2) = shs n (l.map fun p => e0 v p.2) := by
       rw [shs_map, List.map_map]
       refine List.map_congr_left fun p _ => ?_
       exact (e0_sh n h2 p.2).symm
     rw [e1, e2]; exact Tls_sh n h6
   · obtain ⟨q, hq, rfl⟩ := List.mem_map.1 hp
     exact h7 q hq
 | itb m =>
   rw [hrow] at hR
   obtain ⟨h1, h2, es, cl, h3, h4⟩ := hR
   exact ⟨hget _ _ h1, h2, _, cl, hget _ _ h3, by show shRow n (ζ r) = _; rw [h4]; rfl⟩
 | ite m k v x y =>
   rw [hrow] at hR
   obtain ⟨h1, h2, hk, hv, since, seen, b, es, cl, d, h3, h4, h5, h6, h7⟩ := hR
   refine ⟨hget _ _ h1, h2, hk, hv, since, seen, b, _, cl, d.sh n, hget _ _ h3, by show shRow n (ζ r) = _; rw [h4]; rfl, ?_, h6, ?_⟩
   · rw [List.find?_map]
     exact (congrArg (Option.map _) h5).trans rfl
   · have := Tl_sh n h7
     rw [e0_sh n hv] at this; exact this
 | sit s p => rw [hrow] at hR; exact hget _ _ hR
 | gone => trivial
end
end Go.T
namespace Go.T
open Go.Ab
variable [Go.Ab.DM]
theorem argsE_at : ∀ (l : List TV) (n i : Nat), zAh (argsE n l) (n + i) = (l[i]?).map fun v => ⟨n + i, 0, [], v⟩
 | [], n, i => rfl
 | v :: l, n, 0 => by simp [argsE, zAh]
 | v :: l, n, i + 1 => by
   have := argsE_at l (n + 1) i
   rw [show n + 1 + i = n + (i + 1) by omega] at this
   simp only [argsE, zAh, List.getElem?_cons_succ]
   cases hb : Nat.beq n (n + (i + 1)) with
   | true => rw [Nat.beq_eq] at hb; omega
   | false => exact this
theorem conOk_of {P : Program} {Γ : List Con} (hΓ : ∀ c ∈ Γ, zAu P c) (hmix : P.follows .mixedOrders = true) (c : Con) {fn : Func} {body : Code} {hint : Hint} (hf : P.funcs[c.f]? = some fn) (hb : fn.body = some body) (hnm : (fn.name == "runtime.NumGoroutine") = false)
   (hN : c.as.length ≤ fn.ntmps) (hw : wf fn.ntmps body hint = true) (hq : c.q = none) (hF : ∀ x, trunF P Γ fn hint c.as c.ins c.res c.outs x = c.F x) (hlen : ∀ x, (zAc c x).length = c.as.length ∧ (zBE c x).length = c.ins.length) : zAu P c := by
 intro x hy ζ num H hR hok
 obtain ⟨y, hy⟩ := hy
 have hQ : ∀ {z}, c.Q x z ↔ c.F x = some z := fun {z} => by unfold Con.Q; rw [hq]
 rw [hQ] at hy
 have ht := hF x
 rw [hy] at ht
 unfold trunF trunFk at ht
 rw [hb] at ht
 dsimp only at ht
 refine Sound.mono (R := fun dd H' => ∃ ζ' num', HRel ζ' num' (zAJ c y) H' ∧ dd = enc (zAB num' (zAJ c y)) (zAt c y) ∧ okV (zAJ c y) (zAt c y) ∧
   (∀ r, zAQ (zAA (zAJ c y) r) = true → (r < c.ins.length → num' r = num r) ∧ (c.ins.length ≤ r → H.length ≤ num' r)) ∧ ∀ r, r < c.ins.length → zAO (zAA (zAJ c y) r) = true → zCT (zAA (zAJ c y) r) = zCT (zAA (zBE c x) r)) ?_ fun dd H' h => ⟨y, hQ.2 hy, h⟩
 refine zAa hf hb hnm rfl (by rw [List.length_map, (hlen x).1]; exact hN) ?_
 let B : Base := ⟨c.ins.length, H.length, num, fun r => zCT (zAA (zBE c x) r)⟩
 let s : St := ⟨argsE 0 (zAc c x), zBE c x, []⟩
 have hfe : ∀ n, zAh (argsE 0 (zAc c x)) n = ((zAc c x)[n]?).map fun v => ⟨n, 0, [], v⟩ := fun n => by
   have := argsE_at (zAc c x) 0 n
   simp only [Nat.zero_add] at this
   exact this
 have hplain : Plain s := ⟨rfl, fun n ent hf => by
   have hf : zAh (argsE 0 (zAc c x)) n = some ent := hf
   rw [hfe] at hf
   cases hv : (zAc c x)[n]? with
   | none => rw [hv] at hf; cases hf
   | some v => rw [hv] at hf; have := Option.some.inj hf; subst this; rfl⟩
 have hlive : ∀ r, zAQ (zAA (zBE c x) r) = true → r < c.ins.length := fun r hl => by rw [← (hlen x).2]; exact zAo (live_row hl)
 have ha : Abs B ζ num s (zCn num s) H := ⟨rfl, hR, fun n ent hf _ => by
     have hf : zAh (argsE 0 (zAc c x)) n = some ent := hf
     rw [hfe] at hf
     cases hv : (zAc c x)[n]? with
     | none => rw [hv] at hf; cases hf
     | some v => rw [hv] at hf; have := Option.some.inj hf; subst this; exact hok v (List.mem_of_getElem? hv),
   fun n b h => (by cases h), fun r hl => ⟨fun _ => rfl, fun h => absurd (hlive r hl) (Nat.not_lt.2 h)⟩, Nat.le_refl _, Nat.le_of_eq (hlen x).2.symm, fun r _ _ => rfl⟩
 have hw0 : WeakS (envOf ((zAc c x).map (enc (zAB num (zBE c x))))) H (zCn num s) H := WeakS.env fun i => by
   unfold zCn
   show Tl _ (match zAh (argsE 0 (zAc c x)) i with | some e => entD num s e | none => .any)
   rw [hfe]
   cases hv : (zAc c x)[i]? with
   | none => exact Tl.any _
   | some v =>
     refine Tl.of_eq ?_
     unfold envOf
     rw [List.getD_eq_getElem?_getD, List.getElem?_map, hv]
     rfl
 have hret : ∀ {rs : List ResultVar}, rs = fn.results.toList → ∀ {ζ' num' s' e' H'}, endT P rs c.ins.length c.res c.outs s' = some y → Abs B ζ' num' s' e' H' → (∀ K, Run P c.f fn.ntmps H.length (fun dd H' => ∃ ζ' num', HRel ζ' num' (zAJ c y) H' ∧ dd = enc (zAB num' (zAJ c y)) (zAt c y) ∧ okV (zAJ c y) (zAt c y) ∧
   (∀ r, zAQ (zAA (zAJ c y) r) = true → (r < c.ins.length → num' r = num r) ∧ (c.ins.length ≤ r → H.length ≤ num' r)) ∧ ∀ r, r < c.ins.length → zAO (zAA (zAJ c y) r) = true → zCT (zAA (zAJ c y) r) = zCT (zAA (zBE c x) r)) (.code .ret :: K) e' H') ∧ Run P c.f fn.ntmps H.length (fun dd H' => ∃ ζ' num', HRel ζ' num' (zAJ c y) H' ∧ dd = enc (zAB num' (zAJ c y)) (zAt c y) ∧ okV (zAJ c y) (zAt c y) ∧
   (∀ r, zAQ (zAA (zAJ c y) r) = true → (r < c.ins.length → num' r = num r) ∧ (c.ins.length ≤ r → H.length ≤ num' r)) ∧ ∀ r, r < c.ins.length → zAO (zAA (zAJ c y) r) = true → zCT (zAA (zAJ c y) r) = zCT (zAA (zBE c x) r)) [] e' H' := fun hrs ζ' num' s' e' H' he ha' => by
   have hr : fn.results = _ := (show fn.results = (fn.results.toList).toArray from by simp)
   rw [← hrs] at hr
   refine ⟨fun K hn => ?_, fun hn => ?_⟩
   · obtain ⟨ds, h1, ζ2, num2, H2, h2, h3, h4, h5, h6⟩ := end_sound hn ha' (B := B) rfl he
     exact zCh hf hr h1 h2 ⟨ζ2, num2, h3, rfl, h4, h5, h6⟩ hn
   · obtain ⟨ds, h1, ζ2, num2, H2, h2, h3, h4, h5, h6⟩ := end_sound hn ha' (B := B) rfl he
     exact run_end hf hr h1 h2 ⟨ζ2, num2, h3, rfl, h4, h5, h6⟩ hn
 exact zDT hw0 (trun_sound (B := B) hΓ hmix body hint ⟨c.ins.length, 0, [], endT P fn.results.toList c.ins.length c.res c.outs⟩ _ s y ζ num _ H [] hw rfl ha hplain ht
   (fun ζ' num' s' e' H' h1 h2 _ _ => (hret rfl h1 h2).2) ⟨fun i k' hk => (by cases hk), fun K' ζ' num' s' e' H' h1 h2 _ _ => (hret rfl h1 h2).1 K'⟩)
def allGone : Nat → Rows → Bool
 | 0, _ => true
 | _ + 1, [] => true
 | n + 1, (_, row) :: r => (match row with | .gone => true | _ => false) && allGone n r
theorem allGone_at : ∀ {n : Nat} {rows : Rows}, allGone n rows = true → ∀ {r : Nat}, r < n → zAA rows r = .gone
 | 0, _, _, r, hr => absurd hr (Nat.not_lt_zero _)
 | _ + 1, [], _, r, _ => rfl
 | n + 1, (_, row) :: rows, h, 0, _ => by
   simp only [allGone, Bool.and_eq_true] at h
   show row = .gone
   cases row <;> first | rfl | (simp at h; done)
 | n + 1, (_, row) :: rows, h, r + 1, hr => by
   simp only [allGone, Bool.and_eq_true] at h
   exact allGone_at h.2 (Nat.lt_of_succ_lt_succ hr)
theorem conMv_of {P : Program} {Γ : List Con} (hΓ : ∀ c ∈ Γ, zAu P c) (hmix : P.follows .mixedOrders = true) (c : Con) {fn : Func} {body : Code} {hint : Hint} (hf : P.funcs[c.f]? = some fn) (hb : fn.body = some body) (hnm : (fn.name == "runtime.NumGoroutine") = false)
   (hN : c.as.length ≤ fn.ntmps) (hw : wf fn.ntmps body hint = true) (hq : c.q = none) (hgone : ∀ y, allGone c.ins.length (zAJ c y) = true) (hF : ∀ x, trunM P Γ fn hint c.as c.ins c.res c.outs x = c.F x) (hlen : ∀ x, (zAc c x).length = c.as.length ∧ (zBE c x).length = c.ins.length) : zAu P c := by
 intro x hy ζ num H hR hok
 obtain ⟨y, hy⟩ := hy
 have hQ : ∀ {z}, c.Q x z ↔ c.F x = some z := fun {z} => by unfold Con.Q; rw [hq]
 rw [hQ] at hy
 have ht := hF x
 rw [hy] at ht
 unfold trunM trunFk at ht
 rw [hb] at ht
 dsimp only at ht
 refine Sound.mono (R := fun dd H' => ∃ ζ' num', HRel ζ' num' (zAJ c y) H' ∧ dd = enc (zAB num' (zAJ c y)) (zAt c y) ∧ okV (zAJ c y) (zAt c y) ∧
   (∀ r, zAQ (zAA (zAJ c y) r) = true → (r < c.ins.length → num' r = num r) ∧ (c.ins.length ≤ r → H.length ≤ num' r)) ∧ ∀ r, r < c.ins.length → zAO (zAA (zAJ c y) r) = true → zCT (zAA (zAJ c y) r) = zCT (zAA (zBE c x) r)) (Sound.shift (?_ : Sound P c.f ((zAc c x).map (enc (zAB num (zBE c x)))) H fun dd H' => ∃ ζ' num', HRel ζ' num' (zAJ c y) H' ∧ dd = enc (zAB num' (zAJ c y)) (zAt c y) ∧ okV (zAJ c y) (zAt c y)) (R' := fun dd H' => ∃ ζ' num', HRel ζ' num' (zAJ c y) H' ∧ dd = enc (zAB num' (zAJ c y)) (zAt c y) ∧ okV (zAJ c y) (zAt c y) ∧
   (∀ r, zAQ (zAA (zAJ c y) r) = true → (r < c.ins.length → num' r = num r) ∧ (c.ins.length ≤ r → H.length ≤ num' r)) ∧ ∀ r, r < c.ins.length → zAO (zAA (zAJ c y) r) = true → zCT (zAA (zAJ c y) r) = zCT (zAA (zBE c x) r)) fun dd H' hlen' h => by
   obtain ⟨ζ', num', g1, rfl, g3⟩ := h
   refine ⟨_, _, hrel_sh H'.length g1, (encV_sh _ _).symm, g3, fun r hl => ⟨fun hr => ?_, fun _ => by omega⟩, fun r hr hi => ?_⟩
   · rw [allGone_at (hgone y) hr] at hl; simp [zAQ] at hl
   · rw [allGone_at (hgone y) hr] at hi; simp [zAO] at hi) fun dd H' h => ⟨y, hQ.2 hy, h⟩
 refine zAa hf hb hnm rfl (by rw [List.length_map, (hlen x).1]; exact hN) ?_
 let B : Base := ⟨0, 0, num, fun r => zCT (zAA (zBE c x) r)⟩
 let s : St := ⟨argsE 0 (zAc c x), zBE c x, []⟩
 have hfe : ∀ n, zAh (argsE 0 (zAc c x)) n = ((zAc c x)[n]?).map fun v => ⟨n, 0, [], v⟩ := fun n => by
   have := argsE_at (zAc c x) 0 n
   simp only [Nat.zero_add] at this
   exact this
 have hplain : Plain s := ⟨rfl, fun n ent hf => by
   have hf : zAh (argsE 0 (zAc c x)) n = some ent := hf
   rw [hfe] at hf
   cases hv : (zAc c x)[n]? with
   | none => rw [hv] at hf; cases hf
   | some v => rw [hv] at hf; have := Option.some.inj hf; subst this; rfl⟩
 have hlive : ∀ r, zAQ (zAA (zBE c x) r) = true → r < c.ins.length := fun r hl => by rw [← (hlen x).2]; exact zAo (live_row hl)
 have ha : Abs B ζ num s (zCn num s) H := ⟨rfl, hR, fun n ent hf _ => by
     have hf : zAh (argsE 0 (zAc c x)) n = some ent := hf
     rw [hfe] at hf
     cases hv : (zAc c x)[n]? with
     | none => rw [hv] at hf; cases hf
     | some v => rw [hv] at hf; have := Option.some.inj hf; subst this; exact hok v (List.mem_of_getElem? hv),
   fun n b h => (by cases h), fun r hl => ⟨fun h => absurd h (Nat.not_lt_zero _), fun _ => Nat.zero_le _⟩, Nat.zero_le _, Nat.zero_le _, fun r h _ => absurd h (Nat.not_lt_zero _)⟩
 have hw0 : WeakS (envOf ((zAc c x).map (enc (zAB num (zBE c x))))) H (zCn num s) H := WeakS.env fun i => by
   unfold zCn
   show Tl _ (match zAh (argsE 0 (zAc c x)) i with | some e => entD num s e | none => .any)
   rw [hfe]
   cases hv : (zAc c x)[i]? with
   | none => exact Tl.any _
   | some v =>
     refine Tl.of_eq ?_
     unfold envOf
     rw [List.getD_eq_getElem?_getD, List.getElem?_map, hv]
     rfl
 have hret : ∀ {rs : List ResultVar}, rs = fn.results.toList → ∀ {ζ' num' s' e' H'}, endT P rs 0 c.res c.outs s' = some y → Abs B ζ' num' s' e' H' → (∀ K, Run P c.f fn.ntmps H.length (fun dd H' => ∃ ζ' num', HRel ζ' num' (zAJ c y) H' ∧ dd = enc (zAB num' (zAJ c y)) (zAt c y) ∧ okV (zAJ c y) (zAt c y)) (.code .ret :: K) e' H') ∧ Run P c.f fn.ntmps H.length (fun dd H' => ∃ ζ' num', HRel ζ' num' (zAJ c y) H' ∧ dd = enc (zAB num' (zAJ c y)) (zAt c y) ∧ okV (zAJ c y) (zAt c y)) [] e' H' := fun hrs ζ' num' s' e' H' he ha' => by
   have hr : fn.results = _ := (show fn.results = (fn.results.toList).toArray from by simp)
   rw [← hrs] at hr
   refine ⟨fun K hn => ?_, fun hn => ?_⟩
   · obtain ⟨ds, h1, ζ2, num2, H2, h2, h3, h4, h5, h6⟩ := end_sound hn ha' (B := B) rfl he
     exact zCh hf hr h1 h2 ⟨ζ2, num2, h3, rfl, h4⟩ hn
   · obtain ⟨ds, h1, ζ2, num2, H2, h2, h3, h4, h5, h6⟩ := end_sound hn ha' (B := B) rfl he
     exact run_end hf hr h1 h2 ⟨ζ2, num2, h3, rfl, h4⟩ hn
 exact zDT hw0 (trun_sound (B := B) hΓ hmix body hint ⟨0, 0, [], endT P fn.results.toList 0 c.res c.outs⟩ _ s y ζ num _ H [] hw rfl ha hplain ht
   (fun ζ' num' s' e' H' h1 h2 _ _ => (hret rfl h1 h2).2) ⟨fun i k' hk => (by cases hk), fun K' ζ' num' s' e' H' h1 h2 _ _ => (hret rfl h1 h2).1 K'⟩)
theorem zCD {P : Program} : ∀ c ∈ ([] : List Con), zAu P c := fun _ h => by cases h
theorem zAY {P : Program} {c : Con} {l : List Con} (h : zAu P c) (hs : ∀ c ∈ l, zAu P c) : ∀ c' ∈ c :: l, zAu P c' := fun c' hc => by
 rcases List.mem_cons.1 hc with rfl | hc
 · exact h
 · exact hs c' hc
theorem zCI {P : Program} (hmix : P.follows .mixedOrders = true) (Γ : List Con) (hΓ : ∀ c ∈ Γ, zAu P c) (c : Con) (fn : Func) (hint : Hint) (hf : P.funcs[c.f]? = some fn) (hnm : (fn.name == "runtime.NumGoroutine") = false)
   (hN : Nat.ble c.as.length fn.ntmps = true) (hw : (match fn.body with | some b => wf fn.ntmps b hint | none => false) = true) (hq : c.q = none) (hF : ∀ x, trunF P Γ fn hint c.as c.ins c.res c.outs x = c.F x) (hlen : ∀ x, (zAc c x).length = c.as.length ∧ (zBE c x).length = c.ins.length) : zAu P c := by
 cases hb : fn.body with
 | none => rw [hb] at hw; cases hw
 | some b => rw [hb] at hw; exact conOk_of hΓ hmix c hf hb hnm (Nat.le_of_ble_eq_true hN) hw hq hF hlen
theorem okM_of {P : Program} (hmix : P.follows .mixedOrders = true) (Γ : List Con) (hΓ : ∀ c ∈ Γ, zAu P c) (c : Con) (fn : Func) (hint : Hint) (hf : P.funcs[c.f]? = some fn) (hnm : (fn.name == "runtime.NumGoroutine") = false)
   (hN : Nat.ble c.as.length fn.ntmps = true) (hw : (match fn.body with | some b => wf fn.ntmps b hint | none => false) = true) (hq : c.q = none) (hgone : ∀ y, allGone c.ins.length (zAJ c y) = true) (hF : ∀ x, trunM P Γ fn hint c.as c.ins c.res c.outs x = c.F x) (hlen : ∀ x, (zAc c x).length = c.as.length ∧ (zBE c x).length = c.ins.length) : zAu P c := by
 cases hb : fn.body with
 | none => rw [hb] at hw; cases hw
 | some b => rw [hb] at hw; exact conMv_of hΓ hmix c hf hb hnm (Nat.le_of_ble_eq_true hN) hw hq hgone hF hlen
end Go.T
namespace Go.T
open Go.Ab
variable [Go.Ab.DM]
def InR : (t : Ty) → t.I → Prop
 | .int k, n => (Lit.int k n).wf = true
 | .str, s => ByteArray.size s ≤ maxLen
 | .pr a b, x => InR a x.1 ∧ InR b x.2
 | .agg s, x => InR s x
 | .sl t, l => List.length (α := t.I) l ≤ maxLen ∧ ∀ x : t.I, List.Mem x l → InR t x
 | _, _ => True
def InV (v : TV) : Prop := InR v.t v.x
theorem in_leaves : ∀ (s : Ty) (x : s.I), InR s x ↔ ∀ v ∈ zAI s x, InV v := by
 intro s
 induction s with
 | pr a b iha ihb =>
   intro x
   show InR a x.1 ∧ InR b x.2 ↔ _
   simp only [zAI, List.forall_mem_cons]
   rw [← ihb x.2]; rfl
 | unit => intro x; simp [zAI, InR]
 | _ => intro x; simp [zAI, InV]
theorem in_lf (v : TV) (h : InV v) : InV v.lf := by
 obtain ⟨t, x⟩ := v
 cases t <;> first | exact h | trivial
theorem in_spine : ∀ l : List TV, (∀ v ∈ l, InV v) → InV (spine l)
 | [], _ => trivial
 | [v], h => in_lf v (h v (by simp))
 | v :: w :: r, h => ⟨h v (by simp), in_spine (w :: r) fun u hu => h u (List.mem_cons_of_mem _ hu)⟩
theorem spine_t : ∀ l : List TV, (∀ v ∈ l, v.t.sp = false) → (spine l).t = zAT (l.map (·.t))
 | [], _ => rfl
 | [v], h => by
   have := h v (by simp)
   obtain ⟨t, x⟩ := v
   cases t <;> first | rfl | (simp [Ty.sp] at this; done)
 | v :: w :: r, h => by
   have := spine_t (w :: r) fun u hu => h u (List.mem_cons_of_mem _ hu)
   show Ty.pr v.t (spine (w :: r)).t = _
   rw [this]; rfl
def Ty.fl : Ty → List Ty | .agg s => s.flat | T => [T]
def fldT (P : Program) (go : TypeId → Option Ty) : List Field → Nat → Option (List Ty)
 | [], _ => some []
 | f :: fs, off => bif Nat.beq f.offset off then (match go f.type, fldT P go fs (off + P.cellsOf f.type) with
   | some (.agg s), some l => bif Nat.beq (P.cellsOf f.type) s.flat.length then some (s.flat ++ l) else none
   | some u, some l => bif Nat.beq (P.cellsOf f.type) 1 then some (u :: l) else none
   | _, _ => none) else none
def arrT : Nat → List Ty → List Ty
 | 0, _ => []
 | n + 1, l => l ++ arrT n l
def rdT (P : Program) : Nat → TypeId → Option Ty
 | 0, _ => none
 | n + 1, t => match P.underlying t with
   | some (.int k) => some (.int k)
   | some .bool => some .bool
   | some .string => some .str
   | some (.slice e) => (match rdT P n e with
     | some u => bif u.elem && Nat.beq (P.cellsOf e) u.w && !(Nat.beq u.w 0) then some (.sl u) else none
     | none => none)
   | some (.struct fs) => (match fldT P (rdT P n) fs.toList 0 with
     | some l => bif Nat.beq l.length (P.cellsOf t) && l.all (fun u => !u.sp) then some (.agg (zAT l)) else none
     | none => none)
   | some (.array k e) => (match rdT P n e with
     | some (.agg s) => bif Nat.beq (P.cellsOf e) s.flat.length && Nat.beq (P.cellsOf t) (k * P.cellsOf e) && s.flat.all (fun u => !u.sp) then some (.agg (zAT (arrT k s.flat))) else none
     | some u => bif Nat.beq (P.cellsOf e) 1 && Nat.beq (P.cellsOf t) k && !u.sp then some (.agg (zAT (arrT k [u]))) else none
     | none => none)
   | _ => none
theorem flat_leaves : ∀ (s : Ty) (x : s.I), (zAI s x).map (·.t) = s.flat := by
 intro s
 induction s with
 | pr a b iha ihb => intro x; simp only [zAI, Ty.flat, List.map_cons, ihb]
 | _ => intro x; rfl
section
variable {P : Program} {w : World} {own : Nat → Own} {H : Type} {enc' : TypeId × Value → H} {spare : Nat → Bool} {held : Bool}
def ToldC (w : World) (own : Nat → Own) (T : Ty) (cs : List Value) : Prop := ∃ v : TV, v.t = T ∧ InV v ∧ VRels own (fun b => b < w.heap.size) w 0 (enc zCr v).cells cs
theorem kids_cells (v : TV) : (enc zCr v).cells = (zAq v).map (enc zCr) := by
 obtain ⟨t, x⟩ := v
 cases t <;> first | rfl | skip
 rename_i s
 exact E_leaves s zCr x
theorem told_agg {l : List Ty} {cs : List Value} (hsp : ∀ u ∈ l, u.sp = false) (h : ∃ vs : List TV, vs.map (·.t) = l ∧ (∀ v ∈ vs, InV v) ∧ VRels own (fun b => b < w.heap.size) w 0 (vs.map (enc zCr)) cs) : ToldC w own (.agg (zAT l)) cs := by
 obtain ⟨vs, h1, h2, h3⟩ := h
 refine ⟨aggV vs, ?_, in_spine vs h2, ?_⟩
 · show Ty.agg (spine vs).t = _
   rw [spine_t vs fun v hv => hsp _ (by rw [← h1]; exact List.mem_map_of_mem hv), h1]
 · rw [enc_agg]; exact h3
theorem told_leaves {T : Ty} {cs : List Value} (h : ToldC w own T cs) : ∃ vs : List TV, vs.map (·.t) = T.fl ∧ (∀ v ∈ vs, InV v) ∧ VRels own (fun b => b < w.heap.size) w 0 (vs.map (enc zCr)) cs := by
 obtain ⟨⟨t, x⟩, rfl, h2, h3⟩ := h
 rw [kids_cells] at h3
 have lf : ∀ {v : TV}, zAq v = [v] → v.t.fl = [v.t] → InV v → VRels own (fun b => b < w.heap.size) w 0 ((zAq v).map (enc zCr)) cs → ∃ vs : List TV, vs.map (·.t) = v.t.fl ∧ (∀ v ∈ vs, InV v) ∧ VRels own (fun b => b < w.heap.size) w 0 (vs.map (enc zCr)) cs := fun {v} g1 g2 g3 g4 => ⟨[v], g2.symm, by simpa using g3, by rw [g1] at g4; exact g4⟩
 cases t with
 | agg s => exact ⟨zAI s x, flat_leaves s x, (in_leaves s x).1 h2, h3⟩
 | _ => exact lf rfl rfl h2 h3
theorem reads : ∀ (n : Nat) (t : TypeId) (T : Ty), rdT P n t = some T → ∀ (fuel : Nat) (cs : List Value) (x : DataW H × List MemPlace), DataW.trod enc' P w 0 spare held fuel t cs = some x → ToldC w own T cs
 | 0, t, T, h => by cases h
 | n + 1, t, T, h => by
   intro fuel cs x hx
   simp only [rdT] at h
   split at h
   · rename_i k hu
     have := Option.some.inj h; subst this
     obtain ⟨m, rfl, _, hw⟩ := DataW.trod_int hu hx
     exact ⟨⟨.int k, m⟩, rfl, hw, by simp [enc, E, D.cells, VRels, VRel]⟩
   · rename_i hu
     have := Option.some.inj h; subst this
     obtain ⟨b, rfl, _⟩ := DataW.trod_bool hu hx
     exact ⟨⟨.bool, b⟩, rfl, trivial, by simp [enc, E, D.cells, VRels, VRel]⟩
   · rename_i hu
     have := Option.some.inj h; subst this
     obtain ⟨s, rfl, _, hs⟩ := DataW.trod_string hu hx
     exact ⟨⟨.str, s⟩, rfl, hs, by simp [enc, E, D.cells, VRels, VRel]⟩
   · rename_i e hu
     split at h
     rotate_left
     · cases h
     rename_i u he
     obtain ⟨hb, h⟩ := zAW h
     have := Option.some.inj h; subst this
     simp only [Bool.and_eq_true, Nat.beq_eq, Bool.not_eq_true'] at hb
     obtain ⟨⟨hel, hcl⟩, hw0⟩ := hb
     have hw0 : u.w ≠ 0 := fun h0 => by rw [h0] at hw0; cases hw0
     rcases DataW.trod_slice hu hx with ⟨rfl, _⟩ | ⟨a, len, cap, elems, rest, m, _, rfl, _, _, hlc, hcm, hlen, hels, _, _⟩
     · refine ⟨⟨.sl u, ([] : List u.I)⟩, rfl, ⟨Nat.zero_le _, fun x hx => (by cases hx)⟩, ?_⟩
       show VRels own _ w 0 [.fz u.w []] _
       simp only [VRels]
       refine ⟨_, [], rfl, ?_, rfl⟩
       rw [VRel]
       exact ⟨none, 0, rfl, Nat.le_refl _, fun h => absurd rfl h⟩
     · -- the elements
       have hall : ∀ i, i < len → ∃ (y : u.I) (cs' : List Value), InR u y ∧ w.cells? 0 (a.add (i * u.w)) u.w = some cs' ∧ VRels own (fun b => b < w.heap.size) w 0 (e0 u y).cells cs' := fun i hi => by
         have h1 := hels i hi
         have h2 : ∃ z, elems[i]? = some z := ⟨elems[i], by simp [hlen ▸ hi]⟩
         obtain ⟨z, hz⟩ := h2
         rw [hz, Option.bind_eq_some_iff] at h1
         obtain ⟨cs', h3, h4⟩ := h1
         obtain ⟨⟨t', y⟩, rfl, h5, h6⟩ := reads n e u he m cs' z h4
         rw [hcl] at h3
         exact ⟨y, cs', h5, h3, h6⟩
       have hlist : ∀ k, k ≤ len → ∃ l : List u.I, l.length = k ∧ (∀ y ∈ l, InR u y) ∧ ∀ i (hi : i < l.length), ∃ cs', w.cells? 0 (a.add (i * u.w)) u.w = some cs' ∧ VRels own (fun b => b < w.heap.size) w 0 (e0 u l[i]).cells cs' := by
         intro k
         induction k with
         | zero => intro _; exact ⟨[], rfl, by simp, by simp⟩
         | succ k ih =>
           intro hk
           obtain ⟨l, h1, h2, h3⟩ := ih (by omega)
           obtain ⟨y, cs', h4, h5, h6⟩ := hall k (by omega)
           refine ⟨l ++ [y], by simp [h1], fun z hz => ?_, fun i hi => ?_⟩
           · rcases List.mem_append.1 hz with hz | hz
             · exact h2 z hz
             · rw [List.mem_singleton] at hz; subst hz; exact h4
           · by_cases hil : i < l.length
             · rw [List.getElem_append_left hil]; exact h3 i hil
             · have hik : i = k := by simp at hi; omega
               subst hik
               refine ⟨cs', h5, ?_⟩
               rw [List.getElem_append_right (by omega)]
               simpa using h6
       obtain ⟨l, h1, h2, h3⟩ := hlist len (Nat.le_refl _)
       refine ⟨⟨.sl u, l⟩, rfl, ⟨by show List.length l ≤ _; omega, h2⟩, ?_⟩
       show VRels own _ w 0 [.fz u.w (l.map (e0 u))] _
       simp only [VRels]
       refine ⟨_, [], rfl, ?_, rfl⟩
       rw [VRel, List.length_map, h1]
       refine ⟨some a, cap, rfl, hlc, fun h0 => ?_⟩
       obtain ⟨b, off, spot⟩ := a
       obtain ⟨cs0, h4, _⟩ := h3 0 (by omega)
       obtain ⟨_, hl4, hc4⟩ := World.cells?_some h4
       have hc5 := hc4 0 (by omega)
       have hcs0 : cs0[0]? = some cs0[0] := by simp
       rw [hcs0] at hc5
       have hspot : spot = none ∧ b < w.heap.size := by
         have e0 : ((⟨b, off, spot⟩ : Addr).add (0 * u.w)).add 0 = ⟨b, off, spot⟩ := by simp [Addr.add]
         rw [e0] at hc5
         unfold World.cell? at hc5
         cases hb : w.heap[b]? with
         | none => simp only [hb] at hc5; cases hc5
         | some o =>
           have hlt : b < w.heap.size := by
             rcases Nat.lt_or_ge b w.heap.size with h | h
             · exact h
             · rw [Array.getElem?_eq_none h] at hb; cases hb
           refine ⟨?_, hlt⟩
           simp only [hb] at hc5
           cases spot with
           | none => rfl
           | some z => cases o <;> simp at hc5
       obtain ⟨rfl, hbl⟩ := hspot
       refine ⟨b, off, rfl, hbl, ?_⟩
       have hcells : ∀ (l' : List u.I) (j : Nat), (∀ i (hi : i < l'.length), ∃ cs', w.cells? 0 ⟨b, off + (j + i) * u.w, none⟩ u.w = some cs' ∧ VRels own (fun b => b < w.heap.size) w 0 (e0 u l'[i]).cells cs') → Cells own (fun b => b < w.heap.size) w 0 u.w (l'.map (e0 u)) b (off + j * u.w) := by
         intro l'
         induction l' with
         | nil => intro j _; simp [Cells]
         | cons y l' ih =>
           intro j hh
           rw [List.map_cons, Cells, zCV]
           refine ⟨⟨?_, ?_⟩, ?_⟩
           · rw [← D.width_eq]; exact elem_width hel zCr y
           · obtain ⟨cs', k1, k2⟩ := hh 0 (by simp)
             obtain ⟨_, k3, k4⟩ := World.cells?_some k1
             rw [Flat_values]
             refine ⟨elem_cells hel zCr y, cs', by simpa using k2, fun i hi => ?_⟩
             have := k4 i (by omega)
             rw [zCf] at this
             simpa using this
           · have := ih (j + 1) fun i hi => by
               obtain ⟨cs', k1, k2⟩ := hh (i + 1) (by simpa using hi)
               refine ⟨cs', by rw [show j + 1 + i = j + (i + 1) by omega]; exact k1, by simpa using k2⟩
             rw [Nat.add_mul, Nat.one_mul, ← Nat.add_assoc] at this
             exact this
       have := hcells l 0 fun i hi => by
         obtain ⟨cs', k1, k2⟩ := h3 i hi
         exact ⟨cs', by rw [Nat.zero_add, ← zCf]; exact k1, k2⟩
       simpa using this
   · rename_i fs hu
     split at h
     rotate_left
     · cases h
     rename_i l hl
     obtain ⟨hb, h⟩ := zAW h
     have := Option.some.inj h; subst this
     simp only [Bool.and_eq_true, Nat.beq_eq, List.all_eq_true, Bool.not_eq_true'] at hb
     obtain ⟨xs, m, _, _, hcl, hxl, hf⟩ := DataW.trod_struct hu hx
     refine told_agg hb.2 ?_
     have key : ∀ (fl : List Field) (i off : Nat) (l : List Ty), fldT P (rdT P n) fl off = some l → (∀ j f, fl[j]? = some f → fs[i + j]? = some f) → cs.length = off + l.length →
         ∃ vs : List TV, vs.map (·.t) = l ∧ (∀ v ∈ vs, InV v) ∧ VRels own (fun b => b < w.heap.size) w 0 (vs.map (enc zCr)) (cs.drop off) := by
       intro fl
       induction fl with
       | nil =>
         intro i off l h1 _ h3
         have := Option.some.inj h1; subst this
         exact ⟨[], rfl, by simp, by rw [List.drop_eq_nil_of_le (by simp at h3; omega)]; simp [VRels]⟩
       | cons f fl ih =>
         intro i off l h1 h2 h3
         simp only [fldT] at h1
         obtain ⟨ho, h1⟩ := zAW h1
         rw [Nat.beq_eq] at ho
         have hfi := h2 0 f rfl
         rw [Nat.add_zero] at hfi
         have hread := hf i f hfi
         have hx2 : ∃ z, xs[i]? = some z := by
           have : i < xs.length := by
             rw [hxl]
             rcases Nat.lt_or_ge i fs.size with h | h
             · exact h
             · rw [Array.getElem?_eq_none h] at hfi; cases hfi
           exact ⟨xs[i], by simp [this]⟩
         obtain ⟨z, hz⟩ := hx2
         rw [hz, ho] at hread
         have step : ∀ (T : Ty) (lt lr : List Ty), rdT P n f.type = some T → T.fl = lt → fldT P (rdT P n) fl (off + P.cellsOf f.type) = some lr → P.cellsOf f.type = lt.length → l = lt ++ lr →
             ∃ vs : List TV, vs.map (·.t) = l ∧ (∀ v ∈ vs, InV v) ∧ VRels own (fun b => b < w.heap.size) w 0 (vs.map (enc zCr)) (cs.drop off) := fun T lt lr g1 g2 g3 g4 g5 => by
           obtain ⟨vs, k1, k2, k3⟩ := told_leaves (reads n f.type T g1 m _ z hread)
           obtain ⟨us, k4, k5, k6⟩ := ih (i + 1) (off + P.cellsOf f.type) lr g3 (fun j f' hj => by rw [show i + 1 + j = i + (j + 1) by omega]; exact h2 (j + 1) f' (by simpa using hj)) (by rw [h3, g5, List.length_append, g4]; omega)
           refine ⟨vs ++ us, by rw [List.map_append, k1, k4, g2, g5], fun v hv => ?_, ?_⟩
           · rcases List.mem_append.1 hv with hv | hv
             · exact k2 v hv
             · exact k5 v hv
           · rw [List.map_append, ← List.take_append_drop (P.cellsOf f.type) (cs.drop off), List.drop_drop]
             exact zBC k3 k6
         split at h1
         · rename_i s lr g1 g2
           obtain ⟨g3, h1⟩ := zAW h1
           rw [Nat.beq_eq] at g3
           exact step _ _ lr g1 rfl g2 g3 (Option.some.inj h1).symm
         · rename_i u lr hne g1 g2
           obtain ⟨g3, h1⟩ := zAW h1
           rw [Nat.beq_eq] at g3
           refine step u [u] lr g1 ?_ g2 (by simpa using g3) (Option.some.inj h1).symm
           cases u <;> first | rfl | exact (hne _ rfl).elim
         · cases h1
     have := key fs.toList 0 0 l hl (fun j f hj => by rw [Nat.zero_add]; simpa using hj) (by rw [Nat.zero_add]; omega)
     simpa using this
   · rename_i k e hu
     have arr : ∀ (T : Ty) (lt : List Ty), rdT P n e = some T → T.fl = lt → P.cellsOf e = lt.length → P.cellsOf t = k * P.cellsOf e → (∀ u ∈ lt, u.sp = false) → ToldC w own (.agg (zAT (arrT k lt))) cs := fun T lt g1 g2 g3 g4 g5 => by
       obtain ⟨xs, m, _, _, hcl, hxl, hf⟩ := DataW.trod_array hu hx
       refine told_agg (fun u hu' => ?_) ?_
       · have : ∀ k, ∀ u ∈ arrT k lt, u ∈ lt := by
           intro k
           induction k with
           | zero => intro u h; cases h
           | succ k ih => intro u h; rcases List.mem_append.1 h with h | h; exact h; exact ih u h
         exact g5 u (this k u hu')
       · have key : ∀ j, j ≤ k → ∃ vs : List TV, vs.map (·.t) = arrT j lt ∧ (∀ v ∈ vs, InV v) ∧ VRels own (fun b => b < w.heap.size) w 0 (vs.map (enc zCr)) (cs.drop ((k - j) * P.cellsOf e)) := by
           intro j
           induction j with
           | zero => intro _; exact ⟨[], rfl, by simp, by rw [List.drop_eq_nil_of_le (by rw [hcl, g4]; exact Nat.le_refl _)]; simp [VRels]⟩
           | succ j ih =>
             intro hj
             obtain ⟨us, k4, k5, k6⟩ := ih (by omega)
             have hread := hf (k - (j + 1)) (by omega)
             have hz : xs[k - (j + 1)]? = some xs[k - (j + 1)] := by simp
             rw [hz] at hread
             obtain ⟨vs, k1, k2, k3⟩ := told_leaves (reads n e T g1 m _ _ hread)
             refine ⟨vs ++ us, by rw [List.map_append, k1, k4, g2]; rfl, fun v hv => ?_, ?_⟩
             · rcases List.mem_append.1 hv with hv | hv
               · exact k2 v hv
               · exact k5 v hv
             · rw [List.map_append, ← List.take_append_drop (P.cellsOf e) (cs.drop _), List.drop_drop]
               have e1 : (k - (j + 1)) * P.cellsOf e + P.cellsOf e = (k - j) * P.cellsOf e := by rw [← Nat.succ_mul]; congr 1; omega
               rw [e1]
               exact zBC k3 k6
         have := key k (Nat.le_refl _)
         simpa using this
     split at h
     · rename_i s he
       obtain ⟨hb, h⟩ := zAW h
       have := Option.some.inj h; subst this
       simp only [Bool.and_eq_true, Nat.beq_eq, List.all_eq_true, Bool.not_eq_true'] at hb
       exact arr _ _ he rfl hb.1.1 hb.1.2 hb.2
     · rename_i u hne he
       obtain ⟨hb, h⟩ := zAW h
       have := Option.some.inj h; subst this
       simp only [Bool.and_eq_true, Nat.beq_eq, Bool.not_eq_true'] at hb
       refine arr u [u] he ?_ (by simpa using hb.1.1) (by rw [hb.1.1, hb.1.2, Nat.mul_one]) (fun v hv => by rw [List.mem_singleton] at hv; subst hv; exact hb.2)
       cases u <;> first | rfl | exact (hne _ rfl).elim
     · cases h
   · cases h
end
end Go.T
namespace Go.T
open Go.Ab Go.ChangeShapes Go.RowKit
variable [Go.Ab.DM]
section
variable {H : Type} {enc' : TypeId × Value → H} {P : Program}
theorem arg_told {n : Nat} {t : TypeId} {T : Ty} {w : World} {own : Nat → Own} {base : Nat} {v : Value} {d : DataW H} {ps : List MemPlace} {spare : Nat → Bool} {held : Bool} (hT : rdT P n t = some T) (hok : Value.okWide P w .any base t v) (h : DataW.Trod enc' P w 0 spare held t v d ps) :
   ∃ u : TV, u.t = T ∧ InV u ∧ VRel own (fun b => b < w.heap.size) w 0 (enc zCr u) v := by
 obtain ⟨fuel, hf⟩ := h
 obtain ⟨u, h1, h2, h3⟩ := reads (own := own) n t T hT fuel _ _ hf
 refine ⟨u, h1, h2, ?_⟩
 have hsh : (∃ s, T = .agg s ∧ ∃ cs, v = .agg cs) ∨ ((∀ s, T ≠ .agg s) ∧ ∀ cs, v ≠ .agg cs) := by
   cases n with
   | zero => cases hT
   | succ n =>
     simp only [rdT] at hT
     unfold Value.okWide at hok
     split at hT
     · rename_i k hu
       have := Option.some.inj hT; subst this
       rw [hu] at hok
       refine .inr ⟨fun s h => (by cases h), fun cs hc => ?_⟩
       subst hc; simp [Cell.okWide, hu, Cell.ok] at hok
     · rename_i hu
       have := Option.some.inj hT; subst this
       rw [hu] at hok
       refine .inr ⟨fun s h => (by cases h), fun cs hc => ?_⟩
       subst hc; simp [Cell.okWide, hu, Cell.ok] at hok
     · rename_i hu
       have := Option.some.inj hT; subst this
       rw [hu] at hok
       refine .inr ⟨fun s h => (by cases h), fun cs hc => ?_⟩
       subst hc; simp [Cell.okWide, hu, Cell.ok] at hok
     · rename_i e hu
       split at hT
       · obtain ⟨_, hT⟩ := zAW hT
         have := Option.some.inj hT; subst this
         rw [hu] at hok
         refine .inr ⟨fun s h => (by cases h), fun cs hc => ?_⟩
         subst hc; simp [Cell.okWide, hu, Cell.ok] at hok
       · cases hT
     · rename_i fs hu
       rw [hu] at hok
       obtain ⟨cs, hc, _⟩ := hok
       split at hT
       · obtain ⟨_, hT⟩ := zAW hT
         exact .inl ⟨_, (Option.some.inj hT).symm, cs, hc⟩
       · cases hT
     · rename_i k e hu
       rw [hu] at hok
       obtain ⟨cs, hc, _⟩ := hok
       split at hT
       · obtain ⟨_, hT⟩ := zAW hT
         exact .inl ⟨_, (Option.some.inj hT).symm, cs, hc⟩
       · obtain ⟨_, hT⟩ := zAW hT
         exact .inl ⟨_, (Option.some.inj hT).symm, cs, hc⟩
       · cases hT
     · cases hT
 rcases hsh with ⟨s, hs, cs, rfl⟩ | ⟨hs, hv⟩
 · obtain ⟨t', x⟩ := u
   have h1 : t' = .agg s := h1.trans hs
   subst h1
   have e1 : enc zCr ⟨.agg s, x⟩ = .agg (E s zCr x).2 := rfl
   rw [e1] at h3 ⊢
   rw [VRel]
   exact ⟨cs.toList, by simp, by simpa [D.cells, Value.cells] using h3⟩
 · have hne : ∀ s, u.t ≠ .agg s := fun s h => hs s (h1.symm.trans h)
   have hc : (enc zCr u).cells = [enc zCr u] := by
     obtain ⟨t', x⟩ := u
     cases t' <;> first | rfl | exact (hne _ rfl).elim
   have hvc : v.cells.toList = [v] := by
     cases v <;> first | rfl | exact (hv _ rfl).elim
   rw [hc, hvc] at h3
   rw [VRels] at h3
   obtain ⟨y, ys, h4, h5, h6⟩ := h3
   cases h4; exact h5
theorem args_read {w : World} {own : Nat → Own} {base : Nat} {spare : Nat → Bool} {held : Bool} : ∀ {ts : List TypeId} {as0 : List Ty} {args : List Value} {ds : List (DataW H)} {ps : List MemPlace}, ts.map (rdT P 8) = as0.map some → (∀ (j : Nat) t v, ts[j]? = some t → args[j]? = some v → Value.okWide P w .any base t v) →
   DataW.TrodAll enc' P w 0 spare held ts args ds ps → ∃ vs : List TV, vs.map (·.t) = as0 ∧ (∀ v ∈ vs, InV v) ∧ VRels own (fun b => b < w.heap.size) w 0 (vs.map (enc zCr)) args
 | [], as0, args, ds, ps, hT, hok, h => by
   obtain ⟨rfl, rfl, rfl⟩ := trodAll_nil h
   have : as0 = [] := by simpa using hT
   subst this
   exact ⟨[], rfl, by simp, by simp [VRels]⟩
 | t :: ts, as0, args, ds, ps, hT, hok, h => by
   obtain ⟨v, vs1, d, ds1, a, b, rfl, rfl, rfl, h1, h2⟩ := trodAll_cons h
   cases as0 with
   | nil => simp at hT
   | cons T as0 =>
     simp only [List.map_cons, List.cons.injEq] at hT
     obtain ⟨u, g1, g2, g3⟩ := arg_told (own := own) hT.1 (hok 0 t v rfl rfl) h1
     obtain ⟨us, g4, g5, g6⟩ := args_read (own := own) hT.2 (fun j t v ht hv => hok (j + 1) t v (by simpa using ht) (by simpa using hv)) h2
     refine ⟨u :: us, by simp [g1, g4], fun v hv => ?_, ?_⟩
     · rcases List.mem_cons.1 hv with rfl | hv
       · exact g2
       · exact g5 v hv
     · rw [List.map_cons, VRels]; exact ⟨v, vs1, rfl, g3, g6⟩
theorem all_stay {W W' : World} (hl : laidOutB P = true) (hb : ∀ b, b < W.heap.size → W'.heap[b]? = W.heap[b]?) {sp : Nat → Bool} : ∀ {ts : List TypeId} {args : List Value} {ds : List (DataW H)} {ps : List MemPlace}, (∀ t ∈ ts, P.readableRec t = true ∧ t < P.types.size) →
   DataW.TrodAll enc' P W 0 (fun _ => true) true ts args ds ps → (∀ p ∈ ps, p.block < W.heap.size) → (∀ p ∈ ps, sp p.block = true) → DataW.TrodAll enc' P W' 0 sp true ts args ds ps
 | [], args, ds, ps, _, h, _, _ => by
   obtain ⟨rfl, rfl, rfl⟩ := trodAll_nil h
   rfl
 | t :: ts, args, ds, ps, hr, h, hlt, hs => by
   obtain ⟨v, vs1, d, ds1, a, b, rfl, rfl, rfl, h1, h2⟩ := trodAll_cons h
   have same : ∀ p : MemPlace, p.block < W.heap.size → W.sameAt W' p := fun p hp => by
     cases p with
     | cell b o => exact World.cell?_of_block (w := W) (hb b hp)
     | map b => exact hb b hp
   refine ⟨a, b, ?_, all_stay hl hb (fun t ht => hr t (List.mem_cons_of_mem _ ht)) h2 (fun p hp => hlt p (List.mem_append_right _ hp)) (fun p hp => hs p (List.mem_append_right _ hp)), rfl⟩
   exact WideElems.Trod_stays hl (hr t (by simp)).1 (hr t (by simp)).2 h1 (fun p hp => same p (hlt p (List.mem_append_left _ hp))) (fun p hp => hs p (List.mem_append_left _ hp))
theorem kept_of_blocks {W W' : World} {may : MemPlace → Prop} (ho : W'.os = W.os) (hu : W'.output = W.output) (hb : ∀ b, b < W.heap.size → W'.heap[b]? = W.heap[b]?) : W.keptBut W' may := by
 refine ⟨ho, hu, fun i hi => ?_⟩
 rw [hb i hi]
 have := (World.keptBut_refl W may).2.2 i hi
 exact this
theorem law_post {s : ChangeSpec} {fn : Func} {c : Con} {tb : TypeId} {apart fresh handsOn again : Bool} (hl : laidOutB P = true) (ok : zAu P c) (hins : c.ins = []) (houts : c.outs = []) (hq : c.q = none)
   (hpar : fn.params.toList.map (rdT P 8) = c.as.map some) (hpure : c.as.all Ty.pure = true) (hr : ∀ t ∈ fn.params.toList, P.readableRec t = true ∧ t < P.types.size) (hres : fn.resultTypes = #[tb]) (htb : P.underlying tb = some .bool)
   (hF : ∀ vs : List TV, vs.map (·.t) = c.as → (∀ v ∈ vs, InV v) → ∃ x, zAc c x = vs ∧ ∃ y, c.F x = some y ∧ zAt c y = ⟨.bool, true⟩)
   (hsv : s.vars = []) (hsf : ∀ ds : List (DataW H), ds.length = fn.params.toList.length → (s.fn H (ds ++ [])).results = [.lit (.bool true)] ∧ (s.fn H (ds ++ [])).args = ds ∧ (s.fn H (ds ++ [])).vars = [])
   {W : World} {base : Nat} {args : Array Value} {ds gs : List (DataW H)} {before : List MemPlace} (hval : ∀ (j : Nat) t v, fn.params[j]? = some t → args[j]? = some v → Value.okWide P W .any base t v)
   (hW : DataW.Whole enc' P fn.params.toList s.vars apart W args.toList ds gs before) :
   Calls P c.f args W fun e W' => ∃ v, e = .returned v ∧ s.post enc' P fn apart fresh handsOn again W args v W' := by
 have hW' := hW
 rw [hsv] at hW
 obtain ⟨p, q, hA, hV, rfl, hfz, hnd⟩ := hW
 obtain ⟨rfl, rfl⟩ := trodVars_none hV
 have hds : ds.length = fn.params.toList.length := by
   have : ∀ {ts : List TypeId} {vs : List Value} {ds : List (DataW H)} {ps : List MemPlace}, DataW.TrodAll enc' P W 0 (fun _ => true) true ts vs ds ps → ds.length = ts.length := by
     intro ts
     induction ts with
     | nil => intro vs ds ps h; obtain ⟨rfl, rfl, rfl⟩ := trodAll_nil h; rfl
     | cons t ts ih => intro vs ds ps h; obtain ⟨v, vs1, d, ds1, a, b, rfl, rfl, rfl, h1, h2⟩ := trodAll_cons h; simp [ih h2]
   exact this hA
 let own : Nat → Own := fun _ => ⟨0, 0, 0, 0⟩
 obtain ⟨vs, h1, h2, h3⟩ := args_read (own := own) hpar (fun j t v ht hv => hval j t v (by simpa using ht) (by simpa using hv)) hA
 obtain ⟨x, hx, y, hy, hyr⟩ := hF vs h1 h2
 have hrows : zBE c x = [] := by unfold zBE; rw [hins]; rfl
 have hQ : ∃ y, c.Q x y := ⟨y, by unfold Con.Q; rw [hq]; exact hy⟩
 have hpv : ∀ v ∈ vs, v.t.pure = true := fun v hv => List.all_eq_true.1 hpure _ (by rw [← h1]; exact List.mem_map_of_mem hv)
 have hS := ok x hQ (fun _ => .sit ByteArray.empty 0) (fun _ => 0) [] (by rw [hrows]; exact ⟨fun r => trivial, fun r q h => (by cases h), fun r t x h => (by cases h)⟩) (by rw [hx, hrows]; exact fun v hv => zCc _ _ (hpv v hv))
 rw [hx, hrows] at hS
 have hsim : Sim own [] (fun _ => False) W := ⟨fun r row h => (by cases h), fun r r' row row' h => (by cases h), fun b h => h.elim⟩
 have hU : zAL own [] (fun _ => False) W = fun b => b < W.heap.size := funext fun b => propext (by rw [unowned_nil]; simp)
 have hrel : zCG own [] (fun _ => False) W (vs.map (enc (zAB (fun _ => 0) []))) args.toList := by
   have e1 : vs.map (enc (zAB (fun _ => 0) [])) = vs.map (enc zCr) := List.map_congr_left fun v hv => enc_pure (hpv v hv) _ _
   rw [e1, zCG, hU]; exact h3
 have hC := hS.2 own (fun _ => False) W args.toList hsim hrel
 have ea : args.toList.toArray = args := by simp
 rw [ea] at hC
 refine hC.mono fun e W' hh => ?_
 obtain ⟨own', d, H', v, rfl, _, g2, g3, y', gQ, ζ', num', _, rfl, _⟩ := hh
 have hyy : y' = y := by
   unfold Con.Q at gQ; rw [hq] at gQ
   exact Option.some.inj (gQ.symm.trans hy)
 subst hyy
 rw [hyr] at g2
 have hv : v = .bool true := by
   rw [Rel] at g2
   have e : enc (zAB num' (zAJ c y')) ⟨.bool, true⟩ = .v (.bool true) := rfl
   rw [e, VRel] at g2; exact g2
 subst hv
 have hblk : ∀ b, b < W.heap.size → W'.heap[b]? = W.heap[b]? := fun b hb => (g3.hb b (by rw [hU]; exact hb)).2
 obtain ⟨hs1, hs2, hs3⟩ := hsf ds hds
 have hlt : ∀ p' ∈ p, p'.block < W.heap.size := fun p' hp' => by
   have := DataW.TrodAll.lt hA p' hp'; exact this
 have hargs : ∀ sp : Nat → Bool, (∀ p' ∈ p, sp p'.block = true) → DataW.TrodAll enc' P W' 0 sp true fn.params.toList args.toList (s.fn H (ds ++ [])).args p := fun sp hsp => by
   rw [hs2]; exact all_stay hl hblk hr hA hlt hsp
 have hresT : ∀ (b : Nat) (sp : Nat → Bool) (hd : Bool), DataW.TrodAll enc' P W' b sp hd fn.resultTypes.toList ((Value.bool true).resultList fn.resultTypes.size) (s.fn H (ds ++ [])).results [] := fun b sp hd => by
   rw [hs1, hres]
   exact trodAll_mk1 (shut_bool htb true)
 have hfr : ∀ b off, b < W.heap.size → W'.frozen? ⟨b, off, none⟩ = W.frozen? ⟨b, off, none⟩ := fun b off hb => by
   unfold World.frozen?
   rw [hblk b hb]
 refine ⟨_, rfl, ds, [], p ++ [], [], p, [], hW', hresT _ _ _, hargs _ fun p' hp' => by simpa using hlt p' hp', ?_, ?_, fun _ => ⟨?_, _, [], ([] ++ p) ++ [], ⟨[] ++ p, [], trodAll_append (hargs (fun _ => true) (fun _ _ => rfl)) (hresT _ _ _), ?_, rfl, ?_, ?_⟩, ?_⟩⟩
 · rw [hs3, hsv]; rfl
 · refine World.keptBut_mono (fun p' hp' => ⟨hp', ?_⟩) (kept_of_blocks (may := (· ∈ p ++ [])) g3.st.os g3.st.out hblk)
   exact .inr (.inl (by simpa using hp'))
 · exact ok_one hres rfl (okWide_bool_mk htb true)
 · rw [hsv]; rfl
 · intro b off hp'
   have hp' : MemPlace.cell b off ∈ p := by simpa using hp'
   rw [hfr b off (hlt _ hp')]
   exact hfz b off (by simpa using hp')
 · intro ha
   have := hnd ha
   simpa using this
 · intro p' hp' _
   simpa using hp'
end
end Go.T
namespace Go.T
open Go
theorem one_of {a : Ty} : ∀ {vs : List TV}, vs.map (·.t) = [a] → ∃ x, vs = [⟨a, x⟩]
 | [⟨t, x⟩], h => by
   simp only [List.map_cons, List.map_nil, List.cons.injEq, and_true] at h
   subst h; exact ⟨x, rfl⟩
 | [], h => by cases h
 | _ :: _ :: _, h => by cases h
theorem more_of {a : Ty} {l : List Ty} : ∀ {vs : List TV}, vs.map (·.t) = a :: l → ∃ x ws, vs = ⟨a, x⟩ :: ws ∧ ws.map (·.t) = l
 | ⟨t, x⟩ :: ws, h => by
   simp only [List.map_cons, List.cons.injEq] at h
   obtain ⟨rfl, h⟩ := h
   exact ⟨x, ws, rfl, h⟩
 | [], h => by cases h
theorem two_of {a b : Ty} {vs : List TV} (h : vs.map (·.t) = [a, b]) : ∃ x y, vs = [⟨a, x⟩, ⟨b, y⟩] := by
 obtain ⟨x, ws, rfl, g⟩ := more_of h
 obtain ⟨y, rfl⟩ := one_of g
 exact ⟨x, y, rfl⟩
end Go.T
namespace Go.Ab
variable [Go.Ab.DM]
section
variable {P : Program} {f : FuncId} {ds : List D} {H : Heap}
theorem Sound.retell {R : D → Heap → Prop} {a k : Nat} {d d' : D} (hg : H.get a = some (.cells k [d])) (ht : Go.T.Te d d') (h : Sound P f ds (H.set a (some (.cells d.cells.length [d']))) R) : Sound P f ds H R := by
 refine ⟨h.1, fun own X w vs hs hv => ?_⟩
 have hk : d.cells.length = k := by
   obtain ⟨⟨_, c, t, _, _, _, h5⟩, _⟩ := hs.live _ _ hg
   rw [Cells, zCV] at h5
   exact h5.1.1
 subst hk
 have ha := Heap.get_lt hg
 have hlen : (H.set a (some (Row.cells d.cells.length [d']))).length = H.length := by simp
 have hget := Heap.get_set H ha (some (Row.cells d.cells.length [d']))
 have hU : zAL own (H.set a (some (Row.cells d.cells.length [d']))) X w = zAL own H X w := funext fun b => propext (by
   constructor
   · rintro ⟨h1, h2, h3⟩
     refine ⟨h1, h2, fun r row hr => ?_⟩
     by_cases e : r = a
     · subst e; exact h3 r _ (by rw [hget, if_pos rfl])
     · exact h3 r row (by rw [hget, if_neg e]; exact hr)
   · rintro ⟨h1, h2, h3⟩
     refine ⟨h1, h2, fun r row hr => ?_⟩
     rw [hget] at hr
     split at hr
     · rename_i e; subst e; exact h3 r _ hg
     · exact h3 r row hr)
 have hsim : Sim own (H.set a (some (Row.cells d.cells.length [d']))) X w := by
   refine ⟨fun r row hr => ?_, fun r r' row row' hr hr' hne => ?_, hs.hid⟩
   · rw [hU, hlen]
     rw [hget] at hr
     split at hr
     · rename_i e; subst e
       have := Option.some.inj hr; subst this
       obtain ⟨⟨h1, c, t, h2, h3, h4, h5⟩, h6⟩ := hs.live _ _ hg
       exact ⟨⟨h1, c, t, h2, h3, by simpa using h4, Go.T.Cells_te (.cons ht .nil) h5⟩, h6⟩
     · exact hs.live r row hr
   · have low : ∀ q row, Heap.get (H.set a (some (Row.cells d.cells.length [d']))) q = some row → ∃ row0, H.get q = some row0 := fun q row hq => by
       rw [hget] at hq
       split at hq
       · rename_i e; subst e; exact ⟨_, hg⟩
       · exact ⟨_, hq⟩
     obtain ⟨_, h1⟩ := low _ _ hr
     obtain ⟨_, h2⟩ := low _ _ hr'
     exact hs.excl _ _ _ _ h1 h2 hne
 refine (h.2 own X w vs hsim (by rw [zCG, hlen, hU]; exact hv)).mono fun e w' hh => ?_
 obtain ⟨own', d2, H', v, h1, h2, h3, h4, h5⟩ := hh
 exact ⟨own', d2, H', v, h1, h2, h3, ⟨h4.size, hlen ▸ h4.hn, fun r hr => h4.ho r (by rw [hlen]; exact hr), fun b hb => h4.hb b (by rw [hU]; exact hb), h4.hx, h4.st⟩, h5⟩
def mvH (H : Heap) (a b k m : Nat) (xs : List D) : Heap := ((H.set b none).set a (some (.cells 1 [.sl H.length 0 m]))) ++ [some (.cells k xs)]
theorem mvH_get {H : Heap} {a b k m : Nat} {xs : List D} (ha : a < H.length) (hb : b < H.length) (r : Nat) : (mvH H a b k m xs).get r = if r = H.length then some (.cells k xs) else if r = a then some (.cells 1 [.sl H.length 0 m]) else if r = b then none else H.get r := by
 unfold mvH
 rw [Heap.get_push]
 simp only [List.length_set]
 split
 · rfl
 · rw [Heap.get_set _ (by simpa using ha), Heap.get_set _ hb]
theorem mv_sim {own : Nat → Own} {X : Nat → Prop} {w : World} (hs : Sim own H X w) {a b k m : Nat} {xs : List D} (hab : a ≠ b) (hga : H.get a = some (.cells 1 [.sl b 0 m])) (hgb : H.get b = some (.cells k xs)) :
   ∃ own', Sim own' (mvH H a b k m xs) X w ∧ Ext X own H w own' (mvH H a b k m xs) w ∧ ∀ d v, Rel own H X w d v → Rel own' (mvH H a b k m xs) X w d v := by
 have ha := Heap.get_lt hga
 have hb := Heap.get_lt hgb
 have hget := fun r => mvH_get (m := m) (k := k) (xs := xs) ha hb r
 have hlen : (mvH H a b k m xs).length = H.length + 1 := by simp [mvH]
 refine ⟨fun r => if r = H.length then own b else own r, ?_⟩
 generalize hown : (fun r => if r = H.length then own b else own r) = own'
 have hN : own' H.length = own b := by rw [← hown]; simp
 have hO : ∀ r, r ≠ H.length → own' r = own r := fun r h => by rw [← hown]; simp [h]
 have back : ∀ r row, (mvH H a b k m xs).get r = some row → ∃ q row0, H.get q = some row0 ∧ own' r = own q ∧ ((r = H.length ∧ q = b) ∨ (r ≠ H.length ∧ r ≠ b ∧ q = r)) := fun r row h => by
   rw [hget] at h
   split at h
   · rename_i e; subst e; exact ⟨b, _, hgb, hN, .inl ⟨rfl, rfl⟩⟩
   · rename_i e
     split at h
     · rename_i e2; subst e2; exact ⟨r, _, hga, hO _ e, .inr ⟨e, hab, rfl⟩⟩
     · split at h
       · cases h
       · rename_i e3; exact ⟨r, _, h, hO _ e, .inr ⟨e, e3, rfl⟩⟩
 have hU : zAL own' (mvH H a b k m xs) X w = zAL own H X w := funext fun q => propext (by
   constructor
   · rintro ⟨h1, h2, h3⟩
     refine ⟨h1, h2, fun r row hr => ?_⟩
     have hrl : r ≠ H.length := Nat.ne_of_lt (Heap.get_lt hr)
     by_cases e : r = b
     · subst e; rw [← hN]; exact h3 H.length _ (by rw [hget, if_pos rfl])
     · by_cases e2 : r = a
       · subst e2; rw [← hO _ hrl]; exact h3 r _ (by rw [hget, if_neg hrl, if_pos rfl])
       · rw [← hO _ hrl]; exact h3 r row (by rw [hget, if_neg hrl, if_neg e2, if_neg e]; exact hr)
   · rintro ⟨h1, h2, h3⟩
     refine ⟨h1, h2, fun r row hr => ?_⟩
     obtain ⟨q', row0, h4, h5, _⟩ := back r row hr
     rw [h5]; exact h3 q' row0 h4)
 have keeps : Keeps own H.length (zAL own H X w) w own' (mvH H a b k m xs).length (zAL own' (mvH H a b k m xs) X w) w :=
   ⟨by omega, fun r hr => hO r (by omega), fun b hb => by rw [hU]; exact hb, fun _ _ _ => rfl⟩
 refine ⟨⟨fun r row hr => ?_, fun r r' row row' hr hr' hne => ?_, hs.hid⟩, ⟨Nat.le_refl _, by omega, fun r hr => hO r (by omega), fun b hb => ⟨by rw [hU]; exact hb, rfl⟩, fun _ _ => rfl, .refl _⟩, fun d v h => VRel.mono keeps d v h⟩
 · obtain ⟨q, row0, h1, h2, h3⟩ := back r row hr
   rw [h2]
   refine ⟨?_, (hs.live _ _ h1).2⟩
   rw [hget] at hr
   split at hr
   · rename_i e
     have := Option.some.inj hr; subst this
     rcases h3 with ⟨_, rfl⟩ | ⟨h, _⟩
     · exact RowOk.mono keeps rfl (hs.live _ _ hgb).1
     · exact absurd e h
   · rename_i e
     rcases h3 with ⟨h, _⟩ | ⟨_, h3, rfl⟩
     · exact absurd h e
     split at hr
     · rename_i e2; subst e2
       have := Option.some.inj hr; subst this
       obtain ⟨g1, c, t, g2, g3, g4, g5⟩ := RowOk.mono keeps rfl (hs.live _ _ hga).1
       refine ⟨g1, c, t, g2, g3, by simpa using g4, ?_⟩
       have g6 := Cells_get (i := 0) g5 rfl
       rw [zCV] at g6
       rw [Cells]
       refine ⟨?_, by rw [Cells]; trivial⟩
       rw [zCV]
       obtain ⟨g8, g6⟩ := g6
       refine ⟨g8, ?_⟩
       simp only [D.cells, Flat] at g6 ⊢
       obtain ⟨g9, ⟨v, hv, g7⟩, _⟩ := g6
       refine ⟨rfl, ⟨v, by simpa using hv, ?_⟩, trivial⟩
       rw [VRel] at g7 ⊢
       obtain ⟨h7, h8⟩ := g7
       rw [hN]
       rw [hO b (Nat.ne_of_lt hb)] at h8
       exact ⟨by omega, h8⟩
     · exact RowOk.mono keeps rfl (hs.live _ _ hr).1
 · obtain ⟨q, row0, h1, h2, h3⟩ := back r row hr
   obtain ⟨q', row0', h1', h2', h3'⟩ := back r' row' hr'
   rw [h2, h2']
   refine hs.excl _ _ _ _ h1 h1' ?_
   rcases h3 with ⟨e1, e2⟩ | ⟨e1, e2, e3⟩ <;> rcases h3' with ⟨e1', e2'⟩ | ⟨e1', e2', e3'⟩
   · exact absurd (e1.trans e1'.symm) hne
   · rw [e2, e3']; exact fun h => e2' h.symm
   · rw [e3, e2']; exact e2
   · rw [e3, e3']; exact hne
theorem Sound.mv {R R' : D → Heap → Prop} (h : Sound P f ds H R) (hr : ∀ d H', H.length ≤ H'.length → R d H' → ∃ a b k m xs, a ≠ b ∧ H'.get a = some (.cells 1 [.sl b 0 m]) ∧ H'.get b = some (.cells k xs) ∧ R' d (mvH H' a b k m xs)) : Sound P f ds H R' := ⟨h.1, fun own X w vs hs hv =>
 Calls.mono (h.2 own X w vs hs hv) fun e w' ⟨own', d, H', v, h1, h2, h3, h4, h5⟩ => by
   obtain ⟨a, b, k, m, xs, g1, g2, g3, g4⟩ := hr d H' h4.hn h5
   obtain ⟨own'', g5, g6, g7⟩ := mv_sim h2 g1 g2 g3
   exact ⟨own'', d, _, v, h1, g5, g7 _ _ h3, Ext.trans h4 g6, g4⟩⟩
end
end Go.Ab
namespace Go.T
open Go.Ab
variable [Go.Ab.DM]
theorem hrel_nil {ζ : Nat → Row} {num : Nat → Nat} {H : Heap} : HRel ζ num [] H := ⟨fun r => trivial, fun r q h => (by cases h), fun r t x h => (by cases h)⟩
theorem norefs_enc {l : List TV} (h : ∀ v ∈ l, v.t.pure = true) : zAZ (l.map (enc zCr)) = true := by
 induction l with
 | nil => simp [zAZ]
 | cons v l ih =>
   rw [List.map_cons, zAZ, Bool.and_eq_true]
   exact ⟨(e0_noref v.t v.x (h v (by simp))).1, ih fun u hu => h u (by simp [hu])⟩
theorem con_pure {P : Program} {c : Con} (hins : c.ins = []) (houts : c.outs = []) (hpa : ∀ x, ∀ v ∈ zAc c x, v.t.pure = true) (hpr : ∀ y, (zAt c y).t.pure = true)
   (h : ∀ x, (∃ y, c.Q x y) → Pure P c.f ((zAc c x).map (enc zCr)) fun d => ∃ y, c.Q x y ∧ d = enc zCr (zAt c y)) : zAu P c := fun x hx ζ num H hH hok => by
 have hrows : zBE c x = [] := by unfold zBE; rw [hins]; rfl
 have houtR : ∀ y, zAJ c y = [] := fun y => by unfold zAJ; rw [houts]; rfl
 have e1 : ∀ ρ, (zAc c x).map (enc ρ) = (zAc c x).map (enc zCr) := fun ρ => List.map_congr_left fun v hv => enc_pure (hpa x v hv) _ _
 rw [e1]
 refine ((h x hx).frame (norefs_enc (hpa x)) H).sound.mono fun d H' hd => ?_
 obtain ⟨rfl, y, hy, rfl⟩ := hd
 refine ⟨y, hy, ζ, num, by rw [houtR]; exact hrel_nil, by rw [houtR]; exact enc_pure (hpr y) _ _, by rw [houtR]; exact zCc _ _ (hpr y), ?_, ?_⟩
 · intro r hr; rw [houtR] at hr; cases hr
 · intro r hr; rw [hins] at hr; cases hr
theorem pure_of {P : Program} {c : Con} (ok : zAu P c) (hins : c.ins = []) (hq : c.q = none) {x : (zAT c.inT).I} {y : (zAT c.outT).I} (hpa : ∀ v ∈ zAc c x, v.t.pure = true) (hpr : (zAt c y).t.pure = true) (h : c.F x = some y) : Pure P c.f ((zAc c x).map (enc zCr)) fun d => d = enc zCr (zAt c y) := by
 have hrows : zBE c x = [] := by unfold zBE; rw [hins]; rfl
 have hQ : c.Q x y := by unfold Con.Q; rw [hq]; exact h
 have hS := ok x ⟨y, hQ⟩ (fun _ => .sit ByteArray.empty 0) (fun _ => 0) [] (by rw [hrows]; exact hrel_nil) (fun v hv => zCc _ _ (hpa v hv))
 have e1 : ∀ ρ, (zAc c x).map (enc ρ) = (zAc c x).map (enc zCr) := fun ρ => List.map_congr_left fun v hv => enc_pure (hpa v hv) _ _
 rw [e1] at hS
 refine ⟨hS.1, fun own X w vs hs hv => (hS.2 own X w vs hs hv).mono fun e w' hh => ?_⟩
 obtain ⟨own', d, H', v, h1, h2, h3, h4, y', gQ, ζ', num', _, hd, _⟩ := hh
 have hy : y' = y := by
   unfold Con.Q at gQ; rw [hq] at gQ
   exact Option.some.inj (gQ.symm.trans h)
 subst hy
 have hU : ∀ b, zAL own' H' X w' b → zAL own' [] X w' b := fun b hb => unowned_nil.2 ⟨hb.1, hb.2.1⟩
 refine ⟨own', _, [], v, h1, Sim.nil h2.hid, ?_, ⟨h4.size, Nat.le_refl _, fun r hr => absurd hr (Nat.not_lt_zero _), fun b hb => ⟨hU b (h4.hb b hb).1, (h4.hb b hb).2⟩, h4.hx, h4.st⟩, rfl, rfl⟩
 rw [hd, enc_pure hpr _ zCr] at h3
 exact VRel.mono ⟨Nat.le_refl _, fun r hr => absurd hr (Nat.not_lt_zero _), hU, fun _ _ _ => rfl⟩ _ _ (VRel_noref _ _ (e0_noref _ _ hpr).1 h3)
end Go.T
namespace Go.T
open Go.Ab Go.Sort Go.Proofs
variable [Go.Ab.DM]
section
variable {own : Nat → Own} {U : Nat → Prop} {w : World}
theorem blk_flat {α : Type} [Inhabited α] (e : α → List Value) {k : Nat} (hk : ∀ x, (e x).length = k) : ∀ (ps : List α) (t : Nat), t < ps.length * k → (ps.flatMap e)[t]? = some (e ps.toArray[t / k]!)[t % k]!
 | [], t, h => by simp at h
 | p :: ps, t, h => by
   have hk0 : 0 < k := by rcases Nat.eq_zero_or_pos k with h' | h'; · subst h'; simp at h
                          · exact h'
   rw [List.flatMap_cons]
   rcases Nat.lt_or_ge t k with ht | ht
   · rw [List.getElem?_append_left (by rw [hk]; exact ht), Nat.div_eq_of_lt ht, Nat.mod_eq_of_lt ht]
     have : t < (e p).length := by rw [hk]; exact ht
     simp [this]
   · rw [List.getElem?_append_right (by rw [hk]; exact ht), hk]
     have h1 : t - k < ps.length * k := by simp [Nat.add_mul] at h; omega
     rw [blk_flat e hk ps (t - k) h1]
     have e1 : t / k = (t - k) / k + 1 := by rw [Nat.div_eq_sub_div hk0 ht]
     have e2 : t % k = (t - k) % k := Nat.mod_eq_sub_mod ht
     rw [e1, e2]
     simp
theorem flatK_list {α : Type} [Inhabited α] (e : α → List Value) {k : Nat} (hk : ∀ x, (e x).length = k) (ps : List α) : flatK e k ps.toArray = (ps.flatMap e).toArray := by
 have hl : (ps.flatMap e).length = ps.length * k := by
   induction ps with
   | nil => simp
   | cons p ps ih => rw [List.flatMap_cons, List.length_append, ih, hk, List.length_cons, Nat.add_mul]; omega
 refine ext_get! (by simp [hl]) fun t ht => ?_
 have ht : t < ps.length * k := by simpa using ht
 rw [get_flatK _ _ _ _ (by simpa using ht)]
 have := blk_flat e hk ps t ht
 have h2 : t < (ps.flatMap e).length := by rw [hl]; exact ht
 rw [List.getElem?_eq_getElem h2] at this
 rw [getElem!_pos _ t (by simpa using h2)]
 simpa using (Option.some.inj this).symm
theorem cut_row {T : Ty} (hT : T.elem = true) : ∀ (l : List T.I) (vs : List Value), VRels own U w 0 ((l.map (e0 T)).flatMap D.cells) vs → ∃ ps : List (T.I × List Value), ps.map (·.1) = l ∧ ps.flatMap (·.2) = vs ∧ ∀ p ∈ ps, p.2.length = T.w ∧ VRels own U w 0 (e0 T p.1).cells p.2
 | [], vs, h => by
   rw [List.map_nil, List.flatMap_nil, VRels] at h
   exact ⟨[], rfl, by simp [h], by simp⟩
 | x :: l, vs, h => by
   rw [List.map_cons, List.flatMap_cons] at h
   obtain ⟨us, ws, rfl, h1, h2⟩ := VRels_split h
   obtain ⟨ps, g1, g2, g3⟩ := cut_row hT l ws h2
   refine ⟨(x, us) :: ps, by simp [g1], by simp [g2], fun p hp => ?_⟩
   rcases List.mem_cons.1 hp with rfl | hp
   · exact ⟨by rw [zAj h1, ← D.width_eq, elem_width hT], h1⟩
   · exact g3 p hp
theorem join_row {T : Ty} : ∀ (ps : List (T.I × List Value)), (∀ p ∈ ps, VRels own U w 0 (e0 T p.1).cells p.2) → VRels own U w 0 ((ps.map fun p => e0 T p.1).flatMap D.cells) (ps.flatMap (·.2))
 | [], _ => by simp [VRels]
 | p :: ps, h => by
   rw [List.map_cons, List.flatMap_cons, List.flatMap_cons]
   exact zBC (h p (by simp)) (join_row ps fun q hq => h q (by simp [hq]))
end
def SE (T : Ty) (D0 : T.I → Prop) (own : Nat → Own) (U : Nat → Prop) (w : World) : Type := {p : T.I × List Value // D0 p.1 ∧ p.2.length = T.w ∧ VRels own U w 0 (e0 T p.1).cells p.2}
def SE.e {T : Ty} {D0 : T.I → Prop} {own : Nat → Own} {U : Nat → Prop} {w : World} (p : SE T D0 own U w) : List Value := p.1.2
def SE.c {T : Ty} {D0 : T.I → Prop} (cf : T.I → T.I → Int) {own : Nat → Own} {U : Nat → Prop} {w : World} (p q : SE T D0 own U w) : Int := cf p.1.1 q.1.1
structure CmpOk (P : Program) (cc : Con) (T : Ty) (cap : List TV) (D0 : T.I → Prop) (cf : T.I → T.I → Int) : Prop where
 ok : @zAu ⟨True⟩ P cc
 ins : cc.ins = []
 outs : cc.outs = []
 pure : ∀ v ∈ cap, v.t.pure = true
 enters : ∀ args w, (callFunc cc.f args).run P w = .ok (.enter cc.f args) w
 gives : ∀ x y, D0 x → D0 y → ∃ z, zAc cc z = ⟨T, x⟩ :: ⟨T, y⟩ :: cap ∧ (∃ r, cc.Q z r) ∧ ∀ r, cc.Q z r → zAt cc r = ⟨.int .i64, cf x y⟩
 irrefl : ∀ x, D0 x → ltOf cf x x = false
 trans : ∀ x y z, D0 x → D0 y → D0 z → ltOf cf x y = true → ltOf cf y z = true → ltOf cf x z = true
 ntrans : ∀ x y z, D0 x → D0 y → D0 z → ltOf cf x y = false → ltOf cf y z = false → ltOf cf x z = false
section
variable {P : Program} {cc : Con} {T : Ty} {cap : List TV} {D0 : T.I → Prop} {cf : T.I → T.I → Int} {own : Nat → Own} {U : Nat → Prop} {w : World}
theorem CmpOk.swo (c : CmpOk P cc T cap D0 cf) : SWO (ltOf (SE.c (D0 := D0) cf (own := own) (U := U) (w := w))) :=
 ⟨fun x => c.irrefl _ x.2.1, fun x y z => c.trans _ _ _ x.2.1 y.2.1 z.2.1, fun x y z => c.ntrans _ _ _ x.2.1 y.2.1 z.2.1⟩
theorem world_ext {w w' : World} (h1 : w'.heap = w.heap) (h2 : w'.tape = w.tape) (h3 : w'.drawn = w.drawn) (h4 : w'.os = w.os) (h5 : w'.output = w.output) : w' = w := by
 cases w; cases w'; simp at h1 h2 h3 h4 h5; subst h1 h2 h3 h4 h5; rfl
omit [Go.Ab.DM] in
theorem grown {W w' : World} (hsz : W.heap.size ≤ w'.heap.size) (hb : ∀ b, b < W.heap.size → w'.heap[b]? = W.heap[b]?) (st : @SameW ⟨True⟩ W w') : ∃ q os', w' = grow (W.drewN q) os' := by
 letI : Go.Ab.DM := ⟨True⟩
 refine ⟨w'.drawn - W.drawn, w'.heap.extract W.heap.size w'.heap.size, world_ext ?_ st.tape ?_ st.os st.out⟩
 · show w'.heap = W.heap ++ _
   apply Array.ext_getElem?
   intro i
   rcases Nat.lt_or_ge i W.heap.size with h | h
   · rw [hb i h, Array.getElem?_append_left h]
   · rw [Array.getElem?_append_right h]
     rcases Nat.lt_or_ge i w'.heap.size with h' | h'
     · rw [Array.getElem?_eq_getElem h', Array.getElem?_eq_getElem (by simp; omega)]
       simp [Nat.add_sub_cancel' h]
     · rw [Array.getElem?_eq_none h', Array.getElem?_eq_none (by simp; omega)]
 · show w'.drawn = W.drawn + _
   have := st.drawn trivial; omega
omit [Go.Ab.DM] in
theorem cmp_lays [Inhabited (SE T D0 own U w)] (c : CmpOk P cc T cap D0 cf) (hTp : T.pure = true) (hagg : zBi T = true) {blk off size : Nat} {us : List Value} (hU : ∀ b, U b → b < w.heap.size ∧ b ≠ blk) (hcap : VRels own U w 0 (cap.map (enc zCr)) us) :
   CmpLays P cc.f us.toArray (SE.e (D0 := D0) (own := own) (U := U) (w := w)) T.w (SE.c cf) blk off size w := by
 letI : Go.Ab.DM := ⟨True⟩
 intro m os dk hdk x y
 generalize hWdef : sortWorldK (SE.e (D0 := D0) (own := own) (U := U) (w := w)) T.w w blk off m dk os = W
 have hW : ∀ b, U b → b < W.heap.size ∧ W.heap[b]? = w.heap[b]? := fun b hb => by
   obtain ⟨h1, h2⟩ := hU b hb
   subst hWdef
   unfold sortWorldK grow putRowK Go.Sort.putRow mapBlock Sort.ahead
   simp only
   refine ⟨by simp; omega, ?_⟩
   rw [Array.getElem?_append_left (by simpa using h1), Array.getElem?_modify, if_neg (Ne.symm h2)]
 obtain ⟨z, hz, hq, hres⟩ := c.gives _ _ x.2.1 y.2.1
 have hrows : zBE cc z = [] := by unfold zBE; rw [c.ins]; rfl
 have hpv : ∀ v ∈ zAc cc z, v.t.pure = true := fun v hv => by
   rw [hz] at hv
   rcases List.mem_cons.1 hv with rfl | hv
   · exact hTp
   rcases List.mem_cons.1 hv with rfl | hv
   · exact hTp
   · exact c.pure v hv
 have hS := c.ok z hq (fun _ => .sit ByteArray.empty 0) (fun _ => 0) [] (by rw [hrows]; exact hrel_nil) (fun v hv => zCc _ _ (hpv v hv))
 have e1 : ∀ ρ, (zAc cc z).map (enc ρ) = (zAc cc z).map (enc zCr) := fun ρ => List.map_congr_left fun v hv => enc_pure (hpv v hv) _ _
 rw [e1, hz] at hS
 have hsim : Sim own [] (fun _ => False) W := ⟨fun r row h => (by cases h), fun r r' row row' h => (by cases h), fun b h => h.elim⟩
 have hUn : zAL own [] (fun _ => False) W = fun b => b < W.heap.size := funext fun b => propext (by rw [unowned_nil]; simp)
 have keeps : Keeps own 0 U w own 0 (fun b => b < W.heap.size) W := ⟨Nat.le_refl _, fun _ _ => rfl, fun b hb => (hW b hb).1, fun b hb => zBz (hW b hb).2⟩
 have elt : ∀ p : SE T D0 own U w, VRel own (fun b => b < W.heap.size) W 0 (enc zCr ⟨T, p.1.1⟩) (.agg p.e.toArray) := fun p => by
   have h := VRels.mono keeps _ _ p.2.2.2
   obtain ⟨⟨x, vs⟩, h1, h2, h3⟩ := p
   cases T with
   | agg s =>
     show VRel _ _ _ _ (D.agg _) _
     rw [VRel]; exact ⟨_, rfl, h⟩
   | _ => simp [zBi] at hagg
 have hrel : zCG own [] (fun _ => False) W ((⟨T, x.1.1⟩ :: ⟨T, y.1.1⟩ :: cap).map (enc zCr)) (.agg x.e.toArray :: .agg y.e.toArray :: us) := by
   rw [zCG, hUn]
   show VRels _ _ _ 0 _ _
   rw [List.map_cons, List.map_cons, VRels]
   refine ⟨_, _, rfl, elt x, ?_⟩
   rw [VRels]
   exact ⟨_, _, rfl, elt y, VRels.mono keeps _ _ hcap⟩
 have hC := hS.2 own (fun _ => False) W _ hsim hrel
 have ea : (Value.agg x.e.toArray :: Value.agg y.e.toArray :: us).toArray = #[.agg x.e.toArray, .agg y.e.toArray] ++ us.toArray := by simp
 rw [ea] at hC
 refine hC.mono fun e W' hh => ?_
 obtain ⟨own', d, H', v, rfl, _, g2, g3, r, gQ, ζ', num', _, rfl, _⟩ := hh
 rw [hres r gQ] at g2
 have hv : v = .int .i64 (cf x.1.1 y.1.1) := by
   rw [Rel] at g2
   have e : enc (zAB num' (zAJ cc r)) ⟨.int .i64, cf x.1.1 y.1.1⟩ = .v (.int .i64 (cf x.1.1 y.1.1)) := rfl
   rw [e, VRel] at g2; exact g2
 subst hv
 refine ⟨rfl, grown g3.size (fun b hb => (g3.hb b (by rw [hUn]; exact hb)).2) g3.st⟩
def SortsAt (P : Program) (f k : Nat) : Prop := ∀ {α : Type} [Inhabited α] (enc : α → List Value) (hk : ∀ x, (enc x).length = k) (h1 : ∀ x, ∀ v ∈ enc x, v.oneCell' = true) (cf : α → α → Int) (hO : SWO (ltOf cf)) (g : Nat) (cb : Array Value) (blk off cap : Nat) (d : Array α) (w : World)
 (eg : ∀ args w, (callFunc g args).run P w = .ok (.enter g args) w) (hcmp : CmpLays P g cb enc k cf blk off d.size w) (hH : HoldsK enc k w blk off d) (hblk : blk < w.heap.size) (hsz : d.size < 4611686018427387904),
 Calls P f #[.slice (some ⟨blk, off, none⟩) d.size cap, .func (.func g) #[] cb] w fun e w' =>
   e = .returned (.tuple #[]) ∧ ∃ d' n os, PermIn 0 d.size d d' ∧ SortedIn (ltOf cf) 0 d.size d' ∧ w' = sortWorldK enc k w blk off n d' os
theorem norefs_app : ∀ (a b : List D), zAZ a = true → zAZ b = true → zAZ (a ++ b) = true
 | [], b, _, h => h
 | d :: a, b, h, h' => by
   rw [zAZ, Bool.and_eq_true] at h
   rw [List.cons_append, zAZ, Bool.and_eq_true]
   exact ⟨h.1, norefs_app a b h.2 h'⟩
theorem norefs_flat {T : Ty} (hp : T.pure = true) : ∀ l : List T.I, zAZ ((l.map (e0 T)).flatMap D.cells) = true
 | [] => by simp [zAZ]
 | x :: l => by
   rw [List.map_cons, List.flatMap_cons]
   exact norefs_app _ _ (noref_cells (e0_noref T x hp).1) (norefs_flat hp l)
theorem ones_flat {T : Ty} (hT : T.elem = true) : ∀ l : List T.I, ((l.map (e0 T)).flatMap D.cells).all D.one = true
 | [] => rfl
 | x :: l => by
   rw [List.map_cons, List.flatMap_cons, List.all_append, Bool.and_eq_true]
   exact ⟨elem_cells hT zCr x, ones_flat hT l⟩
theorem sub_list {α : Type} {p : α → Prop} : ∀ ps : List α, (∀ x ∈ ps, p x) → ∃ qs : List {x // p x}, qs.map (·.1) = ps
 | [], _ => ⟨[], rfl⟩
 | x :: ps, h => by
   obtain ⟨qs, hq⟩ := sub_list ps fun y hy => h y (by simp [hy])
   exact ⟨⟨x, h x (by simp)⟩ :: qs, by simp [hq]⟩
theorem sort_sound {f : Nat} (L : SortsAt P f T.w) (c : CmpOk P cc T cap D0 cf) (hT : T.elem = true) (hagg : zBi T = true) (hcall : callable P f) (x0 : T.I) (h0 : D0 x0) (hx0 : ∀ own U w, ∃ vs, VRels own U w 0 (e0 T x0).cells vs)
   {H : Heap} {r : Nat} {l : List T.I} (hg : H.get r = some (.cells T.w (l.map (e0 T)))) (hl : ∀ x ∈ l, D0 x) (hn : l.length < 4611686018427387904) :
   Sound P f [.sl r 0 l.length, .fn (.func cc.f) [] (cap.map (enc zCr))] H fun d H' => d = .tup [] ∧ ∃ l' : List T.I, l'.Perm l ∧ l'.Pairwise (fun a b => ltOf cf b a = false) ∧ H' = H.set r (some (.cells T.w (l'.map (e0 T)))) := by
 refine ⟨hcall, fun own X w vs hs hv => ?_⟩
 have hTp := zBy hT
 rw [zCG, VRels] at hv
 obtain ⟨v1, vs1, rfl, hv1, hv⟩ := hv
 rw [VRels] at hv
 obtain ⟨v2, vs2, rfl, hv2, hv⟩ := hv
 rw [VRels] at hv
 subst hv
 rw [VRel] at hv1
 rw [VRel] at hv2
 obtain ⟨_, off, cp, rfl, hm, hoff⟩ := hv1
 obtain ⟨fs0, us, rfl, hfs0, hcap⟩ := hv2
 rw [VRels] at hfs0
 subst hfs0
 obtain ⟨⟨hk, cs, t, hb, hsz, hfit, hcells⟩, hX⟩ := hs.live r _ hg
 generalize hUd : zAL own H X w = U at *
 have hUb : ∀ b, U b → b < w.heap.size ∧ b ≠ (own r).b := fun b h => by
   rw [← hUd] at h
   exact ⟨h.1, fun e => h.2.2 r _ hg e.symm⟩
 have hcap' : VRels own U w 0 (cap.map (enc zCr)) us := zCU _ _ (norefs_enc c.pure) hcap
 obtain ⟨hw, hflat⟩ := Cells_flat.1 hcells
 obtain ⟨hone, fs, hfv, hfc⟩ := Flat_values.1 hflat
 obtain ⟨ps, hp1, hp2, hp3⟩ := cut_row hT l fs (zCU _ _ (norefs_flat hTp l) hfv)
 obtain ⟨qs, hqs⟩ : ∃ qs : List (SE T D0 own U w), qs.map (·.1) = ps := by
   exact sub_list ps fun p hp => ⟨hl _ (by rw [← hp1]; exact List.mem_map_of_mem hp), hp3 p hp⟩
 obtain ⟨vs0, hvs0⟩ := hx0 own U w
 have inst : Inhabited (SE T D0 own U w) := ⟨⟨(x0, vs0), h0, by rw [zAj hvs0, ← D.width_eq, elem_width hT], hvs0⟩⟩
 have hek : ∀ p : SE T D0 own U w, p.e.length = T.w := fun p => p.2.2.1
 have hfe : qs.flatMap SE.e = fs := by rw [← hp2, ← hqs, List.flatMap_map]; rfl
 have hql : qs.map (fun p => p.1.1) = l := by rw [← hp1, ← hqs, List.map_map]; rfl
 have hqn : qs.length = l.length := by rw [← hql, List.length_map]
 have hflen : fs.length = l.length * T.w := by
   rw [← hfe, ← hqn]
   clear hfe hql hqn hqs
   induction qs with
   | nil => simp
   | cons p qs ih => rw [List.flatMap_cons, List.length_append, ih, hek, List.length_cons, Nat.add_mul]; omega
 have hoff' : l.length ≠ 0 → off = (own r).base := fun h => by
   obtain ⟨h1, _⟩ := hoff (by omega)
   simpa using h1
 have hH : HoldsK (SE.e (D0 := D0) (own := own) (U := U) (w := w)) T.w w (own r).b off qs.toArray := by
   unfold HoldsK
   rw [flatK_list _ hek, hfe]
   intro j hj
   have hj : j < fs.length := by simpa using hj
   have hl0 : l.length ≠ 0 := fun h => by rw [h] at hflen; omega
   rw [hoff' hl0]
   refine ⟨?_, ?_⟩
   · rw [hfc j hj, List.getElem?_eq_getElem hj, getElem!_pos _ j (by simpa using hj)]; simp
   · unfold World.frozen?
     rw [hb]; simp
 have hblk : (own r).b < w.heap.size := by
   rcases Nat.lt_or_ge (own r).b w.heap.size with h | h
   · exact h
   · rw [Array.getElem?_eq_none h] at hb; cases hb
 have h1c : ∀ x : SE T D0 own U w, ∀ v ∈ x.e, v.oneCell' = true := fun x => VRels_one x.2.2.2 (elem_cells hT zCr x.1.1)
 have hC := L SE.e hek h1c (SE.c cf) c.swo cc.f us.toArray (own r).b off cp qs.toArray w c.enters (cmp_lays c hTp hagg hUb hcap') hH hblk (by simpa [hqn] using hn)
 have ea : (#[] : Array Value) = [].toArray := rfl
 have en : qs.toArray.size = l.length := by simp [hqn]
 rw [en] at hC
 refine hC.mono fun e w' hh => ?_
 obtain ⟨rfl, d', n, os, hperm, hsorted, rfl⟩ := hh
 obtain ⟨hds, _, hp⟩ := hperm
 have hds : d'.size = l.length := by rw [hds, en]
 have hp : d'.toList.Perm qs := by
   have e1 : (d'.extract 0 l.length).toList = d'.toList := by rw [← hds]; simp
   have e2 : (qs.toArray.extract 0 l.length).toList = qs := by rw [← hqn]; simp
   rw [e1, e2] at hp; exact hp
 have hw1 : (putRowK SE.e T.w (Sort.ahead w n) (own r).b off d').heap = w.heap.setIfInBounds (own r).b (.cells (putCells id off (flatK SE.e T.w d') cs) t (0, 0)) := by
   unfold putRowK Go.Sort.putRow mapBlock Sort.ahead
   apply Array.ext_getElem?
   intro i
   simp only
   rw [Array.getElem?_modify, Array.getElem?_setIfInBounds]
   by_cases e : (own r).b = i
   · subst e
     rw [if_pos rfl, if_pos rfl, hb, if_pos hblk]; rfl
   · rw [if_neg e, if_neg e]
 have hH' : HoldsK SE.e T.w (putRowK SE.e T.w (Sort.ahead w n) (own r).b off d') (own r).b off d' :=
   holdsK_putRowK SE.e T.w (Sort.ahead w n) (own r).b off qs.toArray d' (holdsK_ahead SE.e T.w w n (own r).b off _ hH) (by rw [hds, en])
 have hfl : flatK SE.e T.w d' = (d'.toList.flatMap SE.e).toArray := by
   have := flatK_list SE.e hek d'.toList
   simpa using this
 have hlen' : d'.toList.length = l.length := by simpa using hds
 have hdl : (d'.toList.flatMap SE.e).length = l.length * T.w := by
   rw [← hlen']
   generalize d'.toList = q
   induction q with
   | nil => simp
   | cons p q ih => rw [List.flatMap_cons, List.length_append, ih, hek, List.length_cons, Nat.add_mul]; omega
 obtain ⟨hs1, hx1⟩ := step_set (row' := .cells T.w ((d'.toList.map fun p => p.1.1).map (e0 T))) hs hg _ hw1 (fun hext hobj => by
   have hcellsz : (putCells id off (flatK SE.e T.w d') cs).size = cs.size := by simp [putCells]
   refine ⟨hk, _, t, hobj, by rw [hcellsz]; exact hsz, by simpa [hlen'] using hfit, Cells_flat.2 ⟨fun d hd => ?_, Flat_values.2 ⟨ones_flat hT _, d'.toList.flatMap SE.e, ?_, fun i hi => ?_⟩⟩⟩
   · obtain ⟨x, _, rfl⟩ := List.mem_map.1 hd
     exact elem_width hT zCr x
   · have hj := join_row (own := own) (U := U) (w := w) (d'.toList.map (·.1)) (fun p hp' => by
       obtain ⟨q, _, rfl⟩ := List.mem_map.1 hp'
       exact q.2.2.2)
     have h2 : (d'.toList.map (·.1)).flatMap (·.2) = d'.toList.flatMap SE.e := by rw [List.flatMap_map]; rfl
     have h3 : ((d'.toList.map (·.1)).map fun p => e0 T p.1) = (d'.toList.map fun p => p.1.1).map (e0 T) := by rw [List.map_map, List.map_map]; rfl
     rw [h2, h3] at hj
     refine VRels.mono (own := own) (U := U) (w := w) (n := 0) ⟨Nat.zero_le _, fun r h => absurd h (Nat.not_lt_zero _), fun b hb' => ?_, fun b hb' => ?_⟩ _ _ hj
     · exact (hext.hb b (by rw [hUd]; exact hb')).1
     · exact zBz (hext.hb b (by rw [hUd]; exact hb')).2
   · have hl0 : l.length ≠ 0 := fun h => by rw [h] at hdl; omega
     have := (hH' i (by rw [hfl]; simpa using hi)).1
     rw [hfl] at this
     rw [← hoff' hl0, this, List.getElem?_eq_getElem hi, getElem!_pos _ i (by simpa using hi)]; simp) ⟨rfl, rfl, rfl, fun _ => Nat.le_add_right _ _⟩
 obtain ⟨hs2, hx2⟩ := Sim.outlives (own' := own) (X' := X) (w' := sortWorldK SE.e T.w w (own r).b off n d' os) hs1 (fun _ h => h) (fun b hb' => by
   unfold sortWorldK grow
   simp only
   rw [Array.getElem?_append_left hb']) (by unfold sortWorldK grow; simp) ⟨rfl, rfl, rfl, fun _ => Nat.le_refl _⟩
 refine ⟨own, .tup [], _, _, rfl, hs2, ?_, Ext.trans hx1 hx2, rfl, d'.toList.map fun p => p.1.1, ?_, ?_, rfl⟩
 · rw [Rel, VRel]; exact ⟨[], rfl, by rw [VRels]⟩
 · rw [← hql]; exact hp.map _
 · rw [List.pairwise_map]
   rw [List.pairwise_iff_getElem]
   intro i j hi hj hij
   have hi' : i < d'.size := by simpa using hi
   have hj' : j < d'.size := by simpa using hj
   have := hsorted i j (Nat.zero_le _) hij (by omega)
   rw [getElem!_pos _ i hi', getElem!_pos _ j hj'] at this
   simp only [List.getElem_map, Array.getElem_toList]
   exact this
end
end Go.T
namespace Go.T
open Go.Ab Go.Sort Go.Proofs
variable [Go.Ab.DM]
section
variable {own : Nat → Own} {U : Nat → Prop} {w : World}
theorem vrels_v {n : Nat} : ∀ (l : List Value) {fs : List Value}, VRels own U w n (l.map D.v) fs ↔ fs = l
 | [], fs => by simp [VRels]
 | x :: l, fs => by
   rw [List.map_cons, VRels]
   constructor
   · rintro ⟨v, vs, rfl, h1, h2⟩
     rw [VRel] at h1
     rw [(vrels_v l).1 h2, h1]
   · rintro rfl
     exact ⟨x, l, rfl, by rw [VRel], (vrels_v l).2 rfl⟩
theorem cells_v : ∀ l : List Value, (l.map D.v).flatMap D.cells = l.map D.v
 | [] => rfl
 | x :: l => by rw [List.map_cons, List.flatMap_cons, cells_v l]; rfl
theorem row_sound {P : Program} {f : FuncId} {H : Heap} {r : Nat} {vx vy : List Value} (hcall : callable P f) (hlen : vy.length = vx.length) (hone : (vy.map D.v).all D.one = true)
   (hC : ∀ blk off cap w, Holds id w blk off vx.toArray → blk < w.heap.size → Calls P f #[.slice (some ⟨blk, off, none⟩) vx.length cap] w fun e w' => e = .returned (.tuple #[]) ∧ ∃ n os, w' = grow (Go.Sort.putRow id (Sort.ahead w n) blk off vy.toArray) os)
   (hg : H.get r = some (.cells 1 (vx.map D.v))) :
   Sound P f [.sl r 0 vx.length] H fun d H' => d = .tup [] ∧ H' = H.set r (some (.cells 1 (vy.map D.v))) := by
 refine ⟨hcall, fun own X w vs hs hv => ?_⟩
 rw [zCG, VRels] at hv
 obtain ⟨v1, vs1, rfl, hv1, hv⟩ := hv
 rw [VRels] at hv
 subst hv
 rw [VRel] at hv1
 obtain ⟨_, off, cp, rfl, hm, hoff⟩ := hv1
 obtain ⟨⟨hk, cs, t, hb, hsz, hfit, hcells⟩, hX⟩ := hs.live r _ hg
 obtain ⟨hw, hflat⟩ := Cells_flat.1 hcells
 rw [cells_v] at hflat
 obtain ⟨_, fs, hfv, hfc⟩ := Flat_values.1 hflat
 have hfs := (vrels_v vx).1 hfv
 subst hfs
 have hoff' : fs.length ≠ 0 → off = (own r).base := fun h => by
   obtain ⟨h1, _⟩ := hoff (by omega)
   simpa using h1
 have hH : Holds id w (own r).b off fs.toArray := by
   intro j hj
   have hj : j < fs.length := by simpa using hj
   rw [hoff' (by omega)]
   refine ⟨?_, ?_⟩
   · rw [hfc j hj, List.getElem?_eq_getElem hj, getElem!_pos _ j (by simpa using hj)]; simp
   · unfold World.frozen?
     rw [hb]; simp
 have hblk : (own r).b < w.heap.size := by
   rcases Nat.lt_or_ge (own r).b w.heap.size with h | h
   · exact h
   · rw [Array.getElem?_eq_none h] at hb; cases hb
 refine (hC (own r).b off cp w hH hblk).mono fun e w' hh => ?_
 obtain ⟨rfl, n, os, rfl⟩ := hh
 have hw1 : (Go.Sort.putRow id (Sort.ahead w n) (own r).b off vy.toArray).heap = w.heap.setIfInBounds (own r).b (.cells (putCells id off vy.toArray cs) t (0, 0)) := by
   unfold Go.Sort.putRow mapBlock Sort.ahead
   apply Array.ext_getElem?
   intro i
   simp only
   rw [Array.getElem?_modify, Array.getElem?_setIfInBounds]
   by_cases e : (own r).b = i
   · subst e
     rw [if_pos rfl, if_pos rfl, hb, if_pos hblk]; rfl
   · rw [if_neg e, if_neg e]
 have hHK : HoldsK (fun v : Value => [v]) 1 w (own r).b off fs.toArray := by
   unfold HoldsK
   rw [flatK_list (fun v : Value => [v]) (fun _ => rfl)]
   simpa using hH
 have hK : putRowK (fun v : Value => [v]) 1 (Sort.ahead w n) (own r).b off vy.toArray = Go.Sort.putRow id (Sort.ahead w n) (own r).b off vy.toArray := by
   unfold putRowK
   rw [flatK_list (fun v : Value => [v]) (fun _ => rfl)]
   congr 1
   simp
 have hH' := holdsK_putRowK (fun v : Value => [v]) 1 (Sort.ahead w n) (own r).b off fs.toArray vy.toArray (holdsK_ahead _ 1 w n (own r).b off _ hHK) (by simp [hlen])
 rw [hK] at hH'
 have hH2 : Holds id (Go.Sort.putRow id (Sort.ahead w n) (own r).b off vy.toArray) (own r).b off vy.toArray := by
   unfold HoldsK at hH'
   rw [flatK_list (fun v : Value => [v]) (fun _ => rfl)] at hH'
   simpa using hH'
 obtain ⟨hs1, hx1⟩ := step_set (row' := .cells 1 (vy.map D.v)) hs hg _ hw1 (fun hext hobj => by
   have hcellsz : (putCells id off vy.toArray cs).size = cs.size := by simp [putCells]
   refine ⟨hk, _, t, hobj, by rw [hcellsz]; exact hsz, by simpa [hlen] using hfit, Cells_flat.2 ⟨fun d hd => ?_, ?_⟩⟩
   · obtain ⟨x, _, rfl⟩ := List.mem_map.1 hd
     rfl
   · rw [cells_v]
     refine Flat_values.2 ⟨hone, vy, (vrels_v vy).2 rfl, fun i hi => ?_⟩
     have := (hH2 i (by simpa using hi)).1
     rw [← hoff' (by omega), this, List.getElem?_eq_getElem hi, getElem!_pos _ i (by simpa using hi)]; simp) ⟨rfl, rfl, rfl, fun _ => Nat.le_add_right _ _⟩
 obtain ⟨hs2, hx2⟩ := Sim.outlives (own' := own) (X' := X) (w' := grow (Go.Sort.putRow id (Sort.ahead w n) (own r).b off vy.toArray) os) hs1 (fun _ h => h) (fun b hb' => by
   unfold grow
   simp only
   rw [Array.getElem?_append_left hb']) (by unfold grow; simp) ⟨rfl, rfl, rfl, fun _ => Nat.le_refl _⟩
 refine ⟨own, .tup [], _, _, rfl, hs2, ?_, Ext.trans hx1 hx2, rfl, rfl⟩
 rw [Rel, VRel]; exact ⟨[], rfl, by rw [VRels]⟩
end
end Go.T
namespace Go.Pl
open Go.T
section
variable {R S E A α σ : Type}
theorem sel_t {x y : Option R} {b : Bool} (h : b = true) : sel b x y = x := by subst h; rfl
theorem sel_f {x y : Option R} {b : Bool} (h : b = false) : sel b x y = y := by subst h; rfl
theorem zBH {x : Option R} {b : Bool} (h : b = true) : need b x = x := by subst h; rfl
theorem zBI {x : Option A} {a : A} {k : A → Option R} (h : x = some a) : call x k = k a := by subst h; rfl
theorem call_b (a : A) (k : A → Option R) : call (some a) k = k a := rfl
theorem join_l {x : Option (S ⊕ R)} {s : S} {k : S → Option R} (h : x = some (.inl s)) : join x k = k s := by subst h; rfl
theorem join_bl (s : S) (k : S → Option R) : join (some (.inl s)) k = k s := rfl
theorem pick_or (a b : Bool) : zAK a true b = (a || b) := by cases a <;> rfl
theorem pick_and (a b : Bool) : zAK a b false = (a && b) := by cases a <;> rfl
theorem ilt_d (a b : Int) : ilt a b = decide (a < b) := rfl
theorem ile_d (a b : Int) : ile a b = decide (a ≤ b) := rfl
theorem ieq_d (a b : Int) : ieq a b = decide (a = b) := by unfold ieq; by_cases h : a = b <;> simp [h]
theorem ine_d (a b : Int) : ine a b = decide (a ≠ b) := by unfold ine; by_cases h : a = b <;> simp [h]
theorem n2i_c (n : Nat) : n2i n = (n : Int) := rfl
theorem i2n_c (n : Nat) : i2n (n : Int) = n := rfl
theorem llen_c (l : List α) : zAr l = l.length := rfl
theorem inL_d (j : Int) (n : Nat) : inL j n = (decide (0 ≤ j) && decide (j < n)) := rfl
theorem inL_t {i n : Nat} (h : i < n) : inL (i : Int) n = true := by rw [inL_d]; simp; omega
theorem lget_t {d : α} {l : List α} {n : Nat} (h : n < l.length) : zBB d l n = l[n] := by simp [zBB, h]
theorem sel_i (p : Prop) [Decidable p] (x y : Option R) : sel (decide p) x y = if p then x else y := by unfold sel; by_cases h : p <;> simp [h]
theorem need_i (p : Prop) [Decidable p] (x : Option R) : need (decide p) x = if p then x else none := by unfold need; by_cases h : p <;> simp [h]
theorem impl_t {a b : Bool} (h : a = true → b = true) : impl a b = true := by cases a <;> simp_all [impl]
theorem bnot_d (b : Bool) : bnot b = !b := rfl
theorem band_d (a b : Bool) : band a b = (a && b) := rfl
theorem iterN_succ {body : S → Option (S ⊕ E)} : ∀ {n s e}, iterN body n s = some e → iterN body (n + 1) s = some e
 | 0, s, e, h => by cases h
 | n + 1, s, e, h => by
   rw [iterN] at h ⊢
   cases hb : body s with
   | none => rw [hb] at h; cases h
   | some o =>
     rw [hb] at h
     cases o with
     | inl s' => exact iterN_succ h
     | inr e' => exact h
theorem iterN_le {body : S → Option (S ⊕ E)} {n m s e} (hm : n ≤ m) (h : iterN body n s = some e) : iterN body m s = some e := by
 induction hm with
 | refl => exact h
 | step _ ih => exact iterN_succ ih
theorem iter_of {body : S → Option (S ⊕ E)} {n s e} (h : iterN body n s = some e) : iter body s = some e := by
 have hx : ∃ n e, iterN body n s = some e := ⟨n, e, h⟩
 unfold iter
 rw [dif_pos hx]
 have h2 := Classical.choose_spec (Classical.choose_spec hx)
 have a := iterN_le (Nat.le_max_left n (Classical.choose hx)) h
 have b := iterN_le (Nat.le_max_right n (Classical.choose hx)) h2
 rw [a] at b; exact b.symm
theorem iter_r {body : S → Option (S ⊕ E)} {s e} (h : body s = some (.inr e)) : iter body s = some e := iter_of (n := 1) (by rw [iterN, h])
theorem iter_l {body : S → Option (S ⊕ E)} {s s' e} (h : body s = some (.inl s')) (h' : iter body s' = some e) : iter body s = some e := by
 obtain ⟨n, hn⟩ := iter_some h'
 exact iter_of (n := n + 1) (by rw [iterN, h]; exact hn)
def foldE (g : σ → α → σ ⊕ E) (fin : σ → E) : List α → σ → E
 | [], s => fin s
 | a :: l, s => match g s a with | .inl s' => foldE g fin l s' | .inr e => e
theorem iter_for_go (l : List α) (body : S → Option (S ⊕ E)) (en : σ → Int → S) (g : σ → α → σ ⊕ E) (fin : σ → E) (Inv : Nat → σ → Prop)
   (hstep : ∀ (i : Nat) st (h : i < l.length), Inv i st → body (en st i) = some ((g st l[i]).map (fun st' => en st' (i + 1 : Nat)) id) ∧ ∀ st', g st l[i] = .inl st' → Inv (i + 1) st')
   (hend : ∀ st, Inv l.length st → body (en st (l.length : Nat)) = some (.inr (fin st))) :
   ∀ (m i : Nat) st, i + m = l.length → Inv i st → iter body (en st i) = some (foldE g fin (l.drop i) st)
 | 0, i, st, hm, hI => by
   have : i = l.length := by omega
   subst this
   rw [List.drop_length]
   exact iter_r (hend st hI)
 | m + 1, i, st, hm, hI => by
   have hi : i < l.length := by omega
   obtain ⟨h1, h2⟩ := hstep i st hi hI
   rw [List.drop_eq_getElem_cons hi, foldE]
   cases hg : g st l[i] with
   | inl st' =>
     rw [hg] at h1
     exact iter_l h1 (iter_for_go l body en g fin Inv hstep hend m (i + 1) st' (by omega) (h2 st' hg))
   | inr e =>
     rw [hg] at h1
     exact iter_r h1
theorem iter_for (l : List α) {body : S → Option (S ⊕ E)} (en : σ → Int → S) (g : σ → α → σ ⊕ E) (fin : σ → E) (Inv : Nat → σ → Prop) (st : σ) (h0 : Inv 0 st)
   (hstep : ∀ (i : Nat) st (h : i < l.length), Inv i st → body (en st i) = some ((g st l[i]).map (fun st' => en st' (i + 1 : Nat)) id) ∧ ∀ st', g st l[i] = .inl st' → Inv (i + 1) st')
   (hend : ∀ st, Inv l.length st → body (en st (l.length : Nat)) = some (.inr (fin st))) : iter body (en st 0) = some (foldE g fin l st) :=
 iter_for_go l body en g fin Inv hstep hend l.length 0 st (by omega) h0
theorem join_of {x : Option (S ⊕ R)} {o : S ⊕ R} (k : S → Option R) (h : x = some o) : join x k = Sum.elim k some o := by subst h; cases o <;> rfl
end
section
variable {R S S' E : Type}
theorem iter_wf {body : S → Option (S ⊕ E)} (P : S → Prop) (μ : S → Nat) (Q : E → Prop)
   (h : ∀ s, P s → (∃ s', body s = some (.inl s') ∧ P s' ∧ μ s' < μ s) ∨ (∃ e, body s = some (.inr e) ∧ Q e)) :
   ∀ s, P s → ∃ e, iter body s = some e ∧ Q e := by
 intro s
 induction hn : μ s using Nat.strongRecOn generalizing s with
 | _ n ih =>
   intro hP
   rcases h s hP with ⟨s', h1, h2, h3⟩ | ⟨e, h1, h2⟩
   · obtain ⟨e, e1, e2⟩ := ih (μ s') (by omega) s' rfl h2
     exact ⟨e, iter_l h1 e1, e2⟩
   · exact ⟨e, iter_r h1, h2⟩
theorem join_wf {body : S → Option (S ⊕ (S' ⊕ R))} {k : S' → Option R} {G : R → Prop} {s : S} (P : S → Prop) (μ : S → Nat) (Q : S' ⊕ R → Prop) (h0 : P s)
   (h : ∀ s, P s → (∃ s', body s = some (.inl s') ∧ P s' ∧ μ s' < μ s) ∨ (∃ e, body s = some (.inr e) ∧ Q e))
   (hk : ∀ e, Q e → ∃ y, Sum.elim k some e = some y ∧ G y) : ∃ y, join (iter body s) k = some y ∧ G y := by
 obtain ⟨e, e1, e2⟩ := iter_wf P μ Q h s h0
 obtain ⟨y, y1, y2⟩ := hk e e2
 exact ⟨y, (join_of k e1).trans y1, y2⟩
theorem join_to {body : S → Option (S ⊕ (S' ⊕ R))} {k : S' → Option R} {G : R → Prop} {s : S} (n : Nat) (P : Nat → S → Prop) (h0 : P 0 s)
   (h : ∀ i s, i < n → P i s → ∃ s', body s = some (.inl s') ∧ P (i + 1) s')
   (hk : ∀ s, P n s → ∃ s', body s = some (.inr (.inl s')) ∧ ∃ y, k s' = some y ∧ G y) : ∃ y, join (iter body s) k = some y ∧ G y := by
 have key : ∀ m i s, i + m = n → P i s → ∃ e, iter body s = some e ∧ ∃ s', e = .inl s' ∧ ∃ y, k s' = some y ∧ G y := by
   intro m
   induction m with
   | zero =>
     intro i s hi hP
     obtain ⟨s', h1, h2⟩ := hk s (by have : i = n := by omega
                                     subst this; exact hP)
     exact ⟨_, iter_r h1, s', rfl, h2⟩
   | succ m ih =>
     intro i s hi hP
     obtain ⟨s', h1, h2⟩ := h i s (by omega) hP
     obtain ⟨e, h3, h4⟩ := ih (i + 1) s' (by omega) h2
     exact ⟨e, iter_l h1 h3, h4⟩
 obtain ⟨e, h1, s', rfl, y, h2, h3⟩ := key n 0 s (by omega) h0
 exact ⟨y, (join_l h1).trans h2, h3⟩
end
section
variable {V : Type}
abbrev KV (V : Type) := List (Int × V)
def zCu (M : KV V) : List Int := M.map (·.1)
theorem ieq_t (a : Int) : ieq a a = true := by simp [ieq]
theorem ieq_n {a b : Int} (h : a ≠ b) : ieq a b = false := by simp [ieq, h]
theorem put_nil (k : Int) (v : V) : mput ieq [] k v = [(k, v)] := rfl
theorem put_eq (k : Int) (v x : V) (M : KV V) : mput ieq ((k, x) :: M) k v = (k, v) :: M := by simp [mput, mputGo, ieq_t]
theorem put_ne {k j : Int} (h : k ≠ j) (v x : V) (M : KV V) : mput ieq ((j, x) :: M) k v = (j, x) :: mput ieq M k v := by simp [mput, mputGo, ieq_n h]
theorem del_nil (k : Int) : mdel ieq ([] : KV V) k = [] := rfl
theorem del_eq (k : Int) (x : V) (M : KV V) : mdel ieq ((k, x) :: M) k = M := by simp [mdel, ieq_t]
theorem del_ne {k j : Int} (h : k ≠ j) (x : V) (M : KV V) : mdel ieq ((j, x) :: M) k = (j, x) :: mdel ieq M k := by simp [mdel, ieq_n h]
theorem get_nil (d : V) (k : Int) : mget ieq d ([] : KV V) k = d := rfl
theorem get_eq (d : V) (k : Int) (x : V) (M : KV V) : mget ieq d ((k, x) :: M) k = x := by simp [mget, ieq_t]
theorem zDY (d : V) {k j : Int} (h : k ≠ j) (x : V) (M : KV V) : mget ieq d ((j, x) :: M) k = mget ieq d M k := by simp [mget, ieq_n h]
theorem zBx (p : Int × V) (M : KV V) : zCu (p :: M) = p.1 :: zCu M := rfl
theorem keys_put : ∀ (M : KV V) (k : Int) (v : V), zCu (mput ieq M k v) = if k ∈ zCu M then zCu M else zCu M ++ [k]
 | [], k, v => by simp [put_nil, zCu]
 | (j, x) :: M, k, v => by
   by_cases h : k = j
   · subst h; rw [put_eq]; simp [zCu]
   · rw [put_ne h, zBx, keys_put M k v, zBx]
     by_cases h2 : k ∈ zCu M <;> simp [h, h2]
theorem keys_del : ∀ (M : KV V) (k : Int), zCu (mdel ieq M k) = (zCu M).erase k
 | [], k => rfl
 | (j, x) :: M, k => by
   by_cases h : k = j
   · subst h; rw [del_eq, zBx, List.erase_cons_head]
   · rw [del_ne h, zBx, keys_del M k, zBx, List.erase_cons_tail (by simpa using Ne.symm h)]
theorem nodup_put {M : KV V} (h : (zCu M).Nodup) (k : Int) (v : V) : (zCu (mput ieq M k v)).Nodup := by
 rw [keys_put]
 split
 · exact h
 · rename_i h2
   rw [List.nodup_append]
   exact ⟨h, by simp, fun a ha b hb => by simp at hb; subst hb; exact fun e => h2 (e ▸ ha)⟩
theorem nodup_del {M : KV V} (h : (zCu M).Nodup) (k : Int) : (zCu (mdel ieq M k)).Nodup := by rw [keys_del]; exact h.erase k
theorem mem_del {M : KV V} (h : (zCu M).Nodup) (k j : Int) : j ∈ zCu (mdel ieq M k) ↔ j ≠ k ∧ j ∈ zCu M := by rw [keys_del]; exact h.mem_erase_iff
theorem mem_put (M : KV V) (k j : Int) (v : V) : j ∈ zCu (mput ieq M k v) ↔ j = k ∨ j ∈ zCu M := by
 rw [keys_put]
 split
 · rename_i h; exact ⟨.inr, fun h' => by rcases h' with rfl | h' <;> assumption⟩
 · simp [or_comm]
theorem get_out (d : V) : ∀ {M : KV V} {k : Int}, k ∉ zCu M → mget ieq d M k = d
 | [], k, _ => rfl
 | (j, x) :: M, k, h => by
   rw [zBx, List.mem_cons, not_or] at h
   rw [zDY d h.1]; exact get_out d h.2
theorem get_put (d : V) : ∀ (M : KV V) (k j : Int) (v : V), mget ieq d (mput ieq M k v) j = if j = k then v else mget ieq d M j
 | [], k, j, v => by
   rw [put_nil]
   by_cases h : j = k
   · subst h; rw [get_eq, if_pos rfl]
   · rw [zDY d h, if_neg h]
 | (i, x) :: M, k, j, v => by
   by_cases h : k = i
   · subst h; rw [put_eq]
     by_cases h2 : j = k
     · subst h2; rw [get_eq, if_pos rfl]
     · rw [zDY d h2, zDY d h2, if_neg h2]
   · rw [put_ne h]
     by_cases h2 : j = i
     · subst h2; rw [get_eq, get_eq, if_neg (Ne.symm h)]
     · rw [zDY d h2, zDY d h2]; exact get_put d M k j v
theorem get_del (d : V) : ∀ {M : KV V}, (zCu M).Nodup → ∀ (k j : Int), mget ieq d (mdel ieq M k) j = if j = k then d else mget ieq d M j
 | [], _, k, j => by rw [del_nil, get_nil]; simp
 | (i, x) :: M, hn, k, j => by
   rw [zBx, List.nodup_cons] at hn
   by_cases h : k = i
   · subst h; rw [del_eq]
     by_cases h2 : j = k
     · subst h2; rw [if_pos rfl]; exact get_out d hn.1
     · rw [if_neg h2, zDY d h2]
   · rw [del_ne h]
     by_cases h2 : j = i
     · subst h2; rw [get_eq, get_eq, if_neg (Ne.symm h)]
     · rw [zDY d h2, zDY d h2]; exact get_del d hn.2 k j
theorem mem_get (d : V) : ∀ {M : KV V}, (zCu M).Nodup → ∀ (j : Int) (c : V), (j, c) ∈ M ↔ j ∈ zCu M ∧ mget ieq d M j = c
 | [], _, j, c => by simp [zCu]
 | (i, x) :: M, hn, j, c => by
   rw [zBx, List.nodup_cons] at hn
   rw [zBx, List.mem_cons, List.mem_cons]
   by_cases h : j = i
   · subst h
     rw [get_eq]
     constructor
     · rintro (h | h)
       · exact ⟨.inl rfl, (Prod.mk.inj h).2.symm⟩
       · exact absurd (List.mem_map_of_mem (f := (·.1)) h) hn.1
     · rintro ⟨_, rfl⟩; exact .inl rfl
   · rw [zDY d h, mem_get d hn.2 j c]
     constructor
     · rintro (h' | ⟨h1, h2⟩)
       · exact absurd (Prod.mk.inj h').1 h
       · exact ⟨.inr h1, h2⟩
     · rintro ⟨h1 | h1, h2⟩
       · exact absurd h1 h
       · exact .inr ⟨h1, h2⟩
def wsum (g : Int → Int) (M : KV Int) : Int := (M.map fun p => p.2 * g p.1).sum
theorem wsum_nil (g : Int → Int) : wsum g [] = 0 := rfl
theorem zBs (g : Int → Int) (p : Int × Int) (M : KV Int) : wsum g (p :: M) = p.2 * g p.1 + wsum g M := by simp [wsum]
theorem wsum_put (g : Int → Int) : ∀ (M : KV Int) (k v : Int), wsum g (mput ieq M k v) = wsum g M + (v - mget ieq 0 M k) * g k
 | [], k, v => by rw [put_nil, zBs, wsum_nil, get_nil]; simp
 | (j, x) :: M, k, v => by
   by_cases h : k = j
   · subst h; rw [put_eq, zBs, zBs, get_eq, Int.sub_mul]; dsimp only; omega
   · rw [put_ne h, zBs, wsum_put g M k v, zBs, zDY 0 h]; omega
theorem wsum_del (g : Int → Int) : ∀ (M : KV Int) (k : Int), wsum g (mdel ieq M k) = wsum g M - mget ieq 0 M k * g k
 | [], k => by rw [del_nil, wsum_nil, get_nil]; simp
 | (j, x) :: M, k => by
   by_cases h : k = j
   · subst h; rw [del_eq, zBs, get_eq]; dsimp only; omega
   · rw [del_ne h, zBs, wsum_del g M k, zBs, zDY 0 h]; omega
def ksum (f : Int → Nat) (M : KV V) : Nat := ((zCu M).map f).sum
theorem ksum_put (f : Int → Nat) (M : KV V) (k : Int) (v : V) : ksum f (mput ieq M k v) = ksum f M + if k ∈ zCu M then 0 else f k := by
 unfold ksum; rw [keys_put]
 split
 · rfl
 · simp
theorem ksum_del (f : Int → Nat) (M : KV V) (k : Int) : ksum f (mdel ieq M k) + (if k ∈ zCu M then f k else 0) = ksum f M := by
 unfold ksum; rw [keys_del]
 split
 · rename_i h
   have := ((List.perm_cons_erase h).map f).sum_nat
   rw [this, List.map_cons, List.sum_cons]; omega
 · rename_i h; rw [List.erase_of_not_mem h]; rfl
end
end Go.Pl
namespace Go.Q
open Go Go.T Go.Ab Go.Proofs
theorem hmix : Try.prog.follows .mixedOrders = true := by kernel_rfl
end Go.Q
namespace Go.Proofs.Ytfibkbmlgigemaa.AbT
open Go Go.Ab
variable [Go.Ab.DM]
set_option linter.defProp false
theorem ze24 : tzero Try.prog 24 = some (.agg [(.v (.int .i64 0)), (.v (.int .i64 0)), (.v (.int .i64 0)), (.v (.slice none 0 0))]) := by kernel_rfl
theorem al24 {H : Heap} {C : D → Heap → Prop} : aAlloc Try.prog 24 H C = zAf (D.lies (.agg [(.v (.int .i64 0)), (.v (.int .i64 0)), (.v (.int .i64 0)), (.v (.slice none 0 0))]) = true) (C (.pt H.length 0 0) (H ++ [some (.cells (D.width (.agg [(.v (.int .i64 0)), (.v (.int .i64 0)), (.v (.int .i64 0)), (.v (.slice none 0 0))])) [(.agg [(.v (.int .i64 0)), (.v (.int .i64 0)), (.v (.int .i64 0)), (.v (.slice none 0 0))])])])) .mk := alloc_z ze24
theorem ag24 : tag Try.prog 24 = some true := by kernel_rfl
theorem sz24 : tsz Try.prog 24 = some 4 := by kernel_rfl
theorem ldp24 {H : Heap} {r j o : Nat} : ldD Try.prog 24 H (.pt r j o) = ((rowXs (H.get r)).bind fun xs => xs[j]?).bind (zBn true 4 · o) := ld_pt ag24 sz24
theorem ldf24 {H : Heap} {k j o : Nat} {xs : List D} : ldD Try.prog 24 H (.fp k xs j o) = (xs[j]?).bind (zBn true 4 · o) := ldD_fp ag24 sz24
theorem fs24 : fieldsOf Try.prog 24 = some [(0, 1), (1, 1), (2, 1), (3, 1)] := by kernel_rfl
theorem bd24 {ps : List (Nat × D)} {D1 : D → Prop} : aBuild Try.prog 24 ps D1 = okK ((fillD (([(0, 1), (1, 1), (2, 1), (3, 1)] : List (Nat × Nat))[·]?) [(.v (.int .i64 0)), (.v (.int .i64 0)), (.v (.int .i64 0)), (.v (.slice none 0 0))] ps).map .agg) D1 := build_z ze24 fs24
theorem stp24 {H : Heap} {r j o : Nat} {x : D} : stD Try.prog 24 H (.pt r j o) x = stRow H r j true 4 o x (H.get r) := st_pt ag24 sz24
theorem fl24_0 : tfld Try.prog 24 0 = some (0, 3) := by kernel_rfl
theorem sz3 : tsz Try.prog 3 = some 1 := by kernel_rfl
theorem fap24_0 {r i o : Nat} {D1 : D → Prop} : zAe Try.prog 24 (.pt r i o) 0 D1 = D1 (.pt r i (o + 0)) := zDL fl24_0 sz3
theorem faf24_0 {k i o : Nat} {xs : List D} {D1 : D → Prop} : zAe Try.prog 24 (.fp k xs i o) 0 D1 = D1 (.fp k xs i (o + 0)) := zDM fl24_0 sz3
theorem ag3 : tag Try.prog 3 = some false := by kernel_rfl
theorem ldp3 {H : Heap} {r j o : Nat} : ldD Try.prog 3 H (.pt r j o) = ((rowXs (H.get r)).bind fun xs => xs[j]?).bind (zBn false 1 · o) := ld_pt ag3 sz3
theorem ldf3 {H : Heap} {k j o : Nat} {xs : List D} : ldD Try.prog 3 H (.fp k xs j o) = (xs[j]?).bind (zBn false 1 · o) := ldD_fp ag3 sz3
theorem fl24_2 : tfld Try.prog 24 2 = some (2, 3) := by kernel_rfl
theorem fap24_2 {r i o : Nat} {D1 : D → Prop} : zAe Try.prog 24 (.pt r i o) 2 D1 = D1 (.pt r i (o + 2)) := zDL fl24_2 sz3
theorem faf24_2 {k i o : Nat} {xs : List D} {D1 : D → Prop} : zAe Try.prog 24 (.fp k xs i o) 2 D1 = D1 (.fp k xs i (o + 2)) := zDM fl24_2 sz3
theorem fl24_3 : tfld Try.prog 24 3 = some (3, 22) := by kernel_rfl
theorem sz22 : tsz Try.prog 22 = some 1 := by kernel_rfl
theorem fap24_3 {r i o : Nat} {D1 : D → Prop} : zAe Try.prog 24 (.pt r i o) 3 D1 = D1 (.pt r i (o + 3)) := zDL fl24_3 sz22
theorem faf24_3 {k i o : Nat} {xs : List D} {D1 : D → Prop} : zAe Try.prog 24 (.fp k xs i o) 3 D1 = D1 (.fp k xs i (o + 3)) := zDM fl24_3 sz22
theorem ag22 : tag Try.prog 22 = some false := by kernel_rfl
theorem ldp22 {H : Heap} {r j o : Nat} : ldD Try.prog 22 H (.pt r j o) = ((rowXs (H.get r)).bind fun xs => xs[j]?).bind (zBn false 1 · o) := ld_pt ag22 sz22
theorem ldf22 {H : Heap} {k j o : Nat} {xs : List D} : ldD Try.prog 22 H (.fp k xs j o) = (xs[j]?).bind (zBn false 1 · o) := ldD_fp ag22 sz22
theorem un22 : Try.prog.underlying 22 = some (.slice 71) := by kernel_rfl
theorem lef22 {k : Nat} {xs : List D} {D1 : D → Prop} : zAs Try.prog .len #[22] [.fz k xs] D1 = D1 (.v (.int .i64 xs.length)) := len_fz rfl un22
theorem les22 {r j len : Nat} {D1 : D → Prop} : zAs Try.prog .len #[22] [.sl r j len] D1 = D1 (.v (.int .i64 len)) := len_sl rfl un22
theorem len22 {D1 : D → Prop} : zAs Try.prog .len #[22] [.v (.slice none 0 0)] D1 = D1 (.v (.int .i64 0)) := len_nil rfl un22
theorem ldf_22 {H : Heap} {k : Nat} {xs : List D} : lenD Try.prog #[22] H (.fz k xs) = some (.v (.int .i64 xs.length)) := lend_fz un22
theorem lds_22 {H : Heap} {r i m : Nat} : lenD Try.prog #[22] H (.sl r i m) = some (.v (.int .i64 m)) := lend_sl un22
theorem ldc_22 {H : Heap} {r i m c : Nat} : lenD Try.prog #[22] H (.slc r i m c) = some (.v (.int .i64 m)) := lend_slc un22
theorem ldn_22 {H : Heap} : lenD Try.prog #[22] H (.v (.slice none 0 0)) = some (.v (.int .i64 0)) := lend_nil un22
theorem el22 : zBD Try.prog 22 = some 71 := by kernel_rfl
theorem sz71 : tsz Try.prog 71 = some 2 := by kernel_rfl
theorem by71 : tby Try.prog 71 = some 16 := by kernel_rfl
theorem ze71 : tzero Try.prog 71 = some (.agg [(.v (.int .i64 0)), (.v (.int .i64 0))]) := by kernel_rfl
theorem mk22 {k1 k2 : IntKind} {l c : Int} {H : Heap} {C : D → Heap → Prop} : zBk Try.prog 22 (.v (.int k1 l)) (.v (.int k2 c)) H C = zAf (0 ≤ l ∧ l ≤ c ∧ c * (16 : Nat) ≤ 281474976710656 ∧ c ≤ 281474976710656) (orK (C (.slc H.length 0 l.toNat c.toNat) (H ++ [some (.cells 2 (List.replicate c.toNat (.agg [(.v (.int .i64 0)), (.v (.int .i64 0))])))])) (C (.sl H.length 0 l.toNat) (H ++ [some (.cells 2 (List.replicate l.toNat (.agg [(.v (.int .i64 0)), (.v (.int .i64 0))])))])) .mk) .mk := make_z el22 sz71 by71 ze71 rfl rfl
theorem ii22 : isIntT Try.prog 22 = some false := by kernel_rfl
theorem aps22_22 {H : Heap} {r i m : Nat} {x : D} {C : D → Heap → Prop} : zBA Try.prog #[22, 22] [.sl r i m, x] H C = okL (zBR H 2 x.wk) fun ys => okR (H.get r) 2 fun xs => zAf (i + m = xs.length ∧ (m + ys.length) * 16 ≤ 140737488355328) (C (.sl H.length 0 (m + ys.length)) (H.set r none ++ [some (.cells 2 (xs.drop i ++ ys))])) .mk := append_sl rfl rfl el22 sz71 by71 ze71 rfl ii22
theorem apn22_22 {H : Heap} {x : D} {C : D → Heap → Prop} : zBA Try.prog #[22, 22] [.v (.slice none 0 0), x] H C = okL (zBR H 2 x.wk) fun ys => zAf (ys.length * 16 ≤ 140737488355328) (nilK ys (C (.v (.slice none 0 0)) H) (C (.sl H.length 0 ys.length) (H ++ [some (.cells 2 ys)])) .mk) .mk := append_nil rfl rfl el22 sz71 by71 ze71 rfl ii22
theorem apc22_22 {H : Heap} {r i m c : Nat} {x : D} {C : D → Heap → Prop} : zBA Try.prog #[22, 22] [.slc r i m c, x] H C = okL (zBR H 2 x.wk) fun ys => okR (H.get r) 2 fun xs => zAf (m + ys.length ≤ c ∧ i + c ≤ xs.length) (C (.slc r i (m + ys.length) c) (H.set r (some (.cells 2 (zCC xs (i + m) ys))))) .mk := append_slc rfl rfl el22 sz71 ii22
theorem ixs22 {H : Heap} {r j len : Nat} {n : Int} {jk : IntKind} {D1 : D → Prop} : zBL Try.prog 22 H (.sl r j len) (.v (.int jk n)) D1 = zAf (rowK (H.get r) = some 2) (zAf (0 ≤ n ∧ n < len) (D1 (.pt r (j + n.toNat) 0)) .mk) .mk := ix_sl el22 sz71
theorem ixf22 {H : Heap} {xs : List D} {n : Int} {jk : IntKind} {D1 : D → Prop} : zBL Try.prog 22 H (.fz 2 xs) (.v (.int jk n)) D1 = zAf (0 ≤ n ∧ n < xs.length) (D1 (.fp 2 xs n.toNat 0)) .mk := indexAddr_fz el22 sz71
theorem fl71_1 : tfld Try.prog 71 1 = some (1, 3) := by kernel_rfl
theorem fap71_1 {r i o : Nat} {D1 : D → Prop} : zAe Try.prog 71 (.pt r i o) 1 D1 = D1 (.pt r i (o + 1)) := zDL fl71_1 sz3
theorem faf71_1 {k i o : Nat} {xs : List D} {D1 : D → Prop} : zAe Try.prog 71 (.fp k xs i o) 1 D1 = D1 (.fp k xs i (o + 1)) := zDM fl71_1 sz3
theorem stp3 {H : Heap} {r j o : Nat} {x : D} : stD Try.prog 3 H (.pt r j o) x = stRow H r j false 1 o x (H.get r) := st_pt ag3 sz3
theorem fs71 : fieldsOf Try.prog 71 = some [(0, 1), (1, 1)] := by kernel_rfl
theorem bd71 {ps : List (Nat × D)} {D1 : D → Prop} : aBuild Try.prog 71 ps D1 = okK ((fillD (([(0, 1), (1, 1)] : List (Nat × Nat))[·]?) [(.v (.int .i64 0)), (.v (.int .i64 0))] ps).map .agg) D1 := build_z ze71 fs71
theorem zs22 : ((Try.prog.info? 71).bind (·.zero)).isSome = true := by kernel_rfl
theorem bs22 {n : Nat} {ps : List (Nat × D)} {H : Heap} {C : D → Heap → Prop} : zBf Try.prog 22 n ps H C = zAf ((ps.map (·.1) = List.range n) ∧ n * 2 ≤ 16777216 ∧ (ps.all fun p => p.2.width == 2 && p.2.lies) = true) (C (.sl H.length 0 n) (H ++ [some (.cells 2 (ps.map (·.2)))])) .mk := buildSlice_z el22 sz71 zs22
theorem fl24_1 : tfld Try.prog 24 1 = some (1, 3) := by kernel_rfl
theorem fap24_1 {r i o : Nat} {D1 : D → Prop} : zAe Try.prog 24 (.pt r i o) 1 D1 = D1 (.pt r i (o + 1)) := zDL fl24_1 sz3
theorem faf24_1 {k i o : Nat} {xs : List D} {D1 : D → Prop} : zAe Try.prog 24 (.fp k xs i o) 1 D1 = D1 (.fp k xs i (o + 1)) := zDM fl24_1 sz3
theorem tm77 : tmap Try.prog 77 = some (3, 3, (.int .i64)) := by kernel_rfl
theorem mm77 {k : IntKind} {n : Int} {H : Heap} {C : D → Heap → Prop} : aMakeMap Try.prog 77 (some (.v (.int k n))) H C = C (.mp H.length) (H ++ [some (.mp [] 0)]) := makeMap_z (by rw [tm77]; rfl)
theorem el78 : zBD Try.prog 78 = some 3 := by kernel_rfl
theorem by3 : tby Try.prog 3 = some 8 := by kernel_rfl
theorem ze3 : tzero Try.prog 3 = some (.v (.int .i64 0)) := by kernel_rfl
theorem mk78 {k1 k2 : IntKind} {l c : Int} {H : Heap} {C : D → Heap → Prop} : zBk Try.prog 78 (.v (.int k1 l)) (.v (.int k2 c)) H C = zAf (0 ≤ l ∧ l ≤ c ∧ c * (8 : Nat) ≤ 281474976710656 ∧ c ≤ 281474976710656) (orK (C (.slc H.length 0 l.toNat c.toNat) (H ++ [some (.cells 1 (List.replicate c.toNat (.v (.int .i64 0))))])) (C (.sl H.length 0 l.toNat) (H ++ [some (.cells 1 (List.replicate l.toNat (.v (.int .i64 0))))])) .mk) .mk := make_z el78 sz3 by3 ze3 rfl rfl
theorem ze78 : tzero Try.prog 78 = some (.v (.slice none 0 0)) := by kernel_rfl
theorem al78 {H : Heap} {C : D → Heap → Prop} : aAlloc Try.prog 78 H C = zAf (D.lies (.v (.slice none 0 0)) = true) (C (.pt H.length 0 0) (H ++ [some (.cells (D.width (.v (.slice none 0 0))) [(.v (.slice none 0 0))])])) .mk := alloc_z ze78
theorem ag78 : tag Try.prog 78 = some false := by kernel_rfl
theorem sz78 : tsz Try.prog 78 = some 1 := by kernel_rfl
theorem stp78 {H : Heap} {r j o : Nat} {x : D} : stD Try.prog 78 H (.pt r j o) x = stRow H r j false 1 o x (H.get r) := st_pt ag78 sz78
theorem ag71 : tag Try.prog 71 = some true := by kernel_rfl
theorem ldp71 {H : Heap} {r j o : Nat} : ldD Try.prog 71 H (.pt r j o) = ((rowXs (H.get r)).bind fun xs => xs[j]?).bind (zBn true 2 · o) := ld_pt ag71 sz71
theorem ldf71 {H : Heap} {k j o : Nat} {xs : List D} : ldD Try.prog 71 H (.fp k xs j o) = (xs[j]?).bind (zBn true 2 · o) := ldD_fp ag71 sz71
theorem al71 {H : Heap} {C : D → Heap → Prop} : aAlloc Try.prog 71 H C = zAf (D.lies (.agg [(.v (.int .i64 0)), (.v (.int .i64 0))]) = true) (C (.pt H.length 0 0) (H ++ [some (.cells (D.width (.agg [(.v (.int .i64 0)), (.v (.int .i64 0))])) [(.agg [(.v (.int .i64 0)), (.v (.int .i64 0))])])])) .mk := alloc_z ze71
theorem stp71 {H : Heap} {r j o : Nat} {x : D} : stD Try.prog 71 H (.pt r j o) x = stRow H r j true 2 o x (H.get r) := st_pt ag71 sz71
theorem fl71_0 : tfld Try.prog 71 0 = some (0, 3) := by kernel_rfl
theorem fap71_0 {r i o : Nat} {D1 : D → Prop} : zAe Try.prog 71 (.pt r i o) 0 D1 = D1 (.pt r i (o + 0)) := zDL fl71_0 sz3
theorem faf71_0 {k i o : Nat} {xs : List D} {D1 : D → Prop} : zAe Try.prog 71 (.fp k xs i o) 0 D1 = D1 (.fp k xs i (o + 0)) := zDM fl71_0 sz3
theorem mu77 {r : Nat} {kv : Value} {x : D} {H : Heap} {C : D → Heap → Prop} : zBr Try.prog 77 (.mp r) (.v kv) x H C = okM (H.get r) fun es cl => okQ (findD (.int .i64) kv es 0) fun q => C (.v undef) (H.set r (some (.mp (updM es cl kv x q).1 (updM es cl kv x q).2))) := mapUpdate_mp tm77
theorem ldp78 {H : Heap} {r j o : Nat} : ldD Try.prog 78 H (.pt r j o) = ((rowXs (H.get r)).bind fun xs => xs[j]?).bind (zBn false 1 · o) := ld_pt ag78 sz78
theorem ldf78 {H : Heap} {k j o : Nat} {xs : List D} : ldD Try.prog 78 H (.fp k xs j o) = (xs[j]?).bind (zBn false 1 · o) := ldD_fp ag78 sz78
theorem zs78 : ((Try.prog.info? 3).bind (·.zero)).isSome = true := by kernel_rfl
theorem bs78 {n : Nat} {ps : List (Nat × D)} {H : Heap} {C : D → Heap → Prop} : zBf Try.prog 78 n ps H C = zAf ((ps.map (·.1) = List.range n) ∧ n * 1 ≤ 16777216 ∧ (ps.all fun p => p.2.width == 1 && p.2.lies) = true) (C (.sl H.length 0 n) (H ++ [some (.cells 1 (ps.map (·.2)))])) .mk := buildSlice_z el78 sz3 zs78
theorem ii78 : isIntT Try.prog 78 = some false := by kernel_rfl
theorem aps78_78 {H : Heap} {r i m : Nat} {x : D} {C : D → Heap → Prop} : zBA Try.prog #[78, 78] [.sl r i m, x] H C = okL (zBR H 1 x.wk) fun ys => okR (H.get r) 1 fun xs => zAf (i + m = xs.length ∧ (m + ys.length) * 8 ≤ 140737488355328) (C (.sl H.length 0 (m + ys.length)) (H.set r none ++ [some (.cells 1 (xs.drop i ++ ys))])) .mk := append_sl rfl rfl el78 sz3 by3 ze3 rfl ii78
theorem apn78_78 {H : Heap} {x : D} {C : D → Heap → Prop} : zBA Try.prog #[78, 78] [.v (.slice none 0 0), x] H C = okL (zBR H 1 x.wk) fun ys => zAf (ys.length * 8 ≤ 140737488355328) (nilK ys (C (.v (.slice none 0 0)) H) (C (.sl H.length 0 ys.length) (H ++ [some (.cells 1 ys)])) .mk) .mk := append_nil rfl rfl el78 sz3 by3 ze3 rfl ii78
theorem apc78_78 {H : Heap} {r i m c : Nat} {x : D} {C : D → Heap → Prop} : zBA Try.prog #[78, 78] [.slc r i m c, x] H C = okL (zBR H 1 x.wk) fun ys => okR (H.get r) 1 fun xs => zAf (m + ys.length ≤ c ∧ i + c ≤ xs.length) (C (.slc r i (m + ys.length) c) (H.set r (some (.cells 1 (zCC xs (i + m) ys))))) .mk := append_slc rfl rfl el78 sz3 ii78
theorem if80 : isIface Try.prog 80 = some false := by kernel_rfl
theorem mi80 {x : D} {D1 : D → Prop} : zCN Try.prog 80 x D1 = D1 (.ifc 80 x) := by have h := if80; unfold isIface at h; unfold zCN; split <;> simp_all
theorem if3 : isIface Try.prog 3 = some false := by kernel_rfl
theorem as3 {ok : Bool} {d : D} {D1 : D → Prop} : aAssert Try.prog (.ifc 3 d) 3 ok D1 = okK (some (if ok then .tup [d, .v (.bool true)] else d)) D1 := assert_hit if3
theorem lk77 {r : Nat} {kv : Value} {ok : Bool} {H : Heap} {D1 : D → Prop} : okK (lkD Try.prog 77 H (.mp r) (.v kv) ok) D1 = okM (H.get r) fun es _ => okQ (findD (.int .i64) kv es 0) fun q => okK (getM es q (.v (.int .i64 0)) ok) D1 := lk_mp tm77 ze3
theorem dl77 {H : Heap} {r : Nat} {kv : Value} {C : D → Heap → Prop} : aDeleteL Try.prog #[77, 3] [.mp r, .v kv] H C = okM (H.get r) fun es cl => okQ (findD (.int .i64) kv es 0) fun q => C (.tup []) (H.set r (some (.mp (delM es q) cl))) := delete_mp rfl tm77
theorem mi3 {x : D} {D1 : D → Prop} : zCN Try.prog 3 x D1 = D1 (.ifc 3 x) := by have h := if3; unfold isIface at h; unfold zCN; split <;> simp_all
theorem un77 : Try.prog.underlying 77 = some (.map 3 3) := by kernel_rfl
theorem ldm_77 {H : Heap} {r : Nat} : lenD Try.prog #[77] H (.mp r) = lenRow (H.get r) := lend_mp un77
theorem rg77 {r : Nat} {H : Heap} {C : D → Heap → Prop} : aRange Try.prog 77 (.mp r) H C = okM (H.get r) fun es cl => C (.pt H.length 0 0) (H ++ [some (.it r cl [] cl)]) := range_mp un77
theorem un3 : Try.prog.underlying 3 = some (.int .i64) := by kernel_rfl
theorem un102 : Try.prog.underlying 102 = some (.int .u64) := by kernel_rfl
theorem cv3_102 {H : Heap} {m : Int} {D1 : D → Prop} : aConvL Try.prog 3 102 H (.v (.int .i64 m)) D1 = D1 (.v (.int .u64 (IntKind.wrap .u64 m))) := conv_int un3 un102
theorem cv102_3 {H : Heap} {m : Int} {D1 : D → Prop} : aConvL Try.prog 102 3 H (.v (.int .u64 m)) D1 = D1 (.v (.int .i64 (IntKind.wrap .i64 m))) := conv_int un102 un3
theorem sls22 {H : Heap} {r j len : Nat} {lo hi : Option D} {D1 : D → Prop} {tg : Tag (zAg Try.prog 22 (.sl r j len) lo hi none D1) (zAg Try.prog 22 (.sl r j len) lo hi none D1)} : zAf (zBP Try.prog 22 H (.sl r j len)) (zAg Try.prog 22 (.sl r j len) lo hi none D1) tg = zAf (rowK (H.get r) = some 2) (okZ (zAS (.v (.int .i64 0)) lo) fun l => okZ (zAS (.v (.int .i64 len)) hi) fun h => zAf (0 ≤ l ∧ l ≤ h ∧ h ≤ len) (D1 (.sl r (j + l.toNat) (h.toNat - l.toNat))) .mk) .mk := slice_sl un22 sz71
theorem slf22 {H : Heap} {xs : List D} {lo hi : Option D} {D1 : D → Prop} {tg : Tag (zAg Try.prog 22 (.fz 2 xs) lo hi none D1) (zAg Try.prog 22 (.fz 2 xs) lo hi none D1)} : zAf (zBP Try.prog 22 H (.fz 2 xs)) (zAg Try.prog 22 (.fz 2 xs) lo hi none D1) tg = okZ (zAS (.v (.int .i64 0)) lo) fun l => okZ (zAS (.v (.int .i64 xs.length)) hi) fun h => zAf (0 ≤ l ∧ l ≤ h ∧ h ≤ xs.length) (D1 (.fz 2 ((xs.drop l.toNat).take (h.toNat - l.toNat)))) .mk := slice_fz un22 sz71
theorem sln22 {H : Heap}  {lo hi : Option D} {D1 : D → Prop} {tg : Tag (zAg Try.prog 22 (.v (.slice none 0 0)) lo hi none D1) (zAg Try.prog 22 (.v (.slice none 0 0)) lo hi none D1)} : zAf (zBP Try.prog 22 H (.v (.slice none 0 0))) (zAg Try.prog 22 (.v (.slice none 0 0)) lo hi none D1) tg = okZ (zAS (.v (.int .i64 0)) lo) fun l => okZ (zAS (.v (.int .i64 0)) hi) fun h => zAf (l = 0 ∧ h = 0) (D1 (.v (.slice none 0 0))) .mk := slice_nil un22 sz71
theorem slc22 {H : Heap} {r i m c : Nat} {lo hi : Option D} {D1 : D → Prop} : zCl Try.prog 22 H (.slc r i m c) lo hi none D1 = zAf (rowK (H.get r) = some 2) (okZ (zAS (.v (.int .i64 0)) lo) fun l => okZ (zAS (.v (.int .i64 m)) hi) fun h => zAf (0 ≤ l ∧ l ≤ h ∧ h ≤ c) (D1 (.slc r (i + l.toNat) (h.toNat - l.toNat) (c - l.toNat))) .mk) .mk := slice_slc el22 sz71
theorem cp22 {r i m c : Nat} {D1 : D → Prop} : zAs Try.prog .cap #[22] [.slc r i m c] D1 = D1 (.v (.int .i64 c)) := cap_slc rfl un22
theorem cys22_22 {H : Heap} {r i m : Nat} {x : D} {C : D → Heap → Prop} : aCopyL Try.prog #[22, 22] [.sl r i m, x] H C = okL (zBR H 2 x.wk) fun ys => okR (H.get r) 2 fun xs => zAf (i + m ≤ xs.length) (C (.v (.int .i64 (min ys.length m : Nat))) (H.set r (some (.cells 2 (zCC xs i (ys.take (min ys.length m))))))) .mk := copy_sl rfl el22 sz71 rfl
theorem cyc22_22 {H : Heap} {r i m c : Nat} {x : D} {C : D → Heap → Prop} : aCopyL Try.prog #[22, 22] [.slc r i m c, x] H C = okL (zBR H 2 x.wk) fun ys => okR (H.get r) 2 fun xs => zAf (i + m ≤ xs.length) (C (.v (.int .i64 (min ys.length m : Nat))) (H.set r (some (.cells 2 (zCC xs i (ys.take (min ys.length m))))))) .mk := copy_sl rfl el22 sz71 rfl
theorem un78 : Try.prog.underlying 78 = some (.slice 3) := by kernel_rfl
theorem lef78 {k : Nat} {xs : List D} {D1 : D → Prop} : zAs Try.prog .len #[78] [.fz k xs] D1 = D1 (.v (.int .i64 xs.length)) := len_fz rfl un78
theorem les78 {r j len : Nat} {D1 : D → Prop} : zAs Try.prog .len #[78] [.sl r j len] D1 = D1 (.v (.int .i64 len)) := len_sl rfl un78
theorem len78 {D1 : D → Prop} : zAs Try.prog .len #[78] [.v (.slice none 0 0)] D1 = D1 (.v (.int .i64 0)) := len_nil rfl un78
theorem ldf_78 {H : Heap} {k : Nat} {xs : List D} : lenD Try.prog #[78] H (.fz k xs) = some (.v (.int .i64 xs.length)) := lend_fz un78
theorem lds_78 {H : Heap} {r i m : Nat} : lenD Try.prog #[78] H (.sl r i m) = some (.v (.int .i64 m)) := lend_sl un78
theorem ldc_78 {H : Heap} {r i m c : Nat} : lenD Try.prog #[78] H (.slc r i m c) = some (.v (.int .i64 m)) := lend_slc un78
theorem ldn_78 {H : Heap} : lenD Try.prog #[78] H (.v (.slice none 0 0)) = some (.v (.int .i64 0)) := lend_nil un78
theorem nils22 {r i m : Nat} {D1 : D → Prop} : aBinE Try.prog .eql 22 (.sl r i m) (.v (.slice none 0 0)) D1 = D1 (.v (.bool false)) := nil_sl el22
theorem nilc22 {r i m c : Nat} {D1 : D → Prop} : aBinE Try.prog .eql 22 (.slc r i m c) (.v (.slice none 0 0)) D1 = D1 (.v (.bool false)) := nil_slc el22
theorem niln22 {D1 : D → Prop} : aBinE Try.prog .eql 22 (.v (.slice none 0 0)) (.v (.slice none 0 0)) D1 = D1 (.v (.bool true)) := nil_nil el22
theorem nilf22 {k : Nat} {xs : List D} {D1 : D → Prop} : aBinE Try.prog .eql 22 (.fz k xs) (.v (.slice none 0 0)) D1 = allK (fun b => b = true → xs = []) (fun b => D1 (.v (.bool b))) .mk := nil_fz el22
theorem ixs78 {H : Heap} {r j len : Nat} {n : Int} {jk : IntKind} {D1 : D → Prop} : zBL Try.prog 78 H (.sl r j len) (.v (.int jk n)) D1 = zAf (rowK (H.get r) = some 1) (zAf (0 ≤ n ∧ n < len) (D1 (.pt r (j + n.toNat) 0)) .mk) .mk := ix_sl el78 sz3
theorem ixf78 {H : Heap} {xs : List D} {n : Int} {jk : IntKind} {D1 : D → Prop} : zBL Try.prog 78 H (.fz 1 xs) (.v (.int jk n)) D1 = zAf (0 ≤ n ∧ n < xs.length) (D1 (.fp 1 xs n.toNat 0)) .mk := indexAddr_fz el78 sz3
theorem sls78 {H : Heap} {r j len : Nat} {lo hi : Option D} {D1 : D → Prop} {tg : Tag (zAg Try.prog 78 (.sl r j len) lo hi none D1) (zAg Try.prog 78 (.sl r j len) lo hi none D1)} : zAf (zBP Try.prog 78 H (.sl r j len)) (zAg Try.prog 78 (.sl r j len) lo hi none D1) tg = zAf (rowK (H.get r) = some 1) (okZ (zAS (.v (.int .i64 0)) lo) fun l => okZ (zAS (.v (.int .i64 len)) hi) fun h => zAf (0 ≤ l ∧ l ≤ h ∧ h ≤ len) (D1 (.sl r (j + l.toNat) (h.toNat - l.toNat))) .mk) .mk := slice_sl un78 sz3
theorem slf78 {H : Heap} {xs : List D} {lo hi : Option D} {D1 : D → Prop} {tg : Tag (zAg Try.prog 78 (.fz 1 xs) lo hi none D1) (zAg Try.prog 78 (.fz 1 xs) lo hi none D1)} : zAf (zBP Try.prog 78 H (.fz 1 xs)) (zAg Try.prog 78 (.fz 1 xs) lo hi none D1) tg = okZ (zAS (.v (.int .i64 0)) lo) fun l => okZ (zAS (.v (.int .i64 xs.length)) hi) fun h => zAf (0 ≤ l ∧ l ≤ h ∧ h ≤ xs.length) (D1 (.fz 1 ((xs.drop l.toNat).take (h.toNat - l.toNat)))) .mk := slice_fz un78 sz3
theorem sln78 {H : Heap}  {lo hi : Option D} {D1 : D → Prop} {tg : Tag (zAg Try.prog 78 (.v (.slice none 0 0)) lo hi none D1) (zAg Try.prog 78 (.v (.slice none 0 0)) lo hi none D1)} : zAf (zBP Try.prog 78 H (.v (.slice none 0 0))) (zAg Try.prog 78 (.v (.slice none 0 0)) lo hi none D1) tg = okZ (zAS (.v (.int .i64 0)) lo) fun l => okZ (zAS (.v (.int .i64 0)) hi) fun h => zAf (l = 0 ∧ h = 0) (D1 (.v (.slice none 0 0))) .mk := slice_nil un78 sz3
theorem slc78 {H : Heap} {r i m c : Nat} {lo hi : Option D} {D1 : D → Prop} : zCl Try.prog 78 H (.slc r i m c) lo hi none D1 = zAf (rowK (H.get r) = some 1) (okZ (zAS (.v (.int .i64 0)) lo) fun l => okZ (zAS (.v (.int .i64 m)) hi) fun h => zAf (0 ≤ l ∧ l ≤ h ∧ h ≤ c) (D1 (.slc r (i + l.toNat) (h.toNat - l.toNat) (c - l.toNat))) .mk) .mk := slice_slc el78 sz3
theorem me80_Len : methOf Try.prog 80 "Len" = some (47, (some 78)) := by kernel_rfl
theorem inW80_Len {d : D} {args : List D} {H : Heap} {C : D → Heap → Prop} : aInvW Try.prog (.ifc 80 d) "Len" args H C = okK (ldD Try.prog 78 H d) fun y => invS Try.prog 47 (y :: args) H C := invW_v me80_Len
theorem inK80_Len {d : D} {args : List D} {H : Heap} {C : D → Heap → Prop} : aInvK Try.prog (.ifc 80 d) "Len" args H C = okK (ldD Try.prog 78 H d) fun y => invSK Try.prog 47 (y :: args) H C := invK_v me80_Len
theorem me80_Less : methOf Try.prog 80 "Less" = some (151, (some 78)) := by kernel_rfl
theorem inW80_Less {d : D} {args : List D} {H : Heap} {C : D → Heap → Prop} : aInvW Try.prog (.ifc 80 d) "Less" args H C = okK (ldD Try.prog 78 H d) fun y => invS Try.prog 151 (y :: args) H C := invW_v me80_Less
theorem inK80_Less {d : D} {args : List D} {H : Heap} {C : D → Heap → Prop} : aInvK Try.prog (.ifc 80 d) "Less" args H C = okK (ldD Try.prog 78 H d) fun y => invSK Try.prog 151 (y :: args) H C := invK_v me80_Less
theorem me80_Pop : methOf Try.prog 80 "Pop" = some (153, none) := by kernel_rfl
theorem inW80_Pop {d : D} {args : List D} {H : Heap} {C : D → Heap → Prop} : aInvW Try.prog (.ifc 80 d) "Pop" args H C = invS Try.prog 153 (d :: args) H C := invW_p me80_Pop
theorem inK80_Pop {d : D} {args : List D} {H : Heap} {C : D → Heap → Prop} : aInvK Try.prog (.ifc 80 d) "Pop" args H C = invSK Try.prog 153 (d :: args) H C := invK_p me80_Pop
theorem me80_Push : methOf Try.prog 80 "Push" = some (154, none) := by kernel_rfl
theorem inW80_Push {d : D} {args : List D} {H : Heap} {C : D → Heap → Prop} : aInvW Try.prog (.ifc 80 d) "Push" args H C = invS Try.prog 154 (d :: args) H C := invW_p me80_Push
theorem inK80_Push {d : D} {args : List D} {H : Heap} {C : D → Heap → Prop} : aInvK Try.prog (.ifc 80 d) "Push" args H C = invSK Try.prog 154 (d :: args) H C := invK_p me80_Push
theorem me80_Swap : methOf Try.prog 80 "Swap" = some (152, (some 78)) := by kernel_rfl
theorem inW80_Swap {d : D} {args : List D} {H : Heap} {C : D → Heap → Prop} : aInvW Try.prog (.ifc 80 d) "Swap" args H C = okK (ldD Try.prog 78 H d) fun y => invS Try.prog 152 (y :: args) H C := invW_v me80_Swap
theorem inK80_Swap {d : D} {args : List D} {H : Heap} {C : D → Heap → Prop} : aInvK Try.prog (.ifc 80 d) "Swap" args H C = okK (ldD Try.prog 78 H d) fun y => invSK Try.prog 152 (y :: args) H C := invK_v me80_Swap
def TY0 := (And.intro (And.intro (And.intro (And.intro (And.intro @al24 @ldp24) (And.intro @ldf24 (And.intro @bd24 @stp24))) (And.intro (And.intro @fap24_0 @faf24_0) (And.intro @ldp3 (And.intro @ldf3 @fap24_2)))) (And.intro (And.intro (And.intro @faf24_2 @fap24_3) (And.intro @faf24_3 (And.intro @ldp22 @ldf22))) (And.intro (And.intro @lef22 @les22) (And.intro @len22 (And.intro @ldf_22 @lds_22))))) (And.intro (And.intro (And.intro (And.intro @ldc_22 @ldn_22) (And.intro @mk22 (And.intro @aps22_22 @apn22_22))) (And.intro (And.intro @apc22_22 @ixs22) (And.intro @ixf22 (And.intro @fap71_1 @faf71_1)))) (And.intro (And.intro (And.intro @stp3 @bd71) (And.intro @bs22 (And.intro @fap24_1 @faf24_1))) (And.intro (And.intro @mm77 @mk78) (And.intro @al78 (And.intro @stp78 @ldp71))))))
def TY1 := (And.intro (And.intro (And.intro (And.intro (And.intro @ldf71 @al71) (And.intro @stp71 (And.intro @fap71_0 @faf71_0))) (And.intro (And.intro @mu77 @ldp78) (And.intro @ldf78 (And.intro @bs78 @aps78_78)))) (And.intro (And.intro (And.intro @apn78_78 @apc78_78) (And.intro @mi80 (And.intro @as3 @lk77))) (And.intro (And.intro @dl77 @mi3) (And.intro @ldm_77 (And.intro @rg77 @cv3_102))))) (And.intro (And.intro (And.intro (And.intro @cv102_3 @sls22) (And.intro @slf22 (And.intro @sln22 @slc22))) (And.intro (And.intro @cp22 @cys22_22) (And.intro @cyc22_22 (And.intro @lef78 @les78)))) (And.intro (And.intro (And.intro @len78 @ldf_78) (And.intro @lds_78 (And.intro @ldc_78 @ldn_78))) (And.intro (And.intro @nils22 @nilc22) (And.intro @niln22 (And.intro @nilf22 @ixs78))))))
def TY2 := (And.intro (And.intro (And.intro @ixf78 (And.intro @sls78 @slf78)) (And.intro (And.intro @sln78 @slc78) (And.intro @inW80_Len @inK80_Len))) (And.intro (And.intro (And.intro @inW80_Less @inK80_Less) (And.intro @inW80_Pop @inK80_Pop)) (And.intro (And.intro @inW80_Push @inK80_Push) (And.intro @inW80_Swap @inK80_Swap))))
def TY := (And.intro TY0 (And.intro TY1 TY2))
theorem mixed : Try.prog.follows .mixedOrders = true := by kernel_rfl
end Go.Proofs.Ytfibkbmlgigemaa.AbT
namespace Go.Proofs.Qd
open Go Go.Ab
abbrev iD (n : Int) : D := .v (.int .i64 n)
def zBF (n : Int × Int) : D := .agg [iD n.1, iD n.2]
theorem zAp {x : Int} (h1 : -9223372036854775808 ≤ x) (h2 : x < 9223372036854775808) : IntKind.i64.wrap x = x := by
 have e : IntKind.i64.wrap x = (if x % 18446744073709551616 ≥ 9223372036854775808 then x % 18446744073709551616 - 18446744073709551616 else x % 18446744073709551616) := by
   simp [IntKind.wrap, IntKind.bits, IntKind.signed]
 rw [e]
 split
 · rename_i h; omega
 · rename_i h; omega
def shl (a bits : Int) : Int := IntKind.i64.wrap (a * 2 ^ min bits.toNat IntKind.i64.bits)
def thr (count k : Int) : Int := IntKind.i64.wrap (count.tdiv k)
def chk (bits count th : Int) : List (Int × Int) → Int → Int → Option Int
 | [], _, sum => some sum
 | n :: r, before, sum =>
   if n.1 ≤ before ∨ shl 2 bits ≤ n.1 ∨ n.2 < 1 ∨ count < n.2 then none
   else if n.1 < shl 1 bits ∧ th < n.2 then none
   else chk bits count th r n.1 (sum + n.2)
def zBg (bits k count : Int) (nodes : List (Int × Int)) : Int :=
 if bits < 1 ∨ 20 < bits ∨ k < 1 ∨ 10000 < k then 1
 else if count < 0 ∨ 1099511627776 < count ∨ (2000 : Int) < nodes.length then 1
 else match chk bits count (thr count k) nodes 0 0 with
   | some s => if s ≠ count then 1 else 0
   | none => 1
theorem map_get {l : List (Int × Int)} {i : Nat} (h : i < l.length) : (l.map zBF)[((i : Nat) : Int).toNat]? = some (.agg [iD l[i].1, iD l[i].2]) := by
 simp [zBF, h]
end Go.Proofs.Qd
