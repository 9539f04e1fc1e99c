/- Part 7 of what the claim leans on: FP5, FP6, FP7, FP8, FP9, FP10. -/
import Derived.Test.YtbhcfbnkdbioaaaM6
import Derived.Calls
import Derived.KernelRfl
import Derived.Orders
import Derived.Laws.Sem
import Derived.Laws.CopyRow
import Derived.Laws.Cells
import Derived.Room.Entries
import Derived.Lib.Overlaps
import GoSem.Conv.BytesToString
import Derived.OrdersHeld
import Derived.ProofKit
import Derived.OpenShut
import Derived.Carry
import Derived.Shelf.SlSortCmp.InsertionK
import Derived.Test.YtbhcfbnkdbioaaaProg
import Derived.Sort.Walk0
import Derived.Shelf.SlIter.Nil
import Derived.Shelf.SortM.Plain
import Derived.Shelf.SortM.SortNone
import Derived.Ground.GgzProg
import Derived.Ground.SlgmProg
import Derived.Shelf.SlSortCmp.WholeK
import Derived.Ground.SlsfProg
set_option linter.unusedVariables false
set_option linter.unusedSimpArgs false
set_option linter.unusedSectionVars false
set_option maxRecDepth 100000
namespace Go.Fl
open Go Go.T Go.Pl
noncomputable def b59 (x:((List (Int × (ByteArray × Int))) × (Int × Int))):Int → Option (Int ⊕ (Int ⊕ Bool)) :=
(fun (s0:Int) =>
sel (ilt x.2.1 s0) (need (inL s0 (zAL x.1)) <|
some (.inl ((zAJ (0,(⟨#[]⟩:ByteArray),0) x.1 (i2n s0)).1))) <|
some (.inr (.inl s0)))
noncomputable def b60 (x:((List (Int × (ByteArray × Int))) × Int)):Int → Option (Int ⊕ (PUnit ⊕ Int)) :=
(fun (s0:Int) =>
need (inL x.2 (zAL x.1)) <|
sel (ilt ((zAJ (0,(⟨#[]⟩:ByteArray),0) x.1 (i2n x.2)).1) s0) (need (inL s0 (zAL x.1)) <|
need (inL x.2 (zAL x.1)) <|
sel (ieq ((zAJ (0,(⟨#[]⟩:ByteArray),0) x.1 (i2n s0)).1) ((zAJ (0,(⟨#[]⟩:ByteArray),0) x.1 (i2n x.2)).1)) (some (.inr (.inr s0))) <|
some (.inl (isub .i64 s0 1))) <|
some (.inr (.inl ())))
noncomputable def b61 (x:((List (Int × (ByteArray × Int))) × Int)):(Int × Int) → Option ((Int × Int) ⊕ (Int ⊕ Int)) :=
(fun (s0:(Int × Int)) =>
need (inL s0.1 (zAL x.1)) <|
sel (ile 0 ((zAJ (0,(⟨#[]⟩:ByteArray),0) x.1 (i2n s0.1)).1)) (need (inL s0.1 (zAL x.1)) <|
some (.inl ((zAJ (0,(⟨#[]⟩:ByteArray),0) x.1 (i2n s0.1)).1,zBo .i64 s0.2 1))) <|
some (.inr (.inl s0.2)))
noncomputable def b28 (x:(List (Int × (ByteArray × Int)))):Int → Option (Int ⊕ (PUnit ⊕ Int)) :=
(fun (s0:Int) =>
sel (ilt s0 (n2i (zAL x))) (call (F49 (x,s0)) fun (r1:Int) =>
sel (ine r1 0) (some (.inr (.inr r1))) <|
some (.inl (zBo .i64 s0 1))) <|
some (.inr (.inl ())))
noncomputable def b27 (x:(List (Int × (ByteArray × Int)))):Int → Option (Int ⊕ (PUnit ⊕ Bool)) :=
(fun (s0:Int) =>
sel (ilt s0 (n2i (zAL x))) (need (inL s0 (zAL x)) <|
sel (ilt 61 (n2i (ssize (((zAJ (0,(⟨#[]⟩:ByteArray),0) x (i2n s0)).2).1)))) (some (.inr (.inr true))) <|
some (.inl (zBo .i64 s0 1))) <|
some (.inr (.inl ())))
theorem F59_def (x:List FN × Int × Int):F59 x = join (zCv (b59 x) x.2.2) fun j1=>some (ieq j1 x.2.1):=rfl
theorem F60_def (x:List FN × Int):F60 x = join (zCv (b60 x) (isub .i64 x.2 1)) fun j1=>some (-1):=rfl
theorem F61_def (x:List FN × Int):F61 x = join (zCv (b61 x) (x.2,0)) fun j1=>some j1:=rfl
theorem F28_def (x:List FN):F28 x = sel (ilt 2000 (n2i (zAL x))) (some 4) (join (zCv (b28 x) 0) fun j1=>some 0):=rfl
theorem F27_def (x:List FN):F27 x = join (zCv (b27 x) 0) fun j1=>some (ilt 70 (n2i (zAL x))):=rfl
inductive UpTo (a:List FN) (q:Int):Int → Int → Prop
 | stop {s:Int}:s ≤ q → UpTo a q s s
 | step {k:Nat} {v:FN} {r:Int}:q < (k:Int) → a[k]? = some v → UpTo a q v.1 r → UpTo a q k r
inductive Dep (a:List FN):Nat → Nat → Prop
 | root {k:Nat} {v:FN}:a[k]? = some v → v.1 < 0 → Dep a k 0
 | step {k j d:Nat} {v:FN}:a[k]? = some v → v.1 = (j:Int) → Dep a j d → Dep a k (d + 1)
def Dec (a:List FN) (i:Nat):Prop:=∀ (j:Nat) (v:FN),j < i → a[j]? = some v → -1 ≤ v.1 ∧ v.1 < (j:Int)
theorem up_ex {a:List FN} {q:Int} (hq:-1 ≤ q):∀ (m:Nat) (s:Int),s < m → s < a.length → Dec a m → ∃ r,UpTo a q s r:=by
 intro m
 induction m with
 | zero=>intro s h1 h2 h3;exact ⟨s,.stop (by omega)⟩
 | succ m ih =>
   intro s h1 h2 h3
   by_cases h:s ≤ q
   · exact ⟨s,.stop h⟩
   · obtain ⟨k,rfl⟩:=Int.eq_ofNat_of_zero_le (show 0 ≤ s by omega)
     have hk:k < a.length:=by omega
     have hv:=h3 k a[k] (by omega) (List.getElem?_eq_getElem hk)
     obtain ⟨r,hr⟩:=ih a[k].1 (by omega) (by omega) fun j v hj hv=>h3 j v (by omega) hv
     exact ⟨r,.step (by omega) (List.getElem?_eq_getElem hk) hr⟩
theorem up_iter {a:List FN} {q:Int} {z:Int} {s r:Int} (h:UpTo a q s r):zCv (b59 (a,q,z)) s = some (.inl r):=by
 induction h with
 | stop h =>
   refine iter_r ?_
   unfold b59
   dsimp only
   rw [zBy,zBU (decide_eq_false (by omega))]
 | step h1 h2 h3 ih =>
   refine iter_l ?_ ih
   unfold b59
   dsimp only
   rw [zBy,zCA (decide_eq_true h1),zAY (zDA (At.lt h2)),zCz h2]
theorem F59_eq {a:List FN} {q s r:Int} (h:UpTo a q s r):F59 (a,q,s) = some (decide (r = q)):=by
 rw [F59_def,join_l (up_iter h),ieq_d]
theorem isubI {a b:Int} (h1:-9223372036854775808 ≤ a - b) (h2:a - b < 9223372036854775808):isub .i64 a b = a - b:=zBX h1 h2
def Sib (a:List FN) (par:Int) (s:Int) (r:Int):Prop:=(r = -1 ∧ ∀ (j:Nat) (v:FN),par < (j:Int) → (j:Int) ≤ s → a[j]? = some v → v.1 ≠ par) ∨ ∃ (k:Nat) (v:FN),r = (k:Int) ∧ a[k]? = some v ∧ v.1 = par ∧ par < (k:Int) ∧ (k:Int) ≤ s ∧ ∀ (j:Nat) (w:FN),(k:Int) < (j:Int) → (j:Int) ≤ s → a[j]? = some w → w.1 ≠ par
theorem F60_eq {a:List FN} {i:Nat} {par:Int} {n:Nm} {w:Int} (hi:a[i]? = some (par,n,w)) (ha:a.length ≤ 2000) (hp:-1 ≤ par) (hpi:par < i):∃ r,F60 (a,(i:Int)) = some r ∧ Sib a par ((i:Int) - 1) r:=by
 have hil:=At.lt hi
 have key:∀ (m:Nat) (s:Int),s = par + m → s < i → ∃ e,zCv (b60 (a,(i:Int))) s = some e ∧ ((e = .inl () ∧ ∀ (j:Nat) (v:FN),par < (j:Int) → (j:Int) ≤ s → a[j]? = some v → v.1 ≠ par) ∨ ∃ (k:Nat) (v:FN),e = .inr (k:Int) ∧ a[k]? = some v ∧ v.1 = par ∧ par < (k:Int) ∧ (k:Int) ≤ s ∧ ∀ (j:Nat) (w:FN),(k:Int) < (j:Int) → (j:Int) ≤ s → a[j]? = some w → w.1 ≠ par):=by
   intro m
   induction m with
   | zero =>
     intro s hs hsi
     refine ⟨.inl (),iter_r ?_,.inl ⟨rfl,fun j v h1 h2=>by omega⟩⟩
     unfold b60
     dsimp only
     rw [zAY (zDA hil),zCz hi,zBy,zBU (decide_eq_false (by omega))]
   | succ m ih =>
     intro s hs hsi
     obtain ⟨k,rfl⟩:=Int.eq_ofNat_of_zero_le (show 0 ≤ s by omega)
     have hk:k < a.length:=by omega
     have hk2:a[k]? = some a[k]:=List.getElem?_eq_getElem hk
     have hb:b60 (a,(i:Int)) (k:Int) = if a[k].1 = par then some (.inr (.inr (k:Int))) else some (.inl ((k:Int) - 1)):=by
       unfold b60
       dsimp only
       rw [zAY (zDA hil),zCz hi,zBy,zCA (decide_eq_true (by dsimp only;omega)),zAY (zDA hk),zAY (zDA hil),zCz hk2,ieq_d,sel_i,isubI (by omega) (by omega)]
     by_cases h:a[k].1 = par
     · rw [if_pos h] at hb
       exact ⟨.inr k,iter_r hb,.inr ⟨k,a[k],rfl,hk2,h,by omega,by omega,fun j w h1 h2=>by omega⟩⟩
     · rw [if_neg h] at hb
       obtain ⟨e,e1,e2⟩:=ih ((k:Int) - 1) (by omega) (by omega)
       refine ⟨e,iter_l hb e1,?_⟩
       rcases e2 with ⟨rfl,e3⟩ | ⟨k',v,rfl,e3,e4,e5,e6,e7⟩
       · refine .inl ⟨rfl,fun j v h1 h2 h3=>?_⟩
         by_cases hjk:j = k
         · subst hjk;rw [hk2] at h3;have:=Option.some.inj h3;subst this;exact h
         · exact e3 j v h1 (by omega) h3
       · refine .inr ⟨k',v,rfl,e3,e4,e5,by omega,fun j w h1 h2 h3=>?_⟩
         by_cases hjk:j = k
         · subst hjk;rw [hk2] at h3;have:=Option.some.inj h3;subst this;exact h
         · exact e7 j w h1 (by omega) h3
 obtain ⟨e,e1,e2⟩:=key ((i:Int) - 1 - par).toNat ((i:Int) - 1) (by omega) (by omega)
 rw [F60_def,isubI (by dsimp only;omega) (by dsimp only;omega)]
 rcases e2 with ⟨rfl,e3⟩ | ⟨k,v,rfl,e3⟩
 · exact ⟨-1,join_l e1,.inl ⟨rfl,e3⟩⟩
 · exact ⟨k,join_r e1,.inr ⟨k,v,rfl,e3⟩⟩
theorem dep_ex {a:List FN}:∀ (m k:Nat),k < m → k < a.length → Dec a m → ∃ d,Dep a k d ∧ d ≤ k:=by
 intro m
 induction m with
 | zero=>intro k h;omega
 | succ m ih =>
   intro k h1 h2 h3
   have hk2:a[k]? = some a[k]:=List.getElem?_eq_getElem h2
   have hv:=h3 k a[k] h1 hk2
   by_cases h:a[k].1 < 0
   · exact ⟨0,.root hk2 h,by omega⟩
   · obtain ⟨j,hj⟩:=Int.eq_ofNat_of_zero_le (show 0 ≤ a[k].1 by omega)
     obtain ⟨d,h4,h5⟩:=ih j (by omega) (by omega) fun j v hj hv=>h3 j v (by omega) hv
     exact ⟨d + 1,.step hk2 hj h4,by omega⟩
theorem dep_det {a:List FN} {k d d':Nat} (h:Dep a k d) (h':Dep a k d'):d = d':=by
 induction h generalizing d' with
 | root h1 h2 =>
   cases h' with
   | root=>rfl
   | step g1 g2 _=>rw [h1] at g1;have:=Option.some.inj g1;subst this;omega
 | step h1 h2 h3 ih =>
   cases h' with
   | root g1 g2=>rw [h1] at g1;have:=Option.some.inj g1;subst this;omega
   | step g1 g2 g3 =>
     rw [h1] at g1;have:=Option.some.inj g1;subst this
     have:_ = _:=h2.symm.trans g2
     have:=Int.ofNat.inj this;subst this
     rw [ih g3]
theorem F61_eq {a:List FN} {i:Nat} {d:Nat} (h:Dep a i d) (hd:d ≤ 100000):F61 (a,(i:Int)) = some (d:Int):=by
 have key:∀ {k d:Nat},Dep a k d → ∀ c:Nat,c + d ≤ 100000 → zCv (b61 (a,(i:Int))) ((k:Int),(c:Int)) = some (.inl ((c + d:Nat):Int)):=by
   intro k d h
   induction h with
   | root h1 h2 =>
     intro c hc
     refine iter_r ?_
     unfold b61
     dsimp only
     rw [zAY (zDA (At.lt h1)),zCz h1,ile_d,zBU (decide_eq_false (by omega))]
     rfl
   | step h1 h2 h3 ih =>
     intro c hc
     refine iter_l (s':=((_:Int),((c + 1:Nat):Int))) ?_ ((ih (c + 1) (by omega)).trans (by rw [Nat.add_assoc,Nat.add_comm 1]))
     unfold b61
     dsimp only
     rw [zAY (zDA (At.lt h1)),zCz h1,ile_d,zCA (decide_eq_true (by omega)),zAY (zDA (At.lt h1)),iaddI (by omega) (by omega),h2]
     rfl
 rw [F61_def]
 have:=key h 0 (by omega)
 rw [Nat.zero_add] at this
 exact join_l this
theorem F57_eq (n:Nm):F57 n = some (nmOk n):=F35_eq n
theorem F58_eq (s:Int):F58 s = some (wOk s):=F36_eq s
structure Cond (a:List FN) (i:Nat) (v:FN):Prop where
 nm:nmOk v.2.1 = true
 w:wOk v.2.2 = true
 lo:-1 ≤ v.1
 hi:v.1 < i
 up:UpTo a v.1 ((i:Int) - 1) v.1
 sib:∀ r,Sib a v.1 ((i:Int) - 1) r → ∀ k:Nat,r = (k:Int) → ∃ m,a[k]? = some m ∧ slt m.2.1 v.2.1 = true
 dep:∀ d,Dep a i d → d ≤ 63
 leaf:v.2.2 = 0 → ∃ m,a[i + 1]? = some m ∧ m.1 = (i:Int)
theorem sib_det {a:List FN} {par s r r':Int} (h:Sib a par s r) (h':Sib a par s r'):r = r':=by
 rcases h with ⟨rfl,h⟩ | ⟨k,v,rfl,h1,h2,h3,h4,h5⟩ <;> rcases h' with ⟨rfl,g⟩ | ⟨j,w,rfl,g1,g2,g3,g4,g5⟩
 · rfl
 · exact absurd g2 (h j w g3 g4 g1)
 · exact absurd h2 (g k v h3 h4 h1)
 · rcases Nat.lt_trichotomy k j with c | c | c
   · exact absurd g2 (h5 j w (by omega) g4 g1)
   · subst c;rfl
   · exact absurd h2 (g5 k v (by omega) h4 h1)
theorem F49_tot {a:List FN} (ha:a.length ≤ 2000) {i:Nat} {v:FN} (hi:a[i]? = some v) (hd:Dec a i):∃ e,F49 (a,(i:Int)) = some e ∧ (e = 0 → Cond a i v):=by
 obtain ⟨par,n,s⟩:=v
 have hil:=At.lt hi
 have hsub:isub .i64 (i:Int) 1 = (i:Int) - 1:=isubI (by omega) (by omega)
 have hwrap:zBo .i64 (i:Int) 1 = ((i + 1:Nat):Int):=by rw [iaddI (by omega) (by omega)];rfl
 unfold F49
 dsimp only
 simp only [zCz hi,hsub,hwrap]
 rw [zAY (zDA hil),zAd (F57_eq n)]
 cases hnm:nmOk n with
 | false=>exact ⟨5,rfl,fun h=>by cases h⟩
 | true =>
 rw [zBU (by rfl),zAd (F58_eq s)]
 cases hw:wOk s with
 | false=>exact ⟨2,rfl,fun h=>by cases h⟩
 | true =>
 rw [zBU (by rfl)]
 by_cases hr:par < -1 ∨ (i:Int) ≤ par
 · have hc:zAH (ilt par (-1)) true (ile (i:Int) par) = true:=by rw [pick_or,zBy,ile_d,← Bool.decide_or];exact decide_eq_true hr
   rw [hc,zAd (show sel (zCQ true) (F59 (a,par,(i:Int) - 1)) (some false) = some false from rfl)]
   exact ⟨9,rfl,fun h=>by cases h⟩
 have hc:zAH (ilt par (-1)) true (ile (i:Int) par) = false:=by rw [pick_or,zBy,ile_d,← Bool.decide_or];exact decide_eq_false hr
 obtain ⟨r,hup⟩:=up_ex (a:=a) (q:=par) (by omega) i ((i:Int) - 1) (by omega) (by omega) hd
 rw [hc,zAd (show sel (zCQ false) (F59 (a,par,(i:Int) - 1)) (some false) = some (decide (r = par)) from F59_eq hup),pick_or,Bool.false_or,bnot_d]
 by_cases hrp:r ≠ par
 · rw [zCA (by simpa using hrp)];exact ⟨9,rfl,fun h=>by cases h⟩
 have hrp:r = par:=by simpa using hrp
 subst hrp
 rw [zBU (by simp)]
 obtain ⟨q,hq,hsib⟩:=F60_eq hi ha (by omega) (by omega)
 rw [zAd hq]
 have hqb:impl (ile 0 q) (inL q (zAL a)) = true:=impl_t fun h=>by
   rcases hsib with ⟨rfl,_⟩ | ⟨k,v,rfl,hk,_⟩
   · cases h
   · exact zDA (At.lt hk)
 rw [zAY hqb]
 cases hs:zAH (ile 0 q) (zCQ (slt ((zAJ (0,(⟨#[]⟩:ByteArray),0) a (i2n q)).2).1 n)) false with
 | true=>rw [zCA rfl];exact ⟨9,rfl,fun h=>by cases h⟩
 | false =>
 rw [zBU rfl]
 obtain ⟨d,hdep,hdi⟩:=dep_ex (a:=a) (i + 1) i (by omega) hil fun j v hj hv=>by
   by_cases hji:j = i
   · subst hji;rw [hi] at hv;have:=Option.some.inj hv;subst this;dsimp only;omega
   · exact hd j v (by omega) hv
 rw [zAd (F61_eq hdep (by omega)),zBy,sel_i]
 by_cases h63:(63:Int) < d
 · rw [if_pos h63];exact ⟨30,rfl,fun h=>by cases h⟩
 rw [if_neg h63]
 have hz:impl (band (ieq s 0) (zCQ (ieq ((i + 1:Nat):Int) (n2i (zAL a))))) (inL ((i + 1:Nat):Int) (zAL a)) = true:=impl_t fun h=>by
   rw [band_d,Bool.and_eq_true,bnot_d,Bool.not_eq_true',ieq_d,ieq_d,decide_eq_false_iff_not] at h
   exact zDA (by have:=h.2;simp [n2i,zAL] at this;omega)
 rw [zAY hz]
 cases hl:zAH (ieq s 0) (zAH (ieq ((i + 1:Nat):Int) (n2i (zAL a))) true (ine (zAJ (0,(⟨#[]⟩:ByteArray),0) a (i2n ((i + 1:Nat):Int))).1 (i:Int))) false with
 | true=>rw [zCA rfl];exact ⟨1,rfl,fun h=>by cases h⟩
 | false =>
 rw [zBU rfl]
 refine ⟨0,rfl,fun _=>⟨hnm,hw,by dsimp only;omega,by dsimp only;omega,hup,fun q' hq' k hk=>?_,fun d' hd'=>?_,fun h0=>?_⟩⟩
 · have:=sib_det hsib hq'
   subst this;subst hk
   rcases hsib with ⟨h,_⟩ | ⟨k',v,h1,h2,_⟩
   · omega
   · have:=Int.ofNat.inj h1;subst this
     refine ⟨v,h2,?_⟩
     rw [zCz h2,zCu,ile_d,decide_eq_true (by omega),Bool.true_and,bnot_d] at hs
     simpa using hs
 · have:=dep_det hdep hd';subst this;omega
 · have h0:s = 0:=h0
   rw [zCu,ieq_d,decide_eq_true h0,Bool.true_and,pick_or,Bool.or_eq_false_iff] at hl
   obtain ⟨h1,h2⟩:=hl
   rw [ieq_d,decide_eq_false_iff_not] at h1
   have hlt:i + 1 < a.length:=by simp [n2i,zAL] at h1;omega
   have hm:a[i + 1]? = some a[i + 1]:=List.getElem?_eq_getElem hlt
   rw [zCz hm,ine_d,decide_eq_false_iff_not] at h2
   exact ⟨_,hm,by simpa using h2⟩
theorem F28_tot {a:List FN} (ha:a.length ≤ 2000):∃ e,F28 a = some e ∧ (e = 0 → ∀ i v,a[i]? = some v → Cond a i v):=by
 rw [F28_def,zBU (by rw [zBy,zCB,zBC];exact decide_eq_false (by omega))]
 obtain ⟨y,h1,h2⟩:=join_wf (body:=b28 a) (k:=fun _:PUnit=>some (0:Int)) (s:=(0:Int)) (G:=fun e=>e = 0 → ∀ i v,a[i]? = some v → Cond a i v)
   (fun s=>∃ i:Nat,s = (i:Int) ∧ i ≤ a.length ∧ ∀ (j:Nat) (v:FN),j < i → a[j]? = some v → Cond a j v) (fun s=>a.length - s.toNat) (fun e=>(e = .inl () ∧ ∀ i v,a[i]? = some v → Cond a i v) ∨ ∃ r:Int,r ≠ 0 ∧ e = .inr r) ⟨0,rfl,by omega,fun j v h=>by omega⟩
   (by
     rintro _ ⟨i,rfl,hi,hc⟩
     unfold b28
     rw [zBy,zCB,zBC,sel_i]
     by_cases h:i < a.length
     · rw [if_pos (by omega)]
       have hi2:a[i]? = some a[i]:=List.getElem?_eq_getElem h
       obtain ⟨e,e1,e2⟩:=F49_tot ha hi2 fun j v hj hv=>⟨(hc j v hj hv).lo,(hc j v hj hv).hi⟩
       rw [zAd e1,ine_d,sel_i]
       by_cases h0:e ≠ 0
       · rw [if_pos h0];exact .inr ⟨_,rfl,.inr ⟨e,h0,rfl⟩⟩
       · rw [if_neg h0,iaddI (by omega) (by omega)]
         refine .inl ⟨_,rfl,⟨i + 1,rfl,by omega,fun j v hj hv=>?_⟩,by omega⟩
         by_cases hji:j = i
         · subst hji;rw [hi2] at hv;have:=Option.some.inj hv;subst this;exact e2 (by simpa using h0)
         · exact hc j v (by omega) hv
     · rw [if_neg (by omega)]
       exact .inr ⟨_,rfl,.inl ⟨rfl,fun j v hv=>hc j v (by have:=At.lt hv;omega) hv⟩⟩)
   (by
     rintro _ (⟨rfl,h⟩ | ⟨r,hr,rfl⟩)
     · exact ⟨0,rfl,fun _=>h⟩
     · exact ⟨r,rfl,fun h=>absurd h hr⟩)
 exact ⟨y,h1,h2⟩
def parse:Nat → Int → Nat → List FN → Fo × List FN
 | 0,_,_,l=>(.nil,l)
 | _ + 1,_,_,[]=>(.nil,[])
 | f + 1,par,pl,(p,n,s) :: l=>if p = par then (.cons n s (parse f pl (pl + 1) l).1 (parse f par (pl + 1 + (parse f pl (pl + 1) l).1.len) (parse f pl (pl + 1) l).2).1,(parse f par (pl + 1 + (parse f pl (pl + 1) l).1.len) (parse f pl (pl + 1) l).2).2) else (.nil,(p,n,s) :: l)
theorem parse_enc:∀ (f:Nat) (par:Int) (pl:Nat) (l:List FN),(parse f par pl l).1.enc par pl ++ (parse f par pl l).2 = l
 | 0,_,_,l=>rfl
 | _ + 1,_,_,[]=>rfl
 | f + 1,par,pl,(p,n,s) :: l=>by
   rw [parse]
   split
   · rename_i h
     subst h
     dsimp only
     rw [Fo.enc,List.cons_append,List.append_assoc,parse_enc f,parse_enc f]
   · rfl
def St:Fo → Nat → Int → Prop
 | .nil,_,_=>True
 | .cons n s sub rest,pl,q=>(rest = .nil → q ≠ (pl:Int) ∧ St sub (pl + 1) q) ∧ St rest (pl + 1 + sub.len) q
theorem parse_stop:∀ (f:Nat) (par:Int) (pl:Nat) (l:List FN),l.length < f → (parse f par pl l).2 = [] ∨ ∃ v t,(parse f par pl l).2 = v :: t ∧ v.1 ≠ par ∧ St (parse f par pl l).1 pl v.1
 | 0,_,_,l,h=>by omega
 | _ + 1,_,_,[],_=>.inl rfl
 | f + 1,par,pl,(p,n,s) :: l,h=>by
   rw [parse]
   split
   · rename_i hp
     subst hp
     dsimp only
     have h1:=parse_enc f pl (pl + 1) l
     have hlen:(parse f pl (pl + 1) l).2.length ≤ l.length:=by
       have:=congrArg List.length h1
       rw [List.length_append] at this;omega
     have h2:=parse_enc f p (pl + 1 + (parse f pl (pl + 1) l).1.len) (parse f pl (pl + 1) l).2
     have ia:=parse_stop f pl (pl + 1) l (by simp at h;omega)
     have ib:=parse_stop f p (pl + 1 + (parse f pl (pl + 1) l).1.len) (parse f pl (pl + 1) l).2 (by simp at h;omega)
     rcases ib with ib | ⟨v,t,b1,b2,b3⟩
     · exact .inl ib
     · refine .inr ⟨v,t,b1,b2,fun hr=>?_,b3⟩
       have hbn:(parse f p (pl + 1 + (parse f pl (pl + 1) l).1.len) (parse f pl (pl + 1) l).2).2 = (parse f pl (pl + 1) l).2:=by
         have:=h2
         rw [hr] at this
         exact this
       rcases ia with ia | ⟨v',t',a1,a2,a3⟩
       · rw [hbn,ia] at b1;cases b1
       · rw [hbn,a1] at b1
         have e:=List.cons.inj b1
         have e1:=e.1
         subst e1
         exact ⟨a2,a3⟩
   · rename_i hp
     exact .inr ⟨_,_,rfl,hp,trivial⟩
theorem zDL {a:List FN} {q:Int}:∀ (F:Fo) (par:Int) (pl:Nat),At a pl (F.enc par pl) → F ≠ .nil → St F pl q → ∀ r,UpTo a q ((pl + F.len:Nat) - 1:Int) r → r = q → UpTo a q par r
 | .nil,_,_,_,h,_,_,_,_=>absurd rfl h
 | .cons n s sub rest,par,pl,hA,_,hS,r,hu,hr=>by
   rw [Fo.enc] at hA
   have hi:=hA.head
   have hA1:=hA.tail.left
   have hA2:=hA.tail.right
   rw [Fo.enc_len] at hA2
   rw [Fo.len] at hu
   by_cases hrest:rest = .nil
   · subst hrest
     obtain ⟨g1,g2⟩:=hS.1 rfl
     have key:UpTo a q (pl:Int) r:=by
       by_cases hsub:sub = .nil
       · subst hsub
         simp only [Fo.len] at hu
         rw [show ((pl + (1 + 0 + 0):Nat) - 1:Int) = (pl:Int) by omega] at hu
         exact hu
       · simp only [Fo.len] at hu
         refine zDL sub pl (pl + 1) hA1 hsub g2 r ?_ hr
         rw [show ((pl + 1 + sub.len:Nat) - 1:Int) = ((pl + (1 + sub.len + 0):Nat) - 1:Int) by omega]
         exact hu
     cases key with
     | stop h=>exact absurd hr.symm g1
     | step h1 h2 h3 =>
       rw [hi] at h2
       have:=Option.some.inj h2
       subst this
       exact h3
   · refine zDL rest par (pl + 1 + sub.len) hA2 hrest hS.2 r ?_ hr
     rw [show ((pl + 1 + sub.len + rest.len:Nat) - 1:Int) = ((pl + (1 + sub.len + rest.len):Nat) - 1:Int) by omega]
     exact hu
theorem parse_all {a:List FN} (h:∀ i v,a[i]? = some v → Cond a i v):∃ F:Fo,a = F.enc (-1) 0:=by
 have h1:=parse_enc (a.length + 1) (-1) 0 a
 rcases parse_stop (a.length + 1) (-1) 0 a (by omega) with h2 | ⟨v,t,h2,h3,h4⟩
 · rw [h2,List.append_nil] at h1
   exact ⟨_,h1.symm⟩
 · exfalso
   generalize (parse (a.length + 1) (-1) 0 a).1 = F at h1 h4
   rw [h2] at h1
   have hi:a[F.len]? = some v:=by
     rw [← h1,List.getElem?_append_right (by rw [Fo.enc_len];omega),Fo.enc_len];simp
   have hc:=h F.len v hi
   have hA:At a 0 (F.enc (-1) 0):=by
     have:=At.all a
     rw [← h1] at this ⊢
     exact this.left
   by_cases hF:F = .nil
   · subst hF
     have h5:=hc.lo;have h6:=hc.hi
     simp only [Fo.len] at h6
     exact h3 (by omega)
   · have h7:=zDL F (-1) 0 hA hF h4 v.1 (by rw [Nat.zero_add];exact hc.up) rfl
     have h5:=hc.lo
     generalize hz:(-1:Int) = z at h7
     cases h7 with
     | stop h=>exact h3 hz.symm
     | step h8 h9 _=>omega
theorem enc_par:∀ (F:Fo) (par:Int) (pl:Nat) (i:Nat) (v:FN),(F.enc par pl)[i]? = some v → v.1 = par ∨ (pl:Int) ≤ v.1
 | .nil,_,_,i,v,h=>by simp [Fo.enc] at h
 | .cons n s sub rest,par,pl,i,v,h=>by
   rw [Fo.enc] at h
   cases i with
   | zero=>have:=Option.some.inj h;subst this;exact .inl rfl
   | succ i =>
     rw [List.getElem?_cons_succ] at h
     rcases Nat.lt_or_ge i (sub.enc pl (pl + 1)).length with hlt | hge
     · rw [List.getElem?_append_left hlt] at h
       rcases enc_par sub pl (pl + 1) i v h with h | h
       · exact .inr (by omega)
       · exact .inr (by omega)
     · rw [List.getElem?_append_right hge] at h
       rcases enc_par rest par (pl + 1 + sub.len) _ v h with h | h
       · exact .inl h
       · exact .inr (by omega)
theorem good_seg {a:List FN} (hc:∀ i v,a[i]? = some v → Cond a i v):∀ (F:Fo) (par:Int) (pl d:Nat),At a pl (F.enc par pl) → -1 ≤ par → par < pl → (∀ j:Nat,par = (j:Int) → ∃ d',Dep a j d' ∧ d = d' + 1) → (par = -1 → d = 0) →
   (∀ v,a[pl + F.len]? = some v → v.1 < (pl:Int)) →
   F.Good d ∧ ∀ k:Nat,Sib a par ((pl:Int) - 1) (k:Int) → ∀ m,a[k]? = some m → ∀ h ∈ F.heads,slt m.2.1 h = true
 | .nil,_,_,_,_,_,_,_,_,_=>⟨trivial,fun k _ m _ h hh=>by cases hh⟩
 | .cons n s sub rest,par,pl,d,hA,h1,h2,h3,h4,h5=>by
   rw [Fo.enc] at hA
   have hi:=hA.head
   have hA1:=hA.tail.left
   have hA2:=hA.tail.right
   rw [Fo.enc_len] at hA2
   have hcd:=hc pl _ hi
   have hdep:Dep a pl d:=by
     by_cases hp:par = -1
     · rw [h4 hp];exact .root hi (by dsimp only;omega)
     · obtain ⟨j,rfl⟩:=Int.eq_ofNat_of_zero_le (show 0 ≤ par by omega)
       obtain ⟨d',h6,rfl⟩:=h3 j rfl
       exact .step hi rfl h6
   have hnx1:∀ v,a[pl + 1 + sub.len]? = some v → v.1 < (pl:Int):=fun v hv=>by
     cases hrest:rest with
     | nil =>
       refine h5 v ?_
       rw [hrest,Fo.len,Fo.len,show pl + (1 + sub.len + 0) = pl + 1 + sub.len by omega];exact hv
     | cons n' s' sub' rest' =>
       rw [hrest,Fo.enc] at hA2
       have:=hA2.head
       rw [hv] at this
       have:=Option.some.inj this
       subst this
       exact h2
   obtain ⟨gs,_⟩:=good_seg hc sub pl (pl + 1) (d + 1) hA1 (by omega) (by omega) (fun j hj=>by
     have:=Int.ofNat.inj hj;subst this;exact ⟨d,hdep,rfl⟩) (fun h=>by omega) (fun v hv=>by have:=hnx1 v hv;omega)
   obtain ⟨gr,gh⟩:=good_seg hc rest par (pl + 1 + sub.len) d hA2 h1 (by omega) h3 h4 (fun v hv=>by
     have:=h5 v (by rw [Fo.len,show pl + (1 + sub.len + rest.len) = pl + 1 + sub.len + rest.len by omega];exact hv)
     omega)
   have hsibl:Sib a par (((pl + 1 + sub.len:Nat):Int) - 1) (pl:Int):=by
     refine .inr ⟨pl,_,rfl,hi,rfl,h2,by omega,fun j w hj1 hj2 hw=>?_⟩
     have hw2:(sub.enc pl (pl + 1))[j - (pl + 1)]? = some w:=by
       have hlt:j - (pl + 1) < (sub.enc pl (pl + 1)).length:=by rw [Fo.enc_len];omega
       have hx:(sub.enc pl (pl + 1))[j - (pl + 1)]? = some (sub.enc pl (pl + 1))[j - (pl + 1)]:=List.getElem?_eq_getElem hlt
       have:=hA1 _ _ hx
       rw [show pl + 1 + (j - (pl + 1)) = j by omega,hw] at this
       rw [hx,← this]
     rcases enc_par sub pl (pl + 1) _ w hw2 with h | h <;> omega
   have hheads:∀ m ∈ rest.heads,slt n m = true:=fun m hm=>gh pl hsibl _ hi m hm
   have hgood:(Fo.cons n s sub rest).Good d:=by
     refine ⟨⟨?_,?_,?_,?_⟩,fun h0 hsub=>?_,?_,hheads,gs,gr⟩
     · exact (of_decide_eq_true hcd.nm).1
     · exact (of_decide_eq_true hcd.nm).2
     · exact (of_decide_eq_true hcd.w).1
     · exact (of_decide_eq_true hcd.w).2
     · obtain ⟨m,hm,hm1⟩:=hcd.leaf h0
       have:=hnx1 m (by rw [hsub,Fo.len];exact hm)
       omega
     · have:=hcd.dep d hdep;omega
   refine ⟨hgood,fun k hk m hm h hh=>?_⟩
   obtain ⟨m',hm',hlt⟩:=hcd.sib k hk k rfl
   rw [hm] at hm'
   have:=Option.some.inj hm'
   subst this
   rw [Fo.heads,List.mem_cons] at hh
   rcases hh with rfl | hh
   · exact hlt
   · exact slt_trans hlt (hheads h hh)
theorem F28_good {a:List FN} (ha:a.length ≤ 2000) (h:F28 a = some 0):∃ F:Fo,a = F.enc (-1) 0 ∧ F.Good 0:=by
 obtain ⟨e,h1,h2⟩:=F28_tot ha
 rw [h] at h1
 have:=Option.some.inj h1
 subst this
 have hc:=h2 rfl
 obtain ⟨F,hF⟩:=parse_all hc
 refine ⟨F,hF,(good_seg hc F (-1) 0 0 (by rw [← hF];exact At.all a) (by omega) (by omega) (fun j hj=>by omega) (fun _=>rfl) fun v hv=>?_).1⟩
 rw [Nat.zero_add,hF] at hv
 have:=At.lt hv
 rw [Fo.enc_len] at this
 omega
theorem F27_tot {a:List FN} (ha:a.length ≤ 9223372036854775807):∃ b,F27 a = some b ∧ (b = false → a.length ≤ 70):=by
 rw [F27_def]
 refine join_wf (body:=b27 a) (k:=fun _:PUnit=>some (ilt 70 (n2i (zAL a)))) (s:=(0:Int)) (G:=fun b=>b = false → a.length ≤ 70) (fun s=>∃ i:Nat,s = (i:Int) ∧ i ≤ a.length) (fun s=>a.length - s.toNat) (fun e=>e = .inl () ∨ e = .inr true) ⟨0,rfl,by omega⟩ ?_ ?_
 · rintro _ ⟨i,rfl,hi⟩
   unfold b27
   rw [zBy,zCB,zBC,sel_i]
   by_cases h:i < a.length
   · rw [if_pos (by omega),zAY (inL_t h),zBy,sel_i]
     split
     · exact .inr ⟨_,rfl,.inr rfl⟩
     · rw [iaddI (by omega) (by omega)]
       exact .inl ⟨_,rfl,⟨i + 1,rfl,by omega⟩,by omega⟩
   · rw [if_neg (by omega)]
     exact .inr ⟨_,rfl,.inl rfl⟩
 · rintro _ (rfl | rfl)
   · refine ⟨_,rfl,fun h=>?_⟩
     rw [zBy,decide_eq_false_iff_not,zCB,zBC] at h
     omega
   · exact ⟨true,rfl,fun h=>by cases h⟩
theorem F7_tot {a:List FN} (ha:a.length ≤ 9223372036854775807):F7 a = some false ∨ (F7 a = some true ∧ ∃ F:Fo,a = F.enc (-1) 0 ∧ F.Good 0 ∧ F.len ≤ 70):=by
 obtain ⟨b,h1,h2⟩:=F27_tot ha
 unfold F7
 rw [zAd h1]
 cases b with
 | true=>exact .inl rfl
 | false =>
   have hl:=h2 rfl
   obtain ⟨e,h3,h4⟩:=F28_tot (a:=a) (by omega)
   rw [zAd (show sel (zCQ false) (F28 a) (some 0) = some e from h3)]
   by_cases he:e = 0
   · subst he
     obtain ⟨F,hF,hG⟩:=F28_good (by omega) h3
     refine .inr ⟨rfl,F,hF,hG,?_⟩
     rw [hF,Fo.enc_len] at hl;exact hl
   · left
     show some (zAH (zCQ false) (ieq e 0) false) = _
     rw [ieq_d,decide_eq_false he];rfl
noncomputable def bm (l:List Sk) (cb:Int → Sk → Option (Sk × Bool)):(Int × List Sk) → Option ((Int × List Sk) ⊕ (List Sk ⊕ (List FN × Int))):=fun s2 =>
 sel (ilt s2.1 (n2i (zAL l))) (join (need (inL s2.1 (zAL l)) <|
   call (cb s2.1 (zAJ ([],0) l (i2n s2.1))) fun r3 =>
   sel r3.2 (need (room (nadd (zAL s2.2) (zAL [r3.1])) 32) <| some (.inl (lcat s2.2 [r3.1]))) <| some (.inl s2.2)) fun j4=>some (.inl (zBo .i64 s2.1 1,j4))) <|
 some (.inr (.inl s2.2))
theorem bm_loop {l:List Sk} {cb:Int → Sk → Option (Sk × Bool)} {y:Sk → Sk} {kb:Sk → Bool} (hl:l.length ≤ 2000) (hcb:∀ i,∀ s ∈ l,cb i s = some (y s,kb s)):zCv (bm l cb) (0,[]) = some (.inl ((l.filter kb).map y)):=by
 have hG:∀ i,i ≤ l.length → Goes (bm l cb) (0,[]) ((i:Int),((l.take i).filter kb).map y):=by
   intro i
   induction i with
   | zero=>intro _;exact Goes.refl _ _
   | succ i ih =>
     intro hi
     refine (ih (by omega)).trans (Goes.one ?_)
     have hil:i < l.length:=by omega
     have hlen:(((l.take i).filter kb).map y).length ≤ i:=by
       rw [List.length_map];exact Nat.le_trans (List.length_filter_le _ _) (by rw [List.length_take];omega)
     unfold bm
     dsimp only
     rw [zBy,zCA (by rw [zCB,zBC];exact decide_eq_true (by omega)),zAY (zDA hil),i2n_c,lget_t hil,zAd (hcb _ _ (List.getElem_mem hil)),List.take_succ_eq_append_getElem hil,List.filter_append,List.map_append]
     rw [iaddI (by omega) (by omega)]
     dsimp only
     by_cases hk:kb l[i] = true
     · rw [hk,zCA rfl,zAY (room_t (by simp only [nadd,zAL,List.length_singleton];omega)),zCg,List.filter_cons_of_pos hk];rfl
     · rw [zBU (by simpa using hk),zCg,List.filter_cons_of_neg hk];simp
 refine (hG l.length (Nat.le_refl _)).fin ?_
 unfold bm
 dsimp only
 rw [zBy,zBU (by rw [zCB,zBC];exact decide_eq_false (by omega)),List.take_length]
theorem F31c_def (x:List FN):F31c x = call (F13 x) fun (r0:Int)=>sel (ine r0 0) (some ([],1)) <| call (F16 x) fun (r1:List Sk)=>join (zCv (bm r1 fun i s=>F32 (i,s)) (0,[])) fun (j5:List Sk)=>call (F29 j5) fun (r6:List FN × Int)=>sel (ine r6.2 0) (some ([],r6.2)) <| some (r6.1,0):=rfl
theorem F29_eq {l:List Sk} (hl:l.length ≤ 10000):F29 l = some (ofGo (0,.nil) l):=by unfold F29;rw [if_pos hl]
theorem F9_enc {F:Fo} (hG:F.Good 0) (hl:F.len ≤ 2000):F9 (F.enc (-1) 0) = some (if (ofGo (0,.nil) (rvs (F.stk []))).2 ≠ 0 then ([],(ofGo (0,.nil) (rvs (F.stk []))).2) else ((ofGo (0,.nil) (rvs (F.stk []))).1,0)):=by
 have h13:=F13_enc hG hl
 have hsl:=stk_len F []
 have hfi:=stk_fineL hG
 have hloop:=bm_loop (l:=F.stk []) (cb:=fun i s=>F32 (i,s)) (y:=fun x=>(x.1.reverse,x.2)) (kb:=fun _=>true) (by omega) fun i s hs=>by
   unfold F32
   dsimp only
   rw [if_pos (by have:=(hfi s hs).1;omega)]
 rw [List.filter_eq_self.2 (by simp)] at hloop
 unfold F9
 rw [F31c_def,zAd h13,zBU (by rfl),zAd (F16_enc h13 hG.nd hl),join_l hloop,zAd (F29_eq (by rw [List.length_map];omega)),ine_d,sel_i]
 show call (if (ofGo (0,.nil) (rvs (F.stk []))).2 ≠ 0 then _ else _) _ = _
 split <;> rfl
theorem F10_self {a:List FN} (ha:a.length ≤ 2000):F10 (a,a) = some true:=by
 unfold F10
 rw [ine_d,zBU (by simp)]
 obtain ⟨y,h1,h2⟩:=join_wf (body:=fun (s0:Int) =>
     sel (ilt s0 (n2i (zAL a))) (need (inL s0 (zAL a)) <|
     need (inL s0 (zAL a)) <|
     sel (zCQ (band (ieq ((zAJ (0,(⟨#[]⟩:ByteArray),0) a (i2n s0)).1) ((zAJ (0,(⟨#[]⟩:ByteArray),0) a (i2n s0)).1)) (band (seq (((zAJ (0,(⟨#[]⟩:ByteArray),0) a (i2n s0)).2).1) (((zAJ (0,(⟨#[]⟩:ByteArray),0) a (i2n s0)).2).1)) (band (ieq (((zAJ (0,(⟨#[]⟩:ByteArray),0) a (i2n s0)).2).2) (((zAJ (0,(⟨#[]⟩:ByteArray),0) a (i2n s0)).2).2)) true)))) (some (.inr (.inr false))) <|
     some (.inl (zBo .i64 s0 1))) <|
     some (.inr (.inl ()))) (k:=fun j1:PUnit=>some true) (s:=(0:Int)) (G:=fun b=>b = true) (fun s=>∃ i:Nat,s = (i:Int) ∧ i ≤ a.length) (fun s=>a.length - s.toNat) (fun e=>e = .inl ()) ⟨0,rfl,by omega⟩
   (by
     rintro _ ⟨i,rfl,hi⟩
     rw [zBy,zCB,zBC,sel_i]
     by_cases h:i < a.length
     · rw [if_pos (by omega),zAY (inL_t h),zAY (inL_t h),ieq_d,seq_t,ieq_d,zBU (by simp [zCQ,band]),iaddI (by omega) (by omega)]
       exact .inl ⟨_,rfl,⟨i + 1,rfl,by omega⟩,by omega⟩
     · rw [if_neg (by omega)]
       exact .inr ⟨_,rfl,rfl⟩)
   (by rintro _ rfl;exact ⟨true,rfl,rfl⟩)
 rw [h2] at h1
 exact h1
theorem callQ_of {A R:Type} {p:A → Prop} {k:A → Option R} {r:R} (h1:∃ a,p a) (h2:∀ a,p a → k a = some r):callQ p k = some r:=by
 have hx:(∃ a,p a) ∧ ∃ r,∀ a,p a → k a = some r:=⟨h1,r,h2⟩
 unfold callQ
 rw [dif_pos hx]
 obtain ⟨a,ha⟩:=h1
 have:=Classical.choose_spec hx.2 a ha
 rw [h2 a ha] at this
 exact this.symm
theorem mrange_of {A S E:Type} {l:List A} {B:A → S → Option (S ⊕ E)} {N:S → Option (S ⊕ E)} {s:S} {e:E} (h:∀ l',l'.Perm l → foldM B N l' s = some e):mrange l B N s = some e:=by
 have hx:∃ e,∀ l',l'.Perm l → foldM B N l' s = some e:=⟨e,h⟩
 unfold mrange
 rw [dif_pos hx]
 have:=Classical.choose_spec hx l (.refl _)
 rw [h l (.refl _)] at this
 exact this.symm
theorem mk_t {l c:Int} {b:Nat} (h1:0 ≤ l) (h2:l ≤ c) (h3:c * b ≤ 281474976710656) (h4:c ≤ 281474976710656):mk l c b = true:=by
 unfold mk
 rw [decide_eq_true h1,decide_eq_true h2,decide_eq_true h3,decide_eq_true h4];rfl
def slf (n:Nm):List FN → Int
 | []=>0
 | v :: l=>(if v.2.1 = n then v.2.2 else 0) + slf n l
theorem slf_app (n:Nm):∀ a b:List FN,slf n (a ++ b) = slf n a + slf n b
 | [],b=>by simp [slf]
 | v :: a,b=>by rw [List.cons_append,slf,slf,slf_app n a];omega
theorem slf_one (n:Nm) (v:FN):slf n [v] = if v.2.1 = n then v.2.2 else 0:=by simp [slf]
theorem slf_none {n:Nm}:∀ {l:List FN},(¬ ∃ v ∈ l,v.2.1 = n) → slf n l = 0
 | [],_=>rfl
 | v :: l,h=>by
   rw [slf,if_neg (fun e=>h ⟨v,by simp,e⟩),slf_none fun ⟨w,hw,e⟩=>h ⟨w,List.mem_cons_of_mem _ hw,e⟩];rfl
theorem slf_b {n:Nm}:∀ {l:List FN},(∀ v ∈ l,wOk v.2.2 = true) → -(1099511627776 * (l.length:Int)) ≤ slf n l ∧ slf n l ≤ 1099511627776 * (l.length:Int)
 | [],_=>by simp [slf]
 | v :: l,h=>by
   have h1:-1099511627776 ≤ v.2.2 ∧ v.2.2 ≤ 1099511627776:=of_decide_eq_true (h v (by simp))
   have h2:=slf_b (n:=n) (l:=l) fun w hw=>h w (List.mem_cons_of_mem _ hw)
   rw [slf,List.length_cons]
   split <;> omega
def tots:List FN → Int
 | []=>0
 | v :: l=>v.2.2 + tots l
theorem tots_app:∀ a b:List FN,tots (a ++ b) = tots a + tots b
 | [],b=>by simp [tots]
 | v :: a,b=>by rw [List.cons_append,tots,tots,tots_app a];omega
theorem sum_app (a b:List Int):(a ++ b).sum = a.sum + b.sum:=List.sum_append
structure Own (l:List FN) (M:List (Nm × Int)):Prop where
 nd:(M.map (·.1)).Nodup
 mem:∀ n,n ∈ M.map (·.1) ↔ ∃ v ∈ l,v.2.1 = n
 val:∀ p ∈ M,p.2 = slf p.1 l
 sum:(M.map (·.2)).sum = tots l
theorem put_cases (n:Nm):∀ M:List (Nm × Int),(n ∉ M.map (·.1) ∧ mget seq 0 M n = 0 ∧ ∀ w,mput seq M n w = M ++ [(n,w)]) ∨ ∃ A x B,M = A ++ (n,x) :: B ∧ mget seq 0 M n = x ∧ ∀ w,mput seq M n w = A ++ (n,w) :: B
 | []=>.inl ⟨by simp,rfl,fun _=>rfl⟩
 | (m,x) :: M=>by
   by_cases h:n = m
   · subst h
     exact .inr ⟨[],x,M,rfl,by simp [mget,seq_t],fun w=>by simp [mput,mputGo,seq_t]⟩
   · rcases put_cases n M with ⟨h1,h2,h3⟩ | ⟨A,y,B,h1,h2,h3⟩
     · refine .inl ⟨fun hm=>by
       rw [List.map_cons,List.mem_cons] at hm
       rcases hm with e | e
       · exact h e
       · exact h1 e,?_,fun w=>?_⟩
       · unfold mget at h2 ⊢
         rw [List.find?_cons_of_neg (by simpa [seq_t] using h)];exact h2
       · have:=h3 w
         unfold mput at this ⊢
         rw [mputGo,if_neg (by simpa [seq_t] using h),this];rfl
     · refine .inr ⟨(m,x) :: A,y,B,by rw [h1];rfl,?_,fun w=>?_⟩
       · unfold mget at h2 ⊢
         rw [List.find?_cons_of_neg (by simpa [seq_t] using h)];exact h2
       · have:=h3 w
         unfold mput at this ⊢
         rw [mputGo,if_neg (by simpa [seq_t] using h),this];rfl
theorem Own.nil:Own [] []:=⟨by simp,by simp,by simp,rfl⟩
theorem Own.get {l:List FN} {M:List (Nm × Int)} (h:Own l M) (n:Nm):mget seq 0 M n = slf n l:=by
 rcases put_cases n M with ⟨h1,h2,_⟩ | ⟨A,x,B,rfl,h2,_⟩
 · rw [h2,slf_none fun e=>h1 ((h.mem n).2 e)]
 · rw [h2];exact h.val (n,x) (by simp)
theorem Own.put {l:List FN} {M:List (Nm × Int)} (h:Own l M) (v:FN):Own (l ++ [v]) (mput seq M v.2.1 (mget seq 0 M v.2.1 + v.2.2)):=by
 have hg:=h.get v.2.1
 obtain ⟨pr,n,s⟩:=v
 dsimp only at hg ⊢
 rw [hg]
 rcases put_cases n M with ⟨h1,h2,h3⟩ | ⟨A,x,B,rfl,h2,h3⟩
 · rw [h3]
   refine ⟨?_,fun m=>?_,fun p hp=>?_,?_⟩
   · rw [List.map_append,List.nodup_append]
     refine ⟨h.nd,by simp,fun a ha b hb e=>?_⟩
     simp at hb
     subst hb;subst e
     exact h1 ha
   · rw [List.map_append,List.mem_append,h.mem]
     constructor
     · rintro (⟨v,hv,e⟩ | e)
       · exact ⟨v,by simp [hv],e⟩
       · simp at e;exact ⟨(pr,n,s),by simp,e.symm⟩
     · rintro ⟨v,hv,e⟩
       rcases List.mem_append.1 hv with hv | hv
       · exact .inl ⟨v,hv,e⟩
       · simp at hv;subst hv;exact .inr (by simpa using e.symm)
   · rw [slf_app,slf_one]
     rcases List.mem_append.1 hp with hp | hp
     · have:n ≠ p.1:=fun e=>h1 (e ▸ List.mem_map_of_mem (f:=(·.1)) hp)
       rw [if_neg this,← h.val p hp];omega
     · simp at hp;subst hp;simp
   · rw [List.map_append,sum_app,h.sum,tots_app,← hg,h2];simp [tots]
 · have hx:x = slf n l:=h2.symm.trans hg
   subst hx
   rw [h3]
   have hk:(A ++ (n,slf n l + s) :: B).map (·.1) = (A ++ (n,slf n l) :: B).map (·.1):=by simp
   have hnd:=h.nd
   rw [List.map_append,List.map_cons,List.nodup_append,List.nodup_cons] at hnd
   refine ⟨by rw [hk];exact h.nd,fun m=>?_,fun p hp=>?_,?_⟩
   · rw [hk,h.mem]
     constructor
     · rintro ⟨v,hv,e⟩;exact ⟨v,by simp [hv],e⟩
     · rintro ⟨v,hv,e⟩
       rcases List.mem_append.1 hv with hv | hv
       · exact ⟨v,hv,e⟩
       · simp at hv;subst hv
         exact (h.mem m).1 (by simp [show n = m from e])
   · rw [slf_app,slf_one]
     rcases List.mem_append.1 hp with hp | hp
     · have:n ≠ p.1:=fun e=>hnd.2.2 p.1 (List.mem_map_of_mem (f:=(·.1)) hp) n (by simp) e.symm
       rw [if_neg this,← h.val p (by simp [hp])];omega
     · rcases List.mem_cons.1 hp with hp | hp
       · subst hp;simp
       · have:n ≠ p.1:=fun e=>hnd.2.1.1 (e ▸ List.mem_map_of_mem (f:=(·.1)) hp)
         rw [if_neg this,← h.val p (by simp [hp])];omega
   · have:=h.sum
     rw [List.map_append,sum_app,List.map_cons,List.sum_cons] at this ⊢
     rw [tots_app]
     simp only [tots] at this ⊢
     omega
theorem ltR_tot {x y:TR} (h:x.1 ≠ y.1) (h':¬ ltR y x):ltR x y:=by
 unfold ltR at h' ⊢
 rcases slt_tri x.1 y.1 with h1 | h1 | h1
 · by_cases e:x.2.2 = y.2.2
   · exact .inr ⟨e,h1⟩
   · have:¬ x.2.2 < y.2.2:=fun e'=>h' (.inl e')
     exact .inl (by omega)
 · exact absurd h1 h
 · have h2:¬ x.2.2 < y.2.2:=fun e'=>h' (.inl e')
   have h3:y.2.2 ≠ x.2.2:=fun e'=>h' (.inr ⟨e',h1⟩)
   exact .inl (by omega)
theorem pw_strict {a:List TR} (h:a.Pairwise fun x y=>¬ ltR y x) (hn:(a.map (·.1)).Nodup):a.Pairwise ltR:=by
 rw [List.Nodup,List.pairwise_map] at hn
 exact (h.and hn).imp fun ⟨h1,h2⟩=>ltR_tot h2 h1
theorem rows_uniq:∀ {a b:List TR},a.Perm b → a.Pairwise ltR → b.Pairwise ltR → a = b
 | [],b,hp,_,_=>(List.nil_perm.1 hp).symm ▸ rfl
 | x :: a,[],hp,_,_=>absurd hp.length_eq (by simp)
 | x :: a,y :: b,hp,ha,hb=>by
   rw [List.pairwise_cons] at ha hb
   have e:x = y:=by
     have hx:x ∈ y :: b:=hp.subset (by simp)
     have hy:y ∈ x :: a:=hp.symm.subset (by simp)
     rcases List.mem_cons.1 hx with rfl | hx
     · rfl
     rcases List.mem_cons.1 hy with e | hy
     · exact e.symm
     exact absurd (ltR_trans (ha.1 y hy) (hb.1 x hx)) (ltR_irr x)
   subst e
   rw [rows_uniq ((List.perm_cons x).1 hp) ha.2 hb.2]
theorem rows_ex (l:List TR) (hn:(l.map (·.1)).Nodup):∃ r:List TR,r.Perm l ∧ r.Pairwise ltR:=by
 let le:TR → TR → Bool:=fun a b=>! decide (ltR b a)
 have hs:(l.mergeSort le).Pairwise fun a b=>le a b = true:=by
   refine List.pairwise_mergeSort (le:=le) (fun a b c h1 h2=>?_) (fun a b=>?_) l
   · simp only [le,Bool.not_eq_true',decide_eq_false_iff_not] at h1 h2 ⊢
     exact ltR_ntrans h2 h1
   · simp only [le,Bool.or_eq_true,Bool.not_eq_true',decide_eq_false_iff_not]
     by_cases h:ltR b a
     · exact .inr fun h'=>ltR_irr a (ltR_trans h' h)
     · exact .inl h
 have hp:=List.mergeSort_perm l le
 refine ⟨l.mergeSort le,hp,pw_strict (hs.imp fun h=>?_) ((hp.map _).symm.nodup_iff.1 hn)⟩
 simpa [le] using h
noncomputable def b23 (x:List FN):(Int × List (Nm × Int)) → Option ((Int × List (Nm × Int)) ⊕ (List (Nm × Int) ⊕ List TR)):=fun s1 =>
 sel (ilt s1.1 (n2i (zAL x))) (need (inL s1.1 (zAL x)) <|
   some (.inl (zBo .i64 s1.1 1,mput seq s1.2 (((zAJ (0,(⟨#[]⟩:ByteArray),0) x (i2n s1.1)).2).1) (zBo .i64 (mget seq 0 s1.2 (((zAJ (0,(⟨#[]⟩:ByteArray),0) x (i2n s1.1)).2).1)) (((zAJ (0,(⟨#[]⟩:ByteArray),0) x (i2n s1.1)).2).2))))) <|
 some (.inr (.inl s1.2))
theorem F23_def (x:List FN):F23 x = call (F13 x) fun (r0:Int)=>sel (ine r0 0) (some ([]:List TR)) <| join (zCv (b23 x) (0,[])) fun (j2:List (Nm × Int)) =>
   need (mk 0 (n2i (zAL j2)) 32) <|
   mrange j2 (fun (p3:(ByteArray × Int)) (s4:(List (ByteArray × (Int × Int)))) =>
   call (F11 (x,p3.1)) fun (r5:Int) =>
   need (room (nadd (zAL s4) (zAL ((p3.1,p3.2,r5) :: ([]:List (ByteArray × (Int × Int)))))) 32) <|
   some (.inl (lcat s4 ((p3.1,p3.2,r5) :: ([]:List (ByteArray × (Int × Int))))))) (fun (s6:(List (ByteArray × (Int × Int)))) =>
   up (callQ (Q41 s6) fun (r7:(List (ByteArray × (Int × Int)))) =>
   some r7)) (lrep 0 ((⟨#[]⟩:ByteArray),0,0)):=rfl
theorem own_loop {x:List FN} (hx:x.length ≤ 2000) (hw:∀ v ∈ x,wOk v.2.2 = true):∃ M,Own x M ∧ zCv (b23 x) (0,[]) = some (.inl M):=by
 have hG:∀ i,i ≤ x.length → ∃ M,Own (x.take i) M ∧ Goes (b23 x) (0,[]) ((i:Int),M):=by
   intro i
   induction i with
   | zero=>exact fun _=>⟨[],Own.nil,Goes.refl _ _⟩
   | succ i ih =>
     intro hi
     obtain ⟨M,hM,hg⟩:=ih (by omega)
     have hil:i < x.length:=by omega
     refine ⟨mput seq M x[i].2.1 (mget seq 0 M x[i].2.1 + x[i].2.2),?_,hg.trans (Goes.one ?_)⟩
     · rw [List.take_succ_eq_append_getElem hil];exact hM.put x[i]
     · have hb:=slf_b (n:=x[i].2.1) (l:=x.take i) fun v hv=>hw v (List.mem_of_mem_take hv)
       have hs:-1099511627776 ≤ x[i].2.2 ∧ x[i].2.2 ≤ 1099511627776:=of_decide_eq_true (hw _ (List.getElem_mem hil))
       have hlt:(x.take i).length = i:=by rw [List.length_take];omega
       rw [hlt,← hM.get] at hb
       unfold b23
       dsimp only
       rw [zBy,zCA (by rw [zCB,zBC];exact decide_eq_true (by omega)),zAY (zDA hil),i2n_c,lget_t hil,iaddI (by omega) (by omega),iaddI (by omega) (by omega)]
       rfl
 obtain ⟨M,hM,hg⟩:=hG x.length (Nat.le_refl _)
 rw [List.take_length] at hM
 refine ⟨M,hM,hg.fin ?_⟩
 unfold b23
 dsimp only
 rw [zBy,zBU (by rw [zCB,zBC];exact decide_eq_false (by omega))]
theorem enc_w:∀ {F:Fo} {par:Int} {pl:Nat},F.okW = true → ∀ v ∈ F.enc par pl,wOk v.2.2 = true
 | .nil,_,_,_,v,hv=>by cases hv
 | .cons n s sub rest,par,pl,h,v,hv=>by
   rw [Fo.okW,Bool.and_eq_true,Bool.and_eq_true] at h
   rw [Fo.enc] at hv
   rcases List.mem_cons.1 hv with rfl | hv
   · exact h.1
   rcases List.mem_append.1 hv with hv | hv
   · exact enc_w h.2.1 v hv
   · exact enc_w h.2.2 v hv
def row (F:Fo) (p:Nm × Int):TR:=(p.1,p.2,F.msr (has p.1) [])
theorem row_names (F:Fo) (M:List (Nm × Int)):(M.map (row F)).map (·.1) = M.map (·.1):=by simp [row,Function.comp_def]
theorem fold_rows {F:Fo} (h13:F13 (F.enc (-1) 0) = some 0) (hw:F.okW = true) (hl:F.len ≤ 2000) {N:List TR → Option (List TR ⊕ List TR)} {e:List TR}:∀ (l:List (Nm × Int)) (s:List TR),s.length + l.length ≤ 100000 → N (s ++ l.map (row F)) = some (.inr e) →
   foldM (fun (p3:(ByteArray × Int)) (s4:(List (ByteArray × (Int × Int)))) =>
   call (F11 (F.enc (-1) 0,p3.1)) fun (r5:Int) =>
   need (room (nadd (zAL s4) (zAL ((p3.1,p3.2,r5) :: ([]:List (ByteArray × (Int × Int)))))) 32) <|
   some (.inl (lcat s4 ((p3.1,p3.2,r5) :: ([]:List (ByteArray × (Int × Int))))))) N l s = some e
 | [],s,_,h=>by
   rw [List.map_nil,List.append_nil] at h
   unfold foldM;rw [h]
 | p :: l,s,hsl,h=>by
   rw [List.length_cons] at hsl
   unfold foldM
   rw [zAd (F11_enc h13 hw hl p.1),zAY (room_t (by simp only [nadd,zAL,List.length_singleton];omega))]
   dsimp only
   refine fold_rows h13 hw hl l _ ?_ ?_
   · unfold lcat;rw [List.length_append,List.length_singleton];omega
   · unfold lcat
     rw [List.append_assoc];exact h
theorem F23_enc {F:Fo} (hG:F.Good 0) (hl:F.len ≤ 2000):∃ M r,Own (F.enc (-1) 0) M ∧ r.Perm (M.map (row F)) ∧ r.Pairwise ltR ∧ F23 (F.enc (-1) 0) = some r:=by
 have h13:=F13_enc hG hl
 obtain ⟨M,hM,hit⟩:=own_loop (x:=F.enc (-1) 0) (by rw [Fo.enc_len];exact hl) (enc_w hG.w)
 have hnd:((M.map (row F)).map (·.1)).Nodup:=by rw [row_names];exact hM.nd
 obtain ⟨r,hr1,hr2⟩:=rows_ex _ hnd
 have hMl:M.length ≤ 2000:=by
   have hsub:(M.map (·.1)).length ≤ ((F.enc (-1) 0).map (·.2.1)).length:=List.Nodup.length_le_of_subset hM.nd fun n hn=>by
     obtain ⟨v,hv,e⟩:=(hM.mem n).1 hn
     exact List.mem_map.2 ⟨v,hv,e⟩
   rw [List.length_map,List.length_map,Fo.enc_len] at hsub
   omega
 refine ⟨M,r,hM,hr1,hr2,?_⟩
 rw [F23_def,zAd h13,zBU (by rfl),join_l hit,zAY (mk_t (by omega) (by rw [zCB,zBC];omega) (by rw [zCB,zBC];omega) (by rw [zCB,zBC];omega))]
 refine mrange_of fun l' hl'=>?_
 refine fold_rows h13 hG.w hl l' _ ?_ ?_
 · have:=hl'.length_eq
   show 0 + l'.length ≤ _
   omega
 · have hpl:(l'.map (row F)).Perm (M.map (row F)):=hl'.map _
   show up (callQ (Q41 ([] ++ l'.map (row F))) _) = _
   rw [List.nil_append]
   have hq:callQ (Q41 (l'.map (row F))) (fun (r7:List TR)=>some r7) = some r:=by
     refine callQ_of ⟨r,by rw [List.length_map,hl'.length_eq];omega,hr1.trans hpl.symm,hr2.imp fun {a b} h h'=>ltR_irr a (ltR_trans h h')⟩ fun a ha=>?_
     obtain ⟨_,a1,a2⟩:=ha
     have a3:=a1.trans (hpl.trans hr1.symm)
     refine congrArg some (rows_uniq a3 (pw_strict a2 ?_) hr2)
     have:=(a1.trans hpl).map (·.1)
     exact this.symm.nodup_iff.1 hnd
   rw [hq];rfl
abbrev St37:=Int × List Int
noncomputable def b37 (x:(List (Int × (ByteArray × Int)))):St37 → Option (St37 ⊕ (List Int ⊕ List Int)) :=
(fun (s1:(Int × (List Int))) =>
sel (ile 0 s1.1) (join (need (inL s1.1 (zAL s1.2)) <|
need (inL s1.1 (zAL x)) <|
need (inL s1.1 (zAL s1.2)) <|
need (inL s1.1 (zAL x)) <|
sel (ile 0 ((zAJ (0,(⟨#[]⟩:ByteArray),0) x (i2n s1.1)).1)) (need (inL s1.1 (zAL x)) <|
need (inL ((zAJ (0,(⟨#[]⟩:ByteArray),0) x (i2n s1.1)).1) (zAL (lset s1.2 (i2n s1.1) (zBo .i64 (zAJ 0 s1.2 (i2n s1.1)) (((zAJ (0,(⟨#[]⟩:ByteArray),0) x (i2n s1.1)).2).2))))) <|
need (inL s1.1 (zAL (lset s1.2 (i2n s1.1) (zBo .i64 (zAJ 0 s1.2 (i2n s1.1)) (((zAJ (0,(⟨#[]⟩:ByteArray),0) x (i2n s1.1)).2).2))))) <|
need (inL ((zAJ (0,(⟨#[]⟩:ByteArray),0) x (i2n s1.1)).1) (zAL (lset s1.2 (i2n s1.1) (zBo .i64 (zAJ 0 s1.2 (i2n s1.1)) (((zAJ (0,(⟨#[]⟩:ByteArray),0) x (i2n s1.1)).2).2))))) <|
some (.inl (lset (lset s1.2 (i2n s1.1) (zBo .i64 (zAJ 0 s1.2 (i2n s1.1)) (((zAJ (0,(⟨#[]⟩:ByteArray),0) x (i2n s1.1)).2).2))) (i2n ((zAJ (0,(⟨#[]⟩:ByteArray),0) x (i2n s1.1)).1)) (zBo .i64 (zAJ 0 (lset s1.2 (i2n s1.1) (zBo .i64 (zAJ 0 s1.2 (i2n s1.1)) (((zAJ (0,(⟨#[]⟩:ByteArray),0) x (i2n s1.1)).2).2))) (i2n ((zAJ (0,(⟨#[]⟩:ByteArray),0) x (i2n s1.1)).1))) (zAJ 0 (lset s1.2 (i2n s1.1) (zBo .i64 (zAJ 0 s1.2 (i2n s1.1)) (((zAJ (0,(⟨#[]⟩:ByteArray),0) x (i2n s1.1)).2).2))) (i2n s1.1)))))) <|
some (.inl (lset s1.2 (i2n s1.1) (zBo .i64 (zAJ 0 s1.2 (i2n s1.1)) (((zAJ (0,(⟨#[]⟩:ByteArray),0) x (i2n s1.1)).2).2))))) fun (j2:(List Int)) =>
some (.inl (isub .i64 s1.1 1,j2))) <|
some (.inr (.inl s1.2)))
theorem F37_def (x:List FN):F37 x = call (F13 x) fun (r0:Int)=>sel (ine r0 0) (some ([]:List Int)) <| need (mk (n2i (zAL x)) (n2i (zAL x)) 8) <| join (zCv (b37 x) (isub .i64 (n2i (zAL x)) 1,lrep (n2i (zAL x)) 0)) fun (j3:List Int)=>some j3:=rfl
namespace Fo
def sm:Fo → Int
 | .nil=>0
 | .cons n s sub rest=>s + sub.sm + rest.sm
def tot:Fo → List Int
 | .nil=>[]
 | .cons n s sub rest=>(s + sub.sm) :: (sub.tot ++ rest.tot)
theorem tot_len:∀ F:Fo,F.tot.length = F.len
 | .nil=>rfl
 | .cons n s sub rest=>by rw [tot,List.length_cons,List.length_append,tot_len sub,tot_len rest,len];omega
theorem sm_b:∀ {F:Fo},F.okW = true → -(1099511627776 * (F.len:Int)) ≤ F.sm ∧ F.sm ≤ 1099511627776 * (F.len:Int)
 | .nil,_=>by simp [sm,len]
 | .cons n s sub rest,h=>by
   rw [Fo.okW,Bool.and_eq_true,Bool.and_eq_true] at h
   have h1:-1099511627776 ≤ s ∧ s ≤ 1099511627776:=of_decide_eq_true h.1
   have h2:=sm_b h.2.1
   have h3:=sm_b h.2.2
   rw [sm,len]
   omega
theorem tot_b:∀ {F:Fo},F.okW = true → ∀ v ∈ F.tot,-(1099511627776 * (F.len:Int)) ≤ v ∧ v ≤ 1099511627776 * (F.len:Int)
 | .nil,_,v,hv=>by cases hv
 | .cons n s sub rest,h,v,hv=>by
   rw [Fo.okW,Bool.and_eq_true,Bool.and_eq_true] at h
   have h1:-1099511627776 ≤ s ∧ s ≤ 1099511627776:=of_decide_eq_true h.1
   rw [tot] at hv
   rw [len]
   rcases List.mem_cons.1 hv with rfl | hv
   · have:=sm_b h.2.1;omega
   rcases List.mem_append.1 hv with hv | hv
   · have:=tot_b h.2.1 v hv;omega
   · have:=tot_b h.2.2 v hv;omega
theorem totD_b {F:Fo} (h:F.okW = true) (j:Nat):-(1099511627776 * (F.len:Int)) ≤ F.tot.getD j 0 ∧ F.tot.getD j 0 ≤ 1099511627776 * (F.len:Int):=by
 rw [List.getD_eq_getElem?_getD]
 cases e:F.tot[j]? with
 | none=>simp;omega
 | some v=>exact tot_b h v (List.mem_of_getElem? e)
end Fo
theorem getD_set {α:Type} {l:List α} {i j:Nat} {v d:α} (hi:i < l.length):(l.set i v).getD j d = if j = i then v else l.getD j d:=by
 rw [List.getD_eq_getElem?_getD,List.getD_eq_getElem?_getD,List.getElem?_set]
 by_cases h:i = j
 · subst h;rw [if_pos rfl,if_pos rfl,if_pos hi];rfl
 · rw [if_neg h,if_neg (fun e=>h e.symm)]
theorem isubI' {a b:Int} (h1:-9223372036854775808 ≤ a - b) (h2:a - b < 9223372036854775808):isub .i64 a b = a - b:=zBX h1 h2
theorem lget_n {α:Type} {x:List α} {pl:Nat} {v d:α} (h:x[pl]? = some v):zAJ d x pl = v:=zCz h
def next37 (T:List Int) (par:Int) (i:Nat) (s:Int):List Int:=if 0 ≤ par then (T.set i (T.getD i 0 + s)).set par.toNat ((T.set i (T.getD i 0 + s)).getD par.toNat 0 + (T.getD i 0 + s)) else T.set i (T.getD i 0 + s)
theorem st37 {x:List FN} {i:Nat} {T:List Int} {par:Int} {n:Nm} {s:Int} (hi:x[i]? = some (par,n,s)) (hx:x.length ≤ 2000) (hT:T.length = x.length) (hs:-1099511627776 ≤ s ∧ s ≤ 1099511627776)
   (hb:∀ j,-(1099511627776 * 2000) ≤ T.getD j 0 ∧ T.getD j 0 ≤ 1099511627776 * 2000) (hp:par = -1 ∨ ∃ k:Nat,par = (k:Int) ∧ k < i):b37 x ((i:Int),T) = some (.inl ((i:Int) - 1,next37 T par i s)):=by
 have hil:=At.lt hi
 have hbi:=hb i
 unfold b37
 dsimp only
 rw [ile_d,zCA (decide_eq_true (by omega)),zAY (zDA (by omega)),zAY (zDA hil),zAY (zDA (by omega)),zAY (zDA hil),zAY (zDA hil),i2n_c,lget_n hi,isubI' (by omega) (by omega)]
 have e1:zAJ 0 T i = T.getD i 0:=rfl
 have e2:∀ v,lset T i v = T.set i v:=fun _=>rfl
 dsimp only
 rw [ile_d,e1,iaddI (by omega) (by omega),e2]
 unfold next37
 rcases hp with rfl | ⟨k,rfl,hk⟩
 · rw [zBU (by decide),if_neg (by decide),zCg]
 · have e3:zAJ 0 (T.set i (T.getD i 0 + s)) k = T.getD k 0:=by
     show (T.set i _).getD k 0 = _
     rw [getD_set (by omega),if_neg (by omega)]
   have e4:zAJ 0 (T.set i (T.getD i 0 + s)) i = T.getD i 0 + s:=by
     show (T.set i _).getD i 0 = _
     rw [getD_set (by omega),if_pos rfl]
   have hbk:=hb k
   rw [zCA (decide_eq_true (by omega)),if_pos (by omega),i2n_c,e3,e4,Int.toNat_natCast]
   have hl:zAL (T.set i (T.getD i 0 + s)) = T.length:=List.length_set
   rw [hl,zAY (inL_t (by omega)),zAY (inL_t (by omega)),zAY (inL_t (by omega)),zCg,iaddI (by omega) (by omega),getD_set (by omega),if_neg (by omega)]
   rfl
theorem next37_len (T:List Int) (par:Int) (i:Nat) (s:Int):(next37 T par i s).length = T.length:=by unfold next37;split <;> simp
theorem next37_get {T:List Int} {par:Int} {i:Nat} {s:Int} (hi:i < T.length) (hp:par = -1 ∨ ∃ k:Nat,par = (k:Int) ∧ k < i) (j:Nat):(next37 T par i s).getD j 0 = if j = i then T.getD i 0 + s else if (j:Int) = par then T.getD j 0 + (T.getD i 0 + s) else T.getD j 0:=by
 unfold next37
 rcases hp with rfl | ⟨k,rfl,hk⟩
 · rw [if_neg (by decide),getD_set hi]
   by_cases h:j = i
   · rw [if_pos h,if_pos h]
   · rw [if_neg h,if_neg h,if_neg (by omega)]
 · rw [if_pos (by omega),Int.toNat_natCast,getD_set (by simp;omega),getD_set hi,getD_set hi,if_neg (by omega:¬ k = i)]
   by_cases h:j = k
   · subst h
     rw [if_pos rfl,if_neg (by omega),if_pos rfl]
   · rw [if_neg h]
     by_cases h2:j = i
     · rw [if_pos h2,if_pos h2]
     · rw [if_neg h2,if_neg h2,if_neg (by omega)]
theorem seg37 {x:List FN} (hx:x.length ≤ 2000):∀ (F:Fo) (par:Int) (pl:Nat) (T:List Int),At x pl (F.enc par pl) → F.okW = true → T.length = x.length → pl + F.len ≤ x.length → (∀ j,pl ≤ j → j < pl + F.len → T.getD j 0 = 0) → (par = -1 ∨ ∃ k:Nat,par = (k:Int) ∧ k < pl) →
   (∀ j,-(1099511627776 * ((x.length:Int) - ((pl + F.len:Nat):Int))) ≤ T.getD j 0 ∧ T.getD j 0 ≤ 1099511627776 * ((x.length:Int) - ((pl + F.len:Nat):Int))) →
   ∃ T',Goes (b37 x) (((pl + F.len:Nat):Int) - 1,T) ((pl:Int) - 1,T') ∧ T'.length = x.length ∧ ∀ j,T'.getD j 0 = if pl ≤ j ∧ j < pl + F.len then F.tot.getD (j - pl) 0 else if (j:Int) = par then T.getD j 0 + F.sm else T.getD j 0
 | .nil,par,pl,T,_,_,h3,_,_,_,_=>⟨T,by rw [Fo.len,Nat.add_zero];exact Goes.refl _ _,h3,fun j=>by
     rw [Fo.len,if_neg (by omega),Fo.sm]
     split <;> omega⟩
 | .cons n s sub rest,par,pl,T,hA,hw,h3,h4,h5,h6,h7=>by
   rw [Fo.enc] at hA
   have hi:=hA.head
   have hA1:=hA.tail.left
   have hA2:=hA.tail.right
   rw [Fo.enc_len] at hA2
   rw [Fo.okW,Bool.and_eq_true,Bool.and_eq_true] at hw
   have hs:-1099511627776 ≤ s ∧ s ≤ 1099511627776:=of_decide_eq_true hw.1
   rw [Fo.len] at h4 h5 h7
   have hpl:pl < x.length:=by omega
   have e1:pl + (1 + sub.len + rest.len) = pl + 1 + sub.len + rest.len:=by omega
   rw [e1] at h7
   obtain ⟨T1,a1,a2,a3⟩:=seg37 hx rest par (pl + 1 + sub.len) T hA2 hw.2.2 h3 (by omega) (fun j h h'=>h5 j (by omega) (by omega)) (by
     rcases h6 with h | ⟨k,h,h'⟩
     · exact .inl h
     · exact .inr ⟨k,h,by omega⟩) h7
   have hb1:∀ j,-(1099511627776 * ((x.length:Int) - ((pl + 1 + sub.len:Nat):Int))) ≤ T1.getD j 0 ∧ T1.getD j 0 ≤ 1099511627776 * ((x.length:Int) - ((pl + 1 + sub.len:Nat):Int)):=fun j=>by
     have r1:=Fo.totD_b hw.2.2 (j - (pl + 1 + sub.len))
     have r2:=Fo.sm_b hw.2.2
     have r3:=h7 j
     rw [a3 j]
     split
     · omega
     · split <;> omega
   obtain ⟨T2,u1,u2,u3⟩:=seg37 hx sub (pl:Int) (pl + 1) T1 hA1 hw.2.1 a2 (by omega) (fun j h h'=>by
     rw [a3 j,if_neg (by omega),if_neg (by rcases h6 with h | ⟨k,h,h'⟩ <;> omega)]
     exact h5 j (by omega) (by omega)) (.inr ⟨pl,rfl,by omega⟩) hb1
   have hb2:∀ j,-(1099511627776 * ((x.length:Int) - ((pl + 1:Nat):Int))) ≤ T2.getD j 0 ∧ T2.getD j 0 ≤ 1099511627776 * ((x.length:Int) - ((pl + 1:Nat):Int)):=fun j=>by
     have r1:=Fo.totD_b hw.2.1 (j - (pl + 1))
     have r2:=Fo.sm_b hw.2.1
     have r3:=hb1 j
     rw [u3 j]
     split
     · omega
     · split <;> omega
   have hst:=st37 hi hx u2 hs (fun j=>by have:=hb2 j;omega) h6
   refine ⟨next37 T2 par pl s,?_,by rw [next37_len,u2],fun j=>?_⟩
   · rw [Fo.len,e1]
     have u1':Goes (b37 x) (((pl + 1 + sub.len:Nat):Int) - 1,T1) ((pl:Int),T2):=by
       have e:(((pl + 1:Nat):Int) - 1) = (pl:Int):=by omega
       rw [e] at u1;exact u1
     exact a1.trans (u1'.trans (Goes.one hst))
   · have r2:T2.getD pl 0 = sub.sm:=by
       rw [u3 pl,if_neg (by omega),if_pos rfl,a3 pl,if_neg (by omega),if_neg (by rcases h6 with h | ⟨k,h,h'⟩ <;> omega),h5 pl (by omega) (by omega),Int.zero_add]
     rw [next37_get (by omega) h6,r2,Fo.len,Fo.tot,Fo.sm]
     by_cases j1:j = pl
     · subst j1
       rw [if_pos rfl,if_pos (by omega),Nat.sub_self]
       show sub.sm + s = s + sub.sm
       omega
     rw [if_neg j1]
     by_cases j2:pl ≤ j ∧ j < pl + (1 + sub.len + rest.len)
     · have hp':¬ (j:Int) = par:=by rcases h6 with h | ⟨k,h,h'⟩ <;> omega
       rw [if_neg hp',if_pos j2,u3 j]
       have e5:j - pl = (j - pl - 1) + 1:=by omega
       rw [e5,List.getD_cons_succ]
       by_cases j3:j < pl + 1 + sub.len
       · rw [if_pos (by omega),List.getD_eq_getElem?_getD,List.getD_eq_getElem?_getD,List.getElem?_append_left (by rw [Fo.tot_len];omega)]
         congr 2
       · rw [if_neg (by omega),if_neg (by omega),a3 j,if_pos (by omega),List.getD_eq_getElem?_getD,List.getD_eq_getElem?_getD,List.getElem?_append_right (by rw [Fo.tot_len];omega),Fo.tot_len]
         congr 2
         omega
     · have hT2:T2.getD j 0 = if (j:Int) = par then T.getD j 0 + rest.sm else T.getD j 0:=by
         rw [u3 j,if_neg (by omega),if_neg (by omega),a3 j,if_neg (by omega)]
       rw [if_neg j2,hT2]
       by_cases hp':(j:Int) = par
       · rw [if_pos hp',if_pos hp',if_pos hp'];omega
       · rw [if_neg hp',if_neg hp',if_neg hp']
theorem F37_enc {F:Fo} (h13:F13 (F.enc (-1) 0) = some 0) (hw:F.okW = true) (hl:F.len ≤ 2000):F37 (F.enc (-1) 0) = some F.tot:=by
 have hL:(F.enc (-1) 0).length = F.len:=Fo.enc_len F _ _
 obtain ⟨T',h1,h2,h3⟩:=seg37 (x:=F.enc (-1) 0) (by omega) F (-1) 0 (List.replicate F.len 0) (At.all _) hw (by simp [hL]) (by omega) (fun j _ _=>by
   rw [List.getD_eq_getElem?_getD,List.getElem?_replicate];split <;> rfl) (.inl rfl) (fun j=>by
   have:(List.replicate F.len (0:Int)).getD j 0 = 0:=by rw [List.getD_eq_getElem?_getD,List.getElem?_replicate];split <;> rfl
   rw [this];omega)
 have hT:T' = F.tot:=by
   refine List.ext_getElem? fun j=>?_
   by_cases hj:j < F.len
   · have:=h3 j
     rw [if_pos (by omega),Nat.sub_zero,List.getD_eq_getElem?_getD,List.getD_eq_getElem?_getD,List.getElem?_eq_getElem (by omega),List.getElem?_eq_getElem (by rw [Fo.tot_len];exact hj)] at this
     rw [List.getElem?_eq_getElem (by omega),List.getElem?_eq_getElem (by rw [Fo.tot_len];exact hj)]
     exact congrArg some this
   · rw [List.getElem?_eq_none (by omega),List.getElem?_eq_none (by rw [Fo.tot_len];omega)]
 subst hT
 have e0:lrep (n2i (zAL (F.enc (-1) 0))) (0:Int) = List.replicate F.len 0:=by
   unfold lrep;rw [zCB,zBC,hL];rfl
 rw [F37_def,zAd h13,zBU (by rfl),zAY (mk_t (by rw [zCB];omega) (by omega) (by rw [zCB,zBC,hL];omega) (by rw [zCB,zBC,hL];omega)),e0,zCB,zBC,hL,isubI' (by omega) (by omega)]
 have h1':Goes (b37 (F.enc (-1) 0)) ((F.len:Int) - 1,List.replicate F.len 0) (-1,F.tot):=by
   rw [Nat.zero_add] at h1;exact h1
 refine join_l (h1'.fin ?_)
 unfold b37
 dsimp only
 rw [zBU (by rfl)]
abbrev St14:=Int × List Bool × List Bool
noncomputable def b14 (x:((List (Int × (ByteArray × Int))) × Int)) (r1:List Int):St14 → Option (St14 ⊕ (List Bool ⊕ (List FN × Int))) :=
(fun (s2:(Int × ((List Bool) × (List Bool)))) =>
sel (ilt s2.1 (n2i (zAL x.1))) (join (need (inL s2.1 (zAL x.1)) <|
need (inL s2.1 (zAL r1)) <|
need (impl (band (ile x.2 (zAJ 0 r1 (i2n s2.1))) (zCQ (ilt ((zAJ (0,(⟨#[]⟩:ByteArray),0) x.1 (i2n s2.1)).1) 0))) (inL ((zAJ (0,(⟨#[]⟩:ByteArray),0) x.1 (i2n s2.1)).1) (zAL s2.2.1))) <|
need (inL s2.1 (zAL s2.2.1)) <|
sel (ine (((zAJ (0,(⟨#[]⟩:ByteArray),0) x.1 (i2n s2.1)).2).2) 0) (need (inL s2.1 (zAL (lset s2.2.1 (i2n s2.1) (zAH (ile x.2 (zAJ 0 r1 (i2n s2.1))) (zAH (ilt ((zAJ (0,(⟨#[]⟩:ByteArray),0) x.1 (i2n s2.1)).1) 0) true (zAJ false s2.2.1 (i2n ((zAJ (0,(⟨#[]⟩:ByteArray),0) x.1 (i2n s2.1)).1)))) false)))) <|
need (room (nadd (zAL s2.2.2) (zAL (zAJ false (lset s2.2.1 (i2n s2.1) (zAH (ile x.2 (zAJ 0 r1 (i2n s2.1))) (zAH (ilt ((zAJ (0,(⟨#[]⟩:ByteArray),0) x.1 (i2n s2.1)).1) 0) true (zAJ false s2.2.1 (i2n ((zAJ (0,(⟨#[]⟩:ByteArray),0) x.1 (i2n s2.1)).1)))) false)) (i2n s2.1) :: ([]:List Bool)))) 1) <|
some (.inl (lset s2.2.1 (i2n s2.1) (zAH (ile x.2 (zAJ 0 r1 (i2n s2.1))) (zAH (ilt ((zAJ (0,(⟨#[]⟩:ByteArray),0) x.1 (i2n s2.1)).1) 0) true (zAJ false s2.2.1 (i2n ((zAJ (0,(⟨#[]⟩:ByteArray),0) x.1 (i2n s2.1)).1)))) false),lcat s2.2.2 (zAJ false (lset s2.2.1 (i2n s2.1) (zAH (ile x.2 (zAJ 0 r1 (i2n s2.1))) (zAH (ilt ((zAJ (0,(⟨#[]⟩:ByteArray),0) x.1 (i2n s2.1)).1) 0) true (zAJ false s2.2.1 (i2n ((zAJ (0,(⟨#[]⟩:ByteArray),0) x.1 (i2n s2.1)).1)))) false)) (i2n s2.1) :: ([]:List Bool))))) <|
some (.inl (lset s2.2.1 (i2n s2.1) (zAH (ile x.2 (zAJ 0 r1 (i2n s2.1))) (zAH (ilt ((zAJ (0,(⟨#[]⟩:ByteArray),0) x.1 (i2n s2.1)).1) 0) true (zAJ false s2.2.1 (i2n ((zAJ (0,(⟨#[]⟩:ByteArray),0) x.1 (i2n s2.1)).1)))) false),s2.2.2))) fun (j3:((List Bool) × (List Bool))) =>
some (.inl (zBo .i64 s2.1 1,j3.1,j3.2))) <|
some (.inr (.inl s2.2.2)))
theorem F14_def (x:List FN × Int):F14 x = call (F13 x.1) fun (r0:Int)=>sel (ine r0 0) (some (([]:List FN),1)) <| call (F37 x.1) fun (r1:List Int)=>need (mk (n2i (zAL x.1)) (n2i (zAL x.1)) 1) <| join (zCv (b14 x r1) (0,lrep (n2i (zAL x.1)) false,[])) fun (j4:List Bool)=>call (F31b (x.1,j4)) fun (r5:(List FN × Int) × List Bool)=>some (r5.1.1,r5.1.2):=rfl
theorem st14 {x:List FN} {least:Int} {tt:List Int} {i:Nat} {R Sy:List Bool} {par:Int} {n:Nm} {s:Int} {b:Bool} (hi:x[i]? = some (par,n,s)) (hx:x.length ≤ 2000) (htl:tt.length = x.length) (hR:R.length = x.length) (hSy:Sy.length ≤ 2000)
   (hp:(par = -1 ∧ b = true) ∨ ∃ k:Nat,par = (k:Int) ∧ k < i ∧ R.getD k false = b):b14 (x,least) tt ((i:Int),R,Sy) = some (.inl (((i + 1:Nat):Int),R.set i (decide (least ≤ tt.getD i 0) && b),Sy ++ if s ≠ 0 then [decide (least ≤ tt.getD i 0) && b] else [])):=by
 have hil:=At.lt hi
 have hv:zAH (ile least (zAJ 0 tt i)) (zAH (ilt par 0) true (zAJ false R (i2n par))) false = (decide (least ≤ tt.getD i 0) && b):=by
   rw [zCu,pick_or,ile_d,zBy]
   show (decide (least ≤ tt.getD i 0) && _) = _
   congr 1
   rcases hp with ⟨rfl,rfl⟩ | ⟨k,rfl,hk,h⟩
   · rfl
   · rw [decide_eq_false (by omega),Bool.false_or,i2n_c];exact h
 unfold b14
 dsimp only
 rw [zBy,zCA (by rw [zCB,zBC];exact decide_eq_true (by omega)),zAY (zDA hil),zAY (zDA (by omega)),i2n_c,lget_n hi]
 dsimp only
 rw [zAY (impl_t fun h=>by
   rcases hp with ⟨rfl,_⟩ | ⟨k,rfl,hk,_⟩
   · rw [band_d,Bool.and_eq_true] at h;exact absurd h.2 (by decide)
   · exact zDA (by omega)),zAY (zDA (by omega)),hv]
 have e1:lset R i (decide (least ≤ tt.getD i 0) && b) = R.set i (decide (least ≤ tt.getD i 0) && b):=rfl
 have e2:zAJ false (R.set i (decide (least ≤ tt.getD i 0) && b)) i = (decide (least ≤ tt.getD i 0) && b):=by
   show (R.set i _).getD i false = _
   rw [getD_set (by omega),if_pos rfl]
 rw [e1,e2,iaddI (by omega) (by omega),ine_d]
 have hl:zAL (R.set i (decide (least ≤ tt.getD i 0) && b)) = R.length:=List.length_set
 by_cases h0:s ≠ 0
 · rw [zCA (decide_eq_true h0),hl,zAY (inL_t (by omega)),zAY (room_t (by simp only [nadd,zAL,List.length_singleton];omega)),zCg,if_pos h0];rfl
 · rw [zBU (decide_eq_false h0),zCg,if_neg h0,List.append_nil];rfl
namespace Fo
def sty (least:Int):Fo → Bool → List Bool
 | .nil,_=>[]
 | .cons n s sub rest,b=>(if s ≠ 0 then [decide (least ≤ s + sub.sm) && b] else []) ++ (sub.sty least (decide (least ≤ s + sub.sm) && b) ++ rest.sty least b)
theorem sty_len (least:Int):∀ (F:Fo) (b:Bool) (p:List Nm),(F.sty least b).length = (F.stk p).length
 | .nil,_,_=>rfl
 | .cons n s sub rest,b,p=>by
   rw [sty,stk,List.length_append,List.length_append,List.length_append,List.length_append,sty_len least sub _ (p ++ [n]),sty_len least rest b p]
   split <;> rfl
def hvy (least:Int):Fo → List Nm → Bool
 | _,[]=>true
 | F,m :: q=>decide (least ≤ (F.kid m).1 + (F.kid m).2.sm) && hvy least (F.kid m).2 q
theorem kid_self (n:Nm) (s:Int) (sub rest:Fo):(Fo.cons n s sub rest).kid n = (s,sub):=by rw [kid,if_pos rfl]
theorem kid_other {n m:Nm} (s:Int) (sub rest:Fo) (h:m ≠ n):(Fo.cons n s sub rest).kid m = rest.kid m:=by rw [kid];first | rw [if_neg h] | rw [if_neg (fun e=>h e.symm)]
theorem sty_stk (least:Int) (P:List Nm → Bool):∀ (F:Fo) (p:List Nm) (b:Bool),F.Srt → (∀ m ∈ F.heads,∀ q,P (p ++ m :: q) = (b && F.hvy least (m :: q))) →
   (((F.stk p).zip (F.sty least b)).filter (·.2)).map (·.1) = (F.stk p).filter fun x=>P x.1
 | .nil,_,_,_,_=>rfl
 | .cons n s sub rest,p,b,hS,hP=>by
   rw [stk,sty]
   have hn:=hP n (by simp [heads])
   have hnr:n ∉ rest.heads:=not_head hS.1
   have hP0:P (p ++ [n]) = (decide (least ≤ s + sub.sm) && b):=by
     rw [hn [],hvy,kid_self,hvy,Bool.and_true,Bool.and_comm]
   have hr1:=sty_stk least P sub (p ++ [n]) (decide (least ≤ s + sub.sm) && b) hS.2.1 fun m hm q=>by
     rw [List.append_assoc,List.singleton_append,hn,hvy,kid_self]
     dsimp only
     rw [← Bool.and_assoc,Bool.and_comm b]
   have hr2:=sty_stk least P rest p b hS.2.2 fun m hm q=>by
     rw [hP m (by simp [heads,hm]) q,hvy,hvy,kid_other (n:=n) (m:=m) s sub rest (fun e=>hnr (e ▸ hm))]
   rw [List.zip_append (by split <;> rfl),List.zip_append (by rw [sty_len least sub _ (p ++ [n])]),List.filter_append,List.filter_append,List.map_append,List.map_append,List.filter_append,List.filter_append,hr1,hr2]
   congr 1
   by_cases h:s ≠ 0
   · rw [if_pos h,if_pos h,List.zip_cons_cons,List.zip_nil_left]
     cases e:(decide (least ≤ s + sub.sm) && b)
     · rw [List.filter_cons_of_neg (by simp),List.filter_cons_of_neg (by simp [hP0,e])];rfl
     · rw [List.filter_cons_of_pos (by simp),List.filter_cons_of_pos (by simp [hP0,e])];rfl
   · rw [if_neg h,if_neg h];rfl
end Fo
theorem seg14 {x:List FN} {least:Int} {tt:List Int} (hx:x.length ≤ 2000) (htl:tt.length = x.length):∀ (F:Fo) (par:Int) (pl:Nat) (R Sy:List Bool) (b:Bool),At x pl (F.enc par pl) → At tt pl F.tot → R.length = x.length → Sy.length + F.len ≤ 2000 →
   ((par = -1 ∧ b = true) ∨ ∃ k:Nat,par = (k:Int) ∧ k < pl ∧ R.getD k false = b) →
   ∃ R',Goes (b14 (x,least) tt) ((pl:Int),R,Sy) (((pl + F.len:Nat):Int),R',Sy ++ F.sty least b) ∧ R'.length = x.length ∧ ∀ k,k < pl → R'.getD k false = R.getD k false
 | .nil,par,pl,R,Sy,b,_,_,h3,_,_=>⟨R,by rw [Fo.sty,List.append_nil];exact Goes.refl _ _,h3,fun _ _=>rfl⟩
 | .cons n s sub rest,par,pl,R,Sy,b,hA,hT,h3,h4,h6=>by
   rw [Fo.enc] at hA
   rw [Fo.tot] at hT
   have hi:=hA.head
   have hil:=At.lt hi
   have hA1:=hA.tail.left
   have hA2:=hA.tail.right
   rw [Fo.enc_len] at hA2
   have hT1:=hT.tail.left
   have hT2:=hT.tail.right
   rw [Fo.tot_len] at hT2
   have ht:tt.getD pl 0 = s + sub.sm:=by rw [List.getD_eq_getElem?_getD,hT.head];rfl
   rw [Fo.len] at h4
   have hst:=st14 (least:=least) (b:=b) hi hx htl h3 (Sy:=Sy) (by omega) h6
   rw [ht] at hst
   have hset:∀ k,k < pl → (R.set pl (decide (least ≤ s + sub.sm) && b)).getD k false = R.getD k false:=fun k hk=>by
     rw [getD_set (by omega),if_neg (by omega)]
   have hlen:(if s ≠ 0 then [decide (least ≤ s + sub.sm) && b] else []).length ≤ 1:=by split <;> simp
   have hsub:(sub.sty least (decide (least ≤ s + sub.sm) && b)).length ≤ sub.len:=by rw [Fo.sty_len least sub _ []];exact stk_len sub []
   obtain ⟨m1,a1,a2,a3⟩:=seg14 hx htl sub (pl:Int) (pl + 1) (R.set pl (decide (least ≤ s + sub.sm) && b)) (Sy ++ if s ≠ 0 then [decide (least ≤ s + sub.sm) && b] else []) (decide (least ≤ s + sub.sm) && b) hA1 hT1 (by simpa using h3) (by rw [List.length_append];omega)
     (.inr ⟨pl,rfl,by omega,by rw [getD_set (by omega),if_pos rfl]⟩)
   obtain ⟨m2,b1,b2,b3⟩:=seg14 hx htl rest par (pl + 1 + sub.len) m1 ((Sy ++ if s ≠ 0 then [decide (least ≤ s + sub.sm) && b] else []) ++ sub.sty least (decide (least ≤ s + sub.sm) && b)) b hA2 hT2 a2 (by rw [List.length_append,List.length_append];omega)
     (by
       rcases h6 with h6 | ⟨k,r1,r2,r3⟩
       · exact .inl h6
       · exact .inr ⟨k,r1,by omega,by rw [a3 k (by omega),hset k r2];exact r3⟩)
   refine ⟨m2,?_,b2,fun k hk=>by rw [b3 k (by omega),a3 k (by omega),hset k hk]⟩
   have hG:=(Goes.one hst).trans (a1.trans b1)
   rw [Fo.sty,Fo.len]
   rw [show pl + (1 + sub.len + rest.len) = pl + 1 + sub.len + rest.len by omega]
   simp only [List.append_assoc] at hG ⊢
   exact hG
noncomputable def b31 (r1:List Sk):(Int × (List Bool × List Sk)) → Option ((Int × (List Bool × List Sk)) ⊕ ((List Bool × List Sk) ⊕ ((List FN × Int) × List Bool))):=fun s2 =>
 sel (ilt s2.1 (n2i (zAL r1))) (join (need (inL s2.1 (zAL r1)) <|
 call (F38 (s2.1,zAJ (([]:List ByteArray),0) r1 (i2n s2.1),s2.2.1)) fun (r3:((((List ByteArray) × Int) × Bool) × (List Bool))) =>
 sel r3.1.2 (need (room (nadd (zAL s2.2.2) (zAL (r3.1.1 :: ([]:List ((List ByteArray) × Int))))) 32) <|
 some (.inl (r3.2,lcat s2.2.2 (r3.1.1 :: ([]:List ((List ByteArray) × Int)))))) <|
 some (.inl (r3.2,s2.2.2))) fun (j4:((List Bool) × (List ((List ByteArray) × Int)))) =>
 some (.inl (zBo .i64 s2.1 1,j4.1,j4.2))) <|
 some (.inr (.inl (s2.2.1,s2.2.2)))
theorem F31b_def (x:List FN × List Bool):F31b x = call (F13 x.1) fun (r0:Int)=>sel (ine r0 0) (some (([],1),x.2)) <| call (F16 x.1) fun (r1:List Sk)=>join (zCv (b31 r1) (0,x.2,[])) fun j5=>call (F29 j5.2) fun (r6:List FN × Int)=>sel (ine r6.2 0) (some (([],r6.2),j5.1)) <| some ((r6.1,0),j5.1):=rfl
theorem b31_loop {l:List Sk} {bits:List Bool} (hl:l.length ≤ 2000) (hb:bits.length = l.length):zCv (b31 l) (0,bits,[]) = some (.inl (bits,((l.zip bits).filter (·.2)).map (·.1))):=by
 have hG:∀ i,i ≤ l.length → Goes (b31 l) (0,bits,[]) ((i:Int),bits,(((l.zip bits).take i).filter (·.2)).map (·.1)):=by
   intro i
   induction i with
   | zero=>intro _;exact Goes.refl _ _
   | succ i ih =>
     intro hi
     refine (ih (by omega)).trans (Goes.one ?_)
     have hil:i < l.length:=by omega
     have hib:i < bits.length:=by omega
     have hiz:i < (l.zip bits).length:=by rw [List.length_zip];omega
     have hlen:((((l.zip bits).take i).filter (·.2)).map (·.1)).length ≤ i:=by
       rw [List.length_map];exact Nat.le_trans (List.length_filter_le _ _) (by rw [List.length_take];omega)
     have h38:F38 ((i:Int),l[i],bits) = some ((l[i],bits[i]),bits):=by
       unfold F38
       dsimp only
       rw [if_pos (by omega),Int.toNat_natCast]
       congr 3
       rw [List.getD_eq_getElem?_getD,List.getElem?_eq_getElem hib];rfl
     unfold b31
     dsimp only
     rw [zBy,zCA (by rw [zCB,zBC];exact decide_eq_true (by omega)),zAY (zDA hil),i2n_c,lget_t hil,zAd h38,List.take_succ_eq_append_getElem hiz,List.filter_append,List.map_append]
     rw [iaddI (by omega) (by omega),List.getElem_zip]
     dsimp only
     cases hk:bits[i]
     · rw [zBU rfl,zCg,List.filter_cons_of_neg (by simp)];simp
     · rw [zCA rfl,zAY (room_t (by simp only [nadd,zAL,List.length_singleton];omega)),zCg,List.filter_cons_of_pos rfl];rfl
 refine (hG l.length (Nat.le_refl _)).fin ?_
 unfold b31
 dsimp only
 rw [zBy,zBU (by rw [zCB,zBC];exact decide_eq_false (by omega)),List.take_of_length_le (by rw [List.length_zip];omega)]
theorem F14_enc {F:Fo} (hG:F.Good 0) (hl:F.len ≤ 2000) (least:Int):F14 (F.enc (-1) 0,least) = some ((kp (F.hvy least) F).enc (-1) 0,0):=by
 have h13:=F13_enc hG hl
 have hL:(F.enc (-1) 0).length = F.len:=Fo.enc_len F _ _
 have hsl:=stk_len F []
 obtain ⟨R',h1,_,_⟩:=seg14 (x:=F.enc (-1) 0) (least:=least) (tt:=F.tot) (by omega) (by rw [Fo.tot_len,hL]) F (-1) 0 (List.replicate F.len false) [] true (At.all _) (At.all _) (by simp [hL]) (by simpa using hl) (.inl ⟨rfl,rfl⟩)
 have e0:lrep (n2i (zAL (F.enc (-1) 0))) false = List.replicate F.len false:=by
   unfold lrep;rw [zCB,zBC,hL];rfl
 have hz:=Fo.sty_stk least (F.hvy least) F [] true hG.srt fun m _ q=>by rw [List.nil_append,Bool.true_and]
 have h31:F31b (F.enc (-1) 0,F.sty least true) = some (((kp (F.hvy least) F).enc (-1) 0,0),F.sty least true):=by
   rw [F31b_def,zAd h13,zBU (by rfl),zAd (F16_enc h13 hG.nd hl),join_l (b31_loop (by omega) (Fo.sty_len least F true [])),hz]
   dsimp only
   rw [zAd (F29_eq (by have:=List.length_filter_le (fun x:Sk=>F.hvy least x.1) (F.stk []);omega)),of_keep _ hG hl]
   rfl
 rw [F14_def,zAd h13,zBU (by rfl),zAd (F37_enc h13 hG.w hl),zAY (mk_t (by rw [zCB];omega) (by omega) (by rw [zCB,zBC,hL];omega) (by rw [zCB,zBC,hL];omega))]
 dsimp only
 rw [e0]
 refine (join_l (h1.fin (e:=.inl (F.sty least true)) ?_)).trans ?_
 · unfold b14
   dsimp only
   rw [zBy,zBU (by rw [zCB,zBC,hL];exact decide_eq_false (by omega))];rfl
 · rw [zAd h31]
open Go Go.T Go.Pl
abbrev St5:=Int × (Int × List Nm)
noncomputable def b5 (x:(List (Int × (ByteArray × Int)))) (r2:List TR):St5 → Option (St5 ⊕ ((Int × List Nm) ⊕ Bool)) :=
(fun (s3:(Int × (Int × (List ByteArray)))) =>
sel (ilt s3.2.1 (n2i (zAL r2))) (need (inL s3.2.1 (zAL r2)) <|
call (F24 (s3.2.2,(zAJ ((⟨#[]⟩:ByteArray),0,0) r2 (i2n s3.2.1)).1)) fun (r4:Bool) =>
call (sel (zCQ r4) (F11 (x,(zAJ ((⟨#[]⟩:ByteArray),0,0) r2 (i2n s3.2.1)).1)) <|
some 0) fun (r5:Int) =>
need (impl (band (zCQ (zAH r4 true (ine (((zAJ ((⟨#[]⟩:ByteArray),0,0) r2 (i2n s3.2.1)).2).2) r5))) (ilt 0 s3.2.1)) (inL (isub .i64 s3.2.1 1) (zAL r2))) <|
need (impl (band (band (zCQ (zAH r4 true (ine (((zAJ ((⟨#[]⟩:ByteArray),0,0) r2 (i2n s3.2.1)).2).2) r5))) (ilt 0 s3.2.1)) (zCQ (ilt (((zAJ ((⟨#[]⟩:ByteArray),0,0) r2 (i2n (isub .i64 s3.2.1 1))).2).2) (((zAJ ((⟨#[]⟩:ByteArray),0,0) r2 (i2n s3.2.1)).2).2)))) (inL (isub .i64 s3.2.1 1) (zAL r2))) <|
need (impl (band (band (band (zCQ (zAH r4 true (ine (((zAJ ((⟨#[]⟩:ByteArray),0,0) r2 (i2n s3.2.1)).2).2) r5))) (ilt 0 s3.2.1)) (zCQ (ilt (((zAJ ((⟨#[]⟩:ByteArray),0,0) r2 (i2n (isub .i64 s3.2.1 1))).2).2) (((zAJ ((⟨#[]⟩:ByteArray),0,0) r2 (i2n s3.2.1)).2).2)))) (ieq (((zAJ ((⟨#[]⟩:ByteArray),0,0) r2 (i2n (isub .i64 s3.2.1 1))).2).2) (((zAJ ((⟨#[]⟩:ByteArray),0,0) r2 (i2n s3.2.1)).2).2))) (inL (isub .i64 s3.2.1 1) (zAL r2))) <|
sel (zAH (zAH r4 true (ine (((zAJ ((⟨#[]⟩:ByteArray),0,0) r2 (i2n s3.2.1)).2).2) r5)) true (zAH (ilt 0 s3.2.1) (zAH (ilt (((zAJ ((⟨#[]⟩:ByteArray),0,0) r2 (i2n (isub .i64 s3.2.1 1))).2).2) (((zAJ ((⟨#[]⟩:ByteArray),0,0) r2 (i2n s3.2.1)).2).2)) true (zAH (ieq (((zAJ ((⟨#[]⟩:ByteArray),0,0) r2 (i2n (isub .i64 s3.2.1 1))).2).2) (((zAJ ((⟨#[]⟩:ByteArray),0,0) r2 (i2n s3.2.1)).2).2)) (zCQ (slt ((zAJ ((⟨#[]⟩:ByteArray),0,0) r2 (i2n (isub .i64 s3.2.1 1))).1) ((zAJ ((⟨#[]⟩:ByteArray),0,0) r2 (i2n s3.2.1)).1))) false)) false)) (some (.inr (.inr false))) <|
need (room (nadd (zAL s3.2.2) (zAL ((zAJ ((⟨#[]⟩:ByteArray),0,0) r2 (i2n s3.2.1)).1 :: ([]:List ByteArray)))) 16) <|
some (.inl (zBo .i64 s3.1 (((zAJ ((⟨#[]⟩:ByteArray),0,0) r2 (i2n s3.2.1)).2).1),zBo .i64 s3.2.1 1,lcat s3.2.2 ((zAJ ((⟨#[]⟩:ByteArray),0,0) r2 (i2n s3.2.1)).1 :: ([]:List ByteArray))))) <|
some (.inr (.inl (s3.1,s3.2.2))))
namespace Fo
theorem keep_stk (P:List Nm → Bool):∀ (F:Fo) (p:List Nm),(F.keep P p).stk p = (F.stk p).filter fun x=>P x.1
 | .nil,_=>rfl
 | .cons n s sub rest,p=>by
   rw [keep,stk,stk,keep_stk P sub,keep_stk P rest,List.filter_append,List.filter_append]
   congr 1
   by_cases h:s ≠ 0
   · rw [if_pos h]
     by_cases hP:P (p ++ [n]) = true
     · rw [if_pos hP,if_pos h,List.filter_cons_of_pos (by simpa using hP)];rfl
     · rw [if_neg hP,if_neg (by simp),List.filter_cons_of_neg (by simpa using hP)];rfl
   · have h0:s = 0:=Decidable.not_not.1 h
     subst h0
     rw [ite_self,if_neg h];rfl
theorem prune_stk:∀ (F:Fo) (p:List Nm),F.prune.stk p = F.stk p
 | .nil,_=>rfl
 | .cons n s sub rest,p=>by
   rw [prune,stk]
   split
   · rename_i h
     rw [prune_stk rest,← prune_stk sub,h.2,if_neg (by rw [h.1];simp)];rfl
   · rw [stk,prune_stk sub,prune_stk rest]
end Fo
theorem kp_stk (P:List Nm → Bool) (F:Fo):(kp P F).stk [] = (F.stk []).filter fun x=>P x.1:=by rw [kp,Fo.prune_stk,Fo.keep_stk]
theorem F20_eq {a b:List Nm} (ha:a.length ≤ 1000000) (hb:b.length ≤ 1000000):F20 (a,b) = some (decide (a = b)):=by
 unfold F20
 dsimp only
 rw [ine_d,sel_i]
 by_cases h:a.length = b.length
 · rw [if_neg (by simp only [zCB,zBC];omega)]
   have key:∀ r,join (zCv (fun (s0:Int) =>
       sel (ilt s0 (n2i (zAL a))) (need (inL s0 (zAL a)) <|
       need (inL s0 (zAL b)) <|
       sel (zCQ (seq (zAJ (⟨#[]⟩:ByteArray) a (i2n s0)) (zAJ (⟨#[]⟩:ByteArray) b (i2n s0)))) (some (.inr (.inr false))) <|
       some (.inl (zBo .i64 s0 1))) <|
       some (.inr (.inl ()))) 0) (fun j1:PUnit=>some true) = r → r = some (decide (a = b)):=by
     rintro _ rfl
     obtain ⟨y,h1,h2⟩:=join_wf (body:=fun (s0:Int) =>
       sel (ilt s0 (n2i (zAL a))) (need (inL s0 (zAL a)) <|
       need (inL s0 (zAL b)) <|
       sel (zCQ (seq (zAJ (⟨#[]⟩:ByteArray) a (i2n s0)) (zAJ (⟨#[]⟩:ByteArray) b (i2n s0)))) (some (.inr (.inr false))) <|
       some (.inl (zBo .i64 s0 1))) <|
       some (.inr (.inl ()))) (k:=fun j1:PUnit=>some true) (s:=(0:Int)) (G:=fun y=>y = decide (a = b)) (fun s=>∃ i:Nat,s = (i:Int) ∧ i ≤ a.length ∧ a.take i = b.take i) (fun s=>a.length - s.toNat) (fun e=>(a = b ∧ e = .inl ()) ∨ (a ≠ b ∧ e = .inr false)) ⟨0,rfl,by omega,rfl⟩
       (by
         rintro _ ⟨i,rfl,hi,he⟩
         rw [zBy,zCB,zBC,sel_i]
         by_cases h':i < a.length
         · have hib:i < b.length:=by omega
           rw [if_pos (by omega),zAY (inL_t h'),zAY (zDA hib),i2n_c,lget_t h',lget_t hib,seq_t,bnot_d]
           by_cases e:a[i] = b[i]
           · rw [decide_eq_true e,Bool.not_true,zBU rfl,iaddI (by omega) (by omega)]
             refine .inl ⟨_,rfl,⟨i + 1,rfl,by omega,?_⟩,by omega⟩
             rw [List.take_succ_eq_append_getElem h',List.take_succ_eq_append_getElem hib,he,e]
           · rw [decide_eq_false e,Bool.not_false,zCA rfl]
             exact .inr ⟨_,rfl,.inr ⟨fun e'=>e (by subst e';rfl),rfl⟩⟩
         · have:i = a.length:=by omega
           subst this
           rw [if_neg (by omega)]
           rw [List.take_length,h,List.take_length] at he
           exact .inr ⟨_,rfl,.inl ⟨he,rfl⟩⟩)
       (by
         rintro _ (⟨h,rfl⟩ | ⟨h,rfl⟩)
         · exact ⟨true,rfl,(decide_eq_true h).symm⟩
         · exact ⟨false,rfl,(decide_eq_false h).symm⟩)
     rw [h1,h2]
   exact key _ rfl
 · rw [if_pos (by simp only [zCB,zBC];omega),decide_eq_false fun e=>h (by rw [e])]
theorem F19_eq {y s:Sk} (hy:y.1.length ≤ 1000000) (hs:s.1.length ≤ 1000000):F19 (y,s) = some (decide (s = y)):=by
 unfold F19
 dsimp only
 rw [ieq_d,sel_i]
 by_cases h:s.2 = y.2
 · rw [if_pos h,zAd (F20_eq hs hy),decide_eq_true h]
   show some (decide (s.1 = y.1)) = _
   congr 1
   rw [decide_eq_decide]
   exact ⟨fun e=>Prod.ext e h,fun e=>by rw [e]⟩
 · rw [if_neg h,call_b,decide_eq_false h,decide_eq_false fun e=>h (by rw [e])];rfl
theorem F18_in {lb:List Sk} {s:Sk} (hl:lb.length ≤ 1000000) (hf:∀ y ∈ lb,y.1.length ≤ 1000000) (hs:s ∈ lb):F18 (s,lb) = some false:=by
 have hs1:=hf s hs
 have h39:∃ r,F39b (lb,(),s) = some r ∧ 0 ≤ r:=by
   unfold F39b
   dsimp only
   refine join_wf (fun i'=>∃ i:Nat,i' = (i:Int) ∧ i ≤ lb.length ∧ s ∈ lb.drop i) (fun i=>lb.length - i.toNat) (fun e=>∃ r:Int,0 ≤ r ∧ e = .inr r) ⟨0,rfl,by omega,by simpa using hs⟩ ?_ ?_
   · rintro _ ⟨i,rfl,hi,hm⟩
     have h':i < lb.length:=by
       rcases Nat.lt_or_ge i lb.length with h | h
       · exact h
       · rw [List.drop_eq_nil_of_le h] at hm;cases hm
     rw [zBy,zCA (by rw [zCB,zBC];exact decide_eq_true (by omega)),zAY (zDA h'),i2n_c,lget_t h',zAd (F19_eq (hf _ (List.getElem_mem h')) hs1),sel_i]
     by_cases e:s = lb[i]
     · rw [if_pos e];exact .inr ⟨_,rfl,_,by omega,rfl⟩
     · rw [if_neg e,iaddI (by omega) (by omega)]
       refine .inl ⟨_,rfl,⟨i + 1,rfl,by omega,?_⟩,by omega⟩
       rw [List.drop_eq_getElem_cons h'] at hm
       exact (List.mem_cons.1 hm).resolve_left e
   · rintro _ ⟨r,hr,rfl⟩
     exact ⟨r,rfl,hr⟩
 obtain ⟨r,h1,h2⟩:=h39
 unfold F18 F17b
 dsimp only
 rw [h1]
 show some (zCQ (ile 0 r)) = _
 rw [ile_d,decide_eq_true h2];rfl
theorem F15_in {x y:List FN} {la lb:List Sk} (ha:F16 x = some la) (hb:F16 y = some lb) (hla:la.length ≤ 1000000) (hlb:lb.length ≤ 1000000) (hf:∀ y ∈ lb,y.1.length ≤ 1000000) (hs:∀ s ∈ la,s ∈ lb):F15 (x,y) = some true:=by
 have h39:F39a (la,(),lb) = some (-1):=by
   unfold F39a
   dsimp only
   obtain ⟨r,h1,h2⟩:=join_wf (body:=fun (s0:Int) =>
     sel (ilt s0 (n2i (zAL la))) (need (inL s0 (zAL la)) <|
     call (F18 (zAJ (([]:List ByteArray),0) la (i2n s0),lb)) fun (r1:Bool) =>
     sel r1 (some (.inr (.inr s0))) <|
     some (.inl (zBo .i64 s0 1))) <|
     some (.inr (.inl ()))) (k:=fun j2:PUnit=>some (-1)) (s:=(0:Int)) (G:=fun y=>y = (-1:Int)) (fun i'=>∃ i:Nat,i' = (i:Int) ∧ i ≤ la.length) (fun i=>la.length - i.toNat) (fun e=>e = .inl ()) ⟨0,rfl,by omega⟩
     (by
       rintro _ ⟨i,rfl,hi⟩
       rw [zBy,zCB,zBC,sel_i]
       by_cases h:i < la.length
       · rw [if_pos (by omega),zAY (inL_t h),i2n_c,lget_t h,zAd (F18_in hlb hf (hs _ (List.getElem_mem h))),zBU rfl,iaddI (by omega) (by omega)]
         exact .inl ⟨_,rfl,⟨i + 1,rfl,by omega⟩,by omega⟩
       · rw [if_neg (by omega)]
         exact .inr ⟨_,rfl,rfl⟩)
     (by rintro _ rfl;exact ⟨-1,rfl,rfl⟩)
   rw [h2] at h1
   exact h1
 unfold F15 F17a
 rw [zAd hb,zAd ha]
 rw [zAd (h39 ▸ rfl:call (F39a (la,(),lb)) (fun r0:Int=>some (ile 0 r0)) = some false)]
 rfl
theorem F21_eq {x:List FN} (hx:x.length ≤ 2000):F21 x = some (x.any fun v=>decide (v.2.2 < 0)):=by
 have h40:∃ r,F40 x = some r ∧ (0 ≤ r ↔ (x.any fun v=>decide (v.2.2 < 0)) = true):=by
   unfold F40
   refine join_wf (fun s=>∃ i:Nat,s = (i:Int) ∧ i ≤ x.length ∧ ((x.take i).any fun v=>decide (v.2.2 < 0)) = false) (fun s=>x.length - s.toNat) (fun e=>((x.any fun v=>decide (v.2.2 < 0)) = true ∧ ∃ r:Int,0 ≤ r ∧ e = .inr r) ∨ ((x.any fun v=>decide (v.2.2 < 0)) = false ∧ e = .inl ())) ⟨0,rfl,by omega,rfl⟩ ?_ ?_
   · rintro _ ⟨i,rfl,hi,hf⟩
     rw [zBy,zCB,zBC,sel_i]
     by_cases h:i < x.length
     · rw [if_pos (by omega),zAY (inL_t h),i2n_c,lget_t h]
       have h22:F22 x[i] = some (decide (x[i].2.2 < 0)):=rfl
       rw [zAd h22,sel_i]
       by_cases hb:x[i].2.2 < 0
       · rw [if_pos hb]
         exact .inr ⟨_,rfl,.inl ⟨List.any_eq_true.2 ⟨x[i],List.getElem_mem h,decide_eq_true hb⟩,_,by omega,rfl⟩⟩
       · rw [if_neg hb,iaddI (by omega) (by omega)]
         refine .inl ⟨_,rfl,⟨i + 1,rfl,by omega,?_⟩,by omega⟩
         rw [List.take_succ_eq_append_getElem h,List.any_append,hf];simpa using hb
     · have:i = x.length:=by omega
       subst this
       rw [if_neg (by omega)]
       rw [List.take_length] at hf
       exact .inr ⟨_,rfl,.inr ⟨hf,rfl⟩⟩
   · rintro _ (⟨h,r,hr,rfl⟩ | ⟨h,rfl⟩)
     · exact ⟨r,rfl,⟨fun _=>h,fun _=>hr⟩⟩
     · exact ⟨-1,rfl,⟨fun h'=>by omega,fun h'=>by rw [h] at h';cases h'⟩⟩
 obtain ⟨r,h1,h2⟩:=h40
 unfold F21
 rw [zAd h1,ile_d]
 congr 1
 by_cases h:0 ≤ r
 · rw [h2.1 h];simpa using h
 · have:(x.any fun v=>decide (v.2.2 < 0)) = false:=by
     cases e:(x.any fun v=>decide (v.2.2 < 0)) with
     | true=>exact absurd (h2.2 e) h
     | false=>rfl
   rw [this];simpa using h
namespace Fo
theorem hvy_mono {a b:Int} (h:a ≤ b):∀ (q:List Nm) (F:Fo),F.hvy b q = true → F.hvy a q = true
 | [],_,_=>by rw [hvy]
 | m :: q,F,hb=>by
   rw [hvy,Bool.and_eq_true] at hb ⊢
   have:=of_decide_eq_true hb.1
   exact ⟨decide_eq_true (by omega),hvy_mono h q _ hb.2⟩
def nn:Fo → Prop
 | .nil=>True
 | .cons _ s sub rest=>0 ≤ s ∧ sub.nn ∧ rest.nn
theorem nn_sm:∀ {F:Fo},F.nn → 0 ≤ F.sm
 | .nil,_=>Int.le_refl _
 | .cons n s sub rest,h=>by
   have h1:=nn_sm h.2.1;have h2:=nn_sm h.2.2;have h3:=h.1
   rw [sm];omega
theorem nn_kid:∀ {F:Fo} (m:Nm),F.nn → 0 ≤ (F.kid m).1 ∧ (F.kid m).2.nn ∧ (F.kid m).1 + (F.kid m).2.sm ≤ F.sm
 | .nil,m,_=>⟨Int.le_refl _,trivial,Int.le_refl _⟩
 | .cons n s sub rest,m,h=>by
   have h1:=nn_sm h.2.1;have h2:=nn_sm h.2.2
   by_cases e:n = m
   · subst e
     rw [kid_self,sm]
     exact ⟨h.1,h.2.1,by dsimp only;omega⟩
   · rw [kid_other s sub rest (fun e'=>e e'.symm),sm]
     have h3:=nn_kid m h.2.2
     have h4:=h.1
     exact ⟨h3.1,h3.2.1,by omega⟩
theorem nn_W:∀ (q:List Nm) (s:Int) (F:Fo),0 ≤ s → F.nn → Wx (s,F) q ≤ s + F.sm
 | [],s,F,hs,h=>by
   have:=nn_sm h
   show s ≤ _
   omega
 | m :: q,s,F,hs,h=>by
   have h1:=nn_kid m h
   have h2:=nn_W q (F.kid m).1 (F.kid m).2 h1.1 h1.2.1
   show Wx (F.kid m) q ≤ _
   exact Int.le_trans h2 (by omega)
theorem W_nn:∀ (q:List Nm) (s:Int) (F:Fo),0 ≤ s → F.nn → 0 ≤ Wx (s,F) q
 | [],s,F,hs,h=>hs
 | m :: q,s,F,hs,h=>W_nn q (F.kid m).1 (F.kid m).2 (nn_kid m h).1 (nn_kid m h).2.1
theorem hvy_nn:∀ (q:List Nm) (s:Int) (F:Fo),0 ≤ s → F.nn → Wx (s,F) q ≠ 0 → F.hvy 1 q = true
 | [],s,F,hs,h,hW=>by rw [hvy]
 | m :: q,s,F,hs,h,hW=>by
   have h1:=nn_kid m h
   have h2:Wx ((F.kid m).1,(F.kid m).2) q ≠ 0:=hW
   have h3:=nn_W q (F.kid m).1 (F.kid m).2 h1.1 h1.2.1
   have h4:=W_nn q (F.kid m).1 (F.kid m).2 h1.1 h1.2.1
   rw [hvy,Bool.and_eq_true]
   exact ⟨decide_eq_true (by omega),hvy_nn q _ _ h1.1 h1.2.1 h2⟩
theorem nn_of:∀ {F:Fo} {par:Int} {pl:Nat},((F.enc par pl).any fun v=>decide (v.2.2 < 0)) = false → F.nn
 | .nil,_,_,_=>trivial
 | .cons n s sub rest,par,pl,h=>by
   rw [enc,List.any_cons,List.any_append,Bool.or_eq_false_iff,Bool.or_eq_false_iff] at h
   have:=of_decide_eq_false h.1
   exact ⟨by dsimp only at this;omega,nn_of h.2.1,nn_of h.2.2⟩
end Fo
theorem law4 (haw:F8 () = some true) {f:List FN} (hf:f.length ≤ 9223372036854775807) (a b:Int):F4 (f,a,b) = some true:=by
 unfold F4
 dsimp only
 rcases F7_tot hf with h | ⟨h,F,rfl,hG,hl⟩
 · rw [zAd h,zCA (by rfl),zAd haw]
 have hl2:F.len ≤ 2000:=by omega
 have main:∀ a b:Int,a ≤ b → (call (F14 (F.enc (-1) 0,a)) fun (r3:((List (Int × (ByteArray × Int))) × Int)) =>
     call (F14 (F.enc (-1) 0,b)) fun (r4:((List (Int × (ByteArray × Int))) × Int)) =>
     call (F14 (F.enc (-1) 0,1)) fun (r5:((List (Int × (ByteArray × Int))) × Int)) =>
     sel (zAH (zAH (ine r3.2 0) true (ine r4.2 0)) true (ine r5.2 0)) (some false) <|
     call (F21 (F.enc (-1) 0)) fun (r6:Bool) =>
     call (F15 (r3.1,F.enc (-1) 0)) fun (r7:Bool) =>
     call (sel r7 (F15 (r4.1,r3.1)) <|
     some false) fun (r8:Bool) =>
     call (sel (band (zAH r7 r8 false) (zCQ r6)) (F10 (r5.1,F.enc (-1) 0)) <|
     some false) fun (r9:Bool) =>
     call (sel (zAH (zAH r7 r8 false) (zAH r6 true r9) false) (F8 ()) <|
     some false) fun (r10:Bool) =>
     some (zAH (zAH (zAH r7 r8 false) (zAH r6 true r9) false) r10 false)) = some true:=by
   intro a b hab
   have gA:=kp_good (F.hvy a) hG
   have gB:=kp_good (F.hvy b) hG
   have lA:=kp_len (F.hvy a) F
   have lB:=kp_len (F.hvy b) F
   have sA:=F16_enc (F13_enc gA (by omega)) gA.nd (by omega)
   have sB:=F16_enc (F13_enc gB (by omega)) gB.nd (by omega)
   have sF:=F16_enc (F13_enc hG hl2) hG.nd hl2
   have fine:∀ {G:Fo},G.Good 0 → ∀ y ∈ G.stk [],y.1.length ≤ 1000000:=fun hG y hy=>by have:=(stk_fineL hG y hy).1;omega
   have nA:=stk_len (kp (F.hvy a) F) []
   have nB:=stk_len (kp (F.hvy b) F) []
   have nF:=stk_len F []
   have h7:F15 ((kp (F.hvy a) F).enc (-1) 0,F.enc (-1) 0) = some true:=F15_in sA sF (by omega) (by omega) (fine hG) fun s hs=>by
     rw [kp_stk] at hs;exact (List.mem_filter.1 hs).1
   have h8:F15 ((kp (F.hvy b) F).enc (-1) 0,(kp (F.hvy a) F).enc (-1) 0) = some true:=F15_in sB sA (by omega) (by omega) (fine gA) fun s hs=>by
     rw [kp_stk] at hs ⊢
     have:=List.mem_filter.1 hs
     exact List.mem_filter.2 ⟨this.1,Fo.hvy_mono hab _ _ this.2⟩
   rw [zAd (F14_enc hG hl2 a),zAd (F14_enc hG hl2 b),zAd (F14_enc hG hl2 1)]
   dsimp only
   rw [zBU (by rfl),zAd (F21_eq (by rw [Fo.enc_len];exact hl2)),zAd h7,zCA rfl,zAd h8]
   cases e:((F.enc (-1) 0).any fun v=>decide (v.2.2 < 0))
   · have hk:kp (F.hvy 1) F = F:=kp_all hG fun q hq=>Fo.hvy_nn q 0 F (Int.le_refl _) (Fo.nn_of e) hq
     rw [hk,zCA (by rfl),zAd (F10_self (by rw [Fo.enc_len];exact hl2)),zCA (by rfl),zAd haw];rfl
   · rw [zBU (by rfl),call_b,zCA (by rfl),zAd haw];rfl
 rw [zAd h,zBU (by rfl),zBy,sel_i]
 by_cases hab:b < a
 · rw [if_pos hab,zCg]
   exact main b a (by omega)
 · rw [if_neg hab,zCg]
   exact main a b (by omega)
open Go Go.T Go.Pl
abbrev nA:Nm:=⟨#[109,97,105,110]⟩
abbrev nB:Nm:=⟨#[114,117,110]⟩
abbrev e0F:Fo:=.cons nA 1 (.cons nB 2 .nil .nil) (.cons nB 0 (.cons nA 4 .nil .nil) .nil)
abbrev e1F:Fo:=.cons nA 1 (.cons nB 4 .nil .nil) (.cons nB 0 (.cons nA 2 .nil .nil) .nil)
theorem slt_AB:slt nA nB = true:=by decide +kernel
theorem okA {s:Int} (h:-1099511627776 ≤ s ∧ s ≤ 1099511627776):Fo.okN nA s:=⟨by decide,by decide,h.1,h.2⟩
theorem okB {s:Int} (h:-1099511627776 ≤ s ∧ s ≤ 1099511627776):Fo.okN nB s:=⟨by decide,by decide,h.1,h.2⟩
theorem e0G:e0F.Good 0:=by
 refine ⟨okA (by decide),by simp,by decide,fun m hm=>?_,⟨okB (by decide),by simp,by decide,by simp [Fo.heads],trivial,trivial⟩,okB (by decide),by simp,by decide,by simp [Fo.heads],⟨okA (by decide),by simp,by decide,by simp [Fo.heads],trivial,trivial⟩,trivial⟩
 simp [Fo.heads] at hm;subst hm;exact slt_AB
theorem e1G:e1F.Good 0:=by
 refine ⟨okA (by decide),by simp,by decide,fun m hm=>?_,⟨okB (by decide),by simp,by decide,by simp [Fo.heads],trivial,trivial⟩,okB (by decide),by simp,by decide,by simp [Fo.heads],⟨okA (by decide),by simp,by decide,by simp [Fo.heads],trivial,trivial⟩,trivial⟩
 simp [Fo.heads] at hm;subst hm;exact slt_AB
theorem aw29:F29 [([nA,nB],2),([nA],1),([nB,nA],4)] = some (e0F.enc (-1) 0,0):=by
 rw [F29_eq (by decide)]
 congr 1
 decide +kernel
theorem aw9:F9 (e0F.enc (-1) 0) = some (e1F.enc (-1) 0,0):=by
 have e:ofGo (0,.nil) (rvs (e0F.stk [])) = (e1F.enc (-1) 0,0):=by decide +kernel
 rw [F9_enc e0G (by decide),e,if_neg (by decide)]
theorem aw14:∃ G:Fo,F14 (e0F.enc (-1) 0,3) = some (G.enc (-1) 0,0) ∧ ∃ l,F16 (G.enc (-1) 0) = some l ∧ l.length = 2:=by
 refine ⟨_,F14_enc e0G (by decide) 3,_,F16_enc (F13_enc (kp_good _ e0G) (Nat.le_trans (kp_len _ _) (by decide))) (kp_good _ e0G).nd (Nat.le_trans (kp_len _ _) (by decide)),?_⟩
 rw [kp_stk]
 decide +kernel
theorem aw23:F23 (e0F.enc (-1) 0) = some [(nA,5,7),(nB,2,6)]:=by
 obtain ⟨M,r,hM,hr1,hr2,h⟩:=F23_enc e0G (by decide)
 have hkey:∀ n,(∃ v ∈ e0F.enc (-1) 0,v.2.1 = n) ↔ n = nA ∨ n = nB:=fun n=>by
   simp only [Fo.enc,List.cons_append,List.nil_append,List.append_nil,List.mem_cons,List.not_mem_nil,or_false,exists_eq_or_imp,exists_eq_left]
   constructor
   · rintro (h | h | h | h) <;> first | exact .inl h.symm | exact .inr h.symm
   · rintro (h | h)
     · exact .inl h.symm
     · exact .inr (.inl h.symm)
 have vA:slf nA (e0F.enc (-1) 0) = 5:=by decide +kernel
 have vB:slf nB (e0F.enc (-1) 0) = 2:=by decide +kernel
 have hp:M.Perm [(nA,5),(nB,2)]:=by
   have hMn:M.Nodup:=(List.pairwise_map.1 hM.nd).imp fun h e=>h (congrArg _ e)
   rw [List.perm_ext_iff_of_nodup hMn (by decide +kernel)]
   intro p
   constructor
   · intro hp
     have hk:=(hkey p.1).1 ((hM.mem p.1).1 (List.mem_map_of_mem (f:=(·.1)) hp))
     have hv:=hM.val p hp
     obtain ⟨n,w⟩:=p
     dsimp only at hk hv
     rcases hk with rfl | rfl
     · rw [hv,vA];simp
     · rw [hv,vB];simp
   · intro hp
     simp only [List.mem_cons,List.not_mem_nil,or_false] at hp
     have hmem:∀ n w,(n = nA ∨ n = nB) → slf n (e0F.enc (-1) 0) = w → (n,w) ∈ M:=fun n w hn hw=>by
       obtain ⟨p,hp,e⟩:=List.mem_map.1 ((hM.mem n).2 ((hkey n).2 hn))
       have:=hM.val p hp
       obtain ⟨m,u⟩:=p
       dsimp only at e this
       subst e
       rw [this,hw] at hp
       exact hp
     rcases hp with rfl | rfl
     · exact hmem _ _ (.inl rfl) vA
     · exact hmem _ _ (.inr rfl) vB
 have hrow:[(nA,(5:Int))].map (row e0F) = [(nA,5,7)] ∧ [(nB,(2:Int))].map (row e0F) = [(nB,2,6)]:=by decide +kernel
 have hp2:r.Perm [(nA,5,7),(nB,2,6)]:=by
   have:=hr1.trans (hp.map (row e0F))
   have e:[(nA,(5:Int)),(nB,2)].map (row e0F) = [(nA,5,7),(nB,2,6)]:=by decide +kernel
   rw [e] at this
   exact this
 have:r = [(nA,5,7),(nB,2,6)]:=rows_uniq hp2 hr2 (by
   simp only [List.pairwise_cons,List.mem_singleton,forall_eq,List.not_mem_nil,false_imp_iff,implies_true,and_true,List.Pairwise.nil]
   exact .inl (by decide))
 rw [h,this]
theorem F30_self:F30 ([(nA,5,7),(nB,2,6)],[(nA,5,7),(nB,2,6)]) = some true:=by
 unfold F30
 dsimp only
 rw [zBU (by rfl)]
 refine (join_l (s:=()) (iter_of (n:=3) (e:=Sum.inl ()) ?_)).trans rfl
 decide +kernel
theorem awake:F8 () = some true:=by
 obtain ⟨G,h14,l,h16,hl⟩:=aw14
 have hs:lsub [nA,nB] (i2n 0) (nsub (i2n 1) (i2n 0)) = [nA]:=rfl
 have h16':F16 (e1F.enc (-1) 0) = some (e1F.stk []):=F16_enc (F13_enc e1G (by decide)) e1G.nd (by decide)
 have he:e1F.stk [] = [([nA],1),([nA,nB],4),([nB,nA],2)]:=by decide +kernel
 rw [he] at h16'
 have h20:F20 ([nA,nB],[nA,nB]) = some true:=by rw [F20_eq (by decide) (by decide),decide_eq_true rfl]
 unfold F8
 rw [zAY (by rfl),hs,zAd aw29]
 dsimp only
 rw [zAd aw23,zAd aw9]
 dsimp only
 rw [zAd h14,zAd h16']
 dsimp only
 rw [zCA (by rfl),zCA (by rfl),zAd F30_self,zAY (by rfl),zCA (by rfl)]
 rw [show (zAJ (([]:List ByteArray),0) [([nA],1),([nA,nB],4),([nB,nA],2)] (i2n 1)) = ([nA,nB],(4:Int)) from rfl]
 dsimp only
 rw [zAd h20,zAY (by rfl),zCA (by rfl),zAd h16]
 rw [show ieq (n2i (zAL l)) 2 = true by rw [zBC,hl];rfl]
 rfl
end Go.Fl
