/- Part 7 of what the claim leans on: ZP1, ZP2, ZP3, ZP4, ZP5. -/
import Derived.Test.YtbhcfbnkdbioaaaGreatM6
import Derived.Calls
import Derived.KernelRfl
import Derived.Orders
import Derived.Laws.Sem
import Derived.Laws.CopyRow
import Derived.Laws.Cells
import Derived.Room.Entries
import Derived.Lib.Overlaps
import GoSem.Conv.BytesToString
import Derived.OrdersHeld
import Derived.ProofKit
import Derived.OpenShut
import Derived.Carry
import Derived.Shelf.SlSortCmp.InsertionK
import Derived.Test.YtbhcfbnkdbioaaaGreatProg
import Derived.Sort.Walk0
import Derived.Shelf.SlIter.Nil
import Derived.Shelf.SortM.Plain
import Derived.Shelf.SortM.SortNone
import Derived.Ground.GgzProg
import Derived.Ground.SlgmProg
import Derived.Shelf.SlSortCmp.WholeK
import Derived.Ground.SlsfProg
set_option linter.defProp false
noncomputable section
set_option linter.unusedVariables false
set_option linter.unusedSimpArgs false
set_option linter.unusedSectionVars false
set_option maxRecDepth 100000
namespace Go.Fl
open Go Go.T Go.Pl
structure Ch (a:List FN) (i:Nat) (P:List Int):Prop where
 lt:∀ k ∈ P,0 <= k /\ k < i
 last:(P = [] /\ i = 0) \/ (0 < i /\ ∃ A,P = A ++ [(i:Int) - 1])
 chain:∀ A k B,P = A ++ k :: B -> ∃ v:FN,a[k.toNat]? = some v /\ ((A = [] /\ v.1 = -1) \/ ∃ A',A = A' ++ [v.1])
 below:∀ k ∈ P,∀ (j:Nat) (v:FN),k < j -> j < i -> a[j]? = some v -> k <= v.1
 asc:P.Pairwise (· < ·)
def split_last (par:Int):∀ P:List Int,∃ anc tail,P = anc ++ tail /\ (anc = [] \/ ∃ a,anc = a ++ [par]) /\ ∀ t ∈ tail,t ≠ par
 | []=>⟨[],[],rfl,.inl rfl,by simp⟩
 | x :: P=>by
  obtain ⟨anc,tail,rfl,h1,h2⟩:=split_last par P
  rcases h1 with rfl | ⟨a,rfl⟩
  ·by_cases h:x = par
   ·subst h;exact ⟨[x],tail,rfl,.inr ⟨[],rfl⟩,h2⟩
   ·exact ⟨[],x :: tail,rfl,.inl rfl,fun t ht=>by
     rcases yAE.1 ht with rfl | ht
     ·exact h
     ·exact h2 t ht⟩
  ·exact ⟨x :: (a ++ [par]),tail,rfl,.inr ⟨x :: a,rfl⟩,h2⟩
def Ch.dep {a:List FN} {i:Nat} {P:List Int} (h:Ch a i P):∀ (n:Nat) (A:List Int) (k:Int) (B:List Int),A.length = n -> P = A ++ k :: B -> Dep a k.toNat n:=by
 intro n
 induction n with
 | zero =>
  intro A k B hA hP
  obtain ⟨v,h1,h2⟩:=h.chain A k B hP
  rcases h2 with ⟨_,h2⟩ | ⟨A',rfl⟩
  ·exact .root h1 (by omega)
  ·simp at hA
 | succ n ih =>
  intro A k B hA hP
  obtain ⟨v,h1,h2⟩:=h.chain A k B hP
  rcases h2 with ⟨rfl,_⟩ | ⟨A',hA'⟩
  ·simp at hA
  ·subst hA'
   have hm:=(h.lt v.1 (by rw [hP];simp)).1
   have:=ih A' v.1 (k :: B) (by simpa using hA) (by rw [hP];simp)
   exact .step h1 (show v.1 = ((v.1.toNat:Nat):Int) by omega) this
def Ch.up {a:List FN} {i:Nat} {anc:List Int} {par:Int} {P:List Int} (h:Ch a i P) (hanc:(anc = [] /\ par = -1) \/ ∃ a,anc = a ++ [par]) :
  ∀ (n:Nat) (tail B:List Int),tail.length = n -> P = anc ++ tail ++ B -> UpTo a par ((tail.getLast?).getD par) par:=by
 intro n
 induction n with
 | zero =>
  intro tail B ht hP
  have:tail = []:=yBL.1 ht
  subst this
  exact .stop (Int.le_refl _)
 | succ n ih =>
  intro tail B ht hP
  obtain ⟨t',b,rfl⟩:∃ t' b,tail = t' ++ [b]:=by
   rcases List.eq_nil_or_concat tail with h | ⟨t',b,h⟩
   ·subst h;cases ht
   ·exact ⟨t',b,by simpa using h⟩
  have hP':P = (anc ++ t') ++ b :: B:=by rw [hP];simp
  obtain ⟨v,h1,h2⟩:=h.chain _ b B hP'
  have hb:=h.lt b (by rw [hP'];simp)
  have hlt:par < b:=by
   rcases hanc with ⟨rfl,rfl⟩ | ⟨c,rfl⟩
   ·omega
   ·have:=h.asc
    rw [hP',List.pairwise_append] at this
    exact this.2.2 par (by simp) b (by simp)
  have hg:((t' ++ [b]).getLast?).getD par = b:=by simp
  rw [hg,show b = ((b.toNat:Nat):Int) by omega]
  refine .step (by omega) h1 ?_
  have hih:=ih t' (b :: B) (by simpa using ht) (by rw [hP];simp)
  have hv:v.1 = (t'.getLast?).getD par:=by
   rcases List.eq_nil_or_concat t' with h0 | ⟨t2,c,h0⟩
   ·subst h0
    rw [yAS] at h2
    rcases hanc with ⟨rfl,rfl⟩ | ⟨c,rfl⟩
    ·rcases h2 with ⟨_,h2⟩ | ⟨A',h2⟩
     ·exact h2
     ·simp at h2
    ·rcases h2 with ⟨h2,_⟩ | ⟨A',h2⟩
     ·simp at h2
     ·have:=List.append_inj' h2 rfl
      simpa using this.2.symm
   ·rw [List.concat_eq_append] at h0
    subst h0
    rcases h2 with ⟨h2,_⟩ | ⟨A',h2⟩
    ·simp at h2
    ·rw [<- yAQ] at h2
     have:=List.append_inj' h2 rfl
     simpa using this.2.symm
  rw [hv];exact hih
def F30_tot {a:List FN} (ha:a.length <= 2000):∃ e,F30 a = some e /\ (e = 0 -> ∀ i v,a[i]? = some v -> Cond a i v):=by
 rw [F30_def,zAX (by rw [zAe,zAf,zAM];exact decide_eq_false (by omega))]
 obtain ⟨y,h1,h2⟩:=zDL (body:=b13 a) (k:=fun _:PUnit=>some (0:Int)) (s:=((0:Int),([]:List Int))) (G:=fun e=>e = 0 -> ∀ i v,a[i]? = some v -> Cond a i v)
  (fun s=>∃ (i:Nat) (P:List Int),s = ((i:Int),P) /\ i <= a.length /\ Ch a i P /\ ∀ (j:Nat) (v:FN),j < i -> a[j]? = some v -> Cond a j v) (fun s=>a.length - s.1.toNat) (fun e=>(e = .inl () /\ ∀ i v,a[i]? = some v -> Cond a i v) \/ ∃ r:Int,r ≠ 0 /\ e = .inr r)
  ⟨0,[],rfl,by omega,⟨by simp,.inl ⟨rfl,rfl⟩,fun A k B h=>by simp at h,by simp,.nil⟩,fun j v h=>by omega⟩
  (by
   rintro _ ⟨i,P,rfl,hi,hP,hc⟩
   by_cases hil:i < a.length
   rotate_left
   ·unfold b13
    dsimp only
    rw [zAe,zAX (by rw [zAf,zAM];exact decide_eq_false (by omega))]
    exact .inr ⟨_,rfl,.inl ⟨rfl,fun j v hv=>hc j v (by have:=At.lt hv;omega) hv⟩⟩
   have hi2:a[i]? = some a[i]:=yAK hil
   revert hi2
   generalize a[i] = v
   obtain ⟨par,n,s⟩:=v
   intro hi2
   have hg:zAH (0,(⟨#[]⟩:ByteArray),0) a (i2n (i:Int)) = (par,n,s):=zCF hi2
   have hwrap:zBA .i64 (i:Int) 1 = ((i + 1:Nat):Int):=by rw [zBp (by omega) (by omega)];rfl
   obtain ⟨anc,tail,rfl,hanc,ht⟩:=split_last par P
   have hPl:(anc ++ tail).length <= 2000:=by
    have hn:(anc ++ tail).Nodup:=hP.asc.imp fun h e=>by omega
    have hsub:(anc ++ tail).length <= ((List.range i).map fun k:Nat=>(k:Int)).length:=List.Nodup.length_le_of_subset hn fun k hk=>by
     have:=hP.lt k hk
     exact yBC.2 ⟨k.toNat,List.mem_range.2 (by omega),by omega⟩
    rw [yAG,List.length_range] at hsub
    omega
   have hpop:∀ R:Type,zBh (b13i (R:=R) par (anc ++ tail)) ((0,zAE (anc ++ tail)),-1) = some (.inl ((0,anc.length),(tail.head?).getD (-1))):=fun R=>by
    have:=pop13 (R:=R) hanc tail.length tail rfl ht (by simpa using hPl) [] (-1)
    rw [yAS] at this
    rw [show zAE (anc ++ tail) = anc.length + tail.length by simp [zAE]]
    exact this
   have hlim:impl (ile 0 ((tail.head?).getD (-1))) (inL ((tail.head?).getD (-1)) (zAE a)) = true:=impl_t fun h=>by
    cases hh:tail.head? with
    | none=>rw [hh] at h;cases h
    | some t =>
     have:=hP.lt t (yAh _ (List.mem_of_head? hh))
     rw [show (some t).getD (-1) = ((t.toNat:Nat):Int) by show t = _;omega]
     exact zAj (by omega)
   unfold b13
   dsimp only
   simp only [hg,hwrap]
   rw [zAe,zAy (by rw [zAf,zAM];exact decide_eq_true (by omega)),zAG (zAj hil),zAR (F52_eq n)]
   cases hnm:nmOk n with
   | false=>exact .inr ⟨_,rfl,.inr ⟨5,by decide,rfl⟩⟩
   | true =>
   rw [zAX (by rfl),zAR (F53_eq s)]
   cases hw:wOk s with
   | false=>exact .inr ⟨_,rfl,.inr ⟨2,by decide,rfl⟩⟩
   | true =>
   rw [zAX (by rfl)]
   have hfold:∀ (k:St13i -> Option (List Int ⊕ (St13 ⊕ (PUnit ⊕ Int)))),join (zBh (fun (s3:((Nat × Nat) × Int)) =>
       need (impl (ilt 0 (n2i s3.1.2)) (inL (zCX .i64 (n2i s3.1.2) 1) s3.1.2)) <|
       sel (zAL (ilt 0 (n2i s3.1.2)) (ine (zAH 0 (anc ++ tail) (zBl s3.1.1 (i2n (zCX .i64 (n2i s3.1.2) 1)))) par) false) (need (inL (zCX .i64 (n2i s3.1.2) 1) s3.1.2) <|
       need (inS 0 (zCX .i64 (n2i s3.1.2) 1) s3.1.2) <|
       some (.inl ((zBl s3.1.1 (i2n 0),nsub (i2n (zCX .i64 (n2i s3.1.2) 1)) (i2n 0)),zAH 0 (anc ++ tail) (zBl s3.1.1 (i2n (zCX .i64 (n2i s3.1.2) 1)))))) <|
       some (.inr (.inl (s3.1,s3.2)))) ((0,zAE (anc ++ tail)),(-1))) k = k ((0,anc.length),(tail.head?).getD (-1)):=fun k=>zBo (hpop _)
   rw [hfold]
   dsimp only
   cases h9:zAL (ieq (n2i anc.length) 0) (ine par (-1)) false with
   | true=>exact .inr ⟨_,rfl,.inr ⟨9,by decide,rfl⟩⟩
   | false =>
   rw [zAX rfl,zAG hlim]
   cases hcs:zAL (ile 0 ((tail.head?).getD (-1))) (sle n ((zAH (0,(⟨#[]⟩:ByteArray),0) a (i2n ((tail.head?).getD (-1)))).2).1) false with
   | true=>exact .inr ⟨_,rfl,.inr ⟨9,by decide,rfl⟩⟩
   | false =>
   rw [zAX rfl,zAe,zCb]
   by_cases h63:(63:Int) < n2i anc.length
   ·rw [if_pos h63];exact .inr ⟨_,rfl,.inr ⟨30,by decide,rfl⟩⟩
   rw [if_neg h63]
   rw [zAf] at h63
   have hz:impl (band (ieq s 0) (zCr (ieq ((i + 1:Nat):Int) (n2i (zAE a))))) (inL ((i + 1:Nat):Int) (zAE a)) = true:=impl_t fun h=>by
    rw [band_d,yAB,bnot_d,yBR,zDY,zDY,decide_eq_false_iff_not] at h
    exact zAj (by have:=h.2;simp [n2i,zAE] at this;omega)
   rw [zAG hz]
   cases hl:zAL (ieq s 0) (zAL (ieq ((i + 1:Nat):Int) (n2i (zAE a))) true (ine (zAH (0,(⟨#[]⟩:ByteArray),0) a (i2n ((i + 1:Nat):Int))).1 (i:Int))) false with
   | true=>exact .inr ⟨_,rfl,.inr ⟨1,by decide,rfl⟩⟩
   | false =>
   have e:zCI (anc ++ tail) 0 anc.length = anc:=by
    show ((anc ++ tail).drop 0).take anc.length = anc
    simp
   rw [zAX rfl,e,zAG (zBe (by simp only [zBl,zAE,yAC];omega)),zAG (by rfl),zBG]
   have hanc':(anc = [] /\ par = -1) \/ ∃ a,anc = a ++ [par]:=by
    rcases hanc with rfl | h
    ·refine .inl ⟨rfl,?_⟩
     rw [zAu,zDY,ine_d,decide_eq_true (by rfl),yBT,decide_eq_false_iff_not] at h9
     simpa using h9
    ·exact .inr h
   have hpar:-1 <= par /\ par < i:=by
    rcases hanc' with ⟨_,rfl⟩ | ⟨c,rfl⟩
    ·omega
    ·have:=hP.lt par (by simp);omega
   have hpt:∀ t ∈ tail,par < t:=fun t hm0=>by
    rcases hanc' with ⟨_,rfl⟩ | ⟨c,rfl⟩
    ·have:=hP.lt t (yAh _ hm0);omega
    ·have:=hP.asc
     rw [List.pairwise_append] at this
     exact this.2.2 par (by simp) t hm0
   have hanc_le:∀ k ∈ anc,k <= par:=fun k hk=>by
    rcases hanc' with ⟨rfl,_⟩ | ⟨c,rfl⟩
    ·cases hk
    ·have:=hP.asc
     rw [List.pairwise_append,List.pairwise_append] at this
     rcases yAO.1 hk with hk | hk
     ·exact Int.le_of_lt (this.1.2.2 k hk par (by simp))
     ·simp at hk;omega
   have hcond:Cond a i (par,n,s):=by
    have hsib:Sib a par ((i:Int) - 1) ((tail.head?).getD (-1)):=by
     cases tail with
     | nil =>
      refine .inl ⟨rfl,fun j v hj1 hj2 hv=>?_⟩
      rcases hP.last with ⟨h,rfl⟩ | ⟨_,A,h⟩
      ·omega
      ·rcases hanc' with ⟨rfl,_⟩ | ⟨c,rfl⟩
       ·simp at h
       ·rw [yAS] at h
        have:=(List.append_inj' h rfl).2
        have:par = (i:Int) - 1:=by simpa using this
        omega
     | cons t tl =>
      obtain ⟨v,hv1,hv2⟩:=hP.chain anc t tl rfl
      have htt:=hP.lt t (by simp)
      have hv3:v.1 = par:=by
       rcases hanc' with ⟨rfl,rfl⟩ | ⟨c,rfl⟩
       ·rcases hv2 with ⟨_,h⟩ | ⟨A',h⟩
        ·exact h
        ·simp at h
       ·rcases hv2 with ⟨h,_⟩ | ⟨A',h⟩
        ·simp at h
        ·have:=(List.append_inj' h rfl).2
         simpa using this.symm
      refine .inr ⟨t.toNat,v,by show t = _;omega,hv1,hv3,by have:=hpt t (by simp);omega,by omega,fun j w hj1 hj2 hw=>?_⟩
      have:=hP.below t (by simp) j w (by omega) (by omega) hw
      have:=hpt t (by simp)
      omega
    refine ⟨hnm,hw,hpar.1,hpar.2,?_,fun r hr k hk=>?_,fun d hd=>?_,fun h0=>?_⟩
    ·have:=hP.up hanc' tail.length tail [] rfl (by simp)
     have hgl:(tail.getLast?).getD par = (i:Int) - 1:=by
      rcases hP.last with ⟨h,rfl⟩ | ⟨_,A,h⟩
      ·have h1:anc = []:=(List.append_eq_nil_iff.1 h).1
       have h2:tail = []:=(List.append_eq_nil_iff.1 h).2
       subst h1;subst h2
       rcases hanc' with ⟨_,rfl⟩ | ⟨c,h⟩
       ·rfl
       ·simp at h
      ·rcases List.eq_nil_or_concat tail with h0 | ⟨t2,c,h0⟩
       ·subst h0
        rcases hanc' with ⟨rfl,_⟩ | ⟨c,rfl⟩
        ·simp at h
        ·rw [yAS] at h
         have:=(List.append_inj' h rfl).2
         simpa using this
       ·rw [List.concat_eq_append] at h0
        subst h0
        rw [<- yAQ] at h
        have:=(List.append_inj' h rfl).2
        simpa using this
     rw [hgl] at this
     exact this
    ·have:=sib_det hsib hr
     subst hk
     rw [this,zAu,ile_d,decide_eq_true (by omega),yBT] at hcs
     have hkl:k < a.length:=by
      have hm:tail.head? = some (k:Int):=by
       cases hh:tail.head? with
       | none=>rw [hh] at this;have:(-1:Int) = (k:Int):=this;omega
       | some t=>rw [hh] at this;exact congrArg some this
      have:=hP.lt k (yAh _ (List.mem_of_head? hm))
      omega
     have hk2:a[k]? = some a[k]:=yAK hkl
     refine ⟨_,hk2,?_⟩
     rw [zCF hk2] at hcs
     have:=sle_not n a[k].2.1
     rw [hcs] at this
     exact this.symm
    ·have hd0:Dep a i anc.length:=by
      rcases hanc' with ⟨rfl,rfl⟩ | ⟨c,rfl⟩
      ·exact .root hi2 (by dsimp only;omega)
      ·have h1:=hP.lt par (by simp)
       have:=hP.dep c.length c par tail rfl (by simp)
       rw [yAD,yAC]
       exact .step hi2 (show par = ((par.toNat:Nat):Int) by omega) this
     have:=dep_det hd0 hd
     omega
    ·have h0:s = 0:=h0
     rw [zAu,zDY,decide_eq_true h0,yBT,pick_or,Bool.or_eq_false_iff] at hl
     obtain ⟨h1,h2⟩:=hl
     rw [zDY,decide_eq_false_iff_not] at h1
     have hlt:i + 1 < a.length:=by simp [n2i,zAE] at h1;omega
     have hm:a[i + 1]? = some a[i + 1]:=yAK hlt
     rw [zCF hm,ine_d,decide_eq_false_iff_not] at h2
     exact ⟨_,hm,by simpa using h2⟩
   refine .inl ⟨_,rfl,⟨i + 1,anc ++ [(i:Int)],rfl,by omega,⟨fun k hk=>?_,.inr ⟨by omega,anc,by simp⟩,fun A k B h=>?_,fun k hk j v hj1 hj2 hv=>?_,?_⟩,fun j v hj hv=>?_⟩,by dsimp only;omega⟩
   ·rcases yAO.1 hk with hk | hk
    ·have:=hP.lt k (by simp [hk]);omega
    ·simp at hk;omega
   ·rcases List.eq_nil_or_concat B with h0 | ⟨B',c,h0⟩
    ·subst h0
     have h1:=List.append_inj' h rfl
     obtain ⟨rfl,h2⟩:=h1
     have:(i:Int) = k:=by simpa using h2
     subst this
     refine ⟨(par,n,s),hi2,?_⟩
     rcases hanc' with ⟨rfl,rfl⟩ | ⟨c,rfl⟩
     ·exact .inl ⟨rfl,rfl⟩
     ·exact .inr ⟨c,rfl⟩
    ·rw [List.concat_eq_append] at h0
     subst h0
     have h:anc ++ [(i:Int)] = (A ++ k :: B') ++ [c]:=by rw [h];simp
     have h1:=List.append_inj' h rfl
     exact hP.chain A k (B' ++ tail) (by rw [h1.1];simp)
   ·rcases yAO.1 hk with hk1 | hk1
    ·by_cases hji:j = i
     ·subst hji
      rw [hi2] at hv
      have:=yAA hv
      subst this
      exact hanc_le k hk1
     ·exact hP.below k (by simp [hk1]) j v hj1 (by omega) hv
    ·simp at hk1;omega
   ·rw [List.pairwise_append]
    refine ⟨(List.pairwise_append.1 hP.asc).1,by simp,fun k hk j hj=>?_⟩
    have:=hP.lt k (by simp [hk])
    simp at hj;omega
   ·by_cases hji:j = i
    ·subst hji
     rw [hi2] at hv
     have:=yAA hv
     subst this;exact hcond
    ·exact hc j v (by omega) hv)
  (by
   rintro _ (⟨rfl,h⟩ | ⟨r,hr,rfl⟩)
   ·exact ⟨0,rfl,fun _=>h⟩
   ·exact ⟨r,rfl,fun h=>absurd h hr⟩)
 exact ⟨y,h1,h2⟩
def F48_ok {a:List FN} (ha:a.length <= 2000) {i:Nat} {v:FN} (hi:a[i]? = some v) (hd:Dec a i) (hc:Cond a i v):F48 (a,(i:Int)) = some 0:=by
 obtain ⟨par,n,s⟩:=v
 have hil:=At.lt hi
 have hsub:zCX .i64 (i:Int) 1 = (i:Int) - 1:=isubI (by omega) (by omega)
 have hwrap:zBA .i64 (i:Int) 1 = ((i + 1:Nat):Int):=by rw [zBp (by omega) (by omega)];rfl
 have hlo:-1 <= par:=hc.lo
 have hhi:par < i:=hc.hi
 have hnm:nmOk n = true:=hc.nm
 have hw:wOk s = true:=hc.w
 unfold F48
 dsimp only
 simp only [zCF hi,hsub,hwrap]
 have hcp:zAL (ilt par (-1)) true (ile (i:Int) par) = false:=by rw [pick_or,zAe,ile_d,<- Bool.decide_or];exact decide_eq_false (by omega)
 rw [zAG (zAj hil),zAR (F67_eq n),hnm,zAX (by rfl),zAR (F68_eq s),hw,zAX (by rfl),hcp,zAR (show sel (zCr false) (F69 (a,par,(i:Int) - 1)) (some false) = some (decide (par = par)) from F69_eq hc.up),decide_eq_true rfl,zAX (by rfl)]
 obtain ⟨q,hq,hsib⟩:=F70_eq hi ha (by omega) (by omega)
 rw [zAR hq]
 have hqb:impl (ile 0 q) (inL q (zAE a)) = true:=impl_t fun h=>by
  rcases hsib with ⟨rfl,_⟩ | ⟨k,v,rfl,hk,_⟩
  ·cases h
  ·exact zAj (At.lt hk)
 have hs:zAL (ile 0 q) (zCr (slt ((zAH (0,(⟨#[]⟩:ByteArray),0) a (i2n q)).2).1 n)) false = false:=by
  have hsib':=hsib
  rcases hsib with ⟨rfl,_⟩ | ⟨k,v,rfl,hk,_⟩
  ·rfl
  ·obtain ⟨m,h1,h2⟩:=hc.sib (k:Int) hsib' k rfl
   rw [zCF h1,h2,zAu]
   simp [bnot_d]
 rw [zAG hqb,hs,zAX rfl]
 obtain ⟨d,hdep,hdi⟩:=dep_ex (a:=a) (i + 1) i (by omega) hil fun j v hj hv=>by
  by_cases hji:j = i
  ·subst hji;rw [hi] at hv;have:=yAA hv;subst this;dsimp only;omega
  ·exact hd j v (by omega) hv
 have h63:=hc.dep d hdep
 rw [zAR (F71_eq hdep (by omega)),zAe,zAX (decide_eq_false (by omega))]
 have hz:impl (band (ieq s 0) (zCr (ieq ((i + 1:Nat):Int) (n2i (zAE a))))) (inL ((i + 1:Nat):Int) (zAE a)) = true:=impl_t fun h=>by
  rw [band_d,yAB,bnot_d,yBR,zDY,zDY,decide_eq_false_iff_not] at h
  exact zAj (by have:=h.2;simp [n2i,zAE] at this;omega)
 have hl:zAL (ieq s 0) (zAL (ieq ((i + 1:Nat):Int) (n2i (zAE a))) true (ine (zAH (0,(⟨#[]⟩:ByteArray),0) a (i2n ((i + 1:Nat):Int))).1 (i:Int))) false = false:=by
  rw [zAu,zDY]
  by_cases h:s = 0
  ·obtain ⟨m,hm,hm1⟩:=hc.leaf h
   have:=At.lt hm
   rw [zCF hm,hm1,ine_d,pick_or,zDY,decide_eq_false (show ¬ ((i + 1:Nat):Int) = n2i (zAE a) by simp [n2i,zAE];omega)]
   simp
  ·rw [decide_eq_false h];rfl
 rw [zAG hz,hl,zAX rfl]
def F22_ok {a:List FN} (ha:a.length <= 2000) (h:∀ i v,a[i]? = some v -> Cond a i v):F22 a = some 0:=by
 rw [F22_def,zAX (by rw [zAe,zAf,zAM];exact decide_eq_false (by omega))]
 have hG:∀ i,i <= a.length -> Goes (b28 a) (0:Int) (i:Int):=by
  intro i
  induction i with
  | zero=>exact fun _=>Goes.refl _ _
  | succ i ih =>
   intro hi
   refine (ih (by omega)).trans (Goes.one ?_)
   have hil:i < a.length:=by omega
   have hi2:a[i]? = some a[i]:=yAK hil
   unfold b28
   rw [zAe,zAy (by rw [zAf,zAM];exact decide_eq_true (by omega)),zAR (F48_ok ha hi2 (fun j v hj hv=>⟨(h j v hv).lo,(h j v hv).hi⟩) (h i _ hi2)),zAX (by rfl),zBp (by omega) (by omega)]
   rfl
 refine zBo (s:=()) ((hG a.length (yAJ _)).fin ?_)
 unfold b28
 rw [zAe,zAX (by rw [zAf,zAM];exact decide_eq_false (by omega))]
def checks {a:List FN} (ha:a.length <= 2000):(∃ e e',F22 a = some e /\ F30 a = some e' /\ e ≠ 0 /\ e' ≠ 0) \/ ∃ F:Fo,a = F.enc (-1) 0 /\ F.Good 0 /\ F22 a = some 0 /\ F30 a = some 0:=by
 obtain ⟨e,h1,h2⟩:=F22_tot ha
 by_cases h0:e = 0
 ·subst h0
  obtain ⟨F,rfl,hG⟩:=F22_good ha h1
  rw [Fo.enc_len] at ha
  exact .inr ⟨F,rfl,hG,h1,F30_enc hG ha⟩
 ·obtain ⟨e',h3,h4⟩:=F30_tot ha
  refine .inl ⟨e,e',h1,h3,h0,fun h=>h0 ?_⟩
  have:=F22_ok ha (h4 h)
  rw [h1] at this
  exact yAA this
def b35 (x:((List (Int × (ByteArray × Int))) × Int)):(Int × List Nm) -> Option ((Int × List Nm) ⊕ (List Nm ⊕ List Nm)) :=
(fun (s0:(Int × (List ByteArray))) =>
sel (ile 0 s0.1) (need (inL s0.1 (zAE x.1)) <|
need (room (zBl (zAE (((zAH (0,(⟨#[]⟩:ByteArray),0) x.1 (i2n s0.1)).2).1 :: ([]:List ByteArray))) (zAE s0.2)) 16) <|
need (inL s0.1 (zAE x.1)) <|
some (.inl ((zAH (0,(⟨#[]⟩:ByteArray),0) x.1 (i2n s0.1)).1,zBg (((zAH (0,(⟨#[]⟩:ByteArray),0) x.1 (i2n s0.1)).2).1 :: ([]:List ByteArray)) s0.2))) <|
some (.inr (.inl s0.2)))
def b34 (x:((List (Int × (ByteArray × Int))) × ((List Int) × (Int × Int)))):Int -> Option (Int ⊕ (PUnit ⊕ Bool)) :=
(fun (s0:Int) =>
sel (ile 0 s0) (need (inL s0 (zAE x.2.1)) <|
sel (ilt (zAH 0 x.2.1 (i2n s0)) x.2.2.2) (some (.inr (.inr false))) <|
need (inL s0 (zAE x.1)) <|
some (.inl ((zAH (0,(⟨#[]⟩:ByteArray),0) x.1 (i2n s0)).1))) <|
some (.inr (.inl ())))
def b23r (x:(List (Int × (ByteArray × Int)))):(Int × List Sk) -> Option ((Int × List Sk) ⊕ (List Sk ⊕ List Sk)) :=
(fun (s1:(Int × (List ((List ByteArray) × Int)))) =>
sel (ilt s1.1 (n2i (zAE x))) (join (need (inL s1.1 (zAE x)) <|
sel (ine (((zAH (0,(⟨#[]⟩:ByteArray),0) x (i2n s1.1)).2).2) 0) (need (inL s1.1 (zAE x)) <|
call (F35 (x,s1.1)) fun (r2:(List ByteArray)) =>
need (room (zBl (zAE s1.2) (zAE ((r2,((zAH (0,(⟨#[]⟩:ByteArray),0) x (i2n s1.1)).2).2) :: ([]:List ((List ByteArray) × Int))))) 32) <|
some (.inl (zBg s1.2 ((r2,((zAH (0,(⟨#[]⟩:ByteArray),0) x (i2n s1.1)).2).2) :: ([]:List ((List ByteArray) × Int)))))) <|
some (.inl s1.2)) fun (j3:(List ((List ByteArray) × Int))) =>
some (.inl (zBA .i64 s1.1 1,j3))) <|
some (.inr (.inl s1.2)))
def b33a (x:(List (Int × (ByteArray × Int)))):(Int × List Int) -> Option ((Int × List Int) ⊕ (List Int ⊕ List Int)) :=
(fun (s1:(Int × (List Int))) =>
sel (ilt s1.1 (n2i (zAE x))) (need (inL s1.1 (zAE x)) <|
need (room (zBl (zAE s1.2) (zAE (((zAH (0,(⟨#[]⟩:ByteArray),0) x (i2n s1.1)).2).2 :: ([]:List Int)))) 8) <|
some (.inl (zBA .i64 s1.1 1,zBg s1.2 (((zAH (0,(⟨#[]⟩:ByteArray),0) x (i2n s1.1)).2).2 :: ([]:List Int))))) <|
some (.inr (.inl s1.2)))
def b33 (x:(List (Int × (ByteArray × Int)))):(Int × List Int) -> Option ((Int × List Int) ⊕ (List Int ⊕ List Int)) :=
(fun (s3:(Int × (List Int))) =>
sel (ile 0 s3.1) (join (need (inL s3.1 (zAE x)) <|
sel (ile 0 ((zAH (0,(⟨#[]⟩:ByteArray),0) x (i2n s3.1)).1)) (need (inL s3.1 (zAE x)) <|
need (inL s3.1 (zAE x)) <|
need (inL s3.1 (zAE s3.2)) <|
need (inL ((zAH (0,(⟨#[]⟩:ByteArray),0) x (i2n s3.1)).1) (zAE s3.2)) <|
need (inL ((zAH (0,(⟨#[]⟩:ByteArray),0) x (i2n s3.1)).1) (zAE s3.2)) <|
some (.inl (lset s3.2 (i2n ((zAH (0,(⟨#[]⟩:ByteArray),0) x (i2n s3.1)).1)) (zBA .i64 (zAH 0 s3.2 (i2n ((zAH (0,(⟨#[]⟩:ByteArray),0) x (i2n s3.1)).1))) (zAH 0 s3.2 (i2n s3.1)))))) <|
some (.inl s3.2)) fun (j4:(List Int)) =>
some (.inl (zCX .i64 s3.1 1,j4))) <|
some (.inr (.inl s3.2)))
def b12r (x:((List (Int × (ByteArray × Int))) × Int)) (r1:List Int):(Int × List Sk) -> Option ((Int × List Sk) ⊕ (List Sk ⊕ (List FN × Int))) :=
(fun (s2:(Int × (List ((List ByteArray) × Int)))) =>
sel (ilt s2.1 (n2i (zAE x.1))) (join (need (inL s2.1 (zAE x.1)) <|
call (sel (ine (((zAH (0,(⟨#[]⟩:ByteArray),0) x.1 (i2n s2.1)).2).2) 0) (F34 (x.1,r1,s2.1,x.2)) <|
some false) fun (r3:Bool) =>
sel (zAL (ine (((zAH (0,(⟨#[]⟩:ByteArray),0) x.1 (i2n s2.1)).2).2) 0) r3 false) (need (inL s2.1 (zAE x.1)) <|
call (F35 (x.1,s2.1)) fun (r4:(List ByteArray)) =>
need (room (zBl (zAE s2.2) (zAE ((r4,((zAH (0,(⟨#[]⟩:ByteArray),0) x.1 (i2n s2.1)).2).2) :: ([]:List ((List ByteArray) × Int))))) 32) <|
some (.inl (zBg s2.2 ((r4,((zAH (0,(⟨#[]⟩:ByteArray),0) x.1 (i2n s2.1)).2).2) :: ([]:List ((List ByteArray) × Int)))))) <|
some (.inl s2.2)) fun (j5:(List ((List ByteArray) × Int))) =>
some (.inl (zBA .i64 s2.1 1,j5))) <|
some (.inr (.inl s2.2)))
def b42 (x:((List (Int × (ByteArray × Int))) × ByteArray)) (r0:List Sk):(Int × Int) -> Option ((Int × Int) ⊕ (Int ⊕ Int)) :=
(fun (s1:(Int × Int)) =>
sel (ilt s1.2 (n2i (zAE r0))) (join (need (inL s1.2 (zAE r0)) <|
call (F58 ((zAH (([]:List ByteArray),0) r0 (i2n s1.2)).1,x.2)) fun (r2:Bool) =>
sel r2 (need (inL s1.2 (zAE r0)) <|
some (.inl (zBA .i64 s1.1 ((zAH (([]:List ByteArray),0) r0 (i2n s1.2)).2)))) <|
some (.inl s1.1)) fun (j3:Int) =>
some (.inl (j3,zBA .i64 s1.2 1))) <|
some (.inr (.inl s1.1)))
def b7 (x:((List (Int × (ByteArray × Int))) × ByteArray)) (r1:List Sk):(Int × List Sk) -> Option ((Int × List Sk) ⊕ (List Sk ⊕ (List FN × Int))) :=
(fun (s2:(Int × (List ((List ByteArray) × Int)))) =>
sel (ilt s2.1 (n2i (zAE r1))) (join (need (inL s2.1 (zAE r1)) <|
call (F24 ((zAH (([]:List ByteArray),0) r1 (i2n s2.1)).1,x.2)) fun (r3:Bool) =>
sel r3 (need (inL s2.1 (zAE r1)) <|
need (room (zBl (zAE s2.2) (zAE (zAH (([]:List ByteArray),0) r1 (i2n s2.1) :: ([]:List ((List ByteArray) × Int))))) 32) <|
some (.inl (zBg s2.2 (zAH (([]:List ByteArray),0) r1 (i2n s2.1) :: ([]:List ((List ByteArray) × Int)))))) <|
some (.inl s2.2)) fun (j4:(List ((List ByteArray) × Int))) =>
some (.inl (zBA .i64 s2.1 1,j4))) <|
some (.inr (.inl s2.2)))
def b10 (x:(List (Int × (ByteArray × Int)))) (r1:List Sk):(Int × List Sk) -> Option ((Int × List Sk) ⊕ (List Sk ⊕ (List FN × Int))) :=
(fun (s2:(Int × (List ((List ByteArray) × Int)))) =>
sel (ilt s2.1 (n2i (zAE r1))) (need (inL s2.1 (zAE r1)) <|
need (inL s2.1 (zAE r1)) <|
call (F29 ((zAH (([]:List ByteArray),0) r1 (i2n s2.1)).1)) fun (r3:(List ByteArray)) =>
need (room (zBl (zAE s2.2) (zAE ((r3,(zAH (([]:List ByteArray),0) r1 (i2n s2.1)).2) :: ([]:List ((List ByteArray) × Int))))) 32) <|
some (.inl (zBA .i64 s2.1 1,zBg s2.2 ((r3,(zAH (([]:List ByteArray),0) r1 (i2n s2.1)).2) :: ([]:List ((List ByteArray) × Int)))))) <|
some (.inr (.inl s2.2)))
def b29 (x:(List ByteArray)):(Int × List Nm) -> Option ((Int × List Nm) ⊕ (List Nm ⊕ List Nm)) :=
(fun (s0:(Int × (List ByteArray))) =>
sel (ile 0 s0.1) (need (inL s0.1 (zAE x)) <|
need (room (zBl (zAE s0.2) (zAE (zAH (⟨#[]⟩:ByteArray) x (i2n s0.1) :: ([]:List ByteArray)))) 16) <|
some (.inl (zCX .i64 s0.1 1,zBg s0.2 (zAH (⟨#[]⟩:ByteArray) x (i2n s0.1) :: ([]:List ByteArray))))) <|
some (.inr (.inl s0.2)))
def F35_def (x:List FN × Int):F35 x = join (zBh (b35 x) (x.2,[])) fun j1=>some j1:=rfl
def F34_def (x:List FN × List Int × Int × Int):F34 x = join (zBh (b34 x) x.2.2.1) fun j1=>some true:=rfl
def F23r_def (x:List FN):F23 x = call (F22 x) fun (r0:Int)=>sel (ine r0 0) (some []) <| join (zBh (b23r x) (0,[])) fun j4=>some j4:=rfl
def F33_def (x:List FN):F33 x = call (F22 x) fun (r0:Int)=>sel (ine r0 0) (some []) <| join (zBh (b33a x) (0,[])) fun (j2:List Int)=>join (zBh (b33 x) (zCX .i64 (n2i (zAE x)) 1,j2)) fun j5=>some j5:=rfl
def F12r_def (x:List FN × Int):F12 x = call (F22 x.1) fun (r0:Int)=>sel (ine r0 0) (some ([],1)) <| call (F33 x.1) fun (r1:List Int)=>join (zBh (b12r x r1) (0,[])) fun (j6:List Sk)=>call (F25 j6) fun (r7:List FN × Int)=>some (r7.1,r7.2):=rfl
def F42r_def (x:List FN × Nm):F42 x = call (F23 x.1) fun (r0:List Sk)=>join (zBh (b42 x r0) (0,0)) fun j4=>some j4:=rfl
def F7_def (x:List FN × Nm):F7 x = call (F22 x.1) fun (r0:Int)=>sel (ine r0 0) (some ([],1)) <| call (F23 x.1) fun (r1:List Sk)=>join (zBh (b7 x r1) (0,[])) fun (j5:List Sk)=>call (F25 j5) fun (r6:List FN × Int)=>some (r6.1,r6.2):=rfl
def F10_def (x:List FN):F10 x = call (F22 x) fun (r0:Int)=>sel (ine r0 0) (some ([],1)) <| call (F23 x) fun (r1:List Sk)=>join (zBh (b10 x r1) (0,[])) fun (j4:List Sk)=>call (F25 j4) fun (r5:List FN × Int)=>some (r5.1,r5.2):=rfl
def F29_def (x:List Nm):F29 x = join (zBh (b29 x) (zCX .i64 (n2i (zAE x)) 1,[])) fun j1=>some j1:=rfl
def Pth (a:List FN) (k:Int) (p:List Nm):Prop:=∀ (z:Int) (out:List Nm),out.length + p.length <= 1000 -> Goes (b35 (a,z)) (k,out) (-1,p ++ out)
def Pth.root (a:List FN):Pth a (-1) []:=fun z out _=>Goes.refl _ _
def Pth.step {a:List FN} {pl:Nat} {par:Int} {n:Nm} {s:Int} {pre:List Nm} (hi:a[pl]? = some (par,n,s)) (h:Pth a par pre):Pth a (pl:Int) (pre ++ [n]):=fun z out ho=>by
 have hil:=At.lt hi
 rw [yAD,yAC] at ho
 have h1:=h z (n :: out) (by rw [yAY];omega)
 refine (Goes.one ?_).trans (by rw [yAQ];exact h1)
 unfold b35
 dsimp only
 rw [ile_d,zAy (decide_eq_true (by omega)),zAG (zAj hil),zCM,lget_n hi,zAG (zBe (by simp only [zBl,zAE,yAC];omega)),zAG (zAj hil)]
 rfl
def Pth.get {a:List FN} {k:Int} {p:List Nm} (h:Pth a k p) (hp:p.length <= 1000):F35 (a,k) = some p:=by
 rw [F35_def]
 refine zBo ((h k [] (by simpa using hp)).fin ?_)
 unfold b35
 dsimp only
 rw [zAX (by rfl),yAS]
def hv_root (a:List FN) (tt:List Int) (least:Int):F34 (a,tt,-1,least) = some true:=by
 rw [F34_def]
 refine zBo (s:=()) (iter_r ?_)
 unfold b34
 rw [zAX (by rfl)]
def hv_step {a:List FN} {tt:List Int} {least:Int} {pl:Nat} {par:Int} {n:Nm} {s:Int} {b:Bool} (hi:a[pl]? = some (par,n,s)) (hl:tt.length = a.length) (h:F34 (a,tt,par,least) = some b):F34 (a,tt,(pl:Int),least) = some (decide (least <= tt.getD pl 0) && b):=by
 have hil:=At.lt hi
 have hs:b34 (a,tt,(pl:Int),least) (pl:Int) = if tt.getD pl 0 < least then some (.inr (.inr false)) else some (.inl par):=by
  unfold b34
  dsimp only
  rw [ile_d,zAy (decide_eq_true (by omega)),zAG (zAj (by omega)),zCM,zAe,zCb,zAG (zAj hil),lget_n hi]
  rfl
 rw [F34_def] at h ⊢
 dsimp only at h ⊢
 by_cases hc:tt.getD pl 0 < least
 ·rw [if_pos hc] at hs
  rw [join_r (iter_r hs),decide_eq_false (by omega)];rfl
 ·rw [if_neg hc] at hs
  rw [decide_eq_true (by omega),yBT]
  have hb:b34 (a,tt,(pl:Int),least) = b34 (a,tt,par,least):=rfl
  cases hx:zBh (b34 (a,tt,par,least)) par with
  | none=>rw [hx] at h;cases h
  | some e =>
   rw [hx] at h
   rw [iter_l hs (by rw [hb];exact hx)]
   exact h
def st23 {x:List FN} {i:Nat} {out:List Sk} {par:Int} {n:Nm} {s:Int} {p:List Nm} (hi:x[i]? = some (par,n,s)) (hx:x.length <= 2000) (ho:out.length <= 2000) (hp:Pth x (i:Int) p) (hpl:p.length <= 1000) :
  b23r x ((i:Int),out) = some (.inl (((i + 1:Nat):Int),out ++ if s ≠ 0 then [(p,s)] else [])):=by
 have hil:=At.lt hi
 unfold b23r
 dsimp only
 rw [zAe,zAy (by rw [zAf,zAM];exact decide_eq_true (by omega)),zAG (zAj hil),zCM,lget_n hi]
 dsimp only
 rw [ine_d,zBp (by omega) (by omega)]
 by_cases h:s ≠ 0
 ·rw [zAy (decide_eq_true h),zAG (zAj hil),zAR (hp.get hpl),zAG (zBe (by simp only [zBl,zAE,yAC];omega)),zBG,if_pos h];rfl
 ·rw [zAX (decide_eq_false h),zBG,if_neg h,yAS];rfl
def seg23 {x:List FN} (hx:x.length <= 2000):∀ (F:Fo) (par:Int) (pl:Nat) (out:List Sk) (pre:List Nm),At x pl (F.enc par pl) -> F.Nd pre.length -> Pth x par pre -> pre.length <= 64 -> out.length <= pl ->
  Goes (b23r x) ((pl:Int),out) (((pl + F.len:Nat):Int),out ++ F.stk pre)
 | .nil,par,pl,out,pre,_,_,_,_,_=>by rw [Fo.stk,yAS];exact Goes.refl _ _
 | .cons n s sub rest,par,pl,out,pre,hA,hN,hP,h4,h5=>by
  rw [Fo.enc] at hA
  have hi:=hA.head
  have hil:=At.lt hi
  have hA1:=hA.tail.left
  have hA2:=hA.tail.right
  rw [Fo.enc_len] at hA2
  have hP1:=Pth.step hi hP
  have hd:pre.length < 64:=hN.2.1
  have hst:=st23 (out:=out) hi hx (by omega) hP1 (by rw [yAD,yAC];omega)
  have h6:(out ++ if s ≠ 0 then [(pre ++ [n],s)] else []).length <= pl + 1:=by rw [yAD];split <;> simp <;> omega
  have hsl:=stk_len sub (pre ++ [n])
  have a1:=seg23 hx sub (pl:Int) (pl + 1) _ (pre ++ [n]) hA1 (by rw [yAD,yAC];exact hN.2.2.1) hP1 (by rw [yAD,yAC];omega) h6
  have a2:=seg23 hx rest par (pl + 1 + sub.len) _ pre hA2 hN.2.2.2 hP h4 (by rw [yAD];omega:((out ++ if s ≠ 0 then [(pre ++ [n],s)] else []) ++ sub.stk (pre ++ [n])).length <= _)
  have hG:=(Goes.one hst).trans (a1.trans a2)
  rw [Fo.stk,Fo.len,show pl + (1 + sub.len + rest.len) = pl + 1 + sub.len + rest.len by omega]
  simp only [yAQ] at hG ⊢
  exact hG
def F23_enc' {F:Fo} (h22:F22 (F.enc (-1) 0) = some 0) (hN:F.Nd 0) (hl:F.len <= 2000):F23 (F.enc (-1) 0) = some (F.stk []):=by
 rw [F23r_def,zAR h22,zAX (by rfl)]
 have:=seg23 (x:=F.enc (-1) 0) (by rw [Fo.enc_len];exact hl) F (-1) 0 [] [] (At.all _) hN (Pth.root _) (by simp) (by simp)
 refine zBo (this.fin ?_)
 unfold b23r
 dsimp only
 rw [zAe,zAX (by rw [zAf,zAM,Fo.enc_len];exact decide_eq_false (by omega))];rfl
def next33 (T:List Int) (par:Int) (i:Nat):List Int:=if 0 <= par then T.set par.toNat (T.getD par.toNat 0 + T.getD i 0) else T
def st33 {x:List FN} {i:Nat} {T:List Int} {par:Int} {n:Nm} {s:Int} (hi:x[i]? = some (par,n,s)) (hx:x.length <= 2000) (hT:T.length = x.length)
  (hb:∀ j,-(1099511627776 * 3000) <= T.getD j 0 /\ T.getD j 0 <= 1099511627776 * 3000) (hp:par = -1 \/ ∃ k:Nat,par = (k:Int) /\ k < i):b33 x ((i:Int),T) = some (.inl ((i:Int) - 1,next33 T par i)):=by
 have hil:=At.lt hi
 have hbi:=hb i
 unfold b33
 dsimp only
 rw [ile_d,zAy (decide_eq_true (by omega)),zAG (zAj hil),zCM,lget_n hi,isubI' (by omega) (by omega)]
 dsimp only
 unfold next33
 rw [ile_d]
 rcases hp with rfl | ⟨k,rfl,hk⟩
 ·rw [zAX (by decide),if_neg (by decide),zBG]
 ·have hbk:=hb k
  have e1:∀ j,zAH 0 T j = T.getD j 0:=fun _=>rfl
  rw [zAy (decide_eq_true (by omega)),if_pos (by omega),zAG (zAj hil),zAG (zAj hil),zAG (zAj (by omega)),zAG (zAj (by omega)),zAG (zAj (by omega)),zBG,zCM,Int.toNat_natCast,e1,e1,zBp (by omega) (by omega)]
  rfl
def next33_len (T:List Int) (par:Int) (i:Nat):(next33 T par i).length = T.length:=by unfold next33;split <;> simp
def next33_get {T:List Int} {par:Int} {i:Nat} (hi:i < T.length) (hp:par = -1 \/ ∃ k:Nat,par = (k:Int) /\ k < i) (j:Nat):(next33 T par i).getD j 0 = if (j:Int) = par then T.getD j 0 + T.getD i 0 else T.getD j 0:=by
 unfold next33
 rcases hp with rfl | ⟨k,rfl,hk⟩
 ·rw [if_neg (by decide),if_neg (by omega)]
 ·rw [if_pos (by omega),Int.toNat_natCast,zDZ (by omega)]
  by_cases h:j = k
  ·subst h;rw [if_pos rfl,if_pos rfl]
  ·rw [if_neg h,if_neg (by omega)]
def seg33 {x:List FN} (hx:x.length <= 2000):∀ (F:Fo) (par:Int) (pl:Nat) (T:List Int),At x pl (F.enc par pl) -> F.okW = true -> T.length = x.length -> pl + F.len <= x.length -> (∀ (j:Nat) (v:FN),pl <= j -> j < pl + F.len -> x[j]? = some v -> T.getD j 0 = v.2.2) -> (par = -1 \/ ∃ k:Nat,par = (k:Int) /\ k < pl) ->
  (∀ j,-(1099511627776 * ((x.length:Int) - ((pl + F.len:Nat):Int) + 1)) <= T.getD j 0 /\ T.getD j 0 <= 1099511627776 * ((x.length:Int) - ((pl + F.len:Nat):Int) + 1)) ->
  ∃ T',Goes (b33 x) (((pl + F.len:Nat):Int) - 1,T) ((pl:Int) - 1,T') /\ T'.length = x.length /\ ∀ j,T'.getD j 0 = if pl <= j /\ j < pl + F.len then F.tot.getD (j - pl) 0 else if (j:Int) = par then T.getD j 0 + F.sm else T.getD j 0
 | .nil,par,pl,T,_,_,h3,_,_,_,_=>⟨T,by rw [Fo.len,Nat.add_zero];exact Goes.refl _ _,h3,fun j=>by
     rw [Fo.len,if_neg (by omega),Fo.sm]
     split <;> omega⟩
 | .cons n s sub rest,par,pl,T,hA,hw,h3,h4,h5,h6,h7=>by
  rw [Fo.enc] at hA
  have hi:=hA.head
  have hA1:=hA.tail.left
  have hA2:=hA.tail.right
  rw [Fo.enc_len] at hA2
  rw [Fo.okW,yAB,yAB] at hw
  have hs:-1099511627776 <= s /\ s <= 1099511627776:=of_decide_eq_true hw.1
  rw [Fo.len] at h4 h5 h7
  have hpl:pl < x.length:=by omega
  have e1:pl + (1 + sub.len + rest.len) = pl + 1 + sub.len + rest.len:=by omega
  rw [e1] at h7
  obtain ⟨T1,a1,a2,a3⟩:=seg33 hx rest par (pl + 1 + sub.len) T hA2 hw.2.2 h3 (by omega) (fun j v h h'=>h5 j v (by omega) (by omega)) (by
   rcases h6 with h | ⟨k,h,h'⟩
   ·exact .inl h
   ·exact .inr ⟨k,h,by omega⟩) h7
  have hb1:∀ j,-(1099511627776 * ((x.length:Int) - ((pl + 1 + sub.len:Nat):Int) + 1)) <= T1.getD j 0 /\ T1.getD j 0 <= 1099511627776 * ((x.length:Int) - ((pl + 1 + sub.len:Nat):Int) + 1):=fun j=>by
   have r1:=Fo.totD_b hw.2.2 (j - (pl + 1 + sub.len))
   have r2:=Fo.sm_b hw.2.2
   have r3:=h7 j
   rw [a3 j]
   split
   ·omega
   ·split <;> omega
  obtain ⟨T2,u1,u2,u3⟩:=seg33 hx sub (pl:Int) (pl + 1) T1 hA1 hw.2.1 a2 (by omega) (fun j v h h' hv=>by
   rw [a3 j,if_neg (by omega),if_neg (by rcases h6 with h | ⟨k,h,h'⟩ <;> omega)]
   exact h5 j v (by omega) (by omega) hv) (.inr ⟨pl,rfl,by omega⟩) hb1
  have hb2:∀ j,-(1099511627776 * ((x.length:Int) - ((pl + 1:Nat):Int) + 1)) <= T2.getD j 0 /\ T2.getD j 0 <= 1099511627776 * ((x.length:Int) - ((pl + 1:Nat):Int) + 1):=fun j=>by
   have r1:=Fo.totD_b hw.2.1 (j - (pl + 1))
   have r2:=Fo.sm_b hw.2.1
   have r3:=hb1 j
   rw [u3 j]
   split
   ·omega
   ·split <;> omega
  have hst:=st33 hi hx u2 (fun j=>by have:=hb2 j;omega) h6
  refine ⟨next33 T2 par pl,?_,by rw [next33_len,u2],fun j=>?_⟩
  ·rw [Fo.len,e1]
   have u1':Goes (b33 x) (((pl + 1 + sub.len:Nat):Int) - 1,T1) ((pl:Int),T2):=by
    have e:(((pl + 1:Nat):Int) - 1) = (pl:Int):=by omega
    rw [e] at u1;exact u1
   exact a1.trans (u1'.trans (Goes.one hst))
  ·have r2:T2.getD pl 0 = s + sub.sm:=by
    rw [u3 pl,if_neg (by omega),if_pos rfl,a3 pl,if_neg (by omega),if_neg (by rcases h6 with h | ⟨k,h,h'⟩ <;> omega),h5 pl _ (by omega) (by omega) hi]
   rw [next33_get (by omega) h6,r2,Fo.len,Fo.tot,Fo.sm]
   by_cases j1:j = pl
   ·subst j1
    rw [if_neg (by rcases h6 with h | ⟨k,h,h'⟩ <;> omega),if_pos (by omega),Nat.sub_self,r2]
    rfl
   by_cases j2:pl <= j /\ j < pl + (1 + sub.len + rest.len)
   ·have hp':¬ (j:Int) = par:=by rcases h6 with h | ⟨k,h,h'⟩ <;> omega
    rw [if_neg hp',if_pos j2,u3 j]
    have e5:j - pl = (j - pl - 1) + 1:=by omega
    rw [e5,List.getD_cons_succ]
    by_cases j3:j < pl + 1 + sub.len
    ·rw [if_pos (by omega),yAI,yAI,yAe (by rw [Fo.tot_len];omega)]
     congr 2
    ·rw [if_neg (by omega),if_neg (by omega),a3 j,if_pos (by omega),yAI,yAI,yAa (by rw [Fo.tot_len];omega),Fo.tot_len]
     congr 2
     omega
   ·have hT2:T2.getD j 0 = if (j:Int) = par then T.getD j 0 + rest.sm else T.getD j 0:=by
     rw [u3 j,if_neg (by omega),if_neg (by omega),a3 j,if_neg (by omega)]
    rw [if_neg j2,hT2]
    by_cases hp':(j:Int) = par
    ·rw [if_pos hp',if_pos hp',if_pos hp'];omega
    ·rw [if_neg hp',if_neg hp',if_neg hp']
def F33_enc {F:Fo} (h22:F22 (F.enc (-1) 0) = some 0) (hw:F.okW = true) (hl:F.len <= 2000):F33 (F.enc (-1) 0) = some F.tot:=by
 have hL:(F.enc (-1) 0).length = F.len:=Fo.enc_len F _ _
 rw [F33_def,zAR h22,zAX (by rfl)]
 have hfirst:zBh (b33a (F.enc (-1) 0)) (0,[]) = some (.inl ((F.enc (-1) 0).map (·.2.2))):=by
  have hG:∀ i,i <= (F.enc (-1) 0).length -> Goes (b33a (F.enc (-1) 0)) (0,[]) ((i:Int),((F.enc (-1) 0).take i).map (·.2.2)):=by
   intro i
   induction i with
   | zero=>exact fun _=>Goes.refl _ _
   | succ i ih =>
    intro hi
    refine (ih (by omega)).trans (Goes.one ?_)
    have hil:i < (F.enc (-1) 0).length:=by omega
    have ht:(((F.enc (-1) 0).take i).map (·.2.2)).length <= i:=by rw [yAG,yAU];omega
    unfold b33a
    dsimp only
    rw [zAe,zAy (by rw [zAf,zAM];exact decide_eq_true (by omega)),zAG (zAj hil),zCM,zCN hil,zAG (zBe (by simp only [zBl,zAE,yAC];omega)),zBp (by omega) (by omega),yAM hil,yAV]
    rfl
  refine (hG _ (yAJ _)).fin ?_
  unfold b33a
  dsimp only
  rw [zAe,zAX (by rw [zAf,zAM];exact decide_eq_false (by omega)),yAi]
 have hself:∀ (j:Nat) (v:FN),(F.enc (-1) 0)[j]? = some v -> ((F.enc (-1) 0).map (·.2.2)).getD j 0 = v.2.2:=fun j v hv=>by
  rw [yAI,yAy,hv];rfl
 obtain ⟨T',h1,h2,h3⟩:=seg33 (x:=F.enc (-1) 0) (by omega) F (-1) 0 ((F.enc (-1) 0).map (·.2.2)) (At.all _) hw (by simp) (by omega) (fun j v _ _ hv=>hself j v hv) (.inl rfl) (fun j=>by
  cases hj:(F.enc (-1) 0)[j]? with
  | none =>
   have:((F.enc (-1) 0).map (·.2.2)).getD j 0 = 0:=by rw [yAI,yAy,hj];rfl
   rw [this];omega
  | some v =>
   rw [hself j v hj]
   have:-1099511627776 <= v.2.2 /\ v.2.2 <= 1099511627776:=of_decide_eq_true (enc_w hw v (yAt hj))
   omega)
 have hT:T' = F.tot:=by
  refine List.ext_getElem? fun j=>?_
  by_cases hj:j < F.len
  ·have:=h3 j
   rw [if_pos (by omega),Nat.sub_zero,yAI,yAI,yAK (by omega),yAK (by rw [Fo.tot_len];exact hj)] at this
   rw [yAK (by omega),yAK (by rw [Fo.tot_len];exact hj)]
   exact congrArg some this
  ·rw [yAw (by omega),yAw (by rw [Fo.tot_len];omega)]
 subst hT
 rw [zBo hfirst,zAf,zAM,hL,isubI' (by omega) (by omega)]
 have h1':Goes (b33 (F.enc (-1) 0)) ((F.len:Int) - 1,(F.enc (-1) 0).map (·.2.2)) (-1,F.tot):=by
  rw [yAT] at h1;exact h1
 refine zBo (h1'.fin ?_)
 unfold b33
 dsimp only
 rw [zAX (by rfl)]
namespace Fo
def prk (least:Int):Fo -> List Nm -> Bool -> List Sk
 | .nil,_,_=>[]
 | .cons n s sub rest,p,b=>(if s ≠ 0 /\ (decide (least <= s + sub.sm) && b) = true then [(p ++ [n],s)] else []) ++ (sub.prk least (p ++ [n]) (decide (least <= s + sub.sm) && b) ++ rest.prk least p b)
def prk_stk (least:Int) (P:List Nm -> Bool):∀ (F:Fo) (p:List Nm) (b:Bool),F.Srt -> (∀ m ∈ F.heads,∀ q,P (p ++ m :: q) = (b && F.hvy least (m :: q))) -> F.prk least p b = (F.stk p).filter fun x=>P x.1
 | .nil,_,_,_,_=>rfl
 | .cons n s sub rest,p,b,hS,hP=>by
  rw [stk,prk]
  have hn:=hP n (by simp [heads])
  have hnr:n ∉ rest.heads:=not_head hS.1
  have hP0:P (p ++ [n]) = (decide (least <= s + sub.sm) && b):=by
   rw [hn [],hvy,kid_self,hvy,Bool.and_true,Bool.and_comm]
  have hr1:=prk_stk least P sub (p ++ [n]) (decide (least <= s + sub.sm) && b) hS.2.1 fun m hm q=>by
   rw [yAQ,List.singleton_append,hn,hvy,kid_self]
   dsimp only
   rw [<- Bool.and_assoc,Bool.and_comm b]
  have hr2:=prk_stk least P rest p b hS.2.2 fun m hm q=>by
   rw [hP m (by simp [heads,hm]) q,hvy,hvy,kid_other (n:=n) (m:=m) s sub rest (fun e=>hnr (e ▸ hm))]
  rw [yBF,yBF,hr1,hr2]
  congr 1
  by_cases h:s ≠ 0
  ·rw [if_pos h]
   cases e:(decide (least <= s + sub.sm) && b)
   ·rw [if_neg (by simp),yAp (by simp [hP0,e])];rfl
   ·rw [if_pos ⟨h,rfl⟩,yAo (by simp [hP0,e])];rfl
  ·rw [if_neg h,if_neg (fun e=>h e.1)];rfl
def prk_len (least:Int):∀ (F:Fo) (p:List Nm) (b:Bool),(F.prk least p b).length <= F.len
 | .nil,_,_=>yAJ _
 | .cons n s sub rest,p,b=>by
  have h1:=prk_len least sub (p ++ [n]) (decide (least <= s + sub.sm) && b)
  have h2:=prk_len least rest p b
  rw [prk,len,yAD,yAD]
  split <;> simp <;> omega
end Fo
def st12r {x:List FN} {least:Int} {tt:List Int} {i:Nat} {out:List Sk} {par:Int} {n:Nm} {s:Int} {p:List Nm} {b:Bool} (hi:x[i]? = some (par,n,s)) (hx:x.length <= 2000) (ho:out.length <= 2000) (hp:Pth x (i:Int) p) (hpl:p.length <= 1000) (hb:F34 (x,tt,(i:Int),least) = some b) :
  b12r (x,least) tt ((i:Int),out) = some (.inl (((i + 1:Nat):Int),out ++ if s ≠ 0 /\ b = true then [(p,s)] else [])):=by
 have hil:=At.lt hi
 unfold b12r
 dsimp only
 rw [zAe,zAy (by rw [zAf,zAM];exact decide_eq_true (by omega)),zAG (zAj hil),zCM,lget_n hi]
 dsimp only
 rw [ine_d,zBp (by omega) (by omega)]
 by_cases h:s ≠ 0
 ·rw [decide_eq_true h,zAy rfl,zAR hb,zAu,yBT]
  cases b with
  | true=>rw [zAy rfl,zAG (zAj hil),zAR (hp.get hpl),zAG (zBe (by simp only [zBl,zAE,yAC];omega)),zBG,if_pos ⟨h,rfl⟩];rfl
  | false=>rw [zAX rfl,zBG,if_neg (by simp),yAS];rfl
 ·rw [decide_eq_false h,zAX rfl,call_b,zAu,Bool.false_and,zAX rfl,zBG,if_neg (fun e=>h e.1),yAS];rfl
def seg12r {x:List FN} {least:Int} {tt:List Int} (hx:x.length <= 2000) (htl:tt.length = x.length):∀ (F:Fo) (par:Int) (pl:Nat) (out:List Sk) (pre:List Nm) (b:Bool),At x pl (F.enc par pl) -> At tt pl F.tot -> F.Nd pre.length -> Pth x par pre -> pre.length <= 64 -> out.length <= pl -> F34 (x,tt,par,least) = some b ->
  Goes (b12r (x,least) tt) ((pl:Int),out) (((pl + F.len:Nat):Int),out ++ F.prk least pre b)
 | .nil,par,pl,out,pre,b,_,_,_,_,_,_,_=>by rw [Fo.prk,yAS];exact Goes.refl _ _
 | .cons n s sub rest,par,pl,out,pre,b,hA,hT,hN,hP,h4,h5,hb=>by
  rw [Fo.enc] at hA
  rw [Fo.tot] at hT
  have hi:=hA.head
  have hil:=At.lt hi
  have hA1:=hA.tail.left
  have hA2:=hA.tail.right
  rw [Fo.enc_len] at hA2
  have hT1:=hT.tail.left
  have hT2:=hT.tail.right
  rw [Fo.tot_len] at hT2
  have ht:tt.getD pl 0 = s + sub.sm:=by rw [yAI,hT.head];rfl
  have hP1:=Pth.step hi hP
  have hd:pre.length < 64:=hN.2.1
  have hb1:=hv_step hi htl hb
  rw [ht] at hb1
  have hst:=st12r (out:=out) hi hx (by omega) hP1 (by rw [yAD,yAC];omega) hb1
  have h6:(out ++ if s ≠ 0 /\ (decide (least <= s + sub.sm) && b) = true then [(pre ++ [n],s)] else []).length <= pl + 1:=by rw [yAD];split <;> simp <;> omega
  have hsl:=sub.prk_len least (pre ++ [n]) (decide (least <= s + sub.sm) && b)
  have a1:=seg12r hx htl sub (pl:Int) (pl + 1) _ (pre ++ [n]) _ hA1 hT1 (by rw [yAD,yAC];exact hN.2.2.1) hP1 (by rw [yAD,yAC];omega) h6 hb1
  have a2:=seg12r hx htl rest par (pl + 1 + sub.len) _ pre b hA2 hT2 hN.2.2.2 hP h4 (by rw [yAD];omega:((out ++ if s ≠ 0 /\ (decide (least <= s + sub.sm) && b) = true then [(pre ++ [n],s)] else []) ++ sub.prk least (pre ++ [n]) (decide (least <= s + sub.sm) && b)).length <= _) hb
  have hG:=(Goes.one hst).trans (a1.trans a2)
  rw [Fo.prk,Fo.len,show pl + (1 + sub.len + rest.len) = pl + 1 + sub.len + rest.len by omega]
  simp only [yAQ] at hG ⊢
  exact hG
def F12_enc' {F:Fo} (hG:F.Good 0) (h22:F22 (F.enc (-1) 0) = some 0) (hl:F.len <= 2000) (least:Int):F12 (F.enc (-1) 0,least) = F25 ((F.stk []).filter fun x=>F.hvy least x.1):=by
 have hL:(F.enc (-1) 0).length = F.len:=Fo.enc_len F _ _
 have h1:=seg12r (x:=F.enc (-1) 0) (least:=least) (tt:=F.tot) (by omega) (by rw [Fo.tot_len,hL]) F (-1) 0 [] [] true (At.all _) (At.all _) hG.nd (Pth.root _) (by simp) (by simp) (hv_root _ _ _)
 have hz:=Fo.prk_stk least (F.hvy least) F [] true hG.srt fun m _ q=>by rw [yBI,yBT]
 rw [F12r_def,zAR h22,zAX (by rfl),zAR (F33_enc h22 hG.w hl)]
 refine (zBo (h1.fin (e:=.inl (F.prk least [] true)) ?_)).trans ?_
 ·unfold b12r
  dsimp only
  rw [zAe,zAX (by rw [zAf,zAM,hL];exact decide_eq_false (by omega))];rfl
 ·rw [hz]
  cases F25 ((F.stk []).filter fun x=>F.hvy least x.1) <;> rfl
def cont_eq (G:List Nm × Nm -> Option Bool) (hG:∀ x,G x = join (zBh (fun (s0:Int) =>
  sel (ilt s0 (n2i (zAE x.1))) (need (inL s0 (zAE x.1)) <|
  sel (seq (zAH (⟨#[]⟩:ByteArray) x.1 (i2n s0)) x.2) (some (.inr (.inr true))) <|
  some (.inl (zBA .i64 s0 1))) <|
  some (.inr (.inl ()))) 0) fun (j1:PUnit)=>some false) {p:List Nm} (hl:p.length <= 1000000) (n:Nm):G (p,n) = some (has n p):=by
 rw [hG]
 obtain ⟨y,h1,h2⟩:=zDL (body:=fun (s0:Int) =>
  sel (ilt s0 (n2i (zAE p))) (need (inL s0 (zAE p)) <|
  sel (seq (zAH (⟨#[]⟩:ByteArray) p (i2n s0)) n) (some (.inr (.inr true))) <|
  some (.inl (zBA .i64 s0 1))) <|
  some (.inr (.inl ()))) (k:=fun (j1:PUnit)=>some false) (s:=(0:Int)) (G:=fun y=>y = has n p) (fun s=>∃ i:Nat,s = (i:Int) /\ i <= p.length /\ has n (p.take i) = false) (fun s=>p.length - s.toNat) (fun e=>(has n p = true /\ e = .inr true) \/ (has n p = false /\ e = .inl ())) ⟨0,rfl,by omega,rfl⟩
  (by
   rintro _ ⟨i,rfl,hi,hf⟩
   rw [zAe,zAf,zAM,zCb]
   by_cases h:i < p.length
   ·rw [if_pos (by omega),zAG (inL_t h),zCM,zCN h,seq_t,zCb]
    by_cases hb:p[i] = n
    ·rw [if_pos hb]
     exact .inr ⟨_,rfl,.inl ⟨has_t.2 (hb ▸ yAs h),rfl⟩⟩
    ·rw [if_neg hb,zBp (by omega) (by omega)]
     refine .inl ⟨_,rfl,⟨i + 1,rfl,by omega,?_⟩,by omega⟩
     rw [yAM h,has_app,hf,decide_eq_false hb];rfl
   ·have:i = p.length:=by omega
    subst this
    rw [if_neg (by omega)]
    rw [yAi] at hf
    exact .inr ⟨_,rfl,.inr ⟨hf,rfl⟩⟩)
  (by
   rintro _ (⟨h,rfl⟩ | ⟨h,rfl⟩)
   ·exact ⟨true,rfl,h.symm⟩
   ·exact ⟨false,rfl,h.symm⟩)
 rw [h1,h2]
def F24_has {p:List Nm} (hl:p.length <= 1000000) (n:Nm):F24 (p,n) = some (has n p):=cont_eq F24 (fun _=>rfl) hl n
def F58_has {p:List Nm} (hl:p.length <= 1000000) (n:Nm):F58 (p,n) = some (has n p):=cont_eq F58 (fun _=>rfl) hl n
def F42_enc' {F:Fo} (hG:F.Good 0) (h22:F22 (F.enc (-1) 0) = some 0) (hl:F.len <= 2000) (n:Nm):F42 (F.enc (-1) 0,n) = some (F.msr (has n) []):=by
 have hsl:=stk_len F []
 have hfi:=stk_fineL hG
 rw [F42r_def,zAR (F23_enc' h22 hG.nd hl),<- Fo.stk_msr]
 generalize F.stk [] = l at *
 have hb:∀ i,-(1099511627776 * ((l.take i).length:Int)) <= (((l.take i).filter fun x=>has n x.1).map (·.2)).sum /\ (((l.take i).filter fun x=>has n x.1).map (·.2)).sum <= 1099511627776 * ((l.take i).length:Int):=fun i=>by
  have h1:=sum_lb 1099511627776 (by decide) (((l.take i).filter fun x=>has n x.1).map (·.2)) fun v hv=>by
   obtain ⟨w,hw,rfl⟩:=yBC.1 hv
   exact of_decide_eq_true (hfi w (yBJ (List.mem_filter.1 hw).1)).2.2.1
  have h2:=List.length_filter_le (fun x:Sk=>has n x.1) (l.take i)
  rw [yAG] at h1
  omega
 have hGo:∀ i,i <= l.length -> Goes (b42 (F.enc (-1) 0,n) l) (0,0) ((((l.take i).filter fun x=>has n x.1).map (·.2)).sum,(i:Int)):=by
  intro i
  induction i with
  | zero=>exact fun _=>Goes.refl _ _
  | succ i ih =>
   intro hi
   refine (ih (by omega)).trans (Goes.one ?_)
   have hil:i < l.length:=by omega
   have hli:=hfi l[i] (yAs hil)
   have hw:-1099511627776 <= l[i].2 /\ l[i].2 <= 1099511627776:=of_decide_eq_true hli.2.2.1
   have hbi:=hb i
   have hlt:(l.take i).length = i:=by rw [yAU];omega
   rw [hlt] at hbi
   unfold b42
   dsimp only
   rw [zAe,zAy (by rw [zAf,zAM];exact decide_eq_true (by omega)),zAG (zAj hil),zCM,zCN hil,zAR (F58_has (by have:=hli.1;omega) n),yAM hil,yBF,yAV,sum_app]
   by_cases hk:has n l[i].1 = true
   ·rw [hk,zAy rfl,zAG (zAj hil),zBG,yAo (by simpa using hk),zBp (by omega) (by omega),zBp (by omega) (by omega)];simp
   ·rw [zAX (by simpa using hk),zBG,yAp (by simpa using hk),zBp (by omega) (by omega)];simp
 have:=hGo l.length (yAJ _)
 rw [yAi] at this
 refine zBo (this.fin ?_)
 unfold b42
 dsimp only
 rw [zAe,zAX (by rw [zAf,zAM];exact decide_eq_false (by omega))]
def F7_enc' {F:Fo} (hG:F.Good 0) (h22:F22 (F.enc (-1) 0) = some 0) (hl:F.len <= 2000) (n:Nm):F7 (F.enc (-1) 0,n) = F25 ((F.stk []).filter fun x=>has n x.1):=by
 have hsl:=stk_len F []
 have hfi:=stk_fineL hG
 rw [F7_def,zAR h22,zAX (by rfl),zAR (F23_enc' h22 hG.nd hl)]
 generalize F.stk [] = l at *
 have hGo:∀ i,i <= l.length -> Goes (b7 (F.enc (-1) 0,n) l) (0,[]) ((i:Int),(l.take i).filter fun x=>has n x.1):=by
  intro i
  induction i with
  | zero=>exact fun _=>Goes.refl _ _
  | succ i ih =>
   intro hi
   refine (ih (by omega)).trans (Goes.one ?_)
   have hil:i < l.length:=by omega
   have hli:=hfi l[i] (yAs hil)
   have h2:=List.length_filter_le (fun x:Sk=>has n x.1) (l.take i)
   have hlt:(l.take i).length = i:=by rw [yAU];omega
   unfold b7
   dsimp only
   rw [zAe,zAy (by rw [zAf,zAM];exact decide_eq_true (by omega)),zAG (zAj hil),zCM,zCN hil,zAR (F24_has (by have:=hli.1;omega) n),yAM hil,yBF,zBp (by omega) (by omega)]
   by_cases hk:has n l[i].1 = true
   ·rw [hk,zAy rfl,zAG (zAj hil),zAG (zBe (by simp only [zBl,zAE,yAC];omega)),zBG,yAo (by simpa using hk)];rfl
   ·rw [zAX (by simpa using hk),zBG,yAp (by simpa using hk)];simp
 have:=hGo l.length (yAJ _)
 rw [yAi] at this
 refine (zBo (this.fin (e:=.inl (l.filter fun x=>has n x.1)) ?_)).trans ?_
 ·unfold b7
  dsimp only
  rw [zAe,zAX (by rw [zAf,zAM];exact decide_eq_false (by omega))]
 ·cases F25 (l.filter fun x=>has n x.1) <;> rfl
def F29_rev {p:List Nm} (hl:p.length <= 1000000):F29 p = some p.reverse:=by
 rw [F29_def,zAf,zAM,isubI' (by omega) (by omega)]
 have hGo:∀ i,i <= p.length -> Goes (b29 p) ((p.length:Int) - 1,[]) ((p.length:Int) - 1 - (i:Int),p.reverse.take i):=by
  intro i
  induction i with
  | zero=>intro _;rw [List.take_zero,show (p.length:Int) - 1 - ((0:Nat):Int) = (p.length:Int) - 1 by omega];exact Goes.refl _ _
  | succ i ih =>
   intro hi
   refine (ih (by omega)).trans (Goes.one ?_)
   have hil:p.length - 1 - i < p.length:=by omega
   have hir:i < p.reverse.length:=by rw [List.length_reverse];omega
   have ht:(p.reverse.take i).length <= i:=by rw [yAU];omega
   have e:(p.length:Int) - 1 - (i:Int) = ((p.length - 1 - i:Nat):Int):=by omega
   unfold b29
   dsimp only
   rw [e,ile_d,zAy (decide_eq_true (by omega)),zAG (zAj hil),zCM,zCN hil,zAG (zBe (by simp only [zBl,zAE,yAC];omega)),isubI' (by omega) (by omega),yAM hir,List.getElem_reverse]
   have e2:((p.length - 1 - i:Nat):Int) - 1 = (p.length:Int) - 1 - ((i + 1:Nat):Int):=by omega
   rw [e2];rfl
 have:=hGo p.length (yAJ _)
 rw [yAW (by simp),show (p.length:Int) - 1 - (p.length:Int) = -1 by omega] at this
 refine zBo (this.fin ?_)
 unfold b29
 dsimp only
 rw [zAX (by rfl)]
def F10_enc' {F:Fo} (hG:F.Good 0) (h22:F22 (F.enc (-1) 0) = some 0) (hl:F.len <= 2000):F10 (F.enc (-1) 0) = F25 (rvs (F.stk [])):=by
 have hsl:=stk_len F []
 have hfi:=stk_fineL hG
 rw [F10_def,zAR h22,zAX (by rfl),zAR (F23_enc' h22 hG.nd hl)]
 generalize F.stk [] = l at *
 have hGo:∀ i,i <= l.length -> Goes (b10 (F.enc (-1) 0) l) (0,[]) ((i:Int),rvs (l.take i)):=by
  intro i
  induction i with
  | zero=>exact fun _=>Goes.refl _ _
  | succ i ih =>
   intro hi
   refine (ih (by omega)).trans (Goes.one ?_)
   have hil:i < l.length:=by omega
   have hli:=hfi l[i] (yAs hil)
   have hlt:(rvs (l.take i)).length = i:=by rw [yAG,yAU];omega
   unfold b10
   dsimp only
   rw [zAe,zAy (by rw [zAf,zAM];exact decide_eq_true (by omega)),zAG (zAj hil),zAG (zAj hil),zCM,zCN hil,zAR (F29_rev (by have:=hli.1;omega)),zAG (zBe (by simp only [zBl,zAM,hlt,yAC];omega)),zBp (by omega) (by omega),yAM hil]
   unfold rvs
   rw [yAV];rfl
 have:=hGo l.length (yAJ _)
 rw [yAi] at this
 refine (zBo (this.fin (e:=.inl (rvs l)) ?_)).trans ?_
 ·unfold b10
  dsimp only
  rw [zAe,zAX (by rw [zAf,zAM];exact decide_eq_false (by omega))]
 ·cases F25 (rvs l) <;> rfl
open Go Go.T Go.Pl
def ltP:List Nm -> List Nm -> Bool
 | _,[]=>false
 | [],_ :: _=>true
 | a :: p,b :: q=>slt a b || (decide (a = b) && ltP p q)
def ltP_irr:∀ p:List Nm,ltP p p = false
 | []=>rfl
 | a :: p=>by
  have:slt a a = false:=by simpa using slt_irr a
  rw [ltP,this,ltP_irr p];simp
def ltP_tri:∀ p q:List Nm,ltP p q = true \/ p = q \/ ltP q p = true
 | [],[]=>.inr (.inl rfl)
 | [],_ :: _=>.inl rfl
 | _ :: _,[]=>.inr (.inr rfl)
 | a :: p,b :: q=>by
  rw [ltP,ltP]
  rcases slt_tri a b with h | h | h
  ·exact .inl (by rw [h];rfl)
  ·subst h
   rcases ltP_tri p q with h | h | h
   ·exact .inl (by rw [h];simp)
   ·exact .inr (.inl (by rw [h]))
   ·exact .inr (.inr (by rw [h];simp))
  ·exact .inr (.inr (by rw [h];rfl))
def ltP_trans:∀ {p q r:List Nm},ltP p q = true -> ltP q r = true -> ltP p r = true
 | p,q,[],_,h=>by cases q <;> cases h
 | p,[],_ :: _,h,_=>by cases p <;> cases h
 | [],_ :: _,_ :: _,_,_=>rfl
 | a :: p,b :: q,c :: r,h1,h2=>by
  rw [ltP,Bool.or_eq_true,yAB,decide_eq_true_eq] at h1 h2 ⊢
  rcases h1 with h1 | ⟨rfl,h1⟩
  ·rcases h2 with h2 | ⟨rfl,h2⟩
   ·exact .inl (slt_trans h1 h2)
   ·exact .inl h1
  ·rcases h2 with h2 | ⟨rfl,h2⟩
   ·exact .inl h2
   ·exact .inr ⟨rfl,ltP_trans h1 h2⟩
def ltP_app:∀ p a b:List Nm,ltP (p ++ a) (p ++ b) = ltP a b
 | [],a,b=>rfl
 | n :: p,a,b=>by
  have:slt n n = false:=by simpa using slt_irr n
  rw [yAl,yAl,ltP,this,ltP_app p];simp
def cmpP (p q:List Nm):Int:=if ltP p q = true then -1 else if p = q then 0 else 1
def cmpP_cons {a b:Nm} (p q:List Nm):cmpP (a :: p) (b :: q) = if slt a b = true then -1 else if slt b a = true then 1 else cmpP p q:=by
 unfold cmpP
 rw [ltP]
 by_cases h:slt a b = true
 ·rw [if_pos h,h,if_pos (by simp)]
 ·have h0:slt a b = false:=by simpa using h
  rw [if_neg h,h0,Bool.false_or]
  by_cases h':slt b a = true
  ·have hne:a ≠ b:=fun e=>by subst e;exact h h'
   rw [if_pos h',decide_eq_false hne,if_neg (by simp),if_neg (fun e=>hne (List.cons.inj e).1)]
  ·have e:a = b:=by
    rcases slt_tri a b with h1 | h1 | h1
    ·exact absurd h1 h
    ·exact h1
    ·exact absurd h1 h'
   subst e
   rw [if_neg h',decide_eq_true rfl,yBT]
   by_cases hp:p = q
   ·subst hp;rw [if_pos (rfl:a :: p = a :: p),if_pos rfl]
   ·rw [if_neg hp,if_neg (fun e=>hp (List.cons.inj e).2)]
def F72_eq {a b:List Nm} (ha:a.length <= 1000000) (hb:b.length <= 1000000):F72 (a,b) = some (cmpP a b):=by
 suffices h:∃ y,F72 (a,b) = some y /\ y = cmpP a b by
  obtain ⟨y,h1,h2⟩:=h
  rw [h1,h2]
 unfold F72
 dsimp only
 refine (zDL (G:=fun y=>y = cmpP a b) (fun s=>∃ i:Nat,s = (i:Int) /\ i <= a.length /\ i <= b.length /\ cmpP a b = cmpP (a.drop i) (b.drop i)) (fun s=>a.length - s.toNat) (fun e=>(e = .inl () /\ ∃ i:Nat,i <= a.length /\ i <= b.length /\ (i = a.length \/ i = b.length) /\ cmpP a b = cmpP (a.drop i) (b.drop i)) \/ e = .inr (cmpP a b)) ⟨0,rfl,by omega,by omega,rfl⟩ ?_ ?_)
 ·rintro _ ⟨i,rfl,hi,hj,hc⟩
  have hcond:zAL (ilt (i:Int) (n2i (zAE a))) (ilt (i:Int) (n2i (zAE b))) false = decide (i < a.length /\ i < b.length):=by
   rw [zAu,zAe,zAe,zAf,zAf,zAM,zAM,<- Bool.decide_and]
   rw [decide_eq_decide];omega
  rw [hcond,zCb]
  by_cases h:i < a.length /\ i < b.length
  ·rw [if_pos h,zAG (zAj h.1),zAG (zAj h.2),zCM,zCN h.1,zCN h.2,zAG (zAj h.1),zAG (zAj h.2),sle_not]
   rw [yAX h.1,yAX h.2,cmpP_cons] at hc
   unfold sel
   by_cases h1:slt a[i] b[i] = true
   ·rw [if_pos h1] at hc
    rw [h1,hc]
    exact .inr ⟨_,rfl,.inr rfl⟩
   ·have h1':slt a[i] b[i] = false:=by simpa using h1
    rw [if_neg h1] at hc
    rw [h1']
    by_cases h2:slt b[i] a[i] = true
    ·rw [if_pos h2] at hc
     rw [h2,hc]
     exact .inr ⟨_,rfl,.inr rfl⟩
    ·have h2':slt b[i] a[i] = false:=by simpa using h2
     rw [if_neg h2] at hc
     rw [h2',zBp (by omega) (by omega)]
     exact .inl ⟨_,rfl,⟨i + 1,rfl,by omega,by omega,hc⟩,by omega⟩
  ·rw [if_neg h]
   exact .inr ⟨_,rfl,.inl ⟨rfl,i,hi,hj,by omega,hc⟩⟩
 ·rintro _ (⟨rfl,i,hi,hj,he,hc⟩ | rfl)
  ·have hk:(sel (ilt (n2i (zAE a)) (n2i (zAE b))) (some (-1)) <| sel (ilt (n2i (zAE b)) (n2i (zAE a))) (some 1) <| some 0:Option Int) = some (cmpP a b):=by
    rw [hc,zAe,zAe,zAf,zAf,zAM,zAM,zCb,zCb]
    rcases Nat.lt_trichotomy a.length b.length with h | h | h
    ·have:i = a.length:=by omega
     subst this
     rw [if_pos (by omega),List.drop_length,yAX (by omega)];rfl
    ·have e1:i = a.length:=by omega
     rw [if_neg (by omega),if_neg (by omega),e1,List.drop_length,h,List.drop_length];rfl
    ·have:i = b.length:=by omega
     subst this
     rw [if_neg (by omega),if_pos (by omega),List.drop_length,yAX (by omega)];rfl
   exact ⟨_,hk,rfl⟩
  ·exact ⟨_,rfl,rfl⟩
def addS:List Sk -> Sk -> List Sk
 | [],x=>[x]
 | y :: l,x=>if ltP y.1 x.1 = true then y :: addS l x else if y.1 = x.1 then (x.1,y.2 + x.2) :: l else x :: y :: l
def addS_app {x:Sk}:∀ {A:List Sk} (B:List Sk),(∀ a ∈ A,ltP a.1 x.1 = true) -> addS (A ++ B) x = A ++ addS B x
 | [],B,_=>rfl
 | a :: A,B,h=>by rw [yAl,addS,if_pos (h a (by simp)),addS_app B fun b hb=>h b (yAF _ hb)];rfl
def addS_mem {x:Sk}:∀ {l:List Sk} {z:Sk},z ∈ addS l x -> z.1 = x.1 \/ z ∈ l
 | [],z,h=>by simp [addS] at h;exact .inl (by rw [h])
 | y :: l,z,h=>by
  rw [addS] at h
  split at h
  ·rcases yAE.1 h with rfl | h
   ·exact .inr (by simp)
   ·exact (addS_mem h).imp id fun h=>yAF _ h
  ·split at h
   ·rcases yAE.1 h with rfl | h
    ·exact .inl rfl
    ·exact .inr (by simp [h])
   ·rcases yAE.1 h with rfl | h
    ·exact .inl rfl
    ·exact .inr h
def addS_asc {x:Sk}:∀ {l:List Sk},(l.Pairwise fun a b=>ltP a.1 b.1 = true) -> (addS l x).Pairwise fun a b=>ltP a.1 b.1 = true
 | [],_=>by simp [addS]
 | y :: l,h=>by
  rw [yBE] at h
  rw [addS]
  split
  ·rename_i hy
   rw [yBE]
   refine ⟨fun z hz=>?_,addS_asc h.2⟩
   rcases addS_mem hz with e | hz
   ·rw [e];exact hy
   ·exact h.1 z hz
  ·rename_i hy
   split
   ·rename_i e
    rw [yBE]
    exact ⟨fun z hz=>by rw [<- e];exact h.1 z hz,h.2⟩
   ·rename_i hne
    have hx:ltP x.1 y.1 = true:=by
     rcases ltP_tri x.1 y.1 with h | h | h
     ·exact h
     ·exact absurd h.symm hne
     ·exact absurd h hy
    rw [yBE]
    refine ⟨fun z hz=>?_,yBE.2 h⟩
    rcases yAE.1 hz with rfl | hz
    ·exact hx
    ·exact ltP_trans hx (h.1 z hz)
def addS_sum {x:Sk} (q:List Nm):∀ l:List Sk,zCP (addS l x) q = zCP l q + if x.1 = q then x.2 else 0
 | []=>by rw [addS,zAv,sumAt_nil];omega
 | y :: l=>by
  rw [addS]
  split
  ·rw [zAv,addS_sum q l,zAv];omega
  ·split
   ·rename_i e
    rw [zAv,zAv]
    dsimp only
    rw [e]
    split <;> omega
   ·rw [zAv];omega
def addS_len {x:Sk}:∀ l:List Sk,(addS l x).length <= l.length + 1
 | []=>by simp [addS]
 | y :: l=>by
  have:=addS_len (x:=x) l
  rw [addS]
  split
  ·simp only [yAY];omega
  ·split <;> simp
def asc_sum:∀ {l:List Sk},(l.Pairwise fun a b=>ltP a.1 b.1 = true) -> ∀ y ∈ l,zCP l y.1 = y.2
 | [],_,y,h=>by cases h
 | x :: l,hp,y,h=>by
  rw [yBE] at hp
  rw [zAv]
  rcases yAE.1 h with rfl | h
  ·rw [if_pos rfl,zDO fun z hz e=>by have:=hp.1 z hz;rw [e,ltP_irr] at this;cases this];omega
  ·rw [if_neg (fun e=>by have:=hp.1 y h;rw [e,ltP_irr] at this;cases this),asc_sum hp.2 y h];omega
def sumAt_mem {l:List Sk} {q:List Nm} (h:zCP l q ≠ 0):∃ y ∈ l,y.1 = q:=by
 refine Classical.byContradiction fun hn=>h (zDO fun y hy e=>hn ⟨y,hy,e⟩)
def asc_uniq:∀ {A B:List Sk},(A.Pairwise fun a b=>ltP a.1 b.1 = true) -> (B.Pairwise fun a b=>ltP a.1 b.1 = true) -> (∀ a ∈ A,a.2 ≠ 0) -> (∀ b ∈ B,b.2 ≠ 0) -> (∀ q,zCP A q = zCP B q) -> A = B
 | [],[],_,_,_,_,_=>rfl
 | [],y :: B,_,hB,_,hb,h=>by
  have:=asc_sum hB y (by simp)
  rw [<- h,sumAt_nil] at this
  exact absurd this.symm (hb y (by simp))
 | x :: A,[],hA,_,ha,_,h=>by
  have:=asc_sum hA x (by simp)
  rw [h,sumAt_nil] at this
  exact absurd this.symm (ha x (by simp))
 | x :: A,y :: B,hA,hB,ha,hb,h=>by
  have h1:=asc_sum hA x (by simp)
  have h2:=asc_sum hB y (by simp)
  have hA':=yBE.1 hA
  have hB':=yBE.1 hB
  have e:x.1 = y.1:=by
   obtain ⟨z,hz,ez⟩:=sumAt_mem (l:=y :: B) (q:=x.1) (by rw [<- h,h1];exact ha x (by simp))
   obtain ⟨w,hw,ew⟩:=sumAt_mem (l:=x :: A) (q:=y.1) (by rw [h,h2];exact hb y (by simp))
   rcases yAE.1 hz with rfl | hz
   ·exact ez.symm
   rcases yAE.1 hw with rfl | hw
   ·exact ew
   have l1:=hB'.1 z hz
   have l2:=hA'.1 w hw
   rw [ez] at l1
   rw [ew] at l2
   have:=ltP_trans l1 l2
   rw [ltP_irr] at this;cases this
  have e2:x.2 = y.2:=by rw [<- h1,<- h2,h,e]
  have exy:x = y:=Prod.ext e e2
  subst exy
  rw [asc_uniq hA'.2 hB'.2 (fun a h=>ha a (yAF _ h)) (fun b h=>hb b (yAF _ h)) fun q=>by
   have:=h q
   rw [zAv,zAv] at this
   omega]
def stk_asc:∀ {F:Fo} (p:List Nm),F.Srt -> (F.stk p).Pairwise fun a b=>ltP a.1 b.1 = true
 | .nil,_,_=>by simp [Fo.stk]
 | .cons n s sub rest,p,h=>by
  have h1:=stk_asc (p ++ [n]) h.2.1
  have h2:=stk_asc p h.2.2
  have k1:∀ x ∈ sub.stk (p ++ [n]),∃ m q,x.1 = p ++ n :: m :: q:=fun x hx=>by
   obtain ⟨m,q,e,_⟩:=Fo.stk_path hx
   exact ⟨m,q,by rw [e];simp⟩
  have k2:∀ x ∈ rest.stk p,∃ m q,x.1 = p ++ m :: q /\ slt n m = true:=fun x hx=>by
   obtain ⟨m,q,e,hm,_⟩:=Fo.stk_path hx
   exact ⟨m,q,e,h.1 m hm⟩
  rw [Fo.stk,List.pairwise_append,List.pairwise_append]
  refine ⟨by split <;> simp,⟨h1,h2,fun a ha b hb=>?_⟩,fun a ha b hb=>?_⟩
  ·obtain ⟨m,q,e1⟩:=k1 a ha
   obtain ⟨m',q',e2,h3⟩:=k2 b hb
   rw [e1,e2,ltP_app,ltP,h3];rfl
  ·split at ha
   ·simp at ha
    subst ha
    rcases yAO.1 hb with hb | hb
    ·obtain ⟨m,q,e1⟩:=k1 b hb
     have:slt n n = false:=by simpa using slt_irr n
     rw [e1,ltP_app,ltP,this,decide_eq_true rfl];rfl
    ·obtain ⟨m',q',e2,h3⟩:=k2 b hb
     rw [e2,ltP_app,ltP,h3];rfl
   ·cases ha
def stk_ne0:∀ {F:Fo} {p:List Nm},∀ x ∈ F.stk p,x.2 ≠ 0:=fun x hx=>by
 obtain ⟨m,q,_,_,h⟩:=Fo.stk_path hx;exact h
def sumAt_live (q:List Nm):∀ l:List Sk,zCP (l.filter fun y=>decide (y.2 ≠ 0)) q = zCP l q
 | []=>rfl
 | y :: l=>by
  by_cases h:y.2 ≠ 0
  ·rw [yAo (by simpa using h),zAv,zAv,sumAt_live q l]
  ·have h0:y.2 = 0:=Decidable.not_not.1 h
   rw [yAp (by simpa using h),zAv,sumAt_live q l,h0];simp
def F50_eq {l:List Sk} {x:Sk} (hl:l.length <= 2000) (hx:x.1.length <= 1000) (hp:∀ y ∈ l,y.1.length <= 1000) (hw:∀ y ∈ l,-(1099511627776 * 3000) <= y.2 /\ y.2 <= 1099511627776 * 3000) (hxw:-1099511627776 <= x.2 /\ x.2 <= 1099511627776):F50 (l,x) = some (addS l x):=by
 suffices h:∃ y,F50 (l,x) = some y /\ y = addS l x by
  obtain ⟨y,h1,h2⟩:=h
  rw [h1,h2]
 unfold F50
 dsimp only
 refine (zDL (G:=fun y=>y = addS l x) (fun s=>∃ i:Nat,s = (i:Int) /\ i <= l.length /\ ∀ a ∈ l.take i,ltP a.1 x.1 = true) (fun s=>l.length - s.toNat) (fun e=>∃ i:Nat,e = .inl (i:Int) /\ i <= l.length /\ (∀ a ∈ l.take i,ltP a.1 x.1 = true) /\ ∀ h:i < l.length,¬ ltP l[i].1 x.1 = true) ⟨0,rfl,by omega,by simp⟩ ?_ ?_)
 ·rintro _ ⟨i,rfl,hi,hA⟩
  rw [zAG (impl_t fun h=>by rw [zAe,decide_eq_true_eq,zAf,zAM] at h;exact zAj (by omega)),zAe,zAf,zAM]
  by_cases h:i < l.length
  ·rw [decide_eq_true (by omega),zAy rfl,zCM,zCN h,zAR (F72_eq (by have:=hp _ (yAs h);omega) (by omega)),zAu,yBT,zAe,zCb]
   by_cases hc:ltP l[i].1 x.1 = true
   ·have:cmpP l[i].1 x.1 = -1:=by unfold cmpP;rw [if_pos hc]
    rw [this,if_pos (by decide),zBp (by omega) (by omega)]
    refine .inl ⟨_,rfl,⟨i + 1,rfl,by omega,fun a ha=>?_⟩,by omega⟩
    rw [yAM h] at ha
    rcases yAO.1 ha with ha | ha
    ·exact hA a ha
    ·simp at ha;rw [ha];exact hc
   ·have:¬ cmpP l[i].1 x.1 < 0:=by unfold cmpP;rw [if_neg hc];split <;> decide
    rw [if_neg this]
    exact .inr ⟨_,rfl,i,rfl,hi,hA,fun _=>hc⟩
  ·rw [decide_eq_false (by omega),zAX rfl,call_b,zAu,Bool.false_and,zAX rfl]
   exact .inr ⟨_,rfl,i,rfl,hi,hA,fun h'=>absurd h' h⟩
 ·rintro _ ⟨i,rfl,hi,hA,hn⟩
  have hsub:zCI l (i2n 0) (nsub (i2n (i:Int)) (i2n 0)) = l.take i:=by
   show (l.drop 0).take (i - 0) = _
   simp
  have hrest:∀ k:Nat,zCI l k (nsub (i2n (n2i (zAE l))) k) = l.drop k:=fun k=>by
   show (l.drop k).take (l.length - k) = _
   rw [yAW (by simp)]
  have hins:inS 0 (i:Int) (zAE l) = true:=inS_t hi
  have hr0:∀ k:List Sk,zBg [] k = k:=fun k=>rfl
  have htl:(l.take i).length = i:=by rw [yAU];omega
  rw [Sum.elim_inl]
  rw [hsub,hr0,zAG hins,zAG (zBe (by simp only [zBl,zAM,htl,List.length_nil];omega)),zAG (impl_t fun h=>by rw [zAe,decide_eq_true_eq,zAf,zAM] at h;exact zAj (by omega)),zAe]
  have hinr:∀ k:Nat,k <= l.length -> inS (k:Int) (n2i (zAE l)) (zAE l) = true:=fun k hk=>by unfold inS;simp [n2i,zAE];omega
  by_cases h:i < l.length
  ·have hspl:l = l.take i ++ l[i] :: l.drop (i + 1):=by rw [<- yAX h,yAk]
   have hadd:addS l x = l.take i ++ addS (l[i] :: l.drop (i + 1)) x:=by
    conv=>lhs;rw [hspl]
    exact addS_app _ hA
   rw [decide_eq_true (by rw [zAf,zAM];omega),zAy rfl,zCM,zCN h,zAR (F72_eq (by have:=hp _ (yAs h);omega) (by omega)),zAu,yBT,zDY,zCb]
   rw [hadd,addS,if_neg (hn h)]
   have hli:=hw _ (yAs h)
   have hdl:(l.drop (i + 1)).length <= 2000:=by rw [List.length_drop];omega
   have hdl2:(l.drop i).length <= 2000:=by rw [List.length_drop];omega
   by_cases e:l[i].1 = x.1
   ·have hc:cmpP l[i].1 x.1 = 0:=by unfold cmpP;rw [if_neg (hn h),if_pos e]
    have hone:zBA .i64 (i:Int) 1 = ((i + 1:Nat):Int):=by rw [zBp (by omega) (by omega)];rfl
    rw [hc,if_pos rfl,if_pos e,zBp (by omega) (by omega),hone,zAG (zAj h),zAG (zBe (by simp only [zBl,zAM,htl,yAC];omega)),zAG (hinr _ (by omega)),zCM,hrest,zAG (zBe (by simp only [zBl,zAM,zBg,yAD,htl,yAC];omega))]
    refine ⟨_,rfl,?_⟩
    simp [zBg]
   ·have hc:¬ cmpP l[i].1 x.1 = 0:=by unfold cmpP;rw [if_neg (hn h),if_neg e];decide
    rw [if_neg hc,if_neg e,zAG (zBe (by simp only [zBl,zAM,htl,yAC];omega)),zAG (hinr _ hi),hrest,zAG (zBe (by simp only [zBl,zAM,zBg,yAD,htl,yAC];omega))]
    refine ⟨_,rfl,?_⟩
    rw [yAX h]
    simp [zBg]
  ·have hi':i = l.length:=by omega
   rw [decide_eq_false (by rw [zAf,zAM];omega),zAX rfl,call_b,zAu,Bool.false_and,zAX rfl,zAG (zBe (by simp only [zBl,zAM,htl,yAC];omega)),zAG (hinr _ hi),zCM,hrest,zAG (zBe (by simp only [zBl,zAM,zBg,yAD,htl,yAC,List.length_drop];omega))]
   refine ⟨_,rfl,?_⟩
   have hadd:addS (l ++ []) x = l ++ addS [] x:=addS_app [] fun a ha=>hA a (by rw [hi',yAi];exact ha)
   rw [yAS] at hadd
   subst hi'
   rw [hadd,List.drop_length,yAi]
   simp [zBg,addS]
def sumS (l:List Sk):List Sk:=l.foldl addS []
def sumS_snoc (l:List Sk) (x:Sk):sumS (l ++ [x]) = addS (sumS l) x:=by unfold sumS;rw [List.foldl_append];rfl
def sumS_ok (l:List Sk):∀ n,n <= l.length -> ((sumS (l.take n)).Pairwise fun a b=>ltP a.1 b.1 = true) /\ (∀ q,zCP (sumS (l.take n)) q = zCP (l.take n) q) /\ (sumS (l.take n)).length <= n /\ ∀ y ∈ sumS (l.take n),∃ z ∈ l.take n,z.1 = y.1:=by
 intro n
 induction n with
 | zero=>intro _;exact ⟨.nil,fun q=>rfl,yAJ _,fun y hy=>by cases hy⟩
 | succ n ih =>
  intro hn
  obtain ⟨h1,h2,h3,h4⟩:=ih (by omega)
  have hnl:n < l.length:=by omega
  rw [yAM hnl,sumS_snoc]
  refine ⟨addS_asc h1,fun q=>?_,?_,fun y hy=>?_⟩
  ·rw [addS_sum,h2,sumAt_app,zAv,sumAt_nil];omega
  ·have:=addS_len (x:=l[n]) (sumS (l.take n));omega
  ·rcases addS_mem hy with e | hy
   ·exact ⟨l[n],yAh _ (by simp),e.symm⟩
   ·obtain ⟨z,hz,e⟩:=h4 y hy
    exact ⟨z,yAu _ hz,e⟩
def sumAt_b {l:List Sk} (h:∀ y ∈ l,wOk y.2 = true) (q:List Nm):-(1099511627776 * (l.length:Int)) <= zCP l q /\ zCP l q <= 1099511627776 * (l.length:Int):=by
 have h1:=sum_lb 1099511627776 (by decide) ((l.filter fun x=>decide (x.1 = q)).map (·.2)) fun v hv=>by
  obtain ⟨w,hw,rfl⟩:=yBC.1 hv
  exact of_decide_eq_true (h w (List.mem_filter.1 hw).1)
 have h2:=List.length_filter_le (fun x:Sk=>decide (x.1 = q)) l
 rw [yAG] at h1
 unfold zCP
 omega
def com:List Nm -> List Nm -> Nat
 | a :: p,b :: q=>if a = b then com p q + 1 else 0
 | _,_=>0
def com_le:∀ p q:List Nm,com p q <= p.length /\ com p q <= q.length
 | [],q=>by simp [com]
 | _ :: _,[]=>by simp [com]
 | a :: p,b :: q=>by
  have:=com_le p q
  rw [com];split <;> simp <;> omega
def com_app:∀ (p a b:List Nm),com (p ++ a) (p ++ b) = p.length + com a b
 | [],a,b=>by simp
 | n :: p,a,b=>by rw [yAl,yAl,com,if_pos rfl,com_app p,yAY];omega
def F73_eq {a b:List Nm} (ha:a.length <= 1000000) (hb:b.length <= 1000000):F73 (a,b) = some (com a b:Int):=by
 suffices h:∃ y,F73 (a,b) = some y /\ y = (com a b:Int) by
  obtain ⟨y,h1,h2⟩:=h
  rw [h1,h2]
 unfold F73
 dsimp only
 refine (zDL (G:=fun y=>y = (com a b:Int)) (fun s=>∃ i:Nat,s = (i:Int) /\ i <= a.length /\ i <= b.length /\ com a b = i + com (a.drop i) (b.drop i)) (fun s=>a.length - s.toNat) (fun e=>e = .inl (com a b:Int)) ⟨0,rfl,by omega,by omega,by simp⟩ ?_ ?_)
 ·rintro _ ⟨i,rfl,hi,hj,hc⟩
  have hcond:zAL (ilt (i:Int) (n2i (zAE a))) (ilt (i:Int) (n2i (zAE b))) false = decide (i < a.length /\ i < b.length):=by
   rw [zAu,zAe,zAe,zAf,zAf,zAM,zAM,<- Bool.decide_and]
   rw [decide_eq_decide];omega
  rw [hcond]
  by_cases h:i < a.length /\ i < b.length
  ·rw [decide_eq_true h,zAG (impl_t fun _=>zAj h.1),zAG (impl_t fun _=>zAj h.2),zCM,zCN h.1,zCN h.2,seq_t,zAu,yBT,zCb]
   rw [yAX h.1,yAX h.2,com] at hc
   by_cases e:a[i] = b[i]
   ·rw [if_pos e] at hc
    rw [if_pos e,zBp (by omega) (by omega)]
    exact .inl ⟨_,rfl,⟨i + 1,rfl,by omega,by omega,by omega⟩,by omega⟩
   ·rw [if_neg e] at hc
    rw [if_neg e]
    exact .inr ⟨_,rfl,by rw [hc];rfl⟩
  ·rw [decide_eq_false h,zAG (by rfl),zAG (by rfl),zAu,Bool.false_and,zAX rfl]
   refine .inr ⟨_,rfl,?_⟩
   have:com (a.drop i) (b.drop i) = 0:=by
    rcases yAZ i a.length with h' | h'
    ·rw [List.drop_eq_nil_of_le (show b.length <= i by omega)]
     cases a.drop i <;> rfl
    ·rw [List.drop_eq_nil_of_le h'];rfl
   rw [hc,this];rfl
 ·rintro _ rfl
  exact ⟨_,rfl,rfl⟩
def zCp:List FN × List Int -> List Nm -> List FN × List Int
 | x,[]=>x
 | (out,at'),m :: r=>zCp (out ++ [((at'.getLast?).getD (-1),m,0)],at' ++ [(out.length:Int)]) r
def setL (out:List FN) (w:Int):List FN:=out.set (out.length - 1) ((out.getD (out.length - 1) (0,⟨#[]⟩,0)).1,(out.getD (out.length - 1) (0,⟨#[]⟩,0)).2.1,w)
abbrev Bs:=List FN × List Nm × List Int
def bst (st:Bs) (y:Sk):Bs:=(setL (zCp (st.1,st.2.2.take (com st.2.1 y.1)) (y.1.drop (com st.2.1 y.1))).1 y.2,y.1,(zCp (st.1,st.2.2.take (com st.2.1 y.1)) (y.1.drop (com st.2.1 y.1))).2)
def pushN_len:∀ (r:List Nm) (x:List FN × List Int),(zCp x r).1.length = x.1.length + r.length /\ (zCp x r).2.length = x.2.length + r.length
 | [],x=>⟨rfl,rfl⟩
 | m :: r,(out,at')=>by
  have:=pushN_len r (out ++ [((at'.getLast?).getD (-1),m,0)],at' ++ [(out.length:Int)])
  rw [zCp,this.1,this.2]
  simp;omega
def setL_len (out:List FN) (w:Int):(setL out w).length = out.length:=by simp [setL]
abbrev St51:=List Nm × (Int × (List FN × List Int))
abbrev St51i:=Int × (List FN × List Int)
def b51 (x:(List ((List ByteArray) × Int))):St51 -> Option (St51 ⊕ (List FN ⊕ (List FN × Int))) :=
(fun (s0:((List ByteArray) × (Int × ((List (Int × (ByteArray × Int))) × (List Int))))) =>
sel (ilt s0.2.1 (n2i (zAE x))) (join (need (inL s0.2.1 (zAE x)) <|
sel (ieq ((zAH (([]:List ByteArray),0) x (i2n s0.2.1)).2) 0) (some (.inl (s0.1,s0.2.2.1,s0.2.2.2))) <|
need (inL s0.2.1 (zAE x)) <|
call (F68 ((zAH (([]:List ByteArray),0) x (i2n s0.2.1)).2)) fun (r1:Bool) =>
sel (zCr r1) (some (.inr (.inr (.inr (([]:List (Int × (ByteArray × Int))),2))))) <|
need (inL s0.2.1 (zAE x)) <|
call (F73 (s0.1,(zAH (([]:List ByteArray),0) x (i2n s0.2.1)).1)) fun (r2:Int) =>
need (inS 0 r2 (zAE s0.2.2.2)) <|
need (room (zBl (zAE ([]:List Int)) (zAE (zCI s0.2.2.2 (i2n 0) (nsub (i2n r2) (i2n 0))))) 8) <|
join (zBh (fun (s3:(Int × ((List (Int × (ByteArray × Int))) × (List Int)))) =>
need (inL s0.2.1 (zAE x)) <|
sel (ilt s3.1 (n2i (zAE ((zAH (([]:List ByteArray),0) x (i2n s0.2.1)).1)))) (join (join (sel (ilt 0 s3.1) (need (inL (zCX .i64 s3.1 1) (zAE s3.2.2)) <|
some (.inl (zAH 0 s3.2.2 (i2n (zCX .i64 s3.1 1))))) <|
some (.inl (-1))) fun (j4:Int) =>
need (room (zBl (zAE s3.2.2) (zAE (n2i (zAE s3.2.1) :: ([]:List Int)))) 8) <|
need (inL s0.2.1 (zAE x)) <|
need (inL s3.1 (zAE ((zAH (([]:List ByteArray),0) x (i2n s0.2.1)).1))) <|
need (room (zBl (zAE s3.2.1) (zAE ((j4,zAH (⟨#[]⟩:ByteArray) ((zAH (([]:List ByteArray),0) x (i2n s0.2.1)).1) (i2n s3.1),0) :: ([]:List (Int × (ByteArray × Int)))))) 32) <|
some (.inl (zBg s3.2.1 ((j4,zAH (⟨#[]⟩:ByteArray) ((zAH (([]:List ByteArray),0) x (i2n s0.2.1)).1) (i2n s3.1),0) :: ([]:List (Int × (ByteArray × Int)))),zBg s3.2.2 (n2i (zAE s3.2.1) :: ([]:List Int))))) fun (j5:((List (Int × (ByteArray × Int))) × (List Int))) =>
some (.inl (zBA .i64 s3.1 1,j5.1,j5.2))) <|
some (.inr (.inl (s3.2.1,s3.2.2)))) (r2,s0.2.2.1,zBg ([]:List Int) (zCI s0.2.2.2 (i2n 0) (nsub (i2n r2) (i2n 0))))) fun (j6:((List (Int × (ByteArray × Int))) × (List Int))) =>
need (inL s0.2.1 (zAE x)) <|
need (inL (zCX .i64 (n2i (zAE j6.1)) 1) (zAE j6.1)) <|
need (inL s0.2.1 (zAE x)) <|
some (.inl ((zAH (([]:List ByteArray),0) x (i2n s0.2.1)).1,lset j6.1 (i2n (zCX .i64 (n2i (zAE j6.1)) 1)) ((zAH (0,(⟨#[]⟩:ByteArray),0) j6.1 (i2n (zCX .i64 (n2i (zAE j6.1)) 1))).1,((zAH (0,(⟨#[]⟩:ByteArray),0) j6.1 (i2n (zCX .i64 (n2i (zAE j6.1)) 1))).2).1,(zAH (([]:List ByteArray),0) x (i2n s0.2.1)).2),j6.2))) fun (j7:((List ByteArray) × ((List (Int × (ByteArray × Int))) × (List Int)))) =>
some (.inl (j7.1,zBA .i64 s0.2.1 1,j7.2.1,j7.2.2))) <|
some (.inr (.inl s0.2.2.1)))
def b51i (x:(List ((List ByteArray) × Int))) (s0:St51) (R:Type):St51i -> Option (St51i ⊕ ((List FN × List Int) ⊕ R)) :=
(fun (s3:(Int × ((List (Int × (ByteArray × Int))) × (List Int)))) =>
need (inL s0.2.1 (zAE x)) <|
sel (ilt s3.1 (n2i (zAE ((zAH (([]:List ByteArray),0) x (i2n s0.2.1)).1)))) (join (join (sel (ilt 0 s3.1) (need (inL (zCX .i64 s3.1 1) (zAE s3.2.2)) <|
some (.inl (zAH 0 s3.2.2 (i2n (zCX .i64 s3.1 1))))) <|
some (.inl (-1))) fun (j4:Int) =>
need (room (zBl (zAE s3.2.2) (zAE (n2i (zAE s3.2.1) :: ([]:List Int)))) 8) <|
need (inL s0.2.1 (zAE x)) <|
need (inL s3.1 (zAE ((zAH (([]:List ByteArray),0) x (i2n s0.2.1)).1))) <|
need (room (zBl (zAE s3.2.1) (zAE ((j4,zAH (⟨#[]⟩:ByteArray) ((zAH (([]:List ByteArray),0) x (i2n s0.2.1)).1) (i2n s3.1),0) :: ([]:List (Int × (ByteArray × Int)))))) 32) <|
some (.inl (zBg s3.2.1 ((j4,zAH (⟨#[]⟩:ByteArray) ((zAH (([]:List ByteArray),0) x (i2n s0.2.1)).1) (i2n s3.1),0) :: ([]:List (Int × (ByteArray × Int)))),zBg s3.2.2 (n2i (zAE s3.2.1) :: ([]:List Int))))) fun (j5:((List (Int × (ByteArray × Int))) × (List Int))) =>
some (.inl (zBA .i64 s3.1 1,j5.1,j5.2))) <|
some (.inr (.inl (s3.2.1,s3.2.2))))
def F51_def (x:List Sk):F51 x = join (zBh (b51 x) ([],0,[],[])) fun (j8:List FN)=>sel (ilt 2000 (n2i (zAE j8))) (some ([],4)) <| some (j8,0):=rfl
def push_loop {x:List Sk} {i:Nat} {y:Sk} {R:Type} {s0:St51} (hs0:s0.2.1 = (i:Int)) (hi:x[i]? = some y) (hy:y.1.length <= 1000):∀ (r:List Nm) (k:Nat) (out:List FN) (at':List Int),y.1.drop k = r -> at'.length = k -> k <= y.1.length -> out.length + r.length <= 1000000 ->
  zBh (b51i x s0 R) ((k:Int),out,at') = some (.inl (zCp (out,at') r))
 | [],k,out,at',hr,hk,hky,ho=>by
  have hil:=At.lt hi
  have hkl:k = y.1.length:=by
   have:=congrArg List.length hr
   rw [List.length_drop] at this
   simp at this;omega
  refine iter_r ?_
  unfold b51i
  dsimp only
  rw [hs0,zAG (zAj hil),zCM,lget_n hi,zAe,zAX (by rw [zAf,zAM];exact decide_eq_false (by omega))]
  rfl
 | m :: r,k,out,at',hr,hk,hky,ho=>by
  have hil:=At.lt hi
  have hkl:k < y.1.length:=by
   have:=congrArg List.length hr
   rw [List.length_drop,yAY] at this
   omega
  rw [yAX hkl] at hr
  obtain ⟨rfl,hr2⟩:=List.cons.inj hr
  rw [yAY] at ho
  have ih:=push_loop (R:=R) hs0 hi hy r (k + 1) (out ++ [((at'.getLast?).getD (-1),y.1[k],0)]) (at' ++ [(out.length:Int)]) hr2 (by simp;omega) (by omega) (by simp;omega)
  refine iter_l ?_ ih
  unfold b51i
  dsimp only
  rw [hs0,zAG (zAj hil),zCM,lget_n hi,zAe,zAy (by rw [zAf,zAM];exact decide_eq_true (by omega))]
  have hj:(sel (ilt 0 (k:Int)) (need (inL (zCX .i64 (k:Int) 1) (zAE at')) <| some (.inl (zAH 0 at' (i2n (zCX .i64 (k:Int) 1))))) <| some (.inl (-1)):Option (Int ⊕ ((List FN × List Int) ⊕ (St51i ⊕ ((List FN × List Int) ⊕ R))))) = some (.inl ((at'.getLast?).getD (-1))):=by
   rw [zAe,zCb]
   by_cases h0:0 < k
   ·have e:zCX .i64 (k:Int) 1 = ((k - 1:Nat):Int):=by rw [isubI' (by omega) (by omega)];omega
    obtain ⟨v,hx⟩:∃ v,at'[k - 1]? = some v:=⟨_,yAK (by omega)⟩
    rw [if_pos (by omega),e,zAG (zAj (by omega)),zCM,lget_n hx,List.getLast?_eq_getElem?,hk,hx];rfl
   ·have:at' = []:=yBL.1 (by omega)
    rw [if_neg (by omega),this];rfl
  have hg:zAH (⟨#[]⟩:ByteArray) y.1 k = y.1[k]:=zCN hkl
  rw [zBo hj,zAG (zBe (by simp only [zBl,zAE,yAC];omega)),zAG (zAj hil),zAG (zAj hkl),zCM,hg,zAG (zBe (by simp only [zBl,zAE,yAC];omega)),zBG,zBp (by omega) (by omega)]
  rfl
def st51 {x:List Sk} {i:Nat} {y:Sk} (hi:x[i]? = some y) (hx:x.length <= 2000) {out:List FN} {last:List Nm} {at':List Int} (h1:at'.length = last.length) (h2:last.length <= 64) (h3:last ≠ [] -> out ≠ []) (hy:y.1 ≠ [] /\ y.1.length <= 64) (hout:out.length <= 200000) :
  b51 x (last,(i:Int),out,at') = if y.2 = 0 then some (.inl (last,((i + 1:Nat):Int),out,at')) else if wOk y.2 = true then some (.inl ((bst (out,last,at') y).2.1,((i + 1:Nat):Int),(bst (out,last,at') y).1,(bst (out,last,at') y).2.2)) else some (.inr (.inr ([],2))):=by
 have hil:=At.lt hi
 have hc:=com_le last y.1
 have hone:zBA .i64 (i:Int) 1 = ((i + 1:Nat):Int):=by rw [zBp (by omega) (by omega)];rfl
 unfold b51
 dsimp only
 rw [zAe,zAy (by rw [zAf,zAM];exact decide_eq_true (by omega)),zAG (zAj hil)]
 simp only [zCM,lget_n hi,hone]
 rw [zDY,zCb]
 by_cases h0:y.2 = 0
 ·rw [if_pos h0,if_pos h0,zBG]
 rw [if_neg h0,if_neg h0,zAG (zAj hil),zAR (F68_eq y.2)]
 cases hw:wOk y.2 with
 | false=>rw [zAy (by rfl),join_br,if_neg (by simp)]
 | true =>
 rw [zAX (by rfl),if_pos rfl,zAG (zAj hil),zAR (F73_eq (by omega) (by omega)),zAG (inS_t (by rw [zAM];omega))]
 have hsub:zCI at' (i2n 0) (nsub (i2n (com last y.1:Int)) (i2n 0)) = at'.take (com last y.1):=by
  show (at'.drop 0).take (com last y.1 - 0) = _
  simp
 have hr0:zBg [] (at'.take (com last y.1)) = at'.take (com last y.1):=rfl
 simp only [hsub,hr0]
 have htl:(at'.take (com last y.1)).length = com last y.1:=by rw [yAU];omega
 have hdl:(y.1.drop (com last y.1)).length = y.1.length - com last y.1:=List.length_drop
 rw [zAG (zBe (by simp only [zBl,zAM,htl,List.length_nil];omega))]
 have hpush:=push_loop (R:=(List Nm × (List FN × List Int)) ⊕ (St51 ⊕ (List FN ⊕ (List FN × Int)))) (s0:=(last,(i:Int),out,at')) rfl hi (by omega) (y.1.drop (com last y.1)) (com last y.1) out (at'.take (com last y.1)) rfl htl hc.2 (by omega)
 unfold b51i at hpush
 dsimp only at hpush
 simp only [zCM,lget_n hi] at hpush
 have hne:1 <= (zCp (out,at'.take (com last y.1)) (y.1.drop (com last y.1))).1.length:=by
  rw [(pushN_len _ _).1,hdl]
  by_cases hl:last = []
  ·subst hl
   have:y.1.length ≠ 0:=fun h=>hy.1 (yBL.1 h)
   have:com [] y.1 = 0:=by cases y.1 <;> rfl
   omega
  ·have:out.length ≠ 0:=fun h=>h3 hl (yBL.1 h)
   dsimp only;omega
 have hlen:(zCp (out,at'.take (com last y.1)) (y.1.drop (com last y.1))).1.length <= 300000:=by
  rw [(pushN_len _ _).1,hdl];dsimp only;omega
 have hidx:zCX .i64 (n2i (zAE (zCp (out,at'.take (com last y.1)) (y.1.drop (com last y.1))).1)) 1 = (((zCp (out,at'.take (com last y.1)) (y.1.drop (com last y.1))).1.length - 1:Nat):Int):=by
  rw [zAf,zAM,isubI' (by omega) (by omega)];omega
 rw [zBo hpush]
 rw [zAG (zAj hil),hidx,zAG (zAj (by omega)),zAG (zAj hil),zBG]
 rfl
def bst0 (st:Bs) (y:Sk):Bs:=if y.2 = 0 then st else bst st y
def bld (L:List Sk):Bs:=L.foldl bst0 ([],[],[])
def bld_snoc (L:List Sk) (y:Sk):bld (L ++ [y]) = bst0 (bld L) y:=by unfold bld;rw [List.foldl_append];rfl
def bld_live:∀ (L:List Sk) (st:Bs),L.foldl bst0 st = (L.filter fun y=>decide (y.2 ≠ 0)).foldl bst0 st
 | [],st=>rfl
 | y :: L,st=>by
  by_cases h:y.2 ≠ 0
  ·rw [yAo (by simpa using h),List.foldl_cons,List.foldl_cons,bld_live L]
  ·have h0:y.2 = 0:=Decidable.not_not.1 h
   rw [yAp (by simpa using h),List.foldl_cons,bst0,if_pos h0,bld_live L]
def bld_inv {L:List Sk} (hp:∀ y ∈ L,y.1 ≠ [] /\ y.1.length <= 64):∀ n,n <= L.length -> (bld (L.take n)).2.2.length = (bld (L.take n)).2.1.length /\ (bld (L.take n)).2.1.length <= 64 /\ ((bld (L.take n)).2.1 ≠ [] -> (bld (L.take n)).1 ≠ []) /\ (bld (L.take n)).1.length <= 64 * n:=by
 intro n
 induction n with
 | zero=>exact fun _=>⟨rfl,by simp [bld],fun h=>absurd rfl h,by simp [bld]⟩
 | succ n ih =>
  intro hn
  obtain ⟨h1,h2,h3,h4⟩:=ih (by omega)
  have hnl:n < L.length:=by omega
  have hy:=hp _ (yAs hnl)
  rw [yAM hnl,bld_snoc,bst0]
  by_cases h0:L[n].2 = 0
  ·rw [if_pos h0];exact ⟨h1,h2,h3,by omega⟩
  rw [if_neg h0]
  have hc:=com_le (bld (L.take n)).2.1 L[n].1
  have hpl:=pushN_len (L[n].1.drop (com (bld (L.take n)).2.1 L[n].1)) ((bld (L.take n)).1,(bld (L.take n)).2.2.take (com (bld (L.take n)).2.1 L[n].1))
  rw [List.length_drop,yAU] at hpl
  refine ⟨?_,hy.2,fun _ h=>?_,?_⟩
  ·show (zCp _ _).2.length = L[n].1.length
   rw [hpl.2];omega
  ·have h:setL (zCp ((bld (L.take n)).1,(bld (L.take n)).2.2.take (com (bld (L.take n)).2.1 L[n].1)) (L[n].1.drop (com (bld (L.take n)).2.1 L[n].1))).1 L[n].2 = []:=h
   have h:=congrArg List.length h
   rw [setL_len,hpl.1] at h
   simp only [List.length_nil] at h
   have hy0:L[n].1.length ≠ 0:=fun h=>hy.1 (yBL.1 h)
   by_cases hl:(bld (L.take n)).2.1 = []
   ·rw [hl] at h
    have:com [] L[n].1 = 0:=by cases L[n].1 <;> rfl
    omega
   ·have:(bld (L.take n)).1.length ≠ 0:=fun h=>h3 hl (yBL.1 h)
    omega
  ·show (setL (zCp _ _).1 _).length <= _
   rw [setL_len,hpl.1];dsimp only;omega
def F51_eq {L:List Sk} (hL:L.length <= 2000) (hp:∀ y ∈ L,y.1 ≠ [] /\ y.1.length <= 64):F51 L = some (if (L.all fun y=>decide (y.2 = 0) || wOk y.2) = true then (if 2000 < (bld L).1.length then ([],4) else ((bld L).1,0)) else ([],2)):=by
 suffices h:∃ r,F51 L = some r /\ r = (if (L.all fun y=>decide (y.2 = 0) || wOk y.2) = true then (if 2000 < (bld L).1.length then ([],4) else ((bld L).1,0)) else ([],2)) by
  obtain ⟨r,h1,h2⟩:=h
  rw [h1,h2]
 rw [F51_def]
 refine zDL (body:=b51 L) (s:=(([],0,[],[]):St51)) (G:=fun r=>r = (if (L.all fun y=>decide (y.2 = 0) || wOk y.2) = true then (if 2000 < (bld L).1.length then ([],4) else ((bld L).1,0)) else ([],2)))
  (fun s=>∃ i:Nat,s = ((bld (L.take i)).2.1,(i:Int),(bld (L.take i)).1,(bld (L.take i)).2.2) /\ i <= L.length /\ ((L.take i).all fun y=>decide (y.2 = 0) || wOk y.2) = true) (fun s=>L.length - s.2.1.toNat)
  (fun e=>((L.all fun y=>decide (y.2 = 0) || wOk y.2) = true /\ e = .inl (bld L).1) \/ ((L.all fun y=>decide (y.2 = 0) || wOk y.2) = false /\ e = .inr ([],2))) ⟨0,rfl,by omega,rfl⟩ ?_ ?_
 ·rintro _ ⟨i,rfl,hi,hall⟩
  obtain ⟨h1,h2,h3,h4⟩:=bld_inv hp i hi
  by_cases h:i < L.length
  ·have hi2:L[i]? = some L[i]:=yAK h
   have hst:=st51 hi2 hL h1 h2 h3 (hp _ (yAs h)) (by omega)
   have hnext:∀ b,(decide (L[i].2 = 0) || wOk L[i].2) = b -> ((L.take (i + 1)).all fun y=>decide (y.2 = 0) || wOk y.2) = b:=fun b hb=>by
    rw [yAM h,List.all_append,hall,yBT];simpa using hb
   rw [hst]
   by_cases h0:L[i].2 = 0
   ·rw [if_pos h0]
    refine .inl ⟨_,rfl,⟨i + 1,?_,by omega,hnext _ (by rw [decide_eq_true h0];rfl)⟩,by dsimp only;omega⟩
    rw [yAM h,bld_snoc,bst0,if_pos h0]
   ·rw [if_neg h0]
    by_cases hw:wOk L[i].2 = true
    ·rw [if_pos hw]
     refine .inl ⟨_,rfl,⟨i + 1,?_,by omega,hnext _ (by rw [hw,Bool.or_true])⟩,by dsimp only;omega⟩
     rw [yAM h,bld_snoc,bst0,if_neg h0]
    ·rw [if_neg hw]
     refine .inr ⟨_,rfl,.inr ⟨?_,rfl⟩⟩
     rw [<- Bool.not_eq_true,yAR]
     intro hh
     have:=hh _ (yAs h)
     rw [decide_eq_false h0,Bool.false_or] at this
     exact hw this
  ·have e:i = L.length:=by omega
   subst e
   rw [yAi] at hall ⊢
   unfold b51
   dsimp only
   rw [zAe,zAX (by rw [zAf,zAM];exact decide_eq_false (by omega))]
   exact .inr ⟨_,rfl,.inl ⟨hall,rfl⟩⟩
 ·rintro _ (⟨hall,rfl⟩ | ⟨hall,rfl⟩)
  ·rw [Sum.elim_inl,zAe,zCb,zAf,zAM]
   by_cases h:2000 < (bld L).1.length
   ·exact ⟨_,by rw [if_pos (by omega)],by rw [if_pos hall,if_pos h]⟩
   ·exact ⟨_,by rw [if_neg (by omega)],by rw [if_pos hall,if_neg h]⟩
  ·exact ⟨_,rfl,by rw [if_neg (by rw [hall];simp)]⟩
def pushN_app:∀ (a b:List Nm) (x:List FN × List Int),zCp x (a ++ b) = zCp (zCp x a) b
 | [],b,x=>rfl
 | m :: a,b,(out,at')=>by rw [yAl,zCp,zCp,pushN_app a b]
def setL_app (A:List FN) (par:Int) (n:Nm) (s:Int):setL (A ++ [(par,n,0)]) s = A ++ [(par,n,s)]:=by
 unfold setL
 have e:(A ++ [((par,n,0):FN)]).length - 1 = A.length:=by simp
 rw [e,yAI,yAa (yAJ _),Nat.sub_self]
 rw [List.set_append_right _ _ (yAJ _),Nat.sub_self]
 rfl
def com_self (p q:List Nm):com p (p ++ q) = p.length:=by
 have:=com_app p [] q
 rw [yAS] at this
 rw [this]
 cases q <;> rfl
def com_ne {n m:Nm} (p q r:List Nm) (h:n ≠ m):com (p ++ n :: q) (p ++ m :: r) = p.length:=by
 rw [com_app,com,if_neg h];rfl
def bld_seg:∀ (F:Fo),F.Pr -> F.Srt -> F ≠ .nil -> ∀ (p1 p2:List Nm) (out:List FN) (last:List Nm) (at':List Int),p1.length <= at'.length -> (∀ m ∈ F.heads,∀ q,com last (p1 ++ p2 ++ m :: q) = p1.length) ->
  ∃ at2 m' q',m' ∈ F.heads /\ (F.stk (p1 ++ p2)).foldl bst0 (out,last,at') = ((zCp (out,at'.take p1.length) p2).1 ++ F.enc (((zCp (out,at'.take p1.length) p2).2.getLast?).getD (-1)) (zCp (out,at'.take p1.length) p2).1.length,p1 ++ p2 ++ m' :: q',at2) /\ at2.take (p1 ++ p2).length = (zCp (out,at'.take p1.length) p2).2
 | .nil,_,_,h,_,_,_,_,_,_,_=>absurd rfl h
 | .cons n s sub rest,hPr,hS,_,p1,p2,out,last,at',hat,hcom=>by
  have hXl:=pushN_len p2 (out,at'.take p1.length)
  have htl:(at'.take p1.length).length = p1.length:=by rw [yAU];omega
  have hpush1:zCp (out,at'.take p1.length) (p2 ++ [n]) = ((zCp (out,at'.take p1.length) p2).1 ++ [(((zCp (out,at'.take p1.length) p2).2.getLast?).getD (-1),n,0)],(zCp (out,at'.take p1.length) p2).2 ++ [((zCp (out,at'.take p1.length) p2).1.length:Int)]):=by
   rw [pushN_app];rfl
  have hX2:(zCp (out,at'.take p1.length) p2).2.length = (p1 ++ p2).length:=by rw [hXl.2,htl,yAD]
  generalize hX:zCp (out,at'.take p1.length) p2 = X at *
  obtain ⟨O,I⟩:=X
  dsimp only at hX2 hpush1 ⊢
  generalize hpar:(I.getLast?).getD (-1) = par at *
  rw [Fo.stk,Fo.enc]
  have hfirst:∃ at2 q2,(sub.stk (p1 ++ p2 ++ [n])).foldl bst0 ((if s ≠ 0 then [(p1 ++ p2 ++ [n],s)] else []).foldl bst0 (out,last,at')) = (O ++ (par,n,s) :: sub.enc O.length (O.length + 1),p1 ++ p2 ++ n :: q2,at2) /\ at2.take ((p1 ++ p2).length + 1) = I ++ [(O.length:Int)]:=by
   by_cases h0:s ≠ 0
   ·have hc:=hcom n (by simp [Fo.heads]) []
    have hone:(if s ≠ 0 then [(p1 ++ p2 ++ [n],s)] else []).foldl bst0 (out,last,at') = (O ++ [(par,n,s)],p1 ++ p2 ++ [n],I ++ [(O.length:Int)]):=by
     rw [if_pos h0,List.foldl_cons,List.foldl_nil,bst0,if_neg h0,bst]
     dsimp only
     rw [hc,yAQ,List.drop_left,hpush1,setL_app]
    rw [hone]
    by_cases hsub:sub = .nil
    ·subst hsub
     refine ⟨_,[],rfl,?_⟩
     rw [yAW (by simp only [yAD,yAC] at hX2 ⊢;omega)]
    ·obtain ⟨at2,m',q',_,e1,e2⟩:=bld_seg sub hPr.2.1 hS.2.1 hsub (p1 ++ p2 ++ [n]) [] (O ++ [(par,n,s)]) (p1 ++ p2 ++ [n]) (I ++ [(O.length:Int)]) (by simp only [yAD,yAC] at hX2 ⊢;omega) fun m hm q=>by
      rw [yAS];exact com_self _ _
     have hfull:(I ++ [(O.length:Int)]).take (p1 ++ p2 ++ [n]).length = I ++ [(O.length:Int)]:=yAW (by simp only [yAD,yAC] at hX2 ⊢;omega)
     rw [yAS,hfull,zCp] at e1
     rw [yAS,hfull,zCp] at e2
     refine ⟨at2,m' :: q',?_,?_⟩
     ·rw [e1];simp
     ·exact Eq.trans (congrArg (fun k=>at2.take k) (by simp <;> omega)) e2
   ·have h0:s = 0:=Decidable.not_not.1 h0
    subst h0
    have hsub:sub ≠ .nil:=hPr.1 rfl
    rw [if_neg (by simp),List.foldl_nil]
    obtain ⟨at2,m',q',_,e1,e2⟩:=bld_seg sub hPr.2.1 hS.2.1 hsub p1 (p2 ++ [n]) out last at' hat fun m hm q=>by
     have:=hcom n (by simp [Fo.heads]) (m :: q)
     rw [<- this];simp
    rw [hpush1] at e1 e2
    refine ⟨at2,m' :: q',?_,?_⟩
    ·rw [yAQ p1 p2 [n],e1];simp
    ·exact Eq.trans (congrArg (fun k=>at2.take k) (by simp <;> omega)) e2
  obtain ⟨at2,q2,e1,e2⟩:=hfirst
  rw [List.foldl_append,List.foldl_append,e1]
  have hal:(p1 ++ p2).length <= at2.length:=by
   have:=congrArg List.length e2
   simp only [yAU,yAD,yAC] at this hX2 ⊢
   omega
  have htake:at2.take (p1 ++ p2).length = I:=by
   have:=congrArg (List.take (p1 ++ p2).length) e2
   rw [List.take_take,Nat.min_eq_left (yBG _),<- hX2,List.take_left,hX2] at this
   exact this
  by_cases hrest:rest = .nil
  ·subst hrest
   exact ⟨at2,n,q2,by simp [Fo.heads],by simp [Fo.stk,Fo.enc],htake⟩
  ·obtain ⟨at3,m',q',hm',e3,e4⟩:=bld_seg rest hPr.2.2 hS.2.2 hrest (p1 ++ p2) [] (O ++ (par,n,s) :: sub.enc O.length (O.length + 1)) (p1 ++ p2 ++ n :: q2) at2 hal fun m hm q=>by
    rw [yAS];exact com_ne _ _ _ (slt_ne (hS.1 m hm))
   rw [yAS,htake,zCp] at e3
   rw [yAS,htake,zCp] at e4
   refine ⟨at3,m',q',by simp [Fo.heads,hm'],?_,e4⟩
   rw [e3]
   dsimp only
   rw [hpar]
   have hlen:(O ++ (par,n,s) :: sub.enc O.length (O.length + 1)).length = O.length + 1 + sub.len:=by simp [Fo.enc_len];omega
   rw [hlen]
   simp
def bld_stk {F:Fo} (hP:F.Pr) (hS:F.Srt):(bld (F.stk [])).1 = F.enc (-1) 0:=by
 by_cases h:F = .nil
 ·subst h;rfl
 ·obtain ⟨_,_,_,_,e,_⟩:=bld_seg F hP hS h [] [] [] [] [] (by simp) fun m _ q=>by simp [com]
  unfold bld
  rw [yAS] at e
  rw [e];rfl
def okW_stk:∀ (F:Fo) (p:List Nm),F.okW = (F.stk p).all fun y=>wOk y.2
 | .nil,_=>rfl
 | .cons n s sub rest,p=>by
  rw [Fo.okW,Fo.stk,List.all_append,List.all_append,okW_stk sub (p ++ [n]),okW_stk rest p]
  congr 1
  by_cases h:s ≠ 0
  ·rw [if_pos h];simp
  ·have h0:s = 0:=Decidable.not_not.1 h
   subst h0;rfl
def all_live:∀ L:List Sk,(L.all fun y=>decide (y.2 = 0) || wOk y.2) = (L.filter fun y=>decide (y.2 ≠ 0)).all fun y=>wOk y.2
 | []=>rfl
 | y :: L=>by
  rw [yBZ,all_live L]
  by_cases h:y.2 ≠ 0
  ·rw [yAo (by simpa using h),yBZ,decide_eq_false h,Bool.false_or]
  ·have h0:y.2 = 0:=Decidable.not_not.1 h
   rw [yAp (by simpa using h),decide_eq_true h0];rfl
def F49_fine {x:Sk} (h:x.1.length <= 64 /\ (∀ n ∈ x.1,1 <= n.size /\ n.size <= 60) /\ wOk x.2 = true /\ x.1 ≠ []):F49 x = some 0:=by
 have h0:x.1.length ≠ 0:=fun e=>h.2.2.2 (yBL.1 e)
 suffices hs:∃ y,F49 x = some y /\ y = 0 by
  obtain ⟨y,h1,h2⟩:=hs
  rw [h1,h2]
 unfold F49
 rw [zDY,zAX (by rw [zAf,zAM];exact decide_eq_false (by omega)),zAe,zAX (by rw [zAf,zAM];exact decide_eq_false (by omega))]
 refine zDL (G:=fun y=>y = (0:Int)) (fun s=>∃ i:Nat,s = (i:Int) /\ i <= x.1.length) (fun s=>x.1.length - s.toNat) (fun e=>e = .inl ()) ⟨0,rfl,by omega⟩ ?_ ?_
 ·rintro _ ⟨i,rfl,hi⟩
  rw [zAe,zAf,zAM,zCb]
  by_cases hl:i < x.1.length
  ·have hn:nmOk x.1[i] = true:=decide_eq_true (h.2.1 _ (yAs hl))
   rw [if_pos (by omega),zAG (inL_t hl),zCM,zCN hl,zAR (F67_eq _),hn,zAX (by rfl),zBp (by omega) (by omega)]
   exact .inl ⟨_,rfl,⟨i + 1,rfl,by omega⟩,by omega⟩
  ·rw [if_neg (by omega)]
   exact .inr ⟨_,rfl,rfl⟩
 ·rintro _ rfl
  refine ⟨0,?_,rfl⟩
  rw [Sum.elim_inl,zAR (F68_eq x.2),h.2.2.1,zAX (by rfl)]
def F25_of {l:List Sk} (h:FineL l) (hl:l.length <= 2000):F25 l = some (ofGo (0,.nil) l):=by
 have hG1:zBh (fun (s0:Int) =>
     sel (ilt s0 (n2i (zAE l))) (need (inL s0 (zAE l)) <|
     call (F49 (zAH (([]:List ByteArray),0) l (i2n s0))) fun (r1:Int) =>
     sel (ine r1 0) (some (.inr (.inr (([]:List (Int × (ByteArray × Int))),r1)))) <|
     some (.inl (zBA .i64 s0 1))) <|
     (some (.inr (.inl ())):Option (Int ⊕ (PUnit ⊕ (List FN × Int))))) 0 = some (.inl ()):=by
  obtain ⟨y,h1,h2⟩:=iter_wf (body:=fun (s0:Int) =>
   sel (ilt s0 (n2i (zAE l))) (need (inL s0 (zAE l)) <|
   call (F49 (zAH (([]:List ByteArray),0) l (i2n s0))) fun (r1:Int) =>
   sel (ine r1 0) (some (.inr (.inr (([]:List (Int × (ByteArray × Int))),r1)))) <|
   some (.inl (zBA .i64 s0 1))) <|
   (some (.inr (.inl ())):Option (Int ⊕ (PUnit ⊕ (List FN × Int))))) (fun s=>∃ i:Nat,s = (i:Int) /\ i <= l.length) (fun s=>l.length - s.toNat) (fun e=>e = .inl ()) (s:=(0:Int)) (by
    rintro _ ⟨i,rfl,hi⟩
    rw [zAe,zAf,zAM,zCb]
    by_cases hil:i < l.length
    ·rw [if_pos (by omega),zAG (inL_t hil),zCM,zCN hil,zAR (F49_fine (h _ (yAs hil))),zAX (by rfl),zBp (by omega) (by omega)]
     exact .inl ⟨_,rfl,⟨i + 1,rfl,by omega⟩,by omega⟩
    ·rw [if_neg (by omega)]
     exact .inr ⟨_,rfl,rfl⟩) ⟨0,rfl,by omega⟩
  rw [h1,h2]
 have hfin:∀ n,n <= l.length -> ∀ y ∈ sumS (l.take n),y.1 ≠ [] /\ y.1.length <= 64 /\ -(1099511627776 * 3000) <= y.2 /\ y.2 <= 1099511627776 * 3000:=fun n hn y hy=>by
  obtain ⟨h1,h2,h3,h4⟩:=sumS_ok l n hn
  obtain ⟨z,hz,e⟩:=h4 y hy
  have hz:=h z (yBJ hz)
  have hs:=asc_sum h1 y hy
  rw [h2] at hs
  have hb:=sumAt_b (l:=l.take n) (fun w hw=>(h w (yBJ hw)).2.2.1) y.1
  rw [hs,yAU] at hb
  rw [<- e]
  exact ⟨hz.2.2.2,hz.1,by omega,by omega⟩
 have hG2:zBh (fun (s3:((List ((List ByteArray) × Int)) × Int)) =>
     sel (ilt s3.2 (n2i (zAE l))) (need (inL s3.2 (zAE l)) <|
     call (F50 (s3.1,zAH (([]:List ByteArray),0) l (i2n s3.2))) fun (r4:(List ((List ByteArray) × Int))) =>
     some (.inl (r4,zBA .i64 s3.2 1))) <|
     some (.inr (.inl s3.1))) (([]:List ((List ByteArray) × Int)),0) = (some (.inl (sumS l)):Option (List Sk ⊕ (List FN × Int))):=by
  have hGo:∀ i,i <= l.length -> Goes (fun (s3:((List ((List ByteArray) × Int)) × Int)) =>
   sel (ilt s3.2 (n2i (zAE l))) (need (inL s3.2 (zAE l)) <|
   call (F50 (s3.1,zAH (([]:List ByteArray),0) l (i2n s3.2))) fun (r4:(List ((List ByteArray) × Int))) =>
   some (.inl (r4,zBA .i64 s3.2 1))) <|
   (some (.inr (.inl s3.1)):Option ((List Sk × Int) ⊕ (List Sk ⊕ (List FN × Int))))) (([]:List Sk),0) (sumS (l.take i),(i:Int)):=by
   intro i
   induction i with
   | zero=>exact fun _=>Goes.refl _ _
   | succ i ih =>
    intro hi
    refine (ih (by omega)).trans (Goes.one ?_)
    have hil:i < l.length:=by omega
    have hli:=h _ (yAs hil)
    have hsl:=(sumS_ok l i (by omega)).2.2.1
    have hf:=hfin i (by omega)
    dsimp only
    rw [zAe,zAy (by rw [zAf,zAM];exact decide_eq_true (by omega)),zAG (zAj hil),zCM,zCN hil,zAR (F50_eq (by omega) (by have:=hli.1;omega) (fun y hy=>by have:=(hf y hy).2.1;omega) (fun y hy=>(hf y hy).2.2) (of_decide_eq_true hli.2.2.1)),zBp (by omega) (by omega),yAM hil,sumS_snoc]
    rfl
  have:=hGo l.length (yAJ _)
  rw [yAi] at this
  refine this.fin ?_
  dsimp only
  rw [zAe,zAX (by rw [zAf,zAM];exact decide_eq_false (by omega))]
 obtain ⟨h1,h2,h3,h4⟩:=sumS_ok l l.length (yAJ _)
 rw [yAi] at h1 h2 h3 h4
 have hT:=tr_srt l
 have hlive:((sumS l).filter fun y=>decide (y.2 ≠ 0)) = (tr l).stk []:=by
  refine asc_uniq (h1.filter _) (stk_asc [] hT) (fun a ha=>by simpa using (List.mem_filter.1 ha).2) (fun b hb=>stk_ne0 b hb) fun q=>?_
  rw [sumAt_live,h2,stk_W0 q hT,tr_W h.ne]
 have h51:=F51_eq (L:=sumS l) (by omega) fun y hy=>by
  have:=hfin l.length (yAJ _) y (by rw [yAi];exact hy)
  exact ⟨this.1,this.2.1⟩
 have hb:(bld (sumS l)).1 = (tr l).prune.enc (-1) 0:=by
  have e:bld (sumS l) = bld ((tr l).prune.stk []):=by
   unfold bld
   rw [bld_live,hlive,Fo.prune_stk]
  rw [e,bld_stk (Fo.prune_pr _) (Fo.prune_srt hT)]
 rw [all_live,hlive,<- okW_stk,hb] at h51
 unfold F25
 rw [zBo hG1,zBo hG2,zAR h51,of_tr h]
 unfold flR
 rw [Fo.vis_prune]
def both_self {R:Type} (x:Option R):both x x = x:=if_pos rfl
def F59_eq (y x:TR):F59 (y,x) = some (decide (ltR y x)):=by
 unfold F59
 dsimp only
 rw [pick_or,zAu,zAe,zDY]
 congr 1
 rw [Bool.eq_iff_iff,decide_eq_true_iff]
 unfold ltR
 simp
def putR:List TR -> TR -> List TR
 | [],x=>[x]
 | y :: l,x=>if ltR y x then y :: putR l x else x :: y :: l
def putR_app {x:TR}:∀ {A:List TR} (B:List TR),(∀ a ∈ A,ltR a x) -> putR (A ++ B) x = A ++ putR B x
 | [],B,_=>rfl
 | a :: A,B,h=>by rw [yAl,putR,if_pos (h a (by simp)),putR_app B fun b hb=>h b (yAF _ hb)];rfl
def putR_perm (x:TR):∀ l:List TR,(putR l x).Perm (x :: l)
 | []=>.refl _
 | y :: l=>by
  rw [putR]
  split
  ·exact ((putR_perm x l).cons y).trans (.swap x y l)
  ·exact .refl _
def putR_asc {x:TR}:∀ {l:List TR},l.Pairwise ltR -> (∀ y ∈ l,y.1 ≠ x.1) -> (putR l x).Pairwise ltR
 | [],_,_=>by simp [putR]
 | y :: l,h,hn=>by
  rw [putR]
  split
  ·rename_i hy
   rw [yBE] at h ⊢
   refine ⟨fun z hz=>?_,putR_asc h.2 fun z hz=>hn z (yAF _ hz)⟩
   rcases yAE.1 ((putR_perm x l).subset hz) with rfl | hz
   ·exact hy
   ·exact h.1 z hz
  ·rename_i hy
   have hx:ltR x y:=ltR_tot (fun e=>hn y (by simp) e.symm) hy
   refine yBE.2 ⟨fun z hz=>?_,h⟩
   rcases yAE.1 hz with rfl | hz
   ·exact hx
   ·exact ltR_trans hx ((yBE.1 h).1 z hz)
def F43_eq {l:List TR} {x:TR} (hl:l.length <= 100000):F43 (l,x) = some (putR l x):=by
 suffices h:∃ y,F43 (l,x) = some y /\ y = putR l x by
  obtain ⟨y,h1,h2⟩:=h
  rw [h1,h2]
 unfold F43
 dsimp only
 refine zDL (G:=fun y=>y = putR l x) (fun s=>∃ i:Nat,s = (i:Int) /\ i <= l.length /\ ∀ a ∈ l.take i,ltR a x) (fun s=>l.length - s.toNat) (fun e=>∃ i:Nat,e = .inl (i:Int) /\ i <= l.length /\ (∀ a ∈ l.take i,ltR a x) /\ ∀ h:i < l.length,¬ ltR l[i] x) ⟨0,rfl,by omega,by simp⟩ ?_ ?_
 ·rintro _ ⟨i,rfl,hi,hA⟩
  rw [zAG (impl_t fun h=>by rw [zAe,decide_eq_true_eq,zAf,zAM] at h;exact zAj (by omega)),zAe,zAf,zAM]
  by_cases h:i < l.length
  ·rw [decide_eq_true (by omega),zAy rfl,zCM,zCN h,zAR (F59_eq _ _),zAu,yBT,zCb]
   by_cases hc:ltR l[i] x
   ·rw [if_pos hc,zBp (by omega) (by omega)]
    refine .inl ⟨_,rfl,⟨i + 1,rfl,by omega,fun a ha=>?_⟩,by omega⟩
    rw [yAM h] at ha
    rcases yAO.1 ha with ha | ha
    ·exact hA a ha
    ·simp at ha;rw [ha];exact hc
   ·rw [if_neg hc]
    exact .inr ⟨_,rfl,i,rfl,hi,hA,fun _=>hc⟩
  ·rw [decide_eq_false (by omega),zAX rfl,call_b,zAu,Bool.false_and,zAX rfl]
   exact .inr ⟨_,rfl,i,rfl,hi,hA,fun h'=>absurd h' h⟩
 ·rintro _ ⟨i,rfl,hi,hA,hn⟩
  have hsub:zCI l (i2n 0) (nsub (i2n (i:Int)) (i2n 0)) = l.take i:=by
   show (l.drop 0).take (i - 0) = _
   simp
  have hrest:zCI l (i2n (i:Int)) (nsub (i2n (n2i (zAE l))) (i2n (i:Int))) = l.drop i:=by
   show (l.drop i).take (l.length - i) = _
   rw [yAW (by simp)]
  have htl:(l.take i).length = i:=by rw [yAU];omega
  have hdl:(l.drop i).length = l.length - i:=List.length_drop
  have hinr:inS (i:Int) (n2i (zAE l)) (zAE l) = true:=by unfold inS;simp [n2i,zAE];omega
  have hr0:∀ k:List TR,zBg [] k = k:=fun k=>rfl
  rw [Sum.elim_inl]
  simp only [hsub,hrest,hr0,both_self]
  rw [zAG (show inS 0 (i:Int) (zAE l) = true from inS_t hi),zAG (zBe (by simp only [zBl,zAM,htl,List.length_nil];omega)),zAG (zBe (by simp only [zBl,zAM,htl,yAC];omega)),zAG hinr,zAG (zBe (by simp only [zBl,zAM,zBg,yAD,htl,yAC,hdl];omega))]
  refine ⟨_,rfl,?_⟩
  by_cases h:i < l.length
  ·have hadd:putR (l.take i ++ l.drop i) x = l.take i ++ putR (l.drop i) x:=putR_app _ hA
   rw [yAk] at hadd
   rw [hadd,yAX h,putR,if_neg (hn h)]
   simp [zBg]
  ·have e:i = l.length:=by omega
   subst e
   have hadd:putR (l ++ []) x = l ++ putR [] x:=putR_app [] fun a ha=>hA a (by rw [yAi];exact ha)
   rw [yAS] at hadd
   rw [hadd,List.drop_length,yAi]
   simp [zBg,putR]
def rowM (T:Nm -> Int) (a:List FN) (n:Nm):TR:=(n,slf n a,T n)
abbrev St15:=List TR × (Int × List Nm)
def b15 (x:(List (Int × (ByteArray × Int)))):St15 -> Option (St15 ⊕ (List TR ⊕ List TR)) :=
(fun (s1:((List (ByteArray × (Int × Int))) × (Int × (List ByteArray)))) =>
sel (ilt s1.2.1 (n2i (zAE x))) (join (need (inL s1.2.1 (zAE x)) <|
call (F24 (s1.2.2,((zAH (0,(⟨#[]⟩:ByteArray),0) x (i2n s1.2.1)).2).1)) fun (r2:Bool) =>
sel r2 (some (.inl (s1.1,s1.2.2))) <|
need (inL s1.2.1 (zAE x)) <|
need (room (zBl (zAE s1.2.2) (zAE (((zAH (0,(⟨#[]⟩:ByteArray),0) x (i2n s1.2.1)).2).1 :: ([]:List ByteArray)))) 16) <|
need (inL s1.2.1 (zAE x)) <|
need (inL s1.2.1 (zAE x)) <|
(fun z=>both z z) <|
call (F42 (x,((zAH (0,(⟨#[]⟩:ByteArray),0) x (i2n s1.2.1)).2).1)) fun (r3:Int) =>
join (zBh (fun (s4:(Int × (ByteArray × (Int × Int)))) =>
sel (ilt s4.1 (n2i (zAE x))) (join (need (inL s4.1 (zAE x)) <|
sel (seq (((zAH (0,(⟨#[]⟩:ByteArray),0) x (i2n s4.1)).2).1) s4.2.1) (need (inL s4.1 (zAE x)) <|
some (.inl (s4.2.1,zBA .i64 s4.2.2.1 (((zAH (0,(⟨#[]⟩:ByteArray),0) x (i2n s4.1)).2).2),s4.2.2.2))) <|
some (.inl s4.2)) fun (j5:(ByteArray × (Int × Int))) =>
some (.inl (zBA .i64 s4.1 1,j5))) <|
some (.inr (.inl s4.2))) (0,((zAH (0,(⟨#[]⟩:ByteArray),0) x (i2n s1.2.1)).2).1,0,r3)) fun (j6:(ByteArray × (Int × Int))) =>
call (F43 (s1.1,j6)) fun (r7:(List (ByteArray × (Int × Int)))) =>
some (.inl (r7,zBg s1.2.2 (((zAH (0,(⟨#[]⟩:ByteArray),0) x (i2n s1.2.1)).2).1 :: ([]:List ByteArray))))) fun (j13:((List (ByteArray × (Int × Int))) × (List ByteArray))) =>
some (.inl (j13.1,zBA .i64 s1.2.1 1,j13.2))) <|
some (.inr (.inl s1.1)))
def b15i {R:Type} (x:List FN):(Int × TR) -> Option ((Int × TR) ⊕ (TR ⊕ R)):=fun (s4:(Int × (ByteArray × (Int × Int)))) =>
 sel (ilt s4.1 (n2i (zAE x))) (join (need (inL s4.1 (zAE x)) <|
 sel (seq (((zAH (0,(⟨#[]⟩:ByteArray),0) x (i2n s4.1)).2).1) s4.2.1) (need (inL s4.1 (zAE x)) <|
 some (.inl (s4.2.1,zBA .i64 s4.2.2.1 (((zAH (0,(⟨#[]⟩:ByteArray),0) x (i2n s4.1)).2).2),s4.2.2.2))) <|
 some (.inl s4.2)) fun (j5:(ByteArray × (Int × Int))) =>
 some (.inl (zBA .i64 s4.1 1,j5))) <|
 some (.inr (.inl s4.2))
def F15_def (x:List FN):F15 x = call (F22 x) fun (r0:Int)=>sel (ine r0 0) (some []) <| join (zBh (b15 x) ([],0,[])) fun j14=>some j14:=rfl
def self_loop {R:Type} {x:List FN} (hx:x.length <= 2000) (hw:∀ v ∈ x,wOk v.2.2 = true) (n:Nm) (t:Int):zBh (b15i (R:=R) x) (0,n,0,t) = some (.inl (n,slf n x,t)):=by
 have hG:∀ i,i <= x.length -> Goes (b15i (R:=R) x) (0,n,0,t) ((i:Int),n,slf n (x.take i),t):=by
  intro i
  induction i with
  | zero=>exact fun _=>Goes.refl _ _
  | succ i ih =>
   intro hi
   refine (ih (by omega)).trans (Goes.one ?_)
   have hil:i < x.length:=by omega
   have hb:=slf_b (n:=n) (l:=x.take i) fun v hv=>hw v (yBJ hv)
   have hs:-1099511627776 <= x[i].2.2 /\ x[i].2.2 <= 1099511627776:=of_decide_eq_true (hw _ (yAs hil))
   have hlt:(x.take i).length = i:=by rw [yAU];omega
   rw [hlt] at hb
   unfold b15i
   dsimp only
   rw [zAe,zAy (by rw [zAf,zAM];exact decide_eq_true (by omega)),zAG (zAj hil),zCM,zCN hil,seq_t,zCb,yAM hil,slf_app,slf_one]
   by_cases h:x[i].2.1 = n
   ·rw [if_pos h,if_pos h,zAG (zAj hil),zBG,zBp (by omega) (by omega),zBp (by omega) (by omega)];rfl
   ·rw [if_neg h,if_neg h,zBG,Int.add_zero,zBp (by omega) (by omega)];rfl
 have:=hG x.length (yAJ _)
 rw [yAi] at this
 refine this.fin ?_
 unfold b15i
 dsimp only
 rw [zAe,zAX (by rw [zAf,zAM];exact decide_eq_false (by omega))]
def F15_gen {x:List FN} {T:Nm -> Int} (h22:F22 x = some 0) (h42:∀ n,F42 (x,n) = some (T n)) (hl:x.length <= 2000) (hw:∀ v ∈ x,wOk v.2.2 = true):∃ (met:List Nm) (r:List TR),met.Nodup /\ (∀ n,n ∈ met ↔ ∃ v ∈ x,v.2.1 = n) /\ r.Perm (met.map (rowM T x)) /\ r.Pairwise ltR /\ F15 x = some r:=by
 have hGo:∀ i,i <= x.length -> ∃ (met:List Nm) (r:List TR),met.Nodup /\ met.length <= i /\ (∀ n,n ∈ met ↔ ∃ v ∈ x.take i,v.2.1 = n) /\ r.Perm (met.map (rowM T x)) /\ r.Pairwise ltR /\ Goes (b15 x) ([],0,[]) (r,(i:Int),met):=by
  intro i
  induction i with
  | zero=>exact fun _=>⟨[],[],.nil,yAJ _,by simp,.refl _,.nil,Goes.refl _ _⟩
  | succ i ih =>
   intro hi
   obtain ⟨met,r,h1,h1',h2,h3,h4,hg⟩:=ih (by omega)
   have hil:i < x.length:=by omega
   have hstep:b15 x (r,(i:Int),met) = if has x[i].2.1 met = true then some (.inl (r,((i + 1:Nat):Int),met)) else some (.inl (putR r (rowM T x x[i].2.1),((i + 1:Nat):Int),met ++ [x[i].2.1])):=by
    have hone:zBA .i64 (i:Int) 1 = ((i + 1:Nat):Int):=by rw [zBp (by omega) (by omega)];rfl
    have hrl:r.length <= i:=by have:=h3.length_eq;rw [yAG] at this;omega
    unfold b15
    dsimp only
    rw [zAe,zAy (by rw [zAf,zAM];exact decide_eq_true (by omega)),zAG (zAj hil)]
    simp only [zCM,zCN hil,hone]
    rw [zAR (F24_has (by omega) _)]
    by_cases hh:has x[i].2.1 met = true
    ·rw [hh,zAy rfl,zBG,if_pos rfl]
    ·rw [if_neg hh,zAX (by simpa using hh),zAG (zAj hil),zAG (zBe (by simp only [zBl,zAE,yAC];omega)),zAG (zAj hil),zAG (zAj hil),both_self,zAR (h42 _)]
     have hself:=self_loop (R:=(List TR × List Nm) ⊕ (St15 ⊕ (List TR ⊕ List TR))) (x:=x) (by omega) hw x[i].2.1 (T x[i].2.1)
     unfold b15i at hself
     rw [zBo hself,zAR (F43_eq (by omega))]
     rfl
   by_cases hh:has x[i].2.1 met = true
   ·rw [if_pos hh] at hstep
    refine ⟨met,r,h1,by omega,fun n=>?_,h3,h4,hg.trans (Goes.one hstep)⟩
    rw [h2,yAM hil]
    constructor
    ·rintro ⟨v,hv,e⟩;exact ⟨v,yAu _ hv,e⟩
    ·rintro ⟨v,hv,e⟩
     rcases yAO.1 hv with hv | hv
     ·exact ⟨v,hv,e⟩
     ·simp only [yAm] at hv
      subst hv;subst e
      exact (h2 _).1 (has_t.1 hh)
   ·rw [if_neg hh] at hstep
    have hnot:x[i].2.1 ∉ met:=fun h=>hh (has_t.2 h)
    refine ⟨_,_,?_,?_,fun n=>?_,?_,?_,hg.trans (Goes.one hstep)⟩
    ·rw [List.nodup_append]
     refine ⟨h1,by simp,fun a ha b hb e=>?_⟩
     simp only [yAm] at hb
     subst hb;subst e;exact hnot ha
    ·rw [yAD,yAC];omega
    ·rw [yAO,h2,yAM hil]
     constructor
     ·rintro (⟨v,hv,e⟩ | e)
      ·exact ⟨v,yAu _ hv,e⟩
      ·simp only [yAm] at e
       exact ⟨_,yAh _ (yAm.2 rfl),e.symm⟩
     ·rintro ⟨v,hv,e⟩
      rcases yAO.1 hv with hv | hv
      ·exact .inl ⟨v,hv,e⟩
      ·simp only [yAm] at hv
       subst hv
       exact .inr (by simp [e])
    ·refine (putR_perm _ _).trans ((h3.cons _).trans ?_)
     rw [yAV]
     exact (List.perm_append_comm (l₁:=[rowM T x x[i].2.1]))
    ·refine putR_asc h4 fun y hy=>?_
     obtain ⟨n,hn,rfl⟩:=yBC.1 (h3.subset hy)
     exact fun e=>hnot (e ▸ hn)
 obtain ⟨met,r,h1,_,h2,h3,h4,hg⟩:=hGo _ (yAJ _)
 rw [yAi] at h2
 refine ⟨met,r,h1,h2,h3,h4,?_⟩
 rw [F15_def,zAR h22,zAX (by rfl)]
 refine zBo (hg.fin ?_)
 unfold b15
 dsimp only
 rw [zAe,zAX (by rw [zAf,zAM];exact decide_eq_false (by omega))]
def tables {F:Fo} (hG:F.Good 0) (h22:F22 (F.enc (-1) 0) = some 0) (hl:F.len <= 2000):∃ r,F14 (F.enc (-1) 0) = some r /\ F15 (F.enc (-1) 0) = some r /\ r.length <= 1000000:=by
 obtain ⟨M,r,hM,h1,h2,h3⟩:=F14_enc hG hl
 obtain ⟨met,r',g1,g2,g3,g4,g5⟩:=F15_gen (T:=fun n=>F.msr (has n) []) h22 (F42_enc' hG h22 hl) (by rw [Fo.enc_len];exact hl) (enc_w hG.w)
 have hk:(M.map (·.1)).Perm met:=(List.perm_ext_iff_of_nodup hM.nd g1).2 fun n=>by rw [hM.mem,g2]
 have hm:M.map (row F) = (M.map (·.1)).map (rowM (fun n=>F.msr (has n) []) (F.enc (-1) 0)):=by
  rw [yBO]
  refine List.map_congr_left fun p hp=>?_
  have:=hM.val p hp
  obtain ⟨n,w⟩:=p
  dsimp only at this
  subst this;rfl
 have hp:r.Perm r':=by
  rw [hm] at h1
  exact h1.trans ((hk.map _).trans g3.symm)
 have e:=rows_uniq hp h2 g4
 subst e
 refine ⟨r,h3,g5,?_⟩
 have hsub:(M.map (·.1)).length <= ((F.enc (-1) 0).map (·.2.1)).length:=List.Nodup.length_le_of_subset hM.nd fun n hn=>by
  obtain ⟨v,hv,e⟩:=(hM.mem n).1 hn
  exact yBC.2 ⟨v,hv,e⟩
 have h5:=h1.length_eq
 rw [yAG] at h5 hsub
 rw [yAG,Fo.enc_len] at hsub
 omega
def F13_all {a:List TR} (ha:a.length <= 1000000):F13 (a,a) = some true:=by
 suffices h:∃ y,F13 (a,a) = some y /\ y = true by
  obtain ⟨y,h1,h2⟩:=h
  rw [h1,h2]
 unfold F13
 dsimp only
 rw [ine_d,zAX (by simp)]
 refine zDL (G:=fun b=>b = true) (fun s=>∃ i:Nat,s = (i:Int) /\ i <= a.length) (fun s=>a.length - s.toNat) (fun e=>e = .inl ()) ⟨0,rfl,by omega⟩ ?_ ?_
 ·rintro _ ⟨i,rfl,hi⟩
  rw [zAe,zAf,zAM,zCb]
  by_cases h:i < a.length
  ·rw [if_pos (by omega),zAG (inL_t h),zAG (inL_t h),zDY,seq_t,zDY,zAX (by simp [zCr,band]),zBp (by omega) (by omega)]
   exact .inl ⟨_,rfl,⟨i + 1,rfl,by omega⟩,by omega⟩
  ·rw [if_neg (by omega)]
   exact .inr ⟨_,rfl,rfl⟩
 ·rintro _ rfl
  exact ⟨true,rfl,rfl⟩
def law3 {f:List FN} (hf:f.length <= 9223372036854775807) (n:Nm) (least:Int):F3 (f,n,least) = some true:=by
 unfold F3
 dsimp only
 obtain ⟨b,hb,hlen⟩:=F4_tot hf
 rw [zAR hb]
 cases b with
 | true=>rw [zAy rfl,zAR awake]
 | false =>
 have hl:=hlen rfl
 have tt:∀ {a:List FN} {k:Int},a.length <= 2000 -> F8 (a,a) = some true /\ zAL (zCr true) true (ine k k) = false /\ zAL true (ieq k k) false = true:=fun {a k} ha=>⟨F8_self ha,by rw [ine_d];simp [zAL,zCr],by rw [ieq_self];rfl⟩
 rw [zAX rfl]
 rcases checks (a:=f) (by omega) with ⟨e,e',h1,h2,h3,h4⟩ | ⟨F,rfl,hG,h22,h30⟩
 ·have n1:ine e 0 = true:=by rw [ine_d];exact decide_eq_true h3
  have n2:ine e' 0 = true:=by rw [ine_d];exact decide_eq_true h4
  have k6:F6 (f,n) = some ([],1):=by
   unfold F6;dsimp only;rw [F19a_def];dsimp only;rw [zAR h2,zAy n2];rfl
  have k7:F7 (f,n) = some ([],1):=by rw [F7_def];dsimp only;rw [zAR h1,zAy n1]
  have k9:F9 f = some ([],1):=by unfold F9;rw [F19c_def,zAR h2,zAy n2];rfl
  have k10:F10 f = some ([],1):=by rw [F10_def,zAR h1,zAy n1]
  have k11:F11 (f,least) = some ([],1):=by rw [F11_def,zAR h2,zAy n2]
  have k12:F12 (f,least) = some ([],1):=by rw [F12r_def];dsimp only;rw [zAR h1,zAy n1]
  have k14:F14 f = some []:=by rw [F14_def,zAR h2,zAy n2]
  have k15:F15 f = some []:=by rw [F15_def,zAR h1,zAy n1]
  obtain ⟨t1,t2,t3⟩:=tt (a:=[]) (k:=1) (by simp)
  simp only [k6,k7,k9,k10,k11,k12,k14,k15,call_b,t1,t2,t3,zAX rfl,zAy rfl,F13_all (a:=[]) (by simp),awake]
  rfl
 ·rw [Fo.enc_len] at hl
  have hl2:F.len <= 2000:=by omega
  have hsl:=stk_len F []
  have hfi:=stk_fineL hG
  have k6:=F6_enc hG hl2 n
  have k7:F7 (F.enc (-1) 0,n) = some ((kp (has n) F).enc (-1) 0,0):=by
   rw [F7_enc' hG h22 hl2 n,F25_of (hfi.filter fun x=>has n x.1) (by have:=List.length_filter_le (fun x:Sk=>has n x.1) (F.stk []);omega),of_keep (has n) hG hl2]
  have k11:=F11_enc hG hl2 least
  have k12:F12 (F.enc (-1) 0,least) = some ((kp (F.hvy least) F).enc (-1) 0,0):=by
   rw [F12_enc' hG h22 hl2 least,F25_of (hfi.filter fun x=>F.hvy least x.1) (by have:=List.length_filter_le (fun x:Sk=>F.hvy least x.1) (F.stk []);omega),of_keep (F.hvy least) hG hl2]
  have k10:F10 (F.enc (-1) 0) = some (ofGo (0,.nil) (rvs (F.stk []))):=by
   rw [F10_enc' hG h22 hl2,F25_of hfi.rvs (by rw [yAG];omega)]
  have k9:F9 (F.enc (-1) 0) = some (ofGo (0,.nil) (rvs (F.stk []))):=by
   rw [F9_enc hG hl2]
   rcases of_rev hG with h | ⟨G,_,_,h,_⟩
   ·rw [h];rfl
   ·rw [h];rfl
  have hlr:(ofGo (0,.nil) (rvs (F.stk []))).1.length <= 2000:=by
   rcases of_rev hG with h | ⟨G,_,hGl,h,_⟩
   ·rw [h];simp
   ·rw [h,Fo.enc_len];exact hGl
  obtain ⟨r,k14,k15,hr⟩:=tables hG h22 hl2
  have l1:((kp (has n) F).enc (-1) 0).length <= 2000:=by rw [Fo.enc_len];have:=kp_len (has n) F;omega
  have l2:((kp (F.hvy least) F).enc (-1) 0).length <= 2000:=by rw [Fo.enc_len];have:=kp_len (F.hvy least) F;omega
  obtain ⟨t1,t2,t3⟩:=tt (k:=0) l1
  obtain ⟨u1,u2,_⟩:=tt (k:=(ofGo (0,.nil) (rvs (F.stk []))).2) hlr
  obtain ⟨w1,_,_⟩:=tt (k:=0) l2
  simp only [k6,k7,k9,k10,k11,k12,k14,k15,call_b,t1,t2,t3,u1,u2,w1,zAX rfl,zAy rfl,F13_all hr,awake]
  rfl
end Go.Fl
