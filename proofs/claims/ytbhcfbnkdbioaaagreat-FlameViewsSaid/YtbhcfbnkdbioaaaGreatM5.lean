/- Part 5 of what the claim leans on: TSort, TPlain, TIter, FT, FMix, FF0, FFo, FTrS, FTrA, FIter, FSorted, FAddS, FAdd, FVisS, FVisA, FVis, FFlS, FFl, FOfS, FOfT, FOf, FJnS, FSpec, FInvS. -/
import Derived.Test.YtbhcfbnkdbioaaaGreatM4
import Derived.Calls
import Derived.KernelRfl
import Derived.Orders
import Derived.Laws.Sem
import Derived.Laws.CopyRow
import Derived.Laws.Cells
import Derived.Room.Entries
import Derived.Lib.Overlaps
import GoSem.Conv.BytesToString
import Derived.OrdersHeld
import Derived.ProofKit
import Derived.OpenShut
import Derived.Carry
import Derived.Shelf.SlSortCmp.InsertionK
import Derived.Test.YtbhcfbnkdbioaaaGreatProg
import Derived.Sort.Walk0
import Derived.Shelf.SlIter.Nil
import Derived.Shelf.SortM.Plain
import Derived.Shelf.SortM.SortNone
import Derived.Ground.GgzProg
import Derived.Ground.SlgmProg
set_option linter.defProp false
noncomputable section
set_option linter.unusedVariables false
set_option linter.unusedSectionVars false
set_option linter.unusedSimpArgs false
namespace Go.T
open Go.Ab Go.Sort Go.Proofs
variable [Go.Ab.DM]
section
variable {own:Nat -> Own} {U:Nat -> Prop} {w:World}
def blk_flat {α:Type} [Inhabited α] (e:α -> List Value) {k:Nat} (hk:∀ x,(e x).length = k):∀ (ps:List α) (t:Nat),t < ps.length * k -> (ps.flatMap e)[t]? = some (e ps.toArray[t / k]!)[t % k]!
 | [],t,h=>by simp at h
 | p :: ps,t,h=>by
  have hk0:0 < k:=by rcases Nat.eq_zero_or_pos k with h' | h';· subst h';simp at h
                     ·exact h'
  rw [yAj]
  rcases yAZ t k with ht | ht
  ·rw [yAe (by rw [hk];exact ht),Nat.div_eq_of_lt ht,Nat.mod_eq_of_lt ht]
   have:t < (e p).length:=by rw [hk];exact ht
   simp [this]
  ·rw [yAa (by rw [hk];exact ht),hk]
   have h1:t - k < ps.length * k:=by simp [yAv] at h;omega
   rw [blk_flat e hk ps (t - k) h1]
   have e1:t / k = (t - k) / k + 1:=by rw [Nat.div_eq_sub_div hk0 ht]
   have e2:t % k = (t - k) % k:=Nat.mod_eq_sub_mod ht
   rw [e1,e2]
   simp
def flatK_list {α:Type} [Inhabited α] (e:α -> List Value) {k:Nat} (hk:∀ x,(e x).length = k) (ps:List α):flatK e k ps.toArray = (ps.flatMap e).toArray:=by
 have hl:(ps.flatMap e).length = ps.length * k:=by
  induction ps with
  | nil=>simp
  | cons p ps ih=>rw [yAj,yAD,ih,hk,yAY,yAv];omega
 refine ext_get! (by simp [hl]) fun t ht=>?_
 have ht:t < ps.length * k:=by simpa using ht
 rw [get_flatK _ _ _ _ (by simpa using ht)]
 have:=blk_flat e hk ps t ht
 have h2:t < (ps.flatMap e).length:=by rw [hl];exact ht
 rw [yAK h2] at this
 rw [getElem!_pos _ t (by simpa using h2)]
 simpa using (yAA this).symm
def cut_row {T:Ty} (hT:T.elem = true):∀ (l:List T.I) (vs:List Value),VRels own U w 0 ((l.map (e0 T)).flatMap D.cells) vs -> ∃ ps:List (T.I × List Value),ps.map (·.1) = l /\ ps.flatMap (·.2) = vs /\ ∀ p ∈ ps,p.2.length = T.w /\ VRels own U w 0 (e0 T p.1).cells p.2
 | [],vs,h=>by
  rw [yBM,List.flatMap_nil,VRels] at h
  exact ⟨[],rfl,by simp [h],by simp⟩
 | x :: l,vs,h=>by
  rw [yAL,yAj] at h
  obtain ⟨us,ws,rfl,h1,h2⟩:=VRels_split h
  obtain ⟨ps,g1,g2,g3⟩:=cut_row hT l ws h2
  refine ⟨(x,us) :: ps,by simp [g1],by simp [g2],fun p hp=>?_⟩
  rcases yAE.1 hp with rfl | hp
  ·exact ⟨by rw [zAi h1,<- D.width_eq,elem_width hT],h1⟩
  ·exact g3 p hp
def join_row {T:Ty}:∀ (ps:List (T.I × List Value)),(∀ p ∈ ps,VRels own U w 0 (e0 T p.1).cells p.2) -> VRels own U w 0 ((ps.map fun p=>e0 T p.1).flatMap D.cells) (ps.flatMap (·.2))
 | [],_=>by simp [VRels]
 | p :: ps,h=>by
  rw [yAL,yAj,yAj]
  exact zBF (h p (by simp)) (join_row ps fun q hq=>h q (by simp [hq]))
end
def SE (T:Ty) (D0:T.I -> Prop) (own:Nat -> Own) (U:Nat -> Prop) (w:World):Type:={p:T.I × List Value // D0 p.1 /\ p.2.length = T.w /\ VRels own U w 0 (e0 T p.1).cells p.2}
def SE.e {T:Ty} {D0:T.I -> Prop} {own:Nat -> Own} {U:Nat -> Prop} {w:World} (p:SE T D0 own U w):List Value:=p.1.2
def SE.c {T:Ty} {D0:T.I -> Prop} (cf:T.I -> T.I -> Int) {own:Nat -> Own} {U:Nat -> Prop} {w:World} (p q:SE T D0 own U w):Int:=cf p.1.1 q.1.1
structure CmpOk (P:Program) (cc:Con) (T:Ty) (cap:List TV) (D0:T.I -> Prop) (cf:T.I -> T.I -> Int):Prop where
 ok:@zAl ⟨True⟩ P cc
 ins:cc.ins = []
 outs:cc.outs = []
 pure:∀ v ∈ cap,v.t.pure = true
 enters:∀ args w,(callFunc cc.f args).run P w = .ok (.enter cc.f args) w
 gives:∀ x y,D0 x -> D0 y -> ∃ z,zBH cc z = ⟨T,x⟩ :: ⟨T,y⟩ :: cap /\ (∃ r,cc.Q z r) /\ ∀ r,cc.Q z r -> zBT cc r = ⟨.int .i64,cf x y⟩
 irrefl:∀ x,D0 x -> ltOf cf x x = false
 trans:∀ x y z,D0 x -> D0 y -> D0 z -> ltOf cf x y = true -> ltOf cf y z = true -> ltOf cf x z = true
 ntrans:∀ x y z,D0 x -> D0 y -> D0 z -> ltOf cf x y = false -> ltOf cf y z = false -> ltOf cf x z = false
section
variable {P:Program} {cc:Con} {T:Ty} {cap:List TV} {D0:T.I -> Prop} {cf:T.I -> T.I -> Int} {own:Nat -> Own} {U:Nat -> Prop} {w:World}
def CmpOk.swo (c:CmpOk P cc T cap D0 cf):SWO (ltOf (SE.c (D0:=D0) cf (own:=own) (U:=U) (w:=w))) :=
 ⟨fun x=>c.irrefl _ x.2.1,fun x y z=>c.trans _ _ _ x.2.1 y.2.1 z.2.1,fun x y z=>c.ntrans _ _ _ x.2.1 y.2.1 z.2.1⟩
def world_ext {w w':World} (h1:w'.heap = w.heap) (h2:w'.tape = w.tape) (h3:w'.drawn = w.drawn) (h4:w'.os = w.os) (h5:w'.output = w.output):w' = w:=by
 cases w;cases w';simp at h1 h2 h3 h4 h5;subst h1 h2 h3 h4 h5;rfl
omit [Go.Ab.DM] in
def grown {W w':World} (hsz:W.heap.size <= w'.heap.size) (hb:∀ b,b < W.heap.size -> w'.heap[b]? = W.heap[b]?) (st:@SameW ⟨True⟩ W w'):∃ q os',w' = grow (W.drewN q) os':=by
 letI:Go.Ab.DM:=⟨True⟩
 refine ⟨w'.drawn - W.drawn,w'.heap.extract W.heap.size w'.heap.size,world_ext ?_ st.tape ?_ st.os st.out⟩
 ·show w'.heap = W.heap ++ _
  apply Array.ext_getElem?
  intro i
  rcases yAZ i W.heap.size with h | h
  ·rw [hb i h,Array.getElem?_append_left h]
  ·rw [Array.getElem?_append_right h]
   rcases yAZ i w'.heap.size with h' | h'
   ·rw [Array.getElem?_eq_getElem h',Array.getElem?_eq_getElem (by simp;omega)]
    simp [Nat.add_sub_cancel' h]
   ·rw [yAz h',yAz (by simp;omega)]
 ·show w'.drawn = W.drawn + _
  have:=st.drawn trivial;omega
omit [Go.Ab.DM] in
def cmp_lays [Inhabited (SE T D0 own U w)] (c:CmpOk P cc T cap D0 cf) (hTp:T.pure = true) (hagg:zBr T = true) {blk off size:Nat} {us:List Value} (hU:∀ b,U b -> b < w.heap.size /\ b ≠ blk) (hcap:VRels own U w 0 (cap.map (enc zDH)) us) :
  CmpLays P cc.f us.toArray (SE.e (D0:=D0) (own:=own) (U:=U) (w:=w)) T.w (SE.c cf) blk off size w:=by
 letI:Go.Ab.DM:=⟨True⟩
 intro m os dk hdk x y
 generalize hWdef:sortWorldK (SE.e (D0:=D0) (own:=own) (U:=U) (w:=w)) T.w w blk off m dk os = W
 have hW:∀ b,U b -> b < W.heap.size /\ W.heap[b]? = w.heap[b]?:=fun b hb=>by
  obtain ⟨h1,h2⟩:=hU b hb
  subst hWdef
  unfold sortWorldK grow putRowK Go.Sort.putRow mapBlock Sort.ahead
  simp only
  refine ⟨by simp;omega,?_⟩
  rw [Array.getElem?_append_left (by simpa using h1),Array.getElem?_modify,if_neg (Ne.symm h2)]
 obtain ⟨z,hz,hq,hres⟩:=c.gives _ _ x.2.1 y.2.1
 have hrows:zBm cc z = []:=by unfold zBm;rw [c.ins];rfl
 have hpv:∀ v ∈ zBH cc z,v.t.pure = true:=fun v hv=>by
  rw [hz] at hv
  rcases yAE.1 hv with rfl | hv
  ·exact hTp
  rcases yAE.1 hv with rfl | hv
  ·exact hTp
  ·exact c.pure v hv
 have hS:=c.ok z hq (fun _=>.sit ByteArray.empty 0) (fun _=>0) [] (by rw [hrows];exact hrel_nil) (fun v hv=>zCR _ _ (hpv v hv))
 have e1:∀ ρ,(zBH cc z).map (enc ρ) = (zBH cc z).map (enc zDH):=fun ρ=>List.map_congr_left fun v hv=>enc_pure (hpv v hv) _ _
 rw [e1,hz] at hS
 have hsim:Sim own [] (fun _=>False) W:=⟨fun r row h=>(by cases h),fun r r' row row' h=>(by cases h),fun b h=>h.elim⟩
 have hUn:zAQ own [] (fun _=>False) W = fun b=>b < W.heap.size:=funext fun b=>propext (by rw [unowned_nil];simp)
 have keeps:Keeps own 0 U w own 0 (fun b=>b < W.heap.size) W:=⟨yAJ _,fun _ _=>rfl,fun b hb=>(hW b hb).1,fun b hb=>zCD (hW b hb).2⟩
 have elt:∀ p:SE T D0 own U w,VRel own (fun b=>b < W.heap.size) W 0 (enc zDH ⟨T,p.1.1⟩) (.agg p.e.toArray):=fun p=>by
  have h:=VRels.mono keeps _ _ p.2.2.2
  obtain ⟨⟨x,vs⟩,h1,h2,h3⟩:=p
  cases T with
  | agg s =>
   show VRel _ _ _ _ (D.agg _) _
   rw [VRel];exact ⟨_,rfl,h⟩
  | _=>simp [zBr] at hagg
 have hrel:zCL own [] (fun _=>False) W ((⟨T,x.1.1⟩ :: ⟨T,y.1.1⟩ :: cap).map (enc zDH)) (.agg x.e.toArray :: .agg y.e.toArray :: us):=by
  rw [zCL,hUn]
  show VRels _ _ _ 0 _ _
  rw [yAL,yAL,VRels]
  refine ⟨_,_,rfl,elt x,?_⟩
  rw [VRels]
  exact ⟨_,_,rfl,elt y,VRels.mono keeps _ _ hcap⟩
 have hC:=hS.2 own (fun _=>False) W _ hsim hrel
 have ea:(Value.agg x.e.toArray :: Value.agg y.e.toArray :: us).toArray = #[.agg x.e.toArray,.agg y.e.toArray] ++ us.toArray:=by simp
 rw [ea] at hC
 refine hC.mono fun e W' hh=>?_
 obtain ⟨own',d,H',v,rfl,_,g2,g3,r,gQ,ζ',num',_,rfl,_⟩:=hh
 rw [hres r gQ] at g2
 have hv:v = .int .i64 (cf x.1.1 y.1.1):=by
  rw [Rel] at g2
  have e:enc (zAB num' (zAT cc r)) ⟨.int .i64,cf x.1.1 y.1.1⟩ = .v (.int .i64 (cf x.1.1 y.1.1)):=rfl
  rw [e,VRel] at g2;exact g2
 subst hv
 refine ⟨rfl,grown g3.size (fun b hb=>(g3.hb b (by rw [hUn];exact hb)).2) g3.st⟩
def SortsAt (P:Program) (f k:Nat):Prop:=∀ {α:Type} [Inhabited α] (enc:α -> List Value) (hk:∀ x,(enc x).length = k) (h1:∀ x,∀ v ∈ enc x,v.oneCell' = true) (cf:α -> α -> Int) (hO:SWO (ltOf cf)) (g:Nat) (cb:Array Value) (blk off cap:Nat) (d:Array α) (w:World)
 (eg:∀ args w,(callFunc g args).run P w = .ok (.enter g args) w) (hcmp:CmpLays P g cb enc k cf blk off d.size w) (hH:HoldsK enc k w blk off d) (hblk:blk < w.heap.size) (hsz:d.size < 4611686018427387904),
 Calls P f #[.slice (some ⟨blk,off,none⟩) d.size cap,.func (.func g) #[] cb] w fun e w' =>
  e = .returned (.tuple #[]) /\ ∃ d' n os,PermIn 0 d.size d d' /\ SortedIn (ltOf cf) 0 d.size d' /\ w' = sortWorldK enc k w blk off n d' os
def norefs_app:∀ (a b:List D),zAg a = true -> zAg b = true -> zAg (a ++ b) = true
 | [],b,_,h=>h
 | d :: a,b,h,h'=>by
  rw [zAg,yAB] at h
  rw [yAl,zAg,yAB]
  exact ⟨h.1,norefs_app a b h.2 h'⟩
def norefs_flat {T:Ty} (hp:T.pure = true):∀ l:List T.I,zAg ((l.map (e0 T)).flatMap D.cells) = true
 | []=>by simp [zAg]
 | x :: l=>by
  rw [yAL,yAj]
  exact norefs_app _ _ (noref_cells (e0_noref T x hp).1) (norefs_flat hp l)
def ones_flat {T:Ty} (hT:T.elem = true):∀ l:List T.I,((l.map (e0 T)).flatMap D.cells).all D.one = true
 | []=>rfl
 | x :: l=>by
  rw [yAL,yAj,List.all_append,yAB]
  exact ⟨elem_cells hT zDH x,ones_flat hT l⟩
def sub_list {α:Type} {p:α -> Prop}:∀ ps:List α,(∀ x ∈ ps,p x) -> ∃ qs:List {x // p x},qs.map (·.1) = ps
 | [],_=>⟨[],rfl⟩
 | x :: ps,h=>by
  obtain ⟨qs,hq⟩:=sub_list ps fun y hy=>h y (by simp [hy])
  exact ⟨⟨x,h x (by simp)⟩ :: qs,by simp [hq]⟩
def sort_sound {f:Nat} (L:SortsAt P f T.w) (c:CmpOk P cc T cap D0 cf) (hT:T.elem = true) (hagg:zBr T = true) (hcall:callable P f) (x0:T.I) (h0:D0 x0) (hx0:∀ own U w,∃ vs,VRels own U w 0 (e0 T x0).cells vs)
  {H:Heap} {r:Nat} {l:List T.I} (hg:H.get r = some (.cells T.w (l.map (e0 T)))) (hl:∀ x ∈ l,D0 x) (hn:l.length < 4611686018427387904) :
  Sound P f [.sl r 0 l.length,.fn (.func cc.f) [] (cap.map (enc zDH))] H fun d H'=>d = .tup [] /\ ∃ l':List T.I,l'.Perm l /\ l'.Pairwise (fun a b=>ltOf cf b a = false) /\ H' = H.set r (some (.cells T.w (l'.map (e0 T)))):=by
 refine ⟨hcall,fun own X w vs hs hv=>?_⟩
 have hTp:=zCY hT
 rw [zCL,VRels] at hv
 obtain ⟨v1,vs1,rfl,hv1,hv⟩:=hv
 rw [VRels] at hv
 obtain ⟨v2,vs2,rfl,hv2,hv⟩:=hv
 rw [VRels] at hv
 subst hv
 rw [VRel] at hv1
 rw [VRel] at hv2
 obtain ⟨_,off,cp,rfl,hm,hoff⟩:=hv1
 obtain ⟨fs0,us,rfl,hfs0,hcap⟩:=hv2
 rw [VRels] at hfs0
 subst hfs0
 obtain ⟨⟨hk,cs,t,hb,hsz,hfit,hcells⟩,hX⟩:=hs.live r _ hg
 generalize hUd:zAQ own H X w = U at *
 have hUb:∀ b,U b -> b < w.heap.size /\ b ≠ (own r).b:=fun b h=>by
  rw [<- hUd] at h
  exact ⟨h.1,fun e=>h.2.2 r _ hg e.symm⟩
 have hcap':VRels own U w 0 (cap.map (enc zDH)) us:=zCT _ _ (norefs_enc c.pure) hcap
 obtain ⟨hw,hflat⟩:=Cells_flat.1 hcells
 obtain ⟨hone,fs,hfv,hfc⟩:=Flat_values.1 hflat
 obtain ⟨ps,hp1,hp2,hp3⟩:=cut_row hT l fs (zCT _ _ (norefs_flat hTp l) hfv)
 obtain ⟨qs,hqs⟩:∃ qs:List (SE T D0 own U w),qs.map (·.1) = ps:=by
  exact sub_list ps fun p hp=>⟨hl _ (by rw [<- hp1];exact yAg hp),hp3 p hp⟩
 obtain ⟨vs0,hvs0⟩:=hx0 own U w
 have inst:Inhabited (SE T D0 own U w):=⟨⟨(x0,vs0),h0,by rw [zAi hvs0,<- D.width_eq,elem_width hT],hvs0⟩⟩
 have hek:∀ p:SE T D0 own U w,p.e.length = T.w:=fun p=>p.2.2.1
 have hfe:qs.flatMap SE.e = fs:=by rw [<- hp2,<- hqs,List.flatMap_map];rfl
 have hql:qs.map (fun p=>p.1.1) = l:=by rw [<- hp1,<- hqs,yBO];rfl
 have hqn:qs.length = l.length:=by rw [<- hql,yAG]
 have hflen:fs.length = l.length * T.w:=by
  rw [<- hfe,<- hqn]
  clear hfe hql hqn hqs
  induction qs with
  | nil=>simp
  | cons p qs ih=>rw [yAj,yAD,ih,hek,yAY,yAv];omega
 have hoff':l.length ≠ 0 -> off = (own r).base:=fun h=>by
  obtain ⟨h1,_⟩:=hoff (by omega)
  simpa using h1
 have hH:HoldsK (SE.e (D0:=D0) (own:=own) (U:=U) (w:=w)) T.w w (own r).b off qs.toArray:=by
  unfold HoldsK
  rw [flatK_list _ hek,hfe]
  intro j hj
  have hj:j < fs.length:=by simpa using hj
  have hl0:l.length ≠ 0:=fun h=>by rw [h] at hflen;omega
  rw [hoff' hl0]
  refine ⟨?_,?_⟩
  ·rw [hfc j hj,yAK hj,getElem!_pos _ j (by simpa using hj)];simp
  ·unfold World.frozen?
   rw [hb];simp
 have hblk:(own r).b < w.heap.size:=by
  rcases yAZ (own r).b w.heap.size with h | h
  ·exact h
  ·rw [yAz h] at hb;cases hb
 have h1c:∀ x:SE T D0 own U w,∀ v ∈ x.e,v.oneCell' = true:=fun x=>VRels_one x.2.2.2 (elem_cells hT zDH x.1.1)
 have hC:=L SE.e hek h1c (SE.c cf) c.swo cc.f us.toArray (own r).b off cp qs.toArray w c.enters (cmp_lays c hTp hagg hUb hcap') hH hblk (by simpa [hqn] using hn)
 have ea:(#[]:Array Value) = [].toArray:=rfl
 have en:qs.toArray.size = l.length:=by simp [hqn]
 rw [en] at hC
 refine hC.mono fun e w' hh=>?_
 obtain ⟨rfl,d',n,os,hperm,hsorted,rfl⟩:=hh
 obtain ⟨hds,_,hp⟩:=hperm
 have hds:d'.size = l.length:=by rw [hds,en]
 have hp:d'.toList.Perm qs:=by
  have e1:(d'.extract 0 l.length).toList = d'.toList:=by rw [<- hds];simp
  have e2:(qs.toArray.extract 0 l.length).toList = qs:=by rw [<- hqn];simp
  rw [e1,e2] at hp;exact hp
 have hw1:(putRowK SE.e T.w (Sort.ahead w n) (own r).b off d').heap = w.heap.setIfInBounds (own r).b (.cells (putCells id off (flatK SE.e T.w d') cs) t (0,0)):=by
  unfold putRowK Go.Sort.putRow mapBlock Sort.ahead
  apply Array.ext_getElem?
  intro i
  simp only
  rw [Array.getElem?_modify,Array.getElem?_setIfInBounds]
  by_cases e:(own r).b = i
  ·subst e
   rw [if_pos rfl,if_pos rfl,hb,if_pos hblk];rfl
  ·rw [if_neg e,if_neg e]
 have hH':HoldsK SE.e T.w (putRowK SE.e T.w (Sort.ahead w n) (own r).b off d') (own r).b off d' :=
  holdsK_putRowK SE.e T.w (Sort.ahead w n) (own r).b off qs.toArray d' (holdsK_ahead SE.e T.w w n (own r).b off _ hH) (by rw [hds,en])
 have hfl:flatK SE.e T.w d' = (d'.toList.flatMap SE.e).toArray:=by
  have:=flatK_list SE.e hek d'.toList
  simpa using this
 have hlen':d'.toList.length = l.length:=by simpa using hds
 have hdl:(d'.toList.flatMap SE.e).length = l.length * T.w:=by
  rw [<- hlen']
  generalize d'.toList = q
  induction q with
  | nil=>simp
  | cons p q ih=>rw [yAj,yAD,ih,hek,yAY,yAv];omega
 obtain ⟨hs1,hx1⟩:=step_set (row':=.cells T.w ((d'.toList.map fun p=>p.1.1).map (e0 T))) hs hg _ hw1 (fun hext hobj=>by
  have hcellsz:(putCells id off (flatK SE.e T.w d') cs).size = cs.size:=by simp [putCells]
  refine ⟨hk,_,t,hobj,by rw [hcellsz];exact hsz,by simpa [hlen'] using hfit,Cells_flat.2 ⟨fun d hd=>?_,Flat_values.2 ⟨ones_flat hT _,d'.toList.flatMap SE.e,?_,fun i hi=>?_⟩⟩⟩
  ·obtain ⟨x,_,rfl⟩:=yBC.1 hd
   exact elem_width hT zDH x
  ·have hj:=join_row (own:=own) (U:=U) (w:=w) (d'.toList.map (·.1)) (fun p hp'=>by
    obtain ⟨q,_,rfl⟩:=yBC.1 hp'
    exact q.2.2.2)
   have h2:(d'.toList.map (·.1)).flatMap (·.2) = d'.toList.flatMap SE.e:=by rw [List.flatMap_map];rfl
   have h3:((d'.toList.map (·.1)).map fun p=>e0 T p.1) = (d'.toList.map fun p=>p.1.1).map (e0 T):=by rw [yBO,yBO];rfl
   rw [h2,h3] at hj
   refine VRels.mono (own:=own) (U:=U) (w:=w) (n:=0) ⟨Nat.zero_le _,fun r h=>absurd h (yAr _),fun b hb'=>?_,fun b hb'=>?_⟩ _ _ hj
   ·exact (hext.hb b (by rw [hUd];exact hb')).1
   ·exact zCD (hext.hb b (by rw [hUd];exact hb')).2
  ·have hl0:l.length ≠ 0:=fun h=>by rw [h] at hdl;omega
   have:=(hH' i (by rw [hfl];simpa using hi)).1
   rw [hfl] at this
   rw [<- hoff' hl0,this,yAK hi,getElem!_pos _ i (by simpa using hi)];simp) ⟨rfl,rfl,rfl,fun _=>Nat.le_add_right _ _⟩
 obtain ⟨hs2,hx2⟩:=Sim.outlives (own':=own) (X':=X) (w':=sortWorldK SE.e T.w w (own r).b off n d' os) hs1 (fun _ h=>h) (fun b hb'=>by
  unfold sortWorldK grow
  simp only
  rw [Array.getElem?_append_left hb']) (by unfold sortWorldK grow;simp) ⟨rfl,rfl,rfl,fun _=>yAJ _⟩
 refine ⟨own,.tup [],_,_,rfl,hs2,?_,Ext.trans hx1 hx2,rfl,d'.toList.map fun p=>p.1.1,?_,?_,rfl⟩
 ·rw [Rel,VRel];exact ⟨[],rfl,by rw [VRels]⟩
 ·rw [<- hql];exact hp.map _
 ·rw [List.pairwise_map]
  rw [List.pairwise_iff_getElem]
  intro i j hi hj hij
  have hi':i < d'.size:=by simpa using hi
  have hj':j < d'.size:=by simpa using hj
  have:=hsorted i j (Nat.zero_le _) hij (by omega)
  rw [getElem!_pos _ i hi',getElem!_pos _ j hj'] at this
  simp only [List.getElem_map,Array.getElem_toList]
  exact this
end
end Go.T
namespace Go.Pl
open Go.T
section
variable {R S E A α σ:Type}
def zAy {x y:Option R} {b:Bool} (h:b = true):sel b x y = x:=by subst h;rfl
def zAX {x y:Option R} {b:Bool} (h:b = false):sel b x y = y:=by subst h;rfl
def zAG {x:Option R} {b:Bool} (h:b = true):need b x = x:=by subst h;rfl
def zAR {x:Option A} {a:A} {k:A -> Option R} (h:x = some a):call x k = k a:=by subst h;rfl
def call_b (a:A) (k:A -> Option R):call (some a) k = k a:=rfl
def zBo {x:Option (S ⊕ R)} {s:S} {k:S -> Option R} (h:x = some (.inl s)):join x k = k s:=by subst h;rfl
def join_r {x:Option (S ⊕ R)} {r:R} {k:S -> Option R} (h:x = some (.inr r)):join x k = some r:=by subst h;rfl
def zBG (s:S) (k:S -> Option R):join (some (.inl s)) k = k s:=rfl
def join_br (r:R) (k:S -> Option R):join (some (.inr r)) k = some r:=rfl
def pick_or (a b:Bool):zAL a true b = (a || b):=by cases a <;> rfl
def zAu (a b:Bool):zAL a b false = (a && b):=by cases a <;> rfl
def zAe (a b:Int):ilt a b = decide (a < b):=rfl
def ile_d (a b:Int):ile a b = decide (a <= b):=rfl
def zDY (a b:Int):ieq a b = decide (a = b):=by unfold ieq;by_cases h:a = b <;> simp [h]
def ine_d (a b:Int):ine a b = decide (a ≠ b):=by unfold ine;by_cases h:a = b <;> simp [h]
def zAf (n:Nat):n2i n = (n:Int):=rfl
def zCM (n:Nat):i2n (n:Int) = n:=rfl
def zAM (l:List α):zAE l = l.length:=rfl
def inL_d (j:Int) (n:Nat):inL j n = (decide (0 <= j) && decide (j < n)):=rfl
def inL_t {i n:Nat} (h:i < n):inL (i:Int) n = true:=by rw [inL_d];simp;omega
def zCN {d:α} {l:List α} {n:Nat} (h:n < l.length):zAH d l n = l[n]:=by simp [zAH,h]
def zCb (p:Prop) [Decidable p] (x y:Option R):sel (decide p) x y = if p then x else y:=by unfold sel;by_cases h:p <;> simp [h]
def impl_t {a b:Bool} (h:a = true -> b = true):impl a b = true:=by cases a <;> simp_all [impl]
def bnot_d (b:Bool):zCr b = !b:=rfl
def band_d (a b:Bool):band a b = (a && b):=rfl
def iterN_succ {body:S -> Option (S ⊕ E)}:∀ {n s e},iterN body n s = some e -> iterN body (n + 1) s = some e
 | 0,s,e,h=>by cases h
 | n + 1,s,e,h=>by
  rw [iterN] at h ⊢
  cases hb:body s with
  | none=>rw [hb] at h;cases h
  | some o =>
   rw [hb] at h
   cases o with
   | inl s'=>exact iterN_succ h
   | inr e'=>exact h
def iterN_le {body:S -> Option (S ⊕ E)} {n m s e} (hm:n <= m) (h:iterN body n s = some e):iterN body m s = some e:=by
 induction hm with
 | refl=>exact h
 | step _ ih=>exact iterN_succ ih
def iter_of {body:S -> Option (S ⊕ E)} {n s e} (h:iterN body n s = some e):zBh body s = some e:=by
 have hx:∃ n e,iterN body n s = some e:=⟨n,e,h⟩
 unfold zBh
 rw [dif_pos hx]
 have h2:=yBB (yBB hx)
 have a:=iterN_le (Nat.le_max_left n (Classical.choose hx)) h
 have b:=iterN_le (Nat.le_max_right n (Classical.choose hx)) h2
 rw [a] at b;exact b.symm
def iter_r {body:S -> Option (S ⊕ E)} {s e} (h:body s = some (.inr e)):zBh body s = some e:=iter_of (n:=1) (by rw [iterN,h])
def iter_l {body:S -> Option (S ⊕ E)} {s s' e} (h:body s = some (.inl s')) (h':zBh body s' = some e):zBh body s = some e:=by
 obtain ⟨n,hn⟩:=iter_some h'
 exact iter_of (n:=n + 1) (by rw [iterN,h];exact hn)
def join_of {x:Option (S ⊕ R)} {o:S ⊕ R} (k:S -> Option R) (h:x = some o):join x k = Sum.elim k some o:=by subst h;cases o <;> rfl
end
section
variable {R S S' E:Type}
def iter_wf {body:S -> Option (S ⊕ E)} (P:S -> Prop) (μ:S -> Nat) (Q:E -> Prop)
  (h:∀ s,P s -> (∃ s',body s = some (.inl s') /\ P s' /\ μ s' < μ s) \/ (∃ e,body s = some (.inr e) /\ Q e)) :
  ∀ s,P s -> ∃ e,zBh body s = some e /\ Q e:=by
 intro s
 induction hn:μ s using Nat.strongRecOn generalizing s with
 | _ n ih =>
  intro hP
  rcases h s hP with ⟨s',h1,h2,h3⟩ | ⟨e,h1,h2⟩
  ·obtain ⟨e,e1,e2⟩:=ih (μ s') (by omega) s' rfl h2
   exact ⟨e,iter_l h1 e1,e2⟩
  ·exact ⟨e,iter_r h1,h2⟩
def zDL {body:S -> Option (S ⊕ (S' ⊕ R))} {k:S' -> Option R} {G:R -> Prop} {s:S} (P:S -> Prop) (μ:S -> Nat) (Q:S' ⊕ R -> Prop) (h0:P s)
  (h:∀ s,P s -> (∃ s',body s = some (.inl s') /\ P s' /\ μ s' < μ s) \/ (∃ e,body s = some (.inr e) /\ Q e))
  (hk:∀ e,Q e -> ∃ y,Sum.elim k some e = some y /\ G y):∃ y,join (zBh body s) k = some y /\ G y:=by
 obtain ⟨e,e1,e2⟩:=iter_wf P μ Q h s h0
 obtain ⟨y,y1,y2⟩:=hk e e2
 exact ⟨y,(join_of k e1).trans y1,y2⟩
end
end Go.Pl
namespace Go.Proofs.YtbhcfbnkdbioaaaGreat.AbT
open Go Go.Ab
variable [Go.Ab.DM]
set_option linter.defProp false
def un40:Tryz.prog.underlying 40 = some (.slice 9):=by kernel_rfl
def lef40 {k:Nat} {xs:List D} {D1:D -> Prop}:zAk Tryz.prog .len #[40] [.fz k xs] D1 = D1 (.v (.int .i64 xs.length)):=len_fz rfl un40
def les40 {r j len:Nat} {D1:D -> Prop}:zAk Tryz.prog .len #[40] [.sl r j len] D1 = D1 (.v (.int .i64 len)):=len_sl rfl un40
def len40 {D1:D -> Prop}:zAk Tryz.prog .len #[40] [.v (.slice none 0 0)] D1 = D1 (.v (.int .i64 0)):=len_nil rfl un40
def ldf_40 {H:Heap} {k:Nat} {xs:List D}:lenD Tryz.prog #[40] H (.fz k xs) = some (.v (.int .i64 xs.length)):=lend_fz un40
def lds_40 {H:Heap} {r i m:Nat}:lenD Tryz.prog #[40] H (.sl r i m) = some (.v (.int .i64 m)):=lend_sl un40
def ldc_40 {H:Heap} {r i m c:Nat}:lenD Tryz.prog #[40] H (.slc r i m c) = some (.v (.int .i64 m)):=lend_slc un40
def ldn_40 {H:Heap}:lenD Tryz.prog #[40] H (.v (.slice none 0 0)) = some (.v (.int .i64 0)):=lend_nil un40
def el40:zBI Tryz.prog 40 = some 9:=by kernel_rfl
def sz9:tsz Tryz.prog 9 = some 1:=by kernel_rfl
def ixs40 {H:Heap} {r j len:Nat} {n:Int} {jk:IntKind} {D1:D -> Prop}:zBC Tryz.prog 40 H (.sl r j len) (.v (.int jk n)) D1 = zAt (rowK (H.get r) = some 1) (zAt (0 <= n /\ n < len) (D1 (.pt r (j + n.toNat) 0)) .mk) .mk:=ix_sl el40 sz9
def ixf40 {H:Heap} {xs:List D} {n:Int} {jk:IntKind} {D1:D -> Prop}:zBC Tryz.prog 40 H (.fz 1 xs) (.v (.int jk n)) D1 = zAt (0 <= n /\ n < xs.length) (D1 (.fp 1 xs n.toNat 0)) .mk:=indexAddr_fz el40 sz9
def ag9:tag Tryz.prog 9 = some false:=by kernel_rfl
def ldp9 {H:Heap} {r j o:Nat}:ldD Tryz.prog 9 H (.pt r j o) = ((rowXs (H.get r)).bind fun xs=>xs[j]?).bind (zBV false 1 · o):=ld_pt ag9 sz9
def ldf9 {H:Heap} {k j o:Nat} {xs:List D}:ldD Tryz.prog 9 H (.fp k xs j o) = (xs[j]?).bind (zBV false 1 · o):=ldD_fp ag9 sz9
def fl71_1:tfld Tryz.prog 71 1 = some (2,69):=by kernel_rfl
def sz69:tsz Tryz.prog 69 = some 1:=by kernel_rfl
def fap71_1 {r i o:Nat} {D1:D -> Prop}:zAh Tryz.prog 71 (.pt r i o) 1 D1 = D1 (.pt r i (o + 2)):=zDS fl71_1 sz69
def faf71_1 {k i o:Nat} {xs:List D} {D1:D -> Prop}:zAh Tryz.prog 71 (.fp k xs i o) 1 D1 = D1 (.fp k xs i (o + 2)):=zDT fl71_1 sz69
def ag69:tag Tryz.prog 69 = some false:=by kernel_rfl
def ldp69 {H:Heap} {r j o:Nat}:ldD Tryz.prog 69 H (.pt r j o) = ((rowXs (H.get r)).bind fun xs=>xs[j]?).bind (zBV false 1 · o):=ld_pt ag69 sz69
def ldf69 {H:Heap} {k j o:Nat} {xs:List D}:ldD Tryz.prog 69 H (.fp k xs j o) = (xs[j]?).bind (zBV false 1 · o):=ldD_fp ag69 sz69
def tm69:tmap Tryz.prog 69 = some (9,66,.string):=by kernel_rfl
def mm69 {k:IntKind} {n:Int} {H:Heap} {C:D -> Heap -> Prop}:aMakeMap Tryz.prog 69 (some (.v (.int k n))) H C = C (.mp H.length) (H ++ [some (.mp [] 0)]):=makeMap_z (by rw [tm69];rfl)
def stp69 {H:Heap} {r j o:Nat} {x:D}:stD Tryz.prog 69 H (.pt r j o) x = stRow H r j false 1 o x (H.get r):=st_pt ag69 sz69
def ze66:zCy Tryz.prog 66 = some (.v (.pointer none)):=by kernel_rfl
def lk69 {r:Nat} {kv:Value} {ok:Bool} {H:Heap} {D1:D -> Prop}:okK (lkD Tryz.prog 69 H (.mp r) (.v kv) ok) D1 = okM (H.get r) fun es _=>okQ (findD .string kv es 0) fun q=>okK (getM es q (.v (.pointer none)) ok) D1:=lk_mp tm69 ze66
def ze71:zCy Tryz.prog 71 = some (.agg [(.v (.int .i64 0)),(.v (.int .i64 0)),(.v (.map none))]):=by kernel_rfl
def fs71:fieldsOf Tryz.prog 71 = some [(0,2),(2,1)]:=by kernel_rfl
def bd71 {ps:List (Nat × D)} {D1:D -> Prop}:aBuild Tryz.prog 71 ps D1 = okK ((fillD (([(0,2),(2,1)]:List (Nat × Nat))[·]?) [(.v (.int .i64 0)),(.v (.int .i64 0)),(.v (.map none))] ps).map .agg) D1:=build_z ze71 fs71
def mu69 {r:Nat} {kv:Value} {x:D} {H:Heap} {C:D -> Heap -> Prop}:zBx Tryz.prog 69 (.mp r) (.v kv) x H C = okM (H.get r) fun es cl=>okQ (findD .string kv es 0) fun q=>C (.v undef) (H.set r (some (.mp (updM es cl kv x q).1 (updM es cl kv x q).2))):=mapUpdate_mp tm69
def fl71_0:tfld Tryz.prog 71 0 = some (0,68):=by kernel_rfl
def sz68:tsz Tryz.prog 68 = some 2:=by kernel_rfl
def fap71_0 {r i o:Nat} {D1:D -> Prop}:zAh Tryz.prog 71 (.pt r i o) 0 D1 = D1 (.pt r i (o + 0)):=zDS fl71_0 sz68
def faf71_0 {k i o:Nat} {xs:List D} {D1:D -> Prop}:zAh Tryz.prog 71 (.fp k xs i o) 0 D1 = D1 (.fp k xs i (o + 0)):=zDT fl71_0 sz68
def ag68:tag Tryz.prog 68 = some true:=by kernel_rfl
def ldp68 {H:Heap} {r j o:Nat}:ldD Tryz.prog 68 H (.pt r j o) = ((rowXs (H.get r)).bind fun xs=>xs[j]?).bind (zBV true 2 · o):=ld_pt ag68 sz68
def ldf68 {H:Heap} {k j o:Nat} {xs:List D}:ldD Tryz.prog 68 H (.fp k xs j o) = (xs[j]?).bind (zBV true 2 · o):=ldD_fp ag68 sz68
def stp68 {H:Heap} {r j o:Nat} {x:D}:stD Tryz.prog 68 H (.pt r j o) x = stRow H r j true 2 o x (H.get r):=st_pt ag68 sz68
def ze23:zCy Tryz.prog 23 = some (.v (.slice none 0 0)):=by kernel_rfl
def al23 {H:Heap} {C:D -> Heap -> Prop}:aAlloc Tryz.prog 23 H C = zAt (D.lies (.v (.slice none 0 0)) = true) (C (.pt H.length 0 0) (H ++ [some (.cells (D.width (.v (.slice none 0 0))) [(.v (.slice none 0 0))])])) .mk:=alloc_z ze23
def ze4:zCy Tryz.prog 4 = some (.v (.bool false)):=by kernel_rfl
def al4 {H:Heap} {C:D -> Heap -> Prop}:aAlloc Tryz.prog 4 H C = zAt (D.lies (.v (.bool false)) = true) (C (.pt H.length 0 0) (H ++ [some (.cells (D.width (.v (.bool false))) [(.v (.bool false))])])) .mk:=alloc_z ze4
def ag4:tag Tryz.prog 4 = some false:=by kernel_rfl
def sz4:tsz Tryz.prog 4 = some 1:=by kernel_rfl
def stp4 {H:Heap} {r j o:Nat} {x:D}:stD Tryz.prog 4 H (.pt r j o) x = stRow H r j false 1 o x (H.get r):=st_pt ag4 sz4
def ze87:zCy Tryz.prog 87 = some (.v .nilFunc):=by kernel_rfl
def al87 {H:Heap} {C:D -> Heap -> Prop}:aAlloc Tryz.prog 87 H C = zAt (D.lies (.v .nilFunc) = true) (C (.pt H.length 0 0) (H ++ [some (.cells (D.width (.v .nilFunc)) [(.v .nilFunc)])])) .mk:=alloc_z ze87
def ag87:tag Tryz.prog 87 = some false:=by kernel_rfl
def sz87:tsz Tryz.prog 87 = some 1:=by kernel_rfl
def stp87 {H:Heap} {r j o:Nat} {x:D}:stD Tryz.prog 87 H (.pt r j o) x = stRow H r j false 1 o x (H.get r):=st_pt ag87 sz87
def ldp87 {H:Heap} {r j o:Nat}:ldD Tryz.prog 87 H (.pt r j o) = ((rowXs (H.get r)).bind fun xs=>xs[j]?).bind (zBV false 1 · o):=ld_pt ag87 sz87
def ldf87 {H:Heap} {k j o:Nat} {xs:List D}:ldD Tryz.prog 87 H (.fp k xs j o) = (xs[j]?).bind (zBV false 1 · o):=ldD_fp ag87 sz87
def ldp4 {H:Heap} {r j o:Nat}:ldD Tryz.prog 4 H (.pt r j o) = ((rowXs (H.get r)).bind fun xs=>xs[j]?).bind (zBV false 1 · o):=ld_pt ag4 sz4
def ldf4 {H:Heap} {k j o:Nat} {xs:List D}:ldD Tryz.prog 4 H (.fp k xs j o) = (xs[j]?).bind (zBV false 1 · o):=ldD_fp ag4 sz4
def ag23:tag Tryz.prog 23 = some false:=by kernel_rfl
def sz23:tsz Tryz.prog 23 = some 1:=by kernel_rfl
def ldp23 {H:Heap} {r j o:Nat}:ldD Tryz.prog 23 H (.pt r j o) = ((rowXs (H.get r)).bind fun xs=>xs[j]?).bind (zBV false 1 · o):=ld_pt ag23 sz23
def ldf23 {H:Heap} {k j o:Nat} {xs:List D}:ldD Tryz.prog 23 H (.fp k xs j o) = (xs[j]?).bind (zBV false 1 · o):=ldD_fp ag23 sz23
def un23:Tryz.prog.underlying 23 = some (.slice 39):=by kernel_rfl
def lef23 {k:Nat} {xs:List D} {D1:D -> Prop}:zAk Tryz.prog .len #[23] [.fz k xs] D1 = D1 (.v (.int .i64 xs.length)):=len_fz rfl un23
def les23 {r j len:Nat} {D1:D -> Prop}:zAk Tryz.prog .len #[23] [.sl r j len] D1 = D1 (.v (.int .i64 len)):=len_sl rfl un23
def len23 {D1:D -> Prop}:zAk Tryz.prog .len #[23] [.v (.slice none 0 0)] D1 = D1 (.v (.int .i64 0)):=len_nil rfl un23
def ldf_23 {H:Heap} {k:Nat} {xs:List D}:lenD Tryz.prog #[23] H (.fz k xs) = some (.v (.int .i64 xs.length)):=lend_fz un23
def lds_23 {H:Heap} {r i m:Nat}:lenD Tryz.prog #[23] H (.sl r i m) = some (.v (.int .i64 m)):=lend_sl un23
def ldc_23 {H:Heap} {r i m c:Nat}:lenD Tryz.prog #[23] H (.slc r i m c) = some (.v (.int .i64 m)):=lend_slc un23
def ldn_23 {H:Heap}:lenD Tryz.prog #[23] H (.v (.slice none 0 0)) = some (.v (.int .i64 0)):=lend_nil un23
def ze39:zCy Tryz.prog 39 = some (.agg [(.v (.int .i64 0)),(.v (.string ⟨#[]⟩)),(.v (.int .i64 0))]):=by kernel_rfl
def fs39:fieldsOf Tryz.prog 39 = some [(0,1),(1,1),(2,1)]:=by kernel_rfl
def bd39 {ps:List (Nat × D)} {D1:D -> Prop}:aBuild Tryz.prog 39 ps D1 = okK ((fillD (([(0,1),(1,1),(2,1)]:List (Nat × Nat))[·]?) [(.v (.int .i64 0)),(.v (.string ⟨#[]⟩)),(.v (.int .i64 0))] ps).map .agg) D1:=build_z ze39 fs39
def el23:zBI Tryz.prog 23 = some 39:=by kernel_rfl
def sz39:tsz Tryz.prog 39 = some 3:=by kernel_rfl
def zs23:((Tryz.prog.info? 39).bind (·.zero)).isSome = true:=by kernel_rfl
def bs23 {n:Nat} {ps:List (Nat × D)} {H:Heap} {C:D -> Heap -> Prop}:zBn Tryz.prog 23 n ps H C = zAt ((ps.map (·.1) = List.range n) /\ n * 3 <= 16777216 /\ (ps.all fun p=>p.2.width == 3 && p.2.lies) = true) (C (.sl H.length 0 n) (H ++ [some (.cells 3 (ps.map (·.2)))])) .mk:=buildSlice_z el23 sz39 zs23
def by39:tby Tryz.prog 39 = some 32:=by kernel_rfl
def ii23:isIntT Tryz.prog 23 = some false:=by kernel_rfl
def aps23_23 {H:Heap} {r i m:Nat} {x:D} {C:D -> Heap -> Prop}:zBD Tryz.prog #[23,23] [.sl r i m,x] H C = okL (zBY H 3 x.wk) fun ys=>okR (H.get r) 3 fun xs=>zAt (i + m = xs.length /\ (m + ys.length) * 32 <= 140737488355328) (C (.sl H.length 0 (m + ys.length)) (H.set r none ++ [some (.cells 3 (xs.drop i ++ ys))])) .mk:=append_sl rfl rfl el23 sz39 by39 ze39 rfl ii23
def apn23_23 {H:Heap} {x:D} {C:D -> Heap -> Prop}:zBD Tryz.prog #[23,23] [.v (.slice none 0 0),x] H C = okL (zBY H 3 x.wk) fun ys=>zAt (ys.length * 32 <= 140737488355328) (nilK ys (C (.v (.slice none 0 0)) H) (C (.sl H.length 0 ys.length) (H ++ [some (.cells 3 ys)])) .mk) .mk:=append_nil rfl rfl el23 sz39 by39 ze39 rfl ii23
def apc23_23 {H:Heap} {r i m c:Nat} {x:D} {C:D -> Heap -> Prop}:zBD Tryz.prog #[23,23] [.slc r i m c,x] H C = okL (zBY H 3 x.wk) fun ys=>okR (H.get r) 3 fun xs=>zAt (m + ys.length <= c /\ i + c <= xs.length) (C (.slc r i (m + ys.length) c) (H.set r (some (.cells 3 (splice xs (i + m) ys))))) .mk:=append_slc rfl rfl el23 sz39 ii23
def stp23 {H:Heap} {r j o:Nat} {x:D}:stD Tryz.prog 23 H (.pt r j o) x = stRow H r j false 1 o x (H.get r):=st_pt ag23 sz23
def sls23 {H:Heap} {r j len:Nat} {lo hi:Option D} {D1:D -> Prop} {tg:Tag (zAx Tryz.prog 23 (.sl r j len) lo hi none D1) (zAx Tryz.prog 23 (.sl r j len) lo hi none D1)}:zAt (zBd Tryz.prog 23 H (.sl r j len)) (zAx Tryz.prog 23 (.sl r j len) lo hi none D1) tg = zAt (rowK (H.get r) = some 3) (okZ (zAc (.v (.int .i64 0)) lo) fun l=>okZ (zAc (.v (.int .i64 len)) hi) fun h=>zAt (0 <= l /\ l <= h /\ h <= len) (D1 (.sl r (j + l.toNat) (h.toNat - l.toNat))) .mk) .mk:=slice_sl un23 sz39
def slf23 {H:Heap} {xs:List D} {lo hi:Option D} {D1:D -> Prop} {tg:Tag (zAx Tryz.prog 23 (.fz 3 xs) lo hi none D1) (zAx Tryz.prog 23 (.fz 3 xs) lo hi none D1)}:zAt (zBd Tryz.prog 23 H (.fz 3 xs)) (zAx Tryz.prog 23 (.fz 3 xs) lo hi none D1) tg = okZ (zAc (.v (.int .i64 0)) lo) fun l=>okZ (zAc (.v (.int .i64 xs.length)) hi) fun h=>zAt (0 <= l /\ l <= h /\ h <= xs.length) (D1 (.fz 3 ((xs.drop l.toNat).take (h.toNat - l.toNat)))) .mk:=slice_fz un23 sz39
def sln23 {H:Heap}  {lo hi:Option D} {D1:D -> Prop} {tg:Tag (zAx Tryz.prog 23 (.v (.slice none 0 0)) lo hi none D1) (zAx Tryz.prog 23 (.v (.slice none 0 0)) lo hi none D1)}:zAt (zBd Tryz.prog 23 H (.v (.slice none 0 0))) (zAx Tryz.prog 23 (.v (.slice none 0 0)) lo hi none D1) tg = okZ (zAc (.v (.int .i64 0)) lo) fun l=>okZ (zAc (.v (.int .i64 0)) hi) fun h=>zAt (l = 0 /\ h = 0) (D1 (.v (.slice none 0 0))) .mk:=slice_nil un23 sz39
def slc23 {H:Heap} {r i m c:Nat} {lo hi:Option D} {D1:D -> Prop}:zCw Tryz.prog 23 H (.slc r i m c) lo hi none D1 = zAt (rowK (H.get r) = some 3) (okZ (zAc (.v (.int .i64 0)) lo) fun l=>okZ (zAc (.v (.int .i64 m)) hi) fun h=>zAt (0 <= l /\ l <= h /\ h <= c) (D1 (.slc r (i + l.toNat) (h.toNat - l.toNat) (c - l.toNat))) .mk) .mk:=slice_slc el23 sz39
def un44:Tryz.prog.underlying 44 = some (.slice 43):=by kernel_rfl
def lef44 {k:Nat} {xs:List D} {D1:D -> Prop}:zAk Tryz.prog .len #[44] [.fz k xs] D1 = D1 (.v (.int .i64 xs.length)):=len_fz rfl un44
def les44 {r j len:Nat} {D1:D -> Prop}:zAk Tryz.prog .len #[44] [.sl r j len] D1 = D1 (.v (.int .i64 len)):=len_sl rfl un44
def len44 {D1:D -> Prop}:zAk Tryz.prog .len #[44] [.v (.slice none 0 0)] D1 = D1 (.v (.int .i64 0)):=len_nil rfl un44
def ldf_44 {H:Heap} {k:Nat} {xs:List D}:lenD Tryz.prog #[44] H (.fz k xs) = some (.v (.int .i64 xs.length)):=lend_fz un44
def lds_44 {H:Heap} {r i m:Nat}:lenD Tryz.prog #[44] H (.sl r i m) = some (.v (.int .i64 m)):=lend_sl un44
def ldc_44 {H:Heap} {r i m c:Nat}:lenD Tryz.prog #[44] H (.slc r i m c) = some (.v (.int .i64 m)):=lend_slc un44
def ldn_44 {H:Heap}:lenD Tryz.prog #[44] H (.v (.slice none 0 0)) = some (.v (.int .i64 0)):=lend_nil un44
def el44:zBI Tryz.prog 44 = some 43:=by kernel_rfl
def sz43:tsz Tryz.prog 43 = some 2:=by kernel_rfl
def ixs44 {H:Heap} {r j len:Nat} {n:Int} {jk:IntKind} {D1:D -> Prop}:zBC Tryz.prog 44 H (.sl r j len) (.v (.int jk n)) D1 = zAt (rowK (H.get r) = some 2) (zAt (0 <= n /\ n < len) (D1 (.pt r (j + n.toNat) 0)) .mk) .mk:=ix_sl el44 sz43
def ixf44 {H:Heap} {xs:List D} {n:Int} {jk:IntKind} {D1:D -> Prop}:zBC Tryz.prog 44 H (.fz 2 xs) (.v (.int jk n)) D1 = zAt (0 <= n /\ n < xs.length) (D1 (.fp 2 xs n.toNat 0)) .mk:=indexAddr_fz el44 sz43
def ag43:tag Tryz.prog 43 = some true:=by kernel_rfl
def ldp43 {H:Heap} {r j o:Nat}:ldD Tryz.prog 43 H (.pt r j o) = ((rowXs (H.get r)).bind fun xs=>xs[j]?).bind (zBV true 2 · o):=ld_pt ag43 sz43
def ldf43 {H:Heap} {k j o:Nat} {xs:List D}:ldD Tryz.prog 43 H (.fp k xs j o) = (xs[j]?).bind (zBV true 2 · o):=ldD_fp ag43 sz43
def ze43:zCy Tryz.prog 43 = some (.agg [(.v (.slice none 0 0)),(.v (.int .i64 0))]):=by kernel_rfl
def al43 {H:Heap} {C:D -> Heap -> Prop}:aAlloc Tryz.prog 43 H C = zAt (D.lies (.agg [(.v (.slice none 0 0)),(.v (.int .i64 0))]) = true) (C (.pt H.length 0 0) (H ++ [some (.cells (D.width (.agg [(.v (.slice none 0 0)),(.v (.int .i64 0))])) [(.agg [(.v (.slice none 0 0)),(.v (.int .i64 0))])])])) .mk:=alloc_z ze43
def stp43 {H:Heap} {r j o:Nat} {x:D}:stD Tryz.prog 43 H (.pt r j o) x = stRow H r j true 2 o x (H.get r):=st_pt ag43 sz43
def fl43_0:tfld Tryz.prog 43 0 = some (0,40):=by kernel_rfl
def sz40:tsz Tryz.prog 40 = some 1:=by kernel_rfl
def fap43_0 {r i o:Nat} {D1:D -> Prop}:zAh Tryz.prog 43 (.pt r i o) 0 D1 = D1 (.pt r i (o + 0)):=zDS fl43_0 sz40
def faf43_0 {k i o:Nat} {xs:List D} {D1:D -> Prop}:zAh Tryz.prog 43 (.fp k xs i o) 0 D1 = D1 (.fp k xs i (o + 0)):=zDT fl43_0 sz40
def ag40:tag Tryz.prog 40 = some false:=by kernel_rfl
def ldp40 {H:Heap} {r j o:Nat}:ldD Tryz.prog 40 H (.pt r j o) = ((rowXs (H.get r)).bind fun xs=>xs[j]?).bind (zBV false 1 · o):=ld_pt ag40 sz40
def ldf40 {H:Heap} {k j o:Nat} {xs:List D}:ldD Tryz.prog 40 H (.fp k xs j o) = (xs[j]?).bind (zBV false 1 · o):=ldD_fp ag40 sz40
def fl43_1:tfld Tryz.prog 43 1 = some (1,3):=by kernel_rfl
def sz3:tsz Tryz.prog 3 = some 1:=by kernel_rfl
def fap43_1 {r i o:Nat} {D1:D -> Prop}:zAh Tryz.prog 43 (.pt r i o) 1 D1 = D1 (.pt r i (o + 1)):=zDS fl43_1 sz3
def faf43_1 {k i o:Nat} {xs:List D} {D1:D -> Prop}:zAh Tryz.prog 43 (.fp k xs i o) 1 D1 = D1 (.fp k xs i (o + 1)):=zDT fl43_1 sz3
def ag3:tag Tryz.prog 3 = some false:=by kernel_rfl
def ldp3 {H:Heap} {r j o:Nat}:ldD Tryz.prog 3 H (.pt r j o) = ((rowXs (H.get r)).bind fun xs=>xs[j]?).bind (zBV false 1 · o):=ld_pt ag3 sz3
def ldf3 {H:Heap} {k j o:Nat} {xs:List D}:ldD Tryz.prog 3 H (.fp k xs j o) = (xs[j]?).bind (zBV false 1 · o):=ldD_fp ag3 sz3
def un9:Tryz.prog.underlying 9 = some .string:=by kernel_rfl
def lst9 {u:ByteArray} {D1:D -> Prop}:zAk Tryz.prog .len #[9] [.v (.string u)] D1 = D1 (.v (.int .i64 u.size)):=len_str rfl un9
def ldt_9 {H:Heap} {u:ByteArray}:lenD Tryz.prog #[9] H (.v (.string u)) = some (.v (.int .i64 u.size)):=lend_str un9
def ze68:zCy Tryz.prog 68 = some (.agg [(.v (.int .i64 0)),(.v (.int .i64 0))]):=by kernel_rfl
def al68 {H:Heap} {C:D -> Heap -> Prop}:aAlloc Tryz.prog 68 H C = zAt (D.lies (.agg [(.v (.int .i64 0)),(.v (.int .i64 0))]) = true) (C (.pt H.length 0 0) (H ++ [some (.cells (D.width (.agg [(.v (.int .i64 0)),(.v (.int .i64 0))])) [(.agg [(.v (.int .i64 0)),(.v (.int .i64 0))])])])) .mk:=alloc_z ze68
def fl68_0:tfld Tryz.prog 68 0 = some (0,3):=by kernel_rfl
def fap68_0 {r i o:Nat} {D1:D -> Prop}:zAh Tryz.prog 68 (.pt r i o) 0 D1 = D1 (.pt r i (o + 0)):=zDS fl68_0 sz3
def faf68_0 {k i o:Nat} {xs:List D} {D1:D -> Prop}:zAh Tryz.prog 68 (.fp k xs i o) 0 D1 = D1 (.fp k xs i (o + 0)):=zDT fl68_0 sz3
def fl68_1:tfld Tryz.prog 68 1 = some (1,3):=by kernel_rfl
def fap68_1 {r i o:Nat} {D1:D -> Prop}:zAh Tryz.prog 68 (.pt r i o) 1 D1 = D1 (.pt r i (o + 1)):=zDS fl68_1 sz3
def faf68_1 {k i o:Nat} {xs:List D} {D1:D -> Prop}:zAh Tryz.prog 68 (.fp k xs i o) 1 D1 = D1 (.fp k xs i (o + 1)):=zDT fl68_1 sz3
def fs68:fieldsOf Tryz.prog 68 = some [(0,1),(1,1)]:=by kernel_rfl
def bd68 {ps:List (Nat × D)} {D1:D -> Prop}:aBuild Tryz.prog 68 ps D1 = okK ((fillD (([(0,1),(1,1)]:List (Nat × Nat))[·]?) [(.v (.int .i64 0)),(.v (.int .i64 0))] ps).map .agg) D1:=build_z ze68 fs68
def nils40 {r i m:Nat} {D1:D -> Prop}:zCx Tryz.prog .eql 40 (.sl r i m) (.v (.slice none 0 0)) D1 = D1 (.v (.bool false)):=nil_sl el40
def nilc40 {r i m c:Nat} {D1:D -> Prop}:zCx Tryz.prog .eql 40 (.slc r i m c) (.v (.slice none 0 0)) D1 = D1 (.v (.bool false)):=nil_slc el40
def niln40 {D1:D -> Prop}:zCx Tryz.prog .eql 40 (.v (.slice none 0 0)) (.v (.slice none 0 0)) D1 = D1 (.v (.bool true)):=nil_nil el40
def nilf40 {k:Nat} {xs:List D} {D1:D -> Prop}:zCx Tryz.prog .eql 40 (.fz k xs) (.v (.slice none 0 0)) D1 = allK (fun b=>b = true -> xs = []) (fun b=>D1 (.v (.bool b))) .mk:=nil_fz el40
def zs40:((Tryz.prog.info? 9).bind (·.zero)).isSome = true:=by kernel_rfl
def bs40 {n:Nat} {ps:List (Nat × D)} {H:Heap} {C:D -> Heap -> Prop}:zBn Tryz.prog 40 n ps H C = zAt ((ps.map (·.1) = List.range n) /\ n * 1 <= 16777216 /\ (ps.all fun p=>p.2.width == 1 && p.2.lies) = true) (C (.sl H.length 0 n) (H ++ [some (.cells 1 (ps.map (·.2)))])) .mk:=buildSlice_z el40 sz9 zs40
def by9:tby Tryz.prog 9 = some 16:=by kernel_rfl
def ze9:zCy Tryz.prog 9 = some (.v (.string ⟨#[]⟩)):=by kernel_rfl
def ii40:isIntT Tryz.prog 40 = some false:=by kernel_rfl
def aps40_40 {H:Heap} {r i m:Nat} {x:D} {C:D -> Heap -> Prop}:zBD Tryz.prog #[40,40] [.sl r i m,x] H C = okL (zBY H 1 x.wk) fun ys=>okR (H.get r) 1 fun xs=>zAt (i + m = xs.length /\ (m + ys.length) * 16 <= 140737488355328) (C (.sl H.length 0 (m + ys.length)) (H.set r none ++ [some (.cells 1 (xs.drop i ++ ys))])) .mk:=append_sl rfl rfl el40 sz9 by9 ze9 rfl ii40
def apn40_40 {H:Heap} {x:D} {C:D -> Heap -> Prop}:zBD Tryz.prog #[40,40] [.v (.slice none 0 0),x] H C = okL (zBY H 1 x.wk) fun ys=>zAt (ys.length * 16 <= 140737488355328) (nilK ys (C (.v (.slice none 0 0)) H) (C (.sl H.length 0 ys.length) (H ++ [some (.cells 1 ys)])) .mk) .mk:=append_nil rfl rfl el40 sz9 by9 ze9 rfl ii40
def apc40_40 {H:Heap} {r i m c:Nat} {x:D} {C:D -> Heap -> Prop}:zBD Tryz.prog #[40,40] [.slc r i m c,x] H C = okL (zBY H 1 x.wk) fun ys=>okR (H.get r) 1 fun xs=>zAt (m + ys.length <= c /\ i + c <= xs.length) (C (.slc r i (m + ys.length) c) (H.set r (some (.cells 1 (splice xs (i + m) ys))))) .mk:=append_slc rfl rfl el40 sz9 ii40
def stp9 {H:Heap} {r j o:Nat} {x:D}:stD Tryz.prog 9 H (.pt r j o) x = stRow H r j false 1 o x (H.get r):=st_pt ag9 sz9
def fs43:fieldsOf Tryz.prog 43 = some [(0,1),(1,1)]:=by kernel_rfl
def bd43 {ps:List (Nat × D)} {D1:D -> Prop}:aBuild Tryz.prog 43 ps D1 = okK ((fillD (([(0,1),(1,1)]:List (Nat × Nat))[·]?) [(.v (.slice none 0 0)),(.v (.int .i64 0))] ps).map .agg) D1:=build_z ze43 fs43
def ag55:tag Tryz.prog 55 = some false:=by kernel_rfl
def sz55:tsz Tryz.prog 55 = some 1:=by kernel_rfl
def ldp55 {H:Heap} {r j o:Nat}:ldD Tryz.prog 55 H (.pt r j o) = ((rowXs (H.get r)).bind fun xs=>xs[j]?).bind (zBV false 1 · o):=ld_pt ag55 sz55
def ldf55 {H:Heap} {k j o:Nat} {xs:List D}:ldD Tryz.prog 55 H (.fp k xs j o) = (xs[j]?).bind (zBV false 1 · o):=ldD_fp ag55 sz55
def el55:zBI Tryz.prog 55 = some 4:=by kernel_rfl
def ixs55 {H:Heap} {r j len:Nat} {n:Int} {jk:IntKind} {D1:D -> Prop}:zBC Tryz.prog 55 H (.sl r j len) (.v (.int jk n)) D1 = zAt (rowK (H.get r) = some 1) (zAt (0 <= n /\ n < len) (D1 (.pt r (j + n.toNat) 0)) .mk) .mk:=ix_sl el55 sz4
def ixf55 {H:Heap} {xs:List D} {n:Int} {jk:IntKind} {D1:D -> Prop}:zBC Tryz.prog 55 H (.fz 1 xs) (.v (.int jk n)) D1 = zAt (0 <= n /\ n < xs.length) (D1 (.fp 1 xs n.toNat 0)) .mk:=indexAddr_fz el55 sz4
def TY0:=(And.intro (And.intro (And.intro (And.intro (And.intro @lef40 @les40) (And.intro @len40 (And.intro @ldf_40 @lds_40))) (And.intro (And.intro @ldc_40 @ldn_40) (And.intro @ixs40 (And.intro @ixf40 @ldp9)))) (And.intro (And.intro (And.intro @ldf9 @fap71_1) (And.intro @faf71_1 (And.intro @ldp69 @ldf69))) (And.intro (And.intro @mm69 @stp69) (And.intro @lk69 (And.intro @bd71 @mu69))))) (And.intro (And.intro (And.intro (And.intro @fap71_0 @faf71_0) (And.intro @ldp68 (And.intro @ldf68 @stp68))) (And.intro (And.intro @al23 @al4) (And.intro @stp4 (And.intro @al87 @stp87)))) (And.intro (And.intro (And.intro @ldp87 @ldf87) (And.intro @ldp4 (And.intro @ldf4 @ldp23))) (And.intro (And.intro @ldf23 @lef23) (And.intro @les23 (And.intro @len23 @ldf_23))))))
def TY1:=(And.intro (And.intro (And.intro (And.intro (And.intro @lds_23 @ldc_23) (And.intro @ldn_23 (And.intro @bd39 @bs23))) (And.intro (And.intro @aps23_23 @apn23_23) (And.intro @apc23_23 (And.intro @stp23 @sls23)))) (And.intro (And.intro (And.intro @slf23 @sln23) (And.intro @slc23 (And.intro @lef44 @les44))) (And.intro (And.intro @len44 @ldf_44) (And.intro @lds_44 (And.intro @ldc_44 @ldn_44))))) (And.intro (And.intro (And.intro (And.intro @ixs44 @ixf44) (And.intro @ldp43 (And.intro @ldf43 @al43))) (And.intro (And.intro @stp43 @fap43_0) (And.intro @faf43_0 (And.intro @ldp40 @ldf40)))) (And.intro (And.intro (And.intro @fap43_1 @faf43_1) (And.intro @ldp3 (And.intro @ldf3 @lst9))) (And.intro (And.intro @ldt_9 @al68) (And.intro @fap68_0 (And.intro @faf68_0 @fap68_1))))))
def TY2:=(And.intro (And.intro (And.intro (And.intro @faf68_1 @bd68) (And.intro @nils40 @nilc40)) (And.intro (And.intro @niln40 @nilf40) (And.intro @bs40 @aps40_40))) (And.intro (And.intro (And.intro @apn40_40 @apc40_40) (And.intro @stp9 @bd43)) (And.intro (And.intro @ldp55 @ldf55) (And.intro @ixs55 @ixf55))))
def TY:=(And.intro TY0 (And.intro TY1 TY2))
def mixed:Tryz.prog.follows .mixedOrders = true:=by kernel_rfl
end Go.Proofs.YtbhcfbnkdbioaaaGreat.AbT
namespace Go.Fl
open Go Go.T Go.Ab Go.Proofs
def zCm:Tryz.prog.follows .mixedOrders = true:=by kernel_rfl
end Go.Fl
set_option maxRecDepth 100000
namespace Go.Fl
open Go Go.T Go.Ab Go.Proofs
variable [Go.Ab.DM]
def F8 (x:((List (Int × (ByteArray × Int))) × (List (Int × (ByteArray × Int))))):(Option Bool) :=
sel (ine (n2i (zAE x.1)) (n2i (zAE x.2))) (some false) <|
join (zBh (fun (s0:Int) =>
sel (ilt s0 (n2i (zAE x.1))) (need (inL s0 (zAE x.1)) <|
need (inL s0 (zAE x.2)) <|
sel (zCr (band (ieq ((zAH (0,(⟨#[]⟩:ByteArray),0) x.1 (i2n s0)).1) ((zAH (0,(⟨#[]⟩:ByteArray),0) x.2 (i2n s0)).1)) (band (seq (((zAH (0,(⟨#[]⟩:ByteArray),0) x.1 (i2n s0)).2).1) (((zAH (0,(⟨#[]⟩:ByteArray),0) x.2 (i2n s0)).2).1)) (band (ieq (((zAH (0,(⟨#[]⟩:ByteArray),0) x.1 (i2n s0)).2).2) (((zAH (0,(⟨#[]⟩:ByteArray),0) x.2 (i2n s0)).2).2)) true)))) (some (.inr (.inr false))) <|
some (.inl (zBA .i64 s0 1))) <|
some (.inr (.inl ()))) 0) fun (j1:PUnit) =>
some true
def c8:Con:=⟨8,[.sl (.agg (.pr (.int .i64) (.pr .str (.int .i64)))),.sl (.agg (.pr (.int .i64) (.pr .str (.int .i64))))],[],.bool,[],F8,none⟩
def ok8:zAl Tryz.prog c8:=zBM zCm [] (zBN) c8 Tryz.f8 (.n .o (.n .o (.n (.n .o (.jb ⟨[],[],[],0,0⟩ (.l ⟨[0,1],[(5,.int .i64)],[],0,1⟩ (.n .o (.n (.b (.n (.r [0,1,2,3,4,5,6,7,8]) .o)) .o))))) .o))) Tryz.func8
def F18 (x:((List ByteArray) × (List ByteArray))):(Option Bool) :=
sel (ine (n2i (zAE x.1)) (n2i (zAE x.2))) (some false) <|
join (zBh (fun (s0:Int) =>
sel (ilt s0 (n2i (zAE x.1))) (need (inL s0 (zAE x.1)) <|
need (inL s0 (zAE x.2)) <|
sel (zCr (seq (zAH (⟨#[]⟩:ByteArray) x.1 (i2n s0)) (zAH (⟨#[]⟩:ByteArray) x.2 (i2n s0)))) (some (.inr (.inr false))) <|
some (.inl (zBA .i64 s0 1))) <|
some (.inr (.inl ()))) 0) fun (j1:PUnit) =>
some true
def c18:Con:=⟨18,[.sl .str,.sl .str],[],.bool,[],F18,none⟩
def ok18:zAl Tryz.prog c18:=zBM zCm [] (zBN) c18 Tryz.f18 (.n .o (.n .o (.n (.n .o (.jb ⟨[],[],[],0,0⟩ (.l ⟨[0,1,12],[(13,.int .i64)],[],0,1⟩ (.n .o (.n .o (.n (.b (.n .o (.n (.r [0,1,2,3,4,5,6,7,8]) .o))) .o)))))) .o))) Tryz.func18
def F4 (x:(List (Int × (ByteArray × Int)))):(Option Bool) :=
join (zBh (fun (s0:Int) =>
sel (ilt s0 (n2i (zAE x))) (need (inL s0 (zAE x)) <|
sel (ilt 61 (n2i (ssize (((zAH (0,(⟨#[]⟩:ByteArray),0) x (i2n s0)).2).1)))) (some (.inr (.inr true))) <|
some (.inl (zBA .i64 s0 1))) <|
some (.inr (.inl ()))) 0) fun (j1:PUnit) =>
some (ilt 70 (n2i (zAE x)))
def c4:Con:=⟨4,[.sl (.agg (.pr (.int .i64) (.pr .str (.int .i64))))],[],.bool,[],F4,none⟩
def ok4:zAl Tryz.prog c4:=zBM zCm [] (zBN) c4 Tryz.f4 (.n .o (.n (.n .o (.jb ⟨[0],[],[],0,0⟩ (.l ⟨[0],[(3,.int .i64)],[],0,1⟩ .o))) .o)) Tryz.func4
def F13 (x:((List (ByteArray × (Int × Int))) × (List (ByteArray × (Int × Int))))):(Option Bool) :=
sel (ine (n2i (zAE x.1)) (n2i (zAE x.2))) (some false) <|
join (zBh (fun (s0:Int) =>
sel (ilt s0 (n2i (zAE x.1))) (need (inL s0 (zAE x.1)) <|
need (inL s0 (zAE x.2)) <|
sel (zCr (band (seq ((zAH ((⟨#[]⟩:ByteArray),0,0) x.1 (i2n s0)).1) ((zAH ((⟨#[]⟩:ByteArray),0,0) x.2 (i2n s0)).1)) (band (ieq (((zAH ((⟨#[]⟩:ByteArray),0,0) x.1 (i2n s0)).2).1) (((zAH ((⟨#[]⟩:ByteArray),0,0) x.2 (i2n s0)).2).1)) (band (ieq (((zAH ((⟨#[]⟩:ByteArray),0,0) x.1 (i2n s0)).2).2) (((zAH ((⟨#[]⟩:ByteArray),0,0) x.2 (i2n s0)).2).2)) true)))) (some (.inr (.inr false))) <|
some (.inl (zBA .i64 s0 1))) <|
some (.inr (.inl ()))) 0) fun (j1:PUnit) =>
some true
def c13:Con:=⟨13,[.sl (.agg (.pr .str (.pr (.int .i64) (.int .i64)))),.sl (.agg (.pr .str (.pr (.int .i64) (.int .i64))))],[],.bool,[],F13,none⟩
def ok13:zAl Tryz.prog c13:=zBM zCm [] (zBN) c13 Tryz.f13 (.n .o (.n .o (.n (.n .o (.jb ⟨[],[],[],0,0⟩ (.l ⟨[0,1,12],[(13,.int .i64)],[],0,1⟩ (.n .o (.n .o (.n (.b (.n .o (.n (.r [0,1,2,3,4,5,6,7,8]) .o))) .o)))))) .o))) Tryz.func13
def F52 (x:ByteArray):(Option Bool) :=
some (zAL (ile 1 (n2i (ssize x))) (ile (n2i (ssize x)) 60) false)
def c52:Con:=⟨52,[.str],[],.bool,[],F52,none⟩
def ok52:zAl Tryz.prog c52:=zBM zCm [] (zBN) c52 Tryz.f52 (.o) Tryz.func52
def F53 (x:Int):(Option Bool) :=
some (zAL (ile (-1099511627776) x) (ile x 1099511627776) false)
def c53:Con:=⟨53,[.int .i64],[],.bool,[],F53,none⟩
def ok53:zAl Tryz.prog c53:=zBM zCm [] (zBN) c53 Tryz.f53 (.o) Tryz.func53
def F39 (x:(List Int)):(Option Int) :=
join (zBh (fun (s0:Int) =>
sel (ilt s0 (n2i (zAE x))) (need (inL s0 (zAE x)) <|
sel (ine (zAH 0 x (i2n s0)) 0) (some (.inr (.inr (zAH 0 x (i2n s0))))) <|
some (.inl (zBA .i64 s0 1))) <|
some (.inr (.inl ()))) 0) fun (j1:PUnit) =>
some 0
def c39:Con:=⟨39,[.sl (.int .i64)],[],.int .i64,[],F39,none⟩
def ok39:zAl Tryz.prog c39:=zBM zCm [] (zBN) c39 Tryz.f39 (.n .o (.n .o (.n (.n .o (.jb ⟨[3],[],[],0,0⟩ (.l ⟨[3,6,7],[(8,.int .i64)],[],0,1⟩ .o))) .o))) Tryz.func39
def F47 (x:((List ByteArray) × ByteArray)):(Option Int) :=
join (zBh (fun (s0:Int) =>
sel (ilt s0 (n2i (zAE x.1))) (need (inL s0 (zAE x.1)) <|
sel (seq x.2 (zAH (⟨#[]⟩:ByteArray) x.1 (i2n s0))) (some (.inr (.inr s0))) <|
some (.inl (zBA .i64 s0 1))) <|
some (.inr (.inl ()))) 0) fun (j1:PUnit) =>
some (-1)
def c47:Con:=⟨47,[.sl .str,.str],[],.int .i64,[],F47,none⟩
def ok47:zAl Tryz.prog c47:=zBM zCm [] (zBN) c47 Tryz.f47 (.n .o (.n (.n .o (.jb ⟨[],[],[],0,0⟩ (.l ⟨[0,1,7],[(8,.int .i64)],[],0,1⟩ .o))) .o)) Tryz.func47
def F56 (x:Int):(Option Bool) :=
some (ine x x)
def c56:Con:=⟨56,[.int .i64],[],.bool,[],F56,none⟩
def ok56:zAl Tryz.prog c56:=zBM zCm [] (zBN) c56 Tryz.f56 (.o) Tryz.func56
def F57 (x:ByteArray):(Option Bool) :=
some (zCr (seq x x))
def c57:Con:=⟨57,[.str],[],.bool,[],F57,none⟩
def ok57:zAl Tryz.prog c57:=zBM zCm [] (zBN) c57 Tryz.f57 (.o) Tryz.func57
def F67 (x:ByteArray):(Option Bool) :=
some (zAL (ile 1 (n2i (ssize x))) (ile (n2i (ssize x)) 60) false)
def c67:Con:=⟨67,[.str],[],.bool,[],F67,none⟩
def ok67:zAl Tryz.prog c67:=zBM zCm [] (zBN) c67 Tryz.f67 (.o) Tryz.func67
def F68 (x:Int):(Option Bool) :=
some (zAL (ile (-1099511627776) x) (ile x 1099511627776) false)
def c68:Con:=⟨68,[.int .i64],[],.bool,[],F68,none⟩
def ok68:zAl Tryz.prog c68:=zBM zCm [] (zBN) c68 Tryz.f68 (.o) Tryz.func68
def F69 (x:((List (Int × (ByteArray × Int))) × (Int × Int))):(Option Bool) :=
join (zBh (fun (s0:Int) =>
sel (ilt x.2.1 s0) (need (inL s0 (zAE x.1)) <|
some (.inl ((zAH (0,(⟨#[]⟩:ByteArray),0) x.1 (i2n s0)).1))) <|
some (.inr (.inl s0))) x.2.2) fun (j1:Int) =>
some (ieq j1 x.2.1)
def c69:Con:=⟨69,[.sl (.agg (.pr (.int .i64) (.pr .str (.int .i64)))),.int .i64,.int .i64],[],.bool,[],F69,none⟩
def ok69:zAl Tryz.prog c69:=zBM zCm [] (zBN) c69 Tryz.f69 (.n .o (.n (.jb ⟨[1],[(2,.int .i64)],[],0,0⟩ (.l ⟨[0,1],[(2,.int .i64)],[],0,1⟩ .o)) .o)) Tryz.func69
def F70 (x:((List (Int × (ByteArray × Int))) × Int)):(Option Int) :=
join (zBh (fun (s0:Int) =>
need (inL x.2 (zAE x.1)) <|
sel (ilt ((zAH (0,(⟨#[]⟩:ByteArray),0) x.1 (i2n x.2)).1) s0) (need (inL s0 (zAE x.1)) <|
need (inL x.2 (zAE x.1)) <|
sel (ieq ((zAH (0,(⟨#[]⟩:ByteArray),0) x.1 (i2n s0)).1) ((zAH (0,(⟨#[]⟩:ByteArray),0) x.1 (i2n x.2)).1)) (some (.inr (.inr s0))) <|
some (.inl (zCX .i64 s0 1))) <|
some (.inr (.inl ()))) (zCX .i64 x.2 1)) fun (j1:PUnit) =>
some (-1)
def c70:Con:=⟨70,[.sl (.agg (.pr (.int .i64) (.pr .str (.int .i64)))),.int .i64],[],.int .i64,[],F70,none⟩
def ok70:zAl Tryz.prog c70:=zBM zCm [] (zBN) c70 Tryz.f70 (.n .o (.n (.n .o (.jb ⟨[],[],[],0,0⟩ (.l ⟨[0,1],[(5,.int .i64)],[],0,1⟩ (.n .o (.n (.b (.n (.r [0,1,2,3,4,5,6,7,8,9,10]) .o)) .o))))) .o)) Tryz.func70
def F71 (x:((List (Int × (ByteArray × Int))) × Int)):(Option Int) :=
join (zBh (fun (s0:(Int × Int)) =>
need (inL s0.1 (zAE x.1)) <|
sel (ile 0 ((zAH (0,(⟨#[]⟩:ByteArray),0) x.1 (i2n s0.1)).1)) (need (inL s0.1 (zAE x.1)) <|
some (.inl ((zAH (0,(⟨#[]⟩:ByteArray),0) x.1 (i2n s0.1)).1,zBA .i64 s0.2 1))) <|
some (.inr (.inl s0.2))) (x.2,0)) fun (j1:Int) =>
some j1
def c71:Con:=⟨71,[.sl (.agg (.pr (.int .i64) (.pr .str (.int .i64)))),.int .i64],[],.int .i64,[],F71,none⟩
def ok71:zAl Tryz.prog c71:=zBM zCm [] (zBN) c71 Tryz.f71 (.n .o (.n .o (.n (.jb ⟨[],[(5,.int .i64)],[],0,0⟩ (.l ⟨[0],[(1,.int .i64),(5,.int .i64)],[],0,1⟩ .o)) .o))) Tryz.func71
def F62 (x:((Int × Int) × Int)):(Option (Int × Int)) :=
need (ine 1048576 0) <|
need (ine 1048576 0) <|
some (zBA .i64 x.1.1 (iquo .i64 x.2 1048576),zBA .i64 x.1.2 (irem x.2 1048576))
def c62:Con:=⟨62,[.agg (.pr (.int .i64) (.int .i64)),.int .i64],[],.agg (.pr (.int .i64) (.int .i64)),[],F62,none⟩
def ok62:zAl Tryz.prog c62:=zBM zCm [] (zBN) c62 Tryz.f62 (.o) Tryz.func62
def F30 (x:(List (Int × (ByteArray × Int)))):(Option Int) :=
sel (ilt 2000 (n2i (zAE x))) (some 4) <|
join (zBh (fun (s0:(Int × (List Int))) =>
sel (ilt s0.1 (n2i (zAE x))) (join (need (inL s0.1 (zAE x)) <|
call (F52 (((zAH (0,(⟨#[]⟩:ByteArray),0) x (i2n s0.1)).2).1)) fun (r1:Bool) =>
sel (zCr r1) (some (.inr (.inr (.inr 5)))) <|
call (F53 (((zAH (0,(⟨#[]⟩:ByteArray),0) x (i2n s0.1)).2).2)) fun (r2:Bool) =>
sel (zCr r2) (some (.inr (.inr (.inr 2)))) <|
join (zBh (fun (s3:((Nat × Nat) × Int)) =>
need (impl (ilt 0 (n2i s3.1.2)) (inL (zCX .i64 (n2i s3.1.2) 1) s3.1.2)) <|
sel (zAL (ilt 0 (n2i s3.1.2)) (ine (zAH 0 s0.2 (zBl s3.1.1 (i2n (zCX .i64 (n2i s3.1.2) 1)))) ((zAH (0,(⟨#[]⟩:ByteArray),0) x (i2n s0.1)).1)) false) (need (inL (zCX .i64 (n2i s3.1.2) 1) s3.1.2) <|
need (inS 0 (zCX .i64 (n2i s3.1.2) 1) s3.1.2) <|
some (.inl ((zBl s3.1.1 (i2n 0),nsub (i2n (zCX .i64 (n2i s3.1.2) 1)) (i2n 0)),zAH 0 s0.2 (zBl s3.1.1 (i2n (zCX .i64 (n2i s3.1.2) 1)))))) <|
some (.inr (.inl (s3.1,s3.2)))) ((0,zAE s0.2),(-1))) fun (j4:((Nat × Nat) × Int)) =>
sel (zAL (ieq (n2i j4.1.2) 0) (ine ((zAH (0,(⟨#[]⟩:ByteArray),0) x (i2n s0.1)).1) (-1)) false) (some (.inr (.inr (.inr 9)))) <|
need (impl (ile 0 j4.2) (inL j4.2 (zAE x))) <|
sel (zAL (ile 0 j4.2) (sle (((zAH (0,(⟨#[]⟩:ByteArray),0) x (i2n s0.1)).2).1) (((zAH (0,(⟨#[]⟩:ByteArray),0) x (i2n j4.2)).2).1)) false) (some (.inr (.inr (.inr 9)))) <|
sel (ilt 63 (n2i j4.1.2)) (some (.inr (.inr (.inr 30)))) <|
need (impl (band (ieq (((zAH (0,(⟨#[]⟩:ByteArray),0) x (i2n s0.1)).2).2) 0) (zCr (ieq (zBA .i64 s0.1 1) (n2i (zAE x))))) (inL (zBA .i64 s0.1 1) (zAE x))) <|
sel (zAL (ieq (((zAH (0,(⟨#[]⟩:ByteArray),0) x (i2n s0.1)).2).2) 0) (zAL (ieq (zBA .i64 s0.1 1) (n2i (zAE x))) true (ine ((zAH (0,(⟨#[]⟩:ByteArray),0) x (i2n (zBA .i64 s0.1 1))).1) s0.1)) false) (some (.inr (.inr (.inr 1)))) <|
need (room (zBl (zAE (zCI s0.2 j4.1.1 j4.1.2)) (zAE (s0.1 :: ([]:List Int)))) 8) <|
need (nlt 0 (zAE (s0.1 :: ([]:List Int)))) <|
some (.inl (zBg (zCI s0.2 j4.1.1 j4.1.2) (s0.1 :: ([]:List Int))))) fun (j5:(List Int)) =>
some (.inl (zBA .i64 s0.1 1,j5))) <|
some (.inr (.inl ()))) (0,([]:List Int))) fun (j6:PUnit) =>
some 0
def c30:Con:=⟨30,[.sl (.agg (.pr (.int .i64) (.pr .str (.int .i64))))],[],.int .i64,[],F30,none⟩
def ok30:zAl Tryz.prog c30:=zBM zCm [c52,c53] (zAO ok52 (zAO ok53 (zBN))) c30 Tryz.f30 (.n .o (.n .o (.n .o (.n (.n .o (.jb ⟨[],[],[],0,0⟩ (.l ⟨[0,10,11],[(3,.own 0),(12,.int .i64)],[(0,.lst (.int .i64))],1,1⟩ (.n .o (.n .o (.n (.jb ⟨[0,10,11,12],[(3,.own 0)],[(0,.lst (.int .i64))],1,2⟩ (.n .o (.n .o (.n .o (.n .o (.n (.jb ⟨[0,4,5,10,11,12],[(3,.sub 0),(6,.int .i64)],[],2,3⟩ (.l ⟨[0,4,5,10,11,12],[(3,.sub 0),(6,.int .i64)],[],2,4⟩ (.n (.n (.r [0,1,2,3,4,5,6,7,8,9,10,11,12,13]) .o) .o))) (.n .o (.n (.n (.r [0,1,2,3,4,5,6,7,8,9,10,11]) .o) .o)))))))) .o)))))) .o)))) Tryz.func30
def F21 (x:((List ByteArray) × ByteArray)):(Option Bool) :=
call (F47 (x.1,x.2)) fun (r0:Int) =>
some (ile 0 r0)
def c21:Con:=⟨21,[.sl .str,.str],[],.bool,[],F21,none⟩
def ok21:zAl Tryz.prog c21:=zBM zCm [c47] (zAO ok47 (zBN)) c21 Tryz.f21 (.o) Tryz.func21
def F40 (x:(Int × Int)):(Option Int) :=
call (F56 x.1) fun (r0:Bool) =>
call (F56 x.2) fun (r1:Bool) =>
sel r0 (sel r1 (some 0) <|
some (-1)) <|
sel r1 (some 1) <|
sel (ilt x.1 x.2) (some (-1)) <|
sel (ilt x.2 x.1) (some 1) <|
some 0
def c40:Con:=⟨40,[.int .i64,.int .i64],[],.int .i64,[],F40,none⟩
def ok40:zAl Tryz.prog c40:=zBM zCm [c56] (zAO ok56 (zBN)) c40 Tryz.f40 (.o) Tryz.func40
def F41 (x:(ByteArray × ByteArray)):(Option Int) :=
call (F57 x.1) fun (r0:Bool) =>
call (F57 x.2) fun (r1:Bool) =>
sel r0 (sel r1 (some 0) <|
some (-1)) <|
sel r1 (some 1) <|
sel (slt x.1 x.2) (some (-1)) <|
sel (zCr (sle x.1 x.2)) (some 1) <|
some 0
def c41:Con:=⟨41,[.str,.str],[],.int .i64,[],F41,none⟩
def ok41:zAl Tryz.prog c41:=zBM zCm [c57] (zAO ok57 (zBN)) c41 Tryz.f41 (.o) Tryz.func41
def F48 (x:((List (Int × (ByteArray × Int))) × Int)):(Option Int) :=
need (inL x.2 (zAE x.1)) <|
call (F67 (((zAH (0,(⟨#[]⟩:ByteArray),0) x.1 (i2n x.2)).2).1)) fun (r0:Bool) =>
sel (zCr r0) (some 5) <|
call (F68 (((zAH (0,(⟨#[]⟩:ByteArray),0) x.1 (i2n x.2)).2).2)) fun (r1:Bool) =>
sel (zCr r1) (some 2) <|
call (sel (zCr (zAL (ilt ((zAH (0,(⟨#[]⟩:ByteArray),0) x.1 (i2n x.2)).1) (-1)) true (ile x.2 ((zAH (0,(⟨#[]⟩:ByteArray),0) x.1 (i2n x.2)).1)))) (F69 (x.1,(zAH (0,(⟨#[]⟩:ByteArray),0) x.1 (i2n x.2)).1,zCX .i64 x.2 1)) <|
some false) fun (r2:Bool) =>
sel (zAL (zAL (ilt ((zAH (0,(⟨#[]⟩:ByteArray),0) x.1 (i2n x.2)).1) (-1)) true (ile x.2 ((zAH (0,(⟨#[]⟩:ByteArray),0) x.1 (i2n x.2)).1))) true (zCr r2)) (some 9) <|
call (F70 (x.1,x.2)) fun (r3:Int) =>
need (impl (ile 0 r3) (inL r3 (zAE x.1))) <|
sel (zAL (ile 0 r3) (zCr (slt (((zAH (0,(⟨#[]⟩:ByteArray),0) x.1 (i2n r3)).2).1) (((zAH (0,(⟨#[]⟩:ByteArray),0) x.1 (i2n x.2)).2).1))) false) (some 9) <|
call (F71 (x.1,x.2)) fun (r4:Int) =>
sel (ilt 63 r4) (some 30) <|
need (impl (band (ieq (((zAH (0,(⟨#[]⟩:ByteArray),0) x.1 (i2n x.2)).2).2) 0) (zCr (ieq (zBA .i64 x.2 1) (n2i (zAE x.1))))) (inL (zBA .i64 x.2 1) (zAE x.1))) <|
sel (zAL (ieq (((zAH (0,(⟨#[]⟩:ByteArray),0) x.1 (i2n x.2)).2).2) 0) (zAL (ieq (zBA .i64 x.2 1) (n2i (zAE x.1))) true (ine ((zAH (0,(⟨#[]⟩:ByteArray),0) x.1 (i2n (zBA .i64 x.2 1))).1) x.2)) false) (some 1) <|
some 0
def c48:Con:=⟨48,[.sl (.agg (.pr (.int .i64) (.pr .str (.int .i64)))),.int .i64],[],.int .i64,[],F48,none⟩
def ok48:zAl Tryz.prog c48:=zBM zCm [c67,c68,c69,c70,c71] (zAO ok67 (zAO ok68 (zAO ok69 (zAO ok70 (zAO ok71 (zBN)))))) c48 Tryz.f48 (.n .o (.n .o (.n .o (.n .o (.n .o (.n (.n .o (.n (.r [0,1,2,3,4,5,6,7,8,9,10,11]) .o)) .o)))))) Tryz.func48
def F61 (x:ByteArray):(Option Bool) :=
call (F52 x) fun (r0:Bool) =>
some (zCr r0)
def c61:Con:=⟨61,[.str],[],.bool,[],F61,none⟩
def ok61:zAl Tryz.prog c61:=zBM zCm [c52] (zAO ok52 (zBN)) c61 Tryz.f61 (.o) Tryz.func61
def F66 (x:(Int × Int)):(Option (Int × Bool)) :=
need (ine 1048576 0) <|
sel (zAL (ilt (zBA .i64 x.1 (iquo .i64 x.2 1048576)) (-1048577)) true (ilt 1048577 (zBA .i64 x.1 (iquo .i64 x.2 1048576)))) (some (0,false)) <|
need (ine 1048576 0) <|
call (F53 (zBA .i64 (imul .i64 (zBA .i64 x.1 (iquo .i64 x.2 1048576)) 1048576) (irem x.2 1048576))) fun (r0:Bool) =>
some (zBA .i64 (imul .i64 (zBA .i64 x.1 (iquo .i64 x.2 1048576)) 1048576) (irem x.2 1048576),r0)
def c66:Con:=⟨66,[.agg (.pr (.int .i64) (.int .i64))],[],.tup (.pr (.int .i64) .bool),[],F66,none⟩
def ok66:zAl Tryz.prog c66:=zBM zCm [c53] (zAO ok53 (zBN)) c66 Tryz.f66 (.o) Tryz.func66
def F36 (x:((List (Int × (ByteArray × Int))) × ByteArray)):(Option Int) :=
call (F30 x.1) fun (r0:Int) =>
sel (ine r0 0) (some 0) <|
need (mk (n2i (zAE x.1)) (n2i (zAE x.1)) 1) <|
join (zBh (fun (s1:(Int × (Int × (List Bool)))) =>
sel (ilt s1.2.1 (n2i (zAE x.1))) (join (need (inL s1.2.1 (zAE x.1)) <|
need (impl (band (zCr (seq (((zAH (0,(⟨#[]⟩:ByteArray),0) x.1 (i2n s1.2.1)).2).1) x.2)) (ile 0 ((zAH (0,(⟨#[]⟩:ByteArray),0) x.1 (i2n s1.2.1)).1))) (inL ((zAH (0,(⟨#[]⟩:ByteArray),0) x.1 (i2n s1.2.1)).1) (zAE s1.2.2))) <|
need (inL s1.2.1 (zAE s1.2.2)) <|
need (inL s1.2.1 (zAE (lset s1.2.2 (i2n s1.2.1) (zAL (seq (((zAH (0,(⟨#[]⟩:ByteArray),0) x.1 (i2n s1.2.1)).2).1) x.2) true (zAL (ile 0 ((zAH (0,(⟨#[]⟩:ByteArray),0) x.1 (i2n s1.2.1)).1)) (zAH false s1.2.2 (i2n ((zAH (0,(⟨#[]⟩:ByteArray),0) x.1 (i2n s1.2.1)).1))) false))))) <|
sel (zAH false (lset s1.2.2 (i2n s1.2.1) (zAL (seq (((zAH (0,(⟨#[]⟩:ByteArray),0) x.1 (i2n s1.2.1)).2).1) x.2) true (zAL (ile 0 ((zAH (0,(⟨#[]⟩:ByteArray),0) x.1 (i2n s1.2.1)).1)) (zAH false s1.2.2 (i2n ((zAH (0,(⟨#[]⟩:ByteArray),0) x.1 (i2n s1.2.1)).1))) false))) (i2n s1.2.1)) (some (.inl (zBA .i64 s1.1 (((zAH (0,(⟨#[]⟩:ByteArray),0) x.1 (i2n s1.2.1)).2).2),lset s1.2.2 (i2n s1.2.1) (zAL (seq (((zAH (0,(⟨#[]⟩:ByteArray),0) x.1 (i2n s1.2.1)).2).1) x.2) true (zAL (ile 0 ((zAH (0,(⟨#[]⟩:ByteArray),0) x.1 (i2n s1.2.1)).1)) (zAH false s1.2.2 (i2n ((zAH (0,(⟨#[]⟩:ByteArray),0) x.1 (i2n s1.2.1)).1))) false))))) <|
some (.inl (s1.1,lset s1.2.2 (i2n s1.2.1) (zAL (seq (((zAH (0,(⟨#[]⟩:ByteArray),0) x.1 (i2n s1.2.1)).2).1) x.2) true (zAL (ile 0 ((zAH (0,(⟨#[]⟩:ByteArray),0) x.1 (i2n s1.2.1)).1)) (zAH false s1.2.2 (i2n ((zAH (0,(⟨#[]⟩:ByteArray),0) x.1 (i2n s1.2.1)).1))) false))))) fun (j2:(Int × (List Bool))) =>
some (.inl (j2.1,zBA .i64 s1.2.1 1,j2.2))) <|
some (.inr (.inl s1.1))) (0,0,lrep (n2i (zAE x.1)) false)) fun (j3:Int) =>
some j3
def c36:Con:=⟨36,[.sl (.agg (.pr (.int .i64) (.pr .str (.int .i64)))),.str],[],.int .i64,[],F36,none⟩
def ok36:zAl Tryz.prog c36:=zBM zCm [c30] (zAO ok30 (zBN)) c36 Tryz.f36 (.n .o (.n .o (.n .o (.n .o (.n (.n .o (.jb ⟨[],[(5,.int .i64)],[],0,0⟩ (.l ⟨[1,6,15,16],[(5,.int .i64),(17,.int .i64)],[(0,.many .bool)],1,1⟩ (.n .o (.n .o (.n (.jb ⟨[1,6,15,16,17],[(5,.int .i64)],[(0,.many .bool)],1,2⟩ .o) .o)))))) .o))))) Tryz.func36
def F17 (x:(List (Int × (ByteArray × Int)))):(Option (List ((List ByteArray) × Int))) :=
call (F30 x) fun (r0:Int) =>
sel (ine r0 0) (some ([]:List ((List ByteArray) × Int))) <|
join (zBh (fun (s1:(Int × ((List ((List ByteArray) × Int)) × ((List ByteArray) × (List Int))))) =>
sel (ilt s1.1 (n2i (zAE x))) (join (need (inL s1.1 (zAE x)) <|
join (sel (ile 0 ((zAH (0,(⟨#[]⟩:ByteArray),0) x (i2n s1.1)).1)) (need (inL ((zAH (0,(⟨#[]⟩:ByteArray),0) x (i2n s1.1)).1) (zAE s1.2.2.2)) <|
some (.inl (zBA .i64 (zAH 0 s1.2.2.2 (i2n ((zAH (0,(⟨#[]⟩:ByteArray),0) x (i2n s1.1)).1))) 1))) <|
some (.inl 0)) fun (j2:Int) =>
need (room (zBl (zAE s1.2.2.2) (zAE (j2 :: ([]:List Int)))) 8) <|
need (inS 0 j2 (zAE s1.2.2.1)) <|
need (room (zBl (zAE (zCI s1.2.2.1 (i2n 0) (nsub (i2n j2) (i2n 0)))) (zAE (((zAH (0,(⟨#[]⟩:ByteArray),0) x (i2n s1.1)).2).1 :: ([]:List ByteArray)))) 16) <|
need (nlt 0 (zAE (((zAH (0,(⟨#[]⟩:ByteArray),0) x (i2n s1.1)).2).1 :: ([]:List ByteArray)))) <|
sel (ine (((zAH (0,(⟨#[]⟩:ByteArray),0) x (i2n s1.1)).2).2) 0) (need (room (zAE (zBg (zCI s1.2.2.1 (i2n 0) (nsub (i2n j2) (i2n 0))) (((zAH (0,(⟨#[]⟩:ByteArray),0) x (i2n s1.1)).2).1 :: ([]:List ByteArray)))) 16) <|
need (room (zBl (zAE s1.2.1) (zAE ((zBg (zCI s1.2.2.1 (i2n 0) (nsub (i2n j2) (i2n 0))) (((zAH (0,(⟨#[]⟩:ByteArray),0) x (i2n s1.1)).2).1 :: ([]:List ByteArray)),((zAH (0,(⟨#[]⟩:ByteArray),0) x (i2n s1.1)).2).2) :: ([]:List ((List ByteArray) × Int))))) 32) <|
some (.inl (zBg s1.2.1 ((zBg (zCI s1.2.2.1 (i2n 0) (nsub (i2n j2) (i2n 0))) (((zAH (0,(⟨#[]⟩:ByteArray),0) x (i2n s1.1)).2).1 :: ([]:List ByteArray)),((zAH (0,(⟨#[]⟩:ByteArray),0) x (i2n s1.1)).2).2) :: ([]:List ((List ByteArray) × Int))),zBg (zCI s1.2.2.1 (i2n 0) (nsub (i2n j2) (i2n 0))) (((zAH (0,(⟨#[]⟩:ByteArray),0) x (i2n s1.1)).2).1 :: ([]:List ByteArray)),zBg s1.2.2.2 (j2 :: ([]:List Int))))) <|
some (.inl (s1.2.1,zBg (zCI s1.2.2.1 (i2n 0) (nsub (i2n j2) (i2n 0))) (((zAH (0,(⟨#[]⟩:ByteArray),0) x (i2n s1.1)).2).1 :: ([]:List ByteArray)),zBg s1.2.2.2 (j2 :: ([]:List Int))))) fun (j3:((List ((List ByteArray) × Int)) × ((List ByteArray) × (List Int)))) =>
some (.inl (zBA .i64 s1.1 1,j3.1,j3.2.1,j3.2.2))) <|
some (.inr (.inl s1.2.1))) (0,([]:List ((List ByteArray) × Int)),([]:List ByteArray),([]:List Int))) fun (j4:(List ((List ByteArray) × Int))) =>
some j4
def c17:Con:=⟨17,[.sl (.agg (.pr (.int .i64) (.pr .str (.int .i64))))],[],.sl (.agg (.pr (.sl .str) (.int .i64))),[],F17,none⟩
def ok17:zAl Tryz.prog c17:=zBM zCm [c30] (zAO ok30 (zBN)) c17 Tryz.f17 (.n .o (.n .o (.n .o (.n .o (.n .o (.n (.n .o (.jb ⟨[],[(3,.own 0)],[(0,.lst (.agg (.pr (.sl .str) (.int .i64))))],1,0⟩ (.l ⟨[13,14],[(3,.own 0),(4,.own 1),(5,.own 2),(15,.int .i64)],[(0,.lst (.agg (.pr (.sl .str) (.int .i64)))),(1,.lst .str),(2,.lst (.int .i64))],3,1⟩ (.n .o (.n .o (.n (.jb ⟨[13,14,15],[(3,.own 0),(4,.own 1),(5,.own 2)],[(0,.lst (.agg (.pr (.sl .str) (.int .i64)))),(1,.lst .str),(2,.lst (.int .i64))],3,2⟩ (.n .o (.n .o (.j ⟨[3,4,5,7,13,14,15],[(8,.int .i64)],[],4,3⟩ .o (.n .o (.n (.r [0,1,2,3,4,5,6,7]) .o)))))) .o)))))) .o)))))) Tryz.func17
def F22 (x:(List (Int × (ByteArray × Int)))):(Option Int) :=
sel (ilt 2000 (n2i (zAE x))) (some 4) <|
join (zBh (fun (s0:Int) =>
sel (ilt s0 (n2i (zAE x))) (call (F48 (x,s0)) fun (r1:Int) =>
sel (ine r1 0) (some (.inr (.inr r1))) <|
some (.inl (zBA .i64 s0 1))) <|
some (.inr (.inl ()))) 0) fun (j2:PUnit) =>
some 0
def c22:Con:=⟨22,[.sl (.agg (.pr (.int .i64) (.pr .str (.int .i64))))],[],.int .i64,[],F22,none⟩
def ok22:zAl Tryz.prog c22:=zBM zCm [c48] (zAO ok48 (zBN)) c22 Tryz.f22 (.n .o (.n .o (.n (.n .o (.jb ⟨[],[],[],0,0⟩ (.l ⟨[0],[(3,.int .i64)],[],0,1⟩ .o))) .o))) Tryz.func22
def F31 (x:(List (Int × (ByteArray × Int)))):(Option (List Int)) :=
call (F30 x) fun (r0:Int) =>
sel (ine r0 0) (some ([]:List Int)) <|
need (mk (n2i (zAE x)) (n2i (zAE x)) 8) <|
join (zBh (fun (s1:(Int × (List Int))) =>
sel (ile 0 s1.1) (join (need (inL s1.1 (zAE s1.2)) <|
need (inL s1.1 (zAE x)) <|
need (inL s1.1 (zAE s1.2)) <|
need (inL s1.1 (zAE x)) <|
sel (ile 0 ((zAH (0,(⟨#[]⟩:ByteArray),0) x (i2n s1.1)).1)) (need (inL s1.1 (zAE x)) <|
need (inL ((zAH (0,(⟨#[]⟩:ByteArray),0) x (i2n s1.1)).1) (zAE (lset s1.2 (i2n s1.1) (zBA .i64 (zAH 0 s1.2 (i2n s1.1)) (((zAH (0,(⟨#[]⟩:ByteArray),0) x (i2n s1.1)).2).2))))) <|
need (inL s1.1 (zAE (lset s1.2 (i2n s1.1) (zBA .i64 (zAH 0 s1.2 (i2n s1.1)) (((zAH (0,(⟨#[]⟩:ByteArray),0) x (i2n s1.1)).2).2))))) <|
need (inL ((zAH (0,(⟨#[]⟩:ByteArray),0) x (i2n s1.1)).1) (zAE (lset s1.2 (i2n s1.1) (zBA .i64 (zAH 0 s1.2 (i2n s1.1)) (((zAH (0,(⟨#[]⟩:ByteArray),0) x (i2n s1.1)).2).2))))) <|
some (.inl (lset (lset s1.2 (i2n s1.1) (zBA .i64 (zAH 0 s1.2 (i2n s1.1)) (((zAH (0,(⟨#[]⟩:ByteArray),0) x (i2n s1.1)).2).2))) (i2n ((zAH (0,(⟨#[]⟩:ByteArray),0) x (i2n s1.1)).1)) (zBA .i64 (zAH 0 (lset s1.2 (i2n s1.1) (zBA .i64 (zAH 0 s1.2 (i2n s1.1)) (((zAH (0,(⟨#[]⟩:ByteArray),0) x (i2n s1.1)).2).2))) (i2n ((zAH (0,(⟨#[]⟩:ByteArray),0) x (i2n s1.1)).1))) (zAH 0 (lset s1.2 (i2n s1.1) (zBA .i64 (zAH 0 s1.2 (i2n s1.1)) (((zAH (0,(⟨#[]⟩:ByteArray),0) x (i2n s1.1)).2).2))) (i2n s1.1)))))) <|
some (.inl (lset s1.2 (i2n s1.1) (zBA .i64 (zAH 0 s1.2 (i2n s1.1)) (((zAH (0,(⟨#[]⟩:ByteArray),0) x (i2n s1.1)).2).2))))) fun (j2:(List Int)) =>
some (.inl (zCX .i64 s1.1 1,j2))) <|
some (.inr (.inl s1.2))) (zCX .i64 (n2i (zAE x)) 1,lrep (n2i (zAE x)) 0)) fun (j3:(List Int)) =>
some j3
def c31:Con:=⟨31,[.sl (.agg (.pr (.int .i64) (.pr .str (.int .i64))))],[],.sl (.int .i64),[],F31,none⟩
def ok31:zAl Tryz.prog c31:=zBM zCm [c30] (zAO ok30 (zBN)) c31 Tryz.f31 (.n .o (.n .o (.n .o (.n (.n .o (.jb ⟨[3],[],[(0,.many (.int .i64))],1,0⟩ (.l ⟨[0,3],[(4,.int .i64)],[(0,.many (.int .i64))],1,1⟩ (.n .o (.n (.jb ⟨[0,3,4],[],[(0,.many (.int .i64))],1,2⟩ (.n (.r [0,1,2,3,4,5,6,7,8,9,10,11]) (.n .o (.n (.r [0,1,2,3,4,5,6,7,8,9,10,11,12,13,14]) .o)))) .o))))) .o)))) Tryz.func31
def F38 (x:((ByteArray × (Int × Int)) × (ByteArray × (Int × Int)))):(Option Int) :=
call (F40 (x.2.2.2,x.1.2.2)) fun (r0:Int) =>
call (F41 (x.1.1,x.2.1)) fun (r1:Int) =>
call (F39 (r0 :: (r1 :: ([]:List Int)))) fun (r2:Int) =>
some r2
def c38:Con:=⟨38,[.agg (.pr .str (.pr (.int .i64) (.int .i64))),.agg (.pr .str (.pr (.int .i64) (.int .i64)))],[],.int .i64,[],F38,none⟩
def ok38:zAl Tryz.prog c38:=zBM zCm [c40,c41,c39] (zAO ok40 (zAO ok41 (zAO ok39 (zBN)))) c38 Tryz.f38 (.n .o (.n (.r [0,1,2,3,5,6,7,8,4,9,10,11,12]) .o)) Tryz.func38
def F20 (x:(Int × (((List ByteArray) × Int) × ByteArray))):(Option (((List ByteArray) × Int) × Bool)) :=
call (F21 (x.2.1.1,x.2.2)) fun (r0:Bool) =>
some (x.2.1,r0)
def c20:Con:=⟨20,[.int .i64,.agg (.pr (.sl .str) (.int .i64)),.fp .str 0],[],.tup (.pr (.agg (.pr (.sl .str) (.int .i64))) .bool),[],F20,none⟩
def ok20:zAl Tryz.prog c20:=zBM zCm [c21] (zAO ok21 (zBN)) c20 Tryz.f20 (.n .o (.n (.r [0,1,2,3,4,5,6]) .o)) Tryz.func20
def F84 (x:(List ByteArray)):(Option Int) :=
join (zBh (fun (s0:Int) =>
sel (ilt s0 (n2i (zAE x))) (need (inL s0 (zAE x)) <|
call (F61 (zAH (⟨#[]⟩:ByteArray) x (i2n s0))) fun (r1:Bool) =>
sel r1 (some (.inr (.inr s0))) <|
some (.inl (zBA .i64 s0 1))) <|
some (.inr (.inl ()))) 0) fun (j2:PUnit) =>
some (-1)
def c84:Con:=⟨84,[.sl .str,.fn 61 .unit .unit],[],.int .i64,[],F84,none⟩
def ok84:zAl Tryz.prog c84:=zBM zCm [c61] (zAO ok61 (zBN)) c84 Tryz.f84 (.n .o (.n (.n .o (.jb ⟨[],[],[],0,0⟩ (.l ⟨[0,1,7],[(8,.int .i64)],[],0,1⟩ .o))) .o)) Tryz.func84
def F60 (x:(List ByteArray)):(Option Bool) :=
call (F84 x) fun (r0:Int) =>
some (ile 0 r0)
def c60:Con:=⟨60,[.sl .str,.fn 61 .unit .unit],[],.bool,[],F60,none⟩
def ok60:zAl Tryz.prog c60:=zBM zCm [c84,c61] (zAO ok84 (zAO ok61 (zBN))) c60 Tryz.f60 (.o) Tryz.func60
def F44 (x:((List ByteArray) × Int)):(Option Int) :=
sel (ieq (n2i (zAE x.1)) 0) (some 1) <|
sel (ilt 64 (n2i (zAE x.1))) (some 30) <|
call (F60 x.1) fun (r0:Bool) =>
sel r0 (some 5) <|
call (F53 x.2) fun (r1:Bool) =>
sel (zCr r1) (some 2) <|
some 0
def c44:Con:=⟨44,[.agg (.pr (.sl .str) (.int .i64))],[],.int .i64,[],F44,none⟩
def ok44:zAl Tryz.prog c44:=zBM zCm [c60,c53] (zAO ok60 (zAO ok53 (zBN))) c44 Tryz.f44 (.o) Tryz.func44
end Go.Fl
namespace Go.Fl
open Go Go.T Go.Pl
abbrev Nm:=ByteArray
abbrev FN:=Int × Nm × Int
abbrev Sk:=List Nm × Int
inductive Fo where
 | nil
 | cons (n:Nm) (s:Int) (sub rest:Fo)
namespace Fo
def len:Fo -> Nat
 | .nil=>0
 | .cons _ _ sub rest=>1 + sub.len + rest.len
def enc:Fo -> Int -> Nat -> List FN
 | .nil,_,_=>[]
 | .cons n s sub rest,par,pl=>(par,n,s) :: (sub.enc pl (pl + 1) ++ rest.enc par (pl + 1 + sub.len))
def enc_len:∀ (F:Fo) (par:Int) (pl:Nat),(F.enc par pl).length = F.len
 | .nil,_,_=>rfl
 | .cons n s sub rest,par,pl=>by
  rw [enc,yAY,yAD,enc_len sub,enc_len rest,len];omega
def app:Fo -> Fo -> Fo
 | .nil,G=>G
 | .cons n s sub rest,G=>.cons n s sub (rest.app G)
def app_nil:∀ F:Fo,F.app .nil = F
 | .nil=>rfl
 | .cons n s sub rest=>by rw [app,app_nil rest]
def stk:Fo -> List Nm -> List Sk
 | .nil,_=>[]
 | .cons n s sub rest,p=>(if s ≠ 0 then [(p ++ [n],s)] else []) ++ (sub.stk (p ++ [n]) ++ rest.stk p)
def okN (n:Nm) (s:Int):Prop:=1 <= n.size /\ n.size <= 60 /\ -1099511627776 <= s /\ s <= 1099511627776
def heads:Fo -> List Nm
 | .nil=>[]
 | .cons n _ _ rest=>n :: rest.heads
def Good:Fo -> Nat -> Prop
 | .nil,_=>True
 | .cons n s sub rest,d=>okN n s /\ (s = 0 -> sub ≠ .nil) /\ d < 64 /\ (∀ m ∈ rest.heads,slt n m = true) /\ sub.Good (d + 1) /\ rest.Good d
end Fo
open Go Go.Ab Go.T
abbrev iD (n:Int):D:=.v (.int .i64 n)
abbrev sV (n:Nm):Value:=.string n
abbrev pD (q:Nat):D:=.pt q 0 0
def Sm (u r s:Int) (c:Nat):Prop:=u * 1048576 + r = s /\ -(1048576 * (c:Int)) <= u /\ u <= 1048576 * (c:Int) /\ -(1048576 * (c:Int)) <= r /\ r <= 1048576 * (c:Int)
def Sm.mono {u r s:Int} {c c':Nat} (h:Sm u r s c) (hc:c <= c'):Sm u r s c':=by
 obtain ⟨h1,h2,h3,h4,h5⟩:=h
 exact ⟨h1,by omega,by omega,by omega,by omega⟩
structure MapOk (es:List (Nat × Value × D)) (cl:Nat) (l:List (Nm × Nat)):Prop where
 perm:(es.map fun p=>(p.2.1,p.2.2)).Perm (l.map fun p=>(sV p.1,pD p.2))
 nd:(es.map (·.1)).Nodup
 lt:∀ b ∈ es.map (·.1),b < cl
def KidsAt (H:Heap) (c:Nat):Fo -> List (Nm × Nat) -> List Nat -> Prop
 | .nil,l,fp=>l = [] /\ fp = []
 | .cons n s sub rest,l,fp=>∃ q l' fp1 fp2,l = (n,q) :: l' /\ fp = (q :: fp1) ++ fp2 /\
     (∃ u r d,H.get q = some (.cells 3 [.agg [iD u,iD r,d]]) /\ Sm u r s c /\
      ((d = .v (.map none) /\ sub = .nil /\ fp1 = []) \/ ∃ m es cl l1 fp',d = .mp m /\ H.get m = some (.mp es cl) /\ MapOk es cl l1 /\ fp1 = m :: fp' /\ KidsAt H c sub l1 fp')) /\
     KidsAt H c rest l' fp2
def ChAt (H:Heap) (c:Nat) (d:D) (F:Fo) (fp:List Nat):Prop :=
 (d = .v (.map none) /\ F = .nil /\ fp = []) \/ ∃ m es cl l1 fp',d = .mp m /\ H.get m = some (.mp es cl) /\ MapOk es cl l1 /\ fp = m :: fp' /\ KidsAt H c F l1 fp'
def NodeAt (H:Heap) (c q:Nat) (s:Int) (F:Fo) (fp:List Nat):Prop:=∃ u r d fp',H.get q = some (.cells 3 [.agg [iD u,iD r,d]]) /\ Sm u r s c /\ fp = q :: fp' /\ ChAt H c d F fp'
def kids_cons {H:Heap} {c:Nat} {n:Nm} {s:Int} {sub rest:Fo} {l:List (Nm × Nat)} {fp:List Nat}:KidsAt H c (.cons n s sub rest) l fp ↔ ∃ q l' fp1 fp2,l = (n,q) :: l' /\ fp = fp1 ++ fp2 /\ NodeAt H c q s sub fp1 /\ KidsAt H c rest l' fp2:=by
 rw [KidsAt]
 constructor
 ·rintro ⟨q,l',fp1,fp2,h1,h2,⟨u,r,d,h3,h4,h5⟩,h6⟩
  exact ⟨q,l',q :: fp1,fp2,h1,h2,⟨u,r,d,fp1,h3,h4,rfl,h5⟩,h6⟩
 ·rintro ⟨q,l',_,fp2,h1,h2,⟨u,r,d,fp1,h3,h4,rfl,h5⟩,h6⟩
  exact ⟨q,l',fp1,fp2,h1,h2,⟨u,r,d,h3,h4,h5⟩,h6⟩
section
variable {H H':Heap} {c c':Nat}
def KidsAt.frame (hc:c <= c'):∀ {F:Fo} {l:List (Nm × Nat)} {fp:List Nat},KidsAt H c F l fp -> (∀ r ∈ fp,H'.get r = H.get r) -> KidsAt H' c' F l fp
 | .nil,l,fp,h,_=>h
 | .cons n s sub rest,l,fp,h,he=>by
  rw [KidsAt] at h ⊢
  obtain ⟨q,l',fp1,fp2,h1,rfl,⟨u,r,d,h3,h4,h5⟩,h6⟩:=h
  refine ⟨q,l',fp1,fp2,h1,rfl,⟨u,r,d,(he q (by simp)).trans h3,h4.mono hc,?_⟩,KidsAt.frame hc h6 fun r hr=>he r (by simp [hr])⟩
  rcases h5 with h5 | ⟨m,es,cl,l1,fp',g1,g2,g3,rfl,g5⟩
  ·exact .inl h5
  ·exact .inr ⟨m,es,cl,l1,fp',g1,(he m (by simp)).trans g2,g3,rfl,KidsAt.frame hc g5 fun r hr=>he r (by simp [hr])⟩
def ChAt.frame (hc:c <= c') {d:D} {F:Fo} {fp:List Nat} (h:ChAt H c d F fp) (he:∀ r ∈ fp,H'.get r = H.get r):ChAt H' c' d F fp:=by
 rcases h with h5 | ⟨m,es,cl,l1,fp',g1,g2,g3,rfl,g5⟩
 ·exact .inl h5
 ·exact .inr ⟨m,es,cl,l1,fp',g1,(he m (by simp)).trans g2,g3,rfl,KidsAt.frame hc g5 fun r hr=>he r (by simp [hr])⟩
def NodeAt.frame (hc:c <= c') {q:Nat} {s:Int} {F:Fo} {fp:List Nat} (h:NodeAt H c q s F fp) (he:∀ r ∈ fp,H'.get r = H.get r):NodeAt H' c' q s F fp:=by
 obtain ⟨u,r,d,fp',h1,h2,rfl,h4⟩:=h
 exact ⟨u,r,d,fp',(he q (by simp)).trans h1,h2.mono hc,rfl,h4.frame hc fun r hr=>he r (by simp [hr])⟩
def KidsAt.heads:∀ {F:Fo} {l:List (Nm × Nat)} {fp:List Nat},KidsAt H c F l fp -> l.map (·.1) = F.heads
 | .nil,l,fp,h=>by rw [h.1];rfl
 | .cons n s sub rest,l,fp,h=>by
  obtain ⟨q,l',fp1,fp2,rfl,_,_,h6⟩:=kids_cons.1 h
  rw [yAL,h6.heads];rfl
def KidsAt.lt:∀ {F:Fo} {l:List (Nm × Nat)} {fp:List Nat},KidsAt H c F l fp -> ∀ r ∈ fp,r < H.length
 | .nil,l,fp,h,r,hr=>by rw [h.2] at hr;cases hr
 | .cons n s sub rest,l,fp,h,r,hr=>by
  rw [KidsAt] at h
  obtain ⟨q,l',fp1,fp2,h1,rfl,⟨u,r',d,h3,h4,h5⟩,h6⟩:=h
  rcases yAO.1 hr with hr | hr
  ·rcases yAE.1 hr with rfl | hr
   ·exact Heap.get_lt h3
   ·rcases h5 with ⟨_,_,rfl⟩ | ⟨m,es,cl,l1,fp',g1,g2,g3,rfl,g5⟩
    ·cases hr
    ·rcases yAE.1 hr with rfl | hr
     ·exact Heap.get_lt g2
     ·exact KidsAt.lt g5 r hr
  ·exact KidsAt.lt h6 r hr
end
def Fo.at':Fo -> Nm -> (Int × Fo -> Int × Fo) -> Fo
 | .nil,n,g=>.cons n (g (0,.nil)).1 (g (0,.nil)).2 .nil
 | .cons m s sub rest,n,g=>if slt n m = true then .cons n (g (0,.nil)).1 (g (0,.nil)).2 (.cons m s sub rest) else if m = n then .cons m (g (s,sub)).1 (g (s,sub)).2 rest else .cons m s sub (rest.at' n g)
def insN:Int × Fo -> List Nm -> Int -> Int × Fo
 | x,[],w=>(x.1 + w,x.2)
 | x,n :: p,w=>(x.1,x.2.at' n fun y=>insN y p w)
def slt_iff {a b:Nm}:slt a b = true ↔ a.data.toList < b.data.toList:=by
 unfold slt
 rw [Go.Proofs.bytesLess_eq,ByteArray.toList_eq,ByteArray.toList_eq,decide_eq_true_eq]
def nm_ext {a b:Nm} (h:a.data.toList = b.data.toList):a = b:=by
 cases a;cases b
 exact congrArg _ (Array.toList_inj.1 h)
def slt_irr (a:Nm):¬ slt a a = true:=fun h=>List.lt_irrefl _ (slt_iff.1 h)
def slt_trans {a b c:Nm} (h1:slt a b = true) (h2:slt b c = true):slt a c = true:=slt_iff.2 (List.lt_trans (slt_iff.1 h1) (slt_iff.1 h2))
def slt_asymm {a b:Nm} (h1:slt a b = true):¬ slt b a = true:=fun h2=>slt_irr a (slt_trans h1 h2)
def slt_tri (a b:Nm):slt a b = true \/ a = b \/ slt b a = true:=by
 by_cases h1:slt a b = true
 ·exact .inl h1
 by_cases h2:slt b a = true
 ·exact .inr (.inr h2)
 refine .inr (.inl (nm_ext ?_))
 rw [slt_iff] at h1 h2
 exact List.le_antisymm (List.not_lt.1 h2) (List.not_lt.1 h1)
def Fo.Srt:Fo -> Prop
 | .nil=>True
 | .cons n s sub rest=>(∀ m ∈ rest.heads,slt n m = true) /\ sub.Srt /\ rest.Srt
def heads_at (n:Nm) (g:Int × Fo -> Int × Fo):∀ {F:Fo} {m:Nm},m ∈ (F.at' n g).heads -> m = n \/ m ∈ F.heads
 | .nil,m,h=>by simp [Fo.at',Fo.heads] at h;exact .inl h
 | .cons k s sub rest,m,h=>by
  rw [Fo.at'] at h
  split at h
  ·simp only [Fo.heads,yAE] at h ⊢;exact h
  split at h
  ·exact .inr h
  ·simp only [Fo.heads,yAE] at h ⊢
   rcases h with h | h
   ·exact .inr (.inl h)
   ·rcases heads_at n g h with h | h
    ·exact .inl h
    ·exact .inr (.inr h)
def srt_at {n:Nm} {g:Int × Fo -> Int × Fo} (hg:∀ x,x.2.Srt -> (g x).2.Srt):∀ {F:Fo},F.Srt -> (F.at' n g).Srt
 | .nil,_=>⟨by simp [Fo.heads],hg _ trivial,trivial⟩
 | .cons k s sub rest,h=>by
  obtain ⟨h1,h2,h3⟩:=h
  rw [Fo.at']
  split
  ·rename_i c
   refine ⟨fun m hm=>?_,hg _ trivial,h1,h2,h3⟩
   rw [Fo.heads,yAE] at hm
   rcases hm with rfl | hm
   ·exact c
   ·exact slt_trans c (h1 m hm)
  rename_i c
  split
  ·exact ⟨h1,hg _ h2,h3⟩
  ·rename_i c2
   refine ⟨fun m hm=>?_,h2,srt_at hg h3⟩
   rcases heads_at n g hm with rfl | hm
   ·rcases slt_tri k m with h | h | h
    ·exact h
    ·exact absurd h c2
    ·exact absurd h c
   ·exact h1 m hm
def srt_ins (w:Int):∀ (p:List Nm) (x:Int × Fo),x.2.Srt -> (insN x p w).2.Srt
 | [],x,h=>h
 | n :: p,x,h=>srt_at (fun y hy=>srt_ins w p y hy) h
section
variable {H H':Heap} {c:Nat} {n:Nm} {q:Nat}
def NodeAt.lt {s:Int} {F:Fo} {fp:List Nat} (h:NodeAt H c q s F fp):∀ r ∈ fp,r < H.length:=by
 have:KidsAt H c (.cons ByteArray.empty s F .nil) [(ByteArray.empty,q)] (fp ++ []):=kids_cons.2 ⟨q,[],fp,[],rfl,rfl,h,rfl,rfl⟩
 intro r hr
 exact this.lt r (by simpa using hr)
def kids_focus:∀ {F:Fo} {l:List (Nm × Nat)} {fp:List Nat},KidsAt H c F l fp -> F.Srt -> fp.Nodup -> (n,q) ∈ l ->
  ∃ s sub fp1,NodeAt H c q s sub fp1 /\ (∀ r ∈ fp1,r ∈ fp) /\ fp1.Nodup /\ sub.Srt /\
   ∀ (H':Heap) (fp1':List Nat) (g:Int × Fo -> Int × Fo),NodeAt H' (c + 1) q (g (s,sub)).1 (g (s,sub)).2 fp1' -> (∀ r ∈ fp,r ∉ fp1 -> H'.get r = H.get r) -> fp1'.Nodup -> (∀ r ∈ fp1',r ∈ fp1 \/ H.length <= r) ->
    ∃ fp',KidsAt H' (c + 1) (F.at' n g) l fp' /\ fp'.Nodup /\ ∀ r ∈ fp',r ∈ fp \/ H.length <= r
 | .nil,l,fp,h,_,_,hq=>by rw [h.1] at hq;cases hq
 | .cons n0 s0 sub0 rest,l,fp,h,hs,hnd,hq=>by
  have hhd:=h.heads
  obtain ⟨q0,l',fpa,fpb,rfl,rfl,h3,h4⟩:=kids_cons.1 h
  obtain ⟨hs1,hs2,hs3⟩:=hs
  obtain ⟨na,nb,nab⟩:=List.nodup_append.1 hnd
  have hltb:=h4.lt
  have hlta:=h3.lt
  by_cases e:(n,q) = (n0,q0)
  ·obtain ⟨rfl,rfl⟩:=Prod.mk.inj e
   refine ⟨s0,sub0,fpa,h3,fun r hr=>yAu _ hr,na,hs2,fun H' fp1' g g1 g2 g3 g4=>⟨fp1' ++ fpb,?_,?_,?_⟩⟩
   ·rw [Fo.at',if_neg (slt_irr n),if_pos rfl]
    exact kids_cons.2 ⟨q,l',fp1',fpb,rfl,rfl,g1,h4.frame (yBG c) fun r hr=>g2 r (yAh _ hr) fun hra=>nab r hra r hr rfl⟩
   ·refine List.nodup_append.2 ⟨g3,nb,fun a ha b hb hab=>?_⟩
    subst hab
    rcases g4 a ha with h | h
    ·exact nab a h a hb rfl
    ·have:=hltb a hb;omega
   ·intro r hr
    rcases yAO.1 hr with hr | hr
    ·rcases g4 r hr with h | h
     ·exact .inl (yAu _ h)
     ·exact .inr h
    ·exact .inl (yAh _ hr)
  ·have hq':(n,q) ∈ l':=by
    rcases yAE.1 hq with h | h
    ·exact absurd h e
    ·exact h
   have hn:n ∈ rest.heads:=by rw [<- h4.heads];exact yAg (f:=(·.1)) hq'
   have hlt:=hs1 n hn
   obtain ⟨s,sub,fp1,i1,i2,i3,i4,i5⟩:=kids_focus h4 hs3 nb hq'
   refine ⟨s,sub,fp1,i1,fun r hr=>yAh _ (i2 r hr),i3,i4,fun H' fp1' g g1 g2 g3 g4=>?_⟩
   obtain ⟨fp',j1,j2,j3⟩:=i5 H' fp1' g g1 (fun r hr hr1=>g2 r (yAh _ hr) hr1) g3 g4
   refine ⟨fpa ++ fp',?_,?_,?_⟩
   ·rw [Fo.at',if_neg (slt_asymm hlt),if_neg (fun h=>by subst h;exact slt_irr _ hlt)]
    exact kids_cons.2 ⟨q0,l',fpa,fp',rfl,rfl,h3.frame (yBG c) fun r hr=>g2 r (yAu _ hr) fun hr1=>nab r hr r (i2 r hr1) rfl,j1⟩
   ·refine List.nodup_append.2 ⟨na,j2,fun a ha b hb hab=>?_⟩
    subst hab
    rcases j3 a hb with h | h
    ·exact nab a ha a h rfl
    ·have:=hlta a ha;omega
   ·intro r hr
    rcases yAO.1 hr with hr | hr
    ·exact .inl (yAu _ hr)
    ·rcases j3 r hr with h | h
     ·exact .inl (yAh _ h)
     ·exact .inr h
def kids_new {g:Int × Fo -> Int × Fo} {fpq:List Nat} (hN:NodeAt H' (c + 1) q (g (0,.nil)).1 (g (0,.nil)).2 fpq) (hq:fpq.Nodup) (hge:∀ r ∈ fpq,H.length <= r):∀ {F:Fo} {l:List (Nm × Nat)} {fp:List Nat},KidsAt H c F l fp -> fp.Nodup -> n ∉ F.heads -> (∀ r ∈ fp,H'.get r = H.get r) ->
  ∃ l' fp',KidsAt H' (c + 1) (F.at' n g) l' fp' /\ l'.Perm ((n,q) :: l) /\ fp'.Nodup /\ ∀ r ∈ fp',r ∈ fp \/ r ∈ fpq
 | .nil,l,fp,h,hnd,hn,he=>by
  obtain ⟨rfl,rfl⟩:=h
  exact ⟨[(n,q)],fpq,by rw [Fo.at'];exact kids_cons.2 ⟨q,[],fpq,[],rfl,by simp,hN,rfl,rfl⟩,.refl _,hq,fun r hr=>.inr hr⟩
 | .cons n0 s0 sub0 rest,l,fp,h,hnd,hn,he=>by
  have h0:=h
  obtain ⟨q0,l',fpa,fpb,rfl,rfl,h3,h4⟩:=kids_cons.1 h
  obtain ⟨na,nb,nab⟩:=List.nodup_append.1 hnd
  have hlt:=h.lt
  rw [Fo.heads,yAE,not_or] at hn
  rw [Fo.at']
  split
  ·refine ⟨(n,q) :: (n0,q0) :: l',fpq ++ (fpa ++ fpb),kids_cons.2 ⟨q,_,fpq,fpa ++ fpb,rfl,rfl,hN,h0.frame (yBG c) he⟩,.refl _,?_,?_⟩
   ·refine List.nodup_append.2 ⟨hq,hnd,fun a ha b hb hab=>?_⟩
    subst hab
    have:=hge a ha;have:=hlt a hb;omega
   ·intro r hr
    rcases yAO.1 hr with hr | hr
    ·exact .inr hr
    ·exact .inl hr
  ·rw [if_neg (fun h=>hn.1 h.symm)]
   obtain ⟨l2,fp2,i1,i2,i3,i4⟩:=kids_new hN hq hge h4 nb hn.2 fun r hr=>he r (yAh _ hr)
   refine ⟨(n0,q0) :: l2,fpa ++ fp2,kids_cons.2 ⟨q0,l2,fpa,fp2,rfl,rfl,h3.frame (yBG c) fun r hr=>he r (yAu _ hr),i1⟩,(List.Perm.cons _ i2).trans (List.Perm.swap _ _ _),?_,?_⟩
   ·refine List.nodup_append.2 ⟨na,i3,fun a ha b hb hab=>?_⟩
    subst hab
    rcases i4 a hb with h | h
    ·exact nab a ha a h rfl
    ·have:=hge a h;have:=hlt a (yAu _ ha);omega
   ·intro r hr
    rcases yAO.1 hr with hr | hr
    ·exact .inl (yAu _ hr)
    ·rcases i4 r hr with h | h
     ·exact .inl (yAh _ h)
     ·exact .inr h
end
end Go.Fl
namespace Go.Proofs
open Go.RowKit Go.Maps Go.Sort Go.Shelf
def Tryz.keys65_ren:Go.Shelf.Ren:=⟨fun | 7=>65 | 10=>87 | n=>n,fun | 23=>69 | 26=>9 | 3=>66 | 28=>90 | 0=>0 | 27=>89 | 33=>79 | 4=>4 | n=>n,fun | n=>n⟩
def Tryz.keys65:Go.Proofs.SlLaysZ.n7 Tryz.prog Tryz.keys65_ren:={
 mixed:=by kernel_rfl
 f7:=⟨Tryz.f65.name,by decide,Tryz.func65.trans (congrArg some (by kernel_rfl))⟩
 f10:=⟨Tryz.f87.name,by decide,Tryz.func87.trans (congrArg some (by kernel_rfl))⟩
 t0:=Tryz.underlying0
 a0:=Tryz.isAgg0
 z0:=Tryz.sizeOf0
 v0:=Tryz.zeroValue0
 t4:=Tryz.underlying4
 a4:=Tryz.isAgg4
 z4:=Tryz.sizeOf4
 v4:=Tryz.zeroValue4
 t23:=Tryz.underlying69
 a23:=Tryz.isAgg69
 z23:=Tryz.sizeOf69
 v23:=Tryz.zeroValue69
 t26:=Tryz.underlying9
 a26:=Tryz.isAgg9
 z26:=Tryz.sizeOf9
 v26:=Tryz.zeroValue9
 t27:=Tryz.underlying89
 a27:=Tryz.isAgg89
 z27:=Tryz.sizeOf89
 v27:=Tryz.zeroValue89
 t28:=Tryz.underlying90
 a28:=Tryz.isAgg90
 z28:=Tryz.sizeOf90
 v28:=Tryz.zeroValue90
 t33:=Tryz.underlying79
 a33:=Tryz.isAgg79
 z33:=Tryz.sizeOf79
 v33:=Tryz.zeroValue79 }
def Tryz.sorted64_ren:Go.Shelf.Ren:=⟨fun | 6=>64 | 8=>85 | 9=>86 | 11=>93 | 13=>55 | 12=>94 | 23=>82 | 24=>83 | 14=>96 | 15=>97 | 16=>98 | 17=>99 | 18=>100 | 19=>101 | 20=>102 | 21=>103 | 22=>104 | 25=>105 | 26=>89 | 27=>90 | 28=>106 | 29=>107 | 30=>57 | 31=>108 | n=>n,fun | 26=>9 | 28=>90 | 24=>40 | 0=>0 | 3=>3 | 37=>83 | 48=>105 | 50=>107 | 4=>4 | 40=>99 | 39=>98 | 45=>92 | 5=>5 | 9=>9 | 51=>109 | 55=>113 | 57=>117 | 58=>118 | 33=>79 | n=>n,fun | n=>n⟩
def Tryz.sorted64:Go.Proofs.SlLaysZ.n6 Tryz.prog Tryz.sorted64_ren:={
 mixed:=by kernel_rfl
 f6:=⟨Tryz.f64.name,by decide,Tryz.func64.trans (congrArg some (by kernel_rfl))⟩
 f8:=⟨Tryz.f85.name,by decide,Tryz.func85.trans (congrArg some (by kernel_rfl))⟩
 f11:=⟨Tryz.f93.name,by decide,Tryz.func93.trans (congrArg some (by kernel_rfl))⟩
 t0:=Tryz.underlying0
 a0:=Tryz.isAgg0
 z0:=Tryz.sizeOf0
 v0:=Tryz.zeroValue0
 t24:=Tryz.underlying40
 a24:=Tryz.isAgg40
 z24:=Tryz.sizeOf40
 v24:=Tryz.zeroValue40
 t26:=Tryz.underlying9
 a26:=Tryz.isAgg9
 z26:=Tryz.sizeOf9
 v26:=Tryz.zeroValue9
 t28:=Tryz.underlying90
 a28:=Tryz.isAgg90
 z28:=Tryz.sizeOf90
 v28:=Tryz.zeroValue90
 i26:=by kernel_rfl }
def Tryz.sort86_ren:Go.Shelf.Ren:=⟨fun | 6=>86 | 8=>55 | 9=>94 | 19=>82 | 20=>83 | 21=>96 | 22=>97 | 23=>98 | 24=>99 | 25=>100 | 26=>101 | 27=>102 | 28=>103 | 29=>104 | 36=>105 | 31=>89 | 32=>90 | 37=>106 | 38=>107 | 39=>57 | 41=>108 | n=>n,fun | 27=>40 | 29=>9 | 3=>3 | 32=>83 | 26=>40 | 0=>0 | 44=>105 | 46=>107 | 4=>4 | 36=>99 | 35=>98 | 41=>92 | 5=>5 | 9=>9 | 53=>109 | 57=>113 | 63=>117 | 64=>118 | n=>n,fun | n=>n⟩
def Tryz.sort86:Go.Proofs.SlLaysM.n6 Tryz.prog Tryz.sort86_ren:={
 mixed:=by kernel_rfl
 f6:=⟨Tryz.f86.name,by decide,Tryz.func86.trans (congrArg some (by kernel_rfl))⟩
 f8:=Tryz.func55.trans (congrArg some (by kernel_rfl))
 f9:=⟨Tryz.f94.name,by decide,Tryz.func94.trans (congrArg some (by kernel_rfl))⟩
 f19:=Tryz.func82.trans (congrArg some (by kernel_rfl))
 f20:=Tryz.func83.trans (congrArg some (by kernel_rfl))
 f21:=⟨Tryz.f96.name,by decide,Tryz.func96.trans (congrArg some (by kernel_rfl))⟩
 f22:=⟨Tryz.f97.name,by decide,Tryz.func97.trans (congrArg some (by kernel_rfl))⟩
 f23:=⟨Tryz.f98.name,by decide,Tryz.func98.trans (congrArg some (by kernel_rfl))⟩
 f24:=⟨Tryz.f99.name,by decide,Tryz.func99.trans (congrArg some (by kernel_rfl))⟩
 f25:=⟨Tryz.f100.name,by decide,Tryz.func100.trans (congrArg some (by kernel_rfl))⟩
 f26:=⟨Tryz.f101.name,by decide,Tryz.func101.trans (congrArg some (by kernel_rfl))⟩
 f27:=⟨Tryz.f102.name,by decide,Tryz.func102.trans (congrArg some (by kernel_rfl))⟩
 f28:=⟨Tryz.f103.name,by decide,Tryz.func103.trans (congrArg some (by kernel_rfl))⟩
 f29:=⟨Tryz.f104.name,by decide,Tryz.func104.trans (congrArg some (by kernel_rfl))⟩
 f31:=Tryz.func89.trans (congrArg some (by kernel_rfl))
 f32:=Tryz.func90.trans (congrArg some (by kernel_rfl))
 f36:=⟨Tryz.f105.name,by decide,Tryz.func105.trans (congrArg some (by kernel_rfl))⟩
 f37:=⟨Tryz.f106.name,by decide,Tryz.func106.trans (congrArg some (by kernel_rfl))⟩
 f38:=⟨Tryz.f107.name,by decide,Tryz.func107.trans (congrArg some (by kernel_rfl))⟩
 f39:=⟨Tryz.f57.name,by decide,Tryz.func57.trans (congrArg some (by kernel_rfl))⟩
 f41:=⟨Tryz.f108.name,by decide,Tryz.func108.trans (congrArg some (by kernel_rfl))⟩
 t0:=Tryz.underlying0
 a0:=Tryz.isAgg0
 z0:=Tryz.sizeOf0
 v0:=Tryz.zeroValue0
 t3:=Tryz.underlying3
 a3:=Tryz.isAgg3
 z3:=Tryz.sizeOf3
 v3:=Tryz.zeroValue3
 t4:=Tryz.underlying4
 a4:=Tryz.isAgg4
 z4:=Tryz.sizeOf4
 v4:=Tryz.zeroValue4
 t5:=Tryz.underlying5
 a5:=Tryz.isAgg5
 z5:=Tryz.sizeOf5
 v5:=Tryz.zeroValue5
 t9:=Tryz.underlying9
 a9:=Tryz.isAgg9
 z9:=Tryz.sizeOf9
 v9:=Tryz.zeroValue9
 t26:=Tryz.underlying40
 a26:=Tryz.isAgg40
 z26:=Tryz.sizeOf40
 v26:=Tryz.zeroValue40
 t27:=Tryz.underlying40
 a27:=Tryz.isAgg40
 z27:=Tryz.sizeOf40
 v27:=Tryz.zeroValue40
 t29:=Tryz.underlying9
 a29:=Tryz.isAgg9
 z29:=Tryz.sizeOf9
 v29:=Tryz.zeroValue9
 t32:=Tryz.underlying83
 a32:=Tryz.isAgg83
 z32:=Tryz.sizeOf83
 v32:=Tryz.zeroValue83
 t35:=Tryz.underlying98
 a35:=Tryz.isAgg98
 z35:=Tryz.sizeOf98
 v35:=Tryz.zeroValue98
 t36:=Tryz.underlying99
 a36:=Tryz.isAgg99
 z36:=Tryz.sizeOf99
 v36:=Tryz.zeroValue99
 t41:=Tryz.underlying92
 a41:=Tryz.isAgg92
 z41:=Tryz.sizeOf92
 v41:=Tryz.zeroValue92
 t44:=Tryz.underlying105
 a44:=Tryz.isAgg105
 z44:=Tryz.sizeOf105
 v44:=Tryz.zeroValue105
 t46:=Tryz.underlying107
 a46:=Tryz.isAgg107
 z46:=Tryz.sizeOf107
 v46:=Tryz.zeroValue107
 t53:=Tryz.underlying109
 a53:=Tryz.isAgg109
 z53:=Tryz.sizeOf109
 v53:=Tryz.zeroValue109
 t57:=Tryz.underlying113
 a57:=Tryz.isAgg113
 z57:=Tryz.sizeOf113
 v57:=Tryz.zeroValue113
 t63:=Tryz.underlying117
 a63:=Tryz.isAgg117
 z63:=Tryz.sizeOf117
 v63:=Tryz.zeroValue117
 t64:=Tryz.underlying118
 a64:=Tryz.isAgg118
 z64:=Tryz.sizeOf118
 v64:=Tryz.zeroValue118 }
def Tryz.sorts64 (m:Nat):AnyZ.SortsIn Tryz.prog Tryz.sorted64_ren Fence.wide m :=
 ⟨fun blk off cap ss W hH hblk hsz=>callsIn_wide.2 (AnyM.slices_Sort_string Tryz.sort86 blk off cap ss W hH hblk hsz),
  fun p cap W=>callsIn_wide.2 (AnyM.slices_Sort_string_none Tryz.sort86 p cap W)⟩
def Tryz.maps_Keys_67 (mb:Option Nat) (W:World):CallsIn Fence.wide 5 Tryz.prog 65 #[.map mb] W fun e w'=>e = .returned (.func (.func 87) #[] #[.pointer (some ⟨W.heap.size,0,none⟩)]) /\ w' = W.alloc (.cells #[.map mb] 69) :=
 AnyZ.keys_in Tryz.keys65 Fence.wide 5 trivial rfl mb W
end Go.Proofs
namespace Go.Fl
open Go Go.Ab Go.T Go.Proofs Go.RowKit Go.Maps Go.Sort Go.Shelf
instance:Go.Ab.DM:=⟨False⟩
def sorted_box (Bm b nn:Nat) (D0:DataW Unit) (R:Value -> Option (DataW Unit × List MemPlace)) (w:World) (hBm:Bm < w.heap.size) (hm:w.cell? ⟨Bm,0,none⟩ = some (.map (some b))) (hown:w.ownsMap Tryz.prog 9 R b nn D0) (hmax:Maps.size D0 <= maxLen) (hbytes:Maps.size D0 * 16 <= 140737488355328) :
  CallsIn Fence.wide 5 Tryz.prog 64 #[.func (.func 87) #[] #[.pointer (some ⟨Bm,0,none⟩)]] w fun e w'=>∃ (v:Value) (ss:List (List UInt8)),e = .returned v /\ ss.Perm (strKeys D0) /\
   w'.ownsRow w.heap.size 9 1 v ss.length ((ss.mergeSort (fun x y=>decide (x <= y))).map encStr) /\ (v = .slice none 0 0 ↔ ss = []) /\ Below w.heap.size w w':=by
 have hseq:SeqGives Fence.wide 2 Tryz.prog 87 #[.pointer (some ⟨Bm,0,none⟩)] encStr (fun ss=>ss.Perm (strKeys D0)) (Maps.size D0) w :=
  AnyZ.keys_gives (ρ:=Tryz.keys65_ren) { Tryz.keys65 with } Fence.wide _ trivial rfl (by omega) Bm b nn D0 _ hBm hm hown
 exact AnyZ.sorted_in Tryz.sorted64 Fence.wide 5 trivial trivial trivial trivial rfl (by omega) (Tryz.sorts64 _) (enters_of Tryz.func86 (by kernel_rfl) rfl) 87 #[.pointer (some ⟨Bm,0,none⟩)] trivial (enters_of Tryz.func87 (by kernel_rfl) rfl) _ _ hmax hbytes _ hseq
def sorted_nil (Bm:Nat) (w:World) (hBm:Bm < w.heap.size) (hm:w.cell? ⟨Bm,0,none⟩ = some (.map none)) :
  CallsIn Fence.wide 5 Tryz.prog 64 #[.func (.func 87) #[] #[.pointer (some ⟨Bm,0,none⟩)]] w fun e w'=>∃ (v:Value) (ss:List (List UInt8)),e = .returned v /\ ss = [] /\
   w'.ownsRow w.heap.size 9 1 v ss.length ((ss.mergeSort (fun x y=>decide (x <= y))).map encStr) /\ (v = .slice none 0 0 ↔ ss = []) /\ Below w.heap.size w w':=by
 have hseq:SeqGives Fence.wide 2 Tryz.prog 87 #[.pointer (some ⟨Bm,0,none⟩)] encStr (fun ss:List (List UInt8)=>ss = []) 0 w :=
  AnyZ.keys_gives_nil (ρ:=Tryz.keys65_ren) { Tryz.keys65 with } Fence.wide _ trivial rfl Bm w hBm hm
 exact AnyZ.sorted_in Tryz.sorted64 Fence.wide 5 trivial trivial trivial trivial rfl (by omega) (Tryz.sorts64 _) (enters_of Tryz.func86 (by kernel_rfl) rfl) 87 #[.pointer (some ⟨Bm,0,none⟩)] trivial (enters_of Tryz.func87 (by kernel_rfl) rfl) _ 0 (Nat.zero_le _) (by omega) _ hseq
def q_keys (H:Heap) (d:D) (hd:(∃ m,d = .mp m) \/ d = .v (.map none)):Sound Tryz.prog 65 [d] H fun r H'=>r = .fn (.func 87) [] [pD H.length] /\ H' = H ++ [some (.bx d)]:=by
 refine ⟨⟨Tryz.f65,Tryz.func65,by kernel_rfl,by kernel_rfl⟩,fun own X w vs hs hv=>?_⟩
 have hv':∃ mb,vs = [.map mb] /\ VRel own (zAQ own H X w) w H.length d (.map mb):=by
  simp only [zCL,VRels] at hv
  obtain ⟨x,xs,rfl,h1,rfl⟩:=hv
  rcases hd with ⟨m,rfl⟩ | rfl
  ·have h2:=h1
   rw [VRel] at h1
   obtain ⟨_,rfl⟩:=h1
   exact ⟨_,rfl,h2⟩
  ·have h2:=h1
   rw [VRel] at h1
   subst h1
   exact ⟨_,rfl,h2⟩
 obtain ⟨mb,rfl,hr⟩:=hv'
 refine Calls.mono (callsIn_wide.1 (Tryz.maps_Keys_67 mb w)) ?_
 rintro e w' ⟨rfl,rfl⟩
 obtain ⟨h1,h2⟩:=step_push hs (.cells #[.map mb] 69 (0,0)) (.bx d) ⟨w.heap.size,0,1,1⟩ rfl (w':=w.alloc (.cells #[.map mb] 69)) rfl fun own' H' hext hnew=>⟨rfl,.map mb,69,hnew,hext.rel hr⟩
 refine ⟨_,.fn (.func 87) [] [pD H.length],_,_,rfl,h1,?_,h2,rfl,rfl⟩
 simp only [Rel,VRel,VRels]
 exact ⟨[],[.pointer (some ⟨w.heap.size,0,none⟩)],rfl,rfl,_,_,rfl,⟨by simp,by simp [zBO]⟩,rfl⟩
def kb:Value -> List UInt8 | .string s=>s.data.toList | _=>[]
abbrev RNil:Value -> Option (DataW Unit × List MemPlace):=fun _=>some (.nil,[])
def names_sorted {l:List (Nm × Nat)} (hs:(l.map (·.1)).Pairwise fun a b=>slt a b = true) {ss:List (List UInt8)} (hp:ss.Perm (l.map fun p=>p.1.data.toList)):ss.mergeSort (fun x y=>decide (x <= y)) = l.map fun p=>p.1.data.toList:=by
 rw [show ss.mergeSort (fun x y=>decide (x <= y)) = (l.map fun p=>p.1.data.toList).mergeSort (fun x y=>decide (x <= y)) from mergeSort_of_perm hp]
 refine List.mergeSort_of_pairwise ?_
 rw [List.pairwise_map] at hs ⊢
 refine hs.imp fun h=>?_
 rw [decide_eq_true_eq]
 exact List.le_of_lt (slt_iff.1 h)
def cells_sV:∀ l:List (Nm × Nat),(l.map fun p=>D.v (sV p.1)).flatMap D.cells = l.map (D.v ∘ fun p=>sV p.1)
 | []=>rfl
 | p :: l=>by rw [yAL,yAj,cells_sV l];rfl
def q_sorted (H:Heap) {b m cl:Nat} {es:List (Nat × Value × D)} {l:List (Nm × Nat)} (hb:H.get b = some (.bx (.mp m))) (hm:H.get m = some (.mp es cl)) (ho:MapOk es cl l) (hsl:(l.map (·.1)).Pairwise fun a b=>slt a b = true) (hn:∀ p ∈ l,p.1.size <= 60) (hl:l.length <= 1000000) :
  Sound Tryz.prog 64 [.fn (.func 87) [] [pD b]] H fun r H'=>r = .fz 1 (l.map fun p=>.v (sV p.1)) /\ H' = H:=by
 refine ⟨⟨Tryz.f64,Tryz.func64,by kernel_rfl,by kernel_rfl⟩,fun own X w vs hs hv=>?_⟩
 simp only [zCL,VRels,VRel] at hv
 obtain ⟨v1,_,rfl,⟨_,us,rfl,rfl,⟨v2,_,rfl,⟨hbl,rfl⟩,rfl⟩⟩,rfl⟩:=hv
 obtain ⟨⟨hbase,x,t,hxb,hx⟩,hXb⟩:=hs.live b _ hb
 rw [VRel] at hx
 obtain ⟨hml,rfl⟩:=hx
 obtain ⟨⟨en,hen,hmr,hmv⟩,hXm⟩:=hs.live m _ hm
 have hkeys:en.toList.map (·.key) = es.map (·.2.1):=by
  have:=congrArg (List.map Prod.snd) hmr
  rw [yBO,yBO] at this
  exact this
 have hborn:en.toList.map (·.born) = es.map (·.1):=by
  have:=congrArg (List.map Prod.fst) hmr
  rw [yBO,yBO] at this
  exact this
 have hperm:(en.toList.map (·.key)).Perm (l.map fun p=>sV p.1):=by
  rw [hkeys]
  have:=ho.perm.map Prod.fst
  rw [yBO,yBO] at this
  exact this
 have hlen:en.size = l.length:=by
  have:=hperm.length_eq
  simpa using this
 have hstr:∀ y ∈ en.toList,∃ p ∈ l,y.key = sV p.1:=fun y hy=>by
  have:=hperm.subset (yAg (f:=(·.key)) hy)
  obtain ⟨p,hp,e⟩:=yBC.1 this
  exact ⟨p,hp,e.symm⟩
 have hml60:(60:Nat) <= maxLen:=by decide
 have hkey:∀ y ∈ en.toList,keyOf Tryz.prog 9 y.key = some (.string (kb y.key)):=fun y hy=>by
  obtain ⟨p,hp,e⟩:=hstr y hy
  have:=hn p hp
  rw [e]
  simp only [keyOf,mapKey,Tryz.underlying9]
  first | rfl | (rw [if_pos (by omega)];rfl) | simp [kb];omega
 have hrd:∀ y ∈ en.toList,WideElems.rd Tryz.prog 9 RNil y = some (.string (kb y.key),.nil):=fun y hy=>by
  unfold WideElems.rd;rw [hkey y hy];rfl
 have hfit:WideElems.Fit Tryz.prog 9 RNil en cl:=by
  refine ⟨?_,⟨fun y hy=>?_,?_,?_⟩,fun y hy=>⟨_,hrd y hy⟩⟩
  ·rw [hlen];exact yBN hl (by decide)
  ·exact ho.lt _ (hborn ▸ yAg (f:=(·.born)) hy)
  ·rw [hborn];exact ho.nd
  ·refine hperm.symm.nodup ?_
   rw [List.Nodup,List.pairwise_map]
   rw [List.pairwise_map] at hsl
   exact hsl.imp fun h e=>by
    have e:=Value.string.inj e
    rw [e] at h
    exact slt_irr _ h
 have hown:w.ownsMap Tryz.prog 9 RNil (own m).b en.size (.map ((en.toList.map (WideElems.rg Tryz.prog 9 RNil)).foldr DataW.insert [])):=⟨en,cl,hen,hfit,yAJ _,rfl⟩
 have hsize:Maps.size (.map ((en.toList.map (WideElems.rg Tryz.prog 9 RNil)).foldr DataW.insert []):DataW Unit) = l.length:=by
  show ((en.toList.map (WideElems.rg Tryz.prog 9 RNil)).foldr DataW.insert []).length = _
  rw [(WideShapes.sorted_perm _).length_eq,yAG,<- hlen];simp
 have hsk:(strKeys (.map ((en.toList.map (WideElems.rg Tryz.prog 9 RNil)).foldr DataW.insert []):DataW Unit)).Perm (l.map fun p=>p.1.data.toList):=by
  show (((en.toList.map (WideElems.rg Tryz.prog 9 RNil)).foldr DataW.insert []).map fun p=>strOf p.1).Perm _
  refine ((WideShapes.sorted_perm _).map _).trans ?_
  rw [yBO]
  have e1:en.toList.map ((fun p=>strOf p.1) ∘ WideElems.rg Tryz.prog 9 RNil) = (en.toList.map (·.key)).map kb:=by
   rw [yBO]
   refine List.map_congr_left fun y hy=>?_
   show strOf (WideElems.rg Tryz.prog 9 RNil y).1 = kb y.key
   rw [WideElems.rg_of (hrd y hy)];rfl
  rw [e1]
  refine (hperm.map kb).trans ?_
  rw [yBO]
  exact .refl _
 have hbw:(own b).b < w.heap.size:=(hs.live b _ hb).1.lt
 have hcell:w.cell? ⟨(own b).b,0,none⟩ = some (.map (some (own m).b)):=by simp [World.cell?,hxb]
 have hptr:(own b).base + 0 * (own b).k + 0 = 0:=by rw [hbase];omega
 rw [hptr]
 refine Calls.mono (callsIn_wide.1 (sorted_box (own b).b (own m).b en.size _ RNil w hbw hcell hown (by rw [hsize];exact yBN hl (by decide)) (by rw [hsize];omega))) ?_
 rintro e w' ⟨v,ss,rfl,hss,hrow,hnil,hbe⟩
 obtain ⟨h1,h2⟩:=Sim.outlives (own':=own) (X':=X) hs (fun b hb=>hb) (fun b hb'=>hbe.block b hb') hbe.size ⟨hbe.os,hbe.output,hbe.tape,fun h=>h.elim⟩
 have hms:=names_sorted hsl (hss.trans hsk)
 have hll:ss.length = l.length:=by have:=(hss.trans hsk).length_eq;simpa using this
 rw [hms,yBO,hll] at hrow
 have hmap:(l.map (encStr ∘ fun p=>p.1.data.toList)) = l.map fun p=>sV p.1:=List.map_congr_left fun p _=>by
  show Value.string ⟨p.1.data.toList.toArray⟩ = .string p.1
  cases p.1;rfl
 rw [hmap] at hrow
 refine ⟨own,.fz 1 (l.map fun p=>.v (sV p.1)),H,v,rfl,h1,?_,h2,rfl,rfl⟩
 rw [Rel,VRel]
 obtain ⟨hx1,hx2⟩:=hrow
 rcases hx2 with ⟨rfl,h0⟩ | ⟨g,cap,cur,rfl,g1,g2,g3,g4,g5,g6⟩
 ·exact ⟨none,0,by rw [yAG,h0],by rw [yAG,h0];exact yAJ _,fun h=>absurd (by rw [yAG,h0]) h⟩
 ·refine ⟨_,cap,by rw [yAG],by rw [yAG];exact g3,fun _=>⟨g,0,rfl,?_,?_⟩⟩
  ·have hgs:g < w'.heap.size:=(Array.getElem?_eq_some_iff.1 g2).1
   refine ⟨hgs,fun hx=>?_,fun r row hr=>?_⟩
   ·have:=hs.hid g hx;omega
   ·have:=(hs.live r row hr).1.lt;omega
  ·rw [Cells_flat]
   refine ⟨fun d hd=>by obtain ⟨p,_,rfl⟩:=yBC.1 hd;rfl,?_⟩
   have hfm:(l.map fun p=>D.v (sV p.1)).flatMap D.cells = (l.map fun p=>sV p.1).map D.v:=by
    rw [yBO]
    exact cells_sV l
   rw [hfm,Flat_values]
   refine ⟨?_,l.map (fun p=>sV p.1),?_,fun i hi=>?_⟩
   ·rw [yAR]
    intro d hd
    rw [yBO] at hd
    obtain ⟨p,_,rfl⟩:=yBC.1 hd
    rfl
   ·generalize l.map (fun p=>sV p.1) = vs
    induction vs with
    | nil=>simp [VRels]
    | cons a vs ih=>rw [yAL,VRels];exact ⟨a,vs,rfl,by rw [VRel],ih⟩
   ·rw [yAT]
    have e:(l.map fun p=>sV p.1)[i]? = cur[i]?:=by
     rw [<- g6,List.getElem?_take_of_lt (by rw [yAG] at hi;omega),Array.getElem?_toList]
    rw [e]
    simp [World.cell?,g2]
open Go Go.Ab Go.T Go.Proofs
def zCq {H:Heap} {a r:Nat} {x:Option Row} (ha:a < H.length):Heap.get (H.set a x) r = if r = a then x else H.get r:=Heap.get_set H ha x r
def g_push {H:Heap} {x:Option Row} {r:Nat}:Heap.get (H ++ [x]) r = if r = H.length then x else H.get r:=Heap.get_push H x r
def nm_get {fr:List Nm} {i:Nat} (h:i < fr.length):(fr.map fun n=>(.v (sV n):D))[((i:Nat):Int).toNat]? = some (.v (sV fr[i])):=by simp [h]
def mpn {D1:D -> Prop}:zCx Tryz.prog .eql 69 (.v (.map none)) (.v (.map none)) D1 = D1 (.v (.bool true)):=nil_mpn (k:=9) (e:=66) (by kernel_rfl)
def mpr {D1:D -> Prop} {r:Nat}:zCx Tryz.prog .eql 69 (.mp r) (.v (.map none)) D1 = D1 (.v (.bool false)):=nil_mp (k:=9) (e:=66) (by kernel_rfl)
def ptn {D1:D -> Prop}:zCx Tryz.prog .eql 66 (.v (.pointer none)) (.v (.pointer none)) D1 = D1 (.v (.bool true)):=nil_ptn (e:=71) (by kernel_rfl)
def ptr {D1:D -> Prop} {r i o:Nat}:zCx Tryz.prog .eql 66 (.pt r i o) (.v (.pointer none)) D1 = D1 (.v (.bool false)):=nil_pt (e:=71) (by kernel_rfl)
def one_mn:(D.v (.map none)).one = true:=rfl
def zBb {x:Int} (h1:-9223372036854775808 <= x) (h2:x < 9223372036854775808):IntKind.i64.wrap x = x:=by
 have e:IntKind.i64.wrap x = (if x % 18446744073709551616 >= 9223372036854775808 then x % 18446744073709551616 - 18446744073709551616 else x % 18446744073709551616):=by
  simp [IntKind.wrap,IntKind.bits,IntKind.signed]
 rw [e]
 split
 ·rename_i h;omega
 ·rename_i h;omega
def tdiv_b {w:Int} (hw:-1099511627776 <= w /\ w <= 1099511627776):-1048576 <= w.tdiv 1048576 /\ w.tdiv 1048576 <= 1048576 /\ -1048576 <= w.tmod 1048576 /\ w.tmod 1048576 <= 1048576:=by
 rcases Int.le_total 0 w with h | h
 ·rw [Int.tdiv_eq_ediv_of_nonneg h,Int.tmod_eq_emod_of_nonneg h];omega
 ·obtain ⟨v,rfl⟩:∃ v,w = -v:=⟨-w,by omega⟩
  rw [Int.neg_tdiv,Int.neg_tmod,Int.tdiv_eq_ediv_of_nonneg (by omega),Int.tmod_eq_emod_of_nonneg (by omega)];omega
def F62_eq {u r w:Int} (hw:-1099511627776 <= w /\ w <= 1099511627776) (hu:-1099511627776000000 <= u /\ u <= 1099511627776000000) (hr:-1099511627776000000 <= r /\ r <= 1099511627776000000):F62 ((u,r),w) = some (u + w.tdiv 1048576,r + w.tmod 1048576):=by
 have b:=tdiv_b hw
 unfold F62
 have e1:iquo .i64 w 1048576 = w.tdiv 1048576:=zBb (by omega) (by omega)
 have e2:irem w 1048576 = w.tmod 1048576:=rfl
 have e3:∀ a b:Int,-9223372036854775808 <= a + b -> a + b < 9223372036854775808 -> zBA .i64 a b = a + b:=fun a b h1 h2=>zBb h1 h2
 dsimp only
 rw [Go.Pl.zAG (show ine 1048576 0 = true from rfl),Go.Pl.zAG (show ine 1048576 0 = true from rfl),e1,e2,e3 _ _ (by omega) (by omega),e3 _ _ (by omega) (by omega)]
def q_plus {u r w:Int} (hw:-1099511627776 <= w /\ w <= 1099511627776) (hu:-1099511627776000000 <= u /\ u <= 1099511627776000000) (hr:-1099511627776000000 <= r /\ r <= 1099511627776000000):Pure Tryz.prog 62 [.agg [iD u,iD r],iD w] fun d=>d = .agg [iD (u + w.tdiv 1048576),iD (r + w.tmod 1048576)] :=
 pure_of (c:=c62) ok62 rfl rfl (x:=(((u,r):Int × Int),w)) (y:=((u + w.tdiv 1048576,r + w.tmod 1048576):Int × Int)) (fun v hv=>by
  have hv:v ∈ [(⟨.agg (.pr (.int .i64) (.int .i64)),((u,r):Int × Int)⟩:TV),⟨.int .i64,w⟩]:=hv
  simp only [yAE,yAf,or_false] at hv
  rcases hv with rfl | rfl <;> rfl) rfl (F62_eq hw hu hr)
def put_sum {a b d:D} {x y:Int}:putD true 2 (.agg [a,b,d]) 0 (.agg [iD x,iD y]) = some (.agg [iD x,iD y,d]):=rfl
def getM_none {es:MapD} {z:D}:getM es none z false = some z:=rfl
def same_s (n k:Nm):Instr.sameNow .string (sV n) (sV k) = some (n == k):=rfl
def nm_beq (a b:Nm):(a == b) = decide (a = b):=by
 rw [bytes_beq]
 by_cases h:a = b
 ·subst h;simp
 ·have:a.data ≠ b.data:=fun e=>h (by cases a;cases b;exact congrArg _ e)
  simp [h,this]
def find_gen {n:Nm}:∀ {es:List (Nat × Value × D)} (i:Nat),(∀ p ∈ es,∃ k,p.2.1 = sV k) -> (findD .string (sV n) es i = some none /\ (∀ p ∈ es,p.2.1 ≠ sV n)) \/ ∃ j p,findD .string (sV n) es i = some (some (i + j)) /\ es[j]? = some p /\ p.2.1 = sV n
 | [],i,_=>.inl ⟨rfl,by simp⟩
 | p :: es,i,h=>by
  obtain ⟨k,hk⟩:=h p yAN
  by_cases e:n = k
  ·subst e
   exact .inr ⟨0,p,by unfold findD;rw [hk,same_s,nm_beq];simp,rfl,hk⟩
  ·have hne:(n == k) = false:=by rw [nm_beq];simpa using e
   rcases find_gen (n:=n) (es:=es) (i + 1) (fun q hq=>h q (yAF _ hq)) with ⟨h1,h2⟩ | ⟨j,q,h1,h2,h3⟩
   ·refine .inl ⟨by unfold findD;rw [hk,same_s,hne];exact h1,fun q hq=>?_⟩
    rcases yAE.1 hq with rfl | hq
    ·rw [hk];exact fun e2=>e (Value.string.inj e2).symm
    ·exact h2 q hq
   ·exact .inr ⟨j + 1,q,by unfold findD;rw [hk,same_s,hne];rw [show i + (j + 1) = i + 1 + j by omega];exact h1,by simpa using h2,h3⟩
def MapOk.strs {es:List (Nat × Value × D)} {cl:Nat} {l:List (Nm × Nat)} (ho:MapOk es cl l):∀ p ∈ es,∃ k q,(k,q) ∈ l /\ p.2 = (sV k,pD q):=fun p hp=>by
 have:=ho.perm.subset (yAg (f:=fun p:Nat × Value × D=>(p.2.1,p.2.2)) hp)
 obtain ⟨x,hx,e⟩:=yBC.1 this
 exact ⟨x.1,x.2,hx,e.symm⟩
def map_find {es:List (Nat × Value × D)} {cl:Nat} {l:List (Nm × Nat)} (ho:MapOk es cl l) {n:Nm} (hn:n ∈ l.map (·.1)):∃ j b q,findD .string (sV n) es 0 = some (some j) /\ es[j]? = some (b,sV n,pD q) /\ (n,q) ∈ l:=by
 rcases find_gen (n:=n) (es:=es) 0 (fun p hp=>by obtain ⟨k,q,_,e⟩:=ho.strs p hp;exact ⟨k,by rw [e]⟩) with ⟨_,h2⟩ | ⟨j,p,h1,h2,h3⟩
 ·obtain ⟨x,hx,rfl⟩:=yBC.1 hn
  have:=ho.perm.symm.subset (yAg (f:=fun p:Nm × Nat=>(sV p.1,pD p.2)) hx)
  obtain ⟨p,hp,e⟩:=yBC.1 this
  exact absurd (congrArg Prod.fst e) (h2 p hp)
 ·obtain ⟨k,q,hkq,e⟩:=ho.strs p (yAt h2)
  obtain ⟨b,kk,dd⟩:=p
  have e:=Prod.mk.inj e
  obtain ⟨rfl,rfl⟩:=e
  have:=Value.string.inj h3
  subst this
  exact ⟨j,b,q,by rw [h1,yAT],h2,hkq⟩
def map_none {es:List (Nat × Value × D)} {cl:Nat} {l:List (Nm × Nat)} (ho:MapOk es cl l) {n:Nm} (hn:n ∉ l.map (·.1)):findD .string (sV n) es 0 = some none:=by
 rcases find_gen (n:=n) (es:=es) 0 (fun p hp=>by obtain ⟨k,q,_,e⟩:=ho.strs p hp;exact ⟨k,by rw [e]⟩) with ⟨h1,_⟩ | ⟨j,p,h1,h2,h3⟩
 ·exact h1
 ·obtain ⟨k,q,hkq,e⟩:=ho.strs p (yAt h2)
  rw [e] at h3
  have:=Value.string.inj h3
  subst this
  exact absurd (yAg (f:=(·.1)) hkq) hn
def Added (H:Heap) (c q:Nat) (s:Int) (F:Fo) (fp:List Nat) (fr:List Nm) (w:Int) (H':Heap):Prop :=
 ∃ fp',NodeAt H' (c + 1) q (insN (s,F) fr w).1 (insN (s,F) fr w).2 fp' /\ fp'.Nodup /\ (∀ r ∈ fp',r ∈ fp \/ H.length <= r) /\ H.length <= H'.length /\ ∀ r,r < H.length -> r ∉ fp -> H'.get r = H.get r
def Wand (Post:Heap -> Prop) (w:Int) (c:Nat) (H1:Heap) (q1:Nat) (s1:Int) (F1:Fo) (fp1:List Nat) (rest:List Nm):Prop :=
 ∀ H' fp1',NodeAt H' (c + 1) q1 (insN (s1,F1) rest w).1 (insN (s1,F1) rest w).2 fp1' -> fp1'.Nodup -> (∀ r ∈ fp1',r ∈ fp1 \/ H1.length <= r) -> H1.length <= H'.length -> (∀ r,r < H1.length -> r ∉ fp1 -> H'.get r = H1.get r) -> Post H'
def wand_refl {H:Heap} {c q:Nat} {s w:Int} {F:Fo} {fp:List Nat} {fr:List Nm}:Wand (Added H c q s F fp fr w) w c H q s F fp fr:=fun H' fp' h1 h2 h3 h4 h5=>⟨fp',h1,h2,h3,h4,h5⟩
section
variable {Post:Heap -> Prop} {w u r s1:Int} {c q1 m cl:Nat} {H1:Heap} {F1:Fo} {n:Nm} {rest:List Nm} {es:List (Nat × Value × D)} {l1:List (Nm × Nat)} {fpk:List Nat}
def wand_found {q2:Nat} (hW:Wand Post w c H1 q1 s1 F1 (q1 :: m :: fpk) (n :: rest)) (hq:H1.get q1 = some (.cells 3 [.agg [iD u,iD r,.mp m]])) (hm:H1.get m = some (.mp es cl)) (ho:MapOk es cl l1) (hk:KidsAt H1 c F1 l1 fpk) (hSm:Sm u r s1 c) (hnd:(q1 :: m :: fpk).Nodup) (hS:F1.Srt) (hmem:(n,q2) ∈ l1) :
  ∃ s2 sub fp2,NodeAt H1 c q2 s2 sub fp2 /\ fp2.Nodup /\ sub.Srt /\ Wand Post w c H1 q2 s2 sub fp2 rest:=by
 obtain ⟨hn1,hnd2⟩:=List.nodup_cons.1 hnd
 obtain ⟨hn2,hnd3⟩:=List.nodup_cons.1 hnd2
 obtain ⟨s2,sub,fp2,i1,i2,i3,i4,i5⟩:=kids_focus hk hS hnd3 hmem
 refine ⟨s2,sub,fp2,i1,i3,i4,fun H' fp2' g1 g2 g3 g4 g5=>?_⟩
 have hlt:=hk.lt
 obtain ⟨fp',j1,j2,j3⟩:=i5 H' fp2' (fun y=>insN y rest w) g1 (fun r hr hr1=>g5 r (hlt r hr) hr1) g2 g3
 have hq1:q1 ∉ fp2:=fun h=>hn1 (yAF _ (i2 _ h))
 have hm1:m ∉ fp2:=fun h=>hn2 (i2 _ h)
 have lq:=Heap.get_lt hq
 have lm:=Heap.get_lt hm
 refine hW H' (q1 :: m :: fp') ⟨u,r,.mp m,m :: fp',(g5 q1 lq hq1).trans hq,hSm.mono (yBG c),rfl,.inr ⟨m,es,cl,l1,fp',rfl,(g5 m lm hm1).trans hm,ho,rfl,j1⟩⟩ ?_ ?_ g4 fun r hr hr1=>?_
 ·refine List.nodup_cons.2 ⟨fun h=>?_,List.nodup_cons.2 ⟨fun h=>?_,j2⟩⟩
  ·rcases yAE.1 h with h | h
   ·exact hn1 (h ▸ yAN)
   ·rcases j3 _ h with h | h
    ·exact hn1 (yAF _ h)
    ·omega
  ·rcases j3 _ h with h | h
   ·exact hn2 h
   ·omega
 ·intro r hr
  rcases yAE.1 hr with rfl | hr
  ·exact .inl yAN
  rcases yAE.1 hr with rfl | hr
  ·exact .inl (yAF _ yAN)
  rcases j3 r hr with h | h
  ·exact .inl (yAF _ (yAF _ h))
  ·exact .inr h
 ·exact g5 r hr fun h=>hr1 (yAF _ (yAF _ (i2 r h)))
def wand_map (hW:Wand Post w c H1 q1 s1 .nil [q1] rest) (hq:H1.get q1 = some (.cells 3 [.agg [iD u,iD r,.v (.map none)]])) :
  Wand Post w c ((H1 ++ [some (Row.mp [] 0)]).set q1 (some (Row.cells 3 [.agg [iD u,iD r,.mp H1.length]]))) q1 s1 .nil [q1,H1.length] rest:=fun H' fp' g1 g2 g3 g4 g5=>by
 have lq:=Heap.get_lt hq
 have hl:((H1 ++ [some (Row.mp [] 0)]).set q1 (some (Row.cells 3 [.agg [iD u,iD r,.mp H1.length]]))).length = H1.length + 1:=by simp
 rw [hl] at g3 g4 g5
 refine hW H' fp' g1 g2 (fun r hr=>?_) (by omega) fun r hr hr1=>?_
 ·rcases g3 r hr with h | h
  ·simp only [yAE,yAf,or_false] at h ⊢
   rcases h with h | h
   ·exact .inl h
   ·exact .inr (by omega)
  ·exact .inr (by omega)
 ·have hr2:r ≠ q1:=fun h=>hr1 (by simp [h])
  rw [g5 r (by omega) (by simp only [yAE,yAf,or_false,not_or];omega),zCq (by simp;omega),if_neg hr2,g_push,if_neg (by omega)]
def wand_new (hW:Wand Post w c H1 q1 s1 F1 (q1 :: m :: fpk) (n :: rest)) (hq:H1.get q1 = some (.cells 3 [.agg [iD u,iD r,.mp m]])) (hm:H1.get m = some (.mp es cl)) (ho:MapOk es cl l1) (hk:KidsAt H1 c F1 l1 fpk) (hSm:Sm u r s1 c) (hnd:(q1 :: m :: fpk).Nodup) (hn:n ∉ F1.heads) :
  NodeAt ((H1 ++ [some (Row.cells 3 [.agg [iD 0,iD 0,.v (.map none)]])]).set m (some (Row.mp (es ++ [(cl,sV n,pD H1.length)]) (cl + 1)))) c H1.length 0 .nil [H1.length] /\
  Wand Post w c ((H1 ++ [some (Row.cells 3 [.agg [iD 0,iD 0,.v (.map none)]])]).set m (some (Row.mp (es ++ [(cl,sV n,pD H1.length)]) (cl + 1)))) H1.length 0 .nil [H1.length] rest:=by
 obtain ⟨hn1,hnd2⟩:=List.nodup_cons.1 hnd
 obtain ⟨hn2,hnd3⟩:=List.nodup_cons.1 hnd2
 have lq:=Heap.get_lt hq
 have lm:=Heap.get_lt hm
 have hlt:=hk.lt
 generalize hH2:((H1 ++ [some (Row.cells 3 [.agg [iD 0,iD 0,.v (.map none)]])]).set m (some (Row.mp (es ++ [(cl,sV n,pD H1.length)]) (cl + 1))):Heap) = H2
 have hl:H2.length = H1.length + 1:=by rw [<- hH2];simp
 have hget:∀ x,Heap.get H2 x = if x = m then some (.mp (es ++ [(cl,sV n,pD H1.length)]) (cl + 1)) else if x = H1.length then some (.cells 3 [.agg [iD 0,iD 0,.v (.map none)]]) else H1.get x:=fun x=>by
  rw [<- hH2,zCq (by simp;omega),g_push]
 refine ⟨⟨0,0,.v (.map none),[],by rw [hget,if_neg (by omega),if_pos rfl],⟨by omega,by omega,by omega,by omega,by omega⟩,rfl,.inl ⟨rfl,rfl,rfl⟩⟩,fun H' fp2 g1 g2 g3 g4 g5=>?_⟩
 rw [hl] at g3 g4 g5
 have old:∀ x,x < H1.length -> x ≠ m -> H'.get x = H1.get x:=fun x hx hxm=>by
  rw [g5 x (by omega) (by simp;omega),hget,if_neg hxm,if_neg (by omega)]
 have hge:∀ x ∈ fp2,H1.length <= x:=fun x hx=>by
  rcases g3 x hx with h | h
  ·simp at h;omega
  ·omega
 have hm':H'.get m = some (.mp (es ++ [(cl,sV n,pD H1.length)]) (cl + 1)):=by
  rw [g5 m (by omega) (by simp;omega),hget,if_pos rfl]
 obtain ⟨l',fp',j1,j2,j3,j4⟩:=kids_new (H:=H1) (g:=fun y=>insN y rest w) g1 g2 hge hk hnd3 hn fun x hx=>old x (hlt x hx) fun e=>hn2 (e ▸ hx)
 refine hW H' (q1 :: m :: fp') ⟨u,r,.mp m,m :: fp',(old q1 lq fun e=>hn1 (by simp [e])).trans hq,hSm.mono (yBG c),rfl,.inr ⟨m,_,_,l',fp',rfl,hm',⟨?_,?_,?_⟩,rfl,j1⟩⟩ ?_ ?_ (by omega) fun x hx hx1=>?_
 ·rw [yAV]
  refine (List.Perm.append_right _ ho.perm).trans ?_
  refine List.Perm.trans ?_ (j2.map _).symm
  rw [yAL]
  exact List.perm_append_comm
 ·rw [yAV]
  refine List.nodup_append.2 ⟨ho.nd,by simp,fun a ha b hb e=>?_⟩
  simp at hb
  have:=ho.lt a ha;omega
 ·intro b hb
  rw [yAV] at hb
  rcases yAO.1 hb with h | h
  ·have:=ho.lt b h;omega
  ·simp at h;omega
 ·refine List.nodup_cons.2 ⟨fun h=>?_,List.nodup_cons.2 ⟨fun h=>?_,j3⟩⟩
  ·rcases yAE.1 h with h | h
   ·exact hn1 (h ▸ yAN)
   ·rcases j4 _ h with h | h
    ·exact hn1 (yAF _ h)
    ·have:=hge _ h;omega
  ·rcases j4 _ h with h | h
   ·exact hn2 h
   ·have:=hge _ h;omega
 ·intro x hx
  rcases yAE.1 hx with rfl | hx
  ·exact .inl yAN
  rcases yAE.1 hx with rfl | hx
  ·exact .inl (yAF _ yAN)
  rcases j4 x hx with h | h
  ·exact .inl (yAF _ (yAF _ h))
  ·exact .inr (hge x h)
 ·exact old x hx fun e=>hx1 (by simp [e])
def wand_end {d:D} {fp':List Nat} (hW:Wand Post w c H1 q1 s1 F1 (q1 :: fp') []) (hq:H1.get q1 = some (.cells 3 [.agg [iD u,iD r,d]])) (hSm:Sm u r s1 c) (hCh:ChAt H1 c d F1 fp') (hnd:(q1 :: fp').Nodup) (hw:-1099511627776 <= w /\ w <= 1099511627776) :
  Post (H1.set q1 (some (Row.cells 3 [.agg [iD (u + w.tdiv 1048576),iD (r + w.tmod 1048576),d]]))):=by
 have lq:=Heap.get_lt hq
 obtain ⟨hn1,hnd2⟩:=List.nodup_cons.1 hnd
 refine hW _ (q1 :: fp') ⟨_,_,d,fp',by rw [zCq lq,if_pos rfl],?_,rfl,hCh.frame (yBG c) fun x hx=>by rw [zCq lq,if_neg (show x ≠ q1 from fun e=>hn1 (e ▸ hx))]⟩ hnd (fun x hx=>.inl hx) (by simp) fun x hx hx1=>by rw [zCq lq,if_neg (show x ≠ q1 from fun e=>hx1 (by simp [e]))]
 obtain ⟨h1,h2,h3,h4,h5⟩:=hSm
 have e1:=Int.tdiv_mul_add_tmod w 1048576
 have b1:-1048576 <= w.tdiv 1048576 /\ w.tdiv 1048576 <= 1048576 /\ -1048576 <= w.tmod 1048576 /\ w.tmod 1048576 <= 1048576:=by
  rcases Int.le_total 0 w with h | h
  ·rw [Int.tdiv_eq_ediv_of_nonneg h,Int.tmod_eq_emod_of_nonneg h];omega
  ·obtain ⟨v,rfl⟩:∃ v,w = -v:=⟨-w,by omega⟩
   rw [Int.neg_tdiv,Int.neg_tmod,Int.tdiv_eq_ediv_of_nonneg (by omega),Int.tmod_eq_emod_of_nonneg (by omega)];omega
 refine ⟨?_,?_,?_,?_,?_⟩
 ·show (u + w.tdiv 1048576) * 1048576 + (r + w.tmod 1048576) = s1 + w
  omega
 all_goals omega
end
open Go Go.Ab Go.Proofs Go.Proofs.YtbhcfbnkdbioaaaGreat.AbT
set_option maxHeartbeats 4000000 in
def q_add (H:Heap) (c q:Nat) (s w:Int) (F:Fo) (fp:List Nat) (fr:List Nm) (hN:NodeAt H c q s F fp) (hnd:fp.Nodup) (hS:F.Srt) (hw:-1099511627776 <= w /\ w <= 1099511627776) (hc:c < 1000000) (hl:fr.length <= 1000000):Sound Tryz.prog 45 [pD q,.fz 1 (fr.map fun n=>.v (sV n)),iD w] H (fun d H'=>d = .tup [] /\ Added H c q s F fp fr w H'):=by
 refine zBq Tryz.func45 rfl (by kernel_rfl) Tryz.ntmps45 (by simp) ?_
 have hlen:(fr.map fun n=>(.v (sV n):D)).length = fr.length:=yAG ..
 refine zAI fun Y0 hY0=>?_
 refine zAI fun Y1 hY1=>?_
 refine zAJ ?_
 try simp only [↓zAN,EVq,TY,zAF,↓reduceIte,Nat.reduceLT,Nat.reduceLeDiff,Nat.reduceEqDiff,Nat.reduceAdd,Nat.reduceMul,Int.reduceLE,eq_self]
 refine zAD [0,2,9,10,11] ?_
 simp only [KQ,↓KP,↓reduceIte,Nat.reduceEqDiff]
 subst hY1
 refine zDA ?_
 refine zAD [0,2,9,10,11] ?_
 simp only [KQ,↓KP,↓reduceIte,Nat.reduceEqDiff]
 refine run_loop' (fun m e H1=>∃ (i q1:Nat) (s1:Int) (F1:Fo) (fp1:List Nat),m = fr.length - i /\ i <= fr.length /\ NodeAt H1 c q1 s1 F1 fp1 /\ fp1.Nodup /\ F1.Srt /\ Wand (Added H c q s F fp fr w) w c H1 q1 s1 F1 fp1 (fr.drop i) /\ e = envL [(0,pD q1),(2,iD w),(9,.fz 1 (fr.map fun n=>.v (sV n))),(10,iD (fr.map fun n=>(.v (sV n):D)).length),(11,iD (i:Nat))]) fr.length
  ⟨0,q,s,F,fp,by simp,by omega,hN,hnd,hS,wand_refl,rfl⟩ ?_
 intro C hC m e H1 ih hI
 obtain ⟨i,q1,s1,F1,fp1,rfl,hi,hN1,hnd1,hS1,hW,rfl⟩:=hI
 obtain ⟨u,r,d,fp',hq,hSm,rfl,hCh⟩:=id hN1
 refine zAI fun Y2 hY2=>?_
 refine zAJ ?_
 try simp only [↓zAN,EVq,TY,zAF,↓reduceIte,Nat.reduceLT,Nat.reduceLeDiff,Nat.reduceEqDiff,Nat.reduceAdd,Nat.reduceMul,Int.reduceLE,eq_self]
 refine zAD [0,2,9,10,11,12] ?_
 simp only [KQ,↓KP,↓reduceIte,Nat.reduceEqDiff]
 subst hY2
 refine zAI fun Y3 hY3=>?_
 first | refine run_if (by simp only [↓zAZ,↓zAd,↓zAq,↓zAV,↓reduceIte,Nat.reduceEqDiff] <;> rfl) (fun h12=>?_) fun h12=>?_ | refine zCo (by simp only [↓zAZ,↓zAd,↓zAq,↓zAV,↓reduceIte,Nat.reduceEqDiff] <;> rfl) (fun h12=>?_) fun h12=>?_
 ·refine zBZ ?_
  subst hY3
  refine zAI fun Y4 hY4=>?_
  refine zDA ?_
  refine zAI fun Y5 hY5=>?_
  have hi:i < fr.length:=by omega
  refine zAJ ?_
  try simp only [nm_get hi,↓zAN,EVq,TY,zAF,↓reduceIte,Nat.reduceLT,Nat.reduceLeDiff,Nat.reduceEqDiff,Nat.reduceAdd,Nat.reduceMul,Int.reduceLE,eq_self]
  refine zBi (by omega) ?_
  try simp only [nm_get hi,↓zAN,EVq,TY,zAF,↓reduceIte,Nat.reduceLT,Nat.reduceLeDiff,Nat.reduceEqDiff,Nat.reduceAdd,Nat.reduceMul,Int.reduceLE,eq_self]
  refine zAD [0,2,7,9,10,11] ?_
  simp only [KQ,↓KP,↓reduceIte,Nat.reduceEqDiff]
  subst hY5
  refine zAI fun Y6 hY6=>?_
  refine zAI fun Y7 hY7=>?_
  rcases hCh with ⟨rfl,rfl,rfl⟩ | ⟨m,es,cl,l1,fpk,rfl,hm,ho,rfl,hk⟩
  rotate_left
  rcases Classical.em (fr[i] ∈ F1.heads) with hn | hn
  ·have hn:=hn
   rw [<- hk.heads] at hn
   obtain ⟨j,bb,q2,hf,hj,hmem⟩:=map_find ho hn
   refine zAJ ?_
   try simp only [hq,mpr,↓zAN,EVq,TY,zAF,↓reduceIte,Nat.reduceLT,Nat.reduceLeDiff,Nat.reduceEqDiff,Nat.reduceAdd,Nat.reduceMul,Int.reduceLE,eq_self]
   refine zAD [0,2,7,9,10,11,19] ?_
   simp only [KQ,↓KP,↓reduceIte,Nat.reduceEqDiff]
   subst hY7
   refine run_if_f (by simp only [↓zAZ,↓zAd,↓zAq,↓zAV,↓reduceIte,Nat.reduceEqDiff] <;> rfl) ?_
   refine zBZ ?_
   subst hY6
   refine zAI fun Y8 hY8=>?_
   refine zAJ ?_
   try simp only [hq,hm,hf,getM,hj,↓zAN,EVq,TY,zAF,↓reduceIte,Nat.reduceLT,Nat.reduceLeDiff,Nat.reduceEqDiff,Nat.reduceAdd,Nat.reduceMul,Int.reduceLE,eq_self]
   refine zAD [0,2,7,8,9,10,11] ?_
   simp only [KQ,↓KP,↓reduceIte,Nat.reduceEqDiff]
   subst hY8
   refine zAI fun Y9 hY9=>?_
   refine zAI fun Y10 hY10=>?_
   refine zAJ ?_
   try simp only [ptr,↓zAN,EVq,TY,zAF,↓reduceIte,Nat.reduceLT,Nat.reduceLeDiff,Nat.reduceEqDiff,Nat.reduceAdd,Nat.reduceMul,Int.reduceLE,eq_self]
   refine zAD [0,2,7,8,9,10,11,31] ?_
   simp only [KQ,↓KP,↓reduceIte,Nat.reduceEqDiff]
   subst hY10
   refine run_if_f (by simp only [↓zAZ,↓zAd,↓zAq,↓zAV,↓reduceIte,Nat.reduceEqDiff] <;> rfl) ?_
   refine zBZ ?_
   subst hY9
   refine zAJ ?_
   try simp only [↓zAN,EVq,TY,zAF,↓reduceIte,Nat.reduceLT,Nat.reduceLeDiff,Nat.reduceEqDiff,Nat.reduceAdd,Nat.reduceMul,Int.reduceLE,eq_self]
   refine zAD [0,2,9,10,11] ?_
   simp only [KQ,↓KP,↓reduceIte,Nat.reduceEqDiff]
   refine zAr ?_
   subst hY4
   refine zAJ ?_
   try simp only [↓zAN,EVq,TY,zAF,↓reduceIte,Nat.reduceLT,Nat.reduceLeDiff,Nat.reduceEqDiff,Nat.reduceAdd,Nat.reduceMul,Int.reduceLE,eq_self]
   refine zAD [0,2,9,10,11] ?_
   simp only [KQ,↓KP,↓reduceIte,Nat.reduceEqDiff]
   refine zAD [0,2,9,10,11] ?_
   simp only [KQ,↓KP,↓reduceIte,Nat.reduceEqDiff]
   have e1:IntKind.i64.wrap ((i:Int) + 1) = ((i + 1:Nat):Int):=by rw [zBb (by omega) (by omega)];omega
   rw [e1]
   rw [yAX hi] at hW
   obtain ⟨s2,sub,fp2,g1,g2,g3,g4⟩:=wand_found hW hq hm ho hk hSm hnd1 hS1 hmem
   exact ih (fr.length - (i + 1)) _ _ (by omega) ⟨i + 1,q2,s2,sub,fp2,rfl,by omega,g1,g2,g3,g4,rfl⟩
  ·have hn2:=hn
   rw [<- hk.heads] at hn2
   have hf:=map_none ho hn2
   refine zAJ ?_
   try simp only [hq,mpr,↓zAN,EVq,TY,zAF,↓reduceIte,Nat.reduceLT,Nat.reduceLeDiff,Nat.reduceEqDiff,Nat.reduceAdd,Nat.reduceMul,Int.reduceLE,eq_self]
   refine zAD [0,2,7,9,10,11,19] ?_
   simp only [KQ,↓KP,↓reduceIte,Nat.reduceEqDiff]
   subst hY7
   refine run_if_f (by simp only [↓zAZ,↓zAd,↓zAq,↓zAV,↓reduceIte,Nat.reduceEqDiff] <;> rfl) ?_
   refine zBZ ?_
   subst hY6
   refine zAI fun Y11 hY11=>?_
   refine zAJ ?_
   try simp only [hq,hm,hf,getM_none,↓zAN,EVq,TY,zAF,↓reduceIte,Nat.reduceLT,Nat.reduceLeDiff,Nat.reduceEqDiff,Nat.reduceAdd,Nat.reduceMul,Int.reduceLE,eq_self]
   refine zAD [0,2,7,8,9,10,11] ?_
   simp only [KQ,↓KP,↓reduceIte,Nat.reduceEqDiff]
   subst hY11
   refine zAI fun Y12 hY12=>?_
   refine zAI fun Y13 hY13=>?_
   refine zAJ ?_
   try simp only [ptn,↓zAN,EVq,TY,zAF,↓reduceIte,Nat.reduceLT,Nat.reduceLeDiff,Nat.reduceEqDiff,Nat.reduceAdd,Nat.reduceMul,Int.reduceLE,eq_self]
   refine zAD [0,2,7,8,9,10,11,31] ?_
   simp only [KQ,↓KP,↓reduceIte,Nat.reduceEqDiff]
   subst hY13
   refine run_if_t (by simp only [↓zAZ,↓zAd,↓zAq,↓zAV,↓reduceIte,Nat.reduceEqDiff] <;> rfl) ?_
   refine zAI fun Y14 hY14=>?_
   refine zAJ ?_
   try simp only [one_mn,↓zAN,EVq,TY,zAF,↓reduceIte,Nat.reduceLT,Nat.reduceLeDiff,Nat.reduceEqDiff,Nat.reduceAdd,Nat.reduceMul,Int.reduceLE,eq_self]
   refine zAD [0,2,7,8,9,10,11] ?_
   simp only [KQ,↓KP,↓reduceIte,Nat.reduceEqDiff]
   subst hY14
   have hq8:Heap.get (H1 ++ [some (Row.cells 3 [.agg [iD 0,iD 0,.v (.map none)]])]) q1 = _:=(g_push.trans (if_neg (by have:=Heap.get_lt hq;omega))).trans hq
   have hm8:Heap.get (H1 ++ [some (Row.cells 3 [.agg [iD 0,iD 0,.v (.map none)]])]) m = _:=(g_push.trans (if_neg (by have:=Heap.get_lt hm;omega))).trans hm
   refine zAJ ?_
   try simp only [hq8,hm8,hf,updM,↓zAN,EVq,TY,zAF,↓reduceIte,Nat.reduceLT,Nat.reduceLeDiff,Nat.reduceEqDiff,Nat.reduceAdd,Nat.reduceMul,Int.reduceLE,eq_self]
   refine zAD [2,8,9,10,11] ?_
   simp only [KQ,↓KP,↓reduceIte,Nat.reduceEqDiff]
   subst hY12
   refine zAJ ?_
   try simp only [↓zAN,EVq,TY,zAF,↓reduceIte,Nat.reduceLT,Nat.reduceLeDiff,Nat.reduceEqDiff,Nat.reduceAdd,Nat.reduceMul,Int.reduceLE,eq_self]
   refine zAD [0,2,9,10,11] ?_
   simp only [KQ,↓KP,↓reduceIte,Nat.reduceEqDiff]
   refine zAr ?_
   subst hY4
   refine zAJ ?_
   try simp only [↓zAN,EVq,TY,zAF,↓reduceIte,Nat.reduceLT,Nat.reduceLeDiff,Nat.reduceEqDiff,Nat.reduceAdd,Nat.reduceMul,Int.reduceLE,eq_self]
   refine zAD [0,2,9,10,11] ?_
   simp only [KQ,↓KP,↓reduceIte,Nat.reduceEqDiff]
   refine zAD [0,2,9,10,11] ?_
   simp only [KQ,↓KP,↓reduceIte,Nat.reduceEqDiff]
   have e1:IntKind.i64.wrap ((i:Int) + 1) = ((i + 1:Nat):Int):=by rw [zBb (by omega) (by omega)];omega
   rw [e1]
   rw [yAX hi] at hW
   obtain ⟨g1,g2⟩:=wand_new hW hq hm ho hk hSm hnd1 hn
   exact ih (fr.length - (i + 1)) _ _ (by omega) ⟨i + 1,_,0,.nil,_,rfl,by omega,g1,by simp,trivial,g2,rfl⟩
  ·
    refine zAJ ?_
    try simp only [hq,mpn,↓zAN,EVq,TY,zAF,↓reduceIte,Nat.reduceLT,Nat.reduceLeDiff,Nat.reduceEqDiff,Nat.reduceAdd,Nat.reduceMul,Int.reduceLE,eq_self]
    refine zAD [0,2,7,9,10,11,19] ?_
    simp only [KQ,↓KP,↓reduceIte,Nat.reduceEqDiff]
    subst hY7
    refine run_if_t (by simp only [↓zAZ,↓zAd,↓zAq,↓zAV,↓reduceIte,Nat.reduceEqDiff] <;> rfl) ?_
    have hq4:Heap.get (H1 ++ [some (Row.mp [] 0)]) q1 = _:=(g_push.trans (if_neg (by have:=Heap.get_lt hq;omega))).trans hq
    refine zAJ ?_
    try simp only [hq4,↓zAN,EVq,TY,zAF,↓reduceIte,Nat.reduceLT,Nat.reduceLeDiff,Nat.reduceEqDiff,Nat.reduceAdd,Nat.reduceMul,Int.reduceLE,eq_self]
    refine zAD [0,2,7,9,10,11] ?_
    simp only [KQ,↓KP,↓reduceIte,Nat.reduceEqDiff]
    subst hY6
    refine zAI fun Y15 hY15=>?_
    have lq:=Heap.get_lt hq
    have hW:=wand_map hW hq
    generalize hH2:(List.set (H1 ++ [some (Row.mp [] 0)]) q1 (some (Row.cells 3 [D.agg [iD u,iD r,D.mp (List.length H1)]])):Heap) = H2 at hW ⊢
    have hq:Heap.get H2 q1 = some (.cells 3 [.agg [iD u,iD r,.mp H1.length]]):=by rw [<- hH2,zCq (by simp;omega),if_pos rfl]
    have hm:Heap.get H2 H1.length = some (.mp [] 0):=by rw [<- hH2,zCq (by simp;omega),if_neg (by omega),g_push,if_pos rfl]
    have hnd1:[q1,H1.length].Nodup:=by simp;omega
    have ho:MapOk [] 0 []:=⟨.refl _,List.nodup_nil,by simp⟩
    have hk:KidsAt H2 c .nil [] []:=⟨rfl,rfl⟩
    have hf:findD .string (sV fr[i]) [] 0 = some none:=rfl
    have hn:fr[i] ∉ Fo.nil.heads:=by simp [Fo.heads]
    refine zAJ ?_
    try simp only [hq,hm,hf,getM_none,↓zAN,EVq,TY,zAF,↓reduceIte,Nat.reduceLT,Nat.reduceLeDiff,Nat.reduceEqDiff,Nat.reduceAdd,Nat.reduceMul,Int.reduceLE,eq_self]
    refine zAD [0,2,7,8,9,10,11] ?_
    simp only [KQ,↓KP,↓reduceIte,Nat.reduceEqDiff]
    subst hY15
    refine zAI fun Y16 hY16=>?_
    refine zAI fun Y17 hY17=>?_
    refine zAJ ?_
    try simp only [ptn,↓zAN,EVq,TY,zAF,↓reduceIte,Nat.reduceLT,Nat.reduceLeDiff,Nat.reduceEqDiff,Nat.reduceAdd,Nat.reduceMul,Int.reduceLE,eq_self]
    refine zAD [0,2,7,8,9,10,11,31] ?_
    simp only [KQ,↓KP,↓reduceIte,Nat.reduceEqDiff]
    subst hY17
    refine run_if_t (by simp only [↓zAZ,↓zAd,↓zAq,↓zAV,↓reduceIte,Nat.reduceEqDiff] <;> rfl) ?_
    refine zAI fun Y18 hY18=>?_
    refine zAJ ?_
    try simp only [one_mn,↓zAN,EVq,TY,zAF,↓reduceIte,Nat.reduceLT,Nat.reduceLeDiff,Nat.reduceEqDiff,Nat.reduceAdd,Nat.reduceMul,Int.reduceLE,eq_self]
    refine zAD [0,2,7,8,9,10,11] ?_
    simp only [KQ,↓KP,↓reduceIte,Nat.reduceEqDiff]
    subst hY18
    have hq8:Heap.get (H2 ++ [some (Row.cells 3 [.agg [iD 0,iD 0,.v (.map none)]])]) q1 = _:=(g_push.trans (if_neg (by have:=Heap.get_lt hq;omega))).trans hq
    have hm8:Heap.get (H2 ++ [some (Row.cells 3 [.agg [iD 0,iD 0,.v (.map none)]])]) H1.length = _:=(g_push.trans (if_neg (by have:=Heap.get_lt hm;omega))).trans hm
    refine zAJ ?_
    try simp only [hq8,hm8,hf,updM,↓zAN,EVq,TY,zAF,↓reduceIte,Nat.reduceLT,Nat.reduceLeDiff,Nat.reduceEqDiff,Nat.reduceAdd,Nat.reduceMul,Int.reduceLE,eq_self]
    refine zAD [2,8,9,10,11] ?_
    simp only [KQ,↓KP,↓reduceIte,Nat.reduceEqDiff]
    subst hY16
    refine zAJ ?_
    try simp only [↓zAN,EVq,TY,zAF,↓reduceIte,Nat.reduceLT,Nat.reduceLeDiff,Nat.reduceEqDiff,Nat.reduceAdd,Nat.reduceMul,Int.reduceLE,eq_self]
    refine zAD [0,2,9,10,11] ?_
    simp only [KQ,↓KP,↓reduceIte,Nat.reduceEqDiff]
    refine zAr ?_
    subst hY4
    refine zAJ ?_
    try simp only [↓zAN,EVq,TY,zAF,↓reduceIte,Nat.reduceLT,Nat.reduceLeDiff,Nat.reduceEqDiff,Nat.reduceAdd,Nat.reduceMul,Int.reduceLE,eq_self]
    refine zAD [0,2,9,10,11] ?_
    simp only [KQ,↓KP,↓reduceIte,Nat.reduceEqDiff]
    refine zAD [0,2,9,10,11] ?_
    simp only [KQ,↓KP,↓reduceIte,Nat.reduceEqDiff]
    have e1:IntKind.i64.wrap ((i:Int) + 1) = ((i + 1:Nat):Int):=by rw [zBb (by omega) (by omega)];omega
    rw [e1]
    rw [yAX hi] at hW
    obtain ⟨g1,g2⟩:=wand_new hW hq hm ho hk hSm hnd1 hn
    exact ih (fr.length - (i + 1)) _ _ (by omega) ⟨i + 1,_,0,.nil,_,rfl,by omega,g1,by simp,trivial,g2,rfl⟩
 ·refine run_exit (by rfl) ?_
  subst hY0
  obtain ⟨hS0,hS2,hS3,hS4,hS5⟩:=id hSm
  refine zAJ ?_
  try simp only [hq,put_sum,↓zAN,EVq,TY,zAF,↓reduceIte,Nat.reduceLT,Nat.reduceLeDiff,Nat.reduceEqDiff,Nat.reduceAdd,Nat.reduceMul,Int.reduceLE,eq_self]
  refine zCS ((q_plus (u:=u) (r:=r) hw ⟨by omega,by omega⟩ ⟨by omega,by omega⟩).frame (by simp [zAg,D.noref]) _).sound (fun d Hx hd=>?_)
  obtain ⟨rfl,rfl⟩:=hd
  try simp only [hq,put_sum,↓zAN,EVq,TY,zAF,↓reduceIte,Nat.reduceLT,Nat.reduceLeDiff,Nat.reduceEqDiff,Nat.reduceAdd,Nat.reduceMul,Int.reduceLE,eq_self]
  refine zAD [] ?_
  simp only [KQ,↓KP,↓reduceIte,Nat.reduceEqDiff]
  refine run_end Tryz.func45 Tryz.results45 (by simp only [aRes,↓zAZ,↓KP,KQ,↓reduceIte,Nat.reduceEqDiff,zBU,TY] <;> rfl) (Weak.refl _ _ _) ?_
  refine ⟨rfl,?_⟩
  rw [List.drop_eq_nil_of_le (by omega)] at hW
  exact wand_end hW hq hSm hCh hnd1 hw
def Fo.vis:Fo -> Int -> Nat -> List FN
 | .nil,_,_=>[]
 | .cons n s sub rest,par,pl =>
  (if s = 0 /\ sub.vis pl (pl + 1) = [] then [] else (par,n,s) :: sub.vis pl (pl + 1)) ++ rest.vis par (pl + (if s = 0 /\ sub.vis pl (pl + 1) = [] then [] else (par,n,s) :: sub.vis pl (pl + 1)).length)
def wOk (s:Int):Bool:=decide (-1099511627776 <= s /\ s <= 1099511627776)
def Fo.okW:Fo -> Bool
 | .nil=>true
 | .cons _ s sub rest=>wOk s && (sub.okW && rest.okW)
def Fo.Nms:Fo -> Prop
 | .nil=>True
 | .cons n _ sub rest=>n.size <= 60 /\ sub.Nms /\ rest.Nms
abbrev fD (p:FN):D:=.agg [iD p.1,.v (.string p.2.1),iD p.2.2]
def TrieRow (row:Row):Prop:=(∃ u r d,row = .cells 3 [.agg [iD u,iD r,d]]) \/ (∃ es cl,row = .mp es cl) \/ ∃ f a b,row = .cells 1 [.fn f a b]
def Keep (H H':Heap):Prop:=H.length <= H'.length /\ ∀ x row,H.get x = some row -> TrieRow row -> H'.get x = some row
def Keep.refl (H:Heap):Keep H H:=⟨yAJ _,fun _ _ h _=>h⟩
def Keep.trans {A B C:Heap} (h:Keep A B) (g:Keep B C):Keep A C:=⟨yBN h.1 g.1,fun x row h1 h2=>g.2 x row (h.2 x row h1 h2) h2⟩
def KidsAt.rows {H:Heap} {c:Nat}:∀ {F:Fo} {l:List (Nm × Nat)} {fp:List Nat},KidsAt H c F l fp -> ∀ r ∈ fp,∃ row,H.get r = some row /\ TrieRow row
 | .nil,l,fp,h,r,hr=>by rw [h.2] at hr;cases hr
 | .cons n s sub rest,l,fp,h,r,hr=>by
  rw [KidsAt] at h
  obtain ⟨q,l',fp1,fp2,h1,rfl,⟨u,r',d,h3,h4,h5⟩,h6⟩:=h
  rcases yAO.1 hr with hr | hr
  ·rcases yAE.1 hr with rfl | hr
   ·exact ⟨_,h3,.inl ⟨_,_,_,rfl⟩⟩
   ·rcases h5 with ⟨_,_,rfl⟩ | ⟨m,es,cl,l1,fp',g1,g2,g3,rfl,g5⟩
    ·cases hr
    ·rcases yAE.1 hr with rfl | hr
     ·exact ⟨_,g2,.inr (.inl ⟨_,_,rfl⟩)⟩
     ·exact KidsAt.rows g5 r hr
  ·exact KidsAt.rows h6 r hr
def KidsAt.keep {H H':Heap} {c:Nat} {F:Fo} {l:List (Nm × Nat)} {fp:List Nat} (h:KidsAt H c F l fp) (hk:Keep H H'):KidsAt H' c F l fp :=
 h.frame (yAJ c) fun r hr=>by obtain ⟨row,h1,h2⟩:=h.rows r hr;rw [hk.2 r row h1 h2,h1]
def FAt (H:Heap) (fc:Nat) (L:List FN):Prop:=(H.get fc = some (.cells 1 [.v (.slice none 0 0)]) /\ L = []) \/ ∃ r,H.get fc = some (.cells 1 [.sl r 0 L.length]) /\ H.get r = some (.cells 3 (L.map fD))
structure VS (H:Heap) (fc ac vc:Nat) (L:List FN) (b:Bool):Prop where
 f:FAt H fc L
 a:H.get ac = some (.cells 1 [.v (.bool b)])
 v:H.get vc = some (.cells 1 [.fn (.func 63) [] [pD ac,pD fc,pD vc]])
def Visited (H:Heap) (fc ac vc:Nat) (L:List FN) (b:Bool) (F:Fo) (par:Int) (H':Heap):Prop :=
 ∃ L',VS H' fc ac vc L' (b && F.okW) /\ L.length <= L'.length /\ L'.length <= L.length + F.len /\ (F.okW = true -> L' = L ++ F.vis par L.length) /\ Keep H H'
def F66_eq {u r s:Int} {c:Nat} (h:Sm u r s c) (hc:c <= 1000000):∃ x,F66 (u,r) = some (x,wOk s) /\ (wOk s = true -> x = s):=by
 obtain ⟨h1,h2,h3,h4,h5⟩:=h
 have e0:=Int.tdiv_mul_add_tmod r 1048576
 have b:-(c:Int) <= r.tdiv 1048576 /\ r.tdiv 1048576 <= c /\ -1048576 < r.tmod 1048576 /\ r.tmod 1048576 < 1048576:=by
  rcases Int.le_total 0 r with h | h
  ·rw [Int.tdiv_eq_ediv_of_nonneg h,Int.tmod_eq_emod_of_nonneg h];omega
  ·obtain ⟨v,rfl⟩:∃ v,r = -v:=⟨-r,by omega⟩
   rw [Int.neg_tdiv,Int.neg_tmod,Int.tdiv_eq_ediv_of_nonneg (by omega),Int.tmod_eq_emod_of_nonneg (by omega)];omega
 have e3:∀ a b:Int,-9223372036854775808 <= a + b -> a + b < 9223372036854775808 -> zBA .i64 a b = a + b:=fun a b h1 h2=>zBb h1 h2
 have e4:∀ a b:Int,-9223372036854775808 <= a * b -> a * b < 9223372036854775808 -> imul .i64 a b = a * b:=fun a b h1 h2=>zBb h1 h2
 have e5:iquo .i64 r 1048576 = r.tdiv 1048576:=zBb (by omega) (by omega)
 have e6:irem r 1048576 = r.tmod 1048576:=rfl
 have n1:ine 1048576 0 = true:=rfl
 unfold F66
 dsimp only
 rw [Go.Pl.zAG n1,e5,e6,e3 _ _ (by omega) (by omega),Go.Pl.pick_or,Go.Pl.zAe,Go.Pl.zAe,<- Bool.decide_or,Go.Pl.zCb]
 by_cases g:u + r.tdiv 1048576 < -1048577 \/ 1048577 < u + r.tdiv 1048576
 ·have:wOk s = false:=by unfold wOk;rw [decide_eq_false_iff_not];omega
  rw [if_pos g,this]
  exact ⟨0,rfl,fun h=>by cases h⟩
 ·rw [if_neg g,Go.Pl.zAG n1,e4 _ _ (by omega) (by omega),e3 _ _ (by omega) (by omega)]
  have es:(u + r.tdiv 1048576) * 1048576 + r.tmod 1048576 = s:=by omega
  rw [es]
  have hF:F53 s = some (wOk s):=by
   unfold F53 wOk
   rw [Go.Pl.zAu,Go.Pl.ile_d,Go.Pl.ile_d,<- Bool.decide_and]
  rw [Go.Pl.zAR hF]
  exact ⟨s,rfl,fun _=>rfl⟩
def q_value {u r s:Int} {c:Nat} (h:Sm u r s c) (hc:c <= 1000000):Pure Tryz.prog 66 [.agg [iD u,iD r]] fun d=>∃ x,d = .tup [iD x,.v (.bool (wOk s))] /\ (wOk s = true -> x = s):=by
 obtain ⟨x,hx,hs⟩:=F66_eq h hc
 refine Pure.mono (pure_of (c:=c66) ok66 rfl rfl (x:=((u,r):Int × Int)) (y:=((x,wOk s):Int × Bool)) (fun v hv=>by
  have hv:v ∈ [(⟨.agg (.pr (.int .i64) (.int .i64)),((u,r):Int × Int)⟩:TV)]:=hv
  simp only [yAE,yAf,or_false] at hv
  subst hv;rfl) rfl hx) fun d hd=>⟨x,hd,hs⟩
def q_sorted_nil (H:Heap) {b:Nat} (hb:H.get b = some (.bx (.v (.map none)))):Sound Tryz.prog 64 [.fn (.func 87) [] [pD b]] H fun r H'=>r = .fz 1 [] /\ H' = H:=by
 refine ⟨⟨Tryz.f64,Tryz.func64,by kernel_rfl,by kernel_rfl⟩,fun own X w vs hs hv=>?_⟩
 simp only [zCL,VRels,VRel] at hv
 obtain ⟨v1,_,rfl,⟨_,us,rfl,rfl,⟨v2,_,rfl,⟨hbl,rfl⟩,rfl⟩⟩,rfl⟩:=hv
 obtain ⟨⟨hbase,x,t,hxb,hx⟩,hXb⟩:=hs.live b _ hb
 rw [VRel] at hx
 subst hx
 have hbw:(own b).b < w.heap.size:=(hs.live b _ hb).1.lt
 have hcell:w.cell? ⟨(own b).b,0,none⟩ = some (.map none):=by simp [World.cell?,hxb]
 have hptr:(own b).base + 0 * (own b).k + 0 = 0:=by rw [hbase];omega
 rw [hptr]
 refine Calls.mono (callsIn_wide.1 (sorted_nil (own b).b w hbw hcell)) ?_
 rintro e w' ⟨v,ss,rfl,rfl,hrow,hnil,hbe⟩
 obtain ⟨h1,h2⟩:=Sim.outlives (own':=own) (X':=X) hs (fun b hb=>hb) (fun b hb'=>hbe.block b hb') hbe.size ⟨hbe.os,hbe.output,hbe.tape,fun h=>h.elim⟩
 refine ⟨own,.fz 1 [],H,v,rfl,h1,?_,h2,rfl,rfl⟩
 rw [Rel,VRel,hnil.2 rfl]
 exact ⟨none,0,rfl,yAJ _,fun h=>absurd rfl h⟩
def srt_heads:∀ {F:Fo},F.Srt -> F.heads.Pairwise fun a b=>slt a b = true
 | .nil,_=>List.Pairwise.nil
 | .cons n s sub rest,h=>yBE.2 ⟨h.1,srt_heads h.2.2⟩
def nms_heads:∀ {F:Fo},F.Nms -> ∀ n ∈ F.heads,n.size <= 60
 | .nil,_,n,h=>by cases h
 | .cons k s sub rest,h,n,hn=>by
  rcases yAE.1 hn with rfl | hn
  ·exact h.1
  ·exact nms_heads h.2.2 n hn
def heads_len:∀ F:Fo,F.heads.length <= F.len
 | .nil=>by simp [Fo.heads,Fo.len]
 | .cons n s sub rest=>by have:=heads_len rest;rw [Fo.heads,Fo.len,yAY];omega
def DOk (H:Heap) (d:D) (l:List (Nm × Nat)):Prop:=l = [] \/ ∃ m es cl,d = .mp m /\ H.get m = some (.mp es cl) /\ MapOk es cl l
def DOk.keep {H H':Heap} {d:D} {l:List (Nm × Nat)} (h:DOk H d l) (hk:Keep H H'):DOk H' d l:=by
 rcases h with h | ⟨m,es,cl,h1,h2,h3⟩
 ·exact .inl h
 ·exact .inr ⟨m,es,cl,h1,hk.2 m _ h2 (.inr (.inl ⟨_,_,rfl⟩)),h3⟩
def ch_list {H:Heap} {c:Nat} {d:D} {F:Fo} {fp:List Nat} (h:ChAt H c d F fp) (hS:F.Srt) (hN:F.Nms) (hl:F.len <= 1000000):((∃ m,d = .mp m) \/ d = .v (.map none)) /\ ∃ l fpk,KidsAt H c F l fpk /\ DOk H d l /\ (l.map (·.1)).Pairwise (fun a b=>slt a b = true) /\
  Sound Tryz.prog 64 [.fn (.func 87) [] [pD H.length]] (H ++ [some (.bx d)]) fun r H'=>r = .fz 1 (l.map fun p=>.v (sV p.1)) /\ H' = H ++ [some (.bx d)]:=by
 have hb:Heap.get (H ++ [some (Row.bx d)]) H.length = some (.bx d):=by rw [g_push,if_pos rfl]
 rcases h with ⟨rfl,rfl,rfl⟩ | ⟨m,es,cl,l,fp',rfl,hm,ho,rfl,hk⟩
 ·exact ⟨.inr rfl,[],[],⟨rfl,rfl⟩,.inl rfl,List.Pairwise.nil,q_sorted_nil _ hb⟩
 ·have hh:=hk.heads
  have hs:(l.map (·.1)).Pairwise fun a b=>slt a b = true:=by rw [hh];exact srt_heads hS
  have hm':Heap.get (H ++ [some (Row.bx (.mp m))]) m = some (.mp es cl):=by rw [g_push,if_neg (by have:=Heap.get_lt hm;omega)];exact hm
  have hll:l.length <= 1000000:=by
   have:=congrArg List.length hh
   rw [yAG] at this
   have:=heads_len F;omega
  exact ⟨.inl ⟨m,rfl⟩,l,fp',hk,.inr ⟨m,es,cl,rfl,hm,ho⟩,hs,q_sorted _ hb hm' ho hs (fun p hp=>nms_heads hN p.1 (by rw [<- hh];exact yAg (f:=(·.1)) hp)) hll⟩
def fst_inj:∀ {l:List (Nm × Nat)},(l.map (·.1)).Pairwise (fun a b=>slt a b = true) -> ∀ {n:Nm} {a b:Nat},(n,a) ∈ l -> (n,b) ∈ l -> a = b
 | [],_,n,a,b,h,_=>by cases h
 | (k,x) :: l,hp,n,a,b,h1,h2=>by
  rw [yAL] at hp
  have hp:=yBE.1 hp
  have no:∀ y,(k,y) ∈ l -> False:=fun y hy=>slt_irr k (hp.1 k (yAg (f:=(·.1)) hy))
  rcases yAE.1 h1 with e1 | h1 <;> rcases yAE.1 h2 with e2 | h2
  ·exact (Prod.mk.inj e1).2.trans (Prod.mk.inj e2).2.symm
  ·rw [(Prod.mk.inj e1).1] at h2;exact (no _ h2).elim
  ·rw [(Prod.mk.inj e2).1] at h1;exact (no _ h1).elim
  ·exact fst_inj hp.2 h1 h2
def keep_push (H:Heap) (x:Option Row):Keep H (H ++ [x]):=⟨by simp,fun y row h _=>by rw [g_push,if_neg (by have:=Heap.get_lt h;omega)];exact h⟩
def keep_set {H:Heap} {a:Nat} {x:Option Row} (ha:∃ row,H.get a = some row /\ ¬ TrieRow row):Keep H (H.set a x):=by
 obtain ⟨row,h1,h2⟩:=ha
 refine ⟨by simp,fun y row' h h'=>?_⟩
 rw [zCq (Heap.get_lt h1),if_neg (fun e=>by subst e;rw [h1] at h;exact h2 (yAA h ▸ h'))];exact h
def no_slice (d:D) (h:∀ f a b,d ≠ .fn f a b):¬ TrieRow (.cells 1 [d]):=by
 rintro (⟨u,r,d',e⟩ | ⟨es,cl,e⟩ | ⟨f,a,b,e⟩)
 ·simp at e
 ·cases e
 ·simp at e;exact h _ _ _ e
def no_flame (L:List FN):¬ TrieRow (.cells 3 (L.map fD)):=by
 rintro (⟨u,r,d',e⟩ | ⟨es,cl,e⟩ | ⟨f,a,b,e⟩)
 ·cases L with
  | nil=>simp at e
  | cons p L=>simp at e
 ·cases e
 ·simp at e
def VS.keep_f {H:Heap} {fc ac vc:Nat} {L:List FN} {b:Bool} (h:VS H fc ac vc L b):ac ≠ fc /\ vc ≠ fc /\ ac ≠ vc:=by
 refine ⟨fun e=>?_,fun e=>?_,fun e=>?_⟩
 ·subst e
  rcases h.f with ⟨h1,_⟩ | ⟨r,h1,_⟩ <;> (rw [h.a] at h1;simp at h1)
 ·subst e
  rcases h.f with ⟨h1,_⟩ | ⟨r,h1,_⟩ <;> (rw [h.v] at h1;simp at h1)
 ·subst e
  have:=h.a.symm.trans h.v;simp at this
def VS.push {H:Heap} {fc ac vc:Nat} {L:List FN} {b:Bool} (h:VS H fc ac vc L b) (x:Option Row):VS (H ++ [x]) fc ac vc L b:=by
 have g:∀ y row,H.get y = some row -> Heap.get (H ++ [x]) y = some row:=fun y row h=>by rw [g_push,if_neg (by have:=Heap.get_lt h;omega)];exact h
 refine ⟨?_,g _ _ h.a,g _ _ h.v⟩
 rcases h.f with ⟨h1,h2⟩ | ⟨r,h1,h2⟩
 ·exact .inl ⟨g _ _ h1,h2⟩
 ·exact .inr ⟨r,g _ _ h1,g _ _ h2⟩
def VS.flag {H:Heap} {fc ac vc:Nat} {L:List FN} {b:Bool} (h:VS H fc ac vc L b) (b':Bool):VS (H.set ac (some (Row.cells 1 [D.v (.bool b')]))) fc ac vc L b' /\ Keep H (H.set ac (some (Row.cells 1 [D.v (.bool b')]))):=by
 obtain ⟨n1,n2,n3⟩:=h.keep_f
 have la:=Heap.get_lt h.a
 have hk:Keep H (H.set ac (some (Row.cells 1 [D.v (.bool b')]))):=keep_set ⟨_,h.a,no_slice _ (by simp)⟩
 refine ⟨⟨?_,by rw [zCq la,if_pos rfl],hk.2 _ _ h.v (.inr (.inr ⟨_,_,_,rfl⟩))⟩,hk⟩
 rcases h.f with ⟨h1,h2⟩ | ⟨r,h1,h2⟩
 ·exact .inl ⟨by rw [zCq la,if_neg n1.symm];exact h1,h2⟩
 ·refine .inr ⟨r,by rw [zCq la,if_neg n1.symm];exact h1,?_⟩
  rw [zCq la,if_neg]
  ·exact h2
  ·rintro rfl
   have:=h.a.symm.trans h2;simp at this
def VS.app_nil {H:Heap} {fc ac vc:Nat} {b:Bool} (h:VS H fc ac vc [] b) (hf:H.get fc = some (.cells 1 [.v (.slice none 0 0)])) (p:FN) {X:Option Row} :
  VS ((H ++ [X] ++ [some (Row.cells 3 [fD p])]).set fc (some (Row.cells 1 [.sl (H ++ [X]).length 0 1]))) fc ac vc [p] b /\ Keep H ((H ++ [X] ++ [some (Row.cells 3 [fD p])]).set fc (some (Row.cells 1 [.sl (H ++ [X]).length 0 1]))):=by
 obtain ⟨n1,n2,n3⟩:=h.keep_f
 have lf:=Heap.get_lt hf
 have hl:(H ++ [X]).length = H.length + 1:=by simp
 have la:=Heap.get_lt h.a
 have lv:=Heap.get_lt h.v
 have hget:∀ x,Heap.get ((H ++ [X] ++ [some (Row.cells 3 [fD p])]).set fc (some (Row.cells 1 [.sl (H ++ [X]).length 0 1]))) x = if x = fc then some (Row.cells 1 [.sl (H.length + 1) 0 1]) else if x = H.length + 1 then some (Row.cells 3 [fD p]) else if x = H.length then X else H.get x:=fun x=>by
  rw [zCq (by simp;omega),g_push,g_push,hl]
 refine ⟨⟨.inr ⟨H.length + 1,hget fc |>.trans (if_pos rfl),((hget _).trans (if_neg (by omega))).trans (if_pos rfl)⟩,?_,?_⟩,by simp,fun x row hx ht=>?_⟩
 ·rw [hget,if_neg n1,if_neg (by omega),if_neg (by omega)];exact h.a
 ·rw [hget,if_neg n2,if_neg (by omega),if_neg (by omega)];exact h.v
 ·have hxl:=Heap.get_lt hx
  rw [hget,if_neg (fun e=>by subst e;rw [hf] at hx;exact no_slice _ (by simp) (yAA hx ▸ ht)),if_neg (by omega),if_neg (by omega)];exact hx
def VS.app_sl {H:Heap} {fc ac vc:Nat} {b:Bool} {L:List FN} (h:VS H fc ac vc L b) {rr:Nat} (hf:H.get fc = some (.cells 1 [.sl rr 0 L.length])) (hr:H.get rr = some (.cells 3 (L.map fD))) (p:FN) {X:Option Row} :
  VS (((H ++ [X]).set rr none ++ [some (Row.cells 3 (L.map fD ++ [fD p]))]).set fc (some (Row.cells 1 [.sl (H ++ [X]).length 0 (L.length + 1)]))) fc ac vc (L ++ [p]) b /\ Keep H (((H ++ [X]).set rr none ++ [some (Row.cells 3 (L.map fD ++ [fD p]))]).set fc (some (Row.cells 1 [.sl (H ++ [X]).length 0 (L.length + 1)]))):=by
 obtain ⟨n1,n2,n3⟩:=h.keep_f
 have lf:=Heap.get_lt hf
 have lr:=Heap.get_lt hr
 have hl:(H ++ [X]).length = H.length + 1:=by simp
 have la:=Heap.get_lt h.a
 have lv:=Heap.get_lt h.v
 have nrf:rr ≠ fc:=fun e=>by subst e;have:=hf.symm.trans hr;simp at this
 have nra:rr ≠ ac:=fun e=>by subst e;have:=h.a.symm.trans hr;simp at this
 have nrv:rr ≠ vc:=fun e=>by subst e;have:=h.v.symm.trans hr;simp at this
 have hget:∀ x,Heap.get (((H ++ [X]).set rr none ++ [some (Row.cells 3 (L.map fD ++ [fD p]))]).set fc (some (Row.cells 1 [.sl (H ++ [X]).length 0 (L.length + 1)]))) x = if x = fc then some (Row.cells 1 [.sl (H.length + 1) 0 (L.length + 1)]) else if x = H.length + 1 then some (Row.cells 3 (L.map fD ++ [fD p])) else if x = rr then none else if x = H.length then X else H.get x:=fun x=>by
  rw [zCq (by simp;omega),g_push,zCq (by simp;omega),g_push]
  simp only [yBK,hl]
 refine ⟨⟨.inr ⟨H.length + 1,by rw [hget,if_pos rfl];simp,by rw [hget,if_neg (by omega),if_pos rfl];simp⟩,?_,?_⟩,by simp;omega,fun x row hx ht=>?_⟩
 ·rw [hget,if_neg n1,if_neg (by omega),if_neg nra.symm,if_neg (by omega)];exact h.a
 ·rw [hget,if_neg n2,if_neg (by omega),if_neg nrv.symm,if_neg (by omega)];exact h.v
 ·have hxl:=Heap.get_lt hx
  rw [hget,if_neg (fun e=>by subst e;rw [hf] at hx;exact no_slice _ (by simp) (yAA hx ▸ ht)),if_neg (by omega),if_neg (fun e=>by subst e;rw [hr] at hx;exact no_flame L (yAA hx ▸ ht)),if_neg (by omega)];exact hx
def Visited.pre {H H1:Heap} {fc ac vc:Nat} {L:List FN} {b:Bool} {F:Fo} {par:Int} {H2:Heap} (h:Visited H1 fc ac vc L b F par H2) (hk:Keep H H1):Visited H fc ac vc L b F par H2:=by
 obtain ⟨L',h1,h2,h3,h4,h5⟩:=h
 exact ⟨L',h1,h2,h3,h4,hk.trans h5⟩
def kids_drop {H:Heap} {c:Nat} {F:Fo} {p:Nm × Nat} {l:List (Nm × Nat)} {fp:List Nat} (h:KidsAt H c F (p :: l) fp):∃ s2 sub rest fp1 fp2,F = .cons p.1 s2 sub rest /\ NodeAt H c p.2 s2 sub fp1 /\ KidsAt H c rest l fp2:=by
 cases F with
 | nil=>have:=h.1;cases this
 | cons n s sub rest =>
  obtain ⟨q,l',fp1,fp2,h1,_,h3,h4⟩:=kids_cons.1 h
  obtain ⟨rfl,rfl⟩:=List.cons.inj h1
  exact ⟨s,sub,rest,fp1,fp2,rfl,h3,h4⟩
def nm_get2 {l:List (Nm × Nat)} {i:Nat} (h:i < l.length):(l.map fun p=>(.v (sV p.1):D))[((i:Nat):Int).toNat]? = some (.v (sV l[i].1)):=by simp [h]
def NodeAt.keep {H H':Heap} {c q:Nat} {s:Int} {F:Fo} {fp:List Nat} (h:NodeAt H c q s F fp) (hk:Keep H H'):NodeAt H' c q s F fp:=by
 have h1:KidsAt H c (.cons ByteArray.empty s F .nil) [(ByteArray.empty,q)] (fp ++ []):=kids_cons.2 ⟨q,[],fp,[],rfl,rfl,h,rfl,rfl⟩
 obtain ⟨q',l',fp1,fp2,e1,e2,h2,h3⟩:=kids_cons.1 (h1.keep hk)
 obtain ⟨e3,rfl⟩:=List.cons.inj e1
 obtain ⟨_,rfl⟩:=Prod.mk.inj e3
 have:=h3.2
 subst this
 rw [yAS,yAS] at e2
 subst e2
 exact h2
def kids_nil {H:Heap} {c:Nat} {F:Fo} {fp:List Nat} (h:KidsAt H c F [] fp):F = .nil:=by
 cases F with
 | nil=>rfl
 | cons n s sub rest=>obtain ⟨q,l',fp1,fp2,h1,_⟩:=kids_cons.1 h;cases h1
def VS.cut {H:Heap} {fc ac vc:Nat} {b:Bool} {L:List FN} (h:VS H fc ac vc L b) {rr:Nat} (hf:H.get fc = some (.cells 1 [.sl rr 0 L.length])) (hr:H.get rr = some (.cells 3 (L.map fD))) {n:Nat} (hn:n <= L.length) :
  Heap.get (H.set fc (some (Row.cells 1 [.sl rr 0 n]))) rr = some (.cells 3 (L.map fD)) /\
  VS ((H.set fc (some (Row.cells 1 [.sl rr 0 n]))).set rr (some (Row.cells 3 ((L.map fD).take n)))) fc ac vc (L.take n) b /\ Keep H ((H.set fc (some (Row.cells 1 [.sl rr 0 n]))).set rr (some (Row.cells 3 ((L.map fD).take n)))):=by
 obtain ⟨n1,n2,n3⟩:=h.keep_f
 have lf:=Heap.get_lt hf
 have lr:=Heap.get_lt hr
 have nrf:rr ≠ fc:=fun e=>by subst e;have:=hf.symm.trans hr;simp at this
 have nra:rr ≠ ac:=fun e=>by subst e;have:=h.a.symm.trans hr;simp at this
 have nrv:rr ≠ vc:=fun e=>by subst e;have:=h.v.symm.trans hr;simp at this
 have hget:∀ x,Heap.get ((H.set fc (some (Row.cells 1 [.sl rr 0 n]))).set rr (some (Row.cells 3 ((L.map fD).take n)))) x = if x = rr then some (Row.cells 3 ((L.map fD).take n)) else if x = fc then some (Row.cells 1 [.sl rr 0 n]) else H.get x:=fun x=>by
  rw [zCq (by simpa using lr),zCq lf]
 refine ⟨by rw [zCq lf,if_neg nrf];exact hr,⟨.inr ⟨rr,?_,?_⟩,?_,?_⟩,by simp,fun x row hx ht=>?_⟩
 ·rw [hget,if_neg nrf.symm,if_pos rfl,yAU,Nat.min_eq_left hn]
 ·rw [hget,if_pos rfl,List.map_take]
 ·rw [hget,if_neg nra.symm,if_neg n1];exact h.a
 ·rw [hget,if_neg nrv.symm,if_neg n2];exact h.v
 ·rw [hget,if_neg (fun e=>by subst e;rw [hr] at hx;exact no_flame L (yAA hx ▸ ht)),if_neg (fun e=>by subst e;rw [hf] at hx;exact no_slice _ (by simp) (yAA hx ▸ ht))];exact hx
def run_gen {P:Program} {f:FuncId} {N n0:Nat} {R:D -> Heap -> Prop} {K:List Item} {e:Env} {H:Heap} {Q:Heap -> Prop} (h:Q H) (h2:∀ H',Q H' -> Run P f N n0 R K e H'):Run P f N n0 R K e H:=h2 H h
section
variable {H1 H6:Heap} {fc ac vc:Nat} {Lj L5:List FN} {bj:Bool} {n:Nm} {s2 x par:Int} {sub rest:Fo}
def zCV (hk:Keep H1 H6) (hx:wOk s2 = true -> x = s2) (hl:Lj.length + 1 <= L5.length /\ L5.length <= Lj.length + 1 + sub.len) (he:sub.okW = true -> L5 = Lj ++ [(par,n,x)] ++ sub.vis (Lj.length:Nat) (Lj.length + 1)) (hn:¬ (x = 0 /\ L5.length = Lj.length + 1)) (H2:Heap)
  (h:Visited H6 fc ac vc L5 (bj && wOk s2 && sub.okW) rest par H2):Visited H1 fc ac vc Lj bj (.cons n s2 sub rest) par H2:=by
 obtain ⟨L',h1,h2,h3,h4,h5⟩:=h
 refine ⟨L',?_,by omega,by rw [Fo.len];omega,fun hok=>?_,hk.trans h5⟩
 ·rw [Fo.okW];rw [Bool.and_assoc,Bool.and_assoc] at h1;exact h1
 ·rw [Fo.okW,yAB,yAB] at hok
  obtain ⟨o1,o2,o3⟩:=hok
  have e1:=hx o1
  subst e1
  have e2:=he o2
  rw [h4 o3,Fo.vis]
  have hne:¬ (x = 0 /\ sub.vis (Lj.length:Nat) (Lj.length + 1) = []):=fun ⟨a,b⟩=>hn ⟨a,by rw [e2,b];simp⟩
  rw [if_neg hne]
  have hlen:L5.length = Lj.length + ((par,n,x) :: sub.vis (Lj.length:Nat) (Lj.length + 1)).length:=by rw [e2];simp
  rw [hlen,<- yAQ,e2]
  simp
def zDG (hk:Keep H1 H6) (hx:wOk s2 = true -> x = s2) (he:sub.okW = true -> L5 = Lj ++ [(par,n,x)] ++ sub.vis (Lj.length:Nat) (Lj.length + 1)) (hl:L5.length = Lj.length + 1) (hz:x = 0) (H2:Heap)
  (h:Visited H6 fc ac vc (L5.take Lj.length) (bj && wOk s2 && sub.okW) rest par H2):Visited H1 fc ac vc Lj bj (.cons n s2 sub rest) par H2:=by
 obtain ⟨L',h1,h2,h3,h4,h5⟩:=h
 rw [yAU] at h2 h3
 refine ⟨L',?_,by omega,by rw [Fo.len];omega,fun hok=>?_,hk.trans h5⟩
 ·rw [Fo.okW];rw [Bool.and_assoc,Bool.and_assoc] at h1;exact h1
 ·rw [Fo.okW,yAB,yAB] at hok
  obtain ⟨o1,o2,o3⟩:=hok
  have e1:=hx o1
  subst e1
  have e2:=he o2
  have hnil:sub.vis (Lj.length:Nat) (Lj.length + 1) = []:=by
   have:=congrArg List.length e2
   rw [hl] at this
   simp at this
   exact this
  have e3:L5.take Lj.length = Lj:=by rw [e2,yAQ,List.take_left]
  rw [h4 o3,Fo.vis,if_pos ⟨hz,hnil⟩,e3]
  simp
def step_end (h:VS H1 fc ac vc Lj bj):Visited H1 fc ac vc Lj bj .nil par H1:=⟨Lj,by rw [Fo.okW,Bool.and_true];exact h,yAJ _,by simp,fun _=>by simp [Fo.vis],Keep.refl _⟩
end
set_option maxHeartbeats 8000000 in
def q_visit:∀ (N:Nat) (F:Fo),F.len <= N -> ∀ (H:Heap) (c q:Nat) (s:Int) (fp:List Nat) (fc ac vc:Nat) (L:List FN) (b:Bool) (par:Int),NodeAt H c q s F fp -> F.Srt -> F.Nms -> c <= 1000000 -> L.length + F.len <= 1000000 -> VS H fc ac vc L b -> Sound Tryz.prog 63 [pD q,iD par,pD ac,pD fc,pD vc] H (fun d H2=>d = .tup [] /\ Visited H fc ac vc L b F par H2):=by
 intro N
 induction N using Nat.strongRecOn with
 | _ N IH =>
 intro F hlen H c q s fp fc ac vc L b par hN hS hNm hc hb hV
 obtain ⟨u,r,d,fp',hq,hSm,rfl,hCh⟩:=id hN
 obtain ⟨hd,l,fpk,hK,hD,hsl,hsort⟩:=ch_list hCh hS hNm (by omega)
 have hll:l.length <= 1000000:=by have h1:=congrArg List.length hK.heads;have h2:=heads_len F;rw [yAG] at h1;omega
 refine zBq Tryz.func63 rfl (by kernel_rfl) Tryz.ntmps63 (by simp) ?_
 refine zAI fun Y0 hY0=>?_
 refine zAJ ?_
 try simp only [hq,↓zAN,EVq,TY,zAF,↓reduceIte,Nat.reduceLT,Nat.reduceLeDiff,Nat.reduceEqDiff,Nat.reduceAdd,Nat.reduceMul,Int.reduceLE,eq_self]
 refine zCS (q_keys H d hd) (fun dd Hx hdd=>?_)
 obtain ⟨rfl,rfl⟩:=hdd
 try simp only [hq,↓zAN,EVq,TY,zAF,↓reduceIte,Nat.reduceLT,Nat.reduceLeDiff,Nat.reduceEqDiff,Nat.reduceAdd,Nat.reduceMul,Int.reduceLE,eq_self]
 refine zCS hsort (fun dd Hx hdd=>?_)
 obtain ⟨rfl,rfl⟩:=hdd
 try simp only [hq,↓zAN,EVq,TY,zAF,↓reduceIte,Nat.reduceLT,Nat.reduceLeDiff,Nat.reduceEqDiff,Nat.reduceAdd,Nat.reduceMul,Int.reduceLE,eq_self]
 refine zAD [0,1,2,3,4,18,19,20] ?_
 simp only [KQ,↓KP,↓reduceIte,Nat.reduceEqDiff]
 subst hY0
 refine zDA ?_
 refine zAD [0,1,2,3,4,18,19,20] ?_
 simp only [KQ,↓KP,↓reduceIte,Nat.reduceEqDiff]
 have hk0:=keep_push H (some (.bx d))
 have hV0:=hV.push (some (.bx d))
 refine run_loop' (fun m e H1=>∃ (j:Nat) (Fj:Fo) (fpj:List Nat) (Lj:List FN) (bj:Bool),m = l.length - j /\ j <= l.length /\ KidsAt H1 c Fj (l.drop j) fpj /\ Fj.Srt /\ Fj.Nms /\ Fj.len <= N /\ Lj.length + Fj.len <= 1000000 /\ VS H1 fc ac vc Lj bj /\ Keep H H1 /\ (∀ H2,Visited H1 fc ac vc Lj bj Fj par H2 -> Visited H fc ac vc L b F par H2) /\ e = envL [(0,pD q),(1,iD par),(2,pD ac),(3,pD fc),(4,pD vc),(18,.fz 1 (l.map fun p=>.v (sV p.1))),(19,iD (l.map fun p=>(.v (sV p.1):D)).length),(20,iD (j:Nat))]) l.length
  ⟨0,F,fpk,L,b,by simp,by omega,hK.keep hk0,hS,hNm,hlen,hb,hV0,hk0,fun H2 h=>h.pre hk0,rfl⟩ ?_
 intro C hC m e H1 ih hI
 obtain ⟨j,Fj,fpj,Lj,bj,rfl,hj,hKj,hSj,hNj,hlj,hbj,hVj,hkj,hW,rfl⟩:=hI
 refine zAI fun Y1 hY1=>?_
 refine zAJ ?_
 try simp only [↓zAN,EVq,TY,zAF,↓reduceIte,Nat.reduceLT,Nat.reduceLeDiff,Nat.reduceEqDiff,Nat.reduceAdd,Nat.reduceMul,Int.reduceLE,eq_self]
 refine zAD [0,1,2,3,4,18,19,20,21] ?_
 simp only [KQ,↓KP,↓reduceIte,Nat.reduceEqDiff]
 subst hY1
 refine zAI fun Y2 hY2=>?_
 first | refine run_if (by simp only [↓zAZ,↓zAd,↓zAq,↓zAV,↓reduceIte,Nat.reduceEqDiff] <;> rfl) (fun h21=>?_) fun h21=>?_ | refine zCo (by simp only [↓zAZ,↓zAd,↓zAq,↓zAV,↓reduceIte,Nat.reduceEqDiff] <;> rfl) (fun h21=>?_) fun h21=>?_
 ·refine zBZ ?_
  subst hY2
  refine zAI fun Y3 hY3=>?_
  refine zDA ?_
  refine zAI fun Y4 hY4=>?_
  have hjl:j < l.length:=by rw [yAG] at h21;omega
  refine zAJ ?_
  try simp only [nm_get2 hjl,↓zAN,EVq,TY,zAF,↓reduceIte,Nat.reduceLT,Nat.reduceLeDiff,Nat.reduceEqDiff,Nat.reduceAdd,Nat.reduceMul,Int.reduceLE,eq_self]
  refine zBi ⟨by omega,h21⟩ ?_
  try simp only [nm_get2 hjl,↓zAN,EVq,TY,zAF,↓reduceIte,Nat.reduceLT,Nat.reduceLeDiff,Nat.reduceEqDiff,Nat.reduceAdd,Nat.reduceMul,Int.reduceLE,eq_self]
  refine zAD [0,1,2,3,4,8,18,19,20] ?_
  simp only [KQ,↓KP,↓reduceIte,Nat.reduceEqDiff]
  subst hY4
  refine zAI fun Y5 hY5=>?_
  have hq1:=hkj.2 q _ hq (.inl ⟨_,_,_,rfl⟩)
  obtain ⟨m,es,cl,rfl,hm,ho⟩:∃ m es cl,d = .mp m /\ Heap.get H1 m = some (.mp es cl) /\ MapOk es cl l:=by
   rcases hD.keep hkj with h | h
   ·subst h;simp at hjl
   ·exact h
  have hdr:l.drop j = l[j] :: l.drop (j + 1):=yAX hjl
  rw [hdr] at hKj
  obtain ⟨s2,sub,rest,fp1,fp2,rfl,hN2,hK2⟩:=kids_drop hKj
  obtain ⟨jj,bb,q2,hf,hjj,hmem⟩:=map_find ho (n:=l[j].1) (yAg (f:=(·.1)) (yAs hjl))
  obtain rfl:l[j].2 = q2:=fst_inj hsl (show (l[j].1,l[j].2) ∈ l from yAs hjl) hmem
  obtain ⟨u2,r2,d2,fpx,hq2,hSm2,_,_⟩:=id hN2
  refine zAJ ?_
  try simp only [hq1,hm,hf,getM,hjj,↓zAN,EVq,TY,zAF,↓reduceIte,Nat.reduceLT,Nat.reduceLeDiff,Nat.reduceEqDiff,Nat.reduceAdd,Nat.reduceMul,Int.reduceLE,eq_self]
  refine zAD [0,1,2,3,4,8,9,18,19,20] ?_
  simp only [KQ,↓KP,↓reduceIte,Nat.reduceEqDiff]
  subst hY5
  refine zAI fun Y6 hY6=>?_
  refine zAJ ?_
  try simp only [hq2,↓zAN,EVq,TY,zAF,↓reduceIte,Nat.reduceLT,Nat.reduceLeDiff,Nat.reduceEqDiff,Nat.reduceAdd,Nat.reduceMul,Int.reduceLE,eq_self]
  refine zCS ((q_value hSm2 hc).frame (by simp [zAg,D.noref]) _).sound (fun dd Hx hdd=>?_)
  obtain ⟨eHx,x,rfl,hx⟩:=hdd
  rw [eHx]
  clear eHx Hx
  try simp only [hq2,↓zAN,EVq,TY,zAF,↓reduceIte,Nat.reduceLT,Nat.reduceLeDiff,Nat.reduceEqDiff,Nat.reduceAdd,Nat.reduceMul,Int.reduceLE,eq_self]
  refine zAD [0,1,2,3,4,8,9,10,11,18,19,20] ?_
  simp only [KQ,↓KP,↓reduceIte,Nat.reduceEqDiff]
  subst hY6
  refine zAI fun Y7 hY7=>?_
  cases bj
  ·refine zAJ ?_
   try simp only [hVj.a,↓zAN,EVq,TY,zAF,↓reduceIte,Nat.reduceLT,Nat.reduceLeDiff,Nat.reduceEqDiff,Nat.reduceAdd,Nat.reduceMul,Int.reduceLE,eq_self]
   refine zAD [0,1,2,3,4,8,9,10,18,19,20] ?_
   simp only [KQ,↓KP,↓reduceIte,Nat.reduceEqDiff]
   subst hY7
   refine zAI fun Y8 hY8=>?_
   obtain ⟨hV3,hk3⟩:=hVj.flag (false)
   generalize hH3:(List.set H1 ac (some (Row.cells 1 [D.v (Value.bool (false))])):Heap) = H3 at hV3 hk3 ⊢
   rcases id hV3.f with ⟨hf0,rfl⟩ | ⟨rr,hf0,hrr⟩
   ·refine zAJ ?_
    try simp only [hf0,↓zAN,EVq,TY,zAF,↓reduceIte,Nat.reduceLT,Nat.reduceLeDiff,Nat.reduceEqDiff,Nat.reduceAdd,Nat.reduceMul,Int.reduceLE,eq_self]
    refine zAD [0,1,2,3,4,8,9,10,12,18,19,20] ?_
    simp only [KQ,↓KP,↓reduceIte,Nat.reduceEqDiff]
    subst hY8
    refine zAI fun Y9 hY9=>?_
    have q7:∀ X,Heap.get (H3 ++ [X]) H3.length = X:=fun X=>by rw [g_push,if_pos rfl]
    have q7f:∀ X Y,Heap.get (H3 ++ [X] ++ [Y]) fc = some (.cells 1 [.v (.slice none 0 0)]):=fun X Y=>by rw [g_push,g_push,if_neg (by have:=Heap.get_lt hf0;simp;omega),if_neg (by have:=Heap.get_lt hf0;omega)];exact hf0
    refine zAJ ?_
    try simp only [hf0,q7,q7f,yBD,yBV,List.take_zero,yAL,yBM,↓zAN,EVq,TY,zAF,↓reduceIte,Nat.reduceLT,Nat.reduceLeDiff,Nat.reduceEqDiff,Nat.reduceAdd,Nat.reduceMul,Int.reduceLE,eq_self]
    try refine zBi (by first | rfl | decide | exact ⟨rfl,by decide,rfl⟩) ?_
    try simp only [hf0,q7,q7f,yBD,yBV,List.take_zero,yAL,yBM,↓zAN,EVq,TY,zAF,↓reduceIte,Nat.reduceLT,Nat.reduceLeDiff,Nat.reduceEqDiff,Nat.reduceAdd,Nat.reduceMul,Int.reduceLE,eq_self]
    refine zAD [0,1,2,3,4,9,10,12,18,19,20] ?_
    simp only [KQ,↓KP,↓reduceIte,Nat.reduceEqDiff]
    subst hY9
    refine zAI fun Y10 hY10=>?_
    refine run_gen (Q:=fun H4=>VS H4 fc ac vc ([] ++ [((par,l[j].1,x):FN)]) (false && wOk s2) /\ Keep H1 H4) ⟨(hV3.app_nil hf0 (par,l[j].1,x)).1,hk3.trans (hV3.app_nil hf0 (par,l[j].1,x)).2⟩ ?_
    rintro H4 ⟨hV4,hk4⟩
    refine zAJ ?_
    try simp only [hV4.v,↓zAN,EVq,TY,zAF,↓reduceIte,Nat.reduceLT,Nat.reduceLeDiff,Nat.reduceEqDiff,Nat.reduceAdd,Nat.reduceMul,Int.reduceLE,eq_self]
    refine zCS (IH sub.len (by rw [Fo.len] at hlj;omega) sub (yAJ _) H4 c _ s2 fp1 fc ac vc _ _ _ (hN2.keep hk4) hSj.2.1 hNj.2.1 hc (by rw [yAD,yAC];rw [Fo.len] at hbj;omega) hV4) (fun dd Hx hdd=>?_)
    obtain ⟨rfl,L5,hV5,hl5,hm5,he5,hk5⟩:=hdd
    try simp only [hV4.v,↓zAN,EVq,TY,zAF,↓reduceIte,Nat.reduceLT,Nat.reduceLeDiff,Nat.reduceEqDiff,Nat.reduceAdd,Nat.reduceMul,Int.reduceLE,eq_self]
    refine zAD [0,1,2,3,4,10,12,18,19,20] ?_
    simp only [KQ,↓KP,↓reduceIte,Nat.reduceEqDiff]
    subst hY10
    refine zAI fun Y11 hY11=>?_
    rw [yAD,yAC] at hl5 hm5
    obtain ⟨r5,hf5,hr5⟩:∃ r5,Heap.get Hx fc = some (.cells 1 [.sl r5 0 L5.length]) /\ Heap.get Hx r5 = some (.cells 3 (L5.map fD)):=by
     rcases hV5.f with ⟨_,h⟩ | h
     ·rw [h] at hl5;simp at hl5
     ·exact h
    have hbj2:=hbj
    rw [Fo.len] at hbj2
    refine zAJ ?_
    try simp only [hf5,↓zAN,EVq,TY,zAF,↓reduceIte,Nat.reduceLT,Nat.reduceLeDiff,Nat.reduceEqDiff,Nat.reduceAdd,Nat.reduceMul,Int.reduceLE,eq_self]
    first | refine gK_p (fun h57 d57=>?_) fun h57 d57=>?_ | refine gK_b (fun h57 d57=>?_) fun h57 d57=>?_
    ·try simp only [d57,hf5,↓zAN,EVq,TY,zAF,↓reduceIte,Nat.reduceLT,Nat.reduceLeDiff,Nat.reduceEqDiff,Nat.reduceAdd,Nat.reduceMul,Int.reduceLE,eq_self]
     refine zAD [0,1,2,3,4,12,18,19,20,63] ?_
     simp only [KQ,↓KP,↓reduceIte,Nat.reduceEqDiff]
     subst hY11
     first | refine run_if (by simp only [↓zAZ,↓zAd,↓zAq,↓zAV,↓reduceIte,Nat.reduceEqDiff] <;> rfl) (fun h63=>?_) fun h63=>?_ | refine zCo (by simp only [↓zAZ,↓zAd,↓zAq,↓zAV,↓reduceIte,Nat.reduceEqDiff] <;> rfl) (fun h63=>?_) fun h63=>?_
     ·refine zAJ ?_
      try simp only [hf5,hr5,↓zAN,EVq,TY,zAF,↓reduceIte,Nat.reduceLT,Nat.reduceLeDiff,Nat.reduceEqDiff,Nat.reduceAdd,Nat.reduceMul,Int.reduceLE,eq_self]
      refine zBi (by omega) ?_
      try simp only [hf5,hr5,↓zAN,EVq,TY,zAF,↓reduceIte,Nat.reduceLT,Nat.reduceLeDiff,Nat.reduceEqDiff,Nat.reduceAdd,Nat.reduceMul,Int.reduceLE,eq_self]
      refine zAD [0,1,2,3,4,18,19,20] ?_
      simp only [KQ,↓KP,↓reduceIte,Nat.reduceEqDiff]
      refine zAr ?_
      subst hY3
      refine zAJ ?_
      try simp only [↓zAN,EVq,TY,zAF,↓reduceIte,Nat.reduceLT,Nat.reduceLeDiff,Nat.reduceEqDiff,Nat.reduceAdd,Nat.reduceMul,Int.reduceLE,eq_self]
      refine zAD [0,1,2,3,4,18,19,20] ?_
      simp only [KQ,↓KP,↓reduceIte,Nat.reduceEqDiff]
      refine zAD [0,1,2,3,4,18,19,20] ?_
      simp only [KQ,↓KP,↓reduceIte,Nat.reduceEqDiff]
      have ej:IntKind.i64.wrap ((j:Int) + 1) = ((j + 1:Nat):Int):=by rw [zBb (by omega) (by omega)];omega
      have hz0:([]:List FN).length = 0:=rfl
      have he6:=fun h=>(he5 h)
      simp only [yAD,yAC] at he6
      rw [ej]
      first
       | (exact ih (l.length - (j + 1)) _ _ (by omega) ⟨j + 1,rest,fp2,L5,_,rfl,by omega,(hK2.keep hk4).keep hk5,hSj.2.2,hNj.2.2,by rw [Fo.len] at hlj;omega,by omega,hV5,hkj.trans (hk4.trans hk5),fun H2 h=>hW H2 (zCV (hk4.trans hk5) hx ⟨hl5,hm5⟩ he6 (by
           rintro ⟨a1,a2⟩
           first
            | exact h57 a1
            | (refine h63 ?_;rw [zBb (by omega) (by omega)];omega)) H2 h),rfl⟩)
       | (obtain ⟨hg6,hV6,hk6⟩:=hV5.cut hf5 hr5 (n:=([]:List FN).length) (by omega)
          have hz:L5.length = ([]:List FN).length + 1:=by
           rw [zBb (by omega) (by omega)] at h63;omega
          refine run_cut (r:=r5) (k:=3) (j:=([]:List FN).length) (xs:=L5.map fD) hg6 (by rw [yAG];omega) ?_
          exact ih (l.length - (j + 1)) _ _ (by omega) ⟨j + 1,rest,fp2,L5.take ([]:List FN).length,_,rfl,by omega,((hK2.keep hk4).keep hk5).keep hk6,hSj.2.2,hNj.2.2,by rw [Fo.len] at hlj;omega,by rw [yAU];omega,hV6,hkj.trans ((hk4.trans hk5).trans hk6),fun H2 h=>hW H2 (zDG ((hk4.trans hk5).trans hk6) hx he6 hz h57 H2 h),rfl⟩)
     ·refine zBZ ?_
      refine zAr ?_
      subst hY3
      refine zAJ ?_
      try simp only [↓zAN,EVq,TY,zAF,↓reduceIte,Nat.reduceLT,Nat.reduceLeDiff,Nat.reduceEqDiff,Nat.reduceAdd,Nat.reduceMul,Int.reduceLE,eq_self]
      refine zAD [0,1,2,3,4,18,19,20] ?_
      simp only [KQ,↓KP,↓reduceIte,Nat.reduceEqDiff]
      refine zAD [0,1,2,3,4,18,19,20] ?_
      simp only [KQ,↓KP,↓reduceIte,Nat.reduceEqDiff]
      have ej:IntKind.i64.wrap ((j:Int) + 1) = ((j + 1:Nat):Int):=by rw [zBb (by omega) (by omega)];omega
      have hz0:([]:List FN).length = 0:=rfl
      have he6:=fun h=>(he5 h)
      simp only [yAD,yAC] at he6
      rw [ej]
      first
       | (exact ih (l.length - (j + 1)) _ _ (by omega) ⟨j + 1,rest,fp2,L5,_,rfl,by omega,(hK2.keep hk4).keep hk5,hSj.2.2,hNj.2.2,by rw [Fo.len] at hlj;omega,by omega,hV5,hkj.trans (hk4.trans hk5),fun H2 h=>hW H2 (zCV (hk4.trans hk5) hx ⟨hl5,hm5⟩ he6 (by
           rintro ⟨a1,a2⟩
           first
            | exact h57 a1
            | (refine h63 ?_;rw [zBb (by omega) (by omega)];omega)) H2 h),rfl⟩)
       | (obtain ⟨hg6,hV6,hk6⟩:=hV5.cut hf5 hr5 (n:=([]:List FN).length) (by omega)
          have hz:L5.length = ([]:List FN).length + 1:=by
           rw [zBb (by omega) (by omega)] at h63;omega
          refine run_cut (r:=r5) (k:=3) (j:=([]:List FN).length) (xs:=L5.map fD) hg6 (by rw [yAG];omega) ?_
          exact ih (l.length - (j + 1)) _ _ (by omega) ⟨j + 1,rest,fp2,L5.take ([]:List FN).length,_,rfl,by omega,((hK2.keep hk4).keep hk5).keep hk6,hSj.2.2,hNj.2.2,by rw [Fo.len] at hlj;omega,by rw [yAU];omega,hV6,hkj.trans ((hk4.trans hk5).trans hk6),fun H2 h=>hW H2 (zDG ((hk4.trans hk5).trans hk6) hx he6 hz h57 H2 h),rfl⟩)
    ·try simp only [d57,hf5,↓zAN,EVq,TY,zAF,↓reduceIte,Nat.reduceLT,Nat.reduceLeDiff,Nat.reduceEqDiff,Nat.reduceAdd,Nat.reduceMul,Int.reduceLE,eq_self]
     refine zAD [0,1,2,3,4,12,18,19,20,63] ?_
     simp only [KQ,↓KP,↓reduceIte,Nat.reduceEqDiff]
     subst hY11
     refine run_if_f (by simp only [↓zAZ,↓zAd,↓zAq,↓zAV,↓reduceIte,Nat.reduceEqDiff] <;> rfl) ?_
     refine zBZ ?_
     refine zAr ?_
     subst hY3
     refine zAJ ?_
     try simp only [↓zAN,EVq,TY,zAF,↓reduceIte,Nat.reduceLT,Nat.reduceLeDiff,Nat.reduceEqDiff,Nat.reduceAdd,Nat.reduceMul,Int.reduceLE,eq_self]
     refine zAD [0,1,2,3,4,18,19,20] ?_
     simp only [KQ,↓KP,↓reduceIte,Nat.reduceEqDiff]
     refine zAD [0,1,2,3,4,18,19,20] ?_
     simp only [KQ,↓KP,↓reduceIte,Nat.reduceEqDiff]
     have ej:IntKind.i64.wrap ((j:Int) + 1) = ((j + 1:Nat):Int):=by rw [zBb (by omega) (by omega)];omega
     have hz0:([]:List FN).length = 0:=rfl
     have he6:=fun h=>(he5 h)
     simp only [yAD,yAC] at he6
     rw [ej]
     first
      | (exact ih (l.length - (j + 1)) _ _ (by omega) ⟨j + 1,rest,fp2,L5,_,rfl,by omega,(hK2.keep hk4).keep hk5,hSj.2.2,hNj.2.2,by rw [Fo.len] at hlj;omega,by omega,hV5,hkj.trans (hk4.trans hk5),fun H2 h=>hW H2 (zCV (hk4.trans hk5) hx ⟨hl5,hm5⟩ he6 (by
          rintro ⟨a1,a2⟩
          first
           | exact h57 a1
           | (refine h63 ?_;rw [zBb (by omega) (by omega)];omega)) H2 h),rfl⟩)
      | (obtain ⟨hg6,hV6,hk6⟩:=hV5.cut hf5 hr5 (n:=([]:List FN).length) (by omega)
         have hz:L5.length = ([]:List FN).length + 1:=by
          rw [zBb (by omega) (by omega)] at h63;omega
         refine run_cut (r:=r5) (k:=3) (j:=([]:List FN).length) (xs:=L5.map fD) hg6 (by rw [yAG];omega) ?_
         exact ih (l.length - (j + 1)) _ _ (by omega) ⟨j + 1,rest,fp2,L5.take ([]:List FN).length,_,rfl,by omega,((hK2.keep hk4).keep hk5).keep hk6,hSj.2.2,hNj.2.2,by rw [Fo.len] at hlj;omega,by rw [yAU];omega,hV6,hkj.trans ((hk4.trans hk5).trans hk6),fun H2 h=>hW H2 (zDG ((hk4.trans hk5).trans hk6) hx he6 hz h57 H2 h),rfl⟩)
   ·refine zAJ ?_
    try simp only [hf0,↓zAN,EVq,TY,zAF,↓reduceIte,Nat.reduceLT,Nat.reduceLeDiff,Nat.reduceEqDiff,Nat.reduceAdd,Nat.reduceMul,Int.reduceLE,eq_self]
    refine zAD [0,1,2,3,4,8,9,10,12,18,19,20] ?_
    simp only [KQ,↓KP,↓reduceIte,Nat.reduceEqDiff]
    subst hY8
    refine zAI fun Y12 hY12=>?_
    have q7:∀ X,Heap.get (H3 ++ [X]) H3.length = X:=fun X=>by rw [g_push,if_pos rfl]
    have lrr:=Heap.get_lt hrr
    have nrf:rr ≠ fc:=fun e=>by subst e;have:=hf0.symm.trans hrr;simp at this
    have q7r:∀ X,Heap.get (H3 ++ [X]) rr = some (.cells 3 (Lj.map fD)):=fun X=>by rw [g_push,if_neg (by omega)];exact hrr
    have q7f:∀ X Y,Heap.get ((H3 ++ [X]).set rr none ++ [Y]) fc = some (.cells 1 [.sl rr 0 Lj.length]):=fun X Y=>by rw [g_push,zCq (by simp;omega),g_push,if_neg (by have:=Heap.get_lt hf0;simp;omega),if_neg nrf.symm,if_neg (by have:=Heap.get_lt hf0;omega)];exact hf0
    refine zAJ ?_
    try simp only [hf0,q7,q7r,q7f,yBD,yBV,List.take_zero,yAL,yBM,↓zAN,EVq,TY,zAF,↓reduceIte,Nat.reduceLT,Nat.reduceLeDiff,Nat.reduceEqDiff,Nat.reduceAdd,Nat.reduceMul,Int.reduceLE,eq_self]
    try refine zBi (by first | rfl | decide | exact ⟨rfl,by decide,rfl⟩) ?_
    try simp only [hf0,q7,q7r,q7f,yBD,yBV,List.take_zero,yAL,yBM,↓zAN,EVq,TY,zAF,↓reduceIte,Nat.reduceLT,Nat.reduceLeDiff,Nat.reduceEqDiff,Nat.reduceAdd,Nat.reduceMul,Int.reduceLE,eq_self]
    refine zBi ⟨by simp,by omega⟩ ?_
    try simp only [hf0,q7,q7r,q7f,yBD,yBV,List.take_zero,yAL,yBM,↓zAN,EVq,TY,zAF,↓reduceIte,Nat.reduceLT,Nat.reduceLeDiff,Nat.reduceEqDiff,Nat.reduceAdd,Nat.reduceMul,Int.reduceLE,eq_self]
    refine zAD [0,1,2,3,4,9,10,12,18,19,20] ?_
    simp only [KQ,↓KP,↓reduceIte,Nat.reduceEqDiff]
    subst hY12
    refine zAI fun Y13 hY13=>?_
    refine run_gen (Q:=fun H4=>VS H4 fc ac vc (Lj ++ [((par,l[j].1,x):FN)]) (false && wOk s2) /\ Keep H1 H4) ⟨(hV3.app_sl hf0 hrr (par,l[j].1,x)).1,hk3.trans (hV3.app_sl hf0 hrr (par,l[j].1,x)).2⟩ ?_
    rintro H4 ⟨hV4,hk4⟩
    refine zAJ ?_
    try simp only [hV4.v,↓zAN,EVq,TY,zAF,↓reduceIte,Nat.reduceLT,Nat.reduceLeDiff,Nat.reduceEqDiff,Nat.reduceAdd,Nat.reduceMul,Int.reduceLE,eq_self]
    refine zCS (IH sub.len (by rw [Fo.len] at hlj;omega) sub (yAJ _) H4 c _ s2 fp1 fc ac vc _ _ _ (hN2.keep hk4) hSj.2.1 hNj.2.1 hc (by rw [yAD,yAC];rw [Fo.len] at hbj;omega) hV4) (fun dd Hx hdd=>?_)
    obtain ⟨rfl,L5,hV5,hl5,hm5,he5,hk5⟩:=hdd
    try simp only [hV4.v,↓zAN,EVq,TY,zAF,↓reduceIte,Nat.reduceLT,Nat.reduceLeDiff,Nat.reduceEqDiff,Nat.reduceAdd,Nat.reduceMul,Int.reduceLE,eq_self]
    refine zAD [0,1,2,3,4,10,12,18,19,20] ?_
    simp only [KQ,↓KP,↓reduceIte,Nat.reduceEqDiff]
    subst hY13
    refine zAI fun Y14 hY14=>?_
    rw [yAD,yAC] at hl5 hm5
    obtain ⟨r5,hf5,hr5⟩:∃ r5,Heap.get Hx fc = some (.cells 1 [.sl r5 0 L5.length]) /\ Heap.get Hx r5 = some (.cells 3 (L5.map fD)):=by
     rcases hV5.f with ⟨_,h⟩ | h
     ·rw [h] at hl5;simp at hl5
     ·exact h
    have hbj2:=hbj
    rw [Fo.len] at hbj2
    refine zAJ ?_
    try simp only [hf5,↓zAN,EVq,TY,zAF,↓reduceIte,Nat.reduceLT,Nat.reduceLeDiff,Nat.reduceEqDiff,Nat.reduceAdd,Nat.reduceMul,Int.reduceLE,eq_self]
    first | refine gK_p (fun h57 d57=>?_) fun h57 d57=>?_ | refine gK_b (fun h57 d57=>?_) fun h57 d57=>?_
    ·try simp only [d57,hf5,↓zAN,EVq,TY,zAF,↓reduceIte,Nat.reduceLT,Nat.reduceLeDiff,Nat.reduceEqDiff,Nat.reduceAdd,Nat.reduceMul,Int.reduceLE,eq_self]
     refine zAD [0,1,2,3,4,12,18,19,20,63] ?_
     simp only [KQ,↓KP,↓reduceIte,Nat.reduceEqDiff]
     subst hY14
     first | refine run_if (by simp only [↓zAZ,↓zAd,↓zAq,↓zAV,↓reduceIte,Nat.reduceEqDiff] <;> rfl) (fun h63=>?_) fun h63=>?_ | refine zCo (by simp only [↓zAZ,↓zAd,↓zAq,↓zAV,↓reduceIte,Nat.reduceEqDiff] <;> rfl) (fun h63=>?_) fun h63=>?_
     ·refine zAJ ?_
      try simp only [hf5,hr5,↓zAN,EVq,TY,zAF,↓reduceIte,Nat.reduceLT,Nat.reduceLeDiff,Nat.reduceEqDiff,Nat.reduceAdd,Nat.reduceMul,Int.reduceLE,eq_self]
      refine zBi (by omega) ?_
      try simp only [hf5,hr5,↓zAN,EVq,TY,zAF,↓reduceIte,Nat.reduceLT,Nat.reduceLeDiff,Nat.reduceEqDiff,Nat.reduceAdd,Nat.reduceMul,Int.reduceLE,eq_self]
      refine zAD [0,1,2,3,4,18,19,20] ?_
      simp only [KQ,↓KP,↓reduceIte,Nat.reduceEqDiff]
      refine zAr ?_
      subst hY3
      refine zAJ ?_
      try simp only [↓zAN,EVq,TY,zAF,↓reduceIte,Nat.reduceLT,Nat.reduceLeDiff,Nat.reduceEqDiff,Nat.reduceAdd,Nat.reduceMul,Int.reduceLE,eq_self]
      refine zAD [0,1,2,3,4,18,19,20] ?_
      simp only [KQ,↓KP,↓reduceIte,Nat.reduceEqDiff]
      refine zAD [0,1,2,3,4,18,19,20] ?_
      simp only [KQ,↓KP,↓reduceIte,Nat.reduceEqDiff]
      have ej:IntKind.i64.wrap ((j:Int) + 1) = ((j + 1:Nat):Int):=by rw [zBb (by omega) (by omega)];omega
      have hz0:([]:List FN).length = 0:=rfl
      have he6:=fun h=>(he5 h)
      simp only [yAD,yAC] at he6
      rw [ej]
      first
       | (exact ih (l.length - (j + 1)) _ _ (by omega) ⟨j + 1,rest,fp2,L5,_,rfl,by omega,(hK2.keep hk4).keep hk5,hSj.2.2,hNj.2.2,by rw [Fo.len] at hlj;omega,by omega,hV5,hkj.trans (hk4.trans hk5),fun H2 h=>hW H2 (zCV (hk4.trans hk5) hx ⟨hl5,hm5⟩ he6 (by
           rintro ⟨a1,a2⟩
           first
            | exact h57 a1
            | (refine h63 ?_;rw [zBb (by omega) (by omega)];omega)) H2 h),rfl⟩)
       | (obtain ⟨hg6,hV6,hk6⟩:=hV5.cut hf5 hr5 (n:=Lj.length) (by omega)
          have hz:L5.length = Lj.length + 1:=by
           rw [zBb (by omega) (by omega)] at h63;omega
          refine run_cut (r:=r5) (k:=3) (j:=Lj.length) (xs:=L5.map fD) hg6 (by rw [yAG];omega) ?_
          exact ih (l.length - (j + 1)) _ _ (by omega) ⟨j + 1,rest,fp2,L5.take Lj.length,_,rfl,by omega,((hK2.keep hk4).keep hk5).keep hk6,hSj.2.2,hNj.2.2,by rw [Fo.len] at hlj;omega,by rw [yAU];omega,hV6,hkj.trans ((hk4.trans hk5).trans hk6),fun H2 h=>hW H2 (zDG ((hk4.trans hk5).trans hk6) hx he6 hz h57 H2 h),rfl⟩)
     ·refine zBZ ?_
      refine zAr ?_
      subst hY3
      refine zAJ ?_
      try simp only [↓zAN,EVq,TY,zAF,↓reduceIte,Nat.reduceLT,Nat.reduceLeDiff,Nat.reduceEqDiff,Nat.reduceAdd,Nat.reduceMul,Int.reduceLE,eq_self]
      refine zAD [0,1,2,3,4,18,19,20] ?_
      simp only [KQ,↓KP,↓reduceIte,Nat.reduceEqDiff]
      refine zAD [0,1,2,3,4,18,19,20] ?_
      simp only [KQ,↓KP,↓reduceIte,Nat.reduceEqDiff]
      have ej:IntKind.i64.wrap ((j:Int) + 1) = ((j + 1:Nat):Int):=by rw [zBb (by omega) (by omega)];omega
      have hz0:([]:List FN).length = 0:=rfl
      have he6:=fun h=>(he5 h)
      simp only [yAD,yAC] at he6
      rw [ej]
      first
       | (exact ih (l.length - (j + 1)) _ _ (by omega) ⟨j + 1,rest,fp2,L5,_,rfl,by omega,(hK2.keep hk4).keep hk5,hSj.2.2,hNj.2.2,by rw [Fo.len] at hlj;omega,by omega,hV5,hkj.trans (hk4.trans hk5),fun H2 h=>hW H2 (zCV (hk4.trans hk5) hx ⟨hl5,hm5⟩ he6 (by
           rintro ⟨a1,a2⟩
           first
            | exact h57 a1
            | (refine h63 ?_;rw [zBb (by omega) (by omega)];omega)) H2 h),rfl⟩)
       | (obtain ⟨hg6,hV6,hk6⟩:=hV5.cut hf5 hr5 (n:=Lj.length) (by omega)
          have hz:L5.length = Lj.length + 1:=by
           rw [zBb (by omega) (by omega)] at h63;omega
          refine run_cut (r:=r5) (k:=3) (j:=Lj.length) (xs:=L5.map fD) hg6 (by rw [yAG];omega) ?_
          exact ih (l.length - (j + 1)) _ _ (by omega) ⟨j + 1,rest,fp2,L5.take Lj.length,_,rfl,by omega,((hK2.keep hk4).keep hk5).keep hk6,hSj.2.2,hNj.2.2,by rw [Fo.len] at hlj;omega,by rw [yAU];omega,hV6,hkj.trans ((hk4.trans hk5).trans hk6),fun H2 h=>hW H2 (zDG ((hk4.trans hk5).trans hk6) hx he6 hz h57 H2 h),rfl⟩)
    ·try simp only [d57,hf5,↓zAN,EVq,TY,zAF,↓reduceIte,Nat.reduceLT,Nat.reduceLeDiff,Nat.reduceEqDiff,Nat.reduceAdd,Nat.reduceMul,Int.reduceLE,eq_self]
     refine zAD [0,1,2,3,4,12,18,19,20,63] ?_
     simp only [KQ,↓KP,↓reduceIte,Nat.reduceEqDiff]
     subst hY14
     refine run_if_f (by simp only [↓zAZ,↓zAd,↓zAq,↓zAV,↓reduceIte,Nat.reduceEqDiff] <;> rfl) ?_
     refine zBZ ?_
     refine zAr ?_
     subst hY3
     refine zAJ ?_
     try simp only [↓zAN,EVq,TY,zAF,↓reduceIte,Nat.reduceLT,Nat.reduceLeDiff,Nat.reduceEqDiff,Nat.reduceAdd,Nat.reduceMul,Int.reduceLE,eq_self]
     refine zAD [0,1,2,3,4,18,19,20] ?_
     simp only [KQ,↓KP,↓reduceIte,Nat.reduceEqDiff]
     refine zAD [0,1,2,3,4,18,19,20] ?_
     simp only [KQ,↓KP,↓reduceIte,Nat.reduceEqDiff]
     have ej:IntKind.i64.wrap ((j:Int) + 1) = ((j + 1:Nat):Int):=by rw [zBb (by omega) (by omega)];omega
     have hz0:([]:List FN).length = 0:=rfl
     have he6:=fun h=>(he5 h)
     simp only [yAD,yAC] at he6
     rw [ej]
     first
      | (exact ih (l.length - (j + 1)) _ _ (by omega) ⟨j + 1,rest,fp2,L5,_,rfl,by omega,(hK2.keep hk4).keep hk5,hSj.2.2,hNj.2.2,by rw [Fo.len] at hlj;omega,by omega,hV5,hkj.trans (hk4.trans hk5),fun H2 h=>hW H2 (zCV (hk4.trans hk5) hx ⟨hl5,hm5⟩ he6 (by
          rintro ⟨a1,a2⟩
          first
           | exact h57 a1
           | (refine h63 ?_;rw [zBb (by omega) (by omega)];omega)) H2 h),rfl⟩)
      | (obtain ⟨hg6,hV6,hk6⟩:=hV5.cut hf5 hr5 (n:=Lj.length) (by omega)
         have hz:L5.length = Lj.length + 1:=by
          rw [zBb (by omega) (by omega)] at h63;omega
         refine run_cut (r:=r5) (k:=3) (j:=Lj.length) (xs:=L5.map fD) hg6 (by rw [yAG];omega) ?_
         exact ih (l.length - (j + 1)) _ _ (by omega) ⟨j + 1,rest,fp2,L5.take Lj.length,_,rfl,by omega,((hK2.keep hk4).keep hk5).keep hk6,hSj.2.2,hNj.2.2,by rw [Fo.len] at hlj;omega,by rw [yAU];omega,hV6,hkj.trans ((hk4.trans hk5).trans hk6),fun H2 h=>hW H2 (zDG ((hk4.trans hk5).trans hk6) hx he6 hz h57 H2 h),rfl⟩)
  ·refine zAJ ?_
   try simp only [hVj.a,↓zAN,EVq,TY,zAF,↓reduceIte,Nat.reduceLT,Nat.reduceLeDiff,Nat.reduceEqDiff,Nat.reduceAdd,Nat.reduceMul,Int.reduceLE,eq_self]
   refine zAD [0,1,2,3,4,8,9,10,18,19,20] ?_
   simp only [KQ,↓KP,↓reduceIte,Nat.reduceEqDiff]
   subst hY7
   refine zAI fun Y15 hY15=>?_
   obtain ⟨hV3,hk3⟩:=hVj.flag (wOk s2)
   generalize hH3:(List.set H1 ac (some (Row.cells 1 [D.v (Value.bool (wOk s2))])):Heap) = H3 at hV3 hk3 ⊢
   rcases id hV3.f with ⟨hf0,rfl⟩ | ⟨rr,hf0,hrr⟩
   ·refine zAJ ?_
    try simp only [hf0,↓zAN,EVq,TY,zAF,↓reduceIte,Nat.reduceLT,Nat.reduceLeDiff,Nat.reduceEqDiff,Nat.reduceAdd,Nat.reduceMul,Int.reduceLE,eq_self]
    refine zAD [0,1,2,3,4,8,9,10,12,18,19,20] ?_
    simp only [KQ,↓KP,↓reduceIte,Nat.reduceEqDiff]
    subst hY15
    refine zAI fun Y16 hY16=>?_
    have q7:∀ X,Heap.get (H3 ++ [X]) H3.length = X:=fun X=>by rw [g_push,if_pos rfl]
    have q7f:∀ X Y,Heap.get (H3 ++ [X] ++ [Y]) fc = some (.cells 1 [.v (.slice none 0 0)]):=fun X Y=>by rw [g_push,g_push,if_neg (by have:=Heap.get_lt hf0;simp;omega),if_neg (by have:=Heap.get_lt hf0;omega)];exact hf0
    refine zAJ ?_
    try simp only [hf0,q7,q7f,yBD,yBV,List.take_zero,yAL,yBM,↓zAN,EVq,TY,zAF,↓reduceIte,Nat.reduceLT,Nat.reduceLeDiff,Nat.reduceEqDiff,Nat.reduceAdd,Nat.reduceMul,Int.reduceLE,eq_self]
    try refine zBi (by first | rfl | decide | exact ⟨rfl,by decide,rfl⟩) ?_
    try simp only [hf0,q7,q7f,yBD,yBV,List.take_zero,yAL,yBM,↓zAN,EVq,TY,zAF,↓reduceIte,Nat.reduceLT,Nat.reduceLeDiff,Nat.reduceEqDiff,Nat.reduceAdd,Nat.reduceMul,Int.reduceLE,eq_self]
    refine zAD [0,1,2,3,4,9,10,12,18,19,20] ?_
    simp only [KQ,↓KP,↓reduceIte,Nat.reduceEqDiff]
    subst hY16
    refine zAI fun Y17 hY17=>?_
    refine run_gen (Q:=fun H4=>VS H4 fc ac vc ([] ++ [((par,l[j].1,x):FN)]) (true && wOk s2) /\ Keep H1 H4) ⟨(hV3.app_nil hf0 (par,l[j].1,x)).1,hk3.trans (hV3.app_nil hf0 (par,l[j].1,x)).2⟩ ?_
    rintro H4 ⟨hV4,hk4⟩
    refine zAJ ?_
    try simp only [hV4.v,↓zAN,EVq,TY,zAF,↓reduceIte,Nat.reduceLT,Nat.reduceLeDiff,Nat.reduceEqDiff,Nat.reduceAdd,Nat.reduceMul,Int.reduceLE,eq_self]
    refine zCS (IH sub.len (by rw [Fo.len] at hlj;omega) sub (yAJ _) H4 c _ s2 fp1 fc ac vc _ _ _ (hN2.keep hk4) hSj.2.1 hNj.2.1 hc (by rw [yAD,yAC];rw [Fo.len] at hbj;omega) hV4) (fun dd Hx hdd=>?_)
    obtain ⟨rfl,L5,hV5,hl5,hm5,he5,hk5⟩:=hdd
    try simp only [hV4.v,↓zAN,EVq,TY,zAF,↓reduceIte,Nat.reduceLT,Nat.reduceLeDiff,Nat.reduceEqDiff,Nat.reduceAdd,Nat.reduceMul,Int.reduceLE,eq_self]
    refine zAD [0,1,2,3,4,10,12,18,19,20] ?_
    simp only [KQ,↓KP,↓reduceIte,Nat.reduceEqDiff]
    subst hY17
    refine zAI fun Y18 hY18=>?_
    rw [yAD,yAC] at hl5 hm5
    obtain ⟨r5,hf5,hr5⟩:∃ r5,Heap.get Hx fc = some (.cells 1 [.sl r5 0 L5.length]) /\ Heap.get Hx r5 = some (.cells 3 (L5.map fD)):=by
     rcases hV5.f with ⟨_,h⟩ | h
     ·rw [h] at hl5;simp at hl5
     ·exact h
    have hbj2:=hbj
    rw [Fo.len] at hbj2
    refine zAJ ?_
    try simp only [hf5,↓zAN,EVq,TY,zAF,↓reduceIte,Nat.reduceLT,Nat.reduceLeDiff,Nat.reduceEqDiff,Nat.reduceAdd,Nat.reduceMul,Int.reduceLE,eq_self]
    first | refine gK_p (fun h57 d57=>?_) fun h57 d57=>?_ | refine gK_b (fun h57 d57=>?_) fun h57 d57=>?_
    ·try simp only [d57,hf5,↓zAN,EVq,TY,zAF,↓reduceIte,Nat.reduceLT,Nat.reduceLeDiff,Nat.reduceEqDiff,Nat.reduceAdd,Nat.reduceMul,Int.reduceLE,eq_self]
     refine zAD [0,1,2,3,4,12,18,19,20,63] ?_
     simp only [KQ,↓KP,↓reduceIte,Nat.reduceEqDiff]
     subst hY18
     first | refine run_if (by simp only [↓zAZ,↓zAd,↓zAq,↓zAV,↓reduceIte,Nat.reduceEqDiff] <;> rfl) (fun h63=>?_) fun h63=>?_ | refine zCo (by simp only [↓zAZ,↓zAd,↓zAq,↓zAV,↓reduceIte,Nat.reduceEqDiff] <;> rfl) (fun h63=>?_) fun h63=>?_
     ·refine zAJ ?_
      try simp only [hf5,hr5,↓zAN,EVq,TY,zAF,↓reduceIte,Nat.reduceLT,Nat.reduceLeDiff,Nat.reduceEqDiff,Nat.reduceAdd,Nat.reduceMul,Int.reduceLE,eq_self]
      refine zBi (by omega) ?_
      try simp only [hf5,hr5,↓zAN,EVq,TY,zAF,↓reduceIte,Nat.reduceLT,Nat.reduceLeDiff,Nat.reduceEqDiff,Nat.reduceAdd,Nat.reduceMul,Int.reduceLE,eq_self]
      refine zAD [0,1,2,3,4,18,19,20] ?_
      simp only [KQ,↓KP,↓reduceIte,Nat.reduceEqDiff]
      refine zAr ?_
      subst hY3
      refine zAJ ?_
      try simp only [↓zAN,EVq,TY,zAF,↓reduceIte,Nat.reduceLT,Nat.reduceLeDiff,Nat.reduceEqDiff,Nat.reduceAdd,Nat.reduceMul,Int.reduceLE,eq_self]
      refine zAD [0,1,2,3,4,18,19,20] ?_
      simp only [KQ,↓KP,↓reduceIte,Nat.reduceEqDiff]
      refine zAD [0,1,2,3,4,18,19,20] ?_
      simp only [KQ,↓KP,↓reduceIte,Nat.reduceEqDiff]
      have ej:IntKind.i64.wrap ((j:Int) + 1) = ((j + 1:Nat):Int):=by rw [zBb (by omega) (by omega)];omega
      have hz0:([]:List FN).length = 0:=rfl
      have he6:=fun h=>(he5 h)
      simp only [yAD,yAC] at he6
      rw [ej]
      first
       | (exact ih (l.length - (j + 1)) _ _ (by omega) ⟨j + 1,rest,fp2,L5,_,rfl,by omega,(hK2.keep hk4).keep hk5,hSj.2.2,hNj.2.2,by rw [Fo.len] at hlj;omega,by omega,hV5,hkj.trans (hk4.trans hk5),fun H2 h=>hW H2 (zCV (hk4.trans hk5) hx ⟨hl5,hm5⟩ he6 (by
           rintro ⟨a1,a2⟩
           first
            | exact h57 a1
            | (refine h63 ?_;rw [zBb (by omega) (by omega)];omega)) H2 h),rfl⟩)
       | (obtain ⟨hg6,hV6,hk6⟩:=hV5.cut hf5 hr5 (n:=([]:List FN).length) (by omega)
          have hz:L5.length = ([]:List FN).length + 1:=by
           rw [zBb (by omega) (by omega)] at h63;omega
          refine run_cut (r:=r5) (k:=3) (j:=([]:List FN).length) (xs:=L5.map fD) hg6 (by rw [yAG];omega) ?_
          exact ih (l.length - (j + 1)) _ _ (by omega) ⟨j + 1,rest,fp2,L5.take ([]:List FN).length,_,rfl,by omega,((hK2.keep hk4).keep hk5).keep hk6,hSj.2.2,hNj.2.2,by rw [Fo.len] at hlj;omega,by rw [yAU];omega,hV6,hkj.trans ((hk4.trans hk5).trans hk6),fun H2 h=>hW H2 (zDG ((hk4.trans hk5).trans hk6) hx he6 hz h57 H2 h),rfl⟩)
     ·refine zBZ ?_
      refine zAr ?_
      subst hY3
      refine zAJ ?_
      try simp only [↓zAN,EVq,TY,zAF,↓reduceIte,Nat.reduceLT,Nat.reduceLeDiff,Nat.reduceEqDiff,Nat.reduceAdd,Nat.reduceMul,Int.reduceLE,eq_self]
      refine zAD [0,1,2,3,4,18,19,20] ?_
      simp only [KQ,↓KP,↓reduceIte,Nat.reduceEqDiff]
      refine zAD [0,1,2,3,4,18,19,20] ?_
      simp only [KQ,↓KP,↓reduceIte,Nat.reduceEqDiff]
      have ej:IntKind.i64.wrap ((j:Int) + 1) = ((j + 1:Nat):Int):=by rw [zBb (by omega) (by omega)];omega
      have hz0:([]:List FN).length = 0:=rfl
      have he6:=fun h=>(he5 h)
      simp only [yAD,yAC] at he6
      rw [ej]
      first
       | (exact ih (l.length - (j + 1)) _ _ (by omega) ⟨j + 1,rest,fp2,L5,_,rfl,by omega,(hK2.keep hk4).keep hk5,hSj.2.2,hNj.2.2,by rw [Fo.len] at hlj;omega,by omega,hV5,hkj.trans (hk4.trans hk5),fun H2 h=>hW H2 (zCV (hk4.trans hk5) hx ⟨hl5,hm5⟩ he6 (by
           rintro ⟨a1,a2⟩
           first
            | exact h57 a1
            | (refine h63 ?_;rw [zBb (by omega) (by omega)];omega)) H2 h),rfl⟩)
       | (obtain ⟨hg6,hV6,hk6⟩:=hV5.cut hf5 hr5 (n:=([]:List FN).length) (by omega)
          have hz:L5.length = ([]:List FN).length + 1:=by
           rw [zBb (by omega) (by omega)] at h63;omega
          refine run_cut (r:=r5) (k:=3) (j:=([]:List FN).length) (xs:=L5.map fD) hg6 (by rw [yAG];omega) ?_
          exact ih (l.length - (j + 1)) _ _ (by omega) ⟨j + 1,rest,fp2,L5.take ([]:List FN).length,_,rfl,by omega,((hK2.keep hk4).keep hk5).keep hk6,hSj.2.2,hNj.2.2,by rw [Fo.len] at hlj;omega,by rw [yAU];omega,hV6,hkj.trans ((hk4.trans hk5).trans hk6),fun H2 h=>hW H2 (zDG ((hk4.trans hk5).trans hk6) hx he6 hz h57 H2 h),rfl⟩)
    ·try simp only [d57,hf5,↓zAN,EVq,TY,zAF,↓reduceIte,Nat.reduceLT,Nat.reduceLeDiff,Nat.reduceEqDiff,Nat.reduceAdd,Nat.reduceMul,Int.reduceLE,eq_self]
     refine zAD [0,1,2,3,4,12,18,19,20,63] ?_
     simp only [KQ,↓KP,↓reduceIte,Nat.reduceEqDiff]
     subst hY18
     refine run_if_f (by simp only [↓zAZ,↓zAd,↓zAq,↓zAV,↓reduceIte,Nat.reduceEqDiff] <;> rfl) ?_
     refine zBZ ?_
     refine zAr ?_
     subst hY3
     refine zAJ ?_
     try simp only [↓zAN,EVq,TY,zAF,↓reduceIte,Nat.reduceLT,Nat.reduceLeDiff,Nat.reduceEqDiff,Nat.reduceAdd,Nat.reduceMul,Int.reduceLE,eq_self]
     refine zAD [0,1,2,3,4,18,19,20] ?_
     simp only [KQ,↓KP,↓reduceIte,Nat.reduceEqDiff]
     refine zAD [0,1,2,3,4,18,19,20] ?_
     simp only [KQ,↓KP,↓reduceIte,Nat.reduceEqDiff]
     have ej:IntKind.i64.wrap ((j:Int) + 1) = ((j + 1:Nat):Int):=by rw [zBb (by omega) (by omega)];omega
     have hz0:([]:List FN).length = 0:=rfl
     have he6:=fun h=>(he5 h)
     simp only [yAD,yAC] at he6
     rw [ej]
     first
      | (exact ih (l.length - (j + 1)) _ _ (by omega) ⟨j + 1,rest,fp2,L5,_,rfl,by omega,(hK2.keep hk4).keep hk5,hSj.2.2,hNj.2.2,by rw [Fo.len] at hlj;omega,by omega,hV5,hkj.trans (hk4.trans hk5),fun H2 h=>hW H2 (zCV (hk4.trans hk5) hx ⟨hl5,hm5⟩ he6 (by
          rintro ⟨a1,a2⟩
          first
           | exact h57 a1
           | (refine h63 ?_;rw [zBb (by omega) (by omega)];omega)) H2 h),rfl⟩)
      | (obtain ⟨hg6,hV6,hk6⟩:=hV5.cut hf5 hr5 (n:=([]:List FN).length) (by omega)
         have hz:L5.length = ([]:List FN).length + 1:=by
          rw [zBb (by omega) (by omega)] at h63;omega
         refine run_cut (r:=r5) (k:=3) (j:=([]:List FN).length) (xs:=L5.map fD) hg6 (by rw [yAG];omega) ?_
         exact ih (l.length - (j + 1)) _ _ (by omega) ⟨j + 1,rest,fp2,L5.take ([]:List FN).length,_,rfl,by omega,((hK2.keep hk4).keep hk5).keep hk6,hSj.2.2,hNj.2.2,by rw [Fo.len] at hlj;omega,by rw [yAU];omega,hV6,hkj.trans ((hk4.trans hk5).trans hk6),fun H2 h=>hW H2 (zDG ((hk4.trans hk5).trans hk6) hx he6 hz h57 H2 h),rfl⟩)
   ·refine zAJ ?_
    try simp only [hf0,↓zAN,EVq,TY,zAF,↓reduceIte,Nat.reduceLT,Nat.reduceLeDiff,Nat.reduceEqDiff,Nat.reduceAdd,Nat.reduceMul,Int.reduceLE,eq_self]
    refine zAD [0,1,2,3,4,8,9,10,12,18,19,20] ?_
    simp only [KQ,↓KP,↓reduceIte,Nat.reduceEqDiff]
    subst hY15
    refine zAI fun Y19 hY19=>?_
    have q7:∀ X,Heap.get (H3 ++ [X]) H3.length = X:=fun X=>by rw [g_push,if_pos rfl]
    have lrr:=Heap.get_lt hrr
    have nrf:rr ≠ fc:=fun e=>by subst e;have:=hf0.symm.trans hrr;simp at this
    have q7r:∀ X,Heap.get (H3 ++ [X]) rr = some (.cells 3 (Lj.map fD)):=fun X=>by rw [g_push,if_neg (by omega)];exact hrr
    have q7f:∀ X Y,Heap.get ((H3 ++ [X]).set rr none ++ [Y]) fc = some (.cells 1 [.sl rr 0 Lj.length]):=fun X Y=>by rw [g_push,zCq (by simp;omega),g_push,if_neg (by have:=Heap.get_lt hf0;simp;omega),if_neg nrf.symm,if_neg (by have:=Heap.get_lt hf0;omega)];exact hf0
    refine zAJ ?_
    try simp only [hf0,q7,q7r,q7f,yBD,yBV,List.take_zero,yAL,yBM,↓zAN,EVq,TY,zAF,↓reduceIte,Nat.reduceLT,Nat.reduceLeDiff,Nat.reduceEqDiff,Nat.reduceAdd,Nat.reduceMul,Int.reduceLE,eq_self]
    try refine zBi (by first | rfl | decide | exact ⟨rfl,by decide,rfl⟩) ?_
    try simp only [hf0,q7,q7r,q7f,yBD,yBV,List.take_zero,yAL,yBM,↓zAN,EVq,TY,zAF,↓reduceIte,Nat.reduceLT,Nat.reduceLeDiff,Nat.reduceEqDiff,Nat.reduceAdd,Nat.reduceMul,Int.reduceLE,eq_self]
    refine zBi ⟨by simp,by omega⟩ ?_
    try simp only [hf0,q7,q7r,q7f,yBD,yBV,List.take_zero,yAL,yBM,↓zAN,EVq,TY,zAF,↓reduceIte,Nat.reduceLT,Nat.reduceLeDiff,Nat.reduceEqDiff,Nat.reduceAdd,Nat.reduceMul,Int.reduceLE,eq_self]
    refine zAD [0,1,2,3,4,9,10,12,18,19,20] ?_
    simp only [KQ,↓KP,↓reduceIte,Nat.reduceEqDiff]
    subst hY19
    refine zAI fun Y20 hY20=>?_
    refine run_gen (Q:=fun H4=>VS H4 fc ac vc (Lj ++ [((par,l[j].1,x):FN)]) (true && wOk s2) /\ Keep H1 H4) ⟨(hV3.app_sl hf0 hrr (par,l[j].1,x)).1,hk3.trans (hV3.app_sl hf0 hrr (par,l[j].1,x)).2⟩ ?_
    rintro H4 ⟨hV4,hk4⟩
    refine zAJ ?_
    try simp only [hV4.v,↓zAN,EVq,TY,zAF,↓reduceIte,Nat.reduceLT,Nat.reduceLeDiff,Nat.reduceEqDiff,Nat.reduceAdd,Nat.reduceMul,Int.reduceLE,eq_self]
    refine zCS (IH sub.len (by rw [Fo.len] at hlj;omega) sub (yAJ _) H4 c _ s2 fp1 fc ac vc _ _ _ (hN2.keep hk4) hSj.2.1 hNj.2.1 hc (by rw [yAD,yAC];rw [Fo.len] at hbj;omega) hV4) (fun dd Hx hdd=>?_)
    obtain ⟨rfl,L5,hV5,hl5,hm5,he5,hk5⟩:=hdd
    try simp only [hV4.v,↓zAN,EVq,TY,zAF,↓reduceIte,Nat.reduceLT,Nat.reduceLeDiff,Nat.reduceEqDiff,Nat.reduceAdd,Nat.reduceMul,Int.reduceLE,eq_self]
    refine zAD [0,1,2,3,4,10,12,18,19,20] ?_
    simp only [KQ,↓KP,↓reduceIte,Nat.reduceEqDiff]
    subst hY20
    refine zAI fun Y21 hY21=>?_
    rw [yAD,yAC] at hl5 hm5
    obtain ⟨r5,hf5,hr5⟩:∃ r5,Heap.get Hx fc = some (.cells 1 [.sl r5 0 L5.length]) /\ Heap.get Hx r5 = some (.cells 3 (L5.map fD)):=by
     rcases hV5.f with ⟨_,h⟩ | h
     ·rw [h] at hl5;simp at hl5
     ·exact h
    have hbj2:=hbj
    rw [Fo.len] at hbj2
    refine zAJ ?_
    try simp only [hf5,↓zAN,EVq,TY,zAF,↓reduceIte,Nat.reduceLT,Nat.reduceLeDiff,Nat.reduceEqDiff,Nat.reduceAdd,Nat.reduceMul,Int.reduceLE,eq_self]
    first | refine gK_p (fun h57 d57=>?_) fun h57 d57=>?_ | refine gK_b (fun h57 d57=>?_) fun h57 d57=>?_
    ·try simp only [d57,hf5,↓zAN,EVq,TY,zAF,↓reduceIte,Nat.reduceLT,Nat.reduceLeDiff,Nat.reduceEqDiff,Nat.reduceAdd,Nat.reduceMul,Int.reduceLE,eq_self]
     refine zAD [0,1,2,3,4,12,18,19,20,63] ?_
     simp only [KQ,↓KP,↓reduceIte,Nat.reduceEqDiff]
     subst hY21
     first | refine run_if (by simp only [↓zAZ,↓zAd,↓zAq,↓zAV,↓reduceIte,Nat.reduceEqDiff] <;> rfl) (fun h63=>?_) fun h63=>?_ | refine zCo (by simp only [↓zAZ,↓zAd,↓zAq,↓zAV,↓reduceIte,Nat.reduceEqDiff] <;> rfl) (fun h63=>?_) fun h63=>?_
     ·refine zAJ ?_
      try simp only [hf5,hr5,↓zAN,EVq,TY,zAF,↓reduceIte,Nat.reduceLT,Nat.reduceLeDiff,Nat.reduceEqDiff,Nat.reduceAdd,Nat.reduceMul,Int.reduceLE,eq_self]
      refine zBi (by omega) ?_
      try simp only [hf5,hr5,↓zAN,EVq,TY,zAF,↓reduceIte,Nat.reduceLT,Nat.reduceLeDiff,Nat.reduceEqDiff,Nat.reduceAdd,Nat.reduceMul,Int.reduceLE,eq_self]
      refine zAD [0,1,2,3,4,18,19,20] ?_
      simp only [KQ,↓KP,↓reduceIte,Nat.reduceEqDiff]
      refine zAr ?_
      subst hY3
      refine zAJ ?_
      try simp only [↓zAN,EVq,TY,zAF,↓reduceIte,Nat.reduceLT,Nat.reduceLeDiff,Nat.reduceEqDiff,Nat.reduceAdd,Nat.reduceMul,Int.reduceLE,eq_self]
      refine zAD [0,1,2,3,4,18,19,20] ?_
      simp only [KQ,↓KP,↓reduceIte,Nat.reduceEqDiff]
      refine zAD [0,1,2,3,4,18,19,20] ?_
      simp only [KQ,↓KP,↓reduceIte,Nat.reduceEqDiff]
      have ej:IntKind.i64.wrap ((j:Int) + 1) = ((j + 1:Nat):Int):=by rw [zBb (by omega) (by omega)];omega
      have hz0:([]:List FN).length = 0:=rfl
      have he6:=fun h=>(he5 h)
      simp only [yAD,yAC] at he6
      rw [ej]
      first
       | (exact ih (l.length - (j + 1)) _ _ (by omega) ⟨j + 1,rest,fp2,L5,_,rfl,by omega,(hK2.keep hk4).keep hk5,hSj.2.2,hNj.2.2,by rw [Fo.len] at hlj;omega,by omega,hV5,hkj.trans (hk4.trans hk5),fun H2 h=>hW H2 (zCV (hk4.trans hk5) hx ⟨hl5,hm5⟩ he6 (by
           rintro ⟨a1,a2⟩
           first
            | exact h57 a1
            | (refine h63 ?_;rw [zBb (by omega) (by omega)];omega)) H2 h),rfl⟩)
       | (obtain ⟨hg6,hV6,hk6⟩:=hV5.cut hf5 hr5 (n:=Lj.length) (by omega)
          have hz:L5.length = Lj.length + 1:=by
           rw [zBb (by omega) (by omega)] at h63;omega
          refine run_cut (r:=r5) (k:=3) (j:=Lj.length) (xs:=L5.map fD) hg6 (by rw [yAG];omega) ?_
          exact ih (l.length - (j + 1)) _ _ (by omega) ⟨j + 1,rest,fp2,L5.take Lj.length,_,rfl,by omega,((hK2.keep hk4).keep hk5).keep hk6,hSj.2.2,hNj.2.2,by rw [Fo.len] at hlj;omega,by rw [yAU];omega,hV6,hkj.trans ((hk4.trans hk5).trans hk6),fun H2 h=>hW H2 (zDG ((hk4.trans hk5).trans hk6) hx he6 hz h57 H2 h),rfl⟩)
     ·refine zBZ ?_
      refine zAr ?_
      subst hY3
      refine zAJ ?_
      try simp only [↓zAN,EVq,TY,zAF,↓reduceIte,Nat.reduceLT,Nat.reduceLeDiff,Nat.reduceEqDiff,Nat.reduceAdd,Nat.reduceMul,Int.reduceLE,eq_self]
      refine zAD [0,1,2,3,4,18,19,20] ?_
      simp only [KQ,↓KP,↓reduceIte,Nat.reduceEqDiff]
      refine zAD [0,1,2,3,4,18,19,20] ?_
      simp only [KQ,↓KP,↓reduceIte,Nat.reduceEqDiff]
      have ej:IntKind.i64.wrap ((j:Int) + 1) = ((j + 1:Nat):Int):=by rw [zBb (by omega) (by omega)];omega
      have hz0:([]:List FN).length = 0:=rfl
      have he6:=fun h=>(he5 h)
      simp only [yAD,yAC] at he6
      rw [ej]
      first
       | (exact ih (l.length - (j + 1)) _ _ (by omega) ⟨j + 1,rest,fp2,L5,_,rfl,by omega,(hK2.keep hk4).keep hk5,hSj.2.2,hNj.2.2,by rw [Fo.len] at hlj;omega,by omega,hV5,hkj.trans (hk4.trans hk5),fun H2 h=>hW H2 (zCV (hk4.trans hk5) hx ⟨hl5,hm5⟩ he6 (by
           rintro ⟨a1,a2⟩
           first
            | exact h57 a1
            | (refine h63 ?_;rw [zBb (by omega) (by omega)];omega)) H2 h),rfl⟩)
       | (obtain ⟨hg6,hV6,hk6⟩:=hV5.cut hf5 hr5 (n:=Lj.length) (by omega)
          have hz:L5.length = Lj.length + 1:=by
           rw [zBb (by omega) (by omega)] at h63;omega
          refine run_cut (r:=r5) (k:=3) (j:=Lj.length) (xs:=L5.map fD) hg6 (by rw [yAG];omega) ?_
          exact ih (l.length - (j + 1)) _ _ (by omega) ⟨j + 1,rest,fp2,L5.take Lj.length,_,rfl,by omega,((hK2.keep hk4).keep hk5).keep hk6,hSj.2.2,hNj.2.2,by rw [Fo.len] at hlj;omega,by rw [yAU];omega,hV6,hkj.trans ((hk4.trans hk5).trans hk6),fun H2 h=>hW H2 (zDG ((hk4.trans hk5).trans hk6) hx he6 hz h57 H2 h),rfl⟩)
    ·try simp only [d57,hf5,↓zAN,EVq,TY,zAF,↓reduceIte,Nat.reduceLT,Nat.reduceLeDiff,Nat.reduceEqDiff,Nat.reduceAdd,Nat.reduceMul,Int.reduceLE,eq_self]
     refine zAD [0,1,2,3,4,12,18,19,20,63] ?_
     simp only [KQ,↓KP,↓reduceIte,Nat.reduceEqDiff]
     subst hY21
     refine run_if_f (by simp only [↓zAZ,↓zAd,↓zAq,↓zAV,↓reduceIte,Nat.reduceEqDiff] <;> rfl) ?_
     refine zBZ ?_
     refine zAr ?_
     subst hY3
     refine zAJ ?_
     try simp only [↓zAN,EVq,TY,zAF,↓reduceIte,Nat.reduceLT,Nat.reduceLeDiff,Nat.reduceEqDiff,Nat.reduceAdd,Nat.reduceMul,Int.reduceLE,eq_self]
     refine zAD [0,1,2,3,4,18,19,20] ?_
     simp only [KQ,↓KP,↓reduceIte,Nat.reduceEqDiff]
     refine zAD [0,1,2,3,4,18,19,20] ?_
     simp only [KQ,↓KP,↓reduceIte,Nat.reduceEqDiff]
     have ej:IntKind.i64.wrap ((j:Int) + 1) = ((j + 1:Nat):Int):=by rw [zBb (by omega) (by omega)];omega
     have hz0:([]:List FN).length = 0:=rfl
     have he6:=fun h=>(he5 h)
     simp only [yAD,yAC] at he6
     rw [ej]
     first
      | (exact ih (l.length - (j + 1)) _ _ (by omega) ⟨j + 1,rest,fp2,L5,_,rfl,by omega,(hK2.keep hk4).keep hk5,hSj.2.2,hNj.2.2,by rw [Fo.len] at hlj;omega,by omega,hV5,hkj.trans (hk4.trans hk5),fun H2 h=>hW H2 (zCV (hk4.trans hk5) hx ⟨hl5,hm5⟩ he6 (by
          rintro ⟨a1,a2⟩
          first
           | exact h57 a1
           | (refine h63 ?_;rw [zBb (by omega) (by omega)];omega)) H2 h),rfl⟩)
      | (obtain ⟨hg6,hV6,hk6⟩:=hV5.cut hf5 hr5 (n:=Lj.length) (by omega)
         have hz:L5.length = Lj.length + 1:=by
          rw [zBb (by omega) (by omega)] at h63;omega
         refine run_cut (r:=r5) (k:=3) (j:=Lj.length) (xs:=L5.map fD) hg6 (by rw [yAG];omega) ?_
         exact ih (l.length - (j + 1)) _ _ (by omega) ⟨j + 1,rest,fp2,L5.take Lj.length,_,rfl,by omega,((hK2.keep hk4).keep hk5).keep hk6,hSj.2.2,hNj.2.2,by rw [Fo.len] at hlj;omega,by rw [yAU];omega,hV6,hkj.trans ((hk4.trans hk5).trans hk6),fun H2 h=>hW H2 (zDG ((hk4.trans hk5).trans hk6) hx he6 hz h57 H2 h),rfl⟩)
 ·refine run_exit (by rfl) ?_
  have ej:j = l.length:=by rw [yAG] at h21;omega
  subst ej
  rw [List.drop_length] at hKj
  obtain rfl:=kids_nil hKj
  refine run_end Tryz.func63 Tryz.results63 (by simp only [aRes,↓zAZ,↓KP,KQ,↓reduceIte,Nat.reduceEqDiff,zBU,TY] <;> rfl) (Weak.refl _ _ _) ?_
  exact ⟨rfl,hW _ (step_end hVj)⟩
def flR (F:Fo):List FN × Int:=if F.okW = true then (if 2000 < (F.vis (-1) 0).length then ([],4) else (F.vis (-1) 0,0)) else ([],2)
def flD (F:Fo):D:=.tup [.fz 3 ((flR F).1.map fD),iD (flR F).2]
def FlRes (F:Fo) (d:D):Prop:=d = flD F \/ ((flR F).1 = [] /\ d = .tup [.v (.slice none 0 0),iD (flR F).2])
section
variable {F:Fo} {L5:List FN}
def res_bad (h:(!F.okW) = true):FlRes F (.tup [.v (.slice none 0 0),iD 2]):=by
 have e:flR F = ([],2):=by unfold flR;rw [if_neg (by simpa using h)]
 exact .inr ⟨by rw [e],by rw [e]⟩
def res_long (h:(!F.okW) = false) (he:F.okW = true -> L5 = [] ++ F.vis (-1) ([]:List FN).length) (hl:(2000:Int) < L5.length):FlRes F (.tup [.v (.slice none 0 0),iD 4]):=by
 have h:F.okW = true:=by simpa using h
 have e1:=he h
 rw [yBI] at e1
 have e:flR F = ([],4):=by unfold flR;rw [if_pos h,if_pos (by rw [e1] at hl;exact Int.ofNat_lt.1 hl)]
 exact .inr ⟨by rw [e],by rw [e]⟩
def res_sl (h:(!F.okW) = false) (he:F.okW = true -> L5 = [] ++ F.vis (-1) ([]:List FN).length) (hl:¬ (2000:Int) < L5.length):FlRes F (.tup [.fz 3 (((L5.map fD).drop 0).take L5.length),iD 0]):=by
 have h:F.okW = true:=by simpa using h
 have e1:=he h
 rw [yBI] at e1
 have e:flR F = (L5,0):=by
  unfold flR
  rw [if_pos h,if_neg (by rw [e1] at hl;exact fun h=>hl (Int.ofNat_lt.2 h)),e1];rfl
 refine .inl ?_
 unfold flD
 rw [e,yBD,yAW (by simp)]
def res_nil (h:(!F.okW) = false) (he:F.okW = true -> ([]:List FN) = [] ++ F.vis (-1) ([]:List FN).length):FlRes F (.tup [.v (.slice none 0 0),iD 0]):=by
 have h:F.okW = true:=by simpa using h
 have e1:=he h
 rw [yBI] at e1
 have e:flR F = ([],0):=by
  unfold flR
  rw [if_pos h]
  show (if 2000 < (F.vis (-1) ([]:List FN).length).length then _ else (F.vis (-1) ([]:List FN).length,(0:Int))) = _
  rw [<- e1];rfl
 exact .inr ⟨by rw [e],by rw [e]⟩
end
def lies_nf:(D.v Value.nilFunc).lies = true:=rfl
def init_vs (H:Heap):VS (((H ++ [some (Row.cells 1 [D.v (.slice none 0 0)])] ++ [some (Row.cells 1 [D.v (.bool false)])]).set (H ++ [some (Row.cells 1 [D.v (.slice none 0 0)])]).length (some (Row.cells 1 [D.v (.bool true)])) ++ [some (Row.cells (D.v Value.nilFunc).width [D.v Value.nilFunc])]).set ((H ++ [some (Row.cells 1 [D.v (.slice none 0 0)])] ++ [some (Row.cells 1 [D.v (.bool false)])]).set (H ++ [some (Row.cells 1 [D.v (.slice none 0 0)])]).length (some (Row.cells 1 [D.v (.bool true)]))).length (some (Row.cells 1 [D.fn (.func 63) [] [pD (H ++ [some (Row.cells 1 [D.v (.slice none 0 0)])]).length,pD H.length,pD ((H ++ [some (Row.cells 1 [D.v (.slice none 0 0)])] ++ [some (Row.cells 1 [D.v (.bool false)])]).set (H ++ [some (Row.cells 1 [D.v (.slice none 0 0)])]).length (some (Row.cells 1 [D.v (.bool true)]))).length]])))
  H.length (H ++ [some (Row.cells 1 [D.v (.slice none 0 0)])]).length ((H ++ [some (Row.cells 1 [D.v (.slice none 0 0)])] ++ [some (Row.cells 1 [D.v (.bool false)])]).set (H ++ [some (Row.cells 1 [D.v (.slice none 0 0)])]).length (some (Row.cells 1 [D.v (.bool true)]))).length [] true /\
  Keep H (((H ++ [some (Row.cells 1 [D.v (.slice none 0 0)])] ++ [some (Row.cells 1 [D.v (.bool false)])]).set (H ++ [some (Row.cells 1 [D.v (.slice none 0 0)])]).length (some (Row.cells 1 [D.v (.bool true)])) ++ [some (Row.cells (D.v Value.nilFunc).width [D.v Value.nilFunc])]).set ((H ++ [some (Row.cells 1 [D.v (.slice none 0 0)])] ++ [some (Row.cells 1 [D.v (.bool false)])]).set (H ++ [some (Row.cells 1 [D.v (.slice none 0 0)])]).length (some (Row.cells 1 [D.v (.bool true)]))).length (some (Row.cells 1 [D.fn (.func 63) [] [pD (H ++ [some (Row.cells 1 [D.v (.slice none 0 0)])]).length,pD H.length,pD ((H ++ [some (Row.cells 1 [D.v (.slice none 0 0)])] ++ [some (Row.cells 1 [D.v (.bool false)])]).set (H ++ [some (Row.cells 1 [D.v (.slice none 0 0)])]).length (some (Row.cells 1 [D.v (.bool true)]))).length]]))):=by
 have l1:(H ++ [some (Row.cells 1 [D.v (.slice none 0 0)])]).length = H.length + 1:=by simp
 have l2:((H ++ [some (Row.cells 1 [D.v (.slice none 0 0)])] ++ [some (Row.cells 1 [D.v (.bool false)])]).set (H ++ [some (Row.cells 1 [D.v (.slice none 0 0)])]).length (some (Row.cells 1 [D.v (.bool true)]))).length = H.length + 2:=by simp
 rw [l2,l1]
 have hget:∀ (d:D) x,Heap.get (((H ++ [some (Row.cells 1 [D.v (.slice none 0 0)])] ++ [some (Row.cells 1 [D.v (.bool false)])]).set (H.length + 1) (some (Row.cells 1 [D.v (.bool true)])) ++ [some (Row.cells (D.v Value.nilFunc).width [D.v Value.nilFunc])]).set (H.length + 2) (some (Row.cells 1 [d]))) x =
     if x = H.length + 2 then some (Row.cells 1 [d]) else if x = H.length + 1 then some (Row.cells 1 [D.v (.bool true)]) else if x = H.length then some (Row.cells 1 [D.v (.slice none 0 0)]) else H.get x:=fun d x=>by
  rw [zCq (by simp),g_push,zCq (by simp),g_push,g_push]
  simp only [yBK,yAD,yAC]
  have e11:H.length + 1 + 1 = H.length + 2:=rfl
  rw [e11]
  by_cases h2:x = H.length + 2
  ·subst h2;simp
  ·by_cases h1:x = H.length + 1
   ·subst h1;simp
   ·by_cases h0:x = H.length
    ·subst h0;simp
    ·simp [h2,h1,h0]
 refine ⟨⟨.inl ⟨?_,rfl⟩,?_,?_⟩,by simp,fun x row hx ht=>?_⟩
 ·rw [hget,if_neg (by omega),if_neg (by omega),if_pos rfl]
 ·rw [hget,if_neg (by omega),if_pos rfl]
 ·rw [hget,if_pos rfl]
 ·have:=Heap.get_lt hx
  rw [hget,if_neg (by omega),if_neg (by omega),if_neg (by omega)];exact hx
def norefs_fl:∀ (L:List FN),zAg (L.map fD) = true
 | []=>by simp [zAg]
 | p :: L=>by simp [zAg,D.noref,norefs_fl L]
set_option maxHeartbeats 4000000 in
def q_flame (H:Heap) (c q:Nat) (s:Int) (F:Fo) (fp:List Nat) (hN:NodeAt H c q s F fp) (hS:F.Srt) (hNm:F.Nms) (hc:c <= 1000000) (hlen:F.len <= 1000000):Sound Tryz.prog 46 [pD q] H (fun d H2=>FlRes F d):=by
 refine zBq Tryz.func46 rfl (by kernel_rfl) Tryz.ntmps46 (by simp) ?_
 have qp:∀ (A:Heap) X,Heap.get (A ++ [X]) A.length = X:=fun A X=>by rw [g_push,if_pos rfl]
 refine zAI fun Y0 hY0=>?_
 refine zAJ ?_
 try simp only [↓zAN,EVq,TY,zAF,↓reduceIte,Nat.reduceLT,Nat.reduceLeDiff,Nat.reduceEqDiff,Nat.reduceAdd,Nat.reduceMul,Int.reduceLE,eq_self]
 refine zAD [0] ?_
 simp only [KQ,↓KP,↓reduceIte,Nat.reduceEqDiff]
 subst hY0
 refine zAI fun Y1 hY1=>?_
 refine zAJ ?_
 try simp only [↓zAN,EVq,TY,zAF,↓reduceIte,Nat.reduceLT,Nat.reduceLeDiff,Nat.reduceEqDiff,Nat.reduceAdd,Nat.reduceMul,Int.reduceLE,eq_self]
 refine zAD [0,4] ?_
 simp only [KQ,↓KP,↓reduceIte,Nat.reduceEqDiff]
 subst hY1
 refine zAI fun Y2 hY2=>?_
 refine zAJ ?_
 try simp only [qp,↓zAN,EVq,TY,zAF,↓reduceIte,Nat.reduceLT,Nat.reduceLeDiff,Nat.reduceEqDiff,Nat.reduceAdd,Nat.reduceMul,Int.reduceLE,eq_self]
 refine zAD [0,4,5] ?_
 simp only [KQ,↓KP,↓reduceIte,Nat.reduceEqDiff]
 subst hY2
 refine zAI fun Y3 hY3=>?_
 refine zAJ ?_
 try simp only [lies_nf,↓zAN,EVq,TY,zAF,↓reduceIte,Nat.reduceLT,Nat.reduceLeDiff,Nat.reduceEqDiff,Nat.reduceAdd,Nat.reduceMul,Int.reduceLE,eq_self]
 refine zAD [0,4,5,6] ?_
 simp only [KQ,↓KP,↓reduceIte,Nat.reduceEqDiff]
 subst hY3
 refine zAI fun Y4 hY4=>?_
 refine zAJ ?_
 try simp only [qp,↓zAN,EVq,TY,zAF,↓reduceIte,Nat.reduceLT,Nat.reduceLeDiff,Nat.reduceEqDiff,Nat.reduceAdd,Nat.reduceMul,Int.reduceLE,eq_self]
 refine zAD [0,4,5,6] ?_
 simp only [KQ,↓KP,↓reduceIte,Nat.reduceEqDiff]
 subst hY4
 refine zAI fun Y5 hY5=>?_
 refine run_gen (Q:=fun H4=>VS H4 H.length (H ++ [some (Row.cells 1 [D.v (.slice none 0 0)])]).length (List.set (H ++ [some (Row.cells 1 [D.v (.slice none 0 0)])] ++ [some (Row.cells 1 [D.v (.bool false)])]) (H ++ [some (Row.cells 1 [D.v (.slice none 0 0)])]).length (some (Row.cells 1 [D.v (.bool true)]))).length [] true /\ Keep H H4) (init_vs H) ?_
 rintro H4 ⟨hV4,hk4⟩
 refine zAJ ?_
 try simp only [hV4.v,↓zAN,EVq,TY,zAF,↓reduceIte,Nat.reduceLT,Nat.reduceLeDiff,Nat.reduceEqDiff,Nat.reduceAdd,Nat.reduceMul,Int.reduceLE,eq_self]
 refine zCS (q_visit F.len F (yAJ _) H4 c q s fp _ _ _ [] true (-1) (hN.keep hk4) hS hNm hc (by simpa using hlen) hV4) (fun dd Hx hdd=>?_)
 obtain ⟨rfl,L5,hV5,hl5,hm5,he5,hk5⟩:=hdd
 rw [yBT] at hV5
 try simp only [hV4.v,↓zAN,EVq,TY,zAF,↓reduceIte,Nat.reduceLT,Nat.reduceLeDiff,Nat.reduceEqDiff,Nat.reduceAdd,Nat.reduceMul,Int.reduceLE,eq_self]
 refine zAD [4,5] ?_
 simp only [KQ,↓KP,↓reduceIte,Nat.reduceEqDiff]
 subst hY5
 refine zAI fun Y6 hY6=>?_
 refine zAI fun Y7 hY7=>?_
 refine zAJ ?_
 try simp only [hV5.a,↓zAN,EVq,TY,zAF,↓reduceIte,Nat.reduceLT,Nat.reduceLeDiff,Nat.reduceEqDiff,Nat.reduceAdd,Nat.reduceMul,Int.reduceLE,eq_self]
 refine zAD [4,12] ?_
 simp only [KQ,↓KP,↓reduceIte,Nat.reduceEqDiff]
 subst hY7
 first | refine run_if (by simp only [↓zAZ,↓zAd,↓zAq,↓zAV,↓reduceIte,Nat.reduceEqDiff] <;> rfl) (fun h12=>?_) fun h12=>?_ | refine zCo (by simp only [↓zAZ,↓zAd,↓zAq,↓zAV,↓reduceIte,Nat.reduceEqDiff] <;> rfl) (fun h12=>?_) fun h12=>?_
 ·refine zAI fun Y8 hY8=>?_
  refine zAJ ?_
  try simp only [↓zAN,EVq,TY,zAF,↓reduceIte,Nat.reduceLT,Nat.reduceLeDiff,Nat.reduceEqDiff,Nat.reduceAdd,Nat.reduceMul,Int.reduceLE,eq_self]
  refine zAD [2,3] ?_
  simp only [KQ,↓KP,↓reduceIte,Nat.reduceEqDiff]
  subst hY8
  first
   | (refine zBk Tryz.func46 Tryz.results46 (by simp only [aRes,↓zAZ,↓KP,KQ,↓reduceIte,Nat.reduceEqDiff,zBU,TY] <;> rfl) (Weak.refl _ _ _) ?_
      exact res_bad h12)
   | (refine zBk Tryz.func46 Tryz.results46 (by simp only [aRes,↓zAZ,↓KP,KQ,↓reduceIte,Nat.reduceEqDiff,zBU,TY] <;> rfl) (Weak.refl _ _ _) ?_
      exact res_long h12 he5 h15)
   | (refine Go.Ab.run_freeze (s:=2) (r:=rr) (i:=0) (m:=L5.length) (k:=3) (xs:=L5.map fD) rfl hrr (by simp) (norefs_fl _) ?_
      refine zBk Tryz.func46 Tryz.results46 (by simp only [aRes,↓zAZ,↓KP,KQ,↓reduceIte,Nat.reduceEqDiff,zBU,TY] <;> rfl) (Weak.refl _ _ _) ?_
      exact res_sl h12 he5 h15)
   | (refine zBk Tryz.func46 Tryz.results46 (by simp only [aRes,↓zAZ,↓KP,KQ,↓reduceIte,Nat.reduceEqDiff,zBU,TY] <;> rfl) (Weak.refl _ _ _) ?_
      exact res_nil h12 he5)
 ·refine zBZ ?_
  subst hY6
  refine zAI fun Y9 hY9=>?_
  refine zAI fun Y10 hY10=>?_
  rcases hV5.f with ⟨hf0,rfl⟩ | ⟨rr,hf0,hrr⟩
  ·refine zAJ ?_
   try simp only [hf0,↓zAN,EVq,TY,zAF,↓reduceIte,Nat.reduceLT,Nat.reduceLeDiff,Nat.reduceEqDiff,Nat.reduceAdd,Nat.reduceMul,Int.reduceLE,eq_self]
   refine zAD [4,15] ?_
   simp only [KQ,↓KP,↓reduceIte,Nat.reduceEqDiff]
   subst hY10
   first | refine run_if (by simp only [↓zAZ,↓zAd,↓zAq,↓zAV,↓reduceIte,Nat.reduceEqDiff] <;> rfl) (fun h15=>?_) fun h15=>?_ | refine zCo (by simp only [↓zAZ,↓zAd,↓zAq,↓zAV,↓reduceIte,Nat.reduceEqDiff] <;> rfl) (fun h15=>?_) fun h15=>?_
   ·refine zAI fun Y11 hY11=>?_
    refine zAJ ?_
    try simp only [↓zAN,EVq,TY,zAF,↓reduceIte,Nat.reduceLT,Nat.reduceLeDiff,Nat.reduceEqDiff,Nat.reduceAdd,Nat.reduceMul,Int.reduceLE,eq_self]
    refine zAD [2,3] ?_
    simp only [KQ,↓KP,↓reduceIte,Nat.reduceEqDiff]
    subst hY11
    first
     | (refine zBk Tryz.func46 Tryz.results46 (by simp only [aRes,↓zAZ,↓KP,KQ,↓reduceIte,Nat.reduceEqDiff,zBU,TY] <;> rfl) (Weak.refl _ _ _) ?_
        exact res_bad h12)
     | (refine zBk Tryz.func46 Tryz.results46 (by simp only [aRes,↓zAZ,↓KP,KQ,↓reduceIte,Nat.reduceEqDiff,zBU,TY] <;> rfl) (Weak.refl _ _ _) ?_
        exact res_long h12 he5 h15)
     | (refine Go.Ab.run_freeze (s:=2) (r:=rr) (i:=0) (m:=L5.length) (k:=3) (xs:=L5.map fD) rfl hrr (by simp) (norefs_fl _) ?_
        refine zBk Tryz.func46 Tryz.results46 (by simp only [aRes,↓zAZ,↓KP,KQ,↓reduceIte,Nat.reduceEqDiff,zBU,TY] <;> rfl) (Weak.refl _ _ _) ?_
        exact res_sl h12 he5 h15)
     | (refine zBk Tryz.func46 Tryz.results46 (by simp only [aRes,↓zAZ,↓KP,KQ,↓reduceIte,Nat.reduceEqDiff,zBU,TY] <;> rfl) (Weak.refl _ _ _) ?_
        exact res_nil h12 he5)
   ·refine zBZ ?_
    subst hY9
    refine zAI fun Y12 hY12=>?_
    refine zAJ ?_
    try simp only [hf0,↓zAN,EVq,TY,zAF,↓reduceIte,Nat.reduceLT,Nat.reduceLeDiff,Nat.reduceEqDiff,Nat.reduceAdd,Nat.reduceMul,Int.reduceLE,eq_self]
    refine zAD [2,3] ?_
    simp only [KQ,↓KP,↓reduceIte,Nat.reduceEqDiff]
    subst hY12
    first
     | (refine zBk Tryz.func46 Tryz.results46 (by simp only [aRes,↓zAZ,↓KP,KQ,↓reduceIte,Nat.reduceEqDiff,zBU,TY] <;> rfl) (Weak.refl _ _ _) ?_
        exact res_bad h12)
     | (refine zBk Tryz.func46 Tryz.results46 (by simp only [aRes,↓zAZ,↓KP,KQ,↓reduceIte,Nat.reduceEqDiff,zBU,TY] <;> rfl) (Weak.refl _ _ _) ?_
        exact res_long h12 he5 h15)
     | (refine Go.Ab.run_freeze (s:=2) (r:=rr) (i:=0) (m:=L5.length) (k:=3) (xs:=L5.map fD) rfl hrr (by simp) (norefs_fl _) ?_
        refine zBk Tryz.func46 Tryz.results46 (by simp only [aRes,↓zAZ,↓KP,KQ,↓reduceIte,Nat.reduceEqDiff,zBU,TY] <;> rfl) (Weak.refl _ _ _) ?_
        exact res_sl h12 he5 h15)
     | (refine zBk Tryz.func46 Tryz.results46 (by simp only [aRes,↓zAZ,↓KP,KQ,↓reduceIte,Nat.reduceEqDiff,zBU,TY] <;> rfl) (Weak.refl _ _ _) ?_
        exact res_nil h12 he5)
  ·refine zAJ ?_
   try simp only [hf0,↓zAN,EVq,TY,zAF,↓reduceIte,Nat.reduceLT,Nat.reduceLeDiff,Nat.reduceEqDiff,Nat.reduceAdd,Nat.reduceMul,Int.reduceLE,eq_self]
   refine zAD [4,15] ?_
   simp only [KQ,↓KP,↓reduceIte,Nat.reduceEqDiff]
   subst hY10
   first | refine run_if (by simp only [↓zAZ,↓zAd,↓zAq,↓zAV,↓reduceIte,Nat.reduceEqDiff] <;> rfl) (fun h15=>?_) fun h15=>?_ | refine zCo (by simp only [↓zAZ,↓zAd,↓zAq,↓zAV,↓reduceIte,Nat.reduceEqDiff] <;> rfl) (fun h15=>?_) fun h15=>?_
   ·refine zAI fun Y13 hY13=>?_
    refine zAJ ?_
    try simp only [↓zAN,EVq,TY,zAF,↓reduceIte,Nat.reduceLT,Nat.reduceLeDiff,Nat.reduceEqDiff,Nat.reduceAdd,Nat.reduceMul,Int.reduceLE,eq_self]
    refine zAD [2,3] ?_
    simp only [KQ,↓KP,↓reduceIte,Nat.reduceEqDiff]
    subst hY13
    first
     | (refine zBk Tryz.func46 Tryz.results46 (by simp only [aRes,↓zAZ,↓KP,KQ,↓reduceIte,Nat.reduceEqDiff,zBU,TY] <;> rfl) (Weak.refl _ _ _) ?_
        exact res_bad h12)
     | (refine zBk Tryz.func46 Tryz.results46 (by simp only [aRes,↓zAZ,↓KP,KQ,↓reduceIte,Nat.reduceEqDiff,zBU,TY] <;> rfl) (Weak.refl _ _ _) ?_
        exact res_long h12 he5 h15)
     | (refine Go.Ab.run_freeze (s:=2) (r:=rr) (i:=0) (m:=L5.length) (k:=3) (xs:=L5.map fD) rfl hrr (by simp) (norefs_fl _) ?_
        refine zBk Tryz.func46 Tryz.results46 (by simp only [aRes,↓zAZ,↓KP,KQ,↓reduceIte,Nat.reduceEqDiff,zBU,TY] <;> rfl) (Weak.refl _ _ _) ?_
        exact res_sl h12 he5 h15)
     | (refine zBk Tryz.func46 Tryz.results46 (by simp only [aRes,↓zAZ,↓KP,KQ,↓reduceIte,Nat.reduceEqDiff,zBU,TY] <;> rfl) (Weak.refl _ _ _) ?_
        exact res_nil h12 he5)
   ·refine zBZ ?_
    subst hY9
    refine zAI fun Y14 hY14=>?_
    refine zAJ ?_
    try simp only [hf0,↓zAN,EVq,TY,zAF,↓reduceIte,Nat.reduceLT,Nat.reduceLeDiff,Nat.reduceEqDiff,Nat.reduceAdd,Nat.reduceMul,Int.reduceLE,eq_self]
    refine zAD [2,3] ?_
    simp only [KQ,↓KP,↓reduceIte,Nat.reduceEqDiff]
    subst hY14
    first
     | (refine zBk Tryz.func46 Tryz.results46 (by simp only [aRes,↓zAZ,↓KP,KQ,↓reduceIte,Nat.reduceEqDiff,zBU,TY] <;> rfl) (Weak.refl _ _ _) ?_
        exact res_bad h12)
     | (refine zBk Tryz.func46 Tryz.results46 (by simp only [aRes,↓zAZ,↓KP,KQ,↓reduceIte,Nat.reduceEqDiff,zBU,TY] <;> rfl) (Weak.refl _ _ _) ?_
        exact res_long h12 he5 h15)
     | (refine Go.Ab.run_freeze (s:=2) (r:=rr) (i:=0) (m:=L5.length) (k:=3) (xs:=L5.map fD) rfl hrr (by simp) (norefs_fl _) ?_
        refine zBk Tryz.func46 Tryz.results46 (by simp only [aRes,↓zAZ,↓KP,KQ,↓reduceIte,Nat.reduceEqDiff,zBU,TY] <;> rfl) (Weak.refl _ _ _) ?_
        exact res_sl h12 he5 h15)
     | (refine zBk Tryz.func46 Tryz.results46 (by simp only [aRes,↓zAZ,↓KP,KQ,↓reduceIte,Nat.reduceEqDiff,zBU,TY] <;> rfl) (Weak.refl _ _ _) ?_
        exact res_nil h12 he5)
open Go Go.Ab Go.T Go.Pl Go.Proofs
def nmOk (n:Nm):Bool:=decide (1 <= n.size /\ n.size <= 60)
def chk (x:Sk):Int:=if x.1.length = 0 then 1 else if 64 < x.1.length then 30 else if x.1.any (fun n=>!nmOk n) = true then 5 else if wOk x.2 = true then 0 else 2
def zBp {a b:Int} (h1:-9223372036854775808 <= a + b) (h2:a + b < 9223372036854775808):zBA .i64 a b = a + b:=zBb h1 h2
def F52_eq (n:Nm):F52 n = some (nmOk n):=by
 unfold F52 nmOk
 rw [zAu,ile_d,ile_d,<- Bool.decide_and]
 show some (decide ((1:Int) <= (n.size:Int) /\ (n.size:Int) <= 60)) = _
 congr 2
 exact propext ⟨fun h=>by omega,fun h=>by omega⟩
def F53_eq (s:Int):F53 s = some (wOk s):=by
 unfold F53 wOk
 rw [zAu,ile_d,ile_d,<- Bool.decide_and]
def F60_eq {p:List Nm} (hp:p.length <= 1000000):F60 p = some (p.any fun n=>!nmOk n):=by
 have key:∃ r,F84 p = some r /\ (0 <= r ↔ p.any (fun n=>!nmOk n) = true):=by
  unfold F84
  refine zDL (fun s=>∃ i:Nat,s = (i:Int) /\ i <= p.length /\ (p.take i).any (fun n=>!nmOk n) = false) (fun s=>p.length - s.toNat) (fun e=>(p.any (fun n=>!nmOk n) = true /\ ∃ r:Int,0 <= r /\ e = .inr r) \/ (p.any (fun n=>!nmOk n) = false /\ e = .inl ())) ⟨0,rfl,by omega,by simp⟩ ?_ ?_
  ·rintro _ ⟨i,rfl,hi,hf⟩
   rw [zAe,zAf,zAM,zCb]
   by_cases h:i < p.length
   ·have hF:F61 p[i] = some (!nmOk p[i]):=by unfold F61;rw [zAR (F52_eq _)];rfl
    rw [if_pos (by omega),zAG (inL_t h),zCM,zCN h,zAR hF]
    by_cases hb:(!nmOk p[i]) = true
    ·right
     rw [hb,zAy rfl]
     exact ⟨_,rfl,.inl ⟨yBQ.2 ⟨p[i],yAs h,hb⟩,_,by omega,rfl⟩⟩
    ·left
     have hb:(!nmOk p[i]) = false:=by simpa using hb
     rw [hb,zAX rfl,zBp (by omega) (by omega)]
     refine ⟨_,rfl,⟨i + 1,rfl,by omega,?_⟩,by omega⟩
     rw [<- List.take_append_getElem h,List.any_append,hf]
     simp only [List.any_cons,List.any_nil,hb,Bool.or_false]
   ·right
    have:i = p.length:=by omega
    subst this
    rw [if_neg (by omega)]
    rw [yAi] at hf
    exact ⟨_,rfl,.inr ⟨hf,rfl⟩⟩
  ·rintro _ (⟨h,r,hr,rfl⟩ | ⟨h,rfl⟩)
   ·exact ⟨r,rfl,⟨fun _=>h,fun _=>hr⟩⟩
   ·exact ⟨-1,rfl,⟨fun h'=>by omega,fun h'=>by rw [h] at h';cases h'⟩⟩
 obtain ⟨r,h1,h2⟩:=key
 unfold F60
 rw [zAR h1,ile_d]
 congr 1
 by_cases h:0 <= r
 ·rw [h2.1 h];simpa using h
 ·have:p.any (fun n=>!nmOk n) = false:=by
   cases e:p.any (fun n=>!nmOk n) with
   | true=>exact absurd (h2.2 e) h
   | false=>rfl
  rw [this];simpa using h
def F44_eq (x:Sk):F44 x = some (chk x):=by
 obtain ⟨p,w⟩:=x
 unfold F44 chk
 dsimp only
 rw [zDY,zAf,zAM,zCb,zAe,zCb]
 by_cases h0:p.length = 0
 ·rw [if_pos (by omega),if_pos h0]
 rw [if_neg (by omega),if_neg h0]
 by_cases h1:64 < p.length
 ·rw [if_pos (by omega),if_pos h1]
 rw [if_neg (by omega),if_neg h1,zAR (F60_eq (by omega))]
 cases h2:p.any (fun n=>!nmOk n) with
 | true=>rw [zAy rfl,if_pos rfl]
 | false =>
  rw [zAX rfl,if_neg (by simp),zAR (F53_eq w)]
  cases h3:wOk w with
  | true=>rw [zAX (show zCr true = false from rfl),if_pos rfl]
  | false=>rw [zAy (show zCr false = true from rfl),if_neg (by simp)]
def chk_ok {x:Sk} (h:chk x = 0):x.1 ≠ [] /\ x.1.length <= 64 /\ (∀ n ∈ x.1,1 <= n.size /\ n.size <= 60) /\ -1099511627776 <= x.2 /\ x.2 <= 1099511627776:=by
 unfold chk at h
 split at h
 ·cases h
 rename_i h0
 split at h
 ·cases h
 rename_i h1
 split at h
 ·cases h
 rename_i h2
 split at h
 ·rename_i h3
  refine ⟨fun e=>h0 (by rw [e];rfl),by omega,fun n hn=>?_,of_decide_eq_true h3⟩
  have:=fun hb=>h2 (yBQ.2 ⟨n,hn,hb⟩)
  have:nmOk n = true:=by simpa using this
  exact of_decide_eq_true this
 ·cases h
def ofGo:Int × Fo -> List Sk -> List FN × Int
 | x,[]=>flR x.2
 | x,y :: l=>if chk y ≠ 0 then ([],chk y) else ofGo (insN x y.1 y.2) l
def at_len {g:Int × Fo -> Int × Fo} {k:Nat} (hg:∀ x,(g x).2.len <= x.2.len + k) (n:Nm):∀ F:Fo,(F.at' n g).len <= F.len + (1 + k)
 | .nil=>by have:=hg (0,.nil);simp only [Fo.at',Fo.len] at *;omega
 | .cons m s sub rest=>by
  rw [Fo.at']
  split
  ·have:=hg (0,.nil);simp only [Fo.len] at *;omega
  split
  ·have:=hg (s,sub);simp only [Fo.len] at *;omega
  ·have:=at_len hg n rest;simp only [Fo.len] at *;omega
def ins_len (w:Int):∀ (p:List Nm) (x:Int × Fo),(insN x p w).2.len <= x.2.len + p.length
 | [],x=>by simp [insN]
 | n :: p,x=>by
  have:=at_len (g:=fun y=>insN y p w) (fun y=>ins_len w p y) n x.2
  rw [yAY];show (x.2.at' n _).len <= _;omega
def at_nms {g:Int × Fo -> Int × Fo} (hg:∀ x,x.2.Nms -> (g x).2.Nms) {n:Nm} (hn:n.size <= 60):∀ {F:Fo},F.Nms -> (F.at' n g).Nms
 | .nil,_=>⟨hn,hg _ trivial,trivial⟩
 | .cons m s sub rest,h=>by
  rw [Fo.at']
  split
  ·exact ⟨hn,hg _ trivial,h⟩
  split
  ·exact ⟨h.1,hg _ h.2.1,h.2.2⟩
  ·exact ⟨h.1,h.2.1,at_nms hg hn h.2.2⟩
def ins_nms (w:Int):∀ (p:List Nm) (x:Int × Fo),(∀ n ∈ p,n.size <= 60) -> x.2.Nms -> (insN x p w).2.Nms
 | [],x,_,h=>h
 | n :: p,x,hp,h=>at_nms (fun y hy=>ins_nms w p y (fun m hm=>hp m (yAF _ hm)) hy) (hp n yAN) h
abbrev stD (x:Sk):D:=.agg [.fz 1 (x.1.map fun n=>.v (sV n)),iD x.2]
def q_check (x:Sk):Pure Tryz.prog 44 [stD x] fun d=>d = iD (chk x):=by
 have h:=pure_of (c:=c44) ok44 rfl rfl (x:=(x:List ByteArray × Int)) (y:=(chk x:Int)) (fun v hv=>by
  have hv:v ∈ [(⟨.agg (.pr (.sl .str) (.int .i64)),(x:List ByteArray × Int)⟩:TV)]:=hv
  simp only [yAE,yAf,or_false] at hv
  subst hv;rfl) rfl (F44_eq x)
 exact h
def st_get {l:List Sk} {i:Nat} (h:i < l.length):(l.map stD)[((i:Nat):Int).toNat]? = some (stD l[i]):=by simp [h]
def norefs_nm:∀ l:List Nm,zAg (l.map fun n=>(.v (sV n):D)) = true
 | []=>by simp [zAg]
 | n :: l=>by simp [zAg,D.noref,norefs_nm l]
def noref_st (x:Sk):zAg [stD x] = true:=by
 simp [zAg,D.noref,norefs_nm]
def le_tup2 {x y a b:D} (h:leD x a) (h':leD y b):leD (.tup [x,y]) (.tup [a,b]):=by simp only [leD,lesD];exact ⟨_,rfl,_,_,rfl,h,_,_,rfl,h',rfl⟩
def le_int (n:Int):leD (iD n) (iD n):=by simp [leD]
def le_nilfz (k:Nat):leD (.v (.slice none 0 0)) (.fz k []):=by simp [leD]
def le_fz (k:Nat) (xs:List D):leD (.fz k xs) (.fz k xs):=by simp only [leD]
def flres {F:Fo} {d:D} (h:FlRes F d):∃ x,d = .tup [x,iD (flR F).2] /\ (x = .fz 3 ((flR F).1.map fD) \/ (x = .v (.slice none 0 0) /\ (flR F).1 = [])):=by
 rcases h with rfl | ⟨h1,rfl⟩
 ·exact ⟨_,rfl,.inl rfl⟩
 ·exact ⟨_,rfl,.inr ⟨rfl,h1⟩⟩
def of_step {H1:Heap} {i q:Nat} {s:Int} {F:Fo} {fp:List Nat} {x y:D} (h:NodeAt H1 i q s F fp):NodeAt ((H1 ++ [some (Row.cells 2 [x])]).set H1.length (some (Row.cells 2 [y]))) i q s F fp /\ Heap.get ((H1 ++ [some (Row.cells 2 [x])]).set H1.length (some (Row.cells 2 [y]))) H1.length = some (Row.cells 2 [y]):=by
 refine ⟨h.frame (yAJ _) fun r hr=>?_,by rw [zCq (by simp),if_pos rfl]⟩
 have:=h.lt r hr
 rw [zCq (by simp),if_neg (by omega),g_push,if_neg (by omega)]
def node0:NodeAt [some (Row.cells 3 [.agg [iD 0,iD 0,.v (.map none)]])] 0 0 0 .nil [0] :=
 ⟨0,0,.v (.map none),[],rfl,⟨by omega,by omega,by omega,by omega,by omega⟩,rfl,.inl ⟨rfl,rfl,rfl⟩⟩
set_option maxHeartbeats 4000000 in
def q_of (l:List Sk) (hl:l.length <= 10000):Pure Tryz.prog 16 [.fz 2 (l.map stD)] (fun d=>d = .tup [.fz 3 ((ofGo (0,.nil) l).1.map fD),iD (ofGo (0,.nil) l).2]):=by
 refine zBq Tryz.func16 rfl (by kernel_rfl) Tryz.ntmps16 (by simp) ?_
 have hll:(l.map stD).length = l.length:=yAG ..
 have qp:∀ (A:Heap) X,Heap.get (A ++ [X]) A.length = X:=fun A X=>by rw [g_push,if_pos rfl]
 refine zAI fun Y0 hY0=>?_
 refine zAJ ?_
 try simp only [↓zAN,EVq,TY,zAF,↓reduceIte,Nat.reduceLT,Nat.reduceLeDiff,Nat.reduceEqDiff,Nat.reduceAdd,Nat.reduceMul,Int.reduceLE,eq_self]
 refine zAD [0] ?_
 simp only [KQ,↓KP,↓reduceIte,Nat.reduceEqDiff]
 subst hY0
 refine zAI fun Y1 hY1=>?_
 refine zAJ ?_
 try simp only [one_mn,↓zAN,EVq,TY,zAF,↓reduceIte,Nat.reduceLT,Nat.reduceLeDiff,Nat.reduceEqDiff,Nat.reduceAdd,Nat.reduceMul,Int.reduceLE,eq_self]
 refine zAD [0,4] ?_
 simp only [KQ,↓KP,↓reduceIte,Nat.reduceEqDiff]
 subst hY1
 refine zAI fun Y2 hY2=>?_
 refine zAI fun Y3 hY3=>?_
 refine zAJ ?_
 try simp only [↓zAN,EVq,TY,zAF,↓reduceIte,Nat.reduceLT,Nat.reduceLeDiff,Nat.reduceEqDiff,Nat.reduceAdd,Nat.reduceMul,Int.reduceLE,eq_self]
 refine zAD [4,10,11,12] ?_
 simp only [KQ,↓KP,↓reduceIte,Nat.reduceEqDiff]
 subst hY3
 refine zDA ?_
 refine zAD [4,10,11,12] ?_
 simp only [KQ,↓KP,↓reduceIte,Nat.reduceEqDiff]
 refine run_loop' (fun m e H1=>∃ (i:Nat) (s:Int) (F:Fo) (fp:List Nat),m = l.length - i /\ i <= l.length /\ NodeAt H1 i 0 s F fp /\ fp.Nodup /\ F.Srt /\ F.Nms /\ F.len <= 64 * i /\ ofGo (s,F) (l.drop i) = ofGo (0,.nil) l /\ e = envL [(4,pD 0),(10,.fz 2 (l.map stD)),(11,iD (l.map stD).length),(12,iD (i:Nat))]) l.length
  ⟨0,0,.nil,[0],by simp,by omega,node0,by simp,trivial,trivial,by simp [Fo.len],rfl,rfl⟩ ?_
 intro C hC m e H1 ih hI
 obtain ⟨i,s,F,fp,rfl,hi0,hN,hnd,hS,hNm,hFl,hO,rfl⟩:=hI
 refine zAI fun Y4 hY4=>?_
 refine zAJ ?_
 try simp only [↓zAN,EVq,TY,zAF,↓reduceIte,Nat.reduceLT,Nat.reduceLeDiff,Nat.reduceEqDiff,Nat.reduceAdd,Nat.reduceMul,Int.reduceLE,eq_self]
 refine zAD [4,10,11,12,13] ?_
 simp only [KQ,↓KP,↓reduceIte,Nat.reduceEqDiff]
 subst hY4
 refine zAI fun Y5 hY5=>?_
 first | refine run_if (by simp only [↓zAZ,↓zAd,↓zAq,↓zAV,↓reduceIte,Nat.reduceEqDiff] <;> rfl) (fun h13=>?_) fun h13=>?_ | refine zCo (by simp only [↓zAZ,↓zAd,↓zAq,↓zAV,↓reduceIte,Nat.reduceEqDiff] <;> rfl) (fun h13=>?_) fun h13=>?_
 ·refine zBZ ?_
  subst hY5
  refine zAI fun Y6 hY6=>?_
  refine zDA ?_
  refine zAI fun Y7 hY7=>?_
  have hi:i < l.length:=by rw [yAG] at h13;omega
  refine zAJ ?_
  try simp only [st_get hi,qp,↓zAN,EVq,TY,zAF,↓reduceIte,Nat.reduceLT,Nat.reduceLeDiff,Nat.reduceEqDiff,Nat.reduceAdd,Nat.reduceMul,Int.reduceLE,eq_self]
  refine zBi ⟨by omega,h13⟩ ?_
  try simp only [st_get hi,qp,↓zAN,EVq,TY,zAF,↓reduceIte,Nat.reduceLT,Nat.reduceLeDiff,Nat.reduceEqDiff,Nat.reduceAdd,Nat.reduceMul,Int.reduceLE,eq_self]
  refine zAD [4,6,10,11,12] ?_
  simp only [KQ,↓KP,↓reduceIte,Nat.reduceEqDiff]
  subst hY7
  refine zAI fun Y8 hY8=>?_
  refine zAI fun Y9 hY9=>?_
  refine run_gen (Q:=fun H3=>NodeAt H3 i 0 s F fp /\ Heap.get H3 H1.length = some (Row.cells 2 [stD l[i]])) (of_step hN) ?_
  rintro H3 ⟨hN3,hg3⟩
  refine zAJ ?_
  try simp only [hg3,↓zAN,EVq,TY,zAF,↓reduceIte,Nat.reduceLT,Nat.reduceLeDiff,Nat.reduceEqDiff,Nat.reduceAdd,Nat.reduceMul,Int.reduceLE,eq_self]
  refine zCS ((q_check l[i]).frame (noref_st _) _).sound (fun dd Hx hdd=>?_)
  obtain ⟨eHx,rfl⟩:=hdd
  rw [eHx]
  clear eHx Hx
  try simp only [hg3,↓zAN,EVq,TY,zAF,↓reduceIte,Nat.reduceLT,Nat.reduceLeDiff,Nat.reduceEqDiff,Nat.reduceAdd,Nat.reduceMul,Int.reduceLE,eq_self]
  refine zAD [4,6,7,10,11,12] ?_
  simp only [KQ,↓KP,↓reduceIte,Nat.reduceEqDiff]
  subst hY9
  refine zAI fun Y10 hY10=>?_
  refine zAJ ?_
  try simp only [↓zAN,EVq,TY,zAF,↓reduceIte,Nat.reduceLT,Nat.reduceLeDiff,Nat.reduceEqDiff,Nat.reduceAdd,Nat.reduceMul,Int.reduceLE,eq_self]
  refine zAD [4,6,7,10,11,12,19] ?_
  simp only [KQ,↓KP,↓reduceIte,Nat.reduceEqDiff]
  subst hY10
  first | refine run_if (by simp only [↓zAZ,↓zAd,↓zAq,↓zAV,↓reduceIte,Nat.reduceEqDiff] <;> rfl) (fun h19=>?_) fun h19=>?_ | refine zCo (by simp only [↓zAZ,↓zAd,↓zAq,↓zAV,↓reduceIte,Nat.reduceEqDiff] <;> rfl) (fun h19=>?_) fun h19=>?_
  ·refine zAI fun Y11 hY11=>?_
   refine zAJ ?_
   try simp only [↓zAN,EVq,TY,zAF,↓reduceIte,Nat.reduceLT,Nat.reduceLeDiff,Nat.reduceEqDiff,Nat.reduceAdd,Nat.reduceMul,Int.reduceLE,eq_self]
   refine zAD [2,3] ?_
   simp only [KQ,↓KP,↓reduceIte,Nat.reduceEqDiff]
   subst hY11
   first
    | (have hbad:chk l[i] ≠ 0:=by simpa using h19
       have hres:ofGo (0,.nil) l = ([],chk l[i]):=by rw [<- hO,yAX hi,ofGo,if_pos hbad]
       refine zCz 3 Tryz.func16 Tryz.results16 (by simp only [aRes,↓zAZ,↓KP,KQ,↓reduceIte,Nat.reduceEqDiff,zBU,TY] <;> rfl) rfl (d'':=.tup [.fz 3 [],iD (chk l[i])]) ?_ ?_
       ·exact le_tup2 (le_nilfz 3) (le_int _)
       ·rw [hres];rfl)
    | (have ei:i = l.length:=by rw [yAG] at h13;omega
       subst ei
       rw [List.drop_length] at hO
       have hres:ofGo (0,.nil) l = flR F:=hO.symm
       rcases hx with rfl | ⟨rfl,hnil⟩
       ·refine zCz 3 Tryz.func16 Tryz.results16 (by simp only [aRes,↓zAZ,↓KP,KQ,↓reduceIte,Nat.reduceEqDiff,zBU,TY] <;> rfl) rfl (d'':=.tup [.fz 3 ((flR F).1.map fD),iD (flR F).2]) ?_ ?_
        ·exact le_tup2 (le_fz _ _) (le_int _)
        ·rw [hres]
       ·refine zCz 3 Tryz.func16 Tryz.results16 (by simp only [aRes,↓zAZ,↓KP,KQ,↓reduceIte,Nat.reduceEqDiff,zBU,TY] <;> rfl) rfl (d'':=.tup [.fz 3 [],iD (flR F).2]) ?_ ?_
        ·exact le_tup2 (le_nilfz 3) (le_int _)
        ·rw [hres,hnil];rfl)
  ·refine zBZ ?_
   subst hY8
   have hck:chk l[i] = 0:=by simpa using h19
   refine zAJ ?_
   try simp only [hg3,↓zAN,EVq,TY,zAF,↓reduceIte,Nat.reduceLT,Nat.reduceLeDiff,Nat.reduceEqDiff,Nat.reduceAdd,Nat.reduceMul,Int.reduceLE,eq_self]
   obtain ⟨c1,c2,c3,c4,c5⟩:=chk_ok hck
   refine zCS (q_add H3 i 0 s l[i].2 F fp l[i].1 hN3 hnd hS ⟨c4,c5⟩ (by omega) (by omega)) (fun dd Hx hdd=>?_)
   obtain ⟨rfl,fp2,hN4,hnd4,hsub4,hlen4,hfr4⟩:=hdd
   try simp only [hg3,↓zAN,EVq,TY,zAF,↓reduceIte,Nat.reduceLT,Nat.reduceLeDiff,Nat.reduceEqDiff,Nat.reduceAdd,Nat.reduceMul,Int.reduceLE,eq_self]
   refine zAD [4,10,11,12] ?_
   simp only [KQ,↓KP,↓reduceIte,Nat.reduceEqDiff]
   refine zAr ?_
   subst hY6
   refine zAJ ?_
   try simp only [↓zAN,EVq,TY,zAF,↓reduceIte,Nat.reduceLT,Nat.reduceLeDiff,Nat.reduceEqDiff,Nat.reduceAdd,Nat.reduceMul,Int.reduceLE,eq_self]
   refine zAD [4,10,11,12] ?_
   simp only [KQ,↓KP,↓reduceIte,Nat.reduceEqDiff]
   refine zAD [4,10,11,12] ?_
   simp only [KQ,↓KP,↓reduceIte,Nat.reduceEqDiff]
   have ej:IntKind.i64.wrap ((i:Int) + 1) = ((i + 1:Nat):Int):=by rw [zBb (by omega) (by omega)];omega
   rw [ej]
   refine ih (l.length - (i + 1)) _ _ (by omega) ⟨i + 1,_,_,fp2,rfl,by omega,hN4,hnd4,srt_ins _ _ _ hS,ins_nms _ _ _ (fun n hn=>(c3 n hn).2) hNm,?_,?_,rfl⟩
   ·have:(insN (s,F) l[i].1 l[i].2).2.len <= F.len + l[i].1.length:=ins_len l[i].2 l[i].1 (s,F)
    omega
   ·rw [<- hO,yAX hi,ofGo,if_neg (by simpa using hck)]
 ·refine run_exit (by rfl) ?_
  subst hY2
  refine zAI fun Y12 hY12=>?_
  refine zAJ ?_
  try simp only [↓zAN,EVq,TY,zAF,↓reduceIte,Nat.reduceLT,Nat.reduceLeDiff,Nat.reduceEqDiff,Nat.reduceAdd,Nat.reduceMul,Int.reduceLE,eq_self]
  refine zCS (q_flame H1 i 0 s F fp hN hS hNm (by omega) (by omega)) (fun dd Hx hdd=>?_)
  obtain ⟨x,rfl,hx⟩:=flres hdd
  try simp only [↓zAN,EVq,TY,zAF,↓reduceIte,Nat.reduceLT,Nat.reduceLeDiff,Nat.reduceEqDiff,Nat.reduceAdd,Nat.reduceMul,Int.reduceLE,eq_self]
  refine zAD [2,3] ?_
  simp only [KQ,↓KP,↓reduceIte,Nat.reduceEqDiff]
  subst hY12
  first
   | (have hbad:chk l[i] ≠ 0:=by simpa using h19
      have hres:ofGo (0,.nil) l = ([],chk l[i]):=by rw [<- hO,yAX hi,ofGo,if_pos hbad]
      refine zCz 3 Tryz.func16 Tryz.results16 (by simp only [aRes,↓zAZ,↓KP,KQ,↓reduceIte,Nat.reduceEqDiff,zBU,TY] <;> rfl) rfl (d'':=.tup [.fz 3 [],iD (chk l[i])]) ?_ ?_
      ·exact le_tup2 (le_nilfz 3) (le_int _)
      ·rw [hres];rfl)
   | (have ei:i = l.length:=by rw [yAG] at h13;omega
      subst ei
      rw [List.drop_length] at hO
      have hres:ofGo (0,.nil) l = flR F:=hO.symm
      rcases hx with rfl | ⟨rfl,hnil⟩
      ·refine zCz 3 Tryz.func16 Tryz.results16 (by simp only [aRes,↓zAZ,↓KP,KQ,↓reduceIte,Nat.reduceEqDiff,zBU,TY] <;> rfl) rfl (d'':=.tup [.fz 3 ((flR F).1.map fD),iD (flR F).2]) ?_ ?_
       ·exact le_tup2 (le_fz _ _) (le_int _)
       ·rw [hres]
      ·refine zCz 3 Tryz.func16 Tryz.results16 (by simp only [aRes,↓zAZ,↓KP,KQ,↓reduceIte,Nat.reduceEqDiff,zBU,TY] <;> rfl) rfl (d'':=.tup [.fz 3 [],iD (flR F).2]) ?_ ?_
       ·exact le_tup2 (le_nilfz 3) (le_int _)
       ·rw [hres,hnil];rfl)
def jnGo:Int × Fo -> List Sk -> Int × Fo
 | x,[]=>x
 | x,y :: l=>jnGo (insN x y.1 y.2) l
abbrev tN:Ty:=.agg (.pr (.int .i64) (.pr .str (.int .i64)))
abbrev tS:Ty:=.agg (.pr (.sl .str) (.int .i64))
def F16 (l:List Sk):Option (List FN × Int):=if l.length <= 10000 then some (ofGo (0,.nil) l) else none
def c16:Con:=⟨16,[.sl tS],[],.tup (.pr (.sl tN) (.int .i64)),[],F16,none⟩
def ok16:zAl Tryz.prog c16:=by
 refine con_pure rfl rfl (fun (x:List Sk) v hv=>?_) (fun y=>rfl) fun (x:List Sk) hx=>?_
 ·have hv:v ∈ [(⟨.sl tS,x⟩:TV)]:=hv
  simp only [yAE,yAf,or_false] at hv
  subst hv;rfl
 ·obtain ⟨y,hy⟩:=hx
  have hy:F16 x = some y:=hy
  unfold F16 at hy
  split at hy
  ·rename_i hl
   have hF:F16 x = some (ofGo (0,.nil) x):=if_pos hl
   exact Pure.mono (q_of x hl) fun d hd=>⟨ofGo (0,.nil) x,hF,hd⟩
  ·cases hy
abbrev nD (l:List Nm):List D:=l.map fun n=>.v (sV n)
def rv (l:List Nm) (i:Nat):List Nm:=(List.range l.length).map fun k=>if k < i \/ l.length <= k + i then l.getD (l.length - 1 - k) ByteArray.empty else l.getD k ByteArray.empty
def rv_len (l:List Nm) (i:Nat):(rv l i).length = l.length:=by simp [rv]
def rv_get {l:List Nm} {i k:Nat} (h:k < (rv l i).length):(rv l i)[k] = if k < i \/ l.length <= k + i then l.getD (l.length - 1 - k) ByteArray.empty else l.getD k ByteArray.empty:=by simp [rv]
def gd {l:List Nm} {k:Nat} (h:k < l.length):l.getD k ByteArray.empty = l[k]:=by simp [List.getD,h]
def rv_zero (l:List Nm):rv l 0 = l:=by
 apply List.ext_getElem (rv_len l 0)
 intro k h1 h2
 rw [rv_get,if_neg (by omega)]
 simp [List.getD,h2]
def rv_end {l:List Nm} {i:Nat} (h:l.length <= 2 * i + 1):rv l i = l.reverse:=by
 apply List.ext_getElem (by rw [rv_len,List.length_reverse])
 intro k h1 h2
 rw [rv_len] at h1
 rw [rv_get,List.getElem_reverse]
 by_cases c:k < i \/ l.length <= k + i
 ·rw [if_pos c,gd (by omega)]
 ·rw [if_neg c,gd (by omega)]
  congr 1;omega
def rv_step {l:List Nm} {i:Nat} (h:i < l.length - 1 - i):((rv l i).set i ((rv l i).getD (l.length - 1 - i) ByteArray.empty)).set (l.length - 1 - i) ((rv l i).getD i ByteArray.empty) = rv l (i + 1):=by
 have g:∀ k,k < l.length -> (rv l i).getD k ByteArray.empty = if k < i \/ l.length <= k + i then l.getD (l.length - 1 - k) ByteArray.empty else l.getD k ByteArray.empty:=fun k hk=>by
  rw [gd (by rw [rv_len];exact hk),rv_get]
 rw [g _ (by omega),g _ (by omega)]
 apply List.ext_getElem (by simp [rv_len])
 intro k h1 h2
 rw [rv_len] at h2
 rw [rv_get,List.getElem_set,List.getElem_set]
 by_cases c1:l.length - 1 - i = k
 ·rw [if_pos c1,if_neg (by omega),if_pos (by omega)]
  congr 1;omega
 ·rw [if_neg c1]
  by_cases c2:i = k
  ·rw [if_pos c2,if_neg (by omega),if_pos (by omega)]
   congr 1;omega
  ·rw [if_neg c2,rv_get]
   by_cases c3:k < i \/ l.length <= k + i
   ·rw [if_pos c3,if_pos (by omega)]
   ·rw [if_neg c3,if_neg (by omega)]
def nD_get {l:List Nm} {k:Nat} (h:k < l.length):(nD l)[k]? = some (.v (sV (l.getD k ByteArray.empty))):=by rw [gd h];simp [h]
def nD_len (l:List Nm):(nD l).length = l.length:=yAG ..
def le_agg2 {x y a b:D} (h:leD x a) (h':leD y b):leD (.agg [x,y]) (.agg [a,b]):=by simp only [leD,lesD];exact ⟨_,rfl,_,_,rfl,h,_,_,rfl,h',rfl⟩
def le_bool (b:Bool):leD (.v (.bool b)) (.v (.bool b)):=by simp [leD]
end Go.Fl
