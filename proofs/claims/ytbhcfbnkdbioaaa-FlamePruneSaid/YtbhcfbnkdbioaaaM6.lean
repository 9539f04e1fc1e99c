/- Part 6 of what the claim leans on: FVis, FFlS, FFl, FOfS, FOfT, FOf, FJnS, FJn, FSpec, FInvS, FInv, FLay, FCmp, FF1, FDr, FPr, FF2, FF3, FP1, FP2, FP3, FP4. -/
import Derived.Test.YtbhcfbnkdbioaaaM5
import Derived.Calls
import Derived.KernelRfl
import Derived.Orders
import Derived.Laws.Sem
import Derived.Laws.CopyRow
import Derived.Laws.Cells
import Derived.Room.Entries
import Derived.Lib.Overlaps
import GoSem.Conv.BytesToString
import Derived.OrdersHeld
import Derived.ProofKit
import Derived.OpenShut
import Derived.Carry
import Derived.Shelf.SlSortCmp.InsertionK
import Derived.Test.YtbhcfbnkdbioaaaProg
import Derived.Sort.Walk0
import Derived.Shelf.SlIter.Nil
import Derived.Shelf.SortM.Plain
import Derived.Shelf.SortM.SortNone
import Derived.Ground.GgzProg
import Derived.Ground.SlgmProg
import Derived.Shelf.SlSortCmp.WholeK
import Derived.Ground.SlsfProg
set_option linter.unusedVariables false
set_option linter.unusedSimpArgs false
set_option linter.unusedSectionVars false
namespace Go.Fl
open Go Go.Ab Go.Proofs Go.Proofs.Ytbhcfbnkdbioaaa.AbT
set_option maxHeartbeats 8000000 in
theorem q_visit:∀ (N:Nat) (F:Fo),F.len ≤ N → ∀ (H:Heap) (c q:Nat) (s:Int) (fp:List Nat) (fc ac vc:Nat) (L:List FN) (b:Bool) (par:Int),NodeAt H c q s F fp → F.Srt → F.Nms → c ≤ 1000000 → L.length + F.len ≤ 1000000 → VS H fc ac vc L b → Sound Try.prog 65 [pD q,iD par,pD ac,pD fc,pD vc] H (fun d H2=>d = .tup [] ∧ Visited H fc ac vc L b F par H2):=by
 intro N
 induction N using Nat.strongRecOn with
 | _ N IH =>
 intro F hlen H c q s fp fc ac vc L b par hN hS hNm hc hb hV
 obtain ⟨u,r,d,fp',hq,hSm,rfl,hCh⟩:=id hN
 obtain ⟨hd,l,fpk,hK,hD,hsl,hsort⟩:=ch_list hCh hS hNm (by omega)
 have hll:l.length ≤ 1000000:=by have h1:=congrArg List.length hK.heads;have h2:=heads_len F;rw [List.length_map] at h1;omega
 refine zBi Try.func65 rfl (by kernel_rfl) Try.ntmps65 (by simp) ?_
 refine zAF fun Y0 hY0=>?_
 refine zAG ?_
 try simp only [hq,↓zAK,EVq,TY,zAE,↓reduceIte,Nat.reduceLT,Nat.reduceLeDiff,Nat.reduceEqDiff,Nat.reduceAdd,Nat.reduceMul,Int.reduceLE,eq_self]
 refine zCH (q_keys H d hd) (fun dd Hx hdd=>?_)
 obtain ⟨rfl,rfl⟩:=hdd
 try simp only [hq,↓zAK,EVq,TY,zAE,↓reduceIte,Nat.reduceLT,Nat.reduceLeDiff,Nat.reduceEqDiff,Nat.reduceAdd,Nat.reduceMul,Int.reduceLE,eq_self]
 refine zCH hsort (fun dd Hx hdd=>?_)
 obtain ⟨rfl,rfl⟩:=hdd
 try simp only [hq,↓zAK,EVq,TY,zAE,↓reduceIte,Nat.reduceLT,Nat.reduceLeDiff,Nat.reduceEqDiff,Nat.reduceAdd,Nat.reduceMul,Int.reduceLE,eq_self]
 refine zAD [0,1,2,3,4,18,19,20] ?_
 simp only [KQ,↓KP,↓reduceIte,Nat.reduceEqDiff]
 subst hY0
 refine zCk ?_
 refine zAD [0,1,2,3,4,18,19,20] ?_
 simp only [KQ,↓KP,↓reduceIte,Nat.reduceEqDiff]
 have hk0:=keep_push H (some (.bx d))
 have hV0:=hV.push (some (.bx d))
 refine run_loop' (fun m e H1=>∃ (j:Nat) (Fj:Fo) (fpj:List Nat) (Lj:List FN) (bj:Bool),m = l.length - j ∧ j ≤ l.length ∧ KidsAt H1 c Fj (l.drop j) fpj ∧ Fj.Srt ∧ Fj.Nms ∧ Fj.len ≤ N ∧ Lj.length + Fj.len ≤ 1000000 ∧ VS H1 fc ac vc Lj bj ∧ Keep H H1 ∧ (∀ H2,Visited H1 fc ac vc Lj bj Fj par H2 → Visited H fc ac vc L b F par H2) ∧ e = envL [(0,pD q),(1,iD par),(2,pD ac),(3,pD fc),(4,pD vc),(18,.fz 1 (l.map fun p=>.v (sV p.1))),(19,iD (l.map fun p=>(.v (sV p.1):D)).length),(20,iD (j:Nat))]) l.length
   ⟨0,F,fpk,L,b,by simp,by omega,hK.keep hk0,hS,hNm,hlen,hb,hV0,hk0,fun H2 h=>h.pre hk0,rfl⟩ ?_
 intro C hC m e H1 ih hI
 obtain ⟨j,Fj,fpj,Lj,bj,rfl,hj,hKj,hSj,hNj,hlj,hbj,hVj,hkj,hW,rfl⟩:=hI
 refine zAF fun Y1 hY1=>?_
 refine zAG ?_
 try simp only [↓zAK,EVq,TY,zAE,↓reduceIte,Nat.reduceLT,Nat.reduceLeDiff,Nat.reduceEqDiff,Nat.reduceAdd,Nat.reduceMul,Int.reduceLE,eq_self]
 refine zAD [0,1,2,3,4,18,19,20,21] ?_
 simp only [KQ,↓KP,↓reduceIte,Nat.reduceEqDiff]
 subst hY1
 refine zAF fun Y2 hY2=>?_
 first | refine run_if (by simp only [↓zAZ,↓zAg,↓zAq,↓zAV,↓reduceIte,Nat.reduceEqDiff] <;> rfl) (fun h21=>?_) fun h21=>?_ | refine zCc (by simp only [↓zAZ,↓zAg,↓zAq,↓zAV,↓reduceIte,Nat.reduceEqDiff] <;> rfl) (fun h21=>?_) fun h21=>?_
 · refine zBV ?_
   subst hY2
   refine zAF fun Y3 hY3=>?_
   refine zCk ?_
   refine zAF fun Y4 hY4=>?_
   have hjl:j < l.length:=by rw [List.length_map] at h21;omega
   refine zAG ?_
   try simp only [nm_get2 hjl,↓zAK,EVq,TY,zAE,↓reduceIte,Nat.reduceLT,Nat.reduceLeDiff,Nat.reduceEqDiff,Nat.reduceAdd,Nat.reduceMul,Int.reduceLE,eq_self]
   refine zBa ⟨by omega,h21⟩ ?_
   try simp only [nm_get2 hjl,↓zAK,EVq,TY,zAE,↓reduceIte,Nat.reduceLT,Nat.reduceLeDiff,Nat.reduceEqDiff,Nat.reduceAdd,Nat.reduceMul,Int.reduceLE,eq_self]
   refine zAD [0,1,2,3,4,8,18,19,20] ?_
   simp only [KQ,↓KP,↓reduceIte,Nat.reduceEqDiff]
   subst hY4
   refine zAF fun Y5 hY5=>?_
   have hq1:=hkj.2 q _ hq (.inl ⟨_,_,_,rfl⟩)
   obtain ⟨m,es,cl,rfl,hm,ho⟩:∃ m es cl,d = .mp m ∧ Heap.get H1 m = some (.mp es cl) ∧ MapOk es cl l:=by
     rcases hD.keep hkj with h | h
     · subst h;simp at hjl
     · exact h
   have hdr:l.drop j = l[j] :: l.drop (j + 1):=List.drop_eq_getElem_cons hjl
   rw [hdr] at hKj
   obtain ⟨s2,sub,rest,fp1,fp2,rfl,hN2,hK2⟩:=kids_drop hKj
   obtain ⟨jj,bb,q2,hf,hjj,hmem⟩:=map_find ho (n:=l[j].1) (List.mem_map_of_mem (f:=(·.1)) (List.getElem_mem hjl))
   obtain rfl:l[j].2 = q2:=fst_inj hsl (show (l[j].1,l[j].2) ∈ l from List.getElem_mem hjl) hmem
   obtain ⟨u2,r2,d2,fpx,hq2,hSm2,_,_⟩:=id hN2
   refine zAG ?_
   try simp only [hq1,hm,hf,getM,hjj,↓zAK,EVq,TY,zAE,↓reduceIte,Nat.reduceLT,Nat.reduceLeDiff,Nat.reduceEqDiff,Nat.reduceAdd,Nat.reduceMul,Int.reduceLE,eq_self]
   refine zAD [0,1,2,3,4,8,9,18,19,20] ?_
   simp only [KQ,↓KP,↓reduceIte,Nat.reduceEqDiff]
   subst hY5
   refine zAF fun Y6 hY6=>?_
   refine zAG ?_
   try simp only [hq2,↓zAK,EVq,TY,zAE,↓reduceIte,Nat.reduceLT,Nat.reduceLeDiff,Nat.reduceEqDiff,Nat.reduceAdd,Nat.reduceMul,Int.reduceLE,eq_self]
   refine zCH ((q_value hSm2 hc).frame (by simp [zAh,D.noref]) _).sound (fun dd Hx hdd=>?_)
   obtain ⟨eHx,x,rfl,hx⟩:=hdd
   rw [eHx]
   clear eHx Hx
   try simp only [hq2,↓zAK,EVq,TY,zAE,↓reduceIte,Nat.reduceLT,Nat.reduceLeDiff,Nat.reduceEqDiff,Nat.reduceAdd,Nat.reduceMul,Int.reduceLE,eq_self]
   refine zAD [0,1,2,3,4,8,9,10,11,18,19,20] ?_
   simp only [KQ,↓KP,↓reduceIte,Nat.reduceEqDiff]
   subst hY6
   refine zAF fun Y7 hY7=>?_
   cases bj
   · refine zAG ?_
     try simp only [hVj.a,↓zAK,EVq,TY,zAE,↓reduceIte,Nat.reduceLT,Nat.reduceLeDiff,Nat.reduceEqDiff,Nat.reduceAdd,Nat.reduceMul,Int.reduceLE,eq_self]
     refine zAD [0,1,2,3,4,8,9,10,18,19,20] ?_
     simp only [KQ,↓KP,↓reduceIte,Nat.reduceEqDiff]
     subst hY7
     refine zAF fun Y8 hY8=>?_
     obtain ⟨hV3,hk3⟩:=hVj.flag (false)
     generalize hH3:(List.set H1 ac (some (Row.cells 1 [D.v (Value.bool (false))])):Heap) = H3 at hV3 hk3 ⊢
     rcases id hV3.f with ⟨hf0,rfl⟩ | ⟨rr,hf0,hrr⟩
     · refine zAG ?_
       try simp only [hf0,↓zAK,EVq,TY,zAE,↓reduceIte,Nat.reduceLT,Nat.reduceLeDiff,Nat.reduceEqDiff,Nat.reduceAdd,Nat.reduceMul,Int.reduceLE,eq_self]
       refine zAD [0,1,2,3,4,8,9,10,12,18,19,20] ?_
       simp only [KQ,↓KP,↓reduceIte,Nat.reduceEqDiff]
       subst hY8
       refine zAF fun Y9 hY9=>?_
       have q7:∀ X,Heap.get (H3 ++ [X]) H3.length = X:=fun X=>by rw [g_push,if_pos rfl]
       have q7f:∀ X Y,Heap.get (H3 ++ [X] ++ [Y]) fc = some (.cells 1 [.v (.slice none 0 0)]):=fun X Y=>by rw [g_push,g_push,if_neg (by have:=Heap.get_lt hf0;simp;omega),if_neg (by have:=Heap.get_lt hf0;omega)];exact hf0
       refine zAG ?_
       try simp only [hf0,q7,q7f,List.drop_zero,List.take_succ_cons,List.take_zero,List.map_cons,List.map_nil,↓zAK,EVq,TY,zAE,↓reduceIte,Nat.reduceLT,Nat.reduceLeDiff,Nat.reduceEqDiff,Nat.reduceAdd,Nat.reduceMul,Int.reduceLE,eq_self]
       try refine zBa (by first | rfl | decide | exact ⟨rfl,by decide,rfl⟩) ?_
       try simp only [hf0,q7,q7f,List.drop_zero,List.take_succ_cons,List.take_zero,List.map_cons,List.map_nil,↓zAK,EVq,TY,zAE,↓reduceIte,Nat.reduceLT,Nat.reduceLeDiff,Nat.reduceEqDiff,Nat.reduceAdd,Nat.reduceMul,Int.reduceLE,eq_self]
       refine zAD [0,1,2,3,4,9,10,12,18,19,20] ?_
       simp only [KQ,↓KP,↓reduceIte,Nat.reduceEqDiff]
       subst hY9
       refine zAF fun Y10 hY10=>?_
       refine run_gen (Q:=fun H4=>VS H4 fc ac vc ([] ++ [((par,l[j].1,x):FN)]) (false && wOk s2) ∧ Keep H1 H4) ⟨(hV3.app_nil hf0 (par,l[j].1,x)).1,hk3.trans (hV3.app_nil hf0 (par,l[j].1,x)).2⟩ ?_
       rintro H4 ⟨hV4,hk4⟩
       refine zAG ?_
       try simp only [hV4.v,↓zAK,EVq,TY,zAE,↓reduceIte,Nat.reduceLT,Nat.reduceLeDiff,Nat.reduceEqDiff,Nat.reduceAdd,Nat.reduceMul,Int.reduceLE,eq_self]
       refine zCH (IH sub.len (by rw [Fo.len] at hlj;omega) sub (Nat.le_refl _) H4 c _ s2 fp1 fc ac vc _ _ _ (hN2.keep hk4) hSj.2.1 hNj.2.1 hc (by rw [List.length_append,List.length_singleton];rw [Fo.len] at hbj;omega) hV4) (fun dd Hx hdd=>?_)
       obtain ⟨rfl,L5,hV5,hl5,hm5,he5,hk5⟩:=hdd
       try simp only [hV4.v,↓zAK,EVq,TY,zAE,↓reduceIte,Nat.reduceLT,Nat.reduceLeDiff,Nat.reduceEqDiff,Nat.reduceAdd,Nat.reduceMul,Int.reduceLE,eq_self]
       refine zAD [0,1,2,3,4,10,12,18,19,20] ?_
       simp only [KQ,↓KP,↓reduceIte,Nat.reduceEqDiff]
       subst hY10
       refine zAF fun Y11 hY11=>?_
       rw [List.length_append,List.length_singleton] at hl5 hm5
       obtain ⟨r5,hf5,hr5⟩:∃ r5,Heap.get Hx fc = some (.cells 1 [.sl r5 0 L5.length]) ∧ Heap.get Hx r5 = some (.cells 3 (L5.map fD)):=by
         rcases hV5.f with ⟨_,h⟩ | h
         · rw [h] at hl5;simp at hl5
         · exact h
       have hbj2:=hbj
       rw [Fo.len] at hbj2
       refine zAG ?_
       try simp only [hf5,↓zAK,EVq,TY,zAE,↓reduceIte,Nat.reduceLT,Nat.reduceLeDiff,Nat.reduceEqDiff,Nat.reduceAdd,Nat.reduceMul,Int.reduceLE,eq_self]
       first | refine gK_p (fun h57 d57=>?_) fun h57 d57=>?_ | refine gK_b (fun h57 d57=>?_) fun h57 d57=>?_
       · try simp only [d57,hf5,↓zAK,EVq,TY,zAE,↓reduceIte,Nat.reduceLT,Nat.reduceLeDiff,Nat.reduceEqDiff,Nat.reduceAdd,Nat.reduceMul,Int.reduceLE,eq_self]
         refine zAD [0,1,2,3,4,12,18,19,20,63] ?_
         simp only [KQ,↓KP,↓reduceIte,Nat.reduceEqDiff]
         subst hY11
         first | refine run_if (by simp only [↓zAZ,↓zAg,↓zAq,↓zAV,↓reduceIte,Nat.reduceEqDiff] <;> rfl) (fun h63=>?_) fun h63=>?_ | refine zCc (by simp only [↓zAZ,↓zAg,↓zAq,↓zAV,↓reduceIte,Nat.reduceEqDiff] <;> rfl) (fun h63=>?_) fun h63=>?_
         · refine zAG ?_
           try simp only [hf5,hr5,↓zAK,EVq,TY,zAE,↓reduceIte,Nat.reduceLT,Nat.reduceLeDiff,Nat.reduceEqDiff,Nat.reduceAdd,Nat.reduceMul,Int.reduceLE,eq_self]
           refine zBa (by omega) ?_
           try simp only [hf5,hr5,↓zAK,EVq,TY,zAE,↓reduceIte,Nat.reduceLT,Nat.reduceLeDiff,Nat.reduceEqDiff,Nat.reduceAdd,Nat.reduceMul,Int.reduceLE,eq_self]
           refine zAD [0,1,2,3,4,18,19,20] ?_
           simp only [KQ,↓KP,↓reduceIte,Nat.reduceEqDiff]
           refine zAr ?_
           subst hY3
           refine zAG ?_
           try simp only [↓zAK,EVq,TY,zAE,↓reduceIte,Nat.reduceLT,Nat.reduceLeDiff,Nat.reduceEqDiff,Nat.reduceAdd,Nat.reduceMul,Int.reduceLE,eq_self]
           refine zAD [0,1,2,3,4,18,19,20] ?_
           simp only [KQ,↓KP,↓reduceIte,Nat.reduceEqDiff]
           refine zAD [0,1,2,3,4,18,19,20] ?_
           simp only [KQ,↓KP,↓reduceIte,Nat.reduceEqDiff]
           have ej:IntKind.i64.wrap ((j:Int) + 1) = ((j + 1:Nat):Int):=by rw [zBX (by omega) (by omega)];omega
           have hz0:([]:List FN).length = 0:=rfl
           have he6:=fun h=>(he5 h)
           simp only [List.length_append,List.length_singleton] at he6
           rw [ej]
           first
             | (exact ih (l.length - (j + 1)) _ _ (by omega) ⟨j + 1,rest,fp2,L5,_,rfl,by omega,(hK2.keep hk4).keep hk5,hSj.2.2,hNj.2.2,by rw [Fo.len] at hlj;omega,by omega,hV5,hkj.trans (hk4.trans hk5),fun H2 h=>hW H2 (zCL (hk4.trans hk5) hx ⟨hl5,hm5⟩ he6 (by
                 rintro ⟨a1,a2⟩
                 first
                   | exact h57 a1
                   | (refine h63 ?_;rw [zBX (by omega) (by omega)];omega)) H2 h),rfl⟩)
             | (obtain ⟨hg6,hV6,hk6⟩:=hV5.cut hf5 hr5 (n:=([]:List FN).length) (by omega)
                have hz:L5.length = ([]:List FN).length + 1:=by
                  rw [zBX (by omega) (by omega)] at h63;omega
                refine run_cut (r:=r5) (k:=3) (j:=([]:List FN).length) (xs:=L5.map fD) hg6 (by rw [List.length_map];omega) ?_
                exact ih (l.length - (j + 1)) _ _ (by omega) ⟨j + 1,rest,fp2,L5.take ([]:List FN).length,_,rfl,by omega,((hK2.keep hk4).keep hk5).keep hk6,hSj.2.2,hNj.2.2,by rw [Fo.len] at hlj;omega,by rw [List.length_take];omega,hV6,hkj.trans ((hk4.trans hk5).trans hk6),fun H2 h=>hW H2 (zCs ((hk4.trans hk5).trans hk6) hx he6 hz h57 H2 h),rfl⟩)
         · refine zBV ?_
           refine zAr ?_
           subst hY3
           refine zAG ?_
           try simp only [↓zAK,EVq,TY,zAE,↓reduceIte,Nat.reduceLT,Nat.reduceLeDiff,Nat.reduceEqDiff,Nat.reduceAdd,Nat.reduceMul,Int.reduceLE,eq_self]
           refine zAD [0,1,2,3,4,18,19,20] ?_
           simp only [KQ,↓KP,↓reduceIte,Nat.reduceEqDiff]
           refine zAD [0,1,2,3,4,18,19,20] ?_
           simp only [KQ,↓KP,↓reduceIte,Nat.reduceEqDiff]
           have ej:IntKind.i64.wrap ((j:Int) + 1) = ((j + 1:Nat):Int):=by rw [zBX (by omega) (by omega)];omega
           have hz0:([]:List FN).length = 0:=rfl
           have he6:=fun h=>(he5 h)
           simp only [List.length_append,List.length_singleton] at he6
           rw [ej]
           first
             | (exact ih (l.length - (j + 1)) _ _ (by omega) ⟨j + 1,rest,fp2,L5,_,rfl,by omega,(hK2.keep hk4).keep hk5,hSj.2.2,hNj.2.2,by rw [Fo.len] at hlj;omega,by omega,hV5,hkj.trans (hk4.trans hk5),fun H2 h=>hW H2 (zCL (hk4.trans hk5) hx ⟨hl5,hm5⟩ he6 (by
                 rintro ⟨a1,a2⟩
                 first
                   | exact h57 a1
                   | (refine h63 ?_;rw [zBX (by omega) (by omega)];omega)) H2 h),rfl⟩)
             | (obtain ⟨hg6,hV6,hk6⟩:=hV5.cut hf5 hr5 (n:=([]:List FN).length) (by omega)
                have hz:L5.length = ([]:List FN).length + 1:=by
                  rw [zBX (by omega) (by omega)] at h63;omega
                refine run_cut (r:=r5) (k:=3) (j:=([]:List FN).length) (xs:=L5.map fD) hg6 (by rw [List.length_map];omega) ?_
                exact ih (l.length - (j + 1)) _ _ (by omega) ⟨j + 1,rest,fp2,L5.take ([]:List FN).length,_,rfl,by omega,((hK2.keep hk4).keep hk5).keep hk6,hSj.2.2,hNj.2.2,by rw [Fo.len] at hlj;omega,by rw [List.length_take];omega,hV6,hkj.trans ((hk4.trans hk5).trans hk6),fun H2 h=>hW H2 (zCs ((hk4.trans hk5).trans hk6) hx he6 hz h57 H2 h),rfl⟩)
       · try simp only [d57,hf5,↓zAK,EVq,TY,zAE,↓reduceIte,Nat.reduceLT,Nat.reduceLeDiff,Nat.reduceEqDiff,Nat.reduceAdd,Nat.reduceMul,Int.reduceLE,eq_self]
         refine zAD [0,1,2,3,4,12,18,19,20,63] ?_
         simp only [KQ,↓KP,↓reduceIte,Nat.reduceEqDiff]
         subst hY11
         refine run_if_f (by simp only [↓zAZ,↓zAg,↓zAq,↓zAV,↓reduceIte,Nat.reduceEqDiff] <;> rfl) ?_
         refine zBV ?_
         refine zAr ?_
         subst hY3
         refine zAG ?_
         try simp only [↓zAK,EVq,TY,zAE,↓reduceIte,Nat.reduceLT,Nat.reduceLeDiff,Nat.reduceEqDiff,Nat.reduceAdd,Nat.reduceMul,Int.reduceLE,eq_self]
         refine zAD [0,1,2,3,4,18,19,20] ?_
         simp only [KQ,↓KP,↓reduceIte,Nat.reduceEqDiff]
         refine zAD [0,1,2,3,4,18,19,20] ?_
         simp only [KQ,↓KP,↓reduceIte,Nat.reduceEqDiff]
         have ej:IntKind.i64.wrap ((j:Int) + 1) = ((j + 1:Nat):Int):=by rw [zBX (by omega) (by omega)];omega
         have hz0:([]:List FN).length = 0:=rfl
         have he6:=fun h=>(he5 h)
         simp only [List.length_append,List.length_singleton] at he6
         rw [ej]
         first
           | (exact ih (l.length - (j + 1)) _ _ (by omega) ⟨j + 1,rest,fp2,L5,_,rfl,by omega,(hK2.keep hk4).keep hk5,hSj.2.2,hNj.2.2,by rw [Fo.len] at hlj;omega,by omega,hV5,hkj.trans (hk4.trans hk5),fun H2 h=>hW H2 (zCL (hk4.trans hk5) hx ⟨hl5,hm5⟩ he6 (by
               rintro ⟨a1,a2⟩
               first
                 | exact h57 a1
                 | (refine h63 ?_;rw [zBX (by omega) (by omega)];omega)) H2 h),rfl⟩)
           | (obtain ⟨hg6,hV6,hk6⟩:=hV5.cut hf5 hr5 (n:=([]:List FN).length) (by omega)
              have hz:L5.length = ([]:List FN).length + 1:=by
                rw [zBX (by omega) (by omega)] at h63;omega
              refine run_cut (r:=r5) (k:=3) (j:=([]:List FN).length) (xs:=L5.map fD) hg6 (by rw [List.length_map];omega) ?_
              exact ih (l.length - (j + 1)) _ _ (by omega) ⟨j + 1,rest,fp2,L5.take ([]:List FN).length,_,rfl,by omega,((hK2.keep hk4).keep hk5).keep hk6,hSj.2.2,hNj.2.2,by rw [Fo.len] at hlj;omega,by rw [List.length_take];omega,hV6,hkj.trans ((hk4.trans hk5).trans hk6),fun H2 h=>hW H2 (zCs ((hk4.trans hk5).trans hk6) hx he6 hz h57 H2 h),rfl⟩)
     · refine zAG ?_
       try simp only [hf0,↓zAK,EVq,TY,zAE,↓reduceIte,Nat.reduceLT,Nat.reduceLeDiff,Nat.reduceEqDiff,Nat.reduceAdd,Nat.reduceMul,Int.reduceLE,eq_self]
       refine zAD [0,1,2,3,4,8,9,10,12,18,19,20] ?_
       simp only [KQ,↓KP,↓reduceIte,Nat.reduceEqDiff]
       subst hY8
       refine zAF fun Y12 hY12=>?_
       have q7:∀ X,Heap.get (H3 ++ [X]) H3.length = X:=fun X=>by rw [g_push,if_pos rfl]
       have lrr:=Heap.get_lt hrr
       have nrf:rr ≠ fc:=fun e=>by subst e;have:=hf0.symm.trans hrr;simp at this
       have q7r:∀ X,Heap.get (H3 ++ [X]) rr = some (.cells 3 (Lj.map fD)):=fun X=>by rw [g_push,if_neg (by omega)];exact hrr
       have q7f:∀ X Y,Heap.get ((H3 ++ [X]).set rr none ++ [Y]) fc = some (.cells 1 [.sl rr 0 Lj.length]):=fun X Y=>by rw [g_push,zCd (by simp;omega),g_push,if_neg (by have:=Heap.get_lt hf0;simp;omega),if_neg nrf.symm,if_neg (by have:=Heap.get_lt hf0;omega)];exact hf0
       refine zAG ?_
       try simp only [hf0,q7,q7r,q7f,List.drop_zero,List.take_succ_cons,List.take_zero,List.map_cons,List.map_nil,↓zAK,EVq,TY,zAE,↓reduceIte,Nat.reduceLT,Nat.reduceLeDiff,Nat.reduceEqDiff,Nat.reduceAdd,Nat.reduceMul,Int.reduceLE,eq_self]
       try refine zBa (by first | rfl | decide | exact ⟨rfl,by decide,rfl⟩) ?_
       try simp only [hf0,q7,q7r,q7f,List.drop_zero,List.take_succ_cons,List.take_zero,List.map_cons,List.map_nil,↓zAK,EVq,TY,zAE,↓reduceIte,Nat.reduceLT,Nat.reduceLeDiff,Nat.reduceEqDiff,Nat.reduceAdd,Nat.reduceMul,Int.reduceLE,eq_self]
       refine zBa ⟨by simp,by omega⟩ ?_
       try simp only [hf0,q7,q7r,q7f,List.drop_zero,List.take_succ_cons,List.take_zero,List.map_cons,List.map_nil,↓zAK,EVq,TY,zAE,↓reduceIte,Nat.reduceLT,Nat.reduceLeDiff,Nat.reduceEqDiff,Nat.reduceAdd,Nat.reduceMul,Int.reduceLE,eq_self]
       refine zAD [0,1,2,3,4,9,10,12,18,19,20] ?_
       simp only [KQ,↓KP,↓reduceIte,Nat.reduceEqDiff]
       subst hY12
       refine zAF fun Y13 hY13=>?_
       refine run_gen (Q:=fun H4=>VS H4 fc ac vc (Lj ++ [((par,l[j].1,x):FN)]) (false && wOk s2) ∧ Keep H1 H4) ⟨(hV3.app_sl hf0 hrr (par,l[j].1,x)).1,hk3.trans (hV3.app_sl hf0 hrr (par,l[j].1,x)).2⟩ ?_
       rintro H4 ⟨hV4,hk4⟩
       refine zAG ?_
       try simp only [hV4.v,↓zAK,EVq,TY,zAE,↓reduceIte,Nat.reduceLT,Nat.reduceLeDiff,Nat.reduceEqDiff,Nat.reduceAdd,Nat.reduceMul,Int.reduceLE,eq_self]
       refine zCH (IH sub.len (by rw [Fo.len] at hlj;omega) sub (Nat.le_refl _) H4 c _ s2 fp1 fc ac vc _ _ _ (hN2.keep hk4) hSj.2.1 hNj.2.1 hc (by rw [List.length_append,List.length_singleton];rw [Fo.len] at hbj;omega) hV4) (fun dd Hx hdd=>?_)
       obtain ⟨rfl,L5,hV5,hl5,hm5,he5,hk5⟩:=hdd
       try simp only [hV4.v,↓zAK,EVq,TY,zAE,↓reduceIte,Nat.reduceLT,Nat.reduceLeDiff,Nat.reduceEqDiff,Nat.reduceAdd,Nat.reduceMul,Int.reduceLE,eq_self]
       refine zAD [0,1,2,3,4,10,12,18,19,20] ?_
       simp only [KQ,↓KP,↓reduceIte,Nat.reduceEqDiff]
       subst hY13
       refine zAF fun Y14 hY14=>?_
       rw [List.length_append,List.length_singleton] at hl5 hm5
       obtain ⟨r5,hf5,hr5⟩:∃ r5,Heap.get Hx fc = some (.cells 1 [.sl r5 0 L5.length]) ∧ Heap.get Hx r5 = some (.cells 3 (L5.map fD)):=by
         rcases hV5.f with ⟨_,h⟩ | h
         · rw [h] at hl5;simp at hl5
         · exact h
       have hbj2:=hbj
       rw [Fo.len] at hbj2
       refine zAG ?_
       try simp only [hf5,↓zAK,EVq,TY,zAE,↓reduceIte,Nat.reduceLT,Nat.reduceLeDiff,Nat.reduceEqDiff,Nat.reduceAdd,Nat.reduceMul,Int.reduceLE,eq_self]
       first | refine gK_p (fun h57 d57=>?_) fun h57 d57=>?_ | refine gK_b (fun h57 d57=>?_) fun h57 d57=>?_
       · try simp only [d57,hf5,↓zAK,EVq,TY,zAE,↓reduceIte,Nat.reduceLT,Nat.reduceLeDiff,Nat.reduceEqDiff,Nat.reduceAdd,Nat.reduceMul,Int.reduceLE,eq_self]
         refine zAD [0,1,2,3,4,12,18,19,20,63] ?_
         simp only [KQ,↓KP,↓reduceIte,Nat.reduceEqDiff]
         subst hY14
         first | refine run_if (by simp only [↓zAZ,↓zAg,↓zAq,↓zAV,↓reduceIte,Nat.reduceEqDiff] <;> rfl) (fun h63=>?_) fun h63=>?_ | refine zCc (by simp only [↓zAZ,↓zAg,↓zAq,↓zAV,↓reduceIte,Nat.reduceEqDiff] <;> rfl) (fun h63=>?_) fun h63=>?_
         · refine zAG ?_
           try simp only [hf5,hr5,↓zAK,EVq,TY,zAE,↓reduceIte,Nat.reduceLT,Nat.reduceLeDiff,Nat.reduceEqDiff,Nat.reduceAdd,Nat.reduceMul,Int.reduceLE,eq_self]
           refine zBa (by omega) ?_
           try simp only [hf5,hr5,↓zAK,EVq,TY,zAE,↓reduceIte,Nat.reduceLT,Nat.reduceLeDiff,Nat.reduceEqDiff,Nat.reduceAdd,Nat.reduceMul,Int.reduceLE,eq_self]
           refine zAD [0,1,2,3,4,18,19,20] ?_
           simp only [KQ,↓KP,↓reduceIte,Nat.reduceEqDiff]
           refine zAr ?_
           subst hY3
           refine zAG ?_
           try simp only [↓zAK,EVq,TY,zAE,↓reduceIte,Nat.reduceLT,Nat.reduceLeDiff,Nat.reduceEqDiff,Nat.reduceAdd,Nat.reduceMul,Int.reduceLE,eq_self]
           refine zAD [0,1,2,3,4,18,19,20] ?_
           simp only [KQ,↓KP,↓reduceIte,Nat.reduceEqDiff]
           refine zAD [0,1,2,3,4,18,19,20] ?_
           simp only [KQ,↓KP,↓reduceIte,Nat.reduceEqDiff]
           have ej:IntKind.i64.wrap ((j:Int) + 1) = ((j + 1:Nat):Int):=by rw [zBX (by omega) (by omega)];omega
           have hz0:([]:List FN).length = 0:=rfl
           have he6:=fun h=>(he5 h)
           simp only [List.length_append,List.length_singleton] at he6
           rw [ej]
           first
             | (exact ih (l.length - (j + 1)) _ _ (by omega) ⟨j + 1,rest,fp2,L5,_,rfl,by omega,(hK2.keep hk4).keep hk5,hSj.2.2,hNj.2.2,by rw [Fo.len] at hlj;omega,by omega,hV5,hkj.trans (hk4.trans hk5),fun H2 h=>hW H2 (zCL (hk4.trans hk5) hx ⟨hl5,hm5⟩ he6 (by
                 rintro ⟨a1,a2⟩
                 first
                   | exact h57 a1
                   | (refine h63 ?_;rw [zBX (by omega) (by omega)];omega)) H2 h),rfl⟩)
             | (obtain ⟨hg6,hV6,hk6⟩:=hV5.cut hf5 hr5 (n:=Lj.length) (by omega)
                have hz:L5.length = Lj.length + 1:=by
                  rw [zBX (by omega) (by omega)] at h63;omega
                refine run_cut (r:=r5) (k:=3) (j:=Lj.length) (xs:=L5.map fD) hg6 (by rw [List.length_map];omega) ?_
                exact ih (l.length - (j + 1)) _ _ (by omega) ⟨j + 1,rest,fp2,L5.take Lj.length,_,rfl,by omega,((hK2.keep hk4).keep hk5).keep hk6,hSj.2.2,hNj.2.2,by rw [Fo.len] at hlj;omega,by rw [List.length_take];omega,hV6,hkj.trans ((hk4.trans hk5).trans hk6),fun H2 h=>hW H2 (zCs ((hk4.trans hk5).trans hk6) hx he6 hz h57 H2 h),rfl⟩)
         · refine zBV ?_
           refine zAr ?_
           subst hY3
           refine zAG ?_
           try simp only [↓zAK,EVq,TY,zAE,↓reduceIte,Nat.reduceLT,Nat.reduceLeDiff,Nat.reduceEqDiff,Nat.reduceAdd,Nat.reduceMul,Int.reduceLE,eq_self]
           refine zAD [0,1,2,3,4,18,19,20] ?_
           simp only [KQ,↓KP,↓reduceIte,Nat.reduceEqDiff]
           refine zAD [0,1,2,3,4,18,19,20] ?_
           simp only [KQ,↓KP,↓reduceIte,Nat.reduceEqDiff]
           have ej:IntKind.i64.wrap ((j:Int) + 1) = ((j + 1:Nat):Int):=by rw [zBX (by omega) (by omega)];omega
           have hz0:([]:List FN).length = 0:=rfl
           have he6:=fun h=>(he5 h)
           simp only [List.length_append,List.length_singleton] at he6
           rw [ej]
           first
             | (exact ih (l.length - (j + 1)) _ _ (by omega) ⟨j + 1,rest,fp2,L5,_,rfl,by omega,(hK2.keep hk4).keep hk5,hSj.2.2,hNj.2.2,by rw [Fo.len] at hlj;omega,by omega,hV5,hkj.trans (hk4.trans hk5),fun H2 h=>hW H2 (zCL (hk4.trans hk5) hx ⟨hl5,hm5⟩ he6 (by
                 rintro ⟨a1,a2⟩
                 first
                   | exact h57 a1
                   | (refine h63 ?_;rw [zBX (by omega) (by omega)];omega)) H2 h),rfl⟩)
             | (obtain ⟨hg6,hV6,hk6⟩:=hV5.cut hf5 hr5 (n:=Lj.length) (by omega)
                have hz:L5.length = Lj.length + 1:=by
                  rw [zBX (by omega) (by omega)] at h63;omega
                refine run_cut (r:=r5) (k:=3) (j:=Lj.length) (xs:=L5.map fD) hg6 (by rw [List.length_map];omega) ?_
                exact ih (l.length - (j + 1)) _ _ (by omega) ⟨j + 1,rest,fp2,L5.take Lj.length,_,rfl,by omega,((hK2.keep hk4).keep hk5).keep hk6,hSj.2.2,hNj.2.2,by rw [Fo.len] at hlj;omega,by rw [List.length_take];omega,hV6,hkj.trans ((hk4.trans hk5).trans hk6),fun H2 h=>hW H2 (zCs ((hk4.trans hk5).trans hk6) hx he6 hz h57 H2 h),rfl⟩)
       · try simp only [d57,hf5,↓zAK,EVq,TY,zAE,↓reduceIte,Nat.reduceLT,Nat.reduceLeDiff,Nat.reduceEqDiff,Nat.reduceAdd,Nat.reduceMul,Int.reduceLE,eq_self]
         refine zAD [0,1,2,3,4,12,18,19,20,63] ?_
         simp only [KQ,↓KP,↓reduceIte,Nat.reduceEqDiff]
         subst hY14
         refine run_if_f (by simp only [↓zAZ,↓zAg,↓zAq,↓zAV,↓reduceIte,Nat.reduceEqDiff] <;> rfl) ?_
         refine zBV ?_
         refine zAr ?_
         subst hY3
         refine zAG ?_
         try simp only [↓zAK,EVq,TY,zAE,↓reduceIte,Nat.reduceLT,Nat.reduceLeDiff,Nat.reduceEqDiff,Nat.reduceAdd,Nat.reduceMul,Int.reduceLE,eq_self]
         refine zAD [0,1,2,3,4,18,19,20] ?_
         simp only [KQ,↓KP,↓reduceIte,Nat.reduceEqDiff]
         refine zAD [0,1,2,3,4,18,19,20] ?_
         simp only [KQ,↓KP,↓reduceIte,Nat.reduceEqDiff]
         have ej:IntKind.i64.wrap ((j:Int) + 1) = ((j + 1:Nat):Int):=by rw [zBX (by omega) (by omega)];omega
         have hz0:([]:List FN).length = 0:=rfl
         have he6:=fun h=>(he5 h)
         simp only [List.length_append,List.length_singleton] at he6
         rw [ej]
         first
           | (exact ih (l.length - (j + 1)) _ _ (by omega) ⟨j + 1,rest,fp2,L5,_,rfl,by omega,(hK2.keep hk4).keep hk5,hSj.2.2,hNj.2.2,by rw [Fo.len] at hlj;omega,by omega,hV5,hkj.trans (hk4.trans hk5),fun H2 h=>hW H2 (zCL (hk4.trans hk5) hx ⟨hl5,hm5⟩ he6 (by
               rintro ⟨a1,a2⟩
               first
                 | exact h57 a1
                 | (refine h63 ?_;rw [zBX (by omega) (by omega)];omega)) H2 h),rfl⟩)
           | (obtain ⟨hg6,hV6,hk6⟩:=hV5.cut hf5 hr5 (n:=Lj.length) (by omega)
              have hz:L5.length = Lj.length + 1:=by
                rw [zBX (by omega) (by omega)] at h63;omega
              refine run_cut (r:=r5) (k:=3) (j:=Lj.length) (xs:=L5.map fD) hg6 (by rw [List.length_map];omega) ?_
              exact ih (l.length - (j + 1)) _ _ (by omega) ⟨j + 1,rest,fp2,L5.take Lj.length,_,rfl,by omega,((hK2.keep hk4).keep hk5).keep hk6,hSj.2.2,hNj.2.2,by rw [Fo.len] at hlj;omega,by rw [List.length_take];omega,hV6,hkj.trans ((hk4.trans hk5).trans hk6),fun H2 h=>hW H2 (zCs ((hk4.trans hk5).trans hk6) hx he6 hz h57 H2 h),rfl⟩)
   · refine zAG ?_
     try simp only [hVj.a,↓zAK,EVq,TY,zAE,↓reduceIte,Nat.reduceLT,Nat.reduceLeDiff,Nat.reduceEqDiff,Nat.reduceAdd,Nat.reduceMul,Int.reduceLE,eq_self]
     refine zAD [0,1,2,3,4,8,9,10,18,19,20] ?_
     simp only [KQ,↓KP,↓reduceIte,Nat.reduceEqDiff]
     subst hY7
     refine zAF fun Y15 hY15=>?_
     obtain ⟨hV3,hk3⟩:=hVj.flag (wOk s2)
     generalize hH3:(List.set H1 ac (some (Row.cells 1 [D.v (Value.bool (wOk s2))])):Heap) = H3 at hV3 hk3 ⊢
     rcases id hV3.f with ⟨hf0,rfl⟩ | ⟨rr,hf0,hrr⟩
     · refine zAG ?_
       try simp only [hf0,↓zAK,EVq,TY,zAE,↓reduceIte,Nat.reduceLT,Nat.reduceLeDiff,Nat.reduceEqDiff,Nat.reduceAdd,Nat.reduceMul,Int.reduceLE,eq_self]
       refine zAD [0,1,2,3,4,8,9,10,12,18,19,20] ?_
       simp only [KQ,↓KP,↓reduceIte,Nat.reduceEqDiff]
       subst hY15
       refine zAF fun Y16 hY16=>?_
       have q7:∀ X,Heap.get (H3 ++ [X]) H3.length = X:=fun X=>by rw [g_push,if_pos rfl]
       have q7f:∀ X Y,Heap.get (H3 ++ [X] ++ [Y]) fc = some (.cells 1 [.v (.slice none 0 0)]):=fun X Y=>by rw [g_push,g_push,if_neg (by have:=Heap.get_lt hf0;simp;omega),if_neg (by have:=Heap.get_lt hf0;omega)];exact hf0
       refine zAG ?_
       try simp only [hf0,q7,q7f,List.drop_zero,List.take_succ_cons,List.take_zero,List.map_cons,List.map_nil,↓zAK,EVq,TY,zAE,↓reduceIte,Nat.reduceLT,Nat.reduceLeDiff,Nat.reduceEqDiff,Nat.reduceAdd,Nat.reduceMul,Int.reduceLE,eq_self]
       try refine zBa (by first | rfl | decide | exact ⟨rfl,by decide,rfl⟩) ?_
       try simp only [hf0,q7,q7f,List.drop_zero,List.take_succ_cons,List.take_zero,List.map_cons,List.map_nil,↓zAK,EVq,TY,zAE,↓reduceIte,Nat.reduceLT,Nat.reduceLeDiff,Nat.reduceEqDiff,Nat.reduceAdd,Nat.reduceMul,Int.reduceLE,eq_self]
       refine zAD [0,1,2,3,4,9,10,12,18,19,20] ?_
       simp only [KQ,↓KP,↓reduceIte,Nat.reduceEqDiff]
       subst hY16
       refine zAF fun Y17 hY17=>?_
       refine run_gen (Q:=fun H4=>VS H4 fc ac vc ([] ++ [((par,l[j].1,x):FN)]) (true && wOk s2) ∧ Keep H1 H4) ⟨(hV3.app_nil hf0 (par,l[j].1,x)).1,hk3.trans (hV3.app_nil hf0 (par,l[j].1,x)).2⟩ ?_
       rintro H4 ⟨hV4,hk4⟩
       refine zAG ?_
       try simp only [hV4.v,↓zAK,EVq,TY,zAE,↓reduceIte,Nat.reduceLT,Nat.reduceLeDiff,Nat.reduceEqDiff,Nat.reduceAdd,Nat.reduceMul,Int.reduceLE,eq_self]
       refine zCH (IH sub.len (by rw [Fo.len] at hlj;omega) sub (Nat.le_refl _) H4 c _ s2 fp1 fc ac vc _ _ _ (hN2.keep hk4) hSj.2.1 hNj.2.1 hc (by rw [List.length_append,List.length_singleton];rw [Fo.len] at hbj;omega) hV4) (fun dd Hx hdd=>?_)
       obtain ⟨rfl,L5,hV5,hl5,hm5,he5,hk5⟩:=hdd
       try simp only [hV4.v,↓zAK,EVq,TY,zAE,↓reduceIte,Nat.reduceLT,Nat.reduceLeDiff,Nat.reduceEqDiff,Nat.reduceAdd,Nat.reduceMul,Int.reduceLE,eq_self]
       refine zAD [0,1,2,3,4,10,12,18,19,20] ?_
       simp only [KQ,↓KP,↓reduceIte,Nat.reduceEqDiff]
       subst hY17
       refine zAF fun Y18 hY18=>?_
       rw [List.length_append,List.length_singleton] at hl5 hm5
       obtain ⟨r5,hf5,hr5⟩:∃ r5,Heap.get Hx fc = some (.cells 1 [.sl r5 0 L5.length]) ∧ Heap.get Hx r5 = some (.cells 3 (L5.map fD)):=by
         rcases hV5.f with ⟨_,h⟩ | h
         · rw [h] at hl5;simp at hl5
         · exact h
       have hbj2:=hbj
       rw [Fo.len] at hbj2
       refine zAG ?_
       try simp only [hf5,↓zAK,EVq,TY,zAE,↓reduceIte,Nat.reduceLT,Nat.reduceLeDiff,Nat.reduceEqDiff,Nat.reduceAdd,Nat.reduceMul,Int.reduceLE,eq_self]
       first | refine gK_p (fun h57 d57=>?_) fun h57 d57=>?_ | refine gK_b (fun h57 d57=>?_) fun h57 d57=>?_
       · try simp only [d57,hf5,↓zAK,EVq,TY,zAE,↓reduceIte,Nat.reduceLT,Nat.reduceLeDiff,Nat.reduceEqDiff,Nat.reduceAdd,Nat.reduceMul,Int.reduceLE,eq_self]
         refine zAD [0,1,2,3,4,12,18,19,20,63] ?_
         simp only [KQ,↓KP,↓reduceIte,Nat.reduceEqDiff]
         subst hY18
         first | refine run_if (by simp only [↓zAZ,↓zAg,↓zAq,↓zAV,↓reduceIte,Nat.reduceEqDiff] <;> rfl) (fun h63=>?_) fun h63=>?_ | refine zCc (by simp only [↓zAZ,↓zAg,↓zAq,↓zAV,↓reduceIte,Nat.reduceEqDiff] <;> rfl) (fun h63=>?_) fun h63=>?_
         · refine zAG ?_
           try simp only [hf5,hr5,↓zAK,EVq,TY,zAE,↓reduceIte,Nat.reduceLT,Nat.reduceLeDiff,Nat.reduceEqDiff,Nat.reduceAdd,Nat.reduceMul,Int.reduceLE,eq_self]
           refine zBa (by omega) ?_
           try simp only [hf5,hr5,↓zAK,EVq,TY,zAE,↓reduceIte,Nat.reduceLT,Nat.reduceLeDiff,Nat.reduceEqDiff,Nat.reduceAdd,Nat.reduceMul,Int.reduceLE,eq_self]
           refine zAD [0,1,2,3,4,18,19,20] ?_
           simp only [KQ,↓KP,↓reduceIte,Nat.reduceEqDiff]
           refine zAr ?_
           subst hY3
           refine zAG ?_
           try simp only [↓zAK,EVq,TY,zAE,↓reduceIte,Nat.reduceLT,Nat.reduceLeDiff,Nat.reduceEqDiff,Nat.reduceAdd,Nat.reduceMul,Int.reduceLE,eq_self]
           refine zAD [0,1,2,3,4,18,19,20] ?_
           simp only [KQ,↓KP,↓reduceIte,Nat.reduceEqDiff]
           refine zAD [0,1,2,3,4,18,19,20] ?_
           simp only [KQ,↓KP,↓reduceIte,Nat.reduceEqDiff]
           have ej:IntKind.i64.wrap ((j:Int) + 1) = ((j + 1:Nat):Int):=by rw [zBX (by omega) (by omega)];omega
           have hz0:([]:List FN).length = 0:=rfl
           have he6:=fun h=>(he5 h)
           simp only [List.length_append,List.length_singleton] at he6
           rw [ej]
           first
             | (exact ih (l.length - (j + 1)) _ _ (by omega) ⟨j + 1,rest,fp2,L5,_,rfl,by omega,(hK2.keep hk4).keep hk5,hSj.2.2,hNj.2.2,by rw [Fo.len] at hlj;omega,by omega,hV5,hkj.trans (hk4.trans hk5),fun H2 h=>hW H2 (zCL (hk4.trans hk5) hx ⟨hl5,hm5⟩ he6 (by
                 rintro ⟨a1,a2⟩
                 first
                   | exact h57 a1
                   | (refine h63 ?_;rw [zBX (by omega) (by omega)];omega)) H2 h),rfl⟩)
             | (obtain ⟨hg6,hV6,hk6⟩:=hV5.cut hf5 hr5 (n:=([]:List FN).length) (by omega)
                have hz:L5.length = ([]:List FN).length + 1:=by
                  rw [zBX (by omega) (by omega)] at h63;omega
                refine run_cut (r:=r5) (k:=3) (j:=([]:List FN).length) (xs:=L5.map fD) hg6 (by rw [List.length_map];omega) ?_
                exact ih (l.length - (j + 1)) _ _ (by omega) ⟨j + 1,rest,fp2,L5.take ([]:List FN).length,_,rfl,by omega,((hK2.keep hk4).keep hk5).keep hk6,hSj.2.2,hNj.2.2,by rw [Fo.len] at hlj;omega,by rw [List.length_take];omega,hV6,hkj.trans ((hk4.trans hk5).trans hk6),fun H2 h=>hW H2 (zCs ((hk4.trans hk5).trans hk6) hx he6 hz h57 H2 h),rfl⟩)
         · refine zBV ?_
           refine zAr ?_
           subst hY3
           refine zAG ?_
           try simp only [↓zAK,EVq,TY,zAE,↓reduceIte,Nat.reduceLT,Nat.reduceLeDiff,Nat.reduceEqDiff,Nat.reduceAdd,Nat.reduceMul,Int.reduceLE,eq_self]
           refine zAD [0,1,2,3,4,18,19,20] ?_
           simp only [KQ,↓KP,↓reduceIte,Nat.reduceEqDiff]
           refine zAD [0,1,2,3,4,18,19,20] ?_
           simp only [KQ,↓KP,↓reduceIte,Nat.reduceEqDiff]
           have ej:IntKind.i64.wrap ((j:Int) + 1) = ((j + 1:Nat):Int):=by rw [zBX (by omega) (by omega)];omega
           have hz0:([]:List FN).length = 0:=rfl
           have he6:=fun h=>(he5 h)
           simp only [List.length_append,List.length_singleton] at he6
           rw [ej]
           first
             | (exact ih (l.length - (j + 1)) _ _ (by omega) ⟨j + 1,rest,fp2,L5,_,rfl,by omega,(hK2.keep hk4).keep hk5,hSj.2.2,hNj.2.2,by rw [Fo.len] at hlj;omega,by omega,hV5,hkj.trans (hk4.trans hk5),fun H2 h=>hW H2 (zCL (hk4.trans hk5) hx ⟨hl5,hm5⟩ he6 (by
                 rintro ⟨a1,a2⟩
                 first
                   | exact h57 a1
                   | (refine h63 ?_;rw [zBX (by omega) (by omega)];omega)) H2 h),rfl⟩)
             | (obtain ⟨hg6,hV6,hk6⟩:=hV5.cut hf5 hr5 (n:=([]:List FN).length) (by omega)
                have hz:L5.length = ([]:List FN).length + 1:=by
                  rw [zBX (by omega) (by omega)] at h63;omega
                refine run_cut (r:=r5) (k:=3) (j:=([]:List FN).length) (xs:=L5.map fD) hg6 (by rw [List.length_map];omega) ?_
                exact ih (l.length - (j + 1)) _ _ (by omega) ⟨j + 1,rest,fp2,L5.take ([]:List FN).length,_,rfl,by omega,((hK2.keep hk4).keep hk5).keep hk6,hSj.2.2,hNj.2.2,by rw [Fo.len] at hlj;omega,by rw [List.length_take];omega,hV6,hkj.trans ((hk4.trans hk5).trans hk6),fun H2 h=>hW H2 (zCs ((hk4.trans hk5).trans hk6) hx he6 hz h57 H2 h),rfl⟩)
       · try simp only [d57,hf5,↓zAK,EVq,TY,zAE,↓reduceIte,Nat.reduceLT,Nat.reduceLeDiff,Nat.reduceEqDiff,Nat.reduceAdd,Nat.reduceMul,Int.reduceLE,eq_self]
         refine zAD [0,1,2,3,4,12,18,19,20,63] ?_
         simp only [KQ,↓KP,↓reduceIte,Nat.reduceEqDiff]
         subst hY18
         refine run_if_f (by simp only [↓zAZ,↓zAg,↓zAq,↓zAV,↓reduceIte,Nat.reduceEqDiff] <;> rfl) ?_
         refine zBV ?_
         refine zAr ?_
         subst hY3
         refine zAG ?_
         try simp only [↓zAK,EVq,TY,zAE,↓reduceIte,Nat.reduceLT,Nat.reduceLeDiff,Nat.reduceEqDiff,Nat.reduceAdd,Nat.reduceMul,Int.reduceLE,eq_self]
         refine zAD [0,1,2,3,4,18,19,20] ?_
         simp only [KQ,↓KP,↓reduceIte,Nat.reduceEqDiff]
         refine zAD [0,1,2,3,4,18,19,20] ?_
         simp only [KQ,↓KP,↓reduceIte,Nat.reduceEqDiff]
         have ej:IntKind.i64.wrap ((j:Int) + 1) = ((j + 1:Nat):Int):=by rw [zBX (by omega) (by omega)];omega
         have hz0:([]:List FN).length = 0:=rfl
         have he6:=fun h=>(he5 h)
         simp only [List.length_append,List.length_singleton] at he6
         rw [ej]
         first
           | (exact ih (l.length - (j + 1)) _ _ (by omega) ⟨j + 1,rest,fp2,L5,_,rfl,by omega,(hK2.keep hk4).keep hk5,hSj.2.2,hNj.2.2,by rw [Fo.len] at hlj;omega,by omega,hV5,hkj.trans (hk4.trans hk5),fun H2 h=>hW H2 (zCL (hk4.trans hk5) hx ⟨hl5,hm5⟩ he6 (by
               rintro ⟨a1,a2⟩
               first
                 | exact h57 a1
                 | (refine h63 ?_;rw [zBX (by omega) (by omega)];omega)) H2 h),rfl⟩)
           | (obtain ⟨hg6,hV6,hk6⟩:=hV5.cut hf5 hr5 (n:=([]:List FN).length) (by omega)
              have hz:L5.length = ([]:List FN).length + 1:=by
                rw [zBX (by omega) (by omega)] at h63;omega
              refine run_cut (r:=r5) (k:=3) (j:=([]:List FN).length) (xs:=L5.map fD) hg6 (by rw [List.length_map];omega) ?_
              exact ih (l.length - (j + 1)) _ _ (by omega) ⟨j + 1,rest,fp2,L5.take ([]:List FN).length,_,rfl,by omega,((hK2.keep hk4).keep hk5).keep hk6,hSj.2.2,hNj.2.2,by rw [Fo.len] at hlj;omega,by rw [List.length_take];omega,hV6,hkj.trans ((hk4.trans hk5).trans hk6),fun H2 h=>hW H2 (zCs ((hk4.trans hk5).trans hk6) hx he6 hz h57 H2 h),rfl⟩)
     · refine zAG ?_
       try simp only [hf0,↓zAK,EVq,TY,zAE,↓reduceIte,Nat.reduceLT,Nat.reduceLeDiff,Nat.reduceEqDiff,Nat.reduceAdd,Nat.reduceMul,Int.reduceLE,eq_self]
       refine zAD [0,1,2,3,4,8,9,10,12,18,19,20] ?_
       simp only [KQ,↓KP,↓reduceIte,Nat.reduceEqDiff]
       subst hY15
       refine zAF fun Y19 hY19=>?_
       have q7:∀ X,Heap.get (H3 ++ [X]) H3.length = X:=fun X=>by rw [g_push,if_pos rfl]
       have lrr:=Heap.get_lt hrr
       have nrf:rr ≠ fc:=fun e=>by subst e;have:=hf0.symm.trans hrr;simp at this
       have q7r:∀ X,Heap.get (H3 ++ [X]) rr = some (.cells 3 (Lj.map fD)):=fun X=>by rw [g_push,if_neg (by omega)];exact hrr
       have q7f:∀ X Y,Heap.get ((H3 ++ [X]).set rr none ++ [Y]) fc = some (.cells 1 [.sl rr 0 Lj.length]):=fun X Y=>by rw [g_push,zCd (by simp;omega),g_push,if_neg (by have:=Heap.get_lt hf0;simp;omega),if_neg nrf.symm,if_neg (by have:=Heap.get_lt hf0;omega)];exact hf0
       refine zAG ?_
       try simp only [hf0,q7,q7r,q7f,List.drop_zero,List.take_succ_cons,List.take_zero,List.map_cons,List.map_nil,↓zAK,EVq,TY,zAE,↓reduceIte,Nat.reduceLT,Nat.reduceLeDiff,Nat.reduceEqDiff,Nat.reduceAdd,Nat.reduceMul,Int.reduceLE,eq_self]
       try refine zBa (by first | rfl | decide | exact ⟨rfl,by decide,rfl⟩) ?_
       try simp only [hf0,q7,q7r,q7f,List.drop_zero,List.take_succ_cons,List.take_zero,List.map_cons,List.map_nil,↓zAK,EVq,TY,zAE,↓reduceIte,Nat.reduceLT,Nat.reduceLeDiff,Nat.reduceEqDiff,Nat.reduceAdd,Nat.reduceMul,Int.reduceLE,eq_self]
       refine zBa ⟨by simp,by omega⟩ ?_
       try simp only [hf0,q7,q7r,q7f,List.drop_zero,List.take_succ_cons,List.take_zero,List.map_cons,List.map_nil,↓zAK,EVq,TY,zAE,↓reduceIte,Nat.reduceLT,Nat.reduceLeDiff,Nat.reduceEqDiff,Nat.reduceAdd,Nat.reduceMul,Int.reduceLE,eq_self]
       refine zAD [0,1,2,3,4,9,10,12,18,19,20] ?_
       simp only [KQ,↓KP,↓reduceIte,Nat.reduceEqDiff]
       subst hY19
       refine zAF fun Y20 hY20=>?_
       refine run_gen (Q:=fun H4=>VS H4 fc ac vc (Lj ++ [((par,l[j].1,x):FN)]) (true && wOk s2) ∧ Keep H1 H4) ⟨(hV3.app_sl hf0 hrr (par,l[j].1,x)).1,hk3.trans (hV3.app_sl hf0 hrr (par,l[j].1,x)).2⟩ ?_
       rintro H4 ⟨hV4,hk4⟩
       refine zAG ?_
       try simp only [hV4.v,↓zAK,EVq,TY,zAE,↓reduceIte,Nat.reduceLT,Nat.reduceLeDiff,Nat.reduceEqDiff,Nat.reduceAdd,Nat.reduceMul,Int.reduceLE,eq_self]
       refine zCH (IH sub.len (by rw [Fo.len] at hlj;omega) sub (Nat.le_refl _) H4 c _ s2 fp1 fc ac vc _ _ _ (hN2.keep hk4) hSj.2.1 hNj.2.1 hc (by rw [List.length_append,List.length_singleton];rw [Fo.len] at hbj;omega) hV4) (fun dd Hx hdd=>?_)
       obtain ⟨rfl,L5,hV5,hl5,hm5,he5,hk5⟩:=hdd
       try simp only [hV4.v,↓zAK,EVq,TY,zAE,↓reduceIte,Nat.reduceLT,Nat.reduceLeDiff,Nat.reduceEqDiff,Nat.reduceAdd,Nat.reduceMul,Int.reduceLE,eq_self]
       refine zAD [0,1,2,3,4,10,12,18,19,20] ?_
       simp only [KQ,↓KP,↓reduceIte,Nat.reduceEqDiff]
       subst hY20
       refine zAF fun Y21 hY21=>?_
       rw [List.length_append,List.length_singleton] at hl5 hm5
       obtain ⟨r5,hf5,hr5⟩:∃ r5,Heap.get Hx fc = some (.cells 1 [.sl r5 0 L5.length]) ∧ Heap.get Hx r5 = some (.cells 3 (L5.map fD)):=by
         rcases hV5.f with ⟨_,h⟩ | h
         · rw [h] at hl5;simp at hl5
         · exact h
       have hbj2:=hbj
       rw [Fo.len] at hbj2
       refine zAG ?_
       try simp only [hf5,↓zAK,EVq,TY,zAE,↓reduceIte,Nat.reduceLT,Nat.reduceLeDiff,Nat.reduceEqDiff,Nat.reduceAdd,Nat.reduceMul,Int.reduceLE,eq_self]
       first | refine gK_p (fun h57 d57=>?_) fun h57 d57=>?_ | refine gK_b (fun h57 d57=>?_) fun h57 d57=>?_
       · try simp only [d57,hf5,↓zAK,EVq,TY,zAE,↓reduceIte,Nat.reduceLT,Nat.reduceLeDiff,Nat.reduceEqDiff,Nat.reduceAdd,Nat.reduceMul,Int.reduceLE,eq_self]
         refine zAD [0,1,2,3,4,12,18,19,20,63] ?_
         simp only [KQ,↓KP,↓reduceIte,Nat.reduceEqDiff]
         subst hY21
         first | refine run_if (by simp only [↓zAZ,↓zAg,↓zAq,↓zAV,↓reduceIte,Nat.reduceEqDiff] <;> rfl) (fun h63=>?_) fun h63=>?_ | refine zCc (by simp only [↓zAZ,↓zAg,↓zAq,↓zAV,↓reduceIte,Nat.reduceEqDiff] <;> rfl) (fun h63=>?_) fun h63=>?_
         · refine zAG ?_
           try simp only [hf5,hr5,↓zAK,EVq,TY,zAE,↓reduceIte,Nat.reduceLT,Nat.reduceLeDiff,Nat.reduceEqDiff,Nat.reduceAdd,Nat.reduceMul,Int.reduceLE,eq_self]
           refine zBa (by omega) ?_
           try simp only [hf5,hr5,↓zAK,EVq,TY,zAE,↓reduceIte,Nat.reduceLT,Nat.reduceLeDiff,Nat.reduceEqDiff,Nat.reduceAdd,Nat.reduceMul,Int.reduceLE,eq_self]
           refine zAD [0,1,2,3,4,18,19,20] ?_
           simp only [KQ,↓KP,↓reduceIte,Nat.reduceEqDiff]
           refine zAr ?_
           subst hY3
           refine zAG ?_
           try simp only [↓zAK,EVq,TY,zAE,↓reduceIte,Nat.reduceLT,Nat.reduceLeDiff,Nat.reduceEqDiff,Nat.reduceAdd,Nat.reduceMul,Int.reduceLE,eq_self]
           refine zAD [0,1,2,3,4,18,19,20] ?_
           simp only [KQ,↓KP,↓reduceIte,Nat.reduceEqDiff]
           refine zAD [0,1,2,3,4,18,19,20] ?_
           simp only [KQ,↓KP,↓reduceIte,Nat.reduceEqDiff]
           have ej:IntKind.i64.wrap ((j:Int) + 1) = ((j + 1:Nat):Int):=by rw [zBX (by omega) (by omega)];omega
           have hz0:([]:List FN).length = 0:=rfl
           have he6:=fun h=>(he5 h)
           simp only [List.length_append,List.length_singleton] at he6
           rw [ej]
           first
             | (exact ih (l.length - (j + 1)) _ _ (by omega) ⟨j + 1,rest,fp2,L5,_,rfl,by omega,(hK2.keep hk4).keep hk5,hSj.2.2,hNj.2.2,by rw [Fo.len] at hlj;omega,by omega,hV5,hkj.trans (hk4.trans hk5),fun H2 h=>hW H2 (zCL (hk4.trans hk5) hx ⟨hl5,hm5⟩ he6 (by
                 rintro ⟨a1,a2⟩
                 first
                   | exact h57 a1
                   | (refine h63 ?_;rw [zBX (by omega) (by omega)];omega)) H2 h),rfl⟩)
             | (obtain ⟨hg6,hV6,hk6⟩:=hV5.cut hf5 hr5 (n:=Lj.length) (by omega)
                have hz:L5.length = Lj.length + 1:=by
                  rw [zBX (by omega) (by omega)] at h63;omega
                refine run_cut (r:=r5) (k:=3) (j:=Lj.length) (xs:=L5.map fD) hg6 (by rw [List.length_map];omega) ?_
                exact ih (l.length - (j + 1)) _ _ (by omega) ⟨j + 1,rest,fp2,L5.take Lj.length,_,rfl,by omega,((hK2.keep hk4).keep hk5).keep hk6,hSj.2.2,hNj.2.2,by rw [Fo.len] at hlj;omega,by rw [List.length_take];omega,hV6,hkj.trans ((hk4.trans hk5).trans hk6),fun H2 h=>hW H2 (zCs ((hk4.trans hk5).trans hk6) hx he6 hz h57 H2 h),rfl⟩)
         · refine zBV ?_
           refine zAr ?_
           subst hY3
           refine zAG ?_
           try simp only [↓zAK,EVq,TY,zAE,↓reduceIte,Nat.reduceLT,Nat.reduceLeDiff,Nat.reduceEqDiff,Nat.reduceAdd,Nat.reduceMul,Int.reduceLE,eq_self]
           refine zAD [0,1,2,3,4,18,19,20] ?_
           simp only [KQ,↓KP,↓reduceIte,Nat.reduceEqDiff]
           refine zAD [0,1,2,3,4,18,19,20] ?_
           simp only [KQ,↓KP,↓reduceIte,Nat.reduceEqDiff]
           have ej:IntKind.i64.wrap ((j:Int) + 1) = ((j + 1:Nat):Int):=by rw [zBX (by omega) (by omega)];omega
           have hz0:([]:List FN).length = 0:=rfl
           have he6:=fun h=>(he5 h)
           simp only [List.length_append,List.length_singleton] at he6
           rw [ej]
           first
             | (exact ih (l.length - (j + 1)) _ _ (by omega) ⟨j + 1,rest,fp2,L5,_,rfl,by omega,(hK2.keep hk4).keep hk5,hSj.2.2,hNj.2.2,by rw [Fo.len] at hlj;omega,by omega,hV5,hkj.trans (hk4.trans hk5),fun H2 h=>hW H2 (zCL (hk4.trans hk5) hx ⟨hl5,hm5⟩ he6 (by
                 rintro ⟨a1,a2⟩
                 first
                   | exact h57 a1
                   | (refine h63 ?_;rw [zBX (by omega) (by omega)];omega)) H2 h),rfl⟩)
             | (obtain ⟨hg6,hV6,hk6⟩:=hV5.cut hf5 hr5 (n:=Lj.length) (by omega)
                have hz:L5.length = Lj.length + 1:=by
                  rw [zBX (by omega) (by omega)] at h63;omega
                refine run_cut (r:=r5) (k:=3) (j:=Lj.length) (xs:=L5.map fD) hg6 (by rw [List.length_map];omega) ?_
                exact ih (l.length - (j + 1)) _ _ (by omega) ⟨j + 1,rest,fp2,L5.take Lj.length,_,rfl,by omega,((hK2.keep hk4).keep hk5).keep hk6,hSj.2.2,hNj.2.2,by rw [Fo.len] at hlj;omega,by rw [List.length_take];omega,hV6,hkj.trans ((hk4.trans hk5).trans hk6),fun H2 h=>hW H2 (zCs ((hk4.trans hk5).trans hk6) hx he6 hz h57 H2 h),rfl⟩)
       · try simp only [d57,hf5,↓zAK,EVq,TY,zAE,↓reduceIte,Nat.reduceLT,Nat.reduceLeDiff,Nat.reduceEqDiff,Nat.reduceAdd,Nat.reduceMul,Int.reduceLE,eq_self]
         refine zAD [0,1,2,3,4,12,18,19,20,63] ?_
         simp only [KQ,↓KP,↓reduceIte,Nat.reduceEqDiff]
         subst hY21
         refine run_if_f (by simp only [↓zAZ,↓zAg,↓zAq,↓zAV,↓reduceIte,Nat.reduceEqDiff] <;> rfl) ?_
         refine zBV ?_
         refine zAr ?_
         subst hY3
         refine zAG ?_
         try simp only [↓zAK,EVq,TY,zAE,↓reduceIte,Nat.reduceLT,Nat.reduceLeDiff,Nat.reduceEqDiff,Nat.reduceAdd,Nat.reduceMul,Int.reduceLE,eq_self]
         refine zAD [0,1,2,3,4,18,19,20] ?_
         simp only [KQ,↓KP,↓reduceIte,Nat.reduceEqDiff]
         refine zAD [0,1,2,3,4,18,19,20] ?_
         simp only [KQ,↓KP,↓reduceIte,Nat.reduceEqDiff]
         have ej:IntKind.i64.wrap ((j:Int) + 1) = ((j + 1:Nat):Int):=by rw [zBX (by omega) (by omega)];omega
         have hz0:([]:List FN).length = 0:=rfl
         have he6:=fun h=>(he5 h)
         simp only [List.length_append,List.length_singleton] at he6
         rw [ej]
         first
           | (exact ih (l.length - (j + 1)) _ _ (by omega) ⟨j + 1,rest,fp2,L5,_,rfl,by omega,(hK2.keep hk4).keep hk5,hSj.2.2,hNj.2.2,by rw [Fo.len] at hlj;omega,by omega,hV5,hkj.trans (hk4.trans hk5),fun H2 h=>hW H2 (zCL (hk4.trans hk5) hx ⟨hl5,hm5⟩ he6 (by
               rintro ⟨a1,a2⟩
               first
                 | exact h57 a1
                 | (refine h63 ?_;rw [zBX (by omega) (by omega)];omega)) H2 h),rfl⟩)
           | (obtain ⟨hg6,hV6,hk6⟩:=hV5.cut hf5 hr5 (n:=Lj.length) (by omega)
              have hz:L5.length = Lj.length + 1:=by
                rw [zBX (by omega) (by omega)] at h63;omega
              refine run_cut (r:=r5) (k:=3) (j:=Lj.length) (xs:=L5.map fD) hg6 (by rw [List.length_map];omega) ?_
              exact ih (l.length - (j + 1)) _ _ (by omega) ⟨j + 1,rest,fp2,L5.take Lj.length,_,rfl,by omega,((hK2.keep hk4).keep hk5).keep hk6,hSj.2.2,hNj.2.2,by rw [Fo.len] at hlj;omega,by rw [List.length_take];omega,hV6,hkj.trans ((hk4.trans hk5).trans hk6),fun H2 h=>hW H2 (zCs ((hk4.trans hk5).trans hk6) hx he6 hz h57 H2 h),rfl⟩)
 · refine run_exit (by rfl) ?_
   have ej:j = l.length:=by rw [List.length_map] at h21;omega
   subst ej
   rw [List.drop_length] at hKj
   obtain rfl:=kids_nil hKj
   refine run_end Try.func65 Try.results65 (by simp only [aRes,↓zAZ,↓KP,KQ,↓reduceIte,Nat.reduceEqDiff,zBR,TY] <;> rfl) (Weak.refl _ _ _) ?_
   exact ⟨rfl,hW _ (step_end hVj)⟩
open Go Go.Ab Go.T Go.Proofs
def flR (F:Fo):List FN × Int:=if F.okW = true then (if 2000 < (F.vis (-1) 0).length then ([],4) else (F.vis (-1) 0,0)) else ([],2)
def flD (F:Fo):D:=.tup [.fz 3 ((flR F).1.map fD),iD (flR F).2]
def FlRes (F:Fo) (d:D):Prop:=d = flD F ∨ ((flR F).1 = [] ∧ d = .tup [.v (.slice none 0 0),iD (flR F).2])
section
variable {F:Fo} {L5:List FN}
theorem res_bad (h:(!F.okW) = true):FlRes F (.tup [.v (.slice none 0 0),iD 2]):=by
 have e:flR F = ([],2):=by unfold flR;rw [if_neg (by simpa using h)]
 exact .inr ⟨by rw [e],by rw [e]⟩
theorem res_long (h:(!F.okW) = false) (he:F.okW = true → L5 = [] ++ F.vis (-1) ([]:List FN).length) (hl:(2000:Int) < L5.length):FlRes F (.tup [.v (.slice none 0 0),iD 4]):=by
 have h:F.okW = true:=by simpa using h
 have e1:=he h
 rw [List.nil_append] at e1
 have e:flR F = ([],4):=by unfold flR;rw [if_pos h,if_pos (by rw [e1] at hl;exact Int.ofNat_lt.1 hl)]
 exact .inr ⟨by rw [e],by rw [e]⟩
theorem res_sl (h:(!F.okW) = false) (he:F.okW = true → L5 = [] ++ F.vis (-1) ([]:List FN).length) (hl:¬ (2000:Int) < L5.length):FlRes F (.tup [.fz 3 (((L5.map fD).drop 0).take L5.length),iD 0]):=by
 have h:F.okW = true:=by simpa using h
 have e1:=he h
 rw [List.nil_append] at e1
 have e:flR F = (L5,0):=by
   unfold flR
   rw [if_pos h,if_neg (by rw [e1] at hl;exact fun h=>hl (Int.ofNat_lt.2 h)),e1];rfl
 refine .inl ?_
 unfold flD
 rw [e,List.drop_zero,List.take_of_length_le (by simp)]
theorem res_nil (h:(!F.okW) = false) (he:F.okW = true → ([]:List FN) = [] ++ F.vis (-1) ([]:List FN).length):FlRes F (.tup [.v (.slice none 0 0),iD 0]):=by
 have h:F.okW = true:=by simpa using h
 have e1:=he h
 rw [List.nil_append] at e1
 have e:flR F = ([],0):=by
   unfold flR
   rw [if_pos h]
   show (if 2000 < (F.vis (-1) ([]:List FN).length).length then _ else (F.vis (-1) ([]:List FN).length,(0:Int))) = _
   rw [← e1];rfl
 exact .inr ⟨by rw [e],by rw [e]⟩
end
theorem lies_nf:(D.v Value.nilFunc).lies = true:=rfl
theorem init_vs (H:Heap):VS (((H ++ [some (Row.cells 1 [D.v (.slice none 0 0)])] ++ [some (Row.cells 1 [D.v (.bool false)])]).set (H ++ [some (Row.cells 1 [D.v (.slice none 0 0)])]).length (some (Row.cells 1 [D.v (.bool true)])) ++ [some (Row.cells (D.v Value.nilFunc).width [D.v Value.nilFunc])]).set ((H ++ [some (Row.cells 1 [D.v (.slice none 0 0)])] ++ [some (Row.cells 1 [D.v (.bool false)])]).set (H ++ [some (Row.cells 1 [D.v (.slice none 0 0)])]).length (some (Row.cells 1 [D.v (.bool true)]))).length (some (Row.cells 1 [D.fn (.func 65) [] [pD (H ++ [some (Row.cells 1 [D.v (.slice none 0 0)])]).length,pD H.length,pD ((H ++ [some (Row.cells 1 [D.v (.slice none 0 0)])] ++ [some (Row.cells 1 [D.v (.bool false)])]).set (H ++ [some (Row.cells 1 [D.v (.slice none 0 0)])]).length (some (Row.cells 1 [D.v (.bool true)]))).length]])))
   H.length (H ++ [some (Row.cells 1 [D.v (.slice none 0 0)])]).length ((H ++ [some (Row.cells 1 [D.v (.slice none 0 0)])] ++ [some (Row.cells 1 [D.v (.bool false)])]).set (H ++ [some (Row.cells 1 [D.v (.slice none 0 0)])]).length (some (Row.cells 1 [D.v (.bool true)]))).length [] true ∧
   Keep H (((H ++ [some (Row.cells 1 [D.v (.slice none 0 0)])] ++ [some (Row.cells 1 [D.v (.bool false)])]).set (H ++ [some (Row.cells 1 [D.v (.slice none 0 0)])]).length (some (Row.cells 1 [D.v (.bool true)])) ++ [some (Row.cells (D.v Value.nilFunc).width [D.v Value.nilFunc])]).set ((H ++ [some (Row.cells 1 [D.v (.slice none 0 0)])] ++ [some (Row.cells 1 [D.v (.bool false)])]).set (H ++ [some (Row.cells 1 [D.v (.slice none 0 0)])]).length (some (Row.cells 1 [D.v (.bool true)]))).length (some (Row.cells 1 [D.fn (.func 65) [] [pD (H ++ [some (Row.cells 1 [D.v (.slice none 0 0)])]).length,pD H.length,pD ((H ++ [some (Row.cells 1 [D.v (.slice none 0 0)])] ++ [some (Row.cells 1 [D.v (.bool false)])]).set (H ++ [some (Row.cells 1 [D.v (.slice none 0 0)])]).length (some (Row.cells 1 [D.v (.bool true)]))).length]]))):=by
 have l1:(H ++ [some (Row.cells 1 [D.v (.slice none 0 0)])]).length = H.length + 1:=by simp
 have l2:((H ++ [some (Row.cells 1 [D.v (.slice none 0 0)])] ++ [some (Row.cells 1 [D.v (.bool false)])]).set (H ++ [some (Row.cells 1 [D.v (.slice none 0 0)])]).length (some (Row.cells 1 [D.v (.bool true)]))).length = H.length + 2:=by simp
 rw [l2,l1]
 have hget:∀ (d:D) x,Heap.get (((H ++ [some (Row.cells 1 [D.v (.slice none 0 0)])] ++ [some (Row.cells 1 [D.v (.bool false)])]).set (H.length + 1) (some (Row.cells 1 [D.v (.bool true)])) ++ [some (Row.cells (D.v Value.nilFunc).width [D.v Value.nilFunc])]).set (H.length + 2) (some (Row.cells 1 [d]))) x =
     if x = H.length + 2 then some (Row.cells 1 [d]) else if x = H.length + 1 then some (Row.cells 1 [D.v (.bool true)]) else if x = H.length then some (Row.cells 1 [D.v (.slice none 0 0)]) else H.get x:=fun d x=>by
   rw [zCd (by simp),g_push,zCd (by simp),g_push,g_push]
   simp only [List.length_set,List.length_append,List.length_singleton]
   have e11:H.length + 1 + 1 = H.length + 2:=rfl
   rw [e11]
   by_cases h2:x = H.length + 2
   · subst h2;simp
   · by_cases h1:x = H.length + 1
     · subst h1;simp
     · by_cases h0:x = H.length
       · subst h0;simp
       · simp [h2,h1,h0]
 refine ⟨⟨.inl ⟨?_,rfl⟩,?_,?_⟩,by simp,fun x row hx ht=>?_⟩
 · rw [hget,if_neg (by omega),if_neg (by omega),if_pos rfl]
 · rw [hget,if_neg (by omega),if_pos rfl]
 · rw [hget,if_pos rfl]
 · have:=Heap.get_lt hx
   rw [hget,if_neg (by omega),if_neg (by omega),if_neg (by omega)];exact hx
theorem norefs_fl:∀ (L:List FN),zAh (L.map fD) = true
 | []=>by simp [zAh]
 | p :: L=>by simp [zAh,D.noref,norefs_fl L]
set_option maxHeartbeats 4000000 in
theorem q_flame (H:Heap) (c q:Nat) (s:Int) (F:Fo) (fp:List Nat) (hN:NodeAt H c q s F fp) (hS:F.Srt) (hNm:F.Nms) (hc:c ≤ 1000000) (hlen:F.len ≤ 1000000):Sound Try.prog 52 [pD q] H (fun d H2=>FlRes F d):=by
 refine zBi Try.func52 rfl (by kernel_rfl) Try.ntmps52 (by simp) ?_
 have qp:∀ (A:Heap) X,Heap.get (A ++ [X]) A.length = X:=fun A X=>by rw [g_push,if_pos rfl]
 refine zAF fun Y0 hY0=>?_
 refine zAG ?_
 try simp only [↓zAK,EVq,TY,zAE,↓reduceIte,Nat.reduceLT,Nat.reduceLeDiff,Nat.reduceEqDiff,Nat.reduceAdd,Nat.reduceMul,Int.reduceLE,eq_self]
 refine zAD [0] ?_
 simp only [KQ,↓KP,↓reduceIte,Nat.reduceEqDiff]
 subst hY0
 refine zAF fun Y1 hY1=>?_
 refine zAG ?_
 try simp only [↓zAK,EVq,TY,zAE,↓reduceIte,Nat.reduceLT,Nat.reduceLeDiff,Nat.reduceEqDiff,Nat.reduceAdd,Nat.reduceMul,Int.reduceLE,eq_self]
 refine zAD [0,4] ?_
 simp only [KQ,↓KP,↓reduceIte,Nat.reduceEqDiff]
 subst hY1
 refine zAF fun Y2 hY2=>?_
 refine zAG ?_
 try simp only [qp,↓zAK,EVq,TY,zAE,↓reduceIte,Nat.reduceLT,Nat.reduceLeDiff,Nat.reduceEqDiff,Nat.reduceAdd,Nat.reduceMul,Int.reduceLE,eq_self]
 refine zAD [0,4,5] ?_
 simp only [KQ,↓KP,↓reduceIte,Nat.reduceEqDiff]
 subst hY2
 refine zAF fun Y3 hY3=>?_
 refine zAG ?_
 try simp only [lies_nf,↓zAK,EVq,TY,zAE,↓reduceIte,Nat.reduceLT,Nat.reduceLeDiff,Nat.reduceEqDiff,Nat.reduceAdd,Nat.reduceMul,Int.reduceLE,eq_self]
 refine zAD [0,4,5,6] ?_
 simp only [KQ,↓KP,↓reduceIte,Nat.reduceEqDiff]
 subst hY3
 refine zAF fun Y4 hY4=>?_
 refine zAG ?_
 try simp only [qp,↓zAK,EVq,TY,zAE,↓reduceIte,Nat.reduceLT,Nat.reduceLeDiff,Nat.reduceEqDiff,Nat.reduceAdd,Nat.reduceMul,Int.reduceLE,eq_self]
 refine zAD [0,4,5,6] ?_
 simp only [KQ,↓KP,↓reduceIte,Nat.reduceEqDiff]
 subst hY4
 refine zAF fun Y5 hY5=>?_
 refine run_gen (Q:=fun H4=>VS H4 H.length (H ++ [some (Row.cells 1 [D.v (.slice none 0 0)])]).length (List.set (H ++ [some (Row.cells 1 [D.v (.slice none 0 0)])] ++ [some (Row.cells 1 [D.v (.bool false)])]) (H ++ [some (Row.cells 1 [D.v (.slice none 0 0)])]).length (some (Row.cells 1 [D.v (.bool true)]))).length [] true ∧ Keep H H4) (init_vs H) ?_
 rintro H4 ⟨hV4,hk4⟩
 refine zAG ?_
 try simp only [hV4.v,↓zAK,EVq,TY,zAE,↓reduceIte,Nat.reduceLT,Nat.reduceLeDiff,Nat.reduceEqDiff,Nat.reduceAdd,Nat.reduceMul,Int.reduceLE,eq_self]
 refine zCH (q_visit F.len F (Nat.le_refl _) H4 c q s fp _ _ _ [] true (-1) (hN.keep hk4) hS hNm hc (by simpa using hlen) hV4) (fun dd Hx hdd=>?_)
 obtain ⟨rfl,L5,hV5,hl5,hm5,he5,hk5⟩:=hdd
 rw [Bool.true_and] at hV5
 try simp only [hV4.v,↓zAK,EVq,TY,zAE,↓reduceIte,Nat.reduceLT,Nat.reduceLeDiff,Nat.reduceEqDiff,Nat.reduceAdd,Nat.reduceMul,Int.reduceLE,eq_self]
 refine zAD [4,5] ?_
 simp only [KQ,↓KP,↓reduceIte,Nat.reduceEqDiff]
 subst hY5
 refine zAF fun Y6 hY6=>?_
 refine zAF fun Y7 hY7=>?_
 refine zAG ?_
 try simp only [hV5.a,↓zAK,EVq,TY,zAE,↓reduceIte,Nat.reduceLT,Nat.reduceLeDiff,Nat.reduceEqDiff,Nat.reduceAdd,Nat.reduceMul,Int.reduceLE,eq_self]
 refine zAD [4,12] ?_
 simp only [KQ,↓KP,↓reduceIte,Nat.reduceEqDiff]
 subst hY7
 first | refine run_if (by simp only [↓zAZ,↓zAg,↓zAq,↓zAV,↓reduceIte,Nat.reduceEqDiff] <;> rfl) (fun h12=>?_) fun h12=>?_ | refine zCc (by simp only [↓zAZ,↓zAg,↓zAq,↓zAV,↓reduceIte,Nat.reduceEqDiff] <;> rfl) (fun h12=>?_) fun h12=>?_
 · refine zAF fun Y8 hY8=>?_
   refine zAG ?_
   try simp only [↓zAK,EVq,TY,zAE,↓reduceIte,Nat.reduceLT,Nat.reduceLeDiff,Nat.reduceEqDiff,Nat.reduceAdd,Nat.reduceMul,Int.reduceLE,eq_self]
   refine zAD [2,3] ?_
   simp only [KQ,↓KP,↓reduceIte,Nat.reduceEqDiff]
   subst hY8
   first
     | (refine zBd Try.func52 Try.results52 (by simp only [aRes,↓zAZ,↓KP,KQ,↓reduceIte,Nat.reduceEqDiff,zBR,TY] <;> rfl) (Weak.refl _ _ _) ?_
        exact res_bad h12)
     | (refine zBd Try.func52 Try.results52 (by simp only [aRes,↓zAZ,↓KP,KQ,↓reduceIte,Nat.reduceEqDiff,zBR,TY] <;> rfl) (Weak.refl _ _ _) ?_
        exact res_long h12 he5 h15)
     | (refine Go.Ab.run_freeze (s:=2) (r:=rr) (i:=0) (m:=L5.length) (k:=3) (xs:=L5.map fD) rfl hrr (by simp) (norefs_fl _) ?_
        refine zBd Try.func52 Try.results52 (by simp only [aRes,↓zAZ,↓KP,KQ,↓reduceIte,Nat.reduceEqDiff,zBR,TY] <;> rfl) (Weak.refl _ _ _) ?_
        exact res_sl h12 he5 h15)
     | (refine zBd Try.func52 Try.results52 (by simp only [aRes,↓zAZ,↓KP,KQ,↓reduceIte,Nat.reduceEqDiff,zBR,TY] <;> rfl) (Weak.refl _ _ _) ?_
        exact res_nil h12 he5)
 · refine zBV ?_
   subst hY6
   refine zAF fun Y9 hY9=>?_
   refine zAF fun Y10 hY10=>?_
   rcases hV5.f with ⟨hf0,rfl⟩ | ⟨rr,hf0,hrr⟩
   · refine zAG ?_
     try simp only [hf0,↓zAK,EVq,TY,zAE,↓reduceIte,Nat.reduceLT,Nat.reduceLeDiff,Nat.reduceEqDiff,Nat.reduceAdd,Nat.reduceMul,Int.reduceLE,eq_self]
     refine zAD [4,15] ?_
     simp only [KQ,↓KP,↓reduceIte,Nat.reduceEqDiff]
     subst hY10
     first | refine run_if (by simp only [↓zAZ,↓zAg,↓zAq,↓zAV,↓reduceIte,Nat.reduceEqDiff] <;> rfl) (fun h15=>?_) fun h15=>?_ | refine zCc (by simp only [↓zAZ,↓zAg,↓zAq,↓zAV,↓reduceIte,Nat.reduceEqDiff] <;> rfl) (fun h15=>?_) fun h15=>?_
     · refine zAF fun Y11 hY11=>?_
       refine zAG ?_
       try simp only [↓zAK,EVq,TY,zAE,↓reduceIte,Nat.reduceLT,Nat.reduceLeDiff,Nat.reduceEqDiff,Nat.reduceAdd,Nat.reduceMul,Int.reduceLE,eq_self]
       refine zAD [2,3] ?_
       simp only [KQ,↓KP,↓reduceIte,Nat.reduceEqDiff]
       subst hY11
       first
         | (refine zBd Try.func52 Try.results52 (by simp only [aRes,↓zAZ,↓KP,KQ,↓reduceIte,Nat.reduceEqDiff,zBR,TY] <;> rfl) (Weak.refl _ _ _) ?_
            exact res_bad h12)
         | (refine zBd Try.func52 Try.results52 (by simp only [aRes,↓zAZ,↓KP,KQ,↓reduceIte,Nat.reduceEqDiff,zBR,TY] <;> rfl) (Weak.refl _ _ _) ?_
            exact res_long h12 he5 h15)
         | (refine Go.Ab.run_freeze (s:=2) (r:=rr) (i:=0) (m:=L5.length) (k:=3) (xs:=L5.map fD) rfl hrr (by simp) (norefs_fl _) ?_
            refine zBd Try.func52 Try.results52 (by simp only [aRes,↓zAZ,↓KP,KQ,↓reduceIte,Nat.reduceEqDiff,zBR,TY] <;> rfl) (Weak.refl _ _ _) ?_
            exact res_sl h12 he5 h15)
         | (refine zBd Try.func52 Try.results52 (by simp only [aRes,↓zAZ,↓KP,KQ,↓reduceIte,Nat.reduceEqDiff,zBR,TY] <;> rfl) (Weak.refl _ _ _) ?_
            exact res_nil h12 he5)
     · refine zBV ?_
       subst hY9
       refine zAF fun Y12 hY12=>?_
       refine zAG ?_
       try simp only [hf0,↓zAK,EVq,TY,zAE,↓reduceIte,Nat.reduceLT,Nat.reduceLeDiff,Nat.reduceEqDiff,Nat.reduceAdd,Nat.reduceMul,Int.reduceLE,eq_self]
       refine zAD [2,3] ?_
       simp only [KQ,↓KP,↓reduceIte,Nat.reduceEqDiff]
       subst hY12
       first
         | (refine zBd Try.func52 Try.results52 (by simp only [aRes,↓zAZ,↓KP,KQ,↓reduceIte,Nat.reduceEqDiff,zBR,TY] <;> rfl) (Weak.refl _ _ _) ?_
            exact res_bad h12)
         | (refine zBd Try.func52 Try.results52 (by simp only [aRes,↓zAZ,↓KP,KQ,↓reduceIte,Nat.reduceEqDiff,zBR,TY] <;> rfl) (Weak.refl _ _ _) ?_
            exact res_long h12 he5 h15)
         | (refine Go.Ab.run_freeze (s:=2) (r:=rr) (i:=0) (m:=L5.length) (k:=3) (xs:=L5.map fD) rfl hrr (by simp) (norefs_fl _) ?_
            refine zBd Try.func52 Try.results52 (by simp only [aRes,↓zAZ,↓KP,KQ,↓reduceIte,Nat.reduceEqDiff,zBR,TY] <;> rfl) (Weak.refl _ _ _) ?_
            exact res_sl h12 he5 h15)
         | (refine zBd Try.func52 Try.results52 (by simp only [aRes,↓zAZ,↓KP,KQ,↓reduceIte,Nat.reduceEqDiff,zBR,TY] <;> rfl) (Weak.refl _ _ _) ?_
            exact res_nil h12 he5)
   · refine zAG ?_
     try simp only [hf0,↓zAK,EVq,TY,zAE,↓reduceIte,Nat.reduceLT,Nat.reduceLeDiff,Nat.reduceEqDiff,Nat.reduceAdd,Nat.reduceMul,Int.reduceLE,eq_self]
     refine zAD [4,15] ?_
     simp only [KQ,↓KP,↓reduceIte,Nat.reduceEqDiff]
     subst hY10
     first | refine run_if (by simp only [↓zAZ,↓zAg,↓zAq,↓zAV,↓reduceIte,Nat.reduceEqDiff] <;> rfl) (fun h15=>?_) fun h15=>?_ | refine zCc (by simp only [↓zAZ,↓zAg,↓zAq,↓zAV,↓reduceIte,Nat.reduceEqDiff] <;> rfl) (fun h15=>?_) fun h15=>?_
     · refine zAF fun Y13 hY13=>?_
       refine zAG ?_
       try simp only [↓zAK,EVq,TY,zAE,↓reduceIte,Nat.reduceLT,Nat.reduceLeDiff,Nat.reduceEqDiff,Nat.reduceAdd,Nat.reduceMul,Int.reduceLE,eq_self]
       refine zAD [2,3] ?_
       simp only [KQ,↓KP,↓reduceIte,Nat.reduceEqDiff]
       subst hY13
       first
         | (refine zBd Try.func52 Try.results52 (by simp only [aRes,↓zAZ,↓KP,KQ,↓reduceIte,Nat.reduceEqDiff,zBR,TY] <;> rfl) (Weak.refl _ _ _) ?_
            exact res_bad h12)
         | (refine zBd Try.func52 Try.results52 (by simp only [aRes,↓zAZ,↓KP,KQ,↓reduceIte,Nat.reduceEqDiff,zBR,TY] <;> rfl) (Weak.refl _ _ _) ?_
            exact res_long h12 he5 h15)
         | (refine Go.Ab.run_freeze (s:=2) (r:=rr) (i:=0) (m:=L5.length) (k:=3) (xs:=L5.map fD) rfl hrr (by simp) (norefs_fl _) ?_
            refine zBd Try.func52 Try.results52 (by simp only [aRes,↓zAZ,↓KP,KQ,↓reduceIte,Nat.reduceEqDiff,zBR,TY] <;> rfl) (Weak.refl _ _ _) ?_
            exact res_sl h12 he5 h15)
         | (refine zBd Try.func52 Try.results52 (by simp only [aRes,↓zAZ,↓KP,KQ,↓reduceIte,Nat.reduceEqDiff,zBR,TY] <;> rfl) (Weak.refl _ _ _) ?_
            exact res_nil h12 he5)
     · refine zBV ?_
       subst hY9
       refine zAF fun Y14 hY14=>?_
       refine zAG ?_
       try simp only [hf0,↓zAK,EVq,TY,zAE,↓reduceIte,Nat.reduceLT,Nat.reduceLeDiff,Nat.reduceEqDiff,Nat.reduceAdd,Nat.reduceMul,Int.reduceLE,eq_self]
       refine zAD [2,3] ?_
       simp only [KQ,↓KP,↓reduceIte,Nat.reduceEqDiff]
       subst hY14
       first
         | (refine zBd Try.func52 Try.results52 (by simp only [aRes,↓zAZ,↓KP,KQ,↓reduceIte,Nat.reduceEqDiff,zBR,TY] <;> rfl) (Weak.refl _ _ _) ?_
            exact res_bad h12)
         | (refine zBd Try.func52 Try.results52 (by simp only [aRes,↓zAZ,↓KP,KQ,↓reduceIte,Nat.reduceEqDiff,zBR,TY] <;> rfl) (Weak.refl _ _ _) ?_
            exact res_long h12 he5 h15)
         | (refine Go.Ab.run_freeze (s:=2) (r:=rr) (i:=0) (m:=L5.length) (k:=3) (xs:=L5.map fD) rfl hrr (by simp) (norefs_fl _) ?_
            refine zBd Try.func52 Try.results52 (by simp only [aRes,↓zAZ,↓KP,KQ,↓reduceIte,Nat.reduceEqDiff,zBR,TY] <;> rfl) (Weak.refl _ _ _) ?_
            exact res_sl h12 he5 h15)
         | (refine zBd Try.func52 Try.results52 (by simp only [aRes,↓zAZ,↓KP,KQ,↓reduceIte,Nat.reduceEqDiff,zBR,TY] <;> rfl) (Weak.refl _ _ _) ?_
            exact res_nil h12 he5)
end Go.Fl
set_option maxRecDepth 100000
namespace Go.Fl
open Go Go.Ab Go.T Go.Pl Go.Proofs
def nmOk (n:Nm):Bool:=decide (1 ≤ n.size ∧ n.size ≤ 60)
def chk (x:Sk):Int:=if x.1.length = 0 then 1 else if 64 < x.1.length then 30 else if x.1.any (fun n=>!nmOk n) = true then 5 else if wOk x.2 = true then 0 else 2
theorem iaddI {a b:Int} (h1:-9223372036854775808 ≤ a + b) (h2:a + b < 9223372036854775808):zBo .i64 a b = a + b:=zBX h1 h2
theorem F35_eq (n:Nm):F35 n = some (nmOk n):=by
 unfold F35 nmOk
 rw [zCu,ile_d,ile_d,← Bool.decide_and]
 show some (decide ((1:Int) ≤ (n.size:Int) ∧ (n.size:Int) ≤ 60)) = _
 congr 2
 exact propext ⟨fun h=>by omega,fun h=>by omega⟩
theorem F36_eq (s:Int):F36 s = some (wOk s):=by
 unfold F36 wOk
 rw [zCu,ile_d,ile_d,← Bool.decide_and]
theorem F62_eq {p:List Nm} (hp:p.length ≤ 1000000):F62 p = some (p.any fun n=>!nmOk n):=by
 have key:∃ r,F79 p = some r ∧ (0 ≤ r ↔ p.any (fun n=>!nmOk n) = true):=by
   unfold F79
   refine join_wf (fun s=>∃ i:Nat,s = (i:Int) ∧ i ≤ p.length ∧ (p.take i).any (fun n=>!nmOk n) = false) (fun s=>p.length - s.toNat) (fun e=>(p.any (fun n=>!nmOk n) = true ∧ ∃ r:Int,0 ≤ r ∧ e = .inr r) ∨ (p.any (fun n=>!nmOk n) = false ∧ e = .inl ())) ⟨0,rfl,by omega,by simp⟩ ?_ ?_
   · rintro _ ⟨i,rfl,hi,hf⟩
     rw [zBy,zCB,zBC,sel_i]
     by_cases h:i < p.length
     · have hF:F63 p[i] = some (!nmOk p[i]):=by unfold F63;rw [zAd (F35_eq _)];rfl
       rw [if_pos (by omega),zAY (inL_t h),i2n_c,lget_t h,zAd hF]
       by_cases hb:(!nmOk p[i]) = true
       · right
         rw [hb,zCA rfl]
         exact ⟨_,rfl,.inl ⟨List.any_eq_true.2 ⟨p[i],List.getElem_mem h,hb⟩,_,by omega,rfl⟩⟩
       · left
         have hb:(!nmOk p[i]) = false:=by simpa using hb
         rw [hb,zBU rfl,iaddI (by omega) (by omega)]
         refine ⟨_,rfl,⟨i + 1,rfl,by omega,?_⟩,by omega⟩
         rw [← List.take_append_getElem h,List.any_append,hf]
         simp only [List.any_cons,List.any_nil,hb,Bool.or_false]
     · right
       have:i = p.length:=by omega
       subst this
       rw [if_neg (by omega)]
       rw [List.take_length] at hf
       exact ⟨_,rfl,.inr ⟨hf,rfl⟩⟩
   · rintro _ (⟨h,r,hr,rfl⟩ | ⟨h,rfl⟩)
     · exact ⟨r,rfl,⟨fun _=>h,fun _=>hr⟩⟩
     · exact ⟨-1,rfl,⟨fun h'=>by omega,fun h'=>by rw [h] at h';cases h'⟩⟩
 obtain ⟨r,h1,h2⟩:=key
 unfold F62
 rw [zAd h1,ile_d]
 congr 1
 by_cases h:0 ≤ r
 · rw [h2.1 h];simpa using h
 · have:p.any (fun n=>!nmOk n) = false:=by
     cases e:p.any (fun n=>!nmOk n) with
     | true=>exact absurd (h2.2 e) h
     | false=>rfl
   rw [this];simpa using h
theorem F50_eq (x:Sk):F50 x = some (chk x):=by
 obtain ⟨p,w⟩:=x
 unfold F50 chk
 dsimp only
 rw [ieq_d,zCB,zBC,sel_i,zBy,sel_i]
 by_cases h0:p.length = 0
 · rw [if_pos (by omega),if_pos h0]
 rw [if_neg (by omega),if_neg h0]
 by_cases h1:64 < p.length
 · rw [if_pos (by omega),if_pos h1]
 rw [if_neg (by omega),if_neg h1,zAd (F62_eq (by omega))]
 cases h2:p.any (fun n=>!nmOk n) with
 | true=>rw [zCA rfl,if_pos rfl]
 | false =>
   rw [zBU rfl,if_neg (by simp),zAd (F36_eq w)]
   cases h3:wOk w with
   | true=>rw [zBU (show zCQ true = false from rfl),if_pos rfl]
   | false=>rw [zCA (show zCQ false = true from rfl),if_neg (by simp)]
theorem chk_ok {x:Sk} (h:chk x = 0):x.1 ≠ [] ∧ x.1.length ≤ 64 ∧ (∀ n ∈ x.1,1 ≤ n.size ∧ n.size ≤ 60) ∧ -1099511627776 ≤ x.2 ∧ x.2 ≤ 1099511627776:=by
 unfold chk at h
 split at h
 · cases h
 rename_i h0
 split at h
 · cases h
 rename_i h1
 split at h
 · cases h
 rename_i h2
 split at h
 · rename_i h3
   refine ⟨fun e=>h0 (by rw [e];rfl),by omega,fun n hn=>?_,of_decide_eq_true h3⟩
   have:=fun hb=>h2 (List.any_eq_true.2 ⟨n,hn,hb⟩)
   have:nmOk n = true:=by simpa using this
   exact of_decide_eq_true this
 · cases h
def ofGo:Int × Fo → List Sk → List FN × Int
 | x,[]=>flR x.2
 | x,y :: l=>if chk y ≠ 0 then ([],chk y) else ofGo (insN x y.1 y.2) l
theorem at_len {g:Int × Fo → Int × Fo} {k:Nat} (hg:∀ x,(g x).2.len ≤ x.2.len + k) (n:Nm):∀ F:Fo,(F.at' n g).len ≤ F.len + (1 + k)
 | .nil=>by have:=hg (0,.nil);simp only [Fo.at',Fo.len] at *;omega
 | .cons m s sub rest=>by
   rw [Fo.at']
   split
   · have:=hg (0,.nil);simp only [Fo.len] at *;omega
   split
   · have:=hg (s,sub);simp only [Fo.len] at *;omega
   · have:=at_len hg n rest;simp only [Fo.len] at *;omega
theorem ins_len (w:Int):∀ (p:List Nm) (x:Int × Fo),(insN x p w).2.len ≤ x.2.len + p.length
 | [],x=>by simp [insN]
 | n :: p,x=>by
   have:=at_len (g:=fun y=>insN y p w) (fun y=>ins_len w p y) n x.2
   rw [List.length_cons];show (x.2.at' n _).len ≤ _;omega
theorem at_nms {g:Int × Fo → Int × Fo} (hg:∀ x,x.2.Nms → (g x).2.Nms) {n:Nm} (hn:n.size ≤ 60):∀ {F:Fo},F.Nms → (F.at' n g).Nms
 | .nil,_=>⟨hn,hg _ trivial,trivial⟩
 | .cons m s sub rest,h=>by
   rw [Fo.at']
   split
   · exact ⟨hn,hg _ trivial,h⟩
   split
   · exact ⟨h.1,hg _ h.2.1,h.2.2⟩
   · exact ⟨h.1,h.2.1,at_nms hg hn h.2.2⟩
theorem ins_nms (w:Int):∀ (p:List Nm) (x:Int × Fo),(∀ n ∈ p,n.size ≤ 60) → x.2.Nms → (insN x p w).2.Nms
 | [],x,_,h=>h
 | n :: p,x,hp,h=>at_nms (fun y hy=>ins_nms w p y (fun m hm=>hp m (List.mem_cons_of_mem _ hm)) hy) (hp n List.mem_cons_self) h
abbrev stD (x:Sk):D:=.agg [.fz 1 (x.1.map fun n=>.v (sV n)),iD x.2]
theorem q_check (x:Sk):Pure Try.prog 50 [stD x] fun d=>d = iD (chk x):=by
 have h:=pure_of (c:=c50) ok50 rfl rfl (x:=(x:List ByteArray × Int)) (y:=(chk x:Int)) (fun v hv=>by
   have hv:v ∈ [(⟨.agg (.pr (.sl .str) (.int .i64)),(x:List ByteArray × Int)⟩:TV)]:=hv
   simp only [List.mem_cons,List.not_mem_nil,or_false] at hv
   subst hv;rfl) rfl (F50_eq x)
 exact h
theorem st_get {l:List Sk} {i:Nat} (h:i < l.length):(l.map stD)[((i:Nat):Int).toNat]? = some (stD l[i]):=by simp [h]
theorem norefs_nm:∀ l:List Nm,zAh (l.map fun n=>(.v (sV n):D)) = true
 | []=>by simp [zAh]
 | n :: l=>by simp [zAh,D.noref,norefs_nm l]
theorem noref_st (x:Sk):zAh [stD x] = true:=by
 simp [zAh,D.noref,norefs_nm]
theorem le_tup2 {x y a b:D} (h:leD x a) (h':leD y b):leD (.tup [x,y]) (.tup [a,b]):=by simp only [leD,lesD];exact ⟨_,rfl,_,_,rfl,h,_,_,rfl,h',rfl⟩
theorem le_int (n:Int):leD (iD n) (iD n):=by simp [leD]
theorem le_nilfz (k:Nat):leD (.v (.slice none 0 0)) (.fz k []):=by simp [leD]
theorem le_fz (k:Nat) (xs:List D):leD (.fz k xs) (.fz k xs):=by simp only [leD]
theorem flres {F:Fo} {d:D} (h:FlRes F d):∃ x,d = .tup [x,iD (flR F).2] ∧ (x = .fz 3 ((flR F).1.map fD) ∨ (x = .v (.slice none 0 0) ∧ (flR F).1 = [])):=by
 rcases h with rfl | ⟨h1,rfl⟩
 · exact ⟨_,rfl,.inl rfl⟩
 · exact ⟨_,rfl,.inr ⟨rfl,h1⟩⟩
theorem of_step {H1:Heap} {i q:Nat} {s:Int} {F:Fo} {fp:List Nat} {x y:D} (h:NodeAt H1 i q s F fp):NodeAt ((H1 ++ [some (Row.cells 2 [x])]).set H1.length (some (Row.cells 2 [y]))) i q s F fp ∧ Heap.get ((H1 ++ [some (Row.cells 2 [x])]).set H1.length (some (Row.cells 2 [y]))) H1.length = some (Row.cells 2 [y]):=by
 refine ⟨h.frame (Nat.le_refl _) fun r hr=>?_,by rw [zCd (by simp),if_pos rfl]⟩
 have:=h.lt r hr
 rw [zCd (by simp),if_neg (by omega),g_push,if_neg (by omega)]
theorem node0:NodeAt [some (Row.cells 3 [.agg [iD 0,iD 0,.v (.map none)]])] 0 0 0 .nil [0] :=
 ⟨0,0,.v (.map none),[],rfl,⟨by omega,by omega,by omega,by omega,by omega⟩,rfl,.inl ⟨rfl,rfl,rfl⟩⟩
open Go Go.Ab Go.Proofs Go.Proofs.Ytbhcfbnkdbioaaa.AbT
set_option maxHeartbeats 4000000 in
theorem q_of (l:List Sk) (hl:l.length ≤ 10000):Pure Try.prog 29 [.fz 2 (l.map stD)] (fun d=>d = .tup [.fz 3 ((ofGo (0,.nil) l).1.map fD),iD (ofGo (0,.nil) l).2]):=by
 refine zBi Try.func29 rfl (by kernel_rfl) Try.ntmps29 (by simp) ?_
 have hll:(l.map stD).length = l.length:=List.length_map ..
 have qp:∀ (A:Heap) X,Heap.get (A ++ [X]) A.length = X:=fun A X=>by rw [g_push,if_pos rfl]
 refine zAF fun Y0 hY0=>?_
 refine zAG ?_
 try simp only [↓zAK,EVq,TY,zAE,↓reduceIte,Nat.reduceLT,Nat.reduceLeDiff,Nat.reduceEqDiff,Nat.reduceAdd,Nat.reduceMul,Int.reduceLE,eq_self]
 refine zAD [0] ?_
 simp only [KQ,↓KP,↓reduceIte,Nat.reduceEqDiff]
 subst hY0
 refine zAF fun Y1 hY1=>?_
 refine zAG ?_
 try simp only [one_mn,↓zAK,EVq,TY,zAE,↓reduceIte,Nat.reduceLT,Nat.reduceLeDiff,Nat.reduceEqDiff,Nat.reduceAdd,Nat.reduceMul,Int.reduceLE,eq_self]
 refine zAD [0,4] ?_
 simp only [KQ,↓KP,↓reduceIte,Nat.reduceEqDiff]
 subst hY1
 refine zAF fun Y2 hY2=>?_
 refine zAF fun Y3 hY3=>?_
 refine zAG ?_
 try simp only [↓zAK,EVq,TY,zAE,↓reduceIte,Nat.reduceLT,Nat.reduceLeDiff,Nat.reduceEqDiff,Nat.reduceAdd,Nat.reduceMul,Int.reduceLE,eq_self]
 refine zAD [4,10,11,12] ?_
 simp only [KQ,↓KP,↓reduceIte,Nat.reduceEqDiff]
 subst hY3
 refine zCk ?_
 refine zAD [4,10,11,12] ?_
 simp only [KQ,↓KP,↓reduceIte,Nat.reduceEqDiff]
 refine run_loop' (fun m e H1=>∃ (i:Nat) (s:Int) (F:Fo) (fp:List Nat),m = l.length - i ∧ i ≤ l.length ∧ NodeAt H1 i 0 s F fp ∧ fp.Nodup ∧ F.Srt ∧ F.Nms ∧ F.len ≤ 64 * i ∧ ofGo (s,F) (l.drop i) = ofGo (0,.nil) l ∧ e = envL [(4,pD 0),(10,.fz 2 (l.map stD)),(11,iD (l.map stD).length),(12,iD (i:Nat))]) l.length
   ⟨0,0,.nil,[0],by simp,by omega,node0,by simp,trivial,trivial,by simp [Fo.len],rfl,rfl⟩ ?_
 intro C hC m e H1 ih hI
 obtain ⟨i,s,F,fp,rfl,hi0,hN,hnd,hS,hNm,hFl,hO,rfl⟩:=hI
 refine zAF fun Y4 hY4=>?_
 refine zAG ?_
 try simp only [↓zAK,EVq,TY,zAE,↓reduceIte,Nat.reduceLT,Nat.reduceLeDiff,Nat.reduceEqDiff,Nat.reduceAdd,Nat.reduceMul,Int.reduceLE,eq_self]
 refine zAD [4,10,11,12,13] ?_
 simp only [KQ,↓KP,↓reduceIte,Nat.reduceEqDiff]
 subst hY4
 refine zAF fun Y5 hY5=>?_
 first | refine run_if (by simp only [↓zAZ,↓zAg,↓zAq,↓zAV,↓reduceIte,Nat.reduceEqDiff] <;> rfl) (fun h13=>?_) fun h13=>?_ | refine zCc (by simp only [↓zAZ,↓zAg,↓zAq,↓zAV,↓reduceIte,Nat.reduceEqDiff] <;> rfl) (fun h13=>?_) fun h13=>?_
 · refine zBV ?_
   subst hY5
   refine zAF fun Y6 hY6=>?_
   refine zCk ?_
   refine zAF fun Y7 hY7=>?_
   have hi:i < l.length:=by rw [List.length_map] at h13;omega
   refine zAG ?_
   try simp only [st_get hi,qp,↓zAK,EVq,TY,zAE,↓reduceIte,Nat.reduceLT,Nat.reduceLeDiff,Nat.reduceEqDiff,Nat.reduceAdd,Nat.reduceMul,Int.reduceLE,eq_self]
   refine zBa ⟨by omega,h13⟩ ?_
   try simp only [st_get hi,qp,↓zAK,EVq,TY,zAE,↓reduceIte,Nat.reduceLT,Nat.reduceLeDiff,Nat.reduceEqDiff,Nat.reduceAdd,Nat.reduceMul,Int.reduceLE,eq_self]
   refine zAD [4,6,10,11,12] ?_
   simp only [KQ,↓KP,↓reduceIte,Nat.reduceEqDiff]
   subst hY7
   refine zAF fun Y8 hY8=>?_
   refine zAF fun Y9 hY9=>?_
   refine run_gen (Q:=fun H3=>NodeAt H3 i 0 s F fp ∧ Heap.get H3 H1.length = some (Row.cells 2 [stD l[i]])) (of_step hN) ?_
   rintro H3 ⟨hN3,hg3⟩
   refine zAG ?_
   try simp only [hg3,↓zAK,EVq,TY,zAE,↓reduceIte,Nat.reduceLT,Nat.reduceLeDiff,Nat.reduceEqDiff,Nat.reduceAdd,Nat.reduceMul,Int.reduceLE,eq_self]
   refine zCH ((q_check l[i]).frame (noref_st _) _).sound (fun dd Hx hdd=>?_)
   obtain ⟨eHx,rfl⟩:=hdd
   rw [eHx]
   clear eHx Hx
   try simp only [hg3,↓zAK,EVq,TY,zAE,↓reduceIte,Nat.reduceLT,Nat.reduceLeDiff,Nat.reduceEqDiff,Nat.reduceAdd,Nat.reduceMul,Int.reduceLE,eq_self]
   refine zAD [4,6,7,10,11,12] ?_
   simp only [KQ,↓KP,↓reduceIte,Nat.reduceEqDiff]
   subst hY9
   refine zAF fun Y10 hY10=>?_
   refine zAG ?_
   try simp only [↓zAK,EVq,TY,zAE,↓reduceIte,Nat.reduceLT,Nat.reduceLeDiff,Nat.reduceEqDiff,Nat.reduceAdd,Nat.reduceMul,Int.reduceLE,eq_self]
   refine zAD [4,6,7,10,11,12,19] ?_
   simp only [KQ,↓KP,↓reduceIte,Nat.reduceEqDiff]
   subst hY10
   first | refine run_if (by simp only [↓zAZ,↓zAg,↓zAq,↓zAV,↓reduceIte,Nat.reduceEqDiff] <;> rfl) (fun h19=>?_) fun h19=>?_ | refine zCc (by simp only [↓zAZ,↓zAg,↓zAq,↓zAV,↓reduceIte,Nat.reduceEqDiff] <;> rfl) (fun h19=>?_) fun h19=>?_
   · refine zAF fun Y11 hY11=>?_
     refine zAG ?_
     try simp only [↓zAK,EVq,TY,zAE,↓reduceIte,Nat.reduceLT,Nat.reduceLeDiff,Nat.reduceEqDiff,Nat.reduceAdd,Nat.reduceMul,Int.reduceLE,eq_self]
     refine zAD [2,3] ?_
     simp only [KQ,↓KP,↓reduceIte,Nat.reduceEqDiff]
     subst hY11
     first
       | (have hbad:chk l[i] ≠ 0:=by simpa using h19
          have hres:ofGo (0,.nil) l = ([],chk l[i]):=by rw [← hO,List.drop_eq_getElem_cons hi,ofGo,if_pos hbad]
          refine zCj 3 Try.func29 Try.results29 (by simp only [aRes,↓zAZ,↓KP,KQ,↓reduceIte,Nat.reduceEqDiff,zBR,TY] <;> rfl) rfl (d'':=.tup [.fz 3 [],iD (chk l[i])]) ?_ ?_
          · exact le_tup2 (le_nilfz 3) (le_int _)
          · rw [hres];rfl)
       | (have ei:i = l.length:=by rw [List.length_map] at h13;omega
          subst ei
          rw [List.drop_length] at hO
          have hres:ofGo (0,.nil) l = flR F:=hO.symm
          rcases hx with rfl | ⟨rfl,hnil⟩
          · refine zCj 3 Try.func29 Try.results29 (by simp only [aRes,↓zAZ,↓KP,KQ,↓reduceIte,Nat.reduceEqDiff,zBR,TY] <;> rfl) rfl (d'':=.tup [.fz 3 ((flR F).1.map fD),iD (flR F).2]) ?_ ?_
            · exact le_tup2 (le_fz _ _) (le_int _)
            · rw [hres]
          · refine zCj 3 Try.func29 Try.results29 (by simp only [aRes,↓zAZ,↓KP,KQ,↓reduceIte,Nat.reduceEqDiff,zBR,TY] <;> rfl) rfl (d'':=.tup [.fz 3 [],iD (flR F).2]) ?_ ?_
            · exact le_tup2 (le_nilfz 3) (le_int _)
            · rw [hres,hnil];rfl)
   · refine zBV ?_
     subst hY8
     have hck:chk l[i] = 0:=by simpa using h19
     refine zAG ?_
     try simp only [hg3,↓zAK,EVq,TY,zAE,↓reduceIte,Nat.reduceLT,Nat.reduceLeDiff,Nat.reduceEqDiff,Nat.reduceAdd,Nat.reduceMul,Int.reduceLE,eq_self]
     obtain ⟨c1,c2,c3,c4,c5⟩:=chk_ok hck
     refine zCH (q_add H3 i 0 s l[i].2 F fp l[i].1 hN3 hnd hS ⟨c4,c5⟩ (by omega) (by omega)) (fun dd Hx hdd=>?_)
     obtain ⟨rfl,fp2,hN4,hnd4,hsub4,hlen4,hfr4⟩:=hdd
     try simp only [hg3,↓zAK,EVq,TY,zAE,↓reduceIte,Nat.reduceLT,Nat.reduceLeDiff,Nat.reduceEqDiff,Nat.reduceAdd,Nat.reduceMul,Int.reduceLE,eq_self]
     refine zAD [4,10,11,12] ?_
     simp only [KQ,↓KP,↓reduceIte,Nat.reduceEqDiff]
     refine zAr ?_
     subst hY6
     refine zAG ?_
     try simp only [↓zAK,EVq,TY,zAE,↓reduceIte,Nat.reduceLT,Nat.reduceLeDiff,Nat.reduceEqDiff,Nat.reduceAdd,Nat.reduceMul,Int.reduceLE,eq_self]
     refine zAD [4,10,11,12] ?_
     simp only [KQ,↓KP,↓reduceIte,Nat.reduceEqDiff]
     refine zAD [4,10,11,12] ?_
     simp only [KQ,↓KP,↓reduceIte,Nat.reduceEqDiff]
     have ej:IntKind.i64.wrap ((i:Int) + 1) = ((i + 1:Nat):Int):=by rw [zBX (by omega) (by omega)];omega
     rw [ej]
     refine ih (l.length - (i + 1)) _ _ (by omega) ⟨i + 1,_,_,fp2,rfl,by omega,hN4,hnd4,srt_ins _ _ _ hS,ins_nms _ _ _ (fun n hn=>(c3 n hn).2) hNm,?_,?_,rfl⟩
     · have:(insN (s,F) l[i].1 l[i].2).2.len ≤ F.len + l[i].1.length:=ins_len l[i].2 l[i].1 (s,F)
       omega
     · rw [← hO,List.drop_eq_getElem_cons hi,ofGo,if_neg (by simpa using hck)]
 · refine run_exit (by rfl) ?_
   subst hY2
   refine zAF fun Y12 hY12=>?_
   refine zAG ?_
   try simp only [↓zAK,EVq,TY,zAE,↓reduceIte,Nat.reduceLT,Nat.reduceLeDiff,Nat.reduceEqDiff,Nat.reduceAdd,Nat.reduceMul,Int.reduceLE,eq_self]
   refine zCH (q_flame H1 i 0 s F fp hN hS hNm (by omega) (by omega)) (fun dd Hx hdd=>?_)
   obtain ⟨x,rfl,hx⟩:=flres hdd
   try simp only [↓zAK,EVq,TY,zAE,↓reduceIte,Nat.reduceLT,Nat.reduceLeDiff,Nat.reduceEqDiff,Nat.reduceAdd,Nat.reduceMul,Int.reduceLE,eq_self]
   refine zAD [2,3] ?_
   simp only [KQ,↓KP,↓reduceIte,Nat.reduceEqDiff]
   subst hY12
   first
     | (have hbad:chk l[i] ≠ 0:=by simpa using h19
        have hres:ofGo (0,.nil) l = ([],chk l[i]):=by rw [← hO,List.drop_eq_getElem_cons hi,ofGo,if_pos hbad]
        refine zCj 3 Try.func29 Try.results29 (by simp only [aRes,↓zAZ,↓KP,KQ,↓reduceIte,Nat.reduceEqDiff,zBR,TY] <;> rfl) rfl (d'':=.tup [.fz 3 [],iD (chk l[i])]) ?_ ?_
        · exact le_tup2 (le_nilfz 3) (le_int _)
        · rw [hres];rfl)
     | (have ei:i = l.length:=by rw [List.length_map] at h13;omega
        subst ei
        rw [List.drop_length] at hO
        have hres:ofGo (0,.nil) l = flR F:=hO.symm
        rcases hx with rfl | ⟨rfl,hnil⟩
        · refine zCj 3 Try.func29 Try.results29 (by simp only [aRes,↓zAZ,↓KP,KQ,↓reduceIte,Nat.reduceEqDiff,zBR,TY] <;> rfl) rfl (d'':=.tup [.fz 3 ((flR F).1.map fD),iD (flR F).2]) ?_ ?_
          · exact le_tup2 (le_fz _ _) (le_int _)
          · rw [hres]
        · refine zCj 3 Try.func29 Try.results29 (by simp only [aRes,↓zAZ,↓KP,KQ,↓reduceIte,Nat.reduceEqDiff,zBR,TY] <;> rfl) rfl (d'':=.tup [.fz 3 [],iD (flR F).2]) ?_ ?_
          · exact le_tup2 (le_nilfz 3) (le_int _)
          · rw [hres,hnil];rfl)
def jnGo:Int × Fo → List Sk → Int × Fo
 | x,[]=>x
 | x,y :: l=>jnGo (insN x y.1 y.2) l
abbrev tN:Ty:=.agg (.pr (.int .i64) (.pr .str (.int .i64)))
abbrev tS:Ty:=.agg (.pr (.sl .str) (.int .i64))
noncomputable def F29 (l:List Sk):Option (List FN × Int):=if l.length ≤ 10000 then some (ofGo (0,.nil) l) else none
noncomputable def c29:Con:=⟨29,[.sl tS],[],.tup (.pr (.sl tN) (.int .i64)),[],F29,none⟩
theorem ok29:zAu Try.prog c29:=by
 refine con_pure rfl rfl (fun (x:List Sk) v hv=>?_) (fun y=>rfl) fun (x:List Sk) hx=>?_
 · have hv:v ∈ [(⟨.sl tS,x⟩:TV)]:=hv
   simp only [List.mem_cons,List.not_mem_nil,or_false] at hv
   subst hv;rfl
 · obtain ⟨y,hy⟩:=hx
   have hy:F29 x = some y:=hy
   unfold F29 at hy
   split at hy
   · rename_i hl
     have hF:F29 x = some (ofGo (0,.nil) x):=if_pos hl
     exact Pure.mono (q_of x hl) fun d hd=>⟨ofGo (0,.nil) x,hF,hd⟩
   · cases hy
open Classical in
abbrev nD (l:List Nm):List D:=l.map fun n=>.v (sV n)
def rv (l:List Nm) (i:Nat):List Nm:=(List.range l.length).map fun k=>if k < i ∨ l.length ≤ k + i then l.getD (l.length - 1 - k) ByteArray.empty else l.getD k ByteArray.empty
theorem rv_len (l:List Nm) (i:Nat):(rv l i).length = l.length:=by simp [rv]
theorem rv_get {l:List Nm} {i k:Nat} (h:k < (rv l i).length):(rv l i)[k] = if k < i ∨ l.length ≤ k + i then l.getD (l.length - 1 - k) ByteArray.empty else l.getD k ByteArray.empty:=by simp [rv]
theorem gd {l:List Nm} {k:Nat} (h:k < l.length):l.getD k ByteArray.empty = l[k]:=by simp [List.getD,h]
theorem rv_zero (l:List Nm):rv l 0 = l:=by
 apply List.ext_getElem (rv_len l 0)
 intro k h1 h2
 rw [rv_get,if_neg (by omega)]
 simp [List.getD,h2]
theorem rv_end {l:List Nm} {i:Nat} (h:l.length ≤ 2 * i + 1):rv l i = l.reverse:=by
 apply List.ext_getElem (by rw [rv_len,List.length_reverse])
 intro k h1 h2
 rw [rv_len] at h1
 rw [rv_get,List.getElem_reverse]
 by_cases c:k < i ∨ l.length ≤ k + i
 · rw [if_pos c,gd (by omega)]
 · rw [if_neg c,gd (by omega)]
   congr 1;omega
theorem rv_step {l:List Nm} {i:Nat} (h:i < l.length - 1 - i):((rv l i).set i ((rv l i).getD (l.length - 1 - i) ByteArray.empty)).set (l.length - 1 - i) ((rv l i).getD i ByteArray.empty) = rv l (i + 1):=by
 have g:∀ k,k < l.length → (rv l i).getD k ByteArray.empty = if k < i ∨ l.length ≤ k + i then l.getD (l.length - 1 - k) ByteArray.empty else l.getD k ByteArray.empty:=fun k hk=>by
   rw [gd (by rw [rv_len];exact hk),rv_get]
 rw [g _ (by omega),g _ (by omega)]
 apply List.ext_getElem (by simp [rv_len])
 intro k h1 h2
 rw [rv_len] at h2
 rw [rv_get,List.getElem_set,List.getElem_set]
 by_cases c1:l.length - 1 - i = k
 · rw [if_pos c1,if_neg (by omega),if_pos (by omega)]
   congr 1;omega
 · rw [if_neg c1]
   by_cases c2:i = k
   · rw [if_pos c2,if_neg (by omega),if_pos (by omega)]
     congr 1;omega
   · rw [if_neg c2,rv_get]
     by_cases c3:k < i ∨ l.length ≤ k + i
     · rw [if_pos c3,if_pos (by omega)]
     · rw [if_neg c3,if_neg (by omega)]
theorem nD_get {l:List Nm} {k:Nat} (h:k < l.length):(nD l)[k]? = some (.v (sV (l.getD k ByteArray.empty))):=by rw [gd h];simp [h]
theorem nD_len (l:List Nm):(nD l).length = l.length:=List.length_map ..
theorem le_agg2 {x y a b:D} (h:leD x a) (h':leD y b):leD (.agg [x,y]) (.agg [a,b]):=by simp only [leD,lesD];exact ⟨_,rfl,_,_,rfl,h,_,_,rfl,h',rfl⟩
theorem le_bool (b:Bool):leD (.v (.bool b)) (.v (.bool b)):=by simp [leD]
theorem mixed:Try.prog.follows .mixedOrders = true:=by kernel_rfl
set_option maxHeartbeats 4000000 in
theorem q_clone (H:Heap) (xs:List D) (hn:xs.length ≤ 100000000):Sound Try.prog 33 [.fz 1 xs] H (fun d H'=>(d = .v (.slice none 0 0) ∧ xs = [] ∧ H' = H) ∨ (d = .sl (H.length + 1) 0 xs.length ∧ H' = H ++ [none,some (.cells 1 xs)])):=by
 refine zBi Try.func33 rfl (by kernel_rfl) Try.ntmps33 (by simp) ?_
 have q1:∀ X,Heap.get (H ++ [X]) H.length = X:=fun X=>by rw [g_push,if_pos rfl]
 refine zAF fun Y0 hY0=>?_
 refine zAG ?_
 try simp only [↓zAK,EVq,TY,zAE,↓reduceIte,Nat.reduceLT,Nat.reduceLeDiff,Nat.reduceEqDiff,Nat.reduceAdd,Nat.reduceMul,Int.reduceLE,eq_self]
 refine zAD [0] ?_
 simp only [KQ,↓KP,↓reduceIte,Nat.reduceEqDiff]
 subst hY0
 refine zAF fun Y1 hY1=>?_
 refine zAF fun Y2 hY2=>?_
 refine zAG ?_
 try simp only [↓zAK,EVq,TY,zAE,↓reduceIte,Nat.reduceLT,Nat.reduceLeDiff,Nat.reduceEqDiff,Nat.reduceAdd,Nat.reduceMul,Int.reduceLE,eq_self]
 refine allK_mk fun b4 hb4=>?_
 try simp only [↓zAK,EVq,TY,zAE,↓reduceIte,Nat.reduceLT,Nat.reduceLeDiff,Nat.reduceEqDiff,Nat.reduceAdd,Nat.reduceMul,Int.reduceLE,eq_self]
 refine zAD [0,4] ?_
 simp only [KQ,↓KP,↓reduceIte,Nat.reduceEqDiff]
 subst hY2
 first | refine run_if (by simp only [↓zAZ,↓zAg,↓zAq,↓zAV,↓reduceIte,Nat.reduceEqDiff] <;> rfl) (fun h4=>?_) fun h4=>?_ | refine zCc (by simp only [↓zAZ,↓zAg,↓zAq,↓zAV,↓reduceIte,Nat.reduceEqDiff] <;> rfl) (fun h4=>?_) fun h4=>?_
 · refine zAF fun Y3 hY3=>?_
   refine zAG ?_
   try simp only [↓zAK,EVq,TY,zAE,↓reduceIte,Nat.reduceLT,Nat.reduceLeDiff,Nat.reduceEqDiff,Nat.reduceAdd,Nat.reduceMul,Int.reduceLE,eq_self]
   refine zAD [2] ?_
   simp only [KQ,↓KP,↓reduceIte,Nat.reduceEqDiff]
   subst hY3
   refine zBd Try.func33 Try.results33 (by simp only [aRes,↓zAZ,↓KP,KQ,↓reduceIte,Nat.reduceEqDiff,zBR,TY] <;> rfl) (Weak.refl _ _ _) ?_
   first
     | exact .inl ⟨rfl,hb4 (by assumption),rfl⟩
     | (refine .inr ⟨?_,?_⟩
        · simp [retD]
        · rw [List.set_append_right _ _ (by simp)];simp)
 · refine zBV ?_
   subst hY1
   refine zAF fun Y4 hY4=>?_
   refine zAG ?_
   try simp only [q1,List.drop_zero,Nat.zero_add,List.nil_append,List.map_nil,↓zAK,EVq,TY,zAE,↓reduceIte,Nat.reduceLT,Nat.reduceLeDiff,Nat.reduceEqDiff,Nat.reduceAdd,Nat.reduceMul,Int.reduceLE,eq_self]
   try refine zBa (by first | rfl | decide | exact ⟨rfl,by decide,rfl⟩) ?_
   try simp only [q1,List.drop_zero,Nat.zero_add,List.nil_append,List.map_nil,↓zAK,EVq,TY,zAE,↓reduceIte,Nat.reduceLT,Nat.reduceLeDiff,Nat.reduceEqDiff,Nat.reduceAdd,Nat.reduceMul,Int.reduceLE,eq_self]
   refine zBa (by omega) ?_
   try simp only [q1,List.drop_zero,Nat.zero_add,List.nil_append,List.map_nil,↓zAK,EVq,TY,zAE,↓reduceIte,Nat.reduceLT,Nat.reduceLeDiff,Nat.reduceEqDiff,Nat.reduceAdd,Nat.reduceMul,Int.reduceLE,eq_self]
   refine zAD [2] ?_
   simp only [KQ,↓KP,↓reduceIte,Nat.reduceEqDiff]
   subst hY4
   refine zBd Try.func33 Try.results33 (by simp only [aRes,↓zAZ,↓KP,KQ,↓reduceIte,Nat.reduceEqDiff,zBR,TY] <;> rfl) (Weak.refl _ _ _) ?_
   first
     | exact .inl ⟨rfl,hb4 (by assumption),rfl⟩
     | (refine .inr ⟨?_,?_⟩
        · simp [retD]
        · rw [List.set_append_right _ _ (by simp)];simp)
set_option maxHeartbeats 4000000 in
theorem q_rev (H:Heap) (rr:Nat) (l:List Nm) (hr:H.get rr = some (.cells 1 (nD l))) (hl:l.length ≤ 1000000):Sound Try.prog 34 [.sl rr 0 l.length] H (fun d H'=>d = .tup [] ∧ Heap.get H' rr = some (.cells 1 (nD l.reverse)) ∧ H'.length = H.length ∧ ∀ x,x ≠ rr → Heap.get H' x = H.get x):=by
 refine zBi Try.func34 rfl (by kernel_rfl) Try.ntmps34 (by simp) ?_
 have lr:=Heap.get_lt hr
 refine zAF fun Y0 hY0=>?_
 refine zAG ?_
 try simp only [↓zAK,EVq,TY,zAE,↓reduceIte,Nat.reduceLT,Nat.reduceLeDiff,Nat.reduceEqDiff,Nat.reduceAdd,Nat.reduceMul,Int.reduceLE,eq_self]
 refine zAD [0,2,3] ?_
 simp only [KQ,↓KP,↓reduceIte,Nat.reduceEqDiff]
 subst hY0
 refine zCk ?_
 refine zAD [0,2,3] ?_
 simp only [KQ,↓KP,↓reduceIte,Nat.reduceEqDiff]
 refine run_loop' (fun m e H1=>∃ i:Nat,m = l.length - i ∧ i ≤ l.length ∧ H1.get rr = some (.cells 1 (nD (rv l i))) ∧ H1.length = H.length ∧ (∀ x,x ≠ rr → H1.get x = H.get x) ∧ e = envL [(0,.sl rr 0 l.length),(2,iD (i:Nat)),(3,iD ((l.length:Int) - 1 - i))]) l.length
   ⟨0,by simp,by omega,by rw [rv_zero];exact hr,rfl,fun _ _=>rfl,by rw [zBX (by omega) (by omega)];simp⟩ ?_
 intro C hC m e H1 ih hI
 obtain ⟨i,rfl,hi,hr1,hL,hfr,rfl⟩:=hI
 refine zAF fun Y1 hY1=>?_
 refine zAF fun Y2 hY2=>?_
 refine zAG ?_
 try simp only [↓zAK,EVq,TY,zAE,↓reduceIte,Nat.reduceLT,Nat.reduceLeDiff,Nat.reduceEqDiff,Nat.reduceAdd,Nat.reduceMul,Int.reduceLE,eq_self]
 refine zAD [0,2,3,9] ?_
 simp only [KQ,↓KP,↓reduceIte,Nat.reduceEqDiff]
 subst hY2
 first | refine run_if (by simp only [↓zAZ,↓zAg,↓zAq,↓zAV,↓reduceIte,Nat.reduceEqDiff] <;> rfl) (fun h9=>?_) fun h9=>?_ | refine zCc (by simp only [↓zAZ,↓zAg,↓zAq,↓zAV,↓reduceIte,Nat.reduceEqDiff] <;> rfl) (fun h9=>?_) fun h9=>?_
 · refine zBV ?_
   subst hY1
   refine zAF fun Y3 hY3=>?_
   refine zCk ?_
   have hij:i < l.length - 1 - i:=by omega
   have et:((l.length:Int) - 1 - i).toNat = l.length - 1 - i:=by omega
   have lr1:=Heap.get_lt hr1
   have e1:(nD (rv l i))[i]? = some (.v (sV ((rv l i).getD i ByteArray.empty))):=nD_get (by rw [rv_len];omega)
   have e2:(nD (rv l i))[l.length - 1 - i]? = some (.v (sV ((rv l i).getD (l.length - 1 - i) ByteArray.empty))):=nD_get (by rw [rv_len];omega)
   obtain ⟨y,e3⟩:∃ y,((nD (rv l i)).set i (.v (sV ((rv l i).getD (l.length - 1 - i) ByteArray.empty))))[l.length - 1 - i]? = some (.v (sV y)):=⟨_,by rw [List.getElem?_set_ne (by omega)];exact e2⟩
   have gs:∀ x,Heap.get (List.set H1 rr x) rr = x:=fun x=>by rw [zCd lr1,if_pos rfl]
   refine run_draw [(.pure,0),(.pure,1),(.pure,2),(.pure,3),(.pure,4),(.pure,5),(.pure,6),(.load,7),(.pure,8),(.pure,9),(.pure,10),(.load,11),(.pure,12),(.wr,13),(.pure,14),(.wr,15)] mixed (by kernel_rfl) ?_
   try simp only [et,Int.toNat_natCast,Nat.zero_add,hr1,e1,e2,e3,gs,zDE,planned_nil,o_toList,↓zAK,EVq,TY,zAE,↓reduceIte,Nat.reduceLT,Nat.reduceLeDiff,Nat.reduceEqDiff,Nat.reduceAdd,Nat.reduceMul,Int.reduceLE,eq_self]
   refine zBa (by omega) ?_
   try simp only [et,Int.toNat_natCast,Nat.zero_add,hr1,e1,e2,e3,gs,zDE,planned_nil,o_toList,↓zAK,EVq,TY,zAE,↓reduceIte,Nat.reduceLT,Nat.reduceLeDiff,Nat.reduceEqDiff,Nat.reduceAdd,Nat.reduceMul,Int.reduceLE,eq_self]
   refine zBa (by omega) ?_
   try simp only [et,Int.toNat_natCast,Nat.zero_add,hr1,e1,e2,e3,gs,zDE,planned_nil,o_toList,↓zAK,EVq,TY,zAE,↓reduceIte,Nat.reduceLT,Nat.reduceLeDiff,Nat.reduceEqDiff,Nat.reduceAdd,Nat.reduceMul,Int.reduceLE,eq_self]
   refine zBa (by omega) ?_
   try simp only [et,Int.toNat_natCast,Nat.zero_add,hr1,e1,e2,e3,gs,zDE,planned_nil,o_toList,↓zAK,EVq,TY,zAE,↓reduceIte,Nat.reduceLT,Nat.reduceLeDiff,Nat.reduceEqDiff,Nat.reduceAdd,Nat.reduceMul,Int.reduceLE,eq_self]
   refine zBa (by omega) ?_
   try simp only [et,Int.toNat_natCast,Nat.zero_add,hr1,e1,e2,e3,gs,zDE,planned_nil,o_toList,↓zAK,EVq,TY,zAE,↓reduceIte,Nat.reduceLT,Nat.reduceLeDiff,Nat.reduceEqDiff,Nat.reduceAdd,Nat.reduceMul,Int.reduceLE,eq_self]
   refine zAD [0,2,3] ?_
   simp only [KQ,↓KP,↓reduceIte,Nat.reduceEqDiff]
   refine zAr ?_
   subst hY3
   refine zAG ?_
   try simp only [↓zAK,EVq,TY,zAE,↓reduceIte,Nat.reduceLT,Nat.reduceLeDiff,Nat.reduceEqDiff,Nat.reduceAdd,Nat.reduceMul,Int.reduceLE,eq_self]
   refine zAD [0,2,3] ?_
   simp only [KQ,↓KP,↓reduceIte,Nat.reduceEqDiff]
   refine zAD [0,2,3] ?_
   simp only [KQ,↓KP,↓reduceIte,Nat.reduceEqDiff]
   have hij:i < l.length - 1 - i:=by omega
   have lr1:=Heap.get_lt hr1
   have ei:IntKind.i64.wrap ((i:Int) + 1) = ((i + 1:Nat):Int):=by rw [zBX (by omega) (by omega)];omega
   have ek:IntKind.i64.wrap ((l.length:Int) - 1 - i - 1) = (l.length:Int) - 1 - ((i + 1:Nat):Int):=by rw [zBX (by omega) (by omega)];omega
   rw [ei,ek]
   refine ih (l.length - (i + 1)) _ _ (by omega) ⟨i + 1,rfl,by omega,?_,?_,?_,rfl⟩
   · rw [← rv_step hij]
     simp only [List.set_set]
     rw [zCd lr1,if_pos rfl]
     simp only [nD,List.map_set]
   · simp only [List.length_set];exact hL
   · intro x hx
     simp only [List.set_set]
     rw [zCd lr1,if_neg hx];exact hfr x hx
 · refine run_exit (by rfl) ?_
   refine run_end Try.func34 Try.results34 (by simp only [aRes,↓zAZ,↓KP,KQ,↓reduceIte,Nat.reduceEqDiff,zBR,TY] <;> rfl) (Weak.refl _ _ _) ?_
   refine ⟨rfl,?_,hL,hfr⟩
   rw [← rv_end (l:=l) (i:=i) (by omega)]
   exact hr1
set_option maxHeartbeats 4000000 in
theorem q_rev_nil (H:Heap):Sound Try.prog 34 [.v (.slice none 0 0)] H (fun d H'=>d = .tup [] ∧ H' = H):=by
 refine zBi Try.func34 rfl (by kernel_rfl) Try.ntmps34 (by simp) ?_
 refine zAF fun Y0 hY0=>?_
 refine zAG ?_
 try simp only [↓zAK,EVq,TY,zAE,↓reduceIte,Nat.reduceLT,Nat.reduceLeDiff,Nat.reduceEqDiff,Nat.reduceAdd,Nat.reduceMul,Int.reduceLE,eq_self]
 refine zAD [0,2,3] ?_
 simp only [KQ,↓KP,↓reduceIte,Nat.reduceEqDiff]
 subst hY0
 refine zCk ?_
 refine zAD [0,2,3] ?_
 simp only [KQ,↓KP,↓reduceIte,Nat.reduceEqDiff]
 refine run_loop' (fun m e H1=>m = 0 ∧ H1 = H ∧ e = envL [(0,.v (.slice none 0 0)),(2,iD 0),(3,iD (-1))]) 0
   ⟨rfl,rfl,rfl⟩ ?_
 intro C hC m e H1 ih hI
 obtain ⟨rfl,rfl,rfl⟩:=hI
 refine zAF fun Y1 hY1=>?_
 refine zAF fun Y2 hY2=>?_
 refine zAG ?_
 try simp only [↓zAK,EVq,TY,zAE,↓reduceIte,Nat.reduceLT,Nat.reduceLeDiff,Nat.reduceEqDiff,Nat.reduceAdd,Nat.reduceMul,Int.reduceLE,eq_self]
 refine zAD [0,2,3,9] ?_
 simp only [KQ,↓KP,↓reduceIte,Nat.reduceEqDiff]
 subst hY2
 refine run_if_f (by simp only [↓zAZ,↓zAg,↓zAq,↓zAV,↓reduceIte,Nat.reduceEqDiff] <;> rfl) ?_
 refine run_exit (by rfl) ?_
 refine run_end Try.func34 Try.results34 (by simp only [aRes,↓zAZ,↓KP,KQ,↓reduceIte,Nat.reduceEqDiff,zBR,TY] <;> rfl) (Weak.refl _ _ _) ?_
 exact ⟨rfl,rfl⟩
set_option maxHeartbeats 4000000 in
theorem q_inv1 (i:Int) (p:List Nm) (w:Int) (hp:p.length ≤ 1000000):Pure Try.prog 32 [iD i,stD (p,w)] (fun d=>d = .tup [stD (p.reverse,w),.v (.bool true)]):=by
 refine zBi Try.func32 rfl (by kernel_rfl) Try.ntmps32 (by simp) ?_
 refine zAF fun Y0 hY0=>?_
 refine zAG ?_
 try simp only [↓zAK,EVq,TY,zAE,↓reduceIte,Nat.reduceLT,Nat.reduceLeDiff,Nat.reduceEqDiff,Nat.reduceAdd,Nat.reduceMul,Int.reduceLE,eq_self]
 refine zAD [3,4] ?_
 simp only [KQ,↓KP,↓reduceIte,Nat.reduceEqDiff]
 subst hY0
 refine zAF fun Y1 hY1=>?_
 refine zAG ?_
 try simp only [↓zAK,EVq,TY,zAE,↓reduceIte,Nat.reduceLT,Nat.reduceLeDiff,Nat.reduceEqDiff,Nat.reduceAdd,Nat.reduceMul,Int.reduceLE,eq_self]
 refine zCH (q_clone _ (nD p) (by rw [nD_len];omega)) (fun dd Hx hcl=>?_)
 try simp only [↓zAK,EVq,TY,zAE,↓reduceIte,Nat.reduceLT,Nat.reduceLeDiff,Nat.reduceEqDiff,Nat.reduceAdd,Nat.reduceMul,Int.reduceLE,eq_self]
 refine zAD [3,4,6] ?_
 simp only [KQ,↓KP,↓reduceIte,Nat.reduceEqDiff]
 subst hY1
 refine zAF fun Y2 hY2=>?_
 rcases hcl with ⟨rfl,hnil,rfl⟩ | ⟨rfl,rfl⟩
 · refine zAG ?_
   try simp only [↓zAK,EVq,TY,zAE,↓reduceIte,Nat.reduceLT,Nat.reduceLeDiff,Nat.reduceEqDiff,Nat.reduceAdd,Nat.reduceMul,Int.reduceLE,eq_self]
   refine zCH (q_rev_nil _) (fun dd Hx hdd=>?_)
   obtain ⟨rfl,rfl⟩:=hdd
   try simp only [↓zAK,EVq,TY,zAE,↓reduceIte,Nat.reduceLT,Nat.reduceLeDiff,Nat.reduceEqDiff,Nat.reduceAdd,Nat.reduceMul,Int.reduceLE,eq_self]
   refine zAD [3,4,6] ?_
   simp only [KQ,↓KP,↓reduceIte,Nat.reduceEqDiff]
   subst hY2
   refine zAF fun Y3 hY3=>?_
   refine zAG ?_
   try simp only [↓zAK,EVq,TY,zAE,↓reduceIte,Nat.reduceLT,Nat.reduceLeDiff,Nat.reduceEqDiff,Nat.reduceAdd,Nat.reduceMul,Int.reduceLE,eq_self]
   refine zAD [4,5] ?_
   simp only [KQ,↓KP,↓reduceIte,Nat.reduceEqDiff]
   subst hY3
   first
     | (refine zCj 4 Try.func32 Try.results32 (by simp only [aRes,↓zAZ,↓KP,KQ,↓reduceIte,Nat.reduceEqDiff,h32,zBR,TY] <;> rfl) rfl (d'':=.tup [stD (p.reverse,w),.v (.bool true)]) ?_ rfl
        exact le_tup2 (le_agg2 (le_fz _ _) (le_int _)) (le_bool _))
     | (obtain rfl:p = []:=by
          cases p with
          | nil=>rfl
          | cons a b=>cases hnil
        refine zCj 4 Try.func32 Try.results32 (by simp only [aRes,↓zAZ,↓KP,KQ,↓reduceIte,Nat.reduceEqDiff,zBR,TY] <;> rfl) rfl (d'':=.tup [stD ([],w),.v (.bool true)]) ?_ rfl
        exact le_tup2 (le_agg2 (le_nilfz _) (le_int _)) (le_bool _))
 · refine zAG ?_
   try simp only [↓zAK,EVq,TY,zAE,↓reduceIte,Nat.reduceLT,Nat.reduceLeDiff,Nat.reduceEqDiff,Nat.reduceAdd,Nat.reduceMul,Int.reduceLE,eq_self]
   rw [nD_len]
   refine zCH (q_rev _ 3 p rfl hp) (fun dd Hx hdd=>?_)
   obtain ⟨rfl,hg3,hL3,hfr3⟩:=hdd
   try simp only [↓zAK,EVq,TY,zAE,↓reduceIte,Nat.reduceLT,Nat.reduceLeDiff,Nat.reduceEqDiff,Nat.reduceAdd,Nat.reduceMul,Int.reduceLE,eq_self]
   refine zAD [3,4,6] ?_
   simp only [KQ,↓KP,↓reduceIte,Nat.reduceEqDiff]
   subst hY2
   refine zAF fun Y4 hY4=>?_
   refine Go.Ab.run_freeze (s:=6) (r:=3) (i:=0) (m:=p.length) (k:=1) (xs:=nD p.reverse) rfl hg3 (by rw [nD_len,List.length_reverse];omega) (norefs_nm _) ?_
   have h3l:3 < Hx.length:=by rw [hL3];simp
   have h30:Heap.get (List.set Hx 3 none) 0 = some (Row.cells 2 [stD (p,w)]):=by rw [zCd h3l,if_neg (by decide)];exact hfr3 0 (by decide)
   have h31:Heap.get (List.set Hx 3 none) 1 = some (Row.cells 2 [D.agg [D.v (Value.slice none 0 0),D.v (Value.int IntKind.i64 0)]]):=by rw [zCd h3l,if_neg (by decide)];exact hfr3 1 (by decide)
   have h32:∀ x,Heap.get (List.set (List.set Hx 3 none) 1 x) 1 = x:=fun x=>by rw [zCd (by rw [List.length_set];omega),if_pos rfl]
   have hdt:((nD p.reverse).drop 0).take p.length = nD p.reverse:=by rw [List.drop_zero,List.take_of_length_le (by rw [nD_len,List.length_reverse];omega)]
   rw [hdt]
   refine zAG ?_
   try simp only [h30,h31,↓zAK,EVq,TY,zAE,↓reduceIte,Nat.reduceLT,Nat.reduceLeDiff,Nat.reduceEqDiff,Nat.reduceAdd,Nat.reduceMul,Int.reduceLE,eq_self]
   refine zAD [4,5] ?_
   simp only [KQ,↓KP,↓reduceIte,Nat.reduceEqDiff]
   subst hY4
   first
     | (refine zCj 4 Try.func32 Try.results32 (by simp only [aRes,↓zAZ,↓KP,KQ,↓reduceIte,Nat.reduceEqDiff,h32,zBR,TY] <;> rfl) rfl (d'':=.tup [stD (p.reverse,w),.v (.bool true)]) ?_ rfl
        exact le_tup2 (le_agg2 (le_fz _ _) (le_int _)) (le_bool _))
     | (obtain rfl:p = []:=by
          cases p with
          | nil=>rfl
          | cons a b=>cases hnil
        refine zCj 4 Try.func32 Try.results32 (by simp only [aRes,↓zAZ,↓KP,KQ,↓reduceIte,Nat.reduceEqDiff,zBR,TY] <;> rfl) rfl (d'':=.tup [stD ([],w),.v (.bool true)]) ?_ rfl
        exact le_tup2 (le_agg2 (le_nilfz _) (le_int _)) (le_bool _))
end Go.Fl
namespace Go.Proofs
open Go.Shelf
def Try.sortRow_ren:Go.Shelf.Ren:=⟨fun | 6=>41 | 15=>54 | 14=>53 | 28=>77 | 29=>78 | 20=>69 | 21=>70 | 22=>71 | 23=>72 | 24=>73 | 25=>74 | 26=>75 | 27=>76 | 46=>83 | 47=>84 | 48=>85 | 49=>86 | 50=>87 | 57=>90 | n=>n,fun | 22=>48 | 24=>51 | 25=>73 | 3=>3 | 39=>89 | 0=>0 | 53=>108 | 55=>110 | 4=>4 | 46=>102 | 45=>101 | 50=>98 | 5=>5 | 9=>9 | 66=>112 | 70=>116 | 76=>120 | 77=>121 | n=>n,fun | n=>n⟩
theorem Try.sortRow:Go.Proofs.SlLaysF0.n6 Try.prog Try.sortRow_ren:={
 mixed:=by kernel_rfl
 f6:=⟨Try.f41.name,by decide,Try.func41.trans (congrArg some (by kernel_rfl))⟩
 f14:=⟨Try.f53.name,by decide,Try.func53.trans (congrArg some (by kernel_rfl))⟩
 f15:=Try.func54.trans (congrArg some (by kernel_rfl))
 f20:=⟨Try.f69.name,by decide,Try.func69.trans (congrArg some (by kernel_rfl))⟩
 f21:=⟨Try.f70.name,by decide,Try.func70.trans (congrArg some (by kernel_rfl))⟩
 f22:=⟨Try.f71.name,by decide,Try.func71.trans (congrArg some (by kernel_rfl))⟩
 f23:=⟨Try.f72.name,by decide,Try.func72.trans (congrArg some (by kernel_rfl))⟩
 f24:=⟨Try.f73.name,by decide,Try.func73.trans (congrArg some (by kernel_rfl))⟩
 f25:=⟨Try.f74.name,by decide,Try.func74.trans (congrArg some (by kernel_rfl))⟩
 f26:=⟨Try.f75.name,by decide,Try.func75.trans (congrArg some (by kernel_rfl))⟩
 f27:=⟨Try.f76.name,by decide,Try.func76.trans (congrArg some (by kernel_rfl))⟩
 f28:=Try.func77.trans (congrArg some (by kernel_rfl))
 f29:=Try.func78.trans (congrArg some (by kernel_rfl))
 f46:=⟨Try.f83.name,by decide,Try.func83.trans (congrArg some (by kernel_rfl))⟩
 f47:=Try.func84.trans (congrArg some (by kernel_rfl))
 f48:=Try.func85.trans (congrArg some (by kernel_rfl))
 f49:=⟨Try.f86.name,by decide,Try.func86.trans (congrArg some (by kernel_rfl))⟩
 f50:=⟨Try.f87.name,by decide,Try.func87.trans (congrArg some (by kernel_rfl))⟩
 f57:=⟨Try.f90.name,by decide,Try.func90.trans (congrArg some (by kernel_rfl))⟩
 t0:=Try.underlying0
 a0:=Try.isAgg0
 z0:=Try.sizeOf0
 v0:=Try.zeroValue0
 t3:=Try.underlying3
 a3:=Try.isAgg3
 z3:=Try.sizeOf3
 v3:=Try.zeroValue3
 t4:=Try.underlying4
 a4:=Try.isAgg4
 z4:=Try.sizeOf4
 v4:=Try.zeroValue4
 t5:=Try.underlying5
 a5:=Try.isAgg5
 z5:=Try.sizeOf5
 v5:=Try.zeroValue5
 t9:=Try.underlying9
 a9:=Try.isAgg9
 z9:=Try.sizeOf9
 v9:=Try.zeroValue9
 t22:=Try.underlying48
 a22:=Try.isAgg48
 z22:=Try.sizeOf48
 v22:=Try.zeroValue48
 t25:=Try.underlying73
 a25:=Try.isAgg73
 z25:=Try.sizeOf73
 v25:=Try.zeroValue73
 t39:=Try.underlying89
 a39:=Try.isAgg89
 z39:=Try.sizeOf89
 v39:=Try.zeroValue89
 t45:=Try.underlying101
 a45:=Try.isAgg101
 z45:=Try.sizeOf101
 v45:=Try.zeroValue101
 t46:=Try.underlying102
 a46:=Try.isAgg102
 z46:=Try.sizeOf102
 v46:=Try.zeroValue102
 t50:=Try.underlying98
 a50:=Try.isAgg98
 z50:=Try.sizeOf98
 v50:=Try.zeroValue98
 t53:=Try.underlying108
 a53:=Try.isAgg108
 z53:=Try.sizeOf108
 v53:=Try.zeroValue108
 t55:=Try.underlying110
 a55:=Try.isAgg110
 z55:=Try.sizeOf110
 v55:=Try.zeroValue110
 t66:=Try.underlying112
 a66:=Try.isAgg112
 z66:=Try.sizeOf112
 v66:=Try.zeroValue112
 t70:=Try.underlying116
 a70:=Try.isAgg116
 z70:=Try.sizeOf116
 v70:=Try.zeroValue116
 t76:=Try.underlying120
 a76:=Try.isAgg120
 z76:=Try.sizeOf120
 v76:=Try.zeroValue120
 t77:=Try.underlying121
 a77:=Try.isAgg121
 z77:=Try.sizeOf121
 v77:=Try.zeroValue121 }
end Go.Proofs
namespace Go.Fl
open Go Go.T Go.Proofs
theorem sorts41:SortsAt Try.prog 41 3:=fun enc hk h1 cf hO g cb blk off cap d w eg hcmp hH hblk hsz =>
 AnyQ.slices_SortFunc Try.sortRow 3 Try.isAgg51 Try.sizeOf51 enc hk h1 cf hO g cb blk off cap d w eg hcmp hH hblk hsz
open Go Go.Ab Go.T Go.Pl Go.Proofs Go.Sort
abbrev TR:=Nm × Int × Int
abbrev tR:Ty:=.agg (.pr .str (.pr (.int .i64) (.int .i64)))
def cfR (x y:TR):Int:=if y.2.2 < x.2.2 then -1 else if x.2.2 < y.2.2 then 1 else if slt x.1 y.1 = true then -1 else if slt y.1 x.1 = true then 1 else 0
def ltR (x y:TR):Prop:=y.2.2 < x.2.2 ∨ (x.2.2 = y.2.2 ∧ slt x.1 y.1 = true)
instance (x y:TR):Decidable (ltR x y):=by unfold ltR;infer_instance
theorem cfR_lt (x y:TR):cfR x y < 0 ↔ ltR x y:=by
 unfold cfR ltR
 by_cases h1:y.2.2 < x.2.2
 · rw [if_pos h1];exact ⟨fun _=>.inl h1,fun _=>by omega⟩
 rw [if_neg h1]
 by_cases h2:x.2.2 < y.2.2
 · rw [if_pos h2];exact ⟨fun h=>by omega,fun h=>by rcases h with h | h <;> omega⟩
 rw [if_neg h2]
 have e:x.2.2 = y.2.2:=by omega
 by_cases h3:slt x.1 y.1 = true
 · rw [if_pos h3];exact ⟨fun _=>.inr ⟨e,h3⟩,fun _=>by omega⟩
 rw [if_neg h3]
 constructor
 · intro h;split at h <;> omega
 · rintro (h | ⟨_,h⟩)
   · omega
   · exact absurd h h3
theorem ltR_irr (x:TR):¬ ltR x x:=by
 rintro (h | ⟨_,h⟩)
 · omega
 · exact slt_irr _ h
theorem ltR_trans {x y z:TR} (h1:ltR x y) (h2:ltR y z):ltR x z:=by
 rcases h1 with h1 | ⟨e1,h1⟩ <;> rcases h2 with h2 | ⟨e2,h2⟩
 · exact .inl (by omega)
 · exact .inl (by omega)
 · exact .inl (by omega)
 · exact .inr ⟨by omega,slt_trans h1 h2⟩
theorem ltR_ntrans {x y z:TR} (h1:¬ ltR x y) (h2:¬ ltR y z):¬ ltR x z:=by
 unfold ltR at *
 rintro (h | ⟨e,h⟩)
 · have a:¬ y.2.2 < x.2.2:=fun h'=>h1 (.inl h')
   have b:¬ z.2.2 < y.2.2:=fun h'=>h2 (.inl h')
   omega
 · have a:¬ y.2.2 < x.2.2:=fun h'=>h1 (.inl h')
   have b:¬ z.2.2 < y.2.2:=fun h'=>h2 (.inl h')
   have e1:x.2.2 = y.2.2:=by omega
   have e2:y.2.2 = z.2.2:=by omega
   have c1:¬ slt x.1 y.1 = true:=fun h'=>h1 (.inr ⟨e1,h'⟩)
   have c2:¬ slt y.1 z.1 = true:=fun h'=>h2 (.inr ⟨e2,h'⟩)
   rcases slt_tri x.1 y.1 with g | g | g
   · exact c1 g
   · rw [g] at h;exact c2 h
   · exact c2 (slt_trans g h)
theorem F44_eq (a b:Int):F44 (a,b) = some (if a < b then -1 else if b < a then 1 else 0):=by
 have h:∀ x:Int,F55 x = some false:=fun x=>by unfold F55;rw [ine_d];simp
 unfold F44
 rw [zAd (h _),zAd (h _),zBU rfl,zBU rfl,zBy,sel_i,zBy,sel_i]
 dsimp only
 by_cases h1:a < b
 · rw [if_pos h1,if_pos h1]
 · rw [if_neg h1,if_neg h1]
   by_cases h2:b < a
   · rw [if_pos h2,if_pos h2]
   · rw [if_neg h2,if_neg h2]
theorem sle_not (a b:Nm):zCQ (sle a b) = slt b a:=by
 have e:sle a b = !slt b a:=by
   unfold sle slt
   rw [Go.Proofs.bytesLess_eq,Go.Proofs.bytesLess_eq,ByteArray.toList_eq,ByteArray.toList_eq]
   rcases slt_tri a b with h | h | h
   · have h1:=slt_iff.1 h
     have h2:¬ b.data.toList < a.data.toList:=fun g=>slt_asymm h (slt_iff.2 g)
     simp [h1,h2]
   · subst h
     have h2:¬ a.data.toList < a.data.toList:=List.lt_irrefl _
     simp [h2]
   · have h1:=slt_iff.1 h
     have h2:¬ a.data.toList < b.data.toList:=fun g=>slt_asymm h (slt_iff.2 g)
     have h3:a.data ≠ b.data:=fun e=>by rw [e] at h1;exact List.lt_irrefl _ h1
     simp [h1,h2,h3]
 rw [e,bnot_d,Bool.not_not]
theorem F45_eq (a b:Nm):F45 (a,b) = some (if slt a b = true then -1 else if slt b a = true then 1 else 0):=by
 have h:∀ x:Nm,F56 x = some false:=fun x=>by
   unfold F56
   have:seq x x = true:=by unfold seq;exact beq_self_eq_true _
   rw [this];rfl
 unfold F45
 rw [zAd (h _),zAd (h _),zBU rfl,zBU rfl]
 dsimp only
 rw [sle_not]
 cases h1:slt a b with
 | true=>rw [zCA rfl,if_pos rfl]
 | false =>
   rw [zBU rfl,if_neg (by simp)]
   cases h2:slt b a with
   | true=>rw [zCA rfl,if_pos rfl]
   | false=>rw [zBU rfl,if_neg (by simp)]
theorem F43_eq (a b:Int):F43 [a,b] = some (if a ≠ 0 then a else b):=by
 unfold F43
 by_cases h1:a ≠ 0
 · refine (join_r (r:=a) (iter_r ?_)).trans (by rw [if_pos h1])
   rw [zCA (show ilt 0 (n2i (zAL [a,b])) = true from rfl),zAY (show inL 0 (zAL [a,b]) = true from rfl)]
   show sel (ine a 0) _ _ = _
   rw [ine_d,zCA (by simpa using h1)];rfl
 · have h1:a = 0:=by simpa using h1
   subst h1
   rw [if_neg (by simp)]
   by_cases h2:b ≠ 0
   · refine (join_r (r:=b) (iter_l (s':=1) ?_ (iter_r ?_)))
     · rfl
     · rw [zCA (show ilt 1 (n2i (zAL [0,b])) = true from rfl),zAY (show inL 1 (zAL [0,b]) = true from rfl)]
       show sel (ine b 0) _ _ = _
       rw [ine_d,zCA (by simpa using h2)];rfl
   · have h2:b = 0:=by simpa using h2
     subst h2
     exact (join_l (s:=PUnit.unit) (iter_l (s':=1) rfl (iter_l (s':=2) rfl (iter_r rfl))))
theorem F42_eq (x y:TR):F42 (x,y) = some (cfR x y):=by
 unfold F42
 dsimp only
 rw [zAd (F44_eq _ _),zAd (F45_eq _ _),zAd (F43_eq _ _)]
 unfold cfR
 by_cases h1:y.2.2 < x.2.2
 · rw [if_pos h1,if_pos h1,if_pos (by decide)]
 rw [if_neg h1,if_neg h1]
 by_cases h2:x.2.2 < y.2.2
 · rw [if_pos h2,if_pos h2,if_pos (by decide)]
 rw [if_neg h2,if_neg h2,if_neg (by decide)]
theorem ltOf_R (x y:TR):ltOf cfR x y = decide (ltR x y):=by
 unfold ltOf
 rw [decide_eq_decide]
 exact cfR_lt x y
theorem ltOf_t (x y:TR):ltOf cfR x y = true ↔ ltR x y:=by rw [ltOf_R,decide_eq_true_eq]
theorem ltOf_f (x y:TR):ltOf cfR x y = false ↔ ¬ ltR x y:=by rw [ltOf_R,decide_eq_false_iff_not]
theorem cmp42:CmpOk Try.prog c42 tR [] (fun _:TR=>True) cfR:=by
 refine ⟨@ok42 ⟨True⟩,rfl,rfl,(fun v hv=>nomatch hv),enters_of Try.func42 (by kernel_rfl) rfl,fun (x:TR) (y:TR) _ _=>⟨((x,y):TR × TR),rfl,⟨(cfR x y:Int),F42_eq x y⟩,fun r hr=>?_⟩,fun x _=>?_,fun x y z _ _ _ h1 h2=>?_,fun x y z _ _ _ h1 h2=>?_⟩
 · have hr:F42 (x,y) = some r:=hr
   rw [F42_eq] at hr
   have:=Option.some.inj hr
   subst this;rfl
 · exact (ltOf_f x x).2 (ltR_irr x)
 · exact (ltOf_t x z).2 (ltR_trans ((ltOf_t x y).1 h1) ((ltOf_t y z).1 h2))
 · exact (ltOf_f x z).2 (ltR_ntrans ((ltOf_f x y).1 h1) ((ltOf_f y z).1 h2))
def Q41 (l l':List TR):Prop:=l.length ≤ 1000000 ∧ l'.Perm l ∧ l'.Pairwise fun a b=>¬ ltR b a
noncomputable def c41:Con:=⟨41,[.own 0,.fn 42 .unit .unit],[.many tR],.tup .unit,[.many tR],fun _=>none,some Q41⟩
theorem ok41:zAu Try.prog c41:=fun (l:List TR) hx ζ num H hH _=>by
 obtain ⟨y,hy⟩:=hx
 have hy:Q41 l y:=hy
 have hl:=hy.1
 obtain ⟨hel,hg⟩:=hH.row 0
 have hg:H.get (num 0) = some (.cells 3 (l.map (e0 tR))):=hg
 have hlt:=Heap.get_lt hg
 have ha:(zBD c41 l).map (enc (zAB num (zBh c41 l))) = [.sl (num 0) 0 l.length,.fn (.func 42) [] []]:=rfl
 rw [ha]
 refine (sort_sound (T:=tR) sorts41 cmp42 rfl rfl ⟨Try.f41,Try.func41,by kernel_rfl,by kernel_rfl⟩ (((ByteArray.empty,0,0):TR)) trivial (fun own U w=>⟨[.string ByteArray.empty,.int .i64 0,.int .i64 0],?_⟩) (l:=l) hg (fun _ _=>trivial) (Nat.lt_of_le_of_lt hl (by decide))).mono fun d H' h=>?_
 · show VRels own U w 0 [.v (.string ByteArray.empty),.v (.int .i64 0),.v (.int .i64 0)] _
   simp [VRels,VRel]
 obtain ⟨rfl,l',hp,hs,rfl⟩:=h
 have hQ:Q41 l l':=⟨hl,hp,hs.imp fun {a b} hab=>(ltOf_f b a).1 hab⟩
 refine ⟨l',hQ,ζ,num,⟨fun r=>?_,fun r q hr hq hne'=>?_,fun r t x hr=>?_⟩,rfl,trivial,fun r hr=>?_,fun r hr hl=>?_⟩
 · match r with
   | 0=>exact ⟨rfl,by rw [Heap.get_set H hlt,if_pos rfl]⟩
   | r + 1=>trivial
 · match r,q with
   | 0,0=>exact absurd rfl hne'
   | r + 1,_=>cases hr
   | 0,q + 1=>cases hq
 · match r with
   | 0=>cases hr
   | r + 1=>cases hr
 · match r with
   | 0=>exact ⟨fun _=>rfl,fun h=>absurd h (by decide)⟩
   | r + 1=>cases hr
 · match r with
   | 0=>exact hp.length_eq
   | r + 1=>exact absurd hr (by show ¬ r + 1 < 1;omega)
noncomputable def F32 (x:Int × List Nm × Int):Option ((List Nm × Int) × Bool):=if x.2.1.length ≤ 1000000 then some ((x.2.1.reverse,x.2.2),true) else none
noncomputable def c32:Con:=⟨32,[.int .i64,tS],[],.tup (.pr tS .bool),[],F32,none⟩
theorem ok32:zAu Try.prog c32:=by
 refine con_pure rfl rfl (fun (x:Int × List Nm × Int) v hv=>?_) (fun y=>rfl) fun (x:Int × List Nm × Int) hx=>?_
 · have hv:v ∈ [(⟨.int .i64,x.1⟩:TV),⟨tS,x.2⟩]:=hv
   simp only [List.mem_cons,List.not_mem_nil,or_false] at hv
   rcases hv with rfl | rfl <;> rfl
 · obtain ⟨i,p,w⟩:=x
   obtain ⟨y,hy⟩:=hx
   have hy:F32 (i,p,w) = some y:=hy
   unfold F32 at hy
   split at hy
   · rename_i hl
     have hF:F32 (i,p,w) = some ((p.reverse,w),true):=if_pos hl
     exact Pure.mono (q_inv1 i p w hl) fun d hd=>⟨(((p.reverse,w),true):(List Nm × Int) × Bool),hF,hd⟩
   · cases hy
open Go Go.T Go.Ab Go.Proofs
noncomputable def F23 (x:(List (Int × (ByteArray × Int)))):(Option (List (ByteArray × (Int × Int)))) :=
call (F13 x) fun (r0:Int) =>
sel (ine r0 0) (some ([]:List (ByteArray × (Int × Int)))) <|
join (zCv (fun (s1:(Int × (List (ByteArray × Int)))) =>
sel (ilt s1.1 (n2i (zAL x))) (need (inL s1.1 (zAL x)) <|
some (.inl (zBo .i64 s1.1 1,mput seq s1.2 (((zAJ (0,(⟨#[]⟩:ByteArray),0) x (i2n s1.1)).2).1) (zBo .i64 (mget seq 0 s1.2 (((zAJ (0,(⟨#[]⟩:ByteArray),0) x (i2n s1.1)).2).1)) (((zAJ (0,(⟨#[]⟩:ByteArray),0) x (i2n s1.1)).2).2))))) <|
some (.inr (.inl s1.2))) (0,([]:List (ByteArray × Int)))) fun (j2:(List (ByteArray × Int))) =>
need (mk 0 (n2i (zAL j2)) 32) <|
mrange j2 (fun (p3:(ByteArray × Int)) (s4:(List (ByteArray × (Int × Int)))) =>
call (F11 (x,p3.1)) fun (r5:Int) =>
need (room (nadd (zAL s4) (zAL ((p3.1,p3.2,r5) :: ([]:List (ByteArray × (Int × Int)))))) 32) <|
some (.inl (lcat s4 ((p3.1,p3.2,r5) :: ([]:List (ByteArray × (Int × Int))))))) (fun (s6:(List (ByteArray × (Int × Int)))) =>
up (callQ (Q41 s6) fun (r7:(List (ByteArray × (Int × Int)))) =>
some r7)) (lrep 0 ((⟨#[]⟩:ByteArray),0,0))
noncomputable def c23:Con:=⟨23,[.sl (.agg (.pr (.int .i64) (.pr .str (.int .i64))))],[],.sl (.agg (.pr .str (.pr (.int .i64) (.int .i64)))),[],F23,none⟩
theorem ok23:zAu Try.prog c23:=zBe zDN [c13,c11,c41] (zAU ok13 (zAU ok11 (zAU ok41 (zBf)))) c23 Try.f23 (.n .o (.n .o (.n .o (.n (.n .o (.jb ⟨[0,3],[],[(0,.mp .str (.int .i64))],1,0⟩ (.l ⟨[0,3,13,14],[(15,.int .i64)],[(0,.mp .str (.int .i64))],1,1⟩ .o))) (.n .o (.n (.n .o (.b (.lm ⟨[0,31],[(6,.own 1)],[(1,.many (.agg (.pr .str (.pr (.int .i64) (.int .i64)))))],3,2⟩ 2 .o))) .o)))))) Try.func23 (by kernel_rfl) (by kernel_rfl) (by kernel_rfl) rfl (fun x=>by kernel_rfl) (fun x=>⟨by kernel_rfl,by kernel_rfl⟩)
noncomputable def F31a (x:((List (Int × (ByteArray × Int))) × (PUnit × ByteArray))):(Option ((List (Int × (ByteArray × Int))) × Int)) :=
call (F13 x.1) fun (r0:Int) =>
sel (ine r0 0) (some (([]:List (Int × (ByteArray × Int))),1)) <|
call (F16 x.1) fun (r1:(List ((List ByteArray) × Int))) =>
join (zCv (fun (s2:(Int × (List ((List ByteArray) × Int)))) =>
sel (ilt s2.1 (n2i (zAL r1))) (join (need (inL s2.1 (zAL r1)) <|
call (F47 (s2.1,zAJ (([]:List ByteArray),0) r1 (i2n s2.1),x.2.2)) fun (r3:(((List ByteArray) × Int) × Bool)) =>
sel r3.2 (need (room (nadd (zAL s2.2) (zAL (r3.1 :: ([]:List ((List ByteArray) × Int))))) 32) <|
some (.inl (lcat s2.2 (r3.1 :: ([]:List ((List ByteArray) × Int)))))) <|
some (.inl s2.2)) fun (j4:(List ((List ByteArray) × Int))) =>
some (.inl (zBo .i64 s2.1 1,j4))) <|
some (.inr (.inl s2.2))) (0,([]:List ((List ByteArray) × Int)))) fun (j5:(List ((List ByteArray) × Int))) =>
call (F29 j5) fun (r6:((List (Int × (ByteArray × Int))) × Int)) =>
sel (ine r6.2 0) (some (([]:List (Int × (ByteArray × Int))),r6.2)) <|
some (r6.1,0)
noncomputable def c31a:Con:=⟨31,[.sl (.agg (.pr (.int .i64) (.pr .str (.int .i64)))),.fn 47 .unit (.fp .str 0)],[],.tup (.pr (.sl (.agg (.pr (.int .i64) (.pr .str (.int .i64))))) (.int .i64)),[],F31a,none⟩
theorem ok31a:zAu Try.prog c31a:=zBe zDN [c13,c16,c29,c47] (zAU ok13 (zAU ok16 (zAU ok29 (zAU ok47 (zBf))))) c31a Try.f31 (.n .o (.n .o (.n .o (.n (.n .o (.jb ⟨[],[(6,.own 0)],[(0,.lst (.agg (.pr (.sl .str) (.int .i64))))],1,0⟩ (.l ⟨[1,17,18],[(6,.own 0),(19,.int .i64)],[(0,.lst (.agg (.pr (.sl .str) (.int .i64))))],1,1⟩ (.n .o (.n .o (.n (.jb ⟨[1,17,18,19],[(6,.own 0)],[(0,.lst (.agg (.pr (.sl .str) (.int .i64))))],1,2⟩ .o) .o)))))) .o)))) Try.func31 (by kernel_rfl) (by kernel_rfl) (by kernel_rfl) rfl (fun x=>by kernel_rfl) (fun x=>⟨by kernel_rfl,by kernel_rfl⟩)
noncomputable def F31c (x:(List (Int × (ByteArray × Int)))):(Option ((List (Int × (ByteArray × Int))) × Int)) :=
call (F13 x) fun (r0:Int) =>
sel (ine r0 0) (some (([]:List (Int × (ByteArray × Int))),1)) <|
call (F16 x) fun (r1:(List ((List ByteArray) × Int))) =>
join (zCv (fun (s2:(Int × (List ((List ByteArray) × Int)))) =>
sel (ilt s2.1 (n2i (zAL r1))) (join (need (inL s2.1 (zAL r1)) <|
call (F32 (s2.1,zAJ (([]:List ByteArray),0) r1 (i2n s2.1))) fun (r3:(((List ByteArray) × Int) × Bool)) =>
sel r3.2 (need (room (nadd (zAL s2.2) (zAL (r3.1 :: ([]:List ((List ByteArray) × Int))))) 32) <|
some (.inl (lcat s2.2 (r3.1 :: ([]:List ((List ByteArray) × Int)))))) <|
some (.inl s2.2)) fun (j4:(List ((List ByteArray) × Int))) =>
some (.inl (zBo .i64 s2.1 1,j4))) <|
some (.inr (.inl s2.2))) (0,([]:List ((List ByteArray) × Int)))) fun (j5:(List ((List ByteArray) × Int))) =>
call (F29 j5) fun (r6:((List (Int × (ByteArray × Int))) × Int)) =>
sel (ine r6.2 0) (some (([]:List (Int × (ByteArray × Int))),r6.2)) <|
some (r6.1,0)
noncomputable def c31c:Con:=⟨31,[.sl (.agg (.pr (.int .i64) (.pr .str (.int .i64)))),.fn 32 .unit .unit],[],.tup (.pr (.sl (.agg (.pr (.int .i64) (.pr .str (.int .i64))))) (.int .i64)),[],F31c,none⟩
theorem ok31c:zAu Try.prog c31c:=zBe zDN [c13,c16,c29,c32] (zAU ok13 (zAU ok16 (zAU ok29 (zAU ok32 (zBf))))) c31c Try.f31 (.n .o (.n .o (.n .o (.n (.n .o (.jb ⟨[],[(6,.own 0)],[(0,.lst (.agg (.pr (.sl .str) (.int .i64))))],1,0⟩ (.l ⟨[1,17,18],[(6,.own 0),(19,.int .i64)],[(0,.lst (.agg (.pr (.sl .str) (.int .i64))))],1,1⟩ (.n .o (.n .o (.n (.jb ⟨[1,17,18,19],[(6,.own 0)],[(0,.lst (.agg (.pr (.sl .str) (.int .i64))))],1,2⟩ .o) .o)))))) .o)))) Try.func31 (by kernel_rfl) (by kernel_rfl) (by kernel_rfl) rfl (fun x=>by kernel_rfl) (fun x=>⟨by kernel_rfl,by kernel_rfl⟩)
noncomputable def F9 (x:(List (Int × (ByteArray × Int)))):(Option ((List (Int × (ByteArray × Int))) × Int)) :=
call (F31c x) fun (r0:((List (Int × (ByteArray × Int))) × Int)) =>
some (r0.1,r0.2)
noncomputable def c9:Con:=⟨9,[.sl (.agg (.pr (.int .i64) (.pr .str (.int .i64))))],[],.tup (.pr (.sl (.agg (.pr (.int .i64) (.pr .str (.int .i64))))) (.int .i64)),[],F9,none⟩
theorem ok9:zAu Try.prog c9:=zBe zDN [c31a,c31c] (zAU ok31a (zAU ok31c (zBf))) c9 Try.f9 (.o) Try.func9 (by kernel_rfl) (by kernel_rfl) (by kernel_rfl) rfl (fun x=>by kernel_rfl) (fun x=>⟨by kernel_rfl,by kernel_rfl⟩)
end Go.Fl
namespace Go.Ab
variable [Go.Ab.DM]
def planOkS (ops:Array Oper):List (OpKind × Nat) → Array Bool → Bool
 | [],L=>(Region.ready .any ops L).isEmpty
 | (.pure,i) :: r,L=>Region.free .any ops L i && (Region.ready .any ops L).contains i && planOkS ops r (L.setIfInBounds i true)
 | (.load,i) :: r,L=>Region.free .any ops L i && (Region.ready .any ops L).contains i && planOkS ops r (L.setIfInBounds i true)
 | (.keep,i) :: r,L=>false
 | (.wr,i) :: r,L=>Region.ready .any ops L == [i] && planOkS ops r (L.setIfInBounds i true)
def goodPlanS (ops:Array Oper) (plan:List (OpKind × Nat)):Bool:=planOkS ops plan (Array.replicate ops.size false) && Region.noSelect ops && plan.length == ops.size
def Sb (B:Nat) (w w':World):Prop:=∀ b,b ≠ B → w'.heap[b]? = w.heap[b]?
section
variable {P:Program} {f:FuncId} {N n0:Nat} {R:D → Heap → Prop} {K:List Item} {ops:Array Oper}
theorem load_off {t:TypeId} {H:Heap} {own X w} {a d:D} {v:Value} {q:Nat} {row:Row} (hs:Sim own H X w) (ha:Rel own H X w a v) (hq:H.get q = some row) (h:ldD P t (H.set q none) a = some d) :
   ∃ x,(∀ w':World,Sb (own q).b w w' → (Instr.loadAt t v).run P w' = .ok x w') ∧ Rel own H X w d x:=by
 unfold ldD at h
 split at h
 · rename_i tg sz htg hsz
   split at h
   · rename_i r i o
     split at h
     · rename_i k xs hg0
       have hrq:r ≠ q:=fun e=>by
         subst e
         rw [Heap.get_set H (Heap.get_lt hq),if_pos rfl] at hg0;cases hg0
       have hg:H.get r = some (.cells k xs):=by rw [Heap.get_set H (Heap.get_lt hq),if_neg hrq] at hg0;exact hg0
       cases hx:xs[i]? with
       | none=>simp [hx] at h
       | some e =>
         simp [hx] at h
         rw [Rel,VRel] at ha;obtain ⟨h1,rfl⟩:=ha
         obtain ⟨⟨rfl,c,ty,h3,h4,h5,h6⟩,h7⟩:=hs.live r _ hg
         have he:=Cells_get h6 hx
         obtain ⟨x,h8,h9⟩:=elem_load htg hsz he h
         exact ⟨x,fun w' hw'=>by simpa [Instr.loadAt,Instr.sureAddr] using h8 w' (hw' _ (hs.excl r q _ _ hg hq hrq)),h9⟩
     · simp at h
   · rename_i k xs i o
     cases hx:xs[i]? with
     | none=>simp [hx] at h
     | some e =>
       simp [hx] at h
       rw [Rel,VRel] at ha;obtain ⟨b,off,rfl,h1,h2⟩:=ha
       have he:=Cells_get h2 hx
       obtain ⟨x,h8,h9⟩:=elem_load htg hsz he h
       exact ⟨x,fun w' hw'=>by simpa [Instr.loadAt,Instr.sureAddr] using h8 w' (hw' _ (fun e=>h1.2.2 q _ hq e.symm)),VRel_zero h9⟩
   · simp at h
 · simp at h
theorem store_off {t:TypeId} {H H':Heap} {own X w} {q i o:Nat} {x:D} {v u:Value} (hs:Sim own H X w) (ha:Rel own H X w (.pt q i o) v) (hx:Rel own H X w x u) (h:stD P t H (.pt q i o) x = some H') :
   ∃ w',(Instr.storeAt t v u).run P w = .ok () w' ∧ Sim own H' X w' ∧ Ext X own H w own H' w' ∧ Sb (own q).b w w':=by
 obtain ⟨w',h1,h2,hext⟩:=store_sound (P:=P) hs ha hx h
 refine ⟨w',h1,h2,hext,?_⟩
 unfold stD at h
 split at h
 rotate_left
 · simp at h
 rename_i tg sz htg hsz
 dsimp only at h
 split at h
 rotate_left
 · simp at h
 rename_i k xs hg
 cases hxi:xs[i]? with
 | none=>simp [hxi] at h
 | some e =>
   simp only [hxi,Option.bind_some,Option.map_eq_some_iff] at h
   obtain ⟨e',hp,rfl⟩:=h
   rw [Rel,VRel] at ha;obtain ⟨_,rfl⟩:=ha
   obtain ⟨⟨rfl,c,ty,h3,h4,h5,h6⟩,h7⟩:=hs.live q _ hg
   obtain ⟨g1,g2,g3,g4⟩:=putD_cells hp
   obtain ⟨hx1,hx2⟩:=VRel_lies hx g2
   have hlen:=zAj hx1
   obtain ⟨hw,hfl⟩:=Cells_flat.1 h6
   have hek:e.cells.length = (own q).k:=by rw [← D.width_eq];exact hw e (List.mem_of_getElem? hxi)
   have hi:i < xs.length:=(List.getElem?_eq_some_iff.1 hxi).1
   have hik:i * (own q).k + (own q).k ≤ xs.length * (own q).k:=by
     have:=Nat.mul_le_mul_right (own q).k (show i + 1 ≤ xs.length from hi);rw [Nat.add_mul,Nat.one_mul] at this;exact this
   have hst:=run_storeCells_at P (own q).b ((own q).base + i * (own q).k + o) ty u.cells.toList 0 c w h3 (by rw [hlen];omega) (by simpa using hx2)
   simp only [Nat.add_zero,hlen] at hst
   have hsize:u.cells.size = sz:=by
     have:u.cells.size = x.cells.length:=by simpa using hlen
     rw [this]
     exact g1
   simp [Instr.storeAt,Instr.sureAddr,storeVar,zAm hsz,hsize,hst] at h1
   subst h1
   intro b hb
   rw [setRow_eq h3]
   simp [Ne.symm hb]
def sops (P:Program) (N q:Nat):List (OpKind × Oper) → Env → Heap → (Env → Heap → Prop) → Prop
 | [],e,H,T=>T e H
 | (.pure,o) :: r,e,H,T=>o.guard = none ∧ dstOk N o.dst ∧ zCw P .pure o e H fun d H'=>sops P N q r (updO e o.dst d) H' T
 | (.load,o) :: r,e,H,T=>o.guard = none ∧ dstOk N o.dst ∧ ∃ t a,o.op = .load t a ∧ ∃ d0 d,ldD P t (H.set q none) (ev e a) = some d0 ∧ (∀ (own:Nat → Own) (U:Nat → Prop) (w:World) (n:Nat) (v:Value),VRel own U w n d0 v → VRel own U w n d v) ∧ sops P N q r (updO e o.dst d) H T
 | (.wr,o) :: r,e,H,T=>o.guard = none ∧ dstOk N o.dst ∧ ∃ t a x,o.op = .store t a x ∧ ∃ i off,ev e a = .pt q i off ∧ ∃ H',stD P t H (.pt q i off) (ev e x) = some H' ∧ sops P N q r (updO e o.dst (.v undef)) H' T
 | (.keep,o) :: r,e,H,T=>False
theorem sdraw_sound (hsel:Region.noSelect ops = true) {own0:Nat → Own} {H0:Heap} {w0 wb:World} {X:Nat → Prop} {q:Nat} {B:Nat}:∀ (plan:List (OpKind × Nat)) (L:Array Bool) (e:Env) (H:Heap),planOkS ops plan L = true →
   sops P N q (zAo ops plan) e H (fun e' H'=>Run P f N n0 R K e' H') → ∀ own w tmps,Ext X own0 H0 w0 own H w → tmps.size = N → Sim own H X w → EnvRel own H X w tmps e → (own q).b = B → (∃ row,H.get q = some row) → Sb B wb w →
   wpAnyH P .any ops (RegQ P f N n0 R K X own0 H0 w0) (Sb B wb) plan.length L ⟨tmps,[]⟩ w
 | [],L,e,H,hp,ha,own,w,tmps,hx,hN,hs,he,hB,hrow,hS=>⟨by simpa [planOkS] using hp,own,H,e,hN,rfl,hs,he,hx,ha⟩
 | (k,i) :: r,L,e,H,hp,ha,own,w,tmps,hx,hN,hs,he,hB,hrow,hS=>by
   have hready:i ∈ Region.ready .any ops L:=by
     cases k <;> simp only [planOkS,Bool.and_eq_true] at hp
     · simpa using hp.1.2
     · simpa using hp.1.2
     · cases hp
     · have:=hp.1;rw [beq_iff_eq] at this;rw [this];simp
   obtain ⟨_,o,hi,_⟩:=mem_ready.1 hready
   have hpl:zAo ops ((k,i) :: r) = (k,o) :: zAo ops r:=by simp [zAo,hi]
   rw [hpl] at ha
   have hρ:∀ x,Rel own H X w (ev e x) ((⟨tmps,[]⟩:Act).eval x):=fun x=>he.eval x
   have next:∀ (e':Env) (own1:Nat → Own) (d:D) (H1:Heap) (v:Value) (w1:World),dstOk N o.dst → planOkS ops r (L.setIfInBounds i true) = true → e' = updO e o.dst d → Sim own1 H1 X w1 → Rel own1 H1 X w1 d v → Ext X own H w own1 H1 w1 → (own1 q).b = B → (∃ row,H1.get q = some row) → Sb B wb w1 →
       (sops P N q (zAo ops r) e' H1 fun e' H'=>Run P f N n0 R K e' H') → Sb B wb w1 ∧ wpAnyH P .any ops (RegQ P f N n0 R K X own0 H0 w0) (Sb B wb) r.length (L.setIfInBounds i true) ((⟨tmps,[]⟩:Act).put o.dst v) w1:=by
     intro e' own1 d H1 v w1 hd hp' he' h1 h2 h3 hB1 hrow1 hS1 h4
     subst he'
     have h5:=(he.ext h3).put (o:=o.dst) (by rw [hN];exact hd) h2 []
     have hsz:=put_size (tmps:=tmps) (ds:=[]) (o:=o.dst) (v:=v)
     have hdf:=put_defers (tmps:=tmps) (ds:=[]) (o:=o.dst) (v:=v)
     generalize (⟨tmps,[]⟩:Act).put o.dst v = a at *
     obtain ⟨tm,df⟩:=a
     simp at hsz hdf;subst hdf
     exact ⟨hS1,sdraw_sound hsel r _ _ H1 hp' h4 own1 w1 tm (Ext.trans hx h3) (by rw [hsz,hN]) h1 h5 hB1 hrow1 hS1⟩
   cases k with
   | pure =>
     simp only [planOkS,Bool.and_eq_true] at hp
     simp only [sops] at ha
     obtain ⟨hg,hd,ha⟩:=ha
     obtain ⟨v,d,h1,h2,h3⟩:=apure_sound hs hρ ha
     exact wpAnyH_first hi (Region.noSelect_spec hsel) (fun c a w h=>zBl h) _ _ _ _ (Region.free_spec hi hp.1.1) hready (.inl ⟨by simp [Region.wanted,hg],fun w' _=>h1 w'⟩) hS (next _ own d H v w hd hp.2 rfl hs h2 (.refl _ _ _) hB hrow hS h3).2
   | load =>
     simp only [planOkS,Bool.and_eq_true] at hp
     simp only [sops] at ha
     obtain ⟨hg,hd,t,a,ho,d0,d,hl,hle,ha⟩:=ha
     obtain ⟨row,hr⟩:=hrow
     obtain ⟨x,h3,h4⟩:=load_off (P:=P) hs (hρ a) hr hl
     refine wpAnyH_first hi (Region.noSelect_spec hsel) (fun c a w h=>zBl h) _ _ _ _ (Region.free_spec hi hp.1.1) hready (.inl ⟨by simp [Region.wanted,hg],fun w' hw'=>?_⟩) hS (next _ own d H x w hd hp.2 rfl hs (hle _ _ _ _ _ h4) (.refl _ _ _) hB ⟨row,hr⟩ hS ha).2
     have hw2:Sb (own q).b w w':=fun b hb=>by rw [hB] at hb;rw [hw' b hb,hS b hb]
     simp only [execOp,ho,Sem.run_bind,h3 w' hw2,Result.andThen_ok,Sem.run_pure]
   | keep=>simp only [planOkS] at hp;cases hp
   | wr =>
     simp only [planOkS,Bool.and_eq_true,beq_iff_eq] at hp
     simp only [sops] at ha
     obtain ⟨hg,hd,t,a,x,ho,ii,off,hea,H',hst,ha⟩:=ha
     refine ⟨fun h=>(by rw [h] at hready;cases hready),fun j hj=>?_⟩
     rw [hp.1,List.mem_singleton] at hj
     subst hj
     unfold wpOp
     simp only [hi,show Region.wanted o (yielded ops tmps) = true by simp [Region.wanted,hg],if_true]
     left
     obtain ⟨row,hr⟩:=hrow
     have hav:=hρ a
     rw [hea] at hav
     obtain ⟨w1,h1,h2,h3,h4⟩:=store_off (P:=P) hs hav (hρ x) hst
     unfold Oper.wp
     simp only [execOp,ho,Sem.run_bind,h1,Result.andThen_ok,Sem.run_pure,Oper.upon]
     have hrow1:∃ row,H'.get q = some row:=by
       unfold stD at hst
       split at hst
       rotate_left
       · simp at hst
       dsimp only at hst
       split at hst
       rotate_left
       · simp at hst
       rename_i k xs hgq
       simp only [Option.map_eq_some_iff] at hst
       obtain ⟨e',_,rfl⟩:=hst
       exact ⟨_,by rw [Heap.get_set H (Heap.get_lt hgq),if_pos rfl]⟩
     refine next _ own (.v undef) H' undef w1 hd hp.2 rfl h2 (by simp [Rel,VRel]) h3 hB hrow1 (fun b hb=>?_) ha
     rw [h4 b (by rw [hB];exact hb),hS b hb]
theorem run_sdraw {id:Nat} {l:List Oper} {e:Env} {H:Heap} (q:Nat) (plan:List (OpKind × Nat)) (hm:P.follows .mixedOrders = true) (hp:goodPlanS l.toArray plan = true) {row:Row} (hq:H.get q = some row)
   (h:sops P N q (zAo l.toArray plan) e H fun e' H'=>Run P f N n0 R K e' H'):Run P f N n0 R (.code (.region id l.toArray true) :: K) e H:=by
 intro hn own X w tmps cs hN hsim henv
 simp only [goodPlanS,Bool.and_eq_true,beq_iff_eq] at hp
 have hwh:({ w with drawn:=w.drawn + 1 }:World).heap = w.heap:=rfl
 have hany:=sdraw_sound (f:=f) (n0:=n0) (R:=R) (K:=K) (q:=q) (B:=(own q).b) (wb:={ w with drawn:=w.drawn + 1 }) hp.1.2 plan _ e H hp.1.1 h own { w with drawn:=w.drawn + 1 } tmps (zCp own H w _ hwh) hN (sim_drawn hwh hsim) (henv.ext (zCp own H w _ hwh)) rfl ⟨row,hq⟩ (fun _ _=>rfl)
 rw [hp.2] at hany
 have hwp:(Code.region id l.toArray true).wp P (RegQ P f N n0 R K X own H w) ⟨tmps,[]⟩ w:=wp_region_held hm hany
 obtain ⟨ex,a',w',hq',harr⟩:=hwp (frameOf f) K cs
 cases ex with
 | normal =>
   obtain ⟨own1,H2,e2,h1,h2,h3,h4,h5,h6⟩:=hq'
   obtain ⟨tm,df⟩:=a'
   simp at h1 h2;subst h2
   exact Fin.of_steps hn h5 harr (h6 (Nat.le_trans hn h5.hn) own1 X w' tm cs h1 h3 h4)
 | _=>exact hq'.elim
end
end Go.Ab
namespace Go.Fl
open Go Go.Ab Go.T Go.Proofs Go.Proofs.Ytbhcfbnkdbioaaa.AbT
abbrev bD (b:Bool):D:=.v (.bool b)
set_option maxHeartbeats 4000000 in
theorem q_pr (H:Heap) (rc rb:Nat) (i:Nat) (p:List Nm) (w:Int) (l:List Bool) (b:Bool) (hi:l[i]? = some b) {kk:Nat} {dc:D} (hc:H.get rc = some (.cells kk [dc])) (hagg:zBN dc = false) (hle:Tl dc (.sl rb 0 l.length)) (hb:H.get rb = some (.cells 1 (l.map bD))) :
   Sound Try.prog 38 [iD i,stD (p,w),.pt rc 0 0] H (fun d H'=>d = .tup [stD (p,w),bD b] ∧ ∃ l',H' = H ++ l'):=by
 refine zBi Try.func38 rfl (by kernel_rfl) Try.ntmps38 (by simp) ?_
 have q1:∀ X,Heap.get (H ++ [X]) H.length = X:=fun X=>by rw [g_push,if_pos rfl]
 refine zAF fun Y0 hY0=>?_
 refine zAG ?_
 try simp only [q1,↓zAK,EVq,TY,zAE,↓reduceIte,Nat.reduceLT,Nat.reduceLeDiff,Nat.reduceEqDiff,Nat.reduceAdd,Nat.reduceMul,Int.reduceLE,eq_self]
 refine zAD [0,2,4,5,6] ?_
 simp only [KQ,↓KP,↓reduceIte,Nat.reduceEqDiff]
 subst hY0
 refine zAF fun Y1 hY1=>?_
 have hpd:zBE false 1 dc 0 = some dc:=by cases dc <;> first | rfl | cases hagg
 have hlc:=Heap.get_lt hc
 have hlb:=Heap.get_lt hb
 have hil:i < l.length:=(List.getElem?_eq_some_iff.1 hi).1
 generalize hG:H ++ [some (Row.cells 2 [stD (p,w)])] ++ [some (Row.cells 2 [D.agg [D.v (Value.slice none 0 0),D.v (Value.int IntKind.i64 0)]])] = G
 have e1:List.length (H ++ [some (Row.cells 2 [stD (p,w)])]) = H.length + 1:=by simp
 rw [e1]
 have hGl:G.length = H.length + 2:=by rw [← hG];simp
 have g0:G.get H.length = some (.cells 2 [stD (p,w)]):=by rw [← hG,g_push,if_neg (by simp),g_push,if_pos rfl]
 have g1:G.get (H.length + 1) = some (.cells 2 [D.agg [D.v (Value.slice none 0 0),D.v (Value.int IntKind.i64 0)]]):=by rw [← hG,g_push,if_pos (by simp)]
 have gx:∀ x,x < H.length → G.get x = H.get x:=fun x hx=>by rw [← hG,g_push,if_neg (by simp;omega),g_push,if_neg (by omega)]
 have k0:Heap.get (List.set G (H.length + 1) none) H.length = some (.cells 2 [stD (p,w)]):=by rw [zCd (by omega),if_neg (by omega)];exact g0
 have kc:Heap.get (List.set G (H.length + 1) none) rc = some (.cells kk [dc]):=by rw [zCd (by omega),if_neg (by omega),gx rc hlc];exact hc
 have kb:Heap.get (List.set G (H.length + 1) none) rb = some (.cells 1 (l.map bD)):=by rw [zCd (by omega),if_neg (by omega),gx rb hlb];exact hb
 have kbG:Heap.get G rb = some (.cells 1 (l.map bD)):=by rw [gx rb hlb];exact hb
 have ke:(l.map bD)[i]? = some (bD b):=by rw [List.getElem?_map,hi];rfl
 refine run_sdraw (H.length + 1) [(.load,0),(.load,1),(.pure,2),(.pure,3),(.load,4),(.wr,5),(.pure,6)] mixed (by kernel_rfl) g1 ?_
 try simp only [zDE,planned_nil,o_toList,↓zAK,EVq,TY,zAE,↓reduceIte,Nat.reduceLT,Nat.reduceLeDiff,Nat.reduceEqDiff,Nat.reduceAdd,Nat.reduceMul,Int.reduceLE,eq_self]
 simp only [sops,List.nil_append,List.cons_append,List.append_eq]
 refine ⟨trivial,?_,_,_,rfl,stD (p,w),stD (p,w),?_,fun _ _ _ _ _ h=>h,?_⟩
 · (first | trivial | (simp [dstOk];done) | (unfold dstOk;decide))
 · try simp only [k0,↓zAK,EVq,TY,zAE,↓reduceIte,Nat.reduceLT,Nat.reduceLeDiff,Nat.reduceEqDiff,Nat.reduceAdd,Nat.reduceMul,Int.reduceLE,eq_self]
 refine ⟨trivial,?_,_,_,rfl,dc,.sl rb 0 l.length,?_,hle,?_⟩
 · (first | trivial | (simp [dstOk];done) | (unfold dstOk;decide))
 · try simp only [kc,↓zAK,EVq,TY,zAE,↓reduceIte,Nat.reduceLT,Nat.reduceLeDiff,Nat.reduceEqDiff,Nat.reduceAdd,Nat.reduceMul,Int.reduceLE,eq_self]
   exact hpd
 refine ⟨trivial,?_,?_⟩
 · (first | trivial | (simp [dstOk];done) | (unfold dstOk;decide))
 try simp only [kbG,↓zAK,EVq,TY,zAE,↓reduceIte,Nat.reduceLT,Nat.reduceLeDiff,Nat.reduceEqDiff,Nat.reduceAdd,Nat.reduceMul,Int.reduceLE,eq_self]
 refine zBa (by omega) ?_
 refine ⟨trivial,?_,_,_,rfl,bD b,bD b,?_,fun _ _ _ _ _ h=>h,?_⟩
 · (first | trivial | (simp [dstOk];done) | (unfold dstOk;decide))
 · have et:0 + ((i:Nat):Int).toNat = i:=by omega
   rw [show ((i:Int)).toNat = i from rfl,Nat.zero_add]
   try simp only [kb,ke,↓zAK,EVq,TY,zAE,↓reduceIte,Nat.reduceLT,Nat.reduceLeDiff,Nat.reduceEqDiff,Nat.reduceAdd,Nat.reduceMul,Int.reduceLE,eq_self]
 refine ⟨trivial,?_,_,_,_,rfl,0,0,?_,List.set G (H.length + 1) (some (.cells 2 [stD (p,w)])),?_,?_⟩
 · (first | trivial | (simp [dstOk];done) | (unfold dstOk;decide))
 · try simp only [↓zAK,EVq,TY,zAE,↓reduceIte,Nat.reduceLT,Nat.reduceLeDiff,Nat.reduceEqDiff,Nat.reduceAdd,Nat.reduceMul,Int.reduceLE,eq_self]
 · try simp only [g1,↓zAK,EVq,TY,zAE,↓reduceIte,Nat.reduceLT,Nat.reduceLeDiff,Nat.reduceEqDiff,Nat.reduceAdd,Nat.reduceMul,Int.reduceLE,eq_self]
 refine ⟨trivial,?_,?_⟩
 · (first | trivial | (simp [dstOk];done) | (unfold dstOk;decide))
 try simp only [↓zAK,EVq,TY,zAE,↓reduceIte,Nat.reduceLT,Nat.reduceLeDiff,Nat.reduceEqDiff,Nat.reduceAdd,Nat.reduceMul,Int.reduceLE,eq_self]
 refine zAD [5,6] ?_
 simp only [KQ,↓KP,↓reduceIte,Nat.reduceEqDiff]
 subst hY1
 have h5:Heap.get (List.set G (H.length + 1) (some (.cells 2 [stD (p,w)]))) (H.length + 1) = some (.cells 2 [stD (p,w)]):=by rw [zCd (by omega),if_pos rfl]
 refine zBd Try.func38 Try.results38 (by simp only [aRes,↓zAZ,↓KP,KQ,↓reduceIte,Nat.reduceEqDiff,h5,zBR,TY] <;> rfl) (Weak.refl _ _ _) ?_
 refine ⟨rfl,[some (Row.cells 2 [stD (p,w)]),some (.cells 2 [stD (p,w)])],?_⟩
 rw [← hG,List.append_assoc,List.set_append_right _ _ (by omega)]
 simp
noncomputable def F38 (x:Int × (List Nm × Int) × List Bool):Option (((List Nm × Int) × Bool) × List Bool):=if 0 ≤ x.1 ∧ x.1 < x.2.2.length then some ((x.2.1,x.2.2.getD x.1.toNat false),x.2.2) else none
noncomputable def c38:Con:=⟨38,[.int .i64,tS,.p0 0 0],[.one (.own 1),.lst .bool],.tup (.pr tS .bool),[.one (.own 1),.lst .bool],F38,none⟩
theorem ok38:zAu Try.prog c38:=fun (x:Int × (List Nm × Int) × List Bool) hx ζ num H hH _=>by
 obtain ⟨i,⟨p,w⟩,l⟩:=x
 obtain ⟨y,hy⟩:=hx
 have hy:F38 (i,(p,w),l) = some y:=hy
 have hl:0 ≤ i ∧ i < l.length:=by
   unfold F38 at hy
   split at hy
   · assumption
   · cases hy
 have hF:F38 (i,(p,w),l) = some (((p,w),l.getD i.toNat false),l):=if_pos hl
 have hne:l ≠ []:=fun e=>by rw [e] at hl;simp at hl;omega
 obtain ⟨k,rfl⟩:=Int.eq_ofNat_of_zero_le hl.1
 have hk:k < l.length:=by omega
 have h0:=hH.row 0
 have h1:=hH.row 1
 have h2:(l.map bD)[k]? = some (bD l[k]):=by simp [hk]
 obtain ⟨_,kk,dc,hg0,hagg,htl⟩:=h0
 obtain ⟨_,hg1⟩:=h1
 have hg1:=hg1 hne
 have hE:∀ rows:T.Rows,T.zAA rows 1 = .lst .bool l → enc (zAB num rows) ⟨.own 1,()⟩ = .sl (num 1) 0 l.length:=fun rows h=>by
   show ownD (num 1) (T.zAA rows 1) = _
   rw [h]
   cases l with
   | nil=>exact absurd rfl hne
   | cons a l=>rfl
 have htl:Tls dc.cells [.sl (num 1) 0 l.length]:=by rw [← hE (zBh c38 ((k:Int),(p,w),l)) rfl];exact htl
 have hdc:dc.cells = [dc]:=by cases dc <;> first | rfl | cases hagg
 rw [hdc] at htl
 have hle:Tl dc (.sl (num 1) 0 l.length):=by cases htl with | cons h _=>exact h
 have hlk:l[k]? = some l[k]:=List.getElem?_eq_getElem hk
 refine (q_pr H (num 0) (num 1) k p w l l[k] hlk hg0 hagg hle hg1).mono fun d H' h=>?_
 obtain ⟨rfl,l',rfl⟩:=h
 have hgx:∀ x row,H.get x = some row → Heap.get (H ++ l') x = some row:=fun x row hx=>by
   unfold Heap.get at hx ⊢
   have:x < H.length:=by
     rcases Nat.lt_or_ge x H.length with h | h
     · exact h
     · rw [List.getElem?_eq_none h] at hx;simp at hx
   rw [List.getElem?_append_left this];exact hx
 refine ⟨_,hF,ζ,num,⟨fun r=>?_,fun r q hr hq hne'=>?_,fun r t x hr=>?_⟩,?_,?_,fun r hr=>?_,fun r hr hl=>?_⟩
 · match r with
   | 0=>exact ⟨rfl,kk,dc,hgx _ _ hg0,hagg,by rw [hdc];exact .cons (hle.trans (Tl.of_eq (hE _ rfl).symm)) .nil⟩
   | 1=>exact ⟨rfl,fun _=>hgx _ _ hg1⟩
   | r + 2=>trivial
 · have hlt:∀ r,zAW (T.zAA (zAQ c38 (((p,w),l.getD ((k:Int)).toNat false),l)) r) = true → r < 2:=fun r h=>by
     match r with
     | 0=>omega
     | 1=>omega
     | r + 2=>cases h
   have:=hlt r hr
   have:=hlt q hq
   have h01:num 0 ≠ num 1:=hH.inj 0 1 rfl (by show zAW (.lst .bool l) = true;cases l with | nil=>exact absurd rfl hne | cons a l=>rfl) (by decide)
   match r,q with
   | 0,0=>exact absurd rfl hne'
   | 1,1=>exact absurd rfl hne'
   | 0,1=>exact h01
   | 1,0=>exact fun e=>h01 e.symm
 · match r with
   | 0=>exact hH.ok 0 t x hr
   | 1=>cases hr
   | r + 2=>cases hr
 · have hgd:l.getD ((k:Int)).toNat false = l[k]:=by
     show l.getD k false = l[k]
     rw [List.getD_eq_getElem?_getD,hlk];rfl
   rw [hgd]
   rfl
 · exact zCG _ _ rfl
 · match r with
   | 0=>exact ⟨fun _=>rfl,fun h=>absurd h (by decide)⟩
   | 1=>exact ⟨fun _=>rfl,fun h=>absurd h (by decide)⟩
   | r + 2=>cases hr
 · match r with
   | 0=>cases hl
   | 1=>rfl
   | r + 2=>exact absurd hr (by show ¬ r + 2 < 2;omega)
open Go Go.T Go.Ab Go.Proofs
noncomputable def F31b (x:((List (Int × (ByteArray × Int))) × (List Bool))):(Option (((List (Int × (ByteArray × Int))) × Int) × (List Bool))) :=
call (F13 x.1) fun (r0:Int) =>
sel (ine r0 0) (some ((([]:List (Int × (ByteArray × Int))),1),x.2)) <|
call (F16 x.1) fun (r1:(List ((List ByteArray) × Int))) =>
join (zCv (fun (s2:(Int × ((List Bool) × (List ((List ByteArray) × Int))))) =>
sel (ilt s2.1 (n2i (zAL r1))) (join (need (inL s2.1 (zAL r1)) <|
call (F38 (s2.1,zAJ (([]:List ByteArray),0) r1 (i2n s2.1),s2.2.1)) fun (r3:((((List ByteArray) × Int) × Bool) × (List Bool))) =>
sel r3.1.2 (need (room (nadd (zAL s2.2.2) (zAL (r3.1.1 :: ([]:List ((List ByteArray) × Int))))) 32) <|
some (.inl (r3.2,lcat s2.2.2 (r3.1.1 :: ([]:List ((List ByteArray) × Int)))))) <|
some (.inl (r3.2,s2.2.2))) fun (j4:((List Bool) × (List ((List ByteArray) × Int)))) =>
some (.inl (zBo .i64 s2.1 1,j4.1,j4.2))) <|
some (.inr (.inl (s2.2.1,s2.2.2)))) (0,x.2,([]:List ((List ByteArray) × Int)))) fun (j5:((List Bool) × (List ((List ByteArray) × Int)))) =>
call (F29 j5.2) fun (r6:((List (Int × (ByteArray × Int))) × Int)) =>
sel (ine r6.2 0) (some ((([]:List (Int × (ByteArray × Int))),r6.2),j5.1)) <|
some ((r6.1,0),j5.1)
noncomputable def c31b:Con:=⟨31,[.sl (.agg (.pr (.int .i64) (.pr .str (.int .i64)))),.fn 38 .unit (.p0 0 0)],[.one (.own 1),.lst .bool],.tup (.pr (.sl (.agg (.pr (.int .i64) (.pr .str (.int .i64))))) (.int .i64)),[.one (.own 1),.lst .bool],F31b,none⟩
theorem ok31b:zAu Try.prog c31b:=zBe zDN [c13,c16,c29,c38] (zAU ok13 (zAU ok16 (zAU ok29 (zAU ok38 (zBf))))) c31b Try.f31 (.n .o (.n .o (.n .o (.n (.n .o (.jb ⟨[],[(6,.own 2)],[(0,.one (.own 1)),(1,.lst .bool),(2,.lst (.agg (.pr (.sl .str) (.int .i64))))],3,0⟩ (.l ⟨[1,17,18],[(6,.own 2),(19,.int .i64)],[(0,.one (.own 1)),(1,.lst .bool),(2,.lst (.agg (.pr (.sl .str) (.int .i64))))],3,1⟩ (.n .o (.n .o (.n (.jb ⟨[1,17,18,19],[(6,.own 2)],[(0,.one (.own 1)),(1,.lst .bool),(2,.lst (.agg (.pr (.sl .str) (.int .i64))))],3,2⟩ .o) .o)))))) .o)))) Try.func31 (by kernel_rfl) (by kernel_rfl) (by kernel_rfl) rfl (fun x=>by kernel_rfl) (fun x=>⟨by kernel_rfl,by kernel_rfl⟩)
noncomputable def F14 (x:((List (Int × (ByteArray × Int))) × Int)):(Option ((List (Int × (ByteArray × Int))) × Int)) :=
call (F13 x.1) fun (r0:Int) =>
sel (ine r0 0) (some (([]:List (Int × (ByteArray × Int))),1)) <|
call (F37 x.1) fun (r1:(List Int)) =>
need (mk (n2i (zAL x.1)) (n2i (zAL x.1)) 1) <|
join (zCv (fun (s2:(Int × ((List Bool) × (List Bool)))) =>
sel (ilt s2.1 (n2i (zAL x.1))) (join (need (inL s2.1 (zAL x.1)) <|
need (inL s2.1 (zAL r1)) <|
need (impl (band (ile x.2 (zAJ 0 r1 (i2n s2.1))) (zCQ (ilt ((zAJ (0,(⟨#[]⟩:ByteArray),0) x.1 (i2n s2.1)).1) 0))) (inL ((zAJ (0,(⟨#[]⟩:ByteArray),0) x.1 (i2n s2.1)).1) (zAL s2.2.1))) <|
need (inL s2.1 (zAL s2.2.1)) <|
sel (ine (((zAJ (0,(⟨#[]⟩:ByteArray),0) x.1 (i2n s2.1)).2).2) 0) (need (inL s2.1 (zAL (lset s2.2.1 (i2n s2.1) (zAH (ile x.2 (zAJ 0 r1 (i2n s2.1))) (zAH (ilt ((zAJ (0,(⟨#[]⟩:ByteArray),0) x.1 (i2n s2.1)).1) 0) true (zAJ false s2.2.1 (i2n ((zAJ (0,(⟨#[]⟩:ByteArray),0) x.1 (i2n s2.1)).1)))) false)))) <|
need (room (nadd (zAL s2.2.2) (zAL (zAJ false (lset s2.2.1 (i2n s2.1) (zAH (ile x.2 (zAJ 0 r1 (i2n s2.1))) (zAH (ilt ((zAJ (0,(⟨#[]⟩:ByteArray),0) x.1 (i2n s2.1)).1) 0) true (zAJ false s2.2.1 (i2n ((zAJ (0,(⟨#[]⟩:ByteArray),0) x.1 (i2n s2.1)).1)))) false)) (i2n s2.1) :: ([]:List Bool)))) 1) <|
some (.inl (lset s2.2.1 (i2n s2.1) (zAH (ile x.2 (zAJ 0 r1 (i2n s2.1))) (zAH (ilt ((zAJ (0,(⟨#[]⟩:ByteArray),0) x.1 (i2n s2.1)).1) 0) true (zAJ false s2.2.1 (i2n ((zAJ (0,(⟨#[]⟩:ByteArray),0) x.1 (i2n s2.1)).1)))) false),lcat s2.2.2 (zAJ false (lset s2.2.1 (i2n s2.1) (zAH (ile x.2 (zAJ 0 r1 (i2n s2.1))) (zAH (ilt ((zAJ (0,(⟨#[]⟩:ByteArray),0) x.1 (i2n s2.1)).1) 0) true (zAJ false s2.2.1 (i2n ((zAJ (0,(⟨#[]⟩:ByteArray),0) x.1 (i2n s2.1)).1)))) false)) (i2n s2.1) :: ([]:List Bool))))) <|
some (.inl (lset s2.2.1 (i2n s2.1) (zAH (ile x.2 (zAJ 0 r1 (i2n s2.1))) (zAH (ilt ((zAJ (0,(⟨#[]⟩:ByteArray),0) x.1 (i2n s2.1)).1) 0) true (zAJ false s2.2.1 (i2n ((zAJ (0,(⟨#[]⟩:ByteArray),0) x.1 (i2n s2.1)).1)))) false),s2.2.2))) fun (j3:((List Bool) × (List Bool))) =>
some (.inl (zBo .i64 s2.1 1,j3.1,j3.2))) <|
some (.inr (.inl s2.2.2))) (0,lrep (n2i (zAL x.1)) false,([]:List Bool))) fun (j4:(List Bool)) =>
call (F31b (x.1,j4)) fun (r5:(((List (Int × (ByteArray × Int))) × Int) × (List Bool))) =>
some (r5.1.1,r5.1.2)
noncomputable def c14:Con:=⟨14,[.sl (.agg (.pr (.int .i64) (.pr .str (.int .i64)))),.int .i64],[],.tup (.pr (.sl (.agg (.pr (.int .i64) (.pr .str (.int .i64))))) (.int .i64)),[],F14,none⟩
theorem ok14:zAu Try.prog c14:=zBe zDN [c13,c37,c38,c31a,c31b,c31c] (zAU ok13 (zAU ok37 (zAU ok38 (zAU ok31a (zAU ok31b (zAU ok31c (zBf))))))) c14 Try.f14 (.n .o (.n .o (.n .o (.n .o (.n .o (.n (.n .o (.jb ⟨[0,8],[],[(0,.lst .bool),(1,.one (.own 0))],2,0⟩ (.l ⟨[0,1,6,7,8,19,20],[(21,.int .i64)],[(0,.many .bool),(1,.one (.own 2)),(2,.lst .bool)],3,1⟩ (.n .o (.n .o (.n (.jb ⟨[0,1,6,7,8,19,20,21],[],[(0,.many .bool),(1,.one (.own 2)),(2,.lst .bool)],3,2⟩ (.n .o (.n .o (.n .o (.n (.r [0,1,2,3,4,5,6,7]) .o))))) .o)))))) .o)))))) Try.func14 (by kernel_rfl) (by kernel_rfl) (by kernel_rfl) rfl (fun x=>by kernel_rfl) (fun x=>⟨by kernel_rfl,by kernel_rfl⟩)
noncomputable def F8 (x:PUnit):(Option Bool) :=
need (inS 0 1 (zAL ((⟨#[109,97,105,110]⟩:ByteArray) :: ((⟨#[114,117,110]⟩:ByteArray) :: ([]:List ByteArray))))) <|
call (F29 ((((⟨#[109,97,105,110]⟩:ByteArray) :: ((⟨#[114,117,110]⟩:ByteArray) :: ([]:List ByteArray))),2) :: ((lsub ((⟨#[109,97,105,110]⟩:ByteArray) :: ((⟨#[114,117,110]⟩:ByteArray) :: ([]:List ByteArray))) (i2n 0) (nsub (i2n 1) (i2n 0)),1) :: ((((⟨#[114,117,110]⟩:ByteArray) :: ((⟨#[109,97,105,110]⟩:ByteArray) :: ([]:List ByteArray))),4) :: ([]:List ((List ByteArray) × Int)))))) fun (r0:((List (Int × (ByteArray × Int))) × Int)) =>
call (F23 r0.1) fun (r1:(List (ByteArray × (Int × Int)))) =>
call (F9 r0.1) fun (r2:((List (Int × (ByteArray × Int))) × Int)) =>
call (F14 (r0.1,3)) fun (r3:((List (Int × (ByteArray × Int))) × Int)) =>
call (F16 r2.1) fun (r4:(List ((List ByteArray) × Int))) =>
sel (zAH (zAH (ieq r0.2 0) (ieq r2.2 0) false) (ieq r3.2 0) false) (call (sel (zAH (zAH (ieq r0.2 0) (ieq r2.2 0) false) (ieq r3.2 0) false) (F30 (r1,((⟨#[109,97,105,110]⟩:ByteArray),5,7) :: (((⟨#[114,117,110]⟩:ByteArray),2,6) :: ([]:List (ByteArray × (Int × Int)))))) <|
some false) fun (r5:Bool) =>
need (impl (zAH (zAH (zAH (zAH (ieq r0.2 0) (ieq r2.2 0) false) (ieq r3.2 0) false) r5 false) (ieq (n2i (zAL r4)) 3) false) (inL 1 (zAL r4))) <|
call (sel (zAH (zAH (zAH (zAH (ieq r0.2 0) (ieq r2.2 0) false) (ieq r3.2 0) false) r5 false) (ieq (n2i (zAL r4)) 3) false) (F20 ((zAJ (([]:List ByteArray),0) r4 (i2n 1)).1,(⟨#[109,97,105,110]⟩:ByteArray) :: ((⟨#[114,117,110]⟩:ByteArray) :: ([]:List ByteArray)))) <|
some false) fun (r6:Bool) =>
need (impl (zAH (zAH (zAH (zAH (zAH (ieq r0.2 0) (ieq r2.2 0) false) (ieq r3.2 0) false) r5 false) (ieq (n2i (zAL r4)) 3) false) r6 false) (inL 1 (zAL r4))) <|
call (sel (zAH (zAH (zAH (zAH (zAH (zAH (ieq r0.2 0) (ieq r2.2 0) false) (ieq r3.2 0) false) r5 false) (ieq (n2i (zAL r4)) 3) false) r6 false) (ieq ((zAJ (([]:List ByteArray),0) r4 (i2n 1)).2) 4) false) (F16 r3.1) <|
some ([]:List ((List ByteArray) × Int))) fun (r7:(List ((List ByteArray) × Int))) =>
some (zAH (zAH (zAH (zAH (zAH (zAH (zAH (ieq r0.2 0) (ieq r2.2 0) false) (ieq r3.2 0) false) r5 false) (ieq (n2i (zAL r4)) 3) false) r6 false) (ieq ((zAJ (([]:List ByteArray),0) r4 (i2n 1)).2) 4) false) (ieq (n2i (zAL r7)) 2) false)) <|
need (zCQ (zAH (zAH (ieq r0.2 0) (ieq r2.2 0) false) (ieq r3.2 0) false)) <|
need (impl (zAH (zAH (zAH (zAH (ieq r0.2 0) (ieq r2.2 0) false) (ieq r3.2 0) false) false false) (ieq (n2i (zAL r4)) 3) false) (inL 1 (zAL r4))) <|
call (sel (zAH (zAH (zAH (zAH (ieq r0.2 0) (ieq r2.2 0) false) (ieq r3.2 0) false) false false) (ieq (n2i (zAL r4)) 3) false) (F20 ((zAJ (([]:List ByteArray),0) r4 (i2n 1)).1,(⟨#[109,97,105,110]⟩:ByteArray) :: ((⟨#[114,117,110]⟩:ByteArray) :: ([]:List ByteArray)))) <|
some false) fun (r8:Bool) =>
need (impl (zAH (zAH (zAH (zAH (zAH (ieq r0.2 0) (ieq r2.2 0) false) (ieq r3.2 0) false) false false) (ieq (n2i (zAL r4)) 3) false) r8 false) (inL 1 (zAL r4))) <|
call (sel (zAH (zAH (zAH (zAH (zAH (zAH (ieq r0.2 0) (ieq r2.2 0) false) (ieq r3.2 0) false) false false) (ieq (n2i (zAL r4)) 3) false) r8 false) (ieq ((zAJ (([]:List ByteArray),0) r4 (i2n 1)).2) 4) false) (F16 r3.1) <|
some ([]:List ((List ByteArray) × Int))) fun (r9:(List ((List ByteArray) × Int))) =>
some (zAH (zAH (zAH (zAH (zAH (zAH (zAH (ieq r0.2 0) (ieq r2.2 0) false) (ieq r3.2 0) false) false false) (ieq (n2i (zAL r4)) 3) false) r8 false) (ieq ((zAJ (([]:List ByteArray),0) r4 (i2n 1)).2) 4) false) (ieq (n2i (zAL r9)) 2) false)
noncomputable def c8:Con:=⟨8,[],[],.bool,[],F8,none⟩
theorem ok8:zAu Try.prog c8:=zBe zDN [c29,c23,c9,c14,c16,c30,c20] (zAU ok29 (zAU ok23 (zAU ok9 (zAU ok14 (zAU ok16 (zAU ok30 (zAU ok20 (zBf)))))))) c8 Try.f8 (.o) Try.func8 (by kernel_rfl) (by kernel_rfl) (by kernel_rfl) rfl (fun x=>by kernel_rfl) (fun x=>⟨by kernel_rfl,by kernel_rfl⟩)
noncomputable def F3 (x:((List (Int × (ByteArray × Int))) × ByteArray)):(Option Bool) :=
call (F7 x.1) fun (r0:Bool) =>
sel (zCQ r0) (call (F8 ()) fun (r1:Bool) =>
some r1) <|
call (F9 x.1) fun (r2:((List (Int × (ByteArray × Int))) × Int)) =>
sel (ieq r2.2 4) (call (sel (ieq (n2i (zAL r2.1)) 0) (F8 ()) <|
some false) fun (r3:Bool) =>
some (zAH (ieq (n2i (zAL r2.1)) 0) r3 false)) <|
call (F9 r2.1) fun (r4:((List (Int × (ByteArray × Int))) × Int)) =>
call (sel (zAH (ieq r2.2 0) (ieq r4.2 0) false) (F10 (r4.1,x.1)) <|
some false) fun (r5:Bool) =>
call (sel (zAH (zAH (ieq r2.2 0) (ieq r4.2 0) false) r5 false) (F11 (r2.1,x.2)) <|
some 0) fun (r6:Int) =>
call (sel (zAH (zAH (ieq r2.2 0) (ieq r4.2 0) false) r5 false) (F11 (x.1,x.2)) <|
some 0) fun (r7:Int) =>
call (sel (zAH (zAH (zAH (ieq r2.2 0) (ieq r4.2 0) false) r5 false) (ieq r6 r7) false) (F12 r2.1) <|
some 0) fun (r8:Int) =>
call (sel (zAH (zAH (zAH (ieq r2.2 0) (ieq r4.2 0) false) r5 false) (ieq r6 r7) false) (F12 x.1) <|
some 0) fun (r9:Int) =>
call (sel (zAH (zAH (zAH (zAH (ieq r2.2 0) (ieq r4.2 0) false) r5 false) (ieq r6 r7) false) (ieq r8 r9) false) (F13 r2.1) <|
some 0) fun (r10:Int) =>
call (sel (zAH (zAH (zAH (zAH (zAH (ieq r2.2 0) (ieq r4.2 0) false) r5 false) (ieq r6 r7) false) (ieq r8 r9) false) (ieq r10 0) false) (F8 ()) <|
some false) fun (r11:Bool) =>
some (zAH (zAH (zAH (zAH (zAH (zAH (ieq r2.2 0) (ieq r4.2 0) false) r5 false) (ieq r6 r7) false) (ieq r8 r9) false) (ieq r10 0) false) r11 false)
noncomputable def c3:Con:=⟨3,[.sl (.agg (.pr (.int .i64) (.pr .str (.int .i64)))),.str],[],.bool,[],F3,none⟩
noncomputable def F5 (x:(List (Int × (ByteArray × Int)))):(Option Bool) :=
call (F7 x) fun (r0:Bool) =>
sel (zCQ r0) (call (F8 ()) fun (r1:Bool) =>
some r1) <|
call (F23 x) fun (r2:(List (ByteArray × (Int × Int)))) =>
join (zCv (fun (s3:(Int × (Int × (List ByteArray)))) =>
sel (ilt s3.2.1 (n2i (zAL r2))) (need (inL s3.2.1 (zAL r2)) <|
call (F24 (s3.2.2,(zAJ ((⟨#[]⟩:ByteArray),0,0) r2 (i2n s3.2.1)).1)) fun (r4:Bool) =>
call (sel (zCQ r4) (F11 (x,(zAJ ((⟨#[]⟩:ByteArray),0,0) r2 (i2n s3.2.1)).1)) <|
some 0) fun (r5:Int) =>
need (impl (band (zCQ (zAH r4 true (ine (((zAJ ((⟨#[]⟩:ByteArray),0,0) r2 (i2n s3.2.1)).2).2) r5))) (ilt 0 s3.2.1)) (inL (isub .i64 s3.2.1 1) (zAL r2))) <|
need (impl (band (band (zCQ (zAH r4 true (ine (((zAJ ((⟨#[]⟩:ByteArray),0,0) r2 (i2n s3.2.1)).2).2) r5))) (ilt 0 s3.2.1)) (zCQ (ilt (((zAJ ((⟨#[]⟩:ByteArray),0,0) r2 (i2n (isub .i64 s3.2.1 1))).2).2) (((zAJ ((⟨#[]⟩:ByteArray),0,0) r2 (i2n s3.2.1)).2).2)))) (inL (isub .i64 s3.2.1 1) (zAL r2))) <|
need (impl (band (band (band (zCQ (zAH r4 true (ine (((zAJ ((⟨#[]⟩:ByteArray),0,0) r2 (i2n s3.2.1)).2).2) r5))) (ilt 0 s3.2.1)) (zCQ (ilt (((zAJ ((⟨#[]⟩:ByteArray),0,0) r2 (i2n (isub .i64 s3.2.1 1))).2).2) (((zAJ ((⟨#[]⟩:ByteArray),0,0) r2 (i2n s3.2.1)).2).2)))) (ieq (((zAJ ((⟨#[]⟩:ByteArray),0,0) r2 (i2n (isub .i64 s3.2.1 1))).2).2) (((zAJ ((⟨#[]⟩:ByteArray),0,0) r2 (i2n s3.2.1)).2).2))) (inL (isub .i64 s3.2.1 1) (zAL r2))) <|
sel (zAH (zAH r4 true (ine (((zAJ ((⟨#[]⟩:ByteArray),0,0) r2 (i2n s3.2.1)).2).2) r5)) true (zAH (ilt 0 s3.2.1) (zAH (ilt (((zAJ ((⟨#[]⟩:ByteArray),0,0) r2 (i2n (isub .i64 s3.2.1 1))).2).2) (((zAJ ((⟨#[]⟩:ByteArray),0,0) r2 (i2n s3.2.1)).2).2)) true (zAH (ieq (((zAJ ((⟨#[]⟩:ByteArray),0,0) r2 (i2n (isub .i64 s3.2.1 1))).2).2) (((zAJ ((⟨#[]⟩:ByteArray),0,0) r2 (i2n s3.2.1)).2).2)) (zCQ (slt ((zAJ ((⟨#[]⟩:ByteArray),0,0) r2 (i2n (isub .i64 s3.2.1 1))).1) ((zAJ ((⟨#[]⟩:ByteArray),0,0) r2 (i2n s3.2.1)).1))) false)) false)) (some (.inr (.inr false))) <|
need (room (nadd (zAL s3.2.2) (zAL ((zAJ ((⟨#[]⟩:ByteArray),0,0) r2 (i2n s3.2.1)).1 :: ([]:List ByteArray)))) 16) <|
some (.inl (zBo .i64 s3.1 (((zAJ ((⟨#[]⟩:ByteArray),0,0) r2 (i2n s3.2.1)).2).1),zBo .i64 s3.2.1 1,lcat s3.2.2 ((zAJ ((⟨#[]⟩:ByteArray),0,0) r2 (i2n s3.2.1)).1 :: ([]:List ByteArray))))) <|
some (.inr (.inl (s3.1,s3.2.2)))) (0,0,([]:List ByteArray))) fun (j6:(Int × (List ByteArray))) =>
join (zCv (fun (s7:Int) =>
sel (ilt s7 (n2i (zAL x))) (need (inL s7 (zAL x)) <|
call (F24 (j6.2,((zAJ (0,(⟨#[]⟩:ByteArray),0) x (i2n s7)).2).1)) fun (r8:Bool) =>
sel (zCQ r8) (some (.inr (.inr false))) <|
some (.inl (zBo .i64 s7 1))) <|
some (.inr (.inl ()))) 0) fun (j9:PUnit) =>
call (F12 x) fun (r10:Int) =>
call (sel (ieq j6.1 r10) (F8 ()) <|
some false) fun (r11:Bool) =>
some (zAH (ieq j6.1 r10) r11 false)
noncomputable def c5:Con:=⟨5,[.sl (.agg (.pr (.int .i64) (.pr .str (.int .i64))))],[],.bool,[],F5,none⟩
noncomputable def F39b (x:((List ((List ByteArray) × Int)) × (PUnit × ((List ByteArray) × Int)))):(Option Int) :=
join (zCv (fun (s0:Int) =>
sel (ilt s0 (n2i (zAL x.1))) (need (inL s0 (zAL x.1)) <|
call (F19 (zAJ (([]:List ByteArray),0) x.1 (i2n s0),x.2.2)) fun (r1:Bool) =>
sel r1 (some (.inr (.inr s0))) <|
some (.inl (zBo .i64 s0 1))) <|
some (.inr (.inl ()))) 0) fun (j2:PUnit) =>
some (-1)
noncomputable def c39b:Con:=⟨39,[.sl (.agg (.pr (.sl .str) (.int .i64))),.fn 19 .unit (.fp (.agg (.pr (.sl .str) (.int .i64))) 0)],[],.int .i64,[],F39b,none⟩
theorem ok39b:zAu Try.prog c39b:=zBe zDN [c19] (zAU ok19 (zBf)) c39b Try.f39 (.n .o (.n (.n .o (.jb ⟨[],[],[],0,0⟩ (.l ⟨[0,1,7],[(8,.int .i64)],[],0,1⟩ .o))) .o)) Try.func39 (by kernel_rfl) (by kernel_rfl) (by kernel_rfl) rfl (fun x=>by kernel_rfl) (fun x=>⟨by kernel_rfl,by kernel_rfl⟩)
noncomputable def F17b (x:((List ((List ByteArray) × Int)) × (PUnit × ((List ByteArray) × Int)))):(Option Bool) :=
call (F39b (x.1,x.2)) fun (r0:Int) =>
some (ile 0 r0)
noncomputable def c17b:Con:=⟨17,[.sl (.agg (.pr (.sl .str) (.int .i64))),.fn 19 .unit (.fp (.agg (.pr (.sl .str) (.int .i64))) 0)],[],.bool,[],F17b,none⟩
theorem ok17b:zAu Try.prog c17b:=zBe zDN [c39b,c19] (zAU ok39b (zAU ok19 (zBf))) c17b Try.f17 (.o) Try.func17 (by kernel_rfl) (by kernel_rfl) (by kernel_rfl) rfl (fun x=>by kernel_rfl) (fun x=>⟨by kernel_rfl,by kernel_rfl⟩)
noncomputable def F18 (x:(((List ByteArray) × Int) × (List ((List ByteArray) × Int)))):(Option Bool) :=
call (F17b (x.2,(),x.1)) fun (r0:Bool) =>
some (zCQ r0)
noncomputable def c18:Con:=⟨18,[.agg (.pr (.sl .str) (.int .i64)),.fp (.sl (.agg (.pr (.sl .str) (.int .i64)))) 0],[],.bool,[],F18,none⟩
theorem ok18:zAu Try.prog c18:=zBe zDN [c19,c17b] (zAU ok19 (zAU ok17b (zBf))) c18 Try.f18 (.o) Try.func18 (by kernel_rfl) (by kernel_rfl) (by kernel_rfl) rfl (fun x=>by kernel_rfl) (fun x=>⟨by kernel_rfl,by kernel_rfl⟩)
noncomputable def F39a (x:((List ((List ByteArray) × Int)) × (PUnit × (List ((List ByteArray) × Int))))):(Option Int) :=
join (zCv (fun (s0:Int) =>
sel (ilt s0 (n2i (zAL x.1))) (need (inL s0 (zAL x.1)) <|
call (F18 (zAJ (([]:List ByteArray),0) x.1 (i2n s0),x.2.2)) fun (r1:Bool) =>
sel r1 (some (.inr (.inr s0))) <|
some (.inl (zBo .i64 s0 1))) <|
some (.inr (.inl ()))) 0) fun (j2:PUnit) =>
some (-1)
noncomputable def c39a:Con:=⟨39,[.sl (.agg (.pr (.sl .str) (.int .i64))),.fn 18 .unit (.fp (.sl (.agg (.pr (.sl .str) (.int .i64)))) 0)],[],.int .i64,[],F39a,none⟩
theorem ok39a:zAu Try.prog c39a:=zBe zDN [c18] (zAU ok18 (zBf)) c39a Try.f39 (.n .o (.n (.n .o (.jb ⟨[],[],[],0,0⟩ (.l ⟨[0,1,7],[(8,.int .i64)],[],0,1⟩ .o))) .o)) Try.func39 (by kernel_rfl) (by kernel_rfl) (by kernel_rfl) rfl (fun x=>by kernel_rfl) (fun x=>⟨by kernel_rfl,by kernel_rfl⟩)
noncomputable def F17a (x:((List ((List ByteArray) × Int)) × (PUnit × (List ((List ByteArray) × Int))))):(Option Bool) :=
call (F39a (x.1,x.2)) fun (r0:Int) =>
some (ile 0 r0)
noncomputable def c17a:Con:=⟨17,[.sl (.agg (.pr (.sl .str) (.int .i64))),.fn 18 .unit (.fp (.sl (.agg (.pr (.sl .str) (.int .i64)))) 0)],[],.bool,[],F17a,none⟩
theorem ok17a:zAu Try.prog c17a:=zBe zDN [c39b,c39a,c18] (zAU ok39b (zAU ok39a (zAU ok18 (zBf)))) c17a Try.f17 (.o) Try.func17 (by kernel_rfl) (by kernel_rfl) (by kernel_rfl) rfl (fun x=>by kernel_rfl) (fun x=>⟨by kernel_rfl,by kernel_rfl⟩)
noncomputable def F15 (x:((List (Int × (ByteArray × Int))) × (List (Int × (ByteArray × Int))))):(Option Bool) :=
call (F16 x.2) fun (r0:(List ((List ByteArray) × Int))) =>
call (F16 x.1) fun (r1:(List ((List ByteArray) × Int))) =>
call (F17a (r1,(),r0)) fun (r2:Bool) =>
some (zCQ r2)
noncomputable def c15:Con:=⟨15,[.sl (.agg (.pr (.int .i64) (.pr .str (.int .i64)))),.sl (.agg (.pr (.int .i64) (.pr .str (.int .i64))))],[],.bool,[],F15,none⟩
theorem ok15:zAu Try.prog c15:=zBe zDN [c16,c18,c17b,c17a] (zAU ok16 (zAU ok18 (zAU ok17b (zAU ok17a (zBf))))) c15 Try.f15 (.o) Try.func15 (by kernel_rfl) (by kernel_rfl) (by kernel_rfl) rfl (fun x=>by kernel_rfl) (fun x=>⟨by kernel_rfl,by kernel_rfl⟩)
noncomputable def F4 (x:((List (Int × (ByteArray × Int))) × (Int × Int))):(Option Bool) :=
call (F7 x.1) fun (r0:Bool) =>
sel (zCQ r0) (call (F8 ()) fun (r1:Bool) =>
some r1) <|
join (sel (ilt x.2.2 x.2.1) (some (.inl (x.2.2,x.2.1))) <|
some (.inl (x.2.1,x.2.2))) fun (j2:(Int × Int)) =>
call (F14 (x.1,j2.1)) fun (r3:((List (Int × (ByteArray × Int))) × Int)) =>
call (F14 (x.1,j2.2)) fun (r4:((List (Int × (ByteArray × Int))) × Int)) =>
call (F14 (x.1,1)) fun (r5:((List (Int × (ByteArray × Int))) × Int)) =>
sel (zAH (zAH (ine r3.2 0) true (ine r4.2 0)) true (ine r5.2 0)) (some false) <|
call (F21 x.1) fun (r6:Bool) =>
call (F15 (r3.1,x.1)) fun (r7:Bool) =>
call (sel r7 (F15 (r4.1,r3.1)) <|
some false) fun (r8:Bool) =>
call (sel (band (zAH r7 r8 false) (zCQ r6)) (F10 (r5.1,x.1)) <|
some false) fun (r9:Bool) =>
call (sel (zAH (zAH r7 r8 false) (zAH r6 true r9) false) (F8 ()) <|
some false) fun (r10:Bool) =>
some (zAH (zAH (zAH r7 r8 false) (zAH r6 true r9) false) r10 false)
noncomputable def c4:Con:=⟨4,[.sl (.agg (.pr (.int .i64) (.pr .str (.int .i64)))),.int .i64,.int .i64],[],.bool,[],F4,none⟩
theorem ok4:zAu Try.prog c4:=zBe zDN [c7,c8,c14,c21,c10,c15] (zAU ok7 (zAU ok8 (zAU ok14 (zAU ok21 (zAU ok10 (zAU ok15 (zBf))))))) c4 Try.f4 (.n .o (.n .o (.j ⟨[0],[(1,.int .i64),(2,.int .i64)],[],0,0⟩ .o .o))) Try.func4 (by kernel_rfl) (by kernel_rfl) (by kernel_rfl) rfl (fun x=>by kernel_rfl) (fun x=>⟨by kernel_rfl,by kernel_rfl⟩)
open Go Go.T Go.Pl
namespace Fo
def kid:Fo → Nm → Int × Fo
 | .nil,_=>(0,.nil)
 | .cons n s sub rest,m=>if n = m then (s,sub) else rest.kid m
end Fo
def Wx:Int × Fo → List Nm → Int
 | x,[]=>x.1
 | x,m :: q=>Wx (x.2.kid m) q
theorem Wx_nil:∀ q:List Nm,Wx (0,.nil) q = 0
 | []=>rfl
 | m :: q=>Wx_nil q
theorem slt_ne {a b:Nm} (h:slt a b = true):a ≠ b:=fun e=>slt_irr a (by rw [e] at h ⊢;exact h)
namespace Fo
theorem kid_no:∀ {F:Fo} {m:Nm},m ∉ F.heads → F.kid m = (0,.nil)
 | .nil,_,_=>rfl
 | .cons n s sub rest,m,h=>by
   rw [heads,List.mem_cons,not_or] at h
   rw [kid,if_neg fun e=>h.1 e.symm,kid_no h.2]
theorem kid_srt:∀ {F:Fo} {m:Nm},F.Srt → (F.kid m).2.Srt
 | .nil,_,_=>trivial
 | .cons n s sub rest,m,h=>by
   rw [kid];split
   · exact h.2.1
   · exact kid_srt h.2.2
theorem not_head {n:Nm} {F:Fo} (h:∀ m ∈ F.heads,slt n m = true):n ∉ F.heads:=fun hn=>slt_irr n (h n hn)
theorem kid_at {n:Nm} {g:Int × Fo → Int × Fo}:∀ {F:Fo} {m:Nm},F.Srt → (F.at' n g).kid m = if m = n then g (F.kid n) else F.kid m
 | .nil,m,_=>by
   simp only [at',kid]
   by_cases h:n = m
   · rw [if_pos h,if_pos h.symm]
   · rw [if_neg h,if_neg (Ne.symm h)]
 | .cons k s sub rest,m,hF=>by
   obtain ⟨h1,h2,h3⟩:=hF
   rw [at']
   by_cases c1:slt n k = true
   · rw [if_pos c1]
     have hk:k ≠ n:=(slt_ne c1).symm
     have hn:n ∉ rest.heads:=fun hn=>slt_asymm c1 (h1 n hn)
     have e:(Fo.cons k s sub rest).kid n = (0,.nil):=by rw [kid,if_neg hk,kid_no hn]
     rw [e]
     by_cases hm:m = n
     · subst hm;rw [if_pos rfl,kid,if_pos rfl]
     · rw [if_neg hm,kid,if_neg (Ne.symm hm)]
   rw [if_neg c1]
   by_cases c2:k = n
   · subst c2
     rw [if_pos rfl]
     simp only [kid]
     by_cases hm:m = k
     · subst hm;simp
     · rw [if_neg (Ne.symm hm),if_neg hm,if_neg (Ne.symm hm)]
   · rw [if_neg c2]
     simp only [kid]
     rw [if_neg c2,kid_at h3]
     by_cases hm:k = m
     · subst hm;rw [if_pos rfl,if_neg c2,if_pos rfl]
     · rw [if_neg hm,if_neg hm]
end Fo
theorem W_ins (w:Int):∀ (p:List Nm) (x:Int × Fo) (q:List Nm),x.2.Srt → Wx (insN x p w) q = Wx x q + if q = p then w else 0
 | [],x,[],_=>by simp [insN,Wx]
 | [],x,m :: q,_=>by simp [insN,Wx]
 | n :: p,x,[],_=>by simp [insN,Wx]
 | n :: p,x,m :: q,h=>by
   show Wx ((x.2.at' n fun y=>insN y p w).kid m) q = Wx (x.2.kid m) q + _
   rw [Fo.kid_at h]
   by_cases hm:m = n
   · subst hm
     rw [if_pos rfl,W_ins w p _ q (Fo.kid_srt h)]
     simp
   · rw [if_neg hm]
     simp [hm]
def sumAt (l:List Sk) (q:List Nm):Int:=((l.filter fun x=>decide (x.1 = q)).map (·.2)).sum
theorem sumAt_nil (q:List Nm):sumAt [] q = 0:=rfl
theorem sumAt_cons (x:Sk) (l:List Sk) (q:List Nm):sumAt (x :: l) q = (if x.1 = q then x.2 else 0) + sumAt l q:=by
 unfold sumAt
 by_cases h:x.1 = q
 · rw [List.filter_cons_of_pos (by simpa using h),if_pos h];simp
 · rw [List.filter_cons_of_neg (by simpa using h),if_neg h];simp
theorem sumAt_app (l l':List Sk) (q:List Nm):sumAt (l ++ l') q = sumAt l q + sumAt l' q:=by
 unfold sumAt;rw [List.filter_append,List.map_append,List.sum_append]
theorem sumAt_none {l:List Sk} {q:List Nm} (h:∀ x ∈ l,x.1 ≠ q):sumAt l q = 0:=by
 induction l with
 | nil=>rfl
 | cons x l ih =>
   rw [sumAt_cons,if_neg (h x List.mem_cons_self),ih fun y hy=>h y (List.mem_cons_of_mem _ hy)];simp
theorem jn_srt (l:List Sk):∀ x:Int × Fo,x.2.Srt → (jnGo x l).2.Srt:=by
 induction l with
 | nil=>exact fun x h=>h
 | cons y l ih=>exact fun x h=>ih _ (srt_ins y.2 y.1 x h)
theorem jn_W (l:List Sk):∀ (x:Int × Fo) (q:List Nm),x.2.Srt → Wx (jnGo x l) q = Wx x q + sumAt l q:=by
 induction l with
 | nil=>intro x q _;simp [jnGo,sumAt]
 | cons y l ih =>
   intro x q h
   rw [jnGo,ih _ _ (srt_ins y.2 y.1 x h),W_ins _ _ _ _ h,sumAt_cons]
   by_cases e:q = y.1
   · rw [if_pos e,if_pos e.symm];omega
   · rw [if_neg e,if_neg (Ne.symm e)];omega
namespace Fo
theorem stk_path:∀ {F:Fo} {p:List Nm} {x:Sk},x ∈ F.stk p → ∃ m q,x.1 = p ++ m :: q ∧ m ∈ F.heads ∧ x.2 ≠ 0
 | .nil,p,x,h=>by cases h
 | .cons n s sub rest,p,x,h=>by
   rw [stk,List.mem_append,List.mem_append] at h
   rcases h with h | h | h
   · split at h
     · rw [List.mem_singleton] at h
       subst h
       exact ⟨n,[],rfl,List.mem_cons_self,by assumption⟩
     · cases h
   · obtain ⟨m,q,h1,h2,h3⟩:=stk_path h
     exact ⟨n,m :: q,by rw [h1];simp,List.mem_cons_self,h3⟩
   · obtain ⟨m,q,h1,h2,h3⟩:=stk_path h
     exact ⟨m,q,h1,List.mem_cons_of_mem _ h2,h3⟩
theorem stk_W:∀ {F:Fo} (p:List Nm) (m:Nm) (q:List Nm),F.Srt → sumAt (F.stk p) (p ++ m :: q) = Wx (0,F) (m :: q)
 | .nil,p,m,q,_=>(Wx_nil q).symm
 | .cons n s sub rest,p,m,q,h=>by
   obtain ⟨h1,h2,h3⟩:=h
   rw [stk,sumAt_app,sumAt_app]
   show _ = Wx ((Fo.cons n s sub rest).kid m) q
   rw [kid]
   by_cases hm:n = m
   · subst hm
     rw [if_pos rfl]
     have hr:sumAt (rest.stk p) (p ++ n :: q) = 0:=sumAt_none fun x hx=>by
       obtain ⟨m,q',e1,e2,_⟩:=stk_path hx
       intro e
       rw [e1] at e
       have:=List.append_cancel_left e
       simp only [List.cons.injEq] at this
       exact slt_irr n (by have:=this.1;subst this;exact h1 _ e2)
     rw [hr]
     have hs:sumAt (if s ≠ 0 then [(p ++ [n],s)] else []) (p ++ n :: q) = if q = [] then s else 0:=by
       by_cases hs:s ≠ 0
       · rw [if_pos hs,sumAt_cons,sumAt_nil]
         by_cases hq:q = []
         · subst hq;simp
         · have:p ++ [n] ≠ p ++ n :: q:=fun e=>by
             have:=List.append_cancel_left e
             simp only [List.cons.injEq,true_and] at this
             exact hq this.symm
           rw [if_neg this,if_neg hq];rfl
       · have:s = 0:=by simpa using hs
         subst this
         rw [if_neg (by simp),sumAt_nil]
         split <;> rfl
     rw [hs]
     cases q with
     | nil =>
       have:sumAt (sub.stk (p ++ [n])) (p ++ [n]) = 0:=sumAt_none fun x hx=>by
         obtain ⟨m,q',e1,_⟩:=stk_path hx
         intro e
         rw [e1] at e
         have:=congrArg List.length e
         simp at this
       rw [this]
       simp [Wx]
     | cons a q =>
       have:=stk_W (F:=sub) (p ++ [n]) a q h2
       rw [List.append_assoc] at this
       simp only [List.singleton_append] at this
       rw [this]
       simp [Wx]
   · rw [if_neg hm]
     have hr:=stk_W p m q h3
     rw [hr]
     show _ = Wx (rest.kid m) q
     have hs:sumAt (if s ≠ 0 then [(p ++ [n],s)] else []) (p ++ m :: q) = 0:=sumAt_none fun x hx=>by
       split at hx
       · rw [List.mem_singleton] at hx
         subst hx
         intro e
         have:=List.append_cancel_left e
         simp only [List.cons.injEq] at this
         exact hm this.1
       · cases hx
     have hsub:sumAt (sub.stk (p ++ [n])) (p ++ m :: q) = 0:=sumAt_none fun x hx=>by
       obtain ⟨m',q',e1,_⟩:=stk_path hx
       intro e
       rw [e1,List.append_assoc] at e
       have:=List.append_cancel_left e
       simp only [List.singleton_append,List.cons.injEq] at this
       exact hm this.1
     rw [hs,hsub]
     show 0 + (0 + Wx (rest.kid m) q) = _
     omega
theorem stk_sum {F:Fo} (q:List Nm) (h:F.Srt):sumAt (F.stk []) q = if q = [] then 0 else Wx (0,F) q:=by
 cases q with
 | nil =>
   rw [if_pos rfl]
   exact sumAt_none fun x hx=>by
     obtain ⟨m,q',e1,_⟩:=stk_path hx
     rw [e1];simp
 | cons m q=>rw [if_neg (by simp)];exact stk_W [] m q h
instance:(F:Fo) → Decidable (F = .nil)
 | .nil=>.isTrue rfl
 | .cons _ _ _ _=>.isFalse (by simp)
def prune:Fo → Fo
 | .nil=>.nil
 | .cons n s sub rest=>if s = 0 ∧ sub.prune = .nil then rest.prune else .cons n s sub.prune rest.prune
theorem prune_heads:∀ {F:Fo} {m:Nm},m ∈ F.prune.heads → m ∈ F.heads
 | .nil,m,h=>h
 | .cons n s sub rest,m,h=>by
   rw [prune] at h
   split at h
   · exact List.mem_cons_of_mem _ (prune_heads h)
   · rw [heads,List.mem_cons] at h
     rcases h with rfl | h
     · exact List.mem_cons_self
     · exact List.mem_cons_of_mem _ (prune_heads h)
theorem prune_srt:∀ {F:Fo},F.Srt → F.prune.Srt
 | .nil,_=>trivial
 | .cons n s sub rest,h=>by
   rw [prune]
   split
   · exact prune_srt h.2.2
   · exact ⟨fun m hm=>h.1 m (prune_heads hm),prune_srt h.2.1,prune_srt h.2.2⟩
theorem prune_kid:∀ {F:Fo} {m:Nm},F.Srt → F.prune.kid m = ((F.kid m).1,(F.kid m).2.prune)
 | .nil,m,_=>rfl
 | .cons n s sub rest,m,h=>by
   rw [prune,kid]
   split
   · rename_i c
     rw [prune_kid h.2.2]
     by_cases hm:n = m
     · subst hm
       rw [if_pos rfl,kid_no (not_head h.1)]
       simp only [prune];rw [c.1,c.2]
     · rw [if_neg hm]
   · rw [kid,prune_kid h.2.2]
     by_cases hm:n = m
     · rw [if_pos hm,if_pos hm]
     · rw [if_neg hm,if_neg hm]
end Fo
theorem prune_W:∀ (q:List Nm) (x:Int × Fo),x.2.Srt → Wx (x.1,x.2.prune) q = Wx x q
 | [],x,_=>rfl
 | m :: q,x,h=>by
   show Wx (x.2.prune.kid m) q = Wx (x.2.kid m) q
   rw [Fo.prune_kid h]
   exact prune_W q _ (Fo.kid_srt h)
namespace Fo
def Pr:Fo → Prop
 | .nil=>True
 | .cons n s sub rest=>(s = 0 → sub ≠ .nil) ∧ sub.Pr ∧ rest.Pr
theorem prune_pr:∀ F:Fo,F.prune.Pr
 | .nil=>trivial
 | .cons n s sub rest=>by
   rw [prune]
   split
   · exact prune_pr rest
   · rename_i h
     exact ⟨fun h0 hn=>h ⟨h0,hn⟩,prune_pr sub,prune_pr rest⟩
theorem prune_len:∀ F:Fo,F.prune.len ≤ F.len
 | .nil=>Nat.le_refl _
 | .cons n s sub rest=>by
   have h1:=prune_len sub;have h2:=prune_len rest
   rw [prune];split
   · rw [len];omega
   · rw [len,len];omega
theorem enc_nil {F:Fo} {par:Int} {pl:Nat}:F.enc par pl = [] ↔ F = .nil:=by
 cases F with
 | nil=>simp [enc]
 | cons n s sub rest=>simp [enc]
theorem vis_prune:∀ (F:Fo) (par:Int) (pl:Nat),F.vis par pl = F.prune.enc par pl
 | .nil,_,_=>rfl
 | .cons n s sub rest,par,pl=>by
   rw [vis,prune,vis_prune sub,vis_prune rest]
   by_cases h:s = 0 ∧ sub.prune = .nil
   · rw [if_pos h,if_pos (by rw [enc_nil];exact h)]
     simp
   · rw [if_neg h,if_neg (by rw [enc_nil];exact h),enc]
     have e:pl + ((par,n,s) :: sub.prune.enc (↑pl) (pl + 1)).length = pl + 1 + sub.prune.len:=by rw [List.length_cons,enc_len];omega
     rw [e];rfl
theorem pr_live:∀ {F:Fo},F.Srt → F.Pr → ∀ n ∈ F.heads,∃ q,Wx (0,F) (n :: q) ≠ 0
 | .nil,_,_,n,hn=>by cases hn
 | .cons k s sub rest,h,hp,n,hn=>by
   have key:∃ q,Wx (s,sub) q ≠ 0:=by
     by_cases hs:s = 0
     · have hsub:=hp.1 hs
       cases hsb:sub with
       | nil=>exact absurd hsb hsub
       | cons a b c d =>
         have:=pr_live h.2.1 hp.2.1 a (by rw [hsb];exact List.mem_cons_self)
         obtain ⟨q,hq⟩:=this
         rw [hsb] at hq
         exact ⟨a :: q,hq⟩
     · exact ⟨[],hs⟩
   rw [heads,List.mem_cons] at hn
   by_cases hnk:k = n
   · subst hnk
     obtain ⟨q,hq⟩:=key
     exact ⟨q,by show Wx ((Fo.cons k s sub rest).kid k) q ≠ 0;rw [kid,if_pos rfl];exact hq⟩
   · obtain ⟨q,hq⟩:=pr_live h.2.2 hp.2.2 n (hn.resolve_left (Ne.symm hnk))
     exact ⟨q,by show Wx ((Fo.cons k s sub rest).kid n) q ≠ 0;rw [kid,if_neg hnk];exact hq⟩
theorem uniq:∀ {F G:Fo},F.Srt → G.Srt → F.Pr → G.Pr → (∀ q,Wx (0,F) q = Wx (0,G) q) → F = G
 | .nil,.nil,_,_,_,_,_=>rfl
 | .nil,.cons n s sub rest,_,hG,_,pG,h=>by
   obtain ⟨q,hq⟩:=pr_live hG pG n List.mem_cons_self
   exact absurd ((h _).symm.trans (Wx_nil _)) hq
 | .cons n s sub rest,.nil,hF,_,pF,_,h=>by
   obtain ⟨q,hq⟩:=pr_live hF pF n List.mem_cons_self
   exact absurd ((h _).trans (Wx_nil _)) hq
 | .cons n s sub rest,.cons m t sub' rest',hF,hG,pF,pG,h=>by
   have no:∀ {a b:Nm} {G:Fo},slt a b = true → (∀ c ∈ G.heads,slt b c = true) → a ∉ G.heads:=fun h1 h2 h3=>slt_asymm h1 (h2 _ h3)
   have hnm:n = m:=by
     rcases slt_tri n m with c | c | c
     · obtain ⟨q,hq⟩:=pr_live hF pF n List.mem_cons_self
       refine absurd ((h _).trans ?_) hq
       show Wx ((Fo.cons m t sub' rest').kid n) q = 0
       rw [kid,if_neg (slt_ne c).symm,kid_no (no c hG.1)];exact Wx_nil q
     · exact c
     · obtain ⟨q,hq⟩:=pr_live hG pG m List.mem_cons_self
       refine absurd ((h _).symm.trans ?_) hq
       show Wx ((Fo.cons n s sub rest).kid m) q = 0
       rw [kid,if_neg (slt_ne c).symm,kid_no (no c hF.1)];exact Wx_nil q
   subst hnm
   have hk:∀ q,Wx (s,sub) q = Wx (t,sub') q:=fun q=>by
     have:=h (n :: q)
     simp only [Wx,kid,if_true] at this
     exact this
   have hs:s = t:=hk []
   subst hs
   have e1:sub = sub':=uniq hF.2.1 hG.2.1 pF.2.1 pG.2.1 fun q=>by
     cases q with
     | nil=>rfl
     | cons a q=>exact hk (a :: q)
   have e2:rest = rest':=uniq hF.2.2 hG.2.2 pF.2.2 pG.2.2 fun q=>by
     cases q with
     | nil=>rfl
     | cons a q =>
       by_cases ha:n = a
       · subst ha
         show Wx (rest.kid n) q = Wx (rest'.kid n) q
         rw [kid_no (not_head hF.1),kid_no (not_head hG.1)]
       · have:=h (a :: q)
         simp only [Wx,kid,if_neg ha] at this
         exact this
   rw [e1,e2]
def keep (P:List Nm → Bool):Fo → List Nm → Fo
 | .nil,_=>.nil
 | .cons n s sub rest,p=>.cons n (if P (p ++ [n]) = true then s else 0) (sub.keep P (p ++ [n])) (rest.keep P p)
theorem keep_heads (P:List Nm → Bool):∀ (F:Fo) (p:List Nm),(F.keep P p).heads = F.heads
 | .nil,_=>rfl
 | .cons n s sub rest,p=>by rw [keep,heads,heads,keep_heads P rest]
theorem keep_len (P:List Nm → Bool):∀ (F:Fo) (p:List Nm),(F.keep P p).len = F.len
 | .nil,_=>rfl
 | .cons n s sub rest,p=>by rw [keep,len,len,keep_len P rest,keep_len P sub]
theorem keep_srt (P:List Nm → Bool):∀ {F:Fo} (p:List Nm),F.Srt → (F.keep P p).Srt
 | .nil,_,_=>trivial
 | .cons n s sub rest,p,h=>⟨by rw [keep_heads];exact h.1,keep_srt P _ h.2.1,keep_srt P _ h.2.2⟩
theorem keep_kid (P:List Nm → Bool):∀ (F:Fo) (p:List Nm) (m:Nm),(F.keep P p).kid m = (if P (p ++ [m]) = true then (F.kid m).1 else 0,(F.kid m).2.keep P (p ++ [m]))
 | .nil,p,m=>by simp [keep,kid]
 | .cons n s sub rest,p,m=>by
   rw [keep,kid,kid]
   by_cases hm:n = m
   · subst hm;rw [if_pos rfl,if_pos rfl]
   · rw [if_neg hm,if_neg hm,keep_kid P rest]
end Fo
theorem keep_W (P:List Nm → Bool):∀ (q:List Nm) (s:Int) (F:Fo) (p:List Nm),Wx (if P p = true then s else 0,F.keep P p) q = if P (p ++ q) = true then Wx (s,F) q else 0
 | [],s,F,p=>by rw [List.append_nil];rfl
 | m :: q,s,F,p=>by
   show Wx ((F.keep P p).kid m) q = if _ then Wx (F.kid m) q else 0
   rw [Fo.keep_kid,keep_W P q,List.append_assoc];rfl
theorem keep_W0 (P:List Nm → Bool) (F:Fo) (q:List Nm):Wx (0,F.keep P []) q = if P q = true then Wx (0,F) q else 0:=by
 have:=keep_W P q 0 F []
 rw [show (if P [] = true then (0:Int) else 0) = 0 by split <;> rfl] at this
 simpa using this
namespace Fo
def Nd:Fo → Nat → Prop
 | .nil,_=>True
 | .cons n s sub rest,d=>(1 ≤ n.size ∧ n.size ≤ 60) ∧ d < 64 ∧ sub.Nd (d + 1) ∧ rest.Nd d
theorem good_of:∀ {F:Fo} {d:Nat},F.Srt → F.Pr → F.Nd d → F.okW = true → F.Good d
 | .nil,_,_,_,_,_=>trivial
 | .cons n s sub rest,d,h1,h2,h3,h4=>by
   rw [okW,Bool.and_eq_true,Bool.and_eq_true] at h4
   exact ⟨⟨h3.1.1,h3.1.2,of_decide_eq_true h4.1⟩,h2.1,h3.2.1,h1.1,good_of h1.2.1 h2.2.1 h3.2.2.1 h4.2.1,good_of h1.2.2 h2.2.2 h3.2.2.2 h4.2.2⟩
theorem Good.srt:∀ {F:Fo} {d:Nat},F.Good d → F.Srt
 | .nil,_,_=>trivial
 | .cons n s sub rest,d,⟨h1,h2,h3,h4,h5,h6⟩=>⟨h4,h5.srt,h6.srt⟩
theorem Good.pr:∀ {F:Fo} {d:Nat},F.Good d → F.Pr
 | .nil,_,_=>trivial
 | .cons n s sub rest,d,⟨h1,h2,h3,h4,h5,h6⟩=>⟨h2,h5.pr,h6.pr⟩
theorem Good.nd:∀ {F:Fo} {d:Nat},F.Good d → F.Nd d
 | .nil,_,_=>trivial
 | .cons n s sub rest,d,⟨h1,h2,h3,h4,h5,h6⟩=>⟨⟨h1.1,h1.2.1⟩,h3,h5.nd,h6.nd⟩
theorem Good.w:∀ {F:Fo} {d:Nat},F.Good d → F.okW = true
 | .nil,_,_=>rfl
 | .cons n s sub rest,d,⟨h1,h2,h3,h4,h5,h6⟩=>by rw [okW,Bool.and_eq_true,Bool.and_eq_true];exact ⟨decide_eq_true h1.2.2,h5.w,h6.w⟩
theorem prune_nd:∀ {F:Fo} {d:Nat},F.Nd d → F.prune.Nd d
 | .nil,_,_=>trivial
 | .cons n s sub rest,d,h=>by
   rw [prune];split
   · exact prune_nd h.2.2.2
   · exact ⟨h.1,h.2.1,prune_nd h.2.2.1,prune_nd h.2.2.2⟩
theorem prune_w:∀ {F:Fo},F.okW = true → F.prune.okW = true
 | .nil,_=>rfl
 | .cons n s sub rest,h=>by
   rw [okW,Bool.and_eq_true,Bool.and_eq_true] at h
   rw [prune];split
   · exact prune_w h.2.2
   · rw [okW,h.1,prune_w h.2.1,prune_w h.2.2];rfl
theorem w_of:∀ {F:Fo},F.Srt → (∀ q,wOk (Wx (0,F) q) = true) → F.okW = true
 | .nil,_,_=>rfl
 | .cons n s sub rest,h,hw=>by
   have hk:∀ q,wOk (Wx (s,sub) q) = true:=fun q=>by
     have:=hw (n :: q)
     simp only [Wx,kid,if_true] at this
     exact this
   have h0:wOk 0 = true:=rfl
   rw [okW,show wOk s = true from hk [],w_of h.2.1 (fun q=>?_),w_of h.2.2 (fun q=>?_)]
   · rfl
   rotate_left
   · cases q with
     | nil=>exact h0
     | cons a q=>exact hk (a :: q)
   · cases q with
     | nil=>exact h0
     | cons a q =>
       by_cases ha:n = a
       · subst ha
         show wOk (Wx (rest.kid n) q) = true
         rw [kid_no (not_head h.1),Wx_nil];exact h0
       · have:=hw (a :: q)
         simp only [Wx,kid,if_neg ha] at this
         exact this
theorem nd_at {n:Nm} {g:Int × Fo → Int × Fo} (hn:1 ≤ n.size ∧ n.size ≤ 60) {d:Nat} (hd:d < 64) (hg:∀ x,x.2.Nd (d + 1) → (g x).2.Nd (d + 1)):∀ {F:Fo},F.Nd d → (F.at' n g).Nd d
 | .nil,_=>⟨hn,hd,hg _ trivial,trivial⟩
 | .cons k s sub rest,h=>by
   rw [at'];split
   · exact ⟨hn,hd,hg _ trivial,h⟩
   split
   · exact ⟨h.1,h.2.1,hg _ h.2.2.1,h.2.2.2⟩
   · exact ⟨h.1,h.2.1,h.2.2.1,nd_at hn hd hg h.2.2.2⟩
end Fo
theorem nd_ins (w:Int):∀ (p:List Nm) (d:Nat) (x:Int × Fo),(∀ n ∈ p,1 ≤ n.size ∧ n.size ≤ 60) → p.length + d ≤ 64 → x.2.Nd d → (insN x p w).2.Nd d
 | [],_,x,_,_,h=>h
 | n :: p,d,x,hp,hl,h=>Fo.nd_at (hp n List.mem_cons_self) (by rw [List.length_cons] at hl;omega) (fun y hy=>nd_ins w p (d + 1) y (fun m hm=>hp m (List.mem_cons_of_mem _ hm)) (by rw [List.length_cons] at hl;omega) hy) h
theorem jn_nd (l:List Sk) (h:∀ y ∈ l,y.1.length ≤ 64 ∧ ∀ n ∈ y.1,1 ≤ n.size ∧ n.size ≤ 60):∀ x:Int × Fo,x.2.Nd 0 → (jnGo x l).2.Nd 0:=by
 induction l with
 | nil=>exact fun x h=>h
 | cons y l ih=>exact fun x hx=>ih (fun z hz=>h z (List.mem_cons_of_mem _ hz)) _ (nd_ins y.2 y.1 0 x (h y List.mem_cons_self).2 (h y List.mem_cons_self).1 hx)
theorem stk_fine:∀ {F:Fo} {p:List Nm},F.Good p.length → (∀ n ∈ p,1 ≤ n.size ∧ n.size ≤ 60) → ∀ x ∈ F.stk p,x.1.length ≤ 64 ∧ (∀ n ∈ x.1,1 ≤ n.size ∧ n.size ≤ 60) ∧ wOk x.2 = true ∧ x.1 ≠ []
 | .nil,p,_,_,x,hx=>by cases hx
 | .cons n s sub rest,p,⟨h1,h2,h3,h4,h5,h6⟩,hp,x,hx=>by
   have hp':∀ m ∈ p ++ [n],1 ≤ m.size ∧ m.size ≤ 60:=fun m hm=>by
     rcases List.mem_append.1 hm with hm | hm
     · exact hp m hm
     · rw [List.mem_singleton] at hm;subst hm;exact ⟨h1.1,h1.2.1⟩
   rw [Fo.stk,List.mem_append,List.mem_append] at hx
   rcases hx with hx | hx | hx
   · split at hx
     · rw [List.mem_singleton] at hx;subst hx
       exact ⟨by simp;omega,hp',decide_eq_true h1.2.2,by simp⟩
     · cases hx
   · exact stk_fine (p:=p ++ [n]) (by simpa using h5) hp' x hx
   · exact stk_fine h6 hp x hx
theorem chk_fine {x:Sk} (h:x.1.length ≤ 64 ∧ (∀ n ∈ x.1,1 ≤ n.size ∧ n.size ≤ 60) ∧ wOk x.2 = true ∧ x.1 ≠ []):chk x = 0:=by
 unfold chk
 have h0:x.1.length ≠ 0:=fun e=>h.2.2.2 (List.length_eq_zero_iff.1 e)
 rw [if_neg h0,if_neg (by omega),if_neg,if_pos h.2.2.1]
 intro hb
 obtain ⟨n,hn,hb⟩:=List.any_eq_true.1 hb
 have:=h.2.1 n hn
 unfold nmOk at hb
 rw [Bool.not_eq_true',decide_eq_false_iff_not] at hb
 exact hb this
theorem of_jn:∀ (l:List Sk) (x:Int × Fo),(∀ y ∈ l,y.1.length ≤ 64 ∧ (∀ n ∈ y.1,1 ≤ n.size ∧ n.size ≤ 60) ∧ wOk y.2 = true ∧ y.1 ≠ []) → ofGo x l = flR (jnGo x l).2
 | [],x,_=>rfl
 | y :: l,x,h=>by
   rw [ofGo,if_neg (by rw [chk_fine (h y List.mem_cons_self)];simp),of_jn l _ fun z hz=>h z (List.mem_cons_of_mem _ hz)];rfl
theorem flR_of {F G:Fo} (hF:F.Srt) (hG:G.Srt) (hW:∀ q,Wx (0,F) q = Wx (0,G) q) (hw:G.okW = true) (hl:G.len ≤ 2000):flR F = (G.prune.enc (-1) 0,0):=by
 have e:F.prune = G.prune:=Fo.uniq (Fo.prune_srt hF) (Fo.prune_srt hG) (Fo.prune_pr F) (Fo.prune_pr G) fun q=>by
   rw [show Wx (0,F.prune) q = Wx (0,F) q from prune_W q (0,F) hF,show Wx (0,G.prune) q = Wx (0,G) q from prune_W q (0,G) hG,hW]
 have hW2:∀ {F:Fo},F.okW = true → ∀ q,wOk (Wx (0,F) q) = true:=by
   have key:∀ (q:List Nm) (s:Int) (F:Fo),wOk s = true → F.okW = true → wOk (Wx (s,F) q) = true:=by
     have kk:∀ (F:Fo) (m:Nm),F.okW = true → wOk (F.kid m).1 = true ∧ (F.kid m).2.okW = true:=by
       intro F m
       induction F with
       | nil=>exact fun _=>⟨rfl,rfl⟩
       | cons n s sub rest ih1 ih2 =>
         intro h
         rw [Fo.okW,Bool.and_eq_true,Bool.and_eq_true] at h
         rw [Fo.kid];split
         · exact ⟨h.1,h.2.1⟩
         · exact ih2 h.2.2
     intro q
     induction q with
     | nil=>exact fun s F h _=>h
     | cons m q ih=>exact fun s F _ hF=>ih _ _ (kk F m hF).1 (kk F m hF).2
   exact @fun F hF q=>key q 0 F rfl hF
 have hwF:F.okW = true:=Fo.w_of hF fun q=>by rw [hW];exact hW2 hw q
 unfold flR
 have hlen:(F.vis (-1) 0).length ≤ 2000:=by
   rw [Fo.vis_prune,Fo.enc_len,e]
   exact Nat.le_trans (Fo.prune_len G) hl
 rw [if_pos hwF,if_neg (by omega),Fo.vis_prune,e]
theorem prune_good {F:Fo} (h1:F.Srt) (h3:F.Nd 0) (h4:F.okW = true):F.prune.Good 0:=Fo.good_of (Fo.prune_srt h1) (Fo.prune_pr F) (Fo.prune_nd h3) (Fo.prune_w h4)
open Go Go.T Go.Pl
theorem fl_pos {c:List Nm → Bool} {x:Sk} {l:List Sk} (h:c x.1 = true):(x :: l).filter (fun y=>c y.1) = x :: l.filter (fun y=>c y.1):=List.filter_cons_of_pos (p:=fun y:Sk=>c y.1) h
theorem fl_neg {c:List Nm → Bool} {x:Sk} {l:List Sk} (h:¬ c x.1 = true):(x :: l).filter (fun y=>c y.1) = l.filter (fun y=>c y.1):=List.filter_cons_of_neg (p:=fun y:Sk=>c y.1) h
theorem sumAt_keep (P:List Nm → Bool) (l:List Sk) (q:List Nm):sumAt (l.filter fun x=>P x.1) q = if P q = true then sumAt l q else 0:=by
 induction l with
 | nil=>rw [List.filter_nil,sumAt_nil];split <;> rfl
 | cons x l ih =>
   by_cases h:P x.1 = true
   · rw [fl_pos h,sumAt_cons,sumAt_cons,ih]
     by_cases e:x.1 = q
     · subst e;rw [if_pos rfl,if_pos h,if_pos h]
     · rw [if_neg e];split <;> omega
   · rw [fl_neg h,ih,sumAt_cons]
     by_cases e:x.1 = q
     · subst e;rw [if_neg h,if_neg h]
     · rw [if_neg e];split <;> omega
abbrev rvs (l:List Sk):List Sk:=l.map fun x=>(x.1.reverse,x.2)
theorem stk_W0 {F:Fo} (q:List Nm) (h:F.Srt):sumAt (F.stk []) q = Wx (0,F) q:=by
 rw [Fo.stk_sum q h]
 split
 · rename_i e;subst e;rfl
 · rfl
abbrev tr (l:List Sk):Fo:=(jnGo (0,.nil) l).2
theorem tr_srt (l:List Sk):(tr l).Srt:=jn_srt l _ trivial
theorem W_snd:∀ (q:List Nm) (x:Int × Fo),q ≠ [] → Wx (0,x.2) q = Wx x q
 | [],x,h=>absurd rfl h
 | m :: q,x,_=>rfl
theorem tr_W {l:List Sk} (h:∀ x ∈ l,x.1 ≠ []) (q:List Nm):Wx (0,tr l) q = sumAt l q:=by
 cases q with
 | nil=>exact (sumAt_none fun x hx=>h x hx).symm
 | cons m q =>
   rw [W_snd _ _ (by simp),jn_W l (0,.nil) _ trivial,Wx_nil];simp
def FineL (l:List Sk):Prop:=∀ x ∈ l,x.1.length ≤ 64 ∧ (∀ n ∈ x.1,1 ≤ n.size ∧ n.size ≤ 60) ∧ wOk x.2 = true ∧ x.1 ≠ []
theorem stk_fineL {F:Fo} (h:F.Good 0):FineL (F.stk []):=stk_fine (p:=[]) h (by simp)
theorem FineL.filter {l:List Sk} (h:FineL l) (P:Sk → Bool):FineL (l.filter P):=fun x hx=>h x (List.mem_filter.1 hx).1
theorem FineL.rvs {l:List Sk} (h:FineL l):FineL (rvs l):=fun x hx=>by
 obtain ⟨y,hy,rfl⟩:=List.mem_map.1 hx
 obtain ⟨h1,h2,h3,h4⟩:=h y hy
 exact ⟨by simpa using h1,fun n hn=>h2 n (by simpa using hn),h3,by simpa using h4⟩
theorem FineL.ne {l:List Sk} (h:FineL l):∀ x ∈ l,x.1 ≠ []:=fun x hx=>(h x hx).2.2.2
theorem FineL.nd {l:List Sk} (h:FineL l):(tr l).Nd 0:=jn_nd l (fun y hy=>⟨(h y hy).1,(h y hy).2.1⟩) _ trivial
theorem of_tr {l:List Sk} (h:FineL l):ofGo (0,.nil) l = flR (tr l):=of_jn l _ h
theorem of_same {l:List Sk} {G:Fo} (h:FineL l) (hG:G.Srt) (hW:∀ q,sumAt l q = Wx (0,G) q) (hw:G.okW = true) (hl:G.len ≤ 2000):ofGo (0,.nil) l = (G.prune.enc (-1) 0,0):=by
 rw [of_tr h]
 exact flR_of (tr_srt l) hG (fun q=>by rw [tr_W h.ne];exact hW q) hw hl
theorem keep_w (P:List Nm → Bool):∀ {F:Fo} {p:List Nm},F.okW = true → (F.keep P p).okW = true
 | .nil,_,_=>rfl
 | .cons n s sub rest,p,h=>by
   rw [Fo.okW,Bool.and_eq_true,Bool.and_eq_true] at h
   rw [Fo.keep,Fo.okW,keep_w P h.2.1,keep_w P h.2.2]
   split
   · rw [h.1];rfl
   · rfl
theorem keep_nd (P:List Nm → Bool):∀ {F:Fo} {d:Nat} {p:List Nm},F.Nd d → (F.keep P p).Nd d
 | .nil,_,_,_=>trivial
 | .cons n s sub rest,d,p,h=>⟨h.1,h.2.1,keep_nd P h.2.2.1,keep_nd P h.2.2.2⟩
abbrev kp (P:List Nm → Bool) (F:Fo):Fo:=(F.keep P []).prune
theorem kp_good (P:List Nm → Bool) {F:Fo} (h:F.Good 0):(kp P F).Good 0:=prune_good (Fo.keep_srt P [] h.srt) (keep_nd P h.nd) (keep_w P h.w)
theorem kp_len (P:List Nm → Bool) (F:Fo):(kp P F).len ≤ F.len:=Nat.le_trans (Fo.prune_len _) (Nat.le_of_eq (Fo.keep_len P F []))
theorem kp_W (P:List Nm → Bool) {F:Fo} (h:F.Good 0) (q:List Nm):Wx (0,kp P F) q = if P q = true then Wx (0,F) q else 0:=by
 rw [show Wx (0,kp P F) q = Wx (0,F.keep P []) q from prune_W q (0,_) (Fo.keep_srt P [] h.srt),keep_W0]
theorem of_keep (P:List Nm → Bool) {F:Fo} (h:F.Good 0) (hl:F.len ≤ 2000):ofGo (0,.nil) ((F.stk []).filter fun x=>P x.1) = ((kp P F).enc (-1) 0,0) :=
 of_same ((stk_fineL h).filter _) (Fo.keep_srt P [] h.srt) (fun q=>by rw [sumAt_keep,keep_W0,stk_W0 q h.srt]) (keep_w P h.w) (by rw [Fo.keep_len];exact hl)
theorem kp_all {P:List Nm → Bool} {F:Fo} (h:F.Good 0) (hP:∀ q,Wx (0,F) q ≠ 0 → P q = true):kp P F = F :=
 Fo.uniq (kp_good P h).srt h.srt (kp_good P h).pr h.pr fun q=>by
   rw [kp_W P h]
   by_cases e:Wx (0,F) q = 0
   · rw [e];split <;> rfl
   · rw [hP q e,if_pos rfl]
namespace Fo
def msr (c:List Nm → Bool):Fo → List Nm → Int
 | .nil,_=>0
 | .cons n s sub rest,p=>(if c (p ++ [n]) = true then s else 0) + (sub.msr c (p ++ [n]) + rest.msr c p)
end Fo
theorem stk_len:∀ (F:Fo) (p:List Nm),(F.stk p).length ≤ F.len
 | .nil,_=>Nat.le_refl _
 | .cons n s sub rest,p=>by
   have h1:=stk_len sub (p ++ [n]);have h2:=stk_len rest p
   rw [Fo.stk,Fo.len,List.length_append,List.length_append]
   split <;> simp <;> omega
open Go Go.T Go.Pl
section
variable {S E:Type}
def Goes (b:S → Option (S ⊕ E)) (s s':S):Prop:=∀ e,zCv b s' = some e → zCv b s = some e
theorem Goes.refl (b:S → Option (S ⊕ E)) (s:S):Goes b s s:=fun _ h=>h
theorem Goes.trans {b:S → Option (S ⊕ E)} {s s' s'':S} (h:Goes b s s') (g:Goes b s' s''):Goes b s s'':=fun e he=>h e (g e he)
theorem Goes.one {b:S → Option (S ⊕ E)} {s s':S} (h:b s = some (.inl s')):Goes b s s':=fun e he=>iter_l h he
theorem Goes.fin {b:S → Option (S ⊕ E)} {s s':S} {e:E} (h:Goes b s s') (g:b s' = some (.inr e)):zCv b s = some e:=h e (iter_r g)
end
def At {α:Type} (x:List α) (pl:Nat) (l:List α):Prop:=∀ i v,l[i]? = some v → x[pl + i]? = some v
theorem At.head {α:Type} {x:List α} {pl:Nat} {v:α} {l:List α} (h:At x pl (v :: l)):x[pl]? = some v:=h 0 v rfl
theorem At.tail {α:Type} {x:List α} {pl:Nat} {v:α} {l:List α} (h:At x pl (v :: l)):At x (pl + 1) l:=fun i w hw=>by
 have:=h (i + 1) w (by simpa using hw)
 rw [show pl + 1 + i = pl + (i + 1) by omega];exact this
theorem At.left {α:Type} {x:List α} {pl:Nat} {l l':List α} (h:At x pl (l ++ l')):At x pl l:=fun i v hv=>h i v (by
 have:i < l.length:=by
   rcases Nat.lt_or_ge i l.length with h | h
   · exact h
   · rw [List.getElem?_eq_none h] at hv;cases hv
 rw [List.getElem?_append_left this];exact hv)
theorem At.right {α:Type} {x:List α} {pl:Nat} {l l':List α} (h:At x pl (l ++ l')):At x (pl + l.length) l':=fun i v hv=>by
 have:=h (l.length + i) v (by rw [List.getElem?_append_right (by omega)];simpa using hv)
 rw [show pl + l.length + i = pl + (l.length + i) by omega];exact this
theorem At.all {α:Type} (x:List α):At x 0 x:=fun i v hv=>by rw [Nat.zero_add];exact hv
theorem At.lt {α:Type} {x:List α} {pl:Nat} {v:α} (h:x[pl]? = some v):pl < x.length:=by
 rcases Nat.lt_or_ge pl x.length with h' | h'
 · exact h'
 · rw [List.getElem?_eq_none h'] at h;cases h
theorem zCz {α:Type} {x:List α} {pl:Nat} {v d:α} (h:x[pl]? = some v):zAJ d x (i2n (pl:Int)) = v:=by
 show x.getD pl d = v
 rw [List.getD_eq_getElem?_getD,h];rfl
theorem zDA {α:Type} {l:List α} {i:Nat} (h:i < l.length):inL (i:Int) (zAL l) = true:=inL_t h
theorem room_t {n b:Nat} (h:n * b ≤ 140737488355328):room n b = true:=decide_eq_true h
theorem seq_t {a b:Nm}:seq a b = decide (a = b):=by
 unfold seq
 by_cases h:a = b
 · subst h;simp
 · rw [decide_eq_false h,beq_eq_false_iff_ne]
   intro e
   rw [ByteArray.toList_eq,ByteArray.toList_eq] at e
   exact h (nm_ext e)
theorem inS_t {d n:Nat} (h:d ≤ n):inS 0 (d:Int) n = true:=by unfold inS;simp;omega
theorem depth_in {R:Type} {par:Int} {depths:List Int} {d:Nat} (hl:depths.length ≤ 2000) (hd:d ≤ 100) (h:(par = -1 ∧ d = 0) ∨ ∃ k:Nat,par = k ∧ k < depths.length ∧ depths.getD k 0 + 1 = (d:Int)) :
   (sel (ile 0 par) (need (inL par (zAL depths)) (some (.inl (zBo .i64 (zAJ 0 depths (i2n par)) 1)))) (some (.inl 0)):Option (Int ⊕ R)) = some (.inl (d:Int)):=by
 rcases h with ⟨rfl,rfl⟩ | ⟨k,rfl,hk,he⟩
 · rfl
 · rw [zCA (by rw [ile_d];simp),zAY (zDA hk)]
   show some (Sum.inl (zBo .i64 (depths.getD k 0) 1)) = _
   rw [iaddI (by omega) (by omega),he]
abbrev St16:=Int × List Sk × List Nm × List Int
noncomputable def b16 (x:(List (Int × (ByteArray × Int)))):St16 → Option (St16 ⊕ (List Sk ⊕ List Sk)) :=
(fun (s1:(Int × ((List ((List ByteArray) × Int)) × ((List ByteArray) × (List Int))))) =>
sel (ilt s1.1 (n2i (zAL x))) (join (need (inL s1.1 (zAL x)) <|
join (sel (ile 0 ((zAJ (0,(⟨#[]⟩:ByteArray),0) x (i2n s1.1)).1)) (need (inL ((zAJ (0,(⟨#[]⟩:ByteArray),0) x (i2n s1.1)).1) (zAL s1.2.2.2)) <|
some (.inl (zBo .i64 (zAJ 0 s1.2.2.2 (i2n ((zAJ (0,(⟨#[]⟩:ByteArray),0) x (i2n s1.1)).1))) 1))) <|
some (.inl 0)) fun (j2:Int) =>
need (room (nadd (zAL s1.2.2.2) (zAL (j2 :: ([]:List Int)))) 8) <|
need (inS 0 j2 (zAL s1.2.2.1)) <|
need (room (nadd (zAL (lsub s1.2.2.1 (i2n 0) (nsub (i2n j2) (i2n 0)))) (zAL (((zAJ (0,(⟨#[]⟩:ByteArray),0) x (i2n s1.1)).2).1 :: ([]:List ByteArray)))) 16) <|
need (nlt 0 (zAL (((zAJ (0,(⟨#[]⟩:ByteArray),0) x (i2n s1.1)).2).1 :: ([]:List ByteArray)))) <|
sel (ine (((zAJ (0,(⟨#[]⟩:ByteArray),0) x (i2n s1.1)).2).2) 0) (need (room (zAL (lcat (lsub s1.2.2.1 (i2n 0) (nsub (i2n j2) (i2n 0))) (((zAJ (0,(⟨#[]⟩:ByteArray),0) x (i2n s1.1)).2).1 :: ([]:List ByteArray)))) 16) <|
need (room (nadd (zAL s1.2.1) (zAL ((lcat (lsub s1.2.2.1 (i2n 0) (nsub (i2n j2) (i2n 0))) (((zAJ (0,(⟨#[]⟩:ByteArray),0) x (i2n s1.1)).2).1 :: ([]:List ByteArray)),((zAJ (0,(⟨#[]⟩:ByteArray),0) x (i2n s1.1)).2).2) :: ([]:List ((List ByteArray) × Int))))) 32) <|
some (.inl (lcat s1.2.1 ((lcat (lsub s1.2.2.1 (i2n 0) (nsub (i2n j2) (i2n 0))) (((zAJ (0,(⟨#[]⟩:ByteArray),0) x (i2n s1.1)).2).1 :: ([]:List ByteArray)),((zAJ (0,(⟨#[]⟩:ByteArray),0) x (i2n s1.1)).2).2) :: ([]:List ((List ByteArray) × Int))),lcat (lsub s1.2.2.1 (i2n 0) (nsub (i2n j2) (i2n 0))) (((zAJ (0,(⟨#[]⟩:ByteArray),0) x (i2n s1.1)).2).1 :: ([]:List ByteArray)),lcat s1.2.2.2 (j2 :: ([]:List Int))))) <|
some (.inl (s1.2.1,lcat (lsub s1.2.2.1 (i2n 0) (nsub (i2n j2) (i2n 0))) (((zAJ (0,(⟨#[]⟩:ByteArray),0) x (i2n s1.1)).2).1 :: ([]:List ByteArray)),lcat s1.2.2.2 (j2 :: ([]:List Int))))) fun (j3:((List ((List ByteArray) × Int)) × ((List ByteArray) × (List Int)))) =>
some (.inl (zBo .i64 s1.1 1,j3.1,j3.2.1,j3.2.2))) <|
some (.inr (.inl s1.2.1)))
theorem F16_def (x:List FN):F16 x = call (F13 x) fun (r0:Int)=>sel (ine r0 0) (some []) <| join (zCv (b16 x) (0,[],[],[])) fun j4=>some j4:=rfl
theorem st16 {x:List FN} {i:Nat} {out:List Sk} {path:List Nm} {depths:List Int} {par:Int} {n:Nm} {s:Int} {d:Nat} (hi:x[i]? = some (par,n,s)) (hx:x.length ≤ 2000) (ho:out.length ≤ 2000) (hp:path.length ≤ 100) (hdl:depths.length ≤ 2000) (hd:d ≤ path.length) (hpar:(par = -1 ∧ d = 0) ∨ ∃ k:Nat,par = k ∧ k < depths.length ∧ depths.getD k 0 + 1 = (d:Int)) :
   b16 x ((i:Int),out,path,depths) = some (.inl (((i + 1:Nat):Int),out ++ (if s ≠ 0 then [(path.take d ++ [n],s)] else []),path.take d ++ [n],depths ++ [(d:Int)])):=by
 have hil:=At.lt hi
 have hg:zAJ (0,(⟨#[]⟩:ByteArray),0) x (i2n (i:Int)) = (par,n,s):=zCz hi
 have ht:(lsub path (i2n 0) (nsub (i2n (d:Int)) (i2n 0))) = path.take d:=rfl
 have hlt:(path.take d).length = d:=by rw [List.length_take];omega
 unfold b16
 dsimp only
 simp only [hg,ht]
 rw [zBy,zCA (by rw [zCB,zBC];exact decide_eq_true (by omega)),zAY (zDA hil),depth_in hdl (by omega) hpar,zCg]
 simp only [zBC,nadd,List.length_singleton,lcat,ht]
 rw [zAY (room_t (by omega)),zAY (inS_t hd),zAY (room_t (by rw [hlt];omega)),zAY (by rfl),ine_d,sel_i]
 rw [iaddI (by omega) (by omega)]
 by_cases hs:s ≠ 0
 · rw [if_pos hs,if_pos hs,zAY (room_t (by simp;omega)),zAY (room_t (by omega)),zCg]
   rfl
 · rw [if_neg hs,if_neg hs,zCg,List.append_nil]
   rfl
theorem seg16 {x:List FN} (hx:x.length ≤ 2000):∀ (F:Fo) (par:Int) (pl:Nat) (out:List Sk) (path:List Nm) (depths:List Int) (pre:List Nm),At x pl (F.enc par pl) → F.Nd pre.length → path.take pre.length = pre → pre.length ≤ path.length → path.length ≤ 65 → depths.length = pl → pl + F.len ≤ 2000 → out.length + F.len ≤ 2000 →
   ((par = -1 ∧ pre.length = 0) ∨ ∃ k:Nat,par = k ∧ k < depths.length ∧ depths.getD k 0 + 1 = (pre.length:Int)) →
   ∃ path' depths',Goes (b16 x) ((pl:Int),out,path,depths) (((pl + F.len:Nat):Int),out ++ F.stk pre,path',depths ++ depths') ∧ path'.take pre.length = pre ∧ pre.length ≤ path'.length ∧ path'.length ≤ 65 ∧ depths'.length = F.len
 | .nil,par,pl,out,path,depths,pre,_,_,h1,h2,h3,_,_,_,_=>⟨path,[],by rw [Fo.stk,List.append_nil,List.append_nil];exact Goes.refl _ _,h1,h2,h3,rfl⟩
 | .cons n s sub rest,par,pl,out,path,depths,pre,hA,hN,h1,h2,h3,h4,h5,h6,h7=>by
   rw [Fo.enc] at hA
   rw [Fo.len] at h5 h6
   have hi:=hA.head
   have hA1:=hA.tail.left
   have hA2:=hA.tail.right
   rw [Fo.enc_len] at hA2
   obtain ⟨g1,g2,g3,g4⟩:=hN
   have hst:=st16 (out:=out) hi hx (by omega) (by omega) (by omega) h2 h7
   rw [h1] at hst
   have hol:(out ++ (if s ≠ 0 then [(pre ++ [n],s)] else [])).length ≤ out.length + 1:=by rw [List.length_append];split <;> simp
   have e1:(pre ++ [n]).length = pre.length + 1:=by simp
   obtain ⟨p1,d1,a1,a2,a3,a4,a5⟩:=seg16 hx sub (pl:Int) (pl + 1) (out ++ (if s ≠ 0 then [(pre ++ [n],s)] else [])) (pre ++ [n]) (depths ++ [(pre.length:Int)]) (pre ++ [n]) hA1 (by rw [e1];exact g3) (List.take_length) (Nat.le_refl _) (by rw [e1];omega) (by simp [h4]) (by omega) (by omega)
     (.inr ⟨pl,rfl,by simp [h4],by rw [e1,List.getD_eq_getElem?_getD,List.getElem?_append_right (by omega),h4];simp⟩)
   have hp1:p1.take pre.length = pre:=by
     have:=congrArg (List.take pre.length) a2
     rw [List.take_take,e1,Nat.min_eq_left (by omega),List.take_append_of_le_length (by omega),List.take_length] at this
     exact this
   have hol2:(out ++ (if s ≠ 0 then [(pre ++ [n],s)] else []) ++ sub.stk (pre ++ [n])).length + rest.len ≤ 2000:=by
     rw [List.length_append]
     have:=stk_len sub (pre ++ [n])
     omega
   obtain ⟨p2,d2,b1,b2,b3,b4,b5⟩:=seg16 hx rest par (pl + 1 + sub.len) (out ++ (if s ≠ 0 then [(pre ++ [n],s)] else []) ++ sub.stk (pre ++ [n])) p1 (depths ++ [(pre.length:Int)] ++ d1) pre hA2 g4 hp1 (by rw [e1] at a3;omega) a4 (by simp [h4,a5];omega) (by omega) hol2
     (by
       rcases h7 with h7 | ⟨k,r1,r2,r3⟩
       · exact .inl h7
       · refine .inr ⟨k,r1,by simp;omega,?_⟩
         rw [List.append_assoc,List.getD_eq_getElem?_getD,List.getElem?_append_left r2,← List.getD_eq_getElem?_getD];exact r3)
   refine ⟨p2,[(pre.length:Int)] ++ d1 ++ d2,?_,b2,b3,b4,by simp [a5,b5,Fo.len];omega⟩
   have hG:=(Goes.one hst).trans (a1.trans b1)
   rw [Fo.stk,Fo.len]
   rw [show pl + (1 + sub.len + rest.len) = pl + 1 + sub.len + rest.len by omega]
   simp only [List.append_assoc] at hG ⊢
   exact hG
theorem F16_enc {F:Fo} (h13:F13 (F.enc (-1) 0) = some 0) (hN:F.Nd 0) (hl:F.len ≤ 2000):F16 (F.enc (-1) 0) = some (F.stk []):=by
 rw [F16_def,zAd h13,zBU (by rfl)]
 obtain ⟨p,d,h1,h2,h3,h4,h5⟩:=seg16 (x:=F.enc (-1) 0) (by rw [Fo.enc_len];exact hl) F (-1) 0 [] [] [] [] (At.all _) hN rfl (Nat.le_refl _) (by simp) rfl (by omega) (by simpa using hl) (.inl ⟨rfl,rfl⟩)
 refine join_l (h1.fin ?_)
 unfold b16
 dsimp only
 rw [zBy,zBU (by rw [zCB,zBC,Fo.enc_len];exact decide_eq_false (by omega)),List.nil_append]
abbrev St11:=Int × Int × List Bool
noncomputable def b11 (x:((List (Int × (ByteArray × Int))) × ByteArray)):St11 → Option (St11 ⊕ (Int ⊕ Int)) :=
(fun (s1:(Int × (Int × (List Bool)))) =>
sel (ilt s1.2.1 (n2i (zAL x.1))) (join (need (inL s1.2.1 (zAL x.1)) <|
need (impl (band (zCQ (seq (((zAJ (0,(⟨#[]⟩:ByteArray),0) x.1 (i2n s1.2.1)).2).1) x.2)) (ile 0 ((zAJ (0,(⟨#[]⟩:ByteArray),0) x.1 (i2n s1.2.1)).1))) (inL ((zAJ (0,(⟨#[]⟩:ByteArray),0) x.1 (i2n s1.2.1)).1) (zAL s1.2.2))) <|
need (inL s1.2.1 (zAL s1.2.2)) <|
need (inL s1.2.1 (zAL (lset s1.2.2 (i2n s1.2.1) (zAH (seq (((zAJ (0,(⟨#[]⟩:ByteArray),0) x.1 (i2n s1.2.1)).2).1) x.2) true (zAH (ile 0 ((zAJ (0,(⟨#[]⟩:ByteArray),0) x.1 (i2n s1.2.1)).1)) (zAJ false s1.2.2 (i2n ((zAJ (0,(⟨#[]⟩:ByteArray),0) x.1 (i2n s1.2.1)).1))) false))))) <|
sel (zAJ false (lset s1.2.2 (i2n s1.2.1) (zAH (seq (((zAJ (0,(⟨#[]⟩:ByteArray),0) x.1 (i2n s1.2.1)).2).1) x.2) true (zAH (ile 0 ((zAJ (0,(⟨#[]⟩:ByteArray),0) x.1 (i2n s1.2.1)).1)) (zAJ false s1.2.2 (i2n ((zAJ (0,(⟨#[]⟩:ByteArray),0) x.1 (i2n s1.2.1)).1))) false))) (i2n s1.2.1)) (some (.inl (zBo .i64 s1.1 (((zAJ (0,(⟨#[]⟩:ByteArray),0) x.1 (i2n s1.2.1)).2).2),lset s1.2.2 (i2n s1.2.1) (zAH (seq (((zAJ (0,(⟨#[]⟩:ByteArray),0) x.1 (i2n s1.2.1)).2).1) x.2) true (zAH (ile 0 ((zAJ (0,(⟨#[]⟩:ByteArray),0) x.1 (i2n s1.2.1)).1)) (zAJ false s1.2.2 (i2n ((zAJ (0,(⟨#[]⟩:ByteArray),0) x.1 (i2n s1.2.1)).1))) false))))) <|
some (.inl (s1.1,lset s1.2.2 (i2n s1.2.1) (zAH (seq (((zAJ (0,(⟨#[]⟩:ByteArray),0) x.1 (i2n s1.2.1)).2).1) x.2) true (zAH (ile 0 ((zAJ (0,(⟨#[]⟩:ByteArray),0) x.1 (i2n s1.2.1)).1)) (zAJ false s1.2.2 (i2n ((zAJ (0,(⟨#[]⟩:ByteArray),0) x.1 (i2n s1.2.1)).1))) false))))) fun (j2:(Int × (List Bool))) =>
some (.inl (j2.1,zBo .i64 s1.2.1 1,j2.2))) <|
some (.inr (.inl s1.1)))
theorem F11_def (x:List FN × Nm):F11 x = call (F13 x.1) fun (r0:Int)=>sel (ine r0 0) (some 0) <| need (mk (n2i (zAL x.1)) (n2i (zAL x.1)) 1) <| join (zCv (b11 x) (0,0,lrep (n2i (zAL x.1)) false)) fun j3=>some j3:=rfl
def has (n:Nm) (p:List Nm):Bool:=p.any fun m=>decide (m = n)
theorem st11 {x:List FN} {nm:Nm} {i:Nat} {sum:Int} {marks:List Bool} {par:Int} {n:Nm} {s:Int} {b:Bool} (hi:x[i]? = some (par,n,s)) (hx:x.length ≤ 2000) (hm:marks.length = x.length) (hs:-1099511627776 ≤ s ∧ s ≤ 1099511627776) (hsum:-(1099511627776 * (i:Int)) ≤ sum ∧ sum ≤ 1099511627776 * (i:Int))
   (hpar:(par = -1 ∧ b = false) ∨ ∃ k:Nat,par = k ∧ k < i ∧ marks.getD k false = b) :
   b11 (x,nm) (sum,(i:Int),marks) = some (.inl (sum + (if (decide (n = nm) || b) = true then s else 0),((i + 1:Nat):Int),marks.set i (decide (n = nm) || b))):=by
 have hil:=At.lt hi
 have hg:zAJ (0,(⟨#[]⟩:ByteArray),0) x (i2n (i:Int)) = (par,n,s):=zCz hi
 have hv:zAH (seq n nm) true (zAH (ile 0 par) (zAJ false marks (i2n par)) false) = (decide (n = nm) || b):=by
   rw [pick_or,seq_t]
   congr 1
   rcases hpar with ⟨rfl,rfl⟩ | ⟨k,rfl,hk,rfl⟩
   · rfl
   · rw [zCu,ile_d,decide_eq_true (by omega),Bool.true_and];rfl
 have hset:zAJ false (lset marks (i2n (i:Int)) (decide (n = nm) || b)) (i2n (i:Int)) = (decide (n = nm) || b):=by
   show (marks.set i _).getD i false = _
   rw [List.getD_eq_getElem?_getD,List.getElem?_set_self (by omega)];rfl
 unfold b11
 dsimp only
 simp only [hg,hv,hset]
 rw [zBy,zCA (by rw [zCB,zBC];exact decide_eq_true (by omega)),zAY (zDA hil)]
 rw [zAY (impl_t fun h=>?_),zAY (by rw [zBC,hm];exact inL_t hil),zAY (by rw [zBC,lset,List.length_set,hm];exact inL_t hil),iaddI (a:=(i:Int)) (by omega) (by omega)]
 · by_cases hb:(decide (n = nm) || b) = true
   · rw [hb,zCA rfl,if_pos rfl,iaddI (by omega) (by omega),zCg];rfl
   · have hb:(decide (n = nm) || b) = false:=by simpa using hb
     rw [hb,zBU rfl,zCg,if_neg (by simp)]
     simp only [Int.add_zero];rfl
 · rw [band_d,Bool.and_eq_true,ile_d,decide_eq_true_eq] at h
   rcases hpar with ⟨rfl,rfl⟩ | ⟨k,rfl,hk,rfl⟩
   · exact absurd h.2 (by omega)
   · exact inL_t (by rw [zBC];omega)
theorem has_app (nm:Nm) (p:List Nm) (n:Nm):has nm (p ++ [n]) = (decide (n = nm) || has nm p):=by
 unfold has
 rw [List.any_append,Bool.or_comm];simp
theorem msr_b (c:List Nm → Bool):∀ {F:Fo} {p:List Nm},F.okW = true → -(1099511627776 * (F.len:Int)) ≤ F.msr c p ∧ F.msr c p ≤ 1099511627776 * (F.len:Int)
 | .nil,_,_=>by simp [Fo.msr,Fo.len]
 | .cons n s sub rest,p,h=>by
   rw [Fo.okW,Bool.and_eq_true,Bool.and_eq_true] at h
   have h1:-1099511627776 ≤ s ∧ s ≤ 1099511627776:=of_decide_eq_true h.1
   have h2:=msr_b c (p:=p ++ [n]) h.2.1
   have h3:=msr_b c (p:=p) h.2.2
   rw [Fo.msr,Fo.len]
   split <;> omega
theorem seg11 {x:List FN} {nm:Nm} (hx:x.length ≤ 2000):∀ (F:Fo) (par:Int) (pl:Nat) (sum:Int) (marks:List Bool) (pre:List Nm),At x pl (F.enc par pl) → F.okW = true → marks.length = x.length → -(1099511627776 * (pl:Int)) ≤ sum → sum ≤ 1099511627776 * (pl:Int) →
   ((par = -1 ∧ has nm pre = false) ∨ ∃ k:Nat,par = k ∧ k < pl ∧ marks.getD k false = has nm pre) →
   ∃ marks',Goes (b11 (x,nm)) (sum,(pl:Int),marks) (sum + F.msr (has nm) pre,((pl + F.len:Nat):Int),marks') ∧ marks'.length = x.length ∧ ∀ k,k < pl → marks'.getD k false = marks.getD k false
 | .nil,par,pl,sum,marks,pre,_,_,h3,_,_,_=>⟨marks,by rw [Fo.msr,Int.add_zero];exact Goes.refl _ _,h3,fun _ _=>rfl⟩
 | .cons n s sub rest,par,pl,sum,marks,pre,hA,hw,h3,h4,h5,h6=>by
   rw [Fo.enc] at hA
   have hi:=hA.head
   have hil:=At.lt hi
   have hA1:=hA.tail.left
   have hA2:=hA.tail.right
   rw [Fo.enc_len] at hA2
   rw [Fo.okW,Bool.and_eq_true,Bool.and_eq_true] at hw
   have hs:-1099511627776 ≤ s ∧ s ≤ 1099511627776:=of_decide_eq_true hw.1
   have hst:=st11 (nm:=nm) (b:=has nm pre) hi hx h3 hs ⟨h4,h5⟩ h6
   rw [← has_app] at hst
   have hset:∀ k,k < pl → (marks.set pl (has nm (pre ++ [n]))).getD k false = marks.getD k false:=fun k hk=>by
     rw [List.getD_eq_getElem?_getD,List.getElem?_set_ne (by omega),← List.getD_eq_getElem?_getD]
   have hb:-(1099511627776 * ((pl + 1:Nat):Int)) ≤ sum + (if has nm (pre ++ [n]) = true then s else 0) ∧ sum + (if has nm (pre ++ [n]) = true then s else 0) ≤ 1099511627776 * ((pl + 1:Nat):Int):=by split <;> omega
   obtain ⟨m1,a1,a2,a3⟩:=seg11 hx sub (pl:Int) (pl + 1) (sum + (if has nm (pre ++ [n]) = true then s else 0)) (marks.set pl (has nm (pre ++ [n]))) (pre ++ [n]) hA1 hw.2.1 (by simpa using h3) hb.1 hb.2
     (.inr ⟨pl,rfl,by omega,by rw [List.getD_eq_getElem?_getD,List.getElem?_set_self (by omega)];rfl⟩)
   have hsb:=msr_b (has nm) (p:=pre ++ [n]) hw.2.1
   obtain ⟨m2,b1,b2,b3⟩:=seg11 hx rest par (pl + 1 + sub.len) (sum + (if has nm (pre ++ [n]) = true then s else 0) + sub.msr (has nm) (pre ++ [n])) m1 pre hA2 hw.2.2 a2 (by omega) (by omega)
     (by
       rcases h6 with h6 | ⟨k,r1,r2,r3⟩
       · exact .inl h6
       · exact .inr ⟨k,r1,by omega,by rw [a3 k (by omega),hset k r2];exact r3⟩)
   refine ⟨m2,?_,b2,fun k hk=>by rw [b3 k (by omega),a3 k (by omega),hset k hk]⟩
   have hG:=(Goes.one hst).trans (a1.trans b1)
   rw [Fo.msr,Fo.len]
   rw [show pl + (1 + sub.len + rest.len) = pl + 1 + sub.len + rest.len by omega]
   simp only [Int.add_assoc] at hG ⊢
   exact hG
theorem F11_enc {F:Fo} (h13:F13 (F.enc (-1) 0) = some 0) (hw:F.okW = true) (hl:F.len ≤ 2000) (nm:Nm):F11 (F.enc (-1) 0,nm) = some (F.msr (has nm) []):=by
 rw [F11_def,zAd h13,zBU (by rfl),zAY (by unfold mk;simp [n2i,zAL,Fo.enc_len];omega)]
 obtain ⟨m,h1,h2,h3⟩:=seg11 (x:=F.enc (-1) 0) (nm:=nm) (by rw [Fo.enc_len];exact hl) F (-1) 0 0 (lrep (n2i (zAL (F.enc (-1) 0))) false) [] (At.all _) hw (by simp [lrep,n2i,zAL]) (by omega) (by omega) (.inl ⟨rfl,rfl⟩)
 refine join_l (h1.fin ?_)
 unfold b11
 dsimp only
 rw [zBy,zBU (by rw [zCB,zBC,Fo.enc_len];exact decide_eq_false (by omega)),Int.zero_add]
abbrev St13:=Int × List Int
abbrev St13i:=(Nat × Nat) × Int
noncomputable def b13 (x:(List (Int × (ByteArray × Int)))):St13 → Option (St13 ⊕ (PUnit ⊕ Int)) :=
(fun (s0:(Int × (List Int))) =>
sel (ilt s0.1 (n2i (zAL x))) (join (need (inL s0.1 (zAL x)) <|
call (F35 (((zAJ (0,(⟨#[]⟩:ByteArray),0) x (i2n s0.1)).2).1)) fun (r1:Bool) =>
sel (zCQ r1) (some (.inr (.inr (.inr 5)))) <|
call (F36 (((zAJ (0,(⟨#[]⟩:ByteArray),0) x (i2n s0.1)).2).2)) fun (r2:Bool) =>
sel (zCQ r2) (some (.inr (.inr (.inr 2)))) <|
join (zCv (fun (s3:((Nat × Nat) × Int)) =>
need (impl (ilt 0 (n2i s3.1.2)) (inL (isub .i64 (n2i s3.1.2) 1) s3.1.2)) <|
sel (zAH (ilt 0 (n2i s3.1.2)) (ine (zAJ 0 s0.2 (nadd s3.1.1 (i2n (isub .i64 (n2i s3.1.2) 1)))) ((zAJ (0,(⟨#[]⟩:ByteArray),0) x (i2n s0.1)).1)) false) (need (inL (isub .i64 (n2i s3.1.2) 1) s3.1.2) <|
need (inS 0 (isub .i64 (n2i s3.1.2) 1) s3.1.2) <|
some (.inl ((nadd s3.1.1 (i2n 0),nsub (i2n (isub .i64 (n2i s3.1.2) 1)) (i2n 0)),zAJ 0 s0.2 (nadd s3.1.1 (i2n (isub .i64 (n2i s3.1.2) 1)))))) <|
some (.inr (.inl (s3.1,s3.2)))) ((0,zAL s0.2),(-1))) fun (j4:((Nat × Nat) × Int)) =>
sel (zAH (ieq (n2i j4.1.2) 0) (ine ((zAJ (0,(⟨#[]⟩:ByteArray),0) x (i2n s0.1)).1) (-1)) false) (some (.inr (.inr (.inr 9)))) <|
need (impl (ile 0 j4.2) (inL j4.2 (zAL x))) <|
sel (zAH (ile 0 j4.2) (sle (((zAJ (0,(⟨#[]⟩:ByteArray),0) x (i2n s0.1)).2).1) (((zAJ (0,(⟨#[]⟩:ByteArray),0) x (i2n j4.2)).2).1)) false) (some (.inr (.inr (.inr 9)))) <|
sel (ilt 63 (n2i j4.1.2)) (some (.inr (.inr (.inr 30)))) <|
need (impl (band (ieq (((zAJ (0,(⟨#[]⟩:ByteArray),0) x (i2n s0.1)).2).2) 0) (zCQ (ieq (zBo .i64 s0.1 1) (n2i (zAL x))))) (inL (zBo .i64 s0.1 1) (zAL x))) <|
sel (zAH (ieq (((zAJ (0,(⟨#[]⟩:ByteArray),0) x (i2n s0.1)).2).2) 0) (zAH (ieq (zBo .i64 s0.1 1) (n2i (zAL x))) true (ine ((zAJ (0,(⟨#[]⟩:ByteArray),0) x (i2n (zBo .i64 s0.1 1))).1) s0.1)) false) (some (.inr (.inr (.inr 1)))) <|
need (room (nadd (zAL (lsub s0.2 j4.1.1 j4.1.2)) (zAL (s0.1 :: ([]:List Int)))) 8) <|
need (nlt 0 (zAL (s0.1 :: ([]:List Int)))) <|
some (.inl (lcat (lsub s0.2 j4.1.1 j4.1.2) (s0.1 :: ([]:List Int))))) fun (j5:(List Int)) =>
some (.inl (zBo .i64 s0.1 1,j5))) <|
some (.inr (.inl ())))
noncomputable def b13i {R:Type} (par:Int) (st:List Int):St13i → Option (St13i ⊕ (St13i ⊕ R)) :=
(fun (s3:((Nat × Nat) × Int)) =>
need (impl (ilt 0 (n2i s3.1.2)) (inL (isub .i64 (n2i s3.1.2) 1) s3.1.2)) <|
sel (zAH (ilt 0 (n2i s3.1.2)) (ine (zAJ 0 st (nadd s3.1.1 (i2n (isub .i64 (n2i s3.1.2) 1)))) par) false) (need (inL (isub .i64 (n2i s3.1.2) 1) s3.1.2) <|
need (inS 0 (isub .i64 (n2i s3.1.2) 1) s3.1.2) <|
some (.inl ((nadd s3.1.1 (i2n 0),nsub (i2n (isub .i64 (n2i s3.1.2) 1)) (i2n 0)),zAJ 0 st (nadd s3.1.1 (i2n (isub .i64 (n2i s3.1.2) 1)))))) <|
some (.inr (.inl (s3.1,s3.2))))
theorem F13_def (x:List FN):F13 x = sel (ilt 2000 (n2i (zAL x))) (some 4) (join (zCv (b13 x) (0,[])) fun j6=>some 0):=rfl
theorem pop13 {R:Type} {par:Int} {anc:List Int} (hanc:(anc = [] ∧ par = -1) ∨ ∃ a,anc = a ++ [par]) :
   ∀ (k:Nat) (tail:List Int),tail.length = k → (∀ t ∈ tail,t ≠ par) → anc.length + tail.length ≤ 2000 → ∀ (rest:List Int) (l0:Int),
     zCv (b13i (R:=R) par (anc ++ tail ++ rest)) ((0,anc.length + tail.length),l0) = some (.inl ((0,anc.length),(tail.head?).getD l0))
 | 0,tail,hk,ht,hl,rest,l0=>by
   have:tail = []:=List.length_eq_zero_iff.1 hk
   subst this
   refine iter_r ?_
   unfold b13i
   dsimp only
   simp only [List.length_nil,Nat.add_zero,List.append_nil]
   rcases hanc with ⟨rfl,rfl⟩ | ⟨a,rfl⟩
   · rw [zAY (impl_t fun h=>by simp [ilt,n2i] at h),zBU (by rfl)];rfl
   · have e1:isub .i64 (n2i (a ++ [par]).length) 1 = (a.length:Int):=by
       have:=hl
       simp only [List.length_append,List.length_singleton,List.length_nil] at this
       have e:isub .i64 (n2i (a ++ [par]).length) 1 = (n2i (a ++ [par]).length) - 1:=zBX (by simp [n2i] <;> omega) (by simp [n2i] <;> omega)
       rw [e];simp [n2i]
     rw [e1,zAY (impl_t fun _=>inL_t (by simp)),zBU]
     · rfl
     · rw [zCu,ine_d]
       have:zAJ 0 (a ++ [par] ++ rest) (nadd 0 (i2n (a.length:Int))) = par:=by
         show (a ++ [par] ++ rest).getD (0 + a.length) 0 = par
         rw [Nat.zero_add,List.append_assoc,List.getD_eq_getElem?_getD,List.getElem?_append_right (Nat.le_refl _)]
         simp
       rw [this];simp
 | k + 1,tail,hk,ht,hl,rest,l0=>by
   obtain ⟨t',b,rfl⟩:∃ t' b,tail = t' ++ [b]:=by
     rcases List.eq_nil_or_concat tail with h | ⟨t',b,h⟩
     · subst h;cases hk
     · exact ⟨t',b,by simpa using h⟩
   have hk':t'.length = k:=by simpa using hk
   have hb:b ≠ par:=ht b (by simp)
   have hl':=hl
   simp only [List.length_append,List.length_singleton] at hl'
   refine iter_l (s':=((0,anc.length + t'.length),b)) ?_ ?_
   · have e1:isub .i64 (n2i (anc.length + (t' ++ [b]).length)) 1 = ((anc.length + t'.length:Nat):Int):=by
       have e:isub .i64 (n2i (anc.length + (t' ++ [b]).length)) 1 = (n2i (anc.length + (t' ++ [b]).length)) - 1:=zBX (by simp [n2i] <;> omega) (by simp [n2i] <;> omega)
       rw [e];simp [n2i] <;> omega
     have e2:zAJ 0 (anc ++ (t' ++ [b]) ++ rest) (nadd 0 (i2n ((anc.length + t'.length:Nat):Int))) = b:=by
       show (anc ++ (t' ++ [b]) ++ rest).getD (0 + (anc.length + t'.length)) 0 = b
       rw [Nat.zero_add,List.getD_eq_getElem?_getD,show anc ++ (t' ++ [b]) ++ rest = (anc ++ t') ++ ([b] ++ rest) by simp,List.getElem?_append_right (by simp)]
       simp
     unfold b13i
     dsimp only
     simp only [e1,e2]
     have hin:inL ((anc.length + t'.length:Nat):Int) (anc.length + (t' ++ [b]).length) = true:=inL_t (by simp <;> omega)
     rw [zAY (impl_t fun _=>hin),zCA,zAY hin,zAY]
     · show some (Sum.inl ((0 + 0,(anc.length + t'.length) - 0),b)) = _
       simp
     · unfold inS;simp;omega
     · rw [zCu,zBy,ine_d,decide_eq_true hb,Bool.and_true]
       exact decide_eq_true (by simp [n2i] <;> omega)
   · have:=pop13 (R:=R) hanc k t' hk' (fun t h=>ht t (by simp [h])) (by omega) ([b] ++ rest) b
     rw [show anc ++ t' ++ ([b] ++ rest) = anc ++ (t' ++ [b]) ++ rest by simp] at this
     rw [this]
     congr 3
     cases t' with
     | nil=>rfl
     | cons a c=>rfl
theorem sle_f {a b:Nm} (h:slt b a = true):sle a b = false:=by
 have:=sle_not a b
 rw [h,bnot_d] at this
 simpa using this
theorem st13 {x:List FN} {i:Nat} {par:Int} {n:Nm} {s:Int} (hi:x[i]? = some (par,n,s)) (hx:x.length ≤ 2000) {anc tail:List Int} (hanc:(anc = [] ∧ par = -1) ∨ ∃ a,anc = a ++ [par]) (ht:∀ t ∈ tail,t ≠ par) (hl:(anc ++ tail).length ≤ 2000)
   (hn:nmOk n = true) (hs:wOk s = true) (hd:anc.length < 64) (hlast:∀ t,tail.head? = some t → ∃ (k:Nat) (m:FN),t = (k:Int) ∧ x[k]? = some m ∧ slt m.2.1 n = true) (h0:s = 0 → ∃ m:FN,x[i + 1]? = some m ∧ m.1 = (i:Int)) :
   b13 x ((i:Int),anc ++ tail) = some (.inl (((i + 1:Nat):Int),anc ++ [(i:Int)])):=by
 have hil:=At.lt hi
 have hg:zAJ (0,(⟨#[]⟩:ByteArray),0) x (i2n (i:Int)) = (par,n,s):=zCz hi
 have hpop:∀ R:Type,zCv (b13i (R:=R) par (anc ++ tail)) ((0,zAL (anc ++ tail)),-1) = some (.inl ((0,anc.length),(tail.head?).getD (-1))):=fun R=>by
   have:=pop13 (R:=R) hanc tail.length tail rfl ht (by simpa using hl) [] (-1)
   rw [List.append_nil] at this
   rw [show zAL (anc ++ tail) = anc.length + tail.length by simp [zAL]]
   exact this
 have hwrap:zBo .i64 (i:Int) 1 = ((i + 1:Nat):Int):=by rw [iaddI (by omega) (by omega)];rfl
 have hc9:zAH (ieq (n2i anc.length) 0) (ine par (-1)) false = false:=by
   rw [zCu,ieq_d,ine_d]
   rcases hanc with ⟨rfl,rfl⟩ | ⟨a,rfl⟩
   · simp
   · have:¬ n2i (a ++ [par]).length = 0:=by simp [n2i] <;> omega
     rw [decide_eq_false this];rfl
 have hlim:impl (ile 0 ((tail.head?).getD (-1))) (inL ((tail.head?).getD (-1)) (zAL x)) = true:=impl_t fun h=>by
   cases hh:tail.head? with
   | none=>rw [hh] at h;cases h
   | some t =>
     obtain ⟨k,m,rfl,hk,_⟩:=hlast t hh
     exact zDA (At.lt hk)
 have hcs:zAH (ile 0 ((tail.head?).getD (-1))) (sle n ((zAJ (0,(⟨#[]⟩:ByteArray),0) x (i2n ((tail.head?).getD (-1)))).2).1) false = false:=by
   cases hh:tail.head? with
   | none=>rfl
   | some t =>
     obtain ⟨k,m,rfl,hk,hlt⟩:=hlast t hh
     rw [show (some (k:Int)).getD (-1) = (k:Int) from rfl,zCz hk,sle_f hlt,zCu,Bool.and_false]
 have hz:impl (band (ieq s 0) (zCQ (ieq ((i + 1:Nat):Int) (n2i (zAL x))))) (inL ((i + 1:Nat):Int) (zAL x)) = true:=impl_t fun h=>by
   rw [band_d,Bool.and_eq_true,ieq_d,decide_eq_true_eq] at h
   obtain ⟨m,hm,_⟩:=h0 h.1
   exact zDA (At.lt hm)
 have hz2:zAH (ieq s 0) (zAH (ieq ((i + 1:Nat):Int) (n2i (zAL x))) true (ine (zAJ (0,(⟨#[]⟩:ByteArray),0) x (i2n ((i + 1:Nat):Int))).1 (i:Int))) false = false:=by
   rw [zCu,ieq_d]
   by_cases h:s = 0
   · obtain ⟨m,hm,hm1⟩:=h0 h
     have:=At.lt hm
     rw [zCz hm,hm1,ine_d,pick_or,ieq_d,decide_eq_false (show ¬ ((i + 1:Nat):Int) = n2i (zAL x) by simp [n2i,zAL];omega)]
     simp
   · rw [decide_eq_false h];rfl
 have hF35:F35 n = some true:=by rw [F35_eq,hn]
 have hF36:F36 s = some true:=by rw [F36_eq,hs]
 unfold b13
 dsimp only
 simp only [hg,hwrap]
 rw [zBy,zCA (by rw [zCB,zBC];exact decide_eq_true (by omega)),zAY (zDA hil),zAd hF35,zBU (by rfl),zAd hF36,zBU (by rfl)]
 show join (join (zCv (b13i par (anc ++ tail)) ((0,zAL (anc ++ tail)),-1)) _) _ = _
 rw [join_l (hpop _)]
 dsimp only
 rw [hc9,zBU rfl,zAY hlim,hcs,zBU rfl,zBU (by rw [zBy];exact decide_eq_false (by rw [zCB];omega)),zAY hz,hz2,zBU rfl]
 have e:lsub (anc ++ tail) 0 anc.length = anc:=by
   show ((anc ++ tail).drop 0).take anc.length = anc
   simp
 rw [e,zAY (room_t (by simp [nadd,zAL] at hl ⊢;omega)),zAY (by rfl),zCg]
 rfl
theorem seg13 {x:List FN} (hx:x.length ≤ 2000):∀ (F:Fo) (par:Int) (pl:Nat) (anc tail:List Int),At x pl (F.enc par pl) → F.Good anc.length → ((anc = [] ∧ par = -1) ∨ ∃ a,anc = a ++ [par]) → par < pl → (∀ t ∈ tail,t ≠ par) → (anc ++ tail).length ≤ pl → pl + F.len ≤ 2000 →
   (∀ t,tail.head? = some t → ∃ (k:Nat) (m:FN),t = (k:Int) ∧ x[k]? = some m ∧ ∀ h ∈ F.heads,slt m.2.1 h = true) →
   ∃ tail',Goes (b13 x) ((pl:Int),anc ++ tail) (((pl + F.len:Nat):Int),anc ++ tail') ∧ (∀ t ∈ tail',t ∈ tail ∨ (pl:Int) ≤ t) ∧ (anc ++ tail').length ≤ pl + F.len
 | .nil,par,pl,anc,tail,_,_,_,_,_,h5,_,_=>⟨tail,Goes.refl _ _,fun t h=>.inl h,h5⟩
 | .cons n s sub rest,par,pl,anc,tail,hA,hG,h2,h3,h4,h5,h6,h7=>by
   rw [Fo.enc] at hA
   rw [Fo.len] at h6
   obtain ⟨g1,g2,g3,g4,g5,g6⟩:=hG
   have hi:=hA.head
   have hA1:=hA.tail.left
   have hA2:=hA.tail.right
   rw [Fo.enc_len] at hA2
   have h0:s = 0 → ∃ m:FN,x[pl + 1]? = some m ∧ m.1 = (pl:Int):=fun h=>by
     cases hsub:sub with
     | nil=>exact absurd hsub (g2 h)
     | cons a b c d =>
       rw [hsub,Fo.enc] at hA1
       exact ⟨_,hA1.head,rfl⟩
   have hst:=st13 hi hx h2 h4 (by omega) (decide_eq_true ⟨g1.1,g1.2.1⟩) (decide_eq_true g1.2.2) g3 (fun t ht=>by
     obtain ⟨k,m,e1,e2,e3⟩:=h7 t ht
     exact ⟨k,m,e1,e2,e3 n List.mem_cons_self⟩) h0
   have hal:(anc ++ [(pl:Int)]).length = anc.length + 1:=by simp
   have hal2:anc.length ≤ pl:=by rw [List.length_append] at h5;omega
   obtain ⟨t1,a1,a2,a3⟩:=seg13 hx sub (pl:Int) (pl + 1) (anc ++ [(pl:Int)]) [] hA1 (by rw [hal];exact g5) (.inr ⟨anc,rfl⟩) (by omega) (by simp) (by rw [List.append_nil,hal];omega) (by omega) (by simp)
   have ht1:∀ t ∈ t1,((pl + 1:Nat):Int) ≤ t:=fun t ht=>by
     rcases a2 t ht with h | h
     · cases h
     · exact h
   obtain ⟨t2,b1,b2,b3⟩:=seg13 hx rest par (pl + 1 + sub.len) anc ((pl:Int) :: t1) hA2 g6 h2 (by omega) (fun t ht=>by
     rcases List.mem_cons.1 ht with rfl | ht
     · omega
     · have:=ht1 t ht;omega) (by rw [List.append_assoc] at a3;simpa using a3) (by omega) (fun t ht=>by
     have ht:(pl:Int) = t:=by simpa using ht
     subst ht
     exact ⟨pl,_,rfl,hi,g4⟩)
   rw [List.append_nil] at a1
   refine ⟨t2,?_,fun t ht=>?_,by rw [Fo.len];omega⟩
   · have hG:=(Goes.one hst).trans a1
     rw [show anc ++ [(pl:Int)] ++ t1 = anc ++ (pl:Int) :: t1 by simp] at hG
     have hG:=hG.trans b1
     rw [Fo.len,show pl + (1 + sub.len + rest.len) = pl + 1 + sub.len + rest.len by omega]
     exact hG
   · rcases b2 t ht with h | h
     · rcases List.mem_cons.1 h with rfl | h
       · exact .inr (Int.le_refl _)
       · have:=ht1 t h;exact .inr (by omega)
     · exact .inr (by omega)
theorem F13_enc {F:Fo} (hG:F.Good 0) (hl:F.len ≤ 2000):F13 (F.enc (-1) 0) = some 0:=by
 rw [F13_def,zBU (by rw [zBy,zCB,zBC,Fo.enc_len];exact decide_eq_false (by omega))]
 obtain ⟨t,h1,_⟩:=seg13 (x:=F.enc (-1) 0) (by rw [Fo.enc_len];exact hl) F (-1) 0 [] [] (At.all _) hG (.inl ⟨rfl,rfl⟩) (by omega) (by simp) (by simp) (by omega) (by simp)
 refine join_l (s:=()) (h1.fin ?_)
 unfold b13
 dsimp only
 rw [zBy,zBU (by rw [zCB,zBC,Fo.enc_len];exact decide_eq_false (by omega))]
end Go.Fl
