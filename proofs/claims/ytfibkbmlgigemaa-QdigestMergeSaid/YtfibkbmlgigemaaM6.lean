/- Part 6 of what the claim leans on: QAddS, QAdd, QIns, QInsert, QAdd2S, QAdd2, QBlen, QClone, QSort, QHeapC, QLay, QLayS, QSpec, QF1, QRd, QRdS, QF2, QPlain, QRankP, QHeapP, QHeapO, QCmp, QCmp2, QCmp3, QCmp4, QAwk, QLaw6, QPut, QRanks, QBuild, QMerge, QVar, QVar2, QVar3, QVar4, QVar5, QVar6. -/
import Derived.Test.YtfibkbmlgigemaaM5
import Derived.Calls
import Derived.KernelRfl
import Derived.Orders
import Derived.Laws.Sem
import Derived.Laws.CopyRow
import Derived.Laws.Cells
import Derived.Room.Entries
import Derived.Lib.Overlaps
import GoSem.Conv.BytesToString
import Derived.OrdersHeld
import Derived.ProofKit
import Derived.OpenShut
import Derived.Carry
import Derived.Shelf.SlSortCmp.InsertionK
import Derived.Shelf.Sort.Plain
import Derived.Test.YtfibkbmlgigemaaProg
import Derived.Shelf.SlSortCmp.WholeK
import Derived.Ground.SlsfProg
import Derived.RangeFuncNested
import Derived.RangeFuncBound
import Derived.RangeFuncCalls
import Derived.RangeFuncLeaves
import Derived.Shelf.Abstract
import Derived.Shelf.RegionOpen
import Derived.WalkKit
import Derived.OwnWalkIn
import Derived.TacticsInMore
import Derived.LoopNIn
import Derived.LoopIn
set_option linter.unusedVariables false
set_option linter.unusedSectionVars false
namespace Go.Proofs.Qd
open Go Go.Ab
variable [Go.Ab.DM]
def digD (bits k count:Int) (nodes:List (Int × Int)):D:=.agg [iD bits,iD k,iD count,.fz 2 (nodes.map zBL)]
theorem zBn {b k c:Int} {d:D} (h:d = digD b k c []):leD (.agg [iD b,iD k,iD c,.v (.slice none 0 0)]) d:=by
 subst h;simp only [leD,lesD,digD];exact ⟨_,rfl,_,_,rfl,rfl,_,_,rfl,rfl,_,_,rfl,rfl,_,_,rfl,.inr ⟨2,rfl⟩,rfl⟩
theorem zAd {x y a b:D} (h:leD x a) (h':leD y b):leD (.tup [x,y]) (.tup [a,b]):=by simp only [leD,lesD];exact ⟨_,rfl,_,_,rfl,h,_,_,rfl,h',rfl⟩
theorem zBD (k:IntKind) (n:Int):leD (.v (.int k n)) (.v (.int k n)):=by simp [leD]
def lb (nodes:List (Int × Int)) (t:Int):Nat:=(nodes.takeWhile fun p=>decide (p.1 < t)).length
def fnd (nodes:List (Int × Int)) (t:Int):Bool:=nodes.any fun p=>p.1 == t
theorem lb_eq:∀ {nodes:List (Int × Int)} {t:Int} {i:Nat},i ≤ nodes.length → (∀ k (h:k < nodes.length),k < i → nodes[k].1 < t) → (∀ k (h:k < nodes.length),i ≤ k → t ≤ nodes[k].1) → lb nodes t = i
 | [],t,i,h,_,_=>by simp at h;subst h;rfl
 | p :: l,t,0,_,_,h2=>by
   have:=h2 0 (by simp) (by omega)
   rw [List.getElem_cons_zero] at this
   rw [lb,List.takeWhile_cons_of_neg (by simpa using this)];rfl
 | p :: l,t,i + 1,h,h1,h2=>by
   have h0:=h1 0 (by simp) (by omega)
   rw [List.getElem_cons_zero] at h0
   have:=lb_eq (nodes:=l) (t:=t) (i:=i) (by simpa using h) (fun k hk hki=>by have:=h1 (k + 1) (by simpa using hk) (by omega);rwa [List.getElem_cons_succ] at this) (fun k hk hki=>by have:=h2 (k + 1) (by simpa using hk) (by omega);rwa [List.getElem_cons_succ] at this)
   simp [lb] at this ⊢
   rw [List.takeWhile_cons_of_pos (by simpa using h0)]
   simp [this]
theorem fnd_at {nodes:List (Int × Int)} {t:Int} {i:Nat} (hi:i < nodes.length) (hs:∀ j k (hj:j < k) (hk:k < nodes.length),nodes[j].1 < nodes[k].1) (h1:∀ k (h:k < nodes.length),k < i → nodes[k].1 < t) (h2:∀ k (h:k < nodes.length),i ≤ k → t ≤ nodes[k].1):fnd nodes t = decide (nodes[i].1 = t):=by
 rw [Bool.eq_iff_iff]
 simp only [fnd,List.any_eq_true,beq_iff_eq,decide_eq_true_eq]
 constructor
 · rintro ⟨p,hp,rfl⟩
   obtain ⟨k,hk,rfl⟩:=List.getElem_of_mem hp
   rcases Nat.lt_trichotomy k i with h | h | h
   · have:=h1 k hk h;omega
   · subst h;rfl
   · have:=hs i k h hk;have:=h2 i hi (Nat.le_refl _);omega
 · intro h;exact ⟨_,List.getElem_mem hi,h⟩
theorem fnd_none {nodes:List (Int × Int)} {t:Int} (h1:∀ k (h:k < nodes.length),nodes[k].1 < t):fnd nodes t = false:=by
 rw [Bool.eq_false_iff]
 simp only [fnd,ne_eq,List.any_eq_true,beq_iff_eq]
 rintro ⟨p,hp,rfl⟩
 obtain ⟨k,hk,rfl⟩:=List.getElem_of_mem hp
 have:=h1 k hk;omega
end Go.Proofs.Qd
set_option linter.unusedSimpArgs false
namespace Go.Proofs.Qd
open Go Go.Ab Go.Proofs.Ytfibkbmlgigemaa.AbT
variable [Go.Ab.DM]
set_option maxHeartbeats 2000000 in
theorem q_cl42 (x y t:Int):Pure Try.prog 42 [.agg [iD x,iD y],iD t] (fun d=>d = iD (IntKind.i64.wrap (x - t))):=by
 refine zAc Try.func42 rfl (by kernel_rfl) Try.ntmps42 (by simp) ?_
 refine zAF fun Y0 hY0=>?_
 refine zAG ?_
 try simp only [↓zAH,EVq,TY,zAE,↓reduceIte,Nat.reduceLT,Nat.reduceLeDiff,Nat.reduceEqDiff,Nat.reduceAdd,Nat.reduceMul,Int.reduceLE,eq_self]
 refine zAD [1,2] ?_
 simp only [KQ,↓KP,↓reduceIte,Nat.reduceEqDiff]
 subst hY0
 refine zAF fun Y1 hY1=>?_
 refine zAG ?_
 try simp only [↓zAH,EVq,TY,zAE,↓reduceIte,Nat.reduceLT,Nat.reduceLeDiff,Nat.reduceEqDiff,Nat.reduceAdd,Nat.reduceMul,Int.reduceLE,eq_self]
 refine zAD [4] ?_
 simp only [KQ,↓KP,↓reduceIte,Nat.reduceEqDiff]
 subst hY1
 refine run_ret0 3 Try.func42 Try.results42 (by simp only [aRes,↓zAU,↓KP,KQ,↓reduceIte,Nat.reduceEqDiff,zBh,TY] <;> rfl) rfl ?_
 rfl
set_option maxHeartbeats 2000000 in
theorem q_bs (nodes:List (Int × Int)) (t:Int) (hn:nodes.length ≤ 100000000) (ht:0 ≤ t ∧ t ≤ 1099511627776) (hb:∀ k (h:k < nodes.length),0 ≤ nodes[k].1 ∧ nodes[k].1 ≤ 1099511627776) (hs:∀ j k (hj:j < k) (hk:k < nodes.length),nodes[j].1 < nodes[k].1):Pure Try.prog 41 [.fz 2 (nodes.map zBL),iD t,.fn (.func 42) [] []] (fun d=>d = .tup [iD (lb nodes t),.v (.bool (fnd nodes t))]):=by
 refine zAc Try.func41 rfl (by kernel_rfl) Try.ntmps41 (by simp) ?_
 have hl:(nodes.map zBL).length = nodes.length:=List.length_map ..
 refine zAF fun Y0 hY0=>?_
 refine zAG ?_
 try simp only [↓zAH,EVq,TY,zAE,↓reduceIte,Nat.reduceLT,Nat.reduceLeDiff,Nat.reduceEqDiff,Nat.reduceAdd,Nat.reduceMul,Int.reduceLE,eq_self]
 refine zAD [0,1,2] ?_
 simp only [KQ,↓KP,↓reduceIte,Nat.reduceEqDiff]
 subst hY0
 refine zAF fun Y1 hY1=>?_
 refine zAG ?_
 try simp only [↓zAH,EVq,TY,zAE,↓reduceIte,Nat.reduceLT,Nat.reduceLeDiff,Nat.reduceEqDiff,Nat.reduceAdd,Nat.reduceMul,Int.reduceLE,eq_self]
 refine zAD [0,1,2,8] ?_
 simp only [KQ,↓KP,↓reduceIte,Nat.reduceEqDiff]
 subst hY1
 refine zAF fun Y2 hY2=>?_
 refine zAG ?_
 try simp only [↓zAH,EVq,TY,zAE,↓reduceIte,Nat.reduceLT,Nat.reduceLeDiff,Nat.reduceEqDiff,Nat.reduceAdd,Nat.reduceMul,Int.reduceLE,eq_self]
 refine zAD [0,1,2,8,9,10] ?_
 simp only [KQ,↓KP,↓reduceIte,Nat.reduceEqDiff]
 subst hY2
 refine zAF fun Y3 hY3=>?_
 refine zCf ?_
 refine zAD [0,1,2,8,9,10] ?_
 simp only [KQ,↓KP,↓reduceIte,Nat.reduceEqDiff]
 refine run_loop' (fun m e H=>∃ (i j:Nat),m = j - i ∧ i ≤ j ∧ j ≤ nodes.length ∧ (∀ k (h:k < nodes.length),k < i → nodes[k].1 < t) ∧ (∀ k (h:k < nodes.length),j ≤ k → t ≤ nodes[k].1) ∧ e = envL [(0,.fz 2 (nodes.map zBL)),(1,iD t),(2,.fn (.func 42) [] []),(8,iD (nodes.map zBL).length),(9,iD (i:Nat)),(10,iD (j:Nat))] ∧ H = []) nodes.length
   ⟨0,nodes.length,by simp,by omega,by omega,fun k _ hk=>by omega,fun k h hk=>by omega,by rw [hl];rfl,rfl⟩ ?_
 intro C hC m e H ih hI
 obtain ⟨i,j,rfl,hij,hj,hlo,hhi,rfl,rfl⟩:=hI
 have eh1:IntKind.i64.wrap ((i:Int) + (j:Int)) = ((i + j:Nat):Int):=by rw [zAf (by omega) (by omega)];omega
 have eh2:IntKind.u64.wrap ((i + j:Nat):Int) = ((i + j:Nat):Int):=by simp [IntKind.wrap,IntKind.signed,IntKind.bits];omega
 have eh3:Int.fdiv ((i + j:Nat):Int) (2 ^ min (Int.toNat 1) IntKind.u64.bits) = (((i + j) / 2:Nat):Int):=by
   rw [show (2:Int) ^ min (Int.toNat 1) IntKind.u64.bits = 2 from rfl,Int.fdiv_eq_ediv_of_nonneg _ (by omega)];omega
 have eh4:IntKind.i64.wrap (((i + j) / 2:Nat):Int) = (((i + j) / 2:Nat):Int):=zAf (by omega) (by omega)
 refine zAF fun Y4 hY4=>?_
 refine zAF fun Y5 hY5=>?_
 refine zAG ?_
 try simp only [↓zAH,EVq,TY,zAE,↓reduceIte,Nat.reduceLT,Nat.reduceLeDiff,Nat.reduceEqDiff,Nat.reduceAdd,Nat.reduceMul,Int.reduceLE,eq_self]
 refine zAD [0,1,2,8,9,10,17] ?_
 simp only [KQ,↓KP,↓reduceIte,Nat.reduceEqDiff]
 subst hY5
 first | refine run_if (by simp only [↓zAU,↓zAY,↓zAh,↓zAO,↓reduceIte,Nat.reduceEqDiff] <;> rfl) (fun h17=>?_) fun h17=>?_ | refine zCM (by simp only [↓zAU,↓zAY,↓zAh,↓zAO,↓reduceIte,Nat.reduceEqDiff] <;> rfl) (fun h17=>?_) fun h17=>?_
 · refine zBt ?_
   subst hY4
   refine zCf ?_
   refine zAF fun Y6 hY6=>?_
   refine zAG ?_
   try simp only [eh1,eh2,eh3,eh4,↓zAH,EVq,TY,zAE,↓reduceIte,Nat.reduceLT,Nat.reduceLeDiff,Nat.reduceEqDiff,Nat.reduceAdd,Nat.reduceMul,Int.reduceLE,eq_self]
   refine zAD [0,1,2,8,9,10,11] ?_
   simp only [KQ,↓KP,↓reduceIte,Nat.reduceEqDiff]
   subst hY6
   refine zAF fun Y7 hY7=>?_
   have hlt:(i + j) / 2 < nodes.length:=by omega
   have hbb:=hb _ hlt
   have ec:IntKind.i64.wrap (nodes[(i + j) / 2].1 - t) = nodes[(i + j) / 2].1 - t:=zAf (by omega) (by omega)
   refine zAG ?_
   try simp only [map_get hlt,ec,↓zAH,EVq,TY,zAE,↓reduceIte,Nat.reduceLT,Nat.reduceLeDiff,Nat.reduceEqDiff,Nat.reduceAdd,Nat.reduceMul,Int.reduceLE,eq_self]
   refine zAs (by omega) ?_
   try simp only [map_get hlt,ec,↓zAH,EVq,TY,zAE,↓reduceIte,Nat.reduceLT,Nat.reduceLeDiff,Nat.reduceEqDiff,Nat.reduceAdd,Nat.reduceMul,Int.reduceLE,eq_self]
   refine zDA ((q_cl42 _ _ _).frame (by simp [zAb,D.noref]) _).sound (fun d Hx hd=>?_)
   obtain ⟨rfl,rfl⟩:=hd
   try simp only [map_get hlt,ec,↓zAH,EVq,TY,zAE,↓reduceIte,Nat.reduceLT,Nat.reduceLeDiff,Nat.reduceEqDiff,Nat.reduceAdd,Nat.reduceMul,Int.reduceLE,eq_self]
   refine zAD [0,1,2,8,9,10,11,31] ?_
   simp only [KQ,↓KP,↓reduceIte,Nat.reduceEqDiff]
   subst hY7
   first | refine run_if (by simp only [↓zAU,↓zAY,↓zAh,↓zAO,↓reduceIte,Nat.reduceEqDiff] <;> rfl) (fun h31=>?_) fun h31=>?_ | refine zCM (by simp only [↓zAU,↓zAY,↓zAh,↓zAO,↓reduceIte,Nat.reduceEqDiff] <;> rfl) (fun h31=>?_) fun h31=>?_
   · refine zAG ?_
     try simp only [↓zAH,EVq,TY,zAE,↓reduceIte,Nat.reduceLT,Nat.reduceLeDiff,Nat.reduceEqDiff,Nat.reduceAdd,Nat.reduceMul,Int.reduceLE,eq_self]
     refine zAD [0,1,2,8,9,10] ?_
     simp only [KQ,↓KP,↓reduceIte,Nat.reduceEqDiff]
     refine zCX ?_
     refine zAD [0,1,2,8,9,10] ?_
     simp only [KQ,↓KP,↓reduceIte,Nat.reduceEqDiff]
     first
       | refine ih (j - ((i + j) / 2 + 1)) _ _ (by omega) ⟨(i + j) / 2 + 1,j,rfl,by omega,by omega,?_,hhi,?_,rfl⟩
         · intro k h hk
           rcases Nat.lt_or_ge k ((i + j) / 2) with h' | h'
           · have:=hs k _ h' hlt;omega
           · have:k = (i + j) / 2:=by omega
             subst this;omega
         · rw [zAf (x:=(((i + j) / 2:Nat):Int) + 1) (by omega) (by omega)];rfl
       | refine ih ((i + j) / 2 - i) _ _ (by omega) ⟨i,(i + j) / 2,rfl,by omega,by omega,hlo,?_,rfl,rfl⟩
         · intro k h hk
           rcases Nat.lt_or_ge ((i + j) / 2) k with h' | h'
           · have:=hs _ k h' h;omega
           · have:k = (i + j) / 2:=by omega
             subst this;omega
   · refine zAG ?_
     try simp only [↓zAH,EVq,TY,zAE,↓reduceIte,Nat.reduceLT,Nat.reduceLeDiff,Nat.reduceEqDiff,Nat.reduceAdd,Nat.reduceMul,Int.reduceLE,eq_self]
     refine zAD [0,1,2,8,9,10] ?_
     simp only [KQ,↓KP,↓reduceIte,Nat.reduceEqDiff]
     refine zCX ?_
     refine zAD [0,1,2,8,9,10] ?_
     simp only [KQ,↓KP,↓reduceIte,Nat.reduceEqDiff]
     first
       | refine ih (j - ((i + j) / 2 + 1)) _ _ (by omega) ⟨(i + j) / 2 + 1,j,rfl,by omega,by omega,?_,hhi,?_,rfl⟩
         · intro k h hk
           rcases Nat.lt_or_ge k ((i + j) / 2) with h' | h'
           · have:=hs k _ h' hlt;omega
           · have:k = (i + j) / 2:=by omega
             subst this;omega
         · rw [zAf (x:=(((i + j) / 2:Nat):Int) + 1) (by omega) (by omega)];rfl
       | refine ih ((i + j) / 2 - i) _ _ (by omega) ⟨i,(i + j) / 2,rfl,by omega,by omega,hlo,?_,rfl,rfl⟩
         · intro k h hk
           rcases Nat.lt_or_ge ((i + j) / 2) k with h' | h'
           · have:=hs _ k h' h;omega
           · have:k = (i + j) / 2:=by omega
             subst this;omega
 · refine zDj (by rfl) ?_
   subst hY3
   refine zAF fun Y8 hY8=>?_
   refine zAG ?_
   try simp only [↓zAH,EVq,TY,zAE,↓reduceIte,Nat.reduceLT,Nat.reduceLeDiff,Nat.reduceEqDiff,Nat.reduceAdd,Nat.reduceMul,Int.reduceLE,eq_self]
   first | refine gK_p (fun h39 d39=>?_) fun h39 d39=>?_ | refine gK_b (fun h39 d39=>?_) fun h39 d39=>?_
   · try simp only [d39,↓zAH,EVq,TY,zAE,↓reduceIte,Nat.reduceLT,Nat.reduceLeDiff,Nat.reduceEqDiff,Nat.reduceAdd,Nat.reduceMul,Int.reduceLE,eq_self]
     have hlt:i < nodes.length:=by omega
     have hbb:=hb _ hlt
     have ec:IntKind.i64.wrap (nodes[i].1 - t) = nodes[i].1 - t:=zAf (by omega) (by omega)
     refine zAs (by omega) ?_
     try simp only [map_get hlt,ec,d39,↓zAH,EVq,TY,zAE,↓reduceIte,Nat.reduceLT,Nat.reduceLeDiff,Nat.reduceEqDiff,Nat.reduceAdd,Nat.reduceMul,Int.reduceLE,eq_self]
     try simp only [d39,↓zAH,EVq,TY,zAE,↓reduceIte,Nat.reduceLT,Nat.reduceLeDiff,Nat.reduceEqDiff,Nat.reduceAdd,Nat.reduceMul,Int.reduceLE,eq_self]
     refine zDA ((q_cl42 _ _ _).frame (by simp [zAb,D.noref]) _).sound (fun d Hx hd=>?_)
     obtain ⟨rfl,rfl⟩:=hd
     try simp only [ec,d39,↓zAH,EVq,TY,zAE,↓reduceIte,Nat.reduceLT,Nat.reduceLeDiff,Nat.reduceEqDiff,Nat.reduceAdd,Nat.reduceMul,Int.reduceLE,eq_self]
     try simp only [d39,↓zAH,EVq,TY,zAE,↓reduceIte,Nat.reduceLT,Nat.reduceLeDiff,Nat.reduceEqDiff,Nat.reduceAdd,Nat.reduceMul,Int.reduceLE,eq_self]
     refine zAD [6,7] ?_
     simp only [KQ,↓KP,↓reduceIte,Nat.reduceEqDiff]
     subst hY8
     refine run_ret0 3 Try.func41 Try.results41 (by simp only [aRes,↓zAU,↓KP,KQ,↓reduceIte,Nat.reduceEqDiff,zBh,TY] <;> rfl) rfl ?_
     have hij':i = j:=by omega
     subst hij'
     rw [lb_eq hj hlo hhi]
     first
       | (rw [fnd_at (by omega) hs hlo hhi]
          have:decide (nodes[i].1 - t = 0) = decide (nodes[i].1 = t):=by rw [decide_eq_decide];omega
          rw [← this];rfl)
       | (rw [fnd_none (fun k h=>hlo k h (by omega))];rfl)
   · try simp only [d39,↓zAH,EVq,TY,zAE,↓reduceIte,Nat.reduceLT,Nat.reduceLeDiff,Nat.reduceEqDiff,Nat.reduceAdd,Nat.reduceMul,Int.reduceLE,eq_self]
     refine zAD [6,7] ?_
     simp only [KQ,↓KP,↓reduceIte,Nat.reduceEqDiff]
     subst hY8
     refine run_ret0 3 Try.func41 Try.results41 (by simp only [aRes,↓zAU,↓KP,KQ,↓reduceIte,Nat.reduceEqDiff,zBh,TY] <;> rfl) rfl ?_
     have hij':i = j:=by omega
     subst hij'
     rw [lb_eq hj hlo hhi]
     first
       | (rw [fnd_at (by omega) hs hlo hhi]
          have:decide (nodes[i].1 - t = 0) = decide (nodes[i].1 = t):=by rw [decide_eq_decide];omega
          rw [← this];rfl)
       | (rw [fnd_none (fun k h=>hlo k h (by omega))];rfl)
end Go.Proofs.Qd
namespace Go.Proofs.Qd
open Go Go.Ab Go.Proofs.Ytfibkbmlgigemaa.AbT
variable [Go.Ab.DM]
theorem ov1:Extern.findNext Try.f75 = none:=by kernel_rfl
theorem ov2:Extern.find Try.f75 = some (Extern.SlicesOverlaps.overlaps #[22,22] #[4]):=by kernel_rfl
theorem ov0:Try.prog.funcs[75]? = some Try.f75:=Try.func75
def insL (nodes:List (Int × Int)) (i:Nat) (p:Int × Int):List (Int × Int):=nodes.take i ++ p :: nodes.drop i
theorem splice_end {L:List D} {z q:D}:zCK (L ++ [z]) L.length [q] = L ++ [q]:=by simp [zCK]
theorem splice_ins {L:List D} {z q:D} {i:Nat} (hi:i ≤ L.length):zCK (zCK (L ++ [z]) (i + 1) (L.drop i)) i [q] = L.take i ++ q :: L.drop i:=by
 have h1:zCK (L ++ [z]) (i + 1) (L.drop i) = (L ++ [z]).take (i + 1) ++ L.drop i:=by
   simp only [zCK,List.length_drop]
   have e:(L ++ [z]).drop (i + 1 + (L.length - i)) = []:=List.drop_of_length_le (by simp;omega)
   rw [e,List.append_nil]
 have h2:((L ++ [z]).take (i + 1)).length = i + 1:=by simp;omega
 rw [h1]
 simp only [zCK,List.length_singleton]
 have e1:((L ++ [z]).take (i + 1) ++ L.drop i).take i = L.take i:=by
   rw [List.take_append_of_le_length (by omega),List.take_take,Nat.min_eq_left (by omega),List.take_append_of_le_length hi]
 have e2:((L ++ [z]).take (i + 1) ++ L.drop i).drop (i + 1) = L.drop i:=by
   exact List.drop_left' h2
 rw [e1,e2];simp
theorem mid_ins {L:List D} {z:D} {i a b:Nat} (hi:i ≤ L.length) (ha:a = L.length + 1 - i) (hb:b = L.length - i):(((L ++ [z]).drop i).take a).take b = L.drop i:=by
 subst ha;subst hb
 rw [List.take_take,Nat.min_eq_left (by omega),List.drop_append_of_le_length hi,List.take_append_of_le_length (by simp),List.take_of_length_le (by simp)]
theorem map_ins (nodes:List (Int × Int)) (i:Nat) (p:Int × Int):(insL nodes i p).map zBL = (nodes.map zBL).take i ++ zBL p :: (nodes.map zBL).drop i:=by simp [insL,List.map_take,List.map_drop]
end Go.Proofs.Qd
namespace Go.Proofs.Qd
open Go Go.Ab Go.Proofs.Ytfibkbmlgigemaa.AbT
variable [Go.Ab.DM]
set_option maxHeartbeats 2000000 in
theorem q_insert (H:Heap) (r r2 i:Nat) (nodes:List (Int × Int)) (p:Int × Int) (z:D) (hg:H.get r = some (.cells 2 (nodes.map zBL ++ [z]))) (hg2:H.get r2 = some (.cells 2 [zBL p])) (hne:r2 ≠ r) (hi:i ≤ nodes.length) (hn:nodes.length ≤ 1000000):Sound Try.prog 43 [.slc r 0 nodes.length (nodes.length + 1),iD i,.sl r2 0 1] H (fun d H'=>H' = H.set r (some (.cells 2 ((insL nodes i p).map zBL))) ∧ d = .slc r 0 (nodes.length + 1) (nodes.length + 1)):=by
 refine zAc Try.func43 rfl (by kernel_rfl) Try.ntmps43 (by simp) ?_
 have hl:(nodes.map zBL).length = nodes.length:=List.length_map ..
 have hl1:(nodes.map zBL ++ [z]).length = nodes.length + 1:=by simp
 have hrl:=Heap.get_lt hg
 have q1:∀ X,Heap.get (H.set r X) r = X:=fun X=>zBp hrl X
 have q2:∀ X,Heap.get (H.set r X) r2 = some (.cells 2 [zBL p]):=fun X=>(zCQ hrl hne X).trans hg2
 have hz:(((1:Nat):Int) = 0) = False:=by simp
 have ew:IntKind.i64.wrap ((nodes.length:Int) + ((1:Nat):Int)) = ((nodes.length + 1:Nat):Int):=by rw [zAf (by omega) (by omega)];omega
 have ei:IntKind.i64.wrap ((i:Int) + ((1:Nat):Int)) = ((i + 1:Nat):Int):=by rw [zAf (by omega) (by omega)];omega
 have hlt:(((nodes.length + 1:Nat):Int) < ((nodes.length + 1:Nat):Int)) = False:=by simp
 refine zAF fun Y0 hY0=>?_
 refine zAG ?_
 try simp only [↓zAH,EVq,TY,zAE,↓reduceIte,Nat.reduceLT,Nat.reduceLeDiff,Nat.reduceEqDiff,Nat.reduceAdd,Nat.reduceMul,Int.reduceLE,eq_self]
 refine zAD [0,1,2] ?_
 simp only [KQ,↓KP,↓reduceIte,Nat.reduceEqDiff]
 subst hY0
 refine zAF fun Y1 hY1=>?_
 refine zAG ?_
 try simp only [hg,↓zAH,EVq,TY,zAE,↓reduceIte,Nat.reduceLT,Nat.reduceLeDiff,Nat.reduceEqDiff,Nat.reduceAdd,Nat.reduceMul,Int.reduceLE,eq_self]
 refine zAs (by omega) ?_
 try simp only [hg,↓zAH,EVq,TY,zAE,↓reduceIte,Nat.reduceLT,Nat.reduceLeDiff,Nat.reduceEqDiff,Nat.reduceAdd,Nat.reduceMul,Int.reduceLE,eq_self]
 refine zAD [0,1,2] ?_
 simp only [KQ,↓KP,↓reduceIte,Nat.reduceEqDiff]
 subst hY1
 refine zAF fun Y2 hY2=>?_
 refine zAG ?_
 try simp only [↓zAH,EVq,TY,zAE,↓reduceIte,Nat.reduceLT,Nat.reduceLeDiff,Nat.reduceEqDiff,Nat.reduceAdd,Nat.reduceMul,Int.reduceLE,eq_self]
 refine zAD [0,1,2,7] ?_
 simp only [KQ,↓KP,↓reduceIte,Nat.reduceEqDiff]
 subst hY2
 refine zAF fun Y3 hY3=>?_
 refine zAF fun Y4 hY4=>?_
 refine zAG ?_
 try simp only [hz,↓zAH,EVq,TY,zAE,↓reduceIte,Nat.reduceLT,Nat.reduceLeDiff,Nat.reduceEqDiff,Nat.reduceAdd,Nat.reduceMul,Int.reduceLE,eq_self]
 refine zAD [0,1,2,7,16] ?_
 simp only [KQ,↓KP,↓reduceIte,Nat.reduceEqDiff]
 subst hY4
 refine run_if_f (by simp only [↓zAU,↓zAY,↓zAh,↓zAO,↓reduceIte,Nat.reduceEqDiff] <;> rfl) ?_
 refine zBt ?_
 subst hY3
 refine zAF fun Y5 hY5=>?_
 refine zAG ?_
 try simp only [↓zAH,EVq,TY,zAE,↓reduceIte,Nat.reduceLT,Nat.reduceLeDiff,Nat.reduceEqDiff,Nat.reduceAdd,Nat.reduceMul,Int.reduceLE,eq_self]
 refine zAD [0,1,2,7,8] ?_
 simp only [KQ,↓KP,↓reduceIte,Nat.reduceEqDiff]
 subst hY5
 refine zAF fun Y6 hY6=>?_
 refine zAF fun Y7 hY7=>?_
 refine zAG ?_
 try simp only [↓zAH,EVq,TY,zAE,↓reduceIte,Nat.reduceLT,Nat.reduceLeDiff,Nat.reduceEqDiff,Nat.reduceAdd,Nat.reduceMul,Int.reduceLE,eq_self]
 refine zAD [0,1,2,7,8,22] ?_
 simp only [KQ,↓KP,↓reduceIte,Nat.reduceEqDiff]
 subst hY7
 first | refine run_if (by simp only [↓zAU,↓zAY,↓zAh,↓zAO,↓reduceIte,Nat.reduceEqDiff] <;> rfl) (fun h22=>?_) fun h22=>?_ | refine zCM (by simp only [↓zAU,↓zAY,↓zAh,↓zAO,↓reduceIte,Nat.reduceEqDiff] <;> rfl) (fun h22=>?_) fun h22=>?_
 · refine zAF fun Y8 hY8=>?_
   refine zAG ?_
   try simp only [hg,hg2,Int.toNat_natCast,Int.toNat_zero,Nat.sub_zero,Nat.zero_add,↓zAH,EVq,TY,zAE,↓reduceIte,Nat.reduceLT,Nat.reduceLeDiff,Nat.reduceEqDiff,Nat.reduceAdd,Nat.reduceMul,Int.reduceLE,eq_self]
   refine zAs ⟨by omega,by omega⟩ ?_
   try simp only [hg,hg2,Int.toNat_natCast,Int.toNat_zero,Nat.sub_zero,Nat.zero_add,↓zAH,EVq,TY,zAE,↓reduceIte,Nat.reduceLT,Nat.reduceLeDiff,Nat.reduceEqDiff,Nat.reduceAdd,Nat.reduceMul,Int.reduceLE,eq_self]
   refine zAD [6] ?_
   simp only [KQ,↓KP,↓reduceIte,Nat.reduceEqDiff]
   subst hY8
   refine zCq Try.func43 Try.results43 (by simp only [aRes,↓zAU,↓KP,KQ,↓reduceIte,Nat.reduceEqDiff,zBh,TY] <;> rfl) (Weak.refl _ _ _) ?_
   first
     | (have hin:i = nodes.length:=by omega
        subst hin
        refine ⟨?_,rfl⟩
        have e:=splice_end (L:=nodes.map zBL) (z:=z) (q:=zBL p)
        rw [hl] at e
        rw [e,map_ins,List.take_of_length_le (by omega),List.drop_of_length_le (by omega)])
     | (refine ⟨?_,rfl⟩
        rw [List.set_set,mid_ins (by omega) (by omega) (by simp;omega),map_ins]
        have e:=splice_ins (L:=nodes.map zBL) (z:=z) (q:=zBL p) (i:=i) (by omega)
        rw [← e,show min 1 (nodes.length + 1 - i) = 1 by omega]
        rfl)
 · refine zBt ?_
   subst hY6
   refine zAF fun Y9 hY9=>?_
   refine zAF fun Y10 hY10=>?_
   refine zAG ?_
   try simp only [ew,hlt,↓zAH,EVq,TY,zAE,↓reduceIte,Nat.reduceLT,Nat.reduceLeDiff,Nat.reduceEqDiff,Nat.reduceAdd,Nat.reduceMul,Int.reduceLE,eq_self]
   refine zAD [0,1,2,7,8,31] ?_
   simp only [KQ,↓KP,↓reduceIte,Nat.reduceEqDiff]
   subst hY10
   refine run_if_f (by simp only [↓zAU,↓zAY,↓zAh,↓zAO,↓reduceIte,Nat.reduceEqDiff] <;> rfl) ?_
   refine zBt ?_
   subst hY9
   refine zAF fun Y11 hY11=>?_
   refine zAG ?_
   try simp only [hg,ew,Int.toNat_natCast,Int.toNat_zero,Nat.sub_zero,Nat.zero_add,↓zAH,EVq,TY,zAE,↓reduceIte,Nat.reduceLT,Nat.reduceLeDiff,Nat.reduceEqDiff,Nat.reduceAdd,Nat.reduceMul,Int.reduceLE,eq_self]
   refine zAs (by omega) ?_
   try simp only [hg,ew,Int.toNat_natCast,Int.toNat_zero,Nat.sub_zero,Nat.zero_add,↓zAH,EVq,TY,zAE,↓reduceIte,Nat.reduceLT,Nat.reduceLeDiff,Nat.reduceEqDiff,Nat.reduceAdd,Nat.reduceMul,Int.reduceLE,eq_self]
   refine zAD [0,1,2,7,8] ?_
   simp only [KQ,↓KP,↓reduceIte,Nat.reduceEqDiff]
   subst hY11
   refine zAF fun Y12 hY12=>?_
   refine zAF fun Y13 hY13=>?_
   refine zAG ?_
   try simp only [hg,hg2,ei,Int.toNat_natCast,Int.toNat_zero,Nat.sub_zero,Nat.zero_add,↓zAH,EVq,TY,zAE,↓reduceIte,Nat.reduceLT,Nat.reduceLeDiff,Nat.reduceEqDiff,Nat.reduceAdd,Nat.reduceMul,Int.reduceLE,eq_self]
   refine zAs (by omega) ?_
   try simp only [hg,hg2,ei,Int.toNat_natCast,Int.toNat_zero,Nat.sub_zero,Nat.zero_add,↓zAH,EVq,TY,zAE,↓reduceIte,Nat.reduceLT,Nat.reduceLeDiff,Nat.reduceEqDiff,Nat.reduceAdd,Nat.reduceMul,Int.reduceLE,eq_self]
   refine callS_ext (overlaps_ext (tS:=22) (tR:=4) (e:=71) (k:=2) ov0 (by kernel_rfl) (by kernel_rfl) ov1 ov2 el22 sz71 rfl rfl hg2 hg hne (by omega) (by decide) ?_)
   try simp only [hg,hg2,ei,Int.toNat_natCast,Int.toNat_zero,Nat.sub_zero,Nat.zero_add,↓zAH,EVq,TY,zAE,↓reduceIte,Nat.reduceLT,Nat.reduceLeDiff,Nat.reduceEqDiff,Nat.reduceAdd,Nat.reduceMul,Int.reduceLE,eq_self]
   refine zAD [0,1,2,7,8,68] ?_
   simp only [KQ,↓KP,↓reduceIte,Nat.reduceEqDiff]
   subst hY13
   refine run_if_t (by simp only [↓zAU,↓zAY,↓zAh,↓zAO,↓reduceIte,Nat.reduceEqDiff] <;> rfl) ?_
   refine zAF fun Y14 hY14=>?_
   refine run_draw [(.pure,0),(.pure,1),(.pure,2),(.pure,3),(.pure,4),(.pure,5),(.pure,6),(.pure,7),(.wr,8)] mixed (by kernel_rfl) ?_
   try simp only [hg,hg2,ei,Int.toNat_natCast,Int.toNat_zero,Nat.sub_zero,Nat.zero_add,zBN,zBc,zCy,↓zAH,EVq,TY,zAE,↓reduceIte,Nat.reduceLT,Nat.reduceLeDiff,Nat.reduceEqDiff,Nat.reduceAdd,Nat.reduceMul,Int.reduceLE,eq_self]
   refine zAs (by omega) ?_
   try simp only [hg,hg2,ei,Int.toNat_natCast,Int.toNat_zero,Nat.sub_zero,Nat.zero_add,zBN,zBc,zCy,↓zAH,EVq,TY,zAE,↓reduceIte,Nat.reduceLT,Nat.reduceLeDiff,Nat.reduceEqDiff,Nat.reduceAdd,Nat.reduceMul,Int.reduceLE,eq_self]
   refine zAs (by omega) ?_
   try simp only [hg,hg2,ei,Int.toNat_natCast,Int.toNat_zero,Nat.sub_zero,Nat.zero_add,zBN,zBc,zCy,↓zAH,EVq,TY,zAE,↓reduceIte,Nat.reduceLT,Nat.reduceLeDiff,Nat.reduceEqDiff,Nat.reduceAdd,Nat.reduceMul,Int.reduceLE,eq_self]
   refine zAs (by omega) ?_
   try simp only [hg,hg2,ei,Int.toNat_natCast,Int.toNat_zero,Nat.sub_zero,Nat.zero_add,zBN,zBc,zCy,↓zAH,EVq,TY,zAE,↓reduceIte,Nat.reduceLT,Nat.reduceLeDiff,Nat.reduceEqDiff,Nat.reduceAdd,Nat.reduceMul,Int.reduceLE,eq_self]
   refine zAs (by omega) ?_
   try simp only [hg,hg2,ei,Int.toNat_natCast,Int.toNat_zero,Nat.sub_zero,Nat.zero_add,zBN,zBc,zCy,↓zAH,EVq,TY,zAE,↓reduceIte,Nat.reduceLT,Nat.reduceLeDiff,Nat.reduceEqDiff,Nat.reduceAdd,Nat.reduceMul,Int.reduceLE,eq_self]
   refine zAD [0,1,2] ?_
   simp only [KQ,↓KP,↓reduceIte,Nat.reduceEqDiff]
   subst hY14
   refine zAF fun Y15 hY15=>?_
   refine zAG ?_
   try simp only [q1,q2,Int.toNat_natCast,Int.toNat_zero,Nat.sub_zero,Nat.zero_add,↓zAH,EVq,TY,zAE,↓reduceIte,Nat.reduceLT,Nat.reduceLeDiff,Nat.reduceEqDiff,Nat.reduceAdd,Nat.reduceMul,Int.reduceLE,eq_self]
   refine zAs (by omega) ?_
   try simp only [q1,q2,Int.toNat_natCast,Int.toNat_zero,Nat.sub_zero,Nat.zero_add,↓zAH,EVq,TY,zAE,↓reduceIte,Nat.reduceLT,Nat.reduceLeDiff,Nat.reduceEqDiff,Nat.reduceAdd,Nat.reduceMul,Int.reduceLE,eq_self]
   refine zAs (by rw [splice_len (by simp;omega)];omega) ?_
   try simp only [q1,q2,Int.toNat_natCast,Int.toNat_zero,Nat.sub_zero,Nat.zero_add,↓zAH,EVq,TY,zAE,↓reduceIte,Nat.reduceLT,Nat.reduceLeDiff,Nat.reduceEqDiff,Nat.reduceAdd,Nat.reduceMul,Int.reduceLE,eq_self]
   refine zAD [0] ?_
   simp only [KQ,↓KP,↓reduceIte,Nat.reduceEqDiff]
   subst hY15
   refine zAF fun Y16 hY16=>?_
   refine zAG ?_
   try simp only [↓zAH,EVq,TY,zAE,↓reduceIte,Nat.reduceLT,Nat.reduceLeDiff,Nat.reduceEqDiff,Nat.reduceAdd,Nat.reduceMul,Int.reduceLE,eq_self]
   refine zAD [6] ?_
   simp only [KQ,↓KP,↓reduceIte,Nat.reduceEqDiff]
   subst hY16
   refine zCq Try.func43 Try.results43 (by simp only [aRes,↓zAU,↓KP,KQ,↓reduceIte,Nat.reduceEqDiff,zBh,TY] <;> rfl) (Weak.refl _ _ _) ?_
   first
     | (have hin:i = nodes.length:=by omega
        subst hin
        refine ⟨?_,rfl⟩
        have e:=splice_end (L:=nodes.map zBL) (z:=z) (q:=zBL p)
        rw [hl] at e
        rw [e,map_ins,List.take_of_length_le (by omega),List.drop_of_length_le (by omega)])
     | (refine ⟨?_,rfl⟩
        rw [List.set_set,mid_ins (by omega) (by omega) (by simp;omega),map_ins]
        have e:=splice_ins (L:=nodes.map zBL) (z:=z) (q:=zBL p) (i:=i) (by omega)
        rw [← e,show min 1 (nodes.length + 1 - i) = 1 by omega]
        rfl)
end Go.Proofs.Qd
namespace Go.Proofs.Qd
open Go Go.Ab
variable [Go.Ab.DM]
theorem shl_pow {a bits:Int} (ha:0 ≤ a ∧ a ≤ 2) (hb:0 ≤ bits ∧ bits ≤ 20):shl a bits = a * 2 ^ bits.toNat:=by
 unfold shl
 have h1:min bits.toNat IntKind.i64.bits = bits.toNat:=by simp [IntKind.bits];omega
 rw [h1]
 have key:∀ n:Fin 21,(2:Int) ^ n.val ≤ 2 ^ 20:=by decide
 have h2:(2:Int) ^ bits.toNat ≤ 2 ^ 20:=key ⟨bits.toNat,by omega⟩
 have h3:(0:Int) ≤ 2 ^ bits.toNat:=Int.pow_nonneg (by decide)
 have h4:a * 2 ^ bits.toNat ≤ 2 * 2 ^ bits.toNat:=Int.mul_le_mul_of_nonneg_right ha.2 h3
 have h5:0 ≤ a * 2 ^ bits.toNat:=Int.mul_nonneg ha.1 h3
 exact zAf (by omega) (by omega)
structure Good (bits count th:Int) (before:Int) (nodes:List (Int × Int)):Prop where
 low:∀ k (h:k < nodes.length),before < nodes[k].1
 high:∀ k (h:k < nodes.length),nodes[k].1 < shl 2 bits
 one:∀ k (h:k < nodes.length),1 ≤ nodes[k].2 ∧ nodes[k].2 ≤ count
 inner:∀ k (h:k < nodes.length),nodes[k].1 < shl 1 bits → nodes[k].2 ≤ th
 asc:∀ j k (hj:j < k) (hk:k < nodes.length),nodes[j].1 < nodes[k].1
theorem chk_good {bits count th:Int}:∀ {nodes:List (Int × Int)} {before sum s:Int},chk bits count th nodes before sum = some s → Good bits count th before nodes ∧ s = sum + (nodes.map (·.2)).sum
 | [],before,sum,s,h=>by
   simp [chk] at h
   exact ⟨⟨by simp,by simp,by simp,by simp,by simp⟩,by simp [h]⟩
 | n :: r,before,sum,s,h=>by
   rw [chk] at h
   split at h
   · simp at h
   split at h
   · simp at h
   rename_i h1 h2
   obtain ⟨g,hs⟩:=chk_good h
   refine ⟨⟨?_,?_,?_,?_,?_⟩,?_⟩
   · intro k hk
     cases k with
     | zero=>simp only [List.getElem_cons_zero];omega
     | succ k=>simp only [List.getElem_cons_succ];have:=g.low k (by simpa using hk);omega
   · intro k hk
     cases k with
     | zero=>simp only [List.getElem_cons_zero];omega
     | succ k=>simp only [List.getElem_cons_succ];exact g.high k (by simpa using hk)
   · intro k hk
     cases k with
     | zero=>simp only [List.getElem_cons_zero];omega
     | succ k=>simp only [List.getElem_cons_succ];exact g.one k (by simpa using hk)
   · intro k hk
     cases k with
     | zero=>simp only [List.getElem_cons_zero];omega
     | succ k=>simp only [List.getElem_cons_succ];exact g.inner k (by simpa using hk)
   · intro j k hj hk
     cases k with
     | zero=>omega
     | succ k =>
       cases j with
       | zero=>simp only [List.getElem_cons_zero,List.getElem_cons_succ];exact g.low k (by simpa using hk)
       | succ j=>simp only [List.getElem_cons_succ];exact g.asc j k (by omega) (by simpa using hk)
   · rw [hs];simp [Int.add_assoc]
theorem qcheck_good {bits k count:Int} {nodes:List (Int × Int)} (h:zBC bits k count nodes = 0) :
   (1 ≤ bits ∧ bits ≤ 20 ∧ 1 ≤ k ∧ k ≤ 10000 ∧ 0 ≤ count ∧ count ≤ 1099511627776 ∧ nodes.length ≤ 2000) ∧ Good bits count (thr count k) 0 nodes ∧ (nodes.map (·.2)).sum = count:=by
 unfold zBC at h
 split at h
 · simp at h
 split at h
 · simp at h
 rename_i h1 h2
 split at h
 · rename_i s hs
   split at h
   · simp at h
   · rename_i h3
     obtain ⟨g,hg⟩:=chk_good hs
     exact ⟨by omega,g,by omega⟩
 · simp at h
def zeroDig (e:Int):D:=.tup [digD 0 0 0 [],iD e]
def bump (nodes:List (Int × Int)) (i:Nat) (n:Int):List (Int × Int):=nodes.modify i fun p=>(p.1,p.2 + n)
def zDk (bits k count:Int) (nodes:List (Int × Int)) (value n:Int):D :=
 if zBC bits k count nodes ≠ 0 then zeroDig 1
 else if value < 0 ∨ shl 1 bits ≤ value ∨ n < 1 then zeroDig 2
 else if 1099511627776 - count < n then zeroDig 4
 else if fnd nodes (shl 1 bits + value) = true then .tup [digD bits k (count + n) (bump nodes (lb nodes (shl 1 bits + value)) n),iD 0]
 else if 2000 ≤ nodes.length then zeroDig 4
 else .tup [digD bits k (count + n) (insL nodes (lb nodes (shl 1 bits + value)) (shl 1 bits + value,n)),iD 0]
theorem zCP:∀ l:List (Int × Int),zAb (l.map zBL) = true
 | []=>by simp [zAb]
 | p :: l=>by simp [zAb,D.noref,zBL,zCP l]
theorem lb_le (nodes:List (Int × Int)) (t:Int):lb nodes t ≤ nodes.length:=by unfold lb;exact (List.takeWhile_prefix _).length_le
theorem lb_lt {nodes:List (Int × Int)} {t:Int} (h:fnd nodes t = true):lb nodes t < nodes.length:=by
 simp only [fnd,List.any_eq_true,beq_iff_eq] at h
 obtain ⟨p,hp,rfl⟩:=h
 unfold lb
 induction nodes with
 | nil=>simp at hp
 | cons q l ih =>
   by_cases hq:q.1 < p.1
   · rw [List.takeWhile_cons_of_pos (by simpa using hq)]
     rcases List.mem_cons.1 hp with rfl | hp
     · omega
     · have:=ih hp;simpa using this
   · rw [List.takeWhile_cons_of_neg (by simpa using hq)];simp
theorem splice_make {L:List D} {z:D}:zCK (List.replicate (L.length + 1) z) 0 L = L ++ [z]:=by
 simp only [zCK,List.take_zero,List.nil_append,Nat.zero_add,List.drop_replicate]
 rw [show L.length + 1 - L.length = 1 by omega];rfl
theorem shl_b {bits:Int} (h:1 ≤ bits ∧ bits ≤ 20):2 ≤ shl 1 bits ∧ shl 1 bits ≤ 1048576 ∧ shl 2 bits = 2 * shl 1 bits:=by
 rw [shl_pow (by omega) (by omega),shl_pow (by omega) (by omega)]
 have key:∀ n:Fin 21,n.val ≠ 0 → (2:Int) ≤ 2 ^ n.val ∧ (2:Int) ^ n.val ≤ 1048576:=by decide
 have:=key ⟨bits.toNat,by omega⟩ (by simp;omega)
 simp only at this
 omega
theorem bump_map {nodes:List (Int × Int)} {i:Nat} {n:Int} (h:i < nodes.length) (z:D):(((nodes.map zBL ++ [z]).set i (.agg [iD nodes[i].1,iD (nodes[i].2 + n)])).drop 0).take nodes.length = (bump nodes i n).map zBL:=by
 apply List.ext_getElem?
 intro j
 simp only [List.drop_zero,List.getElem?_take,bump,List.getElem?_map,List.getElem?_modify,List.getElem?_set,List.length_append,List.length_map]
 by_cases hj:j < nodes.length
 · rw [if_pos hj]
   by_cases hij:i = j
   · subst hij;simp [h,zBL];omega
   · simp [hij,hj,List.getElem?_append_left]
 · rw [if_neg hj];simp [List.getElem?_eq_none (show nodes.length ≤ j by omega)]
theorem norefs_iff:∀ l:List D,zAb l = true ↔ ∀ d ∈ l,d.noref = true
 | []=>by simp [zAb]
 | d :: l=>by rw [zAb,Bool.and_eq_true,norefs_iff l];simp
theorem norefs_bump (nodes:List (Int × Int)) (i:Nat) (a b:Int):zAb ((nodes.map zBL ++ [D.agg [iD 0,iD 0]]).set i (.agg [iD a,iD b])) = true:=by
 rw [norefs_iff]
 intro d hd
 have hn:=(norefs_iff _).1 (zCP nodes)
 rcases List.mem_or_eq_of_mem_set hd with h | rfl
 · rcases List.mem_append.1 h with h | h
   · exact hn d h
   · simp at h;subst h;simp [D.noref,zAb]
 · simp [D.noref,zAb]
theorem zDF (b k c:Int) (l:List (Int × Int)):leD (digD b k c l) (digD b k c l):=by
 simp only [leD,lesD,digD];exact ⟨_,rfl,_,_,rfl,rfl,_,_,rfl,rfl,_,_,rfl,rfl,_,_,rfl,rfl,rfl⟩
theorem norefs_insl (nodes:List (Int × Int)) (i:Nat) (p:Int × Int):zAb ((insL nodes i p).map zBL) = true:=zCP _
end Go.Proofs.Qd
namespace Go.Proofs.Qd
open Go Go.Ab Go.Proofs.Ytfibkbmlgigemaa.AbT
variable [Go.Ab.DM]
set_option maxHeartbeats 4000000 in
theorem q_add (bits k count:Int) (nodes:List (Int × Int)) (value n:Int) (hn:nodes.length ≤ 100000000) (hv:-9223372036854775808 ≤ value ∧ value < 9223372036854775808) (hnn:-9223372036854775808 ≤ n ∧ n < 9223372036854775808):Pure Try.prog 16 [.agg [iD bits,iD k,iD count,.fz 2 (nodes.map zBL)],iD value,iD n] (fun d=>d = zDk bits k count nodes value n):=by
 refine zAc Try.func16 rfl (by kernel_rfl) Try.ntmps16 (by simp) ?_
 have hl:(nodes.map zBL).length = nodes.length:=List.length_map ..
 have eshl:IntKind.i64.wrap (1 * 2 ^ min bits.toNat IntKind.i64.bits) = shl 1 bits:=rfl
 have es:=splice_make (L:=nodes.map zBL) (z:=.agg [iD 0,iD 0])
 rw [hl] at es
 refine zAF fun Y0 hY0=>?_
 refine zAG ?_
 try simp only [↓zAH,EVq,TY,zAE,↓reduceIte,Nat.reduceLT,Nat.reduceLeDiff,Nat.reduceEqDiff,Nat.reduceAdd,Nat.reduceMul,Int.reduceLE,eq_self]
 refine zAD [1,2,3,6] ?_
 simp only [KQ,↓KP,↓reduceIte,Nat.reduceEqDiff]
 subst hY0
 refine zAF fun Y1 hY1=>?_
 refine zAF fun Y2 hY2=>?_
 refine zAG ?_
 try simp only [↓zAH,EVq,TY,zAE,↓reduceIte,Nat.reduceLT,Nat.reduceLeDiff,Nat.reduceEqDiff,Nat.reduceAdd,Nat.reduceMul,Int.reduceLE,eq_self]
 refine zDA ((Go.Q.q_check bits k count nodes hn).frame (by simp [zAb,D.noref]) _).sound (fun d Hx hd=>?_)
 obtain ⟨rfl,rfl⟩:=hd
 try simp only [↓zAH,EVq,TY,zAE,↓reduceIte,Nat.reduceLT,Nat.reduceLeDiff,Nat.reduceEqDiff,Nat.reduceAdd,Nat.reduceMul,Int.reduceLE,eq_self]
 refine zAD [1,2,3,6,14] ?_
 simp only [KQ,↓KP,↓reduceIte,Nat.reduceEqDiff]
 subst hY2
 first | refine run_if (by simp only [↓zAU,↓zAY,↓zAh,↓zAO,↓reduceIte,Nat.reduceEqDiff] <;> rfl) (fun h14=>?_) fun h14=>?_ | refine zCM (by simp only [↓zAU,↓zAY,↓zAh,↓zAO,↓reduceIte,Nat.reduceEqDiff] <;> rfl) (fun h14=>?_) fun h14=>?_
 · refine zAF fun Y3 hY3=>?_
   refine zAG ?_
   try simp only [↓zAH,EVq,TY,zAE,↓reduceIte,Nat.reduceLT,Nat.reduceLeDiff,Nat.reduceEqDiff,Nat.reduceAdd,Nat.reduceMul,Int.reduceLE,eq_self]
   refine zAD [6,7] ?_
   simp only [KQ,↓KP,↓reduceIte,Nat.reduceEqDiff]
   subst hY3
   refine zDi 3 Try.func16 Try.results16 (by simp only [aRes,↓zAU,↓KP,KQ,↓reduceIte,Nat.reduceEqDiff,zBh,TY] <;> rfl) rfl (d'':=zDk bits k count nodes value n) ?_ rfl
   first
     | (rw [zDk,if_pos (by omega)];exact zAd (zBn rfl) (zBD _ _))
     | (rw [zDk,if_neg (by omega),if_pos (by omega)];exact zAd (zBn rfl) (zBD _ _))
     | (rw [zDk,if_neg (by omega),if_neg (by omega),if_pos (by omega)];exact zAd (zBn rfl) (zBD _ _))
     | (rw [zDk,if_neg (by omega),if_neg (by omega),if_neg (by omega),if_pos h57];exact zAd (zDF _ _ _ _) (zBD _ _))
     | (rw [zDk,if_neg (by omega),if_neg (by omega),if_neg (by omega),if_neg (by simp [h57]),if_pos (by omega)];exact zAd (zBn rfl) (zBD _ _))
     | (rw [zDk,if_neg (by omega),if_neg (by omega),if_neg (by omega),if_neg (by simp [h57]),if_neg (by omega)];exact zAd (zDF _ _ _ _) (zBD _ _))
 · refine zBt ?_
   subst hY1
   refine zAF fun Y4 hY4=>?_
   refine zAF fun Y5 hY5=>?_
   have hq0:zBC bits k count nodes = 0:=by omega
   obtain ⟨⟨b1,b2,b3,b4,b5,b6,b7⟩,hgood,hsum⟩:=qcheck_good hq0
   obtain ⟨c1,c2,c3⟩:=shl_b ⟨b1,b2⟩
   refine zAG ?_
   try simp only [eshl,↓zAH,EVq,TY,zAE,↓reduceIte,Nat.reduceLT,Nat.reduceLeDiff,Nat.reduceEqDiff,Nat.reduceAdd,Nat.reduceMul,Int.reduceLE,eq_self]
   first | refine gK_n (fun h18 d18=>?_) fun h18 d18=>?_ | refine gK_b (fun h18 d18=>?_) fun h18 d18=>?_
   · try simp only [d18,eshl,↓zAH,EVq,TY,zAE,↓reduceIte,Nat.reduceLT,Nat.reduceLeDiff,Nat.reduceEqDiff,Nat.reduceAdd,Nat.reduceMul,Int.reduceLE,eq_self]
     refine zAs (by omega) ?_
     try simp only [d18,eshl,↓zAH,EVq,TY,zAE,↓reduceIte,Nat.reduceLT,Nat.reduceLeDiff,Nat.reduceEqDiff,Nat.reduceAdd,Nat.reduceMul,Int.reduceLE,eq_self]
     first | refine gK_n (fun h25 d25=>?_) fun h25 d25=>?_ | refine gK_b (fun h25 d25=>?_) fun h25 d25=>?_
     · try simp only [d18,d25,eshl,↓zAH,EVq,TY,zAE,↓reduceIte,Nat.reduceLT,Nat.reduceLeDiff,Nat.reduceEqDiff,Nat.reduceAdd,Nat.reduceMul,Int.reduceLE,eq_self]
       refine zAD [1,2,3,6,28] ?_
       simp only [KQ,↓KP,↓reduceIte,Nat.reduceEqDiff]
       subst hY5
       first | refine run_if (by simp only [↓zAU,↓zAY,↓zAh,↓zAO,↓reduceIte,Nat.reduceEqDiff] <;> rfl) (fun h28=>?_) fun h28=>?_ | refine zCM (by simp only [↓zAU,↓zAY,↓zAh,↓zAO,↓reduceIte,Nat.reduceEqDiff] <;> rfl) (fun h28=>?_) fun h28=>?_
       · refine zAF fun Y6 hY6=>?_
         refine zAG ?_
         try simp only [↓zAH,EVq,TY,zAE,↓reduceIte,Nat.reduceLT,Nat.reduceLeDiff,Nat.reduceEqDiff,Nat.reduceAdd,Nat.reduceMul,Int.reduceLE,eq_self]
         refine zAD [6,7] ?_
         simp only [KQ,↓KP,↓reduceIte,Nat.reduceEqDiff]
         subst hY6
         refine zDi 3 Try.func16 Try.results16 (by simp only [aRes,↓zAU,↓KP,KQ,↓reduceIte,Nat.reduceEqDiff,zBh,TY] <;> rfl) rfl (d'':=zDk bits k count nodes value n) ?_ rfl
         first
           | (rw [zDk,if_pos (by omega)];exact zAd (zBn rfl) (zBD _ _))
           | (rw [zDk,if_neg (by omega),if_pos (by omega)];exact zAd (zBn rfl) (zBD _ _))
           | (rw [zDk,if_neg (by omega),if_neg (by omega),if_pos (by omega)];exact zAd (zBn rfl) (zBD _ _))
           | (rw [zDk,if_neg (by omega),if_neg (by omega),if_neg (by omega),if_pos h57];exact zAd (zDF _ _ _ _) (zBD _ _))
           | (rw [zDk,if_neg (by omega),if_neg (by omega),if_neg (by omega),if_neg (by simp [h57]),if_pos (by omega)];exact zAd (zBn rfl) (zBD _ _))
           | (rw [zDk,if_neg (by omega),if_neg (by omega),if_neg (by omega),if_neg (by simp [h57]),if_neg (by omega)];exact zAd (zDF _ _ _ _) (zBD _ _))
       · refine zBt ?_
         subst hY4
         refine zAF fun Y7 hY7=>?_
         refine zAF fun Y8 hY8=>?_
         have e5:IntKind.i64.wrap (1099511627776 - count) = 1099511627776 - count:=zAf (by omega) (by omega)
         refine zAG ?_
         try simp only [e5,↓zAH,EVq,TY,zAE,↓reduceIte,Nat.reduceLT,Nat.reduceLeDiff,Nat.reduceEqDiff,Nat.reduceAdd,Nat.reduceMul,Int.reduceLE,eq_self]
         refine zAD [1,2,3,6,34] ?_
         simp only [KQ,↓KP,↓reduceIte,Nat.reduceEqDiff]
         subst hY8
         first | refine run_if (by simp only [↓zAU,↓zAY,↓zAh,↓zAO,↓reduceIte,Nat.reduceEqDiff] <;> rfl) (fun h34=>?_) fun h34=>?_ | refine zCM (by simp only [↓zAU,↓zAY,↓zAh,↓zAO,↓reduceIte,Nat.reduceEqDiff] <;> rfl) (fun h34=>?_) fun h34=>?_
         · refine zAF fun Y9 hY9=>?_
           refine zAG ?_
           try simp only [↓zAH,EVq,TY,zAE,↓reduceIte,Nat.reduceLT,Nat.reduceLeDiff,Nat.reduceEqDiff,Nat.reduceAdd,Nat.reduceMul,Int.reduceLE,eq_self]
           refine zAD [6,7] ?_
           simp only [KQ,↓KP,↓reduceIte,Nat.reduceEqDiff]
           subst hY9
           refine zDi 3 Try.func16 Try.results16 (by simp only [aRes,↓zAU,↓KP,KQ,↓reduceIte,Nat.reduceEqDiff,zBh,TY] <;> rfl) rfl (d'':=zDk bits k count nodes value n) ?_ rfl
           first
             | (rw [zDk,if_pos (by omega)];exact zAd (zBn rfl) (zBD _ _))
             | (rw [zDk,if_neg (by omega),if_pos (by omega)];exact zAd (zBn rfl) (zBD _ _))
             | (rw [zDk,if_neg (by omega),if_neg (by omega),if_pos (by omega)];exact zAd (zBn rfl) (zBD _ _))
             | (rw [zDk,if_neg (by omega),if_neg (by omega),if_neg (by omega),if_pos h57];exact zAd (zDF _ _ _ _) (zBD _ _))
             | (rw [zDk,if_neg (by omega),if_neg (by omega),if_neg (by omega),if_neg (by simp [h57]),if_pos (by omega)];exact zAd (zBn rfl) (zBD _ _))
             | (rw [zDk,if_neg (by omega),if_neg (by omega),if_neg (by omega),if_neg (by simp [h57]),if_neg (by omega)];exact zAd (zDF _ _ _ _) (zBD _ _))
         · refine zBt ?_
           subst hY7
           refine zAF fun Y10 hY10=>?_
           have e7:IntKind.i64.wrap (shl 1 bits + value) = shl 1 bits + value:=zAf (by omega) (by omega)
           refine zAG ?_
           try simp only [eshl,e7,↓zAH,EVq,TY,zAE,↓reduceIte,Nat.reduceLT,Nat.reduceLeDiff,Nat.reduceEqDiff,Nat.reduceAdd,Nat.reduceMul,Int.reduceLE,eq_self]
           refine zAs (by omega) ?_
           try simp only [eshl,e7,↓zAH,EVq,TY,zAE,↓reduceIte,Nat.reduceLT,Nat.reduceLeDiff,Nat.reduceEqDiff,Nat.reduceAdd,Nat.reduceMul,Int.reduceLE,eq_self]
           refine zAD [2,3,6,8] ?_
           simp only [KQ,↓KP,↓reduceIte,Nat.reduceEqDiff]
           subst hY10
           refine zAF fun Y11 hY11=>?_
           refine zAG ?_
           try simp only [↓zAH,EVq,TY,zAE,↓reduceIte,Nat.reduceLT,Nat.reduceLeDiff,Nat.reduceEqDiff,Nat.reduceAdd,Nat.reduceMul,Int.reduceLE,eq_self]
           refine zDA ((q_bs nodes (shl 1 bits + value) hn (by omega) (fun k h=>by have h1:=hgood.low k h;have h2:=hgood.high k h;omega) hgood.asc).frame (by simp [zAb,D.noref]) _).sound (fun d Hx hd=>?_)
           obtain ⟨rfl,rfl⟩:=hd
           try simp only [↓zAH,EVq,TY,zAE,↓reduceIte,Nat.reduceLT,Nat.reduceLeDiff,Nat.reduceEqDiff,Nat.reduceAdd,Nat.reduceMul,Int.reduceLE,eq_self]
           refine zAD [2,3,6,8,9,10] ?_
           simp only [KQ,↓KP,↓reduceIte,Nat.reduceEqDiff]
           subst hY11
           refine zAF fun Y12 hY12=>?_
           have e9:IntKind.i64.wrap ((nodes.length:Int) + 1) = ((nodes.length + 1:Nat):Int):=by rw [zAf (by omega) (by omega)];omega
           refine zAG ?_
           try simp only [hl,e9,↓zAH,EVq,TY,zAE,↓reduceIte,Nat.reduceLT,Nat.reduceLeDiff,Nat.reduceEqDiff,Nat.reduceAdd,Nat.reduceMul,Int.reduceLE,eq_self]
           refine zAs (by omega) ?_
           refine orK_l ?_
           try simp only [hl,e9,↓zAH,EVq,TY,zAE,↓reduceIte,Nat.reduceLT,Nat.reduceLeDiff,Nat.reduceEqDiff,Nat.reduceAdd,Nat.reduceMul,Int.reduceLE,eq_self]
           refine zAD [2,3,6,8,9,10,11] ?_
           simp only [KQ,↓KP,↓reduceIte,Nat.reduceEqDiff]
           subst hY12
           refine zAF fun Y13 hY13=>?_
           refine zAG ?_
           try simp only [Int.toNat_natCast,Int.toNat_zero,Nat.sub_zero,Nat.zero_add,es,hl,↓zAH,EVq,TY,zAE,↓reduceIte,Nat.reduceLT,Nat.reduceLeDiff,Nat.reduceEqDiff,Nat.reduceAdd,Nat.reduceMul,Int.reduceLE,eq_self]
           refine zAs (by simp) ?_
           try simp only [Int.toNat_natCast,Int.toNat_zero,Nat.sub_zero,Nat.zero_add,es,hl,↓zAH,EVq,TY,zAE,↓reduceIte,Nat.reduceLT,Nat.reduceLeDiff,Nat.reduceEqDiff,Nat.reduceAdd,Nat.reduceMul,Int.reduceLE,eq_self]
           refine zAD [2,3,6,8,9,10,11] ?_
           simp only [KQ,↓KP,↓reduceIte,Nat.reduceEqDiff]
           subst hY13
           refine zAF fun Y14 hY14=>?_
           refine zAF fun Y15 hY15=>?_
           refine zAG ?_
           try simp only [↓zAH,EVq,TY,zAE,↓reduceIte,Nat.reduceLT,Nat.reduceLeDiff,Nat.reduceEqDiff,Nat.reduceAdd,Nat.reduceMul,Int.reduceLE,eq_self]
           refine zAD [2,3,6,8,9,11,57] ?_
           simp only [KQ,↓KP,↓reduceIte,Nat.reduceEqDiff]
           subst hY15
           first | refine run_if (by simp only [↓zAU,↓zAY,↓zAh,↓zAO,↓reduceIte,Nat.reduceEqDiff] <;> rfl) (fun h57=>?_) fun h57=>?_ | refine zCM (by simp only [↓zAU,↓zAY,↓zAh,↓zAO,↓reduceIte,Nat.reduceEqDiff] <;> rfl) (fun h57=>?_) fun h57=>?_
           · have hlb:=lb_lt h57
             have eg:(nodes.map zBL ++ [D.agg [iD 0,iD 0]])[lb nodes (shl 1 bits + value)]? = some (.agg [iD nodes[lb nodes (shl 1 bits + value)].1,iD nodes[lb nodes (shl 1 bits + value)].2]):=by
               rw [List.getElem?_append_left (by omega)];simp [hlb,zBL]
             have hone:=hgood.one _ hlb
             have e12:IntKind.i64.wrap (nodes[lb nodes (shl 1 bits + value)].2 + n) = nodes[lb nodes (shl 1 bits + value)].2 + n:=zAf (by omega) (by omega)
             refine zAG ?_
             try simp only [Int.toNat_natCast,Int.toNat_zero,Nat.sub_zero,Nat.zero_add,es,hl,eg,e12,↓zAH,EVq,TY,zAE,↓reduceIte,Nat.reduceLT,Nat.reduceLeDiff,Nat.reduceEqDiff,Nat.reduceAdd,Nat.reduceMul,Int.reduceLE,eq_self]
             refine zAs (by omega) ?_
             try simp only [Int.toNat_natCast,Int.toNat_zero,Nat.sub_zero,Nat.zero_add,es,hl,eg,e12,↓zAH,EVq,TY,zAE,↓reduceIte,Nat.reduceLT,Nat.reduceLeDiff,Nat.reduceEqDiff,Nat.reduceAdd,Nat.reduceMul,Int.reduceLE,eq_self]
             refine zAs (by omega) ?_
             try simp only [Int.toNat_natCast,Int.toNat_zero,Nat.sub_zero,Nat.zero_add,es,hl,eg,e12,↓zAH,EVq,TY,zAE,↓reduceIte,Nat.reduceLT,Nat.reduceLeDiff,Nat.reduceEqDiff,Nat.reduceAdd,Nat.reduceMul,Int.reduceLE,eq_self]
             refine zAD [2,3,6,11] ?_
             simp only [KQ,↓KP,↓reduceIte,Nat.reduceEqDiff]
             subst hY14
             refine zAF fun Y16 hY16=>?_
             have e16:IntKind.i64.wrap (count + n) = count + n:=zAf (by omega) (by omega)
             first
               | refine Go.Ab.run_freeze (s:=11) (r:=2) (i:=0) (m:=nodes.length) (k:=2) (xs:=(nodes.map zBL ++ [D.agg [iD 0,iD 0]]).set (lb nodes (shl 1 bits + value)) (.agg [iD nodes[lb nodes (shl 1 bits + value)].1,iD (nodes[lb nodes (shl 1 bits + value)].2 + n)])) (by simp only [↓zAO,↓reduceIte,Nat.reduceEqDiff,wk_slc,Int.toNat_natCast,Int.toNat_zero,Nat.sub_zero,Nat.zero_add,es,hl]) (by simp only [get_cons_zero,get_cons_succ,Int.toNat_natCast,Int.toNat_zero,Nat.sub_zero,Nat.zero_add,es,hl,e12]) (by simp) (norefs_bump _ _ _ _) ?_
                 rw [bump_map hlb]
               | refine Go.Ab.run_freeze (s:=11) (r:=2) (i:=0) (m:=nodes.length + 1) (k:=2) (xs:=(insL nodes (lb nodes (shl 1 bits + value)) (shl 1 bits + value,n)).map zBL) rfl rfl (by simp [insL];omega) (norefs_insl _ _ _) ?_
                 rw [show (List.drop 0 ((insL nodes (lb nodes (shl 1 bits + value)) (shl 1 bits + value,n)).map zBL)).take (nodes.length + 1) = (insL nodes (lb nodes (shl 1 bits + value)) (shl 1 bits + value,n)).map zBL by rw [List.drop_zero];exact List.take_of_length_le (by simp [insL];omega)]
             refine zAG ?_
             try simp only [e16,↓zAH,EVq,TY,zAE,↓reduceIte,Nat.reduceLT,Nat.reduceLeDiff,Nat.reduceEqDiff,Nat.reduceAdd,Nat.reduceMul,Int.reduceLE,eq_self]
             refine zAD [6,7] ?_
             simp only [KQ,↓KP,↓reduceIte,Nat.reduceEqDiff]
             subst hY16
             refine zDi 3 Try.func16 Try.results16 (by simp only [aRes,↓zAU,↓KP,KQ,↓reduceIte,Nat.reduceEqDiff,zBh,TY] <;> rfl) rfl (d'':=zDk bits k count nodes value n) ?_ rfl
             first
               | (rw [zDk,if_pos (by omega)];exact zAd (zBn rfl) (zBD _ _))
               | (rw [zDk,if_neg (by omega),if_pos (by omega)];exact zAd (zBn rfl) (zBD _ _))
               | (rw [zDk,if_neg (by omega),if_neg (by omega),if_pos (by omega)];exact zAd (zBn rfl) (zBD _ _))
               | (rw [zDk,if_neg (by omega),if_neg (by omega),if_neg (by omega),if_pos h57];exact zAd (zDF _ _ _ _) (zBD _ _))
               | (rw [zDk,if_neg (by omega),if_neg (by omega),if_neg (by omega),if_neg (by simp [h57]),if_pos (by omega)];exact zAd (zBn rfl) (zBD _ _))
               | (rw [zDk,if_neg (by omega),if_neg (by omega),if_neg (by omega),if_neg (by simp [h57]),if_neg (by omega)];exact zAd (zDF _ _ _ _) (zBD _ _))
           · refine zAF fun Y17 hY17=>?_
             refine zAF fun Y18 hY18=>?_
             refine zAG ?_
             try simp only [Int.toNat_natCast,Int.toNat_zero,Nat.sub_zero,Nat.zero_add,es,hl,↓zAH,EVq,TY,zAE,↓reduceIte,Nat.reduceLT,Nat.reduceLeDiff,Nat.reduceEqDiff,Nat.reduceAdd,Nat.reduceMul,Int.reduceLE,eq_self]
             refine zAD [2,3,6,8,9,11,69] ?_
             simp only [KQ,↓KP,↓reduceIte,Nat.reduceEqDiff]
             subst hY18
             first | refine run_if (by simp only [↓zAU,↓zAY,↓zAh,↓zAO,↓reduceIte,Nat.reduceEqDiff] <;> rfl) (fun h69=>?_) fun h69=>?_ | refine zCM (by simp only [↓zAU,↓zAY,↓zAh,↓zAO,↓reduceIte,Nat.reduceEqDiff] <;> rfl) (fun h69=>?_) fun h69=>?_
             · refine zAF fun Y19 hY19=>?_
               refine zAG ?_
               try simp only [↓zAH,EVq,TY,zAE,↓reduceIte,Nat.reduceLT,Nat.reduceLeDiff,Nat.reduceEqDiff,Nat.reduceAdd,Nat.reduceMul,Int.reduceLE,eq_self]
               refine zAD [6,7] ?_
               simp only [KQ,↓KP,↓reduceIte,Nat.reduceEqDiff]
               subst hY19
               refine zDi 3 Try.func16 Try.results16 (by simp only [aRes,↓zAU,↓KP,KQ,↓reduceIte,Nat.reduceEqDiff,zBh,TY] <;> rfl) rfl (d'':=zDk bits k count nodes value n) ?_ rfl
               first
                 | (rw [zDk,if_pos (by omega)];exact zAd (zBn rfl) (zBD _ _))
                 | (rw [zDk,if_neg (by omega),if_pos (by omega)];exact zAd (zBn rfl) (zBD _ _))
                 | (rw [zDk,if_neg (by omega),if_neg (by omega),if_pos (by omega)];exact zAd (zBn rfl) (zBD _ _))
                 | (rw [zDk,if_neg (by omega),if_neg (by omega),if_neg (by omega),if_pos h57];exact zAd (zDF _ _ _ _) (zBD _ _))
                 | (rw [zDk,if_neg (by omega),if_neg (by omega),if_neg (by omega),if_neg (by simp [h57]),if_pos (by omega)];exact zAd (zBn rfl) (zBD _ _))
                 | (rw [zDk,if_neg (by omega),if_neg (by omega),if_neg (by omega),if_neg (by simp [h57]),if_neg (by omega)];exact zAd (zDF _ _ _ _) (zBD _ _))
             · refine zBt ?_
               subst hY17
               refine zAG ?_
               try simp only [Int.toNat_natCast,Int.toNat_zero,Nat.sub_zero,Nat.zero_add,es,hl,↓zAH,EVq,TY,zAE,↓reduceIte,Nat.reduceLT,Nat.reduceLeDiff,Nat.reduceEqDiff,Nat.reduceAdd,Nat.reduceMul,Int.reduceLE,eq_self]
               try refine zAs (by first | rfl | decide | exact ⟨rfl,by decide,rfl⟩) ?_
               try simp only [Int.toNat_natCast,Int.toNat_zero,Nat.sub_zero,Nat.zero_add,es,hl,↓zAH,EVq,TY,zAE,↓reduceIte,Nat.reduceLT,Nat.reduceLeDiff,Nat.reduceEqDiff,Nat.reduceAdd,Nat.reduceMul,Int.reduceLE,eq_self]
               refine zDA (q_insert _ 2 3 (lb nodes (shl 1 bits + value)) nodes (shl 1 bits + value,n) (.agg [iD 0,iD 0]) rfl rfl (by decide) (lb_le _ _) (by omega)) (fun d Hx hd=>?_)
               obtain ⟨rfl,rfl⟩:=hd
               try simp only [Int.toNat_natCast,Int.toNat_zero,Nat.sub_zero,Nat.zero_add,es,hl,↓zAH,EVq,TY,zAE,↓reduceIte,Nat.reduceLT,Nat.reduceLeDiff,Nat.reduceEqDiff,Nat.reduceAdd,Nat.reduceMul,Int.reduceLE,eq_self]
               refine zAD [2,3,6,11] ?_
               simp only [KQ,↓KP,↓reduceIte,Nat.reduceEqDiff]
               subst hY14
               refine zAF fun Y20 hY20=>?_
               have e16:IntKind.i64.wrap (count + n) = count + n:=zAf (by omega) (by omega)
               first
                 | refine Go.Ab.run_freeze (s:=11) (r:=2) (i:=0) (m:=nodes.length) (k:=2) (xs:=(nodes.map zBL ++ [D.agg [iD 0,iD 0]]).set (lb nodes (shl 1 bits + value)) (.agg [iD nodes[lb nodes (shl 1 bits + value)].1,iD (nodes[lb nodes (shl 1 bits + value)].2 + n)])) (by simp only [↓zAO,↓reduceIte,Nat.reduceEqDiff,wk_slc,Int.toNat_natCast,Int.toNat_zero,Nat.sub_zero,Nat.zero_add,es,hl]) (by simp only [get_cons_zero,get_cons_succ,Int.toNat_natCast,Int.toNat_zero,Nat.sub_zero,Nat.zero_add,es,hl,e12]) (by simp) (norefs_bump _ _ _ _) ?_
                   rw [bump_map hlb]
                 | refine Go.Ab.run_freeze (s:=11) (r:=2) (i:=0) (m:=nodes.length + 1) (k:=2) (xs:=(insL nodes (lb nodes (shl 1 bits + value)) (shl 1 bits + value,n)).map zBL) rfl rfl (by simp [insL];omega) (norefs_insl _ _ _) ?_
                   rw [show (List.drop 0 ((insL nodes (lb nodes (shl 1 bits + value)) (shl 1 bits + value,n)).map zBL)).take (nodes.length + 1) = (insL nodes (lb nodes (shl 1 bits + value)) (shl 1 bits + value,n)).map zBL by rw [List.drop_zero];exact List.take_of_length_le (by simp [insL];omega)]
               refine zAG ?_
               try simp only [e16,↓zAH,EVq,TY,zAE,↓reduceIte,Nat.reduceLT,Nat.reduceLeDiff,Nat.reduceEqDiff,Nat.reduceAdd,Nat.reduceMul,Int.reduceLE,eq_self]
               refine zAD [6,7] ?_
               simp only [KQ,↓KP,↓reduceIte,Nat.reduceEqDiff]
               subst hY20
               refine zDi 3 Try.func16 Try.results16 (by simp only [aRes,↓zAU,↓KP,KQ,↓reduceIte,Nat.reduceEqDiff,zBh,TY] <;> rfl) rfl (d'':=zDk bits k count nodes value n) ?_ rfl
               first
                 | (rw [zDk,if_pos (by omega)];exact zAd (zBn rfl) (zBD _ _))
                 | (rw [zDk,if_neg (by omega),if_pos (by omega)];exact zAd (zBn rfl) (zBD _ _))
                 | (rw [zDk,if_neg (by omega),if_neg (by omega),if_pos (by omega)];exact zAd (zBn rfl) (zBD _ _))
                 | (rw [zDk,if_neg (by omega),if_neg (by omega),if_neg (by omega),if_pos h57];exact zAd (zDF _ _ _ _) (zBD _ _))
                 | (rw [zDk,if_neg (by omega),if_neg (by omega),if_neg (by omega),if_neg (by simp [h57]),if_pos (by omega)];exact zAd (zBn rfl) (zBD _ _))
                 | (rw [zDk,if_neg (by omega),if_neg (by omega),if_neg (by omega),if_neg (by simp [h57]),if_neg (by omega)];exact zAd (zDF _ _ _ _) (zBD _ _))
     · try simp only [d18,d25,eshl,↓zAH,EVq,TY,zAE,↓reduceIte,Nat.reduceLT,Nat.reduceLeDiff,Nat.reduceEqDiff,Nat.reduceAdd,Nat.reduceMul,Int.reduceLE,eq_self]
       refine zAD [1,2,3,6,28] ?_
       simp only [KQ,↓KP,↓reduceIte,Nat.reduceEqDiff]
       subst hY5
       refine run_if_t (by simp only [↓zAU,↓zAY,↓zAh,↓zAO,↓reduceIte,Nat.reduceEqDiff] <;> rfl) ?_
       refine zAF fun Y21 hY21=>?_
       refine zAG ?_
       try simp only [↓zAH,EVq,TY,zAE,↓reduceIte,Nat.reduceLT,Nat.reduceLeDiff,Nat.reduceEqDiff,Nat.reduceAdd,Nat.reduceMul,Int.reduceLE,eq_self]
       refine zAD [6,7] ?_
       simp only [KQ,↓KP,↓reduceIte,Nat.reduceEqDiff]
       subst hY21
       refine zDi 3 Try.func16 Try.results16 (by simp only [aRes,↓zAU,↓KP,KQ,↓reduceIte,Nat.reduceEqDiff,zBh,TY] <;> rfl) rfl (d'':=zDk bits k count nodes value n) ?_ rfl
       first
         | (rw [zDk,if_pos (by omega)];exact zAd (zBn rfl) (zBD _ _))
         | (rw [zDk,if_neg (by omega),if_pos (by omega)];exact zAd (zBn rfl) (zBD _ _))
         | (rw [zDk,if_neg (by omega),if_neg (by omega),if_pos (by omega)];exact zAd (zBn rfl) (zBD _ _))
         | (rw [zDk,if_neg (by omega),if_neg (by omega),if_neg (by omega),if_pos h57];exact zAd (zDF _ _ _ _) (zBD _ _))
         | (rw [zDk,if_neg (by omega),if_neg (by omega),if_neg (by omega),if_neg (by simp [h57]),if_pos (by omega)];exact zAd (zBn rfl) (zBD _ _))
         | (rw [zDk,if_neg (by omega),if_neg (by omega),if_neg (by omega),if_neg (by simp [h57]),if_neg (by omega)];exact zAd (zDF _ _ _ _) (zBD _ _))
   · try simp only [d18,eshl,↓zAH,EVq,TY,zAE,↓reduceIte,Nat.reduceLT,Nat.reduceLeDiff,Nat.reduceEqDiff,Nat.reduceAdd,Nat.reduceMul,Int.reduceLE,eq_self]
     refine zAD [1,2,3,6,28] ?_
     simp only [KQ,↓KP,↓reduceIte,Nat.reduceEqDiff]
     subst hY5
     refine run_if_t (by simp only [↓zAU,↓zAY,↓zAh,↓zAO,↓reduceIte,Nat.reduceEqDiff] <;> rfl) ?_
     refine zAF fun Y22 hY22=>?_
     refine zAG ?_
     try simp only [↓zAH,EVq,TY,zAE,↓reduceIte,Nat.reduceLT,Nat.reduceLeDiff,Nat.reduceEqDiff,Nat.reduceAdd,Nat.reduceMul,Int.reduceLE,eq_self]
     refine zAD [6,7] ?_
     simp only [KQ,↓KP,↓reduceIte,Nat.reduceEqDiff]
     subst hY22
     refine zDi 3 Try.func16 Try.results16 (by simp only [aRes,↓zAU,↓KP,KQ,↓reduceIte,Nat.reduceEqDiff,zBh,TY] <;> rfl) rfl (d'':=zDk bits k count nodes value n) ?_ rfl
     first
       | (rw [zDk,if_pos (by omega)];exact zAd (zBn rfl) (zBD _ _))
       | (rw [zDk,if_neg (by omega),if_pos (by omega)];exact zAd (zBn rfl) (zBD _ _))
       | (rw [zDk,if_neg (by omega),if_neg (by omega),if_pos (by omega)];exact zAd (zBn rfl) (zBD _ _))
       | (rw [zDk,if_neg (by omega),if_neg (by omega),if_neg (by omega),if_pos h57];exact zAd (zDF _ _ _ _) (zBD _ _))
       | (rw [zDk,if_neg (by omega),if_neg (by omega),if_neg (by omega),if_neg (by simp [h57]),if_pos (by omega)];exact zAd (zBn rfl) (zBD _ _))
       | (rw [zDk,if_neg (by omega),if_neg (by omega),if_neg (by omega),if_neg (by simp [h57]),if_neg (by omega)];exact zAd (zDF _ _ _ _) (zBD _ _))
end Go.Proofs.Qd
namespace Go.Proofs.Qd
open Go Go.Ab Go.Proofs.Ytfibkbmlgigemaa.AbT
variable [Go.Ab.DM]
def tab8:ByteArray:=⟨#[0,1,2,2,3,3,3,3,4,4,4,4,4,4,4,4,5,5,5,5,5,5,5,5,5,5,5,5,5,5,5,5,6,6,6,6,6,6,6,6,6,6,6,6,6,6,6,6,6,6,6,6,6,6,6,6,6,6,6,6,6,6,6,6,7,7,7,7,7,7,7,7,7,7,7,7,7,7,7,7,7,7,7,7,7,7,7,7,7,7,7,7,7,7,7,7,7,7,7,7,7,7,7,7,7,7,7,7,7,7,7,7,7,7,7,7,7,7,7,7,7,7,7,7,7,7,7,7,8,8,8,8,8,8,8,8,8,8,8,8,8,8,8,8,8,8,8,8,8,8,8,8,8,8,8,8,8,8,8,8,8,8,8,8,8,8,8,8,8,8,8,8,8,8,8,8,8,8,8,8,8,8,8,8,8,8,8,8,8,8,8,8,8,8,8,8,8,8,8,8,8,8,8,8,8,8,8,8,8,8,8,8,8,8,8,8,8,8,8,8,8,8,8,8,8,8,8,8,8,8,8,8,8,8,8,8,8,8,8,8,8,8,8,8,8,8,8,8,8,8,8,8,8,8,8,8]⟩
def blen (x:Nat):Nat:=if x = 0 then 0 else Nat.log2 x + 1
theorem tab8_at:∀ j:Fin 256,(tab8.get! j.val).toNat = blen j.val:=by decide +kernel
theorem blen_shr {x:Nat} (k:Nat) (h:2 ^ k ≤ x):blen (x / 2 ^ k) + k = blen x:=by
 have h0:x ≠ 0:=by have:=Nat.two_pow_pos k;omega
 have h1:x / 2 ^ k ≠ 0:=by have:=Nat.div_pos h (Nat.two_pow_pos k);omega
 unfold blen
 rw [if_neg h0,if_neg h1]
 have:Nat.log2 (x / 2 ^ k) + k = Nat.log2 x:=by
   have ha:2 ^ (Nat.log2 (x / 2 ^ k)) ≤ x / 2 ^ k:=Nat.log2_self_le h1
   have hb:x / 2 ^ k < 2 ^ (Nat.log2 (x / 2 ^ k) + 1):=Nat.lt_log2_self
   symm
   rw [Nat.log2_eq_iff h0]
   constructor
   · rw [Nat.pow_add];exact (Nat.le_div_iff_mul_le (Nat.two_pow_pos k)).1 ha
   · have:=(Nat.div_lt_iff_lt_mul (Nat.two_pow_pos k)).1 hb
     rw [← Nat.pow_add] at this
     rw [show Nat.log2 (x / 2 ^ k) + k + 1 = Nat.log2 (x / 2 ^ k) + 1 + k by omega];exact this
 omega
theorem u8w {y:Nat} (h:y < 256):IntKind.u8.wrap (y:Int) = (y:Int):=by simp [IntKind.wrap,IntKind.signed,IntKind.bits];omega
theorem fin8 {a:Int} {y:Nat} (ha:0 ≤ a ∧ a ≤ 64) (h:y < 256):IntKind.i64.wrap (a + IntKind.i64.wrap ((tab8.get! (IntKind.u8.wrap (y:Int)).toNat).toNat:Int)) = a + blen y:=by
 rw [u8w h,Int.toNat_natCast,tab8_at ⟨y,h⟩]
 have:blen y ≤ 64:=by
   unfold blen
   split
   · omega
   · have:=Nat.log2_lt (k:=8) (by omega:y ≠ 0) |>.2 h;omega
 rw [zAf (x:=(blen y:Int)) (by omega) (by omega),zAf (by omega) (by omega)]
theorem fd {k m:Nat} (hm:m = 2 ^ min k IntKind.u64.bits) (hp:0 < m) (y:Nat):Int.fdiv (y:Int) (2 ^ min k IntKind.u64.bits) = ((y / m:Nat):Int):=by
 have:(2:Int) ^ min k IntKind.u64.bits = (m:Int):=by rw [hm];simp
 rw [this,Int.fdiv_eq_ediv_of_nonneg _ (by omega)];simp
end Go.Proofs.Qd
namespace Go.Proofs.Qd
open Go Go.Ab Go.Proofs.Ytfibkbmlgigemaa.AbT
variable [Go.Ab.DM]
set_option maxHeartbeats 2000000 in
theorem q_clone (H:Heap) (xs:List D) (hn:xs.length ≤ 100000000):Sound Try.prog 79 [.fz 2 xs] H (fun d H'=>(d = .v (.slice none 0 0) ∧ xs = [] ∧ H' = H) ∨ (d = .sl (H.length + 1) 0 xs.length ∧ H' = H ++ [none,some (.cells 2 xs)])):=by
 refine zAc Try.func79 rfl (by kernel_rfl) Try.ntmps79 (by simp) ?_
 have q1:∀ X,Heap.get (H ++ [X]) H.length = X:=fun X=>get_push_self H X
 refine zAF fun Y0 hY0=>?_
 refine zAG ?_
 try simp only [↓zAH,EVq,TY,zAE,↓reduceIte,Nat.reduceLT,Nat.reduceLeDiff,Nat.reduceEqDiff,Nat.reduceAdd,Nat.reduceMul,Int.reduceLE,eq_self]
 refine zAD [0] ?_
 simp only [KQ,↓KP,↓reduceIte,Nat.reduceEqDiff]
 subst hY0
 refine zAF fun Y1 hY1=>?_
 refine zAF fun Y2 hY2=>?_
 refine zAG ?_
 try simp only [↓zAH,EVq,TY,zAE,↓reduceIte,Nat.reduceLT,Nat.reduceLeDiff,Nat.reduceEqDiff,Nat.reduceAdd,Nat.reduceMul,Int.reduceLE,eq_self]
 refine allK_mk fun b4 hb4=>?_
 try simp only [↓zAH,EVq,TY,zAE,↓reduceIte,Nat.reduceLT,Nat.reduceLeDiff,Nat.reduceEqDiff,Nat.reduceAdd,Nat.reduceMul,Int.reduceLE,eq_self]
 refine zAD [0,4] ?_
 simp only [KQ,↓KP,↓reduceIte,Nat.reduceEqDiff]
 subst hY2
 first | refine run_if (by simp only [↓zAU,↓zAY,↓zAh,↓zAO,↓reduceIte,Nat.reduceEqDiff] <;> rfl) (fun h4=>?_) fun h4=>?_ | refine zCM (by simp only [↓zAU,↓zAY,↓zAh,↓zAO,↓reduceIte,Nat.reduceEqDiff] <;> rfl) (fun h4=>?_) fun h4=>?_
 · refine zAF fun Y3 hY3=>?_
   refine zAG ?_
   try simp only [↓zAH,EVq,TY,zAE,↓reduceIte,Nat.reduceLT,Nat.reduceLeDiff,Nat.reduceEqDiff,Nat.reduceAdd,Nat.reduceMul,Int.reduceLE,eq_self]
   refine zAD [2] ?_
   simp only [KQ,↓KP,↓reduceIte,Nat.reduceEqDiff]
   subst hY3
   refine zCq Try.func79 Try.results79 (by simp only [aRes,↓zAU,↓KP,KQ,↓reduceIte,Nat.reduceEqDiff,zBh,TY] <;> rfl) (Weak.refl _ _ _) ?_
   first
     | exact .inl ⟨rfl,hb4 (by assumption),rfl⟩
     | (refine .inr ⟨?_,?_⟩
        · simp [retD]
        · rw [List.set_append_right _ _ (by simp)];simp)
 · refine zBt ?_
   subst hY1
   refine zAF fun Y4 hY4=>?_
   refine zAG ?_
   try simp only [q1,List.drop_zero,Nat.zero_add,List.nil_append,List.map_nil,↓zAH,EVq,TY,zAE,↓reduceIte,Nat.reduceLT,Nat.reduceLeDiff,Nat.reduceEqDiff,Nat.reduceAdd,Nat.reduceMul,Int.reduceLE,eq_self]
   try refine zAs (by first | rfl | decide | exact ⟨rfl,by decide,rfl⟩) ?_
   try simp only [q1,List.drop_zero,Nat.zero_add,List.nil_append,List.map_nil,↓zAH,EVq,TY,zAE,↓reduceIte,Nat.reduceLT,Nat.reduceLeDiff,Nat.reduceEqDiff,Nat.reduceAdd,Nat.reduceMul,Int.reduceLE,eq_self]
   refine zAs (by omega) ?_
   try simp only [q1,List.drop_zero,Nat.zero_add,List.nil_append,List.map_nil,↓zAH,EVq,TY,zAE,↓reduceIte,Nat.reduceLT,Nat.reduceLeDiff,Nat.reduceEqDiff,Nat.reduceAdd,Nat.reduceMul,Int.reduceLE,eq_self]
   refine zAD [2] ?_
   simp only [KQ,↓KP,↓reduceIte,Nat.reduceEqDiff]
   subst hY4
   refine zCq Try.func79 Try.results79 (by simp only [aRes,↓zAU,↓KP,KQ,↓reduceIte,Nat.reduceEqDiff,zBh,TY] <;> rfl) (Weak.refl _ _ _) ?_
   first
     | exact .inl ⟨rfl,hb4 (by assumption),rfl⟩
     | (refine .inr ⟨?_,?_⟩
        · simp [retD]
        · rw [List.set_append_right _ _ (by simp)];simp)
end Go.Proofs.Qd
namespace Go.Proofs.Qd
open Go Go.Ab Go.Proofs.Ytfibkbmlgigemaa.AbT
variable [Go.Ab.DM]
set_option maxHeartbeats 2000000 in
theorem q_ins0 (dc:D):Pure Try.prog 120 [.v (.slice none 0 0),iD 0,iD 0,dc] (fun d=>d = .tup []):=by
 refine zAc Try.func120 rfl (by kernel_rfl) Try.ntmps120 (by simp) ?_
 refine zAF fun Y0 hY0=>?_
 refine zAG ?_
 try simp only [↓zAH,EVq,TY,zAE,↓reduceIte,Nat.reduceLT,Nat.reduceLeDiff,Nat.reduceEqDiff,Nat.reduceAdd,Nat.reduceMul,Int.reduceLE,eq_self]
 refine zAD [0,1,2,3,8] ?_
 simp only [KQ,↓KP,↓reduceIte,Nat.reduceEqDiff]
 subst hY0
 refine zCf ?_
 refine zAD [0,1,2,3,8] ?_
 simp only [KQ,↓KP,↓reduceIte,Nat.reduceEqDiff]
 refine run_loop' (fun m e H=>e = envL [(0,.v (.slice none 0 0)),(1,iD 0),(2,iD 0),(3,dc),(8,iD 1)] ∧ H = []) 0
   ⟨rfl,rfl⟩ ?_
 intro C hC m e H ih hI
 obtain ⟨rfl,rfl⟩:=hI
 refine zAF fun Y1 hY1=>?_
 refine zAF fun Y2 hY2=>?_
 refine zAG ?_
 try simp only [↓zAH,EVq,TY,zAE,↓reduceIte,Nat.reduceLT,Nat.reduceLeDiff,Nat.reduceEqDiff,Nat.reduceAdd,Nat.reduceMul,Int.reduceLE,eq_self]
 refine zAD [0,1,2,3,8,14] ?_
 simp only [KQ,↓KP,↓reduceIte,Nat.reduceEqDiff]
 subst hY2
 refine run_if_f (by simp only [↓zAU,↓zAY,↓zAh,↓zAO,↓reduceIte,Nat.reduceEqDiff] <;> rfl) ?_
 refine zDj (by rfl) ?_
 refine run_end0 3 Try.func120 Try.results120 (by simp only [aRes,↓zAU,↓KP,KQ,↓reduceIte,Nat.reduceEqDiff,zBh,TY] <;> rfl) rfl ?_
 rfl
set_option maxHeartbeats 2000000 in
theorem q_pdq0 (dc:D) (hdc:dc.noref = true):Pure Try.prog 108 [.v (.slice none 0 0),iD 0,iD 0,iD 0,dc] (fun d=>d = .tup []):=by
 refine zAc Try.func108 rfl (by kernel_rfl) Try.ntmps108 (by simp) ?_
 refine zAF fun Y0 hY0=>?_
 refine zAG ?_
 try simp only [↓zAH,EVq,TY,zAE,↓reduceIte,Nat.reduceLT,Nat.reduceLeDiff,Nat.reduceEqDiff,Nat.reduceAdd,Nat.reduceMul,Int.reduceLE,eq_self]
 refine zAD [0,1,2,3,4,10] ?_
 simp only [KQ,↓KP,↓reduceIte,Nat.reduceEqDiff]
 subst hY0
 refine zAF fun Y1 hY1=>?_
 refine zAG ?_
 try simp only [↓zAH,EVq,TY,zAE,↓reduceIte,Nat.reduceLT,Nat.reduceLeDiff,Nat.reduceEqDiff,Nat.reduceAdd,Nat.reduceMul,Int.reduceLE,eq_self]
 refine zAD [0,1,2,3,4,10,11] ?_
 simp only [KQ,↓KP,↓reduceIte,Nat.reduceEqDiff]
 subst hY1
 refine zCf ?_
 refine zAD [0,1,2,3,4,10,11] ?_
 simp only [KQ,↓KP,↓reduceIte,Nat.reduceEqDiff]
 refine run_loop' (fun m e H=>e = envL [(0,.v (.slice none 0 0)),(1,iD 0),(2,iD 0),(3,iD 0),(4,dc),(10,.v (.bool true)),(11,.v (.bool true))] ∧ H = []) 0
   ⟨rfl,rfl⟩ ?_
 intro C hC m e H ih hI
 obtain ⟨rfl,rfl⟩:=hI
 refine zCf ?_
 refine zAF fun Y2 hY2=>?_
 refine zAG ?_
 try simp only [↓zAH,EVq,TY,zAE,↓reduceIte,Nat.reduceLT,Nat.reduceLeDiff,Nat.reduceEqDiff,Nat.reduceAdd,Nat.reduceMul,Int.reduceLE,eq_self]
 refine zAD [0,1,2,3,4,10,11,12] ?_
 simp only [KQ,↓KP,↓reduceIte,Nat.reduceEqDiff]
 subst hY2
 refine zAF fun Y3 hY3=>?_
 refine zAF fun Y4 hY4=>?_
 refine zAG ?_
 try simp only [↓zAH,EVq,TY,zAE,↓reduceIte,Nat.reduceLT,Nat.reduceLeDiff,Nat.reduceEqDiff,Nat.reduceAdd,Nat.reduceMul,Int.reduceLE,eq_self]
 refine zAD [0,1,2,3,4,10,11,12,25] ?_
 simp only [KQ,↓KP,↓reduceIte,Nat.reduceEqDiff]
 subst hY4
 refine run_if_t (by simp only [↓zAU,↓zAY,↓zAh,↓zAO,↓reduceIte,Nat.reduceEqDiff] <;> rfl) ?_
 refine zAF fun Y5 hY5=>?_
 refine zAG ?_
 try simp only [↓zAH,EVq,TY,zAE,↓reduceIte,Nat.reduceLT,Nat.reduceLeDiff,Nat.reduceEqDiff,Nat.reduceAdd,Nat.reduceMul,Int.reduceLE,eq_self]
 refine zDA ((q_ins0 dc).frame (by simp [zAb,D.noref,hdc]) _).sound (fun d Hx hd=>?_)
 obtain ⟨rfl,rfl⟩:=hd
 try simp only [↓zAH,EVq,TY,zAE,↓reduceIte,Nat.reduceLT,Nat.reduceLeDiff,Nat.reduceEqDiff,Nat.reduceAdd,Nat.reduceMul,Int.reduceLE,eq_self]
 refine zAD [] ?_
 simp only [KQ,↓KP,↓reduceIte,Nat.reduceEqDiff]
 subst hY5
 refine run_ret0 3 Try.func108 Try.results108 (by simp only [aRes,↓zAU,↓KP,KQ,↓reduceIte,Nat.reduceEqDiff,zBh,TY] <;> rfl) rfl ?_
 rfl
set_option maxHeartbeats 2000000 in
theorem q_sort0 (dc:D) (hdc:dc.noref = true):Pure Try.prog 80 [.v (.slice none 0 0),dc] (fun d=>d = .tup []):=by
 refine zAc Try.func80 rfl (by kernel_rfl) Try.ntmps80 (by simp) ?_
 refine zAF fun Y0 hY0=>?_
 refine zAG ?_
 try simp only [↓zAH,EVq,TY,zAE,↓reduceIte,Nat.reduceLT,Nat.reduceLeDiff,Nat.reduceEqDiff,Nat.reduceAdd,Nat.reduceMul,Int.reduceLE,eq_self]
 refine zAD [0,1,4] ?_
 simp only [KQ,↓KP,↓reduceIte,Nat.reduceEqDiff]
 subst hY0
 refine zAG ?_
 try simp only [↓zAH,EVq,TY,zAE,↓reduceIte,Nat.reduceLT,Nat.reduceLeDiff,Nat.reduceEqDiff,Nat.reduceAdd,Nat.reduceMul,Int.reduceLE,eq_self]
 refine zDA (Go.Q.q_len0.frame (by simp [zAb,D.noref]) _).sound (fun d Hx hd=>?_)
 obtain ⟨rfl,rfl⟩:=hd
 try simp only [↓zAH,EVq,TY,zAE,↓reduceIte,Nat.reduceLT,Nat.reduceLeDiff,Nat.reduceEqDiff,Nat.reduceAdd,Nat.reduceMul,Int.reduceLE,eq_self]
 refine zDA ((q_pdq0 dc hdc).frame (by simp [zAb,D.noref,hdc]) _).sound (fun d Hx hd=>?_)
 obtain ⟨rfl,rfl⟩:=hd
 try simp only [↓zAH,EVq,TY,zAE,↓reduceIte,Nat.reduceLT,Nat.reduceLeDiff,Nat.reduceEqDiff,Nat.reduceAdd,Nat.reduceMul,Int.reduceLE,eq_self]
 refine zAD [] ?_
 simp only [KQ,↓KP,↓reduceIte,Nat.reduceEqDiff]
 refine run_end0 3 Try.func80 Try.results80 (by simp only [aRes,↓zAU,↓KP,KQ,↓reduceIte,Nat.reduceEqDiff,zBh,TY] <;> rfl) rfl ?_
 rfl
theorem frz_nodes (H:Heap) (n:Nat):∀ l:List (Int × Int),(l.map zBL).mapM (frz H (n + 1)) = some (l.map zBL)
 | []=>rfl
 | x :: l=>by
   rw [List.map_cons,List.mapM_cons,frz_nodes H n l]
   simp [frz,zBL]
theorem ord80 {Q:List (Int × Int) → List (Int × Int) → Prop} {l:List (Int × Int)} {dc:D} (hdc:dc.noref = true) (h0:l = [] → Q l [])
   (hs:∀ H r,H.get r = some (.cells 2 (l.map zBL)) → Sound Try.prog 80 [.sl r 0 l.length,dc] H (fun d H'=>d = .tup [] ∧ ∃ l',Q l l' ∧ l'.length = l.length ∧ H' = H.set r (some (.cells 2 (l'.map zBL)))))
   (H:Heap) (d:D) (Hx:Heap) (hd:(d = .v (.slice none 0 0) ∧ l.map zBL = [] ∧ Hx = H) ∨ (d = .sl (H.length + 1) 0 (l.map zBL).length ∧ Hx = H ++ [none,some (.cells 2 (l.map zBL))])) :
   Sound Try.prog 80 [d,dc] Hx (fun d2 H'=>d2 = .tup [] ∧ ∃ l',Q l l' ∧ ∃ d3,frz H' 3 d = some d3 ∧ leD d3 (.fz 2 (l'.map zBL))):=by
 rcases hd with ⟨rfl,hl,rfl⟩ | ⟨rfl,rfl⟩
 · refine ((q_sort0 dc hdc).frame (by simp [zAb,D.noref,hdc]) _).sound.mono fun d2 H' h=>⟨h.2,[],h0 (by simpa using hl),_,rfl,?_⟩
   rw [leD];exact .inr ⟨2,rfl⟩
 · have hg:Heap.get (H ++ [none,some (.cells 2 (l.map zBL))]) (H.length + 1) = some (.cells 2 (l.map zBL)):=by simp [Heap.get]
   rw [List.length_map]
   refine (hs _ _ hg).mono fun d2 H' h=>?_
   obtain ⟨rfl,l',hQ,hl',rfl⟩:=h
   refine ⟨rfl,l',hQ,.fz 2 (l'.map zBL),?_,by rw [leD.eq_def]⟩
   rw [frz,Heap.get_set _ (Heap.get_lt hg),if_pos rfl]
   simp only [List.length_map,Nat.zero_add,hl',Nat.le_refl,if_true,List.drop_zero]
   rw [← hl',List.take_of_length_le (by simp),frz_nodes];rfl
set_option maxHeartbeats 2000000 in
theorem q_ordered {Q:List (Int × Int) → List (Int × Int) → Prop} (l:List (Int × Int)) (hn:l.length ≤ 100000000) (dc:D) (hdc:dc.noref = true) (h0:l = [] → Q l []) (hs:∀ H r,H.get r = some (.cells 2 (l.map zBL)) → Sound Try.prog 80 [.sl r 0 l.length,dc] H (fun d H'=>d = .tup [] ∧ ∃ l',Q l l' ∧ l'.length = l.length ∧ H' = H.set r (some (.cells 2 (l'.map zBL))))):Pure Try.prog 50 [.fz 2 (l.map zBL),dc] (fun d=>∃ l',Q l l' ∧ d = .fz 2 (l'.map zBL)):=by
 refine zAc Try.func50 rfl (by kernel_rfl) Try.ntmps50 (by simp) ?_
 refine zAF fun Y0 hY0=>?_
 refine zAG ?_
 try simp only [↓zAH,EVq,TY,zAE,↓reduceIte,Nat.reduceLT,Nat.reduceLeDiff,Nat.reduceEqDiff,Nat.reduceAdd,Nat.reduceMul,Int.reduceLE,eq_self]
 refine zAD [0,1] ?_
 simp only [KQ,↓KP,↓reduceIte,Nat.reduceEqDiff]
 subst hY0
 refine zAF fun Y1 hY1=>?_
 refine zAG ?_
 try simp only [↓zAH,EVq,TY,zAE,↓reduceIte,Nat.reduceLT,Nat.reduceLeDiff,Nat.reduceEqDiff,Nat.reduceAdd,Nat.reduceMul,Int.reduceLE,eq_self]
 refine zDA (q_clone _ _ (by simpa using hn)) (fun dl Hx hd=>?_)
 try simp only [↓zAH,EVq,TY,zAE,↓reduceIte,Nat.reduceLT,Nat.reduceLeDiff,Nat.reduceEqDiff,Nat.reduceAdd,Nat.reduceMul,Int.reduceLE,eq_self]
 refine zAD [1,5] ?_
 simp only [KQ,↓KP,↓reduceIte,Nat.reduceEqDiff]
 subst hY1
 refine zAF fun Y2 hY2=>?_
 refine zAG ?_
 try simp only [↓zAH,EVq,TY,zAE,↓reduceIte,Nat.reduceLT,Nat.reduceLeDiff,Nat.reduceEqDiff,Nat.reduceAdd,Nat.reduceMul,Int.reduceLE,eq_self]
 refine zDA (ord80 hdc h0 hs _ dl Hx hd) (fun d2 H2 hd2=>?_)
 obtain ⟨rfl,l2,hQ,d3,hz,hle⟩:=hd2
 try simp only [↓zAH,EVq,TY,zAE,↓reduceIte,Nat.reduceLT,Nat.reduceLeDiff,Nat.reduceEqDiff,Nat.reduceAdd,Nat.reduceMul,Int.reduceLE,eq_self]
 refine zAD [5] ?_
 simp only [KQ,↓KP,↓reduceIte,Nat.reduceEqDiff]
 subst hY2
 refine zAF fun Y3 hY3=>?_
 refine zAG ?_
 try simp only [↓zAH,EVq,TY,zAE,↓reduceIte,Nat.reduceLT,Nat.reduceLeDiff,Nat.reduceEqDiff,Nat.reduceAdd,Nat.reduceMul,Int.reduceLE,eq_self]
 refine zAD [4] ?_
 simp only [KQ,↓KP,↓reduceIte,Nat.reduceEqDiff]
 subst hY3
 refine zDi 3 Try.func50 Try.results50 (by simp only [aRes,↓zAU,↓KP,KQ,↓reduceIte,Nat.reduceEqDiff,zBh,TY] <;> rfl) (ds:=[dl]) hz hle ⟨_,hQ,rfl⟩
end Go.Proofs.Qd
namespace Go.Q
open Go Go.T Go.Ab Go.Proofs Go.Proofs.Qd
variable [Go.Ab.DM]
def rin (l:List Int):Go.T.Rows:=[(0,.one (.own 1) ()),(0,.many (.int .i64) l)]
def rout (l:List Int):Go.T.Rows:=[(0,.one (.own 2) ()),(0,.gone),(0,.many (.int .i64) l)]
theorem hp_sound {P:Program} {f:FuncId} {ds:List D} {ζ:Nat → Row} {num:Nat → Nat} {H:Heap} {l:List Int} {G:D → List Int → Prop} (hH:HRel ζ num (rin l) H)
   (h:∀ H0,H0.length = H.length → Hp (num 0) l (fun _=>False) H0 → Sound P f ds H0 fun d H'=>∃ l',Hp (num 0) l' (fun _=>False) H' ∧ G d l') :
   Sound P f ds H fun d H'=>∃ l',G d l' ∧ ∃ num',HRel ζ num' (rout l') H' ∧ num' 0 = num 0 ∧ H.length ≤ num' 2:=by
 obtain ⟨_,k,d,h1,h2,h3⟩:=hH.row 0
 obtain ⟨_,h4⟩:=hH.row 1
 have h5:num 0 ≠ num 1:=hH.inj 0 1 rfl rfl (by decide)
 have ha:=Heap.get_lt h1
 have hc:d.cells = [d]:=zBF h2
 have h3':Tls [d] [.sl (num 1) 0 l.length]:=by rw [← hc];exact h3
 have hte:Te d (.sl (num 1) 0 l.length):=⟨by rw [hc];rfl,fun _=>rfl,by rw [hc];exact h3'⟩
 refine Sound.retell h1 hte ?_
 have hl:d.cells.length = 1:=by rw [hc];rfl
 rw [hl]
 have hget:=Heap.get_set H ha (some (Row.cells 1 [.sl (num 1) 0 l.length]))
 refine Sound.mv (h _ (by simp) ⟨num 1,h5,id,id,by rw [hget,if_pos rfl],by rw [hget,if_neg (fun e=>h5 e.symm)];exact h4⟩) fun dd H' hn hR=>?_
 obtain ⟨l',⟨b,g1,_,_,g2,g3⟩,g4⟩:=hR
 have hn:H.length ≤ H'.length:=by simpa using hn
 refine ⟨num 0,b,1,l'.length,l'.map iD,g1,g2,g3,l',g4,fun r=>if r = 0 then num 0 else H'.length,?_,by simp,by simpa using hn⟩
 have ha':=Heap.get_lt g2
 have hb':=Heap.get_lt g3
 refine ⟨fun r=>?_,fun r q hr hq hne=>?_,fun r t x hr=>?_⟩
 · match r with
   | 0 =>
     refine ⟨rfl,1,.sl H'.length 0 l'.length,?_,rfl,Tls.refl _⟩
     show (mvH H' (num 0) b 1 l'.length (l'.map iD)).get (if (0:Nat) = 0 then num 0 else H'.length) = _
     rw [if_pos rfl,mvH_get ha' hb',if_neg (Nat.ne_of_lt ha'),if_pos rfl]
   | 1=>trivial
   | 2 =>
     refine ⟨rfl,?_⟩
     show (mvH H' (num 0) b 1 l'.length (l'.map iD)).get (if (2:Nat) = 0 then num 0 else H'.length) = _
     rw [if_neg (by decide),mvH_get ha' hb',if_pos rfl];rfl
   | r + 3=>trivial
 · match r,q with
   | 0,0=>exact absurd rfl hne
   | 0,2=>simpa using Nat.ne_of_lt ha'
   | 2,0=>simpa using (Nat.ne_of_lt ha').symm
   | 2,2=>exact absurd rfl hne
   | 1,_=>cases hr
   | _,1=>cases hq
   | r + 3,_=>cases hr
   | _,q + 3=>cases hq
 · match r with
   | 0=>cases hr;show 2 < 3;decide
   | 1=>cases hr
   | 2=>cases hr
   | r + 3=>cases hr
noncomputable def F46 (l:List Int):Option (List Int):=bif Nat.ble l.length 1000000 then some (initGo l.length l (l.length / 2)) else none
noncomputable def F48 (l:List Int):Option (Int × List Int):=bif Nat.ble 1 l.length && Nat.ble l.length 1000000 then (let l2:=down (l.length - 1) (zDf l 0 (l.length - 1)) 0;some (l2.getLastD 0,l2.dropLast)) else none
noncomputable def F49 (x:Int × List Int):Option (List Int):=bif Nat.ble (x.2.length + 1) 1000000 then some (up (x.2 ++ [x.1]) x.2.length) else none
noncomputable def c46:Con:=⟨46,[.ifc 80 (.p0 0 0)],[.one (.own 1),.many (.int .i64)],.tup .unit,[.one (.own 2),.gone,.many (.int .i64)],F46,none⟩
noncomputable def c48:Con:=⟨48,[.ifc 80 (.p0 0 0)],[.one (.own 1),.many (.int .i64)],.ifc 3 (.int .i64),[.one (.own 2),.gone,.many (.int .i64)],F48,none⟩
noncomputable def c49:Con:=⟨49,[.ifc 80 (.p0 0 0),.ifc 3 (.int .i64)],[.one (.own 1),.many (.int .i64)],.tup .unit,[.one (.own 2),.gone,.many (.int .i64)],F49,none⟩
theorem conds {ζ:Nat → Row} {num num':Nat → Nat} {l l':List Int} {H H':Heap} (h0:num' 0 = num 0) (h2:H.length ≤ num' 2) :
   (∀ r:Nat,zAT (Go.T.zAA (rout l') r) = true → (r < 2 → num' r = num r) ∧ (2 ≤ r → H.length ≤ num' r)) ∧ ∀ r,r < 2 → zAP (Go.T.zAA (rout l') r) = true → zCZ (Go.T.zAA (rout l') r) = zCZ (Go.T.zAA (rin l) r):=by
 constructor
 · intro r hr
   match r with
   | 0=>exact ⟨fun _=>h0,fun h=>absurd h (by decide)⟩
   | 1=>cases hr
   | 2=>exact ⟨fun h=>absurd h (by decide),fun _=>h2⟩
   | r + 3=>cases hr
 · intro r hr hl
   match r with
   | 0=>cases hl
   | 1=>cases hl
   | r + 2=>omega
theorem ok46:zAo Try.prog c46:=fun (l:List Int) hx ζ num H hH _=>by
 obtain ⟨y,hy⟩:=hx
 have hl:l.length ≤ 1000000:=by
   have hy:F46 l = some y:=hy
   unfold F46 at hy
   cases h:Nat.ble l.length 1000000 with
   | true=>exact Nat.le_of_ble_eq_true h
   | false=>rw [h] at hy;cases hy
 have hF:F46 l = some (initGo l.length l (l.length / 2)):=by unfold F46;rw [Nat.ble_eq_true_of_le hl];rfl
 refine Sound.mono (hp_sound (G:=fun d l'=>l' = initGo l.length l (l.length / 2) ∧ d = .tup []) (l:=l) hH fun H0 hn hp=>(h_init H0 (num 0) l _ hp hl).mono fun d H' h=>⟨_,h.1,rfl,h.2.2⟩) fun d H' h=>?_
 obtain ⟨l',⟨rfl,rfl⟩,num',h1,h2,h3⟩:=h
 obtain ⟨h4,h5⟩:=conds (ζ:=ζ) (l:=l) (l':=initGo l.length l (l.length / 2)) (H':=H') h2 h3
 exact ⟨_,hF,ζ,num',h1,rfl,trivial,h4,h5⟩
theorem ok49:zAo Try.prog c49:=fun (x:Int × List Int) hx ζ num H hH _=>by
 obtain ⟨a,l⟩:=x
 obtain ⟨y,hy⟩:=hx
 have hl:l.length < 1000000:=by
   have hy:F49 (a,l) = some y:=hy
   unfold F49 at hy
   cases h:Nat.ble (l.length + 1) 1000000 with
   | true=>exact Nat.le_of_ble_eq_true h
   | false=>rw [h] at hy;cases hy
 have hF:F49 (a,l) = some (up (l ++ [a]) l.length):=by unfold F49;rw [Nat.ble_eq_true_of_le hl];rfl
 refine Sound.mono (hp_sound (G:=fun d l'=>l' = up (l ++ [a]) l.length ∧ d = .tup []) (l:=l) hH fun H0 hn hp=>(h_push H0 (num 0) a l _ (fun _ h=>h.elim) hp hl).mono fun d H' h=>⟨_,h.1,rfl,h.2.2⟩) fun d H' h=>?_
 obtain ⟨l',⟨rfl,rfl⟩,num',h1,h2,h3⟩:=h
 obtain ⟨h4,h5⟩:=conds (ζ:=ζ) (l:=l) (l':=up (l ++ [a]) l.length) (H':=H') h2 h3
 exact ⟨_,hF,ζ,num',h1,rfl,trivial,h4,h5⟩
theorem ok48:zAo Try.prog c48:=fun (l:List Int) hx ζ num H hH _=>by
 obtain ⟨y,hy⟩:=hx
 have hl:1 ≤ l.length ∧ l.length ≤ 1000000:=by
   have hy:F48 l = some y:=hy
   unfold F48 at hy
   cases h:Nat.ble 1 l.length && Nat.ble l.length 1000000 with
   | true=>rw [Bool.and_eq_true] at h;exact ⟨Nat.le_of_ble_eq_true h.1,Nat.le_of_ble_eq_true h.2⟩
   | false=>rw [h] at hy;cases hy
 have hne:l ≠ []:=fun h=>by rw [h] at hl;simp at hl
 have hne2:down (l.length - 1) (zDf l 0 (l.length - 1)) 0 ≠ []:=fun h=>by
   have:=congrArg List.length h
   rw [down_len,zCO] at this
   simp at this;exact hne (List.length_eq_zero_iff.1 (by simpa using this))
 have hg:(down (l.length - 1) (zDf l 0 (l.length - 1)) 0).getLastD 0 = (down (l.length - 1) (zDf l 0 (l.length - 1)) 0).getLast hne2:=by
   rw [List.getLastD_eq_getLast?,List.getLast?_eq_some_getLast hne2];rfl
 have hF:F48 l = some ((down (l.length - 1) (zDf l 0 (l.length - 1)) 0).getLast hne2,(down (l.length - 1) (zDf l 0 (l.length - 1)) 0).dropLast):=by
   unfold F48;rw [Nat.ble_eq_true_of_le hl.1,Nat.ble_eq_true_of_le hl.2];simp only [Bool.and_self,cond_true];rw [hg]
 refine Sound.mono (hp_sound (G:=fun d l'=>l' = (down (l.length - 1) (zDf l 0 (l.length - 1)) 0).dropLast ∧ d = .ifc 3 (iD ((down (l.length - 1) (zDf l 0 (l.length - 1)) 0).getLast hne2))) (l:=l) hH fun H0 hn hp=>(h_pop H0 (num 0) l _ _ (fun _ h=>h.elim) hp hne rfl hne2 hl.2).mono fun d H' h=>⟨_,h.1,rfl,h.2.2⟩) fun d H' h=>?_
 obtain ⟨l',⟨rfl,rfl⟩,num',h1,h2,h3⟩:=h
 obtain ⟨h4,h5⟩:=conds (ζ:=ζ) (l:=l) (l':=(down (l.length - 1) (zDf l 0 (l.length - 1)) 0).dropLast) (H':=H') h2 h3
 exact ⟨_,hF,ζ,num',h1,rfl,trivial,h4,h5⟩
end Go.Q
set_option maxRecDepth 100000
namespace Go.Proofs
open Go.Shelf
def Try.sortNode_ren:Go.Shelf.Ren:=⟨fun | 6=>80 | 15=>71 | 14=>108 | 28=>104 | 29=>105 | 20=>120 | 21=>121 | 22=>122 | 23=>123 | 24=>124 | 25=>125 | 26=>126 | 27=>127 | 46=>130 | 47=>114 | 48=>115 | 49=>131 | 50=>132 | 57=>134 | n=>n,fun | 22=>22 | 24=>71 | 25=>85 | 3=>3 | 39=>102 | 0=>0 | 53=>138 | 55=>103 | 4=>4 | 46=>131 | 45=>130 | 50=>72 | 5=>5 | 9=>9 | 66=>146 | 70=>150 | 76=>161 | 77=>43 | n=>n,fun | n=>n⟩
theorem Try.sortNode:Go.Proofs.SlLaysF0.n6 Try.prog Try.sortNode_ren:={
 mixed:=by kernel_rfl
 f6:=⟨Try.f80.name,by decide,Try.func80.trans (congrArg some (by kernel_rfl))⟩
 f14:=⟨Try.f108.name,by decide,Try.func108.trans (congrArg some (by kernel_rfl))⟩
 f15:=Try.func71.trans (congrArg some (by kernel_rfl))
 f20:=⟨Try.f120.name,by decide,Try.func120.trans (congrArg some (by kernel_rfl))⟩
 f21:=⟨Try.f121.name,by decide,Try.func121.trans (congrArg some (by kernel_rfl))⟩
 f22:=⟨Try.f122.name,by decide,Try.func122.trans (congrArg some (by kernel_rfl))⟩
 f23:=⟨Try.f123.name,by decide,Try.func123.trans (congrArg some (by kernel_rfl))⟩
 f24:=⟨Try.f124.name,by decide,Try.func124.trans (congrArg some (by kernel_rfl))⟩
 f25:=⟨Try.f125.name,by decide,Try.func125.trans (congrArg some (by kernel_rfl))⟩
 f26:=⟨Try.f126.name,by decide,Try.func126.trans (congrArg some (by kernel_rfl))⟩
 f27:=⟨Try.f127.name,by decide,Try.func127.trans (congrArg some (by kernel_rfl))⟩
 f28:=Try.func104.trans (congrArg some (by kernel_rfl))
 f29:=Try.func105.trans (congrArg some (by kernel_rfl))
 f46:=⟨Try.f130.name,by decide,Try.func130.trans (congrArg some (by kernel_rfl))⟩
 f47:=Try.func114.trans (congrArg some (by kernel_rfl))
 f48:=Try.func115.trans (congrArg some (by kernel_rfl))
 f49:=⟨Try.f131.name,by decide,Try.func131.trans (congrArg some (by kernel_rfl))⟩
 f50:=⟨Try.f132.name,by decide,Try.func132.trans (congrArg some (by kernel_rfl))⟩
 f57:=⟨Try.f134.name,by decide,Try.func134.trans (congrArg some (by kernel_rfl))⟩
 t0:=Try.underlying0
 a0:=Try.isAgg0
 z0:=Try.sizeOf0
 v0:=Try.zeroValue0
 t3:=Try.underlying3
 a3:=Try.isAgg3
 z3:=Try.sizeOf3
 v3:=Try.zeroValue3
 t4:=Try.underlying4
 a4:=Try.isAgg4
 z4:=Try.sizeOf4
 v4:=Try.zeroValue4
 t5:=Try.underlying5
 a5:=Try.isAgg5
 z5:=Try.sizeOf5
 v5:=Try.zeroValue5
 t9:=Try.underlying9
 a9:=Try.isAgg9
 z9:=Try.sizeOf9
 v9:=Try.zeroValue9
 t22:=Try.underlying22
 a22:=Try.isAgg22
 z22:=Try.sizeOf22
 v22:=Try.zeroValue22
 t25:=Try.underlying85
 a25:=Try.isAgg85
 z25:=Try.sizeOf85
 v25:=Try.zeroValue85
 t39:=Try.underlying102
 a39:=Try.isAgg102
 z39:=Try.sizeOf102
 v39:=Try.zeroValue102
 t45:=Try.underlying130
 a45:=Try.isAgg130
 z45:=Try.sizeOf130
 v45:=Try.zeroValue130
 t46:=Try.underlying131
 a46:=Try.isAgg131
 z46:=Try.sizeOf131
 v46:=Try.zeroValue131
 t50:=Try.underlying72
 a50:=Try.isAgg72
 z50:=Try.sizeOf72
 v50:=Try.zeroValue72
 t53:=Try.underlying138
 a53:=Try.isAgg138
 z53:=Try.sizeOf138
 v53:=Try.zeroValue138
 t55:=Try.underlying103
 a55:=Try.isAgg103
 z55:=Try.sizeOf103
 v55:=Try.zeroValue103
 t66:=Try.underlying146
 a66:=Try.isAgg146
 z66:=Try.sizeOf146
 v66:=Try.zeroValue146
 t70:=Try.underlying150
 a70:=Try.isAgg150
 z70:=Try.sizeOf150
 v70:=Try.zeroValue150
 t76:=Try.underlying161
 a76:=Try.isAgg161
 z76:=Try.sizeOf161
 v76:=Try.zeroValue161
 t77:=Try.underlying43
 a77:=Try.isAgg43
 z77:=Try.sizeOf43
 v77:=Try.zeroValue43 }
end Go.Proofs
namespace Go.Q
open Go Go.T Go.Proofs
theorem sorts80:SortsAt Try.prog 80 2:=fun enc hk h1 cf hO g cb blk off cap d w eg hcmp hH hblk hsz =>
 AnyQ.slices_SortFunc Try.sortNode 2 Try.isAgg71 Try.sizeOf71 enc hk h1 cf hO g cb blk off cap d w eg hcmp hH hblk hsz
end Go.Q
namespace Go.Proofs
open Go.Shelf
variable [Go.Ab.DM]
def Try.sortInt_ren:Go.Shelf.Ren:=⟨fun | 189=>36 | 125=>71 | 257=>70 | 128=>104 | 129=>105 | 294=>95 | 295=>96 | 296=>97 | 297=>98 | 298=>99 | 299=>100 | 216=>101 | 300=>102 | 301=>103 | 328=>113 | 329=>114 | 330=>115 | 331=>116 | 332=>117 | 215=>118 | 343=>129 | n=>n,fun | 28=>45 | 3=>3 | 46=>102 | 0=>0 | 51=>138 | 53=>103 | 4=>4 | 183=>131 | 182=>130 | 131=>72 | 5=>5 | 9=>9 | 218=>146 | 222=>150 | 228=>161 | 229=>43 | n=>n,fun | n=>n⟩
theorem Try.sortInt:Go.Proofs.Lays.n189 Try.prog Try.sortInt_ren:={
 mixed:=by kernel_rfl
 f125:=Try.func71.trans (congrArg some (by kernel_rfl))
 f128:=Try.func104.trans (congrArg some (by kernel_rfl))
 f129:=Try.func105.trans (congrArg some (by kernel_rfl))
 f189:=Try.func36.trans (congrArg some (by kernel_rfl))
 f215:=Try.func118.trans (congrArg some (by kernel_rfl))
 f216:=Try.func101.trans (congrArg some (by kernel_rfl))
 f257:=Try.func70.trans (congrArg some (by kernel_rfl))
 f294:=Try.func95.trans (congrArg some (by kernel_rfl))
 f295:=Try.func96.trans (congrArg some (by kernel_rfl))
 f296:=Try.func97.trans (congrArg some (by kernel_rfl))
 f297:=Try.func98.trans (congrArg some (by kernel_rfl))
 f298:=Try.func99.trans (congrArg some (by kernel_rfl))
 f299:=Try.func100.trans (congrArg some (by kernel_rfl))
 f300:=Try.func102.trans (congrArg some (by kernel_rfl))
 f301:=Try.func103.trans (congrArg some (by kernel_rfl))
 f328:=Try.func113.trans (congrArg some (by kernel_rfl))
 f329:=Try.func114.trans (congrArg some (by kernel_rfl))
 f330:=Try.func115.trans (congrArg some (by kernel_rfl))
 f331:=Try.func116.trans (congrArg some (by kernel_rfl))
 f332:=Try.func117.trans (congrArg some (by kernel_rfl))
 f343:=Try.func129.trans (congrArg some (by kernel_rfl))
 t0:=Try.underlying0
 a0:=Try.isAgg0
 z0:=Try.sizeOf0
 v0:=Try.zeroValue0
 t3:=Try.underlying3
 a3:=Try.isAgg3
 z3:=Try.sizeOf3
 v3:=Try.zeroValue3
 t4:=Try.underlying4
 a4:=Try.isAgg4
 z4:=Try.sizeOf4
 v4:=Try.zeroValue4
 t5:=Try.underlying5
 a5:=Try.isAgg5
 z5:=Try.sizeOf5
 v5:=Try.zeroValue5
 t9:=Try.underlying9
 a9:=Try.isAgg9
 z9:=Try.sizeOf9
 v9:=Try.zeroValue9
 t28:=Try.underlying45
 a28:=Try.isAgg45
 z28:=Try.sizeOf45
 v28:=Try.zeroValue45
 t46:=Try.underlying102
 a46:=Try.isAgg102
 z46:=Try.sizeOf102
 v46:=Try.zeroValue102
 t51:=Try.underlying138
 a51:=Try.isAgg138
 z51:=Try.sizeOf138
 v51:=Try.zeroValue138
 t53:=Try.underlying103
 a53:=Try.isAgg103
 z53:=Try.sizeOf103
 v53:=Try.zeroValue103
 t131:=Try.underlying72
 a131:=Try.isAgg72
 z131:=Try.sizeOf72
 v131:=Try.zeroValue72
 t182:=Try.underlying130
 a182:=Try.isAgg130
 z182:=Try.sizeOf130
 v182:=Try.zeroValue130
 t183:=Try.underlying131
 a183:=Try.isAgg131
 z183:=Try.sizeOf131
 v183:=Try.zeroValue131
 t218:=Try.underlying146
 a218:=Try.isAgg146
 z218:=Try.sizeOf146
 v218:=Try.zeroValue146
 t222:=Try.underlying150
 a222:=Try.isAgg150
 z222:=Try.sizeOf150
 v222:=Try.zeroValue150
 t228:=Try.underlying161
 a228:=Try.isAgg161
 z228:=Try.sizeOf161
 v228:=Try.zeroValue161
 t229:=Try.underlying43
 a229:=Try.isAgg43
 z229:=Try.sizeOf43
 v229:=Try.zeroValue43 }
end Go.Proofs
namespace Go.Q
open Go Go.T Go.Ab Go.Proofs
variable [Go.Ab.DM]
end Go.Q
namespace Go.Q
open Go Go.T Go.Ab Go.Proofs Go.Proofs.Qd
variable [Go.Ab.DM]
abbrev Dg:=Int × (Int × (Int × List Nd))
abbrev tI:Ty:=.int .i64
abbrev tN:Ty:=.agg (.pr tI tI)
abbrev tD:Ty:=.agg (.pr tI (.pr tI (.pr tI (.sl tN))))
abbrev tF (k:Nat):Ty:=.fn k .unit (.fp tD 0)
def zDg:Dg:=(0,0,0,[])
def qaddT (bits k count:Int) (nodes:List Nd) (value n:Int):Dg × Int :=
 if zBC bits k count nodes ≠ 0 then (zDg,1)
 else if value < 0 ∨ shl 1 bits ≤ value ∨ n < 1 then (zDg,2)
 else if 1099511627776 - count < n then (zDg,4)
 else if fnd nodes (shl 1 bits + value) = true then ((bits,k,count + n,bump nodes (lb nodes (shl 1 bits + value)) n),0)
 else if 2000 ≤ nodes.length then (zDg,4)
 else ((bits,k,count + n,insL nodes (lb nodes (shl 1 bits + value)) (shl 1 bits + value,n)),0)
def inI (x:Int):Prop:=-9223372036854775808 ≤ x ∧ x < 9223372036854775808
instance (x:Int):Decidable (inI x):=by unfold inI;infer_instance
noncomputable def F16 (x:Dg × (Int × Int)):Option (Dg × Int):=if x.1.2.2.2.length ≤ 100000000 ∧ inI x.2.1 ∧ inI x.2.2 then some (qaddT x.1.1 x.1.2.1 x.1.2.2.1 x.1.2.2.2 x.2.1 x.2.2) else none
noncomputable def c16:Con:=⟨16,[tD,tI,tI],[],.tup (.pr tD tI),[],F16,none⟩
theorem qadd_T (bits k count:Int) (nodes:List Nd) (value n:Int):zDk bits k count nodes value n = enc zDD ⟨.tup (.pr tD tI),qaddT bits k count nodes value n⟩:=by
 unfold zDk qaddT
 split
 · rfl
 split
 · rfl
 split
 · rfl
 split
 · rfl
 split
 · rfl
 · rfl
theorem ok16:zAo Try.prog c16:=by
 refine con_pure rfl rfl (fun x v hv=>?_) (fun y=>rfl) fun (x:Dg × (Int × Int)) hx=>?_
 · have hv:v ∈ [(⟨tD,x.1⟩:TV),⟨tI,x.2.1⟩,⟨tI,x.2.2⟩]:=hv
   simp only [List.mem_cons,List.not_mem_nil,or_false] at hv
   rcases hv with rfl | rfl | rfl <;> rfl
 · obtain ⟨⟨bits,k,count,nodes⟩,value,n⟩:=x
   obtain ⟨y,hy⟩:=hx
   have hc:nodes.length ≤ 100000000 ∧ inI value ∧ inI n:=by
     have hy:F16 ((bits,k,count,nodes),value,n) = some y:=hy
     unfold F16 at hy
     split at hy
     · assumption
     · cases hy
   have hF:F16 ((bits,k,count,nodes),value,n) = some (qaddT bits k count nodes value n):=by unfold F16;rw [if_pos hc]
   refine Pure.mono (q_add bits k count nodes value n hc.1 hc.2.1 hc.2.2) fun d hd=>⟨_,hF,?_⟩
   rw [hd,qadd_T];rfl
def keyOk (x:Int):Prop:=-4611686018427387904 ≤ x ∧ x < 4611686018427387904
theorem isub_ok {a b:Int} (ha:keyOk a) (hb:keyOk b):zDG .i64 a b = a - b:=by
 obtain ⟨h1,h2⟩:=ha;obtain ⟨h3,h4⟩:=hb
 exact zAf (by omega) (by omega)
def Ord (key:Nd → Option Int) (l r:List Nd):Prop:=l.length ≤ 100000000 ∧ (∀ n ∈ l,∃ k,key n = some k ∧ keyOk k) ∧ r.Perm l ∧ r.Pairwise fun a b=>∀ i j,key a = some i → key b = some j → i ≤ j
def cfK (key:Nd → Option Int) (a b:Nd):Int:=zDG .i64 ((key a).getD 0) ((key b).getD 0)
theorem lt_key {key:Nd → Option Int} {a b:Nd} {i j:Int} (ha:key a = some i) (hb:key b = some j) (hi:keyOk i) (hj:keyOk j):Go.Proofs.ltOf (cfK key) a b = decide (i < j):=by
 unfold Go.Proofs.ltOf cfK
 rw [ha,hb]
 show decide (zDG .i64 i j < 0) = _
 rw [isub_ok hi hj]
 congr 1
 exact propext ⟨fun h=>by omega,fun h=>by omega⟩
theorem cmp_ok {key:Nd → Option Int} {cc:Con} {cap:List TV} (ok:@zAo ⟨True⟩ Try.prog cc) (ins:cc.ins = []) (outs:cc.outs = []) (hp:∀ v ∈ cap,v.t.pure = true) (he:∀ args w,(callFunc cc.f args).run Try.prog w = .ok (.enter cc.f args) w)
   (hg:∀ x y i j,key x = some i → key y = some j → ∃ z,zAg cc z = ⟨tN,x⟩ :: ⟨tN,y⟩ :: cap ∧ (∃ r,cc.Q z r) ∧ ∀ r,cc.Q z r → zBB cc r = ⟨tI,zDG .i64 i j⟩) :
   CmpOk Try.prog cc tN cap (fun n:Nd=>∃ k,key n = some k ∧ keyOk k) (cfK key):=by
 refine ⟨ok,ins,outs,hp,he,fun x y hx hy=>?_,fun x hx=>?_,fun x y z hx hy hz=>?_,fun x y z hx hy hz=>?_⟩
 · obtain ⟨i,hi,_⟩:=hx
   obtain ⟨j,hj,_⟩:=hy
   obtain ⟨z,h1,h2,h3⟩:=hg x y i j hi hj
   refine ⟨z,h1,h2,fun r hr=>?_⟩
   rw [h3 r hr]
   unfold cfK;rw [hi,hj];rfl
 · obtain ⟨i,hi,hk⟩:=hx
   exact (lt_key hi hi hk hk).trans (by simp)
 · obtain ⟨i,hi,hki⟩:=hx
   obtain ⟨j,hj,hkj⟩:=hy
   obtain ⟨k,hk,hkk⟩:=hz
   intro h1 h2
   have h1:=(lt_key hi hj hki hkj).symm.trans h1
   have h2:=(lt_key hj hk hkj hkk).symm.trans h2
   refine (lt_key hi hk hki hkk).trans ?_
   simp only [decide_eq_true_eq] at h1 h2 ⊢;omega
 · obtain ⟨i,hi,hki⟩:=hx
   obtain ⟨j,hj,hkj⟩:=hy
   obtain ⟨k,hk,hkk⟩:=hz
   intro h1 h2
   have h1:=(lt_key hi hj hki hkj).symm.trans h1
   have h2:=(lt_key hj hk hkj hkk).symm.trans h2
   refine (lt_key hi hk hki hkk).trans ?_
   simp only [decide_eq_false_iff_not] at h1 h2 ⊢;omega
theorem ord_pure {key:Nd → Option Int} {cc:Con} {cap:List TV} (c:CmpOk Try.prog cc tN cap (fun n:Nd=>∃ k,key n = some k ∧ keyOk k) (cfK key)) (n0:Nd) (h0:∃ k,key n0 = some k ∧ keyOk k) (l:List Nd) (hl:l.length ≤ 100000000) (hd:∀ n ∈ l,∃ k,key n = some k ∧ keyOk k) :
   Pure Try.prog 50 [.fz 2 (l.map zBL),.fn (.func cc.f) [] (cap.map (enc zDD))] fun d=>∃ r,Ord key l r ∧ d = .fz 2 (r.map zBL):=by
 have hnr:(D.fn (.func cc.f) [] (cap.map (enc zDD))).noref = true:=by rw [D.noref,Bool.and_eq_true];exact ⟨by rw [zAb],norefs_enc c.pure⟩
 refine q_ordered (Q:=Ord key) l hl _ hnr (fun h=>?_) fun H r hg=>?_
 · subst h;exact ⟨by simp,by simp,.nil,.nil⟩
 · refine (sort_sound (T:=tN) sorts80 c rfl rfl ⟨Try.f80,Try.func80,by kernel_rfl,by kernel_rfl⟩ n0 h0 (fun own U w=>⟨[.int .i64 n0.1,.int .i64 n0.2],?_⟩) (l:=l) hg hd (Nat.lt_of_le_of_lt hl (by decide))).mono fun d H' h=>?_
   · show VRels own U w 0 [.v (.int .i64 n0.1),.v (.int .i64 n0.2)] _
     simp [VRels,VRel]
   · obtain ⟨rfl,l',hp,hs,rfl⟩:=h
     refine ⟨rfl,l',⟨hl,hd,hp,hs.imp_of_mem fun {a b} ha hb hab i j hi hj=>?_⟩,hp.length_eq,rfl⟩
     obtain ⟨i',hi',hki⟩:=hd a (hp.subset ha)
     obtain ⟨j',hj',hkj⟩:=hd b (hp.subset hb)
     rw [hi'] at hi;rw [hj'] at hj
     have:=Option.some.inj hi;subst this
     have:=Option.some.inj hj;subst this
     have hab:=(lt_key hj' hi' hkj hki).symm.trans hab
     simp only [decide_eq_false_iff_not] at hab
     omega
def key51 (n:Nd):Option Int:=some n.1
def Q50 (l r:List Nd):Prop:=Ord key51 l r
def Q50a (x:List Nd × (Unit × (Unit × Dg))) (r:List Nd):Prop:=x.1 ≠ [] ∧ Ord (fun n=>F59 (n,x.2.2.2)) x.1 r
def Q50b (x:List Nd × (Unit × (Unit × Dg))) (r:List Nd):Prop:=x.1 ≠ [] ∧ Ord (fun n=>F60 (n,x.2.2.2)) x.1 r
noncomputable def c50:Con:=⟨50,[.sl tN,.fn 51 .unit .unit],[],.sl tN,[],fun _=>none,some Q50⟩
noncomputable def c50a:Con:=⟨50,[.sl tN,.fn 85 .unit (.fp (tF 59) 0)],[],.sl tN,[],fun _=>none,some Q50a⟩
noncomputable def c50b:Con:=⟨50,[.sl tN,.fn 85 .unit (.fp (tF 60) 0)],[],.sl tN,[],fun _=>none,some Q50b⟩
theorem ok50:zAo Try.prog c50:=by
 refine con_pure rfl rfl (fun (x:List Nd) v hv=>?_) (fun y=>rfl) fun (x:List Nd) hx=>?_
 · have hv:v ∈ [(⟨.sl tN,x⟩:TV),⟨.fn 51 .unit .unit,((),())⟩]:=hv
   simp only [List.mem_cons,List.not_mem_nil,or_false] at hv
   rcases hv with rfl | rfl <;> rfl
 · obtain ⟨y,hy⟩:=hx
   have hy:Q50 x y:=hy
   refine Pure.mono (ord_pure (key:=key51) (cc:=c51) (cap:=[]) (cmp_ok (@ok51 ⟨True⟩) rfl rfl (by simp) (enters_of Try.func51 (by kernel_rfl) rfl) fun a b i j hi hj=>?_) (0,0) ⟨0,rfl,⟨by decide,by decide⟩⟩ x hy.1 hy.2.1) fun d hd=>?_
   · refine ⟨(a,b),rfl,⟨_,rfl⟩,fun r hr=>?_⟩
     have hr:F51 (a,b) = some r:=hr
     have:=Option.some.inj hr;subst this
     have:=Option.some.inj hi;subst this
     have:=Option.some.inj hj;subst this
     rfl
   · obtain ⟨r,h1,rfl⟩:=hd
     exact ⟨r,h1,rfl⟩
theorem ok50a:zAo Try.prog c50a:=by
 refine con_pure rfl rfl (fun (x:List Nd × (Unit × (Unit × Dg))) v hv=>?_) (fun y=>rfl) fun (x:List Nd × (Unit × (Unit × Dg))) hx=>?_
 · have hv:v ∈ [(⟨.sl tN,x.1⟩:TV),⟨.fn 85 .unit (.fp (tF 59) 0),x.2⟩]:=hv
   simp only [List.mem_cons,List.not_mem_nil,or_false] at hv
   rcases hv with rfl | rfl <;> rfl
 · obtain ⟨y,hy⟩:=hx
   have hy:Q50a x y:=hy
   obtain ⟨hne,h1,h2,_⟩:=hy
   obtain ⟨n0,hn0⟩:=List.exists_mem_of_ne_nil _ hne
   refine Pure.mono (ord_pure (key:=fun n=>F59 (n,x.2.2.2)) (cc:=c85a) (cap:=[⟨.fp (tF 59) 0,x.2.2⟩]) (cmp_ok (@ok85a ⟨True⟩) rfl rfl (fun v hv=>?_) (enters_of Try.func85 (by kernel_rfl) rfl) fun a b i j hi hj=>?_) n0 (h2 n0 hn0) x.1 h1 h2) fun d hd=>?_
   · simp only [List.mem_cons,List.not_mem_nil,or_false] at hv
     subst hv;rfl
   · have hF:F85a (a,b,x.2.2) = some (zDG .i64 i j):=by
       unfold F85a
       show call (F59 (a,x.2.2.2)) _ = _
       rw [hi]
       show call (F59 (b,x.2.2.2)) _ = _
       rw [hj];rfl
     refine ⟨(a,b,x.2.2),rfl,⟨_,hF⟩,fun r hr=>?_⟩
     have hr:F85a (a,b,x.2.2) = some r:=hr
     rw [hF] at hr
     have:=Option.some.inj hr;subst this
     rfl
   · obtain ⟨r,h3,rfl⟩:=hd
     exact ⟨r,⟨hne,h3⟩,rfl⟩
theorem ok50b:zAo Try.prog c50b:=by
 refine con_pure rfl rfl (fun (x:List Nd × (Unit × (Unit × Dg))) v hv=>?_) (fun y=>rfl) fun (x:List Nd × (Unit × (Unit × Dg))) hx=>?_
 · have hv:v ∈ [(⟨.sl tN,x.1⟩:TV),⟨.fn 85 .unit (.fp (tF 60) 0),x.2⟩]:=hv
   simp only [List.mem_cons,List.not_mem_nil,or_false] at hv
   rcases hv with rfl | rfl <;> rfl
 · obtain ⟨y,hy⟩:=hx
   have hy:Q50b x y:=hy
   obtain ⟨hne,h1,h2,_⟩:=hy
   obtain ⟨n0,hn0⟩:=List.exists_mem_of_ne_nil _ hne
   refine Pure.mono (ord_pure (key:=fun n=>F60 (n,x.2.2.2)) (cc:=c85b) (cap:=[⟨.fp (tF 60) 0,x.2.2⟩]) (cmp_ok (@ok85b ⟨True⟩) rfl rfl (fun v hv=>?_) (enters_of Try.func85 (by kernel_rfl) rfl) fun a b i j hi hj=>?_) n0 (h2 n0 hn0) x.1 h1 h2) fun d hd=>?_
   · simp only [List.mem_cons,List.not_mem_nil,or_false] at hv
     subst hv;rfl
   · have hF:F85b (a,b,x.2.2) = some (zDG .i64 i j):=by
       unfold F85b
       show call (F60 (a,x.2.2.2)) _ = _
       rw [hi]
       show call (F60 (b,x.2.2.2)) _ = _
       rw [hj];rfl
     refine ⟨(a,b,x.2.2),rfl,⟨_,hF⟩,fun r hr=>?_⟩
     have hr:F85b (a,b,x.2.2) = some r:=hr
     rw [hF] at hr
     have:=Option.some.inj hr;subst this
     rfl
   · obtain ⟨r,h3,rfl⟩:=hd
     exact ⟨r,⟨hne,h3⟩,rfl⟩
end Go.Q
namespace Go.Q
open Go Go.T Go.Ab Go.Proofs
variable [Go.Ab.DM]
noncomputable def F18 (x:(Int × (Int × (Int × (List (Int × Int)))))):(Option ((Int × (Int × (Int × (List (Int × Int))))) × Int)) :=
call (F20 x) fun (r0:Int) =>
sel (ine r0 0) (some ((0,0,0,([]:List (Int × Int))),1)) <|
need (mk 0 (n2i (zAW x.2.2.2)) 8) <|
join (iter (fun (s1:(Int × ((List (Int × Int)) × (List Int)))) =>
sel (ilt s1.1 (n2i (zAW x.2.2.2))) (join (need (inL s1.1 (zAW x.2.2.2)) <|
sel (ilt 1 ((zAq (0,0) x.2.2.2 (i2n s1.1)).1)) (need (ine 2 0) <|
need (room (zDN (zAW s1.2.2) (zAW (iquo .i64 ((zAq (0,0) x.2.2.2 (i2n s1.1)).1) 2 :: ([]:List Int)))) 8) <|
some (.inl (mput ieq s1.2.1 ((zAq (0,0) x.2.2.2 (i2n s1.1)).1) ((zAq (0,0) x.2.2.2 (i2n s1.1)).2),zDQ s1.2.2 (iquo .i64 ((zAq (0,0) x.2.2.2 (i2n s1.1)).1) 2 :: ([]:List Int))))) <|
some (.inl (mput ieq s1.2.1 ((zAq (0,0) x.2.2.2 (i2n s1.1)).1) ((zAq (0,0) x.2.2.2 (i2n s1.1)).2),s1.2.2))) fun (j2:((List (Int × Int)) × (List Int))) =>
some (.inl (zAi .i64 s1.1 1,j2.1,j2.2))) <|
some (.inr (.inl (s1.2.1,s1.2.2)))) (0,([]:List (Int × Int)),lrep 0 0)) fun (j3:((List (Int × Int)) × (List Int))) =>
call (F46 j3.2) fun (r4:(List Int)) =>
need (ine x.2.1 0) <|
join (iter (fun (s5:((List (Int × Int)) × (List Int))) =>
call (F47 s5.2) fun (r6:Int) =>
sel (ilt 0 r6) (join (call (F48 s5.2) fun (r7:(Int × (List Int))) =>
sel (zAJ (ieq (zAi .i64 (mget ieq 0 s5.1 (zBx .i64 2 r7.1)) (mget ieq 0 s5.1 (zAi .i64 (zBx .i64 2 r7.1) 1))) 0) true (ilt (iquo .i64 x.2.2.1 x.2.1) (zAi .i64 (mget ieq 0 s5.1 r7.1) (zAi .i64 (mget ieq 0 s5.1 (zBx .i64 2 r7.1)) (mget ieq 0 s5.1 (zAi .i64 (zBx .i64 2 r7.1) 1)))))) (some (.inl (s5.1,r7.2))) <|
join (need (ile 0 x.1) <|
sel (ilt (zBx .i64 2 r7.1) (zCz .i64 1 x.1)) (call (F49 (zBx .i64 2 r7.1,r7.2)) fun (r8:(List Int)) =>
call (F49 (zAi .i64 (zBx .i64 2 r7.1) 1,r8)) fun (r9:(List Int)) =>
some (.inl r9)) <|
some (.inl r7.2)) fun (j10:(List Int)) =>
sel (ilt 1 r7.1) (need (ine 2 0) <|
call (F49 (iquo .i64 r7.1 2,j10)) fun (r11:(List Int)) =>
some (.inl (mdel ieq (mdel ieq (mput ieq s5.1 r7.1 (zAi .i64 (mget ieq 0 s5.1 r7.1) (zAi .i64 (mget ieq 0 s5.1 (zBx .i64 2 r7.1)) (mget ieq 0 s5.1 (zAi .i64 (zBx .i64 2 r7.1) 1))))) (zBx .i64 2 r7.1)) (zAi .i64 (zBx .i64 2 r7.1) 1),r11))) <|
some (.inl (mdel ieq (mdel ieq (mput ieq s5.1 r7.1 (zAi .i64 (mget ieq 0 s5.1 r7.1) (zAi .i64 (mget ieq 0 s5.1 (zBx .i64 2 r7.1)) (mget ieq 0 s5.1 (zAi .i64 (zBx .i64 2 r7.1) 1))))) (zBx .i64 2 r7.1)) (zAi .i64 (zBx .i64 2 r7.1) 1),j10))) fun (j12:((List (Int × Int)) × (List Int))) =>
some (.inl (j12.1,j12.2))) <|
some (.inr (.inl s5.1))) (j3.1,r4)) fun (j13:(List (Int × Int))) =>
need (mk 0 (n2i (zAW j13)) 16) <|
mrange j13 (fun (p14:(Int × Int)) (s15:(List (Int × Int))) =>
need (room (zDN (zAW s15) (zAW ((p14.1,p14.2) :: ([]:List (Int × Int))))) 16) <|
some (.inl (zDQ s15 ((p14.1,p14.2) :: ([]:List (Int × Int)))))) (fun (s16:(List (Int × Int))) =>
up (callQ (Q50 s16) fun (r17:(List (Int × Int))) =>
some ((x.1,x.2.1,x.2.2.1,r17),0))) (lrep 0 (0,0))
noncomputable def c18:Con:=⟨18,[.agg (.pr (.int .i64) (.pr (.int .i64) (.pr (.int .i64) (.sl (.agg (.pr (.int .i64) (.int .i64)))))))],[],.tup (.pr (.agg (.pr (.int .i64) (.pr (.int .i64) (.pr (.int .i64) (.sl (.agg (.pr (.int .i64) (.int .i64)))))))) (.int .i64)),[],F18,none⟩
theorem ok18:zAo Try.prog c18:=zBe zDB [c20,c46,c47,c48,c49,c50,c50a,c50b] (zAQ ok20 (zAQ ok46 (zAQ ok47 (zAQ ok48 (zAQ ok49 (zAQ ok50 (zAQ ok50a (zAQ ok50b (zBd))))))))) c18 Try.f18 (.n .o (.n .o (.n .o (.n .o (.n (.n .o (.jb ⟨[1,2,4,5],[],[(2,.mp (.int .i64) (.int .i64)),(3,.many (.int .i64)),(4,.one (.own 3))],5,0⟩ (.l ⟨[1,2,4,5,28,29],[(30,.int .i64)],[(2,.mp (.int .i64) (.int .i64)),(3,.many (.int .i64)),(4,.one (.own 3))],5,1⟩ (.n .o (.n .o (.n (.jb ⟨[1,2,4,5,28,29,30],[],[(2,.mp (.int .i64) (.int .i64)),(3,.many (.int .i64)),(4,.one (.own 3))],5,2⟩ .o) .o)))))) (.n .o (.n .o (.n (.jb ⟨[1,2,4],[],[(2,.mp (.int .i64) (.int .i64))],3,3⟩ (.l ⟨[1,2,4,5,8],[],[(2,.mp (.int .i64) (.int .i64)),(3,.gone),(4,.one (.own 5)),(5,.many (.int .i64))],6,4⟩ (.n .o (.jb ⟨[1,2,4,5,8],[],[(2,.mp (.int .i64) (.int .i64)),(3,.many (.int .i64)),(4,.one (.own 3))],5,5⟩ (.n .o (.n .o (.n .o (.n .o (.n .o (.n .o (.n .o (.j ⟨[1,2,4,5,8,9],[],[(3,.many (.int .i64)),(4,.one (.own 3))],5,6⟩ .o .o)))))))))))) (.n .o (.n (.n .o (.b (.lm ⟨[1,2,128],[(12,.own 3)],[(3,.many (.agg (.pr (.int .i64) (.int .i64))))],5,7⟩ 4 .o))) (.n (.r [0,1,2,3,4,5,6,7,8,9,10]) .o))))))))))) Try.func18 (by kernel_rfl) (by kernel_rfl) (by kernel_rfl) rfl (fun x=>by kernel_rfl) (fun x=>⟨by kernel_rfl,by kernel_rfl⟩)
noncomputable def F39 (x:(Int × (Int × (List Int)))):(Option ((Int × (Int × (Int × (List (Int × Int))))) × Bool)) :=
call (F13 (x.1,x.2.1)) fun (r0:((Int × (Int × (Int × (List (Int × Int))))) × Int)) =>
join (iter (fun (s1:(Int × (Int × (Int × (Int × (Int × (List (Int × Int)))))))) =>
sel (ilt s1.2.1 (n2i (zAW x.2.2))) (join (need (inL s1.2.1 (zAW x.2.2)) <|
sel (ieq s1.1 0) (call (F16 (s1.2.2,zAq 0 x.2.2 (i2n s1.2.1),1)) fun (r2:((Int × (Int × (Int × (List (Int × Int))))) × Int)) =>
some (.inl (r2.2,r2.1))) <|
some (.inl (s1.1,s1.2.2))) fun (j3:(Int × (Int × (Int × (Int × (List (Int × Int))))))) =>
some (.inl (j3.1,zAi .i64 s1.2.1 1,j3.2))) <|
some (.inr (.inl (s1.1,s1.2.2)))) (r0.2,0,r0.1)) fun (j4:(Int × (Int × (Int × (Int × (List (Int × Int))))))) =>
some (j4.2,ieq j4.1 0)
noncomputable def c39:Con:=⟨39,[.int .i64,.int .i64,.sl (.int .i64)],[],.tup (.pr (.agg (.pr (.int .i64) (.pr (.int .i64) (.pr (.int .i64) (.sl (.agg (.pr (.int .i64) (.int .i64)))))))) .bool),[],F39,none⟩
theorem ok39:zAo Try.prog c39:=zBe zDB [c13,c16] (zAQ ok13 (zAQ ok16 (zBd))) c39 Try.f39 (.n .o (.n .o (.n (.n .o (.jb ⟨[6,8],[(9,.int .i64)],[(1,.one (.agg (.pr (.int .i64) (.pr (.int .i64) (.pr (.int .i64) (.sl (.agg (.pr (.int .i64) (.int .i64)))))))))],2,0⟩ (.l ⟨[6,8,18,19],[(9,.int .i64),(20,.int .i64)],[(1,.one (.agg (.pr (.int .i64) (.pr (.int .i64) (.pr (.int .i64) (.sl (.agg (.pr (.int .i64) (.int .i64)))))))))],2,1⟩ (.n .o (.n .o (.n (.jb ⟨[6,8,18,19,20],[(9,.int .i64)],[(1,.one (.agg (.pr (.int .i64) (.pr (.int .i64) (.pr (.int .i64) (.sl (.agg (.pr (.int .i64) (.int .i64)))))))))],2,2⟩ .o) .o)))))) .o))) Try.func39 (by kernel_rfl) (by kernel_rfl) (by kernel_rfl) rfl (fun x=>by kernel_rfl) (fun x=>⟨by kernel_rfl,by kernel_rfl⟩)
noncomputable def F61a (x:((List (Int × Int)) × (Int × (PUnit × (Int × (Int × (Int × (List (Int × Int))))))))):(Option Int) :=
callQ (Q50a (x.1,(),x.2.2)) fun (r0:(List (Int × Int))) =>
join (iter (fun (s1:(Int × (Int × Int))) =>
sel (ilt s1.2.2 (n2i (zAW r0))) (need (inL s1.2.2 (zAW r0)) <|
call (F59 (zAq (0,0) r0 (i2n s1.2.2),x.2.2.2)) fun (r2:Int) =>
sel (ile x.2.1 (zAi .i64 s1.1 ((zAq (0,0) r0 (i2n s1.2.2)).2))) (some (.inr (.inl r2))) <|
some (.inl (zAi .i64 s1.1 ((zAq (0,0) r0 (i2n s1.2.2)).2),r2,zAi .i64 s1.2.2 1))) <|
some (.inr (.inl s1.2.1))) (0,0,0)) fun (j3:Int) =>
some j3
noncomputable def c61a:Con:=⟨61,[.sl (.agg (.pr (.int .i64) (.int .i64))),.int .i64,.fn 59 .unit (.fp (.agg (.pr (.int .i64) (.pr (.int .i64) (.pr (.int .i64) (.sl (.agg (.pr (.int .i64) (.int .i64)))))))) 0)],[],.int .i64,[],F61a,none⟩
theorem ok61a:zAo Try.prog c61a:=zBe zDB [c85a,c85b,c50,c50a,c50b,c59] (zAQ ok85a (zAQ ok85b (zAQ ok50 (zAQ ok50a (zAQ ok50b (zAQ ok59 (zBd))))))) c61a Try.f61 (.n .o (.n .o (.n .o (.n (.n .o (.jb ⟨[],[(8,.int .i64)],[],0,0⟩ (.l ⟨[1,5,15,16],[(7,.int .i64),(8,.int .i64),(17,.int .i64)],[],1,1⟩ .o))) .o)))) Try.func61 (by kernel_rfl) (by kernel_rfl) (by kernel_rfl) rfl (fun x=>by kernel_rfl) (fun x=>⟨by kernel_rfl,by kernel_rfl⟩)
noncomputable def F61b (x:((List (Int × Int)) × (Int × (PUnit × (Int × (Int × (Int × (List (Int × Int))))))))):(Option Int) :=
callQ (Q50b (x.1,(),x.2.2)) fun (r0:(List (Int × Int))) =>
join (iter (fun (s1:(Int × (Int × Int))) =>
sel (ilt s1.2.2 (n2i (zAW r0))) (need (inL s1.2.2 (zAW r0)) <|
call (F60 (zAq (0,0) r0 (i2n s1.2.2),x.2.2.2)) fun (r2:Int) =>
sel (ile x.2.1 (zAi .i64 s1.1 ((zAq (0,0) r0 (i2n s1.2.2)).2))) (some (.inr (.inl r2))) <|
some (.inl (zAi .i64 s1.1 ((zAq (0,0) r0 (i2n s1.2.2)).2),r2,zAi .i64 s1.2.2 1))) <|
some (.inr (.inl s1.2.1))) (0,0,0)) fun (j3:Int) =>
some j3
noncomputable def c61b:Con:=⟨61,[.sl (.agg (.pr (.int .i64) (.int .i64))),.int .i64,.fn 60 .unit (.fp (.agg (.pr (.int .i64) (.pr (.int .i64) (.pr (.int .i64) (.sl (.agg (.pr (.int .i64) (.int .i64)))))))) 0)],[],.int .i64,[],F61b,none⟩
theorem ok61b:zAo Try.prog c61b:=zBe zDB [c85a,c85b,c50,c50a,c50b,c60] (zAQ ok85a (zAQ ok85b (zAQ ok50 (zAQ ok50a (zAQ ok50b (zAQ ok60 (zBd))))))) c61b Try.f61 (.n .o (.n .o (.n .o (.n (.n .o (.jb ⟨[],[(8,.int .i64)],[],0,0⟩ (.l ⟨[1,5,15,16],[(7,.int .i64),(8,.int .i64),(17,.int .i64)],[],1,1⟩ .o))) .o)))) Try.func61 (by kernel_rfl) (by kernel_rfl) (by kernel_rfl) rfl (fun x=>by kernel_rfl) (fun x=>⟨by kernel_rfl,by kernel_rfl⟩)
noncomputable def F24 (x:((Int × (Int × (Int × (List (Int × Int))))) × (Int × Int))):(Option (Int × (Int × Int))) :=
call (F20 x.1) fun (r0:Int) =>
call (sel (zDa (ine r0 0)) (F57 x.2) <|
some 0) fun (r1:Int) =>
sel (zAJ (ine r0 0) true (ine r1 0)) (some (0,0,1)) <|
sel (zAJ (ilt x.2.1 0) true (ilt x.2.2 x.2.1)) (some (0,0,2)) <|
sel (ieq x.1.2.2.1 0) (some (0,0,28)) <|
call (F58 (x.2,x.1.2.2.1)) fun (r2:Int) =>
call (F61a (x.1.2.2.2,r2,(),x.1)) fun (r3:Int) =>
call (F61b (x.1.2.2.2,r2,(),x.1)) fun (r4:Int) =>
some (r3,r4,0)
noncomputable def c24:Con:=⟨24,[.agg (.pr (.int .i64) (.pr (.int .i64) (.pr (.int .i64) (.sl (.agg (.pr (.int .i64) (.int .i64))))))),.agg (.pr (.int .i64) (.int .i64))],[],.tup (.pr (.int .i64) (.pr (.int .i64) (.int .i64))),[],F24,none⟩
theorem ok24:zAo Try.prog c24:=zBe zDB [c20,c57,c58,c59,c60,c61a,c61b] (zAQ ok20 (zAQ ok57 (zAQ ok58 (zAQ ok59 (zAQ ok60 (zAQ ok61a (zAQ ok61b (zBd)))))))) c24 Try.f24 (.n .o (.n .o (.n .o (.n .o (.n .o (.n .o (.n .o (.n (.r [0,1,2,3,5,6,7,8,4,9,10,11,12]) .o)))))))) Try.func24 (by kernel_rfl) (by kernel_rfl) (by kernel_rfl) rfl (fun x=>by kernel_rfl) (fun x=>⟨by kernel_rfl,by kernel_rfl⟩)
noncomputable def F12 (x:PUnit):(Option Bool) :=
call (F39 (3,2,(1 :: (1 :: (5 :: (6 :: ([]:List Int))))))) fun (r0:((Int × (Int × (Int × (List (Int × Int))))) × Bool)) =>
call (F18 r0.1) fun (r1:((Int × (Int × (Int × (List (Int × Int))))) × Int)) =>
call (F22 (r1.1,5)) fun (r2:(Int × (Int × Int))) =>
call (F24 (r1.1,1,2)) fun (r3:(Int × (Int × Int))) =>
sel (zAJ (zAJ (zAJ (zAJ (zAJ (zAJ (zAJ r0.2 (ieq r1.2 0) false) (ieq r2.2.2 0) false) (ieq r3.2.2 0) false) (ieq r2.1 2) false) (ieq r2.2.1 4) false) (ieq r3.1 0) false) (ieq r3.2.1 3) false) (call (sel (zAJ (zAJ (zAJ (zAJ (zAJ (zAJ (zAJ r0.2 (ieq r1.2 0) false) (ieq r2.2.2 0) false) (ieq r3.2.2 0) false) (ieq r2.1 2) false) (ieq r2.2.1 4) false) (ieq r3.1 0) false) (ieq r3.2.1 3) false) (F40 (r1.1.2.2.2,(2,2) :: ((3,2) :: ([]:List (Int × Int))))) <|
some false) fun (r4:Bool) =>
some (zAJ (zAJ (zAJ (zAJ (zAJ (zAJ (zAJ (zAJ r0.2 (ieq r1.2 0) false) (ieq r2.2.2 0) false) (ieq r3.2.2 0) false) (ieq r2.1 2) false) (ieq r2.2.1 4) false) (ieq r3.1 0) false) (ieq r3.2.1 3) false) r4 false)) <|
need (zDa (zAJ (zAJ (zAJ (zAJ (zAJ (zAJ (zAJ r0.2 (ieq r1.2 0) false) (ieq r2.2.2 0) false) (ieq r3.2.2 0) false) (ieq r2.1 2) false) (ieq r2.2.1 4) false) (ieq r3.1 0) false) (ieq r3.2.1 3) false)) <|
some (zAJ (zAJ (zAJ (zAJ (zAJ (zAJ (zAJ (zAJ r0.2 (ieq r1.2 0) false) (ieq r2.2.2 0) false) (ieq r3.2.2 0) false) (ieq r2.1 2) false) (ieq r2.2.1 4) false) (ieq r3.1 0) false) (ieq r3.2.1 3) false) false false)
noncomputable def c12:Con:=⟨12,[],[],.bool,[],F12,none⟩
theorem ok12:zAo Try.prog c12:=zBe zDB [c39,c18,c22,c24,c40] (zAQ ok39 (zAQ ok18 (zAQ ok22 (zAQ ok24 (zAQ ok40 (zBd)))))) c12 Try.f12 (.o) Try.func12 (by kernel_rfl) (by kernel_rfl) (by kernel_rfl) rfl (fun x=>by kernel_rfl) (fun x=>⟨by kernel_rfl,by kernel_rfl⟩)
noncomputable def F3 (x:((Int × (Int × (Int × (List (Int × Int))))) × ((Int × Int) × Int))):(Option Bool) :=
call (F11 x.1) fun (r0:Bool) =>
sel r0 (call (F12 ()) fun (r1:Bool) =>
some r1) <|
call (F13 (x.2.1.1,x.2.1.2)) fun (r2:((Int × (Int × (Int × (List (Int × Int))))) × Int)) =>
call (F14 (x.2.1.1,x.2.1.2)) fun (r3:((Int × (Int × (Int × (List (Int × Int))))) × Int)) =>
call (F15 (r2.1,r3.1)) fun (r4:Bool) =>
sel (zAJ (zDa r4) true (ine r2.2 r3.2)) (some false) <|
call (F16 (x.1,x.2.1.1,x.2.2)) fun (r5:((Int × (Int × (Int × (List (Int × Int))))) × Int)) =>
call (F17 (x.1,x.2.1.1,x.2.2)) fun (r6:((Int × (Int × (Int × (List (Int × Int))))) × Int)) =>
call (F15 (r5.1,r6.1)) fun (r7:Bool) =>
sel (zAJ (zDa r7) true (ine r5.2 r6.2)) (some false) <|
call (F18 x.1) fun (r8:((Int × (Int × (Int × (List (Int × Int))))) × Int)) =>
call (F19 x.1) fun (r9:((Int × (Int × (Int × (List (Int × Int))))) × Int)) =>
call (F15 (r8.1,r9.1)) fun (r10:Bool) =>
call (sel (zAJ r10 (ieq r8.2 r9.2) false) (F20 x.1) <|
some 0) fun (r11:Int) =>
call (sel (zAJ r10 (ieq r8.2 r9.2) false) (F21 x.1) <|
some 0) fun (r12:Int) =>
call (sel (zAJ (zAJ r10 (ieq r8.2 r9.2) false) (ieq r11 r12) false) (F12 ()) <|
some false) fun (r13:Bool) =>
some (zAJ (zAJ (zAJ r10 (ieq r8.2 r9.2) false) (ieq r11 r12) false) r13 false)
noncomputable def c3:Con:=⟨3,[.agg (.pr (.int .i64) (.pr (.int .i64) (.pr (.int .i64) (.sl (.agg (.pr (.int .i64) (.int .i64))))))),.agg (.pr (.int .i64) (.int .i64)),.int .i64],[],.bool,[],F3,none⟩
noncomputable def F4 (x:((Int × (Int × (Int × (List (Int × Int))))) × (Int × (Int × Int)))):(Option Bool) :=
call (F11 x.1) fun (r0:Bool) =>
sel r0 (call (F12 ()) fun (r1:Bool) =>
some r1) <|
call (F22 (x.1,x.2.1)) fun (r2:(Int × (Int × Int))) =>
call (F23 (x.1,x.2.1)) fun (r3:(Int × (Int × Int))) =>
call (F24 (x.1,x.2.2)) fun (r4:(Int × (Int × Int))) =>
call (F25 (x.1,x.2.2)) fun (r5:(Int × (Int × Int))) =>
call (sel (zAJ (zAJ (zAJ (zAJ (zAJ (ieq r2.1 r3.1) (ieq r2.2.1 r3.2.1) false) (ieq r2.2.2 r3.2.2) false) (ieq r4.1 r5.1) false) (ieq r4.2.1 r5.2.1) false) (ieq r4.2.2 r5.2.2) false) (F12 ()) <|
some false) fun (r6:Bool) =>
some (zAJ (zAJ (zAJ (zAJ (zAJ (zAJ (ieq r2.1 r3.1) (ieq r2.2.1 r3.2.1) false) (ieq r2.2.2 r3.2.2) false) (ieq r4.1 r5.1) false) (ieq r4.2.1 r5.2.1) false) (ieq r4.2.2 r5.2.2) false) r6 false)
noncomputable def c4:Con:=⟨4,[.agg (.pr (.int .i64) (.pr (.int .i64) (.pr (.int .i64) (.sl (.agg (.pr (.int .i64) (.int .i64))))))),.int .i64,.agg (.pr (.int .i64) (.int .i64))],[],.bool,[],F4,none⟩
end Go.Q
namespace Go.Proofs
open Go.RowKit Go.Shelf
attribute [local go_sem] Oper.semAt_some
def Rd.upto {α:Type} (f:Nat → α) (k:Nat):List α:=(List.range k).map f
theorem Rd.upto_succ {α:Type} (f:Nat → α) (k:Nat):Rd.upto f (k + 1) = Rd.upto f k ++ [f k]:=by simp [Rd.upto,List.range_succ]
theorem Rd.upto_length {α:Type} (f:Nat → α) (k:Nat):(Rd.upto f k).length = k:=by simp [Rd.upto]
abbrev Rd.B:={x:Nat × Nat // x.1 < 9 ∧ x.2 < 256}
def Rd.at (s:ByteArray) (k:Nat):Rd.B:=⟨(min k 8,(s[k]!).toNat),by omega,UInt8.toNat_lt _⟩
def Rd.KB (B:Nat) (W W':World):Prop:=W'.heap[B]? = W.heap[B]?
theorem Rd.KB.cell {B:Nat} {W W':World} (h:Rd.KB B W W'):W'.cell? ⟨B,0,none⟩ = W.cell? ⟨B,0,none⟩:=World.cell?_of_block (a:=⟨B,0,none⟩) h
set_option maxHeartbeats 2000000 in
theorem Rd.first_in (F:Fence) (n:Nat) (h:F.fn 128) (hro:F.round = none) (s:ByteArray) (w:World) :
   CallsIn F n Try.prog 128 #[.string s] w fun e w'=>e = .returned (.func (.func 133) #[] #[.pointer (some ⟨w.heap.size,0,none⟩)]) ∧ w' = w.alloc (.cells #[.string s] 9):=by
 refine callsIn_of_wp Try.func128 rfl h ?_ hro
 simp only [Try.ntmps128,List.size_toArray,List.length_cons,List.length_nil,Nat.reduceAdd,Nat.reduceSub,Array.replicate_succ,Array.replicate_zero,List.push_toArray,List.append_toArray,List.nil_append,List.cons_append]
 gi_wp2
 go_ret
 exact ⟨rfl,rfl⟩
set_option maxHeartbeats 4000000 in
theorem Rd.first1_in (F:Fence) (n:Nat) (h7:F.fn 133) (hro:F.round = none) (hn:1 ≤ n) (l Bs:Nat) (s:ByteArray) (hs:s.size ≤ 4611686018427387904) (J Jx:List Rd.B → World → Prop)
   (hY:∀ pre x W,J pre W → pre.length < min s.size 9 → YieldAt F (n - 1) Try.prog l #[.int .i64 (x.1.1:Int),.int .u8 (x.1.2:Int)] W fun e W' =>
     (e = .returned (.bool true) ∧ J (pre ++ [x]) W' ∧ Rd.KB Bs W W') ∨ (e = .returned (.bool false) ∧ Jx (pre ++ [x]) W'))
   (W:World) (hBs:W.cell? ⟨Bs,0,none⟩ = some (.string s)) (h0:J [] W) :
   CallsIn F n Try.prog 133 #[.func (.yield l) #[] #[],.pointer (some ⟨Bs,0,none⟩)] W fun e W'=>(∃ v,e = .returned v) ∧
     ((∃ k,k ≤ min s.size 9 ∧ (k = min s.size 9 ∨ ∃ j,k = j + 1 ∧ (Rd.at s j).1.2 < 128) ∧ J (Rd.upto (Rd.at s) k) W') ∨ (∃ k,k ≤ min s.size 9 ∧ Jx (Rd.upto (Rd.at s) k) W')):=by
 refine callsIn_of_wp Try.func133 rfl h7 ?_ hro
 simp only [Try.ntmps133,List.size_toArray,List.length_cons,List.length_nil,Nat.reduceAdd,Nat.reduceSub,Array.replicate_succ,Array.replicate_zero,List.push_toArray,List.append_toArray,List.nil_append,List.cons_append]
 gi_wp2
 gi_loopw [3] (fun i wr=>∃ k:Nat,k ≤ min s.size 9 ∧ i = .int .i64 k ∧ J (Rd.upto (Rd.at s) k) wr ∧ Rd.KB Bs W wr)
   (fun i _=>9 - (intOf i).toNat)
 case atStart=>exact ⟨0,Nat.zero_le _,rfl,h0,rfl⟩
 case round =>
   obtain ⟨k,hk,rfl,hJs,hnx⟩:=hrel
   have hcs:wr.cell? ⟨Bs,0,none⟩ = some (.string s):=hnx.cell.trans hBs
   by_cases hlt:k < min s.size 9
   · obtain ⟨fn,tmps,assign,body,hy,hR⟩:=hY _ (Rd.at s k) wr hJs (by rw [Rd.upto_length];exact hlt)
     dsimp only [Rd.at] at hy
     have hk1:k < s.size:=by omega
     have hk2:k < 9:=by omega
     have hk3:(k:Int) < 9:=by omega
     have hk8:min k 8 = k:=by omega
     rw [getElem!_pos s k hk1,hk8] at hy
     gi_wp2
     refine hR.mono ?_
     rintro e W3 (⟨rfl,hJ3,hk3⟩ | ⟨rfl,hJx3⟩)
     · have hcs3:W3.cell? ⟨Bs,0,none⟩ = some (.string s):=hk3.cell.trans hcs
       have hb8:(Rd.at s k).1.2 = s[k].toNat:=by show (s[k]!).toNat = _;rw [getElem!_pos s k hk1]
       by_cases h128:s[k].toNat < 128
       · gi_wp2
         refine bodyPost_ret (results_none rfl _ _ _) rfl ?_
         exact ⟨⟨_,rfl⟩,.inl ⟨k + 1,by omega,.inr ⟨k,rfl,by rw [hb8];exact h128⟩,by rw [Rd.upto_succ];exact hJ3⟩⟩
       · gi_wp2
         go_roundw
         case rel=>exact ⟨k + 1,by omega,by simp,by rw [Rd.upto_succ];exact hJ3,Eq.trans hk3 hnx⟩
         case measure=>simp [intOf];omega
     · gi_wp2
       refine bodyPost_ret (results_none rfl _ _ _) rfl ?_
       exact ⟨⟨_,rfl⟩,.inr ⟨k + 1,by omega,by rw [Rd.upto_succ];exact hJx3⟩⟩
   · have hke:k = min s.size 9:=by omega
     gi_wp2
     all_goals go_end0
     all_goals exact ⟨⟨_,rfl⟩,.inl ⟨_,Nat.le_refl _,.inl rfl,by first | exact hJs | (rw [← hke];exact hJs)⟩⟩
def Rd.enc (x:Rd.B):Array Value:=#[.int .i64 (x.1.1:Int),.int .u8 (x.1.2:Int)]
attribute [local go_sem] Rd.enc
theorem Rd.stops (F:Fence) (n:Nat) (h7:F.fn 133) (hro:F.round = none) (hn:1 ≤ n) (Bs:Nat) (s:ByteArray) (hs:s.size ≤ 4611686018427387904) (w:World) (hBs:Bs < w.heap.size) (hc:w.cell? ⟨Bs,0,none⟩ = some (.string s)) :
   SeqStopsK F n Try.prog 133 #[.pointer (some ⟨Bs,0,none⟩)] Rd.enc (Rd.KB Bs) (fun ys=>∃ k,k ≤ min s.size 9 ∧ (k = min s.size 9 ∨ ∃ j,k = j + 1 ∧ (Rd.at s j).1.2 < 128) ∧ ys = Rd.upto (Rd.at s) k)
     (fun pre=>∃ k,k ≤ min s.size 9 ∧ pre = Rd.upto (Rd.at s) k) (min s.size 9) w:=fun l J Jx W hW _ _ hY h0=>by
 have hc':=(hW.cell (p:=⟨Bs,0,none⟩) hBs).trans hc
 refine (Rd.first1_in F n h7 hro hn l Bs s hs J Jx hY W hc' h0).mono ?_
 rintro e W' ⟨he,⟨k,h1,h2,h3⟩ | ⟨k,h1,h3⟩⟩
 · exact ⟨he,.inl ⟨_,⟨k,h1,h2,rfl⟩,h3⟩⟩
 · exact ⟨he,.inr ⟨_,⟨k,h1,rfl⟩,h3⟩⟩
abbrev Rd.new (v:Int) (i:Nat) (b:Int):Int:=bits .or .u64 v (IntKind.u64.wrap (IntKind.u64.wrap (bits .and .u8 b 127) * 2 ^ (7 * (i:Int)).toNat))
set_option maxHeartbeats 4000000 in
theorem Rd.reg7 (F:Fence) (l:Nat) (n:Nat) (B i:Nat) (b v:Int) (W:World) (hi:i < 9) (c:W.cell? ⟨B,0,none⟩ = some (.int .u64 v)) (f:W.frozen? ⟨B,0,none⟩ = false) (Q:Exit → Act → World → Prop) (x0 x1 x2 x3 x4 x8 x9 x10 x11 x12 x13 x14 x15 x16 x17 x18 x19 x20 x21 x22 x23 x24 x25 x26 x27 x28 x29 x30 x31 x32 x33 x34 x35 x36 x37 x38:Value)
   (h:Q .normal { tmps:=#[x0,x1,x2,x3,x4,.pointer (some ⟨B,0,none⟩),.int .i64 (i:Int),.int .u8 b,x8,x9,x10,x11,x12,x13,x14,x15,x16,x17,x18,x19,x20,x21,x22,x23,x24,x25,.int .u64 v,.int .u8 b,.int .u8 (bits .and .u8 b 127),.int .u64 (IntKind.u64.wrap (bits .and .u8 b 127)),.int .i64 (i:Int),.int .i64 (7 * (i:Int)),.int .u64 (IntKind.u64.wrap (IntKind.u64.wrap (bits .and .u8 b 127) * 2 ^ (7 * (i:Int)).toNat)),.int .u64 (Rd.new v i b),x34,x35,x36,x37,x38],defers:=[] } (W.setCell ⟨B,0,none⟩ (.int .u64 (Rd.new v i b))).drew) :
   Code.wpIn (F.inRound l) n Try.prog (Code.region 7 #[{ dst:=some 26,op:=Op.load 103 (Operand.tmp 5),type:=103,pos := "varint.go:61",after:=#[],guard:=none },
     { dst:=some 27,op:=Op.move (Operand.tmp 7),type:=5,pos := "varint.go:61",after:=#[],guard:=none },
     { dst:=some 28,op:=Op.binOp BinOp.and 5 (Operand.tmp 27) (Operand.const (Value.int IntKind.u8 127)) 5,type:=5,pos := "varint.go:61",after:=#[{ on:=1,ground:=Ground.data }],guard:=none },
     { dst:=some 29,op:=Op.convert 5 103 (Operand.tmp 28),type:=103,pos := "varint.go:61",after:=#[{ on:=2,ground:=Ground.data }],guard:=none },
     { dst:=some 30,op:=Op.move (Operand.tmp 6),type:=3,pos := "varint.go:61",after:=#[],guard:=none },
     { dst:=some 31,op:=Op.binOp BinOp.mul 3 (Operand.const (Value.int IntKind.i64 7)) (Operand.tmp 30) 3,type:=3,pos := "varint.go:61",after:=#[{ on:=4,ground:=Ground.data }],guard:=none },
     { dst:=some 32,op:=Op.binOp BinOp.shl 103 (Operand.tmp 29) (Operand.tmp 31) 3,type:=103,pos := "varint.go:61",after:=#[{ on:=3,ground:=Ground.data },{ on:=5,ground:=Ground.data }],guard:=none },
     { dst:=some 33,op:=Op.binOp BinOp.or 103 (Operand.tmp 26) (Operand.tmp 32) 103,type:=103,pos := "varint.go:61",after:=#[{ on:=0,ground:=Ground.data },{ on:=6,ground:=Ground.data }],guard:=none },
     { dst:=none,op:=Op.store 103 (Operand.tmp 5) (Operand.tmp 33),type:=0,pos := "varint.go:61",after:=#[{ on:=7,ground:=Ground.data },{ on:=0,ground:=Ground.phase },{ on:=1,ground:=Ground.phase },{ on:=2,ground:=Ground.phase },{ on:=3,ground:=Ground.phase },{ on:=4,ground:=Ground.phase },{ on:=5,ground:=Ground.phase },{ on:=6,ground:=Ground.phase },{ on:=7,ground:=Ground.phase }],guard:=none }] true) Q { tmps:=#[x0,x1,x2,x3,x4,.pointer (some ⟨B,0,none⟩),.int .i64 (i:Int),.int .u8 b,x8,x9,x10,x11,x12,x13,x14,x15,x16,x17,x18,x19,x20,x21,x22,x23,x24,x25,x26,x27,x28,x29,x30,x31,x32,x33,x34,x35,x36,x37,x38],defers:=[] } W:=by
 have hmx:Try.prog.follows .mixedOrders = true:=by kernel_rfl
 have hwr:IntKind.i64.wrap (7 * (i:Int)) = 7 * (i:Int):=by simp only [IntKind.wrap,IntKind.signed,IntKind.bits];simp;omega
 have hw0:0 ≤ IntKind.i64.wrap (7 * (i:Int)):=by omega
 have hw1:IntKind.i64.wrap (7 * (i:Int)) ≤ 64:=by omega
 gi_region_with_o (fail)
 all_goals exact h
def Rd.stp (n:Int) (x:Rd.B):Int:=Rd.new n x.1.1 x.1.2
def Rd.run:List Rd.B → Int → Int ⊕ (Int × (Int × Int))
 | [],n=>.inl n
 | x :: l,n=>if (128 ≤ x.1.2 ∧ x.1.1 = 8) ∨ (x.1.2 = 0 ∧ 0 < x.1.1) then .inr (0,0,12) else if x.1.2 < 128 then .inr (Rd.stp n x,(x.1.1:Int) + 1,0) else Rd.run l (Rd.stp n x)
theorem Rd.run_app:∀ (l m:List Rd.B) (n:Int),Rd.run (l ++ m) n = match Rd.run l n with | .inl k=>Rd.run m k | .inr r=>.inr r
 | [],m,n=>rfl
 | x :: l,m,n=>by
   rw [List.cons_append,Rd.run,Rd.run]
   split
   · rfl
   split
   · rfl
   · exact Rd.run_app l m _
theorem Rd.set3 {w0 W:World} {B:Nat} {x y z u1 u2 u3:Value} (g1:Boxed W B 103 x) (g2:Boxed W (B + 1) 3 y) (g3:Boxed W (B + 1 + 1) 28 z) (h:Below B w0 W) :
   KeepsOthers W (((W.setCell ⟨B,0,none⟩ u1).setCell ⟨B + 1,0,none⟩ u2).setCell ⟨B + 1 + 1,0,none⟩ u3) ∧ Boxed (((W.setCell ⟨B,0,none⟩ u1).setCell ⟨B + 1,0,none⟩ u2).setCell ⟨B + 1 + 1,0,none⟩ u3) B 103 u1 ∧ Boxed (((W.setCell ⟨B,0,none⟩ u1).setCell ⟨B + 1,0,none⟩ u2).setCell ⟨B + 1 + 1,0,none⟩ u3) (B + 1) 3 u2 ∧ Boxed (((W.setCell ⟨B,0,none⟩ u1).setCell ⟨B + 1,0,none⟩ u2).setCell ⟨B + 1 + 1,0,none⟩ u3) (B + 1 + 1) 28 u3 ∧ Below B w0 (((W.setCell ⟨B,0,none⟩ u1).setCell ⟨B + 1,0,none⟩ u2).setCell ⟨B + 1 + 1,0,none⟩ u3) :=
 ⟨((KeepsOthers.setCell _ _ _).trans (KeepsOthers.setCell _ _ _)).trans (KeepsOthers.setCell _ _ _),((g1.set u1).other (by omega) u2).other (by omega) u3,((g2.other (by omega) u1).set u2).other (by omega) u3,((g3.other (by omega) u1).other (by omega) u2).set u3,((h.setCell (Nat.le_refl _) _).setCell (Nat.le_succ _) _).setCell (by dsimp only;omega) _⟩
def Rd.val (s:ByteArray):Int × (Int × Int):=match Rd.run (Rd.upto (Rd.at s) (min s.size 9)) 0 with | .inl _=>(0,0,11) | .inr r=>r
theorem Rd.run1 {pre:List Rd.B} {v:Int} {x:Rd.B} (g:Rd.run pre 0 = .inl v):Rd.run (pre ++ [x]) 0 = Rd.run [x] v:=by rw [Rd.run_app,g]
theorem Rd.run_le {f:Nat → Rd.B} {k m:Nat} {r:Int × (Int × Int)} (hk:k ≤ m) (h:Rd.run (Rd.upto f k) 0 = .inr r):Rd.run (Rd.upto f m) 0 = .inr r:=by
 induction m with
 | zero =>
   have:k = 0:=by omega
   subst this;exact h
 | succ m ih =>
   by_cases e:k = m + 1
   · subst e;exact h
   · rw [Rd.upto_succ,Rd.run_app,ih (by omega)]
theorem Rd.run_end {f:Nat → Rd.B} {j:Nat} {v:Int} (h:Rd.run (Rd.upto f (j + 1)) 0 = .inl v):¬ (f j).1.2 < 128:=fun hl=>by
 rw [Rd.upto_succ,Rd.run_app] at h
 split at h
 · rw [Rd.run] at h
   split at h
   · cases h
   · first
     | (cases h;done)
     | (split at h
        · cases h
        · omega)
 · cases h
theorem Rd.res {W:World} {B:Nat} {a b c:Int} (g1:Boxed W B 103 (.int .u64 a)) (g2:Boxed W (B + 1) 3 (.int .i64 b)) (g3:Boxed W (B + 1 + 1) 28 (.int .i64 c)) (tmps:Array Value)
   (h2:tmps[2]?.getD undef = .pointer (some ⟨B,0,none⟩)) (h3:tmps[3]?.getD undef = .pointer (some ⟨B + 1,0,none⟩)) (h4:tmps[4]?.getD undef = .pointer (some ⟨B + 1 + 1,0,none⟩)) :
   (results Try.f110 tmps).run Try.prog W = .ok (.tuple #[.int .u64 a,.int .i64 b,.int .i64 c]) W:=by
 have c1:=g1.cell;have c2:=g2.cell;have c3:=g3.cell
 have hr:Try.f110.results = #[.cell 2 103,.cell 3 3,.cell 4 28]:=rfl
 simp only [results,hr]
 simp [h2,h3,h4]
 go_simp
set_option maxHeartbeats 4000000 in
theorem Rd.read_in (F:Fence) (n:Nat) (h1:F.fn 110) (h2:F.fn 128) (h3:F.fn 133) (hro:F.round = none) (hn:3 ≤ n) (s:ByteArray) (hs:s.size ≤ 4611686018427387904) (w:World) :
   CallsIn F n Try.prog 110 #[.string s] w fun e W'=>(∃ r,e = .returned (.tuple #[.int .u64 r.1,.int .i64 r.2.1,.int .i64 r.2.2]) ∧ r = Rd.val s) ∧ Below w.heap.size w W':=by
 have h1':1 ≤ n:=by omega
 refine callsIn_of_wp_marks Try.func110 rfl h1 ?_ hro
 simp only [Try.ntmps110,List.size_toArray,List.length_cons,List.length_nil,Nat.reduceAdd,Nat.reduceSub,Array.replicate_succ,Array.replicate_zero,List.push_toArray,List.append_toArray,List.nil_append,List.cons_append]
 gi_wp2_with (gi_at_call 128;refine (Rd.first_in F (n - 1) h2 hro _ _).mono ?_;rintro e w' ⟨rfl,rfl⟩)
 obtain ⟨w1,hw1⟩:∃ w1,((((w.alloc (Obj.cells #[Value.int IntKind.u64 0] 103)).alloc (Obj.cells #[Value.int IntKind.i64 0] 3)).alloc (Obj.cells #[Value.int IntKind.i64 0] 28)).alloc (Obj.cells #[Value.int IntKind.u64 0] 103)).alloc (Obj.cells #[Value.string s] 9) = w1:=⟨_,rfl⟩
 have hsz:w1.heap.size = w.heap.size + 5:=by rw [← hw1];simp
 have b0:Boxed w1 w.heap.size 103 (.int .u64 0):=by rw [← hw1];exact ((((Boxed.new w 103 _).alloc _).alloc _).alloc _).alloc _
 have b1:Boxed w1 (w.heap.size + 1) 3 (.int .i64 0):=by
   have:=Boxed.new (w.alloc (Obj.cells #[Value.int IntKind.u64 0] 103)) 3 (.int .i64 0)
   rw [World.size_alloc] at this
   rw [← hw1];exact ((this.alloc _).alloc _).alloc _
 have b2:Boxed w1 (w.heap.size + 1 + 1) 28 (.int .i64 0):=by
   have:=Boxed.new ((w.alloc (Obj.cells #[Value.int IntKind.u64 0] 103)).alloc (Obj.cells #[Value.int IntKind.i64 0] 3)) 28 (.int .i64 0)
   rw [World.size_alloc,World.size_alloc] at this
   rw [← hw1];exact (this.alloc _).alloc _
 have b3:Boxed w1 (w.heap.size + 1 + 1 + 1) 103 (.int .u64 0):=by
   have:=Boxed.new (((w.alloc (Obj.cells #[Value.int IntKind.u64 0] 103)).alloc (Obj.cells #[Value.int IntKind.i64 0] 3)).alloc (Obj.cells #[Value.int IntKind.i64 0] 28)) 103 (.int .u64 0)
   rw [World.size_alloc,World.size_alloc,World.size_alloc] at this
   rw [← hw1];exact this.alloc _
 have b4:Boxed w1 (w.heap.size + 1 + 1 + 1 + 1) 9 (.string s):=by
   have:=Boxed.new ((((w.alloc (Obj.cells #[Value.int IntKind.u64 0] 103)).alloc (Obj.cells #[Value.int IntKind.i64 0] 3)).alloc (Obj.cells #[Value.int IntKind.i64 0] 28)).alloc (Obj.cells #[Value.int IntKind.u64 0] 103)) 9 (.string s)
   rw [World.size_alloc,World.size_alloc,World.size_alloc,World.size_alloc] at this
   rw [← hw1];exact this
 have hbel:Below w.heap.size w w1:=by
   rw [← hw1]
   exact (((((Below.refl _ w).alloc (Nat.le_refl _) _).alloc (by simp) _).alloc (by simp;omega) _).alloc (by simp;omega) _).alloc (by simp;omega) _
 rw [hw1]
 refine wpIn_rangeFunc_ownF hro h1' (gf:=133) (lb:=#[.pointer (some ⟨w.heap.size + 1 + 1 + 1 + 1,0,none⟩)]) rfl h3 (enters_of Try.func133 (by kernel_rfl) rfl)
   (Rd.stops F (n - 1) h3 hro (by omega) (w.heap.size + 1 + 1 + 1 + 1) s hs w1 (by omega) b4.cell) (fun h k=>Eq.trans k h) (fun W l o o' hl _ _ _=>by
     show (W.putObj l o').heap[_]? = _
     exact World.putObj_heap_other (by omega)) (Below.refl _ _) (fun _=>rfl)
   (fun pre W=>∃ v,Rd.run pre 0 = .inl v ∧ Boxed W w.heap.size 103 (.int .u64 0) ∧ Boxed W (w.heap.size + 1) 3 (.int .i64 0) ∧ Boxed W (w.heap.size + 1 + 1) 28 (.int .i64 0) ∧ Boxed W (w.heap.size + 1 + 1 + 1) 103 (.int .u64 v) ∧ Below w.heap.size w W)
   (fun c pre W=>c = .ret ∧ ∃ r:Int × (Int × Int),Rd.run pre 0 = .inr r ∧ Boxed W w.heap.size 103 (.int .u64 r.1) ∧ Boxed W (w.heap.size + 1) 3 (.int .i64 r.2.1) ∧ Boxed W (w.heap.size + 1 + 1) 28 (.int .i64 r.2.2) ∧ Below w.heap.size w W)
   (fun pre A B row hs hg hr=>by
     have hne:∀ b,b < w.heap.size + 5 → some b ≠ row:=fun b hb e=>by have:=(hr b e.symm).1;omega
     obtain ⟨v,g0,g1,g2,g3,g4,g5⟩:=hs
     exact ⟨v,g0,g1.kept hg (hne _ (by omega)),g2.kept hg (hne _ (by omega)),g3.kept hg (hne _ (by omega)),g4.kept hg (hne _ (by omega)),g5.grown hg g5.size (fun k e=>by have:=(hr k e).1;omega)⟩)
   (fun c pre A B row hs hg hr=>by
     have hne:∀ b,b < w.heap.size + 5 → some b ≠ row:=fun b hb e=>by have:=(hr b e.symm).1;omega
     obtain ⟨g,r,g0,g1,g2,g3,g5⟩:=hs
     exact ⟨g,r,g0,g1.kept hg (hne _ (by omega)),g2.kept hg (hne _ (by omega)),g3.kept hg (hne _ (by omega)),g5.grown hg g5.size (fun k e=>by have:=(hr k e).1;omega)⟩)
   ⟨0,rfl,b0,b1,b2,b3,hbel⟩
   (fun x=>{ tmps:=#[.string s,undef,.pointer (some ⟨w.heap.size,0,none⟩),.pointer (some ⟨w.heap.size + 1,0,none⟩),.pointer (some ⟨w.heap.size + 1 + 1,0,none⟩),.pointer (some ⟨w.heap.size + 1 + 1 + 1,0,none⟩),.int .i64 (x.1.1:Int),.int .u8 (x.1.2:Int),.string s,.func (.func 133) #[] #[.pointer (some ⟨w.heap.size + 1 + 1 + 1 + 1,0,none⟩)],.int .i64 (x.1.1:Int),.int .u8 (x.1.2:Int),
     undef,undef,undef,undef,undef,undef,undef,undef,undef,undef,undef,undef,undef,undef,undef,undef,undef,undef,undef,undef,undef,undef,undef,undef,undef,undef,undef],defers:=[] }) ?assign ?body ?done ?stop
 case assign =>
   intro l x W K hK
   gi_wp2
   exact hK
 case body =>
   rintro l pre x W ⟨v,g0,g1,g2,g3,g4,g5⟩ _
   have hi:=x.2.1
   have hb:=x.2.2
   have c1:=g1.cell;have c2:=g2.cell;have c3:=g3.cell;have c4:=g4.cell
   have f1:=g1.frozen;have f2:=g2.frozen;have f3:=g3.frozen;have f4:=g4.frozen
   dsimp only at hi hb ⊢
   have closeA:(128 ≤ x.1.2 ∧ x.1.1 = 8) ∨ (x.1.2 = 0 ∧ 0 < x.1.1) → Rd.run (pre ++ [x]) 0 = .inr (0,0,12):=fun h=>by rw [Rd.run1 g0,Rd.run,if_pos h]
   have closeB:¬ ((128 ≤ x.1.2 ∧ x.1.1 = 8) ∨ (x.1.2 = 0 ∧ 0 < x.1.1)) → x.1.2 < 128 → Rd.run (pre ++ [x]) 0 = .inr (Rd.new v x.1.1 x.1.2,(x.1.1:Int) + 1,0):=fun h h'=>by rw [Rd.run1 g0,Rd.run,if_neg h,if_pos h'];rfl
   have closeC:¬ ((128 ≤ x.1.2 ∧ x.1.1 = 8) ∨ (x.1.2 = 0 ∧ 0 < x.1.1)) → ¬ x.1.2 < 128 → Rd.run (pre ++ [x]) 0 = .inl (Rd.new v x.1.1 x.1.2):=fun h h'=>by rw [Rd.run1 g0,Rd.run,if_neg h,if_neg h'];rfl
   gi_wp2
   all_goals (first | (exfalso;omega) | skip)
   all_goals (try (refine Rd.reg7 _ _ _ _ x.1.1 _ v _ hi c4 f4 _ _ _ _ _ _ _ _ _ _ _ _ _ _ _ _ _ _ _ _ _ _ _ _ _ _ _ _ _ _ _ _ _ _ _ _ _ ?_))
   all_goals (try dsimp only)
   all_goals (try gi_wp2)
   all_goals (first | (exfalso;omega) | skip)
   · exact ⟨(Rd.set3 g1 g2 g3 g5).1,rfl,(0,0,12),closeA (by omega),(Rd.set3 g1 g2 g3 g5).2.1,(Rd.set3 g1 g2 g3 g5).2.2.1,(Rd.set3 g1 g2 g3 g5).2.2.2.1,(Rd.set3 g1 g2 g3 g5).2.2.2.2⟩
   · exact ⟨(KeepsOthers.setCell _ _ _).trans (KeepsOthers.drew _),Below.heap_setCell _ _ _ _ (by dsimp only;omega),(Rd.new v x.1.1 x.1.2),closeC (by omega) (by omega),g1.other (by omega) _,g2.other (by omega) _,g3.other (by omega) _,g4.set _,(g5.setCell (by dsimp only;omega) _).drew⟩
   · exact ⟨(Rd.set3 g1 g2 g3 g5).1,rfl,0,0,12,closeA (by omega),(Rd.set3 g1 g2 g3 g5).2.1,(Rd.set3 g1 g2 g3 g5).2.2.1,(Rd.set3 g1 g2 g3 g5).2.2.2.1,(Rd.set3 g1 g2 g3 g5).2.2.2.2⟩
   · have q1:=g1.other (B':=w.heap.size + 1 + 1 + 1) (by omega) (.int .u64 (Rd.new v x.1.1 0))
     have q2:=g2.other (B':=w.heap.size + 1 + 1 + 1) (by omega) (.int .u64 (Rd.new v x.1.1 0))
     have q3:=g3.other (B':=w.heap.size + 1 + 1 + 1) (by omega) (.int .u64 (Rd.new v x.1.1 0))
     have q5:=g5.setCell (p:=⟨w.heap.size + 1 + 1 + 1,0,none⟩) (by dsimp only;omega) (.int .u64 (Rd.new v x.1.1 0))
     have hS:=Rd.set3 q1 q2 q3 q5 (u1:=.int .u64 (Rd.new v x.1.1 0)) (u2:=.int .i64 ((x.1.1:Int) + 1)) (u3:=.int .i64 0)
     have e:((x.1.2:Nat):Int) = 0:=by omega
     rw [e] at closeB
     exact ⟨((KeepsOthers.setCell _ _ _).trans hS.1).trans (KeepsOthers.drew _),rfl,((Rd.new v x.1.1 0),(x.1.1:Int) + 1,0),closeB (by omega) (by omega),hS.2.1,hS.2.2.1,hS.2.2.2.1,hS.2.2.2.2.drew⟩
   · have q1:=g1.other (B':=w.heap.size + 1 + 1 + 1) (by omega) (.int .u64 (Rd.new v x.1.1 x.1.2))
     have q2:=g2.other (B':=w.heap.size + 1 + 1 + 1) (by omega) (.int .u64 (Rd.new v x.1.1 x.1.2))
     have q3:=g3.other (B':=w.heap.size + 1 + 1 + 1) (by omega) (.int .u64 (Rd.new v x.1.1 x.1.2))
     have q5:=g5.setCell (p:=⟨w.heap.size + 1 + 1 + 1,0,none⟩) (by dsimp only;omega) (.int .u64 (Rd.new v x.1.1 x.1.2))
     have hS:=Rd.set3 q1 q2 q3 q5 (u1:=.int .u64 (Rd.new v x.1.1 x.1.2)) (u2:=.int .i64 ((x.1.1:Int) + 1)) (u3:=.int .i64 0)
     exact ⟨((KeepsOthers.setCell _ _ _).trans hS.1).trans (KeepsOthers.drew _),rfl,((Rd.new v x.1.1 x.1.2),(x.1.1:Int) + 1,0),closeB (by omega) (by omega),hS.2.1,hS.2.2.1,hS.2.2.2.1,hS.2.2.2.2.drew⟩
 case done =>
   rintro D xs W hD ⟨k,hk1,hk2,rfl⟩ ⟨v,g0,g1,g2,g3,g4,g5⟩ hK
   have c1:=g1.cell;have c2:=g2.cell;have c3:=g3.cell
   have f1:=g1.frozen;have f2:=g2.frozen;have f3:=g3.frozen
   have hv:Rd.val s = (0,0,11):=by
     unfold Rd.val
     rcases hk2 with rfl | ⟨j,rfl,hj⟩
     · rw [g0]
     · exact absurd hj (Rd.run_end g0)
   gi_wp2
   obtain ⟨_,k1,k2,k3,k5⟩:=Rd.set3 g1 g2 g3 g5 (u1:=.int .u64 0) (u2:=.int .i64 0) (u3:=.int .i64 11)
   have hK':(((W.setCell ⟨w.heap.size,0,none⟩ (.int .u64 0)).setCell ⟨w.heap.size + 1,0,none⟩ (.int .i64 0)).setCell ⟨w.heap.size + 1 + 1,0,none⟩ (.int .i64 11)).heap[D]? = some (.deferred (some [])):=by
     rw [Below.heap_setCell _ _ _ _ (by dsimp only;omega),Below.heap_setCell _ _ _ _ (by dsimp only;omega),Below.heap_setCell _ _ _ _ (by dsimp only;omega)];exact hK
   generalize (((W.setCell ⟨w.heap.size,0,none⟩ (.int .u64 0)).setCell ⟨w.heap.size + 1,0,none⟩ (.int .i64 0)).setCell ⟨w.heap.size + 1 + 1,0,none⟩ (.int .i64 11)) = Z at k1 k2 k3 k5 hK' ⊢
   have hw':∀ {B t v},B < w.heap.size + 5 → Boxed Z B t v → Boxed (Z.putObj D (.deferred none)) B t v:=fun hB g=>Eq.trans (World.putObj_heap_other (by omega)) g
   refine ⟨by simp,.inl ⟨_,_,rfl,run_takeDeferred hK',?_⟩⟩
   exact ⟨_,Rd.res (hw' (by omega) k1) (hw' (by omega) k2) (hw' (by omega) k3) _ rfl rfl rfl,⟨(0,0,11),rfl,hv.symm⟩,k5.grown (grownBy_putObj' Z D _ ) k5.size (fun k e=>by cases e;omega)⟩
 case stop =>
   rintro D c pre W _ ⟨k,hk1,rfl⟩ ⟨rfl,r,h0,k1,k2,k3,k5⟩ hK
   have hv:r = Rd.val s:=by unfold Rd.val;rw [Rd.run_le hk1 h0]
   gi_wp2
   have hw':∀ {B t v},B < w.heap.size + 5 → Boxed W B t v → Boxed (W.putObj D (.deferred none)) B t v:=fun hB g=>Eq.trans (World.putObj_heap_other (by omega)) g
   refine ⟨by simp,.inl ⟨_,_,rfl,run_takeDeferred hK,?_⟩⟩
   exact ⟨_,Rd.res (hw' (by omega) k1) (hw' (by omega) k2) (hw' (by omega) k3) _ rfl rfl rfl,⟨r,rfl,hv⟩,k5.grown (grownBy_putObj' W D _ ) k5.size (fun k e=>by cases e;omega)⟩
end Go.Proofs
namespace Go.Q
open Go Go.T Go.Ab Go.Proofs
noncomputable def F110 (s:ByteArray):Option (Int × (Int × Int)):=if s.size ≤ 4611686018427387904 then some (Rd.val s) else none
noncomputable def c110:Con:=⟨110,[.str],[],.tup (.pr (.int .u64) (.pr (.int .i64) (.int .i64))),[],F110,none⟩
theorem ok110:@zAo ⟨False⟩ Try.prog c110:=by
 letI:Go.Ab.DM:=⟨False⟩
 refine con_pure rfl rfl (fun (x:ByteArray) v hv=>?_) (fun y=>rfl) fun (x:ByteArray) hx=>?_
 · have hv:v ∈ [(⟨.str,x⟩:TV)]:=hv
   simp only [List.mem_cons,List.not_mem_nil,or_false] at hv
   subst hv;rfl
 · obtain ⟨y,hy⟩:=hx
   have hc:x.size ≤ 4611686018427387904:=by
     have hy:F110 x = some y:=hy
     unfold F110 at hy
     split at hy
     · assumption
     · cases hy
   have hF:F110 x = some (Rd.val x):=if_pos hc
   refine ⟨⟨Try.f110,Try.func110,by kernel_rfl,by kernel_rfl⟩,fun own X w vs hs hv=>?_⟩
   have hv:zCN own [] X w [.v (.string x)] vs:=hv
   simp only [zCN,VRels,VRel] at hv
   obtain ⟨_,_,rfl,rfl,rfl⟩:=hv
   refine Calls.mono (callsIn_wide.1 (Rd.read_in Fence.wide 3 trivial trivial trivial rfl (by omega) x hc w)) ?_
   rintro e w' ⟨⟨r,rfl,rfl⟩,hb⟩
   obtain ⟨h1,h2⟩:=Sim.outlives (own':=own) (X':=X) hs (fun b hb=>hb) (fun b hb'=>hb.block b hb') hb.size ⟨hb.os,hb.output,hb.tape,fun h=>h.elim⟩
   exact ⟨own,.tup [.v (.int .u64 (Rd.val x).1),.v (.int .i64 (Rd.val x).2.1),.v (.int .i64 (Rd.val x).2.2)],[],_,rfl,h1,by simp [Rel,VRel,VRels],h2,rfl,Rd.val x,hF,rfl⟩
instance:Go.Ab.DM:=⟨False⟩
noncomputable def F89 (x:ByteArray):(Option (Int × (Int × Int))) :=
call (F110 x) fun (r0:(Int × (Int × Int))) =>
sel (ine r0.2.2 0) (some (0,0,r0.2.2)) <|
sel (ilt 1152921504606846976 r0.1) (some (0,0,12)) <|
some (zAR .i64 r0.1,r0.2.1,0)
noncomputable def c89:Con:=⟨89,[.str],[],.tup (.pr (.int .i64) (.pr (.int .i64) (.int .i64))),[],F89,none⟩
theorem ok89:zAo Try.prog c89:=zBe zDB [c110] (zAQ ok110 (zBd)) c89 Try.f89 (.o) Try.func89 (by kernel_rfl) (by kernel_rfl) (by kernel_rfl) rfl (fun x=>by kernel_rfl) (fun x=>⟨by kernel_rfl,by kernel_rfl⟩)
noncomputable def F90 (x:ByteArray):(Option (Int × (Int × Int))) :=
call (F110 x) fun (r0:(Int × (Int × Int))) =>
sel (ine r0.2.2 0) (some (0,0,r0.2.2)) <|
call (F111 r0.1) fun (r1:Int) =>
call (F87 r1) fun (r2:Bool) =>
sel (zDa r2) (some (0,0,12)) <|
some (r1,r0.2.1,0)
noncomputable def c90:Con:=⟨90,[.str],[],.tup (.pr (.int .i64) (.pr (.int .i64) (.int .i64))),[],F90,none⟩
theorem ok90:zAo Try.prog c90:=zBe zDB [c110,c111,c87] (zAQ ok110 (zAQ ok111 (zAQ ok87 (zBd)))) c90 Try.f90 (.o) Try.func90 (by kernel_rfl) (by kernel_rfl) (by kernel_rfl) rfl (fun x=>by kernel_rfl) (fun x=>⟨by kernel_rfl,by kernel_rfl⟩)
noncomputable def F65 (x:ByteArray):(Option ((List Int) × Int)) :=
call (F89 x) fun (r0:(Int × (Int × Int))) =>
sel (ine r0.2.2 0) (some (([]:List Int),r0.2.2)) <|
sel (ilt 20000 r0.1) (some (([]:List Int),4)) <|
need (mk 0 (imin r0.1 (n2i (zBr x))) 8) <|
join (iter (fun (s1:(Int × (Int × (List Int)))) =>
sel (ilt s1.2.1 r0.1) (need (inS s1.1 (n2i (zBr x)) (zBr x)) <|
call (F90 (ssub x s1.1 (n2i (zBr x)))) fun (r2:(Int × (Int × Int))) =>
sel (ine r2.2.2 0) (some (.inr (.inr (([]:List Int),r2.2.2)))) <|
need (room (zDN (zAW s1.2.2) (zAW (r2.1 :: ([]:List Int)))) 8) <|
some (.inl (zAi .i64 s1.1 r2.2.1,zAi .i64 s1.2.1 1,zDQ s1.2.2 (r2.1 :: ([]:List Int))))) <|
some (.inr (.inl (s1.1,s1.2.2)))) (r0.2.1,0,lrep 0 0)) fun (j3:(Int × (List Int))) =>
sel (ine j3.1 (n2i (zBr x))) (some (([]:List Int),12)) <|
some (j3.2,0)
noncomputable def c65:Con:=⟨65,[.str],[],.tup (.pr (.sl (.int .i64)) (.int .i64)),[],F65,none⟩
theorem ok65:zAo Try.prog c65:=zBe zDB [c89,c90] (zAQ ok89 (zAQ ok90 (zBd))) c65 Try.f65 (.n .o (.n .o (.n .o (.n .o (.n .o (.n (.n .o (.jb ⟨[0],[(5,.int .i64),(7,.own 0)],[(0,.many (.int .i64))],1,0⟩ (.l ⟨[0,27],[(5,.int .i64),(7,.own 0),(28,.int .i64)],[(0,.many (.int .i64))],1,1⟩ .o))) .o)))))) Try.func65 (by kernel_rfl) (by kernel_rfl) (by kernel_rfl) rfl (fun x=>by kernel_rfl) (fun x=>⟨by kernel_rfl,by kernel_rfl⟩)
noncomputable def F31 (x:ByteArray):(Option ((Int × (Int × (Int × (List (Int × Int))))) × Int)) :=
call (F65 x) fun (r0:((List Int) × Int)) =>
need (impl (zDa (zAJ (ine r0.2 0) true (ilt (n2i (zAW r0.1)) 2))) (ine 2 0)) <|
sel (zAJ (zAJ (zAJ (ine r0.2 0) true (ilt (n2i (zAW r0.1)) 2)) true (ine (irem (n2i (zAW r0.1)) 2) 0)) true (ilt 4002 (n2i (zAW r0.1)))) (some ((0,0,0,([]:List (Int × Int))),12)) <|
need (inL 0 (zAW r0.1)) <|
need (inL 1 (zAW r0.1)) <|
join (iter (fun (s1:(Int × ((Int × (Int × (Int × PUnit))) × (List (Int × Int))))) =>
sel (ilt s1.1 (n2i (zAW r0.1))) (need (inL (zAi .i64 s1.1 1) (zAW r0.1)) <|
need (impl (zDa (ilt (zAq 0 r0.1 (i2n (zAi .i64 s1.1 1))) 1)) (inL (zAi .i64 s1.1 1) (zAW r0.1))) <|
sel (zAJ (ilt (zAq 0 r0.1 (i2n (zAi .i64 s1.1 1))) 1) true (ilt 1099511627776 (zAq 0 r0.1 (i2n (zAi .i64 s1.1 1))))) (some (.inr (.inr ((0,0,0,([]:List (Int × Int))),12)))) <|
need (inL s1.1 (zAW r0.1)) <|
need (inL (zAi .i64 s1.1 1) (zAW r0.1)) <|
need (room (zDN (zAW s1.2.2) (zAW ((zAq 0 r0.1 (i2n s1.1),zAq 0 r0.1 (i2n (zAi .i64 s1.1 1))) :: ([]:List (Int × Int))))) 16) <|
need (inL (zAi .i64 s1.1 1) (zAW r0.1)) <|
some (.inl (zAi .i64 s1.1 2,(s1.2.1.1,s1.2.1.2.1,zAi .i64 s1.2.1.2.2.1 (zAq 0 r0.1 (i2n (zAi .i64 s1.1 1))),()),zDQ s1.2.2 ((zAq 0 r0.1 (i2n s1.1),zAq 0 r0.1 (i2n (zAi .i64 s1.1 1))) :: ([]:List (Int × Int)))))) <|
some (.inr (.inl ((s1.2.1.1,s1.2.1.2.1,s1.2.1.2.2.1,()),s1.2.2)))) (2,(zAq 0 r0.1 (i2n 0),zAq 0 r0.1 (i2n 1),0,()),([]:List (Int × Int)))) fun (j2:((Int × (Int × (Int × PUnit))) × (List (Int × Int)))) =>
call (F20 (j2.1.1,j2.1.2.1,j2.1.2.2.1,j2.2)) fun (r3:Int) =>
sel (ine r3 0) (some ((0,0,0,([]:List (Int × Int))),12)) <|
some ((j2.1.1,j2.1.2.1,j2.1.2.2.1,j2.2),0)
noncomputable def c31:Con:=⟨31,[.str],[],.tup (.pr (.agg (.pr (.int .i64) (.pr (.int .i64) (.pr (.int .i64) (.sl (.agg (.pr (.int .i64) (.int .i64)))))))) (.int .i64)),[],F31,none⟩
theorem ok31:zAo Try.prog c31:=zBe zDB [c65,c20] (zAQ ok65 (zAQ ok20 (zBd))) c31 Try.f31 (.n .o (.n .o (.n .o (.n (.r [0,1,2,3,4,5,6,7,8]) (.n (.n .o (.jb ⟨[2,6],[],[(1,.one (.agg (.pr (.int .i64) (.pr (.int .i64) (.pr (.int .i64) (.own 2)))))),(2,.lst (.agg (.pr (.int .i64) (.int .i64))))],3,0⟩ (.l ⟨[2,4,6],[(7,.int .i64)],[(1,.one (.agg (.pr (.int .i64) (.pr (.int .i64) (.pr (.int .i64) (.own 2)))))),(2,.lst (.agg (.pr (.int .i64) (.int .i64))))],3,1⟩ (.n .o (.n (.b (.n .o (.n (.r [0,1,2,3,4,5,6,7,8,9,10,11,12,13,14,15]) (.r [0,1,2,3,4,5,6,7,8,9])))) .o))))) .o))))) Try.func31 (by kernel_rfl) (by kernel_rfl) (by kernel_rfl) rfl (fun x=>by kernel_rfl) (fun x=>⟨by kernel_rfl,by kernel_rfl⟩)
noncomputable def F9 (x:((Int × (Int × (Int × (List (Int × Int))))) × ((Int × (Int × (Int × (List (Int × Int))))) × ByteArray))):(Option Bool) :=
call (F11 x.1) fun (r0:Bool) =>
call (sel (zDa r0) (F11 x.2.1) <|
some false) fun (r1:Bool) =>
sel (zAJ (zAJ r0 true r1) true (ilt 300 (n2i (zBr x.2.2)))) (call (F12 ()) fun (r2:Bool) =>
some r2) <|
call (F29 (x.1,x.2.1)) fun (r3:((Int × (Int × (Int × (List (Int × Int))))) × Int)) =>
call (F32 (x.1,x.2.1)) fun (r4:((Int × (Int × (Int × (List (Int × Int))))) × Int)) =>
call (F15 (r3.1,r4.1)) fun (r5:Bool) =>
sel (zAJ (zDa r5) true (ine r3.2 r4.2)) (some false) <|
call (F31 x.2.2) fun (r6:((Int × (Int × (Int × (List (Int × Int))))) × Int)) =>
call (F33 x.2.2) fun (r7:((Int × (Int × (Int × (List (Int × Int))))) × Int)) =>
call (F30 x.1) fun (r8:(ByteArray × Int)) =>
call (F34 x.1) fun (r9:(ByteArray × Int)) =>
call (F15 (r6.1,r7.1)) fun (r10:Bool) =>
call (sel (zAJ (zAJ (zAJ r10 (ieq r6.2 r7.2) false) (seq r8.1 r9.1) false) (ieq r8.2 r9.2) false) (F12 ()) <|
some false) fun (r11:Bool) =>
some (zAJ (zAJ (zAJ (zAJ r10 (ieq r6.2 r7.2) false) (seq r8.1 r9.1) false) (ieq r8.2 r9.2) false) r11 false)
noncomputable def c9:Con:=⟨9,[.agg (.pr (.int .i64) (.pr (.int .i64) (.pr (.int .i64) (.sl (.agg (.pr (.int .i64) (.int .i64))))))),.agg (.pr (.int .i64) (.pr (.int .i64) (.pr (.int .i64) (.sl (.agg (.pr (.int .i64) (.int .i64))))))),.str],[],.bool,[],F9,none⟩
theorem ok9:zAo Try.prog c9:=zBe zDB [c11,c12,c29,c32,c15,c31,c33,c30,c34] (zAQ ok11 (zAQ ok12 (zAQ ok29 (zAQ ok32 (zAQ ok15 (zAQ ok31 (zAQ ok33 (zAQ ok30 (zAQ ok34 (zBd)))))))))) c9 Try.f9 (.o) Try.func9 (by kernel_rfl) (by kernel_rfl) (by kernel_rfl) rfl (fun x=>by kernel_rfl) (fun x=>⟨by kernel_rfl,by kernel_rfl⟩)
open Go Go.T Go.Pl Go.Proofs Go.Proofs.Qd
variable [Go.Ab.DM]
theorem ishr_u (y k:Nat) (hk:k ≤ 64):ishr .u64 (y:Int) (k:Int) = ((y / 2 ^ k:Nat):Int):=by
 unfold ishr
 have e:min (k:Int).toNat IntKind.u64.bits = k:=by simp [IntKind.bits];omega
 have e2:(2:Int) ^ k = ((2 ^ k:Nat):Int):=by simp
 rw [e,e2]
 generalize 2 ^ k = m
 rw [Int.fdiv_eq_ediv_of_nonneg _ (by omega)];simp
theorem tab_fin {y:Nat} {n:Int} (hn:0 ≤ n ∧ n ≤ 64) (h:y < 256):need (inL (zAR .u8 (y:Int)) (zBr tab8)) (some (zAi .i64 n (zAR .i64 (sget tab8 (zAR .u8 (y:Int)))))) = some (n + blen y):=by
 have e:zAR .u8 (y:Int) = (y:Int):=u8w h
 rw [zAL]
 · exact congrArg some (fin8 hn h)
 · rw [e,show zBr tab8 = 256 by kernel_rfl];exact zCa h
theorem F105_eq (x:Nat) (hx:x < 18446744073709551616):F105 (x:Int) = some (blen x:Int):=by
 unfold F105
 have step:∀ (a y:Nat) (k:Nat) (hk:k ≤ 64) {R:Type} (K:Int × Int → Option R) (r:R),(2 ^ k ≤ y → K (((y / 2 ^ k:Nat):Int),((a + k:Nat):Int)) = some r) → (y < 2 ^ k → K ((y:Int),(a:Int)) = some r) → a + k ≤ 64 →
     join (sel (ile ((2 ^ k:Nat):Int) y) (need (ile 0 (k:Int)) (some (.inl (ishr .u64 y k,zAi .i64 a k)))) (some (.inl ((y:Int),(a:Int))))) K = some r:=by
   intro a y k hk R K r h1 h2 h3
   rw [ile_d,zBm,zAL (by rw [ile_d];simp),ishr_u y k hk,zAl (by omega) (by omega)]
   split
   · rename_i h;rw [join_bl];have:=h1 (by exact_mod_cast h);simpa using this
   · rename_i h;rw [join_bl];exact h2 (by have:¬ (2 ^ k ≤ y):=fun h'=>h (by exact_mod_cast h');omega)
 have last:∀ (a y:Nat),a ≤ 64 → y < 256 → blen y + a = blen x → need (inL (zAR .u8 (y:Int)) (zBr tab8)) (some (zAi .i64 (a:Int) (zAR .i64 (sget tab8 (zAR .u8 (y:Int)))))) = some ((blen x:Nat):Int):=by
   intro a y ha hy he
   rw [tab_fin (by omega) hy];congr 1;omega
 have two:∀ (a y:Nat),a ≤ 48 → y < 65536 → blen y + a = blen x → join (sel (ile 256 (y:Int)) (need (ile 0 8) (some (.inl (ishr .u64 y 8,zAi .i64 a 8)))) (some (.inl ((y:Int),(a:Int))))) (fun j2:Int × Int=>need (inL (zAR .u8 j2.1) (zBr tab8)) (some (zAi .i64 j2.2 (zAR .i64 (sget tab8 (zAR .u8 j2.1)))))) = some ((blen x:Nat):Int):=by
   intro a y ha hy he
   refine step a y 8 (by omega) _ _ (fun h=>last (a + 8) _ (by omega) (by omega) ?_) (fun h=>last a y (by omega) (by omega) he) (by omega)
   rw [← he,← blen_shr 8 h];omega
 have three:∀ (a y:Nat),a ≤ 32 → y < 4294967296 → blen y + a = blen x → join (sel (ile 65536 (y:Int)) (need (ile 0 16) (some (.inl (ishr .u64 y 16,zAi .i64 a 16)))) (some (.inl ((y:Int),(a:Int))))) (fun j1:Int × Int=>join (sel (ile 256 j1.1) (need (ile 0 8) (some (.inl (ishr .u64 j1.1 8,zAi .i64 j1.2 8)))) (some (.inl (j1.1,j1.2)))) (fun j2:Int × Int=>need (inL (zAR .u8 j2.1) (zBr tab8)) (some (zAi .i64 j2.2 (zAR .i64 (sget tab8 (zAR .u8 j2.1))))))) = some ((blen x:Nat):Int):=by
   intro a y ha hy he
   refine step a y 16 (by omega) _ _ (fun h=>two (a + 16) _ (by omega) (by omega) ?_) (fun h=>two a y (by omega) (by omega) he) (by omega)
   rw [← he,← blen_shr 16 h];omega
 refine step 0 x 32 (by omega) _ _ (fun h=>three 32 _ (by omega) (by omega) ?_) (fun h=>three 0 x (by omega) (by omega) rfl) (by omega)
 rw [← blen_shr 32 h]
theorem F71_eq (x:Nat) (hx:x < 18446744073709551616):F71 (x:Int) = some (blen x:Int):=by
 unfold F71
 rw [zDc rfl,F105_eq x hx];rfl
def sh (w x:Nat):Nat:=w + 1 - blen x
def LO (w x:Nat):Int:=((x * 2 ^ sh w x:Nat):Int) - (2 ^ w:Nat)
def HI (w x:Nat):Int:=(((x + 1) * 2 ^ sh w x:Nat):Int) - (2 ^ w:Nat) - 1
theorem blen_pos {x:Nat} (h:1 ≤ x):1 ≤ blen x ∧ 2 ^ (blen x - 1) ≤ x ∧ x < 2 ^ blen x:=by
 unfold blen
 rw [if_neg (by omega)]
 exact ⟨by omega,by simpa using Nat.log2_self_le (by omega),Nat.lt_log2_self⟩
theorem blen_of {x b:Nat} (h1:2 ^ b ≤ x) (h2:x < 2 ^ (b + 1)):blen x = b + 1:=by
 have h0:x ≠ 0:=by have:=Nat.two_pow_pos b;omega
 unfold blen
 rw [if_neg h0]
 congr 1
 exact (Nat.log2_eq_iff h0).2 ⟨h1,h2⟩
structure Nod (w x:Nat):Prop where
 w1:1 ≤ w
 w2:w ≤ 20
 x1:1 ≤ x
 x2:x < 2 ^ (w + 1)
theorem pow21 {w:Nat} (h:w ≤ 20):2 ^ w ≤ 1048576:=Nat.le_trans (Nat.pow_le_pow_right (by decide) h) (by decide)
theorem Nod.le {w x:Nat} (h:Nod w x):blen x ≤ w + 1:=by
 obtain ⟨h1,h2,h3⟩:=blen_pos h.x1
 rcases Nat.lt_or_ge (w + 1) (blen x) with h4 | h4
 · have:2 ^ (w + 1) ≤ 2 ^ (blen x - 1):=Nat.pow_le_pow_right (by decide) (by omega)
   have:=h.x2;omega
 · exact h4
theorem Nod.bounds {w x:Nat} (h:Nod w x):2 ^ w ≤ x * 2 ^ sh w x ∧ (x + 1) * 2 ^ sh w x ≤ 2 ^ (w + 1) ∧ sh w x ≤ w:=by
 obtain ⟨h1,h2,h3⟩:=blen_pos h.x1
 have h4:=h.le
 have h5:sh w x + (blen x - 1) = w:=by unfold sh;omega
 have h6:sh w x + blen x = w + 1:=by unfold sh;omega
 refine ⟨?_,?_,by omega⟩
 · have e:2 ^ w = 2 ^ (blen x - 1) * 2 ^ sh w x:=by rw [← Nat.pow_add,Nat.add_comm,h5]
   rw [e];exact Nat.mul_le_mul_right _ h2
 · have e:2 ^ (w + 1) = 2 ^ blen x * 2 ^ sh w x:=by rw [← Nat.pow_add];congr 1;omega
   rw [e];exact Nat.mul_le_mul_right _ h3
theorem ishl_n (a b:Nat) (hb:b ≤ 63) (h:a * 2 ^ b < 9223372036854775808):zCz .i64 (a:Int) (b:Int) = ((a * 2 ^ b:Nat):Int):=by
 unfold zCz
 have e:min (b:Int).toNat IntKind.i64.bits = b:=by simp [IntKind.bits];omega
 rw [e,show (a:Int) * 2 ^ b = ((a * 2 ^ b:Nat):Int) by simp]
 exact zAf (by omega) (by omega)
theorem ishl_1 (w:Nat) (h:w ≤ 20):zCz .i64 1 (w:Int) = ((2 ^ w:Nat):Int):=by
 have:=pow21 h
 have:=ishl_n 1 w (by omega) (by omega)
 simpa using this
theorem isub_s {a b:Int} (h1:-9223372036854775808 ≤ a - b) (h2:a - b < 9223372036854775808):zDG .i64 a b = a - b:=zAf h1 h2
theorem F54_eq {w x:Nat} (h:Nod w x):F54 ((w:Int),(x:Int)) = some (LO w x,HI w x):=by
 obtain ⟨b1,b2,b3⟩:=h.bounds
 have p1:=pow21 h.w2
 have p2:2 ^ (w + 1) ≤ 2097152:=by rw [Nat.pow_succ];omega
 have hw2:=h.w2
 have hx2:=h.x2
 have hle:=h.le
 have hm:x * 2 ^ sh w x ≤ (x + 1) * 2 ^ sh w x:=Nat.mul_le_mul_right _ (by omega)
 unfold F54
 have e1:zAR .u64 (x:Int) = (x:Int):=by simp [zAR,IntKind.wrap,IntKind.signed,IntKind.bits];omega
 dsimp only
 rw [e1,zAe (F71_eq x (by omega))]
 have e2:zDG .i64 (zAi .i64 (w:Int) 1) (blen x:Int) = ((sh w x:Nat):Int):=by
   rw [zAl (by omega) (by omega),isub_s (by omega) (by omega)];unfold sh;omega
 have e3:zAi .i64 (x:Int) 1 = ((x + 1:Nat):Int):=by rw [zAl (by omega) (by omega)];omega
 rw [e2,e3,ishl_1 w hw2,ishl_n x _ (by omega) (by omega),ishl_n (x + 1) _ (by omega) (by omega)]
 rw [zAL (by rw [ile_d];simp),zAL (by rw [ile_d];simp),zAL (by rw [ile_d];simp),zAL (by rw [ile_d];simp)]
 unfold LO HI
 generalize x * 2 ^ sh w x = A at *
 generalize (x + 1) * 2 ^ sh w x = B at *
 rw [isub_s (by omega) (by omega),isub_s (a:=(B:Int)) (by omega) (by omega),isub_s (by omega) (by omega)]
theorem Nod.dbl {w x:Nat} (h:Nod w x) (hn:0 < sh w x):Nod w (2 * x) ∧ Nod w (2 * x + 1) ∧ sh w (2 * x) + 1 = sh w x ∧ sh w (2 * x + 1) + 1 = sh w x ∧ x < 2 ^ w:=by
 obtain ⟨h1,h2,h3⟩:=blen_pos h.x1
 have h4:blen x ≤ w:=by unfold sh at hn;omega
 have e:2 ^ blen x = 2 * 2 ^ (blen x - 1):=by rw [← Nat.pow_succ'];congr 1;omega
 have b1:blen (2 * x) = blen x + 1:=blen_of (by omega) (by rw [Nat.pow_succ];omega)
 have b2:blen (2 * x + 1) = blen x + 1:=blen_of (by omega) (by rw [Nat.pow_succ];omega)
 have h5:2 ^ blen x ≤ 2 ^ w:=Nat.pow_le_pow_right (by decide) h4
 have h6:2 ^ (w + 1) = 2 * 2 ^ w:=by rw [Nat.pow_succ];omega
 refine ⟨⟨h.w1,h.w2,by omega,by omega⟩,⟨h.w1,h.w2,by omega,by omega⟩,?_,?_,by omega⟩
 · unfold sh;omega
 · unfold sh;omega
theorem Nod.top {w x:Nat} (h:Nod w x) (hn:sh w x = 0):2 ^ w ≤ x:=by
 have:=h.bounds.1;rw [hn] at this;simpa using this
theorem shl_two {bits:Int} (h:1 ≤ bits ∧ bits ≤ 20):shl 2 bits = ((2 ^ (bits.toNat + 1):Nat):Int):=by
 rw [shl_pow (by omega) (by omega),Nat.pow_succ];simp;omega
theorem shl_one {bits:Int} (h:1 ≤ bits ∧ bits ≤ 20):shl 1 bits = ((2 ^ bits.toNat:Nat):Int):=by
 rw [shl_pow (by omega) (by omega)];simp
structure Dig (w:Nat) (k count:Int) (nodes:List Nd):Prop where
 w1:1 ≤ w
 w2:w ≤ 20
 k1:1 ≤ k
 k2:k ≤ 10000
 c0:0 ≤ count
 c1:count ≤ 1099511627776
 len:nodes.length ≤ 2000
 node:∀ n ∈ nodes,(∃ x:Nat,n.1 = x ∧ Nod w x) ∧ 1 ≤ n.2 ∧ n.2 ≤ count
 inner:∀ n ∈ nodes,n.1 < ((2 ^ w:Nat):Int) → n.2 ≤ thr count k
 asc:nodes.Pairwise fun a b=>a.1 < b.1
 sum:(nodes.map (·.2)).sum = count
theorem dig_of {bits k count:Int} {nodes:List Nd} (h:zBC bits k count nodes = 0):bits = (bits.toNat:Int) ∧ Dig bits.toNat k count nodes:=by
 obtain ⟨⟨b1,b2,b3,b4,b5,b6,b7⟩,hg,hs⟩:=qcheck_good h
 have hb:bits = (bits.toNat:Int):=by omega
 have s2:=shl_two ⟨b1,b2⟩
 have s1:=shl_one ⟨b1,b2⟩
 refine ⟨hb,⟨by omega,by omega,b3,b4,b5,b6,by omega,fun n hn=>?_,fun n hn hlt=>?_,?_,hs⟩⟩
 · obtain ⟨i,hi,rfl⟩:=List.getElem_of_mem hn
   have g1:=hg.low i hi
   have g2:=hg.high i hi
   refine ⟨⟨nodes[i].1.toNat,by omega,⟨by omega,by omega,by omega,by omega⟩⟩,hg.one i hi⟩
 · obtain ⟨i,hi,rfl⟩:=List.getElem_of_mem hn
   exact hg.inner i hi (by omega)
 · rw [List.pairwise_iff_getElem]
   exact fun i j hi hj hij=>hg.asc i j hij hj
def rkG (w:Nat) (v:Int) (st:Int × Int) (n:Nd):Int × Int:=(if HI w n.1.toNat ≤ v then st.1 + n.2 else st.1,if LO w n.1.toNat ≤ v then st.2 + n.2 else st.2)
def rankT (bits k count:Int) (nodes:List Nd) (v:Int):Int × (Int × Int) :=
 if zBC bits k count nodes ≠ 0 then (0,0,1) else if v < 0 ∨ shl 1 bits ≤ v then (0,0,2) else
   ((nodes.foldl (rkG bits.toNat v) (0,0)).1,(nodes.foldl (rkG bits.toNat v) (0,0)).2,0)
theorem fold_l {σ α E:Type} (g:σ → α → σ) (fin:σ → E):∀ (l:List α) (s:σ),foldE (fun s a=>.inl (g s a)) fin l s = fin (l.foldl g s)
 | [],s=>rfl
 | a :: l,s=>fold_l g fin l (g s a)
theorem rk_inv {w:Nat} {v:Int} {i:Nat} {st:Int × Int} {n:Nd} (h:(0 ≤ st.1 ∧ st.1 ≤ i * 1099511627776) ∧ (0 ≤ st.2 ∧ st.2 ≤ i * 1099511627776)) (hn:1 ≤ n.2 ∧ n.2 ≤ 1099511627776) :
   (0 ≤ (rkG w v st n).1 ∧ (rkG w v st n).1 ≤ (i + 1:Nat) * 1099511627776) ∧ (0 ≤ (rkG w v st n).2 ∧ (rkG w v st n).2 ≤ (i + 1:Nat) * 1099511627776):=by
 unfold rkG
 dsimp only
 constructor
 · split <;> omega
 · split <;> omega
theorem F22_eq (bits k count:Int) (nodes:List Nd) (v:Int):F22 ((bits,k,count,nodes),v) = some (rankT bits k count nodes v):=by
 unfold F22 rankT
 rw [zAe (F20_eq bits k count nodes),ine_d,zBm]
 by_cases h:zBC bits k count nodes ≠ 0
 · rw [if_pos h,if_pos h]
 rw [if_neg h,if_neg h]
 obtain ⟨hb,D⟩:=dig_of (by omega:zBC bits k count nodes = 0)
 dsimp only
 generalize bits.toNat = w at *
 subst hb
 rw [zAL (zCh fun _=>by rw [ile_d];simp)]
 simp only [zCY,zCb,ile_d,← Bool.decide_or,zBm,ishl_shl]
 by_cases h2:v < 0 ∨ shl 1 (w:Int) ≤ v
 · rw [if_pos h2,if_pos h2]
 rw [if_neg h2,if_neg h2]
 refine Eq.trans (join_of _ (iter_for nodes (fun st i=>(st.1,st.2,i)) (fun s a=>.inl (rkG w v s a)) (fun st=>.inl st) (fun i st=>(0 ≤ st.1 ∧ st.1 ≤ i * 1099511627776) ∧ (0 ≤ st.2 ∧ st.2 ≤ i * 1099511627776)) (0,0) (by simp) ?_ ?_)) ?_
 · rintro i ⟨a,b⟩ hi hI
   have hlt:(i:Int) < nodes.length:=by omega
   have hin:inL (i:Int) nodes.length = true:=zCa hi
   have hg:zAq (0,0) nodes i = nodes[i]:=lget_t hi
   obtain ⟨⟨x,hx,hX⟩,hc⟩:=D.node nodes[i] (List.getElem_mem hi)
   have hlen:=D.len;have hc1:=D.c1
   have hinv:=rk_inv (w:=w) (v:=v) hI (n:=nodes[i]) ⟨hc.1,by omega⟩
   dsimp only at hI hinv ⊢
   simp only [n2i_c,zCs,i2n_c,hg,hin,zAL,hlt,if_true]
   refine ⟨?_,fun st' h=>by have:=Sum.inl.inj h;subst this;exact hinv⟩
   unfold rkG at hinv ⊢
   generalize nodes[i] = n at *
   dsimp only at hinv ⊢
   rw [hx] at hinv ⊢
   rw [Int.toNat_natCast] at hinv ⊢
   rw [zAe (F54_eq hX)]
   dsimp only
   rw [zAl (a:=(i:Int)) (by omega) (by omega),zAl (a:=a) (by omega) (by omega),zAl (a:=b) (by omega) (by omega)]
   by_cases p:HI w x ≤ v
   · by_cases q:LO w x ≤ v
     · rw [if_pos p,join_bl,if_pos q,if_pos p,if_pos q];rfl
     · rw [if_pos p,join_bl,if_neg q,if_pos p,if_neg q];rfl
   · by_cases q:LO w x ≤ v
     · rw [if_neg p,join_bl,if_pos q,if_neg p,if_pos q];rfl
     · rw [if_neg p,join_bl,if_neg q,if_neg p,if_neg q];rfl
 · intro st hI
   simp only [n2i_c,zCs]
   rw [if_neg (by omega)]
 · rw [fold_l];rfl
end Go.Q
namespace Go.Q
open Go Go.T Go.Pl Go.Proofs Go.Proofs.Qd
variable [Go.Ab.DM]
end Go.Q
namespace Go.Q
open Go Go.T Go.Pl Go.Proofs Go.Proofs.Qd
variable [Go.Ab.DM]
def Hf (n:Nat) (l:List Int) (k:Nat):Prop:=∀ j,0 < j → j < n → k ≤ (j - 1) / 2 → l.getD j 0 ≤ l.getD ((j - 1) / 2) 0
end Go.Q
namespace Go.Q
open Go Go.T Go.Pl Go.Proofs Go.Proofs.Qd
variable [Go.Ab.DM]
abbrev cn (M:KV Int) (j:Int):Int:=mget ieq 0 M j
abbrev chl (M:KV Int) (m:Int):Int:=cn M (2 * m) + cn M (2 * m + 1)
def can (th:Int) (M:KV Int) (m:Int):Prop:=chl M m ≠ 0 ∧ cn M m + chl M m ≤ th
def mrg (M:KV Int) (m:Int):KV Int:=mdel ieq (mdel ieq (mput ieq M m (cn M m + chl M m)) (2 * m)) (2 * m + 1)
def hiInd (w:Nat) (v id:Int):Int:=if HI w id.toNat ≤ v then 1 else 0
def loInd (w:Nat) (v id:Int):Int:=if LO w id.toNat ≤ v then 1 else 0
def dep (id:Int):Nat:=blen id.toNat
structure MInv (w:Nat) (th count:Int) (nodes M:KV Int):Prop where
 nod:(zBu M).Nodup
 node:∀ id ∈ zBu M,(∃ x:Nat,id = x ∧ Nod w x) ∧ 1 ≤ cn M id ∧ cn M id ≤ count
 inner:∀ id ∈ zBu M,id < ((2 ^ w:Nat):Int) → cn M id ≤ th
 sum:wsum (fun _=>1) M = count
 lo:∀ v,wsum (hiInd w v) M ≤ wsum (hiInd w v) nodes
 hi:∀ v,wsum (loInd w v) nodes ≤ wsum (loInd w v) M
section
variable {w:Nat} {th count:Int} {nodes M:KV Int} {m:Int}
theorem MInv.cn0 (h:MInv w th count nodes M) (j:Int):0 ≤ cn M j ∧ (j ∈ zBu M → 1 ≤ cn M j) ∧ (j ∉ zBu M → cn M j = 0) ∧ cn M j ≤ max count 0:=by
 by_cases hj:j ∈ zBu M
 · have:=(h.node j hj).2;exact ⟨by omega,fun _=>this.1,fun h'=>absurd hj h',by omega⟩
 · have:cn M j = 0:=get_out 0 hj
   exact ⟨by omega,fun h'=>absurd h' hj,fun _=>this,by omega⟩
theorem MInv.can_nod (h:MInv w th count nodes M) (hm:1 ≤ m) (hc:can th M m) (hw:1 ≤ w ∧ w ≤ 20):∃ x:Nat,m = x ∧ Nod w x ∧ 0 < sh w x ∧ x < 2 ^ w:=by
 have key:2 * m ∈ zBu M ∨ 2 * m + 1 ∈ zBu M:=by
   by_cases h1:2 * m ∈ zBu M
   · exact .inl h1
   by_cases h2:2 * m + 1 ∈ zBu M
   · exact .inr h2
   exact absurd (show chl M m = 0 by show cn M (2 * m) + cn M (2 * m + 1) = 0;rw [(h.cn0 _).2.2.1 h1,(h.cn0 _).2.2.1 h2];rfl) hc.1
 have hp:2 ^ (w + 1) = 2 * 2 ^ w:=by rw [Nat.pow_succ];omega
 have hx:m.toNat < 2 ^ w:=by
   rcases key with h1 | h1
   · obtain ⟨⟨y,hy,hY⟩,_⟩:=h.node _ h1;have:=hY.x2;omega
   · obtain ⟨⟨y,hy,hY⟩,_⟩:=h.node _ h1;have:=hY.x2;omega
 have hN:Nod w m.toNat:=⟨hw.1,hw.2,by omega,by omega⟩
 refine ⟨m.toNat,by omega,hN,?_,hx⟩
 rcases Nat.eq_zero_or_pos (sh w m.toNat) with h0 | h0
 · have:=hN.top h0;omega
 · exact h0
theorem hi_child {x:Nat} (h:Nod w x) (hs:0 < sh w x):HI w (2 * x) ≤ HI w x ∧ HI w (2 * x + 1) = HI w x ∧ LO w (2 * x) = LO w x ∧ LO w x ≤ LO w (2 * x + 1):=by
 obtain ⟨h1,h2,h3,h4,h5⟩:=h.dbl hs
 have e1:sh w (2 * x) = sh w x - 1:=by omega
 have e2:sh w (2 * x + 1) = sh w x - 1:=by omega
 obtain ⟨s,hsx⟩:∃ s,sh w x = s + 1:=⟨sh w x - 1,by omega⟩
 have p:2 ^ (s + 1) = 2 * 2 ^ s:=by rw [Nat.pow_succ];omega
 unfold HI LO
 rw [e1,e2,hsx,Nat.add_sub_cancel,p]
 have a1:(x + 1) * (2 * 2 ^ s) = (2 * x + 1 + 1) * 2 ^ s:=by rw [← Nat.mul_assoc];congr 1;omega
 have a2:x * (2 * 2 ^ s) = 2 * x * 2 ^ s:=by rw [← Nat.mul_assoc];congr 1;omega
 have a3:(2 * x + 1) * 2 ^ s ≤ (2 * x + 1 + 1) * 2 ^ s:=Nat.mul_le_mul_right _ (by omega)
 have a4:2 * x * 2 ^ s ≤ (2 * x + 1) * 2 ^ s:=Nat.mul_le_mul_right _ (by omega)
 rw [a1,a2]
 refine ⟨by omega,rfl,rfl,by omega⟩
theorem get_mrg (hn:(zBu M).Nodup) (j:Int):cn (mrg M m) j = if j = 2 * m + 1 then 0 else if j = 2 * m then 0 else if j = m then cn M m + chl M m else cn M j:=by
 unfold cn mrg
 rw [get_del 0 (nodup_del (nodup_put hn _ _) _),get_del 0 (nodup_put hn _ _),get_put]
theorem keys_mrg (hn:(zBu M).Nodup) (j:Int):j ∈ zBu (mrg M m) ↔ j ≠ 2 * m + 1 ∧ j ≠ 2 * m ∧ (j = m ∨ j ∈ zBu M):=by
 unfold mrg
 rw [mem_del (nodup_del (nodup_put hn _ _) _),mem_del (nodup_put hn _ _),mem_put]
theorem wsum_mrg (g:Int → Int) (hn:(zBu M).Nodup) (hm:1 ≤ m):wsum g (mrg M m) = wsum g M + chl M m * g m - cn M (2 * m) * g (2 * m) - cn M (2 * m + 1) * g (2 * m + 1):=by
 unfold mrg
 rw [wsum_del,wsum_del,wsum_put,get_del 0 (nodup_put hn _ _),if_neg (by omega),get_put,get_put,if_neg (by omega),if_neg (by omega)]
 show wsum g M + (cn M m + chl M m - cn M m) * g m - _ - _ = _
 rw [show cn M m + chl M m - cn M m = chl M m by omega]
theorem MInv.mrg (h:MInv w th count nodes M) (hm:1 ≤ m) (hc:can th M m) (hw:1 ≤ w ∧ w ≤ 20) (hth:th ≤ count):MInv w th count nodes (mrg M m):=by
 obtain ⟨x,rfl,hX,hs,hlt⟩:=h.can_nod hm hc hw
 obtain ⟨c1,c2⟩:=hc
 have a0:=(h.cn0 (2 * x)).1
 have b0:=(h.cn0 (2 * x + 1)).1
 have m0:=(h.cn0 x).1
 have hch:1 ≤ chl M x:=by have:0 ≤ chl M x:=by show 0 ≤ cn M _ + cn M _;omega
                          omega
 have hi:=hi_child hX hs
 have t1:((x:Int)).toNat = x:=Int.toNat_natCast x
 have t2:(2 * (x:Int)).toNat = 2 * x:=by omega
 have t3:(2 * (x:Int) + 1).toNat = 2 * x + 1:=by omega
 refine ⟨?_,fun j hj=>?_,fun j hj hlj=>?_,?_,fun v=>?_,fun v=>?_⟩
 · exact nodup_del (nodup_del (nodup_put h.nod _ _) _) _
 · obtain ⟨g1,g2,g3⟩:=(keys_mrg h.nod j).1 hj
   rw [get_mrg h.nod,if_neg g1,if_neg g2]
   by_cases e:j = x
   · subst e;rw [if_pos rfl];exact ⟨⟨x,rfl,hX⟩,by omega,by omega⟩
   · rw [if_neg e];exact h.node j (g3.resolve_left e)
 · obtain ⟨g1,g2,g3⟩:=(keys_mrg h.nod j).1 hj
   rw [get_mrg h.nod,if_neg g1,if_neg g2]
   by_cases e:j = x
   · subst e;rw [if_pos rfl];exact c2
   · rw [if_neg e];exact h.inner j (g3.resolve_left e) hlj
 · rw [wsum_mrg _ h.nod hm,h.sum]
   show count + (cn M _ + cn M _) * 1 - _ * 1 - _ * 1 = count
   omega
 · rw [wsum_mrg _ h.nod hm]
   have h0:=h.lo v
   refine Int.le_trans ?_ h0
   have i1:hiInd w v x ≤ hiInd w v (2 * x):=by
     unfold hiInd;rw [t1,t2];split <;> split <;> omega
   have i2:hiInd w v x ≤ hiInd w v (2 * x + 1):=by
     unfold hiInd;rw [t1,t3];split <;> split <;> omega
   have j1:=Int.mul_le_mul_of_nonneg_left i1 a0
   have j2:=Int.mul_le_mul_of_nonneg_left i2 b0
   have e:chl M x * hiInd w v x = cn M (2 * x) * hiInd w v x + cn M (2 * x + 1) * hiInd w v x:=Int.add_mul _ _ _
   omega
 · rw [wsum_mrg _ h.nod hm]
   have h0:=h.hi v
   refine Int.le_trans h0 ?_
   have i1:loInd w v (2 * x) ≤ loInd w v x:=by
     unfold loInd;rw [t1,t2];split <;> split <;> omega
   have i2:loInd w v (2 * x + 1) ≤ loInd w v x:=by
     unfold loInd;rw [t1,t3];split <;> split <;> omega
   have j1:=Int.mul_le_mul_of_nonneg_left i1 a0
   have j2:=Int.mul_le_mul_of_nonneg_left i2 b0
   have e:chl M x * loInd w v x = cn M (2 * x) * loInd w v x + cn M (2 * x + 1) * loInd w v x:=Int.add_mul _ _ _
   omega
theorem MInv.dep (h:MInv w th count nodes M) (hm:1 ≤ m) (hc:can th M m) (hw:1 ≤ w ∧ w ≤ 20):ksum dep (Q.mrg M m) + 1 ≤ ksum dep M:=by
 obtain ⟨x,rfl,hX,hs,hlt⟩:=h.can_nod hm hc hw
 obtain ⟨d1,d2,d3,d4,_⟩:=hX.dbl hs
 have l0:=hX.le;have l1:=d1.le;have l2:=d2.le
 have e2:Q.dep (2 * (x:Int)) = Q.dep x + 1:=by
   unfold Q.dep
   rw [show (2 * (x:Int)).toNat = 2 * x by omega,Int.toNat_natCast]
   unfold sh at d3 hs;omega
 have e3:Q.dep (2 * (x:Int) + 1) = Q.dep x + 1:=by
   unfold Q.dep
   rw [show (2 * (x:Int) + 1).toNat = 2 * x + 1 by omega,Int.toNat_natCast]
   unfold sh at d4 hs;omega
 have hp:=nodup_put h.nod (x:Int) (cn M x + chl M x)
 have s1:=ksum_put Q.dep M (x:Int) (cn M x + chl M x)
 have s2:=ksum_del Q.dep (mput ieq M (x:Int) (cn M x + chl M x)) (2 * x)
 have s3:=ksum_del Q.dep (mdel ieq (mput ieq M (x:Int) (cn M x + chl M x)) (2 * x)) (2 * x + 1)
 have k2:2 * (x:Int) ∈ zBu (mput ieq M (x:Int) (cn M x + chl M x)) ↔ 2 * (x:Int) ∈ zBu M:=by rw [mem_put];exact ⟨fun h'=>h'.resolve_left (by omega),.inr⟩
 have k3:2 * (x:Int) + 1 ∈ zBu (mdel ieq (mput ieq M (x:Int) (cn M x + chl M x)) (2 * x)) ↔ 2 * (x:Int) + 1 ∈ zBu M:=by
   rw [mem_del hp,mem_put];exact ⟨fun h'=>h'.2.resolve_left (by omega),fun h'=>⟨by omega,.inr h'⟩⟩
 have key:2 * (x:Int) ∈ zBu M ∨ 2 * (x:Int) + 1 ∈ zBu M:=by
   by_cases h1:2 * (x:Int) ∈ zBu M
   · exact .inl h1
   by_cases h2:2 * (x:Int) + 1 ∈ zBu M
   · exact .inr h2
   exact absurd (show chl M x = 0 by show cn M (2 * x) + cn M (2 * x + 1) = 0;rw [(h.cn0 _).2.2.1 h1,(h.cn0 _).2.2.1 h2];rfl) hc.1
 rw [e2] at s2;rw [e3] at s3
 simp only [k2] at s2
 simp only [k3] at s3
 show ksum Q.dep (mdel ieq (mdel ieq (mput ieq M (x:Int) (cn M x + chl M x)) (2 * x)) (2 * x + 1)) + 1 ≤ _
 generalize ksum Q.dep (mdel ieq (mdel ieq (mput ieq M (x:Int) (cn M x + chl M x)) (2 * x)) (2 * x + 1)) = A at *
 generalize ksum Q.dep (mdel ieq (mput ieq M (x:Int) (cn M x + chl M x)) (2 * x)) = B at *
 generalize ksum Q.dep (mput ieq M (x:Int) (cn M x + chl M x)) = C at *
 have:C ≤ ksum Q.dep M + Q.dep x:=by rw [s1];split <;> omega
 rcases key with h1 | h1
 · rw [if_pos h1] at s2;omega
 · rw [if_pos h1] at s3;omega
end
end Go.Q
namespace Go.Q
open Go Go.T Go.Pl Go.Proofs Go.Proofs.Qd
variable [Go.Ab.DM]
noncomputable def body18 (x:Dg) (s5:List Nd × List Int):Option ((List Nd × List Int) ⊕ (List Nd ⊕ (Dg × Int))) :=
call (F47 s5.2) fun (r6:Int) =>
sel (ilt 0 r6) (join (call (F48 s5.2) fun (r7:(Int × (List Int))) =>
sel (zAJ (ieq (zAi .i64 (mget ieq 0 s5.1 (zBx .i64 2 r7.1)) (mget ieq 0 s5.1 (zAi .i64 (zBx .i64 2 r7.1) 1))) 0) true (ilt (iquo .i64 x.2.2.1 x.2.1) (zAi .i64 (mget ieq 0 s5.1 r7.1) (zAi .i64 (mget ieq 0 s5.1 (zBx .i64 2 r7.1)) (mget ieq 0 s5.1 (zAi .i64 (zBx .i64 2 r7.1) 1)))))) (some (.inl (s5.1,r7.2))) <|
join (need (ile 0 x.1) <|
sel (ilt (zBx .i64 2 r7.1) (zCz .i64 1 x.1)) (call (F49 (zBx .i64 2 r7.1,r7.2)) fun (r8:(List Int)) =>
call (F49 (zAi .i64 (zBx .i64 2 r7.1) 1,r8)) fun (r9:(List Int)) =>
some (.inl r9)) <|
some (.inl r7.2)) fun (j10:(List Int)) =>
sel (ilt 1 r7.1) (need (ine 2 0) <|
call (F49 (iquo .i64 r7.1 2,j10)) fun (r11:(List Int)) =>
some (.inl (mdel ieq (mdel ieq (mput ieq s5.1 r7.1 (zAi .i64 (mget ieq 0 s5.1 r7.1) (zAi .i64 (mget ieq 0 s5.1 (zBx .i64 2 r7.1)) (mget ieq 0 s5.1 (zAi .i64 (zBx .i64 2 r7.1) 1))))) (zBx .i64 2 r7.1)) (zAi .i64 (zBx .i64 2 r7.1) 1),r11))) <|
some (.inl (mdel ieq (mdel ieq (mput ieq s5.1 r7.1 (zAi .i64 (mget ieq 0 s5.1 r7.1) (zAi .i64 (mget ieq 0 s5.1 (zBx .i64 2 r7.1)) (mget ieq 0 s5.1 (zAi .i64 (zBx .i64 2 r7.1) 1))))) (zBx .i64 2 r7.1)) (zAi .i64 (zBx .i64 2 r7.1) 1),j10))) fun (j12:((List (Int × Int)) × (List Int))) =>
some (.inl (j12.1,j12.2))) <|
some (.inr (.inl s5.1))
section
variable {w:Nat} {k count:Int} {nodes nd0:List Nd}
inductive Gr (th:Int):List Nd → List Nd → Prop
 | done (M):(∀ m,1 ≤ m → ¬ can th M m) → Gr th M M
 | step (M m r):1 ≤ m → can th M m → (∀ y,1 ≤ y → can th M y → y ≤ m) → Gr th (mrg M m) r → Gr th M r
end
end Go.Q
namespace Go.Q
open Go Go.T Go.Pl Go.Proofs Go.Proofs.Qd
variable [Go.Ab.DM]
def Asc (l:List Nd):Prop:=l.Pairwise fun a b=>a.1 < b.1
theorem asc_unique:∀ {l l':List Nd},Asc l → Asc l' → l.Perm l' → l = l'
 | [],l',_,_,h=>(List.nil_perm.1 h).symm
 | a :: l,[],_,_,h=>absurd h.length_eq (by simp)
 | a :: l,b :: l',ha,hb,h=>by
   have ha':=List.pairwise_cons.1 ha
   have hb':=List.pairwise_cons.1 hb
   have e:a = b:=by
     have h1:a ∈ b :: l':=h.subset (by simp)
     have h2:b ∈ a :: l:=h.symm.subset (by simp)
     rcases List.mem_cons.1 h1 with h1 | h1
     · exact h1
     rcases List.mem_cons.1 h2 with h2 | h2
     · exact h2.symm
     have:=ha'.1 b h2
     have:=hb'.1 a h1
     omega
   subst e
   rw [asc_unique ha'.2 hb'.2 ((List.perm_cons a).1 h)]
theorem asc_nodup {l:List Nd} (h:Asc l):(zBu l).Nodup:=by
 unfold zBu
 rw [List.Nodup,List.pairwise_map]
 exact h.imp fun h e=>by omega
theorem asc_of {l:List Nd} (h:(zBu l).Nodup) (hs:l.Pairwise fun a b=>∀ i j,key51 a = some i → key51 b = some j → i ≤ j):Asc l:=by
 unfold zBu at h
 rw [List.Nodup,List.pairwise_map] at h
 exact (List.Pairwise.and h hs).imp fun ⟨h1,h2⟩=>by have:=h2 _ _ rfl rfl;omega
theorem callQ_of {A R:Type} {p:A → Prop} {k:A → Option R} {r:R} (h1:∃ a,p a) (h2:∀ a,p a → k a = some r):callQ p k = some r:=by
 have hx:(∃ a,p a) ∧ ∃ r,∀ a,p a → k a = some r:=⟨h1,r,h2⟩
 unfold callQ
 rw [dif_pos hx]
 obtain ⟨a,ha⟩:=h1
 have:=Classical.choose_spec hx.2 a ha
 rw [h2 a ha] at this
 exact this.symm
theorem mrange_of {A S E:Type} {l:List A} {B:A → S → Option (S ⊕ E)} {N:S → Option (S ⊕ E)} {s:S} {e:E} (h:∀ l',l'.Perm l → foldM B N l' s = some e):mrange l B N s = some e:=by
 have hx:∃ e,∀ l',l'.Perm l → foldM B N l' s = some e:=⟨e,h⟩
 unfold mrange
 rw [dif_pos hx]
 have:=Classical.choose_spec hx l (.refl _)
 rw [h l (.refl _)] at this
 exact this.symm
theorem foldM_app {E:Type} {N:List Nd → Option (List Nd ⊕ E)} {e:E}:∀ (l s:List Nd),s.length + l.length ≤ 1000000 → N (s ++ l) = some (.inr e) →
   foldM (fun (p14:(Int × Int)) (s15:(List (Int × Int)))=>need (room (zDN (zAW s15) (zAW ((p14.1,p14.2) :: ([]:List (Int × Int))))) 16) <| some (.inl (zDQ s15 ((p14.1,p14.2) :: ([]:List (Int × Int)))))) N l s = some e
 | [],s,_,h=>by
   rw [List.append_nil] at h
   rw [foldM,h]
 | a :: l,s,h,hN=>by
   rw [List.length_cons] at h
   rw [foldM,zAL (by simp [room,zDN,zAW];omega)]
   dsimp only
   exact foldM_app (N:=N) l (s ++ [a]) (by simp;omega) (by simpa using hN)
def todo:List Nd → List Int
 | []=>[]
 | n :: l=>if 1 < n.1 then n.1 / 2 :: todo l else todo l
theorem thr_le {count k:Int} (hc:0 ≤ count ∧ count ≤ 1099511627776) (hk:1 ≤ k):thr count k = count / k ∧ 0 ≤ thr count k ∧ thr count k ≤ count:=by
 have e:count.tdiv k = count / k:=Int.tdiv_eq_ediv_of_nonneg hc.1
 have h1:count / k ≤ count:=Int.ediv_le_self _ hc.1
 have h2:0 ≤ count / k:=Int.ediv_nonneg hc.1 (by omega)
 have h3:thr count k = count / k:=by unfold thr;rw [e];exact zAf (by omega) (by omega)
 omega
theorem cn_at {M:KV Int} (hn:(zBu M).Nodup) {n:Nd} (h:n ∈ M):cn M n.1 = n.2:=((mem_get 0 hn n.1 n.2).1 h).2
theorem Dig.inv {w:Nat} {k count:Int} {nodes:List Nd} (D:Dig w k count nodes):MInv w (thr count k) count nodes nodes:=by
 have hn:(zBu nodes).Nodup:=asc_nodup D.asc
 have hk:∀ id ∈ zBu nodes,∃ n ∈ nodes,n.1 = id ∧ cn nodes id = n.2:=fun id hid=>by
   obtain ⟨n,h1,rfl⟩:=List.mem_map.1 hid
   exact ⟨n,h1,rfl,cn_at hn h1⟩
 refine ⟨hn,fun id hid=>?_,fun id hid hlt=>?_,?_,fun v=>Int.le_refl _,fun v=>Int.le_refl _⟩
 · obtain ⟨n,h1,rfl,h2⟩:=hk id hid
   rw [h2];exact D.node n h1
 · obtain ⟨n,h1,rfl,h2⟩:=hk id hid
   rw [h2];exact D.inner n h1 hlt
 · have:wsum (fun _=>1) nodes = (nodes.map (·.2)).sum:=by unfold wsum;simp
   rw [this];exact D.sum
theorem Dig.ksum {w:Nat} {k count:Int} {nodes:List Nd} (D:Dig w k count nodes):Pl.ksum dep nodes ≤ 42000:=by
 have:∀ l:List Nd,(∀ n ∈ l,∃ x:Nat,n.1 = x ∧ Nod w x) → Pl.ksum dep l ≤ 21 * l.length:=by
   intro l
   induction l with
   | nil=>intro _;exact Nat.le_refl _
   | cons n l ih =>
     intro h
     obtain ⟨x,hx,hX⟩:=h n (by simp)
     have h1:=ih fun m hm=>h m (by simp [hm])
     have h2:dep n.1 ≤ 21:=by unfold dep;rw [hx,Int.toNat_natCast];have:=hX.le;have:=hX.w2;omega
     have e:Pl.ksum dep (n :: l) = dep n.1 + Pl.ksum dep l:=by unfold Pl.ksum zBu;simp
     rw [e,List.length_cons];omega
 have h:=this nodes fun n hn=>(D.node n hn).1
 have:=D.len;omega
end Go.Q
namespace Go.Q
open Go Go.T Go.Pl Go.Proofs Go.Proofs.Qd
variable [Go.Ab.DM]
structure Cmpd (w:Nat) (k count:Int) (nodes r:List Nd):Prop where
 inv:MInv w (thr count k) count nodes r
 asc:Asc r
 none:∀ m,1 ≤ m → ¬ can (thr count k) r m
 same:(∀ m,1 ≤ m → ¬ can (thr count k) nodes m) → r = nodes
 len:r.length ≤ nodes.length
 gr:∃ M,Gr (thr count k) nodes M ∧ r.Perm M
end Go.Q
namespace Go.Q
open Go Go.T Go.Pl Go.Proofs Go.Proofs.Qd
variable [Go.Ab.DM]
theorem join_it {S S' R:Type} {body:S → Option (S ⊕ (S' ⊕ R))} {s:S} {k:S' → Option R} (n:Nat) (s':S') (h:iterN body n s = some (.inl s')):join (iter body s) k = k s':=join_l (iter_of h)
theorem t39:F39 (3,2,[1,1,5,6]) = some ((3,2,4,[(9,2),(13,1),(14,1)]),true):=by
 unfold F39
 rw [zAe (show F13 (3,2) = some ((3,2,0,[]),0) by kernel_rfl)]
 exact Eq.trans (join_it 6 (0,3,2,4,[(9,2),(13,1),(14,1)]) (by kernel_rfl)) rfl
theorem t18:F18 (3,2,4,[(9,2),(13,1),(14,1)]) = some ((3,2,4,[(2,2),(3,2)]),0):=by
 unfold F18
 rw [zAe (F20_eq 3 2 4 [(9,2),(13,1),(14,1)]),zDc (by kernel_rfl),zAL (by kernel_rfl)]
 refine Eq.trans (join_it 5 ([(9,2),(13,1),(14,1)],[4,6,7]) (by kernel_rfl)) ?_
 rw [zAe (show F46 [4,6,7] = some [7,6,4] by kernel_rfl),zAL (by kernel_rfl)]
 refine Eq.trans (join_it (body:=body18 (3,2,4,[(9,2),(13,1),(14,1)])) 40 [(3,2),(2,2)] (by kernel_rfl)) ?_
 rw [zAL (by kernel_rfl)]
 refine mrange_of fun l' hl'=>?_
 have hn:=hl'.length_eq
 have hp:l'.Perm [(2,2),(3,2)]:=hl'.trans (List.Perm.swap _ _ _)
 have hra:Asc [(2,2),(3,2)]:=by unfold Asc;simp
 refine foldM_app l' _ (by rw [hn];decide) ?_
 have hq:callQ (Q50 l') (fun (r17:(List (Int × Int)))=>some ((((3:Int),(2:Int),(4:Int),r17),(0:Int)):Dg × Int)) = some ((3,2,4,[(2,2),(3,2)]),0):=by
   refine callQ_of ⟨[(2,2),(3,2)],⟨by rw [hn];decide,fun n hm=>⟨n.1,rfl,?_⟩,hp.symm,?_⟩⟩ fun a ha=>?_
   · have:=hp.subset hm
     simp at this
     rcases this with rfl | rfl <;> exact ⟨by decide,by decide⟩
   · exact hra.imp fun {a b} h i j hi hj=>by
       have:=Option.some.inj hi;have:=Option.some.inj hj;omega
   · obtain ⟨_,_,a1,a2⟩:=ha
     have hna:(zBu a).Nodup:=((a1.trans hp).map _).symm.nodup_iff.1 (asc_nodup hra)
     rw [asc_unique (asc_of hna a2) hra (a1.trans hp)]
 show Go.T.up (callQ (Q50 l') _) = _
 rw [hq];rfl
theorem key_unique {kf:Nd → Int}:∀ {l r:List Nd},(l.Pairwise fun a b=>kf a < kf b) → (r.Pairwise fun a b=>kf a ≤ kf b) → r.Perm l → r = l
 | [],r,_,_,h=>List.perm_nil.1 h
 | a :: l,[],_,_,h=>absurd h.length_eq (by simp)
 | a :: l,b :: r,ha,hb,h=>by
   have ha':=List.pairwise_cons.1 ha
   have hb':=List.pairwise_cons.1 hb
   have e:b = a:=by
     have h1:b ∈ a :: l:=h.subset (by simp)
     have h2:a ∈ b :: r:=h.symm.subset (by simp)
     rcases List.mem_cons.1 h1 with h1 | h1
     · exact h1
     rcases List.mem_cons.1 h2 with h2 | h2
     · exact h2.symm
     have:=ha'.1 b h1
     have:=hb'.1 a h2
     omega
   subst e
   rw [key_unique ha'.2 hb'.2 ((List.perm_cons b).1 h)]
theorem t22:F22 ((3,2,4,[(2,2),(3,2)]),5) = some (2,4,0):=(F22_eq _ _ _ _ _).trans (by kernel_rfl)
theorem t57:F57 (1,2) = some 0:=by
 unfold F57
 rw [zDc (by kernel_rfl),zDc (by kernel_rfl),zAe (show F82 1 = some 1 by kernel_rfl),zAe (a:=1) ?_]
 · rfl
 · unfold F81
   exact Eq.trans (join_it 5 1 (by kernel_rfl)) rfl
theorem t61a:F61a ([(2,2),(3,2)],2,(),(3,2,4,[(2,2),(3,2)])) = some 0:=by
 unfold F61a
 have k1:F59 ((2,2),(3,2,4,[(2,2),(3,2)])) = some 0:=by kernel_rfl
 have k2:F59 ((3,2),(3,2,4,[(2,2),(3,2)])) = some 4:=by kernel_rfl
 have hpw:([(2,2),(3,2)]:List Nd).Pairwise fun a b=>(F59 (a,(3,2,4,[(2,2),(3,2)]))).getD 0 < (F59 (b,(3,2,4,[(2,2),(3,2)]))).getD 0:=by
   simp only [List.pairwise_cons,List.mem_singleton,forall_eq]
   rw [k1,k2];simp
 have hdom:∀ n ∈ ([(2,2),(3,2)]:List Nd),∃ k,F59 (n,(3,2,4,[(2,2),(3,2)])) = some k ∧ keyOk k:=fun n hn=>by
   simp at hn
   rcases hn with rfl | rfl
   · exact ⟨_,k1,by decide,by decide⟩
   · exact ⟨_,k2,by decide,by decide⟩
 refine callQ_of ⟨[(2,2),(3,2)],by simp,by decide,hdom,.refl _,?_⟩ fun r hr=>?_
 · exact hpw.imp fun {a b} h i j hi hj=>by dsimp only at hi hj;rw [hi,hj] at h;simp at h;omega
 · obtain ⟨_,_,_,hp,hs⟩:=hr
   have hp:r.Perm [(2,2),(3,2)]:=hp
   have:r = [(2,2),(3,2)]:=key_unique hpw (hs.imp_of_mem fun {a b} ha hb h=>by
     obtain ⟨i,hi,_⟩:=hdom a (hp.subset ha)
     obtain ⟨j,hj,_⟩:=hdom b (hp.subset hb)
     rw [hi,hj];exact h i j hi hj) hp
   subst this
   exact Eq.trans (join_it 5 0 (by kernel_rfl)) rfl
theorem t61b:F61b ([(2,2),(3,2)],2,(),(3,2,4,[(2,2),(3,2)])) = some 3:=by
 unfold F61b
 have k1:F60 ((2,2),(3,2,4,[(2,2),(3,2)])) = some 3:=by kernel_rfl
 have k2:F60 ((3,2),(3,2,4,[(2,2),(3,2)])) = some 7:=by kernel_rfl
 have hpw:([(2,2),(3,2)]:List Nd).Pairwise fun a b=>(F60 (a,(3,2,4,[(2,2),(3,2)]))).getD 0 < (F60 (b,(3,2,4,[(2,2),(3,2)]))).getD 0:=by
   simp only [List.pairwise_cons,List.mem_singleton,forall_eq]
   rw [k1,k2];simp
 have hdom:∀ n ∈ ([(2,2),(3,2)]:List Nd),∃ k,F60 (n,(3,2,4,[(2,2),(3,2)])) = some k ∧ keyOk k:=fun n hn=>by
   simp at hn
   rcases hn with rfl | rfl
   · exact ⟨_,k1,by decide,by decide⟩
   · exact ⟨_,k2,by decide,by decide⟩
 refine callQ_of ⟨[(2,2),(3,2)],by simp,by decide,hdom,.refl _,?_⟩ fun r hr=>?_
 · exact hpw.imp fun {a b} h i j hi hj=>by dsimp only at hi hj;rw [hi,hj] at h;simp at h;omega
 · obtain ⟨_,_,_,hp,hs⟩:=hr
   have hp:r.Perm [(2,2),(3,2)]:=hp
   have:r = [(2,2),(3,2)]:=key_unique hpw (hs.imp_of_mem fun {a b} ha hb h=>by
     obtain ⟨i,hi,_⟩:=hdom a (hp.subset ha)
     obtain ⟨j,hj,_⟩:=hdom b (hp.subset hb)
     rw [hi,hj];exact h i j hi hj) hp
   subst this
   exact Eq.trans (join_it 5 3 (by kernel_rfl)) rfl
theorem t24:F24 ((3,2,4,[(2,2),(3,2)]),1,2) = some (0,3,0):=by
 unfold F24
 rw [zAe (show F20 (3,2,4,[(2,2),(3,2)]) = some 0 from (F20_eq _ _ _ _).trans (by kernel_rfl))]
 rw [sel_t (show zDa (ine 0 0) = true by kernel_rfl),zAe t57,zDc (by kernel_rfl),zDc (by kernel_rfl),zDc (by kernel_rfl),zAe (show F58 ((1,2),4) = some 2 by kernel_rfl)]
 exact Eq.trans (zAe t61a) (zAe t61b)
theorem t40:F40 ([(2,2),(3,2)],[(2,2),(3,2)]) = some true:=by
 unfold F40
 rw [zDc (by kernel_rfl)]
 exact Eq.trans (join_it 5 () (by kernel_rfl)) rfl
theorem awake:F12 () = some true:=by
 unfold F12
 rw [zAe t39,zAe t18,zAe t22,zAe t24,sel_t (by kernel_rfl),sel_t (by kernel_rfl),zAe t40]
 rfl
end Go.Q
namespace Go.Q
open Go Go.T Go.Pl Go.Proofs Go.Proofs.Qd
variable [Go.Ab.DM]
theorem fold_rk (w:Nat) (v:Int):∀ (l:List Nd) (a b:Int),l.foldl (rkG w v) (a,b) = (a + wsum (hiInd w v) l,b + wsum (loInd w v) l)
 | [],a,b=>by simp [wsum]
 | n :: l,a,b=>by
   rw [List.foldl_cons,show rkG w v (a,b) n = (a + n.2 * hiInd w v n.1,b + n.2 * loInd w v n.1) by
     unfold rkG hiInd loInd
     dsimp only
     congr 1
     · split <;> simp
     · split <;> simp,fold_rk w v l,zBA,zBA,Int.add_assoc,Int.add_assoc]
theorem chk_ok {bits count th:Int}:∀ {l:List Nd} {before sum:Int},(∀ n ∈ l,before < n.1 ∧ n.1 < shl 2 bits ∧ 1 ≤ n.2 ∧ n.2 ≤ count ∧ (n.1 < shl 1 bits → n.2 ≤ th)) → Asc l → chk bits count th l before sum = some (sum + (l.map (·.2)).sum)
 | [],before,sum,_,_=>by simp [chk]
 | n :: l,before,sum,h,ha=>by
   obtain ⟨h1,h2,h3,h4,h5⟩:=h n (by simp)
   have ha':=List.pairwise_cons.1 ha
   rw [chk,if_neg (by omega),if_neg (by omega),chk_ok (fun m hm=>?_) ha'.2]
   · simp [Int.add_assoc]
   · obtain ⟨_,g⟩:=h m (by simp [hm])
     exact ⟨ha'.1 m hm,g⟩
theorem Cmpd.check {w:Nat} {k count:Int} {nodes r:List Nd} (D:Dig w k count nodes) (C:Cmpd w k count nodes r):zBC (w:Int) k count r = 0:=by
 have hlen:=C.len
 have:=D.len;have:=D.w1;have:=D.w2;have:=D.k1;have:=D.k2;have:=D.c0;have:=D.c1
 have p2:=shl_two (bits:=(w:Int)) ⟨by omega,by omega⟩
 have p1:=shl_one (bits:=(w:Int)) ⟨by omega,by omega⟩
 rw [Int.toNat_natCast] at p1 p2
 unfold zBC
 rw [if_neg (by omega),if_neg (by omega),chk_ok (fun n hn=>?_) C.asc]
 · have hs:(r.map (·.2)).sum = count:=by
     have:=C.inv.sum
     unfold wsum at this
     simpa using this
   simp only [hs,Int.zero_add]
   rw [if_neg (by simp)]
 · have hk:n.1 ∈ zBu r:=List.mem_map_of_mem hn
   have hc:=cn_at C.inv.nod hn
   obtain ⟨⟨x,hx,hX⟩,h1,h2⟩:=C.inv.node n.1 hk
   have h3:=C.inv.inner n.1 hk
   rw [hc] at h1 h2 h3
   have hx1:=hX.x1;have hx2:=hX.x2
   refine ⟨by omega,by omega,h1,h2,fun h=>h3 (by omega)⟩
theorem F15_same (d:Dg) (h:d.2.2.2.length ≤ 1000000):F15 (d,d) = some true:=by
 obtain ⟨bits,k,count,l⟩:=d
 have h:l.length ≤ 1000000:=h
 unfold F15
 simp only [ine_d,ne_eq,not_true_eq_false,decide_false,zCY,Bool.or_false]
 rw [zDc rfl]
 refine Eq.trans (join_of _ (iter_for l (fun (_:Unit) i=>i) (fun s a=>.inl s) (fun _=>(.inl ():PUnit ⊕ Bool)) (fun _ _=>True) () trivial ?_ ?_)) ?_
 · intro i st hi _
   have hlt:(i:Int) < l.length:=by omega
   have hin:inL (i:Int) l.length = true:=zCa hi
   refine ⟨?_,fun _ _=>trivial⟩
   simp only [n2i_c,zCs,i2n_c,hin,zAL,zCb,zBm,hlt,if_true,ieq_t,band_d,Bool.and_self,bnot_d,Bool.not_true]
   rw [zDc rfl,zAl (by omega) (by omega)];rfl
 · intro st _
   simp only [n2i_c,zCs,zCb,zBm]
   rw [if_neg (by omega)]
 · rw [fold_l];rfl
end Go.Q
namespace Go.Q
open Go Go.T Go.Pl Go.Proofs Go.Proofs.Qd
variable [Go.Ab.DM]
def ins:List Nd → Int → Int → List Nd
 | [],id,n=>[(id,n)]
 | p :: l,id,n=>if p.1 < id then p :: ins l id n else if p.1 = id then (id,p.2 + n) :: l else (id,n) :: p :: l
theorem mem_ins {id n:Int} {m:Nd}:∀ {l:List Nd},m ∈ ins l id n → m.1 = id ∨ m ∈ l
 | [],h=>by simp [ins] at h;subst h;exact .inl rfl
 | p :: l,h=>by
   rw [ins] at h
   split at h
   · rcases List.mem_cons.1 h with h | h
     · subst h;exact .inr (by simp)
     · rcases mem_ins h with h | h
       · exact .inl h
       · exact .inr (by simp [h])
   · split at h
     · rcases List.mem_cons.1 h with h | h
       · subst h;exact .inl rfl
       · exact .inr (by simp [h])
     · rcases List.mem_cons.1 h with h | h
       · subst h;exact .inl rfl
       · exact .inr h
theorem ins_asc {id n:Int}:∀ {l:List Nd},Asc l → Asc (ins l id n)
 | [],_=>List.pairwise_singleton _ _
 | p :: l,h=>by
   have h':=List.pairwise_cons.1 h
   rw [ins]
   split
   · rename_i g
     refine List.pairwise_cons.2 ⟨fun m hm=>?_,ins_asc h'.2⟩
     rcases mem_ins hm with e | e
     · omega
     · exact h'.1 m e
   · split
     · rename_i g1 g2
       exact List.pairwise_cons.2 ⟨fun m hm=>by have:=h'.1 m hm;dsimp only;omega,h'.2⟩
     · rename_i g1 g2
       refine List.pairwise_cons.2 ⟨fun m hm=>?_,h⟩
       rcases List.mem_cons.1 hm with rfl | e
       · dsimp only;omega
       · have:=h'.1 m e;dsimp only;omega
theorem keys_ins {id n j:Int}:∀ {l:List Nd},j ∈ zBu (ins l id n) ↔ j = id ∨ j ∈ zBu l
 | []=>by simp [ins,zBu]
 | p :: l=>by
   rw [ins]
   split
   · rw [zAu,List.mem_cons,keys_ins,zAu,List.mem_cons]
     exact ⟨fun h=>by rcases h with h | h | h <;> simp [h],fun h=>by rcases h with h | h | h <;> simp [h]⟩
   · split
     · rename_i g1 g2
       rw [zAu,List.mem_cons,zAu,List.mem_cons,g2]
       exact ⟨fun h=>.inr h,fun h=>h.elim .inl fun h=>h⟩
     · rw [zAu,List.mem_cons]
theorem asc_lt {p:Nd} {l:List Nd} (h:Asc (p :: l)) {j:Int} (hj:j ≤ p.1):j ∉ zBu l:=fun hm=>by
 obtain ⟨m,hm',rfl⟩:=List.mem_map.1 hm
 have:=(List.pairwise_cons.1 h).1 m hm'
 omega
theorem cn_ins {id n:Int} (j:Int):∀ {l:List Nd},Asc l → cn (ins l id n) j = cn l j + if j = id then n else 0
 | [],_=>by
   unfold cn
   rw [ins,get_nil]
   by_cases h:j = id
   · subst h;rw [zCi,if_pos rfl];omega
   · rw [zCF 0 h,get_nil,if_neg h];rfl
 | p :: l,h=>by
   have h':=List.pairwise_cons.1 h
   obtain ⟨a,c⟩:=p
   unfold cn at *
   rw [ins]
   dsimp only
   split
   · rename_i g
     by_cases e:j = a
     · subst e;rw [zCi,zCi,if_neg (by omega)];omega
     · rw [zCF 0 e,zCF 0 e];exact cn_ins j h'.2
   · split
     · rename_i g1 g2
       subst g2
       by_cases e:j = a
       · subst e;rw [zCi,zCi,if_pos rfl]
       · rw [zCF 0 e,zCF 0 e,if_neg e];omega
     · rename_i g1 g2
       by_cases e:j = id
       · subst e
         rw [zCi,zCF 0 (fun e=>g2 e.symm),get_out 0 (asc_lt h (by dsimp only;omega)),if_pos rfl];omega
       · rw [zCF 0 e,if_neg e];omega
theorem wsum_ins (g:Int → Int) {id n:Int}:∀ {l:List Nd},wsum g (ins l id n) = wsum g l + n * g id
 | []=>by rw [ins,zBA,wsum_nil];dsimp only;omega
 | p :: l=>by
   rw [ins]
   split
   · rw [zBA,zBA,wsum_ins g];omega
   · split
     · rename_i g1 g2
       rw [zBA,zBA,g2];dsimp only;rw [Int.add_mul];omega
     · rw [zBA];dsimp only;omega
theorem len_ins {id n:Int}:∀ {l:List Nd},l.length ≤ (ins l id n).length ∧ (ins l id n).length ≤ l.length + 1
 | []=>by simp [ins]
 | p :: l=>by
   have:=len_ins (id:=id) (n:=n) (l:=l)
   rw [ins]
   split
   · simp;omega
   · split <;> simp
theorem lb_cons_lt {p:Nd} {l:List Nd} {t:Int} (h:p.1 < t):lb (p :: l) t = lb l t + 1:=by
 unfold lb;rw [List.takeWhile_cons_of_pos (by simpa using h)];rfl
theorem lb_cons_ge {p:Nd} {l:List Nd} {t:Int} (h:¬ p.1 < t):lb (p :: l) t = 0:=by
 unfold lb;rw [List.takeWhile_cons_of_neg (by simpa using h)];rfl
theorem wsum1 (l:List Nd):wsum (fun _=>1) l = (l.map (·.2)).sum:=by unfold wsum;simp
theorem Dig.check {w:Nat} {k count:Int} {r:List Nd} (D:Dig w k count r):zBC (w:Int) k count r = 0:=by
 have:=D.len;have:=D.w1;have:=D.w2;have:=D.k1;have:=D.k2;have:=D.c0;have:=D.c1
 have p2:=shl_two (bits:=(w:Int)) ⟨by omega,by omega⟩
 have p1:=shl_one (bits:=(w:Int)) ⟨by omega,by omega⟩
 rw [Int.toNat_natCast] at p1 p2
 unfold zBC
 rw [if_neg (by omega),if_neg (by omega),chk_ok (fun n hn=>?_) D.asc]
 · simp only [D.sum,Int.zero_add]
   rw [if_neg (by simp)]
 · obtain ⟨⟨x,hx,hX⟩,h1,h2⟩:=D.node n hn
   have h3:=D.inner n hn
   have hx1:=hX.x1;have hx2:=hX.x2
   exact ⟨by omega,by omega,h1,h2,fun h=>h3 (by omega)⟩
theorem Dig.of_cn {w:Nat} {k count:Int} {r:List Nd} (hw:1 ≤ w ∧ w ≤ 20) (hk:1 ≤ k ∧ k ≤ 10000) (hc:0 ≤ count ∧ count ≤ 1099511627776) (hl:r.length ≤ 2000) (ha:Asc r)
   (hn:∀ id ∈ zBu r,(∃ x:Nat,id = x ∧ Nod w x) ∧ 1 ≤ cn r id ∧ cn r id ≤ count) (hi:∀ id ∈ zBu r,id < ((2 ^ w:Nat):Int) → cn r id ≤ thr count k) (hs:wsum (fun _=>1) r = count):Dig w k count r:=by
 refine ⟨hw.1,hw.2,hk.1,hk.2,hc.1,hc.2,hl,fun n h=>?_,fun n h=>?_,ha,?_⟩
 · have:=hn n.1 (List.mem_map_of_mem h)
   rw [cn_at (asc_nodup ha) h] at this;exact this
 · have:=hi n.1 (List.mem_map_of_mem h)
   rw [cn_at (asc_nodup ha) h] at this;exact this
 · rw [← wsum1];exact hs
theorem Cmpd.dig {w:Nat} {k count:Int} {nodes r:List Nd} (D:Dig w k count nodes) (C:Cmpd w k count nodes r):Dig w k count r :=
 .of_cn ⟨D.w1,D.w2⟩ ⟨D.k1,D.k2⟩ ⟨D.c0,D.c1⟩ (Nat.le_trans C.len D.len) C.asc C.inv.node C.inv.inner C.inv.sum
theorem thr_mono {a b k:Int} (ha:0 ≤ a) (hab:a ≤ b) (hb:b ≤ 1099511627776) (hk:1 ≤ k):thr a k ≤ thr b k:=by
 rw [(thr_le ⟨ha,by omega⟩ hk).1,(thr_le ⟨by omega,hb⟩ hk).1]
 exact Int.ediv_le_ediv (by omega) hab
theorem Dig.add {w:Nat} {k count v n:Int} {nodes:List Nd} (D:Dig w k count nodes) (hv:0 ≤ v ∧ v < ((2 ^ w:Nat):Int)) (hn:1 ≤ n) (hc:count + n ≤ 1099511627776) (hl:(ins nodes (((2 ^ w:Nat):Int) + v) n).length ≤ 2000):Dig w k (count + n) (ins nodes (((2 ^ w:Nat):Int) + v) n):=by
 have c0:=D.c0
 refine .of_cn ⟨D.w1,D.w2⟩ ⟨D.k1,D.k2⟩ ⟨by omega,hc⟩ hl (ins_asc D.asc) (fun id h=>?_) (fun id h hlt=>?_) ?_
 · have hcn:=D.inv.cn0 id
   rw [cn_ins id D.asc]
   rcases keys_ins.1 h with rfl | h
   · have hp:2 ^ (w + 1) = 2 * 2 ^ w:=by rw [Nat.pow_succ];omega
     rw [if_pos rfl]
     exact ⟨⟨2 ^ w + v.toNat,by omega,⟨D.w1,D.w2,by have:=Nat.two_pow_pos w;omega,by omega⟩⟩,by omega,by omega⟩
   · obtain ⟨hN,_⟩:=D.inv.node id h
     have:=hcn.2.1 h
     refine ⟨hN,?_⟩
     split <;> omega
 · rcases keys_ins.1 h with rfl | h
   · omega
   · rw [cn_ins id D.asc,if_neg (by omega)]
     have:=D.inv.inner id h hlt
     have:=thr_mono c0 (show count ≤ count + n by omega) hc D.k1
     omega
 · rw [wsum_ins,D.inv.sum];omega
end Go.Q
namespace Go.Q
open Go Go.T Go.Pl Go.Proofs Go.Proofs.Qd
variable [Go.Ab.DM]
def rnk (all:List Int) (v:Int):Int:=(all.map fun x=>if x ≤ v then (1:Int) else 0).sum
theorem rnk_add (all:List Int) (x v:Int):rnk (all ++ [x]) v = rnk all v + if x ≤ v then 1 else 0:=by
 unfold rnk;simp
theorem wsum_le {g h:Int → Int}:∀ {M:KV Int},(∀ p ∈ M,0 ≤ p.2 ∧ g p.1 ≤ h p.1) → wsum g M ≤ wsum h M
 | [],_=>Int.le_refl _
 | p :: M,H=>by
   obtain ⟨a,b⟩:=H p (by simp)
   have:=Int.mul_le_mul_of_nonneg_left b a
   have:=wsum_le (g:=g) (h:=h) (M:=M) fun q hq=>H q (by simp [hq])
   rw [zBA,zBA];omega
theorem wsum_plus (g h:Int → Int):∀ (M:KV Int),wsum (fun x=>g x + h x) M = wsum g M + wsum h M
 | []=>rfl
 | p :: M=>by rw [zBA,zBA,zBA,wsum_plus g h M,Int.mul_add];omega
theorem wsum_zero:∀ (M:KV Int),wsum (fun _=>0) M = 0
 | []=>rfl
 | p :: M=>by rw [zBA,wsum_zero M];simp
theorem wsum_at (a:Int):∀ {M:KV Int},(zBu M).Nodup → wsum (fun x=>if x = a then 1 else 0) M = cn M a
 | [],_=>rfl
 | (j,x) :: M,h=>by
   rw [zAu,List.nodup_cons] at h
   rw [zBA,wsum_at a h.2]
   unfold cn
   by_cases e:a = j
   · subst e
     rw [zCi,if_pos rfl,get_out 0 h.1];simp
   · rw [zCF 0 e,if_neg (fun e'=>e e'.symm)];simp
def anc (w:Nat) (v:Int) (s:Nat):Int:=(((2 ^ w + v.toNat) / 2 ^ s:Nat):Int)
def ancs (w:Nat) (v:Int):Nat → Int → Int
 | 0,_=>0
 | n + 1,id=>ancs w v n id + if id = anc w v (n + 1) then 1 else 0
theorem ancs_nn (w:Nat) (v id:Int):∀ n,0 ≤ ancs w v n id
 | 0=>Int.le_refl _
 | n + 1=>by have:=ancs_nn w v id n;rw [ancs];split <;> omega
theorem ancs_ge {w:Nat} {v id:Int} {s:Nat} (hs:1 ≤ s) (h:id = anc w v s):∀ {n},s ≤ n → 1 ≤ ancs w v n id
 | 0,h'=>by omega
 | n + 1,h'=>by
   rw [ancs]
   by_cases e:s = n + 1
   · subst e;rw [if_pos h];have:=ancs_nn w v id n;omega
   · have:=ancs_ge hs h (n:=n) (by omega)
     split <;> omega
theorem ind_anc {w x:Nat} {v:Int} (h:Nod w x) (hv:0 ≤ v):loInd w v x ≤ hiInd w v x + ancs w v w x:=by
 have h0:=ancs_nn w v x w
 unfold loInd hiInd
 rw [Int.toNat_natCast]
 by_cases h1:LO w x ≤ v
 · rw [if_pos h1]
   by_cases h2:HI w x ≤ v
   · rw [if_pos h2];omega
   · rw [if_neg h2]
     unfold LO HI at *
     obtain ⟨b1,b2,b3⟩:=h.bounds
     have hs:1 ≤ sh w x:=by
       rcases Nat.eq_zero_or_pos (sh w x) with e | e
       · rw [e] at h1 h2;simp at h1 h2;omega
       · exact e
     have:(x:Int) = anc w v (sh w x):=by
       unfold anc
       congr 1
       symm
       rw [Nat.div_eq_iff (Nat.two_pow_pos _)]
       have e:(x + 1) * 2 ^ sh w x = x * 2 ^ sh w x + 2 ^ sh w x:=Nat.succ_mul _ _
       have e2:x * 2 ^ sh w x = 2 ^ sh w x * x:=Nat.mul_comm _ _
       omega
     have:=ancs_ge hs this b3
     omega
 · rw [if_neg h1]
   split <;> omega
theorem Dig.width {w:Nat} {k count v:Int} {nodes:List Nd} (D:Dig w k count nodes) (hv:0 ≤ v ∧ v < ((2 ^ w:Nat):Int)):wsum (loInd w v) nodes ≤ wsum (hiInd w v) nodes + w * thr count k:=by
 have h1:wsum (loInd w v) nodes ≤ wsum (fun x=>hiInd w v x + ancs w v w x) nodes:=wsum_le fun p hp=>by
   obtain ⟨⟨x,hx,hX⟩,h1,_⟩:=D.node p hp
   rw [hx]
   exact ⟨by omega,ind_anc hX hv.1⟩
 rw [wsum_plus] at h1
 have th0:=(thr_le ⟨D.c0,D.c1⟩ D.k1).2.1
 have hcn:∀ s,1 ≤ s → cn nodes (anc w v s) ≤ thr count k:=fun s hs=>by
   by_cases hk:anc w v s ∈ zBu nodes
   · refine D.inv.inner _ hk ?_
     have:(2 ^ w + v.toNat) / 2 ^ s < 2 ^ w:=by
       rw [Nat.div_lt_iff_lt_mul (Nat.two_pow_pos _)]
       have:2 ^ w * 2 ≤ 2 ^ w * 2 ^ s:=Nat.mul_le_mul_left _ (by
         calc 2 = 2 ^ 1:=rfl
           _ ≤ 2 ^ s:=Nat.pow_le_pow_right (by decide) hs)
       omega
     unfold anc;omega
   · rw [show cn nodes (anc w v s) = 0 from get_out 0 hk];exact th0
 have h2:∀ n:Nat,wsum (ancs w v n) nodes ≤ n * thr count k:=by
   intro n
   induction n with
   | zero=>rw [show ancs w v 0 = fun _=>0 from rfl,wsum_zero];simp
   | succ n ih =>
     rw [show ancs w v (n + 1) = fun x=>ancs w v n x + (if x = anc w v (n + 1) then 1 else 0) from rfl,wsum_plus,wsum_at _ D.inv.nod]
     have:=hcn (n + 1) (by omega)
     have e:((n + 1:Nat):Int) * thr count k = n * thr count k + thr count k:=by push_cast;rw [Int.add_mul,Int.one_mul]
     omega
 have:=h2 w
 omega
structure Tru (w:Nat) (k:Int) (nodes:List Nd) (all:List Int):Prop where
 dig:Dig w k all.length nodes
 lo:∀ v,wsum (hiInd w v) nodes ≤ rnk all v
 hi:∀ v,rnk all v ≤ wsum (loInd w v) nodes
theorem leaf_ind {w:Nat} {v x:Int} (hw:1 ≤ w ∧ w ≤ 20) (hx:0 ≤ x ∧ x < ((2 ^ w:Nat):Int)):hiInd w v (((2 ^ w:Nat):Int) + x) = (if x ≤ v then 1 else 0) ∧ loInd w v (((2 ^ w:Nat):Int) + x) = (if x ≤ v then 1 else 0):=by
 have hp:2 ^ (w + 1) = 2 * 2 ^ w:=by rw [Nat.pow_succ];omega
 have e:(((2 ^ w:Nat):Int) + x).toNat = 2 ^ w + x.toNat:=by omega
 have hb:blen (2 ^ w + x.toNat) = w + 1:=blen_of (by omega) (by omega)
 have hs:sh w (2 ^ w + x.toNat) = 0:=by unfold sh;omega
 unfold hiInd loInd HI LO
 rw [e,hs]
 simp only [Nat.pow_zero,Nat.mul_one]
 constructor
 · split <;> split <;> omega
 · split <;> split <;> omega
theorem Tru.add {w:Nat} {k x:Int} {nodes:List Nd} {all:List Int} (T:Tru w k nodes all) (hx:0 ≤ x ∧ x < ((2 ^ w:Nat):Int)) (hl:all.length < 1000):Tru w k (ins nodes (((2 ^ w:Nat):Int) + x) 1) (all ++ [x]) ∧ (ins nodes (((2 ^ w:Nat):Int) + x) 1).length ≤ 2000:=by
 have D:=T.dig
 have h1:(nodes.length:Int) ≤ all.length:=by
   have:=D.inv.sum
   have h:wsum (fun _=>1) nodes = all.length:=this
   rw [← h]
   have:∀ M:KV Int,(∀ p ∈ M,1 ≤ p.2) → (M.length:Int) ≤ wsum (fun _=>1) M:=by
     intro M
     induction M with
     | nil=>intro _;simp [wsum]
     | cons p M ih =>
       intro H
       have:=ih fun q hq=>H q (by simp [hq])
       have:=H p (by simp)
       rw [zBA,List.length_cons];push_cast;omega
   exact this nodes fun p hp=>(D.node p hp).2.1
 have h2:=len_ins (id:=((2 ^ w:Nat):Int) + x) (n:=1) (l:=nodes)
 have e:(((all ++ [x]).length:Nat):Int) = all.length + 1:=by simp
 refine ⟨⟨?_,fun v=>?_,fun v=>?_⟩,by omega⟩
 · rw [e];exact D.add hx (by omega) (by omega) (by omega)
 · rw [wsum_ins,rnk_add,(leaf_ind ⟨D.w1,D.w2⟩ hx).1]
   have:=T.lo v;omega
 · rw [wsum_ins,rnk_add,(leaf_ind ⟨D.w1,D.w2⟩ hx).2]
   have:=T.hi v;omega
theorem Dig.rankT {w:Nat} {k count v:Int} {nodes:List Nd} (D:Dig w k count nodes) (hv:0 ≤ v ∧ v < ((2 ^ w:Nat):Int)):Q.rankT (w:Int) k count nodes v = (wsum (hiInd w v) nodes,wsum (loInd w v) nodes,0):=by
 unfold Q.rankT
 rw [if_neg (by rw [D.check];simp),← ishl_shl,ishl_1 w D.w2,if_neg (by omega),Int.toNat_natCast,fold_rk];simp
end Go.Q
namespace Go.Q
open Go Go.T Go.Pl Go.Proofs Go.Proofs.Qd
variable [Go.Ab.DM]
theorem ins_found {id n:Int}:∀ {l:List Nd} (h:lb l id < l.length),l[lb l id].1 = id → ins l id n = l.take (lb l id) ++ (id,l[lb l id].2 + n) :: l.drop (lb l id + 1)
 | p :: l,h,e=>by
   rw [ins]
   by_cases g:p.1 < id
   · simp only [lb_cons_lt g] at h e ⊢
     rw [List.length_cons] at h
     have:=ins_found (id:=id) (n:=n) (l:=l) (by omega) (by simpa using e)
     rw [if_pos g,this];simp
   · simp only [lb_cons_ge g] at h e ⊢
     rw [List.getElem_cons_zero] at e
     rw [if_neg g,if_pos e];simp
theorem ins_other {id n:Int}:∀ {l:List Nd},(∀ h:lb l id < l.length,l[lb l id].1 ≠ id) → ins l id n = l.take (lb l id) ++ (id,n) :: l.drop (lb l id)
 | [],_=>rfl
 | p :: l,e=>by
   rw [ins]
   by_cases g:p.1 < id
   · simp only [lb_cons_lt g] at e ⊢
     have:=ins_other (n:=n) (l:=l) (fun h=>by simpa using e (by simp;omega))
     rw [if_pos g,this];simp
   · simp only [lb_cons_ge g] at e ⊢
     have e:=e (by simp)
     rw [List.getElem_cons_zero] at e
     rw [if_neg g,if_neg e];simp
theorem F45_eq {l:List Nd} {id n:Int} (hl:l.length ≤ 1000000) (h:∀ p ∈ l,0 ≤ p.2 ∧ p.2 ≤ 4398046511104) (hn:0 ≤ n ∧ n ≤ 4398046511104):F45 (l,id,n) = some (ins l id n):=by
 unfold F45
 refine Eq.trans (join_of _ (iter_for l (fun (_:Nat) i=>i) (fun (s:Nat) (a:Nd)=>if a.1 < id then .inl (s + 1) else .inr (.inl (s:Int))) (fun s=>(.inl (s:Int):Int ⊕ List Nd)) (fun i s=>s = i) 0 rfl ?_ ?_)) ?_
 · rintro i st hi rfl
   have hlt:(st:Int) < l.length:=by omega
   have hin:inL (st:Int) l.length = true:=zCa hi
   have hg:zAq (0,0) l st = l[st]:=lget_t hi
   simp only [n2i_c,zCs,i2n_c,hg,hin,zCb,pick_and,hlt,decide_true,Bool.true_and,zBm]
   rw [zAL (zCh fun _=>rfl),zAl (by omega) (by omega)]
   generalize l[st] = a
   by_cases c:a.1 < id
   · rw [if_pos c,if_pos c]
     exact ⟨rfl,fun st' h=>by have:=Sum.inl.inj h;omega⟩
   · rw [if_neg c,if_neg c]
     exact ⟨rfl,fun st' h=>by cases h⟩
 · rintro st rfl
   simp only [n2i_c,zCs,zCb,pick_and]
   rw [zAL (zCh fun h=>by simp at h),zDc (by simp)]
 · have key:∀ (l:List Nd) (s:Nat),foldE (fun (s:Nat) (a:Nd)=>if a.1 < id then .inl (s + 1) else .inr (.inl (s:Int))) (fun s=>(.inl (s:Int):Int ⊕ List Nd)) l s = .inl ((s + lb l id:Nat):Int):=by
     intro l
     induction l with
     | nil=>intro s;rfl
     | cons a l ih =>
       intro s
       rw [foldE]
       by_cases g:a.1 < id
       · rw [if_pos g,lb_cons_lt g]
         dsimp only
         rw [ih];congr 2;omega
       · rw [if_neg g,lb_cons_ge g];rfl
   rw [key]
   have hlb:=lb_le l id
   simp only [Nat.zero_add,Sum.elim_inl,n2i_c,zCs]
   have e0:i2n 0 = 0:=rfl
   have el:lsub l 0 (nsub (lb l id) 0) = l.take (lb l id):=by simp [lsub,nsub]
   simp only [i2n_c,e0,el]
   have hlt:(l.take (lb l id)).length = lb l id:=by simp;omega
   rw [zAL (by simp [inS];omega),zAL (by simp [room,zDN,hlt];omega),zAL (zCh fun h=>by rw [zCb] at h;exact zCa (by simpa using h))]
   simp only [zCb,ieq_d,pick_and]
   have hnil:∀ x:List Nd,zDQ ([]:List Nd) x = x:=fun x=>rfl
   have hdr:∀ j,j ≤ l.length → lsub l j (nsub l.length j) = l.drop j:=fun j hj=>by
     simp only [lsub,nsub]
     rw [List.take_of_length_le (by simp)]
   by_cases c:lb l id < l.length
   · have hg:zAq (0,0) l (lb l id) = l[lb l id]:=lget_t c
     simp only [hg]
     have hp:=h l[lb l id] (List.getElem_mem c)
     by_cases e:l[lb l id].1 = id
     · rw [sel_t (by simp [c,e]),zAL (zCa c),zAl (a:=l[lb l id].2) (by omega) (by omega),zAl (by omega) (by omega)]
       have ej:i2n ((lb l id:Int) + 1) = lb l id + 1:=rfl
       rw [zAL (by simp [room,zDN,hlt,hnil];omega),zAL (by simp [inS];omega),ej,hdr _ (by omega),zAL (by simp [room,zDN,hnil,zDQ];omega),ins_found c e]
       simp [zDQ]
     · rw [zDc (by simp [e]),zAL (by simp [room,zDN,hlt,hnil];omega),zAL (by simp [inS];omega),hdr _ hlb,zAL (by simp [room,zDN,hnil,zDQ];omega),ins_other (fun _=>e)]
       simp [zDQ]
   · rw [zDc (by simp;intro h;omega),zAL (by simp [room,zDN,hlt,hnil];omega),zAL (by simp [inS];omega),hdr _ hlb,zAL (by simp [room,zDN,hnil,zDQ];omega),ins_other (fun h=>absurd h c)]
     simp [zDQ]
section
variable {w:Nat} {k count:Int} {nodes nd0 l M:List Nd}
theorem perm_get {M M':KV Int} (h1:(zBu M).Nodup) (h2:(zBu M').Nodup) (hk:∀ j,j ∈ zBu M ↔ j ∈ zBu M') (hc:∀ j,cn M j = cn M' j):M.Perm M':=by
 have nd:∀ {M:KV Int},(zBu M).Nodup → M.Nodup:=fun {M} h=>by
   unfold zBu at h
   rw [List.Nodup,List.pairwise_map] at h
   exact h.imp fun hab e=>hab (by rw [e])
 rw [List.perm_ext_iff_of_nodup (nd h1) (nd h2)]
 rintro ⟨j,c⟩
 rw [mem_get 0 h1,mem_get 0 h2,hk j]
 have:=hc j
 unfold cn at this
 rw [this]
end
end Go.Q
namespace Go.Q
open Go Go.T Go.Pl Go.Proofs Go.Proofs.Qd
variable [Go.Ab.DM]
def mg:List Nd → List Nd → List Nd
 | [],b=>b
 | p :: a,[]=>p :: a
 | p :: a,q :: b=>if p.1 < q.1 then p :: mg a (q :: b) else if q.1 < p.1 then q :: mg (p :: a) b else (p.1,p.2 + q.2) :: mg a b
termination_by a b=>a.length + b.length
theorem mg_nil:∀ a,mg a [] = a
 | []=>by rw [mg]
 | p :: a=>by rw [mg]
theorem mg_lt {p q:Nd} {a b:List Nd} (h:p.1 < q.1):mg (p :: a) (q :: b) = p :: mg a (q :: b):=by rw [mg,if_pos h]
theorem mg_gt {p q:Nd} {a b:List Nd} (h:q.1 < p.1):mg (p :: a) (q :: b) = q :: mg (p :: a) b:=by rw [mg,if_neg (by omega),if_pos h]
theorem mg_eq {p q:Nd} {a b:List Nd} (h1:¬ p.1 < q.1) (h2:¬ q.1 < p.1):mg (p :: a) (q :: b) = (p.1,p.2 + q.2) :: mg a b:=by rw [mg,if_neg h1,if_neg h2]
theorem mg_len (a b:List Nd):(mg a b).length ≤ a.length + b.length:=by
 fun_induction mg a b with
 | case1 b=>simp
 | case2 p a=>simp
 | case3 p a q b h ih=>simp only [List.length_cons] at *;omega
 | case4 p a q b h1 h2 ih=>simp only [List.length_cons] at *;omega
 | case5 p a q b h1 h2 ih=>simp only [List.length_cons] at *;omega
theorem mg_keys (a b:List Nd) (j:Int):j ∈ zBu (mg a b) ↔ j ∈ zBu a ∨ j ∈ zBu b:=by
 fun_induction mg a b with
 | case1 b=>simp [zBu]
 | case2 p a=>simp [zBu]
 | case3 p a q b h ih=>rw [zAu,List.mem_cons,ih,zAu p a,List.mem_cons,or_assoc]
 | case4 p a q b h1 h2 ih =>
   rw [zAu,List.mem_cons,ih,zAu q b,List.mem_cons]
   exact ⟨fun h=>by rcases h with h | h | h <;> simp [h],fun h=>by rcases h with h | h | h <;> simp [h]⟩
 | case5 p a q b h1 h2 ih =>
   have e:q.1 = p.1:=by omega
   rw [zAu,List.mem_cons,ih,zAu p a,zAu q b,List.mem_cons,List.mem_cons,e]
   exact ⟨fun h=>by rcases h with h | h | h <;> simp [h],fun h=>by rcases h with (h | h) | h | h <;> simp [h]⟩
theorem mg_mem {a b:List Nd} {m:Nd} (h:m ∈ mg a b):m.1 ∈ zBu a ∨ m.1 ∈ zBu b:=(mg_keys a b m.1).1 (List.mem_map_of_mem h)
theorem asc_gt {p:Nd} {l:List Nd} (h:Asc (p :: l)) {j:Int} (hj:j ∈ zBu l):p.1 < j:=by
 obtain ⟨m,hm,rfl⟩:=List.mem_map.1 hj
 exact (List.pairwise_cons.1 h).1 m hm
theorem mg_asc (a b:List Nd):Asc a → Asc b → Asc (mg a b):=by
 fun_induction mg a b with
 | case1 b=>exact fun _ h=>h
 | case2 p a=>exact fun h _=>h
 | case3 p a q b h ih =>
   intro ha hb
   refine List.pairwise_cons.2 ⟨fun m hm=>?_,ih (List.pairwise_cons.1 ha).2 hb⟩
   rcases mg_mem hm with g | g
   · exact asc_gt ha g
   · rw [zAu,List.mem_cons] at g
     rcases g with g | g
     · omega
     · have:=asc_gt hb g;omega
 | case4 p a q b h1 h2 ih =>
   intro ha hb
   refine List.pairwise_cons.2 ⟨fun m hm=>?_,ih ha (List.pairwise_cons.1 hb).2⟩
   rcases mg_mem hm with g | g
   · rw [zAu,List.mem_cons] at g
     rcases g with g | g
     · omega
     · have:=asc_gt ha g;omega
   · exact asc_gt hb g
 | case5 p a q b h1 h2 ih =>
   intro ha hb
   refine List.pairwise_cons.2 ⟨fun m hm=>?_,ih (List.pairwise_cons.1 ha).2 (List.pairwise_cons.1 hb).2⟩
   rcases mg_mem hm with g | g
   · exact asc_gt ha g
   · have:=asc_gt hb g;dsimp only;omega
theorem mg_cn (j:Int) (a b:List Nd):Asc a → Asc b → cn (mg a b) j = cn a j + cn b j:=by
 fun_induction mg a b with
 | case1 b=>intro _ _;unfold cn;rw [get_nil];omega
 | case2 p a=>intro _ _;unfold cn;rw [get_nil];omega
 | case3 p a q b h ih =>
   intro ha hb
   have ih:=ih (List.pairwise_cons.1 ha).2 hb
   obtain ⟨i,c⟩:=p
   unfold cn at *
   by_cases e:j = i
   · subst e
     have:j ∉ zBu (q :: b):=fun hm=>by
       rw [zAu,List.mem_cons] at hm
       rcases hm with g | g
       · dsimp only at h;omega
       · have:=asc_gt hb g;dsimp only at h;omega
     rw [zCi,zCi,get_out 0 this];omega
   · rw [zCF 0 e,ih,zCF 0 e]
 | case4 p a q b h1 h2 ih =>
   intro ha hb
   have ih:=ih ha (List.pairwise_cons.1 hb).2
   obtain ⟨i,c⟩:=q
   unfold cn at *
   by_cases e:j = i
   · subst e
     have:j ∉ zBu (p :: a):=fun hm=>by
       rw [zAu,List.mem_cons] at hm
       rcases hm with g | g
       · dsimp only at h2;omega
       · have:=asc_gt ha g;dsimp only at h2;omega
     rw [zCi,zCi,get_out 0 this];omega
   · rw [zCF 0 e,ih,zCF 0 (M:=b) e]
 | case5 p a q b h1 h2 ih =>
   intro ha hb
   have ih:=ih (List.pairwise_cons.1 ha).2 (List.pairwise_cons.1 hb).2
   obtain ⟨i,c⟩:=p
   obtain ⟨i',c'⟩:=q
   dsimp only at h1 h2
   have ei:i' = i:=by omega
   subst ei
   unfold cn at *
   by_cases e:j = i'
   · subst e;rw [zCi,zCi,zCi]
   · rw [zCF 0 e,ih,zCF 0 e,zCF 0 e]
theorem asc_ext {a b:List Nd} (ha:Asc a) (hb:Asc b) (hk:∀ j,j ∈ zBu a ↔ j ∈ zBu b) (hc:∀ j,cn a j = cn b j):a = b :=
 asc_unique ha hb (perm_get (asc_nodup ha) (asc_nodup hb) hk hc)
theorem drop_at {l:List Nd} {i:Nat} (h:i < l.length):l.drop i = l[i] :: l.drop (i + 1):=List.drop_eq_getElem_cons h
theorem ex_some {α:Type} {o:Option α} {r:α} (h:∃ y,o = some y ∧ y = r):o = some r:=by
 obtain ⟨y,h1,h2⟩:=h
 exact h2 ▸ h1
theorem F29_ok {w:Nat} {k ca cb:Int} {a b:List Nd} (A:Dig w k ca a) (B:Dig w k cb b) (hc:ca + cb ≤ 1099511627776):F29 (((w:Int),k,ca,a),((w:Int),k,cb,b)) = some (if 2000 < (mg a b).length then ((0,0,0,[]),4) else (((w:Int),k,ca + cb,mg a b),0)):=by
 have a0:=A.c0;have b0:=B.c0;have a1:=A.c1;have b1:=B.c1;have la:=A.len;have lb:=B.len
 have ml:=mg_len a b
 have qa:=F20_eq (w:Int) k ca a
 have qb:=F20_eq (w:Int) k cb b
 rw [A.check] at qa;rw [B.check] at qb
 have hA:∀ p ∈ a,1 ≤ p.2 ∧ p.2 ≤ 1099511627776:=fun p hp=>by have:=(A.node p hp).2;omega
 have hB:∀ p ∈ b,1 ≤ p.2 ∧ p.2 ≤ 1099511627776:=fun p hp=>by have:=(B.node p hp).2;omega
 unfold F29
 dsimp only
 rw [zAe qa,sel_t (show zDa (ine 0 0) = true from rfl),zAe qb,zDc (show zAJ (ine 0 0) true (ine 0 0) = false from rfl),zCY,ine_d,ine_d,zDc (by simp),isub_s (by omega) (by omega),zCb,zDc (by simp;omega)]
 simp only [n2i_c,zCs]
 rw [zAl (a:=(a.length:Int)) (by omega) (by omega),zAL (by simp [Go.T.mk];omega)]
 refine ex_some ?_
 refine join_wf (fun s=>∃ (i j:Nat) (acc:List Nd),s = ((i:Int),(j:Int),acc) ∧ i ≤ a.length ∧ j ≤ b.length ∧ acc ++ mg (a.drop i) (b.drop j) = mg a b ∧ acc.length ≤ i + j) (fun s=>(a.length + b.length - s.1 - s.2.1).toNat) (fun e=>e = .inl (mg a b)) ⟨0,0,[],rfl,by omega,by omega,rfl,by simp⟩ ?_ ?_
 · rintro _ ⟨i,j,acc,rfl,hi,hj,hm,hacc⟩
   dsimp only
   simp only [zCY,pick_and,zCb,ieq_d,bnot_d,band_d]
   by_cases h0:i < a.length ∨ j < b.length
   · left
     rw [sel_t (by simp;omega)]
     have ix:∀ {l:List Nd} {n:Nat},n < l.length → inL (n:Int) l.length = true ∧ zAq (0,0) l (i2n (n:Int)) = l[n]!:=fun {l} {n} h=>⟨zCa h,by rw [i2n_c,lget_t h,getElem!_pos l n h]⟩
     by_cases hi':i < a.length
     · obtain ⟨ia,ga⟩:=ix hi'
       have hai:a[i]! = a[i]:=getElem!_pos a i hi'
       have pa:=hA a[i] (List.getElem_mem hi')
       by_cases hj':j < b.length
       · obtain ⟨ib,gb⟩:=ix hj'
         have hbj:b[j]! = b[j]:=getElem!_pos b j hj'
         have pb:=hB b[j] (List.getElem_mem hj')
         simp only [ia,ib,ga,gb,hai,hbj]
         rw [drop_at hi',drop_at hj'] at hm
         rw [zAL (zCh fun _=>rfl),zAL (zCh fun _=>rfl)]
         by_cases c1:a[i].1 < b[j].1
         · rw [mg_lt c1,← drop_at hj'] at hm
           rw [sel_t (by simp [c1];omega),zAL rfl,zAL (by simp [room,zDN,zAW];omega),zAl (by omega) (by omega)]
           exact ⟨_,rfl,⟨i + 1,j,acc ++ [a[i]],rfl,by omega,hj,by rw [List.append_assoc];exact hm,by simp;omega⟩,by dsimp only;omega⟩
         · rw [zDc (by simp [c1];omega),zAL (zCh fun _=>rfl),zAL (zCh fun _=>rfl)]
           by_cases c2:b[j].1 < a[i].1
           · rw [mg_gt c2,← drop_at hi'] at hm
             rw [sel_t (by simp [c2]),zAL rfl,zAL (by simp [room,zDN,zAW];omega),zAl (by omega) (by omega)]
             exact ⟨_,rfl,⟨i,j + 1,acc ++ [b[j]],rfl,hi,by omega,by rw [List.append_assoc];exact hm,by simp;omega⟩,by dsimp only;omega⟩
           · rw [mg_eq c1 c2] at hm
             rw [zDc (by simp [c2];omega),zAL rfl,zAL rfl,zAL rfl,zAl (a:=a[i].2) (by omega) (by omega),zAL (by simp [room,zDN,zAW];omega),zAl (a:=(i:Int)) (by omega) (by omega),zAl (a:=(j:Int)) (by omega) (by omega)]
             exact ⟨_,rfl,⟨i + 1,j + 1,acc ++ [(a[i].1,a[i].2 + b[j].2)],rfl,by omega,by omega,by rw [List.append_assoc];exact hm,by simp;omega⟩,by dsimp only;omega⟩
       · have ej:j = b.length:=by omega
         subst ej
         simp only [ia,ga,hai]
         rw [drop_at hi',List.drop_length,mg_nil] at hm
         rw [zAL (zCh fun h=>by simp at h),zAL (zCh fun h=>by simp at h),sel_t (by simp),zAL rfl,zAL (by simp [room,zDN,zAW];omega),zAl (by omega) (by omega)]
         exact ⟨_,rfl,⟨i + 1,b.length,acc ++ [a[i]],rfl,by omega,hj,by rw [List.append_assoc,List.drop_length,mg_nil];exact hm,by simp;omega⟩,by dsimp only;omega⟩
     · have ei:i = a.length:=by omega
       subst ei
       have hj':j < b.length:=by omega
       obtain ⟨ib,gb⟩:=ix hj'
       have hbj:b[j]! = b[j]:=getElem!_pos b j hj'
       simp only [ib,gb,hbj]
       rw [List.drop_length,drop_at hj',mg] at hm
       rw [zAL (zCh fun h=>by simp at h),zAL (zCh fun h=>by simp at h),zDc (by simp;omega),zAL (zCh fun h=>by simp at h),zAL (zCh fun h=>by simp at h),sel_t (by simp),zAL rfl,zAL (by simp [room,zDN,zAW];omega),zAl (by omega) (by omega)]
       exact ⟨_,rfl,⟨a.length,j + 1,acc ++ [b[j]],rfl,hi,by omega,by rw [List.append_assoc,List.drop_length,mg];exact hm,by simp;omega⟩,by dsimp only;omega⟩
   · right
     rw [zDc (by simp;omega)]
     have ei:i = a.length:=by omega
     have ej:j = b.length:=by omega
     subst ei;subst ej
     rw [List.drop_length,List.drop_length,mg,List.append_nil] at hm
     subst hm
     exact ⟨_,rfl,rfl⟩
 · rintro _ rfl
   rw [Sum.elim_inl,zCb,zBm]
   by_cases g:2000 < (mg a b).length
   · rw [if_pos (by omega),if_pos g];exact ⟨_,rfl,rfl⟩
   · rw [if_neg (by omega),if_neg g,zAl (by omega) (by omega)];exact ⟨_,rfl,rfl⟩
end Go.Q
namespace Go.Q
open Go Go.T Go.Pl Go.Proofs
theorem zDe {x:Int} (h:0 ≤ x ∧ x < 18446744073709551616):IntKind.u64.wrap x = x:=by
 simp only [IntKind.wrap,IntKind.signed,IntKind.bits];simp;omega
theorem wrap_u8 {x:Int} (h:0 ≤ x ∧ x < 256):IntKind.u8.wrap x = x:=by
 simp only [IntKind.wrap,IntKind.signed,IntKind.bits];simp;omega
theorem iand_127 {x:Int} (h:0 ≤ x ∧ x < 18446744073709551616):iand .u64 x 127 = x % 128:=by
 obtain ⟨n,rfl⟩:∃ n:Nat,x = n:=⟨x.toNat,by omega⟩
 have e:(BitVec.ofInt 64 (n:Int) &&& BitVec.ofInt 64 127).toNat = n % 128:=by
   rw [BitVec.toNat_and]
   have h1:(BitVec.ofInt 64 (n:Int)).toNat = n:=by rw [BitVec.ofInt_natCast,BitVec.toNat_ofNat];omega
   have h2:(BitVec.ofInt 64 127).toNat = 127:=rfl
   rw [h1,h2];exact Nat.and_two_pow_sub_one_eq_mod n 7
 show IntKind.u64.wrap ((BitVec.ofInt 64 (n:Int) &&& BitVec.ofInt 64 127).toNat:Int) = _
 rw [e,zDe (by omega)];omega
theorem ior_128 {m:Int} (h:0 ≤ m ∧ m < 128):ior .u8 m 128 = m + 128:=by
 obtain ⟨n,rfl⟩:∃ n:Nat,m = n:=⟨m.toNat,by omega⟩
 have e:(BitVec.ofInt 8 (n:Int) ||| BitVec.ofInt 8 128).toNat = n + 128:=by
   rw [BitVec.toNat_or]
   have h1:(BitVec.ofInt 8 (n:Int)).toNat = n:=by rw [BitVec.ofInt_natCast,BitVec.toNat_ofNat];omega
   have h2:(BitVec.ofInt 8 128).toNat = 128:=rfl
   rw [h1,h2]
   have h3:=Nat.two_pow_add_eq_or_of_lt (b:=n) (i:=7) (by omega) 1
   have h3:128 + n = 128 ||| n:=h3
   rw [Nat.or_comm,← h3];omega
 show IntKind.u8.wrap ((BitVec.ofInt 8 (n:Int) ||| BitVec.ofInt 8 128).toNat:Int) = _
 rw [e,wrap_u8 (by omega)];omega
theorem ishr_7 {x:Int} (h:0 ≤ x):ishr .u64 x 7 = x / 128:=by
 show x.fdiv (2 ^ min 7 64) = _
 rw [Int.fdiv_eq_ediv_of_nonneg _ (by decide)];rfl
def vb (n:Nat):List Nat:=if n < 128 then [n] else (n % 128 + 128) :: vb (n / 128)
termination_by n
decreasing_by omega
theorem vb_lt {n:Nat} (h:n < 128):vb n = [n]:=by rw [vb,if_pos h]
theorem vb_ge {n:Nat} (h:¬ n < 128):vb n = (n % 128 + 128) :: vb (n / 128):=by rw [vb,if_neg h]
theorem band_127 {b:Nat} (hb:b < 256):bits .and .u8 (b:Int) 127 = ((b % 128:Nat):Int):=by
 have e:(BitVec.ofInt 8 (b:Int) &&& BitVec.ofInt 8 127).toNat = b % 128:=by
   rw [BitVec.toNat_and]
   have h1:(BitVec.ofInt 8 (b:Int)).toNat = b:=by rw [BitVec.ofInt_natCast,BitVec.toNat_ofNat];omega
   have h2:(BitVec.ofInt 8 127).toNat = 127:=rfl
   rw [h1,h2];exact Nat.and_two_pow_sub_one_eq_mod b 7
 show IntKind.u8.wrap ((BitVec.ofInt 8 (b:Int) &&& BitVec.ofInt 8 127).toNat:Int) = _
 rw [e,wrap_u8 (by omega)]
theorem new_add {v i b:Nat} (hi:i < 9) (hv:v < 2 ^ (7 * i)) (hb:b < 256):Rd.new (v:Int) i (b:Int) = ((v + b % 128 * 2 ^ (7 * i):Nat):Int):=by
 unfold Rd.new
 have hp:2 ^ (7 * i) ≤ 2 ^ 56:=Nat.pow_le_pow_right (by decide) (by omega)
 have hm:b % 128 < 128:=Nat.mod_lt _ (by decide)
 have hx:b % 128 * 2 ^ (7 * i) < 2 ^ 63:=Nat.lt_of_lt_of_le (Nat.mul_lt_mul_of_lt_of_le hm hp (by decide)) (by decide)
 have e1:(7 * (i:Int)).toNat = 7 * i:=by omega
 have e2:((b % 128:Nat):Int) * 2 ^ (7 * i) = ((b % 128 * 2 ^ (7 * i):Nat):Int):=by push_cast;rfl
 rw [band_127 hb,zDe (x:=((b % 128:Nat):Int)) (by omega),e1,e2,zDe (by omega)]
 have e3:(BitVec.ofInt 64 (v:Int) ||| BitVec.ofInt 64 ((b % 128 * 2 ^ (7 * i):Nat):Int)).toNat = v + b % 128 * 2 ^ (7 * i):=by
   rw [BitVec.toNat_or]
   have h1:(BitVec.ofInt 64 (v:Int)).toNat = v:=by rw [BitVec.ofInt_natCast,BitVec.toNat_ofNat];exact Nat.mod_eq_of_lt (by omega)
   have h2:(BitVec.ofInt 64 ((b % 128 * 2 ^ (7 * i):Nat):Int)).toNat = b % 128 * 2 ^ (7 * i):=by rw [BitVec.ofInt_natCast,BitVec.toNat_ofNat];exact Nat.mod_eq_of_lt (by omega)
   rw [h1,h2,Nat.or_comm,Nat.mul_comm,← Nat.two_pow_add_eq_or_of_lt hv];omega
 show IntKind.u64.wrap ((BitVec.ofInt 64 (v:Int) ||| BitVec.ofInt 64 ((b % 128 * 2 ^ (7 * i):Nat):Int)).toNat:Int) = _
 rw [e3,zDe (by omega)]
open Go Go.T Go.Pl Go.Proofs Go.Proofs.Qd
variable [Go.Ab.DM]
def vbI (n:Nat):List Int:=(vb n).map fun k:Nat=>(k:Int)
theorem vbI_lt {n:Nat} (h:n < 128):vbI n = [(n:Int)]:=by unfold vbI;rw [vb_lt h];rfl
theorem vbI_ge {n:Nat} (h:¬ n < 128):vbI n = ((n % 128 + 128:Nat):Int) :: vbI (n / 128):=by unfold vbI;rw [vb_ge h];rfl
theorem put_loop {R:Type} {body:Int × List Int → Option ((Int × List Int) ⊕ ((Int × List Int) ⊕ R))} (h1:∀ n acc,¬ n < 128 → n < 18446744073709551616 → acc.length ≤ 1000000 → body ((n:Nat),acc) = some (.inl (((n / 128:Nat):Int),acc ++ [((n % 128 + 128:Nat):Int)])))
   (h2:∀ n acc,n < 128 → body ((n:Nat),acc) = some (.inr (.inl ((n:Nat),acc)))):∀ (n:Nat) (acc:List Int),n < 18446744073709551616 → acc.length + (vbI n).length ≤ 1000000 →
     ∃ (m:Nat) (acc':List Int),iter body ((n:Int),acc) = some (.inl ((m:Int),acc')) ∧ m < 128 ∧ acc' ++ [(m:Int)] = acc ++ vbI n:=by
 intro n
 induction n using Nat.strongRecOn with
 | _ n ih =>
   intro acc hn hl
   by_cases h:n < 128
   · exact ⟨n,acc,iter_r (h2 n acc h),h,by rw [vbI_lt h]⟩
   · rw [vbI_ge h] at hl
     simp only [List.length_cons] at hl
     obtain ⟨m,acc',g1,g2,g3⟩:=ih (n / 128) (by omega) (acc ++ [((n % 128 + 128:Nat):Int)]) (by omega) (by simp;omega)
     exact ⟨m,acc',iter_l (h1 n acc h hn (by omega)) g1,g2,by rw [g3,vbI_ge h];simp⟩
theorem F86_eq {n:Nat} {acc:List Int} (hn:n < 18446744073709551616) (hl:acc.length + (vbI n).length ≤ 1000000):F86 ((n:Int),acc) = some (acc ++ vbI n):=by
 unfold F86
 dsimp only
 obtain ⟨m,acc',g1,g2,g3⟩:=put_loop (body:=fun (s0:(Int × (List Int)))=>sel (ile 128 s0.1) (need (room (zDN (zAW s0.2) (zAW (ior .u8 (zAR .u8 (iand .u64 s0.1 127)) 128 :: ([]:List Int)))) 1) <|
   need (ile 0 7) <|
   some (.inl (ishr .u64 s0.1 7,zDQ s0.2 (ior .u8 (zAR .u8 (iand .u64 s0.1 127)) 128 :: ([]:List Int))))) <|
   some (.inr (.inl (s0.1,s0.2)))) (fun n acc h hn ha=>by
     dsimp only
     rw [iand_127 (by omega),show zAR .u8 ((n:Int) % 128) = (n:Int) % 128 from wrap_u8 (by omega),ior_128 (by omega),ishr_7 (by omega),sel_t (by rw [ile_d];exact decide_eq_true (by omega)),zAL (by simp [room,zDN,zAW];omega),zAL (show ile 0 7 = true from rfl)]
     rfl) (fun n acc h=>by
     dsimp only
     rw [zDc (by rw [ile_d];exact decide_eq_false (by omega))]) n acc hn hl
 rw [join_l g1]
 dsimp only
 have hlen:acc'.length + 1 = acc.length + (vbI n).length:=by have:=congrArg List.length g3;simpa using this
 rw [zAL (by simp [room,zDN,zAW];omega),show zAR .u8 (m:Int) = (m:Int) from wrap_u8 (by omega)]
 exact congrArg some g3
theorem F86n_eq {n:Nat} (hn:n < 18446744073709551616) (hl:(vbI n).length ≤ 1000000):F86n (n:Int) = some (vbI n):=F86_eq (acc:=[]) hn (by simpa using hl)
theorem F93_eq {n:Nat} (hn:n < 9223372036854775808) (hl:(vbI n).length ≤ 1000000):F93 (n:Int) = some (sofb (vbI n)):=by
 unfold F93
 obtain ⟨m,acc',g1,g2,g3⟩:=put_loop (body:=fun (s0:(Int × (List Int)))=>sel (ile 128 s0.1) (need (ine 128 0) <|
   need (room (zDN (zAW s0.2) (zAW (zAR .u8 (zAi .i64 (irem s0.1 128) 128) :: ([]:List Int)))) 1) <|
   need (ine 128 0) <|
   some (.inl (iquo .i64 s0.1 128,zDQ s0.2 (zAR .u8 (zAi .i64 (irem s0.1 128) 128) :: ([]:List Int))))) <|
   some (.inr (.inl (s0.1,s0.2)))) (fun n acc h hn ha=>by
     dsimp only
     have e1:irem (n:Int) 128 = (n:Int) % 128:=Int.tmod_eq_emod_of_nonneg (by omega)
     have e2:iquo .i64 (n:Int) 128 = (n:Int) / 128:=by
       have e:(n:Int).tdiv 128 = (n:Int) / 128:=Int.tdiv_eq_ediv_of_nonneg (by omega)
       unfold iquo;rw [e];exact zAf (by omega) (by omega)
     rw [e1,e2,zAl (by omega) (by omega),show zAR .u8 ((n:Int) % 128 + 128) = (n:Int) % 128 + 128 from wrap_u8 (by omega),sel_t (by rw [ile_d];exact decide_eq_true (by omega)),zAL (show ine 128 0 = true from rfl),zAL (by simp [room,zDN,zAW];omega),zAL (show ine 128 0 = true from rfl)]
     rfl) (fun n acc h=>by
     dsimp only
     rw [zDc (by rw [ile_d];exact decide_eq_false (by omega))]) n [] (by omega) (by simpa using hl)
 rw [join_l g1]
 dsimp only
 have hlen:acc'.length + 1 = (vbI n).length:=by have:=congrArg List.length g3;simpa using this
 rw [zAL (by simp [room,zDN,zAW];omega),show zAR .u8 (m:Int) = (m:Int) from wrap_u8 (by omega)]
 show some (sofb (acc' ++ [(m:Int)])) = _
 rw [g3];rfl
end Go.Q
namespace Go.Q
open Go Go.T Go.Pl Go.Proofs Go.Proofs.Qd
def byt (s:ByteArray):List Nat:=s.data.toList.map fun b=>b.toNat
theorem byt_len (s:ByteArray):(byt s).length = s.size:=by unfold byt;rw [List.length_map,Array.length_toList];rfl
theorem byt_lt {s:ByteArray} {b:Nat} (h:b ∈ byt s):b < 256:=by
 obtain ⟨c,_,rfl⟩:=List.mem_map.1 h
 exact UInt8.toNat_lt c
theorem byt_get {s:ByteArray} {k:Nat} (h:k < (byt s).length):(byt s)[k] = (s[k]!).toNat:=by
 have hk:k < s.size:=by rw [← byt_len];exact h
 rw [getElem!_pos s k hk]
 simp only [byt,List.getElem_map,Array.getElem_toList,ByteArray.getElem_eq_getElem_data]
def rd:Nat → Nat → List Nat → Int × (Int × Int)
 | _,_,[]=>(0,0,11)
 | i,v,b :: l=>if (128 ≤ b ∧ i = 8) ∨ (b = 0 ∧ 0 < i) then (0,0,12) else if b < 128 then (((v + b % 128 * 2 ^ (7 * i):Nat):Int),((i + 1:Nat):Int),0) else rd (i + 1) (v + b % 128 * 2 ^ (7 * i)) l
def Rd.out:Int ⊕ (Int × (Int × Int)) → Int × (Int × Int) | .inl _=>(0,0,11) | .inr r=>r
theorem rd_run (s:ByteArray):∀ (d k v:Nat),k + d = min s.size 9 → v < 2 ^ (7 * k) → Rd.out (Rd.run ((List.range' k d).map (Rd.at s)) (v:Int)) = rd k v ((byt s).drop k) ∨ (d = 0 ∧ k = 9)
 | 0,k,v,hk,hv=>by
   by_cases h9:k = 9
   · exact .inr ⟨rfl,h9⟩
   · left
     have:s.size ≤ k:=by omega
     rw [List.drop_eq_nil_of_le (by rw [byt_len];exact this)];rfl
 | d + 1,k,v,hk,hv=>by
   left
   have hks:k < (byt s).length:=by rw [byt_len];omega
   rw [List.drop_eq_getElem_cons hks,List.range'_succ,List.map_cons,Rd.run,rd,byt_get hks]
   have e1:(Rd.at s k).1.1 = k:=by show min k 8 = k;omega
   have e2:(Rd.at s k).1.2 = (s[k]!).toNat:=rfl
   have hb:(s[k]!).toNat < 256:=UInt8.toNat_lt _
   rw [e1,e2]
   split
   · rfl
   rename_i hbad
   have hn:Rd.stp (v:Int) (Rd.at s k) = ((v + (s[k]!).toNat % 128 * 2 ^ (7 * k):Nat):Int):=by
     show Rd.new (v:Int) (Rd.at s k).1.1 ((Rd.at s k).1.2:Int) = _
     rw [e1,e2];exact new_add (by omega) hv hb
   split
   · show (_,_,_) = _
     rw [hn];rfl
   · rename_i hge
     rw [hn]
     have hv':v + (s[k]!).toNat % 128 * 2 ^ (7 * k) < 2 ^ (7 * (k + 1)):=by
       have:2 ^ (7 * (k + 1)) = 128 * 2 ^ (7 * k):=by rw [show 7 * (k + 1) = 7 * k + 7 by omega,Nat.pow_add];omega
       have:(s[k]!).toNat % 128 * 2 ^ (7 * k) ≤ 127 * 2 ^ (7 * k):=Nat.mul_le_mul_right _ (by omega)
       omega
     rcases rd_run s d (k + 1) _ (by omega) hv' with h | ⟨rfl,h9⟩
     · exact h
     · exact absurd (.inl ⟨by omega,by omega⟩) hbad
theorem val_rd (s:ByteArray):Rd.val s = rd 0 0 (byt s):=by
 have e:Rd.val s = Rd.out (Rd.run ((List.range' 0 (min s.size 9)).map (Rd.at s)) ((0:Nat):Int)):=by
   unfold Rd.val Rd.out Rd.upto
   rw [List.range_eq_range'];rfl
 rw [e]
 rcases rd_run s (min s.size 9) 0 0 (by omega) (by decide) with h | ⟨_,h⟩
 · exact h
 · cases h
def lim (r:Int × (Int × Int)):Int × (Int × Int):=if r.2.2 = 0 ∧ 2305843009213693952 < r.1 then (0,0,12) else r
theorem sget_byt {s:ByteArray} {i:Nat} (h:i < (byt s).length):sget s (i:Int) = ((byt s)[i]:Nat):=by
 rw [byt_get h]
 have hk:i < s.size:=by rw [← byt_len];exact h
 have e:s.get! i = s[i]!:=by
   rw [getElem!_pos s i hk,ByteArray.getElem_eq_getElem_data]
   exact getElem!_pos s.data i hk
 show (((s.get! i).toNat:Nat):Int) = _
 rw [e]
theorem ref_loop112 (s:ByteArray) (hs:s.size ≤ 4611686018427387904) {body:Int × Int → Option ((Int × Int) ⊕ (Int × (Int × Int)))}
   (hb:body = fun (s0:(Int × Int))=>sel (ile (n2i (zBr s)) s0.2) (some (.inr (0,0,11))) <|
     need (inL s0.2 (zBr s)) <|
     sel (zAJ (ieq s0.2 8) (ile 128 (zAR .i64 (sget s s0.2))) false) (some (.inr (0,0,12))) <|
     need (ine 128 0) <|
     need (ile 0 (zBx .i64 7 s0.2)) <|
     sel (ile 128 (zAR .i64 (sget s s0.2))) (some (.inl (zAi .i64 s0.1 (zCz .i64 (irem (zAR .i64 (sget s s0.2)) 128) (zBx .i64 7 s0.2)),zAi .i64 s0.2 1))) <|
     sel (zAJ (zAJ (ilt 0 s0.2) (ieq (zAR .i64 (sget s s0.2)) 0) false) true (ilt 2305843009213693952 (zAi .i64 s0.1 (zCz .i64 (irem (zAR .i64 (sget s s0.2)) 128) (zBx .i64 7 s0.2))))) (some (.inr (0,0,12))) <|
     some (.inr (zAi .i64 s0.1 (zCz .i64 (irem (zAR .i64 (sget s s0.2)) 128) (zBx .i64 7 s0.2)),zAi .i64 s0.2 1,0))) :
   ∀ (d i v:Nat),i + d = 8 → v < 2 ^ (7 * i) → iter body ((v:Int),(i:Int)) = some (lim (rd i v ((byt s).drop i))):=by
 have step:∀ (i v:Nat),i ≤ 8 → v < 2 ^ (7 * i) → (8 ≤ i ∨ ∀ v',v' < 2 ^ (7 * (i + 1)) → iter body ((v':Nat),((i + 1:Nat):Int)) = some (lim (rd (i + 1) v' ((byt s).drop (i + 1))))) → iter body ((v:Int),(i:Int)) = some (lim (rd i v ((byt s).drop i))):=by
   intro i v hi hv ih
   by_cases hk:i < (byt s).length
   · have hks:i < s.size:=by rw [← byt_len];exact hk
     have hlt:(byt s)[i] < 256:=byt_lt (List.getElem_mem hk)
     have hg:sget s (i:Int) = ((byt s)[i]:Nat):=sget_byt hk
     rw [List.drop_eq_getElem_cons hk,rd]
     generalize (byt s)[i] = b at hlt hg
     have p56:2 ^ (7 * i) ≤ 2 ^ 56:=Nat.pow_le_pow_right (by decide) (by omega)
     have hm:b % 128 * 2 ^ (7 * i) ≤ 127 * 2 ^ (7 * i):=Nat.mul_le_mul_right _ (by omega)
     have e0:zAR .i64 (b:Int) = b:=zAf (by omega) (by omega)
     have e1:irem (b:Int) 128 = ((b % 128:Nat):Int):=(Int.tmod_eq_emod_of_nonneg (by omega)).trans (by omega)
     have e2:zBx .i64 7 (i:Int) = 7 * (i:Int):=zAf (by omega) (by omega)
     have e3:zCz .i64 ((b % 128:Nat):Int) (7 * (i:Int)) = ((b % 128 * 2 ^ (7 * i):Nat):Int):=by
       show IntKind.i64.wrap (((b % 128:Nat):Int) * 2 ^ min (7 * (i:Int)).toNat 64) = _
       rw [show min (7 * (i:Int)).toNat 64 = 7 * i by omega,show ((b % 128:Nat):Int) * 2 ^ (7 * i) = ((b % 128 * 2 ^ (7 * i):Nat):Int) by push_cast;rfl]
       exact zAf (by omega) (by omega)
     have e4:zAi .i64 (v:Int) ((b % 128 * 2 ^ (7 * i):Nat):Int) = ((v + b % 128 * 2 ^ (7 * i):Nat):Int):=by rw [zAl (by omega) (by omega)];push_cast;rfl
     have e5:zAi .i64 (i:Int) 1 = ((i + 1:Nat):Int):=by rw [zAl (by omega) (by omega)];push_cast;rfl
     have hbody:body ((v:Int),(i:Int)) = if i = 8 ∧ 128 ≤ b then some (.inr (0,0,12)) else if 128 ≤ b then some (.inl (((v + b % 128 * 2 ^ (7 * i):Nat):Int),((i + 1:Nat):Int))) else if (0 < i ∧ b = 0) ∨ 2305843009213693952 < v + b % 128 * 2 ^ (7 * i) then some (.inr (0,0,12)) else some (.inr (((v + b % 128 * 2 ^ (7 * i):Nat):Int),((i + 1:Nat):Int),0)):=by
       rw [hb]
       dsimp only
       rw [hg,e0,e1,e2,e3,e4,e5,zDc (by rw [ile_d];exact decide_eq_false (by simp only [n2i_c,zBr];omega)),zAL (show inL (i:Int) (zBr s) = true from zCa hks)]
       have hA:ine 128 0 = true:=rfl
       have hB:ile 0 (7 * (i:Int)) = true:=by rw [ile_d];exact decide_eq_true (by omega)
       have hN:∀ x:Option ((Int × Int) ⊕ (Int × (Int × Int))),need true x = x:=fun _=>rfl
       rw [hA,hB]
       simp only [hN]
       simp only [pick_and,zCY,ieq_d,ile_d,zCb,← Bool.decide_and,← Bool.decide_or,zBm]
       refine ite_congr (propext ⟨fun h=>⟨by omega,by omega⟩,fun h=>⟨by omega,by omega⟩⟩) (fun _=>rfl) fun _=>ite_congr (propext (by omega)) (fun _=>rfl) fun _=>ite_congr (propext (by omega)) (fun _=>rfl) fun _=>rfl
     by_cases c1:i = 8 ∧ 128 ≤ b
     · rw [if_pos c1] at hbody
       rw [iter_r hbody,if_pos (.inl ⟨c1.2,c1.1⟩)];rfl
     · rw [if_neg c1] at hbody
       by_cases c2:128 ≤ b
       · rw [if_pos c2] at hbody
         rw [if_neg (by omega),if_neg (by omega)]
         refine iter_l hbody ?_
         rcases ih with ih | ih
         · omega
         · refine ih _ ?_
           have:2 ^ (7 * (i + 1)) = 128 * 2 ^ (7 * i):=by rw [show 7 * (i + 1) = 7 * i + 7 by omega,Nat.pow_add];omega
           omega
       · rw [if_neg c2] at hbody
         by_cases c3:b = 0 ∧ 0 < i
         · rw [if_pos (.inl ⟨c3.2,c3.1⟩)] at hbody
           rw [iter_r hbody,if_pos (.inr c3)];rfl
         · rw [if_neg (by omega),if_pos (by omega)]
           by_cases c4:2305843009213693952 < v + b % 128 * 2 ^ (7 * i)
           · rw [if_pos (.inr c4)] at hbody
             rw [iter_r hbody]
             unfold lim
             rw [if_pos ⟨rfl,by dsimp only;omega⟩]
           · rw [if_neg (by omega)] at hbody
             rw [iter_r hbody]
             unfold lim
             rw [if_neg (by dsimp only;omega)]
   · have hks:s.size ≤ i:=by rw [← byt_len];omega
     rw [List.drop_eq_nil_of_le (by omega),rd]
     refine iter_r ?_
     rw [hb]
     dsimp only
     rw [sel_t (by rw [ile_d];exact decide_eq_true (by simp only [n2i_c,zBr];omega))];rfl
 intro d
 induction d with
 | zero=>exact fun i v hi hv=>step i v (by omega) hv (.inl (by omega))
 | succ d ih=>exact fun i v hi hv=>step i v (by omega) hv (.inr fun v' hv'=>ih (i + 1) v' (by omega) hv')
theorem F112_eq (s:ByteArray) (hs:s.size ≤ 4611686018427387904):F112 s = some (lim (Rd.val s)):=by
 rw [val_rd]
 exact ref_loop112 s hs rfl 8 0 0 (by omega) (by decide)
theorem rd_prop:∀ (l:List Nat) (i v:Nat),i ≤ 8 → v < 2 ^ (7 * i) →
   ((rd i v l).2.2 = 0 ∧ 0 ≤ (rd i v l).1 ∧ (rd i v l).1 < 9223372036854775808 ∧ 1 ≤ (rd i v l).2.1 ∧ (rd i v l).2.1 ≤ i + l.length ∧ (rd i v l).2.1 ≤ 9) ∨ rd i v l = (0,0,11) ∨ rd i v l = (0,0,12)
 | [],i,v,hi,hv=>.inr (.inl rfl)
 | b :: l,i,v,hi,hv=>by
   have p56:2 ^ (7 * i) ≤ 2 ^ 56:=Nat.pow_le_pow_right (by decide) (by omega)
   have hm:b % 128 * 2 ^ (7 * i) ≤ 127 * 2 ^ (7 * i):=Nat.mul_le_mul_right _ (by omega)
   rw [rd]
   split
   · exact .inr (.inr rfl)
   split
   · refine .inl ⟨rfl,?_,?_,?_,?_,?_⟩ <;> dsimp only <;> (try simp only [List.length_cons]) <;> omega
   · have:2 ^ (7 * (i + 1)) = 128 * 2 ^ (7 * i):=by rw [show 7 * (i + 1) = 7 * i + 7 by omega,Nat.pow_add];omega
     rcases rd_prop l (i + 1) (v + b % 128 * 2 ^ (7 * i)) (by omega) (by omega) with ⟨h1,h2,h3,h4,h5,h6⟩ | h | h
     · exact .inl ⟨h1,h2,h3,h4,by simp only [List.length_cons];omega,h6⟩
     · exact .inr (.inl h)
     · exact .inr (.inr h)
theorem F110_eq {s:ByteArray} (hs:s.size ≤ 4611686018427387904):F110 s = some (Rd.val s):=if_pos hs
theorem val_prop (s:ByteArray):((Rd.val s).2.2 = 0 ∧ 0 ≤ (Rd.val s).1 ∧ (Rd.val s).1 < 9223372036854775808 ∧ 1 ≤ (Rd.val s).2.1 ∧ (Rd.val s).2.1 ≤ s.size ∧ (Rd.val s).2.1 ≤ 9) ∨ Rd.val s = (0,0,11) ∨ Rd.val s = (0,0,12):=by
 rw [val_rd]
 rcases rd_prop (byt s) 0 0 (by omega) (by decide) with ⟨h1,h2,h3,h4,h5,h6⟩ | h | h
 · exact .inl ⟨h1,h2,h3,h4,by rw [byt_len] at h5;omega,h6⟩
 · exact .inr (.inl h)
 · exact .inr (.inr h)
def rdU (s:ByteArray):Int × (Int × Int):=if (Rd.val s).2.2 ≠ 0 then (0,0,(Rd.val s).2.2) else if 1152921504606846976 < (Rd.val s).1 then (0,0,12) else ((Rd.val s).1,(Rd.val s).2.1,0)
theorem F89_eq {s:ByteArray} (hs:s.size ≤ 4611686018427387904):F89 s = some (rdU s):=by
 unfold F89 rdU
 rw [zAe (F110_eq hs)]
 rcases val_prop s with ⟨h1,h2,h3,_⟩ | h | h
 · rw [ine_d,zBm,if_neg (by omega),if_neg (by omega),zCb,zBm,show zAR .i64 (Rd.val s).1 = (Rd.val s).1 from zAf (by omega) h3]
   split <;> rfl
 · rw [h];rfl
 · rw [h];rfl
theorem F91_eq {s:ByteArray} (hs:s.size ≤ 4611686018427387904):F91 s = some (rdU s):=by
 unfold F91 rdU
 rw [zAe (F112_eq s hs)]
 unfold lim
 rcases val_prop s with ⟨h1,h2,h3,_⟩ | h | h
 · simp only [h1,true_and]
   by_cases g:2305843009213693952 < (Rd.val s).1
   · rw [if_pos g,if_neg (by simp),if_pos (by omega)];rfl
   · rw [if_neg g,if_neg (by simp),h1,pick_and,ieq_d,zCb,← Bool.decide_and,zBm]
     by_cases g2:1152921504606846976 < (Rd.val s).1
     · rw [if_pos ⟨rfl,g2⟩,if_pos g2]
     · rw [if_neg (fun h=>g2 h.2),if_neg g2]
 · rw [h];rfl
 · rw [h];rfl
def zz (x:Int):Int:=if x % 2 = 0 then x / 2 else -(x / 2) - 1
theorem ineg_ok {a:Int} (h1:-9223372036854775807 ≤ a) (h2:a < 9223372036854775808):ineg .i64 a = -a:=by
 have h:ineg .i64 a = IntKind.i64.wrap (-a):=by first | rfl | (unfold ineg;congr 1;omega)
 rw [h];exact zAf (by omega) (by omega)
theorem isub_w {a b:Int} (h1:-9223372036854775808 ≤ a - b) (h2:a - b < 9223372036854775808):zDG .i64 a b = a - b:=zAf h1 h2
theorem F111_eq {x:Int} (h0:0 ≤ x) (h1:x < 9223372036854775808):F111 x = some (zz x):=by
 have e1:irem x 2 = x % 2:=Int.tmod_eq_emod_of_nonneg h0
 have e2:iquo .u64 x 2 = x / 2:=by
   have e:x.tdiv 2 = x / 2:=Int.tdiv_eq_ediv_of_nonneg h0
   unfold iquo;rw [e];exact zDe (by omega)
 have e3:zAR .i64 (x / 2) = x / 2:=zAf (by omega) (by omega)
 unfold F111 zz
 have hA:ine 2 0 = true:=rfl
 have hN:∀ y:Option Int,need true y = y:=fun _=>rfl
 rw [hA]
 simp only [hN]
 rw [e1,e2,e3,ineg_ok (by omega) (by omega),isub_w (by omega) (by omega),ieq_d,zBm]
 split <;> rfl
def rdS (s:ByteArray):Int × (Int × Int):=if (Rd.val s).2.2 ≠ 0 then (0,0,(Rd.val s).2.2) else if zz (Rd.val s).1 < -1152921504606846976 ∨ 1152921504606846976 < zz (Rd.val s).1 then (0,0,12) else (zz (Rd.val s).1,(Rd.val s).2.1,0)
theorem F90_eq {s:ByteArray} (hs:s.size ≤ 4611686018427387904):F90 s = some (rdS s):=by
 unfold F90 rdS
 rw [zAe (F110_eq hs)]
 rcases val_prop s with ⟨h1,h2,h3,_⟩ | h | h
 · rw [ine_d,zBm,if_neg (by omega),if_neg (by omega),zAe (F111_eq h2 h3)]
   unfold F87
   rw [call_b,pick_and,ile_d,ile_d,← Bool.decide_and,bnot_d,← decide_not,zBm]
   by_cases g:zz (Rd.val s).1 < -1152921504606846976 ∨ 1152921504606846976 < zz (Rd.val s).1
   · rw [if_pos (by omega),if_pos g]
   · rw [if_neg (by omega),if_neg g]
 · rw [h];rfl
 · rw [h];rfl
theorem F92_eq {s:ByteArray} (hs:s.size ≤ 4611686018427387904):F92 s = some (rdS s):=by
 unfold F92 rdS
 rw [zAe (F112_eq s hs)]
 unfold lim
 rcases val_prop s with ⟨h1,h2,h3,_⟩ | h | h
 · simp only [h1,true_and]
   generalize hx:(Rd.val s).1 = x at h2 h3 ⊢
   by_cases g:2305843009213693952 < x
   · rw [if_pos g,if_neg (by simp),if_pos (by unfold zz;split <;> omega)];rfl
   · have e1:irem x 2 = x % 2:=Int.tmod_eq_emod_of_nonneg h2
     have e2:iquo .i64 x 2 = x / 2:=by
       have e:x.tdiv 2 = x / 2:=Int.tdiv_eq_ediv_of_nonneg h2
       unfold iquo;rw [e];exact zAf (by omega) (by omega)
     have hA:ine 2 0 = true:=rfl
     have hN:∀ y:Option (Int × (Int × Int)),need true y = y:=fun _=>rfl
     rw [if_neg g,if_neg (by simp),if_neg (by unfold zz;split <;> omega),h1,hx,hA,zDc (show ine 0 0 = false from rfl)]
     simp only [hN]
     rw [e1,e2,ineg_ok (by omega) (by omega),isub_w (by omega) (by omega),ieq_d,zBm]
     unfold zz
     by_cases g2:x % 2 = 1
     · rw [if_pos g2,if_neg (by omega)]
     · rw [if_neg g2,if_pos (by omega)]
 · rw [h];rfl
 · rw [h];rfl
end Go.Q
