/- Part 6 of what the claim leans on: FInv, FLay, FCmp, FF1, FDr, FPr, FF2, FP1, FP2, FP3, FP4, FP5, FP6, FP7, FP8, FP9, FP10, ZF1. -/
import Derived.Test.YtbhcfbnkdbioaaaGreatM5
import Derived.Calls
import Derived.KernelRfl
import Derived.Orders
import Derived.Laws.Sem
import Derived.Laws.CopyRow
import Derived.Laws.Cells
import Derived.Room.Entries
import Derived.Lib.Overlaps
import GoSem.Conv.BytesToString
import Derived.OrdersHeld
import Derived.ProofKit
import Derived.OpenShut
import Derived.Carry
import Derived.Shelf.SlSortCmp.InsertionK
import Derived.Test.YtbhcfbnkdbioaaaGreatProg
import Derived.Sort.Walk0
import Derived.Shelf.SlIter.Nil
import Derived.Shelf.SortM.Plain
import Derived.Shelf.SortM.SortNone
import Derived.Ground.GgzProg
import Derived.Ground.SlgmProg
import Derived.Shelf.SlSortCmp.WholeK
import Derived.Ground.SlsfProg
set_option linter.defProp false
noncomputable section
set_option linter.unusedVariables false
set_option linter.unusedSimpArgs false
set_option linter.unusedSectionVars false
namespace Go.Fl
open Go Go.Ab Go.Proofs Go.Proofs.YtbhcfbnkdbioaaaGreat.AbT
def mixed:Tryz.prog.follows .mixedOrders = true:=by kernel_rfl
set_option maxHeartbeats 4000000 in
def q_clone (H:Heap) (xs:List D) (hn:xs.length <= 100000000):Sound Tryz.prog 27 [.fz 1 xs] H (fun d H'=>(d = .v (.slice none 0 0) /\ xs = [] /\ H' = H) \/ (d = .sl (H.length + 1) 0 xs.length /\ H' = H ++ [none,some (.cells 1 xs)])):=by
 refine zBq Tryz.func27 rfl (by kernel_rfl) Tryz.ntmps27 (by simp) ?_
 have q1:∀ X,Heap.get (H ++ [X]) H.length = X:=fun X=>by rw [g_push,if_pos rfl]
 refine zAI fun Y0 hY0=>?_
 refine zAJ ?_
 try simp only [↓zAN,EVq,TY,zAF,↓reduceIte,Nat.reduceLT,Nat.reduceLeDiff,Nat.reduceEqDiff,Nat.reduceAdd,Nat.reduceMul,Int.reduceLE,eq_self]
 refine zAD [0] ?_
 simp only [KQ,↓KP,↓reduceIte,Nat.reduceEqDiff]
 subst hY0
 refine zAI fun Y1 hY1=>?_
 refine zAI fun Y2 hY2=>?_
 refine zAJ ?_
 try simp only [↓zAN,EVq,TY,zAF,↓reduceIte,Nat.reduceLT,Nat.reduceLeDiff,Nat.reduceEqDiff,Nat.reduceAdd,Nat.reduceMul,Int.reduceLE,eq_self]
 refine allK_mk fun b4 hb4=>?_
 try simp only [↓zAN,EVq,TY,zAF,↓reduceIte,Nat.reduceLT,Nat.reduceLeDiff,Nat.reduceEqDiff,Nat.reduceAdd,Nat.reduceMul,Int.reduceLE,eq_self]
 refine zAD [0,4] ?_
 simp only [KQ,↓KP,↓reduceIte,Nat.reduceEqDiff]
 subst hY2
 first | refine run_if (by simp only [↓zAZ,↓zAd,↓zAq,↓zAV,↓reduceIte,Nat.reduceEqDiff] <;> rfl) (fun h4=>?_) fun h4=>?_ | refine zCo (by simp only [↓zAZ,↓zAd,↓zAq,↓zAV,↓reduceIte,Nat.reduceEqDiff] <;> rfl) (fun h4=>?_) fun h4=>?_
 ·refine zAI fun Y3 hY3=>?_
  refine zAJ ?_
  try simp only [↓zAN,EVq,TY,zAF,↓reduceIte,Nat.reduceLT,Nat.reduceLeDiff,Nat.reduceEqDiff,Nat.reduceAdd,Nat.reduceMul,Int.reduceLE,eq_self]
  refine zAD [2] ?_
  simp only [KQ,↓KP,↓reduceIte,Nat.reduceEqDiff]
  subst hY3
  refine zBk Tryz.func27 Tryz.results27 (by simp only [aRes,↓zAZ,↓KP,KQ,↓reduceIte,Nat.reduceEqDiff,zBU,TY] <;> rfl) (Weak.refl _ _ _) ?_
  first
   | exact .inl ⟨rfl,hb4 (by assumption),rfl⟩
   | (refine .inr ⟨?_,?_⟩
      ·simp [retD]
      ·rw [List.set_append_right _ _ (by simp)];simp)
 ·refine zBZ ?_
  subst hY1
  refine zAI fun Y4 hY4=>?_
  refine zAJ ?_
  try simp only [q1,yBD,yAT,yBI,yBM,↓zAN,EVq,TY,zAF,↓reduceIte,Nat.reduceLT,Nat.reduceLeDiff,Nat.reduceEqDiff,Nat.reduceAdd,Nat.reduceMul,Int.reduceLE,eq_self]
  try refine zBi (by first | rfl | decide | exact ⟨rfl,by decide,rfl⟩) ?_
  try simp only [q1,yBD,yAT,yBI,yBM,↓zAN,EVq,TY,zAF,↓reduceIte,Nat.reduceLT,Nat.reduceLeDiff,Nat.reduceEqDiff,Nat.reduceAdd,Nat.reduceMul,Int.reduceLE,eq_self]
  refine zBi (by omega) ?_
  try simp only [q1,yBD,yAT,yBI,yBM,↓zAN,EVq,TY,zAF,↓reduceIte,Nat.reduceLT,Nat.reduceLeDiff,Nat.reduceEqDiff,Nat.reduceAdd,Nat.reduceMul,Int.reduceLE,eq_self]
  refine zAD [2] ?_
  simp only [KQ,↓KP,↓reduceIte,Nat.reduceEqDiff]
  subst hY4
  refine zBk Tryz.func27 Tryz.results27 (by simp only [aRes,↓zAZ,↓KP,KQ,↓reduceIte,Nat.reduceEqDiff,zBU,TY] <;> rfl) (Weak.refl _ _ _) ?_
  first
   | exact .inl ⟨rfl,hb4 (by assumption),rfl⟩
   | (refine .inr ⟨?_,?_⟩
      ·simp [retD]
      ·rw [List.set_append_right _ _ (by simp)];simp)
set_option maxHeartbeats 4000000 in
def q_rev (H:Heap) (rr:Nat) (l:List Nm) (hr:H.get rr = some (.cells 1 (nD l))) (hl:l.length <= 1000000):Sound Tryz.prog 28 [.sl rr 0 l.length] H (fun d H'=>d = .tup [] /\ Heap.get H' rr = some (.cells 1 (nD l.reverse)) /\ H'.length = H.length /\ ∀ x,x ≠ rr -> Heap.get H' x = H.get x):=by
 refine zBq Tryz.func28 rfl (by kernel_rfl) Tryz.ntmps28 (by simp) ?_
 have lr:=Heap.get_lt hr
 refine zAI fun Y0 hY0=>?_
 refine zAJ ?_
 try simp only [↓zAN,EVq,TY,zAF,↓reduceIte,Nat.reduceLT,Nat.reduceLeDiff,Nat.reduceEqDiff,Nat.reduceAdd,Nat.reduceMul,Int.reduceLE,eq_self]
 refine zAD [0,2,3] ?_
 simp only [KQ,↓KP,↓reduceIte,Nat.reduceEqDiff]
 subst hY0
 refine zDA ?_
 refine zAD [0,2,3] ?_
 simp only [KQ,↓KP,↓reduceIte,Nat.reduceEqDiff]
 refine run_loop' (fun m e H1=>∃ i:Nat,m = l.length - i /\ i <= l.length /\ H1.get rr = some (.cells 1 (nD (rv l i))) /\ H1.length = H.length /\ (∀ x,x ≠ rr -> H1.get x = H.get x) /\ e = envL [(0,.sl rr 0 l.length),(2,iD (i:Nat)),(3,iD ((l.length:Int) - 1 - i))]) l.length
  ⟨0,by simp,by omega,by rw [rv_zero];exact hr,rfl,fun _ _=>rfl,by rw [zBb (by omega) (by omega)];simp⟩ ?_
 intro C hC m e H1 ih hI
 obtain ⟨i,rfl,hi,hr1,hL,hfr,rfl⟩:=hI
 refine zAI fun Y1 hY1=>?_
 refine zAI fun Y2 hY2=>?_
 refine zAJ ?_
 try simp only [↓zAN,EVq,TY,zAF,↓reduceIte,Nat.reduceLT,Nat.reduceLeDiff,Nat.reduceEqDiff,Nat.reduceAdd,Nat.reduceMul,Int.reduceLE,eq_self]
 refine zAD [0,2,3,9] ?_
 simp only [KQ,↓KP,↓reduceIte,Nat.reduceEqDiff]
 subst hY2
 first | refine run_if (by simp only [↓zAZ,↓zAd,↓zAq,↓zAV,↓reduceIte,Nat.reduceEqDiff] <;> rfl) (fun h9=>?_) fun h9=>?_ | refine zCo (by simp only [↓zAZ,↓zAd,↓zAq,↓zAV,↓reduceIte,Nat.reduceEqDiff] <;> rfl) (fun h9=>?_) fun h9=>?_
 ·refine zBZ ?_
  subst hY1
  refine zAI fun Y3 hY3=>?_
  refine zDA ?_
  have hij:i < l.length - 1 - i:=by omega
  have et:((l.length:Int) - 1 - i).toNat = l.length - 1 - i:=by omega
  have lr1:=Heap.get_lt hr1
  have e1:(nD (rv l i))[i]? = some (.v (sV ((rv l i).getD i ByteArray.empty))):=nD_get (by rw [rv_len];omega)
  have e2:(nD (rv l i))[l.length - 1 - i]? = some (.v (sV ((rv l i).getD (l.length - 1 - i) ByteArray.empty))):=nD_get (by rw [rv_len];omega)
  obtain ⟨y,e3⟩:∃ y,((nD (rv l i)).set i (.v (sV ((rv l i).getD (l.length - 1 - i) ByteArray.empty))))[l.length - 1 - i]? = some (.v (sV y)):=⟨_,by rw [List.getElem?_set_ne (by omega)];exact e2⟩
  have gs:∀ x,Heap.get (List.set H1 rr x) rr = x:=fun x=>by rw [zCq lr1,if_pos rfl]
  refine run_draw [(.pure,0),(.pure,1),(.pure,2),(.pure,3),(.pure,4),(.pure,5),(.pure,6),(.load,7),(.pure,8),(.pure,9),(.pure,10),(.load,11),(.pure,12),(.wr,13),(.pure,14),(.wr,15)] mixed (by kernel_rfl) ?_
  try simp only [et,Int.toNat_natCast,yAT,hr1,e1,e2,e3,gs,zDP,planned_nil,o_toList,↓zAN,EVq,TY,zAF,↓reduceIte,Nat.reduceLT,Nat.reduceLeDiff,Nat.reduceEqDiff,Nat.reduceAdd,Nat.reduceMul,Int.reduceLE,eq_self]
  refine zBi (by omega) ?_
  try simp only [et,Int.toNat_natCast,yAT,hr1,e1,e2,e3,gs,zDP,planned_nil,o_toList,↓zAN,EVq,TY,zAF,↓reduceIte,Nat.reduceLT,Nat.reduceLeDiff,Nat.reduceEqDiff,Nat.reduceAdd,Nat.reduceMul,Int.reduceLE,eq_self]
  refine zBi (by omega) ?_
  try simp only [et,Int.toNat_natCast,yAT,hr1,e1,e2,e3,gs,zDP,planned_nil,o_toList,↓zAN,EVq,TY,zAF,↓reduceIte,Nat.reduceLT,Nat.reduceLeDiff,Nat.reduceEqDiff,Nat.reduceAdd,Nat.reduceMul,Int.reduceLE,eq_self]
  refine zBi (by omega) ?_
  try simp only [et,Int.toNat_natCast,yAT,hr1,e1,e2,e3,gs,zDP,planned_nil,o_toList,↓zAN,EVq,TY,zAF,↓reduceIte,Nat.reduceLT,Nat.reduceLeDiff,Nat.reduceEqDiff,Nat.reduceAdd,Nat.reduceMul,Int.reduceLE,eq_self]
  refine zBi (by omega) ?_
  try simp only [et,Int.toNat_natCast,yAT,hr1,e1,e2,e3,gs,zDP,planned_nil,o_toList,↓zAN,EVq,TY,zAF,↓reduceIte,Nat.reduceLT,Nat.reduceLeDiff,Nat.reduceEqDiff,Nat.reduceAdd,Nat.reduceMul,Int.reduceLE,eq_self]
  refine zAD [0,2,3] ?_
  simp only [KQ,↓KP,↓reduceIte,Nat.reduceEqDiff]
  refine zAr ?_
  subst hY3
  refine zAJ ?_
  try simp only [↓zAN,EVq,TY,zAF,↓reduceIte,Nat.reduceLT,Nat.reduceLeDiff,Nat.reduceEqDiff,Nat.reduceAdd,Nat.reduceMul,Int.reduceLE,eq_self]
  refine zAD [0,2,3] ?_
  simp only [KQ,↓KP,↓reduceIte,Nat.reduceEqDiff]
  refine zAD [0,2,3] ?_
  simp only [KQ,↓KP,↓reduceIte,Nat.reduceEqDiff]
  have hij:i < l.length - 1 - i:=by omega
  have lr1:=Heap.get_lt hr1
  have ei:IntKind.i64.wrap ((i:Int) + 1) = ((i + 1:Nat):Int):=by rw [zBb (by omega) (by omega)];omega
  have ek:IntKind.i64.wrap ((l.length:Int) - 1 - i - 1) = (l.length:Int) - 1 - ((i + 1:Nat):Int):=by rw [zBb (by omega) (by omega)];omega
  rw [ei,ek]
  refine ih (l.length - (i + 1)) _ _ (by omega) ⟨i + 1,rfl,by omega,?_,?_,?_,rfl⟩
  ·rw [<- rv_step hij]
   simp only [List.set_set]
   rw [zCq lr1,if_pos rfl]
   simp only [nD,List.map_set]
  ·simp only [yBK];exact hL
  ·intro x hx
   simp only [List.set_set]
   rw [zCq lr1,if_neg hx];exact hfr x hx
 ·refine run_exit (by rfl) ?_
  refine run_end Tryz.func28 Tryz.results28 (by simp only [aRes,↓zAZ,↓KP,KQ,↓reduceIte,Nat.reduceEqDiff,zBU,TY] <;> rfl) (Weak.refl _ _ _) ?_
  refine ⟨rfl,?_,hL,hfr⟩
  rw [<- rv_end (l:=l) (i:=i) (by omega)]
  exact hr1
set_option maxHeartbeats 4000000 in
def q_rev_nil (H:Heap):Sound Tryz.prog 28 [.v (.slice none 0 0)] H (fun d H'=>d = .tup [] /\ H' = H):=by
 refine zBq Tryz.func28 rfl (by kernel_rfl) Tryz.ntmps28 (by simp) ?_
 refine zAI fun Y0 hY0=>?_
 refine zAJ ?_
 try simp only [↓zAN,EVq,TY,zAF,↓reduceIte,Nat.reduceLT,Nat.reduceLeDiff,Nat.reduceEqDiff,Nat.reduceAdd,Nat.reduceMul,Int.reduceLE,eq_self]
 refine zAD [0,2,3] ?_
 simp only [KQ,↓KP,↓reduceIte,Nat.reduceEqDiff]
 subst hY0
 refine zDA ?_
 refine zAD [0,2,3] ?_
 simp only [KQ,↓KP,↓reduceIte,Nat.reduceEqDiff]
 refine run_loop' (fun m e H1=>m = 0 /\ H1 = H /\ e = envL [(0,.v (.slice none 0 0)),(2,iD 0),(3,iD (-1))]) 0
  ⟨rfl,rfl,rfl⟩ ?_
 intro C hC m e H1 ih hI
 obtain ⟨rfl,rfl,rfl⟩:=hI
 refine zAI fun Y1 hY1=>?_
 refine zAI fun Y2 hY2=>?_
 refine zAJ ?_
 try simp only [↓zAN,EVq,TY,zAF,↓reduceIte,Nat.reduceLT,Nat.reduceLeDiff,Nat.reduceEqDiff,Nat.reduceAdd,Nat.reduceMul,Int.reduceLE,eq_self]
 refine zAD [0,2,3,9] ?_
 simp only [KQ,↓KP,↓reduceIte,Nat.reduceEqDiff]
 subst hY2
 refine run_if_f (by simp only [↓zAZ,↓zAd,↓zAq,↓zAV,↓reduceIte,Nat.reduceEqDiff] <;> rfl) ?_
 refine run_exit (by rfl) ?_
 refine run_end Tryz.func28 Tryz.results28 (by simp only [aRes,↓zAZ,↓KP,KQ,↓reduceIte,Nat.reduceEqDiff,zBU,TY] <;> rfl) (Weak.refl _ _ _) ?_
 exact ⟨rfl,rfl⟩
set_option maxHeartbeats 4000000 in
def q_inv1 (i:Int) (p:List Nm) (w:Int) (hp:p.length <= 1000000):Pure Tryz.prog 26 [iD i,stD (p,w)] (fun d=>d = .tup [stD (p.reverse,w),.v (.bool true)]):=by
 refine zBq Tryz.func26 rfl (by kernel_rfl) Tryz.ntmps26 (by simp) ?_
 refine zAI fun Y0 hY0=>?_
 refine zAJ ?_
 try simp only [↓zAN,EVq,TY,zAF,↓reduceIte,Nat.reduceLT,Nat.reduceLeDiff,Nat.reduceEqDiff,Nat.reduceAdd,Nat.reduceMul,Int.reduceLE,eq_self]
 refine zAD [3,4] ?_
 simp only [KQ,↓KP,↓reduceIte,Nat.reduceEqDiff]
 subst hY0
 refine zAI fun Y1 hY1=>?_
 refine zAJ ?_
 try simp only [↓zAN,EVq,TY,zAF,↓reduceIte,Nat.reduceLT,Nat.reduceLeDiff,Nat.reduceEqDiff,Nat.reduceAdd,Nat.reduceMul,Int.reduceLE,eq_self]
 refine zCS (q_clone _ (nD p) (by rw [nD_len];omega)) (fun dd Hx hcl=>?_)
 try simp only [↓zAN,EVq,TY,zAF,↓reduceIte,Nat.reduceLT,Nat.reduceLeDiff,Nat.reduceEqDiff,Nat.reduceAdd,Nat.reduceMul,Int.reduceLE,eq_self]
 refine zAD [3,4,6] ?_
 simp only [KQ,↓KP,↓reduceIte,Nat.reduceEqDiff]
 subst hY1
 refine zAI fun Y2 hY2=>?_
 rcases hcl with ⟨rfl,hnil,rfl⟩ | ⟨rfl,rfl⟩
 ·refine zAJ ?_
  try simp only [↓zAN,EVq,TY,zAF,↓reduceIte,Nat.reduceLT,Nat.reduceLeDiff,Nat.reduceEqDiff,Nat.reduceAdd,Nat.reduceMul,Int.reduceLE,eq_self]
  refine zCS (q_rev_nil _) (fun dd Hx hdd=>?_)
  obtain ⟨rfl,rfl⟩:=hdd
  try simp only [↓zAN,EVq,TY,zAF,↓reduceIte,Nat.reduceLT,Nat.reduceLeDiff,Nat.reduceEqDiff,Nat.reduceAdd,Nat.reduceMul,Int.reduceLE,eq_self]
  refine zAD [3,4,6] ?_
  simp only [KQ,↓KP,↓reduceIte,Nat.reduceEqDiff]
  subst hY2
  refine zAI fun Y3 hY3=>?_
  refine zAJ ?_
  try simp only [↓zAN,EVq,TY,zAF,↓reduceIte,Nat.reduceLT,Nat.reduceLeDiff,Nat.reduceEqDiff,Nat.reduceAdd,Nat.reduceMul,Int.reduceLE,eq_self]
  refine zAD [4,5] ?_
  simp only [KQ,↓KP,↓reduceIte,Nat.reduceEqDiff]
  subst hY3
  first
   | (refine zCz 4 Tryz.func26 Tryz.results26 (by simp only [aRes,↓zAZ,↓KP,KQ,↓reduceIte,Nat.reduceEqDiff,h32,zBU,TY] <;> rfl) rfl (d'':=.tup [stD (p.reverse,w),.v (.bool true)]) ?_ rfl
      exact le_tup2 (le_agg2 (le_fz _ _) (le_int _)) (le_bool _))
   | (obtain rfl:p = []:=by
        cases p with
        | nil=>rfl
        | cons a b=>cases hnil
      refine zCz 4 Tryz.func26 Tryz.results26 (by simp only [aRes,↓zAZ,↓KP,KQ,↓reduceIte,Nat.reduceEqDiff,zBU,TY] <;> rfl) rfl (d'':=.tup [stD ([],w),.v (.bool true)]) ?_ rfl
      exact le_tup2 (le_agg2 (le_nilfz _) (le_int _)) (le_bool _))
 ·refine zAJ ?_
  try simp only [↓zAN,EVq,TY,zAF,↓reduceIte,Nat.reduceLT,Nat.reduceLeDiff,Nat.reduceEqDiff,Nat.reduceAdd,Nat.reduceMul,Int.reduceLE,eq_self]
  rw [nD_len]
  refine zCS (q_rev _ 3 p rfl hp) (fun dd Hx hdd=>?_)
  obtain ⟨rfl,hg3,hL3,hfr3⟩:=hdd
  try simp only [↓zAN,EVq,TY,zAF,↓reduceIte,Nat.reduceLT,Nat.reduceLeDiff,Nat.reduceEqDiff,Nat.reduceAdd,Nat.reduceMul,Int.reduceLE,eq_self]
  refine zAD [3,4,6] ?_
  simp only [KQ,↓KP,↓reduceIte,Nat.reduceEqDiff]
  subst hY2
  refine zAI fun Y4 hY4=>?_
  refine Go.Ab.run_freeze (s:=6) (r:=3) (i:=0) (m:=p.length) (k:=1) (xs:=nD p.reverse) rfl hg3 (by rw [nD_len,List.length_reverse];omega) (norefs_nm _) ?_
  have h3l:3 < Hx.length:=by rw [hL3];simp
  have h30:Heap.get (List.set Hx 3 none) 0 = some (Row.cells 2 [stD (p,w)]):=by rw [zCq h3l,if_neg (by decide)];exact hfr3 0 (by decide)
  have h31:Heap.get (List.set Hx 3 none) 1 = some (Row.cells 2 [D.agg [D.v (Value.slice none 0 0),D.v (Value.int IntKind.i64 0)]]):=by rw [zCq h3l,if_neg (by decide)];exact hfr3 1 (by decide)
  have h32:∀ x,Heap.get (List.set (List.set Hx 3 none) 1 x) 1 = x:=fun x=>by rw [zCq (by rw [yBK];omega),if_pos rfl]
  have hdt:((nD p.reverse).drop 0).take p.length = nD p.reverse:=by rw [yBD,yAW (by rw [nD_len,List.length_reverse];omega)]
  rw [hdt]
  refine zAJ ?_
  try simp only [h30,h31,↓zAN,EVq,TY,zAF,↓reduceIte,Nat.reduceLT,Nat.reduceLeDiff,Nat.reduceEqDiff,Nat.reduceAdd,Nat.reduceMul,Int.reduceLE,eq_self]
  refine zAD [4,5] ?_
  simp only [KQ,↓KP,↓reduceIte,Nat.reduceEqDiff]
  subst hY4
  first
   | (refine zCz 4 Tryz.func26 Tryz.results26 (by simp only [aRes,↓zAZ,↓KP,KQ,↓reduceIte,Nat.reduceEqDiff,h32,zBU,TY] <;> rfl) rfl (d'':=.tup [stD (p.reverse,w),.v (.bool true)]) ?_ rfl
      exact le_tup2 (le_agg2 (le_fz _ _) (le_int _)) (le_bool _))
   | (obtain rfl:p = []:=by
        cases p with
        | nil=>rfl
        | cons a b=>cases hnil
      refine zCz 4 Tryz.func26 Tryz.results26 (by simp only [aRes,↓zAZ,↓KP,KQ,↓reduceIte,Nat.reduceEqDiff,zBU,TY] <;> rfl) rfl (d'':=.tup [stD ([],w),.v (.bool true)]) ?_ rfl
      exact le_tup2 (le_agg2 (le_nilfz _) (le_int _)) (le_bool _))
end Go.Fl
set_option maxRecDepth 100000
namespace Go.Proofs
open Go.Shelf
def Tryz.sortRow_ren:Go.Shelf.Ren:=⟨fun | 6=>37 | 15=>55 | 14=>54 | 28=>82 | 29=>83 | 20=>74 | 21=>75 | 22=>76 | 23=>77 | 24=>78 | 25=>79 | 26=>80 | 27=>81 | 46=>88 | 47=>89 | 48=>90 | 49=>91 | 50=>92 | 57=>95 | n=>n,fun | 22=>33 | 24=>35 | 25=>64 | 3=>3 | 39=>83 | 0=>0 | 53=>105 | 55=>107 | 4=>4 | 46=>99 | 45=>98 | 50=>92 | 5=>5 | 9=>9 | 66=>109 | 70=>113 | 76=>117 | 77=>118 | n=>n,fun | n=>n⟩
def Tryz.sortRow:Go.Proofs.SlLaysF0.n6 Tryz.prog Tryz.sortRow_ren:={
 mixed:=by kernel_rfl
 f6:=⟨Tryz.f37.name,by decide,Tryz.func37.trans (congrArg some (by kernel_rfl))⟩
 f14:=⟨Tryz.f54.name,by decide,Tryz.func54.trans (congrArg some (by kernel_rfl))⟩
 f15:=Tryz.func55.trans (congrArg some (by kernel_rfl))
 f20:=⟨Tryz.f74.name,by decide,Tryz.func74.trans (congrArg some (by kernel_rfl))⟩
 f21:=⟨Tryz.f75.name,by decide,Tryz.func75.trans (congrArg some (by kernel_rfl))⟩
 f22:=⟨Tryz.f76.name,by decide,Tryz.func76.trans (congrArg some (by kernel_rfl))⟩
 f23:=⟨Tryz.f77.name,by decide,Tryz.func77.trans (congrArg some (by kernel_rfl))⟩
 f24:=⟨Tryz.f78.name,by decide,Tryz.func78.trans (congrArg some (by kernel_rfl))⟩
 f25:=⟨Tryz.f79.name,by decide,Tryz.func79.trans (congrArg some (by kernel_rfl))⟩
 f26:=⟨Tryz.f80.name,by decide,Tryz.func80.trans (congrArg some (by kernel_rfl))⟩
 f27:=⟨Tryz.f81.name,by decide,Tryz.func81.trans (congrArg some (by kernel_rfl))⟩
 f28:=Tryz.func82.trans (congrArg some (by kernel_rfl))
 f29:=Tryz.func83.trans (congrArg some (by kernel_rfl))
 f46:=⟨Tryz.f88.name,by decide,Tryz.func88.trans (congrArg some (by kernel_rfl))⟩
 f47:=Tryz.func89.trans (congrArg some (by kernel_rfl))
 f48:=Tryz.func90.trans (congrArg some (by kernel_rfl))
 f49:=⟨Tryz.f91.name,by decide,Tryz.func91.trans (congrArg some (by kernel_rfl))⟩
 f50:=⟨Tryz.f92.name,by decide,Tryz.func92.trans (congrArg some (by kernel_rfl))⟩
 f57:=⟨Tryz.f95.name,by decide,Tryz.func95.trans (congrArg some (by kernel_rfl))⟩
 t0:=Tryz.underlying0
 a0:=Tryz.isAgg0
 z0:=Tryz.sizeOf0
 v0:=Tryz.zeroValue0
 t3:=Tryz.underlying3
 a3:=Tryz.isAgg3
 z3:=Tryz.sizeOf3
 v3:=Tryz.zeroValue3
 t4:=Tryz.underlying4
 a4:=Tryz.isAgg4
 z4:=Tryz.sizeOf4
 v4:=Tryz.zeroValue4
 t5:=Tryz.underlying5
 a5:=Tryz.isAgg5
 z5:=Tryz.sizeOf5
 v5:=Tryz.zeroValue5
 t9:=Tryz.underlying9
 a9:=Tryz.isAgg9
 z9:=Tryz.sizeOf9
 v9:=Tryz.zeroValue9
 t22:=Tryz.underlying33
 a22:=Tryz.isAgg33
 z22:=Tryz.sizeOf33
 v22:=Tryz.zeroValue33
 t25:=Tryz.underlying64
 a25:=Tryz.isAgg64
 z25:=Tryz.sizeOf64
 v25:=Tryz.zeroValue64
 t39:=Tryz.underlying83
 a39:=Tryz.isAgg83
 z39:=Tryz.sizeOf83
 v39:=Tryz.zeroValue83
 t45:=Tryz.underlying98
 a45:=Tryz.isAgg98
 z45:=Tryz.sizeOf98
 v45:=Tryz.zeroValue98
 t46:=Tryz.underlying99
 a46:=Tryz.isAgg99
 z46:=Tryz.sizeOf99
 v46:=Tryz.zeroValue99
 t50:=Tryz.underlying92
 a50:=Tryz.isAgg92
 z50:=Tryz.sizeOf92
 v50:=Tryz.zeroValue92
 t53:=Tryz.underlying105
 a53:=Tryz.isAgg105
 z53:=Tryz.sizeOf105
 v53:=Tryz.zeroValue105
 t55:=Tryz.underlying107
 a55:=Tryz.isAgg107
 z55:=Tryz.sizeOf107
 v55:=Tryz.zeroValue107
 t66:=Tryz.underlying109
 a66:=Tryz.isAgg109
 z66:=Tryz.sizeOf109
 v66:=Tryz.zeroValue109
 t70:=Tryz.underlying113
 a70:=Tryz.isAgg113
 z70:=Tryz.sizeOf113
 v70:=Tryz.zeroValue113
 t76:=Tryz.underlying117
 a76:=Tryz.isAgg117
 z76:=Tryz.sizeOf117
 v76:=Tryz.zeroValue117
 t77:=Tryz.underlying118
 a77:=Tryz.isAgg118
 z77:=Tryz.sizeOf118
 v77:=Tryz.zeroValue118 }
end Go.Proofs
namespace Go.Fl
open Go Go.T Go.Proofs
def sorts41:SortsAt Tryz.prog 37 3:=fun enc hk h1 cf hO g cb blk off cap d w eg hcmp hH hblk hsz =>
 AnyQ.slices_SortFunc Tryz.sortRow 3 Tryz.isAgg35 Tryz.sizeOf35 enc hk h1 cf hO g cb blk off cap d w eg hcmp hH hblk hsz
open Go Go.Ab Go.T Go.Pl Go.Proofs Go.Sort
abbrev TR:=Nm × Int × Int
abbrev tR:Ty:=.agg (.pr .str (.pr (.int .i64) (.int .i64)))
def cfR (x y:TR):Int:=if y.2.2 < x.2.2 then -1 else if x.2.2 < y.2.2 then 1 else if slt x.1 y.1 = true then -1 else if slt y.1 x.1 = true then 1 else 0
def ltR (x y:TR):Prop:=y.2.2 < x.2.2 \/ (x.2.2 = y.2.2 /\ slt x.1 y.1 = true)
instance (x y:TR):Decidable (ltR x y):=by unfold ltR;infer_instance
def cfR_lt (x y:TR):cfR x y < 0 ↔ ltR x y:=by
 unfold cfR ltR
 by_cases h1:y.2.2 < x.2.2
 ·rw [if_pos h1];exact ⟨fun _=>.inl h1,fun _=>by omega⟩
 rw [if_neg h1]
 by_cases h2:x.2.2 < y.2.2
 ·rw [if_pos h2];exact ⟨fun h=>by omega,fun h=>by rcases h with h | h <;> omega⟩
 rw [if_neg h2]
 have e:x.2.2 = y.2.2:=by omega
 by_cases h3:slt x.1 y.1 = true
 ·rw [if_pos h3];exact ⟨fun _=>.inr ⟨e,h3⟩,fun _=>by omega⟩
 rw [if_neg h3]
 constructor
 ·intro h;split at h <;> omega
 ·rintro (h | ⟨_,h⟩)
  ·omega
  ·exact absurd h h3
def ltR_irr (x:TR):¬ ltR x x:=by
 rintro (h | ⟨_,h⟩)
 ·omega
 ·exact slt_irr _ h
def ltR_trans {x y z:TR} (h1:ltR x y) (h2:ltR y z):ltR x z:=by
 rcases h1 with h1 | ⟨e1,h1⟩ <;> rcases h2 with h2 | ⟨e2,h2⟩
 ·exact .inl (by omega)
 ·exact .inl (by omega)
 ·exact .inl (by omega)
 ·exact .inr ⟨by omega,slt_trans h1 h2⟩
def ltR_ntrans {x y z:TR} (h1:¬ ltR x y) (h2:¬ ltR y z):¬ ltR x z:=by
 unfold ltR at *
 rintro (h | ⟨e,h⟩)
 ·have a:¬ y.2.2 < x.2.2:=fun h'=>h1 (.inl h')
  have b:¬ z.2.2 < y.2.2:=fun h'=>h2 (.inl h')
  omega
 ·have a:¬ y.2.2 < x.2.2:=fun h'=>h1 (.inl h')
  have b:¬ z.2.2 < y.2.2:=fun h'=>h2 (.inl h')
  have e1:x.2.2 = y.2.2:=by omega
  have e2:y.2.2 = z.2.2:=by omega
  have c1:¬ slt x.1 y.1 = true:=fun h'=>h1 (.inr ⟨e1,h'⟩)
  have c2:¬ slt y.1 z.1 = true:=fun h'=>h2 (.inr ⟨e2,h'⟩)
  rcases slt_tri x.1 y.1 with g | g | g
  ·exact c1 g
  ·rw [g] at h;exact c2 h
  ·exact c2 (slt_trans g h)
def F40_eq (a b:Int):F40 (a,b) = some (if a < b then -1 else if b < a then 1 else 0):=by
 have h:∀ x:Int,F56 x = some false:=fun x=>by unfold F56;rw [ine_d];simp
 unfold F40
 rw [zAR (h _),zAR (h _),zAX rfl,zAX rfl,zAe,zCb,zAe,zCb]
 dsimp only
 by_cases h1:a < b
 ·rw [if_pos h1,if_pos h1]
 ·rw [if_neg h1,if_neg h1]
  by_cases h2:b < a
  ·rw [if_pos h2,if_pos h2]
  ·rw [if_neg h2,if_neg h2]
def sle_not (a b:Nm):zCr (sle a b) = slt b a:=by
 have e:sle a b = !slt b a:=by
  unfold sle slt
  rw [Go.Proofs.bytesLess_eq,Go.Proofs.bytesLess_eq,ByteArray.toList_eq,ByteArray.toList_eq]
  rcases slt_tri a b with h | h | h
  ·have h1:=slt_iff.1 h
   have h2:¬ b.data.toList < a.data.toList:=fun g=>slt_asymm h (slt_iff.2 g)
   simp [h1,h2]
  ·subst h
   have h2:¬ a.data.toList < a.data.toList:=List.lt_irrefl _
   simp [h2]
  ·have h1:=slt_iff.1 h
   have h2:¬ a.data.toList < b.data.toList:=fun g=>slt_asymm h (slt_iff.2 g)
   have h3:a.data ≠ b.data:=fun e=>by rw [e] at h1;exact List.lt_irrefl _ h1
   simp [h1,h2,h3]
 rw [e,bnot_d,Bool.not_not]
def F41_eq (a b:Nm):F41 (a,b) = some (if slt a b = true then -1 else if slt b a = true then 1 else 0):=by
 have h:∀ x:Nm,F57 x = some false:=fun x=>by
  unfold F57
  have:seq x x = true:=by unfold seq;exact beq_self_eq_true _
  rw [this];rfl
 unfold F41
 rw [zAR (h _),zAR (h _),zAX rfl,zAX rfl]
 dsimp only
 rw [sle_not]
 cases h1:slt a b with
 | true=>rw [zAy rfl,if_pos rfl]
 | false =>
  rw [zAX rfl,if_neg (by simp)]
  cases h2:slt b a with
  | true=>rw [zAy rfl,if_pos rfl]
  | false=>rw [zAX rfl,if_neg (by simp)]
def F39_eq (a b:Int):F39 [a,b] = some (if a ≠ 0 then a else b):=by
 unfold F39
 by_cases h1:a ≠ 0
 ·refine (join_r (r:=a) (iter_r ?_)).trans (by rw [if_pos h1])
  rw [zAy (show ilt 0 (n2i (zAE [a,b])) = true from rfl),zAG (show inL 0 (zAE [a,b]) = true from rfl)]
  show sel (ine a 0) _ _ = _
  rw [ine_d,zAy (by simpa using h1)];rfl
 ·have h1:a = 0:=by simpa using h1
  subst h1
  rw [if_neg (by simp)]
  by_cases h2:b ≠ 0
  ·refine (join_r (r:=b) (iter_l (s':=1) ?_ (iter_r ?_)))
   ·rfl
   ·rw [zAy (show ilt 1 (n2i (zAE [0,b])) = true from rfl),zAG (show inL 1 (zAE [0,b]) = true from rfl)]
    show sel (ine b 0) _ _ = _
    rw [ine_d,zAy (by simpa using h2)];rfl
  ·have h2:b = 0:=by simpa using h2
   subst h2
   exact (zBo (s:=PUnit.unit) (iter_l (s':=1) rfl (iter_l (s':=2) rfl (iter_r rfl))))
def F38_eq (x y:TR):F38 (x,y) = some (cfR x y):=by
 unfold F38
 dsimp only
 rw [zAR (F40_eq _ _),zAR (F41_eq _ _),zAR (F39_eq _ _)]
 unfold cfR
 by_cases h1:y.2.2 < x.2.2
 ·rw [if_pos h1,if_pos h1,if_pos (by decide)]
 rw [if_neg h1,if_neg h1]
 by_cases h2:x.2.2 < y.2.2
 ·rw [if_pos h2,if_pos h2,if_pos (by decide)]
 rw [if_neg h2,if_neg h2,if_neg (by decide)]
def ltOf_R (x y:TR):ltOf cfR x y = decide (ltR x y):=by
 unfold ltOf
 rw [decide_eq_decide]
 exact cfR_lt x y
def ltOf_t (x y:TR):ltOf cfR x y = true ↔ ltR x y:=by rw [ltOf_R,decide_eq_true_eq]
def ltOf_f (x y:TR):ltOf cfR x y = false ↔ ¬ ltR x y:=by rw [ltOf_R,decide_eq_false_iff_not]
def cmp42:CmpOk Tryz.prog c38 tR [] (fun _:TR=>True) cfR:=by
 refine ⟨@ok38 ⟨True⟩,rfl,rfl,(fun v hv=>nomatch hv),enters_of Tryz.func38 (by kernel_rfl) rfl,fun (x:TR) (y:TR) _ _=>⟨((x,y):TR × TR),rfl,⟨(cfR x y:Int),F38_eq x y⟩,fun r hr=>?_⟩,fun x _=>?_,fun x y z _ _ _ h1 h2=>?_,fun x y z _ _ _ h1 h2=>?_⟩
 ·have hr:F38 (x,y) = some r:=hr
  rw [F38_eq] at hr
  have:=yAA hr
  subst this;rfl
 ·exact (ltOf_f x x).2 (ltR_irr x)
 ·exact (ltOf_t x z).2 (ltR_trans ((ltOf_t x y).1 h1) ((ltOf_t y z).1 h2))
 ·exact (ltOf_f x z).2 (ltR_ntrans ((ltOf_f x y).1 h1) ((ltOf_f y z).1 h2))
def Q41 (l l':List TR):Prop:=l.length <= 1000000 /\ l'.Perm l /\ l'.Pairwise fun a b=>¬ ltR b a
def c37:Con:=⟨37,[.own 0,.fn 38 .unit .unit],[.many tR],.tup .unit,[.many tR],fun _=>none,some Q41⟩
def ok37:zAl Tryz.prog c37:=fun (l:List TR) hx ζ num H hH _=>by
 obtain ⟨y,hy⟩:=hx
 have hy:Q41 l y:=hy
 have hl:=hy.1
 obtain ⟨hel,hg⟩:=hH.row 0
 have hg:H.get (num 0) = some (.cells 3 (l.map (e0 tR))):=hg
 have hlt:=Heap.get_lt hg
 have ha:(zBH c37 l).map (enc (zAB num (zBm c37 l))) = [.sl (num 0) 0 l.length,.fn (.func 38) [] []]:=rfl
 rw [ha]
 refine (sort_sound (T:=tR) sorts41 cmp42 rfl rfl ⟨Tryz.f37,Tryz.func37,by kernel_rfl,by kernel_rfl⟩ (((ByteArray.empty,0,0):TR)) trivial (fun own U w=>⟨[.string ByteArray.empty,.int .i64 0,.int .i64 0],?_⟩) (l:=l) hg (fun _ _=>trivial) (Nat.lt_of_le_of_lt hl (by decide))).mono fun d H' h=>?_
 ·show VRels own U w 0 [.v (.string ByteArray.empty),.v (.int .i64 0),.v (.int .i64 0)] _
  simp [VRels,VRel]
 obtain ⟨rfl,l',hp,hs,rfl⟩:=h
 have hQ:Q41 l l':=⟨hl,hp,hs.imp fun {a b} hab=>(ltOf_f b a).1 hab⟩
 refine ⟨l',hQ,ζ,num,⟨fun r=>?_,fun r q hr hq hne'=>?_,fun r t x hr=>?_⟩,rfl,trivial,fun r hr=>?_,fun r hr hl=>?_⟩
 ·match r with
  | 0=>exact ⟨rfl,by rw [Heap.get_set H hlt,if_pos rfl]⟩
  | r + 1=>trivial
 ·match r,q with
  | 0,0=>exact absurd rfl hne'
  | r + 1,_=>cases hr
  | 0,q + 1=>cases hq
 ·match r with
  | 0=>cases hr
  | r + 1=>cases hr
 ·match r with
  | 0=>exact ⟨fun _=>rfl,fun h=>absurd h (by decide)⟩
  | r + 1=>cases hr
 ·match r with
  | 0=>exact hp.length_eq
  | r + 1=>exact absurd hr (by show ¬ r + 1 < 1;omega)
def F26 (x:Int × List Nm × Int):Option ((List Nm × Int) × Bool):=if x.2.1.length <= 1000000 then some ((x.2.1.reverse,x.2.2),true) else none
def c26:Con:=⟨26,[.int .i64,tS],[],.tup (.pr tS .bool),[],F26,none⟩
def ok26:zAl Tryz.prog c26:=by
 refine con_pure rfl rfl (fun (x:Int × List Nm × Int) v hv=>?_) (fun y=>rfl) fun (x:Int × List Nm × Int) hx=>?_
 ·have hv:v ∈ [(⟨.int .i64,x.1⟩:TV),⟨tS,x.2⟩]:=hv
  simp only [yAE,yAf,or_false] at hv
  rcases hv with rfl | rfl <;> rfl
 ·obtain ⟨i,p,w⟩:=x
  obtain ⟨y,hy⟩:=hx
  have hy:F26 (i,p,w) = some y:=hy
  unfold F26 at hy
  split at hy
  ·rename_i hl
   have hF:F26 (i,p,w) = some ((p.reverse,w),true):=if_pos hl
   exact Pure.mono (q_inv1 i p w hl) fun d hd=>⟨(((p.reverse,w),true):(List Nm × Int) × Bool),hF,hd⟩
  ·cases hy
open Go Go.T Go.Ab Go.Proofs
def F14 (x:(List (Int × (ByteArray × Int)))):(Option (List (ByteArray × (Int × Int)))) :=
call (F30 x) fun (r0:Int) =>
sel (ine r0 0) (some ([]:List (ByteArray × (Int × Int)))) <|
join (zBh (fun (s1:(Int × (List (ByteArray × Int)))) =>
sel (ilt s1.1 (n2i (zAE x))) (need (inL s1.1 (zAE x)) <|
some (.inl (zBA .i64 s1.1 1,mput seq s1.2 (((zAH (0,(⟨#[]⟩:ByteArray),0) x (i2n s1.1)).2).1) (zBA .i64 (mget seq 0 s1.2 (((zAH (0,(⟨#[]⟩:ByteArray),0) x (i2n s1.1)).2).1)) (((zAH (0,(⟨#[]⟩:ByteArray),0) x (i2n s1.1)).2).2))))) <|
some (.inr (.inl s1.2))) (0,([]:List (ByteArray × Int)))) fun (j2:(List (ByteArray × Int))) =>
need (mk 0 (n2i (zAE j2)) 32) <|
mrange j2 (fun (p3:(ByteArray × Int)) (s4:(List (ByteArray × (Int × Int)))) =>
call (F36 (x,p3.1)) fun (r5:Int) =>
need (room (zBl (zAE s4) (zAE ((p3.1,p3.2,r5) :: ([]:List (ByteArray × (Int × Int)))))) 32) <|
some (.inl (zBg s4 ((p3.1,p3.2,r5) :: ([]:List (ByteArray × (Int × Int))))))) (fun (s6:(List (ByteArray × (Int × Int)))) =>
up (callQ (Q41 s6) fun (r7:(List (ByteArray × (Int × Int)))) =>
some r7)) (lrep 0 ((⟨#[]⟩:ByteArray),0,0))
def c14:Con:=⟨14,[.sl (.agg (.pr (.int .i64) (.pr .str (.int .i64))))],[],.sl (.agg (.pr .str (.pr (.int .i64) (.int .i64)))),[],F14,none⟩
def ok14:zAl Tryz.prog c14:=zBM zCm [c30,c36,c37] (zAO ok30 (zAO ok36 (zAO ok37 (zBN)))) c14 Tryz.f14 (.n .o (.n .o (.n .o (.n (.n .o (.jb ⟨[0,3],[],[(0,.mp .str (.int .i64))],1,0⟩ (.l ⟨[0,3,13,14],[(15,.int .i64)],[(0,.mp .str (.int .i64))],1,1⟩ .o))) (.n .o (.n (.n .o (.b (.lm ⟨[0,31],[(6,.own 1)],[(1,.many (.agg (.pr .str (.pr (.int .i64) (.int .i64)))))],3,2⟩ 2 .o))) .o)))))) Tryz.func14
def F19a (x:((List (Int × (ByteArray × Int))) × (PUnit × ByteArray))):(Option ((List (Int × (ByteArray × Int))) × Int)) :=
call (F30 x.1) fun (r0:Int) =>
sel (ine r0 0) (some (([]:List (Int × (ByteArray × Int))),1)) <|
call (F17 x.1) fun (r1:(List ((List ByteArray) × Int))) =>
join (zBh (fun (s2:(Int × (List ((List ByteArray) × Int)))) =>
sel (ilt s2.1 (n2i (zAE r1))) (join (need (inL s2.1 (zAE r1)) <|
call (F20 (s2.1,zAH (([]:List ByteArray),0) r1 (i2n s2.1),x.2.2)) fun (r3:(((List ByteArray) × Int) × Bool)) =>
sel r3.2 (need (room (zBl (zAE s2.2) (zAE (r3.1 :: ([]:List ((List ByteArray) × Int))))) 32) <|
some (.inl (zBg s2.2 (r3.1 :: ([]:List ((List ByteArray) × Int)))))) <|
some (.inl s2.2)) fun (j4:(List ((List ByteArray) × Int))) =>
some (.inl (zBA .i64 s2.1 1,j4))) <|
some (.inr (.inl s2.2))) (0,([]:List ((List ByteArray) × Int)))) fun (j5:(List ((List ByteArray) × Int))) =>
call (F16 j5) fun (r6:((List (Int × (ByteArray × Int))) × Int)) =>
sel (ine r6.2 0) (some (([]:List (Int × (ByteArray × Int))),r6.2)) <|
some (r6.1,0)
def c19a:Con:=⟨19,[.sl (.agg (.pr (.int .i64) (.pr .str (.int .i64)))),.fn 20 .unit (.fp .str 0)],[],.tup (.pr (.sl (.agg (.pr (.int .i64) (.pr .str (.int .i64))))) (.int .i64)),[],F19a,none⟩
def ok19a:zAl Tryz.prog c19a:=zBM zCm [c30,c17,c16,c20] (zAO ok30 (zAO ok17 (zAO ok16 (zAO ok20 (zBN))))) c19a Tryz.f19 (.n .o (.n .o (.n .o (.n (.n .o (.jb ⟨[],[(6,.own 0)],[(0,.lst (.agg (.pr (.sl .str) (.int .i64))))],1,0⟩ (.l ⟨[1,17,18],[(6,.own 0),(19,.int .i64)],[(0,.lst (.agg (.pr (.sl .str) (.int .i64))))],1,1⟩ (.n .o (.n .o (.n (.jb ⟨[1,17,18,19],[(6,.own 0)],[(0,.lst (.agg (.pr (.sl .str) (.int .i64))))],1,2⟩ .o) .o)))))) .o)))) Tryz.func19
def F19c (x:(List (Int × (ByteArray × Int)))):(Option ((List (Int × (ByteArray × Int))) × Int)) :=
call (F30 x) fun (r0:Int) =>
sel (ine r0 0) (some (([]:List (Int × (ByteArray × Int))),1)) <|
call (F17 x) fun (r1:(List ((List ByteArray) × Int))) =>
join (zBh (fun (s2:(Int × (List ((List ByteArray) × Int)))) =>
sel (ilt s2.1 (n2i (zAE r1))) (join (need (inL s2.1 (zAE r1)) <|
call (F26 (s2.1,zAH (([]:List ByteArray),0) r1 (i2n s2.1))) fun (r3:(((List ByteArray) × Int) × Bool)) =>
sel r3.2 (need (room (zBl (zAE s2.2) (zAE (r3.1 :: ([]:List ((List ByteArray) × Int))))) 32) <|
some (.inl (zBg s2.2 (r3.1 :: ([]:List ((List ByteArray) × Int)))))) <|
some (.inl s2.2)) fun (j4:(List ((List ByteArray) × Int))) =>
some (.inl (zBA .i64 s2.1 1,j4))) <|
some (.inr (.inl s2.2))) (0,([]:List ((List ByteArray) × Int)))) fun (j5:(List ((List ByteArray) × Int))) =>
call (F16 j5) fun (r6:((List (Int × (ByteArray × Int))) × Int)) =>
sel (ine r6.2 0) (some (([]:List (Int × (ByteArray × Int))),r6.2)) <|
some (r6.1,0)
def c19c:Con:=⟨19,[.sl (.agg (.pr (.int .i64) (.pr .str (.int .i64)))),.fn 26 .unit .unit],[],.tup (.pr (.sl (.agg (.pr (.int .i64) (.pr .str (.int .i64))))) (.int .i64)),[],F19c,none⟩
def ok19c:zAl Tryz.prog c19c:=zBM zCm [c30,c17,c16,c26] (zAO ok30 (zAO ok17 (zAO ok16 (zAO ok26 (zBN))))) c19c Tryz.f19 (.n .o (.n .o (.n .o (.n (.n .o (.jb ⟨[],[(6,.own 0)],[(0,.lst (.agg (.pr (.sl .str) (.int .i64))))],1,0⟩ (.l ⟨[1,17,18],[(6,.own 0),(19,.int .i64)],[(0,.lst (.agg (.pr (.sl .str) (.int .i64))))],1,1⟩ (.n .o (.n .o (.n (.jb ⟨[1,17,18,19],[(6,.own 0)],[(0,.lst (.agg (.pr (.sl .str) (.int .i64))))],1,2⟩ .o) .o)))))) .o)))) Tryz.func19
def F9 (x:(List (Int × (ByteArray × Int)))):(Option ((List (Int × (ByteArray × Int))) × Int)) :=
call (F19c x) fun (r0:((List (Int × (ByteArray × Int))) × Int)) =>
some (r0.1,r0.2)
def c9:Con:=⟨9,[.sl (.agg (.pr (.int .i64) (.pr .str (.int .i64))))],[],.tup (.pr (.sl (.agg (.pr (.int .i64) (.pr .str (.int .i64))))) (.int .i64)),[],F9,none⟩
def ok9:zAl Tryz.prog c9:=zBM zCm [c19a,c19c] (zAO ok19a (zAO ok19c (zBN))) c9 Tryz.f9 (.o) Tryz.func9
def F6 (x:((List (Int × (ByteArray × Int))) × ByteArray)):(Option ((List (Int × (ByteArray × Int))) × Int)) :=
call (F19a (x.1,(),x.2)) fun (r0:((List (Int × (ByteArray × Int))) × Int)) =>
some (r0.1,r0.2)
def c6:Con:=⟨6,[.sl (.agg (.pr (.int .i64) (.pr .str (.int .i64)))),.str],[],.tup (.pr (.sl (.agg (.pr (.int .i64) (.pr .str (.int .i64))))) (.int .i64)),[],F6,none⟩
def ok6:zAl Tryz.prog c6:=zBM zCm [c20,c19a,c19c] (zAO ok20 (zAO ok19a (zAO ok19c (zBN)))) c6 Tryz.f6 (.o) Tryz.func6
end Go.Fl
namespace Go.Ab
variable [Go.Ab.DM]
def planOkS (ops:Array Oper):List (OpKind × Nat) -> Array Bool -> Bool
 | [],L=>(Region.ready .any ops L).isEmpty
 | (.pure,i) :: r,L=>Region.free .any ops L i && (Region.ready .any ops L).contains i && planOkS ops r (L.setIfInBounds i true)
 | (.load,i) :: r,L=>Region.free .any ops L i && (Region.ready .any ops L).contains i && planOkS ops r (L.setIfInBounds i true)
 | (.keep,i) :: r,L=>false
 | (.wr,i) :: r,L=>Region.ready .any ops L == [i] && planOkS ops r (L.setIfInBounds i true)
def goodPlanS (ops:Array Oper) (plan:List (OpKind × Nat)):Bool:=planOkS ops plan (Array.replicate ops.size false) && Region.noSelect ops && plan.length == ops.size
def Sb (B:Nat) (w w':World):Prop:=∀ b,b ≠ B -> w'.heap[b]? = w.heap[b]?
section
variable {P:Program} {f:FuncId} {N n0:Nat} {R:D -> Heap -> Prop} {K:List Item} {ops:Array Oper}
def load_off {t:TypeId} {H:Heap} {own X w} {a d:D} {v:Value} {q:Nat} {row:Row} (hs:Sim own H X w) (ha:Rel own H X w a v) (hq:H.get q = some row) (h:ldD P t (H.set q none) a = some d) :
  ∃ x,(∀ w':World,Sb (own q).b w w' -> (Instr.loadAt t v).run P w' = .ok x w') /\ Rel own H X w d x:=by
 unfold ldD at h
 split at h
 ·rename_i tg sz htg hsz
  split at h
  ·rename_i r i o
   split at h
   ·rename_i k xs hg0
    have hrq:r ≠ q:=fun e=>by
     subst e
     rw [Heap.get_set H (Heap.get_lt hq),if_pos rfl] at hg0;cases hg0
    have hg:H.get r = some (.cells k xs):=by rw [Heap.get_set H (Heap.get_lt hq),if_neg hrq] at hg0;exact hg0
    cases hx:xs[i]? with
    | none=>simp [hx] at h
    | some e =>
     simp [hx] at h
     rw [Rel,VRel] at ha;obtain ⟨h1,rfl⟩:=ha
     obtain ⟨⟨rfl,c,ty,h3,h4,h5,h6⟩,h7⟩:=hs.live r _ hg
     have he:=Cells_get h6 hx
     obtain ⟨x,h8,h9⟩:=elem_load htg hsz he h
     exact ⟨x,fun w' hw'=>by simpa [Instr.loadAt,Instr.sureAddr] using h8 w' (hw' _ (hs.excl r q _ _ hg hq hrq)),h9⟩
   ·simp at h
  ·rename_i k xs i o
   cases hx:xs[i]? with
   | none=>simp [hx] at h
   | some e =>
    simp [hx] at h
    rw [Rel,VRel] at ha;obtain ⟨b,off,rfl,h1,h2⟩:=ha
    have he:=Cells_get h2 hx
    obtain ⟨x,h8,h9⟩:=elem_load htg hsz he h
    exact ⟨x,fun w' hw'=>by simpa [Instr.loadAt,Instr.sureAddr] using h8 w' (hw' _ (fun e=>h1.2.2 q _ hq e.symm)),VRel_zero h9⟩
  ·simp at h
 ·simp at h
def store_off {t:TypeId} {H H':Heap} {own X w} {q i o:Nat} {x:D} {v u:Value} (hs:Sim own H X w) (ha:Rel own H X w (.pt q i o) v) (hx:Rel own H X w x u) (h:stD P t H (.pt q i o) x = some H') :
  ∃ w',(Instr.storeAt t v u).run P w = .ok () w' /\ Sim own H' X w' /\ Ext X own H w own H' w' /\ Sb (own q).b w w':=by
 obtain ⟨w',h1,h2,hext⟩:=store_sound (P:=P) hs ha hx h
 refine ⟨w',h1,h2,hext,?_⟩
 unfold stD at h
 split at h
 rotate_left
 ·simp at h
 rename_i tg sz htg hsz
 dsimp only at h
 split at h
 rotate_left
 ·simp at h
 rename_i k xs hg
 cases hxi:xs[i]? with
 | none=>simp [hxi] at h
 | some e =>
  simp only [hxi,yBP,yAb] at h
  obtain ⟨e',hp,rfl⟩:=h
  rw [Rel,VRel] at ha;obtain ⟨_,rfl⟩:=ha
  obtain ⟨⟨rfl,c,ty,h3,h4,h5,h6⟩,h7⟩:=hs.live q _ hg
  obtain ⟨g1,g2,g3,g4⟩:=putD_cells hp
  obtain ⟨hx1,hx2⟩:=VRel_lies hx g2
  have hlen:=zAi hx1
  obtain ⟨hw,hfl⟩:=Cells_flat.1 h6
  have hek:e.cells.length = (own q).k:=by rw [<- D.width_eq];exact hw e (yAt hxi)
  have hi:i < xs.length:=(yBW.1 hxi).1
  have hik:i * (own q).k + (own q).k <= xs.length * (own q).k:=by
   have:=yBY (own q).k (show i + 1 <= xs.length from hi);rw [yAv,Nat.one_mul] at this;exact this
  have hst:=run_storeCells_at P (own q).b ((own q).base + i * (own q).k + o) ty u.cells.toList 0 c w h3 (by rw [hlen];omega) (by simpa using hx2)
  simp only [Nat.add_zero,hlen] at hst
  have hsize:u.cells.size = sz:=by
   have:u.cells.size = x.cells.length:=by simpa using hlen
   rw [this]
   exact g1
  simp [Instr.storeAt,Instr.sureAddr,storeVar,zAn hsz,hsize,hst] at h1
  subst h1
  intro b hb
  rw [setRow_eq h3]
  simp [Ne.symm hb]
def sops (P:Program) (N q:Nat):List (OpKind × Oper) -> Env -> Heap -> (Env -> Heap -> Prop) -> Prop
 | [],e,H,T=>T e H
 | (.pure,o) :: r,e,H,T=>o.guard = none /\ dstOk N o.dst /\ zDI P .pure o e H fun d H'=>sops P N q r (updO e o.dst d) H' T
 | (.load,o) :: r,e,H,T=>o.guard = none /\ dstOk N o.dst /\ ∃ t a,o.op = .load t a /\ ∃ d0 d,ldD P t (H.set q none) (ev e a) = some d0 /\ (∀ (own:Nat -> Own) (U:Nat -> Prop) (w:World) (n:Nat) (v:Value),VRel own U w n d0 v -> VRel own U w n d v) /\ sops P N q r (updO e o.dst d) H T
 | (.wr,o) :: r,e,H,T=>o.guard = none /\ dstOk N o.dst /\ ∃ t a x,o.op = .store t a x /\ ∃ i off,ev e a = .pt q i off /\ ∃ H',stD P t H (.pt q i off) (ev e x) = some H' /\ sops P N q r (updO e o.dst (.v undef)) H' T
 | (.keep,o) :: r,e,H,T=>False
def sdraw_sound (hsel:Region.noSelect ops = true) {own0:Nat -> Own} {H0:Heap} {w0 wb:World} {X:Nat -> Prop} {q:Nat} {B:Nat}:∀ (plan:List (OpKind × Nat)) (L:Array Bool) (e:Env) (H:Heap),planOkS ops plan L = true ->
  sops P N q (zCQ ops plan) e H (fun e' H'=>Run P f N n0 R K e' H') -> ∀ own w tmps,Ext X own0 H0 w0 own H w -> tmps.size = N -> Sim own H X w -> EnvRel own H X w tmps e -> (own q).b = B -> (∃ row,H.get q = some row) -> Sb B wb w ->
  wpAnyH P .any ops (RegQ P f N n0 R K X own0 H0 w0) (Sb B wb) plan.length L ⟨tmps,[]⟩ w
 | [],L,e,H,hp,ha,own,w,tmps,hx,hN,hs,he,hB,hrow,hS=>⟨by simpa [planOkS] using hp,own,H,e,hN,rfl,hs,he,hx,ha⟩
 | (k,i) :: r,L,e,H,hp,ha,own,w,tmps,hx,hN,hs,he,hB,hrow,hS=>by
  have hready:i ∈ Region.ready .any ops L:=by
   cases k <;> simp only [planOkS,yAB] at hp
   ·simpa using hp.1.2
   ·simpa using hp.1.2
   ·cases hp
   ·have:=hp.1;rw [beq_iff_eq] at this;rw [this];simp
  obtain ⟨_,o,hi,_⟩:=mem_ready.1 hready
  have hpl:zCQ ops ((k,i) :: r) = (k,o) :: zCQ ops r:=by simp [zCQ,hi]
  rw [hpl] at ha
  have hρ:∀ x,Rel own H X w (ev e x) ((⟨tmps,[]⟩:Act).eval x):=fun x=>he.eval x
  have next:∀ (e':Env) (own1:Nat -> Own) (d:D) (H1:Heap) (v:Value) (w1:World),dstOk N o.dst -> planOkS ops r (L.setIfInBounds i true) = true -> e' = updO e o.dst d -> Sim own1 H1 X w1 -> Rel own1 H1 X w1 d v -> Ext X own H w own1 H1 w1 -> (own1 q).b = B -> (∃ row,H1.get q = some row) -> Sb B wb w1 ->
      (sops P N q (zCQ ops r) e' H1 fun e' H'=>Run P f N n0 R K e' H') -> Sb B wb w1 /\ wpAnyH P .any ops (RegQ P f N n0 R K X own0 H0 w0) (Sb B wb) r.length (L.setIfInBounds i true) ((⟨tmps,[]⟩:Act).put o.dst v) w1:=by
   intro e' own1 d H1 v w1 hd hp' he' h1 h2 h3 hB1 hrow1 hS1 h4
   subst he'
   have h5:=(he.ext h3).put (o:=o.dst) (by rw [hN];exact hd) h2 []
   have hsz:=put_size (tmps:=tmps) (ds:=[]) (o:=o.dst) (v:=v)
   have hdf:=put_defers (tmps:=tmps) (ds:=[]) (o:=o.dst) (v:=v)
   generalize (⟨tmps,[]⟩:Act).put o.dst v = a at *
   obtain ⟨tm,df⟩:=a
   simp at hsz hdf;subst hdf
   exact ⟨hS1,sdraw_sound hsel r _ _ H1 hp' h4 own1 w1 tm (Ext.trans hx h3) (by rw [hsz,hN]) h1 h5 hB1 hrow1 hS1⟩
  cases k with
  | pure =>
   simp only [planOkS,yAB] at hp
   simp only [sops] at ha
   obtain ⟨hg,hd,ha⟩:=ha
   obtain ⟨v,d,h1,h2,h3⟩:=apure_sound hs hρ ha
   exact wpAnyH_first hi (Region.noSelect_spec hsel) (fun c a w h=>zCt h) _ _ _ _ (Region.free_spec hi hp.1.1) hready (.inl ⟨by simp [Region.wanted,hg],fun w' _=>h1 w'⟩) hS (next _ own d H v w hd hp.2 rfl hs h2 (.refl _ _ _) hB hrow hS h3).2
  | load =>
   simp only [planOkS,yAB] at hp
   simp only [sops] at ha
   obtain ⟨hg,hd,t,a,ho,d0,d,hl,hle,ha⟩:=ha
   obtain ⟨row,hr⟩:=hrow
   obtain ⟨x,h3,h4⟩:=load_off (P:=P) hs (hρ a) hr hl
   refine wpAnyH_first hi (Region.noSelect_spec hsel) (fun c a w h=>zCt h) _ _ _ _ (Region.free_spec hi hp.1.1) hready (.inl ⟨by simp [Region.wanted,hg],fun w' hw'=>?_⟩) hS (next _ own d H x w hd hp.2 rfl hs (hle _ _ _ _ _ h4) (.refl _ _ _) hB ⟨row,hr⟩ hS ha).2
   have hw2:Sb (own q).b w w':=fun b hb=>by rw [hB] at hb;rw [hw' b hb,hS b hb]
   simp only [execOp,ho,Sem.run_bind,h3 w' hw2,Result.andThen_ok,Sem.run_pure]
  | keep=>simp only [planOkS] at hp;cases hp
  | wr =>
   simp only [planOkS,yAB,beq_iff_eq] at hp
   simp only [sops] at ha
   obtain ⟨hg,hd,t,a,x,ho,ii,off,hea,H',hst,ha⟩:=ha
   refine ⟨fun h=>(by rw [h] at hready;cases hready),fun j hj=>?_⟩
   rw [hp.1,yAm] at hj
   subst hj
   unfold wpOp
   simp only [hi,show Region.wanted o (yielded ops tmps) = true by simp [Region.wanted,hg],if_true]
   left
   obtain ⟨row,hr⟩:=hrow
   have hav:=hρ a
   rw [hea] at hav
   obtain ⟨w1,h1,h2,h3,h4⟩:=store_off (P:=P) hs hav (hρ x) hst
   unfold Oper.wp
   simp only [execOp,ho,Sem.run_bind,h1,Result.andThen_ok,Sem.run_pure,Oper.upon]
   have hrow1:∃ row,H'.get q = some row:=by
    unfold stD at hst
    split at hst
    rotate_left
    ·simp at hst
    dsimp only at hst
    split at hst
    rotate_left
    ·simp at hst
    rename_i k xs hgq
    simp only [yAb] at hst
    obtain ⟨e',_,rfl⟩:=hst
    exact ⟨_,by rw [Heap.get_set H (Heap.get_lt hgq),if_pos rfl]⟩
   refine next _ own (.v undef) H' undef w1 hd hp.2 rfl h2 (by simp [Rel,VRel]) h3 hB hrow1 (fun b hb=>?_) ha
   rw [h4 b (by rw [hB];exact hb),hS b hb]
def run_sdraw {id:Nat} {l:List Oper} {e:Env} {H:Heap} (q:Nat) (plan:List (OpKind × Nat)) (hm:P.follows .mixedOrders = true) (hp:goodPlanS l.toArray plan = true) {row:Row} (hq:H.get q = some row)
  (h:sops P N q (zCQ l.toArray plan) e H fun e' H'=>Run P f N n0 R K e' H'):Run P f N n0 R (.code (.region id l.toArray true) :: K) e H:=by
 intro hn own X w tmps cs hN hsim henv
 simp only [goodPlanS,yAB,beq_iff_eq] at hp
 have hwh:({ w with drawn:=w.drawn + 1 }:World).heap = w.heap:=rfl
 have hany:=sdraw_sound (f:=f) (n0:=n0) (R:=R) (K:=K) (q:=q) (B:=(own q).b) (wb:={ w with drawn:=w.drawn + 1 }) hp.1.2 plan _ e H hp.1.1 h own { w with drawn:=w.drawn + 1 } tmps (zDa own H w _ hwh) hN (sim_drawn hwh hsim) (henv.ext (zDa own H w _ hwh)) rfl ⟨row,hq⟩ (fun _ _=>rfl)
 rw [hp.2] at hany
 have hwp:(Code.region id l.toArray true).wp P (RegQ P f N n0 R K X own H w) ⟨tmps,[]⟩ w:=wp_region_held hm hany
 obtain ⟨ex,a',w',hq',harr⟩:=hwp (frameOf f) K cs
 cases ex with
 | normal =>
  obtain ⟨own1,H2,e2,h1,h2,h3,h4,h5,h6⟩:=hq'
  obtain ⟨tm,df⟩:=a'
  simp at h1 h2;subst h2
  exact Fin.of_steps hn h5 harr (h6 (yBN hn h5.hn) own1 X w' tm cs h1 h3 h4)
 | _=>exact hq'.elim
end
end Go.Ab
namespace Go.Fl
open Go Go.Ab Go.T Go.Proofs Go.Proofs.YtbhcfbnkdbioaaaGreat.AbT
abbrev bD (b:Bool):D:=.v (.bool b)
set_option maxHeartbeats 4000000 in
def q_pr (H:Heap) (rc rb:Nat) (i:Nat) (p:List Nm) (w:Int) (l:List Bool) (b:Bool) (hi:l[i]? = some b) {kk:Nat} {dc:D} (hc:H.get rc = some (.cells kk [dc])) (hagg:zBS dc = false) (hle:Tl dc (.sl rb 0 l.length)) (hb:H.get rb = some (.cells 1 (l.map bD))) :
  Sound Tryz.prog 32 [iD i,stD (p,w),.pt rc 0 0] H (fun d H'=>d = .tup [stD (p,w),bD b] /\ ∃ l',H' = H ++ l'):=by
 refine zBq Tryz.func32 rfl (by kernel_rfl) Tryz.ntmps32 (by simp) ?_
 have q1:∀ X,Heap.get (H ++ [X]) H.length = X:=fun X=>by rw [g_push,if_pos rfl]
 refine zAI fun Y0 hY0=>?_
 refine zAJ ?_
 try simp only [q1,↓zAN,EVq,TY,zAF,↓reduceIte,Nat.reduceLT,Nat.reduceLeDiff,Nat.reduceEqDiff,Nat.reduceAdd,Nat.reduceMul,Int.reduceLE,eq_self]
 refine zAD [0,2,4,5,6] ?_
 simp only [KQ,↓KP,↓reduceIte,Nat.reduceEqDiff]
 subst hY0
 refine zAI fun Y1 hY1=>?_
 have hpd:zBV false 1 dc 0 = some dc:=by cases dc <;> first | rfl | cases hagg
 have hlc:=Heap.get_lt hc
 have hlb:=Heap.get_lt hb
 have hil:i < l.length:=(yBW.1 hi).1
 generalize hG:H ++ [some (Row.cells 2 [stD (p,w)])] ++ [some (Row.cells 2 [D.agg [D.v (Value.slice none 0 0),D.v (Value.int IntKind.i64 0)]])] = G
 have e1:List.length (H ++ [some (Row.cells 2 [stD (p,w)])]) = H.length + 1:=by simp
 rw [e1]
 have hGl:G.length = H.length + 2:=by rw [<- hG];simp
 have g0:G.get H.length = some (.cells 2 [stD (p,w)]):=by rw [<- hG,g_push,if_neg (by simp),g_push,if_pos rfl]
 have g1:G.get (H.length + 1) = some (.cells 2 [D.agg [D.v (Value.slice none 0 0),D.v (Value.int IntKind.i64 0)]]):=by rw [<- hG,g_push,if_pos (by simp)]
 have gx:∀ x,x < H.length -> G.get x = H.get x:=fun x hx=>by rw [<- hG,g_push,if_neg (by simp;omega),g_push,if_neg (by omega)]
 have k0:Heap.get (List.set G (H.length + 1) none) H.length = some (.cells 2 [stD (p,w)]):=by rw [zCq (by omega),if_neg (by omega)];exact g0
 have kc:Heap.get (List.set G (H.length + 1) none) rc = some (.cells kk [dc]):=by rw [zCq (by omega),if_neg (by omega),gx rc hlc];exact hc
 have kb:Heap.get (List.set G (H.length + 1) none) rb = some (.cells 1 (l.map bD)):=by rw [zCq (by omega),if_neg (by omega),gx rb hlb];exact hb
 have kbG:Heap.get G rb = some (.cells 1 (l.map bD)):=by rw [gx rb hlb];exact hb
 have ke:(l.map bD)[i]? = some (bD b):=by rw [yAy,hi];rfl
 refine run_sdraw (H.length + 1) [(.load,0),(.load,1),(.pure,2),(.pure,3),(.load,4),(.wr,5),(.pure,6)] mixed (by kernel_rfl) g1 ?_
 try simp only [zDP,planned_nil,o_toList,↓zAN,EVq,TY,zAF,↓reduceIte,Nat.reduceLT,Nat.reduceLeDiff,Nat.reduceEqDiff,Nat.reduceAdd,Nat.reduceMul,Int.reduceLE,eq_self]
 simp only [sops,yBI,yAl,List.append_eq]
 refine ⟨trivial,?_,_,_,rfl,stD (p,w),stD (p,w),?_,fun _ _ _ _ _ h=>h,?_⟩
 ·(first | trivial | (simp [dstOk];done) | (unfold dstOk;decide))
 ·try simp only [k0,↓zAN,EVq,TY,zAF,↓reduceIte,Nat.reduceLT,Nat.reduceLeDiff,Nat.reduceEqDiff,Nat.reduceAdd,Nat.reduceMul,Int.reduceLE,eq_self]
 refine ⟨trivial,?_,_,_,rfl,dc,.sl rb 0 l.length,?_,hle,?_⟩
 ·(first | trivial | (simp [dstOk];done) | (unfold dstOk;decide))
 ·try simp only [kc,↓zAN,EVq,TY,zAF,↓reduceIte,Nat.reduceLT,Nat.reduceLeDiff,Nat.reduceEqDiff,Nat.reduceAdd,Nat.reduceMul,Int.reduceLE,eq_self]
  exact hpd
 refine ⟨trivial,?_,?_⟩
 ·(first | trivial | (simp [dstOk];done) | (unfold dstOk;decide))
 try simp only [kbG,↓zAN,EVq,TY,zAF,↓reduceIte,Nat.reduceLT,Nat.reduceLeDiff,Nat.reduceEqDiff,Nat.reduceAdd,Nat.reduceMul,Int.reduceLE,eq_self]
 refine zBi (by omega) ?_
 refine ⟨trivial,?_,_,_,rfl,bD b,bD b,?_,fun _ _ _ _ _ h=>h,?_⟩
 ·(first | trivial | (simp [dstOk];done) | (unfold dstOk;decide))
 ·have et:0 + ((i:Nat):Int).toNat = i:=by omega
  rw [show ((i:Int)).toNat = i from rfl,yAT]
  try simp only [kb,ke,↓zAN,EVq,TY,zAF,↓reduceIte,Nat.reduceLT,Nat.reduceLeDiff,Nat.reduceEqDiff,Nat.reduceAdd,Nat.reduceMul,Int.reduceLE,eq_self]
 refine ⟨trivial,?_,_,_,_,rfl,0,0,?_,List.set G (H.length + 1) (some (.cells 2 [stD (p,w)])),?_,?_⟩
 ·(first | trivial | (simp [dstOk];done) | (unfold dstOk;decide))
 ·try simp only [↓zAN,EVq,TY,zAF,↓reduceIte,Nat.reduceLT,Nat.reduceLeDiff,Nat.reduceEqDiff,Nat.reduceAdd,Nat.reduceMul,Int.reduceLE,eq_self]
 ·try simp only [g1,↓zAN,EVq,TY,zAF,↓reduceIte,Nat.reduceLT,Nat.reduceLeDiff,Nat.reduceEqDiff,Nat.reduceAdd,Nat.reduceMul,Int.reduceLE,eq_self]
 refine ⟨trivial,?_,?_⟩
 ·(first | trivial | (simp [dstOk];done) | (unfold dstOk;decide))
 try simp only [↓zAN,EVq,TY,zAF,↓reduceIte,Nat.reduceLT,Nat.reduceLeDiff,Nat.reduceEqDiff,Nat.reduceAdd,Nat.reduceMul,Int.reduceLE,eq_self]
 refine zAD [5,6] ?_
 simp only [KQ,↓KP,↓reduceIte,Nat.reduceEqDiff]
 subst hY1
 have h5:Heap.get (List.set G (H.length + 1) (some (.cells 2 [stD (p,w)]))) (H.length + 1) = some (.cells 2 [stD (p,w)]):=by rw [zCq (by omega),if_pos rfl]
 refine zBk Tryz.func32 Tryz.results32 (by simp only [aRes,↓zAZ,↓KP,KQ,↓reduceIte,Nat.reduceEqDiff,h5,zBU,TY] <;> rfl) (Weak.refl _ _ _) ?_
 refine ⟨rfl,[some (Row.cells 2 [stD (p,w)]),some (.cells 2 [stD (p,w)])],?_⟩
 rw [<- hG,yAQ,List.set_append_right _ _ (by omega)]
 simp
def F32 (x:Int × (List Nm × Int) × List Bool):Option (((List Nm × Int) × Bool) × List Bool):=if 0 <= x.1 /\ x.1 < x.2.2.length then some ((x.2.1,x.2.2.getD x.1.toNat false),x.2.2) else none
def c32:Con:=⟨32,[.int .i64,tS,.p0 0 0],[.one (.own 1),.lst .bool],.tup (.pr tS .bool),[.one (.own 1),.lst .bool],F32,none⟩
def ok32:zAl Tryz.prog c32:=fun (x:Int × (List Nm × Int) × List Bool) hx ζ num H hH _=>by
 obtain ⟨i,⟨p,w⟩,l⟩:=x
 obtain ⟨y,hy⟩:=hx
 have hy:F32 (i,(p,w),l) = some y:=hy
 have hl:0 <= i /\ i < l.length:=by
  unfold F32 at hy
  split at hy
  ·assumption
  ·cases hy
 have hF:F32 (i,(p,w),l) = some (((p,w),l.getD i.toNat false),l):=if_pos hl
 have hne:l ≠ []:=fun e=>by rw [e] at hl;simp at hl;omega
 obtain ⟨k,rfl⟩:=Int.eq_ofNat_of_zero_le hl.1
 have hk:k < l.length:=by omega
 have h0:=hH.row 0
 have h1:=hH.row 1
 have h2:(l.map bD)[k]? = some (bD l[k]):=by simp [hk]
 obtain ⟨_,kk,dc,hg0,hagg,htl⟩:=h0
 obtain ⟨_,hg1⟩:=h1
 have hg1:=hg1 hne
 have hE:∀ rows:T.Rows,T.zAA rows 1 = .lst .bool l -> enc (zAB num rows) ⟨.own 1,()⟩ = .sl (num 1) 0 l.length:=fun rows h=>by
  show ownD (num 1) (T.zAA rows 1) = _
  rw [h]
  cases l with
  | nil=>exact absurd rfl hne
  | cons a l=>rfl
 have htl:Tls dc.cells [.sl (num 1) 0 l.length]:=by rw [<- hE (zBm c32 ((k:Int),(p,w),l)) rfl];exact htl
 have hdc:dc.cells = [dc]:=by cases dc <;> first | rfl | cases hagg
 rw [hdc] at htl
 have hle:Tl dc (.sl (num 1) 0 l.length):=by cases htl with | cons h _=>exact h
 have hlk:l[k]? = some l[k]:=yAK hk
 refine (q_pr H (num 0) (num 1) k p w l l[k] hlk hg0 hagg hle hg1).mono fun d H' h=>?_
 obtain ⟨rfl,l',rfl⟩:=h
 have hgx:∀ x row,H.get x = some row -> Heap.get (H ++ l') x = some row:=fun x row hx=>by
  unfold Heap.get at hx ⊢
  have:x < H.length:=by
   rcases yAZ x H.length with h | h
   ·exact h
   ·rw [yAw h] at hx;simp at hx
  rw [yAe this];exact hx
 refine ⟨_,hF,ζ,num,⟨fun r=>?_,fun r q hr hq hne'=>?_,fun r t x hr=>?_⟩,?_,?_,fun r hr=>?_,fun r hr hl=>?_⟩
 ·match r with
  | 0=>exact ⟨rfl,kk,dc,hgx _ _ hg0,hagg,by rw [hdc];exact .cons (hle.trans (Tl.of_eq (hE _ rfl).symm)) .nil⟩
  | 1=>exact ⟨rfl,fun _=>hgx _ _ hg1⟩
  | r + 2=>trivial
 ·have hlt:∀ r,zAW (T.zAA (zAT c32 (((p,w),l.getD ((k:Int)).toNat false),l)) r) = true -> r < 2:=fun r h=>by
   match r with
   | 0=>omega
   | 1=>omega
   | r + 2=>cases h
  have:=hlt r hr
  have:=hlt q hq
  have h01:num 0 ≠ num 1:=hH.inj 0 1 rfl (by show zAW (.lst .bool l) = true;cases l with | nil=>exact absurd rfl hne | cons a l=>rfl) (by decide)
  match r,q with
  | 0,0=>exact absurd rfl hne'
  | 1,1=>exact absurd rfl hne'
  | 0,1=>exact h01
  | 1,0=>exact fun e=>h01 e.symm
 ·match r with
  | 0=>exact hH.ok 0 t x hr
  | 1=>cases hr
  | r + 2=>cases hr
 ·have hgd:l.getD ((k:Int)).toNat false = l[k]:=by
   show l.getD k false = l[k]
   rw [yAI,hlk];rfl
  rw [hgd]
  rfl
 ·exact zCR _ _ rfl
 ·match r with
  | 0=>exact ⟨fun _=>rfl,fun h=>absurd h (by decide)⟩
  | 1=>exact ⟨fun _=>rfl,fun h=>absurd h (by decide)⟩
  | r + 2=>cases hr
 ·match r with
  | 0=>cases hl
  | 1=>rfl
  | r + 2=>exact absurd hr (by show ¬ r + 2 < 2;omega)
open Go Go.T Go.Ab Go.Proofs
def F19b (x:((List (Int × (ByteArray × Int))) × (List Bool))):(Option (((List (Int × (ByteArray × Int))) × Int) × (List Bool))) :=
call (F30 x.1) fun (r0:Int) =>
sel (ine r0 0) (some ((([]:List (Int × (ByteArray × Int))),1),x.2)) <|
call (F17 x.1) fun (r1:(List ((List ByteArray) × Int))) =>
join (zBh (fun (s2:(Int × ((List Bool) × (List ((List ByteArray) × Int))))) =>
sel (ilt s2.1 (n2i (zAE r1))) (join (need (inL s2.1 (zAE r1)) <|
call (F32 (s2.1,zAH (([]:List ByteArray),0) r1 (i2n s2.1),s2.2.1)) fun (r3:((((List ByteArray) × Int) × Bool) × (List Bool))) =>
sel r3.1.2 (need (room (zBl (zAE s2.2.2) (zAE (r3.1.1 :: ([]:List ((List ByteArray) × Int))))) 32) <|
some (.inl (r3.2,zBg s2.2.2 (r3.1.1 :: ([]:List ((List ByteArray) × Int)))))) <|
some (.inl (r3.2,s2.2.2))) fun (j4:((List Bool) × (List ((List ByteArray) × Int)))) =>
some (.inl (zBA .i64 s2.1 1,j4.1,j4.2))) <|
some (.inr (.inl (s2.2.1,s2.2.2)))) (0,x.2,([]:List ((List ByteArray) × Int)))) fun (j5:((List Bool) × (List ((List ByteArray) × Int)))) =>
call (F16 j5.2) fun (r6:((List (Int × (ByteArray × Int))) × Int)) =>
sel (ine r6.2 0) (some ((([]:List (Int × (ByteArray × Int))),r6.2),j5.1)) <|
some ((r6.1,0),j5.1)
def c19b:Con:=⟨19,[.sl (.agg (.pr (.int .i64) (.pr .str (.int .i64)))),.fn 32 .unit (.p0 0 0)],[.one (.own 1),.lst .bool],.tup (.pr (.sl (.agg (.pr (.int .i64) (.pr .str (.int .i64))))) (.int .i64)),[.one (.own 1),.lst .bool],F19b,none⟩
def ok19b:zAl Tryz.prog c19b:=zBM zCm [c30,c17,c16,c32] (zAO ok30 (zAO ok17 (zAO ok16 (zAO ok32 (zBN))))) c19b Tryz.f19 (.n .o (.n .o (.n .o (.n (.n .o (.jb ⟨[],[(6,.own 2)],[(0,.one (.own 1)),(1,.lst .bool),(2,.lst (.agg (.pr (.sl .str) (.int .i64))))],3,0⟩ (.l ⟨[1,17,18],[(6,.own 2),(19,.int .i64)],[(0,.one (.own 1)),(1,.lst .bool),(2,.lst (.agg (.pr (.sl .str) (.int .i64))))],3,1⟩ (.n .o (.n .o (.n (.jb ⟨[1,17,18,19],[(6,.own 2)],[(0,.one (.own 1)),(1,.lst .bool),(2,.lst (.agg (.pr (.sl .str) (.int .i64))))],3,2⟩ .o) .o)))))) .o)))) Tryz.func19
def F11 (x:((List (Int × (ByteArray × Int))) × Int)):(Option ((List (Int × (ByteArray × Int))) × Int)) :=
call (F30 x.1) fun (r0:Int) =>
sel (ine r0 0) (some (([]:List (Int × (ByteArray × Int))),1)) <|
call (F31 x.1) fun (r1:(List Int)) =>
need (mk (n2i (zAE x.1)) (n2i (zAE x.1)) 1) <|
join (zBh (fun (s2:(Int × ((List Bool) × (List Bool)))) =>
sel (ilt s2.1 (n2i (zAE x.1))) (join (need (inL s2.1 (zAE x.1)) <|
need (inL s2.1 (zAE r1)) <|
need (impl (band (ile x.2 (zAH 0 r1 (i2n s2.1))) (zCr (ilt ((zAH (0,(⟨#[]⟩:ByteArray),0) x.1 (i2n s2.1)).1) 0))) (inL ((zAH (0,(⟨#[]⟩:ByteArray),0) x.1 (i2n s2.1)).1) (zAE s2.2.1))) <|
need (inL s2.1 (zAE s2.2.1)) <|
sel (ine (((zAH (0,(⟨#[]⟩:ByteArray),0) x.1 (i2n s2.1)).2).2) 0) (need (inL s2.1 (zAE (lset s2.2.1 (i2n s2.1) (zAL (ile x.2 (zAH 0 r1 (i2n s2.1))) (zAL (ilt ((zAH (0,(⟨#[]⟩:ByteArray),0) x.1 (i2n s2.1)).1) 0) true (zAH false s2.2.1 (i2n ((zAH (0,(⟨#[]⟩:ByteArray),0) x.1 (i2n s2.1)).1)))) false)))) <|
need (room (zBl (zAE s2.2.2) (zAE (zAH false (lset s2.2.1 (i2n s2.1) (zAL (ile x.2 (zAH 0 r1 (i2n s2.1))) (zAL (ilt ((zAH (0,(⟨#[]⟩:ByteArray),0) x.1 (i2n s2.1)).1) 0) true (zAH false s2.2.1 (i2n ((zAH (0,(⟨#[]⟩:ByteArray),0) x.1 (i2n s2.1)).1)))) false)) (i2n s2.1) :: ([]:List Bool)))) 1) <|
some (.inl (lset s2.2.1 (i2n s2.1) (zAL (ile x.2 (zAH 0 r1 (i2n s2.1))) (zAL (ilt ((zAH (0,(⟨#[]⟩:ByteArray),0) x.1 (i2n s2.1)).1) 0) true (zAH false s2.2.1 (i2n ((zAH (0,(⟨#[]⟩:ByteArray),0) x.1 (i2n s2.1)).1)))) false),zBg s2.2.2 (zAH false (lset s2.2.1 (i2n s2.1) (zAL (ile x.2 (zAH 0 r1 (i2n s2.1))) (zAL (ilt ((zAH (0,(⟨#[]⟩:ByteArray),0) x.1 (i2n s2.1)).1) 0) true (zAH false s2.2.1 (i2n ((zAH (0,(⟨#[]⟩:ByteArray),0) x.1 (i2n s2.1)).1)))) false)) (i2n s2.1) :: ([]:List Bool))))) <|
some (.inl (lset s2.2.1 (i2n s2.1) (zAL (ile x.2 (zAH 0 r1 (i2n s2.1))) (zAL (ilt ((zAH (0,(⟨#[]⟩:ByteArray),0) x.1 (i2n s2.1)).1) 0) true (zAH false s2.2.1 (i2n ((zAH (0,(⟨#[]⟩:ByteArray),0) x.1 (i2n s2.1)).1)))) false),s2.2.2))) fun (j3:((List Bool) × (List Bool))) =>
some (.inl (zBA .i64 s2.1 1,j3.1,j3.2))) <|
some (.inr (.inl s2.2.2))) (0,lrep (n2i (zAE x.1)) false,([]:List Bool))) fun (j4:(List Bool)) =>
call (F19b (x.1,j4)) fun (r5:(((List (Int × (ByteArray × Int))) × Int) × (List Bool))) =>
some (r5.1.1,r5.1.2)
def c11:Con:=⟨11,[.sl (.agg (.pr (.int .i64) (.pr .str (.int .i64)))),.int .i64],[],.tup (.pr (.sl (.agg (.pr (.int .i64) (.pr .str (.int .i64))))) (.int .i64)),[],F11,none⟩
def ok11:zAl Tryz.prog c11:=zBM zCm [c30,c31,c32,c19a,c19b,c19c] (zAO ok30 (zAO ok31 (zAO ok32 (zAO ok19a (zAO ok19b (zAO ok19c (zBN))))))) c11 Tryz.f11 (.n .o (.n .o (.n .o (.n .o (.n .o (.n (.n .o (.jb ⟨[0,8],[],[(0,.lst .bool),(1,.one (.own 0))],2,0⟩ (.l ⟨[0,1,6,7,8,19,20],[(21,.int .i64)],[(0,.many .bool),(1,.one (.own 2)),(2,.lst .bool)],3,1⟩ (.n .o (.n .o (.n (.jb ⟨[0,1,6,7,8,19,20,21],[],[(0,.many .bool),(1,.one (.own 2)),(2,.lst .bool)],3,2⟩ (.n .o (.n .o (.n .o (.n (.r [0,1,2,3,4,5,6,7]) .o))))) .o)))))) .o)))))) Tryz.func11
def F5 (x:PUnit):(Option Bool) :=
need (inS 0 1 (zAE ((⟨#[109,97,105,110]⟩:ByteArray) :: ((⟨#[114,117,110]⟩:ByteArray) :: ([]:List ByteArray))))) <|
call (F16 ((((⟨#[109,97,105,110]⟩:ByteArray) :: ((⟨#[114,117,110]⟩:ByteArray) :: ([]:List ByteArray))),2) :: ((zCI ((⟨#[109,97,105,110]⟩:ByteArray) :: ((⟨#[114,117,110]⟩:ByteArray) :: ([]:List ByteArray))) (i2n 0) (nsub (i2n 1) (i2n 0)),1) :: ((((⟨#[114,117,110]⟩:ByteArray) :: ((⟨#[109,97,105,110]⟩:ByteArray) :: ([]:List ByteArray))),4) :: ([]:List ((List ByteArray) × Int)))))) fun (r0:((List (Int × (ByteArray × Int))) × Int)) =>
call (F14 r0.1) fun (r1:(List (ByteArray × (Int × Int)))) =>
call (F9 r0.1) fun (r2:((List (Int × (ByteArray × Int))) × Int)) =>
call (F11 (r0.1,3)) fun (r3:((List (Int × (ByteArray × Int))) × Int)) =>
call (F17 r2.1) fun (r4:(List ((List ByteArray) × Int))) =>
sel (zAL (zAL (ieq r0.2 0) (ieq r2.2 0) false) (ieq r3.2 0) false) (call (sel (zAL (zAL (ieq r0.2 0) (ieq r2.2 0) false) (ieq r3.2 0) false) (F13 (r1,((⟨#[109,97,105,110]⟩:ByteArray),5,7) :: (((⟨#[114,117,110]⟩:ByteArray),2,6) :: ([]:List (ByteArray × (Int × Int)))))) <|
some false) fun (r5:Bool) =>
need (impl (zAL (zAL (zAL (zAL (ieq r0.2 0) (ieq r2.2 0) false) (ieq r3.2 0) false) r5 false) (ieq (n2i (zAE r4)) 3) false) (inL 1 (zAE r4))) <|
call (sel (zAL (zAL (zAL (zAL (ieq r0.2 0) (ieq r2.2 0) false) (ieq r3.2 0) false) r5 false) (ieq (n2i (zAE r4)) 3) false) (F18 ((zAH (([]:List ByteArray),0) r4 (i2n 1)).1,(⟨#[109,97,105,110]⟩:ByteArray) :: ((⟨#[114,117,110]⟩:ByteArray) :: ([]:List ByteArray)))) <|
some false) fun (r6:Bool) =>
need (impl (zAL (zAL (zAL (zAL (zAL (ieq r0.2 0) (ieq r2.2 0) false) (ieq r3.2 0) false) r5 false) (ieq (n2i (zAE r4)) 3) false) r6 false) (inL 1 (zAE r4))) <|
call (sel (zAL (zAL (zAL (zAL (zAL (zAL (ieq r0.2 0) (ieq r2.2 0) false) (ieq r3.2 0) false) r5 false) (ieq (n2i (zAE r4)) 3) false) r6 false) (ieq ((zAH (([]:List ByteArray),0) r4 (i2n 1)).2) 4) false) (F17 r3.1) <|
some ([]:List ((List ByteArray) × Int))) fun (r7:(List ((List ByteArray) × Int))) =>
some (zAL (zAL (zAL (zAL (zAL (zAL (zAL (ieq r0.2 0) (ieq r2.2 0) false) (ieq r3.2 0) false) r5 false) (ieq (n2i (zAE r4)) 3) false) r6 false) (ieq ((zAH (([]:List ByteArray),0) r4 (i2n 1)).2) 4) false) (ieq (n2i (zAE r7)) 2) false)) <|
need (zCr (zAL (zAL (ieq r0.2 0) (ieq r2.2 0) false) (ieq r3.2 0) false)) <|
need (impl (zAL (zAL (zAL (zAL (ieq r0.2 0) (ieq r2.2 0) false) (ieq r3.2 0) false) false false) (ieq (n2i (zAE r4)) 3) false) (inL 1 (zAE r4))) <|
call (sel (zAL (zAL (zAL (zAL (ieq r0.2 0) (ieq r2.2 0) false) (ieq r3.2 0) false) false false) (ieq (n2i (zAE r4)) 3) false) (F18 ((zAH (([]:List ByteArray),0) r4 (i2n 1)).1,(⟨#[109,97,105,110]⟩:ByteArray) :: ((⟨#[114,117,110]⟩:ByteArray) :: ([]:List ByteArray)))) <|
some false) fun (r8:Bool) =>
need (impl (zAL (zAL (zAL (zAL (zAL (ieq r0.2 0) (ieq r2.2 0) false) (ieq r3.2 0) false) false false) (ieq (n2i (zAE r4)) 3) false) r8 false) (inL 1 (zAE r4))) <|
call (sel (zAL (zAL (zAL (zAL (zAL (zAL (ieq r0.2 0) (ieq r2.2 0) false) (ieq r3.2 0) false) false false) (ieq (n2i (zAE r4)) 3) false) r8 false) (ieq ((zAH (([]:List ByteArray),0) r4 (i2n 1)).2) 4) false) (F17 r3.1) <|
some ([]:List ((List ByteArray) × Int))) fun (r9:(List ((List ByteArray) × Int))) =>
some (zAL (zAL (zAL (zAL (zAL (zAL (zAL (ieq r0.2 0) (ieq r2.2 0) false) (ieq r3.2 0) false) false false) (ieq (n2i (zAE r4)) 3) false) r8 false) (ieq ((zAH (([]:List ByteArray),0) r4 (i2n 1)).2) 4) false) (ieq (n2i (zAE r9)) 2) false)
def c5:Con:=⟨5,[],[],.bool,[],F5,none⟩
def ok5:zAl Tryz.prog c5:=zBM zCm [c16,c14,c9,c11,c17,c13,c18] (zAO ok16 (zAO ok14 (zAO ok9 (zAO ok11 (zAO ok17 (zAO ok13 (zAO ok18 (zBN)))))))) c5 Tryz.f5 (.o) Tryz.func5
open Go Go.T Go.Pl
namespace Fo
def kid:Fo -> Nm -> Int × Fo
 | .nil,_=>(0,.nil)
 | .cons n s sub rest,m=>if n = m then (s,sub) else rest.kid m
end Fo
def Wx:Int × Fo -> List Nm -> Int
 | x,[]=>x.1
 | x,m :: q=>Wx (x.2.kid m) q
def Wx_nil:∀ q:List Nm,Wx (0,.nil) q = 0
 | []=>rfl
 | m :: q=>Wx_nil q
def slt_ne {a b:Nm} (h:slt a b = true):a ≠ b:=fun e=>slt_irr a (by rw [e] at h ⊢;exact h)
namespace Fo
def kid_no:∀ {F:Fo} {m:Nm},m ∉ F.heads -> F.kid m = (0,.nil)
 | .nil,_,_=>rfl
 | .cons n s sub rest,m,h=>by
  rw [heads,yAE,not_or] at h
  rw [kid,if_neg fun e=>h.1 e.symm,kid_no h.2]
def kid_srt:∀ {F:Fo} {m:Nm},F.Srt -> (F.kid m).2.Srt
 | .nil,_,_=>trivial
 | .cons n s sub rest,m,h=>by
  rw [kid];split
  ·exact h.2.1
  ·exact kid_srt h.2.2
def not_head {n:Nm} {F:Fo} (h:∀ m ∈ F.heads,slt n m = true):n ∉ F.heads:=fun hn=>slt_irr n (h n hn)
def kid_at {n:Nm} {g:Int × Fo -> Int × Fo}:∀ {F:Fo} {m:Nm},F.Srt -> (F.at' n g).kid m = if m = n then g (F.kid n) else F.kid m
 | .nil,m,_=>by
  simp only [at',kid]
  by_cases h:n = m
  ·rw [if_pos h,if_pos h.symm]
  ·rw [if_neg h,if_neg (Ne.symm h)]
 | .cons k s sub rest,m,hF=>by
  obtain ⟨h1,h2,h3⟩:=hF
  rw [at']
  by_cases c1:slt n k = true
  ·rw [if_pos c1]
   have hk:k ≠ n:=(slt_ne c1).symm
   have hn:n ∉ rest.heads:=fun hn=>slt_asymm c1 (h1 n hn)
   have e:(Fo.cons k s sub rest).kid n = (0,.nil):=by rw [kid,if_neg hk,kid_no hn]
   rw [e]
   by_cases hm:m = n
   ·subst hm;rw [if_pos rfl,kid,if_pos rfl]
   ·rw [if_neg hm,kid,if_neg (Ne.symm hm)]
  rw [if_neg c1]
  by_cases c2:k = n
  ·subst c2
   rw [if_pos rfl]
   simp only [kid]
   by_cases hm:m = k
   ·subst hm;simp
   ·rw [if_neg (Ne.symm hm),if_neg hm,if_neg (Ne.symm hm)]
  ·rw [if_neg c2]
   simp only [kid]
   rw [if_neg c2,kid_at h3]
   by_cases hm:k = m
   ·subst hm;rw [if_pos rfl,if_neg c2,if_pos rfl]
   ·rw [if_neg hm,if_neg hm]
end Fo
def W_ins (w:Int):∀ (p:List Nm) (x:Int × Fo) (q:List Nm),x.2.Srt -> Wx (insN x p w) q = Wx x q + if q = p then w else 0
 | [],x,[],_=>by simp [insN,Wx]
 | [],x,m :: q,_=>by simp [insN,Wx]
 | n :: p,x,[],_=>by simp [insN,Wx]
 | n :: p,x,m :: q,h=>by
  show Wx ((x.2.at' n fun y=>insN y p w).kid m) q = Wx (x.2.kid m) q + _
  rw [Fo.kid_at h]
  by_cases hm:m = n
  ·subst hm
   rw [if_pos rfl,W_ins w p _ q (Fo.kid_srt h)]
   simp
  ·rw [if_neg hm]
   simp [hm]
def zCP (l:List Sk) (q:List Nm):Int:=((l.filter fun x=>decide (x.1 = q)).map (·.2)).sum
def sumAt_nil (q:List Nm):zCP [] q = 0:=rfl
def zAv (x:Sk) (l:List Sk) (q:List Nm):zCP (x :: l) q = (if x.1 = q then x.2 else 0) + zCP l q:=by
 unfold zCP
 by_cases h:x.1 = q
 ·rw [yAo (by simpa using h),if_pos h];simp
 ·rw [yAp (by simpa using h),if_neg h];simp
def sumAt_app (l l':List Sk) (q:List Nm):zCP (l ++ l') q = zCP l q + zCP l' q:=by
 unfold zCP;rw [yBF,yAV,List.sum_append]
def zDO {l:List Sk} {q:List Nm} (h:∀ x ∈ l,x.1 ≠ q):zCP l q = 0:=by
 induction l with
 | nil=>rfl
 | cons x l ih =>
  rw [zAv,if_neg (h x yAN),ih fun y hy=>h y (yAF _ hy)];simp
def jn_srt (l:List Sk):∀ x:Int × Fo,x.2.Srt -> (jnGo x l).2.Srt:=by
 induction l with
 | nil=>exact fun x h=>h
 | cons y l ih=>exact fun x h=>ih _ (srt_ins y.2 y.1 x h)
def jn_W (l:List Sk):∀ (x:Int × Fo) (q:List Nm),x.2.Srt -> Wx (jnGo x l) q = Wx x q + zCP l q:=by
 induction l with
 | nil=>intro x q _;simp [jnGo,zCP]
 | cons y l ih =>
  intro x q h
  rw [jnGo,ih _ _ (srt_ins y.2 y.1 x h),W_ins _ _ _ _ h,zAv]
  by_cases e:q = y.1
  ·rw [if_pos e,if_pos e.symm];omega
  ·rw [if_neg e,if_neg (Ne.symm e)];omega
namespace Fo
def stk_path:∀ {F:Fo} {p:List Nm} {x:Sk},x ∈ F.stk p -> ∃ m q,x.1 = p ++ m :: q /\ m ∈ F.heads /\ x.2 ≠ 0
 | .nil,p,x,h=>by cases h
 | .cons n s sub rest,p,x,h=>by
  rw [stk,yAO,yAO] at h
  rcases h with h | h | h
  ·split at h
   ·rw [yAm] at h
    subst h
    exact ⟨n,[],rfl,yAN,by assumption⟩
   ·cases h
  ·obtain ⟨m,q,h1,h2,h3⟩:=stk_path h
   exact ⟨n,m :: q,by rw [h1];simp,yAN,h3⟩
  ·obtain ⟨m,q,h1,h2,h3⟩:=stk_path h
   exact ⟨m,q,h1,yAF _ h2,h3⟩
def stk_W:∀ {F:Fo} (p:List Nm) (m:Nm) (q:List Nm),F.Srt -> zCP (F.stk p) (p ++ m :: q) = Wx (0,F) (m :: q)
 | .nil,p,m,q,_=>(Wx_nil q).symm
 | .cons n s sub rest,p,m,q,h=>by
  obtain ⟨h1,h2,h3⟩:=h
  rw [stk,sumAt_app,sumAt_app]
  show _ = Wx ((Fo.cons n s sub rest).kid m) q
  rw [kid]
  by_cases hm:n = m
  ·subst hm
   rw [if_pos rfl]
   have hr:zCP (rest.stk p) (p ++ n :: q) = 0:=zDO fun x hx=>by
    obtain ⟨m,q',e1,e2,_⟩:=stk_path hx
    intro e
    rw [e1] at e
    have:=List.append_cancel_left e
    simp only [yAq] at this
    exact slt_irr n (by have:=this.1;subst this;exact h1 _ e2)
   rw [hr]
   have hs:zCP (if s ≠ 0 then [(p ++ [n],s)] else []) (p ++ n :: q) = if q = [] then s else 0:=by
    by_cases hs:s ≠ 0
    ·rw [if_pos hs,zAv,sumAt_nil]
     by_cases hq:q = []
     ·subst hq;simp
     ·have:p ++ [n] ≠ p ++ n :: q:=fun e=>by
       have:=List.append_cancel_left e
       simp only [yAq,true_and] at this
       exact hq this.symm
      rw [if_neg this,if_neg hq];rfl
    ·have:s = 0:=by simpa using hs
     subst this
     rw [if_neg (by simp),sumAt_nil]
     split <;> rfl
   rw [hs]
   cases q with
   | nil =>
    have:zCP (sub.stk (p ++ [n])) (p ++ [n]) = 0:=zDO fun x hx=>by
     obtain ⟨m,q',e1,_⟩:=stk_path hx
     intro e
     rw [e1] at e
     have:=congrArg List.length e
     simp at this
    rw [this]
    simp [Wx]
   | cons a q =>
    have:=stk_W (F:=sub) (p ++ [n]) a q h2
    rw [yAQ] at this
    simp only [List.singleton_append] at this
    rw [this]
    simp [Wx]
  ·rw [if_neg hm]
   have hr:=stk_W p m q h3
   rw [hr]
   show _ = Wx (rest.kid m) q
   have hs:zCP (if s ≠ 0 then [(p ++ [n],s)] else []) (p ++ m :: q) = 0:=zDO fun x hx=>by
    split at hx
    ·rw [yAm] at hx
     subst hx
     intro e
     have:=List.append_cancel_left e
     simp only [yAq] at this
     exact hm this.1
    ·cases hx
   have hsub:zCP (sub.stk (p ++ [n])) (p ++ m :: q) = 0:=zDO fun x hx=>by
    obtain ⟨m',q',e1,_⟩:=stk_path hx
    intro e
    rw [e1,yAQ] at e
    have:=List.append_cancel_left e
    simp only [List.singleton_append,yAq] at this
    exact hm this.1
   rw [hs,hsub]
   show 0 + (0 + Wx (rest.kid m) q) = _
   omega
def stk_sum {F:Fo} (q:List Nm) (h:F.Srt):zCP (F.stk []) q = if q = [] then 0 else Wx (0,F) q:=by
 cases q with
 | nil =>
  rw [if_pos rfl]
  exact zDO fun x hx=>by
   obtain ⟨m,q',e1,_⟩:=stk_path hx
   rw [e1];simp
 | cons m q=>rw [if_neg (by simp)];exact stk_W [] m q h
instance:(F:Fo) -> Decidable (F = .nil)
 | .nil=>.isTrue rfl
 | .cons _ _ _ _=>.isFalse (by simp)
def prune:Fo -> Fo
 | .nil=>.nil
 | .cons n s sub rest=>if s = 0 /\ sub.prune = .nil then rest.prune else .cons n s sub.prune rest.prune
def prune_heads:∀ {F:Fo} {m:Nm},m ∈ F.prune.heads -> m ∈ F.heads
 | .nil,m,h=>h
 | .cons n s sub rest,m,h=>by
  rw [prune] at h
  split at h
  ·exact yAF _ (prune_heads h)
  ·rw [heads,yAE] at h
   rcases h with rfl | h
   ·exact yAN
   ·exact yAF _ (prune_heads h)
def prune_srt:∀ {F:Fo},F.Srt -> F.prune.Srt
 | .nil,_=>trivial
 | .cons n s sub rest,h=>by
  rw [prune]
  split
  ·exact prune_srt h.2.2
  ·exact ⟨fun m hm=>h.1 m (prune_heads hm),prune_srt h.2.1,prune_srt h.2.2⟩
def prune_kid:∀ {F:Fo} {m:Nm},F.Srt -> F.prune.kid m = ((F.kid m).1,(F.kid m).2.prune)
 | .nil,m,_=>rfl
 | .cons n s sub rest,m,h=>by
  rw [prune,kid]
  split
  ·rename_i c
   rw [prune_kid h.2.2]
   by_cases hm:n = m
   ·subst hm
    rw [if_pos rfl,kid_no (not_head h.1)]
    simp only [prune];rw [c.1,c.2]
   ·rw [if_neg hm]
  ·rw [kid,prune_kid h.2.2]
   by_cases hm:n = m
   ·rw [if_pos hm,if_pos hm]
   ·rw [if_neg hm,if_neg hm]
end Fo
def prune_W:∀ (q:List Nm) (x:Int × Fo),x.2.Srt -> Wx (x.1,x.2.prune) q = Wx x q
 | [],x,_=>rfl
 | m :: q,x,h=>by
  show Wx (x.2.prune.kid m) q = Wx (x.2.kid m) q
  rw [Fo.prune_kid h]
  exact prune_W q _ (Fo.kid_srt h)
namespace Fo
def Pr:Fo -> Prop
 | .nil=>True
 | .cons n s sub rest=>(s = 0 -> sub ≠ .nil) /\ sub.Pr /\ rest.Pr
def prune_pr:∀ F:Fo,F.prune.Pr
 | .nil=>trivial
 | .cons n s sub rest=>by
  rw [prune]
  split
  ·exact prune_pr rest
  ·rename_i h
   exact ⟨fun h0 hn=>h ⟨h0,hn⟩,prune_pr sub,prune_pr rest⟩
def prune_len:∀ F:Fo,F.prune.len <= F.len
 | .nil=>yAJ _
 | .cons n s sub rest=>by
  have h1:=prune_len sub;have h2:=prune_len rest
  rw [prune];split
  ·rw [len];omega
  ·rw [len,len];omega
def enc_nil {F:Fo} {par:Int} {pl:Nat}:F.enc par pl = [] ↔ F = .nil:=by
 cases F with
 | nil=>simp [enc]
 | cons n s sub rest=>simp [enc]
def vis_prune:∀ (F:Fo) (par:Int) (pl:Nat),F.vis par pl = F.prune.enc par pl
 | .nil,_,_=>rfl
 | .cons n s sub rest,par,pl=>by
  rw [vis,prune,vis_prune sub,vis_prune rest]
  by_cases h:s = 0 /\ sub.prune = .nil
  ·rw [if_pos h,if_pos (by rw [enc_nil];exact h)]
   simp
  ·rw [if_neg h,if_neg (by rw [enc_nil];exact h),enc]
   have e:pl + ((par,n,s) :: sub.prune.enc (↑pl) (pl + 1)).length = pl + 1 + sub.prune.len:=by rw [yAY,enc_len];omega
   rw [e];rfl
def pr_live:∀ {F:Fo},F.Srt -> F.Pr -> ∀ n ∈ F.heads,∃ q,Wx (0,F) (n :: q) ≠ 0
 | .nil,_,_,n,hn=>by cases hn
 | .cons k s sub rest,h,hp,n,hn=>by
  have key:∃ q,Wx (s,sub) q ≠ 0:=by
   by_cases hs:s = 0
   ·have hsub:=hp.1 hs
    cases hsb:sub with
    | nil=>exact absurd hsb hsub
    | cons a b c d =>
     have:=pr_live h.2.1 hp.2.1 a (by rw [hsb];exact yAN)
     obtain ⟨q,hq⟩:=this
     rw [hsb] at hq
     exact ⟨a :: q,hq⟩
   ·exact ⟨[],hs⟩
  rw [heads,yAE] at hn
  by_cases hnk:k = n
  ·subst hnk
   obtain ⟨q,hq⟩:=key
   exact ⟨q,by show Wx ((Fo.cons k s sub rest).kid k) q ≠ 0;rw [kid,if_pos rfl];exact hq⟩
  ·obtain ⟨q,hq⟩:=pr_live h.2.2 hp.2.2 n (hn.resolve_left (Ne.symm hnk))
   exact ⟨q,by show Wx ((Fo.cons k s sub rest).kid n) q ≠ 0;rw [kid,if_neg hnk];exact hq⟩
def uniq:∀ {F G:Fo},F.Srt -> G.Srt -> F.Pr -> G.Pr -> (∀ q,Wx (0,F) q = Wx (0,G) q) -> F = G
 | .nil,.nil,_,_,_,_,_=>rfl
 | .nil,.cons n s sub rest,_,hG,_,pG,h=>by
  obtain ⟨q,hq⟩:=pr_live hG pG n yAN
  exact absurd ((h _).symm.trans (Wx_nil _)) hq
 | .cons n s sub rest,.nil,hF,_,pF,_,h=>by
  obtain ⟨q,hq⟩:=pr_live hF pF n yAN
  exact absurd ((h _).trans (Wx_nil _)) hq
 | .cons n s sub rest,.cons m t sub' rest',hF,hG,pF,pG,h=>by
  have no:∀ {a b:Nm} {G:Fo},slt a b = true -> (∀ c ∈ G.heads,slt b c = true) -> a ∉ G.heads:=fun h1 h2 h3=>slt_asymm h1 (h2 _ h3)
  have hnm:n = m:=by
   rcases slt_tri n m with c | c | c
   ·obtain ⟨q,hq⟩:=pr_live hF pF n yAN
    refine absurd ((h _).trans ?_) hq
    show Wx ((Fo.cons m t sub' rest').kid n) q = 0
    rw [kid,if_neg (slt_ne c).symm,kid_no (no c hG.1)];exact Wx_nil q
   ·exact c
   ·obtain ⟨q,hq⟩:=pr_live hG pG m yAN
    refine absurd ((h _).symm.trans ?_) hq
    show Wx ((Fo.cons n s sub rest).kid m) q = 0
    rw [kid,if_neg (slt_ne c).symm,kid_no (no c hF.1)];exact Wx_nil q
  subst hnm
  have hk:∀ q,Wx (s,sub) q = Wx (t,sub') q:=fun q=>by
   have:=h (n :: q)
   simp only [Wx,kid,if_true] at this
   exact this
  have hs:s = t:=hk []
  subst hs
  have e1:sub = sub':=uniq hF.2.1 hG.2.1 pF.2.1 pG.2.1 fun q=>by
   cases q with
   | nil=>rfl
   | cons a q=>exact hk (a :: q)
  have e2:rest = rest':=uniq hF.2.2 hG.2.2 pF.2.2 pG.2.2 fun q=>by
   cases q with
   | nil=>rfl
   | cons a q =>
    by_cases ha:n = a
    ·subst ha
     show Wx (rest.kid n) q = Wx (rest'.kid n) q
     rw [kid_no (not_head hF.1),kid_no (not_head hG.1)]
    ·have:=h (a :: q)
     simp only [Wx,kid,if_neg ha] at this
     exact this
  rw [e1,e2]
def keep (P:List Nm -> Bool):Fo -> List Nm -> Fo
 | .nil,_=>.nil
 | .cons n s sub rest,p=>.cons n (if P (p ++ [n]) = true then s else 0) (sub.keep P (p ++ [n])) (rest.keep P p)
def keep_heads (P:List Nm -> Bool):∀ (F:Fo) (p:List Nm),(F.keep P p).heads = F.heads
 | .nil,_=>rfl
 | .cons n s sub rest,p=>by rw [keep,heads,heads,keep_heads P rest]
def keep_len (P:List Nm -> Bool):∀ (F:Fo) (p:List Nm),(F.keep P p).len = F.len
 | .nil,_=>rfl
 | .cons n s sub rest,p=>by rw [keep,len,len,keep_len P rest,keep_len P sub]
def keep_srt (P:List Nm -> Bool):∀ {F:Fo} (p:List Nm),F.Srt -> (F.keep P p).Srt
 | .nil,_,_=>trivial
 | .cons n s sub rest,p,h=>⟨by rw [keep_heads];exact h.1,keep_srt P _ h.2.1,keep_srt P _ h.2.2⟩
def keep_kid (P:List Nm -> Bool):∀ (F:Fo) (p:List Nm) (m:Nm),(F.keep P p).kid m = (if P (p ++ [m]) = true then (F.kid m).1 else 0,(F.kid m).2.keep P (p ++ [m]))
 | .nil,p,m=>by simp [keep,kid]
 | .cons n s sub rest,p,m=>by
  rw [keep,kid,kid]
  by_cases hm:n = m
  ·subst hm;rw [if_pos rfl,if_pos rfl]
  ·rw [if_neg hm,if_neg hm,keep_kid P rest]
end Fo
def keep_W (P:List Nm -> Bool):∀ (q:List Nm) (s:Int) (F:Fo) (p:List Nm),Wx (if P p = true then s else 0,F.keep P p) q = if P (p ++ q) = true then Wx (s,F) q else 0
 | [],s,F,p=>by rw [yAS];rfl
 | m :: q,s,F,p=>by
  show Wx ((F.keep P p).kid m) q = if _ then Wx (F.kid m) q else 0
  rw [Fo.keep_kid,keep_W P q,yAQ];rfl
def keep_W0 (P:List Nm -> Bool) (F:Fo) (q:List Nm):Wx (0,F.keep P []) q = if P q = true then Wx (0,F) q else 0:=by
 have:=keep_W P q 0 F []
 rw [show (if P [] = true then (0:Int) else 0) = 0 by split <;> rfl] at this
 simpa using this
namespace Fo
def Nd:Fo -> Nat -> Prop
 | .nil,_=>True
 | .cons n s sub rest,d=>(1 <= n.size /\ n.size <= 60) /\ d < 64 /\ sub.Nd (d + 1) /\ rest.Nd d
def good_of:∀ {F:Fo} {d:Nat},F.Srt -> F.Pr -> F.Nd d -> F.okW = true -> F.Good d
 | .nil,_,_,_,_,_=>trivial
 | .cons n s sub rest,d,h1,h2,h3,h4=>by
  rw [okW,yAB,yAB] at h4
  exact ⟨⟨h3.1.1,h3.1.2,of_decide_eq_true h4.1⟩,h2.1,h3.2.1,h1.1,good_of h1.2.1 h2.2.1 h3.2.2.1 h4.2.1,good_of h1.2.2 h2.2.2 h3.2.2.2 h4.2.2⟩
def Good.srt:∀ {F:Fo} {d:Nat},F.Good d -> F.Srt
 | .nil,_,_=>trivial
 | .cons n s sub rest,d,⟨h1,h2,h3,h4,h5,h6⟩=>⟨h4,h5.srt,h6.srt⟩
def Good.pr:∀ {F:Fo} {d:Nat},F.Good d -> F.Pr
 | .nil,_,_=>trivial
 | .cons n s sub rest,d,⟨h1,h2,h3,h4,h5,h6⟩=>⟨h2,h5.pr,h6.pr⟩
def Good.nd:∀ {F:Fo} {d:Nat},F.Good d -> F.Nd d
 | .nil,_,_=>trivial
 | .cons n s sub rest,d,⟨h1,h2,h3,h4,h5,h6⟩=>⟨⟨h1.1,h1.2.1⟩,h3,h5.nd,h6.nd⟩
def Good.w:∀ {F:Fo} {d:Nat},F.Good d -> F.okW = true
 | .nil,_,_=>rfl
 | .cons n s sub rest,d,⟨h1,h2,h3,h4,h5,h6⟩=>by rw [okW,yAB,yAB];exact ⟨decide_eq_true h1.2.2,h5.w,h6.w⟩
def prune_nd:∀ {F:Fo} {d:Nat},F.Nd d -> F.prune.Nd d
 | .nil,_,_=>trivial
 | .cons n s sub rest,d,h=>by
  rw [prune];split
  ·exact prune_nd h.2.2.2
  ·exact ⟨h.1,h.2.1,prune_nd h.2.2.1,prune_nd h.2.2.2⟩
def prune_w:∀ {F:Fo},F.okW = true -> F.prune.okW = true
 | .nil,_=>rfl
 | .cons n s sub rest,h=>by
  rw [okW,yAB,yAB] at h
  rw [prune];split
  ·exact prune_w h.2.2
  ·rw [okW,h.1,prune_w h.2.1,prune_w h.2.2];rfl
def w_of:∀ {F:Fo},F.Srt -> (∀ q,wOk (Wx (0,F) q) = true) -> F.okW = true
 | .nil,_,_=>rfl
 | .cons n s sub rest,h,hw=>by
  have hk:∀ q,wOk (Wx (s,sub) q) = true:=fun q=>by
   have:=hw (n :: q)
   simp only [Wx,kid,if_true] at this
   exact this
  have h0:wOk 0 = true:=rfl
  rw [okW,show wOk s = true from hk [],w_of h.2.1 (fun q=>?_),w_of h.2.2 (fun q=>?_)]
  ·rfl
  rotate_left
  ·cases q with
   | nil=>exact h0
   | cons a q=>exact hk (a :: q)
  ·cases q with
   | nil=>exact h0
   | cons a q =>
    by_cases ha:n = a
    ·subst ha
     show wOk (Wx (rest.kid n) q) = true
     rw [kid_no (not_head h.1),Wx_nil];exact h0
    ·have:=hw (a :: q)
     simp only [Wx,kid,if_neg ha] at this
     exact this
def nd_at {n:Nm} {g:Int × Fo -> Int × Fo} (hn:1 <= n.size /\ n.size <= 60) {d:Nat} (hd:d < 64) (hg:∀ x,x.2.Nd (d + 1) -> (g x).2.Nd (d + 1)):∀ {F:Fo},F.Nd d -> (F.at' n g).Nd d
 | .nil,_=>⟨hn,hd,hg _ trivial,trivial⟩
 | .cons k s sub rest,h=>by
  rw [at'];split
  ·exact ⟨hn,hd,hg _ trivial,h⟩
  split
  ·exact ⟨h.1,h.2.1,hg _ h.2.2.1,h.2.2.2⟩
  ·exact ⟨h.1,h.2.1,h.2.2.1,nd_at hn hd hg h.2.2.2⟩
end Fo
def nd_ins (w:Int):∀ (p:List Nm) (d:Nat) (x:Int × Fo),(∀ n ∈ p,1 <= n.size /\ n.size <= 60) -> p.length + d <= 64 -> x.2.Nd d -> (insN x p w).2.Nd d
 | [],_,x,_,_,h=>h
 | n :: p,d,x,hp,hl,h=>Fo.nd_at (hp n yAN) (by rw [yAY] at hl;omega) (fun y hy=>nd_ins w p (d + 1) y (fun m hm=>hp m (yAF _ hm)) (by rw [yAY] at hl;omega) hy) h
def jn_nd (l:List Sk) (h:∀ y ∈ l,y.1.length <= 64 /\ ∀ n ∈ y.1,1 <= n.size /\ n.size <= 60):∀ x:Int × Fo,x.2.Nd 0 -> (jnGo x l).2.Nd 0:=by
 induction l with
 | nil=>exact fun x h=>h
 | cons y l ih=>exact fun x hx=>ih (fun z hz=>h z (yAF _ hz)) _ (nd_ins y.2 y.1 0 x (h y yAN).2 (h y yAN).1 hx)
def stk_fine:∀ {F:Fo} {p:List Nm},F.Good p.length -> (∀ n ∈ p,1 <= n.size /\ n.size <= 60) -> ∀ x ∈ F.stk p,x.1.length <= 64 /\ (∀ n ∈ x.1,1 <= n.size /\ n.size <= 60) /\ wOk x.2 = true /\ x.1 ≠ []
 | .nil,p,_,_,x,hx=>by cases hx
 | .cons n s sub rest,p,⟨h1,h2,h3,h4,h5,h6⟩,hp,x,hx=>by
  have hp':∀ m ∈ p ++ [n],1 <= m.size /\ m.size <= 60:=fun m hm=>by
   rcases yAO.1 hm with hm | hm
   ·exact hp m hm
   ·rw [yAm] at hm;subst hm;exact ⟨h1.1,h1.2.1⟩
  rw [Fo.stk,yAO,yAO] at hx
  rcases hx with hx | hx | hx
  ·split at hx
   ·rw [yAm] at hx;subst hx
    exact ⟨by simp;omega,hp',decide_eq_true h1.2.2,by simp⟩
   ·cases hx
  ·exact stk_fine (p:=p ++ [n]) (by simpa using h5) hp' x hx
  ·exact stk_fine h6 hp x hx
def chk_fine {x:Sk} (h:x.1.length <= 64 /\ (∀ n ∈ x.1,1 <= n.size /\ n.size <= 60) /\ wOk x.2 = true /\ x.1 ≠ []):chk x = 0:=by
 unfold chk
 have h0:x.1.length ≠ 0:=fun e=>h.2.2.2 (yBL.1 e)
 rw [if_neg h0,if_neg (by omega),if_neg,if_pos h.2.2.1]
 intro hb
 obtain ⟨n,hn,hb⟩:=yBQ.1 hb
 have:=h.2.1 n hn
 unfold nmOk at hb
 rw [yBR,decide_eq_false_iff_not] at hb
 exact hb this
def of_jn:∀ (l:List Sk) (x:Int × Fo),(∀ y ∈ l,y.1.length <= 64 /\ (∀ n ∈ y.1,1 <= n.size /\ n.size <= 60) /\ wOk y.2 = true /\ y.1 ≠ []) -> ofGo x l = flR (jnGo x l).2
 | [],x,_=>rfl
 | y :: l,x,h=>by
  rw [ofGo,if_neg (by rw [chk_fine (h y yAN)];simp),of_jn l _ fun z hz=>h z (yAF _ hz)];rfl
def flR_of {F G:Fo} (hF:F.Srt) (hG:G.Srt) (hW:∀ q,Wx (0,F) q = Wx (0,G) q) (hw:G.okW = true) (hl:G.len <= 2000):flR F = (G.prune.enc (-1) 0,0):=by
 have e:F.prune = G.prune:=Fo.uniq (Fo.prune_srt hF) (Fo.prune_srt hG) (Fo.prune_pr F) (Fo.prune_pr G) fun q=>by
  rw [show Wx (0,F.prune) q = Wx (0,F) q from prune_W q (0,F) hF,show Wx (0,G.prune) q = Wx (0,G) q from prune_W q (0,G) hG,hW]
 have hW2:∀ {F:Fo},F.okW = true -> ∀ q,wOk (Wx (0,F) q) = true:=by
  have key:∀ (q:List Nm) (s:Int) (F:Fo),wOk s = true -> F.okW = true -> wOk (Wx (s,F) q) = true:=by
   have kk:∀ (F:Fo) (m:Nm),F.okW = true -> wOk (F.kid m).1 = true /\ (F.kid m).2.okW = true:=by
    intro F m
    induction F with
    | nil=>exact fun _=>⟨rfl,rfl⟩
    | cons n s sub rest ih1 ih2 =>
     intro h
     rw [Fo.okW,yAB,yAB] at h
     rw [Fo.kid];split
     ·exact ⟨h.1,h.2.1⟩
     ·exact ih2 h.2.2
   intro q
   induction q with
   | nil=>exact fun s F h _=>h
   | cons m q ih=>exact fun s F _ hF=>ih _ _ (kk F m hF).1 (kk F m hF).2
  exact @fun F hF q=>key q 0 F rfl hF
 have hwF:F.okW = true:=Fo.w_of hF fun q=>by rw [hW];exact hW2 hw q
 unfold flR
 have hlen:(F.vis (-1) 0).length <= 2000:=by
  rw [Fo.vis_prune,Fo.enc_len,e]
  exact yBN (Fo.prune_len G) hl
 rw [if_pos hwF,if_neg (by omega),Fo.vis_prune,e]
def prune_good {F:Fo} (h1:F.Srt) (h3:F.Nd 0) (h4:F.okW = true):F.prune.Good 0:=Fo.good_of (Fo.prune_srt h1) (Fo.prune_pr F) (Fo.prune_nd h3) (Fo.prune_w h4)
open Go Go.T Go.Pl
def fl_pos {c:List Nm -> Bool} {x:Sk} {l:List Sk} (h:c x.1 = true):(x :: l).filter (fun y=>c y.1) = x :: l.filter (fun y=>c y.1):=yAo (p:=fun y:Sk=>c y.1) h
def fl_neg {c:List Nm -> Bool} {x:Sk} {l:List Sk} (h:¬ c x.1 = true):(x :: l).filter (fun y=>c y.1) = l.filter (fun y=>c y.1):=yAp (p:=fun y:Sk=>c y.1) h
def sumAt_keep (P:List Nm -> Bool) (l:List Sk) (q:List Nm):zCP (l.filter fun x=>P x.1) q = if P q = true then zCP l q else 0:=by
 induction l with
 | nil=>rw [List.filter_nil,sumAt_nil];split <;> rfl
 | cons x l ih =>
  by_cases h:P x.1 = true
  ·rw [fl_pos h,zAv,zAv,ih]
   by_cases e:x.1 = q
   ·subst e;rw [if_pos rfl,if_pos h,if_pos h]
   ·rw [if_neg e];split <;> omega
  ·rw [fl_neg h,ih,zAv]
   by_cases e:x.1 = q
   ·subst e;rw [if_neg h,if_neg h]
   ·rw [if_neg e];split <;> omega
abbrev rvs (l:List Sk):List Sk:=l.map fun x=>(x.1.reverse,x.2)
def sumAt_rev (l:List Sk) (q:List Nm):zCP (rvs l) q = zCP l q.reverse:=by
 induction l with
 | nil=>rfl
 | cons x l ih =>
  show zCP ((x.1.reverse,x.2) :: rvs l) q = _
  rw [zAv,zAv,ih]
  by_cases e:x.1 = q.reverse
  ·rw [if_pos e,if_pos (by show x.1.reverse = q;rw [e,List.reverse_reverse])]
  ·rw [if_neg e,if_neg (fun h=>e (by have h:x.1.reverse = q:=h;rw [<- h,List.reverse_reverse]))]
def stk_W0 {F:Fo} (q:List Nm) (h:F.Srt):zCP (F.stk []) q = Wx (0,F) q:=by
 rw [Fo.stk_sum q h]
 split
 ·rename_i e;subst e;rfl
 ·rfl
abbrev tr (l:List Sk):Fo:=(jnGo (0,.nil) l).2
def tr_srt (l:List Sk):(tr l).Srt:=jn_srt l _ trivial
def W_snd:∀ (q:List Nm) (x:Int × Fo),q ≠ [] -> Wx (0,x.2) q = Wx x q
 | [],x,h=>absurd rfl h
 | m :: q,x,_=>rfl
def tr_W {l:List Sk} (h:∀ x ∈ l,x.1 ≠ []) (q:List Nm):Wx (0,tr l) q = zCP l q:=by
 cases q with
 | nil=>exact (zDO fun x hx=>h x hx).symm
 | cons m q =>
  rw [W_snd _ _ (by simp),jn_W l (0,.nil) _ trivial,Wx_nil];simp
def FineL (l:List Sk):Prop:=∀ x ∈ l,x.1.length <= 64 /\ (∀ n ∈ x.1,1 <= n.size /\ n.size <= 60) /\ wOk x.2 = true /\ x.1 ≠ []
def stk_fineL {F:Fo} (h:F.Good 0):FineL (F.stk []):=stk_fine (p:=[]) h (by simp)
def FineL.filter {l:List Sk} (h:FineL l) (P:Sk -> Bool):FineL (l.filter P):=fun x hx=>h x (List.mem_filter.1 hx).1
def FineL.rvs {l:List Sk} (h:FineL l):FineL (rvs l):=fun x hx=>by
 obtain ⟨y,hy,rfl⟩:=yBC.1 hx
 obtain ⟨h1,h2,h3,h4⟩:=h y hy
 exact ⟨by simpa using h1,fun n hn=>h2 n (by simpa using hn),h3,by simpa using h4⟩
def FineL.ne {l:List Sk} (h:FineL l):∀ x ∈ l,x.1 ≠ []:=fun x hx=>(h x hx).2.2.2
def FineL.nd {l:List Sk} (h:FineL l):(tr l).Nd 0:=jn_nd l (fun y hy=>⟨(h y hy).1,(h y hy).2.1⟩) _ trivial
def of_tr {l:List Sk} (h:FineL l):ofGo (0,.nil) l = flR (tr l):=of_jn l _ h
def of_same {l:List Sk} {G:Fo} (h:FineL l) (hG:G.Srt) (hW:∀ q,zCP l q = Wx (0,G) q) (hw:G.okW = true) (hl:G.len <= 2000):ofGo (0,.nil) l = (G.prune.enc (-1) 0,0):=by
 rw [of_tr h]
 exact flR_of (tr_srt l) hG (fun q=>by rw [tr_W h.ne];exact hW q) hw hl
def keep_w (P:List Nm -> Bool):∀ {F:Fo} {p:List Nm},F.okW = true -> (F.keep P p).okW = true
 | .nil,_,_=>rfl
 | .cons n s sub rest,p,h=>by
  rw [Fo.okW,yAB,yAB] at h
  rw [Fo.keep,Fo.okW,keep_w P h.2.1,keep_w P h.2.2]
  split
  ·rw [h.1];rfl
  ·rfl
def keep_nd (P:List Nm -> Bool):∀ {F:Fo} {d:Nat} {p:List Nm},F.Nd d -> (F.keep P p).Nd d
 | .nil,_,_,_=>trivial
 | .cons n s sub rest,d,p,h=>⟨h.1,h.2.1,keep_nd P h.2.2.1,keep_nd P h.2.2.2⟩
abbrev kp (P:List Nm -> Bool) (F:Fo):Fo:=(F.keep P []).prune
def kp_good (P:List Nm -> Bool) {F:Fo} (h:F.Good 0):(kp P F).Good 0:=prune_good (Fo.keep_srt P [] h.srt) (keep_nd P h.nd) (keep_w P h.w)
def kp_len (P:List Nm -> Bool) (F:Fo):(kp P F).len <= F.len:=yBN (Fo.prune_len _) (Nat.le_of_eq (Fo.keep_len P F []))
def of_keep (P:List Nm -> Bool) {F:Fo} (h:F.Good 0) (hl:F.len <= 2000):ofGo (0,.nil) ((F.stk []).filter fun x=>P x.1) = ((kp P F).enc (-1) 0,0) :=
 of_same ((stk_fineL h).filter _) (Fo.keep_srt P [] h.srt) (fun q=>by rw [sumAt_keep,keep_W0,stk_W0 q h.srt]) (keep_w P h.w) (by rw [Fo.keep_len];exact hl)
def of_rev {F:Fo} (h:F.Good 0):ofGo (0,.nil) (rvs (F.stk [])) = ([],4) \/ ∃ G:Fo,G.Good 0 /\ G.len <= 2000 /\ ofGo (0,.nil) (rvs (F.stk [])) = (G.enc (-1) 0,0) /\ G = (tr (rvs (F.stk []))).prune /\ ∀ q,Wx (0,G) q = Wx (0,F) q.reverse:=by
 have hf:=(stk_fineL h).rvs
 have hW:∀ q,Wx (0,tr (rvs (F.stk []))) q = Wx (0,F) q.reverse:=fun q=>by rw [tr_W hf.ne,sumAt_rev,stk_W0 _ h.srt]
 have hw2:∀ q,wOk (Wx (0,F) q) = true:=by
  have key:∀ (q:List Nm) (s:Int) (F:Fo),wOk s = true -> F.okW = true -> wOk (Wx (s,F) q) = true:=by
   have kk:∀ (F:Fo) (m:Nm),F.okW = true -> wOk (F.kid m).1 = true /\ (F.kid m).2.okW = true:=by
    intro F m
    induction F with
    | nil=>exact fun _=>⟨rfl,rfl⟩
    | cons n s sub rest ih1 ih2 =>
     intro h
     rw [Fo.okW,yAB,yAB] at h
     rw [Fo.kid];split
     ·exact ⟨h.1,h.2.1⟩
     ·exact ih2 h.2.2
   intro q
   induction q with
   | nil=>exact fun s F h _=>h
   | cons m q ih=>exact fun s F _ hF=>ih _ _ (kk F m hF).1 (kk F m hF).2
  exact fun q=>key q 0 _ rfl h.w
 have hwF:(tr (rvs (F.stk []))).okW = true:=Fo.w_of (tr_srt _) fun q=>by rw [hW];exact hw2 _
 rw [of_tr hf]
 unfold flR
 rw [if_pos hwF]
 by_cases hl:2000 < ((tr (rvs (F.stk []))).vis (-1) 0).length
 ·rw [if_pos hl];exact .inl rfl
 ·rw [if_neg hl]
  rw [Fo.vis_prune,Fo.enc_len] at hl
  refine .inr ⟨(tr (rvs (F.stk []))).prune,prune_good (tr_srt _) hf.nd hwF,by omega,by rw [Fo.vis_prune],rfl,fun q=>?_⟩
  rw [show Wx (0,(tr (rvs (F.stk []))).prune) q = Wx (0,tr (rvs (F.stk []))) q from prune_W q (0,_) (tr_srt _),hW]
namespace Fo
def msr (c:List Nm -> Bool):Fo -> List Nm -> Int
 | .nil,_=>0
 | .cons n s sub rest,p=>(if c (p ++ [n]) = true then s else 0) + (sub.msr c (p ++ [n]) + rest.msr c p)
def stk_msr (c:List Nm -> Bool):∀ (F:Fo) (p:List Nm),(((F.stk p).filter fun x=>c x.1).map (·.2)).sum = F.msr c p
 | .nil,_=>rfl
 | .cons n s sub rest,p=>by
  rw [stk,msr,yBF,yBF,yAV,yAV,List.sum_append,List.sum_append,stk_msr c sub,stk_msr c rest]
  congr 1
  by_cases hs:s ≠ 0
  ·rw [if_pos hs]
   by_cases hc:c (p ++ [n]) = true
   ·rw [fl_pos (x:=(p ++ [n],s)) hc,if_pos hc];simp
   ·rw [fl_neg (x:=(p ++ [n],s)) hc,if_neg hc];rfl
  ·have:s = 0:=by simpa using hs
   subst this
   rw [if_neg (by simp)]
   split <;> rfl
end Fo
def stk_len:∀ (F:Fo) (p:List Nm),(F.stk p).length <= F.len
 | .nil,_=>yAJ _
 | .cons n s sub rest,p=>by
  have h1:=stk_len sub (p ++ [n]);have h2:=stk_len rest p
  rw [Fo.stk,Fo.len,yAD,yAD]
  split <;> simp <;> omega
open Go Go.T Go.Pl
section
variable {S E:Type}
def Goes (b:S -> Option (S ⊕ E)) (s s':S):Prop:=∀ e,zBh b s' = some e -> zBh b s = some e
def Goes.refl (b:S -> Option (S ⊕ E)) (s:S):Goes b s s:=fun _ h=>h
def Goes.trans {b:S -> Option (S ⊕ E)} {s s' s'':S} (h:Goes b s s') (g:Goes b s' s''):Goes b s s'':=fun e he=>h e (g e he)
def Goes.one {b:S -> Option (S ⊕ E)} {s s':S} (h:b s = some (.inl s')):Goes b s s':=fun e he=>iter_l h he
def Goes.fin {b:S -> Option (S ⊕ E)} {s s':S} {e:E} (h:Goes b s s') (g:b s' = some (.inr e)):zBh b s = some e:=h e (iter_r g)
end
def At {α:Type} (x:List α) (pl:Nat) (l:List α):Prop:=∀ i v,l[i]? = some v -> x[pl + i]? = some v
def At.head {α:Type} {x:List α} {pl:Nat} {v:α} {l:List α} (h:At x pl (v :: l)):x[pl]? = some v:=h 0 v rfl
def At.tail {α:Type} {x:List α} {pl:Nat} {v:α} {l:List α} (h:At x pl (v :: l)):At x (pl + 1) l:=fun i w hw=>by
 have:=h (i + 1) w (by simpa using hw)
 rw [show pl + 1 + i = pl + (i + 1) by omega];exact this
def At.left {α:Type} {x:List α} {pl:Nat} {l l':List α} (h:At x pl (l ++ l')):At x pl l:=fun i v hv=>h i v (by
 have:i < l.length:=by
  rcases yAZ i l.length with h | h
  ·exact h
  ·rw [yAw h] at hv;cases hv
 rw [yAe this];exact hv)
def At.right {α:Type} {x:List α} {pl:Nat} {l l':List α} (h:At x pl (l ++ l')):At x (pl + l.length) l':=fun i v hv=>by
 have:=h (l.length + i) v (by rw [yAa (by omega)];simpa using hv)
 rw [show pl + l.length + i = pl + (l.length + i) by omega];exact this
def At.all {α:Type} (x:List α):At x 0 x:=fun i v hv=>by rw [yAT];exact hv
def At.lt {α:Type} {x:List α} {pl:Nat} {v:α} (h:x[pl]? = some v):pl < x.length:=by
 rcases yAZ pl x.length with h' | h'
 ·exact h'
 ·rw [yAw h'] at h;cases h
def zCF {α:Type} {x:List α} {pl:Nat} {v d:α} (h:x[pl]? = some v):zAH d x (i2n (pl:Int)) = v:=by
 show x.getD pl d = v
 rw [yAI,h];rfl
def zAj {α:Type} {l:List α} {i:Nat} (h:i < l.length):inL (i:Int) (zAE l) = true:=inL_t h
def zBe {n b:Nat} (h:n * b <= 140737488355328):room n b = true:=decide_eq_true h
def seq_t {a b:Nm}:seq a b = decide (a = b):=by
 unfold seq
 by_cases h:a = b
 ·subst h;simp
 ·rw [decide_eq_false h,beq_eq_false_iff_ne]
  intro e
  rw [ByteArray.toList_eq,ByteArray.toList_eq] at e
  exact h (nm_ext e)
def inS_t {d n:Nat} (h:d <= n):inS 0 (d:Int) n = true:=by unfold inS;simp;omega
def depth_in {R:Type} {par:Int} {depths:List Int} {d:Nat} (hl:depths.length <= 2000) (hd:d <= 100) (h:(par = -1 /\ d = 0) \/ ∃ k:Nat,par = k /\ k < depths.length /\ depths.getD k 0 + 1 = (d:Int)) :
  (sel (ile 0 par) (need (inL par (zAE depths)) (some (.inl (zBA .i64 (zAH 0 depths (i2n par)) 1)))) (some (.inl 0)):Option (Int ⊕ R)) = some (.inl (d:Int)):=by
 rcases h with ⟨rfl,rfl⟩ | ⟨k,rfl,hk,he⟩
 ·rfl
 ·rw [zAy (by rw [ile_d];simp),zAG (zAj hk)]
  show some (Sum.inl (zBA .i64 (depths.getD k 0) 1)) = _
  rw [zBp (by omega) (by omega),he]
abbrev St16:=Int × List Sk × List Nm × List Int
def b16 (x:(List (Int × (ByteArray × Int)))):St16 -> Option (St16 ⊕ (List Sk ⊕ List Sk)) :=
(fun (s1:(Int × ((List ((List ByteArray) × Int)) × ((List ByteArray) × (List Int))))) =>
sel (ilt s1.1 (n2i (zAE x))) (join (need (inL s1.1 (zAE x)) <|
join (sel (ile 0 ((zAH (0,(⟨#[]⟩:ByteArray),0) x (i2n s1.1)).1)) (need (inL ((zAH (0,(⟨#[]⟩:ByteArray),0) x (i2n s1.1)).1) (zAE s1.2.2.2)) <|
some (.inl (zBA .i64 (zAH 0 s1.2.2.2 (i2n ((zAH (0,(⟨#[]⟩:ByteArray),0) x (i2n s1.1)).1))) 1))) <|
some (.inl 0)) fun (j2:Int) =>
need (room (zBl (zAE s1.2.2.2) (zAE (j2 :: ([]:List Int)))) 8) <|
need (inS 0 j2 (zAE s1.2.2.1)) <|
need (room (zBl (zAE (zCI s1.2.2.1 (i2n 0) (nsub (i2n j2) (i2n 0)))) (zAE (((zAH (0,(⟨#[]⟩:ByteArray),0) x (i2n s1.1)).2).1 :: ([]:List ByteArray)))) 16) <|
need (nlt 0 (zAE (((zAH (0,(⟨#[]⟩:ByteArray),0) x (i2n s1.1)).2).1 :: ([]:List ByteArray)))) <|
sel (ine (((zAH (0,(⟨#[]⟩:ByteArray),0) x (i2n s1.1)).2).2) 0) (need (room (zAE (zBg (zCI s1.2.2.1 (i2n 0) (nsub (i2n j2) (i2n 0))) (((zAH (0,(⟨#[]⟩:ByteArray),0) x (i2n s1.1)).2).1 :: ([]:List ByteArray)))) 16) <|
need (room (zBl (zAE s1.2.1) (zAE ((zBg (zCI s1.2.2.1 (i2n 0) (nsub (i2n j2) (i2n 0))) (((zAH (0,(⟨#[]⟩:ByteArray),0) x (i2n s1.1)).2).1 :: ([]:List ByteArray)),((zAH (0,(⟨#[]⟩:ByteArray),0) x (i2n s1.1)).2).2) :: ([]:List ((List ByteArray) × Int))))) 32) <|
some (.inl (zBg s1.2.1 ((zBg (zCI s1.2.2.1 (i2n 0) (nsub (i2n j2) (i2n 0))) (((zAH (0,(⟨#[]⟩:ByteArray),0) x (i2n s1.1)).2).1 :: ([]:List ByteArray)),((zAH (0,(⟨#[]⟩:ByteArray),0) x (i2n s1.1)).2).2) :: ([]:List ((List ByteArray) × Int))),zBg (zCI s1.2.2.1 (i2n 0) (nsub (i2n j2) (i2n 0))) (((zAH (0,(⟨#[]⟩:ByteArray),0) x (i2n s1.1)).2).1 :: ([]:List ByteArray)),zBg s1.2.2.2 (j2 :: ([]:List Int))))) <|
some (.inl (s1.2.1,zBg (zCI s1.2.2.1 (i2n 0) (nsub (i2n j2) (i2n 0))) (((zAH (0,(⟨#[]⟩:ByteArray),0) x (i2n s1.1)).2).1 :: ([]:List ByteArray)),zBg s1.2.2.2 (j2 :: ([]:List Int))))) fun (j3:((List ((List ByteArray) × Int)) × ((List ByteArray) × (List Int)))) =>
some (.inl (zBA .i64 s1.1 1,j3.1,j3.2.1,j3.2.2))) <|
some (.inr (.inl s1.2.1)))
def F17_def (x:List FN):F17 x = call (F30 x) fun (r0:Int)=>sel (ine r0 0) (some []) <| join (zBh (b16 x) (0,[],[],[])) fun j4=>some j4:=rfl
def st16 {x:List FN} {i:Nat} {out:List Sk} {path:List Nm} {depths:List Int} {par:Int} {n:Nm} {s:Int} {d:Nat} (hi:x[i]? = some (par,n,s)) (hx:x.length <= 2000) (ho:out.length <= 2000) (hp:path.length <= 100) (hdl:depths.length <= 2000) (hd:d <= path.length) (hpar:(par = -1 /\ d = 0) \/ ∃ k:Nat,par = k /\ k < depths.length /\ depths.getD k 0 + 1 = (d:Int)) :
  b16 x ((i:Int),out,path,depths) = some (.inl (((i + 1:Nat):Int),out ++ (if s ≠ 0 then [(path.take d ++ [n],s)] else []),path.take d ++ [n],depths ++ [(d:Int)])):=by
 have hil:=At.lt hi
 have hg:zAH (0,(⟨#[]⟩:ByteArray),0) x (i2n (i:Int)) = (par,n,s):=zCF hi
 have ht:(zCI path (i2n 0) (nsub (i2n (d:Int)) (i2n 0))) = path.take d:=rfl
 have hlt:(path.take d).length = d:=by rw [yAU];omega
 unfold b16
 dsimp only
 simp only [hg,ht]
 rw [zAe,zAy (by rw [zAf,zAM];exact decide_eq_true (by omega)),zAG (zAj hil),depth_in hdl (by omega) hpar,zBG]
 simp only [zAM,zBl,yAC,zBg,ht]
 rw [zAG (zBe (by omega)),zAG (inS_t hd),zAG (zBe (by rw [hlt];omega)),zAG (by rfl),ine_d,zCb]
 rw [zBp (by omega) (by omega)]
 by_cases hs:s ≠ 0
 ·rw [if_pos hs,if_pos hs,zAG (zBe (by simp;omega)),zAG (zBe (by omega)),zBG]
  rfl
 ·rw [if_neg hs,if_neg hs,zBG,yAS]
  rfl
def seg16 {x:List FN} (hx:x.length <= 2000):∀ (F:Fo) (par:Int) (pl:Nat) (out:List Sk) (path:List Nm) (depths:List Int) (pre:List Nm),At x pl (F.enc par pl) -> F.Nd pre.length -> path.take pre.length = pre -> pre.length <= path.length -> path.length <= 65 -> depths.length = pl -> pl + F.len <= 2000 -> out.length + F.len <= 2000 ->
  ((par = -1 /\ pre.length = 0) \/ ∃ k:Nat,par = k /\ k < depths.length /\ depths.getD k 0 + 1 = (pre.length:Int)) ->
  ∃ path' depths',Goes (b16 x) ((pl:Int),out,path,depths) (((pl + F.len:Nat):Int),out ++ F.stk pre,path',depths ++ depths') /\ path'.take pre.length = pre /\ pre.length <= path'.length /\ path'.length <= 65 /\ depths'.length = F.len
 | .nil,par,pl,out,path,depths,pre,_,_,h1,h2,h3,_,_,_,_=>⟨path,[],by rw [Fo.stk,yAS,yAS];exact Goes.refl _ _,h1,h2,h3,rfl⟩
 | .cons n s sub rest,par,pl,out,path,depths,pre,hA,hN,h1,h2,h3,h4,h5,h6,h7=>by
  rw [Fo.enc] at hA
  rw [Fo.len] at h5 h6
  have hi:=hA.head
  have hA1:=hA.tail.left
  have hA2:=hA.tail.right
  rw [Fo.enc_len] at hA2
  obtain ⟨g1,g2,g3,g4⟩:=hN
  have hst:=st16 (out:=out) hi hx (by omega) (by omega) (by omega) h2 h7
  rw [h1] at hst
  have hol:(out ++ (if s ≠ 0 then [(pre ++ [n],s)] else [])).length <= out.length + 1:=by rw [yAD];split <;> simp
  have e1:(pre ++ [n]).length = pre.length + 1:=by simp
  obtain ⟨p1,d1,a1,a2,a3,a4,a5⟩:=seg16 hx sub (pl:Int) (pl + 1) (out ++ (if s ≠ 0 then [(pre ++ [n],s)] else [])) (pre ++ [n]) (depths ++ [(pre.length:Int)]) (pre ++ [n]) hA1 (by rw [e1];exact g3) (yAi) (yAJ _) (by rw [e1];omega) (by simp [h4]) (by omega) (by omega)
   (.inr ⟨pl,rfl,by simp [h4],by rw [e1,yAI,yAa (by omega),h4];simp⟩)
  have hp1:p1.take pre.length = pre:=by
   have:=congrArg (List.take pre.length) a2
   rw [List.take_take,e1,Nat.min_eq_left (by omega),List.take_append_of_le_length (by omega),yAi] at this
   exact this
  have hol2:(out ++ (if s ≠ 0 then [(pre ++ [n],s)] else []) ++ sub.stk (pre ++ [n])).length + rest.len <= 2000:=by
   rw [yAD]
   have:=stk_len sub (pre ++ [n])
   omega
  obtain ⟨p2,d2,b1,b2,b3,b4,b5⟩:=seg16 hx rest par (pl + 1 + sub.len) (out ++ (if s ≠ 0 then [(pre ++ [n],s)] else []) ++ sub.stk (pre ++ [n])) p1 (depths ++ [(pre.length:Int)] ++ d1) pre hA2 g4 hp1 (by rw [e1] at a3;omega) a4 (by simp [h4,a5];omega) (by omega) hol2
   (by
    rcases h7 with h7 | ⟨k,r1,r2,r3⟩
    ·exact .inl h7
    ·refine .inr ⟨k,r1,by simp;omega,?_⟩
     rw [yAQ,yAI,yAe r2,<- yAI];exact r3)
  refine ⟨p2,[(pre.length:Int)] ++ d1 ++ d2,?_,b2,b3,b4,by simp [a5,b5,Fo.len];omega⟩
  have hG:=(Goes.one hst).trans (a1.trans b1)
  rw [Fo.stk,Fo.len]
  rw [show pl + (1 + sub.len + rest.len) = pl + 1 + sub.len + rest.len by omega]
  simp only [yAQ] at hG ⊢
  exact hG
def F17_enc {F:Fo} (h13:F30 (F.enc (-1) 0) = some 0) (hN:F.Nd 0) (hl:F.len <= 2000):F17 (F.enc (-1) 0) = some (F.stk []):=by
 rw [F17_def,zAR h13,zAX (by rfl)]
 obtain ⟨p,d,h1,h2,h3,h4,h5⟩:=seg16 (x:=F.enc (-1) 0) (by rw [Fo.enc_len];exact hl) F (-1) 0 [] [] [] [] (At.all _) hN rfl (yAJ _) (by simp) rfl (by omega) (by simpa using hl) (.inl ⟨rfl,rfl⟩)
 refine zBo (h1.fin ?_)
 unfold b16
 dsimp only
 rw [zAe,zAX (by rw [zAf,zAM,Fo.enc_len];exact decide_eq_false (by omega)),yBI]
abbrev St11:=Int × Int × List Bool
def b11 (x:((List (Int × (ByteArray × Int))) × ByteArray)):St11 -> Option (St11 ⊕ (Int ⊕ Int)) :=
(fun (s1:(Int × (Int × (List Bool)))) =>
sel (ilt s1.2.1 (n2i (zAE x.1))) (join (need (inL s1.2.1 (zAE x.1)) <|
need (impl (band (zCr (seq (((zAH (0,(⟨#[]⟩:ByteArray),0) x.1 (i2n s1.2.1)).2).1) x.2)) (ile 0 ((zAH (0,(⟨#[]⟩:ByteArray),0) x.1 (i2n s1.2.1)).1))) (inL ((zAH (0,(⟨#[]⟩:ByteArray),0) x.1 (i2n s1.2.1)).1) (zAE s1.2.2))) <|
need (inL s1.2.1 (zAE s1.2.2)) <|
need (inL s1.2.1 (zAE (lset s1.2.2 (i2n s1.2.1) (zAL (seq (((zAH (0,(⟨#[]⟩:ByteArray),0) x.1 (i2n s1.2.1)).2).1) x.2) true (zAL (ile 0 ((zAH (0,(⟨#[]⟩:ByteArray),0) x.1 (i2n s1.2.1)).1)) (zAH false s1.2.2 (i2n ((zAH (0,(⟨#[]⟩:ByteArray),0) x.1 (i2n s1.2.1)).1))) false))))) <|
sel (zAH false (lset s1.2.2 (i2n s1.2.1) (zAL (seq (((zAH (0,(⟨#[]⟩:ByteArray),0) x.1 (i2n s1.2.1)).2).1) x.2) true (zAL (ile 0 ((zAH (0,(⟨#[]⟩:ByteArray),0) x.1 (i2n s1.2.1)).1)) (zAH false s1.2.2 (i2n ((zAH (0,(⟨#[]⟩:ByteArray),0) x.1 (i2n s1.2.1)).1))) false))) (i2n s1.2.1)) (some (.inl (zBA .i64 s1.1 (((zAH (0,(⟨#[]⟩:ByteArray),0) x.1 (i2n s1.2.1)).2).2),lset s1.2.2 (i2n s1.2.1) (zAL (seq (((zAH (0,(⟨#[]⟩:ByteArray),0) x.1 (i2n s1.2.1)).2).1) x.2) true (zAL (ile 0 ((zAH (0,(⟨#[]⟩:ByteArray),0) x.1 (i2n s1.2.1)).1)) (zAH false s1.2.2 (i2n ((zAH (0,(⟨#[]⟩:ByteArray),0) x.1 (i2n s1.2.1)).1))) false))))) <|
some (.inl (s1.1,lset s1.2.2 (i2n s1.2.1) (zAL (seq (((zAH (0,(⟨#[]⟩:ByteArray),0) x.1 (i2n s1.2.1)).2).1) x.2) true (zAL (ile 0 ((zAH (0,(⟨#[]⟩:ByteArray),0) x.1 (i2n s1.2.1)).1)) (zAH false s1.2.2 (i2n ((zAH (0,(⟨#[]⟩:ByteArray),0) x.1 (i2n s1.2.1)).1))) false))))) fun (j2:(Int × (List Bool))) =>
some (.inl (j2.1,zBA .i64 s1.2.1 1,j2.2))) <|
some (.inr (.inl s1.1)))
def F36_def (x:List FN × Nm):F36 x = call (F30 x.1) fun (r0:Int)=>sel (ine r0 0) (some 0) <| need (mk (n2i (zAE x.1)) (n2i (zAE x.1)) 1) <| join (zBh (b11 x) (0,0,lrep (n2i (zAE x.1)) false)) fun j3=>some j3:=rfl
def has (n:Nm) (p:List Nm):Bool:=p.any fun m=>decide (m = n)
def st11 {x:List FN} {nm:Nm} {i:Nat} {sum:Int} {marks:List Bool} {par:Int} {n:Nm} {s:Int} {b:Bool} (hi:x[i]? = some (par,n,s)) (hx:x.length <= 2000) (hm:marks.length = x.length) (hs:-1099511627776 <= s /\ s <= 1099511627776) (hsum:-(1099511627776 * (i:Int)) <= sum /\ sum <= 1099511627776 * (i:Int))
  (hpar:(par = -1 /\ b = false) \/ ∃ k:Nat,par = k /\ k < i /\ marks.getD k false = b) :
  b11 (x,nm) (sum,(i:Int),marks) = some (.inl (sum + (if (decide (n = nm) || b) = true then s else 0),((i + 1:Nat):Int),marks.set i (decide (n = nm) || b))):=by
 have hil:=At.lt hi
 have hg:zAH (0,(⟨#[]⟩:ByteArray),0) x (i2n (i:Int)) = (par,n,s):=zCF hi
 have hv:zAL (seq n nm) true (zAL (ile 0 par) (zAH false marks (i2n par)) false) = (decide (n = nm) || b):=by
  rw [pick_or,seq_t]
  congr 1
  rcases hpar with ⟨rfl,rfl⟩ | ⟨k,rfl,hk,rfl⟩
  ·rfl
  ·rw [zAu,ile_d,decide_eq_true (by omega),yBT];rfl
 have hset:zAH false (lset marks (i2n (i:Int)) (decide (n = nm) || b)) (i2n (i:Int)) = (decide (n = nm) || b):=by
  show (marks.set i _).getD i false = _
  rw [yAI,List.getElem?_set_self (by omega)];rfl
 unfold b11
 dsimp only
 simp only [hg,hv,hset]
 rw [zAe,zAy (by rw [zAf,zAM];exact decide_eq_true (by omega)),zAG (zAj hil)]
 rw [zAG (impl_t fun h=>?_),zAG (by rw [zAM,hm];exact inL_t hil),zAG (by rw [zAM,lset,yBK,hm];exact inL_t hil),zBp (a:=(i:Int)) (by omega) (by omega)]
 ·by_cases hb:(decide (n = nm) || b) = true
  ·rw [hb,zAy rfl,if_pos rfl,zBp (by omega) (by omega),zBG];rfl
  ·have hb:(decide (n = nm) || b) = false:=by simpa using hb
   rw [hb,zAX rfl,zBG,if_neg (by simp)]
   simp only [Int.add_zero];rfl
 ·rw [band_d,yAB,ile_d,decide_eq_true_eq] at h
  rcases hpar with ⟨rfl,rfl⟩ | ⟨k,rfl,hk,rfl⟩
  ·exact absurd h.2 (by omega)
  ·exact inL_t (by rw [zAM];omega)
def has_app (nm:Nm) (p:List Nm) (n:Nm):has nm (p ++ [n]) = (decide (n = nm) || has nm p):=by
 unfold has
 rw [List.any_append,Bool.or_comm];simp
def msr_b (c:List Nm -> Bool):∀ {F:Fo} {p:List Nm},F.okW = true -> -(1099511627776 * (F.len:Int)) <= F.msr c p /\ F.msr c p <= 1099511627776 * (F.len:Int)
 | .nil,_,_=>by simp [Fo.msr,Fo.len]
 | .cons n s sub rest,p,h=>by
  rw [Fo.okW,yAB,yAB] at h
  have h1:-1099511627776 <= s /\ s <= 1099511627776:=of_decide_eq_true h.1
  have h2:=msr_b c (p:=p ++ [n]) h.2.1
  have h3:=msr_b c (p:=p) h.2.2
  rw [Fo.msr,Fo.len]
  split <;> omega
def seg11 {x:List FN} {nm:Nm} (hx:x.length <= 2000):∀ (F:Fo) (par:Int) (pl:Nat) (sum:Int) (marks:List Bool) (pre:List Nm),At x pl (F.enc par pl) -> F.okW = true -> marks.length = x.length -> -(1099511627776 * (pl:Int)) <= sum -> sum <= 1099511627776 * (pl:Int) ->
  ((par = -1 /\ has nm pre = false) \/ ∃ k:Nat,par = k /\ k < pl /\ marks.getD k false = has nm pre) ->
  ∃ marks',Goes (b11 (x,nm)) (sum,(pl:Int),marks) (sum + F.msr (has nm) pre,((pl + F.len:Nat):Int),marks') /\ marks'.length = x.length /\ ∀ k,k < pl -> marks'.getD k false = marks.getD k false
 | .nil,par,pl,sum,marks,pre,_,_,h3,_,_,_=>⟨marks,by rw [Fo.msr,Int.add_zero];exact Goes.refl _ _,h3,fun _ _=>rfl⟩
 | .cons n s sub rest,par,pl,sum,marks,pre,hA,hw,h3,h4,h5,h6=>by
  rw [Fo.enc] at hA
  have hi:=hA.head
  have hil:=At.lt hi
  have hA1:=hA.tail.left
  have hA2:=hA.tail.right
  rw [Fo.enc_len] at hA2
  rw [Fo.okW,yAB,yAB] at hw
  have hs:-1099511627776 <= s /\ s <= 1099511627776:=of_decide_eq_true hw.1
  have hst:=st11 (nm:=nm) (b:=has nm pre) hi hx h3 hs ⟨h4,h5⟩ h6
  rw [<- has_app] at hst
  have hset:∀ k,k < pl -> (marks.set pl (has nm (pre ++ [n]))).getD k false = marks.getD k false:=fun k hk=>by
   rw [yAI,List.getElem?_set_ne (by omega),<- yAI]
  have hb:-(1099511627776 * ((pl + 1:Nat):Int)) <= sum + (if has nm (pre ++ [n]) = true then s else 0) /\ sum + (if has nm (pre ++ [n]) = true then s else 0) <= 1099511627776 * ((pl + 1:Nat):Int):=by split <;> omega
  obtain ⟨m1,a1,a2,a3⟩:=seg11 hx sub (pl:Int) (pl + 1) (sum + (if has nm (pre ++ [n]) = true then s else 0)) (marks.set pl (has nm (pre ++ [n]))) (pre ++ [n]) hA1 hw.2.1 (by simpa using h3) hb.1 hb.2
   (.inr ⟨pl,rfl,by omega,by rw [yAI,List.getElem?_set_self (by omega)];rfl⟩)
  have hsb:=msr_b (has nm) (p:=pre ++ [n]) hw.2.1
  obtain ⟨m2,b1,b2,b3⟩:=seg11 hx rest par (pl + 1 + sub.len) (sum + (if has nm (pre ++ [n]) = true then s else 0) + sub.msr (has nm) (pre ++ [n])) m1 pre hA2 hw.2.2 a2 (by omega) (by omega)
   (by
    rcases h6 with h6 | ⟨k,r1,r2,r3⟩
    ·exact .inl h6
    ·exact .inr ⟨k,r1,by omega,by rw [a3 k (by omega),hset k r2];exact r3⟩)
  refine ⟨m2,?_,b2,fun k hk=>by rw [b3 k (by omega),a3 k (by omega),hset k hk]⟩
  have hG:=(Goes.one hst).trans (a1.trans b1)
  rw [Fo.msr,Fo.len]
  rw [show pl + (1 + sub.len + rest.len) = pl + 1 + sub.len + rest.len by omega]
  simp only [Int.add_assoc] at hG ⊢
  exact hG
def F36_enc {F:Fo} (h13:F30 (F.enc (-1) 0) = some 0) (hw:F.okW = true) (hl:F.len <= 2000) (nm:Nm):F36 (F.enc (-1) 0,nm) = some (F.msr (has nm) []):=by
 rw [F36_def,zAR h13,zAX (by rfl),zAG (by unfold mk;simp [n2i,zAE,Fo.enc_len];omega)]
 obtain ⟨m,h1,h2,h3⟩:=seg11 (x:=F.enc (-1) 0) (nm:=nm) (by rw [Fo.enc_len];exact hl) F (-1) 0 0 (lrep (n2i (zAE (F.enc (-1) 0))) false) [] (At.all _) hw (by simp [lrep,n2i,zAE]) (by omega) (by omega) (.inl ⟨rfl,rfl⟩)
 refine zBo (h1.fin ?_)
 unfold b11
 dsimp only
 rw [zAe,zAX (by rw [zAf,zAM,Fo.enc_len];exact decide_eq_false (by omega)),Int.zero_add]
abbrev St13:=Int × List Int
abbrev St13i:=(Nat × Nat) × Int
def b13 (x:(List (Int × (ByteArray × Int)))):St13 -> Option (St13 ⊕ (PUnit ⊕ Int)) :=
(fun (s0:(Int × (List Int))) =>
sel (ilt s0.1 (n2i (zAE x))) (join (need (inL s0.1 (zAE x)) <|
call (F52 (((zAH (0,(⟨#[]⟩:ByteArray),0) x (i2n s0.1)).2).1)) fun (r1:Bool) =>
sel (zCr r1) (some (.inr (.inr (.inr 5)))) <|
call (F53 (((zAH (0,(⟨#[]⟩:ByteArray),0) x (i2n s0.1)).2).2)) fun (r2:Bool) =>
sel (zCr r2) (some (.inr (.inr (.inr 2)))) <|
join (zBh (fun (s3:((Nat × Nat) × Int)) =>
need (impl (ilt 0 (n2i s3.1.2)) (inL (zCX .i64 (n2i s3.1.2) 1) s3.1.2)) <|
sel (zAL (ilt 0 (n2i s3.1.2)) (ine (zAH 0 s0.2 (zBl s3.1.1 (i2n (zCX .i64 (n2i s3.1.2) 1)))) ((zAH (0,(⟨#[]⟩:ByteArray),0) x (i2n s0.1)).1)) false) (need (inL (zCX .i64 (n2i s3.1.2) 1) s3.1.2) <|
need (inS 0 (zCX .i64 (n2i s3.1.2) 1) s3.1.2) <|
some (.inl ((zBl s3.1.1 (i2n 0),nsub (i2n (zCX .i64 (n2i s3.1.2) 1)) (i2n 0)),zAH 0 s0.2 (zBl s3.1.1 (i2n (zCX .i64 (n2i s3.1.2) 1)))))) <|
some (.inr (.inl (s3.1,s3.2)))) ((0,zAE s0.2),(-1))) fun (j4:((Nat × Nat) × Int)) =>
sel (zAL (ieq (n2i j4.1.2) 0) (ine ((zAH (0,(⟨#[]⟩:ByteArray),0) x (i2n s0.1)).1) (-1)) false) (some (.inr (.inr (.inr 9)))) <|
need (impl (ile 0 j4.2) (inL j4.2 (zAE x))) <|
sel (zAL (ile 0 j4.2) (sle (((zAH (0,(⟨#[]⟩:ByteArray),0) x (i2n s0.1)).2).1) (((zAH (0,(⟨#[]⟩:ByteArray),0) x (i2n j4.2)).2).1)) false) (some (.inr (.inr (.inr 9)))) <|
sel (ilt 63 (n2i j4.1.2)) (some (.inr (.inr (.inr 30)))) <|
need (impl (band (ieq (((zAH (0,(⟨#[]⟩:ByteArray),0) x (i2n s0.1)).2).2) 0) (zCr (ieq (zBA .i64 s0.1 1) (n2i (zAE x))))) (inL (zBA .i64 s0.1 1) (zAE x))) <|
sel (zAL (ieq (((zAH (0,(⟨#[]⟩:ByteArray),0) x (i2n s0.1)).2).2) 0) (zAL (ieq (zBA .i64 s0.1 1) (n2i (zAE x))) true (ine ((zAH (0,(⟨#[]⟩:ByteArray),0) x (i2n (zBA .i64 s0.1 1))).1) s0.1)) false) (some (.inr (.inr (.inr 1)))) <|
need (room (zBl (zAE (zCI s0.2 j4.1.1 j4.1.2)) (zAE (s0.1 :: ([]:List Int)))) 8) <|
need (nlt 0 (zAE (s0.1 :: ([]:List Int)))) <|
some (.inl (zBg (zCI s0.2 j4.1.1 j4.1.2) (s0.1 :: ([]:List Int))))) fun (j5:(List Int)) =>
some (.inl (zBA .i64 s0.1 1,j5))) <|
some (.inr (.inl ())))
def b13i {R:Type} (par:Int) (st:List Int):St13i -> Option (St13i ⊕ (St13i ⊕ R)) :=
(fun (s3:((Nat × Nat) × Int)) =>
need (impl (ilt 0 (n2i s3.1.2)) (inL (zCX .i64 (n2i s3.1.2) 1) s3.1.2)) <|
sel (zAL (ilt 0 (n2i s3.1.2)) (ine (zAH 0 st (zBl s3.1.1 (i2n (zCX .i64 (n2i s3.1.2) 1)))) par) false) (need (inL (zCX .i64 (n2i s3.1.2) 1) s3.1.2) <|
need (inS 0 (zCX .i64 (n2i s3.1.2) 1) s3.1.2) <|
some (.inl ((zBl s3.1.1 (i2n 0),nsub (i2n (zCX .i64 (n2i s3.1.2) 1)) (i2n 0)),zAH 0 st (zBl s3.1.1 (i2n (zCX .i64 (n2i s3.1.2) 1)))))) <|
some (.inr (.inl (s3.1,s3.2))))
def F30_def (x:List FN):F30 x = sel (ilt 2000 (n2i (zAE x))) (some 4) (join (zBh (b13 x) (0,[])) fun j6=>some 0):=rfl
def pop13 {R:Type} {par:Int} {anc:List Int} (hanc:anc = [] \/ ∃ a,anc = a ++ [par]) :
  ∀ (k:Nat) (tail:List Int),tail.length = k -> (∀ t ∈ tail,t ≠ par) -> anc.length + tail.length <= 2000 -> ∀ (rest:List Int) (l0:Int),
   zBh (b13i (R:=R) par (anc ++ tail ++ rest)) ((0,anc.length + tail.length),l0) = some (.inl ((0,anc.length),(tail.head?).getD l0))
 | 0,tail,hk,ht,hl,rest,l0=>by
  have:tail = []:=yBL.1 hk
  subst this
  refine iter_r ?_
  unfold b13i
  dsimp only
  simp only [List.length_nil,Nat.add_zero,yAS]
  rcases hanc with rfl | ⟨a,rfl⟩
  ·rw [zAG (impl_t fun h=>by simp [ilt,n2i] at h),zAX (by rfl)];rfl
  ·have e1:zCX .i64 (n2i (a ++ [par]).length) 1 = (a.length:Int):=by
    have:=hl
    simp only [yAD,yAC,List.length_nil] at this
    have e:zCX .i64 (n2i (a ++ [par]).length) 1 = (n2i (a ++ [par]).length) - 1:=zBb (by simp [n2i] <;> omega) (by simp [n2i] <;> omega)
    rw [e];simp [n2i]
   rw [e1,zAG (impl_t fun _=>inL_t (by simp)),zAX]
   ·rfl
   ·rw [zAu,ine_d]
    have:zAH 0 (a ++ [par] ++ rest) (zBl 0 (i2n (a.length:Int))) = par:=by
     show (a ++ [par] ++ rest).getD (0 + a.length) 0 = par
     rw [yAT,yAQ,yAI,yAa (yAJ _)]
     simp
    rw [this];simp
 | k + 1,tail,hk,ht,hl,rest,l0=>by
  obtain ⟨t',b,rfl⟩:∃ t' b,tail = t' ++ [b]:=by
   rcases List.eq_nil_or_concat tail with h | ⟨t',b,h⟩
   ·subst h;cases hk
   ·exact ⟨t',b,by simpa using h⟩
  have hk':t'.length = k:=by simpa using hk
  have hb:b ≠ par:=ht b (by simp)
  have hl':=hl
  simp only [yAD,yAC] at hl'
  refine iter_l (s':=((0,anc.length + t'.length),b)) ?_ ?_
  ·have e1:zCX .i64 (n2i (anc.length + (t' ++ [b]).length)) 1 = ((anc.length + t'.length:Nat):Int):=by
    have e:zCX .i64 (n2i (anc.length + (t' ++ [b]).length)) 1 = (n2i (anc.length + (t' ++ [b]).length)) - 1:=zBb (by simp [n2i] <;> omega) (by simp [n2i] <;> omega)
    rw [e];simp [n2i] <;> omega
   have e2:zAH 0 (anc ++ (t' ++ [b]) ++ rest) (zBl 0 (i2n ((anc.length + t'.length:Nat):Int))) = b:=by
    show (anc ++ (t' ++ [b]) ++ rest).getD (0 + (anc.length + t'.length)) 0 = b
    rw [yAT,yAI,show anc ++ (t' ++ [b]) ++ rest = (anc ++ t') ++ ([b] ++ rest) by simp,yAa (by simp)]
    simp
   unfold b13i
   dsimp only
   simp only [e1,e2]
   have hin:inL ((anc.length + t'.length:Nat):Int) (anc.length + (t' ++ [b]).length) = true:=inL_t (by simp <;> omega)
   rw [zAG (impl_t fun _=>hin),zAy,zAG hin,zAG]
   ·show some (Sum.inl ((0 + 0,(anc.length + t'.length) - 0),b)) = _
    simp
   ·unfold inS;simp;omega
   ·rw [zAu,zAe,ine_d,decide_eq_true hb,Bool.and_true]
    exact decide_eq_true (by simp [n2i] <;> omega)
  ·have:=pop13 (R:=R) hanc k t' hk' (fun t h=>ht t (by simp [h])) (by omega) ([b] ++ rest) b
   rw [show anc ++ t' ++ ([b] ++ rest) = anc ++ (t' ++ [b]) ++ rest by simp] at this
   rw [this]
   congr 3
   cases t' with
   | nil=>rfl
   | cons a c=>rfl
def sle_f {a b:Nm} (h:slt b a = true):sle a b = false:=by
 have:=sle_not a b
 rw [h,bnot_d] at this
 simpa using this
def st13 {x:List FN} {i:Nat} {par:Int} {n:Nm} {s:Int} (hi:x[i]? = some (par,n,s)) (hx:x.length <= 2000) {anc tail:List Int} (hanc:(anc = [] /\ par = -1) \/ ∃ a,anc = a ++ [par]) (ht:∀ t ∈ tail,t ≠ par) (hl:(anc ++ tail).length <= 2000)
  (hn:nmOk n = true) (hs:wOk s = true) (hd:anc.length < 64) (hlast:∀ t,tail.head? = some t -> ∃ (k:Nat) (m:FN),t = (k:Int) /\ x[k]? = some m /\ slt m.2.1 n = true) (h0:s = 0 -> ∃ m:FN,x[i + 1]? = some m /\ m.1 = (i:Int)) :
  b13 x ((i:Int),anc ++ tail) = some (.inl (((i + 1:Nat):Int),anc ++ [(i:Int)])):=by
 have hil:=At.lt hi
 have hg:zAH (0,(⟨#[]⟩:ByteArray),0) x (i2n (i:Int)) = (par,n,s):=zCF hi
 have hpop:∀ R:Type,zBh (b13i (R:=R) par (anc ++ tail)) ((0,zAE (anc ++ tail)),-1) = some (.inl ((0,anc.length),(tail.head?).getD (-1))):=fun R=>by
  have:=pop13 (R:=R) (hanc.imp And.left id) tail.length tail rfl ht (by simpa using hl) [] (-1)
  rw [yAS] at this
  rw [show zAE (anc ++ tail) = anc.length + tail.length by simp [zAE]]
  exact this
 have hwrap:zBA .i64 (i:Int) 1 = ((i + 1:Nat):Int):=by rw [zBp (by omega) (by omega)];rfl
 have hc9:zAL (ieq (n2i anc.length) 0) (ine par (-1)) false = false:=by
  rw [zAu,zDY,ine_d]
  rcases hanc with ⟨rfl,rfl⟩ | ⟨a,rfl⟩
  ·simp
  ·have:¬ n2i (a ++ [par]).length = 0:=by simp [n2i] <;> omega
   rw [decide_eq_false this];rfl
 have hlim:impl (ile 0 ((tail.head?).getD (-1))) (inL ((tail.head?).getD (-1)) (zAE x)) = true:=impl_t fun h=>by
  cases hh:tail.head? with
  | none=>rw [hh] at h;cases h
  | some t =>
   obtain ⟨k,m,rfl,hk,_⟩:=hlast t hh
   exact zAj (At.lt hk)
 have hcs:zAL (ile 0 ((tail.head?).getD (-1))) (sle n ((zAH (0,(⟨#[]⟩:ByteArray),0) x (i2n ((tail.head?).getD (-1)))).2).1) false = false:=by
  cases hh:tail.head? with
  | none=>rfl
  | some t =>
   obtain ⟨k,m,rfl,hk,hlt⟩:=hlast t hh
   rw [show (some (k:Int)).getD (-1) = (k:Int) from rfl,zCF hk,sle_f hlt,zAu,Bool.and_false]
 have hz:impl (band (ieq s 0) (zCr (ieq ((i + 1:Nat):Int) (n2i (zAE x))))) (inL ((i + 1:Nat):Int) (zAE x)) = true:=impl_t fun h=>by
  rw [band_d,yAB,zDY,decide_eq_true_eq] at h
  obtain ⟨m,hm,_⟩:=h0 h.1
  exact zAj (At.lt hm)
 have hz2:zAL (ieq s 0) (zAL (ieq ((i + 1:Nat):Int) (n2i (zAE x))) true (ine (zAH (0,(⟨#[]⟩:ByteArray),0) x (i2n ((i + 1:Nat):Int))).1 (i:Int))) false = false:=by
  rw [zAu,zDY]
  by_cases h:s = 0
  ·obtain ⟨m,hm,hm1⟩:=h0 h
   have:=At.lt hm
   rw [zCF hm,hm1,ine_d,pick_or,zDY,decide_eq_false (show ¬ ((i + 1:Nat):Int) = n2i (zAE x) by simp [n2i,zAE];omega)]
   simp
  ·rw [decide_eq_false h];rfl
 have hF35:F52 n = some true:=by rw [F52_eq,hn]
 have hF36:F53 s = some true:=by rw [F53_eq,hs]
 unfold b13
 dsimp only
 simp only [hg,hwrap]
 rw [zAe,zAy (by rw [zAf,zAM];exact decide_eq_true (by omega)),zAG (zAj hil),zAR hF35,zAX (by rfl),zAR hF36,zAX (by rfl)]
 show join (join (zBh (b13i par (anc ++ tail)) ((0,zAE (anc ++ tail)),-1)) _) _ = _
 rw [zBo (hpop _)]
 dsimp only
 rw [hc9,zAX rfl,zAG hlim,hcs,zAX rfl,zAX (by rw [zAe];exact decide_eq_false (by rw [zAf];omega)),zAG hz,hz2,zAX rfl]
 have e:zCI (anc ++ tail) 0 anc.length = anc:=by
  show ((anc ++ tail).drop 0).take anc.length = anc
  simp
 rw [e,zAG (zBe (by simp [zBl,zAE] at hl ⊢;omega)),zAG (by rfl),zBG]
 rfl
def seg13 {x:List FN} (hx:x.length <= 2000):∀ (F:Fo) (par:Int) (pl:Nat) (anc tail:List Int),At x pl (F.enc par pl) -> F.Good anc.length -> ((anc = [] /\ par = -1) \/ ∃ a,anc = a ++ [par]) -> par < pl -> (∀ t ∈ tail,t ≠ par) -> (anc ++ tail).length <= pl -> pl + F.len <= 2000 ->
  (∀ t,tail.head? = some t -> ∃ (k:Nat) (m:FN),t = (k:Int) /\ x[k]? = some m /\ ∀ h ∈ F.heads,slt m.2.1 h = true) ->
  ∃ tail',Goes (b13 x) ((pl:Int),anc ++ tail) (((pl + F.len:Nat):Int),anc ++ tail') /\ (∀ t ∈ tail',t ∈ tail \/ (pl:Int) <= t) /\ (anc ++ tail').length <= pl + F.len
 | .nil,par,pl,anc,tail,_,_,_,_,_,h5,_,_=>⟨tail,Goes.refl _ _,fun t h=>.inl h,h5⟩
 | .cons n s sub rest,par,pl,anc,tail,hA,hG,h2,h3,h4,h5,h6,h7=>by
  rw [Fo.enc] at hA
  rw [Fo.len] at h6
  obtain ⟨g1,g2,g3,g4,g5,g6⟩:=hG
  have hi:=hA.head
  have hA1:=hA.tail.left
  have hA2:=hA.tail.right
  rw [Fo.enc_len] at hA2
  have h0:s = 0 -> ∃ m:FN,x[pl + 1]? = some m /\ m.1 = (pl:Int):=fun h=>by
   cases hsub:sub with
   | nil=>exact absurd hsub (g2 h)
   | cons a b c d =>
    rw [hsub,Fo.enc] at hA1
    exact ⟨_,hA1.head,rfl⟩
  have hst:=st13 hi hx h2 h4 (by omega) (decide_eq_true ⟨g1.1,g1.2.1⟩) (decide_eq_true g1.2.2) g3 (fun t ht=>by
   obtain ⟨k,m,e1,e2,e3⟩:=h7 t ht
   exact ⟨k,m,e1,e2,e3 n yAN⟩) h0
  have hal:(anc ++ [(pl:Int)]).length = anc.length + 1:=by simp
  have hal2:anc.length <= pl:=by rw [yAD] at h5;omega
  obtain ⟨t1,a1,a2,a3⟩:=seg13 hx sub (pl:Int) (pl + 1) (anc ++ [(pl:Int)]) [] hA1 (by rw [hal];exact g5) (.inr ⟨anc,rfl⟩) (by omega) (by simp) (by rw [yAS,hal];omega) (by omega) (by simp)
  have ht1:∀ t ∈ t1,((pl + 1:Nat):Int) <= t:=fun t ht=>by
   rcases a2 t ht with h | h
   ·cases h
   ·exact h
  obtain ⟨t2,b1,b2,b3⟩:=seg13 hx rest par (pl + 1 + sub.len) anc ((pl:Int) :: t1) hA2 g6 h2 (by omega) (fun t ht=>by
   rcases yAE.1 ht with rfl | ht
   ·omega
   ·have:=ht1 t ht;omega) (by rw [yAQ] at a3;simpa using a3) (by omega) (fun t ht=>by
   have ht:(pl:Int) = t:=by simpa using ht
   subst ht
   exact ⟨pl,_,rfl,hi,g4⟩)
  rw [yAS] at a1
  refine ⟨t2,?_,fun t ht=>?_,by rw [Fo.len];omega⟩
  ·have hG:=(Goes.one hst).trans a1
   rw [show anc ++ [(pl:Int)] ++ t1 = anc ++ (pl:Int) :: t1 by simp] at hG
   have hG:=hG.trans b1
   rw [Fo.len,show pl + (1 + sub.len + rest.len) = pl + 1 + sub.len + rest.len by omega]
   exact hG
  ·rcases b2 t ht with h | h
   ·rcases yAE.1 h with rfl | h
    ·exact .inr (Int.le_refl _)
    ·have:=ht1 t h;exact .inr (by omega)
   ·exact .inr (by omega)
def F30_enc {F:Fo} (hG:F.Good 0) (hl:F.len <= 2000):F30 (F.enc (-1) 0) = some 0:=by
 rw [F30_def,zAX (by rw [zAe,zAf,zAM,Fo.enc_len];exact decide_eq_false (by omega))]
 obtain ⟨t,h1,_⟩:=seg13 (x:=F.enc (-1) 0) (by rw [Fo.enc_len];exact hl) F (-1) 0 [] [] (At.all _) hG (.inl ⟨rfl,rfl⟩) (by omega) (by simp) (by simp) (by omega) (by simp)
 refine zBo (s:=()) (h1.fin ?_)
 unfold b13
 dsimp only
 rw [zAe,zAX (by rw [zAf,zAM,Fo.enc_len];exact decide_eq_false (by omega))]
def b59 (x:((List (Int × (ByteArray × Int))) × (Int × Int))):Int -> Option (Int ⊕ (Int ⊕ Bool)) :=
(fun (s0:Int) =>
sel (ilt x.2.1 s0) (need (inL s0 (zAE x.1)) <|
some (.inl ((zAH (0,(⟨#[]⟩:ByteArray),0) x.1 (i2n s0)).1))) <|
some (.inr (.inl s0)))
def b60 (x:((List (Int × (ByteArray × Int))) × Int)):Int -> Option (Int ⊕ (PUnit ⊕ Int)) :=
(fun (s0:Int) =>
need (inL x.2 (zAE x.1)) <|
sel (ilt ((zAH (0,(⟨#[]⟩:ByteArray),0) x.1 (i2n x.2)).1) s0) (need (inL s0 (zAE x.1)) <|
need (inL x.2 (zAE x.1)) <|
sel (ieq ((zAH (0,(⟨#[]⟩:ByteArray),0) x.1 (i2n s0)).1) ((zAH (0,(⟨#[]⟩:ByteArray),0) x.1 (i2n x.2)).1)) (some (.inr (.inr s0))) <|
some (.inl (zCX .i64 s0 1))) <|
some (.inr (.inl ())))
def b61 (x:((List (Int × (ByteArray × Int))) × Int)):(Int × Int) -> Option ((Int × Int) ⊕ (Int ⊕ Int)) :=
(fun (s0:(Int × Int)) =>
need (inL s0.1 (zAE x.1)) <|
sel (ile 0 ((zAH (0,(⟨#[]⟩:ByteArray),0) x.1 (i2n s0.1)).1)) (need (inL s0.1 (zAE x.1)) <|
some (.inl ((zAH (0,(⟨#[]⟩:ByteArray),0) x.1 (i2n s0.1)).1,zBA .i64 s0.2 1))) <|
some (.inr (.inl s0.2)))
def b28 (x:(List (Int × (ByteArray × Int)))):Int -> Option (Int ⊕ (PUnit ⊕ Int)) :=
(fun (s0:Int) =>
sel (ilt s0 (n2i (zAE x))) (call (F48 (x,s0)) fun (r1:Int) =>
sel (ine r1 0) (some (.inr (.inr r1))) <|
some (.inl (zBA .i64 s0 1))) <|
some (.inr (.inl ())))
def b27 (x:(List (Int × (ByteArray × Int)))):Int -> Option (Int ⊕ (PUnit ⊕ Bool)) :=
(fun (s0:Int) =>
sel (ilt s0 (n2i (zAE x))) (need (inL s0 (zAE x)) <|
sel (ilt 61 (n2i (ssize (((zAH (0,(⟨#[]⟩:ByteArray),0) x (i2n s0)).2).1)))) (some (.inr (.inr true))) <|
some (.inl (zBA .i64 s0 1))) <|
some (.inr (.inl ())))
def F69_def (x:List FN × Int × Int):F69 x = join (zBh (b59 x) x.2.2) fun j1=>some (ieq j1 x.2.1):=rfl
def F70_def (x:List FN × Int):F70 x = join (zBh (b60 x) (zCX .i64 x.2 1)) fun j1=>some (-1):=rfl
def F71_def (x:List FN × Int):F71 x = join (zBh (b61 x) (x.2,0)) fun j1=>some j1:=rfl
def F22_def (x:List FN):F22 x = sel (ilt 2000 (n2i (zAE x))) (some 4) (join (zBh (b28 x) 0) fun j1=>some 0):=rfl
def F4_def (x:List FN):F4 x = join (zBh (b27 x) 0) fun j1=>some (ilt 70 (n2i (zAE x))):=rfl
inductive UpTo (a:List FN) (q:Int):Int -> Int -> Prop
 | stop {s:Int}:s <= q -> UpTo a q s s
 | step {k:Nat} {v:FN} {r:Int}:q < (k:Int) -> a[k]? = some v -> UpTo a q v.1 r -> UpTo a q k r
inductive Dep (a:List FN):Nat -> Nat -> Prop
 | root {k:Nat} {v:FN}:a[k]? = some v -> v.1 < 0 -> Dep a k 0
 | step {k j d:Nat} {v:FN}:a[k]? = some v -> v.1 = (j:Int) -> Dep a j d -> Dep a k (d + 1)
def Dec (a:List FN) (i:Nat):Prop:=∀ (j:Nat) (v:FN),j < i -> a[j]? = some v -> -1 <= v.1 /\ v.1 < (j:Int)
def up_ex {a:List FN} {q:Int} (hq:-1 <= q):∀ (m:Nat) (s:Int),s < m -> s < a.length -> Dec a m -> ∃ r,UpTo a q s r:=by
 intro m
 induction m with
 | zero=>intro s h1 h2 h3;exact ⟨s,.stop (by omega)⟩
 | succ m ih =>
  intro s h1 h2 h3
  by_cases h:s <= q
  ·exact ⟨s,.stop h⟩
  ·obtain ⟨k,rfl⟩:=Int.eq_ofNat_of_zero_le (show 0 <= s by omega)
   have hk:k < a.length:=by omega
   have hv:=h3 k a[k] (by omega) (yAK hk)
   obtain ⟨r,hr⟩:=ih a[k].1 (by omega) (by omega) fun j v hj hv=>h3 j v (by omega) hv
   exact ⟨r,.step (by omega) (yAK hk) hr⟩
def up_iter {a:List FN} {q:Int} {z:Int} {s r:Int} (h:UpTo a q s r):zBh (b59 (a,q,z)) s = some (.inl r):=by
 induction h with
 | stop h =>
  refine iter_r ?_
  unfold b59
  dsimp only
  rw [zAe,zAX (decide_eq_false (by omega))]
 | step h1 h2 h3 ih =>
  refine iter_l ?_ ih
  unfold b59
  dsimp only
  rw [zAe,zAy (decide_eq_true h1),zAG (zAj (At.lt h2)),zCF h2]
def F69_eq {a:List FN} {q s r:Int} (h:UpTo a q s r):F69 (a,q,s) = some (decide (r = q)):=by
 rw [F69_def,zBo (up_iter h),zDY]
def isubI {a b:Int} (h1:-9223372036854775808 <= a - b) (h2:a - b < 9223372036854775808):zCX .i64 a b = a - b:=zBb h1 h2
def Sib (a:List FN) (par:Int) (s:Int) (r:Int):Prop:=(r = -1 /\ ∀ (j:Nat) (v:FN),par < (j:Int) -> (j:Int) <= s -> a[j]? = some v -> v.1 ≠ par) \/ ∃ (k:Nat) (v:FN),r = (k:Int) /\ a[k]? = some v /\ v.1 = par /\ par < (k:Int) /\ (k:Int) <= s /\ ∀ (j:Nat) (w:FN),(k:Int) < (j:Int) -> (j:Int) <= s -> a[j]? = some w -> w.1 ≠ par
def F70_eq {a:List FN} {i:Nat} {par:Int} {n:Nm} {w:Int} (hi:a[i]? = some (par,n,w)) (ha:a.length <= 2000) (hp:-1 <= par) (hpi:par < i):∃ r,F70 (a,(i:Int)) = some r /\ Sib a par ((i:Int) - 1) r:=by
 have hil:=At.lt hi
 have key:∀ (m:Nat) (s:Int),s = par + m -> s < i -> ∃ e,zBh (b60 (a,(i:Int))) s = some e /\ ((e = .inl () /\ ∀ (j:Nat) (v:FN),par < (j:Int) -> (j:Int) <= s -> a[j]? = some v -> v.1 ≠ par) \/ ∃ (k:Nat) (v:FN),e = .inr (k:Int) /\ a[k]? = some v /\ v.1 = par /\ par < (k:Int) /\ (k:Int) <= s /\ ∀ (j:Nat) (w:FN),(k:Int) < (j:Int) -> (j:Int) <= s -> a[j]? = some w -> w.1 ≠ par):=by
  intro m
  induction m with
  | zero =>
   intro s hs hsi
   refine ⟨.inl (),iter_r ?_,.inl ⟨rfl,fun j v h1 h2=>by omega⟩⟩
   unfold b60
   dsimp only
   rw [zAG (zAj hil),zCF hi,zAe,zAX (decide_eq_false (by omega))]
  | succ m ih =>
   intro s hs hsi
   obtain ⟨k,rfl⟩:=Int.eq_ofNat_of_zero_le (show 0 <= s by omega)
   have hk:k < a.length:=by omega
   have hk2:a[k]? = some a[k]:=yAK hk
   have hb:b60 (a,(i:Int)) (k:Int) = if a[k].1 = par then some (.inr (.inr (k:Int))) else some (.inl ((k:Int) - 1)):=by
    unfold b60
    dsimp only
    rw [zAG (zAj hil),zCF hi,zAe,zAy (decide_eq_true (by dsimp only;omega)),zAG (zAj hk),zAG (zAj hil),zCF hk2,zDY,zCb,isubI (by omega) (by omega)]
   by_cases h:a[k].1 = par
   ·rw [if_pos h] at hb
    exact ⟨.inr k,iter_r hb,.inr ⟨k,a[k],rfl,hk2,h,by omega,by omega,fun j w h1 h2=>by omega⟩⟩
   ·rw [if_neg h] at hb
    obtain ⟨e,e1,e2⟩:=ih ((k:Int) - 1) (by omega) (by omega)
    refine ⟨e,iter_l hb e1,?_⟩
    rcases e2 with ⟨rfl,e3⟩ | ⟨k',v,rfl,e3,e4,e5,e6,e7⟩
    ·refine .inl ⟨rfl,fun j v h1 h2 h3=>?_⟩
     by_cases hjk:j = k
     ·subst hjk;rw [hk2] at h3;have:=yAA h3;subst this;exact h
     ·exact e3 j v h1 (by omega) h3
    ·refine .inr ⟨k',v,rfl,e3,e4,e5,by omega,fun j w h1 h2 h3=>?_⟩
     by_cases hjk:j = k
     ·subst hjk;rw [hk2] at h3;have:=yAA h3;subst this;exact h
     ·exact e7 j w h1 (by omega) h3
 obtain ⟨e,e1,e2⟩:=key ((i:Int) - 1 - par).toNat ((i:Int) - 1) (by omega) (by omega)
 rw [F70_def,isubI (by dsimp only;omega) (by dsimp only;omega)]
 rcases e2 with ⟨rfl,e3⟩ | ⟨k,v,rfl,e3⟩
 ·exact ⟨-1,zBo e1,.inl ⟨rfl,e3⟩⟩
 ·exact ⟨k,join_r e1,.inr ⟨k,v,rfl,e3⟩⟩
def dep_ex {a:List FN}:∀ (m k:Nat),k < m -> k < a.length -> Dec a m -> ∃ d,Dep a k d /\ d <= k:=by
 intro m
 induction m with
 | zero=>intro k h;omega
 | succ m ih =>
  intro k h1 h2 h3
  have hk2:a[k]? = some a[k]:=yAK h2
  have hv:=h3 k a[k] h1 hk2
  by_cases h:a[k].1 < 0
  ·exact ⟨0,.root hk2 h,by omega⟩
  ·obtain ⟨j,hj⟩:=Int.eq_ofNat_of_zero_le (show 0 <= a[k].1 by omega)
   obtain ⟨d,h4,h5⟩:=ih j (by omega) (by omega) fun j v hj hv=>h3 j v (by omega) hv
   exact ⟨d + 1,.step hk2 hj h4,by omega⟩
def dep_det {a:List FN} {k d d':Nat} (h:Dep a k d) (h':Dep a k d'):d = d':=by
 induction h generalizing d' with
 | root h1 h2 =>
  cases h' with
  | root=>rfl
  | step g1 g2 _=>rw [h1] at g1;have:=yAA g1;subst this;omega
 | step h1 h2 h3 ih =>
  cases h' with
  | root g1 g2=>rw [h1] at g1;have:=yAA g1;subst this;omega
  | step g1 g2 g3 =>
   rw [h1] at g1;have:=yAA g1;subst this
   have:_ = _:=h2.symm.trans g2
   have:=Int.ofNat.inj this;subst this
   rw [ih g3]
def F71_eq {a:List FN} {i:Nat} {d:Nat} (h:Dep a i d) (hd:d <= 100000):F71 (a,(i:Int)) = some (d:Int):=by
 have key:∀ {k d:Nat},Dep a k d -> ∀ c:Nat,c + d <= 100000 -> zBh (b61 (a,(i:Int))) ((k:Int),(c:Int)) = some (.inl ((c + d:Nat):Int)):=by
  intro k d h
  induction h with
  | root h1 h2 =>
   intro c hc
   refine iter_r ?_
   unfold b61
   dsimp only
   rw [zAG (zAj (At.lt h1)),zCF h1,ile_d,zAX (decide_eq_false (by omega))]
   rfl
  | step h1 h2 h3 ih =>
   intro c hc
   refine iter_l (s':=((_:Int),((c + 1:Nat):Int))) ?_ ((ih (c + 1) (by omega)).trans (by rw [Nat.add_assoc,Nat.add_comm 1]))
   unfold b61
   dsimp only
   rw [zAG (zAj (At.lt h1)),zCF h1,ile_d,zAy (decide_eq_true (by omega)),zAG (zAj (At.lt h1)),zBp (by omega) (by omega),h2]
   rfl
 rw [F71_def]
 have:=key h 0 (by omega)
 rw [yAT] at this
 exact zBo this
def F67_eq (n:Nm):F67 n = some (nmOk n):=F52_eq n
def F68_eq (s:Int):F68 s = some (wOk s):=F53_eq s
structure Cond (a:List FN) (i:Nat) (v:FN):Prop where
 nm:nmOk v.2.1 = true
 w:wOk v.2.2 = true
 lo:-1 <= v.1
 hi:v.1 < i
 up:UpTo a v.1 ((i:Int) - 1) v.1
 sib:∀ r,Sib a v.1 ((i:Int) - 1) r -> ∀ k:Nat,r = (k:Int) -> ∃ m,a[k]? = some m /\ slt m.2.1 v.2.1 = true
 dep:∀ d,Dep a i d -> d <= 63
 leaf:v.2.2 = 0 -> ∃ m,a[i + 1]? = some m /\ m.1 = (i:Int)
def sib_det {a:List FN} {par s r r':Int} (h:Sib a par s r) (h':Sib a par s r'):r = r':=by
 rcases h with ⟨rfl,h⟩ | ⟨k,v,rfl,h1,h2,h3,h4,h5⟩ <;> rcases h' with ⟨rfl,g⟩ | ⟨j,w,rfl,g1,g2,g3,g4,g5⟩
 ·rfl
 ·exact absurd g2 (h j w g3 g4 g1)
 ·exact absurd h2 (g k v h3 h4 h1)
 ·rcases Nat.lt_trichotomy k j with c | c | c
  ·exact absurd g2 (h5 j w (by omega) g4 g1)
  ·subst c;rfl
  ·exact absurd h2 (g5 k v (by omega) h4 h1)
def F48_tot {a:List FN} (ha:a.length <= 2000) {i:Nat} {v:FN} (hi:a[i]? = some v) (hd:Dec a i):∃ e,F48 (a,(i:Int)) = some e /\ (e = 0 -> Cond a i v):=by
 obtain ⟨par,n,s⟩:=v
 have hil:=At.lt hi
 have hsub:zCX .i64 (i:Int) 1 = (i:Int) - 1:=isubI (by omega) (by omega)
 have hwrap:zBA .i64 (i:Int) 1 = ((i + 1:Nat):Int):=by rw [zBp (by omega) (by omega)];rfl
 unfold F48
 dsimp only
 simp only [zCF hi,hsub,hwrap]
 rw [zAG (zAj hil),zAR (F67_eq n)]
 cases hnm:nmOk n with
 | false=>exact ⟨5,rfl,fun h=>by cases h⟩
 | true =>
 rw [zAX (by rfl),zAR (F68_eq s)]
 cases hw:wOk s with
 | false=>exact ⟨2,rfl,fun h=>by cases h⟩
 | true =>
 rw [zAX (by rfl)]
 by_cases hr:par < -1 \/ (i:Int) <= par
 ·have hc:zAL (ilt par (-1)) true (ile (i:Int) par) = true:=by rw [pick_or,zAe,ile_d,<- Bool.decide_or];exact decide_eq_true hr
  rw [hc,zAR (show sel (zCr true) (F69 (a,par,(i:Int) - 1)) (some false) = some false from rfl)]
  exact ⟨9,rfl,fun h=>by cases h⟩
 have hc:zAL (ilt par (-1)) true (ile (i:Int) par) = false:=by rw [pick_or,zAe,ile_d,<- Bool.decide_or];exact decide_eq_false hr
 obtain ⟨r,hup⟩:=up_ex (a:=a) (q:=par) (by omega) i ((i:Int) - 1) (by omega) (by omega) hd
 rw [hc,zAR (show sel (zCr false) (F69 (a,par,(i:Int) - 1)) (some false) = some (decide (r = par)) from F69_eq hup),pick_or,Bool.false_or,bnot_d]
 by_cases hrp:r ≠ par
 ·rw [zAy (by simpa using hrp)];exact ⟨9,rfl,fun h=>by cases h⟩
 have hrp:r = par:=by simpa using hrp
 subst hrp
 rw [zAX (by simp)]
 obtain ⟨q,hq,hsib⟩:=F70_eq hi ha (by omega) (by omega)
 rw [zAR hq]
 have hqb:impl (ile 0 q) (inL q (zAE a)) = true:=impl_t fun h=>by
  rcases hsib with ⟨rfl,_⟩ | ⟨k,v,rfl,hk,_⟩
  ·cases h
  ·exact zAj (At.lt hk)
 rw [zAG hqb]
 cases hs:zAL (ile 0 q) (zCr (slt ((zAH (0,(⟨#[]⟩:ByteArray),0) a (i2n q)).2).1 n)) false with
 | true=>rw [zAy rfl];exact ⟨9,rfl,fun h=>by cases h⟩
 | false =>
 rw [zAX rfl]
 obtain ⟨d,hdep,hdi⟩:=dep_ex (a:=a) (i + 1) i (by omega) hil fun j v hj hv=>by
  by_cases hji:j = i
  ·subst hji;rw [hi] at hv;have:=yAA hv;subst this;dsimp only;omega
  ·exact hd j v (by omega) hv
 rw [zAR (F71_eq hdep (by omega)),zAe,zCb]
 by_cases h63:(63:Int) < d
 ·rw [if_pos h63];exact ⟨30,rfl,fun h=>by cases h⟩
 rw [if_neg h63]
 have hz:impl (band (ieq s 0) (zCr (ieq ((i + 1:Nat):Int) (n2i (zAE a))))) (inL ((i + 1:Nat):Int) (zAE a)) = true:=impl_t fun h=>by
  rw [band_d,yAB,bnot_d,yBR,zDY,zDY,decide_eq_false_iff_not] at h
  exact zAj (by have:=h.2;simp [n2i,zAE] at this;omega)
 rw [zAG hz]
 cases hl:zAL (ieq s 0) (zAL (ieq ((i + 1:Nat):Int) (n2i (zAE a))) true (ine (zAH (0,(⟨#[]⟩:ByteArray),0) a (i2n ((i + 1:Nat):Int))).1 (i:Int))) false with
 | true=>rw [zAy rfl];exact ⟨1,rfl,fun h=>by cases h⟩
 | false =>
 rw [zAX rfl]
 refine ⟨0,rfl,fun _=>⟨hnm,hw,by dsimp only;omega,by dsimp only;omega,hup,fun q' hq' k hk=>?_,fun d' hd'=>?_,fun h0=>?_⟩⟩
 ·have:=sib_det hsib hq'
  subst this;subst hk
  rcases hsib with ⟨h,_⟩ | ⟨k',v,h1,h2,_⟩
  ·omega
  ·have:=Int.ofNat.inj h1;subst this
   refine ⟨v,h2,?_⟩
   rw [zCF h2,zAu,ile_d,decide_eq_true (by omega),yBT,bnot_d] at hs
   simpa using hs
 ·have:=dep_det hdep hd';subst this;omega
 ·have h0:s = 0:=h0
  rw [zAu,zDY,decide_eq_true h0,yBT,pick_or,Bool.or_eq_false_iff] at hl
  obtain ⟨h1,h2⟩:=hl
  rw [zDY,decide_eq_false_iff_not] at h1
  have hlt:i + 1 < a.length:=by simp [n2i,zAE] at h1;omega
  have hm:a[i + 1]? = some a[i + 1]:=yAK hlt
  rw [zCF hm,ine_d,decide_eq_false_iff_not] at h2
  exact ⟨_,hm,by simpa using h2⟩
def F22_tot {a:List FN} (ha:a.length <= 2000):∃ e,F22 a = some e /\ (e = 0 -> ∀ i v,a[i]? = some v -> Cond a i v):=by
 rw [F22_def,zAX (by rw [zAe,zAf,zAM];exact decide_eq_false (by omega))]
 obtain ⟨y,h1,h2⟩:=zDL (body:=b28 a) (k:=fun _:PUnit=>some (0:Int)) (s:=(0:Int)) (G:=fun e=>e = 0 -> ∀ i v,a[i]? = some v -> Cond a i v)
  (fun s=>∃ i:Nat,s = (i:Int) /\ i <= a.length /\ ∀ (j:Nat) (v:FN),j < i -> a[j]? = some v -> Cond a j v) (fun s=>a.length - s.toNat) (fun e=>(e = .inl () /\ ∀ i v,a[i]? = some v -> Cond a i v) \/ ∃ r:Int,r ≠ 0 /\ e = .inr r) ⟨0,rfl,by omega,fun j v h=>by omega⟩
  (by
   rintro _ ⟨i,rfl,hi,hc⟩
   unfold b28
   rw [zAe,zAf,zAM,zCb]
   by_cases h:i < a.length
   ·rw [if_pos (by omega)]
    have hi2:a[i]? = some a[i]:=yAK h
    obtain ⟨e,e1,e2⟩:=F48_tot ha hi2 fun j v hj hv=>⟨(hc j v hj hv).lo,(hc j v hj hv).hi⟩
    rw [zAR e1,ine_d,zCb]
    by_cases h0:e ≠ 0
    ·rw [if_pos h0];exact .inr ⟨_,rfl,.inr ⟨e,h0,rfl⟩⟩
    ·rw [if_neg h0,zBp (by omega) (by omega)]
     refine .inl ⟨_,rfl,⟨i + 1,rfl,by omega,fun j v hj hv=>?_⟩,by omega⟩
     by_cases hji:j = i
     ·subst hji;rw [hi2] at hv;have:=yAA hv;subst this;exact e2 (by simpa using h0)
     ·exact hc j v (by omega) hv
   ·rw [if_neg (by omega)]
    exact .inr ⟨_,rfl,.inl ⟨rfl,fun j v hv=>hc j v (by have:=At.lt hv;omega) hv⟩⟩)
  (by
   rintro _ (⟨rfl,h⟩ | ⟨r,hr,rfl⟩)
   ·exact ⟨0,rfl,fun _=>h⟩
   ·exact ⟨r,rfl,fun h=>absurd h hr⟩)
 exact ⟨y,h1,h2⟩
def parse:Nat -> Int -> Nat -> List FN -> Fo × List FN
 | 0,_,_,l=>(.nil,l)
 | _ + 1,_,_,[]=>(.nil,[])
 | f + 1,par,pl,(p,n,s) :: l=>if p = par then (.cons n s (parse f pl (pl + 1) l).1 (parse f par (pl + 1 + (parse f pl (pl + 1) l).1.len) (parse f pl (pl + 1) l).2).1,(parse f par (pl + 1 + (parse f pl (pl + 1) l).1.len) (parse f pl (pl + 1) l).2).2) else (.nil,(p,n,s) :: l)
def parse_enc:∀ (f:Nat) (par:Int) (pl:Nat) (l:List FN),(parse f par pl l).1.enc par pl ++ (parse f par pl l).2 = l
 | 0,_,_,l=>rfl
 | _ + 1,_,_,[]=>rfl
 | f + 1,par,pl,(p,n,s) :: l=>by
  rw [parse]
  split
  ·rename_i h
   subst h
   dsimp only
   rw [Fo.enc,yAl,yAQ,parse_enc f,parse_enc f]
  ·rfl
def St:Fo -> Nat -> Int -> Prop
 | .nil,_,_=>True
 | .cons n s sub rest,pl,q=>(rest = .nil -> q ≠ (pl:Int) /\ St sub (pl + 1) q) /\ St rest (pl + 1 + sub.len) q
def parse_stop:∀ (f:Nat) (par:Int) (pl:Nat) (l:List FN),l.length < f -> (parse f par pl l).2 = [] \/ ∃ v t,(parse f par pl l).2 = v :: t /\ v.1 ≠ par /\ St (parse f par pl l).1 pl v.1
 | 0,_,_,l,h=>by omega
 | _ + 1,_,_,[],_=>.inl rfl
 | f + 1,par,pl,(p,n,s) :: l,h=>by
  rw [parse]
  split
  ·rename_i hp
   subst hp
   dsimp only
   have h1:=parse_enc f pl (pl + 1) l
   have hlen:(parse f pl (pl + 1) l).2.length <= l.length:=by
    have:=congrArg List.length h1
    rw [yAD] at this;omega
   have h2:=parse_enc f p (pl + 1 + (parse f pl (pl + 1) l).1.len) (parse f pl (pl + 1) l).2
   have ia:=parse_stop f pl (pl + 1) l (by simp at h;omega)
   have ib:=parse_stop f p (pl + 1 + (parse f pl (pl + 1) l).1.len) (parse f pl (pl + 1) l).2 (by simp at h;omega)
   rcases ib with ib | ⟨v,t,b1,b2,b3⟩
   ·exact .inl ib
   ·refine .inr ⟨v,t,b1,b2,fun hr=>?_,b3⟩
    have hbn:(parse f p (pl + 1 + (parse f pl (pl + 1) l).1.len) (parse f pl (pl + 1) l).2).2 = (parse f pl (pl + 1) l).2:=by
     have:=h2
     rw [hr] at this
     exact this
    rcases ia with ia | ⟨v',t',a1,a2,a3⟩
    ·rw [hbn,ia] at b1;cases b1
    ·rw [hbn,a1] at b1
     have e:=List.cons.inj b1
     have e1:=e.1
     subst e1
     exact ⟨a2,a3⟩
  ·rename_i hp
   exact .inr ⟨_,_,rfl,hp,trivial⟩
def zDV {a:List FN} {q:Int}:∀ (F:Fo) (par:Int) (pl:Nat),At a pl (F.enc par pl) -> F ≠ .nil -> St F pl q -> ∀ r,UpTo a q ((pl + F.len:Nat) - 1:Int) r -> r = q -> UpTo a q par r
 | .nil,_,_,_,h,_,_,_,_=>absurd rfl h
 | .cons n s sub rest,par,pl,hA,_,hS,r,hu,hr=>by
  rw [Fo.enc] at hA
  have hi:=hA.head
  have hA1:=hA.tail.left
  have hA2:=hA.tail.right
  rw [Fo.enc_len] at hA2
  rw [Fo.len] at hu
  by_cases hrest:rest = .nil
  ·subst hrest
   obtain ⟨g1,g2⟩:=hS.1 rfl
   have key:UpTo a q (pl:Int) r:=by
    by_cases hsub:sub = .nil
    ·subst hsub
     simp only [Fo.len] at hu
     rw [show ((pl + (1 + 0 + 0):Nat) - 1:Int) = (pl:Int) by omega] at hu
     exact hu
    ·simp only [Fo.len] at hu
     refine zDV sub pl (pl + 1) hA1 hsub g2 r ?_ hr
     rw [show ((pl + 1 + sub.len:Nat) - 1:Int) = ((pl + (1 + sub.len + 0):Nat) - 1:Int) by omega]
     exact hu
   cases key with
   | stop h=>exact absurd hr.symm g1
   | step h1 h2 h3 =>
    rw [hi] at h2
    have:=yAA h2
    subst this
    exact h3
  ·refine zDV rest par (pl + 1 + sub.len) hA2 hrest hS.2 r ?_ hr
   rw [show ((pl + 1 + sub.len + rest.len:Nat) - 1:Int) = ((pl + (1 + sub.len + rest.len):Nat) - 1:Int) by omega]
   exact hu
def parse_all {a:List FN} (h:∀ i v,a[i]? = some v -> Cond a i v):∃ F:Fo,a = F.enc (-1) 0:=by
 have h1:=parse_enc (a.length + 1) (-1) 0 a
 rcases parse_stop (a.length + 1) (-1) 0 a (by omega) with h2 | ⟨v,t,h2,h3,h4⟩
 ·rw [h2,yAS] at h1
  exact ⟨_,h1.symm⟩
 ·exfalso
  generalize (parse (a.length + 1) (-1) 0 a).1 = F at h1 h4
  rw [h2] at h1
  have hi:a[F.len]? = some v:=by
   rw [<- h1,yAa (by rw [Fo.enc_len];omega),Fo.enc_len];simp
  have hc:=h F.len v hi
  have hA:At a 0 (F.enc (-1) 0):=by
   have:=At.all a
   rw [<- h1] at this ⊢
   exact this.left
  by_cases hF:F = .nil
  ·subst hF
   have h5:=hc.lo;have h6:=hc.hi
   simp only [Fo.len] at h6
   exact h3 (by omega)
  ·have h7:=zDV F (-1) 0 hA hF h4 v.1 (by rw [yAT];exact hc.up) rfl
   have h5:=hc.lo
   generalize hz:(-1:Int) = z at h7
   cases h7 with
   | stop h=>exact h3 hz.symm
   | step h8 h9 _=>omega
def enc_par:∀ (F:Fo) (par:Int) (pl:Nat) (i:Nat) (v:FN),(F.enc par pl)[i]? = some v -> v.1 = par \/ (pl:Int) <= v.1
 | .nil,_,_,i,v,h=>by simp [Fo.enc] at h
 | .cons n s sub rest,par,pl,i,v,h=>by
  rw [Fo.enc] at h
  cases i with
  | zero=>have:=yAA h;subst this;exact .inl rfl
  | succ i =>
   rw [yBH] at h
   rcases yAZ i (sub.enc pl (pl + 1)).length with hlt | hge
   ·rw [yAe hlt] at h
    rcases enc_par sub pl (pl + 1) i v h with h | h
    ·exact .inr (by omega)
    ·exact .inr (by omega)
   ·rw [yAa hge] at h
    rcases enc_par rest par (pl + 1 + sub.len) _ v h with h | h
    ·exact .inl h
    ·exact .inr (by omega)
def good_seg {a:List FN} (hc:∀ i v,a[i]? = some v -> Cond a i v):∀ (F:Fo) (par:Int) (pl d:Nat),At a pl (F.enc par pl) -> -1 <= par -> par < pl -> (∀ j:Nat,par = (j:Int) -> ∃ d',Dep a j d' /\ d = d' + 1) -> (par = -1 -> d = 0) ->
  (∀ v,a[pl + F.len]? = some v -> v.1 < (pl:Int)) ->
  F.Good d /\ ∀ k:Nat,Sib a par ((pl:Int) - 1) (k:Int) -> ∀ m,a[k]? = some m -> ∀ h ∈ F.heads,slt m.2.1 h = true
 | .nil,_,_,_,_,_,_,_,_,_=>⟨trivial,fun k _ m _ h hh=>by cases hh⟩
 | .cons n s sub rest,par,pl,d,hA,h1,h2,h3,h4,h5=>by
  rw [Fo.enc] at hA
  have hi:=hA.head
  have hA1:=hA.tail.left
  have hA2:=hA.tail.right
  rw [Fo.enc_len] at hA2
  have hcd:=hc pl _ hi
  have hdep:Dep a pl d:=by
   by_cases hp:par = -1
   ·rw [h4 hp];exact .root hi (by dsimp only;omega)
   ·obtain ⟨j,rfl⟩:=Int.eq_ofNat_of_zero_le (show 0 <= par by omega)
    obtain ⟨d',h6,rfl⟩:=h3 j rfl
    exact .step hi rfl h6
  have hnx1:∀ v,a[pl + 1 + sub.len]? = some v -> v.1 < (pl:Int):=fun v hv=>by
   cases hrest:rest with
   | nil =>
    refine h5 v ?_
    rw [hrest,Fo.len,Fo.len,show pl + (1 + sub.len + 0) = pl + 1 + sub.len by omega];exact hv
   | cons n' s' sub' rest' =>
    rw [hrest,Fo.enc] at hA2
    have:=hA2.head
    rw [hv] at this
    have:=yAA this
    subst this
    exact h2
  obtain ⟨gs,_⟩:=good_seg hc sub pl (pl + 1) (d + 1) hA1 (by omega) (by omega) (fun j hj=>by
   have:=Int.ofNat.inj hj;subst this;exact ⟨d,hdep,rfl⟩) (fun h=>by omega) (fun v hv=>by have:=hnx1 v hv;omega)
  obtain ⟨gr,gh⟩:=good_seg hc rest par (pl + 1 + sub.len) d hA2 h1 (by omega) h3 h4 (fun v hv=>by
   have:=h5 v (by rw [Fo.len,show pl + (1 + sub.len + rest.len) = pl + 1 + sub.len + rest.len by omega];exact hv)
   omega)
  have hsibl:Sib a par (((pl + 1 + sub.len:Nat):Int) - 1) (pl:Int):=by
   refine .inr ⟨pl,_,rfl,hi,rfl,h2,by omega,fun j w hj1 hj2 hw=>?_⟩
   have hw2:(sub.enc pl (pl + 1))[j - (pl + 1)]? = some w:=by
    have hlt:j - (pl + 1) < (sub.enc pl (pl + 1)).length:=by rw [Fo.enc_len];omega
    have hx:(sub.enc pl (pl + 1))[j - (pl + 1)]? = some (sub.enc pl (pl + 1))[j - (pl + 1)]:=yAK hlt
    have:=hA1 _ _ hx
    rw [show pl + 1 + (j - (pl + 1)) = j by omega,hw] at this
    rw [hx,<- this]
   rcases enc_par sub pl (pl + 1) _ w hw2 with h | h <;> omega
  have hheads:∀ m ∈ rest.heads,slt n m = true:=fun m hm=>gh pl hsibl _ hi m hm
  have hgood:(Fo.cons n s sub rest).Good d:=by
   refine ⟨⟨?_,?_,?_,?_⟩,fun h0 hsub=>?_,?_,hheads,gs,gr⟩
   ·exact (of_decide_eq_true hcd.nm).1
   ·exact (of_decide_eq_true hcd.nm).2
   ·exact (of_decide_eq_true hcd.w).1
   ·exact (of_decide_eq_true hcd.w).2
   ·obtain ⟨m,hm,hm1⟩:=hcd.leaf h0
    have:=hnx1 m (by rw [hsub,Fo.len];exact hm)
    omega
   ·have:=hcd.dep d hdep;omega
  refine ⟨hgood,fun k hk m hm h hh=>?_⟩
  obtain ⟨m',hm',hlt⟩:=hcd.sib k hk k rfl
  rw [hm] at hm'
  have:=yAA hm'
  subst this
  rw [Fo.heads,yAE] at hh
  rcases hh with rfl | hh
  ·exact hlt
  ·exact slt_trans hlt (hheads h hh)
def F22_good {a:List FN} (ha:a.length <= 2000) (h:F22 a = some 0):∃ F:Fo,a = F.enc (-1) 0 /\ F.Good 0:=by
 obtain ⟨e,h1,h2⟩:=F22_tot ha
 rw [h] at h1
 have:=yAA h1
 subst this
 have hc:=h2 rfl
 obtain ⟨F,hF⟩:=parse_all hc
 refine ⟨F,hF,(good_seg hc F (-1) 0 0 (by rw [<- hF];exact At.all a) (by omega) (by omega) (fun j hj=>by omega) (fun _=>rfl) fun v hv=>?_).1⟩
 rw [yAT,hF] at hv
 have:=At.lt hv
 rw [Fo.enc_len] at this
 omega
def F4_tot {a:List FN} (ha:a.length <= 9223372036854775807):∃ b,F4 a = some b /\ (b = false -> a.length <= 70):=by
 rw [F4_def]
 refine zDL (body:=b27 a) (k:=fun _:PUnit=>some (ilt 70 (n2i (zAE a)))) (s:=(0:Int)) (G:=fun b=>b = false -> a.length <= 70) (fun s=>∃ i:Nat,s = (i:Int) /\ i <= a.length) (fun s=>a.length - s.toNat) (fun e=>e = .inl () \/ e = .inr true) ⟨0,rfl,by omega⟩ ?_ ?_
 ·rintro _ ⟨i,rfl,hi⟩
  unfold b27
  rw [zAe,zAf,zAM,zCb]
  by_cases h:i < a.length
  ·rw [if_pos (by omega),zAG (inL_t h),zAe,zCb]
   split
   ·exact .inr ⟨_,rfl,.inr rfl⟩
   ·rw [zBp (by omega) (by omega)]
    exact .inl ⟨_,rfl,⟨i + 1,rfl,by omega⟩,by omega⟩
  ·rw [if_neg (by omega)]
   exact .inr ⟨_,rfl,.inl rfl⟩
 ·rintro _ (rfl | rfl)
  ·refine ⟨_,rfl,fun h=>?_⟩
   rw [zAe,decide_eq_false_iff_not,zAf,zAM] at h
   omega
  ·exact ⟨true,rfl,fun h=>by cases h⟩
def bm (l:List Sk) (cb:Int -> Sk -> Option (Sk × Bool)):(Int × List Sk) -> Option ((Int × List Sk) ⊕ (List Sk ⊕ (List FN × Int))):=fun s2 =>
 sel (ilt s2.1 (n2i (zAE l))) (join (need (inL s2.1 (zAE l)) <|
  call (cb s2.1 (zAH ([],0) l (i2n s2.1))) fun r3 =>
  sel r3.2 (need (room (zBl (zAE s2.2) (zAE [r3.1])) 32) <| some (.inl (zBg s2.2 [r3.1]))) <| some (.inl s2.2)) fun j4=>some (.inl (zBA .i64 s2.1 1,j4))) <|
 some (.inr (.inl s2.2))
def bm_loop {l:List Sk} {cb:Int -> Sk -> Option (Sk × Bool)} {y:Sk -> Sk} {kb:Sk -> Bool} (hl:l.length <= 2000) (hcb:∀ i,∀ s ∈ l,cb i s = some (y s,kb s)):zBh (bm l cb) (0,[]) = some (.inl ((l.filter kb).map y)):=by
 have hG:∀ i,i <= l.length -> Goes (bm l cb) (0,[]) ((i:Int),((l.take i).filter kb).map y):=by
  intro i
  induction i with
  | zero=>intro _;exact Goes.refl _ _
  | succ i ih =>
   intro hi
   refine (ih (by omega)).trans (Goes.one ?_)
   have hil:i < l.length:=by omega
   have hlen:(((l.take i).filter kb).map y).length <= i:=by
    rw [yAG];exact yBN (List.length_filter_le _ _) (by rw [yAU];omega)
   unfold bm
   dsimp only
   rw [zAe,zAy (by rw [zAf,zAM];exact decide_eq_true (by omega)),zAG (zAj hil),zCM,zCN hil,zAR (hcb _ _ (yAs hil)),yAM hil,yBF,yAV]
   rw [zBp (by omega) (by omega)]
   dsimp only
   by_cases hk:kb l[i] = true
   ·rw [hk,zAy rfl,zAG (zBe (by simp only [zBl,zAE,yAC];omega)),zBG,yAo hk];rfl
   ·rw [zAX (by simpa using hk),zBG,yAp hk];simp
 refine (hG l.length (yAJ _)).fin ?_
 unfold bm
 dsimp only
 rw [zAe,zAX (by rw [zAf,zAM];exact decide_eq_false (by omega)),yAi]
def F21_eq {p:List Nm} (hl:p.length <= 1000000) (n:Nm):F21 (p,n) = some (has n p):=by
 have key:∃ r,F47 (p,n) = some r /\ (0 <= r ↔ has n p = true):=by
  unfold F47
  refine zDL (fun s=>∃ i:Nat,s = (i:Int) /\ i <= p.length /\ has n (p.take i) = false) (fun s=>p.length - s.toNat) (fun e=>(has n p = true /\ ∃ r:Int,0 <= r /\ e = .inr r) \/ (has n p = false /\ e = .inl ())) ⟨0,rfl,by omega,rfl⟩ ?_ ?_
  ·rintro _ ⟨i,rfl,hi,hf⟩
   dsimp only
   rw [zAe,zAf,zAM,zCb]
   by_cases h:i < p.length
   ·rw [if_pos (by omega),zAG (inL_t h),zCM,zCN h,seq_t,zCb]
    by_cases hb:n = p[i]
    ·rw [if_pos hb]
     exact .inr ⟨_,rfl,.inl ⟨yBQ.2 ⟨p[i],yAs h,decide_eq_true hb.symm⟩,_,by omega,rfl⟩⟩
    ·rw [if_neg hb,zBp (by omega) (by omega)]
     refine .inl ⟨_,rfl,⟨i + 1,rfl,by omega,?_⟩,by omega⟩
     rw [yAM h,has_app,hf,decide_eq_false (fun e=>hb e.symm)];rfl
   ·have:i = p.length:=by omega
    subst this
    rw [if_neg (by omega)]
    rw [yAi] at hf
    exact .inr ⟨_,rfl,.inr ⟨hf,rfl⟩⟩
  ·rintro _ (⟨h,r,hr,rfl⟩ | ⟨h,rfl⟩)
   ·exact ⟨r,rfl,⟨fun _=>h,fun _=>hr⟩⟩
   ·exact ⟨-1,rfl,⟨fun h'=>by omega,fun h'=>by rw [h] at h';cases h'⟩⟩
 obtain ⟨r,h1,h2⟩:=key
 unfold F21
 dsimp only
 rw [zAR h1,ile_d]
 congr 1
 by_cases h:0 <= r
 ·rw [h2.1 h];simpa using h
 ·have:has n p = false:=by
   cases e:has n p with
   | true=>exact absurd (h2.2 e) h
   | false=>rfl
  rw [this];simpa using h
def F19a_def (x:List FN × PUnit × Nm):F19a x = call (F30 x.1) fun (r0:Int)=>sel (ine r0 0) (some ([],1)) <| call (F17 x.1) fun (r1:List Sk)=>join (zBh (bm r1 fun i s=>F20 (i,s,x.2.2)) (0,[])) fun (j5:List Sk)=>call (F16 j5) fun (r6:List FN × Int)=>sel (ine r6.2 0) (some ([],r6.2)) <| some (r6.1,0):=rfl
def F19c_def (x:List FN):F19c x = call (F30 x) fun (r0:Int)=>sel (ine r0 0) (some ([],1)) <| call (F17 x) fun (r1:List Sk)=>join (zBh (bm r1 fun i s=>F26 (i,s)) (0,[])) fun (j5:List Sk)=>call (F16 j5) fun (r6:List FN × Int)=>sel (ine r6.2 0) (some ([],r6.2)) <| some (r6.1,0):=rfl
def F16_eq {l:List Sk} (hl:l.length <= 10000):F16 l = some (ofGo (0,.nil) l):=by unfold F16;rw [if_pos hl]
def F6_enc {F:Fo} (hG:F.Good 0) (hl:F.len <= 2000) (n:Nm):F6 (F.enc (-1) 0,n) = some ((kp (has n) F).enc (-1) 0,0):=by
 have h13:=F30_enc hG hl
 have hsl:=stk_len F []
 have hfi:=stk_fineL hG
 have hloop:=bm_loop (l:=F.stk []) (cb:=fun i s=>F20 (i,s,n)) (y:=id) (kb:=fun s=>has n s.1) (by omega) fun i s hs=>by
  unfold F20
  dsimp only
  rw [zAR (F21_eq (by have:=(hfi s hs).1;omega) n)];rfl
 rw [List.map_id] at hloop
 unfold F6
 dsimp only
 rw [F19a_def]
 dsimp only
 rw [zAR h13,zAX (by rfl),zAR (F17_enc h13 hG.nd hl),zBo hloop,zAR (F16_eq (by have:=List.length_filter_le (fun s:Sk=>has n s.1) (F.stk []);omega)),of_keep (has n) hG hl]
 rfl
def F9_enc {F:Fo} (hG:F.Good 0) (hl:F.len <= 2000):F9 (F.enc (-1) 0) = some (if (ofGo (0,.nil) (rvs (F.stk []))).2 ≠ 0 then ([],(ofGo (0,.nil) (rvs (F.stk []))).2) else ((ofGo (0,.nil) (rvs (F.stk []))).1,0)):=by
 have h13:=F30_enc hG hl
 have hsl:=stk_len F []
 have hfi:=stk_fineL hG
 have hloop:=bm_loop (l:=F.stk []) (cb:=fun i s=>F26 (i,s)) (y:=fun x=>(x.1.reverse,x.2)) (kb:=fun _=>true) (by omega) fun i s hs=>by
  unfold F26
  dsimp only
  rw [if_pos (by have:=(hfi s hs).1;omega)]
 rw [List.filter_eq_self.2 (by simp)] at hloop
 unfold F9
 rw [F19c_def,zAR h13,zAX (by rfl),zAR (F17_enc h13 hG.nd hl),zBo hloop,zAR (F16_eq (by rw [yAG];omega)),ine_d,zCb]
 show call (if (ofGo (0,.nil) (rvs (F.stk []))).2 ≠ 0 then _ else _) _ = _
 split <;> rfl
def F8_self {a:List FN} (ha:a.length <= 2000):F8 (a,a) = some true:=by
 unfold F8
 rw [ine_d,zAX (by simp)]
 obtain ⟨y,h1,h2⟩:=zDL (body:=fun (s0:Int) =>
     sel (ilt s0 (n2i (zAE a))) (need (inL s0 (zAE a)) <|
     need (inL s0 (zAE a)) <|
     sel (zCr (band (ieq ((zAH (0,(⟨#[]⟩:ByteArray),0) a (i2n s0)).1) ((zAH (0,(⟨#[]⟩:ByteArray),0) a (i2n s0)).1)) (band (seq (((zAH (0,(⟨#[]⟩:ByteArray),0) a (i2n s0)).2).1) (((zAH (0,(⟨#[]⟩:ByteArray),0) a (i2n s0)).2).1)) (band (ieq (((zAH (0,(⟨#[]⟩:ByteArray),0) a (i2n s0)).2).2) (((zAH (0,(⟨#[]⟩:ByteArray),0) a (i2n s0)).2).2)) true)))) (some (.inr (.inr false))) <|
     some (.inl (zBA .i64 s0 1))) <|
     some (.inr (.inl ()))) (k:=fun j1:PUnit=>some true) (s:=(0:Int)) (G:=fun b=>b = true) (fun s=>∃ i:Nat,s = (i:Int) /\ i <= a.length) (fun s=>a.length - s.toNat) (fun e=>e = .inl ()) ⟨0,rfl,by omega⟩
  (by
   rintro _ ⟨i,rfl,hi⟩
   rw [zAe,zAf,zAM,zCb]
   by_cases h:i < a.length
   ·rw [if_pos (by omega),zAG (inL_t h),zAG (inL_t h),zDY,seq_t,zDY,zAX (by simp [zCr,band]),zBp (by omega) (by omega)]
    exact .inl ⟨_,rfl,⟨i + 1,rfl,by omega⟩,by omega⟩
   ·rw [if_neg (by omega)]
    exact .inr ⟨_,rfl,rfl⟩)
  (by rintro _ rfl;exact ⟨true,rfl,rfl⟩)
 rw [h2] at h1
 exact h1
def ieq_self (a:Int):ieq a a = true:=by rw [zDY,decide_eq_true rfl]
def callQ_of {A R:Type} {p:A -> Prop} {k:A -> Option R} {r:R} (h1:∃ a,p a) (h2:∀ a,p a -> k a = some r):callQ p k = some r:=by
 have hx:(∃ a,p a) /\ ∃ r,∀ a,p a -> k a = some r:=⟨h1,r,h2⟩
 unfold callQ
 rw [dif_pos hx]
 obtain ⟨a,ha⟩:=h1
 have:=yBB hx.2 a ha
 rw [h2 a ha] at this
 exact this.symm
def mrange_of {A S E:Type} {l:List A} {B:A -> S -> Option (S ⊕ E)} {N:S -> Option (S ⊕ E)} {s:S} {e:E} (h:∀ l',l'.Perm l -> foldM B N l' s = some e):mrange l B N s = some e:=by
 have hx:∃ e,∀ l',l'.Perm l -> foldM B N l' s = some e:=⟨e,h⟩
 unfold mrange
 rw [dif_pos hx]
 have:=yBB hx l (.refl _)
 rw [h l (.refl _)] at this
 exact this.symm
def mk_t {l c:Int} {b:Nat} (h1:0 <= l) (h2:l <= c) (h3:c * b <= 281474976710656) (h4:c <= 281474976710656):mk l c b = true:=by
 unfold mk
 rw [decide_eq_true h1,decide_eq_true h2,decide_eq_true h3,decide_eq_true h4];rfl
def slf (n:Nm):List FN -> Int
 | []=>0
 | v :: l=>(if v.2.1 = n then v.2.2 else 0) + slf n l
def slf_app (n:Nm):∀ a b:List FN,slf n (a ++ b) = slf n a + slf n b
 | [],b=>by simp [slf]
 | v :: a,b=>by rw [yAl,slf,slf,slf_app n a];omega
def slf_one (n:Nm) (v:FN):slf n [v] = if v.2.1 = n then v.2.2 else 0:=by simp [slf]
def slf_none {n:Nm}:∀ {l:List FN},(¬ ∃ v ∈ l,v.2.1 = n) -> slf n l = 0
 | [],_=>rfl
 | v :: l,h=>by
  rw [slf,if_neg (fun e=>h ⟨v,by simp,e⟩),slf_none fun ⟨w,hw,e⟩=>h ⟨w,yAF _ hw,e⟩];rfl
def slf_b {n:Nm}:∀ {l:List FN},(∀ v ∈ l,wOk v.2.2 = true) -> -(1099511627776 * (l.length:Int)) <= slf n l /\ slf n l <= 1099511627776 * (l.length:Int)
 | [],_=>by simp [slf]
 | v :: l,h=>by
  have h1:-1099511627776 <= v.2.2 /\ v.2.2 <= 1099511627776:=of_decide_eq_true (h v (by simp))
  have h2:=slf_b (n:=n) (l:=l) fun w hw=>h w (yAF _ hw)
  rw [slf,yAY]
  split <;> omega
def tots:List FN -> Int
 | []=>0
 | v :: l=>v.2.2 + tots l
def tots_app:∀ a b:List FN,tots (a ++ b) = tots a + tots b
 | [],b=>by simp [tots]
 | v :: a,b=>by rw [yAl,tots,tots,tots_app a];omega
def sum_app (a b:List Int):(a ++ b).sum = a.sum + b.sum:=List.sum_append
structure Own (l:List FN) (M:List (Nm × Int)):Prop where
 nd:(M.map (·.1)).Nodup
 mem:∀ n,n ∈ M.map (·.1) ↔ ∃ v ∈ l,v.2.1 = n
 val:∀ p ∈ M,p.2 = slf p.1 l
 sum:(M.map (·.2)).sum = tots l
def put_cases (n:Nm):∀ M:List (Nm × Int),(n ∉ M.map (·.1) /\ mget seq 0 M n = 0 /\ ∀ w,mput seq M n w = M ++ [(n,w)]) \/ ∃ A x B,M = A ++ (n,x) :: B /\ mget seq 0 M n = x /\ ∀ w,mput seq M n w = A ++ (n,w) :: B
 | []=>.inl ⟨by simp,rfl,fun _=>rfl⟩
 | (m,x) :: M=>by
  by_cases h:n = m
  ·subst h
   exact .inr ⟨[],x,M,rfl,by simp [mget,seq_t],fun w=>by simp [mput,mputGo,seq_t]⟩
  ·rcases put_cases n M with ⟨h1,h2,h3⟩ | ⟨A,y,B,h1,h2,h3⟩
   ·refine .inl ⟨fun hm=>by
    rw [yAL,yAE] at hm
    rcases hm with e | e
    ·exact h e
    ·exact h1 e,?_,fun w=>?_⟩
    ·unfold mget at h2 ⊢
     rw [List.find?_cons_of_neg (by simpa [seq_t] using h)];exact h2
    ·have:=h3 w
     unfold mput at this ⊢
     rw [mputGo,if_neg (by simpa [seq_t] using h),this];rfl
   ·refine .inr ⟨(m,x) :: A,y,B,by rw [h1];rfl,?_,fun w=>?_⟩
    ·unfold mget at h2 ⊢
     rw [List.find?_cons_of_neg (by simpa [seq_t] using h)];exact h2
    ·have:=h3 w
     unfold mput at this ⊢
     rw [mputGo,if_neg (by simpa [seq_t] using h),this];rfl
def Own.nil:Own [] []:=⟨by simp,by simp,by simp,rfl⟩
def Own.get {l:List FN} {M:List (Nm × Int)} (h:Own l M) (n:Nm):mget seq 0 M n = slf n l:=by
 rcases put_cases n M with ⟨h1,h2,_⟩ | ⟨A,x,B,rfl,h2,_⟩
 ·rw [h2,slf_none fun e=>h1 ((h.mem n).2 e)]
 ·rw [h2];exact h.val (n,x) (by simp)
def Own.put {l:List FN} {M:List (Nm × Int)} (h:Own l M) (v:FN):Own (l ++ [v]) (mput seq M v.2.1 (mget seq 0 M v.2.1 + v.2.2)):=by
 have hg:=h.get v.2.1
 obtain ⟨pr,n,s⟩:=v
 dsimp only at hg ⊢
 rw [hg]
 rcases put_cases n M with ⟨h1,h2,h3⟩ | ⟨A,x,B,rfl,h2,h3⟩
 ·rw [h3]
  refine ⟨?_,fun m=>?_,fun p hp=>?_,?_⟩
  ·rw [yAV,List.nodup_append]
   refine ⟨h.nd,by simp,fun a ha b hb e=>?_⟩
   simp at hb
   subst hb;subst e
   exact h1 ha
  ·rw [yAV,yAO,h.mem]
   constructor
   ·rintro (⟨v,hv,e⟩ | e)
    ·exact ⟨v,by simp [hv],e⟩
    ·simp at e;exact ⟨(pr,n,s),by simp,e.symm⟩
   ·rintro ⟨v,hv,e⟩
    rcases yAO.1 hv with hv | hv
    ·exact .inl ⟨v,hv,e⟩
    ·simp at hv;subst hv;exact .inr (by simpa using e.symm)
  ·rw [slf_app,slf_one]
   rcases yAO.1 hp with hp | hp
   ·have:n ≠ p.1:=fun e=>h1 (e ▸ yAg (f:=(·.1)) hp)
    rw [if_neg this,<- h.val p hp];omega
   ·simp at hp;subst hp;simp
  ·rw [yAV,sum_app,h.sum,tots_app,<- hg,h2];simp [tots]
 ·have hx:x = slf n l:=h2.symm.trans hg
  subst hx
  rw [h3]
  have hk:(A ++ (n,slf n l + s) :: B).map (·.1) = (A ++ (n,slf n l) :: B).map (·.1):=by simp
  have hnd:=h.nd
  rw [yAV,yAL,List.nodup_append,List.nodup_cons] at hnd
  refine ⟨by rw [hk];exact h.nd,fun m=>?_,fun p hp=>?_,?_⟩
  ·rw [hk,h.mem]
   constructor
   ·rintro ⟨v,hv,e⟩;exact ⟨v,by simp [hv],e⟩
   ·rintro ⟨v,hv,e⟩
    rcases yAO.1 hv with hv | hv
    ·exact ⟨v,hv,e⟩
    ·simp at hv;subst hv
     exact (h.mem m).1 (by simp [show n = m from e])
  ·rw [slf_app,slf_one]
   rcases yAO.1 hp with hp | hp
   ·have:n ≠ p.1:=fun e=>hnd.2.2 p.1 (yAg (f:=(·.1)) hp) n (by simp) e.symm
    rw [if_neg this,<- h.val p (by simp [hp])];omega
   ·rcases yAE.1 hp with hp | hp
    ·subst hp;simp
    ·have:n ≠ p.1:=fun e=>hnd.2.1.1 (e ▸ yAg (f:=(·.1)) hp)
     rw [if_neg this,<- h.val p (by simp [hp])];omega
  ·have:=h.sum
   rw [yAV,sum_app,yAL,List.sum_cons] at this ⊢
   rw [tots_app]
   simp only [tots] at this ⊢
   omega
def ltR_tot {x y:TR} (h:x.1 ≠ y.1) (h':¬ ltR y x):ltR x y:=by
 unfold ltR at h' ⊢
 rcases slt_tri x.1 y.1 with h1 | h1 | h1
 ·by_cases e:x.2.2 = y.2.2
  ·exact .inr ⟨e,h1⟩
  ·have:¬ x.2.2 < y.2.2:=fun e'=>h' (.inl e')
   exact .inl (by omega)
 ·exact absurd h1 h
 ·have h2:¬ x.2.2 < y.2.2:=fun e'=>h' (.inl e')
  have h3:y.2.2 ≠ x.2.2:=fun e'=>h' (.inr ⟨e',h1⟩)
  exact .inl (by omega)
def pw_strict {a:List TR} (h:a.Pairwise fun x y=>¬ ltR y x) (hn:(a.map (·.1)).Nodup):a.Pairwise ltR:=by
 rw [List.Nodup,List.pairwise_map] at hn
 exact (h.and hn).imp fun ⟨h1,h2⟩=>ltR_tot h2 h1
def rows_uniq:∀ {a b:List TR},a.Perm b -> a.Pairwise ltR -> b.Pairwise ltR -> a = b
 | [],b,hp,_,_=>(List.nil_perm.1 hp).symm ▸ rfl
 | x :: a,[],hp,_,_=>absurd hp.length_eq (by simp)
 | x :: a,y :: b,hp,ha,hb=>by
  rw [yBE] at ha hb
  have e:x = y:=by
   have hx:x ∈ y :: b:=hp.subset (by simp)
   have hy:y ∈ x :: a:=hp.symm.subset (by simp)
   rcases yAE.1 hx with rfl | hx
   ·rfl
   rcases yAE.1 hy with e | hy
   ·exact e.symm
   exact absurd (ltR_trans (ha.1 y hy) (hb.1 x hx)) (ltR_irr x)
  subst e
  rw [rows_uniq ((List.perm_cons x).1 hp) ha.2 hb.2]
def rows_ex (l:List TR) (hn:(l.map (·.1)).Nodup):∃ r:List TR,r.Perm l /\ r.Pairwise ltR:=by
 let le:TR -> TR -> Bool:=fun a b=>! decide (ltR b a)
 have hs:(l.mergeSort le).Pairwise fun a b=>le a b = true:=by
  refine List.pairwise_mergeSort (le:=le) (fun a b c h1 h2=>?_) (fun a b=>?_) l
  ·simp only [le,yBR,decide_eq_false_iff_not] at h1 h2 ⊢
   exact ltR_ntrans h2 h1
  ·simp only [le,Bool.or_eq_true,yBR,decide_eq_false_iff_not]
   by_cases h:ltR b a
   ·exact .inr fun h'=>ltR_irr a (ltR_trans h' h)
   ·exact .inl h
 have hp:=List.mergeSort_perm l le
 refine ⟨l.mergeSort le,hp,pw_strict (hs.imp fun h=>?_) ((hp.map _).symm.nodup_iff.1 hn)⟩
 simpa [le] using h
def b23 (x:List FN):(Int × List (Nm × Int)) -> Option ((Int × List (Nm × Int)) ⊕ (List (Nm × Int) ⊕ List TR)):=fun s1 =>
 sel (ilt s1.1 (n2i (zAE x))) (need (inL s1.1 (zAE x)) <|
  some (.inl (zBA .i64 s1.1 1,mput seq s1.2 (((zAH (0,(⟨#[]⟩:ByteArray),0) x (i2n s1.1)).2).1) (zBA .i64 (mget seq 0 s1.2 (((zAH (0,(⟨#[]⟩:ByteArray),0) x (i2n s1.1)).2).1)) (((zAH (0,(⟨#[]⟩:ByteArray),0) x (i2n s1.1)).2).2))))) <|
 some (.inr (.inl s1.2))
def F14_def (x:List FN):F14 x = call (F30 x) fun (r0:Int)=>sel (ine r0 0) (some ([]:List TR)) <| join (zBh (b23 x) (0,[])) fun (j2:List (Nm × Int)) =>
 need (mk 0 (n2i (zAE j2)) 32) <|
 mrange j2 (fun (p3:(ByteArray × Int)) (s4:(List (ByteArray × (Int × Int)))) =>
 call (F36 (x,p3.1)) fun (r5:Int) =>
 need (room (zBl (zAE s4) (zAE ((p3.1,p3.2,r5) :: ([]:List (ByteArray × (Int × Int)))))) 32) <|
 some (.inl (zBg s4 ((p3.1,p3.2,r5) :: ([]:List (ByteArray × (Int × Int))))))) (fun (s6:(List (ByteArray × (Int × Int)))) =>
 up (callQ (Q41 s6) fun (r7:(List (ByteArray × (Int × Int)))) =>
 some r7)) (lrep 0 ((⟨#[]⟩:ByteArray),0,0)):=rfl
def own_loop {x:List FN} (hx:x.length <= 2000) (hw:∀ v ∈ x,wOk v.2.2 = true):∃ M,Own x M /\ zBh (b23 x) (0,[]) = some (.inl M):=by
 have hG:∀ i,i <= x.length -> ∃ M,Own (x.take i) M /\ Goes (b23 x) (0,[]) ((i:Int),M):=by
  intro i
  induction i with
  | zero=>exact fun _=>⟨[],Own.nil,Goes.refl _ _⟩
  | succ i ih =>
   intro hi
   obtain ⟨M,hM,hg⟩:=ih (by omega)
   have hil:i < x.length:=by omega
   refine ⟨mput seq M x[i].2.1 (mget seq 0 M x[i].2.1 + x[i].2.2),?_,hg.trans (Goes.one ?_)⟩
   ·rw [yAM hil];exact hM.put x[i]
   ·have hb:=slf_b (n:=x[i].2.1) (l:=x.take i) fun v hv=>hw v (yBJ hv)
    have hs:-1099511627776 <= x[i].2.2 /\ x[i].2.2 <= 1099511627776:=of_decide_eq_true (hw _ (yAs hil))
    have hlt:(x.take i).length = i:=by rw [yAU];omega
    rw [hlt,<- hM.get] at hb
    unfold b23
    dsimp only
    rw [zAe,zAy (by rw [zAf,zAM];exact decide_eq_true (by omega)),zAG (zAj hil),zCM,zCN hil,zBp (by omega) (by omega),zBp (by omega) (by omega)]
    rfl
 obtain ⟨M,hM,hg⟩:=hG x.length (yAJ _)
 rw [yAi] at hM
 refine ⟨M,hM,hg.fin ?_⟩
 unfold b23
 dsimp only
 rw [zAe,zAX (by rw [zAf,zAM];exact decide_eq_false (by omega))]
def enc_w:∀ {F:Fo} {par:Int} {pl:Nat},F.okW = true -> ∀ v ∈ F.enc par pl,wOk v.2.2 = true
 | .nil,_,_,_,v,hv=>by cases hv
 | .cons n s sub rest,par,pl,h,v,hv=>by
  rw [Fo.okW,yAB,yAB] at h
  rw [Fo.enc] at hv
  rcases yAE.1 hv with rfl | hv
  ·exact h.1
  rcases yAO.1 hv with hv | hv
  ·exact enc_w h.2.1 v hv
  ·exact enc_w h.2.2 v hv
def row (F:Fo) (p:Nm × Int):TR:=(p.1,p.2,F.msr (has p.1) [])
def row_names (F:Fo) (M:List (Nm × Int)):(M.map (row F)).map (·.1) = M.map (·.1):=by simp [row,Function.comp_def]
def fold_rows {F:Fo} (h13:F30 (F.enc (-1) 0) = some 0) (hw:F.okW = true) (hl:F.len <= 2000) {N:List TR -> Option (List TR ⊕ List TR)} {e:List TR}:∀ (l:List (Nm × Int)) (s:List TR),s.length + l.length <= 100000 -> N (s ++ l.map (row F)) = some (.inr e) ->
  foldM (fun (p3:(ByteArray × Int)) (s4:(List (ByteArray × (Int × Int)))) =>
  call (F36 (F.enc (-1) 0,p3.1)) fun (r5:Int) =>
  need (room (zBl (zAE s4) (zAE ((p3.1,p3.2,r5) :: ([]:List (ByteArray × (Int × Int)))))) 32) <|
  some (.inl (zBg s4 ((p3.1,p3.2,r5) :: ([]:List (ByteArray × (Int × Int))))))) N l s = some e
 | [],s,_,h=>by
  rw [yBM,yAS] at h
  unfold foldM;rw [h]
 | p :: l,s,hsl,h=>by
  rw [yAY] at hsl
  unfold foldM
  rw [zAR (F36_enc h13 hw hl p.1),zAG (zBe (by simp only [zBl,zAE,yAC];omega))]
  dsimp only
  refine fold_rows h13 hw hl l _ ?_ ?_
  ·unfold zBg;rw [yAD,yAC];omega
  ·unfold zBg
   rw [yAQ];exact h
def F14_enc {F:Fo} (hG:F.Good 0) (hl:F.len <= 2000):∃ M r,Own (F.enc (-1) 0) M /\ r.Perm (M.map (row F)) /\ r.Pairwise ltR /\ F14 (F.enc (-1) 0) = some r:=by
 have h13:=F30_enc hG hl
 obtain ⟨M,hM,hit⟩:=own_loop (x:=F.enc (-1) 0) (by rw [Fo.enc_len];exact hl) (enc_w hG.w)
 have hnd:((M.map (row F)).map (·.1)).Nodup:=by rw [row_names];exact hM.nd
 obtain ⟨r,hr1,hr2⟩:=rows_ex _ hnd
 have hMl:M.length <= 2000:=by
  have hsub:(M.map (·.1)).length <= ((F.enc (-1) 0).map (·.2.1)).length:=List.Nodup.length_le_of_subset hM.nd fun n hn=>by
   obtain ⟨v,hv,e⟩:=(hM.mem n).1 hn
   exact yBC.2 ⟨v,hv,e⟩
  rw [yAG,yAG,Fo.enc_len] at hsub
  omega
 refine ⟨M,r,hM,hr1,hr2,?_⟩
 rw [F14_def,zAR h13,zAX (by rfl),zBo hit,zAG (mk_t (by omega) (by rw [zAf,zAM];omega) (by rw [zAf,zAM];omega) (by rw [zAf,zAM];omega))]
 refine mrange_of fun l' hl'=>?_
 refine fold_rows h13 hG.w hl l' _ ?_ ?_
 ·have:=hl'.length_eq
  show 0 + l'.length <= _
  omega
 ·have hpl:(l'.map (row F)).Perm (M.map (row F)):=hl'.map _
  show up (callQ (Q41 ([] ++ l'.map (row F))) _) = _
  rw [yBI]
  have hq:callQ (Q41 (l'.map (row F))) (fun (r7:List TR)=>some r7) = some r:=by
   refine callQ_of ⟨r,by rw [yAG,hl'.length_eq];omega,hr1.trans hpl.symm,hr2.imp fun {a b} h h'=>ltR_irr a (ltR_trans h h')⟩ fun a ha=>?_
   obtain ⟨_,a1,a2⟩:=ha
   have a3:=a1.trans (hpl.trans hr1.symm)
   refine congrArg some (rows_uniq a3 (pw_strict a2 ?_) hr2)
   have:=(a1.trans hpl).map (·.1)
   exact this.symm.nodup_iff.1 hnd
  rw [hq];rfl
abbrev St37:=Int × List Int
def b37 (x:(List (Int × (ByteArray × Int)))):St37 -> Option (St37 ⊕ (List Int ⊕ List Int)) :=
(fun (s1:(Int × (List Int))) =>
sel (ile 0 s1.1) (join (need (inL s1.1 (zAE s1.2)) <|
need (inL s1.1 (zAE x)) <|
need (inL s1.1 (zAE s1.2)) <|
need (inL s1.1 (zAE x)) <|
sel (ile 0 ((zAH (0,(⟨#[]⟩:ByteArray),0) x (i2n s1.1)).1)) (need (inL s1.1 (zAE x)) <|
need (inL ((zAH (0,(⟨#[]⟩:ByteArray),0) x (i2n s1.1)).1) (zAE (lset s1.2 (i2n s1.1) (zBA .i64 (zAH 0 s1.2 (i2n s1.1)) (((zAH (0,(⟨#[]⟩:ByteArray),0) x (i2n s1.1)).2).2))))) <|
need (inL s1.1 (zAE (lset s1.2 (i2n s1.1) (zBA .i64 (zAH 0 s1.2 (i2n s1.1)) (((zAH (0,(⟨#[]⟩:ByteArray),0) x (i2n s1.1)).2).2))))) <|
need (inL ((zAH (0,(⟨#[]⟩:ByteArray),0) x (i2n s1.1)).1) (zAE (lset s1.2 (i2n s1.1) (zBA .i64 (zAH 0 s1.2 (i2n s1.1)) (((zAH (0,(⟨#[]⟩:ByteArray),0) x (i2n s1.1)).2).2))))) <|
some (.inl (lset (lset s1.2 (i2n s1.1) (zBA .i64 (zAH 0 s1.2 (i2n s1.1)) (((zAH (0,(⟨#[]⟩:ByteArray),0) x (i2n s1.1)).2).2))) (i2n ((zAH (0,(⟨#[]⟩:ByteArray),0) x (i2n s1.1)).1)) (zBA .i64 (zAH 0 (lset s1.2 (i2n s1.1) (zBA .i64 (zAH 0 s1.2 (i2n s1.1)) (((zAH (0,(⟨#[]⟩:ByteArray),0) x (i2n s1.1)).2).2))) (i2n ((zAH (0,(⟨#[]⟩:ByteArray),0) x (i2n s1.1)).1))) (zAH 0 (lset s1.2 (i2n s1.1) (zBA .i64 (zAH 0 s1.2 (i2n s1.1)) (((zAH (0,(⟨#[]⟩:ByteArray),0) x (i2n s1.1)).2).2))) (i2n s1.1)))))) <|
some (.inl (lset s1.2 (i2n s1.1) (zBA .i64 (zAH 0 s1.2 (i2n s1.1)) (((zAH (0,(⟨#[]⟩:ByteArray),0) x (i2n s1.1)).2).2))))) fun (j2:(List Int)) =>
some (.inl (zCX .i64 s1.1 1,j2))) <|
some (.inr (.inl s1.2)))
def F31_def (x:List FN):F31 x = call (F30 x) fun (r0:Int)=>sel (ine r0 0) (some ([]:List Int)) <| need (mk (n2i (zAE x)) (n2i (zAE x)) 8) <| join (zBh (b37 x) (zCX .i64 (n2i (zAE x)) 1,lrep (n2i (zAE x)) 0)) fun (j3:List Int)=>some j3:=rfl
namespace Fo
def sm:Fo -> Int
 | .nil=>0
 | .cons n s sub rest=>s + sub.sm + rest.sm
def tot:Fo -> List Int
 | .nil=>[]
 | .cons n s sub rest=>(s + sub.sm) :: (sub.tot ++ rest.tot)
def tot_len:∀ F:Fo,F.tot.length = F.len
 | .nil=>rfl
 | .cons n s sub rest=>by rw [tot,yAY,yAD,tot_len sub,tot_len rest,len];omega
def sm_b:∀ {F:Fo},F.okW = true -> -(1099511627776 * (F.len:Int)) <= F.sm /\ F.sm <= 1099511627776 * (F.len:Int)
 | .nil,_=>by simp [sm,len]
 | .cons n s sub rest,h=>by
  rw [Fo.okW,yAB,yAB] at h
  have h1:-1099511627776 <= s /\ s <= 1099511627776:=of_decide_eq_true h.1
  have h2:=sm_b h.2.1
  have h3:=sm_b h.2.2
  rw [sm,len]
  omega
def tot_b:∀ {F:Fo},F.okW = true -> ∀ v ∈ F.tot,-(1099511627776 * (F.len:Int)) <= v /\ v <= 1099511627776 * (F.len:Int)
 | .nil,_,v,hv=>by cases hv
 | .cons n s sub rest,h,v,hv=>by
  rw [Fo.okW,yAB,yAB] at h
  have h1:-1099511627776 <= s /\ s <= 1099511627776:=of_decide_eq_true h.1
  rw [tot] at hv
  rw [len]
  rcases yAE.1 hv with rfl | hv
  ·have:=sm_b h.2.1;omega
  rcases yAO.1 hv with hv | hv
  ·have:=tot_b h.2.1 v hv;omega
  ·have:=tot_b h.2.2 v hv;omega
def totD_b {F:Fo} (h:F.okW = true) (j:Nat):-(1099511627776 * (F.len:Int)) <= F.tot.getD j 0 /\ F.tot.getD j 0 <= 1099511627776 * (F.len:Int):=by
 rw [yAI]
 cases e:F.tot[j]? with
 | none=>simp;omega
 | some v=>exact tot_b h v (yAt e)
end Fo
def zDZ {α:Type} {l:List α} {i j:Nat} {v d:α} (hi:i < l.length):(l.set i v).getD j d = if j = i then v else l.getD j d:=by
 rw [yAI,yAI,List.getElem?_set]
 by_cases h:i = j
 ·subst h;rw [if_pos rfl,if_pos rfl,if_pos hi];rfl
 ·rw [if_neg h,if_neg (fun e=>h e.symm)]
def isubI' {a b:Int} (h1:-9223372036854775808 <= a - b) (h2:a - b < 9223372036854775808):zCX .i64 a b = a - b:=zBb h1 h2
def lget_n {α:Type} {x:List α} {pl:Nat} {v d:α} (h:x[pl]? = some v):zAH d x pl = v:=zCF h
def next37 (T:List Int) (par:Int) (i:Nat) (s:Int):List Int:=if 0 <= par then (T.set i (T.getD i 0 + s)).set par.toNat ((T.set i (T.getD i 0 + s)).getD par.toNat 0 + (T.getD i 0 + s)) else T.set i (T.getD i 0 + s)
def st37 {x:List FN} {i:Nat} {T:List Int} {par:Int} {n:Nm} {s:Int} (hi:x[i]? = some (par,n,s)) (hx:x.length <= 2000) (hT:T.length = x.length) (hs:-1099511627776 <= s /\ s <= 1099511627776)
  (hb:∀ j,-(1099511627776 * 2000) <= T.getD j 0 /\ T.getD j 0 <= 1099511627776 * 2000) (hp:par = -1 \/ ∃ k:Nat,par = (k:Int) /\ k < i):b37 x ((i:Int),T) = some (.inl ((i:Int) - 1,next37 T par i s)):=by
 have hil:=At.lt hi
 have hbi:=hb i
 unfold b37
 dsimp only
 rw [ile_d,zAy (decide_eq_true (by omega)),zAG (zAj (by omega)),zAG (zAj hil),zAG (zAj (by omega)),zAG (zAj hil),zAG (zAj hil),zCM,lget_n hi,isubI' (by omega) (by omega)]
 have e1:zAH 0 T i = T.getD i 0:=rfl
 have e2:∀ v,lset T i v = T.set i v:=fun _=>rfl
 dsimp only
 rw [ile_d,e1,zBp (by omega) (by omega),e2]
 unfold next37
 rcases hp with rfl | ⟨k,rfl,hk⟩
 ·rw [zAX (by decide),if_neg (by decide),zBG]
 ·have e3:zAH 0 (T.set i (T.getD i 0 + s)) k = T.getD k 0:=by
   show (T.set i _).getD k 0 = _
   rw [zDZ (by omega),if_neg (by omega)]
  have e4:zAH 0 (T.set i (T.getD i 0 + s)) i = T.getD i 0 + s:=by
   show (T.set i _).getD i 0 = _
   rw [zDZ (by omega),if_pos rfl]
  have hbk:=hb k
  rw [zAy (decide_eq_true (by omega)),if_pos (by omega),zCM,e3,e4,Int.toNat_natCast]
  have hl:zAE (T.set i (T.getD i 0 + s)) = T.length:=yBK
  rw [hl,zAG (inL_t (by omega)),zAG (inL_t (by omega)),zAG (inL_t (by omega)),zBG,zBp (by omega) (by omega),zDZ (by omega),if_neg (by omega)]
  rfl
def next37_len (T:List Int) (par:Int) (i:Nat) (s:Int):(next37 T par i s).length = T.length:=by unfold next37;split <;> simp
def next37_get {T:List Int} {par:Int} {i:Nat} {s:Int} (hi:i < T.length) (hp:par = -1 \/ ∃ k:Nat,par = (k:Int) /\ k < i) (j:Nat):(next37 T par i s).getD j 0 = if j = i then T.getD i 0 + s else if (j:Int) = par then T.getD j 0 + (T.getD i 0 + s) else T.getD j 0:=by
 unfold next37
 rcases hp with rfl | ⟨k,rfl,hk⟩
 ·rw [if_neg (by decide),zDZ hi]
  by_cases h:j = i
  ·rw [if_pos h,if_pos h]
  ·rw [if_neg h,if_neg h,if_neg (by omega)]
 ·rw [if_pos (by omega),Int.toNat_natCast,zDZ (by simp;omega),zDZ hi,zDZ hi,if_neg (by omega:¬ k = i)]
  by_cases h:j = k
  ·subst h
   rw [if_pos rfl,if_neg (by omega),if_pos rfl]
  ·rw [if_neg h]
   by_cases h2:j = i
   ·rw [if_pos h2,if_pos h2]
   ·rw [if_neg h2,if_neg h2,if_neg (by omega)]
def seg37 {x:List FN} (hx:x.length <= 2000):∀ (F:Fo) (par:Int) (pl:Nat) (T:List Int),At x pl (F.enc par pl) -> F.okW = true -> T.length = x.length -> pl + F.len <= x.length -> (∀ j,pl <= j -> j < pl + F.len -> T.getD j 0 = 0) -> (par = -1 \/ ∃ k:Nat,par = (k:Int) /\ k < pl) ->
  (∀ j,-(1099511627776 * ((x.length:Int) - ((pl + F.len:Nat):Int))) <= T.getD j 0 /\ T.getD j 0 <= 1099511627776 * ((x.length:Int) - ((pl + F.len:Nat):Int))) ->
  ∃ T',Goes (b37 x) (((pl + F.len:Nat):Int) - 1,T) ((pl:Int) - 1,T') /\ T'.length = x.length /\ ∀ j,T'.getD j 0 = if pl <= j /\ j < pl + F.len then F.tot.getD (j - pl) 0 else if (j:Int) = par then T.getD j 0 + F.sm else T.getD j 0
 | .nil,par,pl,T,_,_,h3,_,_,_,_=>⟨T,by rw [Fo.len,Nat.add_zero];exact Goes.refl _ _,h3,fun j=>by
     rw [Fo.len,if_neg (by omega),Fo.sm]
     split <;> omega⟩
 | .cons n s sub rest,par,pl,T,hA,hw,h3,h4,h5,h6,h7=>by
  rw [Fo.enc] at hA
  have hi:=hA.head
  have hA1:=hA.tail.left
  have hA2:=hA.tail.right
  rw [Fo.enc_len] at hA2
  rw [Fo.okW,yAB,yAB] at hw
  have hs:-1099511627776 <= s /\ s <= 1099511627776:=of_decide_eq_true hw.1
  rw [Fo.len] at h4 h5 h7
  have hpl:pl < x.length:=by omega
  have e1:pl + (1 + sub.len + rest.len) = pl + 1 + sub.len + rest.len:=by omega
  rw [e1] at h7
  obtain ⟨T1,a1,a2,a3⟩:=seg37 hx rest par (pl + 1 + sub.len) T hA2 hw.2.2 h3 (by omega) (fun j h h'=>h5 j (by omega) (by omega)) (by
   rcases h6 with h | ⟨k,h,h'⟩
   ·exact .inl h
   ·exact .inr ⟨k,h,by omega⟩) h7
  have hb1:∀ j,-(1099511627776 * ((x.length:Int) - ((pl + 1 + sub.len:Nat):Int))) <= T1.getD j 0 /\ T1.getD j 0 <= 1099511627776 * ((x.length:Int) - ((pl + 1 + sub.len:Nat):Int)):=fun j=>by
   have r1:=Fo.totD_b hw.2.2 (j - (pl + 1 + sub.len))
   have r2:=Fo.sm_b hw.2.2
   have r3:=h7 j
   rw [a3 j]
   split
   ·omega
   ·split <;> omega
  obtain ⟨T2,u1,u2,u3⟩:=seg37 hx sub (pl:Int) (pl + 1) T1 hA1 hw.2.1 a2 (by omega) (fun j h h'=>by
   rw [a3 j,if_neg (by omega),if_neg (by rcases h6 with h | ⟨k,h,h'⟩ <;> omega)]
   exact h5 j (by omega) (by omega)) (.inr ⟨pl,rfl,by omega⟩) hb1
  have hb2:∀ j,-(1099511627776 * ((x.length:Int) - ((pl + 1:Nat):Int))) <= T2.getD j 0 /\ T2.getD j 0 <= 1099511627776 * ((x.length:Int) - ((pl + 1:Nat):Int)):=fun j=>by
   have r1:=Fo.totD_b hw.2.1 (j - (pl + 1))
   have r2:=Fo.sm_b hw.2.1
   have r3:=hb1 j
   rw [u3 j]
   split
   ·omega
   ·split <;> omega
  have hst:=st37 hi hx u2 hs (fun j=>by have:=hb2 j;omega) h6
  refine ⟨next37 T2 par pl s,?_,by rw [next37_len,u2],fun j=>?_⟩
  ·rw [Fo.len,e1]
   have u1':Goes (b37 x) (((pl + 1 + sub.len:Nat):Int) - 1,T1) ((pl:Int),T2):=by
    have e:(((pl + 1:Nat):Int) - 1) = (pl:Int):=by omega
    rw [e] at u1;exact u1
   exact a1.trans (u1'.trans (Goes.one hst))
  ·have r2:T2.getD pl 0 = sub.sm:=by
    rw [u3 pl,if_neg (by omega),if_pos rfl,a3 pl,if_neg (by omega),if_neg (by rcases h6 with h | ⟨k,h,h'⟩ <;> omega),h5 pl (by omega) (by omega),Int.zero_add]
   rw [next37_get (by omega) h6,r2,Fo.len,Fo.tot,Fo.sm]
   by_cases j1:j = pl
   ·subst j1
    rw [if_pos rfl,if_pos (by omega),Nat.sub_self]
    show sub.sm + s = s + sub.sm
    omega
   rw [if_neg j1]
   by_cases j2:pl <= j /\ j < pl + (1 + sub.len + rest.len)
   ·have hp':¬ (j:Int) = par:=by rcases h6 with h | ⟨k,h,h'⟩ <;> omega
    rw [if_neg hp',if_pos j2,u3 j]
    have e5:j - pl = (j - pl - 1) + 1:=by omega
    rw [e5,List.getD_cons_succ]
    by_cases j3:j < pl + 1 + sub.len
    ·rw [if_pos (by omega),yAI,yAI,yAe (by rw [Fo.tot_len];omega)]
     congr 2
    ·rw [if_neg (by omega),if_neg (by omega),a3 j,if_pos (by omega),yAI,yAI,yAa (by rw [Fo.tot_len];omega),Fo.tot_len]
     congr 2
     omega
   ·have hT2:T2.getD j 0 = if (j:Int) = par then T.getD j 0 + rest.sm else T.getD j 0:=by
     rw [u3 j,if_neg (by omega),if_neg (by omega),a3 j,if_neg (by omega)]
    rw [if_neg j2,hT2]
    by_cases hp':(j:Int) = par
    ·rw [if_pos hp',if_pos hp',if_pos hp'];omega
    ·rw [if_neg hp',if_neg hp',if_neg hp']
def F31_enc {F:Fo} (h13:F30 (F.enc (-1) 0) = some 0) (hw:F.okW = true) (hl:F.len <= 2000):F31 (F.enc (-1) 0) = some F.tot:=by
 have hL:(F.enc (-1) 0).length = F.len:=Fo.enc_len F _ _
 obtain ⟨T',h1,h2,h3⟩:=seg37 (x:=F.enc (-1) 0) (by omega) F (-1) 0 (List.replicate F.len 0) (At.all _) hw (by simp [hL]) (by omega) (fun j _ _=>by
  rw [yAI,List.getElem?_replicate];split <;> rfl) (.inl rfl) (fun j=>by
  have:(List.replicate F.len (0:Int)).getD j 0 = 0:=by rw [yAI,List.getElem?_replicate];split <;> rfl
  rw [this];omega)
 have hT:T' = F.tot:=by
  refine List.ext_getElem? fun j=>?_
  by_cases hj:j < F.len
  ·have:=h3 j
   rw [if_pos (by omega),Nat.sub_zero,yAI,yAI,yAK (by omega),yAK (by rw [Fo.tot_len];exact hj)] at this
   rw [yAK (by omega),yAK (by rw [Fo.tot_len];exact hj)]
   exact congrArg some this
  ·rw [yAw (by omega),yAw (by rw [Fo.tot_len];omega)]
 subst hT
 have e0:lrep (n2i (zAE (F.enc (-1) 0))) (0:Int) = List.replicate F.len 0:=by
  unfold lrep;rw [zAf,zAM,hL];rfl
 rw [F31_def,zAR h13,zAX (by rfl),zAG (mk_t (by rw [zAf];omega) (by omega) (by rw [zAf,zAM,hL];omega) (by rw [zAf,zAM,hL];omega)),e0,zAf,zAM,hL,isubI' (by omega) (by omega)]
 have h1':Goes (b37 (F.enc (-1) 0)) ((F.len:Int) - 1,List.replicate F.len 0) (-1,F.tot):=by
  rw [yAT] at h1;exact h1
 refine zBo (h1'.fin ?_)
 unfold b37
 dsimp only
 rw [zAX (by rfl)]
abbrev St14:=Int × List Bool × List Bool
def b14 (x:((List (Int × (ByteArray × Int))) × Int)) (r1:List Int):St14 -> Option (St14 ⊕ (List Bool ⊕ (List FN × Int))) :=
(fun (s2:(Int × ((List Bool) × (List Bool)))) =>
sel (ilt s2.1 (n2i (zAE x.1))) (join (need (inL s2.1 (zAE x.1)) <|
need (inL s2.1 (zAE r1)) <|
need (impl (band (ile x.2 (zAH 0 r1 (i2n s2.1))) (zCr (ilt ((zAH (0,(⟨#[]⟩:ByteArray),0) x.1 (i2n s2.1)).1) 0))) (inL ((zAH (0,(⟨#[]⟩:ByteArray),0) x.1 (i2n s2.1)).1) (zAE s2.2.1))) <|
need (inL s2.1 (zAE s2.2.1)) <|
sel (ine (((zAH (0,(⟨#[]⟩:ByteArray),0) x.1 (i2n s2.1)).2).2) 0) (need (inL s2.1 (zAE (lset s2.2.1 (i2n s2.1) (zAL (ile x.2 (zAH 0 r1 (i2n s2.1))) (zAL (ilt ((zAH (0,(⟨#[]⟩:ByteArray),0) x.1 (i2n s2.1)).1) 0) true (zAH false s2.2.1 (i2n ((zAH (0,(⟨#[]⟩:ByteArray),0) x.1 (i2n s2.1)).1)))) false)))) <|
need (room (zBl (zAE s2.2.2) (zAE (zAH false (lset s2.2.1 (i2n s2.1) (zAL (ile x.2 (zAH 0 r1 (i2n s2.1))) (zAL (ilt ((zAH (0,(⟨#[]⟩:ByteArray),0) x.1 (i2n s2.1)).1) 0) true (zAH false s2.2.1 (i2n ((zAH (0,(⟨#[]⟩:ByteArray),0) x.1 (i2n s2.1)).1)))) false)) (i2n s2.1) :: ([]:List Bool)))) 1) <|
some (.inl (lset s2.2.1 (i2n s2.1) (zAL (ile x.2 (zAH 0 r1 (i2n s2.1))) (zAL (ilt ((zAH (0,(⟨#[]⟩:ByteArray),0) x.1 (i2n s2.1)).1) 0) true (zAH false s2.2.1 (i2n ((zAH (0,(⟨#[]⟩:ByteArray),0) x.1 (i2n s2.1)).1)))) false),zBg s2.2.2 (zAH false (lset s2.2.1 (i2n s2.1) (zAL (ile x.2 (zAH 0 r1 (i2n s2.1))) (zAL (ilt ((zAH (0,(⟨#[]⟩:ByteArray),0) x.1 (i2n s2.1)).1) 0) true (zAH false s2.2.1 (i2n ((zAH (0,(⟨#[]⟩:ByteArray),0) x.1 (i2n s2.1)).1)))) false)) (i2n s2.1) :: ([]:List Bool))))) <|
some (.inl (lset s2.2.1 (i2n s2.1) (zAL (ile x.2 (zAH 0 r1 (i2n s2.1))) (zAL (ilt ((zAH (0,(⟨#[]⟩:ByteArray),0) x.1 (i2n s2.1)).1) 0) true (zAH false s2.2.1 (i2n ((zAH (0,(⟨#[]⟩:ByteArray),0) x.1 (i2n s2.1)).1)))) false),s2.2.2))) fun (j3:((List Bool) × (List Bool))) =>
some (.inl (zBA .i64 s2.1 1,j3.1,j3.2))) <|
some (.inr (.inl s2.2.2)))
def F11_def (x:List FN × Int):F11 x = call (F30 x.1) fun (r0:Int)=>sel (ine r0 0) (some (([]:List FN),1)) <| call (F31 x.1) fun (r1:List Int)=>need (mk (n2i (zAE x.1)) (n2i (zAE x.1)) 1) <| join (zBh (b14 x r1) (0,lrep (n2i (zAE x.1)) false,[])) fun (j4:List Bool)=>call (F19b (x.1,j4)) fun (r5:(List FN × Int) × List Bool)=>some (r5.1.1,r5.1.2):=rfl
def st14 {x:List FN} {least:Int} {tt:List Int} {i:Nat} {R Sy:List Bool} {par:Int} {n:Nm} {s:Int} {b:Bool} (hi:x[i]? = some (par,n,s)) (hx:x.length <= 2000) (htl:tt.length = x.length) (hR:R.length = x.length) (hSy:Sy.length <= 2000)
  (hp:(par = -1 /\ b = true) \/ ∃ k:Nat,par = (k:Int) /\ k < i /\ R.getD k false = b):b14 (x,least) tt ((i:Int),R,Sy) = some (.inl (((i + 1:Nat):Int),R.set i (decide (least <= tt.getD i 0) && b),Sy ++ if s ≠ 0 then [decide (least <= tt.getD i 0) && b] else [])):=by
 have hil:=At.lt hi
 have hv:zAL (ile least (zAH 0 tt i)) (zAL (ilt par 0) true (zAH false R (i2n par))) false = (decide (least <= tt.getD i 0) && b):=by
  rw [zAu,pick_or,ile_d,zAe]
  show (decide (least <= tt.getD i 0) && _) = _
  congr 1
  rcases hp with ⟨rfl,rfl⟩ | ⟨k,rfl,hk,h⟩
  ·rfl
  ·rw [decide_eq_false (by omega),Bool.false_or,zCM];exact h
 unfold b14
 dsimp only
 rw [zAe,zAy (by rw [zAf,zAM];exact decide_eq_true (by omega)),zAG (zAj hil),zAG (zAj (by omega)),zCM,lget_n hi]
 dsimp only
 rw [zAG (impl_t fun h=>by
  rcases hp with ⟨rfl,_⟩ | ⟨k,rfl,hk,_⟩
  ·rw [band_d,yAB] at h;exact absurd h.2 (by decide)
  ·exact zAj (by omega)),zAG (zAj (by omega)),hv]
 have e1:lset R i (decide (least <= tt.getD i 0) && b) = R.set i (decide (least <= tt.getD i 0) && b):=rfl
 have e2:zAH false (R.set i (decide (least <= tt.getD i 0) && b)) i = (decide (least <= tt.getD i 0) && b):=by
  show (R.set i _).getD i false = _
  rw [zDZ (by omega),if_pos rfl]
 rw [e1,e2,zBp (by omega) (by omega),ine_d]
 have hl:zAE (R.set i (decide (least <= tt.getD i 0) && b)) = R.length:=yBK
 by_cases h0:s ≠ 0
 ·rw [zAy (decide_eq_true h0),hl,zAG (inL_t (by omega)),zAG (zBe (by simp only [zBl,zAE,yAC];omega)),zBG,if_pos h0];rfl
 ·rw [zAX (decide_eq_false h0),zBG,if_neg h0,yAS];rfl
namespace Fo
def sty (least:Int):Fo -> Bool -> List Bool
 | .nil,_=>[]
 | .cons n s sub rest,b=>(if s ≠ 0 then [decide (least <= s + sub.sm) && b] else []) ++ (sub.sty least (decide (least <= s + sub.sm) && b) ++ rest.sty least b)
def sty_len (least:Int):∀ (F:Fo) (b:Bool) (p:List Nm),(F.sty least b).length = (F.stk p).length
 | .nil,_,_=>rfl
 | .cons n s sub rest,b,p=>by
  rw [sty,stk,yAD,yAD,yAD,yAD,sty_len least sub _ (p ++ [n]),sty_len least rest b p]
  split <;> rfl
def hvy (least:Int):Fo -> List Nm -> Bool
 | _,[]=>true
 | F,m :: q=>decide (least <= (F.kid m).1 + (F.kid m).2.sm) && hvy least (F.kid m).2 q
def kid_self (n:Nm) (s:Int) (sub rest:Fo):(Fo.cons n s sub rest).kid n = (s,sub):=by rw [kid,if_pos rfl]
def kid_other {n m:Nm} (s:Int) (sub rest:Fo) (h:m ≠ n):(Fo.cons n s sub rest).kid m = rest.kid m:=by rw [kid];first | rw [if_neg h] | rw [if_neg (fun e=>h e.symm)]
def sty_stk (least:Int) (P:List Nm -> Bool):∀ (F:Fo) (p:List Nm) (b:Bool),F.Srt -> (∀ m ∈ F.heads,∀ q,P (p ++ m :: q) = (b && F.hvy least (m :: q))) ->
  (((F.stk p).zip (F.sty least b)).filter (·.2)).map (·.1) = (F.stk p).filter fun x=>P x.1
 | .nil,_,_,_,_=>rfl
 | .cons n s sub rest,p,b,hS,hP=>by
  rw [stk,sty]
  have hn:=hP n (by simp [heads])
  have hnr:n ∉ rest.heads:=not_head hS.1
  have hP0:P (p ++ [n]) = (decide (least <= s + sub.sm) && b):=by
   rw [hn [],hvy,kid_self,hvy,Bool.and_true,Bool.and_comm]
  have hr1:=sty_stk least P sub (p ++ [n]) (decide (least <= s + sub.sm) && b) hS.2.1 fun m hm q=>by
   rw [yAQ,List.singleton_append,hn,hvy,kid_self]
   dsimp only
   rw [<- Bool.and_assoc,Bool.and_comm b]
  have hr2:=sty_stk least P rest p b hS.2.2 fun m hm q=>by
   rw [hP m (by simp [heads,hm]) q,hvy,hvy,kid_other (n:=n) (m:=m) s sub rest (fun e=>hnr (e ▸ hm))]
  rw [List.zip_append (by split <;> rfl),List.zip_append (by rw [sty_len least sub _ (p ++ [n])]),yBF,yBF,yAV,yAV,yBF,yBF,hr1,hr2]
  congr 1
  by_cases h:s ≠ 0
  ·rw [if_pos h,if_pos h,List.zip_cons_cons,List.zip_nil_left]
   cases e:(decide (least <= s + sub.sm) && b)
   ·rw [yAp (by simp),yAp (by simp [hP0,e])];rfl
   ·rw [yAo (by simp),yAo (by simp [hP0,e])];rfl
  ·rw [if_neg h,if_neg h];rfl
end Fo
def seg14 {x:List FN} {least:Int} {tt:List Int} (hx:x.length <= 2000) (htl:tt.length = x.length):∀ (F:Fo) (par:Int) (pl:Nat) (R Sy:List Bool) (b:Bool),At x pl (F.enc par pl) -> At tt pl F.tot -> R.length = x.length -> Sy.length + F.len <= 2000 ->
  ((par = -1 /\ b = true) \/ ∃ k:Nat,par = (k:Int) /\ k < pl /\ R.getD k false = b) ->
  ∃ R',Goes (b14 (x,least) tt) ((pl:Int),R,Sy) (((pl + F.len:Nat):Int),R',Sy ++ F.sty least b) /\ R'.length = x.length /\ ∀ k,k < pl -> R'.getD k false = R.getD k false
 | .nil,par,pl,R,Sy,b,_,_,h3,_,_=>⟨R,by rw [Fo.sty,yAS];exact Goes.refl _ _,h3,fun _ _=>rfl⟩
 | .cons n s sub rest,par,pl,R,Sy,b,hA,hT,h3,h4,h6=>by
  rw [Fo.enc] at hA
  rw [Fo.tot] at hT
  have hi:=hA.head
  have hil:=At.lt hi
  have hA1:=hA.tail.left
  have hA2:=hA.tail.right
  rw [Fo.enc_len] at hA2
  have hT1:=hT.tail.left
  have hT2:=hT.tail.right
  rw [Fo.tot_len] at hT2
  have ht:tt.getD pl 0 = s + sub.sm:=by rw [yAI,hT.head];rfl
  rw [Fo.len] at h4
  have hst:=st14 (least:=least) (b:=b) hi hx htl h3 (Sy:=Sy) (by omega) h6
  rw [ht] at hst
  have hset:∀ k,k < pl -> (R.set pl (decide (least <= s + sub.sm) && b)).getD k false = R.getD k false:=fun k hk=>by
   rw [zDZ (by omega),if_neg (by omega)]
  have hlen:(if s ≠ 0 then [decide (least <= s + sub.sm) && b] else []).length <= 1:=by split <;> simp
  have hsub:(sub.sty least (decide (least <= s + sub.sm) && b)).length <= sub.len:=by rw [Fo.sty_len least sub _ []];exact stk_len sub []
  obtain ⟨m1,a1,a2,a3⟩:=seg14 hx htl sub (pl:Int) (pl + 1) (R.set pl (decide (least <= s + sub.sm) && b)) (Sy ++ if s ≠ 0 then [decide (least <= s + sub.sm) && b] else []) (decide (least <= s + sub.sm) && b) hA1 hT1 (by simpa using h3) (by rw [yAD];omega)
   (.inr ⟨pl,rfl,by omega,by rw [zDZ (by omega),if_pos rfl]⟩)
  obtain ⟨m2,b1,b2,b3⟩:=seg14 hx htl rest par (pl + 1 + sub.len) m1 ((Sy ++ if s ≠ 0 then [decide (least <= s + sub.sm) && b] else []) ++ sub.sty least (decide (least <= s + sub.sm) && b)) b hA2 hT2 a2 (by rw [yAD,yAD];omega)
   (by
    rcases h6 with h6 | ⟨k,r1,r2,r3⟩
    ·exact .inl h6
    ·exact .inr ⟨k,r1,by omega,by rw [a3 k (by omega),hset k r2];exact r3⟩)
  refine ⟨m2,?_,b2,fun k hk=>by rw [b3 k (by omega),a3 k (by omega),hset k hk]⟩
  have hG:=(Goes.one hst).trans (a1.trans b1)
  rw [Fo.sty,Fo.len]
  rw [show pl + (1 + sub.len + rest.len) = pl + 1 + sub.len + rest.len by omega]
  simp only [yAQ] at hG ⊢
  exact hG
def b31 (r1:List Sk):(Int × (List Bool × List Sk)) -> Option ((Int × (List Bool × List Sk)) ⊕ ((List Bool × List Sk) ⊕ ((List FN × Int) × List Bool))):=fun s2 =>
 sel (ilt s2.1 (n2i (zAE r1))) (join (need (inL s2.1 (zAE r1)) <|
 call (F32 (s2.1,zAH (([]:List ByteArray),0) r1 (i2n s2.1),s2.2.1)) fun (r3:((((List ByteArray) × Int) × Bool) × (List Bool))) =>
 sel r3.1.2 (need (room (zBl (zAE s2.2.2) (zAE (r3.1.1 :: ([]:List ((List ByteArray) × Int))))) 32) <|
 some (.inl (r3.2,zBg s2.2.2 (r3.1.1 :: ([]:List ((List ByteArray) × Int)))))) <|
 some (.inl (r3.2,s2.2.2))) fun (j4:((List Bool) × (List ((List ByteArray) × Int)))) =>
 some (.inl (zBA .i64 s2.1 1,j4.1,j4.2))) <|
 some (.inr (.inl (s2.2.1,s2.2.2)))
def F19b_def (x:List FN × List Bool):F19b x = call (F30 x.1) fun (r0:Int)=>sel (ine r0 0) (some (([],1),x.2)) <| call (F17 x.1) fun (r1:List Sk)=>join (zBh (b31 r1) (0,x.2,[])) fun j5=>call (F16 j5.2) fun (r6:List FN × Int)=>sel (ine r6.2 0) (some (([],r6.2),j5.1)) <| some ((r6.1,0),j5.1):=rfl
def b31_loop {l:List Sk} {bits:List Bool} (hl:l.length <= 2000) (hb:bits.length = l.length):zBh (b31 l) (0,bits,[]) = some (.inl (bits,((l.zip bits).filter (·.2)).map (·.1))):=by
 have hG:∀ i,i <= l.length -> Goes (b31 l) (0,bits,[]) ((i:Int),bits,(((l.zip bits).take i).filter (·.2)).map (·.1)):=by
  intro i
  induction i with
  | zero=>intro _;exact Goes.refl _ _
  | succ i ih =>
   intro hi
   refine (ih (by omega)).trans (Goes.one ?_)
   have hil:i < l.length:=by omega
   have hib:i < bits.length:=by omega
   have hiz:i < (l.zip bits).length:=by rw [List.length_zip];omega
   have hlen:((((l.zip bits).take i).filter (·.2)).map (·.1)).length <= i:=by
    rw [yAG];exact yBN (List.length_filter_le _ _) (by rw [yAU];omega)
   have h38:F32 ((i:Int),l[i],bits) = some ((l[i],bits[i]),bits):=by
    unfold F32
    dsimp only
    rw [if_pos (by omega),Int.toNat_natCast]
    congr 3
    rw [yAI,yAK hib];rfl
   unfold b31
   dsimp only
   rw [zAe,zAy (by rw [zAf,zAM];exact decide_eq_true (by omega)),zAG (zAj hil),zCM,zCN hil,zAR h38,yAM hiz,yBF,yAV]
   rw [zBp (by omega) (by omega),List.getElem_zip]
   dsimp only
   cases hk:bits[i]
   ·rw [zAX rfl,zBG,yAp (by simp)];simp
   ·rw [zAy rfl,zAG (zBe (by simp only [zBl,zAE,yAC];omega)),zBG,yAo rfl];rfl
 refine (hG l.length (yAJ _)).fin ?_
 unfold b31
 dsimp only
 rw [zAe,zAX (by rw [zAf,zAM];exact decide_eq_false (by omega)),yAW (by rw [List.length_zip];omega)]
def F11_enc {F:Fo} (hG:F.Good 0) (hl:F.len <= 2000) (least:Int):F11 (F.enc (-1) 0,least) = some ((kp (F.hvy least) F).enc (-1) 0,0):=by
 have h13:=F30_enc hG hl
 have hL:(F.enc (-1) 0).length = F.len:=Fo.enc_len F _ _
 have hsl:=stk_len F []
 obtain ⟨R',h1,_,_⟩:=seg14 (x:=F.enc (-1) 0) (least:=least) (tt:=F.tot) (by omega) (by rw [Fo.tot_len,hL]) F (-1) 0 (List.replicate F.len false) [] true (At.all _) (At.all _) (by simp [hL]) (by simpa using hl) (.inl ⟨rfl,rfl⟩)
 have e0:lrep (n2i (zAE (F.enc (-1) 0))) false = List.replicate F.len false:=by
  unfold lrep;rw [zAf,zAM,hL];rfl
 have hz:=Fo.sty_stk least (F.hvy least) F [] true hG.srt fun m _ q=>by rw [yBI,yBT]
 have h31:F19b (F.enc (-1) 0,F.sty least true) = some (((kp (F.hvy least) F).enc (-1) 0,0),F.sty least true):=by
  rw [F19b_def,zAR h13,zAX (by rfl),zAR (F17_enc h13 hG.nd hl),zBo (b31_loop (by omega) (Fo.sty_len least F true [])),hz]
  dsimp only
  rw [zAR (F16_eq (by have:=List.length_filter_le (fun x:Sk=>F.hvy least x.1) (F.stk []);omega)),of_keep _ hG hl]
  rfl
 rw [F11_def,zAR h13,zAX (by rfl),zAR (F31_enc h13 hG.w hl),zAG (mk_t (by rw [zAf];omega) (by omega) (by rw [zAf,zAM,hL];omega) (by rw [zAf,zAM,hL];omega))]
 dsimp only
 rw [e0]
 refine (zBo (h1.fin (e:=.inl (F.sty least true)) ?_)).trans ?_
 ·unfold b14
  dsimp only
  rw [zAe,zAX (by rw [zAf,zAM,hL];exact decide_eq_false (by omega))];rfl
 ·rw [zAR h31]
open Go Go.T Go.Pl
abbrev St5:=Int × (Int × List Nm)
def b5 (x:(List (Int × (ByteArray × Int)))) (r2:List TR):St5 -> Option (St5 ⊕ ((Int × List Nm) ⊕ Bool)) :=
(fun (s3:(Int × (Int × (List ByteArray)))) =>
sel (ilt s3.2.1 (n2i (zAE r2))) (need (inL s3.2.1 (zAE r2)) <|
call (F21 (s3.2.2,(zAH ((⟨#[]⟩:ByteArray),0,0) r2 (i2n s3.2.1)).1)) fun (r4:Bool) =>
call (sel (zCr r4) (F36 (x,(zAH ((⟨#[]⟩:ByteArray),0,0) r2 (i2n s3.2.1)).1)) <|
some 0) fun (r5:Int) =>
need (impl (band (zCr (zAL r4 true (ine (((zAH ((⟨#[]⟩:ByteArray),0,0) r2 (i2n s3.2.1)).2).2) r5))) (ilt 0 s3.2.1)) (inL (zCX .i64 s3.2.1 1) (zAE r2))) <|
need (impl (band (band (zCr (zAL r4 true (ine (((zAH ((⟨#[]⟩:ByteArray),0,0) r2 (i2n s3.2.1)).2).2) r5))) (ilt 0 s3.2.1)) (zCr (ilt (((zAH ((⟨#[]⟩:ByteArray),0,0) r2 (i2n (zCX .i64 s3.2.1 1))).2).2) (((zAH ((⟨#[]⟩:ByteArray),0,0) r2 (i2n s3.2.1)).2).2)))) (inL (zCX .i64 s3.2.1 1) (zAE r2))) <|
need (impl (band (band (band (zCr (zAL r4 true (ine (((zAH ((⟨#[]⟩:ByteArray),0,0) r2 (i2n s3.2.1)).2).2) r5))) (ilt 0 s3.2.1)) (zCr (ilt (((zAH ((⟨#[]⟩:ByteArray),0,0) r2 (i2n (zCX .i64 s3.2.1 1))).2).2) (((zAH ((⟨#[]⟩:ByteArray),0,0) r2 (i2n s3.2.1)).2).2)))) (ieq (((zAH ((⟨#[]⟩:ByteArray),0,0) r2 (i2n (zCX .i64 s3.2.1 1))).2).2) (((zAH ((⟨#[]⟩:ByteArray),0,0) r2 (i2n s3.2.1)).2).2))) (inL (zCX .i64 s3.2.1 1) (zAE r2))) <|
sel (zAL (zAL r4 true (ine (((zAH ((⟨#[]⟩:ByteArray),0,0) r2 (i2n s3.2.1)).2).2) r5)) true (zAL (ilt 0 s3.2.1) (zAL (ilt (((zAH ((⟨#[]⟩:ByteArray),0,0) r2 (i2n (zCX .i64 s3.2.1 1))).2).2) (((zAH ((⟨#[]⟩:ByteArray),0,0) r2 (i2n s3.2.1)).2).2)) true (zAL (ieq (((zAH ((⟨#[]⟩:ByteArray),0,0) r2 (i2n (zCX .i64 s3.2.1 1))).2).2) (((zAH ((⟨#[]⟩:ByteArray),0,0) r2 (i2n s3.2.1)).2).2)) (zCr (slt ((zAH ((⟨#[]⟩:ByteArray),0,0) r2 (i2n (zCX .i64 s3.2.1 1))).1) ((zAH ((⟨#[]⟩:ByteArray),0,0) r2 (i2n s3.2.1)).1))) false)) false)) (some (.inr (.inr false))) <|
need (room (zBl (zAE s3.2.2) (zAE ((zAH ((⟨#[]⟩:ByteArray),0,0) r2 (i2n s3.2.1)).1 :: ([]:List ByteArray)))) 16) <|
some (.inl (zBA .i64 s3.1 (((zAH ((⟨#[]⟩:ByteArray),0,0) r2 (i2n s3.2.1)).2).1),zBA .i64 s3.2.1 1,zBg s3.2.2 ((zAH ((⟨#[]⟩:ByteArray),0,0) r2 (i2n s3.2.1)).1 :: ([]:List ByteArray))))) <|
some (.inr (.inl (s3.1,s3.2.2))))
def has_t {n:Nm} {p:List Nm}:has n p = true ↔ n ∈ p:=by
 unfold has
 rw [yBQ]
 constructor
 ·rintro ⟨m,h1,h2⟩;rw [decide_eq_true_eq] at h2;exact h2 ▸ h1
 ·intro h;exact ⟨n,h,decide_eq_true rfl⟩
def sum_lb (K:Int) (hK:0 <= K):∀ (l:List Int),(∀ v ∈ l,-K <= v /\ v <= K) -> -(K * (l.length:Int)) <= l.sum /\ l.sum <= K * (l.length:Int)
 | [],_=>by simp
 | v :: l,h=>by
  have h1:=h v (by simp)
  have h2:=sum_lb K hK l fun w hw=>h w (yAF _ hw)
  rw [yAY,List.sum_cons]
  have e:K * ((l.length + 1:Nat):Int) = K * (l.length:Int) + K:=by rw [Int.natCast_add,Int.mul_add];simp
  rw [e];omega
namespace Fo
def keep_stk (P:List Nm -> Bool):∀ (F:Fo) (p:List Nm),(F.keep P p).stk p = (F.stk p).filter fun x=>P x.1
 | .nil,_=>rfl
 | .cons n s sub rest,p=>by
  rw [keep,stk,stk,keep_stk P sub,keep_stk P rest,yBF,yBF]
  congr 1
  by_cases h:s ≠ 0
  ·rw [if_pos h]
   by_cases hP:P (p ++ [n]) = true
   ·rw [if_pos hP,if_pos h,yAo (by simpa using hP)];rfl
   ·rw [if_neg hP,if_neg (by simp),yAp (by simpa using hP)];rfl
  ·have h0:s = 0:=Decidable.not_not.1 h
   subst h0
   rw [ite_self,if_neg h];rfl
def prune_stk:∀ (F:Fo) (p:List Nm),F.prune.stk p = F.stk p
 | .nil,_=>rfl
 | .cons n s sub rest,p=>by
  rw [prune,stk]
  split
  ·rename_i h
   rw [prune_stk rest,<- prune_stk sub,h.2,if_neg (by rw [h.1];simp)];rfl
  ·rw [stk,prune_stk sub,prune_stk rest]
end Fo
def kp_stk (P:List Nm -> Bool) (F:Fo):(kp P F).stk [] = (F.stk []).filter fun x=>P x.1:=by rw [kp,Fo.prune_stk,Fo.keep_stk]
def F18_eq {a b:List Nm} (ha:a.length <= 1000000) (hb:b.length <= 1000000):F18 (a,b) = some (decide (a = b)):=by
 unfold F18
 dsimp only
 rw [ine_d,zCb]
 by_cases h:a.length = b.length
 ·rw [if_neg (by simp only [zAf,zAM];omega)]
  have key:∀ r,join (zBh (fun (s0:Int) =>
      sel (ilt s0 (n2i (zAE a))) (need (inL s0 (zAE a)) <|
      need (inL s0 (zAE b)) <|
      sel (zCr (seq (zAH (⟨#[]⟩:ByteArray) a (i2n s0)) (zAH (⟨#[]⟩:ByteArray) b (i2n s0)))) (some (.inr (.inr false))) <|
      some (.inl (zBA .i64 s0 1))) <|
      some (.inr (.inl ()))) 0) (fun j1:PUnit=>some true) = r -> r = some (decide (a = b)):=by
   rintro _ rfl
   obtain ⟨y,h1,h2⟩:=zDL (body:=fun (s0:Int) =>
    sel (ilt s0 (n2i (zAE a))) (need (inL s0 (zAE a)) <|
    need (inL s0 (zAE b)) <|
    sel (zCr (seq (zAH (⟨#[]⟩:ByteArray) a (i2n s0)) (zAH (⟨#[]⟩:ByteArray) b (i2n s0)))) (some (.inr (.inr false))) <|
    some (.inl (zBA .i64 s0 1))) <|
    some (.inr (.inl ()))) (k:=fun j1:PUnit=>some true) (s:=(0:Int)) (G:=fun y=>y = decide (a = b)) (fun s=>∃ i:Nat,s = (i:Int) /\ i <= a.length /\ a.take i = b.take i) (fun s=>a.length - s.toNat) (fun e=>(a = b /\ e = .inl ()) \/ (a ≠ b /\ e = .inr false)) ⟨0,rfl,by omega,rfl⟩
    (by
     rintro _ ⟨i,rfl,hi,he⟩
     rw [zAe,zAf,zAM,zCb]
     by_cases h':i < a.length
     ·have hib:i < b.length:=by omega
      rw [if_pos (by omega),zAG (inL_t h'),zAG (zAj hib),zCM,zCN h',zCN hib,seq_t,bnot_d]
      by_cases e:a[i] = b[i]
      ·rw [decide_eq_true e,Bool.not_true,zAX rfl,zBp (by omega) (by omega)]
       refine .inl ⟨_,rfl,⟨i + 1,rfl,by omega,?_⟩,by omega⟩
       rw [yAM h',yAM hib,he,e]
      ·rw [decide_eq_false e,Bool.not_false,zAy rfl]
       exact .inr ⟨_,rfl,.inr ⟨fun e'=>e (by subst e';rfl),rfl⟩⟩
     ·have:i = a.length:=by omega
      subst this
      rw [if_neg (by omega)]
      rw [yAi,h,yAi] at he
      exact .inr ⟨_,rfl,.inl ⟨he,rfl⟩⟩)
    (by
     rintro _ (⟨h,rfl⟩ | ⟨h,rfl⟩)
     ·exact ⟨true,rfl,(decide_eq_true h).symm⟩
     ·exact ⟨false,rfl,(decide_eq_false h).symm⟩)
   rw [h1,h2]
  exact key _ rfl
 ·rw [if_pos (by simp only [zAf,zAM];omega),decide_eq_false fun e=>h (by rw [e])]
namespace Fo
def nn:Fo -> Prop
 | .nil=>True
 | .cons _ s sub rest=>0 <= s /\ sub.nn /\ rest.nn
end Fo
open Go Go.T Go.Pl
abbrev nA:Nm:=⟨#[109,97,105,110]⟩
abbrev nB:Nm:=⟨#[114,117,110]⟩
abbrev e0F:Fo:=.cons nA 1 (.cons nB 2 .nil .nil) (.cons nB 0 (.cons nA 4 .nil .nil) .nil)
abbrev e1F:Fo:=.cons nA 1 (.cons nB 4 .nil .nil) (.cons nB 0 (.cons nA 2 .nil .nil) .nil)
def slt_AB:slt nA nB = true:=by decide +kernel
def okA {s:Int} (h:-1099511627776 <= s /\ s <= 1099511627776):Fo.okN nA s:=⟨by decide,by decide,h.1,h.2⟩
def okB {s:Int} (h:-1099511627776 <= s /\ s <= 1099511627776):Fo.okN nB s:=⟨by decide,by decide,h.1,h.2⟩
def e0G:e0F.Good 0:=by
 refine ⟨okA (by decide),by simp,by decide,fun m hm=>?_,⟨okB (by decide),by simp,by decide,by simp [Fo.heads],trivial,trivial⟩,okB (by decide),by simp,by decide,by simp [Fo.heads],⟨okA (by decide),by simp,by decide,by simp [Fo.heads],trivial,trivial⟩,trivial⟩
 simp [Fo.heads] at hm;subst hm;exact slt_AB
def e1G:e1F.Good 0:=by
 refine ⟨okA (by decide),by simp,by decide,fun m hm=>?_,⟨okB (by decide),by simp,by decide,by simp [Fo.heads],trivial,trivial⟩,okB (by decide),by simp,by decide,by simp [Fo.heads],⟨okA (by decide),by simp,by decide,by simp [Fo.heads],trivial,trivial⟩,trivial⟩
 simp [Fo.heads] at hm;subst hm;exact slt_AB
def aw29:F16 [([nA,nB],2),([nA],1),([nB,nA],4)] = some (e0F.enc (-1) 0,0):=by
 rw [F16_eq (by decide)]
 congr 1
 decide +kernel
def aw9:F9 (e0F.enc (-1) 0) = some (e1F.enc (-1) 0,0):=by
 have e:ofGo (0,.nil) (rvs (e0F.stk [])) = (e1F.enc (-1) 0,0):=by decide +kernel
 rw [F9_enc e0G (by decide),e,if_neg (by decide)]
def aw14:∃ G:Fo,F11 (e0F.enc (-1) 0,3) = some (G.enc (-1) 0,0) /\ ∃ l,F17 (G.enc (-1) 0) = some l /\ l.length = 2:=by
 refine ⟨_,F11_enc e0G (by decide) 3,_,F17_enc (F30_enc (kp_good _ e0G) (yBN (kp_len _ _) (by decide))) (kp_good _ e0G).nd (yBN (kp_len _ _) (by decide)),?_⟩
 rw [kp_stk]
 decide +kernel
def aw23:F14 (e0F.enc (-1) 0) = some [(nA,5,7),(nB,2,6)]:=by
 obtain ⟨M,r,hM,hr1,hr2,h⟩:=F14_enc e0G (by decide)
 have hkey:∀ n,(∃ v ∈ e0F.enc (-1) 0,v.2.1 = n) ↔ n = nA \/ n = nB:=fun n=>by
  simp only [Fo.enc,yAl,yBI,yAS,yAE,yAf,or_false,exists_eq_or_imp,exists_eq_left]
  constructor
  ·rintro (h | h | h | h) <;> first | exact .inl h.symm | exact .inr h.symm
  ·rintro (h | h)
   ·exact .inl h.symm
   ·exact .inr (.inl h.symm)
 have vA:slf nA (e0F.enc (-1) 0) = 5:=by decide +kernel
 have vB:slf nB (e0F.enc (-1) 0) = 2:=by decide +kernel
 have hp:M.Perm [(nA,5),(nB,2)]:=by
  have hMn:M.Nodup:=(List.pairwise_map.1 hM.nd).imp fun h e=>h (congrArg _ e)
  rw [List.perm_ext_iff_of_nodup hMn (by decide +kernel)]
  intro p
  constructor
  ·intro hp
   have hk:=(hkey p.1).1 ((hM.mem p.1).1 (yAg (f:=(·.1)) hp))
   have hv:=hM.val p hp
   obtain ⟨n,w⟩:=p
   dsimp only at hk hv
   rcases hk with rfl | rfl
   ·rw [hv,vA];simp
   ·rw [hv,vB];simp
  ·intro hp
   simp only [yAE,yAf,or_false] at hp
   have hmem:∀ n w,(n = nA \/ n = nB) -> slf n (e0F.enc (-1) 0) = w -> (n,w) ∈ M:=fun n w hn hw=>by
    obtain ⟨p,hp,e⟩:=yBC.1 ((hM.mem n).2 ((hkey n).2 hn))
    have:=hM.val p hp
    obtain ⟨m,u⟩:=p
    dsimp only at e this
    subst e
    rw [this,hw] at hp
    exact hp
   rcases hp with rfl | rfl
   ·exact hmem _ _ (.inl rfl) vA
   ·exact hmem _ _ (.inr rfl) vB
 have hrow:[(nA,(5:Int))].map (row e0F) = [(nA,5,7)] /\ [(nB,(2:Int))].map (row e0F) = [(nB,2,6)]:=by decide +kernel
 have hp2:r.Perm [(nA,5,7),(nB,2,6)]:=by
  have:=hr1.trans (hp.map (row e0F))
  have e:[(nA,(5:Int)),(nB,2)].map (row e0F) = [(nA,5,7),(nB,2,6)]:=by decide +kernel
  rw [e] at this
  exact this
 have:r = [(nA,5,7),(nB,2,6)]:=rows_uniq hp2 hr2 (by
  simp only [yBE,yAm,forall_eq,yAf,false_imp_iff,implies_true,and_true,List.Pairwise.nil]
  exact .inl (by decide))
 rw [h,this]
def F13_self:F13 ([(nA,5,7),(nB,2,6)],[(nA,5,7),(nB,2,6)]) = some true:=by
 unfold F13
 dsimp only
 rw [zAX (by rfl)]
 refine (zBo (s:=()) (iter_of (n:=3) (e:=Sum.inl ()) ?_)).trans rfl
 decide +kernel
def awake:F5 () = some true:=by
 obtain ⟨G,h14,l,h16,hl⟩:=aw14
 have hs:zCI [nA,nB] (i2n 0) (nsub (i2n 1) (i2n 0)) = [nA]:=rfl
 have h16':F17 (e1F.enc (-1) 0) = some (e1F.stk []):=F17_enc (F30_enc e1G (by decide)) e1G.nd (by decide)
 have he:e1F.stk [] = [([nA],1),([nA,nB],4),([nB,nA],2)]:=by decide +kernel
 rw [he] at h16'
 have h20:F18 ([nA,nB],[nA,nB]) = some true:=by rw [F18_eq (by decide) (by decide),decide_eq_true rfl]
 unfold F5
 rw [zAG (by rfl),hs,zAR aw29]
 dsimp only
 rw [zAR aw23,zAR aw9]
 dsimp only
 rw [zAR h14,zAR h16']
 dsimp only
 rw [zAy (by rfl),zAy (by rfl),zAR F13_self,zAG (by rfl),zAy (by rfl)]
 rw [show (zAH (([]:List ByteArray),0) [([nA],1),([nA,nB],4),([nB,nA],2)] (i2n 1)) = ([nA,nB],(4:Int)) from rfl]
 dsimp only
 rw [zAR h20,zAG (by rfl),zAy (by rfl),zAR h16]
 rw [show ieq (n2i (zAE l)) 2 = true by rw [zAM,hl];rfl]
 rfl
open Go Go.T Go.Ab Go.Proofs
def F24 (x:((List ByteArray) × ByteArray)):(Option Bool) :=
join (zBh (fun (s0:Int) =>
sel (ilt s0 (n2i (zAE x.1))) (need (inL s0 (zAE x.1)) <|
sel (seq (zAH (⟨#[]⟩:ByteArray) x.1 (i2n s0)) x.2) (some (.inr (.inr true))) <|
some (.inl (zBA .i64 s0 1))) <|
some (.inr (.inl ()))) 0) fun (j1:PUnit) =>
some false
def c24:Con:=⟨24,[.sl .str,.str],[],.bool,[],F24,none⟩
def ok24:zAl Tryz.prog c24:=zBM zCm [] (zBN) c24 Tryz.f24 (.n .o (.n (.n .o (.jb ⟨[],[],[],0,0⟩ (.l ⟨[0,1],[(5,.int .i64)],[],0,1⟩ .o))) .o)) Tryz.func24
def F29 (x:(List ByteArray)):(Option (List ByteArray)) :=
join (zBh (fun (s0:(Int × (List ByteArray))) =>
sel (ile 0 s0.1) (need (inL s0.1 (zAE x)) <|
need (room (zBl (zAE s0.2) (zAE (zAH (⟨#[]⟩:ByteArray) x (i2n s0.1) :: ([]:List ByteArray)))) 16) <|
some (.inl (zCX .i64 s0.1 1,zBg s0.2 (zAH (⟨#[]⟩:ByteArray) x (i2n s0.1) :: ([]:List ByteArray))))) <|
some (.inr (.inl s0.2))) (zCX .i64 (n2i (zAE x)) 1,([]:List ByteArray))) fun (j1:(List ByteArray)) =>
some j1
def c29:Con:=⟨29,[.sl .str],[],.sl .str,[],F29,none⟩
def ok29:zAl Tryz.prog c29:=zBM zCm [] (zBN) c29 Tryz.f29 (.n .o (.n .o (.n (.n .o (.jb ⟨[],[(3,.own 0)],[(0,.many .str)],1,0⟩ (.l ⟨[0],[(3,.own 0),(4,.int .i64)],[(0,.many .str)],1,1⟩ .o))) .o))) Tryz.func29
def F34 (x:((List (Int × (ByteArray × Int))) × ((List Int) × (Int × Int)))):(Option Bool) :=
join (zBh (fun (s0:Int) =>
sel (ile 0 s0) (need (inL s0 (zAE x.2.1)) <|
sel (ilt (zAH 0 x.2.1 (i2n s0)) x.2.2.2) (some (.inr (.inr false))) <|
need (inL s0 (zAE x.1)) <|
some (.inl ((zAH (0,(⟨#[]⟩:ByteArray),0) x.1 (i2n s0)).1))) <|
some (.inr (.inl ()))) x.2.2.1) fun (j1:PUnit) =>
some true
def c34:Con:=⟨34,[.sl (.agg (.pr (.int .i64) (.pr .str (.int .i64)))),.sl (.int .i64),.int .i64,.int .i64],[],.bool,[],F34,none⟩
def ok34:zAl Tryz.prog c34:=zBM zCm [] (zBN) c34 Tryz.f34 (.n .o (.n (.jb ⟨[],[],[],0,0⟩ (.l ⟨[0,1,3],[(2,.int .i64)],[],0,1⟩ .o)) .o)) Tryz.func34
def F35 (x:((List (Int × (ByteArray × Int))) × Int)):(Option (List ByteArray)) :=
join (zBh (fun (s0:(Int × (List ByteArray))) =>
sel (ile 0 s0.1) (need (inL s0.1 (zAE x.1)) <|
need (room (zBl (zAE (((zAH (0,(⟨#[]⟩:ByteArray),0) x.1 (i2n s0.1)).2).1 :: ([]:List ByteArray))) (zAE s0.2)) 16) <|
need (inL s0.1 (zAE x.1)) <|
some (.inl ((zAH (0,(⟨#[]⟩:ByteArray),0) x.1 (i2n s0.1)).1,zBg (((zAH (0,(⟨#[]⟩:ByteArray),0) x.1 (i2n s0.1)).2).1 :: ([]:List ByteArray)) s0.2))) <|
some (.inr (.inl s0.2))) (x.2,([]:List ByteArray))) fun (j1:(List ByteArray)) =>
some j1
def c35:Con:=⟨35,[.sl (.agg (.pr (.int .i64) (.pr .str (.int .i64)))),.int .i64],[],.sl .str,[],F35,none⟩
def ok35:zAl Tryz.prog c35:=zBM zCm [] (zBN) c35 Tryz.f35 (.n .o (.n .o (.n (.jb ⟨[],[(5,.own 0)],[(0,.many .str)],1,0⟩ (.l ⟨[0],[(1,.int .i64),(5,.own 0)],[(0,.many .str)],1,1⟩ .o)) .o))) Tryz.func35
def F58 (x:((List ByteArray) × ByteArray)):(Option Bool) :=
join (zBh (fun (s0:Int) =>
sel (ilt s0 (n2i (zAE x.1))) (need (inL s0 (zAE x.1)) <|
sel (seq (zAH (⟨#[]⟩:ByteArray) x.1 (i2n s0)) x.2) (some (.inr (.inr true))) <|
some (.inl (zBA .i64 s0 1))) <|
some (.inr (.inl ()))) 0) fun (j1:PUnit) =>
some false
def c58:Con:=⟨58,[.sl .str,.str],[],.bool,[],F58,none⟩
def ok58:zAl Tryz.prog c58:=zBM zCm [] (zBN) c58 Tryz.f58 (.n .o (.n (.n .o (.jb ⟨[],[],[],0,0⟩ (.l ⟨[0,1],[(5,.int .i64)],[],0,1⟩ .o))) .o)) Tryz.func58
def F59 (x:((ByteArray × (Int × Int)) × (ByteArray × (Int × Int)))):(Option Bool) :=
some (zAL (ilt x.2.2.2 x.1.2.2) true (zAL (ieq x.1.2.2 x.2.2.2) (slt x.1.1 x.2.1) false))
def c59:Con:=⟨59,[.agg (.pr .str (.pr (.int .i64) (.int .i64))),.agg (.pr .str (.pr (.int .i64) (.int .i64)))],[],.bool,[],F59,none⟩
def ok59:zAl Tryz.prog c59:=zBM zCm [] (zBN) c59 Tryz.f59 (.o) Tryz.func59
def F72 (x:((List ByteArray) × (List ByteArray))):(Option Int) :=
join (zBh (fun (s0:Int) =>
sel (zAL (ilt s0 (n2i (zAE x.1))) (ilt s0 (n2i (zAE x.2))) false) (need (inL s0 (zAE x.1)) <|
need (inL s0 (zAE x.2)) <|
sel (slt (zAH (⟨#[]⟩:ByteArray) x.1 (i2n s0)) (zAH (⟨#[]⟩:ByteArray) x.2 (i2n s0))) (some (.inr (.inr (-1)))) <|
need (inL s0 (zAE x.1)) <|
need (inL s0 (zAE x.2)) <|
sel (zCr (sle (zAH (⟨#[]⟩:ByteArray) x.1 (i2n s0)) (zAH (⟨#[]⟩:ByteArray) x.2 (i2n s0)))) (some (.inr (.inr 1))) <|
some (.inl (zBA .i64 s0 1))) <|
some (.inr (.inl ()))) 0) fun (j1:PUnit) =>
sel (ilt (n2i (zAE x.1)) (n2i (zAE x.2))) (some (-1)) <|
sel (ilt (n2i (zAE x.2)) (n2i (zAE x.1))) (some 1) <|
some 0
def c72:Con:=⟨72,[.sl .str,.sl .str],[],.int .i64,[],F72,none⟩
def ok72:zAl Tryz.prog c72:=zBM zCm [] (zBN) c72 Tryz.f72 (.n .o (.n (.n .o (.jb ⟨[0,1],[],[],0,0⟩ (.l ⟨[0,1],[(5,.int .i64)],[],0,1⟩ (.n .o (.n (.b (.n (.n (.r [0,1,2,4,5,6,3,7,8]) .o) (.n (.r [0,1,2,4,5,6,3,7,8]) .o))) .o))))) .o)) Tryz.func72
def F73 (x:((List ByteArray) × (List ByteArray))):(Option Int) :=
join (zBh (fun (s0:Int) =>
need (impl (zAL (ilt s0 (n2i (zAE x.1))) (ilt s0 (n2i (zAE x.2))) false) (inL s0 (zAE x.1))) <|
need (impl (zAL (ilt s0 (n2i (zAE x.1))) (ilt s0 (n2i (zAE x.2))) false) (inL s0 (zAE x.2))) <|
sel (zAL (zAL (ilt s0 (n2i (zAE x.1))) (ilt s0 (n2i (zAE x.2))) false) (seq (zAH (⟨#[]⟩:ByteArray) x.1 (i2n s0)) (zAH (⟨#[]⟩:ByteArray) x.2 (i2n s0))) false) (some (.inl (zBA .i64 s0 1))) <|
some (.inr (.inl s0))) 0) fun (j1:Int) =>
some j1
def c73:Con:=⟨73,[.sl .str,.sl .str],[],.int .i64,[],F73,none⟩
def ok73:zAl Tryz.prog c73:=zBM zCm [] (zBN) c73 Tryz.f73 (.n .o (.n .o (.n (.jb ⟨[],[(5,.int .i64)],[],0,0⟩ (.l ⟨[0,1],[(5,.int .i64)],[],0,1⟩ (.n (.n (.r [0,1,2,3,4,5,6,7,8,9,10,11,12,13,15,16,17,14,18,19,20]) .o) .o))) .o))) Tryz.func73
def F43 (x:((List (ByteArray × (Int × Int))) × (ByteArray × (Int × Int)))):(Option (List (ByteArray × (Int × Int)))) :=
join (zBh (fun (s0:Int) =>
need (impl (ilt s0 (n2i (zAE x.1))) (inL s0 (zAE x.1))) <|
call (sel (ilt s0 (n2i (zAE x.1))) (F59 (zAH ((⟨#[]⟩:ByteArray),0,0) x.1 (i2n s0),x.2)) <|
some false) fun (r1:Bool) =>
sel (zAL (ilt s0 (n2i (zAE x.1))) r1 false) (some (.inl (zBA .i64 s0 1))) <|
some (.inr (.inl s0))) 0) fun (j2:Int) =>
need (inS 0 j2 (zAE x.1)) <|
(fun z=>both (both z (both z z)) (both (both z z) z)) <|
need (room (zBl (zAE ([]:List (ByteArray × (Int × Int)))) (zAE (zCI x.1 (i2n 0) (nsub (i2n j2) (i2n 0))))) 32) <|
need (room (zBl (zAE (zBg ([]:List (ByteArray × (Int × Int))) (zCI x.1 (i2n 0) (nsub (i2n j2) (i2n 0))))) (zAE (x.2 :: ([]:List (ByteArray × (Int × Int)))))) 32) <|
need (inS j2 (n2i (zAE x.1)) (zAE x.1)) <|
need (room (zBl (zAE (zBg (zBg ([]:List (ByteArray × (Int × Int))) (zCI x.1 (i2n 0) (nsub (i2n j2) (i2n 0)))) (x.2 :: ([]:List (ByteArray × (Int × Int)))))) (zAE (zCI x.1 (i2n j2) (nsub (i2n (n2i (zAE x.1))) (i2n j2))))) 32) <|
some (zBg (zBg (zBg ([]:List (ByteArray × (Int × Int))) (zCI x.1 (i2n 0) (nsub (i2n j2) (i2n 0)))) (x.2 :: ([]:List (ByteArray × (Int × Int))))) (zCI x.1 (i2n j2) (nsub (i2n (n2i (zAE x.1))) (i2n j2))))
def c43:Con:=⟨43,[.sl (.agg (.pr .str (.pr (.int .i64) (.int .i64)))),.agg (.pr .str (.pr (.int .i64) (.int .i64)))],[],.sl (.agg (.pr .str (.pr (.int .i64) (.int .i64)))),[],F43,none⟩
def ok43:zAl Tryz.prog c43:=zBM zCm [c59] (zAO ok59 (zBN)) c43 Tryz.f43 (.n .o (.n .o (.n (.jb ⟨[0,3],[(5,.int .i64)],[],1,0⟩ (.l ⟨[0,3],[(5,.int .i64)],[],1,1⟩ (.n (.n (.r [0,1,2,3,4,5,6,7,8,9,10,11]) .o) .o))) (.n (.rt (.o 1 (.o 2 (.o 3 (.b 0 (.b 4 (.o 5 (.o 6 (.o 7 (.o 8 .e)))) 5 (.b 4 (.o 6 (.o 7 (.o 8 .e))) 6 (.o 4 (.o 7 (.o 8 .e))))) 5 (.b 0 (.b 4 (.o 6 (.o 7 (.o 8 .e))) 6 (.o 4 (.o 7 (.o 8 .e)))) 6 (.o 0 (.o 4 (.o 7 (.o 8 .e)))))))))) .o)))) Tryz.func43
def F49 (x:((List ByteArray) × Int)):(Option Int) :=
sel (ieq (n2i (zAE x.1)) 0) (some 1) <|
sel (ilt 64 (n2i (zAE x.1))) (some 30) <|
join (zBh (fun (s0:Int) =>
sel (ilt s0 (n2i (zAE x.1))) (need (inL s0 (zAE x.1)) <|
call (F67 (zAH (⟨#[]⟩:ByteArray) x.1 (i2n s0))) fun (r1:Bool) =>
sel (zCr r1) (some (.inr (.inr 5))) <|
some (.inl (zBA .i64 s0 1))) <|
some (.inr (.inl ()))) 0) fun (j2:PUnit) =>
call (F68 x.2) fun (r3:Bool) =>
sel (zCr r3) (some 2) <|
some 0
def c49:Con:=⟨49,[.agg (.pr (.sl .str) (.int .i64))],[],.int .i64,[],F49,none⟩
def ok49:zAl Tryz.prog c49:=zBM zCm [c67,c68] (zAO ok67 (zAO ok68 (zBN))) c49 Tryz.f49 (.n .o (.n .o (.n .o (.n (.n .o (.jb ⟨[1],[],[],1,0⟩ (.l ⟨[1],[(3,.int .i64)],[],1,1⟩ .o))) .o)))) Tryz.func49
def F50 (x:((List ((List ByteArray) × Int)) × ((List ByteArray) × Int))):(Option (List ((List ByteArray) × Int))) :=
join (zBh (fun (s0:Int) =>
need (impl (ilt s0 (n2i (zAE x.1))) (inL s0 (zAE x.1))) <|
call (sel (ilt s0 (n2i (zAE x.1))) (F72 ((zAH (([]:List ByteArray),0) x.1 (i2n s0)).1,x.2.1)) <|
some 0) fun (r1:Int) =>
sel (zAL (ilt s0 (n2i (zAE x.1))) (ilt r1 0) false) (some (.inl (zBA .i64 s0 1))) <|
some (.inr (.inl s0))) 0) fun (j2:Int) =>
need (inS 0 j2 (zAE x.1)) <|
need (room (zBl (zAE ([]:List ((List ByteArray) × Int))) (zAE (zCI x.1 (i2n 0) (nsub (i2n j2) (i2n 0))))) 32) <|
need (impl (ilt j2 (n2i (zAE x.1))) (inL j2 (zAE x.1))) <|
call (sel (ilt j2 (n2i (zAE x.1))) (F72 ((zAH (([]:List ByteArray),0) x.1 (i2n j2)).1,x.2.1)) <|
some 0) fun (r3:Int) =>
sel (zAL (ilt j2 (n2i (zAE x.1))) (ieq r3 0) false) (need (inL j2 (zAE x.1)) <|
need (room (zBl (zAE (zBg ([]:List ((List ByteArray) × Int)) (zCI x.1 (i2n 0) (nsub (i2n j2) (i2n 0))))) (zAE ((x.2.1,zBA .i64 ((zAH (([]:List ByteArray),0) x.1 (i2n j2)).2) x.2.2) :: ([]:List ((List ByteArray) × Int))))) 32) <|
need (inS (zBA .i64 j2 1) (n2i (zAE x.1)) (zAE x.1)) <|
need (room (zBl (zAE (zBg (zBg ([]:List ((List ByteArray) × Int)) (zCI x.1 (i2n 0) (nsub (i2n j2) (i2n 0)))) ((x.2.1,zBA .i64 ((zAH (([]:List ByteArray),0) x.1 (i2n j2)).2) x.2.2) :: ([]:List ((List ByteArray) × Int))))) (zAE (zCI x.1 (i2n (zBA .i64 j2 1)) (nsub (i2n (n2i (zAE x.1))) (i2n (zBA .i64 j2 1)))))) 32) <|
some (zBg (zBg (zBg ([]:List ((List ByteArray) × Int)) (zCI x.1 (i2n 0) (nsub (i2n j2) (i2n 0)))) ((x.2.1,zBA .i64 ((zAH (([]:List ByteArray),0) x.1 (i2n j2)).2) x.2.2) :: ([]:List ((List ByteArray) × Int)))) (zCI x.1 (i2n (zBA .i64 j2 1)) (nsub (i2n (n2i (zAE x.1))) (i2n (zBA .i64 j2 1)))))) <|
need (room (zBl (zAE (zBg ([]:List ((List ByteArray) × Int)) (zCI x.1 (i2n 0) (nsub (i2n j2) (i2n 0))))) (zAE (x.2 :: ([]:List ((List ByteArray) × Int))))) 32) <|
need (inS j2 (n2i (zAE x.1)) (zAE x.1)) <|
need (room (zBl (zAE (zBg (zBg ([]:List ((List ByteArray) × Int)) (zCI x.1 (i2n 0) (nsub (i2n j2) (i2n 0)))) (x.2 :: ([]:List ((List ByteArray) × Int))))) (zAE (zCI x.1 (i2n j2) (nsub (i2n (n2i (zAE x.1))) (i2n j2))))) 32) <|
some (zBg (zBg (zBg ([]:List ((List ByteArray) × Int)) (zCI x.1 (i2n 0) (nsub (i2n j2) (i2n 0)))) (x.2 :: ([]:List ((List ByteArray) × Int)))) (zCI x.1 (i2n j2) (nsub (i2n (n2i (zAE x.1))) (i2n j2))))
def c50:Con:=⟨50,[.sl (.agg (.pr (.sl .str) (.int .i64))),.agg (.pr (.sl .str) (.int .i64))],[],.sl (.agg (.pr (.sl .str) (.int .i64))),[],F50,none⟩
def ok50:zAl Tryz.prog c50:=zBM zCm [c72] (zAO ok72 (zBN)) c50 Tryz.f50 (.n .o (.n .o (.n (.jb ⟨[0,3],[(5,.int .i64)],[],1,0⟩ (.l ⟨[0,3],[(5,.int .i64)],[],1,1⟩ (.n (.n (.r [0,1,2,3,4,5,6,7,8,10,9,11,12,13,14]) .o) .o))) (.n .o (.n (.n (.r [0,1,2,3,4,5,6,7,8,10,9,11,12,13,14]) (.n (.n (.r [0,1,3,4,5,6,8,2,7,9,10,11,12,13,14]) .o) .o)) .o))))) Tryz.func50
def F51 (x:(List ((List ByteArray) × Int))):(Option ((List (Int × (ByteArray × Int))) × Int)) :=
join (zBh (fun (s0:((List ByteArray) × (Int × ((List (Int × (ByteArray × Int))) × (List Int))))) =>
sel (ilt s0.2.1 (n2i (zAE x))) (join (need (inL s0.2.1 (zAE x)) <|
sel (ieq ((zAH (([]:List ByteArray),0) x (i2n s0.2.1)).2) 0) (some (.inl (s0.1,s0.2.2.1,s0.2.2.2))) <|
need (inL s0.2.1 (zAE x)) <|
call (F68 ((zAH (([]:List ByteArray),0) x (i2n s0.2.1)).2)) fun (r1:Bool) =>
sel (zCr r1) (some (.inr (.inr (.inr (([]:List (Int × (ByteArray × Int))),2))))) <|
need (inL s0.2.1 (zAE x)) <|
call (F73 (s0.1,(zAH (([]:List ByteArray),0) x (i2n s0.2.1)).1)) fun (r2:Int) =>
need (inS 0 r2 (zAE s0.2.2.2)) <|
need (room (zBl (zAE ([]:List Int)) (zAE (zCI s0.2.2.2 (i2n 0) (nsub (i2n r2) (i2n 0))))) 8) <|
join (zBh (fun (s3:(Int × ((List (Int × (ByteArray × Int))) × (List Int)))) =>
need (inL s0.2.1 (zAE x)) <|
sel (ilt s3.1 (n2i (zAE ((zAH (([]:List ByteArray),0) x (i2n s0.2.1)).1)))) (join (join (sel (ilt 0 s3.1) (need (inL (zCX .i64 s3.1 1) (zAE s3.2.2)) <|
some (.inl (zAH 0 s3.2.2 (i2n (zCX .i64 s3.1 1))))) <|
some (.inl (-1))) fun (j4:Int) =>
need (room (zBl (zAE s3.2.2) (zAE (n2i (zAE s3.2.1) :: ([]:List Int)))) 8) <|
need (inL s0.2.1 (zAE x)) <|
need (inL s3.1 (zAE ((zAH (([]:List ByteArray),0) x (i2n s0.2.1)).1))) <|
need (room (zBl (zAE s3.2.1) (zAE ((j4,zAH (⟨#[]⟩:ByteArray) ((zAH (([]:List ByteArray),0) x (i2n s0.2.1)).1) (i2n s3.1),0) :: ([]:List (Int × (ByteArray × Int)))))) 32) <|
some (.inl (zBg s3.2.1 ((j4,zAH (⟨#[]⟩:ByteArray) ((zAH (([]:List ByteArray),0) x (i2n s0.2.1)).1) (i2n s3.1),0) :: ([]:List (Int × (ByteArray × Int)))),zBg s3.2.2 (n2i (zAE s3.2.1) :: ([]:List Int))))) fun (j5:((List (Int × (ByteArray × Int))) × (List Int))) =>
some (.inl (zBA .i64 s3.1 1,j5.1,j5.2))) <|
some (.inr (.inl (s3.2.1,s3.2.2)))) (r2,s0.2.2.1,zBg ([]:List Int) (zCI s0.2.2.2 (i2n 0) (nsub (i2n r2) (i2n 0))))) fun (j6:((List (Int × (ByteArray × Int))) × (List Int))) =>
need (inL s0.2.1 (zAE x)) <|
need (inL (zCX .i64 (n2i (zAE j6.1)) 1) (zAE j6.1)) <|
need (inL s0.2.1 (zAE x)) <|
some (.inl ((zAH (([]:List ByteArray),0) x (i2n s0.2.1)).1,lset j6.1 (i2n (zCX .i64 (n2i (zAE j6.1)) 1)) ((zAH (0,(⟨#[]⟩:ByteArray),0) j6.1 (i2n (zCX .i64 (n2i (zAE j6.1)) 1))).1,((zAH (0,(⟨#[]⟩:ByteArray),0) j6.1 (i2n (zCX .i64 (n2i (zAE j6.1)) 1))).2).1,(zAH (([]:List ByteArray),0) x (i2n s0.2.1)).2),j6.2))) fun (j7:((List ByteArray) × ((List (Int × (ByteArray × Int))) × (List Int)))) =>
some (.inl (j7.1,zBA .i64 s0.2.1 1,j7.2.1,j7.2.2))) <|
some (.inr (.inl s0.2.2.1))) (([]:List ByteArray),0,([]:List (Int × (ByteArray × Int))),([]:List Int))) fun (j8:(List (Int × (ByteArray × Int)))) =>
sel (ilt 2000 (n2i (zAE j8))) (some (([]:List (Int × (ByteArray × Int))),4)) <|
some (j8,0)
def c51:Con:=⟨51,[.sl (.agg (.pr (.sl .str) (.int .i64)))],[],.tup (.pr (.sl (.agg (.pr (.int .i64) (.pr .str (.int .i64))))) (.int .i64)),[],F51,none⟩
def ok51:zAl Tryz.prog c51:=zBM zCm [c68,c73] (zAO ok68 (zAO ok73 (zBN))) c51 Tryz.f51 (.n .o (.n .o (.n .o (.n (.n .o (.jb ⟨[],[(4,.own 0)],[(0,.many (.agg (.pr (.int .i64) (.pr .str (.int .i64)))))],1,0⟩ (.l ⟨[0],[(4,.own 0),(5,.sl .str),(6,.own 2),(7,.int .i64)],[(0,.many (.agg (.pr (.int .i64) (.pr .str (.int .i64))))),(1,.gone),(2,.many (.int .i64))],3,1⟩ (.n .o (.n (.jb ⟨[0,7],[(4,.own 0),(5,.sl .str),(6,.own 2)],[(0,.many (.agg (.pr (.int .i64) (.pr .str (.int .i64))))),(1,.gone),(2,.many (.int .i64))],3,2⟩ (.n .o (.n .o (.n .o (.n .o (.n (.n .o (.jb ⟨[0,7],[(4,.own 0),(6,.own 3)],[(0,.many (.agg (.pr (.int .i64) (.pr .str (.int .i64))))),(3,.many (.int .i64))],4,3⟩ (.l ⟨[0,7],[(4,.own 0),(6,.own 4),(9,.int .i64)],[(0,.many (.agg (.pr (.int .i64) (.pr .str (.int .i64))))),(3,.gone),(4,.many (.int .i64))],5,4⟩ (.n .o (.n (.jb ⟨[0,7,9],[(4,.own 0),(6,.own 3)],[(0,.many (.agg (.pr (.int .i64) (.pr .str (.int .i64))))),(3,.many (.int .i64))],4,5⟩ (.n .o (.j ⟨[0,4,6,7,9],[(10,.int .i64)],[(3,.gone)],5,6⟩ .o .o))) .o))))) .o)))))) .o))))) .o)))) Tryz.func51
def F25 (x:(List ((List ByteArray) × Int))):(Option ((List (Int × (ByteArray × Int))) × Int)) :=
join (zBh (fun (s0:Int) =>
sel (ilt s0 (n2i (zAE x))) (need (inL s0 (zAE x)) <|
call (F49 (zAH (([]:List ByteArray),0) x (i2n s0))) fun (r1:Int) =>
sel (ine r1 0) (some (.inr (.inr (([]:List (Int × (ByteArray × Int))),r1)))) <|
some (.inl (zBA .i64 s0 1))) <|
some (.inr (.inl ()))) 0) fun (j2:PUnit) =>
join (zBh (fun (s3:((List ((List ByteArray) × Int)) × Int)) =>
sel (ilt s3.2 (n2i (zAE x))) (need (inL s3.2 (zAE x)) <|
call (F50 (s3.1,zAH (([]:List ByteArray),0) x (i2n s3.2))) fun (r4:(List ((List ByteArray) × Int))) =>
some (.inl (r4,zBA .i64 s3.2 1))) <|
some (.inr (.inl s3.1))) (([]:List ((List ByteArray) × Int)),0)) fun (j5:(List ((List ByteArray) × Int))) =>
call (F51 j5) fun (r6:((List (Int × (ByteArray × Int))) × Int)) =>
some (r6.1,r6.2)
def c25:Con:=⟨25,[.sl (.agg (.pr (.sl .str) (.int .i64)))],[],.tup (.pr (.sl (.agg (.pr (.int .i64) (.pr .str (.int .i64))))) (.int .i64)),[],F25,none⟩
def ok25:zAl Tryz.prog c25:=zBM zCm [c49,c50,c51] (zAO ok49 (zAO ok50 (zAO ok51 (zBN)))) c25 Tryz.f25 (.n .o (.n (.n .o (.jb ⟨[0],[],[],0,0⟩ (.l ⟨[0],[(4,.int .i64)],[],0,1⟩ .o))) (.n .o (.n (.n .o (.jb ⟨[],[(6,.sl (.agg (.pr (.sl .str) (.int .i64))))],[],0,2⟩ (.l ⟨[0],[(6,.sl (.agg (.pr (.sl .str) (.int .i64)))),(7,.int .i64)],[(0,.gone)],1,3⟩ .o))) .o)))) Tryz.func25
def F23 (x:(List (Int × (ByteArray × Int)))):(Option (List ((List ByteArray) × Int))) :=
call (F22 x) fun (r0:Int) =>
sel (ine r0 0) (some ([]:List ((List ByteArray) × Int))) <|
join (zBh (fun (s1:(Int × (List ((List ByteArray) × Int)))) =>
sel (ilt s1.1 (n2i (zAE x))) (join (need (inL s1.1 (zAE x)) <|
sel (ine (((zAH (0,(⟨#[]⟩:ByteArray),0) x (i2n s1.1)).2).2) 0) (need (inL s1.1 (zAE x)) <|
call (F35 (x,s1.1)) fun (r2:(List ByteArray)) =>
need (room (zBl (zAE s1.2) (zAE ((r2,((zAH (0,(⟨#[]⟩:ByteArray),0) x (i2n s1.1)).2).2) :: ([]:List ((List ByteArray) × Int))))) 32) <|
some (.inl (zBg s1.2 ((r2,((zAH (0,(⟨#[]⟩:ByteArray),0) x (i2n s1.1)).2).2) :: ([]:List ((List ByteArray) × Int)))))) <|
some (.inl s1.2)) fun (j3:(List ((List ByteArray) × Int))) =>
some (.inl (zBA .i64 s1.1 1,j3))) <|
some (.inr (.inl s1.2))) (0,([]:List ((List ByteArray) × Int)))) fun (j4:(List ((List ByteArray) × Int))) =>
some j4
def c23:Con:=⟨23,[.sl (.agg (.pr (.int .i64) (.pr .str (.int .i64))))],[],.sl (.agg (.pr (.sl .str) (.int .i64))),[],F23,none⟩
def ok23:zAl Tryz.prog c23:=zBM zCm [c22,c35] (zAO ok22 (zAO ok35 (zBN))) c23 Tryz.f23 (.n .o (.n .o (.n .o (.n (.n .o (.jb ⟨[],[(3,.own 0)],[(0,.many (.agg (.pr (.sl .str) (.int .i64))))],1,0⟩ (.l ⟨[0],[(3,.own 0),(4,.int .i64)],[(0,.many (.agg (.pr (.sl .str) (.int .i64))))],1,1⟩ (.n .o (.n (.jb ⟨[0,4],[(3,.own 0)],[(0,.many (.agg (.pr (.sl .str) (.int .i64))))],1,2⟩ (.n .o (.n (.r [0,1,2,4,5,6,7,8,3,9,10,11,12]) .o))) .o))))) .o)))) Tryz.func23
def F33 (x:(List (Int × (ByteArray × Int)))):(Option (List Int)) :=
call (F22 x) fun (r0:Int) =>
sel (ine r0 0) (some ([]:List Int)) <|
join (zBh (fun (s1:(Int × (List Int))) =>
sel (ilt s1.1 (n2i (zAE x))) (need (inL s1.1 (zAE x)) <|
need (room (zBl (zAE s1.2) (zAE (((zAH (0,(⟨#[]⟩:ByteArray),0) x (i2n s1.1)).2).2 :: ([]:List Int)))) 8) <|
some (.inl (zBA .i64 s1.1 1,zBg s1.2 (((zAH (0,(⟨#[]⟩:ByteArray),0) x (i2n s1.1)).2).2 :: ([]:List Int))))) <|
some (.inr (.inl s1.2))) (0,([]:List Int))) fun (j2:(List Int)) =>
join (zBh (fun (s3:(Int × (List Int))) =>
sel (ile 0 s3.1) (join (need (inL s3.1 (zAE x)) <|
sel (ile 0 ((zAH (0,(⟨#[]⟩:ByteArray),0) x (i2n s3.1)).1)) (need (inL s3.1 (zAE x)) <|
need (inL s3.1 (zAE x)) <|
need (inL s3.1 (zAE s3.2)) <|
need (inL ((zAH (0,(⟨#[]⟩:ByteArray),0) x (i2n s3.1)).1) (zAE s3.2)) <|
need (inL ((zAH (0,(⟨#[]⟩:ByteArray),0) x (i2n s3.1)).1) (zAE s3.2)) <|
some (.inl (lset s3.2 (i2n ((zAH (0,(⟨#[]⟩:ByteArray),0) x (i2n s3.1)).1)) (zBA .i64 (zAH 0 s3.2 (i2n ((zAH (0,(⟨#[]⟩:ByteArray),0) x (i2n s3.1)).1))) (zAH 0 s3.2 (i2n s3.1)))))) <|
some (.inl s3.2)) fun (j4:(List Int)) =>
some (.inl (zCX .i64 s3.1 1,j4))) <|
some (.inr (.inl s3.2))) (zCX .i64 (n2i (zAE x)) 1,j2)) fun (j5:(List Int)) =>
some j5
def c33:Con:=⟨33,[.sl (.agg (.pr (.int .i64) (.pr .str (.int .i64))))],[],.sl (.int .i64),[],F33,none⟩
def ok33:zAl Tryz.prog c33:=zBM zCm [c22] (zAO ok22 (zBN)) c33 Tryz.f33 (.n .o (.n .o (.n .o (.n (.n .o (.jb ⟨[0],[(3,.own 0)],[(0,.many (.int .i64))],1,0⟩ (.l ⟨[0],[(3,.own 0),(4,.int .i64)],[(0,.many (.int .i64))],1,1⟩ .o))) (.n (.n .o (.jb ⟨[3],[],[(0,.many (.int .i64))],1,2⟩ (.l ⟨[0,3],[(5,.int .i64)],[(0,.many (.int .i64))],1,3⟩ (.n .o (.n (.jb ⟨[0,3,5],[],[(0,.many (.int .i64))],1,4⟩ (.n .o (.n (.r [0,1,2,3,4,6,7,8,9,10,14,15,16,5,11,12,13,17,18,19,20]) .o))) .o))))) .o))))) Tryz.func33
def F7 (x:((List (Int × (ByteArray × Int))) × ByteArray)):(Option ((List (Int × (ByteArray × Int))) × Int)) :=
call (F22 x.1) fun (r0:Int) =>
sel (ine r0 0) (some (([]:List (Int × (ByteArray × Int))),1)) <|
call (F23 x.1) fun (r1:(List ((List ByteArray) × Int))) =>
join (zBh (fun (s2:(Int × (List ((List ByteArray) × Int)))) =>
sel (ilt s2.1 (n2i (zAE r1))) (join (need (inL s2.1 (zAE r1)) <|
call (F24 ((zAH (([]:List ByteArray),0) r1 (i2n s2.1)).1,x.2)) fun (r3:Bool) =>
sel r3 (need (inL s2.1 (zAE r1)) <|
need (room (zBl (zAE s2.2) (zAE (zAH (([]:List ByteArray),0) r1 (i2n s2.1) :: ([]:List ((List ByteArray) × Int))))) 32) <|
some (.inl (zBg s2.2 (zAH (([]:List ByteArray),0) r1 (i2n s2.1) :: ([]:List ((List ByteArray) × Int)))))) <|
some (.inl s2.2)) fun (j4:(List ((List ByteArray) × Int))) =>
some (.inl (zBA .i64 s2.1 1,j4))) <|
some (.inr (.inl s2.2))) (0,([]:List ((List ByteArray) × Int)))) fun (j5:(List ((List ByteArray) × Int))) =>
call (F25 j5) fun (r6:((List (Int × (ByteArray × Int))) × Int)) =>
some (r6.1,r6.2)
def c7:Con:=⟨7,[.sl (.agg (.pr (.int .i64) (.pr .str (.int .i64)))),.str],[],.tup (.pr (.sl (.agg (.pr (.int .i64) (.pr .str (.int .i64))))) (.int .i64)),[],F7,none⟩
def ok7:zAl Tryz.prog c7:=zBM zCm [c22,c23,c24,c25] (zAO ok22 (zAO ok23 (zAO ok24 (zAO ok25 (zBN))))) c7 Tryz.f7 (.n .o (.n .o (.n .o (.n .o (.n (.n .o (.jb ⟨[],[(6,.own 0)],[(0,.many (.agg (.pr (.sl .str) (.int .i64))))],1,0⟩ (.l ⟨[1,7],[(6,.own 0),(8,.int .i64)],[(0,.many (.agg (.pr (.sl .str) (.int .i64))))],1,1⟩ (.n .o (.n (.jb ⟨[1,7,8],[(6,.own 0)],[(0,.many (.agg (.pr (.sl .str) (.int .i64))))],1,2⟩ .o) .o))))) .o))))) Tryz.func7
def F10 (x:(List (Int × (ByteArray × Int)))):(Option ((List (Int × (ByteArray × Int))) × Int)) :=
call (F22 x) fun (r0:Int) =>
sel (ine r0 0) (some (([]:List (Int × (ByteArray × Int))),1)) <|
call (F23 x) fun (r1:(List ((List ByteArray) × Int))) =>
join (zBh (fun (s2:(Int × (List ((List ByteArray) × Int)))) =>
sel (ilt s2.1 (n2i (zAE r1))) (need (inL s2.1 (zAE r1)) <|
need (inL s2.1 (zAE r1)) <|
call (F29 ((zAH (([]:List ByteArray),0) r1 (i2n s2.1)).1)) fun (r3:(List ByteArray)) =>
need (room (zBl (zAE s2.2) (zAE ((r3,(zAH (([]:List ByteArray),0) r1 (i2n s2.1)).2) :: ([]:List ((List ByteArray) × Int))))) 32) <|
some (.inl (zBA .i64 s2.1 1,zBg s2.2 ((r3,(zAH (([]:List ByteArray),0) r1 (i2n s2.1)).2) :: ([]:List ((List ByteArray) × Int)))))) <|
some (.inr (.inl s2.2))) (0,([]:List ((List ByteArray) × Int)))) fun (j4:(List ((List ByteArray) × Int))) =>
call (F25 j4) fun (r5:((List (Int × (ByteArray × Int))) × Int)) =>
some (r5.1,r5.2)
def c10:Con:=⟨10,[.sl (.agg (.pr (.int .i64) (.pr .str (.int .i64))))],[],.tup (.pr (.sl (.agg (.pr (.int .i64) (.pr .str (.int .i64))))) (.int .i64)),[],F10,none⟩
def ok10:zAl Tryz.prog c10:=zBM zCm [c22,c23,c29,c25] (zAO ok22 (zAO ok23 (zAO ok29 (zAO ok25 (zBN))))) c10 Tryz.f10 (.n .o (.n .o (.n .o (.n .o (.n (.n .o (.jb ⟨[],[(4,.own 0)],[(0,.many (.agg (.pr (.sl .str) (.int .i64))))],1,0⟩ (.l ⟨[5],[(4,.own 0),(6,.int .i64)],[(0,.many (.agg (.pr (.sl .str) (.int .i64))))],1,1⟩ (.n .o (.n (.b (.r [0,1,2,3,4,7,8,9,10,5,11,6,12,13,14,15])) .o))))) .o))))) Tryz.func10
def F12 (x:((List (Int × (ByteArray × Int))) × Int)):(Option ((List (Int × (ByteArray × Int))) × Int)) :=
call (F22 x.1) fun (r0:Int) =>
sel (ine r0 0) (some (([]:List (Int × (ByteArray × Int))),1)) <|
call (F33 x.1) fun (r1:(List Int)) =>
join (zBh (fun (s2:(Int × (List ((List ByteArray) × Int)))) =>
sel (ilt s2.1 (n2i (zAE x.1))) (join (need (inL s2.1 (zAE x.1)) <|
call (sel (ine (((zAH (0,(⟨#[]⟩:ByteArray),0) x.1 (i2n s2.1)).2).2) 0) (F34 (x.1,r1,s2.1,x.2)) <|
some false) fun (r3:Bool) =>
sel (zAL (ine (((zAH (0,(⟨#[]⟩:ByteArray),0) x.1 (i2n s2.1)).2).2) 0) r3 false) (need (inL s2.1 (zAE x.1)) <|
call (F35 (x.1,s2.1)) fun (r4:(List ByteArray)) =>
need (room (zBl (zAE s2.2) (zAE ((r4,((zAH (0,(⟨#[]⟩:ByteArray),0) x.1 (i2n s2.1)).2).2) :: ([]:List ((List ByteArray) × Int))))) 32) <|
some (.inl (zBg s2.2 ((r4,((zAH (0,(⟨#[]⟩:ByteArray),0) x.1 (i2n s2.1)).2).2) :: ([]:List ((List ByteArray) × Int)))))) <|
some (.inl s2.2)) fun (j5:(List ((List ByteArray) × Int))) =>
some (.inl (zBA .i64 s2.1 1,j5))) <|
some (.inr (.inl s2.2))) (0,([]:List ((List ByteArray) × Int)))) fun (j6:(List ((List ByteArray) × Int))) =>
call (F25 j6) fun (r7:((List (Int × (ByteArray × Int))) × Int)) =>
some (r7.1,r7.2)
def c12:Con:=⟨12,[.sl (.agg (.pr (.int .i64) (.pr .str (.int .i64)))),.int .i64],[],.tup (.pr (.sl (.agg (.pr (.int .i64) (.pr .str (.int .i64))))) (.int .i64)),[],F12,none⟩
def ok12:zAl Tryz.prog c12:=zBM zCm [c22,c33,c34,c35,c25] (zAO ok22 (zAO ok33 (zAO ok34 (zAO ok35 (zAO ok25 (zBN)))))) c12 Tryz.f12 (.n .o (.n .o (.n .o (.n .o (.n (.n .o (.jb ⟨[],[(6,.own 0)],[(0,.many (.agg (.pr (.sl .str) (.int .i64))))],1,0⟩ (.l ⟨[0,1,7],[(6,.own 0),(8,.int .i64)],[(0,.many (.agg (.pr (.sl .str) (.int .i64))))],1,1⟩ (.n .o (.n (.jb ⟨[0,1,7,8],[(6,.own 0)],[(0,.many (.agg (.pr (.sl .str) (.int .i64))))],1,2⟩ (.n .o (.n (.r [0,1,2,4,5,6,7,8,3,9,10,11,12]) .o))) .o))))) .o))))) Tryz.func12
def F42 (x:((List (Int × (ByteArray × Int))) × ByteArray)):(Option Int) :=
call (F23 x.1) fun (r0:(List ((List ByteArray) × Int))) =>
join (zBh (fun (s1:(Int × Int)) =>
sel (ilt s1.2 (n2i (zAE r0))) (join (need (inL s1.2 (zAE r0)) <|
call (F58 ((zAH (([]:List ByteArray),0) r0 (i2n s1.2)).1,x.2)) fun (r2:Bool) =>
sel r2 (need (inL s1.2 (zAE r0)) <|
some (.inl (zBA .i64 s1.1 ((zAH (([]:List ByteArray),0) r0 (i2n s1.2)).2)))) <|
some (.inl s1.1)) fun (j3:Int) =>
some (.inl (j3,zBA .i64 s1.2 1))) <|
some (.inr (.inl s1.1))) (0,0)) fun (j4:Int) =>
some j4
def c42:Con:=⟨42,[.sl (.agg (.pr (.int .i64) (.pr .str (.int .i64)))),.str],[],.int .i64,[],F42,none⟩
def ok42:zAl Tryz.prog c42:=zBM zCm [c23,c58] (zAO ok23 (zAO ok58 (zBN))) c42 Tryz.f42 (.n .o (.n .o (.n .o (.n (.n .o (.jb ⟨[],[(5,.int .i64)],[],0,0⟩ (.l ⟨[1,6],[(5,.int .i64),(7,.int .i64)],[],0,1⟩ (.n .o (.n (.jb ⟨[1,6,7],[(5,.int .i64)],[],0,2⟩ .o) .o))))) .o)))) Tryz.func42
def F15 (x:(List (Int × (ByteArray × Int)))):(Option (List (ByteArray × (Int × Int)))) :=
call (F22 x) fun (r0:Int) =>
sel (ine r0 0) (some ([]:List (ByteArray × (Int × Int)))) <|
join (zBh (fun (s1:((List (ByteArray × (Int × Int))) × (Int × (List ByteArray)))) =>
sel (ilt s1.2.1 (n2i (zAE x))) (join (need (inL s1.2.1 (zAE x)) <|
call (F24 (s1.2.2,((zAH (0,(⟨#[]⟩:ByteArray),0) x (i2n s1.2.1)).2).1)) fun (r2:Bool) =>
sel r2 (some (.inl (s1.1,s1.2.2))) <|
need (inL s1.2.1 (zAE x)) <|
need (room (zBl (zAE s1.2.2) (zAE (((zAH (0,(⟨#[]⟩:ByteArray),0) x (i2n s1.2.1)).2).1 :: ([]:List ByteArray)))) 16) <|
need (inL s1.2.1 (zAE x)) <|
need (inL s1.2.1 (zAE x)) <|
(fun z=>both z z) <|
call (F42 (x,((zAH (0,(⟨#[]⟩:ByteArray),0) x (i2n s1.2.1)).2).1)) fun (r3:Int) =>
join (zBh (fun (s4:(Int × (ByteArray × (Int × Int)))) =>
sel (ilt s4.1 (n2i (zAE x))) (join (need (inL s4.1 (zAE x)) <|
sel (seq (((zAH (0,(⟨#[]⟩:ByteArray),0) x (i2n s4.1)).2).1) s4.2.1) (need (inL s4.1 (zAE x)) <|
some (.inl (s4.2.1,zBA .i64 s4.2.2.1 (((zAH (0,(⟨#[]⟩:ByteArray),0) x (i2n s4.1)).2).2),s4.2.2.2))) <|
some (.inl s4.2)) fun (j5:(ByteArray × (Int × Int))) =>
some (.inl (zBA .i64 s4.1 1,j5))) <|
some (.inr (.inl s4.2))) (0,((zAH (0,(⟨#[]⟩:ByteArray),0) x (i2n s1.2.1)).2).1,0,r3)) fun (j6:(ByteArray × (Int × Int))) =>
call (F43 (s1.1,j6)) fun (r7:(List (ByteArray × (Int × Int)))) =>
some (.inl (r7,zBg s1.2.2 (((zAH (0,(⟨#[]⟩:ByteArray),0) x (i2n s1.2.1)).2).1 :: ([]:List ByteArray))))) fun (j13:((List (ByteArray × (Int × Int))) × (List ByteArray))) =>
some (.inl (j13.1,zBA .i64 s1.2.1 1,j13.2))) <|
some (.inr (.inl s1.1))) (([]:List (ByteArray × (Int × Int))),0,([]:List ByteArray))) fun (j14:(List (ByteArray × (Int × Int)))) =>
some j14
def c15:Con:=⟨15,[.sl (.agg (.pr (.int .i64) (.pr .str (.int .i64))))],[],.sl (.agg (.pr .str (.pr (.int .i64) (.int .i64)))),[],F15,none⟩
def ok15:zAl Tryz.prog c15:=zBM zCm [c22,c24,c42,c43] (zAO ok22 (zAO ok24 (zAO ok42 (zAO ok43 (zBN))))) c15 Tryz.f15 (.n .o (.n .o (.n .o (.n .o (.n (.n .o (.jb ⟨[],[(3,.sl (.agg (.pr .str (.pr (.int .i64) (.int .i64)))))],[],0,0⟩ (.l ⟨[0],[(3,.sl (.agg (.pr .str (.pr (.int .i64) (.int .i64))))),(4,.own 1),(5,.int .i64)],[(0,.gone),(1,.many .str)],2,1⟩ (.n .o (.n (.jb ⟨[0,5],[(3,.sl (.agg (.pr .str (.pr (.int .i64) (.int .i64))))),(4,.own 1)],[(0,.gone),(1,.many .str)],2,2⟩ (.n .o (.n .o (.n (.rt (.o 0 (.o 1 (.o 2 (.o 3 (.o 5 (.o 6 (.o 7 (.o 8 (.o 9 (.o 4 (.o 10 (.b 11 (.o 12 (.o 13 (.o 14 .e))) 13 (.o 11 (.o 12 (.o 14 .e)))))))))))))))) (.n (.n .o (.jb ⟨[0,3,4,5,6],[],[(1,.gone),(4,.one (.agg (.pr .str (.pr (.int .i64) (.int .i64)))))],5,3⟩ (.l ⟨[0,3,4,5,6],[(7,.int .i64)],[(1,.gone),(4,.one (.agg (.pr .str (.pr (.int .i64) (.int .i64)))))],5,4⟩ (.n .o (.n (.jb ⟨[0,3,4,5,6,7],[],[(1,.gone),(4,.one (.agg (.pr .str (.pr (.int .i64) (.int .i64)))))],5,5⟩ (.n (.r [0,1,2,3,5,4,6,7]) (.n (.r [0,2,3,4,5,1,6,7,8,9]) .o))) .o))))) .o))))) .o))))) .o))))) Tryz.func15
def F3 (x:((List (Int × (ByteArray × Int))) × (ByteArray × Int))):(Option Bool) :=
call (F4 x.1) fun (r0:Bool) =>
sel r0 (call (F5 ()) fun (r1:Bool) =>
some r1) <|
call (F6 (x.1,x.2.1)) fun (r2:((List (Int × (ByteArray × Int))) × Int)) =>
call (F7 (x.1,x.2.1)) fun (r3:((List (Int × (ByteArray × Int))) × Int)) =>
call (F8 (r2.1,r3.1)) fun (r4:Bool) =>
sel (zAL (zCr r4) true (ine r2.2 r3.2)) (some false) <|
call (F9 x.1) fun (r5:((List (Int × (ByteArray × Int))) × Int)) =>
call (F10 x.1) fun (r6:((List (Int × (ByteArray × Int))) × Int)) =>
call (F8 (r5.1,r6.1)) fun (r7:Bool) =>
sel (zAL (zCr r7) true (ine r5.2 r6.2)) (some false) <|
call (F11 (x.1,x.2.2)) fun (r8:((List (Int × (ByteArray × Int))) × Int)) =>
call (F12 (x.1,x.2.2)) fun (r9:((List (Int × (ByteArray × Int))) × Int)) =>
call (F8 (r8.1,r9.1)) fun (r10:Bool) =>
call (sel (zAL r10 (ieq r8.2 r9.2) false) (F14 x.1) <|
some ([]:List (ByteArray × (Int × Int)))) fun (r11:(List (ByteArray × (Int × Int)))) =>
call (sel (zAL r10 (ieq r8.2 r9.2) false) (F15 x.1) <|
some ([]:List (ByteArray × (Int × Int)))) fun (r12:(List (ByteArray × (Int × Int)))) =>
call (sel (zAL r10 (ieq r8.2 r9.2) false) (F13 (r11,r12)) <|
some false) fun (r13:Bool) =>
call (sel (zAL (zAL r10 (ieq r8.2 r9.2) false) r13 false) (F5 ()) <|
some false) fun (r14:Bool) =>
some (zAL (zAL (zAL r10 (ieq r8.2 r9.2) false) r13 false) r14 false)
def c3:Con:=⟨3,[.sl (.agg (.pr (.int .i64) (.pr .str (.int .i64)))),.str,.int .i64],[],.bool,[],F3,none⟩
def ok3:zAl Tryz.prog c3:=zBM zCm [c4,c5,c6,c7,c8,c9,c10,c11,c12,c14,c15,c13] (zAO ok4 (zAO ok5 (zAO ok6 (zAO ok7 (zAO ok8 (zAO ok9 (zAO ok10 (zAO ok11 (zAO ok12 (zAO ok14 (zAO ok15 (zAO ok13 (zBN))))))))))))) c3 Tryz.f3 (.o) Tryz.func3
end Go.Fl
