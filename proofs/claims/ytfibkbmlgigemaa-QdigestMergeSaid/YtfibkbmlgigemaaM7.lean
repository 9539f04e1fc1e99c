/- Part 7 of what the claim leans on: QVar7, QVar8, QVar9, QVar10, QVar11, QVar12, QVar13, QVar14. -/
import Derived.Test.YtfibkbmlgigemaaM6
import Derived.Calls
import Derived.KernelRfl
import Derived.Orders
import Derived.Laws.Sem
import Derived.Laws.CopyRow
import Derived.Laws.Cells
import Derived.Room.Entries
import Derived.Lib.Overlaps
import GoSem.Conv.BytesToString
import Derived.OrdersHeld
import Derived.ProofKit
import Derived.OpenShut
import Derived.Carry
import Derived.Shelf.SlSortCmp.InsertionK
import Derived.Shelf.Sort.Plain
import Derived.Test.YtfibkbmlgigemaaProg
import Derived.Shelf.SlSortCmp.WholeK
import Derived.Ground.SlsfProg
import Derived.RangeFuncNested
import Derived.RangeFuncBound
import Derived.RangeFuncCalls
import Derived.RangeFuncLeaves
import Derived.Shelf.Abstract
import Derived.Shelf.RegionOpen
import Derived.WalkKit
import Derived.OwnWalkIn
import Derived.TacticsInMore
import Derived.LoopNIn
import Derived.LoopIn
set_option linter.unusedVariables false
set_option linter.unusedSimpArgs false
set_option linter.unusedSectionVars false
set_option maxRecDepth 100000
namespace Go.Q
open Go Go.T Go.Pl Go.Proofs Go.Proofs.Qd
def zg (x:Int):Nat:=if 0 ≤ x then (2 * x).toNat else (-2 * x - 1).toNat
def inV (x:Int):Prop:=-1152921504606846976 ≤ x ∧ x ≤ 1152921504606846976
instance (x:Int):Decidable (inV x):=by unfold inV;infer_instance
theorem vb_length:∀ {k n:Nat},n < 128 ^ (k + 1) → (vb n).length ≤ k + 1
 | 0,n,h=>by rw [vb_lt (by omega)];simp
 | k + 1,n,h=>by
   by_cases g:n < 128
   · rw [vb_lt g];simp
   · rw [vb_ge g,List.length_cons]
     have:=vb_length (k:=k) (n:=n / 128) (by rw [Nat.div_lt_iff_lt_mul (by decide)];rw [Nat.pow_succ] at h;exact h)
     omega
theorem vbI_length {n:Nat} (h:n < 18446744073709551616):(vbI n).length ≤ 10:=by
 unfold vbI;rw [List.length_map];exact vb_length (k:=9) (by omega)
theorem F87_eq (x:Int):F87 x = some (decide (inV x)):=by
 unfold F87 inV;rw [pick_and,ile_d,ile_d,← Bool.decide_and]
theorem F88_eq {x:Int} (h:inV x):F88 x = some ((zg x:Nat):Int):=by
 obtain ⟨h1,h2⟩:=h
 unfold F88 zg
 rw [ile_d,zBm]
 by_cases g:0 ≤ x
 · rw [if_pos g,if_pos g]
   have e1:zAR .u64 x = x:=zDe (by omega)
   have e2:zBx .u64 2 x = 2 * x:=zDe (by omega)
   rw [e1,e2];congr 1;omega
 · rw [if_neg g,if_neg g,ineg_ok (by omega) (by omega)]
   have e1:zAR .u64 (-x) = -x:=zDe (by omega)
   have e2:zBx .u64 2 (-x) = 2 * -x:=zDe (by omega)
   have e3:zDG .u64 (2 * -x) 1 = 2 * -x - 1:=zDe (by omega)
   rw [e1,e2,e3];congr 1;omega
theorem zg_lt {x:Int} (h:inV x):zg x < 4611686018427387904:=by
 obtain ⟨h1,h2⟩:=h
 unfold zg;split <;> omega
theorem zg_zz {n:Nat}:zg (zz (n:Int)) = n:=by
 unfold zz zg;split <;> split <;> omega
theorem sofb_app (a b:List Int):sofb (a ++ b) = scat (sofb a) (sofb b):=by
 unfold sofb scat
 apply ByteArray.ext
 rw [ByteArray.data_append]
 simp
theorem sofb_size (a:List Int):(sofb a).size = a.length:=by
 show (List.toArray _).size = _
 simp
theorem F94_eq {s:ByteArray} {x:Int} (hs:s.size ≤ 4611686018427387904):F94 (s,x) = some (if inV x then (scat s (sofb (vbI (zg x))),0) else (⟨#[]⟩,2)):=by
 unfold F94
 dsimp only
 rw [zCY,zCb,zCb,← Bool.decide_or,zBm]
 by_cases g:inV x
 · have hz:=zg_lt g
   have hl:=vbI_length (n:=zg x) (by omega)
   have hr:sroom s (sofb (vbI (zg x))) = true:=by unfold sroom;rw [sofb_size];exact decide_eq_true (by omega)
   have g':=g
   obtain ⟨g1,g2⟩:=g'
   rw [if_neg (by omega),if_pos g,zCb,zBm]
   by_cases g0:x < 0
   · have e:zDG .i64 (zBx .i64 (-2) x) 1 = ((zg x:Nat):Int):=by
       have e2:zBx .i64 (-2) x = -2 * x:=zAf (by omega) (by omega)
       rw [e2,isub_w (by omega) (by omega)];unfold zg;rw [if_neg (by omega)];omega
     rw [if_pos g0,e,zAe (F93_eq (by omega) (by omega)),zAL hr]
   · have e:zBx .i64 2 x = ((zg x:Nat):Int):=by
       have e2:zBx .i64 2 x = 2 * x:=zAf (by omega) (by omega)
       rw [e2];unfold zg;rw [if_pos (by omega)];omega
     rw [if_neg g0,e,zAe (F93_eq (by omega) (by omega)),zAL hr]
 · rw [if_neg g,if_pos (by unfold inV at g;omega)]
theorem ex_eq {α:Type} {o:Option α} {r:α} (h:∃ y,o = some y ∧ y = r):o = some r:=by
 obtain ⟨y,h1,h2⟩:=h
 exact h2 ▸ h1
def wr (l:List Int):List Int:=l.flatMap fun x=>vbI (zg x)
def AllV (l:List Int):Prop:=∀ x ∈ l,inV x
instance (l:List Int):Decidable (AllV l):=by unfold AllV;infer_instance
theorem wr_app (a b:List Int):wr (a ++ b) = wr a ++ wr b:=by unfold wr;rw [List.flatMap_append]
theorem wr_one (x:Int):wr [x] = vbI (zg x):=by simp [wr]
theorem wr_len:∀ {l:List Int},AllV l → (wr l).length ≤ 10 * l.length
 | [],_=>by simp [wr]
 | x :: l,h=>by
   have h1:=wr_len (l:=l) fun y hy=>h y (List.mem_cons_of_mem _ hy)
   have h2:=zg_lt (h x (List.mem_cons_self ..))
   have h3:=vbI_length (n:=zg x) (by omega)
   show (wr ([x] ++ l)).length ≤ _
   rw [wr_app,wr_one,List.length_append,List.length_cons];omega
theorem take_snoc {l:List Int} {i:Nat} (h:i < l.length):l.take (i + 1) = l.take i ++ [l[i]]:=(List.take_append_getElem h).symm
def wrs (l:List Int):ByteArray × Int:=if 20000 < l.length then (⟨#[]⟩,4) else if AllV l then (sofb (vbI l.length ++ wr l),0) else (⟨#[]⟩,2)
theorem F64_eq (l:List Int) (hl:l.length ≤ 1000000):F64 l = some (wrs l):=by
 unfold F64 wrs
 rw [n2i_c,zCs,zCb,zBm]
 by_cases g:20000 < l.length
 · rw [if_pos (by omega),if_pos g]
 rw [if_neg (by omega),if_neg g,show zAR .u64 (l.length:Int) = l.length from zDe (by omega)]
 have h0:=vbI_length (n:=l.length) (by omega)
 rw [zAe (F86n_eq (by omega) (by omega))]
 refine ex_eq ?_
 refine join_wf (fun s=>∃ i:Nat,s = ((i:Int),vbI l.length ++ wr (l.take i)) ∧ i ≤ l.length ∧ AllV (l.take i)) (fun s=>(l.length - s.1).toNat) (fun e=>(AllV l ∧ e = .inl (vbI l.length ++ wr l)) ∨ (¬ AllV l ∧ e = .inr (⟨#[]⟩,2))) ⟨0,by simp [wr],by omega,by simp [AllV]⟩ ?_ ?_
 · rintro _ ⟨i,rfl,hi,hv⟩
   dsimp only
   rw [zCb,zBm]
   by_cases hlt:i < l.length
   · rw [if_pos (by omega),zAL (zCa hlt),i2n_c,lget_t hlt,zAe (F87_eq _),bnot_d,← decide_not,zBm]
     by_cases hx:inV l[i]
     · left
       have hz:=zg_lt hx
       have h3:=vbI_length (n:=zg l[i]) (by omega)
       have hlen:=wr_len hv
       have htl:(l.take i).length ≤ l.length:=by rw [List.length_take];omega
       rw [if_neg (by simpa using hx),zAe (F88_eq hx),zAe (F86_eq (by omega) (by rw [List.length_append];omega)),zAl (by omega) (by omega)]
       refine ⟨_,rfl,⟨i + 1,?_,by omega,?_⟩,by dsimp only;omega⟩
       · rw [take_snoc hlt,wr_app,wr_one,List.append_assoc];rfl
       · rw [take_snoc hlt];intro y hy
         rcases List.mem_append.1 hy with h | h
         · exact hv y h
         · simp at h;subst h;exact hx
     · right
       rw [if_pos hx]
       exact ⟨_,rfl,.inr ⟨fun h=>hx (h _ (List.getElem_mem hlt)),rfl⟩⟩
   · right
     rw [if_neg (by omega)]
     have:i = l.length:=by omega
     subst this
     rw [List.take_length] at hv ⊢
     exact ⟨_,rfl,.inl ⟨hv,rfl⟩⟩
 · rintro _ (⟨hv,rfl⟩ | ⟨hv,rfl⟩)
   · rw [if_pos hv];exact ⟨_,rfl,rfl⟩
   · rw [if_neg hv];exact ⟨_,rfl,rfl⟩
theorem F67_eq (l:List Int) (hl:l.length ≤ 1000000):F67 l = some (wrs l):=by
 unfold F67 wrs
 rw [n2i_c,zCs,zCb,zBm]
 by_cases g:20000 < l.length
 · rw [if_pos (by omega),if_pos g]
 rw [if_neg (by omega),if_neg g]
 have h0:=vbI_length (n:=l.length) (by omega)
 rw [zAe (F93_eq (by omega) (by omega))]
 refine ex_eq ?_
 refine join_wf (fun s=>∃ i:Nat,s = (sofb (vbI l.length ++ wr (l.take i)),(i:Int)) ∧ i ≤ l.length ∧ AllV (l.take i)) (fun s=>(l.length - s.2).toNat) (fun e=>(AllV l ∧ e = .inl (sofb (vbI l.length ++ wr l))) ∨ (¬ AllV l ∧ e = .inr (⟨#[]⟩,2))) ⟨0,by simp [wr],by omega,by simp [AllV]⟩ ?_ ?_
 · rintro _ ⟨i,rfl,hi,hv⟩
   dsimp only
   rw [zCb,zBm]
   by_cases hlt:i < l.length
   · have hlen:=wr_len hv
     have htl:(l.take i).length ≤ l.length:=by rw [List.length_take];omega
     have hsz:(sofb (vbI l.length ++ wr (l.take i))).size ≤ 4611686018427387904:=by rw [sofb_size,List.length_append];omega
     rw [if_pos (by omega),zAL (zCa hlt),i2n_c,lget_t hlt,zAe (F94_eq hsz)]
     by_cases hx:inV l[i]
     · left
       rw [if_pos hx]
       dsimp only
       rw [zDc (show ine 0 0 = false from rfl),zAl (by omega) (by omega)]
       refine ⟨_,rfl,⟨i + 1,?_,by omega,?_⟩,by dsimp only;omega⟩
       · rw [take_snoc hlt,wr_app,wr_one,← List.append_assoc,sofb_app (vbI l.length ++ wr (l.take i))];rfl
       · rw [take_snoc hlt];intro y hy
         rcases List.mem_append.1 hy with h | h
         · exact hv y h
         · simp at h;subst h;exact hx
     · right
       rw [if_neg hx]
       dsimp only
       rw [sel_t (show ine 2 0 = true from rfl)]
       exact ⟨_,rfl,.inr ⟨fun h=>hx (h _ (List.getElem_mem hlt)),rfl⟩⟩
   · right
     rw [if_neg (by omega)]
     have:i = l.length:=by omega
     subst this
     rw [List.take_length] at hv ⊢
     exact ⟨_,rfl,.inl ⟨hv,rfl⟩⟩
 · rintro _ (⟨hv,rfl⟩ | ⟨hv,rfl⟩)
   · rw [if_pos hv];exact ⟨_,rfl,rfl⟩
   · rw [if_neg hv];exact ⟨_,rfl,rfl⟩
def flat (bits k:Int) (nodes:List Nd):List Int:=bits :: k :: nodes.flatMap fun p=>[p.1,p.2]
theorem zDm (bits k:Int):∀ (nodes:List Nd),(flat bits k nodes).length = 2 + 2 * nodes.length:=by
 intro nodes
 show (nodes.flatMap fun p=>[p.1,p.2]).length + 1 + 1 = _
 have:∀ l:List Nd,(l.flatMap fun p=>[p.1,p.2]).length = 2 * l.length:=by
   intro l
   induction l with
   | nil=>rfl
   | cons p l ih=>rw [List.flatMap_cons,List.length_append,ih,List.length_cons];simp;omega
 rw [this];omega
theorem flat_snoc (bits k:Int) (l:List Nd) (p:Nd):flat bits k (l ++ [p]) = flat bits k l ++ [p.1,p.2]:=by
 unfold flat;rw [List.flatMap_append];rfl
theorem flat_v {bits k count:Int} {nodes:List Nd} (h:zBC bits k count nodes = 0):AllV (flat bits k nodes) ∧ nodes.length ≤ 2000:=by
 obtain ⟨hb,D⟩:=dig_of h
 have w2:=D.w2;have k1:=D.k1;have k2:=D.k2;have c1:=D.c1
 refine ⟨fun x hx=>?_,D.len⟩
 unfold flat at hx
 rcases List.mem_cons.1 hx with rfl | hx
 · unfold inV;omega
 rcases List.mem_cons.1 hx with rfl | hx
 · unfold inV;omega
 obtain ⟨p,hp,hx⟩:=List.mem_flatMap.1 hx
 obtain ⟨⟨y,hy,hY⟩,h1,h2⟩:=D.node p hp
 have hlt:=hY.x2
 have hpw:2 ^ (bits.toNat + 1) ≤ 2 ^ 21:=Nat.pow_le_pow_right (by decide) (by omega)
 simp only [List.mem_cons,List.not_mem_nil,or_false] at hx
 rcases hx with rfl | rfl
 · unfold inV;omega
 · unfold inV;omega
def encd (bits k count:Int) (nodes:List Nd):ByteArray × Int:=if zBC bits k count nodes ≠ 0 then (⟨#[]⟩,1) else ((wrs (flat bits k nodes)).1,0)
theorem wrs_ok {bits k count:Int} {nodes:List Nd} (h:zBC bits k count nodes = 0):wrs (flat bits k nodes) = ((wrs (flat bits k nodes)).1,0):=by
 obtain ⟨h1,h2⟩:=flat_v h
 have:=zDm bits k nodes
 unfold wrs
 rw [if_neg (by omega),if_pos h1]
theorem takeN_snoc {l:List Nd} {i:Nat} (h:i < l.length):l.take (i + 1) = l.take i ++ [l[i]]:=(List.take_append_getElem h).symm
theorem F30_eq (bits k count:Int) (nodes:List Nd):F30 (bits,k,count,nodes) = some (encd bits k count nodes):=by
 unfold F30 encd
 rw [zAe (F20_eq bits k count nodes),ine_d,zBm]
 by_cases h:zBC bits k count nodes = 0
 rotate_left
 · rw [if_pos h,if_pos h]
 obtain ⟨hv,hl⟩:=flat_v h
 have hfl:=zDm bits k nodes
 rw [if_neg (by simpa using h),if_neg (by simpa using h)]
 dsimp only
 have e1:zBx .i64 2 (n2i (zAW nodes)) = 2 * (nodes.length:Int):=zAf (by simp only [n2i_c,zCs];omega) (by simp only [n2i_c,zCs];omega)
 rw [e1,zAl (by omega) (by omega),zAL (by simp [Go.T.mk];omega),zAL (by simp [room,zDN,zAW,lrep])]
 refine ex_eq ?_
 refine join_to nodes.length (fun i s=>s = ((i:Int),flat bits k (nodes.take i))) rfl ?_ ?_
 · rintro i _ hi rfl
   have hfi:=zDm bits k (nodes.take i)
   have htl:(nodes.take i).length ≤ 2000:=by rw [List.length_take];omega
   dsimp only
   rw [zCb,n2i_c,zCs,zBm,if_pos (by omega),zAL (zCa hi),i2n_c,lget_t hi,zAL (by simp [room,zDN,zAW];omega),zAl (by omega) (by omega)]
   exact ⟨_,rfl,by rw [takeN_snoc hi,flat_snoc];rfl⟩
 · rintro _ rfl
   dsimp only
   rw [zCb,n2i_c,zCs,zBm,if_neg (by omega)]
   refine ⟨_,rfl,?_⟩
   rw [List.take_length,zAe (F64_eq _ (by omega)),wrs_ok h]
   exact ⟨_,rfl,rfl⟩
theorem F34_eq (bits k count:Int) (nodes:List Nd):F34 (bits,k,count,nodes) = some (encd bits k count nodes):=by
 unfold F34 encd
 rw [zAe (F21_eq bits k count nodes),ine_d,zBm]
 by_cases h:zBC bits k count nodes = 0
 rotate_left
 · rw [if_pos h,if_pos h]
 obtain ⟨hv,hl⟩:=flat_v h
 have hfl:=zDm bits k nodes
 rw [if_neg (by simpa using h),if_neg (by simpa using h)]
 dsimp only
 refine ex_eq ?_
 refine join_to nodes.length (fun i s=>s = ((i:Int),flat bits k (nodes.take i))) rfl ?_ ?_
 · rintro i _ hi rfl
   have hfi:=zDm bits k (nodes.take i)
   have htl:(nodes.take i).length ≤ 2000:=by rw [List.length_take];omega
   dsimp only
   rw [zCb,n2i_c,zCs,zBm,if_pos (by omega),zAL (zCa hi),zAL (zCa hi),i2n_c,lget_t hi,zAL (by simp [room,zDN,zAW];omega),zAl (by omega) (by omega)]
   exact ⟨_,rfl,by rw [takeN_snoc hi,flat_snoc];rfl⟩
 · rintro _ rfl
   dsimp only
   rw [zCb,n2i_c,zCs,zBm,if_neg (by omega)]
   refine ⟨_,rfl,?_⟩
   rw [List.take_length,zAe (F67_eq _ (by omega)),wrs_ok h]
   exact ⟨_,rfl,rfl⟩
def dr (s:ByteArray) (i:Nat):ByteArray:=s.extract i s.size
theorem dr_byt (s:ByteArray) (i:Nat):byt (dr s i) = (byt s).drop i:=by
 unfold byt dr
 rw [ByteArray.data_extract,Array.toList_extract]
 simp
 refine List.take_of_length_le ?_
 rw [List.length_drop,List.length_map,Array.length_toList];exact Nat.le_refl _
theorem dr_size {s:ByteArray} {i:Nat} (h:i ≤ s.size):(dr s i).size = s.size - i:=by
 rw [← byt_len,dr_byt,List.length_drop,byt_len]
def rds (s:ByteArray):Nat → Nat → List Int → (List Int × Nat) ⊕ Int
 | 0,i,acc=>.inl (acc,i)
 | n + 1,i,acc=>if (rdS (dr s i)).2.2 ≠ 0 then .inr (rdS (dr s i)).2.2 else rds s n (i + (rdS (dr s i)).2.1.toNat) (acc ++ [(rdS (dr s i)).1])
theorem rdS_prop (s:ByteArray):((rdS s).2.2 = 0 ∧ 1 ≤ (rdS s).2.1 ∧ (rdS s).2.1 ≤ s.size ∧ (rdS s).2.1 ≤ 9) ∨ ((rdS s).2.2 = 11 ∨ (rdS s).2.2 = 12):=by
 unfold rdS
 rcases val_prop s with ⟨h1,h2,h3,h4,h5,h6⟩ | h | h
 · rw [if_neg (by omega)]
   split
   · exact .inr (.inr rfl)
   · exact .inl ⟨rfl,h4,h5,h6⟩
 · rw [h];exact .inr (.inl rfl)
 · rw [h];exact .inr (.inr rfl)
theorem rdU_prop (s:ByteArray):((rdU s).2.2 = 0 ∧ 0 ≤ (rdU s).1 ∧ 1 ≤ (rdU s).2.1 ∧ (rdU s).2.1 ≤ s.size) ∨ ((rdU s).2.2 = 11 ∨ (rdU s).2.2 = 12):=by
 unfold rdU
 rcases val_prop s with ⟨h1,h2,h3,h4,h5,h6⟩ | h | h
 · rw [if_neg (by omega)]
   split
   · exact .inr (.inr rfl)
   · exact .inl ⟨rfl,h2,h4,h5⟩
 · rw [h];exact .inr (.inl rfl)
 · rw [h];exact .inr (.inr rfl)
theorem byt_inj {a b:ByteArray} (h:byt a = byt b):a = b:=by
 have hm:∀ l m:List UInt8,l.map (fun b=>b.toNat) = m.map (fun b=>b.toNat) → l = m:=by
   intro l
   induction l with
   | nil=>intro m h;cases m with | nil=>rfl | cons _ _=>cases h
   | cons x l ih =>
     intro m h
     cases m with
     | nil=>cases h
     | cons y m =>
       rw [List.map_cons,List.map_cons] at h
       have h':=List.cons.inj h
       rw [UInt8.toNat_inj.1 h'.1,ih m h'.2]
 cases a with
 | mk x =>
   cases b with
   | mk y =>
     have:=hm _ _ h
     have e:x = y:=Array.toList_inj.1 this
     rw [e]
theorem dr_dr (s:ByteArray) (i j:Nat):dr (dr s i) j = dr s (i + j):=by
 apply byt_inj
 rw [dr_byt,dr_byt,dr_byt,List.drop_drop]
theorem inS_t {a:Int} {s:ByteArray} (h0:0 ≤ a) (h:a ≤ s.size):inS a (n2i (zBr s)) (zBr s) = true:=by
 show (decide (0 ≤ a) && decide (a ≤ (s.size:Int)) && decide ((s.size:Int) ≤ s.size)) = true
 rw [decide_eq_true h0,decide_eq_true h,decide_eq_true (Int.le_refl _)];rfl
def prs (s:ByteArray):List Int × Int:=if (rdU s).2.2 ≠ 0 then ([],(rdU s).2.2) else if 20000 < (rdU s).1 then ([],4) else match rds s (rdU s).1.toNat (rdU s).2.1.toNat [] with | .inr e=>([],e) | .inl r=>if r.2 ≠ s.size then ([],12) else (r.1,0)
theorem F65_eq {s:ByteArray} (hs:s.size ≤ 4611686018427387904):F65 s = some (prs s):=by
 unfold F65 prs
 rw [zAe (F89_eq hs),ine_d,zBm]
 rcases rdU_prop s with ⟨h0,h1,h2,h3⟩ | h
 rotate_left
 · rw [if_pos (by omega),if_pos (by omega)]
 rw [if_neg (by omega),if_neg (by omega),zCb,zBm]
 by_cases g:20000 < (rdU s).1
 · rw [if_pos g,if_pos g]
 rw [if_neg g,if_neg g]
 generalize (rdU s).1 = n' at h1 g ⊢
 generalize (rdU s).2.1 = i' at h2 h3 ⊢
 obtain ⟨n,rfl⟩:∃ n:Nat,n' = n:=⟨n'.toNat,by omega⟩
 obtain ⟨i0,rfl⟩:∃ n:Nat,i' = n:=⟨i'.toNat,by omega⟩
 simp only [Int.toNat_natCast]
 have hm:0 ≤ imin (n:Int) (n2i (zBr s)) ∧ imin (n:Int) (n2i (zBr s)) ≤ 20000:=by
   show 0 ≤ (if decide ((s.size:Int) < (n:Int)) then (s.size:Int) else n) ∧ (if decide ((s.size:Int) < (n:Int)) then (s.size:Int) else n) ≤ 20000
   by_cases c:(s.size:Int) < n
   · rw [if_pos (by simpa using c)];omega
   · rw [if_neg (by simpa using c)];omega
 rw [zAL (by simp [Go.T.mk];omega)]
 refine ex_eq ?_
 refine join_wf (fun st=>∃ (p j:Nat) (acc:List Int),st = ((p:Int),(j:Int),acc) ∧ p ≤ s.size ∧ j ≤ n ∧ acc.length = j ∧ rds s (n - j) p acc = rds s n i0 []) (fun st=>n - st.2.1.toNat) (fun e=>(∃ e',rds s n i0 [] = .inr e' ∧ e = .inr ([],e')) ∨ ∃ (l:List Int) (j:Nat),rds s n i0 [] = .inl (l,j) ∧ e = .inl ((j:Int),l)) ⟨i0,0,[],rfl,by omega,by omega,rfl,rfl⟩ ?_ ?_
 · rintro _ ⟨p,j,acc,rfl,hp,hj,hl,hr⟩
   dsimp only
   rw [zCb,zBm]
   by_cases hlt:j < n
   · rw [if_pos (by omega),zAL (inS_t (s:=s) (by omega) (by omega)),show ssub s (p:Int) (n2i (zBr s)) = dr s p from rfl,zAe (F90_eq (by rw [dr_size hp];omega)),ine_d,zBm]
     rw [show n - j = (n - (j + 1)) + 1 by omega,rds] at hr
     have hds:=dr_size hp
     rcases rdS_prop (dr s p) with ⟨g0,g1,g2,g3⟩ | g
     · left
       rw [if_neg (by omega)] at hr
       rw [if_neg (by omega),zAL (by simp [room,zDN,zAW];omega),zAl (by omega) (by omega),zAl (by omega) (by omega)]
       refine ⟨_,rfl,⟨p + (rdS (dr s p)).2.1.toNat,j + 1,acc ++ [(rdS (dr s p)).1],?_,by omega,by omega,by simp;omega,hr⟩,by dsimp only;omega⟩
       show _ = (((p + (rdS (dr s p)).2.1.toNat:Nat):Int),_)
       rw [show ((p + (rdS (dr s p)).2.1.toNat:Nat):Int) = (p:Int) + (rdS (dr s p)).2.1 by omega];rfl
     · right
       rw [if_pos (by omega)] at hr
       rw [if_pos (by omega)]
       exact ⟨_,rfl,.inl ⟨_,hr.symm,rfl⟩⟩
   · right
     rw [if_neg (by omega)]
     have:j = n:=by omega
     subst this
     rw [Nat.sub_self,rds] at hr
     exact ⟨_,rfl,.inr ⟨_,_,hr.symm,rfl⟩⟩
 · rintro _ (⟨e,he,rfl⟩ | ⟨l,j,he,rfl⟩)
   · rw [he];exact ⟨_,rfl,rfl⟩
   · rw [he,Sum.elim_inl,ine_d,zBm]
     dsimp only
     by_cases c:j = s.size
     · rw [if_neg (by simp [n2i_c,zBr];omega),if_neg (by omega)];exact ⟨_,rfl,rfl⟩
     · rw [if_pos (by simp [n2i_c,zBr];omega),if_pos c];exact ⟨_,rfl,rfl⟩
theorem F66_eq {s:ByteArray} (hs:s.size ≤ 4611686018427387904):F66 s = some (prs s):=by
 unfold F66 prs
 rw [zAe (F91_eq hs),ine_d,zBm]
 rcases rdU_prop s with ⟨h0,h1,h2,h3⟩ | h
 rotate_left
 · rw [if_pos (by omega),if_pos (by omega)]
 rw [if_neg (by omega),if_neg (by omega),zCb,zBm]
 by_cases g:20000 < (rdU s).1
 · rw [if_pos g,if_pos g]
 rw [if_neg g,if_neg g]
 generalize (rdU s).1 = n' at h1 g ⊢
 generalize (rdU s).2.1 = i' at h2 h3 ⊢
 obtain ⟨n,rfl⟩:∃ n:Nat,n' = n:=⟨n'.toNat,by omega⟩
 obtain ⟨i0,rfl⟩:∃ n:Nat,i' = n:=⟨i'.toNat,by omega⟩
 simp only [Int.toNat_natCast]
 rw [zAL (inS_t (s:=s) (by omega) (by omega)),show ssub s (i0:Int) (n2i (zBr s)) = dr s i0 from rfl]
 refine ex_eq ?_
 refine join_wf (fun st=>∃ (p j:Nat) (acc:List Int),st = (dr s p,(j:Int),acc) ∧ p ≤ s.size ∧ j ≤ n ∧ acc.length = j ∧ rds s (n - j) p acc = rds s n i0 []) (fun st=>n - st.2.1.toNat) (fun e=>(∃ e',rds s n i0 [] = .inr e' ∧ e = .inr ([],e')) ∨ ∃ (l:List Int) (j:Nat),j ≤ s.size ∧ rds s n i0 [] = .inl (l,j) ∧ e = .inl (dr s j,l)) ⟨i0,0,[],rfl,by omega,by omega,rfl,rfl⟩ ?_ ?_
 · rintro _ ⟨p,j,acc,rfl,hp,hj,hl,hr⟩
   dsimp only
   rw [zCb,zBm]
   by_cases hlt:j < n
   · have hds:=dr_size hp
     rw [if_pos (by omega),zAe (F92_eq (by rw [hds];omega)),ine_d,zBm]
     rw [show n - j = (n - (j + 1)) + 1 by omega,rds] at hr
     rcases rdS_prop (dr s p) with ⟨g0,g1,g2,g3⟩ | g
     · left
       rw [if_neg (by omega)] at hr
       rw [if_neg (by omega),zAL (by simp [room,zDN,zAW];omega),zAL (inS_t (s:=dr s p) (by omega) (by omega)),zAl (by omega) (by omega)]
       refine ⟨_,rfl,⟨p + (rdS (dr s p)).2.1.toNat,j + 1,acc ++ [(rdS (dr s p)).1],?_,by omega,by omega,by simp;omega,hr⟩,by dsimp only;omega⟩
       rw [← dr_dr];rfl
     · right
       rw [if_pos (by omega)] at hr
       rw [if_pos (by omega)]
       exact ⟨_,rfl,.inl ⟨_,hr.symm,rfl⟩⟩
   · right
     rw [if_neg (by omega)]
     have:j = n:=by omega
     subst this
     rw [Nat.sub_self,rds] at hr
     exact ⟨_,rfl,.inr ⟨_,_,hp,hr.symm,rfl⟩⟩
 · rintro _ (⟨e,he,rfl⟩ | ⟨l,j,hj,he,rfl⟩)
   · rw [he];exact ⟨_,rfl,rfl⟩
   · rw [he,Sum.elim_inl,zCb,zBm]
     dsimp only
     have hds:=dr_size hj
     by_cases c:j = s.size
     · rw [if_neg (show ¬ 0 < n2i (zBr (dr s j)) by show ¬ (0:Int) < (dr s j).size;omega),if_neg (by omega)];exact ⟨_,rfl,rfl⟩
     · rw [if_pos (show 0 < n2i (zBr (dr s j)) by show (0:Int) < (dr s j).size;omega),if_pos c];exact ⟨_,rfl,rfl⟩
def un:List Int → List Nd
 | a :: b :: l=>(a,b) :: un l
 | _=>[]
def cnt (l:List Nd):Int:=(l.map (·.2)).sum
theorem un_len:∀ {n:Nat} {l:List Int},l.length = 2 * n → (un l).length = n
 | 0,[],_=>rfl
 | n + 1,a :: b :: l,h=>by
   simp only [List.length_cons] at h
   rw [un,List.length_cons,un_len (n:=n) (by omega)]
 | 0,a :: l,h=>by simp at h
 | n + 1,[],h=>by simp at h
 | n + 1,[a],h=>by simp at h;omega
theorem un_get:∀ {n:Nat} {l:List Int},l.length = 2 * n → ∀ m (h:m < (un l).length),l.getD (2 * m) 0 = ((un l)[m]).1 ∧ l.getD (2 * m + 1) 0 = ((un l)[m]).2
 | 0,[],_,m,h=>by simp [un] at h
 | n + 1,a :: b :: l,h,m,hm=>by
   simp only [List.length_cons] at h
   cases m with
   | zero=>exact ⟨rfl,rfl⟩
   | succ m =>
     have hm':m < (un l).length:=by simp only [un,List.length_cons] at hm;omega
     have h2:=un_get (n:=n) (l:=l) (by omega) m hm'
     have e1:2 * (m + 1) = 2 * m + 1 + 1:=by omega
     simp only [un,List.getElem_cons_succ,e1,List.getD_cons_succ]
     exact h2
 | 0,a :: l,h,_,_=>by simp at h
 | n + 1,[],h,_,_=>by simp at h
 | n + 1,[a],h,_,_=>by simp at h;omega
theorem cnt_snoc {l:List Nd} {m:Nat} (h:m < l.length):cnt (l.take (m + 1)) = cnt (l.take m) + l[m].2:=by
 unfold cnt
 rw [takeN_snoc h,List.map_append,List.sum_append]
 simp only [List.map_cons,List.map_nil,List.sum_cons,List.sum_nil,Int.add_zero]
theorem cnt_take:∀ {l:List Nd} (m:Nat),(∀ p ∈ l,0 ≤ p.2) → 0 ≤ cnt (l.take m) ∧ cnt (l.take m) ≤ cnt l
 | [],m,_=>by simp [cnt]
 | p :: l,0,h=>by
   have h1:=cnt_take (l:=l) l.length fun q hq=>h q (List.mem_cons_of_mem _ hq)
   have h2:=h p (List.mem_cons_self ..)
   rw [List.take_length] at h1
   unfold cnt at *
   simp only [List.take_zero,List.map_nil,List.sum_nil,List.map_cons,List.sum_cons];omega
 | p :: l,m + 1,h=>by
   have h1:=cnt_take (l:=l) m fun q hq=>h q (List.mem_cons_of_mem _ hq)
   have h2:=h p (List.mem_cons_self ..)
   unfold cnt at *
   simp only [List.take_succ_cons,List.map_cons,List.sum_cons];omega
def dcd (s:ByteArray):Dg × Int:=if (prs s).2 ≠ 0 then (zDg,12) else match (prs s).1 with
 | b :: k :: l=>if l.length % 2 = 0 ∧ zBC b k (cnt (un l)) (un l) = 0 then ((b,k,cnt (un l),un l),0) else (zDg,12)
 | _=>(zDg,12)
abbrev Ac:=(Int × (Int × (Int × PUnit))) × List Nd
theorem dec_loop {b k:Int} {l:List Int} {n:Nat} (hl:l.length = 2 * n) (hn:n ≤ 1000000) {body:Int × Ac → Option ((Int × Ac) ⊕ (Ac ⊕ (Dg × Int)))} (bad:Nat → Prop)
   (hbad:∀ m (h:m < (un l).length),bad m → zBC b k (cnt (un l)) (un l) ≠ 0) (hok:∀ m (h:m < (un l).length),¬ bad m → 1 ≤ ((un l)[m]).2 ∧ ((un l)[m]).2 ≤ 1099511627776)
   (h1:∀ m (h:m < (un l).length),bad m → body (((2 + 2 * m:Nat):Int),(b,k,cnt ((un l).take m),()),(un l).take m) = some (.inr (.inr (zDg,12))))
   (h2:∀ m (h:m < (un l).length),¬ bad m → 0 ≤ cnt ((un l).take m) → cnt ((un l).take m) ≤ 1099511627776 * m → body (((2 + 2 * m:Nat):Int),(b,k,cnt ((un l).take m),()),(un l).take m) = some (.inl (((2 + 2 * (m + 1):Nat):Int),(b,k,cnt ((un l).take m) + ((un l)[m]).2,()),(un l).take m ++ [(un l)[m]])))
   (h3:body (((2 + 2 * (un l).length:Nat):Int),(b,k,cnt (un l),()),un l) = some (.inr (.inl ((b,k,cnt (un l),()),un l))))
   {K:Ac → Option (Dg × Int)} (hK:K ((b,k,cnt (un l),()),un l) = some (if zBC b k (cnt (un l)) (un l) = 0 then ((b,k,cnt (un l),un l),0) else (zDg,12))) :
   join (iter body (2,(b,k,0,()),[])) K = some (if zBC b k (cnt (un l)) (un l) = 0 then ((b,k,cnt (un l),un l),0) else (zDg,12)):=by
 refine ex_eq ?_
 refine join_wf (fun st=>∃ m:Nat,st = (((2 + 2 * m:Nat):Int),(b,k,cnt ((un l).take m),()),(un l).take m) ∧ m ≤ (un l).length ∧ 0 ≤ cnt ((un l).take m) ∧ cnt ((un l).take m) ≤ 1099511627776 * m) (fun st=>2 * (un l).length + 4 - st.1.toNat) (fun e=>(zBC b k (cnt (un l)) (un l) ≠ 0 ∧ e = .inr (zDg,12)) ∨ e = .inl ((b,k,cnt (un l),()),un l)) ⟨0,by simp [cnt],by omega,by simp [cnt],by simp [cnt]⟩ ?_ ?_
 · rintro _ ⟨m,rfl,hm,c0,c1⟩
   by_cases hlt:m < (un l).length
   · by_cases hb:bad m
     · exact .inr ⟨_,h1 m hlt hb,.inl ⟨hbad m hlt hb,rfl⟩⟩
     · have:=hok m hlt hb
       refine .inl ⟨_,h2 m hlt hb c0 c1,⟨m + 1,?_,by omega,?_,?_⟩,by dsimp only;omega⟩
       · rw [cnt_snoc hlt,takeN_snoc hlt]
       · rw [cnt_snoc hlt];omega
       · rw [cnt_snoc hlt];omega
   · have:m = (un l).length:=by omega
     subst this
     rw [List.take_length]
     exact .inr ⟨_,h3,.inr rfl⟩
 · rintro _ (⟨hq,rfl⟩ | rfl)
   · rw [if_neg hq];exact ⟨_,rfl,rfl⟩
   · exact ⟨_,hK,rfl⟩
theorem lget_pair {b k:Int} {l:List Int} {n:Nat} (hl:l.length = 2 * n) {m:Nat} (h:m < (un l).length):zAq 0 (b :: k :: l) (i2n ((2 + 2 * m:Nat):Int)) = ((un l)[m]).1 ∧ zAq 0 (b :: k :: l) (i2n ((2 + 2 * m + 1:Nat):Int)) = ((un l)[m]).2:=by
 have:=un_get hl m h
 rw [i2n_c,i2n_c]
 unfold zAq
 rw [show 2 + 2 * m = 2 * m + 1 + 1 by omega,show 2 * m + 1 + 1 + 1 = (2 * m + 1) + 1 + 1 by omega]
 simp only [List.getD_cons_succ]
 exact this
theorem irem_2 (n:Nat):irem (n:Int) 2 = ((n % 2:Nat):Int):=by
 show (n:Int).tmod 2 = _
 rw [Int.tmod_eq_emod_of_nonneg (by omega)];omega
theorem F31_eq {s:ByteArray} (hs:s.size ≤ 4611686018427387904):F31 s = some (dcd s):=by
 unfold F31 dcd
 rw [zAe (F65_eq hs)]
 generalize prs s = r
 obtain ⟨L,e⟩:=r
 dsimp only
 rw [zAL (zCh (b:=ine 2 0) fun _=>rfl)]
 simp only [zCY,ine_d,zCb,n2i_c,zCs,irem_2,← Bool.decide_or,zBm]
 by_cases he:e = 0
 rotate_left
 · rw [if_pos (.inl (.inl (.inl he))),if_pos he];rfl
 subst he
 rw [if_neg (show ¬ (0:Int) ≠ 0 by simp)]
 match L with
 | []=>rw [if_pos (by simp)];rfl
 | [_]=>rw [if_pos (by simp)];rfl
 | b :: k :: l =>
   simp only [List.length_cons]
   by_cases hpar:l.length % 2 = 0
   rotate_left
   · rw [if_pos (by omega),if_neg (by omega)];rfl
   obtain ⟨n,hl⟩:∃ n,l.length = 2 * n:=⟨l.length / 2,by omega⟩
   have hul:=un_len hl
   by_cases hbig:4002 < l.length + 2
   · rw [if_pos (by omega),if_neg (fun h=>by have:=(dig_of h.2).2.len;omega)];rfl
   rw [if_neg (by omega),zAL (by simp [inL];omega),zAL (by simp [inL];omega)]
   simp only [hpar,true_and]
   have hb0:zAq 0 (b :: k :: l) (i2n 0) = b:=rfl
   have hk0:zAq 0 (b :: k :: l) (i2n 1) = k:=rfl
   rw [hb0,hk0]
   refine dec_loop hl (by omega) (fun m=>∃ h:m < (un l).length,((un l)[m]).2 < 1 ∨ 1099511627776 < ((un l)[m]).2) ?_ ?_ ?_ ?_ ?_ ?_
   · rintro m h ⟨_,hb⟩ hq
     have D:=(dig_of hq).2
     have:=(D.node _ (List.getElem_mem h)).2
     have:=D.c1
     omega
   · intro m h hb
     have:¬ (((un l)[m]).2 < 1 ∨ 1099511627776 < ((un l)[m]).2):=fun h'=>hb ⟨h,h'⟩
     omega
   · rintro m h ⟨_,hb⟩
     obtain ⟨g1,g2⟩:=lget_pair (b:=b) (k:=k) hl h
     dsimp only
     rw [if_pos (by omega),zAl (by omega) (by omega),show (((2 + 2 * m:Nat):Int) + 1) = ((2 + 2 * m + 1:Nat):Int) by omega,g1,g2,zAL (zCa (by omega)),zAL (zCh fun _=>zCa (by omega)),if_pos hb];rfl
   · rintro m h hb c0 c1
     have hb:¬ (((un l)[m]).2 < 1 ∨ 1099511627776 < ((un l)[m]).2):=fun h'=>hb ⟨h,h'⟩
     obtain ⟨g1,g2⟩:=lget_pair (b:=b) (k:=k) hl h
     have htl:((un l).take m).length = m:=by rw [List.length_take];omega
     dsimp only
     rw [if_pos (by omega),zAl (a:=((2 + 2 * m:Nat):Int)) (b:=1) (by omega) (by omega),show (((2 + 2 * m:Nat):Int) + 1) = ((2 + 2 * m + 1:Nat):Int) by omega,g1,g2,zAL (zCa (by omega)),zAL (zCh fun _=>zCa (by omega)),if_neg hb,zAL (zCa (by omega)),zAL (zCa (by omega)),zAL (by simp [room,zDN,htl];omega),zAL (zCa (by omega)),zAl (by omega) (by omega),zAl (by omega) (by omega)]
     rfl
   · dsimp only
     rw [if_neg (by omega)]
   · dsimp only
     rw [zAe (F20_eq _ _ _ _)]
     by_cases hq:zBC b k (cnt (un l)) (un l) = 0
     · rw [if_neg (by simp [hq]),if_pos hq]
     · rw [if_pos hq,if_neg hq];rfl
theorem F33_eq {s:ByteArray} (hs:s.size ≤ 4611686018427387904) (hpl:(prs s).2 = 0 → (prs s).1.length ≤ 20000):F33 s = some (dcd s):=by
 unfold F33 dcd
 rw [zAe (F66_eq hs)]
 generalize prs s = r at hpl
 obtain ⟨L,e⟩:=r
 dsimp only at hpl ⊢
 rw [zAL (zCh (b:=ine 2 0) fun _=>rfl)]
 simp only [zCY,ine_d,ieq_d,zCb,n2i_c,zCs,irem_2,← Bool.decide_or,zBm]
 by_cases he:e = 0
 rotate_left
 · rw [if_pos (.inl (.inl he)),if_pos he];rfl
 subst he
 have hpl:=hpl rfl
 rw [if_neg (show ¬ (0:Int) ≠ 0 by simp)]
 match L,hpl with
 | [],_=>rw [if_pos (by simp)];rfl
 | [_],_=>rw [if_pos (by simp)];rfl
 | b :: k :: l,hpl =>
   simp only [List.length_cons] at hpl ⊢
   by_cases hpar:l.length % 2 = 0
   rotate_left
   · rw [if_pos (by omega),if_neg (by omega)];rfl
   obtain ⟨n,hl⟩:∃ n,l.length = 2 * n:=⟨l.length / 2,by omega⟩
   have hul:=un_len hl
   rw [if_neg (by omega),zAL (by simp [inL];omega),zAL (by simp [inL];omega)]
   simp only [hpar,true_and]
   have hb0:zAq 0 (b :: k :: l) (i2n 0) = b:=rfl
   have hk0:zAq 0 (b :: k :: l) (i2n 1) = k:=rfl
   rw [hb0,hk0]
   refine dec_loop hl (by omega) (fun m=>∃ h:m < (un l).length,(((un l)[m]).2 < 1 ∨ 1099511627776 < ((un l)[m]).2) ∨ 1099511627776 < cnt ((un l).take m)) ?_ ?_ ?_ ?_ ?_ ?_
   · rintro m h ⟨_,hb⟩ hq
     have D:=(dig_of hq).2
     have:=(D.node _ (List.getElem_mem h)).2
     have h3:=cnt_take (l:=un l) m fun p hp=>by have:=(D.node p hp).2;omega
     have:=D.c1
     omega
   · intro m h hb
     have:¬ ((((un l)[m]).2 < 1 ∨ 1099511627776 < ((un l)[m]).2) ∨ 1099511627776 < cnt ((un l).take m)):=fun h'=>hb ⟨h,h'⟩
     omega
   · rintro m h ⟨_,hb⟩
     obtain ⟨g1,g2⟩:=lget_pair (b:=b) (k:=k) hl h
     dsimp only
     rw [if_pos (by omega),zAl (by omega) (by omega),show (((2 + 2 * m:Nat):Int) + 1) = ((2 + 2 * m + 1:Nat):Int) by omega,g1,g2,zAL (zCa (by omega)),zAL (zCh fun _=>zCa (by omega)),if_pos hb];rfl
   · rintro m h hb c0 c1
     have hb:¬ ((((un l)[m]).2 < 1 ∨ 1099511627776 < ((un l)[m]).2) ∨ 1099511627776 < cnt ((un l).take m)):=fun h'=>hb ⟨h,h'⟩
     obtain ⟨g1,g2⟩:=lget_pair (b:=b) (k:=k) hl h
     have htl:((un l).take m).length = m:=by rw [List.length_take];omega
     dsimp only
     rw [if_pos (by omega),zAl (a:=((2 + 2 * m:Nat):Int)) (b:=1) (by omega) (by omega),show (((2 + 2 * m:Nat):Int) + 1) = ((2 + 2 * m + 1:Nat):Int) by omega,g1,g2,zAL (zCa (by omega)),zAL (zCh fun _=>zCa (by omega)),if_neg hb,zAL (zCa (by omega)),zAL (zCa (by omega)),zAL (by simp [room,zDN,htl];omega),zAL (zCa (by omega)),zAl (by omega) (by omega),zAl (by omega) (by omega)]
     rfl
   · dsimp only
     rw [if_neg (by omega)]
   · dsimp only
     rw [zAe (F21_eq _ _ _ _)]
     by_cases hq:zBC b k (cnt (un l)) (un l) = 0
     · rw [if_neg (by simp [hq]),if_pos hq]
     · rw [if_pos hq,if_neg hq];rfl
theorem rd_can:∀ (l:List Nat) (i v:Nat),(∀ b ∈ l,b < 256) → (rd i v l).2.2 = 0 → ∃ (n:Nat) (rest:List Nat),l = vb n ++ rest ∧ rd i v l = (((v + n * 2 ^ (7 * i):Nat):Int),((i + (vb n).length:Nat):Int),0) ∧ (n = 0 → i = 0)
 | [],i,v,_,h=>by cases h
 | b :: l,i,v,hb,h=>by
   have b0:=hb b (List.mem_cons_self ..)
   rw [rd] at h
   split at h
   · cases h
   rename_i hbad
   split at h
   · rename_i hlt
     refine ⟨b,l,by rw [vb_lt hlt];rfl,?_,by omega⟩
     rw [rd,if_neg hbad,if_pos hlt,vb_lt hlt,Nat.mod_eq_of_lt hlt];rfl
   · rename_i hge
     obtain ⟨n,rest,h1,h2,h3⟩:=rd_can l (i + 1) _ (fun c hc=>hb c (List.mem_cons_of_mem _ hc)) h
     have hn:n ≠ 0:=fun e=>by have:=h3 e;omega
     have hx:¬ (b - 128 + 128 * n) < 128:=by omega
     have ev:vb (b - 128 + 128 * n) = b :: vb n:=by
       rw [vb_ge hx,show (b - 128 + 128 * n) % 128 + 128 = b by omega,show (b - 128 + 128 * n) / 128 = n by omega]
     refine ⟨b - 128 + 128 * n,rest,by rw [ev,h1];rfl,?_,by omega⟩
     rw [rd,if_neg hbad,if_neg hge,h2,ev]
     have e2:2 ^ (7 * (i + 1)) = 128 * 2 ^ (7 * i):=by rw [show 7 * (i + 1) = 7 * i + 7 by omega,Nat.pow_add];omega
     have e3:v + b % 128 * 2 ^ (7 * i) + n * 2 ^ (7 * (i + 1)) = v + (b - 128 + 128 * n) * 2 ^ (7 * i):=by
       rw [e2,Nat.add_mul,show b % 128 = b - 128 by omega,← Nat.mul_assoc,Nat.mul_comm n 128];omega
     rw [e3,List.length_cons,show i + 1 + (vb n).length = i + ((vb n).length + 1) by omega]
def wrN (l:List Int):List Nat:=l.flatMap fun x=>vb (zg x)
theorem wrN_cons (x:Int) (l:List Int):wrN (x :: l) = vb (zg x) ++ wrN l:=List.flatMap_cons
theorem rdS_can {s:ByteArray} (h:(rdS s).2.2 = 0):inV (rdS s).1 ∧ ∃ rest,byt s = vb (zg (rdS s).1) ++ rest ∧ (rdS s).2.1 = ((vb (zg (rdS s).1)).length:Nat):=by
 unfold rdS at h ⊢
 split at h
 · rename_i g;exact absurd h g
 rename_i g
 rw [if_neg g]
 split at h
 · cases h
 rename_i g2
 rw [if_neg g2]
 have g':(rd 0 0 (byt s)).2.2 = 0:=by rw [← val_rd];simpa using g
 obtain ⟨n,rest,h1,h2,_⟩:=rd_can (byt s) 0 0 (fun b hb=>byt_lt hb) g'
 rw [← val_rd] at h2
 rw [h2] at g2 ⊢
 dsimp only at g2 ⊢
 rw [show (0 + n * 2 ^ (7 * 0)) = n by simp] at g2 ⊢
 rw [zg_zz]
 exact ⟨by unfold inV;omega,rest,h1,by omega⟩
theorem rdU_can {s:ByteArray} (h:(rdU s).2.2 = 0):∃ (n:Nat) (rest:List Nat),(rdU s).1 = n ∧ byt s = vb n ++ rest ∧ (rdU s).2.1 = ((vb n).length:Nat):=by
 unfold rdU at h ⊢
 split at h
 · rename_i g;exact absurd h g
 rename_i g
 rw [if_neg g]
 split at h
 · cases h
 rename_i g2
 rw [if_neg g2]
 have g':(rd 0 0 (byt s)).2.2 = 0:=by rw [← val_rd];simpa using g
 obtain ⟨n,rest,h1,h2,_⟩:=rd_can (byt s) 0 0 (fun b hb=>byt_lt hb) g'
 rw [← val_rd] at h2
 rw [h2]
 dsimp only
 exact ⟨n,rest,by simp,h1,by simp⟩
theorem drop_vb {l:List Nat} {i:Nat} {a rest:List Nat} (h:l.drop i = a ++ rest):l.drop (i + a.length) = rest:=by
 rw [← List.drop_drop,h,List.drop_left]
theorem rds_can {s:ByteArray}:∀ (n i:Nat) (acc:List Int) {l:List Int} {j:Nat},rds s n i acc = .inl (l,j) → ∃ l',l = acc ++ l' ∧ l'.length = n ∧ AllV l' ∧ (byt s).drop i = wrN l' ++ (byt s).drop j
 | 0,i,acc,l,j,h=>by
   rw [rds] at h
   cases h
   exact ⟨[],by simp,rfl,by simp [AllV],by simp [wrN]⟩
 | n + 1,i,acc,l,j,h=>by
   rw [rds] at h
   split at h
   · cases h
   rename_i g
   have g:(rdS (dr s i)).2.2 = 0:=by simpa using g
   obtain ⟨h1,rest,h2,h3⟩:=rdS_can g
   rw [dr_byt] at h2
   obtain ⟨l',e1,e2,e3,e4⟩:=rds_can n _ _ h
   rw [h3,Int.toNat_natCast,drop_vb h2] at e4
   refine ⟨(rdS (dr s i)).1 :: l',by rw [e1];simp,by rw [List.length_cons,e2],fun y hy=>?_,?_⟩
   · rcases List.mem_cons.1 hy with rfl | hy
     · exact h1
     · exact e3 y hy
   · rw [wrN_cons,List.append_assoc,← e4,h2]
theorem rds_err {s:ByteArray}:∀ (n i:Nat) (acc:List Int),rds s n i acc = .inr 0 → False
 | 0,i,acc,h=>by rw [rds] at h;cases h
 | n + 1,i,acc,h=>by
   rw [rds] at h
   split at h
   · rename_i g;exact g (Sum.inr.inj h)
   · exact rds_err n _ _ h
theorem vb_byte:∀ (n:Nat),∀ b ∈ vb n,b < 256:=by
 intro n
 induction n using Nat.strongRecOn with
 | _ n ih =>
   intro b hb
   by_cases h:n < 128
   · rw [vb_lt h] at hb;simp at hb;omega
   · rw [vb_ge h] at hb
     rcases List.mem_cons.1 hb with rfl | hb
     · omega
     · exact ih (n / 128) (by omega) b hb
theorem wrN_byte (l:List Int):∀ b ∈ wrN l,b < 256:=fun b hb=>by
 obtain ⟨x,_,hx⟩:=List.mem_flatMap.1 hb
 exact vb_byte _ b hx
theorem wr_wrN (l:List Int):wr l = (wrN l).map fun k:Nat=>(k:Int):=by
 unfold wr wrN vbI
 rw [List.map_flatMap]
theorem byt_sofb {l:List Nat} (h:∀ b ∈ l,b < 256):byt (sofb (l.map fun k:Nat=>(k:Int))) = l:=by
 unfold byt sofb
 simp only [List.map_map]
 refine (List.map_congr_left (g:=id) fun b hb=>?_).trans (List.map_id l)
 show (UInt8.ofNat ((b:Int).toNat)).toNat = b
 rw [Int.toNat_natCast,UInt8.toNat_ofNat']
 exact Nat.mod_eq_of_lt (h b hb)
theorem wrs_byt {l:List Int} (h:l.length ≤ 20000) (hv:AllV l):(wrs l).2 = 0 ∧ byt (wrs l).1 = vb l.length ++ wrN l:=by
 unfold wrs
 rw [if_neg (by omega),if_pos hv]
 refine ⟨rfl,?_⟩
 show byt (sofb (vbI l.length ++ wr l)) = _
 rw [wr_wrN];unfold vbI
 rw [← List.map_append]
 refine byt_sofb fun b hb=>?_
 rcases List.mem_append.1 hb with h | h
 · exact vb_byte _ b h
 · exact wrN_byte _ b h
theorem prs_can {s:ByteArray} {l:List Int} (h:prs s = (l,0)):l.length ≤ 20000 ∧ AllV l ∧ s = (wrs l).1:=by
 unfold prs at h
 split at h
 · rename_i g;exact absurd (congrArg Prod.snd h) g
 rename_i g
 split at h
 · exact absurd (congrArg Prod.snd h) (by simp)
 rename_i g2
 obtain ⟨n,rest,h1,h2,h3⟩:=rdU_can (s:=s) (by simpa using g)
 rw [h1,h3,Int.toNat_natCast,Int.toNat_natCast] at h
 rw [h1] at g2
 have hd:(byt s).drop (vb n).length = rest:=by rw [h2,List.drop_left]
 generalize hr:rds s n (vb n).length [] = r at h
 match r,h with
 | .inr e,h =>
   dsimp only at h
   exfalso
   obtain ⟨_,he⟩:=Prod.mk.inj h
   subst he
   exact rds_err n _ _ hr
 | .inl (l',j),h =>
   dsimp only at h
   split at h
   · exact absurd (congrArg Prod.snd h) (by simp)
   rename_i g3
   have g3:j = s.size:=by simpa using g3
   obtain ⟨rfl,_⟩:=Prod.mk.inj h
   obtain ⟨l2,e1,e2,e3,e4⟩:=rds_can n _ _ hr
   rw [List.nil_append] at e1
   subst e1
   rw [hd,g3,← byt_len,List.drop_length,List.append_nil] at e4
   have hl:l'.length ≤ 20000:=by omega
   refine ⟨hl,e3,byt_inj ?_⟩
   rw [(wrs_byt hl e3).2,h2,e4,e2]
theorem flat_un:∀ {n:Nat} {l:List Int},l.length = 2 * n → ((un l).flatMap fun p=>[p.1,p.2]) = l
 | 0,[],_=>rfl
 | n + 1,a :: b :: l,h=>by
   simp only [List.length_cons] at h
   rw [un,List.flatMap_cons,flat_un (n:=n) (l:=l) (by omega)];rfl
 | 0,a :: l,h=>by simp at h
 | n + 1,[],h=>by simp at h
 | n + 1,[a],h=>by simp at h;omega
theorem dcd_can (s:ByteArray):dcd s = (zDg,12) ∨ ∃ bits k count nodes,dcd s = ((bits,k,count,nodes),0) ∧ zBC bits k count nodes = 0 ∧ encd bits k count nodes = (s,0):=by
 unfold dcd
 split
 · exact .inl rfl
 rename_i g
 have g:(prs s).2 = 0:=by simpa using g
 split
 · rename_i b k l hL
   split
   · rename_i hq
     refine .inr ⟨b,k,_,_,rfl,hq.2,?_⟩
     obtain ⟨h1,h2,h3⟩:=prs_can (s:=s) (l:=b :: k :: l) (by rw [← hL,← g])
     unfold encd
     rw [if_neg (by simp [hq.2])]
     have e:flat b k (un l) = b :: k :: l:=by
       unfold flat
       rw [flat_un (n:=l.length / 2) (by omega)]
     rw [e,← h3]
   · exact .inl rfl
 · exact .inl rfl
theorem seq_self (s:ByteArray):seq s s = true:=by unfold seq;exact beq_self_eq_true _
theorem F11_d (d:Dg):F11 d = some (decide ((24:Int) < d.2.2.2.length)):=rfl
def mgf (a b:List Nd):List Nd:=b.foldl (fun l p=>ins l p.1 p.2) a
theorem mgf_snoc (a b:List Nd) (p:Nd):mgf a (b ++ [p]) = ins (mgf a b) p.1 p.2:=by
 unfold mgf;rw [List.foldl_append];rfl
theorem mgf_asc {a:List Nd} (ha:Asc a):∀ b,Asc (mgf a b):=fun b=>by
 induction b generalizing a with
 | nil=>exact ha
 | cons p b ih=>exact ih (ins_asc ha)
theorem mgf_keys (j:Int):∀ (b a:List Nd),j ∈ zBu (mgf a b) ↔ j ∈ zBu a ∨ j ∈ zBu b
 | [],a=>by simp [mgf,zBu]
 | p :: b,a=>by
   have:=mgf_keys j b (ins a p.1 p.2)
   rw [show mgf a (p :: b) = mgf (ins a p.1 p.2) b from rfl,this,keys_ins,zAu,List.mem_cons]
   constructor
   · rintro ((h | h) | h) <;> simp [h]
   · rintro (h | h | h) <;> simp [h]
theorem mgf_cn (j:Int):∀ (b a:List Nd),Asc a → Asc b → cn (mgf a b) j = cn a j + cn b j
 | [],a,_,_=>by
   show cn a j = _
   have:cn ([]:List Nd) j = 0:=by unfold cn;rw [get_nil]
   omega
 | p :: b,a,ha,hb=>by
   have hb':=(List.pairwise_cons.1 hb)
   have:=mgf_cn j b (ins a p.1 p.2) (ins_asc ha) hb'.2
   rw [show mgf a (p :: b) = mgf (ins a p.1 p.2) b from rfl,this,cn_ins j ha]
   obtain ⟨i,c⟩:=p
   dsimp only
   by_cases e:j = i
   · subst e
     have hn:j ∉ zBu b:=fun h=>by have:=asc_gt hb h;dsimp only at this;omega
     have e1:cn b j = 0:=get_out 0 hn
     have e2:cn ((j,c) :: b) j = c:=zCi ..
     rw [if_pos rfl,e1,e2];omega
   · have e2:cn ((i,c) :: b) j = cn b j:=zCF 0 e _ _
     rw [if_neg e,e2];omega
theorem mgf_len:∀ (b a:List Nd),(mgf a b).length ≤ a.length + b.length
 | [],a=>by simp [mgf]
 | p :: b,a=>by
   have h1:=mgf_len b (ins a p.1 p.2)
   have h2:=(len_ins (id:=p.1) (n:=p.2) (l:=a)).2
   rw [show mgf a (p :: b) = mgf (ins a p.1 p.2) b from rfl,List.length_cons];omega
theorem mgf_mg {a b:List Nd} (ha:Asc a) (hb:Asc b):mgf a b = mg a b :=
 asc_ext (mgf_asc ha b) (mg_asc a b ha hb) (fun j=>by rw [mgf_keys,mg_keys]) (fun j=>by rw [mgf_cn j b a ha hb,mg_cn j a b ha hb])
theorem cn_b {C:Int} (hC:0 ≤ C) (j:Int):∀ {l:List Nd},(∀ p ∈ l,0 ≤ p.2 ∧ p.2 ≤ C) → 0 ≤ cn l j ∧ cn l j ≤ C
 | [],_=>by
   have:cn ([]:List Nd) j = 0:=by unfold cn;rw [get_nil]
   omega
 | p :: l,h=>by
   have h1:=cn_b hC j (l:=l) fun q hq=>h q (List.mem_cons_of_mem _ hq)
   have h2:=h p (List.mem_cons_self ..)
   obtain ⟨i,c⟩:=p
   by_cases e:j = i
   · subst e
     have e2:cn ((j,c) :: l) j = c:=zCi ..
     rw [e2];exact h2
   · have e2:cn ((i,c) :: l) j = cn l j:=zCF 0 e _ _
     rw [e2];exact h1
theorem mgf_b {a b:List Nd} (ha:Asc a) (hb:Asc b) (hA:∀ p ∈ a,0 ≤ p.2 ∧ p.2 ≤ 1099511627776) (hB:∀ p ∈ b,0 ≤ p.2 ∧ p.2 ≤ 1099511627776):∀ p ∈ mgf a b,0 ≤ p.2 ∧ p.2 ≤ 4398046511104:=fun p hp=>by
 have h1:=cn_at (asc_nodup (mgf_asc ha b)) hp
 rw [mgf_cn p.1 b a ha hb] at h1
 have h2:=cn_b (by omega) p.1 hA
 have h3:=cn_b (by omega) p.1 hB
 omega
def mrgd (d e:Dg):Dg × Int :=
 if zBC d.1 d.2.1 d.2.2.1 d.2.2.2 ≠ 0 ∨ zBC e.1 e.2.1 e.2.2.1 e.2.2.2 ≠ 0 then (zDg,1)
 else if d.1 ≠ e.1 ∨ d.2.1 ≠ e.2.1 then (zDg,10)
 else if 1099511627776 < d.2.2.1 + e.2.2.1 ∨ 2000 < (mg d.2.2.2 e.2.2.2).length then (zDg,4)
 else ((d.1,d.2.1,d.2.2.1 + e.2.2.1,mg d.2.2.2 e.2.2.2),0)
theorem F29_eq (d e:Dg):F29 (d,e) = some (mrgd d e):=by
 obtain ⟨b1,k1,c1,n1⟩:=d
 obtain ⟨b2,k2,c2,n2⟩:=e
 unfold mrgd
 dsimp only
 by_cases h:zBC b1 k1 c1 n1 = 0 ∧ zBC b2 k2 c2 n2 = 0 ∧ b1 = b2 ∧ k1 = k2 ∧ c1 + c2 ≤ 1099511627776
 · obtain ⟨q1,q2,rfl,rfl,hc⟩:=h
   obtain ⟨hb,A⟩:=dig_of q1
   obtain ⟨_,B⟩:=dig_of q2
   have:=F29_ok A B hc
   rw [← hb] at this
   rw [this,if_neg (show ¬ (zBC b1 k1 c1 n1 ≠ 0 ∨ zBC b1 k1 c2 n2 ≠ 0) by simp [q1,q2]),if_neg (show ¬ (b1 ≠ b1 ∨ k1 ≠ k1) by simp)]
   by_cases g:2000 < (mg n1 n2).length
   · rw [if_pos g,if_pos (.inr g)];rfl
   · rw [if_neg g,if_neg (by omega)]
 unfold F29
 dsimp only
 rw [zAe (F20_eq b1 k1 c1 n1),ine_d]
 by_cases q1:zBC b1 k1 c1 n1 = 0
 rotate_left
 · rw [zAe (show sel (zDa (decide (zBC b1 k1 c1 n1 ≠ 0))) (F20 (b2,k2,c2,n2)) (some 0) = some 0 from zDc (by simp [q1,zDa])),sel_t (by simp [zCY,q1]),if_pos (.inl q1)];rfl
 rw [zAe (show sel (zDa (decide (zBC b1 k1 c1 n1 ≠ 0))) (F20 (b2,k2,c2,n2)) (some 0) = some (zBC b2 k2 c2 n2) from (sel_t (by simp [q1,zDa])).trans (F20_eq ..)),zCY,ine_d,← Bool.decide_or,zBm]
 by_cases q2:zBC b2 k2 c2 n2 = 0
 rotate_left
 · rw [if_pos (.inr q2),if_pos (.inr q2)];rfl
 rw [if_neg (by simp [q1,q2]),if_neg (by simp [q1,q2]),zCY,ine_d,ine_d,← Bool.decide_or,zBm]
 by_cases q3:b1 ≠ b2 ∨ k1 ≠ k2
 · rw [if_pos q3,if_pos q3];rfl
 rw [if_neg q3,if_neg q3]
 have hc:1099511627776 < c1 + c2:=by
   refine Int.not_le.1 fun hc=>h ⟨q1,q2,?_,?_,hc⟩ <;> omega
 have A:=(dig_of q1).2
 have B:=(dig_of q2).2
 have a0:=A.c0;have a1:=A.c1;have b0:=B.c0;have b1:=B.c1
 rw [isub_s (by omega) (by omega),zCb,sel_t (by simp;omega),if_pos (.inl hc)];rfl
theorem F32_eq (d e:Dg):F32 (d,e) = some (mrgd d e):=by
 obtain ⟨b1,k1,c1,n1⟩:=d
 obtain ⟨b2,k2,c2,n2⟩:=e
 unfold mrgd F32
 dsimp only
 rw [zAe (F21_eq b1 k1 c1 n1),ine_d]
 by_cases q1:zBC b1 k1 c1 n1 = 0
 rotate_left
 · rw [zAe (show sel (zDa (decide (zBC b1 k1 c1 n1 ≠ 0))) (F21 (b2,k2,c2,n2)) (some 0) = some 0 from zDc (by simp [q1,zDa])),sel_t (by simp [zCY,q1]),if_pos (.inl q1)];rfl
 rw [zAe (show sel (zDa (decide (zBC b1 k1 c1 n1 ≠ 0))) (F21 (b2,k2,c2,n2)) (some 0) = some (zBC b2 k2 c2 n2) from (sel_t (by simp [q1,zDa])).trans (F21_eq ..)),zCY,ine_d,← Bool.decide_or,zBm]
 by_cases q2:zBC b2 k2 c2 n2 = 0
 rotate_left
 · rw [if_pos (.inr q2),if_pos (.inr q2)];rfl
 rw [if_neg (by simp [q1,q2]),if_neg (by simp [q1,q2]),zCY,ine_d,ine_d,← Bool.decide_or,zBm]
 by_cases q3:b1 ≠ b2 ∨ k1 ≠ k2
 · rw [if_pos q3,if_pos q3];rfl
 rw [if_neg q3,if_neg q3]
 have A:=(dig_of q1).2
 have B:=(dig_of q2).2
 have a0:=A.c0;have a1:=A.c1;have b0:=B.c0;have b1':=B.c1;have la:=A.len;have lb:=B.len
 have hA:∀ p ∈ n1,0 ≤ p.2 ∧ p.2 ≤ 1099511627776:=fun p hp=>by have:=(A.node p hp).2;omega
 have hB:∀ p ∈ n2,0 ≤ p.2 ∧ p.2 ≤ 1099511627776:=fun p hp=>by have:=(B.node p hp).2;omega
 rw [zAL (by simp [room,zDN,zAW];omega)]
 refine ex_some ?_
 refine join_to n2.length (fun i s=>s = (mgf n1 (n2.take i),(i:Int))) rfl ?_ ?_
 · rintro i _ hi rfl
   have hB':∀ p ∈ n2.take i,0 ≤ p.2 ∧ p.2 ≤ 1099511627776:=fun p hp=>hB p (List.mem_of_mem_take hp)
   have hb':Asc (n2.take i):=List.Pairwise.sublist (List.take_sublist ..) B.asc
   have hml:=mgf_len (n2.take i) n1
   have htl:(n2.take i).length ≤ n2.length:=by rw [List.length_take];omega
   have hpi:=hB n2[i] (List.getElem_mem hi)
   dsimp only
   rw [zCb,n2i_c,zCs,zBm,if_pos (by omega),zAL (zCa hi),zAL (zCa hi),i2n_c,lget_t hi,zAe (F45_eq (by omega) (mgf_b A.asc hb' hA hB') ⟨hpi.1,by omega⟩),zAl (by omega) (by omega)]
   exact ⟨_,rfl,by rw [takeN_snoc hi,mgf_snoc];rfl⟩
 · rintro _ rfl
   dsimp only
   rw [zCb,n2i_c,zCs,zBm,if_neg (by omega)]
   refine ⟨_,rfl,?_⟩
   rw [List.take_length,mgf_mg A.asc B.asc]
   rw [zAl (by omega) (by omega)]
   unfold F44
   dsimp only
   rw [zCY,zCb,zCb,← Bool.decide_or,zBm,n2i_c,zCs]
   by_cases g:1099511627776 < c1 + c2 ∨ 2000 < (mg n1 n2).length
   · rw [if_pos (by omega),if_pos g];exact ⟨_,rfl,rfl⟩
   · rw [if_neg (by omega),if_neg g];exact ⟨_,rfl,rfl⟩
theorem mrgd_len (d e:Dg):(mrgd d e).1.2.2.2.length ≤ 1000000:=by
 unfold mrgd
 split
 · simp [zDg]
 split
 · simp [zDg]
 split
 · simp [zDg]
 · show (mg d.2.2.2 e.2.2.2).length ≤ _;omega
theorem dcd_len (s:ByteArray):(dcd s).1.2.2.2.length ≤ 1000000:=by
 rcases dcd_can s with h | ⟨b,k,c,n,h,hq,_⟩
 · rw [h];simp [zDg]
 · rw [h]
   have:=(flat_v hq).2
   show n.length ≤ _;omega
theorem law9 (bits k count:Int) (nodes:List Nd) (e:Dg) (s:ByteArray):F9 ((bits,k,count,nodes),e,s) = some true:=by
 unfold F9
 dsimp only
 rw [zAe (F11_d _)]
 have h1:∃ r1,sel (zDa (decide ((24:Int) < nodes.length))) (F11 e) (some false) = some r1:=by
   by_cases h:(24:Int) < nodes.length
   · exact ⟨false,zDc (by simp [zDa,h])⟩
   · exact ⟨_,(sel_t (by simp [zDa,h])).trans (F11_d e)⟩
 obtain ⟨r1,h1⟩:=h1
 rw [zAe h1]
 dsimp only
 by_cases g:zAJ (zAJ (decide ((24:Int) < nodes.length)) true r1) true (ilt 300 (n2i (zBr s))) = true
 · rw [sel_t g,zAe awake]
 rw [zDc (by simpa using g)]
 have hs:s.size ≤ 300:=by
   rw [zCY,zCb] at g
   have:¬ (300:Int) < s.size:=fun h=>g (by
     have:decide ((300:Int) < n2i (zBr s)) = true:=decide_eq_true h
     rw [this,Bool.or_true])
   omega
 rw [zAe (F29_eq _ e),zAe (F32_eq _ e),zAe (F15_same _ (mrgd_len _ e)),zDc (by rw [zCY,ine_d];simp [zDa])]
 rw [zAe (F31_eq (by omega)),zAe (F33_eq (by omega) fun h=>(prs_can (s:=s) (l:=(prs s).1) (by rw [← h])).1),zAe (F30_eq bits k count nodes),zAe (F34_eq bits k count nodes),zAe (F15_same _ (dcd_len s))]
 have ei:∀ x:Int,ieq x x = true:=fun x=>by rw [ieq_d];simp
 simp only [ei,seq_self]
 rw [zAe (a:=true) ((sel_t (show zAJ (zAJ (zAJ true true false) true false) true false = true from rfl)).trans awake)]
 rfl
end Go.Q
