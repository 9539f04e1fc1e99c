/- Part 5 of what the claim leans on: TRead, TLaw, TArgs, TSpec, TSort, TPlain, TIter, FT, FMix, FF0, FFo, FTrS, FTrA, FIter, FSorted, FAddS, FAdd, FVisS, FVisA. -/
import Derived.Test.YtbhcfbnkdbioaaaM4
import Derived.Calls
import Derived.KernelRfl
import Derived.Orders
import Derived.Laws.Sem
import Derived.Laws.CopyRow
import Derived.Laws.Cells
import Derived.Room.Entries
import Derived.Lib.Overlaps
import GoSem.Conv.BytesToString
import Derived.OrdersHeld
import Derived.ProofKit
import Derived.OpenShut
import Derived.Carry
import Derived.Shelf.SlSortCmp.InsertionK
import Derived.Test.YtbhcfbnkdbioaaaProg
import Derived.Sort.Walk0
import Derived.Shelf.SlIter.Nil
import Derived.Shelf.SortM.Plain
import Derived.Shelf.SortM.SortNone
import Derived.Ground.GgzProg
import Derived.Ground.SlgmProg
set_option linter.unusedVariables false
set_option linter.unusedSimpArgs false
set_option linter.unusedSectionVars false
namespace Go.T
open Go.Ab
variable [Go.Ab.DM]
def InR:(t:Ty) → t.I → Prop
 | .int k,n=>(Lit.int k n).wf = true
 | .str,s=>ByteArray.size s ≤ maxLen
 | .pr a b,x=>InR a x.1 ∧ InR b x.2
 | .agg s,x=>InR s x
 | .sl t,l=>List.length (α:=t.I) l ≤ maxLen ∧ ∀ x:t.I,List.Mem x l → InR t x
 | _,_=>True
def InV (v:TV):Prop:=InR v.t v.x
theorem in_leaves:∀ (s:Ty) (x:s.I),InR s x ↔ ∀ v ∈ zAI s x,InV v:=by
 intro s
 induction s with
 | pr a b iha ihb =>
   intro x
   show InR a x.1 ∧ InR b x.2 ↔ _
   simp only [zAI,List.forall_mem_cons]
   rw [← ihb x.2];rfl
 | unit=>intro x;simp [zAI,InR]
 | _=>intro x;simp [zAI,InV]
theorem in_lf (v:TV) (h:InV v):InV v.lf:=by
 obtain ⟨t,x⟩:=v
 cases t <;> first | exact h | trivial
theorem in_spine:∀ l:List TV,(∀ v ∈ l,InV v) → InV (zDL l)
 | [],_=>trivial
 | [v],h=>in_lf v (h v (by simp))
 | v :: w :: r,h=>⟨h v (by simp),in_spine (w :: r) fun u hu=>h u (List.mem_cons_of_mem _ hu)⟩
theorem spine_t:∀ l:List TV,(∀ v ∈ l,v.t.sp = false) → (zDL l).t = zAX (l.map (·.t))
 | [],_=>rfl
 | [v],h=>by
   have:=h v (by simp)
   obtain ⟨t,x⟩:=v
   cases t <;> first | rfl | (simp [Ty.sp] at this;done)
 | v :: w :: r,h=>by
   have:=spine_t (w :: r) fun u hu=>h u (List.mem_cons_of_mem _ hu)
   show Ty.pr v.t (zDL (w :: r)).t = _
   rw [this];rfl
def Ty.fl:Ty → List Ty | .agg s=>s.flat | T=>[T]
def fldT (P:Program) (go:TypeId → Option Ty):List Field → Nat → Option (List Ty)
 | [],_=>some []
 | f :: fs,off=>bif Nat.beq f.offset off then (match go f.type,fldT P go fs (off + P.cellsOf f.type) with
   | some (.agg s),some l=>bif Nat.beq (P.cellsOf f.type) s.flat.length then some (s.flat ++ l) else none
   | some u,some l=>bif Nat.beq (P.cellsOf f.type) 1 then some (u :: l) else none
   | _,_=>none) else none
def arrT:Nat → List Ty → List Ty
 | 0,_=>[]
 | n + 1,l=>l ++ arrT n l
def rdT (P:Program):Nat → TypeId → Option Ty
 | 0,_=>none
 | n + 1,t=>match P.underlying t with
   | some (.int k)=>some (.int k)
   | some .bool=>some .bool
   | some .string=>some .str
   | some (.slice e)=>(match rdT P n e with
     | some u=>bif u.elem && Nat.beq (P.cellsOf e) u.w && !(Nat.beq u.w 0) then some (.sl u) else none
     | none=>none)
   | some (.struct fs)=>(match fldT P (rdT P n) fs.toList 0 with
     | some l=>bif Nat.beq l.length (P.cellsOf t) && l.all (fun u=>!u.sp) then some (.agg (zAX l)) else none
     | none=>none)
   | some (.array k e)=>(match rdT P n e with
     | some (.agg s)=>bif Nat.beq (P.cellsOf e) s.flat.length && Nat.beq (P.cellsOf t) (k * P.cellsOf e) && s.flat.all (fun u=>!u.sp) then some (.agg (zAX (arrT k s.flat))) else none
     | some u=>bif Nat.beq (P.cellsOf e) 1 && Nat.beq (P.cellsOf t) k && !u.sp then some (.agg (zAX (arrT k [u]))) else none
     | none=>none)
   | _=>none
theorem flat_leaves:∀ (s:Ty) (x:s.I),(zAI s x).map (·.t) = s.flat:=by
 intro s
 induction s with
 | pr a b iha ihb=>intro x;simp only [zAI,Ty.flat,List.map_cons,ihb]
 | _=>intro x;rfl
section
variable {P:Program} {w:World} {own:Nat → Own} {H:Type} {enc':TypeId × Value → H} {spare:Nat → Bool} {held:Bool}
def ToldC (w:World) (own:Nat → Own) (T:Ty) (cs:List Value):Prop:=∃ v:TV,v.t = T ∧ InV v ∧ VRels own (fun b=>b < w.heap.size) w 0 (enc zCt v).cells cs
theorem kids_cells (v:TV):(enc zCt v).cells = (zAs v).map (enc zCt):=by
 obtain ⟨t,x⟩:=v
 cases t <;> first | rfl | skip
 rename_i s
 exact E_leaves s zCt x
theorem told_agg {l:List Ty} {cs:List Value} (hsp:∀ u ∈ l,u.sp = false) (h:∃ vs:List TV,vs.map (·.t) = l ∧ (∀ v ∈ vs,InV v) ∧ VRels own (fun b=>b < w.heap.size) w 0 (vs.map (enc zCt)) cs):ToldC w own (.agg (zAX l)) cs:=by
 obtain ⟨vs,h1,h2,h3⟩:=h
 refine ⟨aggV vs,?_,in_spine vs h2,?_⟩
 · show Ty.agg (zDL vs).t = _
   rw [spine_t vs fun v hv=>hsp _ (by rw [← h1];exact List.mem_map_of_mem hv),h1]
 · rw [enc_agg];exact h3
theorem told_leaves {T:Ty} {cs:List Value} (h:ToldC w own T cs):∃ vs:List TV,vs.map (·.t) = T.fl ∧ (∀ v ∈ vs,InV v) ∧ VRels own (fun b=>b < w.heap.size) w 0 (vs.map (enc zCt)) cs:=by
 obtain ⟨⟨t,x⟩,rfl,h2,h3⟩:=h
 rw [kids_cells] at h3
 have lf:∀ {v:TV},zAs v = [v] → v.t.fl = [v.t] → InV v → VRels own (fun b=>b < w.heap.size) w 0 ((zAs v).map (enc zCt)) cs → ∃ vs:List TV,vs.map (·.t) = v.t.fl ∧ (∀ v ∈ vs,InV v) ∧ VRels own (fun b=>b < w.heap.size) w 0 (vs.map (enc zCt)) cs:=fun {v} g1 g2 g3 g4=>⟨[v],g2.symm,by simpa using g3,by rw [g1] at g4;exact g4⟩
 cases t with
 | agg s=>exact ⟨zAI s x,flat_leaves s x,(in_leaves s x).1 h2,h3⟩
 | _=>exact lf rfl rfl h2 h3
theorem reads:∀ (n:Nat) (t:TypeId) (T:Ty),rdT P n t = some T → ∀ (fuel:Nat) (cs:List Value) (x:DataW H × List MemPlace),DataW.trod enc' P w 0 spare held fuel t cs = some x → ToldC w own T cs
 | 0,t,T,h=>by cases h
 | n + 1,t,T,h=>by
   intro fuel cs x hx
   simp only [rdT] at h
   split at h
   · rename_i k hu
     have:=Option.some.inj h;subst this
     obtain ⟨m,rfl,_,hw⟩:=DataW.trod_int hu hx
     exact ⟨⟨.int k,m⟩,rfl,hw,by simp [enc,E,D.cells,VRels,VRel]⟩
   · rename_i hu
     have:=Option.some.inj h;subst this
     obtain ⟨b,rfl,_⟩:=DataW.trod_bool hu hx
     exact ⟨⟨.bool,b⟩,rfl,trivial,by simp [enc,E,D.cells,VRels,VRel]⟩
   · rename_i hu
     have:=Option.some.inj h;subst this
     obtain ⟨s,rfl,_,hs⟩:=DataW.trod_string hu hx
     exact ⟨⟨.str,s⟩,rfl,hs,by simp [enc,E,D.cells,VRels,VRel]⟩
   · rename_i e hu
     split at h
     rotate_left
     · cases h
     rename_i u he
     obtain ⟨hb,h⟩:=zAa h
     have:=Option.some.inj h;subst this
     simp only [Bool.and_eq_true,Nat.beq_eq,Bool.not_eq_true'] at hb
     obtain ⟨⟨hel,hcl⟩,hw0⟩:=hb
     have hw0:u.w ≠ 0:=fun h0=>by rw [h0] at hw0;cases hw0
     rcases DataW.trod_slice hu hx with ⟨rfl,_⟩ | ⟨a,len,cap,elems,rest,m,_,rfl,_,_,hlc,hcm,hlen,hels,_,_⟩
     · refine ⟨⟨.sl u,([]:List u.I)⟩,rfl,⟨Nat.zero_le _,fun x hx=>(by cases hx)⟩,?_⟩
       show VRels own _ w 0 [.fz u.w []] _
       simp only [VRels]
       refine ⟨_,[],rfl,?_,rfl⟩
       rw [VRel]
       exact ⟨none,0,rfl,Nat.le_refl _,fun h=>absurd rfl h⟩
     · -- the elements
       have hall:∀ i,i < len → ∃ (y:u.I) (cs':List Value),InR u y ∧ w.cells? 0 (a.add (i * u.w)) u.w = some cs' ∧ VRels own (fun b=>b < w.heap.size) w 0 (e0 u y).cells cs':=fun i hi=>by
         have h1:=hels i hi
         have h2:∃ z,elems[i]? = some z:=⟨elems[i],by simp [hlen ▸ hi]⟩
         obtain ⟨z,hz⟩:=h2
         rw [hz,Option.bind_eq_some_iff] at h1
         obtain ⟨cs',h3,h4⟩:=h1
         obtain ⟨⟨t',y⟩,rfl,h5,h6⟩:=reads n e u he m cs' z h4
         rw [hcl] at h3
         exact ⟨y,cs',h5,h3,h6⟩
       have hlist:∀ k,k ≤ len → ∃ l:List u.I,l.length = k ∧ (∀ y ∈ l,InR u y) ∧ ∀ i (hi:i < l.length),∃ cs',w.cells? 0 (a.add (i * u.w)) u.w = some cs' ∧ VRels own (fun b=>b < w.heap.size) w 0 (e0 u l[i]).cells cs':=by
         intro k
         induction k with
         | zero=>intro _;exact ⟨[],rfl,by simp,by simp⟩
         | succ k ih =>
           intro hk
           obtain ⟨l,h1,h2,h3⟩:=ih (by omega)
           obtain ⟨y,cs',h4,h5,h6⟩:=hall k (by omega)
           refine ⟨l ++ [y],by simp [h1],fun z hz=>?_,fun i hi=>?_⟩
           · rcases List.mem_append.1 hz with hz | hz
             · exact h2 z hz
             · rw [List.mem_singleton] at hz;subst hz;exact h4
           · by_cases hil:i < l.length
             · rw [List.getElem_append_left hil];exact h3 i hil
             · have hik:i = k:=by simp at hi;omega
               subst hik
               refine ⟨cs',h5,?_⟩
               rw [List.getElem_append_right (by omega)]
               simpa using h6
       obtain ⟨l,h1,h2,h3⟩:=hlist len (Nat.le_refl _)
       refine ⟨⟨.sl u,l⟩,rfl,⟨by show List.length l ≤ _;omega,h2⟩,?_⟩
       show VRels own _ w 0 [.fz u.w (l.map (e0 u))] _
       simp only [VRels]
       refine ⟨_,[],rfl,?_,rfl⟩
       rw [VRel,List.length_map,h1]
       refine ⟨some a,cap,rfl,hlc,fun h0=>?_⟩
       obtain ⟨b,off,spot⟩:=a
       obtain ⟨cs0,h4,_⟩:=h3 0 (by omega)
       obtain ⟨_,hl4,hc4⟩:=World.cells?_some h4
       have hc5:=hc4 0 (by omega)
       have hcs0:cs0[0]? = some cs0[0]:=by simp
       rw [hcs0] at hc5
       have hspot:spot = none ∧ b < w.heap.size:=by
         have e0:((⟨b,off,spot⟩:Addr).add (0 * u.w)).add 0 = ⟨b,off,spot⟩:=by simp [Addr.add]
         rw [e0] at hc5
         unfold World.cell? at hc5
         cases hb:w.heap[b]? with
         | none=>simp only [hb] at hc5;cases hc5
         | some o =>
           have hlt:b < w.heap.size:=by
             rcases Nat.lt_or_ge b w.heap.size with h | h
             · exact h
             · rw [Array.getElem?_eq_none h] at hb;cases hb
           refine ⟨?_,hlt⟩
           simp only [hb] at hc5
           cases spot with
           | none=>rfl
           | some z=>cases o <;> simp at hc5
       obtain ⟨rfl,hbl⟩:=hspot
       refine ⟨b,off,rfl,hbl,?_⟩
       have hcells:∀ (l':List u.I) (j:Nat),(∀ i (hi:i < l'.length),∃ cs',w.cells? 0 ⟨b,off + (j + i) * u.w,none⟩ u.w = some cs' ∧ VRels own (fun b=>b < w.heap.size) w 0 (e0 u l'[i]).cells cs') → Cells own (fun b=>b < w.heap.size) w 0 u.w (l'.map (e0 u)) b (off + j * u.w):=by
         intro l'
         induction l' with
         | nil=>intro j _;simp [Cells]
         | cons y l' ih =>
           intro j hh
           rw [List.map_cons,Cells,zCU]
           refine ⟨⟨?_,?_⟩,?_⟩
           · rw [← D.width_eq];exact elem_width hel zCt y
           · obtain ⟨cs',k1,k2⟩:=hh 0 (by simp)
             obtain ⟨_,k3,k4⟩:=World.cells?_some k1
             rw [Flat_values]
             refine ⟨elem_cells hel zCt y,cs',by simpa using k2,fun i hi=>?_⟩
             have:=k4 i (by omega)
             rw [zCV] at this
             simpa using this
           · have:=ih (j + 1) fun i hi=>by
               obtain ⟨cs',k1,k2⟩:=hh (i + 1) (by simpa using hi)
               refine ⟨cs',by rw [show j + 1 + i = j + (i + 1) by omega];exact k1,by simpa using k2⟩
             rw [Nat.add_mul,Nat.one_mul,← Nat.add_assoc] at this
             exact this
       have:=hcells l 0 fun i hi=>by
         obtain ⟨cs',k1,k2⟩:=h3 i hi
         exact ⟨cs',by rw [Nat.zero_add,← zCV];exact k1,k2⟩
       simpa using this
   · rename_i fs hu
     split at h
     rotate_left
     · cases h
     rename_i l hl
     obtain ⟨hb,h⟩:=zAa h
     have:=Option.some.inj h;subst this
     simp only [Bool.and_eq_true,Nat.beq_eq,List.all_eq_true,Bool.not_eq_true'] at hb
     obtain ⟨xs,m,_,_,hcl,hxl,hf⟩:=DataW.trod_struct hu hx
     refine told_agg hb.2 ?_
     have key:∀ (fl:List Field) (i off:Nat) (l:List Ty),fldT P (rdT P n) fl off = some l → (∀ j f,fl[j]? = some f → fs[i + j]? = some f) → cs.length = off + l.length →
         ∃ vs:List TV,vs.map (·.t) = l ∧ (∀ v ∈ vs,InV v) ∧ VRels own (fun b=>b < w.heap.size) w 0 (vs.map (enc zCt)) (cs.drop off):=by
       intro fl
       induction fl with
       | nil =>
         intro i off l h1 _ h3
         have:=Option.some.inj h1;subst this
         exact ⟨[],rfl,by simp,by rw [List.drop_eq_nil_of_le (by simp at h3;omega)];simp [VRels]⟩
       | cons f fl ih =>
         intro i off l h1 h2 h3
         simp only [fldT] at h1
         obtain ⟨ho,h1⟩:=zAa h1
         rw [Nat.beq_eq] at ho
         have hfi:=h2 0 f rfl
         rw [Nat.add_zero] at hfi
         have hread:=hf i f hfi
         have hx2:∃ z,xs[i]? = some z:=by
           have:i < xs.length:=by
             rw [hxl]
             rcases Nat.lt_or_ge i fs.size with h | h
             · exact h
             · rw [Array.getElem?_eq_none h] at hfi;cases hfi
           exact ⟨xs[i],by simp [this]⟩
         obtain ⟨z,hz⟩:=hx2
         rw [hz,ho] at hread
         have step:∀ (T:Ty) (lt lr:List Ty),rdT P n f.type = some T → T.fl = lt → fldT P (rdT P n) fl (off + P.cellsOf f.type) = some lr → P.cellsOf f.type = lt.length → l = lt ++ lr →
             ∃ vs:List TV,vs.map (·.t) = l ∧ (∀ v ∈ vs,InV v) ∧ VRels own (fun b=>b < w.heap.size) w 0 (vs.map (enc zCt)) (cs.drop off):=fun T lt lr g1 g2 g3 g4 g5=>by
           obtain ⟨vs,k1,k2,k3⟩:=told_leaves (reads n f.type T g1 m _ z hread)
           obtain ⟨us,k4,k5,k6⟩:=ih (i + 1) (off + P.cellsOf f.type) lr g3 (fun j f' hj=>by rw [show i + 1 + j = i + (j + 1) by omega];exact h2 (j + 1) f' (by simpa using hj)) (by rw [h3,g5,List.length_append,g4];omega)
           refine ⟨vs ++ us,by rw [List.map_append,k1,k4,g2,g5],fun v hv=>?_,?_⟩
           · rcases List.mem_append.1 hv with hv | hv
             · exact k2 v hv
             · exact k5 v hv
           · rw [List.map_append,← List.take_append_drop (P.cellsOf f.type) (cs.drop off),List.drop_drop]
             exact zBA k3 k6
         split at h1
         · rename_i s lr g1 g2
           obtain ⟨g3,h1⟩:=zAa h1
           rw [Nat.beq_eq] at g3
           exact step _ _ lr g1 rfl g2 g3 (Option.some.inj h1).symm
         · rename_i u lr hne g1 g2
           obtain ⟨g3,h1⟩:=zAa h1
           rw [Nat.beq_eq] at g3
           refine step u [u] lr g1 ?_ g2 (by simpa using g3) (Option.some.inj h1).symm
           cases u <;> first | rfl | exact (hne _ rfl).elim
         · cases h1
     have:=key fs.toList 0 0 l hl (fun j f hj=>by rw [Nat.zero_add];simpa using hj) (by rw [Nat.zero_add];omega)
     simpa using this
   · rename_i k e hu
     have arr:∀ (T:Ty) (lt:List Ty),rdT P n e = some T → T.fl = lt → P.cellsOf e = lt.length → P.cellsOf t = k * P.cellsOf e → (∀ u ∈ lt,u.sp = false) → ToldC w own (.agg (zAX (arrT k lt))) cs:=fun T lt g1 g2 g3 g4 g5=>by
       obtain ⟨xs,m,_,_,hcl,hxl,hf⟩:=DataW.trod_array hu hx
       refine told_agg (fun u hu'=>?_) ?_
       · have:∀ k,∀ u ∈ arrT k lt,u ∈ lt:=by
           intro k
           induction k with
           | zero=>intro u h;cases h
           | succ k ih=>intro u h;rcases List.mem_append.1 h with h | h;exact h;exact ih u h
         exact g5 u (this k u hu')
       · have key:∀ j,j ≤ k → ∃ vs:List TV,vs.map (·.t) = arrT j lt ∧ (∀ v ∈ vs,InV v) ∧ VRels own (fun b=>b < w.heap.size) w 0 (vs.map (enc zCt)) (cs.drop ((k - j) * P.cellsOf e)):=by
           intro j
           induction j with
           | zero=>intro _;exact ⟨[],rfl,by simp,by rw [List.drop_eq_nil_of_le (by rw [hcl,g4];exact Nat.le_refl _)];simp [VRels]⟩
           | succ j ih =>
             intro hj
             obtain ⟨us,k4,k5,k6⟩:=ih (by omega)
             have hread:=hf (k - (j + 1)) (by omega)
             have hz:xs[k - (j + 1)]? = some xs[k - (j + 1)]:=by simp
             rw [hz] at hread
             obtain ⟨vs,k1,k2,k3⟩:=told_leaves (reads n e T g1 m _ _ hread)
             refine ⟨vs ++ us,by rw [List.map_append,k1,k4,g2];rfl,fun v hv=>?_,?_⟩
             · rcases List.mem_append.1 hv with hv | hv
               · exact k2 v hv
               · exact k5 v hv
             · rw [List.map_append,← List.take_append_drop (P.cellsOf e) (cs.drop _),List.drop_drop]
               have e1:(k - (j + 1)) * P.cellsOf e + P.cellsOf e = (k - j) * P.cellsOf e:=by rw [← Nat.succ_mul];congr 1;omega
               rw [e1]
               exact zBA k3 k6
         have:=key k (Nat.le_refl _)
         simpa using this
     split at h
     · rename_i s he
       obtain ⟨hb,h⟩:=zAa h
       have:=Option.some.inj h;subst this
       simp only [Bool.and_eq_true,Nat.beq_eq,List.all_eq_true,Bool.not_eq_true'] at hb
       exact arr _ _ he rfl hb.1.1 hb.1.2 hb.2
     · rename_i u hne he
       obtain ⟨hb,h⟩:=zAa h
       have:=Option.some.inj h;subst this
       simp only [Bool.and_eq_true,Nat.beq_eq,Bool.not_eq_true'] at hb
       refine arr u [u] he ?_ (by simpa using hb.1.1) (by rw [hb.1.1,hb.1.2,Nat.mul_one]) (fun v hv=>by rw [List.mem_singleton] at hv;subst hv;exact hb.2)
       cases u <;> first | rfl | exact (hne _ rfl).elim
     · cases h
   · cases h
end
end Go.T
namespace Go.T
open Go.Ab Go.ChangeShapes Go.RowKit
variable [Go.Ab.DM]
section
variable {H:Type} {enc':TypeId × Value → H} {P:Program}
theorem arg_told {n:Nat} {t:TypeId} {T:Ty} {w:World} {own:Nat → Own} {base:Nat} {v:Value} {d:DataW H} {ps:List MemPlace} {spare:Nat → Bool} {held:Bool} (hT:rdT P n t = some T) (hok:Value.okWide P w .any base t v) (h:DataW.Trod enc' P w 0 spare held t v d ps) :
   ∃ u:TV,u.t = T ∧ InV u ∧ VRel own (fun b=>b < w.heap.size) w 0 (enc zCt u) v:=by
 obtain ⟨fuel,hf⟩:=h
 obtain ⟨u,h1,h2,h3⟩:=reads (own:=own) n t T hT fuel _ _ hf
 refine ⟨u,h1,h2,?_⟩
 have hsh:(∃ s,T = .agg s ∧ ∃ cs,v = .agg cs) ∨ ((∀ s,T ≠ .agg s) ∧ ∀ cs,v ≠ .agg cs):=by
   cases n with
   | zero=>cases hT
   | succ n =>
     simp only [rdT] at hT
     unfold Value.okWide at hok
     split at hT
     · rename_i k hu
       have:=Option.some.inj hT;subst this
       rw [hu] at hok
       refine .inr ⟨fun s h=>(by cases h),fun cs hc=>?_⟩
       subst hc;simp [Cell.okWide,hu,Cell.ok] at hok
     · rename_i hu
       have:=Option.some.inj hT;subst this
       rw [hu] at hok
       refine .inr ⟨fun s h=>(by cases h),fun cs hc=>?_⟩
       subst hc;simp [Cell.okWide,hu,Cell.ok] at hok
     · rename_i hu
       have:=Option.some.inj hT;subst this
       rw [hu] at hok
       refine .inr ⟨fun s h=>(by cases h),fun cs hc=>?_⟩
       subst hc;simp [Cell.okWide,hu,Cell.ok] at hok
     · rename_i e hu
       split at hT
       · obtain ⟨_,hT⟩:=zAa hT
         have:=Option.some.inj hT;subst this
         rw [hu] at hok
         refine .inr ⟨fun s h=>(by cases h),fun cs hc=>?_⟩
         subst hc;simp [Cell.okWide,hu,Cell.ok] at hok
       · cases hT
     · rename_i fs hu
       rw [hu] at hok
       obtain ⟨cs,hc,_⟩:=hok
       split at hT
       · obtain ⟨_,hT⟩:=zAa hT
         exact .inl ⟨_,(Option.some.inj hT).symm,cs,hc⟩
       · cases hT
     · rename_i k e hu
       rw [hu] at hok
       obtain ⟨cs,hc,_⟩:=hok
       split at hT
       · obtain ⟨_,hT⟩:=zAa hT
         exact .inl ⟨_,(Option.some.inj hT).symm,cs,hc⟩
       · obtain ⟨_,hT⟩:=zAa hT
         exact .inl ⟨_,(Option.some.inj hT).symm,cs,hc⟩
       · cases hT
     · cases hT
 rcases hsh with ⟨s,hs,cs,rfl⟩ | ⟨hs,hv⟩
 · obtain ⟨t',x⟩:=u
   have h1:t' = .agg s:=h1.trans hs
   subst h1
   have e1:enc zCt ⟨.agg s,x⟩ = .agg (E s zCt x).2:=rfl
   rw [e1] at h3 ⊢
   rw [VRel]
   exact ⟨cs.toList,by simp,by simpa [D.cells,Value.cells] using h3⟩
 · have hne:∀ s,u.t ≠ .agg s:=fun s h=>hs s (h1.symm.trans h)
   have hc:(enc zCt u).cells = [enc zCt u]:=by
     obtain ⟨t',x⟩:=u
     cases t' <;> first | rfl | exact (hne _ rfl).elim
   have hvc:v.cells.toList = [v]:=by
     cases v <;> first | rfl | exact (hv _ rfl).elim
   rw [hc,hvc] at h3
   rw [VRels] at h3
   obtain ⟨y,ys,h4,h5,h6⟩:=h3
   cases h4;exact h5
theorem args_read {w:World} {own:Nat → Own} {base:Nat} {spare:Nat → Bool} {held:Bool}:∀ {ts:List TypeId} {as0:List Ty} {args:List Value} {ds:List (DataW H)} {ps:List MemPlace},ts.map (rdT P 8) = as0.map some → (∀ (j:Nat) t v,ts[j]? = some t → args[j]? = some v → Value.okWide P w .any base t v) →
   DataW.TrodAll enc' P w 0 spare held ts args ds ps → ∃ vs:List TV,vs.map (·.t) = as0 ∧ (∀ v ∈ vs,InV v) ∧ VRels own (fun b=>b < w.heap.size) w 0 (vs.map (enc zCt)) args
 | [],as0,args,ds,ps,hT,hok,h=>by
   obtain ⟨rfl,rfl,rfl⟩:=trodAll_nil h
   have:as0 = []:=by simpa using hT
   subst this
   exact ⟨[],rfl,by simp,by simp [VRels]⟩
 | t :: ts,as0,args,ds,ps,hT,hok,h=>by
   obtain ⟨v,vs1,d,ds1,a,b,rfl,rfl,rfl,h1,h2⟩:=trodAll_cons h
   cases as0 with
   | nil=>simp at hT
   | cons T as0 =>
     simp only [List.map_cons,List.cons.injEq] at hT
     obtain ⟨u,g1,g2,g3⟩:=arg_told (own:=own) hT.1 (hok 0 t v rfl rfl) h1
     obtain ⟨us,g4,g5,g6⟩:=args_read (own:=own) hT.2 (fun j t v ht hv=>hok (j + 1) t v (by simpa using ht) (by simpa using hv)) h2
     refine ⟨u :: us,by simp [g1,g4],fun v hv=>?_,?_⟩
     · rcases List.mem_cons.1 hv with rfl | hv
       · exact g2
       · exact g5 v hv
     · rw [List.map_cons,VRels];exact ⟨v,vs1,rfl,g3,g6⟩
theorem all_stay {W W':World} (hl:laidOutB P = true) (hb:∀ b,b < W.heap.size → W'.heap[b]? = W.heap[b]?) {sp:Nat → Bool}:∀ {ts:List TypeId} {args:List Value} {ds:List (DataW H)} {ps:List MemPlace},(∀ t ∈ ts,P.readableRec t = true ∧ t < P.types.size) →
   DataW.TrodAll enc' P W 0 (fun _=>true) true ts args ds ps → (∀ p ∈ ps,p.block < W.heap.size) → (∀ p ∈ ps,sp p.block = true) → DataW.TrodAll enc' P W' 0 sp true ts args ds ps
 | [],args,ds,ps,_,h,_,_=>by
   obtain ⟨rfl,rfl,rfl⟩:=trodAll_nil h
   rfl
 | t :: ts,args,ds,ps,hr,h,hlt,hs=>by
   obtain ⟨v,vs1,d,ds1,a,b,rfl,rfl,rfl,h1,h2⟩:=trodAll_cons h
   have same:∀ p:MemPlace,p.block < W.heap.size → W.sameAt W' p:=fun p hp=>by
     cases p with
     | cell b o=>exact World.cell?_of_block (w:=W) (hb b hp)
     | map b=>exact hb b hp
   refine ⟨a,b,?_,all_stay hl hb (fun t ht=>hr t (List.mem_cons_of_mem _ ht)) h2 (fun p hp=>hlt p (List.mem_append_right _ hp)) (fun p hp=>hs p (List.mem_append_right _ hp)),rfl⟩
   exact WideElems.Trod_stays hl (hr t (by simp)).1 (hr t (by simp)).2 h1 (fun p hp=>same p (hlt p (List.mem_append_left _ hp))) (fun p hp=>hs p (List.mem_append_left _ hp))
theorem kept_of_blocks {W W':World} {may:MemPlace → Prop} (ho:W'.os = W.os) (hu:W'.output = W.output) (hb:∀ b,b < W.heap.size → W'.heap[b]? = W.heap[b]?):W.keptBut W' may:=by
 refine ⟨ho,hu,fun i hi=>?_⟩
 rw [hb i hi]
 have:=(World.keptBut_refl W may).2.2 i hi
 exact this
theorem law_post {s:ChangeSpec} {fn:Func} {c:Con} {tb:TypeId} {apart fresh handsOn again:Bool} (hl:laidOutB P = true) (ok:zAu P c) (hins:c.ins = []) (houts:c.outs = []) (hq:c.q = none)
   (hpar:fn.params.toList.map (rdT P 8) = c.as.map some) (hpure:c.as.all Ty.pure = true) (hr:∀ t ∈ fn.params.toList,P.readableRec t = true ∧ t < P.types.size) (hres:fn.resultTypes = #[tb]) (htb:P.underlying tb = some .bool)
   (hF:∀ vs:List TV,vs.map (·.t) = c.as → (∀ v ∈ vs,InV v) → ∃ x,zBD c x = vs ∧ ∃ y,c.F x = some y ∧ zBQ c y = ⟨.bool,true⟩)
   (hsv:s.vars = []) (hsf:∀ ds:List (DataW H),ds.length = fn.params.toList.length → (s.fn H (ds ++ [])).results = [.lit (.bool true)] ∧ (s.fn H (ds ++ [])).args = ds ∧ (s.fn H (ds ++ [])).vars = [])
   {W:World} {base:Nat} {args:Array Value} {ds gs:List (DataW H)} {before:List MemPlace} (hval:∀ (j:Nat) t v,fn.params[j]? = some t → args[j]? = some v → Value.okWide P W .any base t v)
   (hW:DataW.Whole enc' P fn.params.toList s.vars apart W args.toList ds gs before) :
   Calls P c.f args W fun e W'=>∃ v,e = .returned v ∧ s.post enc' P fn apart fresh handsOn again W args v W':=by
 have hW':=hW
 rw [hsv] at hW
 obtain ⟨p,q,hA,hV,rfl,hfz,hnd⟩:=hW
 obtain ⟨rfl,rfl⟩:=trodVars_none hV
 have hds:ds.length = fn.params.toList.length:=by
   have:∀ {ts:List TypeId} {vs:List Value} {ds:List (DataW H)} {ps:List MemPlace},DataW.TrodAll enc' P W 0 (fun _=>true) true ts vs ds ps → ds.length = ts.length:=by
     intro ts
     induction ts with
     | nil=>intro vs ds ps h;obtain ⟨rfl,rfl,rfl⟩:=trodAll_nil h;rfl
     | cons t ts ih=>intro vs ds ps h;obtain ⟨v,vs1,d,ds1,a,b,rfl,rfl,rfl,h1,h2⟩:=trodAll_cons h;simp [ih h2]
   exact this hA
 let own:Nat → Own:=fun _=>⟨0,0,0,0⟩
 obtain ⟨vs,h1,h2,h3⟩:=args_read (own:=own) hpar (fun j t v ht hv=>hval j t v (by simpa using ht) (by simpa using hv)) hA
 obtain ⟨x,hx,y,hy,hyr⟩:=hF vs h1 h2
 have hrows:zBh c x = []:=by unfold zBh;rw [hins];rfl
 have hQ:∃ y,c.Q x y:=⟨y,by unfold Con.Q;rw [hq];exact hy⟩
 have hpv:∀ v ∈ vs,v.t.pure = true:=fun v hv=>List.all_eq_true.1 hpure _ (by rw [← h1];exact List.mem_map_of_mem hv)
 have hS:=ok x hQ (fun _=>.sit ByteArray.empty 0) (fun _=>0) [] (by rw [hrows];exact ⟨fun r=>trivial,fun r q h=>(by cases h),fun r t x h=>(by cases h)⟩) (by rw [hx,hrows];exact fun v hv=>zCG _ _ (hpv v hv))
 rw [hx,hrows] at hS
 have hsim:Sim own [] (fun _=>False) W:=⟨fun r row h=>(by cases h),fun r r' row row' h=>(by cases h),fun b h=>h.elim⟩
 have hU:zAN own [] (fun _=>False) W = fun b=>b < W.heap.size:=funext fun b=>propext (by rw [unowned_nil];simp)
 have hrel:zCE own [] (fun _=>False) W (vs.map (enc (zAB (fun _=>0) []))) args.toList:=by
   have e1:vs.map (enc (zAB (fun _=>0) [])) = vs.map (enc zCt):=List.map_congr_left fun v hv=>enc_pure (hpv v hv) _ _
   rw [e1,zCE,hU];exact h3
 have hC:=hS.2 own (fun _=>False) W args.toList hsim hrel
 have ea:args.toList.toArray = args:=by simp
 rw [ea] at hC
 refine hC.mono fun e W' hh=>?_
 obtain ⟨own',d,H',v,rfl,_,g2,g3,y',gQ,ζ',num',_,rfl,_⟩:=hh
 have hyy:y' = y:=by
   unfold Con.Q at gQ;rw [hq] at gQ
   exact Option.some.inj (gQ.symm.trans hy)
 subst hyy
 rw [hyr] at g2
 have hv:v = .bool true:=by
   rw [Rel] at g2
   have e:enc (zAB num' (zAQ c y')) ⟨.bool,true⟩ = .v (.bool true):=rfl
   rw [e,VRel] at g2;exact g2
 subst hv
 have hblk:∀ b,b < W.heap.size → W'.heap[b]? = W.heap[b]?:=fun b hb=>(g3.hb b (by rw [hU];exact hb)).2
 obtain ⟨hs1,hs2,hs3⟩:=hsf ds hds
 have hlt:∀ p' ∈ p,p'.block < W.heap.size:=fun p' hp'=>by
   have:=DataW.TrodAll.lt hA p' hp';exact this
 have hargs:∀ sp:Nat → Bool,(∀ p' ∈ p,sp p'.block = true) → DataW.TrodAll enc' P W' 0 sp true fn.params.toList args.toList (s.fn H (ds ++ [])).args p:=fun sp hsp=>by
   rw [hs2];exact all_stay hl hblk hr hA hlt hsp
 have hresT:∀ (b:Nat) (sp:Nat → Bool) (hd:Bool),DataW.TrodAll enc' P W' b sp hd fn.resultTypes.toList ((Value.bool true).resultList fn.resultTypes.size) (s.fn H (ds ++ [])).results []:=fun b sp hd=>by
   rw [hs1,hres]
   exact trodAll_mk1 (shut_bool htb true)
 have hfr:∀ b off,b < W.heap.size → W'.frozen? ⟨b,off,none⟩ = W.frozen? ⟨b,off,none⟩:=fun b off hb=>by
   unfold World.frozen?
   rw [hblk b hb]
 refine ⟨_,rfl,ds,[],p ++ [],[],p,[],hW',hresT _ _ _,hargs _ fun p' hp'=>by simpa using hlt p' hp',?_,?_,fun _=>⟨?_,_,[],([] ++ p) ++ [],⟨[] ++ p,[],trodAll_append (hargs (fun _=>true) (fun _ _=>rfl)) (hresT _ _ _),?_,rfl,?_,?_⟩,?_⟩⟩
 · rw [hs3,hsv];rfl
 · refine World.keptBut_mono (fun p' hp'=>⟨hp',?_⟩) (kept_of_blocks (may:=(· ∈ p ++ [])) g3.st.os g3.st.out hblk)
   exact .inr (.inl (by simpa using hp'))
 · exact ok_one hres rfl (okWide_bool_mk htb true)
 · rw [hsv];rfl
 · intro b off hp'
   have hp':MemPlace.cell b off ∈ p:=by simpa using hp'
   rw [hfr b off (hlt _ hp')]
   exact hfz b off (by simpa using hp')
 · intro ha
   have:=hnd ha
   simpa using this
 · intro p' hp' _
   simpa using hp'
end
end Go.T
namespace Go.T
open Go
theorem one_of {a:Ty}:∀ {vs:List TV},vs.map (·.t) = [a] → ∃ x,vs = [⟨a,x⟩]
 | [⟨t,x⟩],h=>by
   simp only [List.map_cons,List.map_nil,List.cons.injEq,and_true] at h
   subst h;exact ⟨x,rfl⟩
 | [],h=>by cases h
 | _ :: _ :: _,h=>by cases h
theorem more_of {a:Ty} {l:List Ty}:∀ {vs:List TV},vs.map (·.t) = a :: l → ∃ x ws,vs = ⟨a,x⟩ :: ws ∧ ws.map (·.t) = l
 | ⟨t,x⟩ :: ws,h=>by
   simp only [List.map_cons,List.cons.injEq] at h
   obtain ⟨rfl,h⟩:=h
   exact ⟨x,ws,rfl,h⟩
 | [],h=>by cases h
theorem two_of {a b:Ty} {vs:List TV} (h:vs.map (·.t) = [a,b]):∃ x y,vs = [⟨a,x⟩,⟨b,y⟩]:=by
 obtain ⟨x,ws,rfl,g⟩:=more_of h
 obtain ⟨y,rfl⟩:=one_of g
 exact ⟨x,y,rfl⟩
theorem three_of {a b c:Ty} {vs:List TV} (h:vs.map (·.t) = [a,b,c]):∃ x y z,vs = [⟨a,x⟩,⟨b,y⟩,⟨c,z⟩]:=by
 obtain ⟨x,ws,rfl,g⟩:=more_of h
 obtain ⟨y,z,rfl⟩:=two_of g
 exact ⟨x,y,z,rfl⟩
end Go.T
namespace Go.Ab
variable [Go.Ab.DM]
section
variable {P:Program} {f:FuncId} {ds:List D} {H:Heap}
def mvH (H:Heap) (a b k m:Nat) (xs:List D):Heap:=((H.set b none).set a (some (.cells 1 [.sl H.length 0 m]))) ++ [some (.cells k xs)]
theorem mvH_get {H:Heap} {a b k m:Nat} {xs:List D} (ha:a < H.length) (hb:b < H.length) (r:Nat):(mvH H a b k m xs).get r = if r = H.length then some (.cells k xs) else if r = a then some (.cells 1 [.sl H.length 0 m]) else if r = b then none else H.get r:=by
 unfold mvH
 rw [Heap.get_push]
 simp only [List.length_set]
 split
 · rfl
 · rw [Heap.get_set _ (by simpa using ha),Heap.get_set _ hb]
theorem mv_sim {own:Nat → Own} {X:Nat → Prop} {w:World} (hs:Sim own H X w) {a b k m:Nat} {xs:List D} (hab:a ≠ b) (hga:H.get a = some (.cells 1 [.sl b 0 m])) (hgb:H.get b = some (.cells k xs)) :
   ∃ own',Sim own' (mvH H a b k m xs) X w ∧ Ext X own H w own' (mvH H a b k m xs) w ∧ ∀ d v,Rel own H X w d v → Rel own' (mvH H a b k m xs) X w d v:=by
 have ha:=Heap.get_lt hga
 have hb:=Heap.get_lt hgb
 have hget:=fun r=>mvH_get (m:=m) (k:=k) (xs:=xs) ha hb r
 have hlen:(mvH H a b k m xs).length = H.length + 1:=by simp [mvH]
 refine ⟨fun r=>if r = H.length then own b else own r,?_⟩
 generalize hown:(fun r=>if r = H.length then own b else own r) = own'
 have hN:own' H.length = own b:=by rw [← hown];simp
 have hO:∀ r,r ≠ H.length → own' r = own r:=fun r h=>by rw [← hown];simp [h]
 have back:∀ r row,(mvH H a b k m xs).get r = some row → ∃ q row0,H.get q = some row0 ∧ own' r = own q ∧ ((r = H.length ∧ q = b) ∨ (r ≠ H.length ∧ r ≠ b ∧ q = r)):=fun r row h=>by
   rw [hget] at h
   split at h
   · rename_i e;subst e;exact ⟨b,_,hgb,hN,.inl ⟨rfl,rfl⟩⟩
   · rename_i e
     split at h
     · rename_i e2;subst e2;exact ⟨r,_,hga,hO _ e,.inr ⟨e,hab,rfl⟩⟩
     · split at h
       · cases h
       · rename_i e3;exact ⟨r,_,h,hO _ e,.inr ⟨e,e3,rfl⟩⟩
 have hU:zAN own' (mvH H a b k m xs) X w = zAN own H X w:=funext fun q=>propext (by
   constructor
   · rintro ⟨h1,h2,h3⟩
     refine ⟨h1,h2,fun r row hr=>?_⟩
     have hrl:r ≠ H.length:=Nat.ne_of_lt (Heap.get_lt hr)
     by_cases e:r = b
     · subst e;rw [← hN];exact h3 H.length _ (by rw [hget,if_pos rfl])
     · by_cases e2:r = a
       · subst e2;rw [← hO _ hrl];exact h3 r _ (by rw [hget,if_neg hrl,if_pos rfl])
       · rw [← hO _ hrl];exact h3 r row (by rw [hget,if_neg hrl,if_neg e2,if_neg e];exact hr)
   · rintro ⟨h1,h2,h3⟩
     refine ⟨h1,h2,fun r row hr=>?_⟩
     obtain ⟨q',row0,h4,h5,_⟩:=back r row hr
     rw [h5];exact h3 q' row0 h4)
 have keeps:Keeps own H.length (zAN own H X w) w own' (mvH H a b k m xs).length (zAN own' (mvH H a b k m xs) X w) w :=
   ⟨by omega,fun r hr=>hO r (by omega),fun b hb=>by rw [hU];exact hb,fun _ _ _=>rfl⟩
 refine ⟨⟨fun r row hr=>?_,fun r r' row row' hr hr' hne=>?_,hs.hid⟩,⟨Nat.le_refl _,by omega,fun r hr=>hO r (by omega),fun b hb=>⟨by rw [hU];exact hb,rfl⟩,fun _ _=>rfl,.refl _⟩,fun d v h=>VRel.mono keeps d v h⟩
 · obtain ⟨q,row0,h1,h2,h3⟩:=back r row hr
   rw [h2]
   refine ⟨?_,(hs.live _ _ h1).2⟩
   rw [hget] at hr
   split at hr
   · rename_i e
     have:=Option.some.inj hr;subst this
     rcases h3 with ⟨_,rfl⟩ | ⟨h,_⟩
     · exact RowOk.mono keeps rfl (hs.live _ _ hgb).1
     · exact absurd e h
   · rename_i e
     rcases h3 with ⟨h,_⟩ | ⟨_,h3,rfl⟩
     · exact absurd h e
     split at hr
     · rename_i e2;subst e2
       have:=Option.some.inj hr;subst this
       obtain ⟨g1,c,t,g2,g3,g4,g5⟩:=RowOk.mono keeps rfl (hs.live _ _ hga).1
       refine ⟨g1,c,t,g2,g3,by simpa using g4,?_⟩
       have g6:=Cells_get (i:=0) g5 rfl
       rw [zCU] at g6
       rw [Cells]
       refine ⟨?_,by rw [Cells];trivial⟩
       rw [zCU]
       obtain ⟨g8,g6⟩:=g6
       refine ⟨g8,?_⟩
       simp only [D.cells,Flat] at g6 ⊢
       obtain ⟨g9,⟨v,hv,g7⟩,_⟩:=g6
       refine ⟨rfl,⟨v,by simpa using hv,?_⟩,trivial⟩
       rw [VRel] at g7 ⊢
       obtain ⟨h7,h8⟩:=g7
       rw [hN]
       rw [hO b (Nat.ne_of_lt hb)] at h8
       exact ⟨by omega,h8⟩
     · exact RowOk.mono keeps rfl (hs.live _ _ hr).1
 · obtain ⟨q,row0,h1,h2,h3⟩:=back r row hr
   obtain ⟨q',row0',h1',h2',h3'⟩:=back r' row' hr'
   rw [h2,h2']
   refine hs.excl _ _ _ _ h1 h1' ?_
   rcases h3 with ⟨e1,e2⟩ | ⟨e1,e2,e3⟩ <;> rcases h3' with ⟨e1',e2'⟩ | ⟨e1',e2',e3'⟩
   · exact absurd (e1.trans e1'.symm) hne
   · rw [e2,e3'];exact fun h=>e2' h.symm
   · rw [e3,e2'];exact e2
   · rw [e3,e3'];exact hne
theorem Sound.mv {R R':D → Heap → Prop} (h:Sound P f ds H R) (hr:∀ d H',H.length ≤ H'.length → R d H' → ∃ a b k m xs,a ≠ b ∧ H'.get a = some (.cells 1 [.sl b 0 m]) ∧ H'.get b = some (.cells k xs) ∧ R' d (mvH H' a b k m xs)):Sound P f ds H R':=⟨h.1,fun own X w vs hs hv =>
 Calls.mono (h.2 own X w vs hs hv) fun e w' ⟨own',d,H',v,h1,h2,h3,h4,h5⟩=>by
   obtain ⟨a,b,k,m,xs,g1,g2,g3,g4⟩:=hr d H' h4.hn h5
   obtain ⟨own'',g5,g6,g7⟩:=mv_sim h2 g1 g2 g3
   exact ⟨own'',d,_,v,h1,g5,g7 _ _ h3,Ext.trans h4 g6,g4⟩⟩
end
end Go.Ab
namespace Go.T
open Go.Ab
variable [Go.Ab.DM]
theorem hrel_nil {ζ:Nat → Row} {num:Nat → Nat} {H:Heap}:HRel ζ num [] H:=⟨fun r=>trivial,fun r q h=>(by cases h),fun r t x h=>(by cases h)⟩
theorem norefs_enc {l:List TV} (h:∀ v ∈ l,v.t.pure = true):zAh (l.map (enc zCt)) = true:=by
 induction l with
 | nil=>simp [zAh]
 | cons v l ih =>
   rw [List.map_cons,zAh,Bool.and_eq_true]
   exact ⟨(e0_noref v.t v.x (h v (by simp))).1,ih fun u hu=>h u (by simp [hu])⟩
theorem con_pure {P:Program} {c:Con} (hins:c.ins = []) (houts:c.outs = []) (hpa:∀ x,∀ v ∈ zBD c x,v.t.pure = true) (hpr:∀ y,(zBQ c y).t.pure = true)
   (h:∀ x,(∃ y,c.Q x y) → Pure P c.f ((zBD c x).map (enc zCt)) fun d=>∃ y,c.Q x y ∧ d = enc zCt (zBQ c y)):zAu P c:=fun x hx ζ num H hH hok=>by
 have hrows:zBh c x = []:=by unfold zBh;rw [hins];rfl
 have houtR:∀ y,zAQ c y = []:=fun y=>by unfold zAQ;rw [houts];rfl
 have e1:∀ ρ,(zBD c x).map (enc ρ) = (zBD c x).map (enc zCt):=fun ρ=>List.map_congr_left fun v hv=>enc_pure (hpa x v hv) _ _
 rw [e1]
 refine ((h x hx).frame (norefs_enc (hpa x)) H).sound.mono fun d H' hd=>?_
 obtain ⟨rfl,y,hy,rfl⟩:=hd
 refine ⟨y,hy,ζ,num,by rw [houtR];exact hrel_nil,by rw [houtR];exact enc_pure (hpr y) _ _,by rw [houtR];exact zCG _ _ (hpr y),?_,?_⟩
 · intro r hr;rw [houtR] at hr;cases hr
 · intro r hr;rw [hins] at hr;cases hr
theorem pure_of {P:Program} {c:Con} (ok:zAu P c) (hins:c.ins = []) (hq:c.q = none) {x:(zAX c.inT).I} {y:(zAX c.outT).I} (hpa:∀ v ∈ zBD c x,v.t.pure = true) (hpr:(zBQ c y).t.pure = true) (h:c.F x = some y):Pure P c.f ((zBD c x).map (enc zCt)) fun d=>d = enc zCt (zBQ c y):=by
 have hrows:zBh c x = []:=by unfold zBh;rw [hins];rfl
 have hQ:c.Q x y:=by unfold Con.Q;rw [hq];exact h
 have hS:=ok x ⟨y,hQ⟩ (fun _=>.sit ByteArray.empty 0) (fun _=>0) [] (by rw [hrows];exact hrel_nil) (fun v hv=>zCG _ _ (hpa v hv))
 have e1:∀ ρ,(zBD c x).map (enc ρ) = (zBD c x).map (enc zCt):=fun ρ=>List.map_congr_left fun v hv=>enc_pure (hpa v hv) _ _
 rw [e1] at hS
 refine ⟨hS.1,fun own X w vs hs hv=>(hS.2 own X w vs hs hv).mono fun e w' hh=>?_⟩
 obtain ⟨own',d,H',v,h1,h2,h3,h4,y',gQ,ζ',num',_,hd,_⟩:=hh
 have hy:y' = y:=by
   unfold Con.Q at gQ;rw [hq] at gQ
   exact Option.some.inj (gQ.symm.trans h)
 subst hy
 have hU:∀ b,zAN own' H' X w' b → zAN own' [] X w' b:=fun b hb=>unowned_nil.2 ⟨hb.1,hb.2.1⟩
 refine ⟨own',_,[],v,h1,Sim.nil h2.hid,?_,⟨h4.size,Nat.le_refl _,fun r hr=>absurd hr (Nat.not_lt_zero _),fun b hb=>⟨hU b (h4.hb b hb).1,(h4.hb b hb).2⟩,h4.hx,h4.st⟩,rfl,rfl⟩
 rw [hd,enc_pure hpr _ zCt] at h3
 exact VRel.mono ⟨Nat.le_refl _,fun r hr=>absurd hr (Nat.not_lt_zero _),hU,fun _ _ _=>rfl⟩ _ _ (VRel_noref _ _ (e0_noref _ _ hpr).1 h3)
end Go.T
namespace Go.T
open Go.Ab Go.Sort Go.Proofs
variable [Go.Ab.DM]
section
variable {own:Nat → Own} {U:Nat → Prop} {w:World}
theorem blk_flat {α:Type} [Inhabited α] (e:α → List Value) {k:Nat} (hk:∀ x,(e x).length = k):∀ (ps:List α) (t:Nat),t < ps.length * k → (ps.flatMap e)[t]? = some (e ps.toArray[t / k]!)[t % k]!
 | [],t,h=>by simp at h
 | p :: ps,t,h=>by
   have hk0:0 < k:=by rcases Nat.eq_zero_or_pos k with h' | h';· subst h';simp at h
                      · exact h'
   rw [List.flatMap_cons]
   rcases Nat.lt_or_ge t k with ht | ht
   · rw [List.getElem?_append_left (by rw [hk];exact ht),Nat.div_eq_of_lt ht,Nat.mod_eq_of_lt ht]
     have:t < (e p).length:=by rw [hk];exact ht
     simp [this]
   · rw [List.getElem?_append_right (by rw [hk];exact ht),hk]
     have h1:t - k < ps.length * k:=by simp [Nat.add_mul] at h;omega
     rw [blk_flat e hk ps (t - k) h1]
     have e1:t / k = (t - k) / k + 1:=by rw [Nat.div_eq_sub_div hk0 ht]
     have e2:t % k = (t - k) % k:=Nat.mod_eq_sub_mod ht
     rw [e1,e2]
     simp
theorem flatK_list {α:Type} [Inhabited α] (e:α → List Value) {k:Nat} (hk:∀ x,(e x).length = k) (ps:List α):flatK e k ps.toArray = (ps.flatMap e).toArray:=by
 have hl:(ps.flatMap e).length = ps.length * k:=by
   induction ps with
   | nil=>simp
   | cons p ps ih=>rw [List.flatMap_cons,List.length_append,ih,hk,List.length_cons,Nat.add_mul];omega
 refine ext_get! (by simp [hl]) fun t ht=>?_
 have ht:t < ps.length * k:=by simpa using ht
 rw [get_flatK _ _ _ _ (by simpa using ht)]
 have:=blk_flat e hk ps t ht
 have h2:t < (ps.flatMap e).length:=by rw [hl];exact ht
 rw [List.getElem?_eq_getElem h2] at this
 rw [getElem!_pos _ t (by simpa using h2)]
 simpa using (Option.some.inj this).symm
theorem cut_row {T:Ty} (hT:T.elem = true):∀ (l:List T.I) (vs:List Value),VRels own U w 0 ((l.map (e0 T)).flatMap D.cells) vs → ∃ ps:List (T.I × List Value),ps.map (·.1) = l ∧ ps.flatMap (·.2) = vs ∧ ∀ p ∈ ps,p.2.length = T.w ∧ VRels own U w 0 (e0 T p.1).cells p.2
 | [],vs,h=>by
   rw [List.map_nil,List.flatMap_nil,VRels] at h
   exact ⟨[],rfl,by simp [h],by simp⟩
 | x :: l,vs,h=>by
   rw [List.map_cons,List.flatMap_cons] at h
   obtain ⟨us,ws,rfl,h1,h2⟩:=VRels_split h
   obtain ⟨ps,g1,g2,g3⟩:=cut_row hT l ws h2
   refine ⟨(x,us) :: ps,by simp [g1],by simp [g2],fun p hp=>?_⟩
   rcases List.mem_cons.1 hp with rfl | hp
   · exact ⟨by rw [zAj h1,← D.width_eq,elem_width hT],h1⟩
   · exact g3 p hp
theorem join_row {T:Ty}:∀ (ps:List (T.I × List Value)),(∀ p ∈ ps,VRels own U w 0 (e0 T p.1).cells p.2) → VRels own U w 0 ((ps.map fun p=>e0 T p.1).flatMap D.cells) (ps.flatMap (·.2))
 | [],_=>by simp [VRels]
 | p :: ps,h=>by
   rw [List.map_cons,List.flatMap_cons,List.flatMap_cons]
   exact zBA (h p (by simp)) (join_row ps fun q hq=>h q (by simp [hq]))
end
def SE (T:Ty) (D0:T.I → Prop) (own:Nat → Own) (U:Nat → Prop) (w:World):Type:={p:T.I × List Value // D0 p.1 ∧ p.2.length = T.w ∧ VRels own U w 0 (e0 T p.1).cells p.2}
def SE.e {T:Ty} {D0:T.I → Prop} {own:Nat → Own} {U:Nat → Prop} {w:World} (p:SE T D0 own U w):List Value:=p.1.2
def SE.c {T:Ty} {D0:T.I → Prop} (cf:T.I → T.I → Int) {own:Nat → Own} {U:Nat → Prop} {w:World} (p q:SE T D0 own U w):Int:=cf p.1.1 q.1.1
structure CmpOk (P:Program) (cc:Con) (T:Ty) (cap:List TV) (D0:T.I → Prop) (cf:T.I → T.I → Int):Prop where
 ok:@zAu ⟨True⟩ P cc
 ins:cc.ins = []
 outs:cc.outs = []
 pure:∀ v ∈ cap,v.t.pure = true
 enters:∀ args w,(callFunc cc.f args).run P w = .ok (.enter cc.f args) w
 gives:∀ x y,D0 x → D0 y → ∃ z,zBD cc z = ⟨T,x⟩ :: ⟨T,y⟩ :: cap ∧ (∃ r,cc.Q z r) ∧ ∀ r,cc.Q z r → zBQ cc r = ⟨.int .i64,cf x y⟩
 irrefl:∀ x,D0 x → ltOf cf x x = false
 trans:∀ x y z,D0 x → D0 y → D0 z → ltOf cf x y = true → ltOf cf y z = true → ltOf cf x z = true
 ntrans:∀ x y z,D0 x → D0 y → D0 z → ltOf cf x y = false → ltOf cf y z = false → ltOf cf x z = false
section
variable {P:Program} {cc:Con} {T:Ty} {cap:List TV} {D0:T.I → Prop} {cf:T.I → T.I → Int} {own:Nat → Own} {U:Nat → Prop} {w:World}
theorem CmpOk.swo (c:CmpOk P cc T cap D0 cf):SWO (ltOf (SE.c (D0:=D0) cf (own:=own) (U:=U) (w:=w))) :=
 ⟨fun x=>c.irrefl _ x.2.1,fun x y z=>c.trans _ _ _ x.2.1 y.2.1 z.2.1,fun x y z=>c.ntrans _ _ _ x.2.1 y.2.1 z.2.1⟩
theorem world_ext {w w':World} (h1:w'.heap = w.heap) (h2:w'.tape = w.tape) (h3:w'.drawn = w.drawn) (h4:w'.os = w.os) (h5:w'.output = w.output):w' = w:=by
 cases w;cases w';simp at h1 h2 h3 h4 h5;subst h1 h2 h3 h4 h5;rfl
omit [Go.Ab.DM] in
theorem grown {W w':World} (hsz:W.heap.size ≤ w'.heap.size) (hb:∀ b,b < W.heap.size → w'.heap[b]? = W.heap[b]?) (st:@SameW ⟨True⟩ W w'):∃ q os',w' = grow (W.drewN q) os':=by
 letI:Go.Ab.DM:=⟨True⟩
 refine ⟨w'.drawn - W.drawn,w'.heap.extract W.heap.size w'.heap.size,world_ext ?_ st.tape ?_ st.os st.out⟩
 · show w'.heap = W.heap ++ _
   apply Array.ext_getElem?
   intro i
   rcases Nat.lt_or_ge i W.heap.size with h | h
   · rw [hb i h,Array.getElem?_append_left h]
   · rw [Array.getElem?_append_right h]
     rcases Nat.lt_or_ge i w'.heap.size with h' | h'
     · rw [Array.getElem?_eq_getElem h',Array.getElem?_eq_getElem (by simp;omega)]
       simp [Nat.add_sub_cancel' h]
     · rw [Array.getElem?_eq_none h',Array.getElem?_eq_none (by simp;omega)]
 · show w'.drawn = W.drawn + _
   have:=st.drawn trivial;omega
omit [Go.Ab.DM] in
theorem cmp_lays [Inhabited (SE T D0 own U w)] (c:CmpOk P cc T cap D0 cf) (hTp:T.pure = true) (hagg:zBj T = true) {blk off size:Nat} {us:List Value} (hU:∀ b,U b → b < w.heap.size ∧ b ≠ blk) (hcap:VRels own U w 0 (cap.map (enc zCt)) us) :
   CmpLays P cc.f us.toArray (SE.e (D0:=D0) (own:=own) (U:=U) (w:=w)) T.w (SE.c cf) blk off size w:=by
 letI:Go.Ab.DM:=⟨True⟩
 intro m os dk hdk x y
 generalize hWdef:sortWorldK (SE.e (D0:=D0) (own:=own) (U:=U) (w:=w)) T.w w blk off m dk os = W
 have hW:∀ b,U b → b < W.heap.size ∧ W.heap[b]? = w.heap[b]?:=fun b hb=>by
   obtain ⟨h1,h2⟩:=hU b hb
   subst hWdef
   unfold sortWorldK grow putRowK Go.Sort.putRow mapBlock Sort.ahead
   simp only
   refine ⟨by simp;omega,?_⟩
   rw [Array.getElem?_append_left (by simpa using h1),Array.getElem?_modify,if_neg (Ne.symm h2)]
 obtain ⟨z,hz,hq,hres⟩:=c.gives _ _ x.2.1 y.2.1
 have hrows:zBh cc z = []:=by unfold zBh;rw [c.ins];rfl
 have hpv:∀ v ∈ zBD cc z,v.t.pure = true:=fun v hv=>by
   rw [hz] at hv
   rcases List.mem_cons.1 hv with rfl | hv
   · exact hTp
   rcases List.mem_cons.1 hv with rfl | hv
   · exact hTp
   · exact c.pure v hv
 have hS:=c.ok z hq (fun _=>.sit ByteArray.empty 0) (fun _=>0) [] (by rw [hrows];exact hrel_nil) (fun v hv=>zCG _ _ (hpv v hv))
 have e1:∀ ρ,(zBD cc z).map (enc ρ) = (zBD cc z).map (enc zCt):=fun ρ=>List.map_congr_left fun v hv=>enc_pure (hpv v hv) _ _
 rw [e1,hz] at hS
 have hsim:Sim own [] (fun _=>False) W:=⟨fun r row h=>(by cases h),fun r r' row row' h=>(by cases h),fun b h=>h.elim⟩
 have hUn:zAN own [] (fun _=>False) W = fun b=>b < W.heap.size:=funext fun b=>propext (by rw [unowned_nil];simp)
 have keeps:Keeps own 0 U w own 0 (fun b=>b < W.heap.size) W:=⟨Nat.le_refl _,fun _ _=>rfl,fun b hb=>(hW b hb).1,fun b hb=>zBv (hW b hb).2⟩
 have elt:∀ p:SE T D0 own U w,VRel own (fun b=>b < W.heap.size) W 0 (enc zCt ⟨T,p.1.1⟩) (.agg p.e.toArray):=fun p=>by
   have h:=VRels.mono keeps _ _ p.2.2.2
   obtain ⟨⟨x,vs⟩,h1,h2,h3⟩:=p
   cases T with
   | agg s =>
     show VRel _ _ _ _ (D.agg _) _
     rw [VRel];exact ⟨_,rfl,h⟩
   | _=>simp [zBj] at hagg
 have hrel:zCE own [] (fun _=>False) W ((⟨T,x.1.1⟩ :: ⟨T,y.1.1⟩ :: cap).map (enc zCt)) (.agg x.e.toArray :: .agg y.e.toArray :: us):=by
   rw [zCE,hUn]
   show VRels _ _ _ 0 _ _
   rw [List.map_cons,List.map_cons,VRels]
   refine ⟨_,_,rfl,elt x,?_⟩
   rw [VRels]
   exact ⟨_,_,rfl,elt y,VRels.mono keeps _ _ hcap⟩
 have hC:=hS.2 own (fun _=>False) W _ hsim hrel
 have ea:(Value.agg x.e.toArray :: Value.agg y.e.toArray :: us).toArray = #[.agg x.e.toArray,.agg y.e.toArray] ++ us.toArray:=by simp
 rw [ea] at hC
 refine hC.mono fun e W' hh=>?_
 obtain ⟨own',d,H',v,rfl,_,g2,g3,r,gQ,ζ',num',_,rfl,_⟩:=hh
 rw [hres r gQ] at g2
 have hv:v = .int .i64 (cf x.1.1 y.1.1):=by
   rw [Rel] at g2
   have e:enc (zAB num' (zAQ cc r)) ⟨.int .i64,cf x.1.1 y.1.1⟩ = .v (.int .i64 (cf x.1.1 y.1.1)):=rfl
   rw [e,VRel] at g2;exact g2
 subst hv
 refine ⟨rfl,grown g3.size (fun b hb=>(g3.hb b (by rw [hUn];exact hb)).2) g3.st⟩
def SortsAt (P:Program) (f k:Nat):Prop:=∀ {α:Type} [Inhabited α] (enc:α → List Value) (hk:∀ x,(enc x).length = k) (h1:∀ x,∀ v ∈ enc x,v.oneCell' = true) (cf:α → α → Int) (hO:SWO (ltOf cf)) (g:Nat) (cb:Array Value) (blk off cap:Nat) (d:Array α) (w:World)
 (eg:∀ args w,(callFunc g args).run P w = .ok (.enter g args) w) (hcmp:CmpLays P g cb enc k cf blk off d.size w) (hH:HoldsK enc k w blk off d) (hblk:blk < w.heap.size) (hsz:d.size < 4611686018427387904),
 Calls P f #[.slice (some ⟨blk,off,none⟩) d.size cap,.func (.func g) #[] cb] w fun e w' =>
   e = .returned (.tuple #[]) ∧ ∃ d' n os,PermIn 0 d.size d d' ∧ SortedIn (ltOf cf) 0 d.size d' ∧ w' = sortWorldK enc k w blk off n d' os
theorem norefs_app:∀ (a b:List D),zAh a = true → zAh b = true → zAh (a ++ b) = true
 | [],b,_,h=>h
 | d :: a,b,h,h'=>by
   rw [zAh,Bool.and_eq_true] at h
   rw [List.cons_append,zAh,Bool.and_eq_true]
   exact ⟨h.1,norefs_app a b h.2 h'⟩
theorem norefs_flat {T:Ty} (hp:T.pure = true):∀ l:List T.I,zAh ((l.map (e0 T)).flatMap D.cells) = true
 | []=>by simp [zAh]
 | x :: l=>by
   rw [List.map_cons,List.flatMap_cons]
   exact norefs_app _ _ (noref_cells (e0_noref T x hp).1) (norefs_flat hp l)
theorem ones_flat {T:Ty} (hT:T.elem = true):∀ l:List T.I,((l.map (e0 T)).flatMap D.cells).all D.one = true
 | []=>rfl
 | x :: l=>by
   rw [List.map_cons,List.flatMap_cons,List.all_append,Bool.and_eq_true]
   exact ⟨elem_cells hT zCt x,ones_flat hT l⟩
theorem sub_list {α:Type} {p:α → Prop}:∀ ps:List α,(∀ x ∈ ps,p x) → ∃ qs:List {x // p x},qs.map (·.1) = ps
 | [],_=>⟨[],rfl⟩
 | x :: ps,h=>by
   obtain ⟨qs,hq⟩:=sub_list ps fun y hy=>h y (by simp [hy])
   exact ⟨⟨x,h x (by simp)⟩ :: qs,by simp [hq]⟩
theorem sort_sound {f:Nat} (L:SortsAt P f T.w) (c:CmpOk P cc T cap D0 cf) (hT:T.elem = true) (hagg:zBj T = true) (hcall:callable P f) (x0:T.I) (h0:D0 x0) (hx0:∀ own U w,∃ vs,VRels own U w 0 (e0 T x0).cells vs)
   {H:Heap} {r:Nat} {l:List T.I} (hg:H.get r = some (.cells T.w (l.map (e0 T)))) (hl:∀ x ∈ l,D0 x) (hn:l.length < 4611686018427387904) :
   Sound P f [.sl r 0 l.length,.fn (.func cc.f) [] (cap.map (enc zCt))] H fun d H'=>d = .tup [] ∧ ∃ l':List T.I,l'.Perm l ∧ l'.Pairwise (fun a b=>ltOf cf b a = false) ∧ H' = H.set r (some (.cells T.w (l'.map (e0 T)))):=by
 refine ⟨hcall,fun own X w vs hs hv=>?_⟩
 have hTp:=zCN hT
 rw [zCE,VRels] at hv
 obtain ⟨v1,vs1,rfl,hv1,hv⟩:=hv
 rw [VRels] at hv
 obtain ⟨v2,vs2,rfl,hv2,hv⟩:=hv
 rw [VRels] at hv
 subst hv
 rw [VRel] at hv1
 rw [VRel] at hv2
 obtain ⟨_,off,cp,rfl,hm,hoff⟩:=hv1
 obtain ⟨fs0,us,rfl,hfs0,hcap⟩:=hv2
 rw [VRels] at hfs0
 subst hfs0
 obtain ⟨⟨hk,cs,t,hb,hsz,hfit,hcells⟩,hX⟩:=hs.live r _ hg
 generalize hUd:zAN own H X w = U at *
 have hUb:∀ b,U b → b < w.heap.size ∧ b ≠ (own r).b:=fun b h=>by
   rw [← hUd] at h
   exact ⟨h.1,fun e=>h.2.2 r _ hg e.symm⟩
 have hcap':VRels own U w 0 (cap.map (enc zCt)) us:=zCI _ _ (norefs_enc c.pure) hcap
 obtain ⟨hw,hflat⟩:=Cells_flat.1 hcells
 obtain ⟨hone,fs,hfv,hfc⟩:=Flat_values.1 hflat
 obtain ⟨ps,hp1,hp2,hp3⟩:=cut_row hT l fs (zCI _ _ (norefs_flat hTp l) hfv)
 obtain ⟨qs,hqs⟩:∃ qs:List (SE T D0 own U w),qs.map (·.1) = ps:=by
   exact sub_list ps fun p hp=>⟨hl _ (by rw [← hp1];exact List.mem_map_of_mem hp),hp3 p hp⟩
 obtain ⟨vs0,hvs0⟩:=hx0 own U w
 have inst:Inhabited (SE T D0 own U w):=⟨⟨(x0,vs0),h0,by rw [zAj hvs0,← D.width_eq,elem_width hT],hvs0⟩⟩
 have hek:∀ p:SE T D0 own U w,p.e.length = T.w:=fun p=>p.2.2.1
 have hfe:qs.flatMap SE.e = fs:=by rw [← hp2,← hqs,List.flatMap_map];rfl
 have hql:qs.map (fun p=>p.1.1) = l:=by rw [← hp1,← hqs,List.map_map];rfl
 have hqn:qs.length = l.length:=by rw [← hql,List.length_map]
 have hflen:fs.length = l.length * T.w:=by
   rw [← hfe,← hqn]
   clear hfe hql hqn hqs
   induction qs with
   | nil=>simp
   | cons p qs ih=>rw [List.flatMap_cons,List.length_append,ih,hek,List.length_cons,Nat.add_mul];omega
 have hoff':l.length ≠ 0 → off = (own r).base:=fun h=>by
   obtain ⟨h1,_⟩:=hoff (by omega)
   simpa using h1
 have hH:HoldsK (SE.e (D0:=D0) (own:=own) (U:=U) (w:=w)) T.w w (own r).b off qs.toArray:=by
   unfold HoldsK
   rw [flatK_list _ hek,hfe]
   intro j hj
   have hj:j < fs.length:=by simpa using hj
   have hl0:l.length ≠ 0:=fun h=>by rw [h] at hflen;omega
   rw [hoff' hl0]
   refine ⟨?_,?_⟩
   · rw [hfc j hj,List.getElem?_eq_getElem hj,getElem!_pos _ j (by simpa using hj)];simp
   · unfold World.frozen?
     rw [hb];simp
 have hblk:(own r).b < w.heap.size:=by
   rcases Nat.lt_or_ge (own r).b w.heap.size with h | h
   · exact h
   · rw [Array.getElem?_eq_none h] at hb;cases hb
 have h1c:∀ x:SE T D0 own U w,∀ v ∈ x.e,v.oneCell' = true:=fun x=>VRels_one x.2.2.2 (elem_cells hT zCt x.1.1)
 have hC:=L SE.e hek h1c (SE.c cf) c.swo cc.f us.toArray (own r).b off cp qs.toArray w c.enters (cmp_lays c hTp hagg hUb hcap') hH hblk (by simpa [hqn] using hn)
 have ea:(#[]:Array Value) = [].toArray:=rfl
 have en:qs.toArray.size = l.length:=by simp [hqn]
 rw [en] at hC
 refine hC.mono fun e w' hh=>?_
 obtain ⟨rfl,d',n,os,hperm,hsorted,rfl⟩:=hh
 obtain ⟨hds,_,hp⟩:=hperm
 have hds:d'.size = l.length:=by rw [hds,en]
 have hp:d'.toList.Perm qs:=by
   have e1:(d'.extract 0 l.length).toList = d'.toList:=by rw [← hds];simp
   have e2:(qs.toArray.extract 0 l.length).toList = qs:=by rw [← hqn];simp
   rw [e1,e2] at hp;exact hp
 have hw1:(putRowK SE.e T.w (Sort.ahead w n) (own r).b off d').heap = w.heap.setIfInBounds (own r).b (.cells (putCells id off (flatK SE.e T.w d') cs) t (0,0)):=by
   unfold putRowK Go.Sort.putRow mapBlock Sort.ahead
   apply Array.ext_getElem?
   intro i
   simp only
   rw [Array.getElem?_modify,Array.getElem?_setIfInBounds]
   by_cases e:(own r).b = i
   · subst e
     rw [if_pos rfl,if_pos rfl,hb,if_pos hblk];rfl
   · rw [if_neg e,if_neg e]
 have hH':HoldsK SE.e T.w (putRowK SE.e T.w (Sort.ahead w n) (own r).b off d') (own r).b off d' :=
   holdsK_putRowK SE.e T.w (Sort.ahead w n) (own r).b off qs.toArray d' (holdsK_ahead SE.e T.w w n (own r).b off _ hH) (by rw [hds,en])
 have hfl:flatK SE.e T.w d' = (d'.toList.flatMap SE.e).toArray:=by
   have:=flatK_list SE.e hek d'.toList
   simpa using this
 have hlen':d'.toList.length = l.length:=by simpa using hds
 have hdl:(d'.toList.flatMap SE.e).length = l.length * T.w:=by
   rw [← hlen']
   generalize d'.toList = q
   induction q with
   | nil=>simp
   | cons p q ih=>rw [List.flatMap_cons,List.length_append,ih,hek,List.length_cons,Nat.add_mul];omega
 obtain ⟨hs1,hx1⟩:=step_set (row':=.cells T.w ((d'.toList.map fun p=>p.1.1).map (e0 T))) hs hg _ hw1 (fun hext hobj=>by
   have hcellsz:(putCells id off (flatK SE.e T.w d') cs).size = cs.size:=by simp [putCells]
   refine ⟨hk,_,t,hobj,by rw [hcellsz];exact hsz,by simpa [hlen'] using hfit,Cells_flat.2 ⟨fun d hd=>?_,Flat_values.2 ⟨ones_flat hT _,d'.toList.flatMap SE.e,?_,fun i hi=>?_⟩⟩⟩
   · obtain ⟨x,_,rfl⟩:=List.mem_map.1 hd
     exact elem_width hT zCt x
   · have hj:=join_row (own:=own) (U:=U) (w:=w) (d'.toList.map (·.1)) (fun p hp'=>by
       obtain ⟨q,_,rfl⟩:=List.mem_map.1 hp'
       exact q.2.2.2)
     have h2:(d'.toList.map (·.1)).flatMap (·.2) = d'.toList.flatMap SE.e:=by rw [List.flatMap_map];rfl
     have h3:((d'.toList.map (·.1)).map fun p=>e0 T p.1) = (d'.toList.map fun p=>p.1.1).map (e0 T):=by rw [List.map_map,List.map_map];rfl
     rw [h2,h3] at hj
     refine VRels.mono (own:=own) (U:=U) (w:=w) (n:=0) ⟨Nat.zero_le _,fun r h=>absurd h (Nat.not_lt_zero _),fun b hb'=>?_,fun b hb'=>?_⟩ _ _ hj
     · exact (hext.hb b (by rw [hUd];exact hb')).1
     · exact zBv (hext.hb b (by rw [hUd];exact hb')).2
   · have hl0:l.length ≠ 0:=fun h=>by rw [h] at hdl;omega
     have:=(hH' i (by rw [hfl];simpa using hi)).1
     rw [hfl] at this
     rw [← hoff' hl0,this,List.getElem?_eq_getElem hi,getElem!_pos _ i (by simpa using hi)];simp) ⟨rfl,rfl,rfl,fun _=>Nat.le_add_right _ _⟩
 obtain ⟨hs2,hx2⟩:=Sim.outlives (own':=own) (X':=X) (w':=sortWorldK SE.e T.w w (own r).b off n d' os) hs1 (fun _ h=>h) (fun b hb'=>by
   unfold sortWorldK grow
   simp only
   rw [Array.getElem?_append_left hb']) (by unfold sortWorldK grow;simp) ⟨rfl,rfl,rfl,fun _=>Nat.le_refl _⟩
 refine ⟨own,.tup [],_,_,rfl,hs2,?_,Ext.trans hx1 hx2,rfl,d'.toList.map fun p=>p.1.1,?_,?_,rfl⟩
 · rw [Rel,VRel];exact ⟨[],rfl,by rw [VRels]⟩
 · rw [← hql];exact hp.map _
 · rw [List.pairwise_map]
   rw [List.pairwise_iff_getElem]
   intro i j hi hj hij
   have hi':i < d'.size:=by simpa using hi
   have hj':j < d'.size:=by simpa using hj
   have:=hsorted i j (Nat.zero_le _) hij (by omega)
   rw [getElem!_pos _ i hi',getElem!_pos _ j hj'] at this
   simp only [List.getElem_map,Array.getElem_toList]
   exact this
end
end Go.T
namespace Go.Pl
open Go.T
section
variable {R S E A α σ:Type}
theorem zCA {x y:Option R} {b:Bool} (h:b = true):sel b x y = x:=by subst h;rfl
theorem zBU {x y:Option R} {b:Bool} (h:b = false):sel b x y = y:=by subst h;rfl
theorem zAY {x:Option R} {b:Bool} (h:b = true):need b x = x:=by subst h;rfl
theorem zAd {x:Option A} {a:A} {k:A → Option R} (h:x = some a):call x k = k a:=by subst h;rfl
theorem call_b (a:A) (k:A → Option R):call (some a) k = k a:=rfl
theorem join_l {x:Option (S ⊕ R)} {s:S} {k:S → Option R} (h:x = some (.inl s)):join x k = k s:=by subst h;rfl
theorem join_r {x:Option (S ⊕ R)} {r:R} {k:S → Option R} (h:x = some (.inr r)):join x k = some r:=by subst h;rfl
theorem zCg (s:S) (k:S → Option R):join (some (.inl s)) k = k s:=rfl
theorem pick_or (a b:Bool):zAH a true b = (a || b):=by cases a <;> rfl
theorem zCu (a b:Bool):zAH a b false = (a && b):=by cases a <;> rfl
theorem zBy (a b:Int):ilt a b = decide (a < b):=rfl
theorem ile_d (a b:Int):ile a b = decide (a ≤ b):=rfl
theorem ieq_d (a b:Int):ieq a b = decide (a = b):=by unfold ieq;by_cases h:a = b <;> simp [h]
theorem ine_d (a b:Int):ine a b = decide (a ≠ b):=by unfold ine;by_cases h:a = b <;> simp [h]
theorem zCB (n:Nat):n2i n = (n:Int):=rfl
theorem i2n_c (n:Nat):i2n (n:Int) = n:=rfl
theorem zBC (l:List α):zAL l = l.length:=rfl
theorem inL_d (j:Int) (n:Nat):inL j n = (decide (0 ≤ j) && decide (j < n)):=rfl
theorem inL_t {i n:Nat} (h:i < n):inL (i:Int) n = true:=by rw [inL_d];simp;omega
theorem lget_t {d:α} {l:List α} {n:Nat} (h:n < l.length):zAJ d l n = l[n]:=by simp [zAJ,h]
theorem sel_i (p:Prop) [Decidable p] (x y:Option R):sel (decide p) x y = if p then x else y:=by unfold sel;by_cases h:p <;> simp [h]
theorem impl_t {a b:Bool} (h:a = true → b = true):impl a b = true:=by cases a <;> simp_all [impl]
theorem bnot_d (b:Bool):zCQ b = !b:=rfl
theorem band_d (a b:Bool):band a b = (a && b):=rfl
theorem iterN_succ {body:S → Option (S ⊕ E)}:∀ {n s e},iterN body n s = some e → iterN body (n + 1) s = some e
 | 0,s,e,h=>by cases h
 | n + 1,s,e,h=>by
   rw [iterN] at h ⊢
   cases hb:body s with
   | none=>rw [hb] at h;cases h
   | some o =>
     rw [hb] at h
     cases o with
     | inl s'=>exact iterN_succ h
     | inr e'=>exact h
theorem iterN_le {body:S → Option (S ⊕ E)} {n m s e} (hm:n ≤ m) (h:iterN body n s = some e):iterN body m s = some e:=by
 induction hm with
 | refl=>exact h
 | step _ ih=>exact iterN_succ ih
theorem iter_of {body:S → Option (S ⊕ E)} {n s e} (h:iterN body n s = some e):zCv body s = some e:=by
 have hx:∃ n e,iterN body n s = some e:=⟨n,e,h⟩
 unfold zCv
 rw [dif_pos hx]
 have h2:=Classical.choose_spec (Classical.choose_spec hx)
 have a:=iterN_le (Nat.le_max_left n (Classical.choose hx)) h
 have b:=iterN_le (Nat.le_max_right n (Classical.choose hx)) h2
 rw [a] at b;exact b.symm
theorem iter_r {body:S → Option (S ⊕ E)} {s e} (h:body s = some (.inr e)):zCv body s = some e:=iter_of (n:=1) (by rw [iterN,h])
theorem iter_l {body:S → Option (S ⊕ E)} {s s' e} (h:body s = some (.inl s')) (h':zCv body s' = some e):zCv body s = some e:=by
 obtain ⟨n,hn⟩:=iter_some h'
 exact iter_of (n:=n + 1) (by rw [iterN,h];exact hn)
theorem join_of {x:Option (S ⊕ R)} {o:S ⊕ R} (k:S → Option R) (h:x = some o):join x k = Sum.elim k some o:=by subst h;cases o <;> rfl
end
section
variable {R S S' E:Type}
theorem iter_wf {body:S → Option (S ⊕ E)} (P:S → Prop) (μ:S → Nat) (Q:E → Prop)
   (h:∀ s,P s → (∃ s',body s = some (.inl s') ∧ P s' ∧ μ s' < μ s) ∨ (∃ e,body s = some (.inr e) ∧ Q e)) :
   ∀ s,P s → ∃ e,zCv body s = some e ∧ Q e:=by
 intro s
 induction hn:μ s using Nat.strongRecOn generalizing s with
 | _ n ih =>
   intro hP
   rcases h s hP with ⟨s',h1,h2,h3⟩ | ⟨e,h1,h2⟩
   · obtain ⟨e,e1,e2⟩:=ih (μ s') (by omega) s' rfl h2
     exact ⟨e,iter_l h1 e1,e2⟩
   · exact ⟨e,iter_r h1,h2⟩
theorem join_wf {body:S → Option (S ⊕ (S' ⊕ R))} {k:S' → Option R} {G:R → Prop} {s:S} (P:S → Prop) (μ:S → Nat) (Q:S' ⊕ R → Prop) (h0:P s)
   (h:∀ s,P s → (∃ s',body s = some (.inl s') ∧ P s' ∧ μ s' < μ s) ∨ (∃ e,body s = some (.inr e) ∧ Q e))
   (hk:∀ e,Q e → ∃ y,Sum.elim k some e = some y ∧ G y):∃ y,join (zCv body s) k = some y ∧ G y:=by
 obtain ⟨e,e1,e2⟩:=iter_wf P μ Q h s h0
 obtain ⟨y,y1,y2⟩:=hk e e2
 exact ⟨y,(join_of k e1).trans y1,y2⟩
end
end Go.Pl
namespace Go.Proofs.Ytbhcfbnkdbioaaa.AbT
open Go Go.Ab
variable [Go.Ab.DM]
set_option linter.defProp false
theorem un23:Try.prog.underlying 23 = some (.slice 45):=by kernel_rfl
theorem lef23 {k:Nat} {xs:List D} {D1:D → Prop}:zAc Try.prog .len #[23] [.fz k xs] D1 = D1 (.v (.int .i64 xs.length)):=len_fz rfl un23
theorem les23 {r j len:Nat} {D1:D → Prop}:zAc Try.prog .len #[23] [.sl r j len] D1 = D1 (.v (.int .i64 len)):=len_sl rfl un23
theorem len23 {D1:D → Prop}:zAc Try.prog .len #[23] [.v (.slice none 0 0)] D1 = D1 (.v (.int .i64 0)):=len_nil rfl un23
theorem ldf_23 {H:Heap} {k:Nat} {xs:List D}:lenD Try.prog #[23] H (.fz k xs) = some (.v (.int .i64 xs.length)):=lend_fz un23
theorem lds_23 {H:Heap} {r i m:Nat}:lenD Try.prog #[23] H (.sl r i m) = some (.v (.int .i64 m)):=lend_sl un23
theorem ldc_23 {H:Heap} {r i m c:Nat}:lenD Try.prog #[23] H (.slc r i m c) = some (.v (.int .i64 m)):=lend_slc un23
theorem ldn_23 {H:Heap}:lenD Try.prog #[23] H (.v (.slice none 0 0)) = some (.v (.int .i64 0)):=lend_nil un23
theorem un48:Try.prog.underlying 48 = some (.slice 51):=by kernel_rfl
theorem lef48 {k:Nat} {xs:List D} {D1:D → Prop}:zAc Try.prog .len #[48] [.fz k xs] D1 = D1 (.v (.int .i64 xs.length)):=len_fz rfl un48
theorem les48 {r j len:Nat} {D1:D → Prop}:zAc Try.prog .len #[48] [.sl r j len] D1 = D1 (.v (.int .i64 len)):=len_sl rfl un48
theorem len48 {D1:D → Prop}:zAc Try.prog .len #[48] [.v (.slice none 0 0)] D1 = D1 (.v (.int .i64 0)):=len_nil rfl un48
theorem ldf_48 {H:Heap} {k:Nat} {xs:List D}:lenD Try.prog #[48] H (.fz k xs) = some (.v (.int .i64 xs.length)):=lend_fz un48
theorem lds_48 {H:Heap} {r i m:Nat}:lenD Try.prog #[48] H (.sl r i m) = some (.v (.int .i64 m)):=lend_sl un48
theorem ldc_48 {H:Heap} {r i m c:Nat}:lenD Try.prog #[48] H (.slc r i m c) = some (.v (.int .i64 m)):=lend_slc un48
theorem ldn_48 {H:Heap}:lenD Try.prog #[48] H (.v (.slice none 0 0)) = some (.v (.int .i64 0)):=lend_nil un48
theorem el48:zAx Try.prog 48 = some 51:=by kernel_rfl
theorem sz51:tsz Try.prog 51 = some 3:=by kernel_rfl
theorem ixs48 {H:Heap} {r j len:Nat} {n:Int} {jk:IntKind} {D1:D → Prop}:zAi Try.prog 48 H (.sl r j len) (.v (.int jk n)) D1 = zAO (rowK (H.get r) = some 3) (zAO (0 ≤ n ∧ n < len) (D1 (.pt r (j + n.toNat) 0)) .mk) .mk:=ix_sl el48 sz51
theorem ixf48 {H:Heap} {xs:List D} {n:Int} {jk:IntKind} {D1:D → Prop}:zAi Try.prog 48 H (.fz 3 xs) (.v (.int jk n)) D1 = zAO (0 ≤ n ∧ n < xs.length) (D1 (.fp 3 xs n.toNat 0)) .mk:=zDG el48 sz51
theorem ag51:tag Try.prog 51 = some true:=by kernel_rfl
theorem ldp51 {H:Heap} {r j o:Nat}:ldD Try.prog 51 H (.pt r j o) = ((rowXs (H.get r)).bind fun xs=>xs[j]?).bind (zBE true 3 · o):=ld_pt ag51 sz51
theorem ldf51 {H:Heap} {k j o:Nat} {xs:List D}:ldD Try.prog 51 H (.fp k xs j o) = (xs[j]?).bind (zBE true 3 · o):=ldD_fp ag51 sz51
theorem ze51:zCJ Try.prog 51 = some (.agg [(.v (.string ⟨#[]⟩)),(.v (.int .i64 0)),(.v (.int .i64 0))]):=by kernel_rfl
theorem al51 {H:Heap} {C:D → Heap → Prop}:aAlloc Try.prog 51 H C = zAO (D.lies (.agg [(.v (.string ⟨#[]⟩)),(.v (.int .i64 0)),(.v (.int .i64 0))]) = true) (C (.pt H.length 0 0) (H ++ [some (.cells (D.width (.agg [(.v (.string ⟨#[]⟩)),(.v (.int .i64 0)),(.v (.int .i64 0))])) [(.agg [(.v (.string ⟨#[]⟩)),(.v (.int .i64 0)),(.v (.int .i64 0))])])])) .mk:=alloc_z ze51
theorem stp51 {H:Heap} {r j o:Nat} {x:D}:stD Try.prog 51 H (.pt r j o) x = stRow H r j true 3 o x (H.get r):=st_pt ag51 sz51
theorem fl51_0:tfld Try.prog 51 0 = some (0,9):=by kernel_rfl
theorem sz9:tsz Try.prog 9 = some 1:=by kernel_rfl
theorem fap51_0 {r i o:Nat} {D1:D → Prop}:zAR Try.prog 51 (.pt r i o) 0 D1 = D1 (.pt r i (o + 0)):=zBO fl51_0 sz9
theorem faf51_0 {k i o:Nat} {xs:List D} {D1:D → Prop}:zAR Try.prog 51 (.fp k xs i o) 0 D1 = D1 (.fp k xs i (o + 0)):=zBP fl51_0 sz9
theorem ag9:tag Try.prog 9 = some false:=by kernel_rfl
theorem ldp9 {H:Heap} {r j o:Nat}:ldD Try.prog 9 H (.pt r j o) = ((rowXs (H.get r)).bind fun xs=>xs[j]?).bind (zBE false 1 · o):=ld_pt ag9 sz9
theorem ldf9 {H:Heap} {k j o:Nat} {xs:List D}:ldD Try.prog 9 H (.fp k xs j o) = (xs[j]?).bind (zBE false 1 · o):=ldD_fp ag9 sz9
theorem fl51_2:tfld Try.prog 51 2 = some (2,3):=by kernel_rfl
theorem sz3:tsz Try.prog 3 = some 1:=by kernel_rfl
theorem fap51_2 {r i o:Nat} {D1:D → Prop}:zAR Try.prog 51 (.pt r i o) 2 D1 = D1 (.pt r i (o + 2)):=zBO fl51_2 sz3
theorem faf51_2 {k i o:Nat} {xs:List D} {D1:D → Prop}:zAR Try.prog 51 (.fp k xs i o) 2 D1 = D1 (.fp k xs i (o + 2)):=zBP fl51_2 sz3
theorem ag3:tag Try.prog 3 = some false:=by kernel_rfl
theorem ldp3 {H:Heap} {r j o:Nat}:ldD Try.prog 3 H (.pt r j o) = ((rowXs (H.get r)).bind fun xs=>xs[j]?).bind (zBE false 1 · o):=ld_pt ag3 sz3
theorem ldf3 {H:Heap} {k j o:Nat} {xs:List D}:ldD Try.prog 3 H (.fp k xs j o) = (xs[j]?).bind (zBE false 1 · o):=ldD_fp ag3 sz3
theorem el38:zAx Try.prog 38 = some 9:=by kernel_rfl
theorem zs38:((Try.prog.info? 9).bind (·.zero)).isSome = true:=by kernel_rfl
theorem bs38 {n:Nat} {ps:List (Nat × D)} {H:Heap} {C:D → Heap → Prop}:zAy Try.prog 38 n ps H C = zAO ((ps.map (·.1) = List.range n) ∧ n * 1 ≤ 16777216 ∧ (ps.all fun p=>p.2.width == 1 && p.2.lies) = true) (C (.sl H.length 0 n) (H ++ [some (.cells 1 (ps.map (·.2)))])) .mk:=zDJ el38 sz9 zs38
theorem by9:tby Try.prog 9 = some 16:=by kernel_rfl
theorem ze9:zCJ Try.prog 9 = some (.v (.string ⟨#[]⟩)):=by kernel_rfl
theorem ii38:isIntT Try.prog 38 = some false:=by kernel_rfl
theorem aps38_38 {H:Heap} {r i m:Nat} {x:D} {C:D → Heap → Prop}:zAf Try.prog #[38,38] [.sl r i m,x] H C = okL (zAv H 1 x.wk) fun ys=>okR (H.get r) 1 fun xs=>zAO (i + m = xs.length ∧ (m + ys.length) * 16 ≤ 140737488355328) (C (.sl H.length 0 (m + ys.length)) (H.set r none ++ [some (.cells 1 (xs.drop i ++ ys))])) .mk:=append_sl rfl rfl el38 sz9 by9 ze9 rfl ii38
theorem apn38_38 {H:Heap} {x:D} {C:D → Heap → Prop}:zAf Try.prog #[38,38] [.v (.slice none 0 0),x] H C = okL (zAv H 1 x.wk) fun ys=>zAO (ys.length * 16 ≤ 140737488355328) (nilK ys (C (.v (.slice none 0 0)) H) (C (.sl H.length 0 ys.length) (H ++ [some (.cells 1 ys)])) .mk) .mk:=append_nil rfl rfl el38 sz9 by9 ze9 rfl ii38
theorem apc38_38 {H:Heap} {r i m c:Nat} {x:D} {C:D → Heap → Prop}:zAf Try.prog #[38,38] [.slc r i m c,x] H C = okL (zAv H 1 x.wk) fun ys=>okR (H.get r) 1 fun xs=>zAO (m + ys.length ≤ c ∧ i + c ≤ xs.length) (C (.slc r i (m + ys.length) c) (H.set r (some (.cells 1 (zDD xs (i + m) ys))))) .mk:=append_slc rfl rfl el38 sz9 ii38
theorem fl51_1:tfld Try.prog 51 1 = some (1,3):=by kernel_rfl
theorem fap51_1 {r i o:Nat} {D1:D → Prop}:zAR Try.prog 51 (.pt r i o) 1 D1 = D1 (.pt r i (o + 1)):=zBO fl51_1 sz3
theorem faf51_1 {k i o:Nat} {xs:List D} {D1:D → Prop}:zAR Try.prog 51 (.fp k xs i o) 1 D1 = D1 (.fp k xs i (o + 1)):=zBP fl51_1 sz3
theorem el23:zAx Try.prog 23 = some 45:=by kernel_rfl
theorem sz45:tsz Try.prog 45 = some 3:=by kernel_rfl
theorem ixs23 {H:Heap} {r j len:Nat} {n:Int} {jk:IntKind} {D1:D → Prop}:zAi Try.prog 23 H (.sl r j len) (.v (.int jk n)) D1 = zAO (rowK (H.get r) = some 3) (zAO (0 ≤ n ∧ n < len) (D1 (.pt r (j + n.toNat) 0)) .mk) .mk:=ix_sl el23 sz45
theorem ixf23 {H:Heap} {xs:List D} {n:Int} {jk:IntKind} {D1:D → Prop}:zAi Try.prog 23 H (.fz 3 xs) (.v (.int jk n)) D1 = zAO (0 ≤ n ∧ n < xs.length) (D1 (.fp 3 xs n.toNat 0)) .mk:=zDG el23 sz45
theorem ag45:tag Try.prog 45 = some true:=by kernel_rfl
theorem ldp45 {H:Heap} {r j o:Nat}:ldD Try.prog 45 H (.pt r j o) = ((rowXs (H.get r)).bind fun xs=>xs[j]?).bind (zBE true 3 · o):=ld_pt ag45 sz45
theorem ldf45 {H:Heap} {k j o:Nat} {xs:List D}:ldD Try.prog 45 H (.fp k xs j o) = (xs[j]?).bind (zBE true 3 · o):=ldD_fp ag45 sz45
theorem ze45:zCJ Try.prog 45 = some (.agg [(.v (.int .i64 0)),(.v (.string ⟨#[]⟩)),(.v (.int .i64 0))]):=by kernel_rfl
theorem al45 {H:Heap} {C:D → Heap → Prop}:aAlloc Try.prog 45 H C = zAO (D.lies (.agg [(.v (.int .i64 0)),(.v (.string ⟨#[]⟩)),(.v (.int .i64 0))]) = true) (C (.pt H.length 0 0) (H ++ [some (.cells (D.width (.agg [(.v (.int .i64 0)),(.v (.string ⟨#[]⟩)),(.v (.int .i64 0))])) [(.agg [(.v (.int .i64 0)),(.v (.string ⟨#[]⟩)),(.v (.int .i64 0))])])])) .mk:=alloc_z ze45
theorem stp45 {H:Heap} {r j o:Nat} {x:D}:stD Try.prog 45 H (.pt r j o) x = stRow H r j true 3 o x (H.get r):=st_pt ag45 sz45
theorem fl45_1:tfld Try.prog 45 1 = some (1,9):=by kernel_rfl
theorem fap45_1 {r i o:Nat} {D1:D → Prop}:zAR Try.prog 45 (.pt r i o) 1 D1 = D1 (.pt r i (o + 1)):=zBO fl45_1 sz9
theorem faf45_1 {k i o:Nat} {xs:List D} {D1:D → Prop}:zAR Try.prog 45 (.fp k xs i o) 1 D1 = D1 (.fp k xs i (o + 1)):=zBP fl45_1 sz9
theorem ze40:zCJ Try.prog 40 = some (.agg [(.v (.slice none 0 0)),(.v (.int .i64 0))]):=by kernel_rfl
theorem fs40:fieldsOf Try.prog 40 = some [(0,1),(1,1)]:=by kernel_rfl
theorem bd40 {ps:List (Nat × D)} {D1:D → Prop}:aBuild Try.prog 40 ps D1 = okK ((fillD (([(0,1),(1,1)]:List (Nat × Nat))[·]?) [(.v (.slice none 0 0)),(.v (.int .i64 0))] ps).map .agg) D1:=build_z ze40 fs40
theorem un38:Try.prog.underlying 38 = some (.slice 9):=by kernel_rfl
theorem sls38 {H:Heap} {r j len:Nat} {lo hi:Option D} {D1:D → Prop} {tg:Tag (zAe Try.prog 38 (.sl r j len) lo hi none D1) (zAe Try.prog 38 (.sl r j len) lo hi none D1)}:zAO (zBB Try.prog 38 H (.sl r j len)) (zAe Try.prog 38 (.sl r j len) lo hi none D1) tg = zAO (rowK (H.get r) = some 1) (okZ (zAS (.v (.int .i64 0)) lo) fun l=>okZ (zAS (.v (.int .i64 len)) hi) fun h=>zAO (0 ≤ l ∧ l ≤ h ∧ h ≤ len) (D1 (.sl r (j + l.toNat) (h.toNat - l.toNat))) .mk) .mk:=slice_sl un38 sz9
theorem slf38 {H:Heap} {xs:List D} {lo hi:Option D} {D1:D → Prop} {tg:Tag (zAe Try.prog 38 (.fz 1 xs) lo hi none D1) (zAe Try.prog 38 (.fz 1 xs) lo hi none D1)}:zAO (zBB Try.prog 38 H (.fz 1 xs)) (zAe Try.prog 38 (.fz 1 xs) lo hi none D1) tg = okZ (zAS (.v (.int .i64 0)) lo) fun l=>okZ (zAS (.v (.int .i64 xs.length)) hi) fun h=>zAO (0 ≤ l ∧ l ≤ h ∧ h ≤ xs.length) (D1 (.fz 1 ((xs.drop l.toNat).take (h.toNat - l.toNat)))) .mk:=slice_fz un38 sz9
theorem sln38 {H:Heap}  {lo hi:Option D} {D1:D → Prop} {tg:Tag (zAe Try.prog 38 (.v (.slice none 0 0)) lo hi none D1) (zAe Try.prog 38 (.v (.slice none 0 0)) lo hi none D1)}:zAO (zBB Try.prog 38 H (.v (.slice none 0 0))) (zAe Try.prog 38 (.v (.slice none 0 0)) lo hi none D1) tg = okZ (zAS (.v (.int .i64 0)) lo) fun l=>okZ (zAS (.v (.int .i64 0)) hi) fun h=>zAO (l = 0 ∧ h = 0) (D1 (.v (.slice none 0 0))) .mk:=slice_nil un38 sz9
theorem slc38 {H:Heap} {r i m c:Nat} {lo hi:Option D} {D1:D → Prop}:zCR Try.prog 38 H (.slc r i m c) lo hi none D1 = zAO (rowK (H.get r) = some 1) (okZ (zAS (.v (.int .i64 0)) lo) fun l=>okZ (zAS (.v (.int .i64 m)) hi) fun h=>zAO (0 ≤ l ∧ l ≤ h ∧ h ≤ c) (D1 (.slc r (i + l.toNat) (h.toNat - l.toNat) (c - l.toNat))) .mk) .mk:=slice_slc el38 sz9
theorem el35:zAx Try.prog 35 = some 40:=by kernel_rfl
theorem sz40:tsz Try.prog 40 = some 2:=by kernel_rfl
theorem zs35:((Try.prog.info? 40).bind (·.zero)).isSome = true:=by kernel_rfl
theorem bs35 {n:Nat} {ps:List (Nat × D)} {H:Heap} {C:D → Heap → Prop}:zAy Try.prog 35 n ps H C = zAO ((ps.map (·.1) = List.range n) ∧ n * 2 ≤ 16777216 ∧ (ps.all fun p=>p.2.width == 2 && p.2.lies) = true) (C (.sl H.length 0 n) (H ++ [some (.cells 2 (ps.map (·.2)))])) .mk:=zDJ el35 sz40 zs35
theorem fs51:fieldsOf Try.prog 51 = some [(0,1),(1,1),(2,1)]:=by kernel_rfl
theorem bd51 {ps:List (Nat × D)} {D1:D → Prop}:aBuild Try.prog 51 ps D1 = okK ((fillD (([(0,1),(1,1),(2,1)]:List (Nat × Nat))[·]?) [(.v (.string ⟨#[]⟩)),(.v (.int .i64 0)),(.v (.int .i64 0))] ps).map .agg) D1:=build_z ze51 fs51
theorem zs48:((Try.prog.info? 51).bind (·.zero)).isSome = true:=by kernel_rfl
theorem bs48 {n:Nat} {ps:List (Nat × D)} {H:Heap} {C:D → Heap → Prop}:zAy Try.prog 48 n ps H C = zAO ((ps.map (·.1) = List.range n) ∧ n * 3 ≤ 16777216 ∧ (ps.all fun p=>p.2.width == 3 && p.2.lies) = true) (C (.sl H.length 0 n) (H ++ [some (.cells 3 (ps.map (·.2)))])) .mk:=zDJ el48 sz51 zs48
theorem un35:Try.prog.underlying 35 = some (.slice 40):=by kernel_rfl
theorem lef35 {k:Nat} {xs:List D} {D1:D → Prop}:zAc Try.prog .len #[35] [.fz k xs] D1 = D1 (.v (.int .i64 xs.length)):=len_fz rfl un35
theorem les35 {r j len:Nat} {D1:D → Prop}:zAc Try.prog .len #[35] [.sl r j len] D1 = D1 (.v (.int .i64 len)):=len_sl rfl un35
theorem len35 {D1:D → Prop}:zAc Try.prog .len #[35] [.v (.slice none 0 0)] D1 = D1 (.v (.int .i64 0)):=len_nil rfl un35
theorem ldf_35 {H:Heap} {k:Nat} {xs:List D}:lenD Try.prog #[35] H (.fz k xs) = some (.v (.int .i64 xs.length)):=lend_fz un35
theorem lds_35 {H:Heap} {r i m:Nat}:lenD Try.prog #[35] H (.sl r i m) = some (.v (.int .i64 m)):=lend_sl un35
theorem ldc_35 {H:Heap} {r i m c:Nat}:lenD Try.prog #[35] H (.slc r i m c) = some (.v (.int .i64 m)):=lend_slc un35
theorem ldn_35 {H:Heap}:lenD Try.prog #[35] H (.v (.slice none 0 0)) = some (.v (.int .i64 0)):=lend_nil un35
theorem ixs35 {H:Heap} {r j len:Nat} {n:Int} {jk:IntKind} {D1:D → Prop}:zAi Try.prog 35 H (.sl r j len) (.v (.int jk n)) D1 = zAO (rowK (H.get r) = some 2) (zAO (0 ≤ n ∧ n < len) (D1 (.pt r (j + n.toNat) 0)) .mk) .mk:=ix_sl el35 sz40
theorem ixf35 {H:Heap} {xs:List D} {n:Int} {jk:IntKind} {D1:D → Prop}:zAi Try.prog 35 H (.fz 2 xs) (.v (.int jk n)) D1 = zAO (0 ≤ n ∧ n < xs.length) (D1 (.fp 2 xs n.toNat 0)) .mk:=zDG el35 sz40
theorem fl40_0:tfld Try.prog 40 0 = some (0,38):=by kernel_rfl
theorem sz38:tsz Try.prog 38 = some 1:=by kernel_rfl
theorem fap40_0 {r i o:Nat} {D1:D → Prop}:zAR Try.prog 40 (.pt r i o) 0 D1 = D1 (.pt r i (o + 0)):=zBO fl40_0 sz38
theorem faf40_0 {k i o:Nat} {xs:List D} {D1:D → Prop}:zAR Try.prog 40 (.fp k xs i o) 0 D1 = D1 (.fp k xs i (o + 0)):=zBP fl40_0 sz38
theorem ag38:tag Try.prog 38 = some false:=by kernel_rfl
theorem ldp38 {H:Heap} {r j o:Nat}:ldD Try.prog 38 H (.pt r j o) = ((rowXs (H.get r)).bind fun xs=>xs[j]?).bind (zBE false 1 · o):=ld_pt ag38 sz38
theorem ldf38 {H:Heap} {k j o:Nat} {xs:List D}:ldD Try.prog 38 H (.fp k xs j o) = (xs[j]?).bind (zBE false 1 · o):=ldD_fp ag38 sz38
theorem fl40_1:tfld Try.prog 40 1 = some (1,3):=by kernel_rfl
theorem fap40_1 {r i o:Nat} {D1:D → Prop}:zAR Try.prog 40 (.pt r i o) 1 D1 = D1 (.pt r i (o + 1)):=zBO fl40_1 sz3
theorem faf40_1 {k i o:Nat} {xs:List D} {D1:D → Prop}:zAR Try.prog 40 (.fp k xs i o) 1 D1 = D1 (.fp k xs i (o + 1)):=zBP fl40_1 sz3
theorem gd45:Try.prog.eqGuardType Try.prog.depth 45 = false:=by kernel_rfl
theorem agneq45 {xs ys:List D} {D1:D → Prop}:aEqAgg Try.prog .neq 45 xs ys D1 = okB (eqD Try.prog 12 45 (.agg xs) (.agg ys)) fun b=>D1 (.v (.bool !b)):=agg_neq gd45
theorem el61:zAx Try.prog 61 = some 4:=by kernel_rfl
theorem sz4:tsz Try.prog 4 = some 1:=by kernel_rfl
theorem by4:tby Try.prog 4 = some 1:=by kernel_rfl
theorem ze4:zCJ Try.prog 4 = some (.v (.bool false)):=by kernel_rfl
theorem mk61 {k1 k2:IntKind} {l c:Int} {H:Heap} {C:D → Heap → Prop}:zBb Try.prog 61 (.v (.int k1 l)) (.v (.int k2 c)) H C = zAO (0 ≤ l ∧ l ≤ c ∧ c * (1:Nat) ≤ 281474976710656 ∧ c ≤ 281474976710656) (orK (C (.slc H.length 0 l.toNat c.toNat) (H ++ [some (.cells 1 (List.replicate c.toNat (.v (.bool false))))])) (C (.sl H.length 0 l.toNat) (H ++ [some (.cells 1 (List.replicate l.toNat (.v (.bool false))))])) .mk) .mk:=make_z el61 sz4 by4 ze4 rfl rfl
theorem fl45_0:tfld Try.prog 45 0 = some (0,3):=by kernel_rfl
theorem fap45_0 {r i o:Nat} {D1:D → Prop}:zAR Try.prog 45 (.pt r i o) 0 D1 = D1 (.pt r i (o + 0)):=zBO fl45_0 sz3
theorem faf45_0 {k i o:Nat} {xs:List D} {D1:D → Prop}:zAR Try.prog 45 (.fp k xs i o) 0 D1 = D1 (.fp k xs i (o + 0)):=zBP fl45_0 sz3
theorem ixs61 {H:Heap} {r j len:Nat} {n:Int} {jk:IntKind} {D1:D → Prop}:zAi Try.prog 61 H (.sl r j len) (.v (.int jk n)) D1 = zAO (rowK (H.get r) = some 1) (zAO (0 ≤ n ∧ n < len) (D1 (.pt r (j + n.toNat) 0)) .mk) .mk:=ix_sl el61 sz4
theorem ixf61 {H:Heap} {xs:List D} {n:Int} {jk:IntKind} {D1:D → Prop}:zAi Try.prog 61 H (.fz 1 xs) (.v (.int jk n)) D1 = zAO (0 ≤ n ∧ n < xs.length) (D1 (.fp 1 xs n.toNat 0)) .mk:=zDG el61 sz4
theorem ag4:tag Try.prog 4 = some false:=by kernel_rfl
theorem ldp4 {H:Heap} {r j o:Nat}:ldD Try.prog 4 H (.pt r j o) = ((rowXs (H.get r)).bind fun xs=>xs[j]?).bind (zBE false 1 · o):=ld_pt ag4 sz4
theorem ldf4 {H:Heap} {k j o:Nat} {xs:List D}:ldD Try.prog 4 H (.fp k xs j o) = (xs[j]?).bind (zBE false 1 · o):=ldD_fp ag4 sz4
theorem stp4 {H:Heap} {r j o:Nat} {x:D}:stD Try.prog 4 H (.pt r j o) x = stRow H r j false 1 o x (H.get r):=st_pt ag4 sz4
theorem fl45_2:tfld Try.prog 45 2 = some (2,3):=by kernel_rfl
theorem fap45_2 {r i o:Nat} {D1:D → Prop}:zAR Try.prog 45 (.pt r i o) 2 D1 = D1 (.pt r i (o + 2)):=zBO fl45_2 sz3
theorem faf45_2 {k i o:Nat} {xs:List D} {D1:D → Prop}:zAR Try.prog 45 (.fp k xs i o) 2 D1 = D1 (.fp k xs i (o + 2)):=zBP fl45_2 sz3
theorem ag40:tag Try.prog 40 = some true:=by kernel_rfl
theorem ldp40 {H:Heap} {r j o:Nat}:ldD Try.prog 40 H (.pt r j o) = ((rowXs (H.get r)).bind fun xs=>xs[j]?).bind (zBE true 2 · o):=ld_pt ag40 sz40
theorem ldf40 {H:Heap} {k j o:Nat} {xs:List D}:ldD Try.prog 40 H (.fp k xs j o) = (xs[j]?).bind (zBE true 2 · o):=ldD_fp ag40 sz40
theorem al40 {H:Heap} {C:D → Heap → Prop}:aAlloc Try.prog 40 H C = zAO (D.lies (.agg [(.v (.slice none 0 0)),(.v (.int .i64 0))]) = true) (C (.pt H.length 0 0) (H ++ [some (.cells (D.width (.agg [(.v (.slice none 0 0)),(.v (.int .i64 0))])) [(.agg [(.v (.slice none 0 0)),(.v (.int .i64 0))])])])) .mk:=alloc_z ze40
theorem stp40 {H:Heap} {r j o:Nat} {x:D}:stD Try.prog 40 H (.pt r j o) x = stRow H r j true 2 o x (H.get r):=st_pt ag40 sz40
theorem un62:Try.prog.underlying 62 = some (.slice 3):=by kernel_rfl
theorem lef62 {k:Nat} {xs:List D} {D1:D → Prop}:zAc Try.prog .len #[62] [.fz k xs] D1 = D1 (.v (.int .i64 xs.length)):=len_fz rfl un62
theorem les62 {r j len:Nat} {D1:D → Prop}:zAc Try.prog .len #[62] [.sl r j len] D1 = D1 (.v (.int .i64 len)):=len_sl rfl un62
theorem len62 {D1:D → Prop}:zAc Try.prog .len #[62] [.v (.slice none 0 0)] D1 = D1 (.v (.int .i64 0)):=len_nil rfl un62
theorem ldf_62 {H:Heap} {k:Nat} {xs:List D}:lenD Try.prog #[62] H (.fz k xs) = some (.v (.int .i64 xs.length)):=lend_fz un62
theorem lds_62 {H:Heap} {r i m:Nat}:lenD Try.prog #[62] H (.sl r i m) = some (.v (.int .i64 m)):=lend_sl un62
theorem ldc_62 {H:Heap} {r i m c:Nat}:lenD Try.prog #[62] H (.slc r i m c) = some (.v (.int .i64 m)):=lend_slc un62
theorem ldn_62 {H:Heap}:lenD Try.prog #[62] H (.v (.slice none 0 0)) = some (.v (.int .i64 0)):=lend_nil un62
theorem el62:zAx Try.prog 62 = some 3:=by kernel_rfl
theorem ixs62 {H:Heap} {r j len:Nat} {n:Int} {jk:IntKind} {D1:D → Prop}:zAi Try.prog 62 H (.sl r j len) (.v (.int jk n)) D1 = zAO (rowK (H.get r) = some 1) (zAO (0 ≤ n ∧ n < len) (D1 (.pt r (j + n.toNat) 0)) .mk) .mk:=ix_sl el62 sz3
theorem ixf62 {H:Heap} {xs:List D} {n:Int} {jk:IntKind} {D1:D → Prop}:zAi Try.prog 62 H (.fz 1 xs) (.v (.int jk n)) D1 = zAO (0 ≤ n ∧ n < xs.length) (D1 (.fp 1 xs n.toNat 0)) .mk:=zDG el62 sz3
theorem sls62 {H:Heap} {r j len:Nat} {lo hi:Option D} {D1:D → Prop} {tg:Tag (zAe Try.prog 62 (.sl r j len) lo hi none D1) (zAe Try.prog 62 (.sl r j len) lo hi none D1)}:zAO (zBB Try.prog 62 H (.sl r j len)) (zAe Try.prog 62 (.sl r j len) lo hi none D1) tg = zAO (rowK (H.get r) = some 1) (okZ (zAS (.v (.int .i64 0)) lo) fun l=>okZ (zAS (.v (.int .i64 len)) hi) fun h=>zAO (0 ≤ l ∧ l ≤ h ∧ h ≤ len) (D1 (.sl r (j + l.toNat) (h.toNat - l.toNat))) .mk) .mk:=slice_sl un62 sz3
theorem slf62 {H:Heap} {xs:List D} {lo hi:Option D} {D1:D → Prop} {tg:Tag (zAe Try.prog 62 (.fz 1 xs) lo hi none D1) (zAe Try.prog 62 (.fz 1 xs) lo hi none D1)}:zAO (zBB Try.prog 62 H (.fz 1 xs)) (zAe Try.prog 62 (.fz 1 xs) lo hi none D1) tg = okZ (zAS (.v (.int .i64 0)) lo) fun l=>okZ (zAS (.v (.int .i64 xs.length)) hi) fun h=>zAO (0 ≤ l ∧ l ≤ h ∧ h ≤ xs.length) (D1 (.fz 1 ((xs.drop l.toNat).take (h.toNat - l.toNat)))) .mk:=slice_fz un62 sz3
theorem sln62 {H:Heap}  {lo hi:Option D} {D1:D → Prop} {tg:Tag (zAe Try.prog 62 (.v (.slice none 0 0)) lo hi none D1) (zAe Try.prog 62 (.v (.slice none 0 0)) lo hi none D1)}:zAO (zBB Try.prog 62 H (.v (.slice none 0 0))) (zAe Try.prog 62 (.v (.slice none 0 0)) lo hi none D1) tg = okZ (zAS (.v (.int .i64 0)) lo) fun l=>okZ (zAS (.v (.int .i64 0)) hi) fun h=>zAO (l = 0 ∧ h = 0) (D1 (.v (.slice none 0 0))) .mk:=slice_nil un62 sz3
theorem slc62 {H:Heap} {r i m c:Nat} {lo hi:Option D} {D1:D → Prop}:zCR Try.prog 62 H (.slc r i m c) lo hi none D1 = zAO (rowK (H.get r) = some 1) (okZ (zAS (.v (.int .i64 0)) lo) fun l=>okZ (zAS (.v (.int .i64 m)) hi) fun h=>zAO (0 ≤ l ∧ l ≤ h ∧ h ≤ c) (D1 (.slc r (i + l.toNat) (h.toNat - l.toNat) (c - l.toNat))) .mk) .mk:=slice_slc el62 sz3
theorem zs62:((Try.prog.info? 3).bind (·.zero)).isSome = true:=by kernel_rfl
theorem bs62 {n:Nat} {ps:List (Nat × D)} {H:Heap} {C:D → Heap → Prop}:zAy Try.prog 62 n ps H C = zAO ((ps.map (·.1) = List.range n) ∧ n * 1 ≤ 16777216 ∧ (ps.all fun p=>p.2.width == 1 && p.2.lies) = true) (C (.sl H.length 0 n) (H ++ [some (.cells 1 (ps.map (·.2)))])) .mk:=zDJ el62 sz3 zs62
theorem by3:tby Try.prog 3 = some 8:=by kernel_rfl
theorem ze3:zCJ Try.prog 3 = some (.v (.int .i64 0)):=by kernel_rfl
theorem ii62:isIntT Try.prog 62 = some false:=by kernel_rfl
theorem aps62_62 {H:Heap} {r i m:Nat} {x:D} {C:D → Heap → Prop}:zAf Try.prog #[62,62] [.sl r i m,x] H C = okL (zAv H 1 x.wk) fun ys=>okR (H.get r) 1 fun xs=>zAO (i + m = xs.length ∧ (m + ys.length) * 8 ≤ 140737488355328) (C (.sl H.length 0 (m + ys.length)) (H.set r none ++ [some (.cells 1 (xs.drop i ++ ys))])) .mk:=append_sl rfl rfl el62 sz3 by3 ze3 rfl ii62
theorem apn62_62 {H:Heap} {x:D} {C:D → Heap → Prop}:zAf Try.prog #[62,62] [.v (.slice none 0 0),x] H C = okL (zAv H 1 x.wk) fun ys=>zAO (ys.length * 8 ≤ 140737488355328) (nilK ys (C (.v (.slice none 0 0)) H) (C (.sl H.length 0 ys.length) (H ++ [some (.cells 1 ys)])) .mk) .mk:=append_nil rfl rfl el62 sz3 by3 ze3 rfl ii62
theorem apc62_62 {H:Heap} {r i m c:Nat} {x:D} {C:D → Heap → Prop}:zAf Try.prog #[62,62] [.slc r i m c,x] H C = okL (zAv H 1 x.wk) fun ys=>okR (H.get r) 1 fun xs=>zAO (m + ys.length ≤ c ∧ i + c ≤ xs.length) (C (.slc r i (m + ys.length) c) (H.set r (some (.cells 1 (zDD xs (i + m) ys))))) .mk:=append_slc rfl rfl el62 sz3 ii62
theorem ze61:zCJ Try.prog 61 = some (.v (.slice none 0 0)):=by kernel_rfl
theorem al61 {H:Heap} {C:D → Heap → Prop}:aAlloc Try.prog 61 H C = zAO (D.lies (.v (.slice none 0 0)) = true) (C (.pt H.length 0 0) (H ++ [some (.cells (D.width (.v (.slice none 0 0))) [(.v (.slice none 0 0))])])) .mk:=alloc_z ze61
theorem ag61:tag Try.prog 61 = some false:=by kernel_rfl
theorem sz61:tsz Try.prog 61 = some 1:=by kernel_rfl
theorem ldp61 {H:Heap} {r j o:Nat}:ldD Try.prog 61 H (.pt r j o) = ((rowXs (H.get r)).bind fun xs=>xs[j]?).bind (zBE false 1 · o):=ld_pt ag61 sz61
theorem ldf61 {H:Heap} {k j o:Nat} {xs:List D}:ldD Try.prog 61 H (.fp k xs j o) = (xs[j]?).bind (zBE false 1 · o):=ldD_fp ag61 sz61
theorem zs61:((Try.prog.info? 4).bind (·.zero)).isSome = true:=by kernel_rfl
theorem bs61 {n:Nat} {ps:List (Nat × D)} {H:Heap} {C:D → Heap → Prop}:zAy Try.prog 61 n ps H C = zAO ((ps.map (·.1) = List.range n) ∧ n * 1 ≤ 16777216 ∧ (ps.all fun p=>p.2.width == 1 && p.2.lies) = true) (C (.sl H.length 0 n) (H ++ [some (.cells 1 (ps.map (·.2)))])) .mk:=zDJ el61 sz4 zs61
theorem ii61:isIntT Try.prog 61 = some false:=by kernel_rfl
theorem aps61_61 {H:Heap} {r i m:Nat} {x:D} {C:D → Heap → Prop}:zAf Try.prog #[61,61] [.sl r i m,x] H C = okL (zAv H 1 x.wk) fun ys=>okR (H.get r) 1 fun xs=>zAO (i + m = xs.length ∧ (m + ys.length) * 1 ≤ 140737488355328) (C (.sl H.length 0 (m + ys.length)) (H.set r none ++ [some (.cells 1 (xs.drop i ++ ys))])) .mk:=append_sl rfl rfl el61 sz4 by4 ze4 rfl ii61
theorem apn61_61 {H:Heap} {x:D} {C:D → Heap → Prop}:zAf Try.prog #[61,61] [.v (.slice none 0 0),x] H C = okL (zAv H 1 x.wk) fun ys=>zAO (ys.length * 1 ≤ 140737488355328) (nilK ys (C (.v (.slice none 0 0)) H) (C (.sl H.length 0 ys.length) (H ++ [some (.cells 1 ys)])) .mk) .mk:=append_nil rfl rfl el61 sz4 by4 ze4 rfl ii61
theorem apc61_61 {H:Heap} {r i m c:Nat} {x:D} {C:D → Heap → Prop}:zAf Try.prog #[61,61] [.slc r i m c,x] H C = okL (zAv H 1 x.wk) fun ys=>okR (H.get r) 1 fun xs=>zAO (m + ys.length ≤ c ∧ i + c ≤ xs.length) (C (.slc r i (m + ys.length) c) (H.set r (some (.cells 1 (zDD xs (i + m) ys))))) .mk:=append_slc rfl rfl el61 sz4 ii61
theorem stp61 {H:Heap} {r j o:Nat} {x:D}:stD Try.prog 61 H (.pt r j o) x = stRow H r j false 1 o x (H.get r):=st_pt ag61 sz61
theorem ze35:zCJ Try.prog 35 = some (.v (.slice none 0 0)):=by kernel_rfl
theorem al35 {H:Heap} {C:D → Heap → Prop}:aAlloc Try.prog 35 H C = zAO (D.lies (.v (.slice none 0 0)) = true) (C (.pt H.length 0 0) (H ++ [some (.cells (D.width (.v (.slice none 0 0))) [(.v (.slice none 0 0))])])) .mk:=alloc_z ze35
theorem ag35:tag Try.prog 35 = some false:=by kernel_rfl
theorem sz35:tsz Try.prog 35 = some 1:=by kernel_rfl
theorem stp35 {H:Heap} {r j o:Nat} {x:D}:stD Try.prog 35 H (.pt r j o) x = stRow H r j false 1 o x (H.get r):=st_pt ag35 sz35
theorem by40:tby Try.prog 40 = some 32:=by kernel_rfl
theorem ii35:isIntT Try.prog 35 = some false:=by kernel_rfl
theorem aps35_35 {H:Heap} {r i m:Nat} {x:D} {C:D → Heap → Prop}:zAf Try.prog #[35,35] [.sl r i m,x] H C = okL (zAv H 2 x.wk) fun ys=>okR (H.get r) 2 fun xs=>zAO (i + m = xs.length ∧ (m + ys.length) * 32 ≤ 140737488355328) (C (.sl H.length 0 (m + ys.length)) (H.set r none ++ [some (.cells 2 (xs.drop i ++ ys))])) .mk:=append_sl rfl rfl el35 sz40 by40 ze40 rfl ii35
theorem apn35_35 {H:Heap} {x:D} {C:D → Heap → Prop}:zAf Try.prog #[35,35] [.v (.slice none 0 0),x] H C = okL (zAv H 2 x.wk) fun ys=>zAO (ys.length * 32 ≤ 140737488355328) (nilK ys (C (.v (.slice none 0 0)) H) (C (.sl H.length 0 ys.length) (H ++ [some (.cells 2 ys)])) .mk) .mk:=append_nil rfl rfl el35 sz40 by40 ze40 rfl ii35
theorem apc35_35 {H:Heap} {r i m c:Nat} {x:D} {C:D → Heap → Prop}:zAf Try.prog #[35,35] [.slc r i m c,x] H C = okL (zAv H 2 x.wk) fun ys=>okR (H.get r) 2 fun xs=>zAO (m + ys.length ≤ c ∧ i + c ≤ xs.length) (C (.slc r i (m + ys.length) c) (H.set r (some (.cells 2 (zDD xs (i + m) ys))))) .mk:=append_slc rfl rfl el35 sz40 ii35
theorem ldp35 {H:Heap} {r j o:Nat}:ldD Try.prog 35 H (.pt r j o) = ((rowXs (H.get r)).bind fun xs=>xs[j]?).bind (zBE false 1 · o):=ld_pt ag35 sz35
theorem ldf35 {H:Heap} {k j o:Nat} {xs:List D}:ldD Try.prog 35 H (.fp k xs j o) = (xs[j]?).bind (zBE false 1 · o):=ldD_fp ag35 sz35
theorem lef38 {k:Nat} {xs:List D} {D1:D → Prop}:zAc Try.prog .len #[38] [.fz k xs] D1 = D1 (.v (.int .i64 xs.length)):=len_fz rfl un38
theorem les38 {r j len:Nat} {D1:D → Prop}:zAc Try.prog .len #[38] [.sl r j len] D1 = D1 (.v (.int .i64 len)):=len_sl rfl un38
theorem len38 {D1:D → Prop}:zAc Try.prog .len #[38] [.v (.slice none 0 0)] D1 = D1 (.v (.int .i64 0)):=len_nil rfl un38
theorem ldf_38 {H:Heap} {k:Nat} {xs:List D}:lenD Try.prog #[38] H (.fz k xs) = some (.v (.int .i64 xs.length)):=lend_fz un38
theorem lds_38 {H:Heap} {r i m:Nat}:lenD Try.prog #[38] H (.sl r i m) = some (.v (.int .i64 m)):=lend_sl un38
theorem ldc_38 {H:Heap} {r i m c:Nat}:lenD Try.prog #[38] H (.slc r i m c) = some (.v (.int .i64 m)):=lend_slc un38
theorem ldn_38 {H:Heap}:lenD Try.prog #[38] H (.v (.slice none 0 0)) = some (.v (.int .i64 0)):=lend_nil un38
theorem ixs38 {H:Heap} {r j len:Nat} {n:Int} {jk:IntKind} {D1:D → Prop}:zAi Try.prog 38 H (.sl r j len) (.v (.int jk n)) D1 = zAO (rowK (H.get r) = some 1) (zAO (0 ≤ n ∧ n < len) (D1 (.pt r (j + n.toNat) 0)) .mk) .mk:=ix_sl el38 sz9
theorem ixf38 {H:Heap} {xs:List D} {n:Int} {jk:IntKind} {D1:D → Prop}:zAi Try.prog 38 H (.fz 1 xs) (.v (.int jk n)) D1 = zAO (0 ≤ n ∧ n < xs.length) (D1 (.fp 1 xs n.toNat 0)) .mk:=zDG el38 sz9
theorem tm68:tmap Try.prog 68 = some (9,3,.string):=by kernel_rfl
theorem mm68 {k:IntKind} {n:Int} {H:Heap} {C:D → Heap → Prop}:aMakeMap Try.prog 68 (some (.v (.int k n))) H C = C (.mp H.length) (H ++ [some (.mp [] 0)]):=makeMap_z (by rw [tm68];rfl)
theorem lk68 {r:Nat} {kv:Value} {ok:Bool} {H:Heap} {D1:D → Prop}:okK (lkD Try.prog 68 H (.mp r) (.v kv) ok) D1 = okM (H.get r) fun es _=>okQ (findD .string kv es 0) fun q=>okK (getM es q (.v (.int .i64 0)) ok) D1:=lk_mp tm68 ze3
theorem mu68 {r:Nat} {kv:Value} {x:D} {H:Heap} {C:D → Heap → Prop}:zBk Try.prog 68 (.mp r) (.v kv) x H C = okM (H.get r) fun es cl=>okQ (findD .string kv es 0) fun q=>C (.v undef) (H.set r (some (.mp (updM es cl kv x q).1 (updM es cl kv x q).2))):=mapUpdate_mp tm68
theorem un68:Try.prog.underlying 68 = some (.map 9 3):=by kernel_rfl
theorem ldm_68 {H:Heap} {r:Nat}:lenD Try.prog #[68] H (.mp r) = lenRow (H.get r):=lend_mp un68
theorem by51:tby Try.prog 51 = some 32:=by kernel_rfl
theorem mk48 {k1 k2:IntKind} {l c:Int} {H:Heap} {C:D → Heap → Prop}:zBb Try.prog 48 (.v (.int k1 l)) (.v (.int k2 c)) H C = zAO (0 ≤ l ∧ l ≤ c ∧ c * (32:Nat) ≤ 281474976710656 ∧ c ≤ 281474976710656) (orK (C (.slc H.length 0 l.toNat c.toNat) (H ++ [some (.cells 3 (List.replicate c.toNat (.agg [(.v (.string ⟨#[]⟩)),(.v (.int .i64 0)),(.v (.int .i64 0))])))])) (C (.sl H.length 0 l.toNat) (H ++ [some (.cells 3 (List.replicate l.toNat (.agg [(.v (.string ⟨#[]⟩)),(.v (.int .i64 0)),(.v (.int .i64 0))])))])) .mk) .mk:=make_z el48 sz51 by51 ze51 rfl rfl
theorem rg68 {r:Nat} {H:Heap} {C:D → Heap → Prop}:aRange Try.prog 68 (.mp r) H C = okM (H.get r) fun es cl=>C (.pt H.length 0 0) (H ++ [some (.it r cl [] cl)]):=range_mp un68
theorem ii48:isIntT Try.prog 48 = some false:=by kernel_rfl
theorem aps48_48 {H:Heap} {r i m:Nat} {x:D} {C:D → Heap → Prop}:zAf Try.prog #[48,48] [.sl r i m,x] H C = okL (zAv H 3 x.wk) fun ys=>okR (H.get r) 3 fun xs=>zAO (i + m = xs.length ∧ (m + ys.length) * 32 ≤ 140737488355328) (C (.sl H.length 0 (m + ys.length)) (H.set r none ++ [some (.cells 3 (xs.drop i ++ ys))])) .mk:=append_sl rfl rfl el48 sz51 by51 ze51 rfl ii48
theorem apn48_48 {H:Heap} {x:D} {C:D → Heap → Prop}:zAf Try.prog #[48,48] [.v (.slice none 0 0),x] H C = okL (zAv H 3 x.wk) fun ys=>zAO (ys.length * 32 ≤ 140737488355328) (nilK ys (C (.v (.slice none 0 0)) H) (C (.sl H.length 0 ys.length) (H ++ [some (.cells 3 ys)])) .mk) .mk:=append_nil rfl rfl el48 sz51 by51 ze51 rfl ii48
theorem apc48_48 {H:Heap} {r i m c:Nat} {x:D} {C:D → Heap → Prop}:zAf Try.prog #[48,48] [.slc r i m c,x] H C = okL (zAv H 3 x.wk) fun ys=>okR (H.get r) 3 fun xs=>zAO (m + ys.length ≤ c ∧ i + c ≤ xs.length) (C (.slc r i (m + ys.length) c) (H.set r (some (.cells 3 (zDD xs (i + m) ys))))) .mk:=append_slc rfl rfl el48 sz51 ii48
theorem un9:Try.prog.underlying 9 = some .string:=by kernel_rfl
theorem lst9 {u:ByteArray} {D1:D → Prop}:zAc Try.prog .len #[9] [.v (.string u)] D1 = D1 (.v (.int .i64 u.size)):=len_str rfl un9
theorem ldt_9 {H:Heap} {u:ByteArray}:lenD Try.prog #[9] H (.v (.string u)) = some (.v (.int .i64 u.size)):=lend_str un9
theorem ze82:zCJ Try.prog 82 = some (.agg [(.v (.int .i64 0)),(.v (.int .i64 0)),(.v (.map none))]):=by kernel_rfl
theorem fs82:fieldsOf Try.prog 82 = some [(0,2),(2,1)]:=by kernel_rfl
theorem bd82 {ps:List (Nat × D)} {D1:D → Prop}:aBuild Try.prog 82 ps D1 = okK ((fillD (([(0,2),(2,1)]:List (Nat × Nat))[·]?) [(.v (.int .i64 0)),(.v (.int .i64 0)),(.v (.map none))] ps).map .agg) D1:=build_z ze82 fs82
theorem gd51:Try.prog.eqGuardType Try.prog.depth 51 = false:=by kernel_rfl
theorem agneq51 {xs ys:List D} {D1:D → Prop}:aEqAgg Try.prog .neq 51 xs ys D1 = okB (eqD Try.prog 12 51 (.agg xs) (.agg ys)) fun b=>D1 (.v (.bool !b)):=agg_neq gd51
theorem nils38 {r i m:Nat} {D1:D → Prop}:zCi Try.prog .eql 38 (.sl r i m) (.v (.slice none 0 0)) D1 = D1 (.v (.bool false)):=nil_sl el38
theorem nilc38 {r i m c:Nat} {D1:D → Prop}:zCi Try.prog .eql 38 (.slc r i m c) (.v (.slice none 0 0)) D1 = D1 (.v (.bool false)):=nil_slc el38
theorem niln38 {D1:D → Prop}:zCi Try.prog .eql 38 (.v (.slice none 0 0)) (.v (.slice none 0 0)) D1 = D1 (.v (.bool true)):=nil_nil el38
theorem nilf38 {k:Nat} {xs:List D} {D1:D → Prop}:zCi Try.prog .eql 38 (.fz k xs) (.v (.slice none 0 0)) D1 = allK (fun b=>b = true → xs = []) (fun b=>D1 (.v (.bool b))) .mk:=nil_fz el38
theorem stp9 {H:Heap} {r j o:Nat} {x:D}:stD Try.prog 9 H (.pt r j o) x = stRow H r j false 1 o x (H.get r):=st_pt ag9 sz9
theorem mk62 {k1 k2:IntKind} {l c:Int} {H:Heap} {C:D → Heap → Prop}:zBb Try.prog 62 (.v (.int k1 l)) (.v (.int k2 c)) H C = zAO (0 ≤ l ∧ l ≤ c ∧ c * (8:Nat) ≤ 281474976710656 ∧ c ≤ 281474976710656) (orK (C (.slc H.length 0 l.toNat c.toNat) (H ++ [some (.cells 1 (List.replicate c.toNat (.v (.int .i64 0))))])) (C (.sl H.length 0 l.toNat) (H ++ [some (.cells 1 (List.replicate l.toNat (.v (.int .i64 0))))])) .mk) .mk:=make_z el62 sz3 by3 ze3 rfl rfl
theorem stp3 {H:Heap} {r j o:Nat} {x:D}:stD Try.prog 3 H (.pt r j o) x = stRow H r j false 1 o x (H.get r):=st_pt ag3 sz3
theorem un3:Try.prog.underlying 3 = some (.int .i64):=by kernel_rfl
theorem un89:Try.prog.underlying 89 = some (.int .u64):=by kernel_rfl
theorem cv3_89 {H:Heap} {m:Int} {D1:D → Prop}:aConvL Try.prog 3 89 H (.v (.int .i64 m)) D1 = D1 (.v (.int .u64 (IntKind.wrap .u64 m))):=conv_int un3 un89
theorem fl82_1:tfld Try.prog 82 1 = some (2,80):=by kernel_rfl
theorem sz80:tsz Try.prog 80 = some 1:=by kernel_rfl
theorem fap82_1 {r i o:Nat} {D1:D → Prop}:zAR Try.prog 82 (.pt r i o) 1 D1 = D1 (.pt r i (o + 2)):=zBO fl82_1 sz80
theorem faf82_1 {k i o:Nat} {xs:List D} {D1:D → Prop}:zAR Try.prog 82 (.fp k xs i o) 1 D1 = D1 (.fp k xs i (o + 2)):=zBP fl82_1 sz80
theorem ag80:tag Try.prog 80 = some false:=by kernel_rfl
theorem ldp80 {H:Heap} {r j o:Nat}:ldD Try.prog 80 H (.pt r j o) = ((rowXs (H.get r)).bind fun xs=>xs[j]?).bind (zBE false 1 · o):=ld_pt ag80 sz80
theorem ldf80 {H:Heap} {k j o:Nat} {xs:List D}:ldD Try.prog 80 H (.fp k xs j o) = (xs[j]?).bind (zBE false 1 · o):=ldD_fp ag80 sz80
theorem tm80:tmap Try.prog 80 = some (9,77,.string):=by kernel_rfl
theorem mm80 {k:IntKind} {n:Int} {H:Heap} {C:D → Heap → Prop}:aMakeMap Try.prog 80 (some (.v (.int k n))) H C = C (.mp H.length) (H ++ [some (.mp [] 0)]):=makeMap_z (by rw [tm80];rfl)
theorem stp80 {H:Heap} {r j o:Nat} {x:D}:stD Try.prog 80 H (.pt r j o) x = stRow H r j false 1 o x (H.get r):=st_pt ag80 sz80
theorem ze77:zCJ Try.prog 77 = some (.v (.pointer none)):=by kernel_rfl
theorem lk80 {r:Nat} {kv:Value} {ok:Bool} {H:Heap} {D1:D → Prop}:okK (lkD Try.prog 80 H (.mp r) (.v kv) ok) D1 = okM (H.get r) fun es _=>okQ (findD .string kv es 0) fun q=>okK (getM es q (.v (.pointer none)) ok) D1:=lk_mp tm80 ze77
theorem mu80 {r:Nat} {kv:Value} {x:D} {H:Heap} {C:D → Heap → Prop}:zBk Try.prog 80 (.mp r) (.v kv) x H C = okM (H.get r) fun es cl=>okQ (findD .string kv es 0) fun q=>C (.v undef) (H.set r (some (.mp (updM es cl kv x q).1 (updM es cl kv x q).2))):=mapUpdate_mp tm80
theorem fl82_0:tfld Try.prog 82 0 = some (0,79):=by kernel_rfl
theorem sz79:tsz Try.prog 79 = some 2:=by kernel_rfl
theorem fap82_0 {r i o:Nat} {D1:D → Prop}:zAR Try.prog 82 (.pt r i o) 0 D1 = D1 (.pt r i (o + 0)):=zBO fl82_0 sz79
theorem faf82_0 {k i o:Nat} {xs:List D} {D1:D → Prop}:zAR Try.prog 82 (.fp k xs i o) 0 D1 = D1 (.fp k xs i (o + 0)):=zBP fl82_0 sz79
theorem ag79:tag Try.prog 79 = some true:=by kernel_rfl
theorem ldp79 {H:Heap} {r j o:Nat}:ldD Try.prog 79 H (.pt r j o) = ((rowXs (H.get r)).bind fun xs=>xs[j]?).bind (zBE true 2 · o):=ld_pt ag79 sz79
theorem ldf79 {H:Heap} {k j o:Nat} {xs:List D}:ldD Try.prog 79 H (.fp k xs j o) = (xs[j]?).bind (zBE true 2 · o):=ldD_fp ag79 sz79
theorem stp79 {H:Heap} {r j o:Nat} {x:D}:stD Try.prog 79 H (.pt r j o) x = stRow H r j true 2 o x (H.get r):=st_pt ag79 sz79
theorem ze23:zCJ Try.prog 23 = some (.v (.slice none 0 0)):=by kernel_rfl
theorem al23 {H:Heap} {C:D → Heap → Prop}:aAlloc Try.prog 23 H C = zAO (D.lies (.v (.slice none 0 0)) = true) (C (.pt H.length 0 0) (H ++ [some (.cells (D.width (.v (.slice none 0 0))) [(.v (.slice none 0 0))])])) .mk:=alloc_z ze23
theorem al4 {H:Heap} {C:D → Heap → Prop}:aAlloc Try.prog 4 H C = zAO (D.lies (.v (.bool false)) = true) (C (.pt H.length 0 0) (H ++ [some (.cells (D.width (.v (.bool false))) [(.v (.bool false))])])) .mk:=alloc_z ze4
theorem ze93:zCJ Try.prog 93 = some (.v .nilFunc):=by kernel_rfl
theorem al93 {H:Heap} {C:D → Heap → Prop}:aAlloc Try.prog 93 H C = zAO (D.lies (.v .nilFunc) = true) (C (.pt H.length 0 0) (H ++ [some (.cells (D.width (.v .nilFunc)) [(.v .nilFunc)])])) .mk:=alloc_z ze93
theorem ag93:tag Try.prog 93 = some false:=by kernel_rfl
theorem sz93:tsz Try.prog 93 = some 1:=by kernel_rfl
theorem stp93 {H:Heap} {r j o:Nat} {x:D}:stD Try.prog 93 H (.pt r j o) x = stRow H r j false 1 o x (H.get r):=st_pt ag93 sz93
theorem ldp93 {H:Heap} {r j o:Nat}:ldD Try.prog 93 H (.pt r j o) = ((rowXs (H.get r)).bind fun xs=>xs[j]?).bind (zBE false 1 · o):=ld_pt ag93 sz93
theorem ldf93 {H:Heap} {k j o:Nat} {xs:List D}:ldD Try.prog 93 H (.fp k xs j o) = (xs[j]?).bind (zBE false 1 · o):=ldD_fp ag93 sz93
theorem ag23:tag Try.prog 23 = some false:=by kernel_rfl
theorem sz23:tsz Try.prog 23 = some 1:=by kernel_rfl
theorem ldp23 {H:Heap} {r j o:Nat}:ldD Try.prog 23 H (.pt r j o) = ((rowXs (H.get r)).bind fun xs=>xs[j]?).bind (zBE false 1 · o):=ld_pt ag23 sz23
theorem ldf23 {H:Heap} {k j o:Nat} {xs:List D}:ldD Try.prog 23 H (.fp k xs j o) = (xs[j]?).bind (zBE false 1 · o):=ldD_fp ag23 sz23
theorem un108:Try.prog.underlying 108 = some (.int .u32):=by kernel_rfl
theorem cv89_108 {H:Heap} {m:Int} {D1:D → Prop}:aConvL Try.prog 89 108 H (.v (.int .u64 m)) D1 = D1 (.v (.int .u32 (IntKind.wrap .u32 m))):=conv_int un89 un108
theorem ze79:zCJ Try.prog 79 = some (.agg [(.v (.int .i64 0)),(.v (.int .i64 0))]):=by kernel_rfl
theorem al79 {H:Heap} {C:D → Heap → Prop}:aAlloc Try.prog 79 H C = zAO (D.lies (.agg [(.v (.int .i64 0)),(.v (.int .i64 0))]) = true) (C (.pt H.length 0 0) (H ++ [some (.cells (D.width (.agg [(.v (.int .i64 0)),(.v (.int .i64 0))])) [(.agg [(.v (.int .i64 0)),(.v (.int .i64 0))])])])) .mk:=alloc_z ze79
theorem fl79_0:tfld Try.prog 79 0 = some (0,3):=by kernel_rfl
theorem fap79_0 {r i o:Nat} {D1:D → Prop}:zAR Try.prog 79 (.pt r i o) 0 D1 = D1 (.pt r i (o + 0)):=zBO fl79_0 sz3
theorem faf79_0 {k i o:Nat} {xs:List D} {D1:D → Prop}:zAR Try.prog 79 (.fp k xs i o) 0 D1 = D1 (.fp k xs i (o + 0)):=zBP fl79_0 sz3
theorem fl79_1:tfld Try.prog 79 1 = some (1,3):=by kernel_rfl
theorem fap79_1 {r i o:Nat} {D1:D → Prop}:zAR Try.prog 79 (.pt r i o) 1 D1 = D1 (.pt r i (o + 1)):=zBO fl79_1 sz3
theorem faf79_1 {k i o:Nat} {xs:List D} {D1:D → Prop}:zAR Try.prog 79 (.fp k xs i o) 1 D1 = D1 (.fp k xs i (o + 1)):=zBP fl79_1 sz3
theorem fs79:fieldsOf Try.prog 79 = some [(0,1),(1,1)]:=by kernel_rfl
theorem bd79 {ps:List (Nat × D)} {D1:D → Prop}:aBuild Try.prog 79 ps D1 = okK ((fillD (([(0,1),(1,1)]:List (Nat × Nat))[·]?) [(.v (.int .i64 0)),(.v (.int .i64 0))] ps).map .agg) D1:=build_z ze79 fs79
theorem fs45:fieldsOf Try.prog 45 = some [(0,1),(1,1),(2,1)]:=by kernel_rfl
theorem bd45 {ps:List (Nat × D)} {D1:D → Prop}:aBuild Try.prog 45 ps D1 = okK ((fillD (([(0,1),(1,1),(2,1)]:List (Nat × Nat))[·]?) [(.v (.int .i64 0)),(.v (.string ⟨#[]⟩)),(.v (.int .i64 0))] ps).map .agg) D1:=build_z ze45 fs45
theorem zs23:((Try.prog.info? 45).bind (·.zero)).isSome = true:=by kernel_rfl
theorem bs23 {n:Nat} {ps:List (Nat × D)} {H:Heap} {C:D → Heap → Prop}:zAy Try.prog 23 n ps H C = zAO ((ps.map (·.1) = List.range n) ∧ n * 3 ≤ 16777216 ∧ (ps.all fun p=>p.2.width == 3 && p.2.lies) = true) (C (.sl H.length 0 n) (H ++ [some (.cells 3 (ps.map (·.2)))])) .mk:=zDJ el23 sz45 zs23
theorem by45:tby Try.prog 45 = some 32:=by kernel_rfl
theorem ii23:isIntT Try.prog 23 = some false:=by kernel_rfl
theorem aps23_23 {H:Heap} {r i m:Nat} {x:D} {C:D → Heap → Prop}:zAf Try.prog #[23,23] [.sl r i m,x] H C = okL (zAv H 3 x.wk) fun ys=>okR (H.get r) 3 fun xs=>zAO (i + m = xs.length ∧ (m + ys.length) * 32 ≤ 140737488355328) (C (.sl H.length 0 (m + ys.length)) (H.set r none ++ [some (.cells 3 (xs.drop i ++ ys))])) .mk:=append_sl rfl rfl el23 sz45 by45 ze45 rfl ii23
theorem apn23_23 {H:Heap} {x:D} {C:D → Heap → Prop}:zAf Try.prog #[23,23] [.v (.slice none 0 0),x] H C = okL (zAv H 3 x.wk) fun ys=>zAO (ys.length * 32 ≤ 140737488355328) (nilK ys (C (.v (.slice none 0 0)) H) (C (.sl H.length 0 ys.length) (H ++ [some (.cells 3 ys)])) .mk) .mk:=append_nil rfl rfl el23 sz45 by45 ze45 rfl ii23
theorem apc23_23 {H:Heap} {r i m c:Nat} {x:D} {C:D → Heap → Prop}:zAf Try.prog #[23,23] [.slc r i m c,x] H C = okL (zAv H 3 x.wk) fun ys=>okR (H.get r) 3 fun xs=>zAO (m + ys.length ≤ c ∧ i + c ≤ xs.length) (C (.slc r i (m + ys.length) c) (H.set r (some (.cells 3 (zDD xs (i + m) ys))))) .mk:=append_slc rfl rfl el23 sz45 ii23
theorem stp23 {H:Heap} {r j o:Nat} {x:D}:stD Try.prog 23 H (.pt r j o) x = stRow H r j false 1 o x (H.get r):=st_pt ag23 sz23
theorem sls23 {H:Heap} {r j len:Nat} {lo hi:Option D} {D1:D → Prop} {tg:Tag (zAe Try.prog 23 (.sl r j len) lo hi none D1) (zAe Try.prog 23 (.sl r j len) lo hi none D1)}:zAO (zBB Try.prog 23 H (.sl r j len)) (zAe Try.prog 23 (.sl r j len) lo hi none D1) tg = zAO (rowK (H.get r) = some 3) (okZ (zAS (.v (.int .i64 0)) lo) fun l=>okZ (zAS (.v (.int .i64 len)) hi) fun h=>zAO (0 ≤ l ∧ l ≤ h ∧ h ≤ len) (D1 (.sl r (j + l.toNat) (h.toNat - l.toNat))) .mk) .mk:=slice_sl un23 sz45
theorem slf23 {H:Heap} {xs:List D} {lo hi:Option D} {D1:D → Prop} {tg:Tag (zAe Try.prog 23 (.fz 3 xs) lo hi none D1) (zAe Try.prog 23 (.fz 3 xs) lo hi none D1)}:zAO (zBB Try.prog 23 H (.fz 3 xs)) (zAe Try.prog 23 (.fz 3 xs) lo hi none D1) tg = okZ (zAS (.v (.int .i64 0)) lo) fun l=>okZ (zAS (.v (.int .i64 xs.length)) hi) fun h=>zAO (0 ≤ l ∧ l ≤ h ∧ h ≤ xs.length) (D1 (.fz 3 ((xs.drop l.toNat).take (h.toNat - l.toNat)))) .mk:=slice_fz un23 sz45
theorem sln23 {H:Heap}  {lo hi:Option D} {D1:D → Prop} {tg:Tag (zAe Try.prog 23 (.v (.slice none 0 0)) lo hi none D1) (zAe Try.prog 23 (.v (.slice none 0 0)) lo hi none D1)}:zAO (zBB Try.prog 23 H (.v (.slice none 0 0))) (zAe Try.prog 23 (.v (.slice none 0 0)) lo hi none D1) tg = okZ (zAS (.v (.int .i64 0)) lo) fun l=>okZ (zAS (.v (.int .i64 0)) hi) fun h=>zAO (l = 0 ∧ h = 0) (D1 (.v (.slice none 0 0))) .mk:=slice_nil un23 sz45
theorem slc23 {H:Heap} {r i m c:Nat} {lo hi:Option D} {D1:D → Prop}:zCR Try.prog 23 H (.slc r i m c) lo hi none D1 = zAO (rowK (H.get r) = some 3) (okZ (zAS (.v (.int .i64 0)) lo) fun l=>okZ (zAS (.v (.int .i64 m)) hi) fun h=>zAO (0 ≤ l ∧ l ≤ h ∧ h ≤ c) (D1 (.slc r (i + l.toNat) (h.toNat - l.toNat) (c - l.toNat))) .mk) .mk:=slice_slc el23 sz45
theorem un112:Try.prog.underlying 112 = some (.int .u64):=by kernel_rfl
theorem cv3_112 {H:Heap} {m:Int} {D1:D → Prop}:aConvL Try.prog 3 112 H (.v (.int .i64 m)) D1 = D1 (.v (.int .u64 (IntKind.wrap .u64 m))):=conv_int un3 un112
theorem ze112:zCJ Try.prog 112 = some (.v (.int .u64 0)):=by kernel_rfl
theorem al112 {H:Heap} {C:D → Heap → Prop}:aAlloc Try.prog 112 H C = zAO (D.lies (.v (.int .u64 0)) = true) (C (.pt H.length 0 0) (H ++ [some (.cells (D.width (.v (.int .u64 0))) [(.v (.int .u64 0))])])) .mk:=alloc_z ze112
theorem ag112:tag Try.prog 112 = some false:=by kernel_rfl
theorem sz112:tsz Try.prog 112 = some 1:=by kernel_rfl
theorem stp112 {H:Heap} {r j o:Nat} {x:D}:stD Try.prog 112 H (.pt r j o) x = stRow H r j false 1 o x (H.get r):=st_pt ag112 sz112
theorem cv89_3 {H:Heap} {m:Int} {D1:D → Prop}:aConvL Try.prog 89 3 H (.v (.int .u64 m)) D1 = D1 (.v (.int .i64 (IntKind.wrap .i64 m))):=conv_int un89 un3
theorem al3 {H:Heap} {C:D → Heap → Prop}:aAlloc Try.prog 3 H C = zAO (D.lies (.v (.int .i64 0)) = true) (C (.pt H.length 0 0) (H ++ [some (.cells (D.width (.v (.int .i64 0))) [(.v (.int .i64 0))])])) .mk:=alloc_z ze3
theorem un5:Try.prog.underlying 5 = some (.int .u8):=by kernel_rfl
theorem cv108_5 {H:Heap} {m:Int} {D1:D → Prop}:aConvL Try.prog 108 5 H (.v (.int .u32 m)) D1 = D1 (.v (.int .u8 (IntKind.wrap .u8 m))):=conv_int un108 un5
theorem ixt9 {u:ByteArray} {jk:IntKind} {n:Int} {D1:D → Prop}:aIndex Try.prog 9 (.v (.string u)) (.v (.int jk n)) D1 = zAO (0 ≤ n ∧ n < u.size) (D1 (.v (.int .u8 (u.get! n.toNat).toNat))) .mk:=index_str un9
theorem cv5_3 {H:Heap} {m:Int} {D1:D → Prop}:aConvL Try.prog 5 3 H (.v (.int .u8 m)) D1 = D1 (.v (.int .i64 (IntKind.wrap .i64 m))):=conv_int un5 un3
theorem un110:Try.prog.underlying 110 = some (.int .u64):=by kernel_rfl
theorem cv110_5 {H:Heap} {m:Int} {D1:D → Prop}:aConvL Try.prog 110 5 H (.v (.int .u64 m)) D1 = D1 (.v (.int .u8 (IntKind.wrap .u8 m))):=conv_int un110 un5
theorem un80:Try.prog.underlying 80 = some (.map 9 77):=by kernel_rfl
theorem rg80 {r:Nat} {H:Heap} {C:D → Heap → Prop}:aRange Try.prog 80 (.mp r) H C = okM (H.get r) fun es cl=>C (.pt H.length 0 0) (H ++ [some (.it r cl [] cl)]):=range_mp un80
theorem ldp112 {H:Heap} {r j o:Nat}:ldD Try.prog 112 H (.pt r j o) = ((rowXs (H.get r)).bind fun xs=>xs[j]?).bind (zBE false 1 · o):=ld_pt ag112 sz112
theorem ldf112 {H:Heap} {k j o:Nat} {xs:List D}:ldD Try.prog 112 H (.fp k xs j o) = (xs[j]?).bind (zBE false 1 · o):=ldD_fp ag112 sz112
theorem stp38 {H:Heap} {r j o:Nat} {x:D}:stD Try.prog 38 H (.pt r j o) x = stRow H r j false 1 o x (H.get r):=st_pt ag38 sz38
def TY0:=(And.intro (And.intro (And.intro (And.intro (And.intro @lef23 @les23) (And.intro @len23 (And.intro @ldf_23 @lds_23))) (And.intro (And.intro @ldc_23 @ldn_23) (And.intro @lef48 (And.intro @les48 @len48)))) (And.intro (And.intro (And.intro @ldf_48 @lds_48) (And.intro @ldc_48 (And.intro @ldn_48 @ixs48))) (And.intro (And.intro @ixf48 @ldp51) (And.intro @ldf51 (And.intro @al51 @stp51))))) (And.intro (And.intro (And.intro (And.intro @fap51_0 @faf51_0) (And.intro @ldp9 (And.intro @ldf9 @fap51_2))) (And.intro (And.intro @faf51_2 @ldp3) (And.intro @ldf3 (And.intro @bs38 @aps38_38)))) (And.intro (And.intro (And.intro @apn38_38 @apc38_38) (And.intro @fap51_1 (And.intro @faf51_1 @ixs23))) (And.intro (And.intro @ixf23 @ldp45) (And.intro @ldf45 (And.intro @al45 @stp45))))))
def TY1:=(And.intro (And.intro (And.intro (And.intro (And.intro @fap45_1 @faf45_1) (And.intro @bd40 (And.intro @sls38 @slf38))) (And.intro (And.intro @sln38 @slc38) (And.intro @bs35 (And.intro @bd51 @bs48)))) (And.intro (And.intro (And.intro @lef35 @les35) (And.intro @len35 (And.intro @ldf_35 @lds_35))) (And.intro (And.intro @ldc_35 @ldn_35) (And.intro @ixs35 (And.intro @ixf35 @fap40_0))))) (And.intro (And.intro (And.intro (And.intro @faf40_0 @ldp38) (And.intro @ldf38 (And.intro @fap40_1 @faf40_1))) (And.intro (And.intro @agneq45 @mk61) (And.intro @fap45_0 (And.intro @faf45_0 @ixs61)))) (And.intro (And.intro (And.intro @ixf61 @ldp4) (And.intro @ldf4 (And.intro @stp4 @fap45_2))) (And.intro (And.intro @faf45_2 @ldp40) (And.intro @ldf40 (And.intro @al40 @stp40))))))
def TY2:=(And.intro (And.intro (And.intro (And.intro (And.intro @lef62 @les62) (And.intro @len62 (And.intro @ldf_62 @lds_62))) (And.intro (And.intro @ldc_62 @ldn_62) (And.intro @ixs62 (And.intro @ixf62 @sls62)))) (And.intro (And.intro (And.intro @slf62 @sln62) (And.intro @slc62 (And.intro @bs62 @aps62_62))) (And.intro (And.intro @apn62_62 @apc62_62) (And.intro @al61 (And.intro @ldp61 @ldf61))))) (And.intro (And.intro (And.intro (And.intro @bs61 @aps61_61) (And.intro @apn61_61 (And.intro @apc61_61 @stp61))) (And.intro (And.intro @al35 @stp35) (And.intro @aps35_35 (And.intro @apn35_35 @apc35_35)))) (And.intro (And.intro (And.intro @ldp35 @ldf35) (And.intro @lef38 (And.intro @les38 @len38))) (And.intro (And.intro @ldf_38 @lds_38) (And.intro @ldc_38 (And.intro @ldn_38 @ixs38))))))
def TY3:=(And.intro (And.intro (And.intro (And.intro (And.intro @ixf38 @mm68) (And.intro @lk68 (And.intro @mu68 @ldm_68))) (And.intro (And.intro @mk48 @rg68) (And.intro @aps48_48 (And.intro @apn48_48 @apc48_48)))) (And.intro (And.intro (And.intro @lst9 @ldt_9) (And.intro @bd82 (And.intro @agneq51 @nils38))) (And.intro (And.intro @nilc38 @niln38) (And.intro @nilf38 (And.intro @stp9 @mk62))))) (And.intro (And.intro (And.intro (And.intro @stp3 @cv3_89) (And.intro @fap82_1 (And.intro @faf82_1 @ldp80))) (And.intro (And.intro @ldf80 @mm80) (And.intro @stp80 (And.intro @lk80 @mu80)))) (And.intro (And.intro (And.intro @fap82_0 @faf82_0) (And.intro @ldp79 (And.intro @ldf79 @stp79))) (And.intro (And.intro @al23 @al4) (And.intro @al93 (And.intro @stp93 @ldp93))))))
def TY4:=(And.intro (And.intro (And.intro (And.intro (And.intro @ldf93 @ldp23) (And.intro @ldf23 @cv89_108)) (And.intro (And.intro @al79 @fap79_0) (And.intro @faf79_0 @fap79_1))) (And.intro (And.intro (And.intro @faf79_1 @bd79) (And.intro @bd45 @bs23)) (And.intro (And.intro @aps23_23 @apn23_23) (And.intro @apc23_23 @stp23)))) (And.intro (And.intro (And.intro (And.intro @sls23 @slf23) (And.intro @sln23 @slc23)) (And.intro (And.intro @cv3_112 @al112) (And.intro @stp112 @cv89_3))) (And.intro (And.intro (And.intro @al3 @cv108_5) (And.intro @ixt9 @cv5_3)) (And.intro (And.intro @cv110_5 @rg80) (And.intro @ldp112 (And.intro @ldf112 @stp38))))))
def TY:=(And.intro (And.intro TY0 TY1) (And.intro TY2 (And.intro TY3 TY4)))
theorem mixed:Try.prog.follows .mixedOrders = true:=by kernel_rfl
end Go.Proofs.Ytbhcfbnkdbioaaa.AbT
namespace Go.Fl
open Go Go.T Go.Ab Go.Proofs
theorem zDN:Try.prog.follows .mixedOrders = true:=by kernel_rfl
end Go.Fl
set_option maxRecDepth 100000
namespace Go.Fl
open Go Go.T Go.Ab Go.Proofs
variable [Go.Ab.DM]
noncomputable def F10 (x:((List (Int × (ByteArray × Int))) × (List (Int × (ByteArray × Int))))):(Option Bool) :=
sel (ine (n2i (zAL x.1)) (n2i (zAL x.2))) (some false) <|
join (zCv (fun (s0:Int) =>
sel (ilt s0 (n2i (zAL x.1))) (need (inL s0 (zAL x.1)) <|
need (inL s0 (zAL x.2)) <|
sel (zCQ (band (ieq ((zAJ (0,(⟨#[]⟩:ByteArray),0) x.1 (i2n s0)).1) ((zAJ (0,(⟨#[]⟩:ByteArray),0) x.2 (i2n s0)).1)) (band (seq (((zAJ (0,(⟨#[]⟩:ByteArray),0) x.1 (i2n s0)).2).1) (((zAJ (0,(⟨#[]⟩:ByteArray),0) x.2 (i2n s0)).2).1)) (band (ieq (((zAJ (0,(⟨#[]⟩:ByteArray),0) x.1 (i2n s0)).2).2) (((zAJ (0,(⟨#[]⟩:ByteArray),0) x.2 (i2n s0)).2).2)) true)))) (some (.inr (.inr false))) <|
some (.inl (zBo .i64 s0 1))) <|
some (.inr (.inl ()))) 0) fun (j1:PUnit) =>
some true
noncomputable def c10:Con:=⟨10,[.sl (.agg (.pr (.int .i64) (.pr .str (.int .i64)))),.sl (.agg (.pr (.int .i64) (.pr .str (.int .i64))))],[],.bool,[],F10,none⟩
theorem ok10:zAu Try.prog c10:=zBe zDN [] (zBf) c10 Try.f10 (.n .o (.n .o (.n (.n .o (.jb ⟨[],[],[],0,0⟩ (.l ⟨[0,1],[(5,.int .i64)],[],0,1⟩ (.n .o (.n (.b (.n (.r [0,1,2,3,4,5,6,7,8]) .o)) .o))))) .o))) Try.func10 (by kernel_rfl) (by kernel_rfl) (by kernel_rfl) rfl (fun x=>by kernel_rfl) (fun x=>⟨by kernel_rfl,by kernel_rfl⟩)
noncomputable def F20 (x:((List ByteArray) × (List ByteArray))):(Option Bool) :=
sel (ine (n2i (zAL x.1)) (n2i (zAL x.2))) (some false) <|
join (zCv (fun (s0:Int) =>
sel (ilt s0 (n2i (zAL x.1))) (need (inL s0 (zAL x.1)) <|
need (inL s0 (zAL x.2)) <|
sel (zCQ (seq (zAJ (⟨#[]⟩:ByteArray) x.1 (i2n s0)) (zAJ (⟨#[]⟩:ByteArray) x.2 (i2n s0)))) (some (.inr (.inr false))) <|
some (.inl (zBo .i64 s0 1))) <|
some (.inr (.inl ()))) 0) fun (j1:PUnit) =>
some true
noncomputable def c20:Con:=⟨20,[.sl .str,.sl .str],[],.bool,[],F20,none⟩
theorem ok20:zAu Try.prog c20:=zBe zDN [] (zBf) c20 Try.f20 (.n .o (.n .o (.n (.n .o (.jb ⟨[],[],[],0,0⟩ (.l ⟨[0,1,12],[(13,.int .i64)],[],0,1⟩ (.n .o (.n .o (.n (.b (.n .o (.n (.r [0,1,2,3,4,5,6,7,8]) .o))) .o)))))) .o))) Try.func20 (by kernel_rfl) (by kernel_rfl) (by kernel_rfl) rfl (fun x=>by kernel_rfl) (fun x=>⟨by kernel_rfl,by kernel_rfl⟩)
noncomputable def F22 (x:(Int × (ByteArray × Int))):(Option Bool) :=
some (ilt x.2.2 0)
noncomputable def c22:Con:=⟨22,[.agg (.pr (.int .i64) (.pr .str (.int .i64)))],[],.bool,[],F22,none⟩
theorem ok22:zAu Try.prog c22:=zBe zDN [] (zBf) c22 Try.f22 (.o) Try.func22 (by kernel_rfl) (by kernel_rfl) (by kernel_rfl) rfl (fun x=>by kernel_rfl) (fun x=>⟨by kernel_rfl,by kernel_rfl⟩)
noncomputable def F27 (x:(List (Int × (ByteArray × Int)))):(Option Bool) :=
join (zCv (fun (s0:Int) =>
sel (ilt s0 (n2i (zAL x))) (need (inL s0 (zAL x)) <|
sel (ilt 61 (n2i (ssize (((zAJ (0,(⟨#[]⟩:ByteArray),0) x (i2n s0)).2).1)))) (some (.inr (.inr true))) <|
some (.inl (zBo .i64 s0 1))) <|
some (.inr (.inl ()))) 0) fun (j1:PUnit) =>
some (ilt 70 (n2i (zAL x)))
noncomputable def c27:Con:=⟨27,[.sl (.agg (.pr (.int .i64) (.pr .str (.int .i64))))],[],.bool,[],F27,none⟩
theorem ok27:zAu Try.prog c27:=zBe zDN [] (zBf) c27 Try.f27 (.n .o (.n (.n .o (.jb ⟨[0],[],[],0,0⟩ (.l ⟨[0],[(3,.int .i64)],[],0,1⟩ .o))) .o)) Try.func27 (by kernel_rfl) (by kernel_rfl) (by kernel_rfl) rfl (fun x=>by kernel_rfl) (fun x=>⟨by kernel_rfl,by kernel_rfl⟩)
noncomputable def F30 (x:((List (ByteArray × (Int × Int))) × (List (ByteArray × (Int × Int))))):(Option Bool) :=
sel (ine (n2i (zAL x.1)) (n2i (zAL x.2))) (some false) <|
join (zCv (fun (s0:Int) =>
sel (ilt s0 (n2i (zAL x.1))) (need (inL s0 (zAL x.1)) <|
need (inL s0 (zAL x.2)) <|
sel (zCQ (band (seq ((zAJ ((⟨#[]⟩:ByteArray),0,0) x.1 (i2n s0)).1) ((zAJ ((⟨#[]⟩:ByteArray),0,0) x.2 (i2n s0)).1)) (band (ieq (((zAJ ((⟨#[]⟩:ByteArray),0,0) x.1 (i2n s0)).2).1) (((zAJ ((⟨#[]⟩:ByteArray),0,0) x.2 (i2n s0)).2).1)) (band (ieq (((zAJ ((⟨#[]⟩:ByteArray),0,0) x.1 (i2n s0)).2).2) (((zAJ ((⟨#[]⟩:ByteArray),0,0) x.2 (i2n s0)).2).2)) true)))) (some (.inr (.inr false))) <|
some (.inl (zBo .i64 s0 1))) <|
some (.inr (.inl ()))) 0) fun (j1:PUnit) =>
some true
noncomputable def c30:Con:=⟨30,[.sl (.agg (.pr .str (.pr (.int .i64) (.int .i64)))),.sl (.agg (.pr .str (.pr (.int .i64) (.int .i64))))],[],.bool,[],F30,none⟩
theorem ok30:zAu Try.prog c30:=zBe zDN [] (zBf) c30 Try.f30 (.n .o (.n .o (.n (.n .o (.jb ⟨[],[],[],0,0⟩ (.l ⟨[0,1,12],[(13,.int .i64)],[],0,1⟩ (.n .o (.n .o (.n (.b (.n .o (.n (.r [0,1,2,3,4,5,6,7,8]) .o))) .o)))))) .o))) Try.func30 (by kernel_rfl) (by kernel_rfl) (by kernel_rfl) rfl (fun x=>by kernel_rfl) (fun x=>⟨by kernel_rfl,by kernel_rfl⟩)
noncomputable def F35 (x:ByteArray):(Option Bool) :=
some (zAH (ile 1 (n2i (ssize x))) (ile (n2i (ssize x)) 60) false)
noncomputable def c35:Con:=⟨35,[.str],[],.bool,[],F35,none⟩
theorem ok35:zAu Try.prog c35:=zBe zDN [] (zBf) c35 Try.f35 (.o) Try.func35 (by kernel_rfl) (by kernel_rfl) (by kernel_rfl) rfl (fun x=>by kernel_rfl) (fun x=>⟨by kernel_rfl,by kernel_rfl⟩)
noncomputable def F36 (x:Int):(Option Bool) :=
some (zAH (ile (-1099511627776) x) (ile x 1099511627776) false)
noncomputable def c36:Con:=⟨36,[.int .i64],[],.bool,[],F36,none⟩
theorem ok36:zAu Try.prog c36:=zBe zDN [] (zBf) c36 Try.f36 (.o) Try.func36 (by kernel_rfl) (by kernel_rfl) (by kernel_rfl) rfl (fun x=>by kernel_rfl) (fun x=>⟨by kernel_rfl,by kernel_rfl⟩)
noncomputable def F43 (x:(List Int)):(Option Int) :=
join (zCv (fun (s0:Int) =>
sel (ilt s0 (n2i (zAL x))) (need (inL s0 (zAL x)) <|
sel (ine (zAJ 0 x (i2n s0)) 0) (some (.inr (.inr (zAJ 0 x (i2n s0))))) <|
some (.inl (zBo .i64 s0 1))) <|
some (.inr (.inl ()))) 0) fun (j1:PUnit) =>
some 0
noncomputable def c43:Con:=⟨43,[.sl (.int .i64)],[],.int .i64,[],F43,none⟩
theorem ok43:zAu Try.prog c43:=zBe zDN [] (zBf) c43 Try.f43 (.n .o (.n .o (.n (.n .o (.jb ⟨[3],[],[],0,0⟩ (.l ⟨[3,6,7],[(8,.int .i64)],[],0,1⟩ .o))) .o))) Try.func43 (by kernel_rfl) (by kernel_rfl) (by kernel_rfl) rfl (fun x=>by kernel_rfl) (fun x=>⟨by kernel_rfl,by kernel_rfl⟩)
noncomputable def F46 (x:((List ByteArray) × ByteArray)):(Option Int) :=
join (zCv (fun (s0:Int) =>
sel (ilt s0 (n2i (zAL x.1))) (need (inL s0 (zAL x.1)) <|
sel (seq x.2 (zAJ (⟨#[]⟩:ByteArray) x.1 (i2n s0))) (some (.inr (.inr s0))) <|
some (.inl (zBo .i64 s0 1))) <|
some (.inr (.inl ()))) 0) fun (j1:PUnit) =>
some (-1)
noncomputable def c46:Con:=⟨46,[.sl .str,.str],[],.int .i64,[],F46,none⟩
theorem ok46:zAu Try.prog c46:=zBe zDN [] (zBf) c46 Try.f46 (.n .o (.n (.n .o (.jb ⟨[],[],[],0,0⟩ (.l ⟨[0,1,7],[(8,.int .i64)],[],0,1⟩ .o))) .o)) Try.func46 (by kernel_rfl) (by kernel_rfl) (by kernel_rfl) rfl (fun x=>by kernel_rfl) (fun x=>⟨by kernel_rfl,by kernel_rfl⟩)
noncomputable def F55 (x:Int):(Option Bool) :=
some (ine x x)
noncomputable def c55:Con:=⟨55,[.int .i64],[],.bool,[],F55,none⟩
theorem ok55:zAu Try.prog c55:=zBe zDN [] (zBf) c55 Try.f55 (.o) Try.func55 (by kernel_rfl) (by kernel_rfl) (by kernel_rfl) rfl (fun x=>by kernel_rfl) (fun x=>⟨by kernel_rfl,by kernel_rfl⟩)
noncomputable def F56 (x:ByteArray):(Option Bool) :=
some (zCQ (seq x x))
noncomputable def c56:Con:=⟨56,[.str],[],.bool,[],F56,none⟩
theorem ok56:zAu Try.prog c56:=zBe zDN [] (zBf) c56 Try.f56 (.o) Try.func56 (by kernel_rfl) (by kernel_rfl) (by kernel_rfl) rfl (fun x=>by kernel_rfl) (fun x=>⟨by kernel_rfl,by kernel_rfl⟩)
noncomputable def F57 (x:ByteArray):(Option Bool) :=
some (zAH (ile 1 (n2i (ssize x))) (ile (n2i (ssize x)) 60) false)
noncomputable def c57:Con:=⟨57,[.str],[],.bool,[],F57,none⟩
theorem ok57:zAu Try.prog c57:=zBe zDN [] (zBf) c57 Try.f57 (.o) Try.func57 (by kernel_rfl) (by kernel_rfl) (by kernel_rfl) rfl (fun x=>by kernel_rfl) (fun x=>⟨by kernel_rfl,by kernel_rfl⟩)
noncomputable def F58 (x:Int):(Option Bool) :=
some (zAH (ile (-1099511627776) x) (ile x 1099511627776) false)
noncomputable def c58:Con:=⟨58,[.int .i64],[],.bool,[],F58,none⟩
theorem ok58:zAu Try.prog c58:=zBe zDN [] (zBf) c58 Try.f58 (.o) Try.func58 (by kernel_rfl) (by kernel_rfl) (by kernel_rfl) rfl (fun x=>by kernel_rfl) (fun x=>⟨by kernel_rfl,by kernel_rfl⟩)
noncomputable def F59 (x:((List (Int × (ByteArray × Int))) × (Int × Int))):(Option Bool) :=
join (zCv (fun (s0:Int) =>
sel (ilt x.2.1 s0) (need (inL s0 (zAL x.1)) <|
some (.inl ((zAJ (0,(⟨#[]⟩:ByteArray),0) x.1 (i2n s0)).1))) <|
some (.inr (.inl s0))) x.2.2) fun (j1:Int) =>
some (ieq j1 x.2.1)
noncomputable def c59:Con:=⟨59,[.sl (.agg (.pr (.int .i64) (.pr .str (.int .i64)))),.int .i64,.int .i64],[],.bool,[],F59,none⟩
theorem ok59:zAu Try.prog c59:=zBe zDN [] (zBf) c59 Try.f59 (.n .o (.n (.jb ⟨[1],[(2,.int .i64)],[],0,0⟩ (.l ⟨[0,1],[(2,.int .i64)],[],0,1⟩ .o)) .o)) Try.func59 (by kernel_rfl) (by kernel_rfl) (by kernel_rfl) rfl (fun x=>by kernel_rfl) (fun x=>⟨by kernel_rfl,by kernel_rfl⟩)
noncomputable def F60 (x:((List (Int × (ByteArray × Int))) × Int)):(Option Int) :=
join (zCv (fun (s0:Int) =>
need (inL x.2 (zAL x.1)) <|
sel (ilt ((zAJ (0,(⟨#[]⟩:ByteArray),0) x.1 (i2n x.2)).1) s0) (need (inL s0 (zAL x.1)) <|
need (inL x.2 (zAL x.1)) <|
sel (ieq ((zAJ (0,(⟨#[]⟩:ByteArray),0) x.1 (i2n s0)).1) ((zAJ (0,(⟨#[]⟩:ByteArray),0) x.1 (i2n x.2)).1)) (some (.inr (.inr s0))) <|
some (.inl (isub .i64 s0 1))) <|
some (.inr (.inl ()))) (isub .i64 x.2 1)) fun (j1:PUnit) =>
some (-1)
noncomputable def c60:Con:=⟨60,[.sl (.agg (.pr (.int .i64) (.pr .str (.int .i64)))),.int .i64],[],.int .i64,[],F60,none⟩
theorem ok60:zAu Try.prog c60:=zBe zDN [] (zBf) c60 Try.f60 (.n .o (.n (.n .o (.jb ⟨[],[],[],0,0⟩ (.l ⟨[0,1],[(5,.int .i64)],[],0,1⟩ (.n .o (.n (.b (.n (.r [0,1,2,3,4,5,6,7,8,9,10]) .o)) .o))))) .o)) Try.func60 (by kernel_rfl) (by kernel_rfl) (by kernel_rfl) rfl (fun x=>by kernel_rfl) (fun x=>⟨by kernel_rfl,by kernel_rfl⟩)
noncomputable def F61 (x:((List (Int × (ByteArray × Int))) × Int)):(Option Int) :=
join (zCv (fun (s0:(Int × Int)) =>
need (inL s0.1 (zAL x.1)) <|
sel (ile 0 ((zAJ (0,(⟨#[]⟩:ByteArray),0) x.1 (i2n s0.1)).1)) (need (inL s0.1 (zAL x.1)) <|
some (.inl ((zAJ (0,(⟨#[]⟩:ByteArray),0) x.1 (i2n s0.1)).1,zBo .i64 s0.2 1))) <|
some (.inr (.inl s0.2))) (x.2,0)) fun (j1:Int) =>
some j1
noncomputable def c61:Con:=⟨61,[.sl (.agg (.pr (.int .i64) (.pr .str (.int .i64)))),.int .i64],[],.int .i64,[],F61,none⟩
theorem ok61:zAu Try.prog c61:=zBe zDN [] (zBf) c61 Try.f61 (.n .o (.n .o (.n (.jb ⟨[],[(5,.int .i64)],[],0,0⟩ (.l ⟨[0],[(1,.int .i64),(5,.int .i64)],[],0,1⟩ .o)) .o))) Try.func61 (by kernel_rfl) (by kernel_rfl) (by kernel_rfl) rfl (fun x=>by kernel_rfl) (fun x=>⟨by kernel_rfl,by kernel_rfl⟩)
noncomputable def F64 (x:((Int × Int) × Int)):(Option (Int × Int)) :=
need (ine 1048576 0) <|
need (ine 1048576 0) <|
some (zBo .i64 x.1.1 (iquo .i64 x.2 1048576),zBo .i64 x.1.2 (irem x.2 1048576))
noncomputable def c64:Con:=⟨64,[.agg (.pr (.int .i64) (.int .i64)),.int .i64],[],.agg (.pr (.int .i64) (.int .i64)),[],F64,none⟩
theorem ok64:zAu Try.prog c64:=zBe zDN [] (zBf) c64 Try.f64 (.o) Try.func64 (by kernel_rfl) (by kernel_rfl) (by kernel_rfl) rfl (fun x=>by kernel_rfl) (fun x=>⟨by kernel_rfl,by kernel_rfl⟩)
noncomputable def F13 (x:(List (Int × (ByteArray × Int)))):(Option Int) :=
sel (ilt 2000 (n2i (zAL x))) (some 4) <|
join (zCv (fun (s0:(Int × (List Int))) =>
sel (ilt s0.1 (n2i (zAL x))) (join (need (inL s0.1 (zAL x)) <|
call (F35 (((zAJ (0,(⟨#[]⟩:ByteArray),0) x (i2n s0.1)).2).1)) fun (r1:Bool) =>
sel (zCQ r1) (some (.inr (.inr (.inr 5)))) <|
call (F36 (((zAJ (0,(⟨#[]⟩:ByteArray),0) x (i2n s0.1)).2).2)) fun (r2:Bool) =>
sel (zCQ r2) (some (.inr (.inr (.inr 2)))) <|
join (zCv (fun (s3:((Nat × Nat) × Int)) =>
need (impl (ilt 0 (n2i s3.1.2)) (inL (isub .i64 (n2i s3.1.2) 1) s3.1.2)) <|
sel (zAH (ilt 0 (n2i s3.1.2)) (ine (zAJ 0 s0.2 (nadd s3.1.1 (i2n (isub .i64 (n2i s3.1.2) 1)))) ((zAJ (0,(⟨#[]⟩:ByteArray),0) x (i2n s0.1)).1)) false) (need (inL (isub .i64 (n2i s3.1.2) 1) s3.1.2) <|
need (inS 0 (isub .i64 (n2i s3.1.2) 1) s3.1.2) <|
some (.inl ((nadd s3.1.1 (i2n 0),nsub (i2n (isub .i64 (n2i s3.1.2) 1)) (i2n 0)),zAJ 0 s0.2 (nadd s3.1.1 (i2n (isub .i64 (n2i s3.1.2) 1)))))) <|
some (.inr (.inl (s3.1,s3.2)))) ((0,zAL s0.2),(-1))) fun (j4:((Nat × Nat) × Int)) =>
sel (zAH (ieq (n2i j4.1.2) 0) (ine ((zAJ (0,(⟨#[]⟩:ByteArray),0) x (i2n s0.1)).1) (-1)) false) (some (.inr (.inr (.inr 9)))) <|
need (impl (ile 0 j4.2) (inL j4.2 (zAL x))) <|
sel (zAH (ile 0 j4.2) (sle (((zAJ (0,(⟨#[]⟩:ByteArray),0) x (i2n s0.1)).2).1) (((zAJ (0,(⟨#[]⟩:ByteArray),0) x (i2n j4.2)).2).1)) false) (some (.inr (.inr (.inr 9)))) <|
sel (ilt 63 (n2i j4.1.2)) (some (.inr (.inr (.inr 30)))) <|
need (impl (band (ieq (((zAJ (0,(⟨#[]⟩:ByteArray),0) x (i2n s0.1)).2).2) 0) (zCQ (ieq (zBo .i64 s0.1 1) (n2i (zAL x))))) (inL (zBo .i64 s0.1 1) (zAL x))) <|
sel (zAH (ieq (((zAJ (0,(⟨#[]⟩:ByteArray),0) x (i2n s0.1)).2).2) 0) (zAH (ieq (zBo .i64 s0.1 1) (n2i (zAL x))) true (ine ((zAJ (0,(⟨#[]⟩:ByteArray),0) x (i2n (zBo .i64 s0.1 1))).1) s0.1)) false) (some (.inr (.inr (.inr 1)))) <|
need (room (nadd (zAL (lsub s0.2 j4.1.1 j4.1.2)) (zAL (s0.1 :: ([]:List Int)))) 8) <|
need (nlt 0 (zAL (s0.1 :: ([]:List Int)))) <|
some (.inl (lcat (lsub s0.2 j4.1.1 j4.1.2) (s0.1 :: ([]:List Int))))) fun (j5:(List Int)) =>
some (.inl (zBo .i64 s0.1 1,j5))) <|
some (.inr (.inl ()))) (0,([]:List Int))) fun (j6:PUnit) =>
some 0
noncomputable def c13:Con:=⟨13,[.sl (.agg (.pr (.int .i64) (.pr .str (.int .i64))))],[],.int .i64,[],F13,none⟩
theorem ok13:zAu Try.prog c13:=zBe zDN [c35,c36] (zAU ok35 (zAU ok36 (zBf))) c13 Try.f13 (.n .o (.n .o (.n .o (.n (.n .o (.jb ⟨[],[],[],0,0⟩ (.l ⟨[0,10,11],[(3,.own 0),(12,.int .i64)],[(0,.lst (.int .i64))],1,1⟩ (.n .o (.n .o (.n (.jb ⟨[0,10,11,12],[(3,.own 0)],[(0,.lst (.int .i64))],1,2⟩ (.n .o (.n .o (.n .o (.n .o (.n (.jb ⟨[0,4,5,10,11,12],[(3,.sub 0),(6,.int .i64)],[],2,3⟩ (.l ⟨[0,4,5,10,11,12],[(3,.sub 0),(6,.int .i64)],[],2,4⟩ (.n (.n (.r [0,1,2,3,4,5,6,7,8,9,10,11,12,13]) .o) .o))) (.n .o (.n (.n (.r [0,1,2,3,4,5,6,7,8,9,10,11]) .o) .o)))))))) .o)))))) .o)))) Try.func13 (by kernel_rfl) (by kernel_rfl) (by kernel_rfl) rfl (fun x=>by kernel_rfl) (fun x=>⟨by kernel_rfl,by kernel_rfl⟩)
noncomputable def F19 (x:(((List ByteArray) × Int) × ((List ByteArray) × Int))):(Option Bool) :=
call (sel (ieq x.2.2 x.1.2) (F20 (x.2.1,x.1.1)) <|
some false) fun (r0:Bool) =>
some (zAH (ieq x.2.2 x.1.2) r0 false)
noncomputable def c19:Con:=⟨19,[.agg (.pr (.sl .str) (.int .i64)),.fp (.agg (.pr (.sl .str) (.int .i64))) 0],[],.bool,[],F19,none⟩
theorem ok19:zAu Try.prog c19:=zBe zDN [c20] (zAU ok20 (zBf)) c19 Try.f19 (.o) Try.func19 (by kernel_rfl) (by kernel_rfl) (by kernel_rfl) rfl (fun x=>by kernel_rfl) (fun x=>⟨by kernel_rfl,by kernel_rfl⟩)
noncomputable def F24 (x:((List ByteArray) × ByteArray)):(Option Bool) :=
call (F46 (x.1,x.2)) fun (r0:Int) =>
some (ile 0 r0)
noncomputable def c24:Con:=⟨24,[.sl .str,.str],[],.bool,[],F24,none⟩
theorem ok24:zAu Try.prog c24:=zBe zDN [c46] (zAU ok46 (zBf)) c24 Try.f24 (.o) Try.func24 (by kernel_rfl) (by kernel_rfl) (by kernel_rfl) rfl (fun x=>by kernel_rfl) (fun x=>⟨by kernel_rfl,by kernel_rfl⟩)
noncomputable def F40 (x:(List (Int × (ByteArray × Int)))):(Option Int) :=
join (zCv (fun (s0:Int) =>
sel (ilt s0 (n2i (zAL x))) (need (inL s0 (zAL x)) <|
call (F22 (zAJ (0,(⟨#[]⟩:ByteArray),0) x (i2n s0))) fun (r1:Bool) =>
sel r1 (some (.inr (.inr s0))) <|
some (.inl (zBo .i64 s0 1))) <|
some (.inr (.inl ()))) 0) fun (j2:PUnit) =>
some (-1)
noncomputable def c40:Con:=⟨40,[.sl (.agg (.pr (.int .i64) (.pr .str (.int .i64)))),.fn 22 .unit .unit],[],.int .i64,[],F40,none⟩
theorem ok40:zAu Try.prog c40:=zBe zDN [c22] (zAU ok22 (zBf)) c40 Try.f40 (.n .o (.n (.n .o (.jb ⟨[],[],[],0,0⟩ (.l ⟨[0,1,7],[(8,.int .i64)],[],0,1⟩ .o))) .o)) Try.func40 (by kernel_rfl) (by kernel_rfl) (by kernel_rfl) rfl (fun x=>by kernel_rfl) (fun x=>⟨by kernel_rfl,by kernel_rfl⟩)
noncomputable def F44 (x:(Int × Int)):(Option Int) :=
call (F55 x.1) fun (r0:Bool) =>
call (F55 x.2) fun (r1:Bool) =>
sel r0 (sel r1 (some 0) <|
some (-1)) <|
sel r1 (some 1) <|
sel (ilt x.1 x.2) (some (-1)) <|
sel (ilt x.2 x.1) (some 1) <|
some 0
noncomputable def c44:Con:=⟨44,[.int .i64,.int .i64],[],.int .i64,[],F44,none⟩
theorem ok44:zAu Try.prog c44:=zBe zDN [c55] (zAU ok55 (zBf)) c44 Try.f44 (.o) Try.func44 (by kernel_rfl) (by kernel_rfl) (by kernel_rfl) rfl (fun x=>by kernel_rfl) (fun x=>⟨by kernel_rfl,by kernel_rfl⟩)
noncomputable def F45 (x:(ByteArray × ByteArray)):(Option Int) :=
call (F56 x.1) fun (r0:Bool) =>
call (F56 x.2) fun (r1:Bool) =>
sel r0 (sel r1 (some 0) <|
some (-1)) <|
sel r1 (some 1) <|
sel (slt x.1 x.2) (some (-1)) <|
sel (zCQ (sle x.1 x.2)) (some 1) <|
some 0
noncomputable def c45:Con:=⟨45,[.str,.str],[],.int .i64,[],F45,none⟩
theorem ok45:zAu Try.prog c45:=zBe zDN [c56] (zAU ok56 (zBf)) c45 Try.f45 (.o) Try.func45 (by kernel_rfl) (by kernel_rfl) (by kernel_rfl) rfl (fun x=>by kernel_rfl) (fun x=>⟨by kernel_rfl,by kernel_rfl⟩)
noncomputable def F49 (x:((List (Int × (ByteArray × Int))) × Int)):(Option Int) :=
need (inL x.2 (zAL x.1)) <|
call (F57 (((zAJ (0,(⟨#[]⟩:ByteArray),0) x.1 (i2n x.2)).2).1)) fun (r0:Bool) =>
sel (zCQ r0) (some 5) <|
call (F58 (((zAJ (0,(⟨#[]⟩:ByteArray),0) x.1 (i2n x.2)).2).2)) fun (r1:Bool) =>
sel (zCQ r1) (some 2) <|
call (sel (zCQ (zAH (ilt ((zAJ (0,(⟨#[]⟩:ByteArray),0) x.1 (i2n x.2)).1) (-1)) true (ile x.2 ((zAJ (0,(⟨#[]⟩:ByteArray),0) x.1 (i2n x.2)).1)))) (F59 (x.1,(zAJ (0,(⟨#[]⟩:ByteArray),0) x.1 (i2n x.2)).1,isub .i64 x.2 1)) <|
some false) fun (r2:Bool) =>
sel (zAH (zAH (ilt ((zAJ (0,(⟨#[]⟩:ByteArray),0) x.1 (i2n x.2)).1) (-1)) true (ile x.2 ((zAJ (0,(⟨#[]⟩:ByteArray),0) x.1 (i2n x.2)).1))) true (zCQ r2)) (some 9) <|
call (F60 (x.1,x.2)) fun (r3:Int) =>
need (impl (ile 0 r3) (inL r3 (zAL x.1))) <|
sel (zAH (ile 0 r3) (zCQ (slt (((zAJ (0,(⟨#[]⟩:ByteArray),0) x.1 (i2n r3)).2).1) (((zAJ (0,(⟨#[]⟩:ByteArray),0) x.1 (i2n x.2)).2).1))) false) (some 9) <|
call (F61 (x.1,x.2)) fun (r4:Int) =>
sel (ilt 63 r4) (some 30) <|
need (impl (band (ieq (((zAJ (0,(⟨#[]⟩:ByteArray),0) x.1 (i2n x.2)).2).2) 0) (zCQ (ieq (zBo .i64 x.2 1) (n2i (zAL x.1))))) (inL (zBo .i64 x.2 1) (zAL x.1))) <|
sel (zAH (ieq (((zAJ (0,(⟨#[]⟩:ByteArray),0) x.1 (i2n x.2)).2).2) 0) (zAH (ieq (zBo .i64 x.2 1) (n2i (zAL x.1))) true (ine ((zAJ (0,(⟨#[]⟩:ByteArray),0) x.1 (i2n (zBo .i64 x.2 1))).1) x.2)) false) (some 1) <|
some 0
noncomputable def c49:Con:=⟨49,[.sl (.agg (.pr (.int .i64) (.pr .str (.int .i64)))),.int .i64],[],.int .i64,[],F49,none⟩
theorem ok49:zAu Try.prog c49:=zBe zDN [c57,c58,c59,c60,c61] (zAU ok57 (zAU ok58 (zAU ok59 (zAU ok60 (zAU ok61 (zBf)))))) c49 Try.f49 (.n .o (.n .o (.n .o (.n .o (.n .o (.n (.n .o (.n (.r [0,1,2,3,4,5,6,7,8,9,10,11]) .o)) .o)))))) Try.func49 (by kernel_rfl) (by kernel_rfl) (by kernel_rfl) rfl (fun x=>by kernel_rfl) (fun x=>⟨by kernel_rfl,by kernel_rfl⟩)
noncomputable def F63 (x:ByteArray):(Option Bool) :=
call (F35 x) fun (r0:Bool) =>
some (zCQ r0)
noncomputable def c63:Con:=⟨63,[.str],[],.bool,[],F63,none⟩
theorem ok63:zAu Try.prog c63:=zBe zDN [c35] (zAU ok35 (zBf)) c63 Try.f63 (.o) Try.func63 (by kernel_rfl) (by kernel_rfl) (by kernel_rfl) rfl (fun x=>by kernel_rfl) (fun x=>⟨by kernel_rfl,by kernel_rfl⟩)
noncomputable def F68 (x:(Int × Int)):(Option (Int × Bool)) :=
need (ine 1048576 0) <|
sel (zAH (ilt (zBo .i64 x.1 (iquo .i64 x.2 1048576)) (-1048577)) true (ilt 1048577 (zBo .i64 x.1 (iquo .i64 x.2 1048576)))) (some (0,false)) <|
need (ine 1048576 0) <|
call (F36 (zBo .i64 (imul .i64 (zBo .i64 x.1 (iquo .i64 x.2 1048576)) 1048576) (irem x.2 1048576))) fun (r0:Bool) =>
some (zBo .i64 (imul .i64 (zBo .i64 x.1 (iquo .i64 x.2 1048576)) 1048576) (irem x.2 1048576),r0)
noncomputable def c68:Con:=⟨68,[.agg (.pr (.int .i64) (.int .i64))],[],.tup (.pr (.int .i64) .bool),[],F68,none⟩
theorem ok68:zAu Try.prog c68:=zBe zDN [c36] (zAU ok36 (zBf)) c68 Try.f68 (.o) Try.func68 (by kernel_rfl) (by kernel_rfl) (by kernel_rfl) rfl (fun x=>by kernel_rfl) (fun x=>⟨by kernel_rfl,by kernel_rfl⟩)
noncomputable def F11 (x:((List (Int × (ByteArray × Int))) × ByteArray)):(Option Int) :=
call (F13 x.1) fun (r0:Int) =>
sel (ine r0 0) (some 0) <|
need (mk (n2i (zAL x.1)) (n2i (zAL x.1)) 1) <|
join (zCv (fun (s1:(Int × (Int × (List Bool)))) =>
sel (ilt s1.2.1 (n2i (zAL x.1))) (join (need (inL s1.2.1 (zAL x.1)) <|
need (impl (band (zCQ (seq (((zAJ (0,(⟨#[]⟩:ByteArray),0) x.1 (i2n s1.2.1)).2).1) x.2)) (ile 0 ((zAJ (0,(⟨#[]⟩:ByteArray),0) x.1 (i2n s1.2.1)).1))) (inL ((zAJ (0,(⟨#[]⟩:ByteArray),0) x.1 (i2n s1.2.1)).1) (zAL s1.2.2))) <|
need (inL s1.2.1 (zAL s1.2.2)) <|
need (inL s1.2.1 (zAL (lset s1.2.2 (i2n s1.2.1) (zAH (seq (((zAJ (0,(⟨#[]⟩:ByteArray),0) x.1 (i2n s1.2.1)).2).1) x.2) true (zAH (ile 0 ((zAJ (0,(⟨#[]⟩:ByteArray),0) x.1 (i2n s1.2.1)).1)) (zAJ false s1.2.2 (i2n ((zAJ (0,(⟨#[]⟩:ByteArray),0) x.1 (i2n s1.2.1)).1))) false))))) <|
sel (zAJ false (lset s1.2.2 (i2n s1.2.1) (zAH (seq (((zAJ (0,(⟨#[]⟩:ByteArray),0) x.1 (i2n s1.2.1)).2).1) x.2) true (zAH (ile 0 ((zAJ (0,(⟨#[]⟩:ByteArray),0) x.1 (i2n s1.2.1)).1)) (zAJ false s1.2.2 (i2n ((zAJ (0,(⟨#[]⟩:ByteArray),0) x.1 (i2n s1.2.1)).1))) false))) (i2n s1.2.1)) (some (.inl (zBo .i64 s1.1 (((zAJ (0,(⟨#[]⟩:ByteArray),0) x.1 (i2n s1.2.1)).2).2),lset s1.2.2 (i2n s1.2.1) (zAH (seq (((zAJ (0,(⟨#[]⟩:ByteArray),0) x.1 (i2n s1.2.1)).2).1) x.2) true (zAH (ile 0 ((zAJ (0,(⟨#[]⟩:ByteArray),0) x.1 (i2n s1.2.1)).1)) (zAJ false s1.2.2 (i2n ((zAJ (0,(⟨#[]⟩:ByteArray),0) x.1 (i2n s1.2.1)).1))) false))))) <|
some (.inl (s1.1,lset s1.2.2 (i2n s1.2.1) (zAH (seq (((zAJ (0,(⟨#[]⟩:ByteArray),0) x.1 (i2n s1.2.1)).2).1) x.2) true (zAH (ile 0 ((zAJ (0,(⟨#[]⟩:ByteArray),0) x.1 (i2n s1.2.1)).1)) (zAJ false s1.2.2 (i2n ((zAJ (0,(⟨#[]⟩:ByteArray),0) x.1 (i2n s1.2.1)).1))) false))))) fun (j2:(Int × (List Bool))) =>
some (.inl (j2.1,zBo .i64 s1.2.1 1,j2.2))) <|
some (.inr (.inl s1.1))) (0,0,lrep (n2i (zAL x.1)) false)) fun (j3:Int) =>
some j3
noncomputable def c11:Con:=⟨11,[.sl (.agg (.pr (.int .i64) (.pr .str (.int .i64)))),.str],[],.int .i64,[],F11,none⟩
theorem ok11:zAu Try.prog c11:=zBe zDN [c13] (zAU ok13 (zBf)) c11 Try.f11 (.n .o (.n .o (.n .o (.n .o (.n (.n .o (.jb ⟨[],[(5,.int .i64)],[],0,0⟩ (.l ⟨[1,6,15,16],[(5,.int .i64),(17,.int .i64)],[(0,.many .bool)],1,1⟩ (.n .o (.n .o (.n (.jb ⟨[1,6,15,16,17],[(5,.int .i64)],[(0,.many .bool)],1,2⟩ .o) .o)))))) .o))))) Try.func11 (by kernel_rfl) (by kernel_rfl) (by kernel_rfl) rfl (fun x=>by kernel_rfl) (fun x=>⟨by kernel_rfl,by kernel_rfl⟩)
noncomputable def F16 (x:(List (Int × (ByteArray × Int)))):(Option (List ((List ByteArray) × Int))) :=
call (F13 x) fun (r0:Int) =>
sel (ine r0 0) (some ([]:List ((List ByteArray) × Int))) <|
join (zCv (fun (s1:(Int × ((List ((List ByteArray) × Int)) × ((List ByteArray) × (List Int))))) =>
sel (ilt s1.1 (n2i (zAL x))) (join (need (inL s1.1 (zAL x)) <|
join (sel (ile 0 ((zAJ (0,(⟨#[]⟩:ByteArray),0) x (i2n s1.1)).1)) (need (inL ((zAJ (0,(⟨#[]⟩:ByteArray),0) x (i2n s1.1)).1) (zAL s1.2.2.2)) <|
some (.inl (zBo .i64 (zAJ 0 s1.2.2.2 (i2n ((zAJ (0,(⟨#[]⟩:ByteArray),0) x (i2n s1.1)).1))) 1))) <|
some (.inl 0)) fun (j2:Int) =>
need (room (nadd (zAL s1.2.2.2) (zAL (j2 :: ([]:List Int)))) 8) <|
need (inS 0 j2 (zAL s1.2.2.1)) <|
need (room (nadd (zAL (lsub s1.2.2.1 (i2n 0) (nsub (i2n j2) (i2n 0)))) (zAL (((zAJ (0,(⟨#[]⟩:ByteArray),0) x (i2n s1.1)).2).1 :: ([]:List ByteArray)))) 16) <|
need (nlt 0 (zAL (((zAJ (0,(⟨#[]⟩:ByteArray),0) x (i2n s1.1)).2).1 :: ([]:List ByteArray)))) <|
sel (ine (((zAJ (0,(⟨#[]⟩:ByteArray),0) x (i2n s1.1)).2).2) 0) (need (room (zAL (lcat (lsub s1.2.2.1 (i2n 0) (nsub (i2n j2) (i2n 0))) (((zAJ (0,(⟨#[]⟩:ByteArray),0) x (i2n s1.1)).2).1 :: ([]:List ByteArray)))) 16) <|
need (room (nadd (zAL s1.2.1) (zAL ((lcat (lsub s1.2.2.1 (i2n 0) (nsub (i2n j2) (i2n 0))) (((zAJ (0,(⟨#[]⟩:ByteArray),0) x (i2n s1.1)).2).1 :: ([]:List ByteArray)),((zAJ (0,(⟨#[]⟩:ByteArray),0) x (i2n s1.1)).2).2) :: ([]:List ((List ByteArray) × Int))))) 32) <|
some (.inl (lcat s1.2.1 ((lcat (lsub s1.2.2.1 (i2n 0) (nsub (i2n j2) (i2n 0))) (((zAJ (0,(⟨#[]⟩:ByteArray),0) x (i2n s1.1)).2).1 :: ([]:List ByteArray)),((zAJ (0,(⟨#[]⟩:ByteArray),0) x (i2n s1.1)).2).2) :: ([]:List ((List ByteArray) × Int))),lcat (lsub s1.2.2.1 (i2n 0) (nsub (i2n j2) (i2n 0))) (((zAJ (0,(⟨#[]⟩:ByteArray),0) x (i2n s1.1)).2).1 :: ([]:List ByteArray)),lcat s1.2.2.2 (j2 :: ([]:List Int))))) <|
some (.inl (s1.2.1,lcat (lsub s1.2.2.1 (i2n 0) (nsub (i2n j2) (i2n 0))) (((zAJ (0,(⟨#[]⟩:ByteArray),0) x (i2n s1.1)).2).1 :: ([]:List ByteArray)),lcat s1.2.2.2 (j2 :: ([]:List Int))))) fun (j3:((List ((List ByteArray) × Int)) × ((List ByteArray) × (List Int)))) =>
some (.inl (zBo .i64 s1.1 1,j3.1,j3.2.1,j3.2.2))) <|
some (.inr (.inl s1.2.1))) (0,([]:List ((List ByteArray) × Int)),([]:List ByteArray),([]:List Int))) fun (j4:(List ((List ByteArray) × Int))) =>
some j4
noncomputable def c16:Con:=⟨16,[.sl (.agg (.pr (.int .i64) (.pr .str (.int .i64))))],[],.sl (.agg (.pr (.sl .str) (.int .i64))),[],F16,none⟩
theorem ok16:zAu Try.prog c16:=zBe zDN [c13] (zAU ok13 (zBf)) c16 Try.f16 (.n .o (.n .o (.n .o (.n .o (.n .o (.n (.n .o (.jb ⟨[],[(3,.own 0)],[(0,.lst (.agg (.pr (.sl .str) (.int .i64))))],1,0⟩ (.l ⟨[13,14],[(3,.own 0),(4,.own 1),(5,.own 2),(15,.int .i64)],[(0,.lst (.agg (.pr (.sl .str) (.int .i64)))),(1,.lst .str),(2,.lst (.int .i64))],3,1⟩ (.n .o (.n .o (.n (.jb ⟨[13,14,15],[(3,.own 0),(4,.own 1),(5,.own 2)],[(0,.lst (.agg (.pr (.sl .str) (.int .i64)))),(1,.lst .str),(2,.lst (.int .i64))],3,2⟩ (.n .o (.n .o (.j ⟨[3,4,5,7,13,14,15],[(8,.int .i64)],[],4,3⟩ .o (.n .o (.n (.r [0,1,2,3,4,5,6,7]) .o)))))) .o)))))) .o)))))) Try.func16 (by kernel_rfl) (by kernel_rfl) (by kernel_rfl) rfl (fun x=>by kernel_rfl) (fun x=>⟨by kernel_rfl,by kernel_rfl⟩)
noncomputable def F21 (x:(List (Int × (ByteArray × Int)))):(Option Bool) :=
call (F40 x) fun (r0:Int) =>
some (ile 0 r0)
noncomputable def c21:Con:=⟨21,[.sl (.agg (.pr (.int .i64) (.pr .str (.int .i64)))),.fn 22 .unit .unit],[],.bool,[],F21,none⟩
theorem ok21:zAu Try.prog c21:=zBe zDN [c40,c22] (zAU ok40 (zAU ok22 (zBf))) c21 Try.f21 (.o) Try.func21 (by kernel_rfl) (by kernel_rfl) (by kernel_rfl) rfl (fun x=>by kernel_rfl) (fun x=>⟨by kernel_rfl,by kernel_rfl⟩)
noncomputable def F28 (x:(List (Int × (ByteArray × Int)))):(Option Int) :=
sel (ilt 2000 (n2i (zAL x))) (some 4) <|
join (zCv (fun (s0:Int) =>
sel (ilt s0 (n2i (zAL x))) (call (F49 (x,s0)) fun (r1:Int) =>
sel (ine r1 0) (some (.inr (.inr r1))) <|
some (.inl (zBo .i64 s0 1))) <|
some (.inr (.inl ()))) 0) fun (j2:PUnit) =>
some 0
noncomputable def c28:Con:=⟨28,[.sl (.agg (.pr (.int .i64) (.pr .str (.int .i64))))],[],.int .i64,[],F28,none⟩
theorem ok28:zAu Try.prog c28:=zBe zDN [c49] (zAU ok49 (zBf)) c28 Try.f28 (.n .o (.n .o (.n (.n .o (.jb ⟨[],[],[],0,0⟩ (.l ⟨[0],[(3,.int .i64)],[],0,1⟩ .o))) .o))) Try.func28 (by kernel_rfl) (by kernel_rfl) (by kernel_rfl) rfl (fun x=>by kernel_rfl) (fun x=>⟨by kernel_rfl,by kernel_rfl⟩)
noncomputable def F37 (x:(List (Int × (ByteArray × Int)))):(Option (List Int)) :=
call (F13 x) fun (r0:Int) =>
sel (ine r0 0) (some ([]:List Int)) <|
need (mk (n2i (zAL x)) (n2i (zAL x)) 8) <|
join (zCv (fun (s1:(Int × (List Int))) =>
sel (ile 0 s1.1) (join (need (inL s1.1 (zAL s1.2)) <|
need (inL s1.1 (zAL x)) <|
need (inL s1.1 (zAL s1.2)) <|
need (inL s1.1 (zAL x)) <|
sel (ile 0 ((zAJ (0,(⟨#[]⟩:ByteArray),0) x (i2n s1.1)).1)) (need (inL s1.1 (zAL x)) <|
need (inL ((zAJ (0,(⟨#[]⟩:ByteArray),0) x (i2n s1.1)).1) (zAL (lset s1.2 (i2n s1.1) (zBo .i64 (zAJ 0 s1.2 (i2n s1.1)) (((zAJ (0,(⟨#[]⟩:ByteArray),0) x (i2n s1.1)).2).2))))) <|
need (inL s1.1 (zAL (lset s1.2 (i2n s1.1) (zBo .i64 (zAJ 0 s1.2 (i2n s1.1)) (((zAJ (0,(⟨#[]⟩:ByteArray),0) x (i2n s1.1)).2).2))))) <|
need (inL ((zAJ (0,(⟨#[]⟩:ByteArray),0) x (i2n s1.1)).1) (zAL (lset s1.2 (i2n s1.1) (zBo .i64 (zAJ 0 s1.2 (i2n s1.1)) (((zAJ (0,(⟨#[]⟩:ByteArray),0) x (i2n s1.1)).2).2))))) <|
some (.inl (lset (lset s1.2 (i2n s1.1) (zBo .i64 (zAJ 0 s1.2 (i2n s1.1)) (((zAJ (0,(⟨#[]⟩:ByteArray),0) x (i2n s1.1)).2).2))) (i2n ((zAJ (0,(⟨#[]⟩:ByteArray),0) x (i2n s1.1)).1)) (zBo .i64 (zAJ 0 (lset s1.2 (i2n s1.1) (zBo .i64 (zAJ 0 s1.2 (i2n s1.1)) (((zAJ (0,(⟨#[]⟩:ByteArray),0) x (i2n s1.1)).2).2))) (i2n ((zAJ (0,(⟨#[]⟩:ByteArray),0) x (i2n s1.1)).1))) (zAJ 0 (lset s1.2 (i2n s1.1) (zBo .i64 (zAJ 0 s1.2 (i2n s1.1)) (((zAJ (0,(⟨#[]⟩:ByteArray),0) x (i2n s1.1)).2).2))) (i2n s1.1)))))) <|
some (.inl (lset s1.2 (i2n s1.1) (zBo .i64 (zAJ 0 s1.2 (i2n s1.1)) (((zAJ (0,(⟨#[]⟩:ByteArray),0) x (i2n s1.1)).2).2))))) fun (j2:(List Int)) =>
some (.inl (isub .i64 s1.1 1,j2))) <|
some (.inr (.inl s1.2))) (isub .i64 (n2i (zAL x)) 1,lrep (n2i (zAL x)) 0)) fun (j3:(List Int)) =>
some j3
noncomputable def c37:Con:=⟨37,[.sl (.agg (.pr (.int .i64) (.pr .str (.int .i64))))],[],.sl (.int .i64),[],F37,none⟩
theorem ok37:zAu Try.prog c37:=zBe zDN [c13] (zAU ok13 (zBf)) c37 Try.f37 (.n .o (.n .o (.n .o (.n (.n .o (.jb ⟨[3],[],[(0,.many (.int .i64))],1,0⟩ (.l ⟨[0,3],[(4,.int .i64)],[(0,.many (.int .i64))],1,1⟩ (.n .o (.n (.jb ⟨[0,3,4],[],[(0,.many (.int .i64))],1,2⟩ (.n (.r [0,1,2,3,4,5,6,7,8,9,10,11]) (.n .o (.n (.r [0,1,2,3,4,5,6,7,8,9,10,11,12,13,14]) .o)))) .o))))) .o)))) Try.func37 (by kernel_rfl) (by kernel_rfl) (by kernel_rfl) rfl (fun x=>by kernel_rfl) (fun x=>⟨by kernel_rfl,by kernel_rfl⟩)
noncomputable def F42 (x:((ByteArray × (Int × Int)) × (ByteArray × (Int × Int)))):(Option Int) :=
call (F44 (x.2.2.2,x.1.2.2)) fun (r0:Int) =>
call (F45 (x.1.1,x.2.1)) fun (r1:Int) =>
call (F43 (r0 :: (r1 :: ([]:List Int)))) fun (r2:Int) =>
some r2
noncomputable def c42:Con:=⟨42,[.agg (.pr .str (.pr (.int .i64) (.int .i64))),.agg (.pr .str (.pr (.int .i64) (.int .i64)))],[],.int .i64,[],F42,none⟩
theorem ok42:zAu Try.prog c42:=zBe zDN [c44,c45,c43] (zAU ok44 (zAU ok45 (zAU ok43 (zBf)))) c42 Try.f42 (.n .o (.n (.r [0,1,2,3,5,6,7,8,4,9,10,11,12]) .o)) Try.func42 (by kernel_rfl) (by kernel_rfl) (by kernel_rfl) rfl (fun x=>by kernel_rfl) (fun x=>⟨by kernel_rfl,by kernel_rfl⟩)
noncomputable def F47 (x:(Int × (((List ByteArray) × Int) × ByteArray))):(Option (((List ByteArray) × Int) × Bool)) :=
call (F24 (x.2.1.1,x.2.2)) fun (r0:Bool) =>
some (x.2.1,r0)
noncomputable def c47:Con:=⟨47,[.int .i64,.agg (.pr (.sl .str) (.int .i64)),.fp .str 0],[],.tup (.pr (.agg (.pr (.sl .str) (.int .i64))) .bool),[],F47,none⟩
theorem ok47:zAu Try.prog c47:=zBe zDN [c24] (zAU ok24 (zBf)) c47 Try.f47 (.n .o (.n (.r [0,1,2,3,4,5,6]) .o)) Try.func47 (by kernel_rfl) (by kernel_rfl) (by kernel_rfl) rfl (fun x=>by kernel_rfl) (fun x=>⟨by kernel_rfl,by kernel_rfl⟩)
noncomputable def F79 (x:(List ByteArray)):(Option Int) :=
join (zCv (fun (s0:Int) =>
sel (ilt s0 (n2i (zAL x))) (need (inL s0 (zAL x)) <|
call (F63 (zAJ (⟨#[]⟩:ByteArray) x (i2n s0))) fun (r1:Bool) =>
sel r1 (some (.inr (.inr s0))) <|
some (.inl (zBo .i64 s0 1))) <|
some (.inr (.inl ()))) 0) fun (j2:PUnit) =>
some (-1)
noncomputable def c79:Con:=⟨79,[.sl .str,.fn 63 .unit .unit],[],.int .i64,[],F79,none⟩
theorem ok79:zAu Try.prog c79:=zBe zDN [c63] (zAU ok63 (zBf)) c79 Try.f79 (.n .o (.n (.n .o (.jb ⟨[],[],[],0,0⟩ (.l ⟨[0,1,7],[(8,.int .i64)],[],0,1⟩ .o))) .o)) Try.func79 (by kernel_rfl) (by kernel_rfl) (by kernel_rfl) rfl (fun x=>by kernel_rfl) (fun x=>⟨by kernel_rfl,by kernel_rfl⟩)
noncomputable def F7 (x:(List (Int × (ByteArray × Int)))):(Option Bool) :=
call (F27 x) fun (r0:Bool) =>
call (sel (zCQ r0) (F28 x) <|
some 0) fun (r1:Int) =>
some (zAH (zCQ r0) (ieq r1 0) false)
noncomputable def c7:Con:=⟨7,[.sl (.agg (.pr (.int .i64) (.pr .str (.int .i64))))],[],.bool,[],F7,none⟩
theorem ok7:zAu Try.prog c7:=zBe zDN [c27,c28] (zAU ok27 (zAU ok28 (zBf))) c7 Try.f7 (.o) Try.func7 (by kernel_rfl) (by kernel_rfl) (by kernel_rfl) rfl (fun x=>by kernel_rfl) (fun x=>⟨by kernel_rfl,by kernel_rfl⟩)
noncomputable def F12 (x:(List (Int × (ByteArray × Int)))):(Option Int) :=
call (F16 x) fun (r0:(List ((List ByteArray) × Int))) =>
join (zCv (fun (s1:(Int × Int)) =>
sel (ilt s1.2 (n2i (zAL r0))) (need (inL s1.2 (zAL r0)) <|
some (.inl (zBo .i64 s1.1 ((zAJ (([]:List ByteArray),0) r0 (i2n s1.2)).2),zBo .i64 s1.2 1))) <|
some (.inr (.inl s1.1))) (0,0)) fun (j2:Int) =>
some j2
noncomputable def F62 (x:(List ByteArray)):(Option Bool) :=
call (F79 x) fun (r0:Int) =>
some (ile 0 r0)
noncomputable def c62:Con:=⟨62,[.sl .str,.fn 63 .unit .unit],[],.bool,[],F62,none⟩
theorem ok62:zAu Try.prog c62:=zBe zDN [c79,c63] (zAU ok79 (zAU ok63 (zBf))) c62 Try.f62 (.o) Try.func62 (by kernel_rfl) (by kernel_rfl) (by kernel_rfl) rfl (fun x=>by kernel_rfl) (fun x=>⟨by kernel_rfl,by kernel_rfl⟩)
noncomputable def F50 (x:((List ByteArray) × Int)):(Option Int) :=
sel (ieq (n2i (zAL x.1)) 0) (some 1) <|
sel (ilt 64 (n2i (zAL x.1))) (some 30) <|
call (F62 x.1) fun (r0:Bool) =>
sel r0 (some 5) <|
call (F36 x.2) fun (r1:Bool) =>
sel (zCQ r1) (some 2) <|
some 0
noncomputable def c50:Con:=⟨50,[.agg (.pr (.sl .str) (.int .i64))],[],.int .i64,[],F50,none⟩
theorem ok50:zAu Try.prog c50:=zBe zDN [c62,c36] (zAU ok62 (zAU ok36 (zBf))) c50 Try.f50 (.o) Try.func50 (by kernel_rfl) (by kernel_rfl) (by kernel_rfl) rfl (fun x=>by kernel_rfl) (fun x=>⟨by kernel_rfl,by kernel_rfl⟩)
end Go.Fl
namespace Go.Fl
open Go Go.T Go.Pl
abbrev Nm:=ByteArray
abbrev FN:=Int × Nm × Int
abbrev Sk:=List Nm × Int
inductive Fo where
 | nil
 | cons (n:Nm) (s:Int) (sub rest:Fo)
namespace Fo
def len:Fo → Nat
 | .nil=>0
 | .cons _ _ sub rest=>1 + sub.len + rest.len
def enc:Fo → Int → Nat → List FN
 | .nil,_,_=>[]
 | .cons n s sub rest,par,pl=>(par,n,s) :: (sub.enc pl (pl + 1) ++ rest.enc par (pl + 1 + sub.len))
theorem enc_len:∀ (F:Fo) (par:Int) (pl:Nat),(F.enc par pl).length = F.len
 | .nil,_,_=>rfl
 | .cons n s sub rest,par,pl=>by
   rw [enc,List.length_cons,List.length_append,enc_len sub,enc_len rest,len];omega
def app:Fo → Fo → Fo
 | .nil,G=>G
 | .cons n s sub rest,G=>.cons n s sub (rest.app G)
theorem app_nil:∀ F:Fo,F.app .nil = F
 | .nil=>rfl
 | .cons n s sub rest=>by rw [app,app_nil rest]
def stk:Fo → List Nm → List Sk
 | .nil,_=>[]
 | .cons n s sub rest,p=>(if s ≠ 0 then [(p ++ [n],s)] else []) ++ (sub.stk (p ++ [n]) ++ rest.stk p)
def okN (n:Nm) (s:Int):Prop:=1 ≤ n.size ∧ n.size ≤ 60 ∧ -1099511627776 ≤ s ∧ s ≤ 1099511627776
def heads:Fo → List Nm
 | .nil=>[]
 | .cons n _ _ rest=>n :: rest.heads
def Good:Fo → Nat → Prop
 | .nil,_=>True
 | .cons n s sub rest,d=>okN n s ∧ (s = 0 → sub ≠ .nil) ∧ d < 64 ∧ (∀ m ∈ rest.heads,slt n m = true) ∧ sub.Good (d + 1) ∧ rest.Good d
end Fo
open Go Go.Ab Go.T
abbrev iD (n:Int):D:=.v (.int .i64 n)
abbrev sV (n:Nm):Value:=.string n
abbrev pD (q:Nat):D:=.pt q 0 0
def Sm (u r s:Int) (c:Nat):Prop:=u * 1048576 + r = s ∧ -(1048576 * (c:Int)) ≤ u ∧ u ≤ 1048576 * (c:Int) ∧ -(1048576 * (c:Int)) ≤ r ∧ r ≤ 1048576 * (c:Int)
theorem Sm.mono {u r s:Int} {c c':Nat} (h:Sm u r s c) (hc:c ≤ c'):Sm u r s c':=by
 obtain ⟨h1,h2,h3,h4,h5⟩:=h
 exact ⟨h1,by omega,by omega,by omega,by omega⟩
structure MapOk (es:List (Nat × Value × D)) (cl:Nat) (l:List (Nm × Nat)):Prop where
 perm:(es.map fun p=>(p.2.1,p.2.2)).Perm (l.map fun p=>(sV p.1,pD p.2))
 nd:(es.map (·.1)).Nodup
 lt:∀ b ∈ es.map (·.1),b < cl
def KidsAt (H:Heap) (c:Nat):Fo → List (Nm × Nat) → List Nat → Prop
 | .nil,l,fp=>l = [] ∧ fp = []
 | .cons n s sub rest,l,fp=>∃ q l' fp1 fp2,l = (n,q) :: l' ∧ fp = (q :: fp1) ++ fp2 ∧
     (∃ u r d,H.get q = some (.cells 3 [.agg [iD u,iD r,d]]) ∧ Sm u r s c ∧
       ((d = .v (.map none) ∧ sub = .nil ∧ fp1 = []) ∨ ∃ m es cl l1 fp',d = .mp m ∧ H.get m = some (.mp es cl) ∧ MapOk es cl l1 ∧ fp1 = m :: fp' ∧ KidsAt H c sub l1 fp')) ∧
     KidsAt H c rest l' fp2
def ChAt (H:Heap) (c:Nat) (d:D) (F:Fo) (fp:List Nat):Prop :=
 (d = .v (.map none) ∧ F = .nil ∧ fp = []) ∨ ∃ m es cl l1 fp',d = .mp m ∧ H.get m = some (.mp es cl) ∧ MapOk es cl l1 ∧ fp = m :: fp' ∧ KidsAt H c F l1 fp'
def NodeAt (H:Heap) (c q:Nat) (s:Int) (F:Fo) (fp:List Nat):Prop:=∃ u r d fp',H.get q = some (.cells 3 [.agg [iD u,iD r,d]]) ∧ Sm u r s c ∧ fp = q :: fp' ∧ ChAt H c d F fp'
theorem kids_cons {H:Heap} {c:Nat} {n:Nm} {s:Int} {sub rest:Fo} {l:List (Nm × Nat)} {fp:List Nat}:KidsAt H c (.cons n s sub rest) l fp ↔ ∃ q l' fp1 fp2,l = (n,q) :: l' ∧ fp = fp1 ++ fp2 ∧ NodeAt H c q s sub fp1 ∧ KidsAt H c rest l' fp2:=by
 rw [KidsAt]
 constructor
 · rintro ⟨q,l',fp1,fp2,h1,h2,⟨u,r,d,h3,h4,h5⟩,h6⟩
   exact ⟨q,l',q :: fp1,fp2,h1,h2,⟨u,r,d,fp1,h3,h4,rfl,h5⟩,h6⟩
 · rintro ⟨q,l',_,fp2,h1,h2,⟨u,r,d,fp1,h3,h4,rfl,h5⟩,h6⟩
   exact ⟨q,l',fp1,fp2,h1,h2,⟨u,r,d,h3,h4,h5⟩,h6⟩
section
variable {H H':Heap} {c c':Nat}
theorem KidsAt.frame (hc:c ≤ c'):∀ {F:Fo} {l:List (Nm × Nat)} {fp:List Nat},KidsAt H c F l fp → (∀ r ∈ fp,H'.get r = H.get r) → KidsAt H' c' F l fp
 | .nil,l,fp,h,_=>h
 | .cons n s sub rest,l,fp,h,he=>by
   rw [KidsAt] at h ⊢
   obtain ⟨q,l',fp1,fp2,h1,rfl,⟨u,r,d,h3,h4,h5⟩,h6⟩:=h
   refine ⟨q,l',fp1,fp2,h1,rfl,⟨u,r,d,(he q (by simp)).trans h3,h4.mono hc,?_⟩,KidsAt.frame hc h6 fun r hr=>he r (by simp [hr])⟩
   rcases h5 with h5 | ⟨m,es,cl,l1,fp',g1,g2,g3,rfl,g5⟩
   · exact .inl h5
   · exact .inr ⟨m,es,cl,l1,fp',g1,(he m (by simp)).trans g2,g3,rfl,KidsAt.frame hc g5 fun r hr=>he r (by simp [hr])⟩
theorem ChAt.frame (hc:c ≤ c') {d:D} {F:Fo} {fp:List Nat} (h:ChAt H c d F fp) (he:∀ r ∈ fp,H'.get r = H.get r):ChAt H' c' d F fp:=by
 rcases h with h5 | ⟨m,es,cl,l1,fp',g1,g2,g3,rfl,g5⟩
 · exact .inl h5
 · exact .inr ⟨m,es,cl,l1,fp',g1,(he m (by simp)).trans g2,g3,rfl,KidsAt.frame hc g5 fun r hr=>he r (by simp [hr])⟩
theorem NodeAt.frame (hc:c ≤ c') {q:Nat} {s:Int} {F:Fo} {fp:List Nat} (h:NodeAt H c q s F fp) (he:∀ r ∈ fp,H'.get r = H.get r):NodeAt H' c' q s F fp:=by
 obtain ⟨u,r,d,fp',h1,h2,rfl,h4⟩:=h
 exact ⟨u,r,d,fp',(he q (by simp)).trans h1,h2.mono hc,rfl,h4.frame hc fun r hr=>he r (by simp [hr])⟩
theorem KidsAt.heads:∀ {F:Fo} {l:List (Nm × Nat)} {fp:List Nat},KidsAt H c F l fp → l.map (·.1) = F.heads
 | .nil,l,fp,h=>by rw [h.1];rfl
 | .cons n s sub rest,l,fp,h=>by
   obtain ⟨q,l',fp1,fp2,rfl,_,_,h6⟩:=kids_cons.1 h
   rw [List.map_cons,h6.heads];rfl
theorem KidsAt.lt:∀ {F:Fo} {l:List (Nm × Nat)} {fp:List Nat},KidsAt H c F l fp → ∀ r ∈ fp,r < H.length
 | .nil,l,fp,h,r,hr=>by rw [h.2] at hr;cases hr
 | .cons n s sub rest,l,fp,h,r,hr=>by
   rw [KidsAt] at h
   obtain ⟨q,l',fp1,fp2,h1,rfl,⟨u,r',d,h3,h4,h5⟩,h6⟩:=h
   rcases List.mem_append.1 hr with hr | hr
   · rcases List.mem_cons.1 hr with rfl | hr
     · exact Heap.get_lt h3
     · rcases h5 with ⟨_,_,rfl⟩ | ⟨m,es,cl,l1,fp',g1,g2,g3,rfl,g5⟩
       · cases hr
       · rcases List.mem_cons.1 hr with rfl | hr
         · exact Heap.get_lt g2
         · exact KidsAt.lt g5 r hr
   · exact KidsAt.lt h6 r hr
end
def Fo.at':Fo → Nm → (Int × Fo → Int × Fo) → Fo
 | .nil,n,g=>.cons n (g (0,.nil)).1 (g (0,.nil)).2 .nil
 | .cons m s sub rest,n,g=>if slt n m = true then .cons n (g (0,.nil)).1 (g (0,.nil)).2 (.cons m s sub rest) else if m = n then .cons m (g (s,sub)).1 (g (s,sub)).2 rest else .cons m s sub (rest.at' n g)
def insN:Int × Fo → List Nm → Int → Int × Fo
 | x,[],w=>(x.1 + w,x.2)
 | x,n :: p,w=>(x.1,x.2.at' n fun y=>insN y p w)
theorem slt_iff {a b:Nm}:slt a b = true ↔ a.data.toList < b.data.toList:=by
 unfold slt
 rw [Go.Proofs.bytesLess_eq,ByteArray.toList_eq,ByteArray.toList_eq,decide_eq_true_eq]
theorem nm_ext {a b:Nm} (h:a.data.toList = b.data.toList):a = b:=by
 cases a;cases b
 exact congrArg _ (Array.toList_inj.1 h)
theorem slt_irr (a:Nm):¬ slt a a = true:=fun h=>List.lt_irrefl _ (slt_iff.1 h)
theorem slt_trans {a b c:Nm} (h1:slt a b = true) (h2:slt b c = true):slt a c = true:=slt_iff.2 (List.lt_trans (slt_iff.1 h1) (slt_iff.1 h2))
theorem slt_asymm {a b:Nm} (h1:slt a b = true):¬ slt b a = true:=fun h2=>slt_irr a (slt_trans h1 h2)
theorem slt_tri (a b:Nm):slt a b = true ∨ a = b ∨ slt b a = true:=by
 by_cases h1:slt a b = true
 · exact .inl h1
 by_cases h2:slt b a = true
 · exact .inr (.inr h2)
 refine .inr (.inl (nm_ext ?_))
 rw [slt_iff] at h1 h2
 exact List.le_antisymm (List.not_lt.1 h2) (List.not_lt.1 h1)
def Fo.Srt:Fo → Prop
 | .nil=>True
 | .cons n s sub rest=>(∀ m ∈ rest.heads,slt n m = true) ∧ sub.Srt ∧ rest.Srt
theorem heads_at (n:Nm) (g:Int × Fo → Int × Fo):∀ {F:Fo} {m:Nm},m ∈ (F.at' n g).heads → m = n ∨ m ∈ F.heads
 | .nil,m,h=>by simp [Fo.at',Fo.heads] at h;exact .inl h
 | .cons k s sub rest,m,h=>by
   rw [Fo.at'] at h
   split at h
   · simp only [Fo.heads,List.mem_cons] at h ⊢;exact h
   split at h
   · exact .inr h
   · simp only [Fo.heads,List.mem_cons] at h ⊢
     rcases h with h | h
     · exact .inr (.inl h)
     · rcases heads_at n g h with h | h
       · exact .inl h
       · exact .inr (.inr h)
theorem srt_at {n:Nm} {g:Int × Fo → Int × Fo} (hg:∀ x,x.2.Srt → (g x).2.Srt):∀ {F:Fo},F.Srt → (F.at' n g).Srt
 | .nil,_=>⟨by simp [Fo.heads],hg _ trivial,trivial⟩
 | .cons k s sub rest,h=>by
   obtain ⟨h1,h2,h3⟩:=h
   rw [Fo.at']
   split
   · rename_i c
     refine ⟨fun m hm=>?_,hg _ trivial,h1,h2,h3⟩
     rw [Fo.heads,List.mem_cons] at hm
     rcases hm with rfl | hm
     · exact c
     · exact slt_trans c (h1 m hm)
   rename_i c
   split
   · exact ⟨h1,hg _ h2,h3⟩
   · rename_i c2
     refine ⟨fun m hm=>?_,h2,srt_at hg h3⟩
     rcases heads_at n g hm with rfl | hm
     · rcases slt_tri k m with h | h | h
       · exact h
       · exact absurd h c2
       · exact absurd h c
     · exact h1 m hm
theorem srt_ins (w:Int):∀ (p:List Nm) (x:Int × Fo),x.2.Srt → (insN x p w).2.Srt
 | [],x,h=>h
 | n :: p,x,h=>srt_at (fun y hy=>srt_ins w p y hy) h
section
variable {H H':Heap} {c:Nat} {n:Nm} {q:Nat}
theorem NodeAt.lt {s:Int} {F:Fo} {fp:List Nat} (h:NodeAt H c q s F fp):∀ r ∈ fp,r < H.length:=by
 have:KidsAt H c (.cons ByteArray.empty s F .nil) [(ByteArray.empty,q)] (fp ++ []):=kids_cons.2 ⟨q,[],fp,[],rfl,rfl,h,rfl,rfl⟩
 intro r hr
 exact this.lt r (by simpa using hr)
theorem kids_focus:∀ {F:Fo} {l:List (Nm × Nat)} {fp:List Nat},KidsAt H c F l fp → F.Srt → fp.Nodup → (n,q) ∈ l →
   ∃ s sub fp1,NodeAt H c q s sub fp1 ∧ (∀ r ∈ fp1,r ∈ fp) ∧ fp1.Nodup ∧ sub.Srt ∧
     ∀ (H':Heap) (fp1':List Nat) (g:Int × Fo → Int × Fo),NodeAt H' (c + 1) q (g (s,sub)).1 (g (s,sub)).2 fp1' → (∀ r ∈ fp,r ∉ fp1 → H'.get r = H.get r) → fp1'.Nodup → (∀ r ∈ fp1',r ∈ fp1 ∨ H.length ≤ r) →
       ∃ fp',KidsAt H' (c + 1) (F.at' n g) l fp' ∧ fp'.Nodup ∧ ∀ r ∈ fp',r ∈ fp ∨ H.length ≤ r
 | .nil,l,fp,h,_,_,hq=>by rw [h.1] at hq;cases hq
 | .cons n0 s0 sub0 rest,l,fp,h,hs,hnd,hq=>by
   have hhd:=h.heads
   obtain ⟨q0,l',fpa,fpb,rfl,rfl,h3,h4⟩:=kids_cons.1 h
   obtain ⟨hs1,hs2,hs3⟩:=hs
   obtain ⟨na,nb,nab⟩:=List.nodup_append.1 hnd
   have hltb:=h4.lt
   have hlta:=h3.lt
   by_cases e:(n,q) = (n0,q0)
   · obtain ⟨rfl,rfl⟩:=Prod.mk.inj e
     refine ⟨s0,sub0,fpa,h3,fun r hr=>List.mem_append_left _ hr,na,hs2,fun H' fp1' g g1 g2 g3 g4=>⟨fp1' ++ fpb,?_,?_,?_⟩⟩
     · rw [Fo.at',if_neg (slt_irr n),if_pos rfl]
       exact kids_cons.2 ⟨q,l',fp1',fpb,rfl,rfl,g1,h4.frame (Nat.le_succ c) fun r hr=>g2 r (List.mem_append_right _ hr) fun hra=>nab r hra r hr rfl⟩
     · refine List.nodup_append.2 ⟨g3,nb,fun a ha b hb hab=>?_⟩
       subst hab
       rcases g4 a ha with h | h
       · exact nab a h a hb rfl
       · have:=hltb a hb;omega
     · intro r hr
       rcases List.mem_append.1 hr with hr | hr
       · rcases g4 r hr with h | h
         · exact .inl (List.mem_append_left _ h)
         · exact .inr h
       · exact .inl (List.mem_append_right _ hr)
   · have hq':(n,q) ∈ l':=by
       rcases List.mem_cons.1 hq with h | h
       · exact absurd h e
       · exact h
     have hn:n ∈ rest.heads:=by rw [← h4.heads];exact List.mem_map_of_mem (f:=(·.1)) hq'
     have hlt:=hs1 n hn
     obtain ⟨s,sub,fp1,i1,i2,i3,i4,i5⟩:=kids_focus h4 hs3 nb hq'
     refine ⟨s,sub,fp1,i1,fun r hr=>List.mem_append_right _ (i2 r hr),i3,i4,fun H' fp1' g g1 g2 g3 g4=>?_⟩
     obtain ⟨fp',j1,j2,j3⟩:=i5 H' fp1' g g1 (fun r hr hr1=>g2 r (List.mem_append_right _ hr) hr1) g3 g4
     refine ⟨fpa ++ fp',?_,?_,?_⟩
     · rw [Fo.at',if_neg (slt_asymm hlt),if_neg (fun h=>by subst h;exact slt_irr _ hlt)]
       exact kids_cons.2 ⟨q0,l',fpa,fp',rfl,rfl,h3.frame (Nat.le_succ c) fun r hr=>g2 r (List.mem_append_left _ hr) fun hr1=>nab r hr r (i2 r hr1) rfl,j1⟩
     · refine List.nodup_append.2 ⟨na,j2,fun a ha b hb hab=>?_⟩
       subst hab
       rcases j3 a hb with h | h
       · exact nab a ha a h rfl
       · have:=hlta a ha;omega
     · intro r hr
       rcases List.mem_append.1 hr with hr | hr
       · exact .inl (List.mem_append_left _ hr)
       · rcases j3 r hr with h | h
         · exact .inl (List.mem_append_right _ h)
         · exact .inr h
theorem kids_new {g:Int × Fo → Int × Fo} {fpq:List Nat} (hN:NodeAt H' (c + 1) q (g (0,.nil)).1 (g (0,.nil)).2 fpq) (hq:fpq.Nodup) (hge:∀ r ∈ fpq,H.length ≤ r):∀ {F:Fo} {l:List (Nm × Nat)} {fp:List Nat},KidsAt H c F l fp → fp.Nodup → n ∉ F.heads → (∀ r ∈ fp,H'.get r = H.get r) →
   ∃ l' fp',KidsAt H' (c + 1) (F.at' n g) l' fp' ∧ l'.Perm ((n,q) :: l) ∧ fp'.Nodup ∧ ∀ r ∈ fp',r ∈ fp ∨ r ∈ fpq
 | .nil,l,fp,h,hnd,hn,he=>by
   obtain ⟨rfl,rfl⟩:=h
   exact ⟨[(n,q)],fpq,by rw [Fo.at'];exact kids_cons.2 ⟨q,[],fpq,[],rfl,by simp,hN,rfl,rfl⟩,.refl _,hq,fun r hr=>.inr hr⟩
 | .cons n0 s0 sub0 rest,l,fp,h,hnd,hn,he=>by
   have h0:=h
   obtain ⟨q0,l',fpa,fpb,rfl,rfl,h3,h4⟩:=kids_cons.1 h
   obtain ⟨na,nb,nab⟩:=List.nodup_append.1 hnd
   have hlt:=h.lt
   rw [Fo.heads,List.mem_cons,not_or] at hn
   rw [Fo.at']
   split
   · refine ⟨(n,q) :: (n0,q0) :: l',fpq ++ (fpa ++ fpb),kids_cons.2 ⟨q,_,fpq,fpa ++ fpb,rfl,rfl,hN,h0.frame (Nat.le_succ c) he⟩,.refl _,?_,?_⟩
     · refine List.nodup_append.2 ⟨hq,hnd,fun a ha b hb hab=>?_⟩
       subst hab
       have:=hge a ha;have:=hlt a hb;omega
     · intro r hr
       rcases List.mem_append.1 hr with hr | hr
       · exact .inr hr
       · exact .inl hr
   · rw [if_neg (fun h=>hn.1 h.symm)]
     obtain ⟨l2,fp2,i1,i2,i3,i4⟩:=kids_new hN hq hge h4 nb hn.2 fun r hr=>he r (List.mem_append_right _ hr)
     refine ⟨(n0,q0) :: l2,fpa ++ fp2,kids_cons.2 ⟨q0,l2,fpa,fp2,rfl,rfl,h3.frame (Nat.le_succ c) fun r hr=>he r (List.mem_append_left _ hr),i1⟩,(List.Perm.cons _ i2).trans (List.Perm.swap _ _ _),?_,?_⟩
     · refine List.nodup_append.2 ⟨na,i3,fun a ha b hb hab=>?_⟩
       subst hab
       rcases i4 a hb with h | h
       · exact nab a ha a h rfl
       · have:=hge a h;have:=hlt a (List.mem_append_left _ ha);omega
     · intro r hr
       rcases List.mem_append.1 hr with hr | hr
       · exact .inl (List.mem_append_left _ hr)
       · rcases i4 r hr with h | h
         · exact .inl (List.mem_append_right _ h)
         · exact .inr h
end
end Go.Fl
namespace Go.Proofs
open Go.RowKit Go.Maps Go.Sort Go.Shelf
def Try.keys67_ren:Go.Shelf.Ren:=⟨fun | 7=>67 | 10=>82 | n=>n,fun | 23=>80 | 26=>9 | 3=>77 | 28=>96 | 0=>0 | 27=>95 | 33=>63 | 4=>4 | n=>n,fun | n=>n⟩
theorem Try.keys67:Go.Proofs.SlLaysZ.n7 Try.prog Try.keys67_ren:={
 mixed:=by kernel_rfl
 f7:=⟨Try.f67.name,by decide,Try.func67.trans (congrArg some (by kernel_rfl))⟩
 f10:=⟨Try.f82.name,by decide,Try.func82.trans (congrArg some (by kernel_rfl))⟩
 t0:=Try.underlying0
 a0:=Try.isAgg0
 z0:=Try.sizeOf0
 v0:=Try.zeroValue0
 t4:=Try.underlying4
 a4:=Try.isAgg4
 z4:=Try.sizeOf4
 v4:=Try.zeroValue4
 t23:=Try.underlying80
 a23:=Try.isAgg80
 z23:=Try.sizeOf80
 v23:=Try.zeroValue80
 t26:=Try.underlying9
 a26:=Try.isAgg9
 z26:=Try.sizeOf9
 v26:=Try.zeroValue9
 t27:=Try.underlying95
 a27:=Try.isAgg95
 z27:=Try.sizeOf95
 v27:=Try.zeroValue95
 t28:=Try.underlying96
 a28:=Try.isAgg96
 z28:=Try.sizeOf96
 v28:=Try.zeroValue96
 t33:=Try.underlying63
 a33:=Try.isAgg63
 z33:=Try.sizeOf63
 v33:=Try.zeroValue63 }
def Try.sorted66_ren:Go.Shelf.Ren:=⟨fun | 6=>66 | 8=>80 | 9=>81 | 11=>88 | 13=>54 | 12=>89 | 23=>77 | 24=>78 | 14=>91 | 15=>92 | 16=>93 | 17=>94 | 18=>95 | 19=>96 | 20=>97 | 21=>98 | 22=>99 | 25=>100 | 26=>84 | 27=>85 | 28=>101 | 29=>102 | 30=>56 | 31=>103 | n=>n,fun | 26=>9 | 28=>96 | 24=>38 | 0=>0 | 3=>3 | 37=>89 | 48=>108 | 50=>110 | 4=>4 | 40=>102 | 39=>101 | 45=>98 | 5=>5 | 9=>9 | 51=>112 | 55=>116 | 57=>120 | 58=>121 | 33=>63 | n=>n,fun | n=>n⟩
theorem Try.sorted66:Go.Proofs.SlLaysZ.n6 Try.prog Try.sorted66_ren:={
 mixed:=by kernel_rfl
 f6:=⟨Try.f66.name,by decide,Try.func66.trans (congrArg some (by kernel_rfl))⟩
 f8:=⟨Try.f80.name,by decide,Try.func80.trans (congrArg some (by kernel_rfl))⟩
 f11:=⟨Try.f88.name,by decide,Try.func88.trans (congrArg some (by kernel_rfl))⟩
 t0:=Try.underlying0
 a0:=Try.isAgg0
 z0:=Try.sizeOf0
 v0:=Try.zeroValue0
 t24:=Try.underlying38
 a24:=Try.isAgg38
 z24:=Try.sizeOf38
 v24:=Try.zeroValue38
 t26:=Try.underlying9
 a26:=Try.isAgg9
 z26:=Try.sizeOf9
 v26:=Try.zeroValue9
 t28:=Try.underlying96
 a28:=Try.isAgg96
 z28:=Try.sizeOf96
 v28:=Try.zeroValue96
 i26:=by kernel_rfl }
def Try.sort81_ren:Go.Shelf.Ren:=⟨fun | 6=>81 | 8=>54 | 9=>89 | 19=>77 | 20=>78 | 21=>91 | 22=>92 | 23=>93 | 24=>94 | 25=>95 | 26=>96 | 27=>97 | 28=>98 | 29=>99 | 36=>100 | 31=>84 | 32=>85 | 37=>101 | 38=>102 | 39=>56 | 41=>103 | n=>n,fun | 27=>38 | 29=>9 | 3=>3 | 32=>89 | 26=>38 | 0=>0 | 44=>108 | 46=>110 | 4=>4 | 36=>102 | 35=>101 | 41=>98 | 5=>5 | 9=>9 | 53=>112 | 57=>116 | 63=>120 | 64=>121 | n=>n,fun | n=>n⟩
theorem Try.sort81:Go.Proofs.SlLaysM.n6 Try.prog Try.sort81_ren:={
 mixed:=by kernel_rfl
 f6:=⟨Try.f81.name,by decide,Try.func81.trans (congrArg some (by kernel_rfl))⟩
 f8:=Try.func54.trans (congrArg some (by kernel_rfl))
 f9:=⟨Try.f89.name,by decide,Try.func89.trans (congrArg some (by kernel_rfl))⟩
 f19:=Try.func77.trans (congrArg some (by kernel_rfl))
 f20:=Try.func78.trans (congrArg some (by kernel_rfl))
 f21:=⟨Try.f91.name,by decide,Try.func91.trans (congrArg some (by kernel_rfl))⟩
 f22:=⟨Try.f92.name,by decide,Try.func92.trans (congrArg some (by kernel_rfl))⟩
 f23:=⟨Try.f93.name,by decide,Try.func93.trans (congrArg some (by kernel_rfl))⟩
 f24:=⟨Try.f94.name,by decide,Try.func94.trans (congrArg some (by kernel_rfl))⟩
 f25:=⟨Try.f95.name,by decide,Try.func95.trans (congrArg some (by kernel_rfl))⟩
 f26:=⟨Try.f96.name,by decide,Try.func96.trans (congrArg some (by kernel_rfl))⟩
 f27:=⟨Try.f97.name,by decide,Try.func97.trans (congrArg some (by kernel_rfl))⟩
 f28:=⟨Try.f98.name,by decide,Try.func98.trans (congrArg some (by kernel_rfl))⟩
 f29:=⟨Try.f99.name,by decide,Try.func99.trans (congrArg some (by kernel_rfl))⟩
 f31:=Try.func84.trans (congrArg some (by kernel_rfl))
 f32:=Try.func85.trans (congrArg some (by kernel_rfl))
 f36:=⟨Try.f100.name,by decide,Try.func100.trans (congrArg some (by kernel_rfl))⟩
 f37:=⟨Try.f101.name,by decide,Try.func101.trans (congrArg some (by kernel_rfl))⟩
 f38:=⟨Try.f102.name,by decide,Try.func102.trans (congrArg some (by kernel_rfl))⟩
 f39:=⟨Try.f56.name,by decide,Try.func56.trans (congrArg some (by kernel_rfl))⟩
 f41:=⟨Try.f103.name,by decide,Try.func103.trans (congrArg some (by kernel_rfl))⟩
 t0:=Try.underlying0
 a0:=Try.isAgg0
 z0:=Try.sizeOf0
 v0:=Try.zeroValue0
 t3:=Try.underlying3
 a3:=Try.isAgg3
 z3:=Try.sizeOf3
 v3:=Try.zeroValue3
 t4:=Try.underlying4
 a4:=Try.isAgg4
 z4:=Try.sizeOf4
 v4:=Try.zeroValue4
 t5:=Try.underlying5
 a5:=Try.isAgg5
 z5:=Try.sizeOf5
 v5:=Try.zeroValue5
 t9:=Try.underlying9
 a9:=Try.isAgg9
 z9:=Try.sizeOf9
 v9:=Try.zeroValue9
 t26:=Try.underlying38
 a26:=Try.isAgg38
 z26:=Try.sizeOf38
 v26:=Try.zeroValue38
 t27:=Try.underlying38
 a27:=Try.isAgg38
 z27:=Try.sizeOf38
 v27:=Try.zeroValue38
 t29:=Try.underlying9
 a29:=Try.isAgg9
 z29:=Try.sizeOf9
 v29:=Try.zeroValue9
 t32:=Try.underlying89
 a32:=Try.isAgg89
 z32:=Try.sizeOf89
 v32:=Try.zeroValue89
 t35:=Try.underlying101
 a35:=Try.isAgg101
 z35:=Try.sizeOf101
 v35:=Try.zeroValue101
 t36:=Try.underlying102
 a36:=Try.isAgg102
 z36:=Try.sizeOf102
 v36:=Try.zeroValue102
 t41:=Try.underlying98
 a41:=Try.isAgg98
 z41:=Try.sizeOf98
 v41:=Try.zeroValue98
 t44:=Try.underlying108
 a44:=Try.isAgg108
 z44:=Try.sizeOf108
 v44:=Try.zeroValue108
 t46:=Try.underlying110
 a46:=Try.isAgg110
 z46:=Try.sizeOf110
 v46:=Try.zeroValue110
 t53:=Try.underlying112
 a53:=Try.isAgg112
 z53:=Try.sizeOf112
 v53:=Try.zeroValue112
 t57:=Try.underlying116
 a57:=Try.isAgg116
 z57:=Try.sizeOf116
 v57:=Try.zeroValue116
 t63:=Try.underlying120
 a63:=Try.isAgg120
 z63:=Try.sizeOf120
 v63:=Try.zeroValue120
 t64:=Try.underlying121
 a64:=Try.isAgg121
 z64:=Try.sizeOf121
 v64:=Try.zeroValue121 }
theorem Try.sorts66 (m:Nat):AnyZ.SortsIn Try.prog Try.sorted66_ren Fence.wide m :=
 ⟨fun blk off cap ss W hH hblk hsz=>callsIn_wide.2 (AnyM.slices_Sort_string Try.sort81 blk off cap ss W hH hblk hsz),
  fun p cap W=>callsIn_wide.2 (AnyM.slices_Sort_string_none Try.sort81 p cap W)⟩
theorem Try.maps_Keys_67 (mb:Option Nat) (W:World):CallsIn Fence.wide 5 Try.prog 67 #[.map mb] W fun e w'=>e = .returned (.func (.func 82) #[] #[.pointer (some ⟨W.heap.size,0,none⟩)]) ∧ w' = W.alloc (.cells #[.map mb] 80) :=
 AnyZ.keys_in Try.keys67 Fence.wide 5 trivial rfl mb W
end Go.Proofs
namespace Go.Fl
open Go Go.Ab Go.T Go.Proofs Go.RowKit Go.Maps Go.Sort Go.Shelf
instance:Go.Ab.DM:=⟨False⟩
theorem sorted_box (Bm b nn:Nat) (D0:DataW Unit) (R:Value → Option (DataW Unit × List MemPlace)) (w:World) (hBm:Bm < w.heap.size) (hm:w.cell? ⟨Bm,0,none⟩ = some (.map (some b))) (hown:w.ownsMap Try.prog 9 R b nn D0) (hmax:Maps.size D0 ≤ maxLen) (hbytes:Maps.size D0 * 16 ≤ 140737488355328) :
   CallsIn Fence.wide 5 Try.prog 66 #[.func (.func 82) #[] #[.pointer (some ⟨Bm,0,none⟩)]] w fun e w'=>∃ (v:Value) (ss:List (List UInt8)),e = .returned v ∧ ss.Perm (strKeys D0) ∧
     w'.ownsRow w.heap.size 9 1 v ss.length ((ss.mergeSort (fun x y=>decide (x ≤ y))).map encStr) ∧ (v = .slice none 0 0 ↔ ss = []) ∧ Below w.heap.size w w':=by
 have hseq:SeqGives Fence.wide 2 Try.prog 82 #[.pointer (some ⟨Bm,0,none⟩)] encStr (fun ss=>ss.Perm (strKeys D0)) (Maps.size D0) w :=
   AnyZ.keys_gives (ρ:=Try.keys67_ren) { Try.keys67 with } Fence.wide _ trivial rfl (by omega) Bm b nn D0 _ hBm hm hown
 exact AnyZ.sorted_in Try.sorted66 Fence.wide 5 trivial trivial trivial trivial rfl (by omega) (Try.sorts66 _) (enters_of Try.func81 (by kernel_rfl) rfl) 82 #[.pointer (some ⟨Bm,0,none⟩)] trivial (enters_of Try.func82 (by kernel_rfl) rfl) _ _ hmax hbytes _ hseq
theorem sorted_nil (Bm:Nat) (w:World) (hBm:Bm < w.heap.size) (hm:w.cell? ⟨Bm,0,none⟩ = some (.map none)) :
   CallsIn Fence.wide 5 Try.prog 66 #[.func (.func 82) #[] #[.pointer (some ⟨Bm,0,none⟩)]] w fun e w'=>∃ (v:Value) (ss:List (List UInt8)),e = .returned v ∧ ss = [] ∧
     w'.ownsRow w.heap.size 9 1 v ss.length ((ss.mergeSort (fun x y=>decide (x ≤ y))).map encStr) ∧ (v = .slice none 0 0 ↔ ss = []) ∧ Below w.heap.size w w':=by
 have hseq:SeqGives Fence.wide 2 Try.prog 82 #[.pointer (some ⟨Bm,0,none⟩)] encStr (fun ss:List (List UInt8)=>ss = []) 0 w :=
   AnyZ.keys_gives_nil (ρ:=Try.keys67_ren) { Try.keys67 with } Fence.wide _ trivial rfl Bm w hBm hm
 exact AnyZ.sorted_in Try.sorted66 Fence.wide 5 trivial trivial trivial trivial rfl (by omega) (Try.sorts66 _) (enters_of Try.func81 (by kernel_rfl) rfl) 82 #[.pointer (some ⟨Bm,0,none⟩)] trivial (enters_of Try.func82 (by kernel_rfl) rfl) _ 0 (Nat.zero_le _) (by omega) _ hseq
theorem q_keys (H:Heap) (d:D) (hd:(∃ m,d = .mp m) ∨ d = .v (.map none)):Sound Try.prog 67 [d] H fun r H'=>r = .fn (.func 82) [] [pD H.length] ∧ H' = H ++ [some (.bx d)]:=by
 refine ⟨⟨Try.f67,Try.func67,by kernel_rfl,by kernel_rfl⟩,fun own X w vs hs hv=>?_⟩
 have hv':∃ mb,vs = [.map mb] ∧ VRel own (zAN own H X w) w H.length d (.map mb):=by
   simp only [zCE,VRels] at hv
   obtain ⟨x,xs,rfl,h1,rfl⟩:=hv
   rcases hd with ⟨m,rfl⟩ | rfl
   · have h2:=h1
     rw [VRel] at h1
     obtain ⟨_,rfl⟩:=h1
     exact ⟨_,rfl,h2⟩
   · have h2:=h1
     rw [VRel] at h1
     subst h1
     exact ⟨_,rfl,h2⟩
 obtain ⟨mb,rfl,hr⟩:=hv'
 refine Calls.mono (callsIn_wide.1 (Try.maps_Keys_67 mb w)) ?_
 rintro e w' ⟨rfl,rfl⟩
 obtain ⟨h1,h2⟩:=step_push hs (.cells #[.map mb] 80 (0,0)) (.bx d) ⟨w.heap.size,0,1,1⟩ rfl (w':=w.alloc (.cells #[.map mb] 80)) rfl fun own' H' hext hnew=>⟨rfl,.map mb,80,hnew,hext.rel hr⟩
 refine ⟨_,.fn (.func 82) [] [pD H.length],_,_,rfl,h1,?_,h2,rfl,rfl⟩
 simp only [Rel,VRel,VRels]
 exact ⟨[],[.pointer (some ⟨w.heap.size,0,none⟩)],rfl,rfl,_,_,rfl,⟨by simp,by simp [zBJ]⟩,rfl⟩
def kb:Value → List UInt8 | .string s=>s.data.toList | _=>[]
abbrev RNil:Value → Option (DataW Unit × List MemPlace):=fun _=>some (.nil,[])
theorem names_sorted {l:List (Nm × Nat)} (hs:(l.map (·.1)).Pairwise fun a b=>slt a b = true) {ss:List (List UInt8)} (hp:ss.Perm (l.map fun p=>p.1.data.toList)):ss.mergeSort (fun x y=>decide (x ≤ y)) = l.map fun p=>p.1.data.toList:=by
 rw [show ss.mergeSort (fun x y=>decide (x ≤ y)) = (l.map fun p=>p.1.data.toList).mergeSort (fun x y=>decide (x ≤ y)) from mergeSort_of_perm hp]
 refine List.mergeSort_of_pairwise ?_
 rw [List.pairwise_map] at hs ⊢
 refine hs.imp fun h=>?_
 rw [decide_eq_true_eq]
 exact List.le_of_lt (slt_iff.1 h)
theorem cells_sV:∀ l:List (Nm × Nat),(l.map fun p=>D.v (sV p.1)).flatMap D.cells = l.map (D.v ∘ fun p=>sV p.1)
 | []=>rfl
 | p :: l=>by rw [List.map_cons,List.flatMap_cons,cells_sV l];rfl
theorem q_sorted (H:Heap) {b m cl:Nat} {es:List (Nat × Value × D)} {l:List (Nm × Nat)} (hb:H.get b = some (.bx (.mp m))) (hm:H.get m = some (.mp es cl)) (ho:MapOk es cl l) (hsl:(l.map (·.1)).Pairwise fun a b=>slt a b = true) (hn:∀ p ∈ l,p.1.size ≤ 60) (hl:l.length ≤ 1000000) :
   Sound Try.prog 66 [.fn (.func 82) [] [pD b]] H fun r H'=>r = .fz 1 (l.map fun p=>.v (sV p.1)) ∧ H' = H:=by
 refine ⟨⟨Try.f66,Try.func66,by kernel_rfl,by kernel_rfl⟩,fun own X w vs hs hv=>?_⟩
 simp only [zCE,VRels,VRel] at hv
 obtain ⟨v1,_,rfl,⟨_,us,rfl,rfl,⟨v2,_,rfl,⟨hbl,rfl⟩,rfl⟩⟩,rfl⟩:=hv
 obtain ⟨⟨hbase,x,t,hxb,hx⟩,hXb⟩:=hs.live b _ hb
 rw [VRel] at hx
 obtain ⟨hml,rfl⟩:=hx
 obtain ⟨⟨en,hen,hmr,hmv⟩,hXm⟩:=hs.live m _ hm
 have hkeys:en.toList.map (·.key) = es.map (·.2.1):=by
   have:=congrArg (List.map Prod.snd) hmr
   rw [List.map_map,List.map_map] at this
   exact this
 have hborn:en.toList.map (·.born) = es.map (·.1):=by
   have:=congrArg (List.map Prod.fst) hmr
   rw [List.map_map,List.map_map] at this
   exact this
 have hperm:(en.toList.map (·.key)).Perm (l.map fun p=>sV p.1):=by
   rw [hkeys]
   have:=ho.perm.map Prod.fst
   rw [List.map_map,List.map_map] at this
   exact this
 have hlen:en.size = l.length:=by
   have:=hperm.length_eq
   simpa using this
 have hstr:∀ y ∈ en.toList,∃ p ∈ l,y.key = sV p.1:=fun y hy=>by
   have:=hperm.subset (List.mem_map_of_mem (f:=(·.key)) hy)
   obtain ⟨p,hp,e⟩:=List.mem_map.1 this
   exact ⟨p,hp,e.symm⟩
 have hml60:(60:Nat) ≤ maxLen:=by decide
 have hkey:∀ y ∈ en.toList,keyOf Try.prog 9 y.key = some (.string (kb y.key)):=fun y hy=>by
   obtain ⟨p,hp,e⟩:=hstr y hy
   have:=hn p hp
   rw [e]
   simp only [keyOf,mapKey,Try.underlying9]
   first | rfl | (rw [if_pos (by omega)];rfl) | simp [kb];omega
 have hrd:∀ y ∈ en.toList,WideElems.rd Try.prog 9 RNil y = some (.string (kb y.key),.nil):=fun y hy=>by
   unfold WideElems.rd;rw [hkey y hy];rfl
 have hfit:WideElems.Fit Try.prog 9 RNil en cl:=by
   refine ⟨?_,⟨fun y hy=>?_,?_,?_⟩,fun y hy=>⟨_,hrd y hy⟩⟩
   · rw [hlen];exact Nat.le_trans hl (by decide)
   · exact ho.lt _ (hborn ▸ List.mem_map_of_mem (f:=(·.born)) hy)
   · rw [hborn];exact ho.nd
   · refine hperm.symm.nodup ?_
     rw [List.Nodup,List.pairwise_map]
     rw [List.pairwise_map] at hsl
     exact hsl.imp fun h e=>by
       have e:=Value.string.inj e
       rw [e] at h
       exact slt_irr _ h
 have hown:w.ownsMap Try.prog 9 RNil (own m).b en.size (.map ((en.toList.map (WideElems.rg Try.prog 9 RNil)).foldr DataW.insert [])):=⟨en,cl,hen,hfit,Nat.le_refl _,rfl⟩
 have hsize:Maps.size (.map ((en.toList.map (WideElems.rg Try.prog 9 RNil)).foldr DataW.insert []):DataW Unit) = l.length:=by
   show ((en.toList.map (WideElems.rg Try.prog 9 RNil)).foldr DataW.insert []).length = _
   rw [(WideShapes.sorted_perm _).length_eq,List.length_map,← hlen];simp
 have hsk:(strKeys (.map ((en.toList.map (WideElems.rg Try.prog 9 RNil)).foldr DataW.insert []):DataW Unit)).Perm (l.map fun p=>p.1.data.toList):=by
   show (((en.toList.map (WideElems.rg Try.prog 9 RNil)).foldr DataW.insert []).map fun p=>strOf p.1).Perm _
   refine ((WideShapes.sorted_perm _).map _).trans ?_
   rw [List.map_map]
   have e1:en.toList.map ((fun p=>strOf p.1) ∘ WideElems.rg Try.prog 9 RNil) = (en.toList.map (·.key)).map kb:=by
     rw [List.map_map]
     refine List.map_congr_left fun y hy=>?_
     show strOf (WideElems.rg Try.prog 9 RNil y).1 = kb y.key
     rw [WideElems.rg_of (hrd y hy)];rfl
   rw [e1]
   refine (hperm.map kb).trans ?_
   rw [List.map_map]
   exact .refl _
 have hbw:(own b).b < w.heap.size:=(hs.live b _ hb).1.lt
 have hcell:w.cell? ⟨(own b).b,0,none⟩ = some (.map (some (own m).b)):=by simp [World.cell?,hxb]
 have hptr:(own b).base + 0 * (own b).k + 0 = 0:=by rw [hbase];omega
 rw [hptr]
 refine Calls.mono (callsIn_wide.1 (sorted_box (own b).b (own m).b en.size _ RNil w hbw hcell hown (by rw [hsize];exact Nat.le_trans hl (by decide)) (by rw [hsize];omega))) ?_
 rintro e w' ⟨v,ss,rfl,hss,hrow,hnil,hbe⟩
 obtain ⟨h1,h2⟩:=Sim.outlives (own':=own) (X':=X) hs (fun b hb=>hb) (fun b hb'=>hbe.block b hb') hbe.size ⟨hbe.os,hbe.output,hbe.tape,fun h=>h.elim⟩
 have hms:=names_sorted hsl (hss.trans hsk)
 have hll:ss.length = l.length:=by have:=(hss.trans hsk).length_eq;simpa using this
 rw [hms,List.map_map,hll] at hrow
 have hmap:(l.map (encStr ∘ fun p=>p.1.data.toList)) = l.map fun p=>sV p.1:=List.map_congr_left fun p _=>by
   show Value.string ⟨p.1.data.toList.toArray⟩ = .string p.1
   cases p.1;rfl
 rw [hmap] at hrow
 refine ⟨own,.fz 1 (l.map fun p=>.v (sV p.1)),H,v,rfl,h1,?_,h2,rfl,rfl⟩
 rw [Rel,VRel]
 obtain ⟨hx1,hx2⟩:=hrow
 rcases hx2 with ⟨rfl,h0⟩ | ⟨g,cap,cur,rfl,g1,g2,g3,g4,g5,g6⟩
 · exact ⟨none,0,by rw [List.length_map,h0],by rw [List.length_map,h0];exact Nat.le_refl _,fun h=>absurd (by rw [List.length_map,h0]) h⟩
 · refine ⟨_,cap,by rw [List.length_map],by rw [List.length_map];exact g3,fun _=>⟨g,0,rfl,?_,?_⟩⟩
   · have hgs:g < w'.heap.size:=(Array.getElem?_eq_some_iff.1 g2).1
     refine ⟨hgs,fun hx=>?_,fun r row hr=>?_⟩
     · have:=hs.hid g hx;omega
     · have:=(hs.live r row hr).1.lt;omega
   · rw [Cells_flat]
     refine ⟨fun d hd=>by obtain ⟨p,_,rfl⟩:=List.mem_map.1 hd;rfl,?_⟩
     have hfm:(l.map fun p=>D.v (sV p.1)).flatMap D.cells = (l.map fun p=>sV p.1).map D.v:=by
       rw [List.map_map]
       exact cells_sV l
     rw [hfm,Flat_values]
     refine ⟨?_,l.map (fun p=>sV p.1),?_,fun i hi=>?_⟩
     · rw [List.all_eq_true]
       intro d hd
       rw [List.map_map] at hd
       obtain ⟨p,_,rfl⟩:=List.mem_map.1 hd
       rfl
     · generalize l.map (fun p=>sV p.1) = vs
       induction vs with
       | nil=>simp [VRels]
       | cons a vs ih=>rw [List.map_cons,VRels];exact ⟨a,vs,rfl,by rw [VRel],ih⟩
     · rw [Nat.zero_add]
       have e:(l.map fun p=>sV p.1)[i]? = cur[i]?:=by
         rw [← g6,List.getElem?_take_of_lt (by rw [List.length_map] at hi;omega),Array.getElem?_toList]
       rw [e]
       simp [World.cell?,g2]
open Go Go.Ab Go.T Go.Proofs
theorem zCd {H:Heap} {a r:Nat} {x:Option Row} (ha:a < H.length):Heap.get (H.set a x) r = if r = a then x else H.get r:=Heap.get_set H ha x r
theorem g_push {H:Heap} {x:Option Row} {r:Nat}:Heap.get (H ++ [x]) r = if r = H.length then x else H.get r:=Heap.get_push H x r
theorem nm_get {fr:List Nm} {i:Nat} (h:i < fr.length):(fr.map fun n=>(.v (sV n):D))[((i:Nat):Int).toNat]? = some (.v (sV fr[i])):=by simp [h]
theorem mpn {D1:D → Prop}:zCi Try.prog .eql 80 (.v (.map none)) (.v (.map none)) D1 = D1 (.v (.bool true)):=nil_mpn (k:=9) (e:=77) (by kernel_rfl)
theorem mpr {D1:D → Prop} {r:Nat}:zCi Try.prog .eql 80 (.mp r) (.v (.map none)) D1 = D1 (.v (.bool false)):=nil_mp (k:=9) (e:=77) (by kernel_rfl)
theorem ptn {D1:D → Prop}:zCi Try.prog .eql 77 (.v (.pointer none)) (.v (.pointer none)) D1 = D1 (.v (.bool true)):=nil_ptn (e:=82) (by kernel_rfl)
theorem ptr {D1:D → Prop} {r i o:Nat}:zCi Try.prog .eql 77 (.pt r i o) (.v (.pointer none)) D1 = D1 (.v (.bool false)):=nil_pt (e:=82) (by kernel_rfl)
theorem one_mn:(D.v (.map none)).one = true:=rfl
theorem zBX {x:Int} (h1:-9223372036854775808 ≤ x) (h2:x < 9223372036854775808):IntKind.i64.wrap x = x:=by
 have e:IntKind.i64.wrap x = (if x % 18446744073709551616 ≥ 9223372036854775808 then x % 18446744073709551616 - 18446744073709551616 else x % 18446744073709551616):=by
   simp [IntKind.wrap,IntKind.bits,IntKind.signed]
 rw [e]
 split
 · rename_i h;omega
 · rename_i h;omega
theorem tdiv_b {w:Int} (hw:-1099511627776 ≤ w ∧ w ≤ 1099511627776):-1048576 ≤ w.tdiv 1048576 ∧ w.tdiv 1048576 ≤ 1048576 ∧ -1048576 ≤ w.tmod 1048576 ∧ w.tmod 1048576 ≤ 1048576:=by
 rcases Int.le_total 0 w with h | h
 · rw [Int.tdiv_eq_ediv_of_nonneg h,Int.tmod_eq_emod_of_nonneg h];omega
 · obtain ⟨v,rfl⟩:∃ v,w = -v:=⟨-w,by omega⟩
   rw [Int.neg_tdiv,Int.neg_tmod,Int.tdiv_eq_ediv_of_nonneg (by omega),Int.tmod_eq_emod_of_nonneg (by omega)];omega
theorem F64_eq {u r w:Int} (hw:-1099511627776 ≤ w ∧ w ≤ 1099511627776) (hu:-1099511627776000000 ≤ u ∧ u ≤ 1099511627776000000) (hr:-1099511627776000000 ≤ r ∧ r ≤ 1099511627776000000):F64 ((u,r),w) = some (u + w.tdiv 1048576,r + w.tmod 1048576):=by
 have b:=tdiv_b hw
 unfold F64
 have e1:iquo .i64 w 1048576 = w.tdiv 1048576:=zBX (by omega) (by omega)
 have e2:irem w 1048576 = w.tmod 1048576:=rfl
 have e3:∀ a b:Int,-9223372036854775808 ≤ a + b → a + b < 9223372036854775808 → zBo .i64 a b = a + b:=fun a b h1 h2=>zBX h1 h2
 dsimp only
 rw [Go.Pl.zAY (show ine 1048576 0 = true from rfl),Go.Pl.zAY (show ine 1048576 0 = true from rfl),e1,e2,e3 _ _ (by omega) (by omega),e3 _ _ (by omega) (by omega)]
theorem q_plus {u r w:Int} (hw:-1099511627776 ≤ w ∧ w ≤ 1099511627776) (hu:-1099511627776000000 ≤ u ∧ u ≤ 1099511627776000000) (hr:-1099511627776000000 ≤ r ∧ r ≤ 1099511627776000000):Pure Try.prog 64 [.agg [iD u,iD r],iD w] fun d=>d = .agg [iD (u + w.tdiv 1048576),iD (r + w.tmod 1048576)] :=
 pure_of (c:=c64) ok64 rfl rfl (x:=(((u,r):Int × Int),w)) (y:=((u + w.tdiv 1048576,r + w.tmod 1048576):Int × Int)) (fun v hv=>by
   have hv:v ∈ [(⟨.agg (.pr (.int .i64) (.int .i64)),((u,r):Int × Int)⟩:TV),⟨.int .i64,w⟩]:=hv
   simp only [List.mem_cons,List.not_mem_nil,or_false] at hv
   rcases hv with rfl | rfl <;> rfl) rfl (F64_eq hw hu hr)
theorem put_sum {a b d:D} {x y:Int}:putD true 2 (.agg [a,b,d]) 0 (.agg [iD x,iD y]) = some (.agg [iD x,iD y,d]):=rfl
theorem getM_none {es:MapD} {z:D}:getM es none z false = some z:=rfl
theorem same_s (n k:Nm):Instr.sameNow .string (sV n) (sV k) = some (n == k):=rfl
theorem nm_beq (a b:Nm):(a == b) = decide (a = b):=by
 rw [bytes_beq]
 by_cases h:a = b
 · subst h;simp
 · have:a.data ≠ b.data:=fun e=>h (by cases a;cases b;exact congrArg _ e)
   simp [h,this]
theorem find_gen {n:Nm}:∀ {es:List (Nat × Value × D)} (i:Nat),(∀ p ∈ es,∃ k,p.2.1 = sV k) → (findD .string (sV n) es i = some none ∧ (∀ p ∈ es,p.2.1 ≠ sV n)) ∨ ∃ j p,findD .string (sV n) es i = some (some (i + j)) ∧ es[j]? = some p ∧ p.2.1 = sV n
 | [],i,_=>.inl ⟨rfl,by simp⟩
 | p :: es,i,h=>by
   obtain ⟨k,hk⟩:=h p List.mem_cons_self
   by_cases e:n = k
   · subst e
     exact .inr ⟨0,p,by unfold findD;rw [hk,same_s,nm_beq];simp,rfl,hk⟩
   · have hne:(n == k) = false:=by rw [nm_beq];simpa using e
     rcases find_gen (n:=n) (es:=es) (i + 1) (fun q hq=>h q (List.mem_cons_of_mem _ hq)) with ⟨h1,h2⟩ | ⟨j,q,h1,h2,h3⟩
     · refine .inl ⟨by unfold findD;rw [hk,same_s,hne];exact h1,fun q hq=>?_⟩
       rcases List.mem_cons.1 hq with rfl | hq
       · rw [hk];exact fun e2=>e (Value.string.inj e2).symm
       · exact h2 q hq
     · exact .inr ⟨j + 1,q,by unfold findD;rw [hk,same_s,hne];rw [show i + (j + 1) = i + 1 + j by omega];exact h1,by simpa using h2,h3⟩
theorem MapOk.strs {es:List (Nat × Value × D)} {cl:Nat} {l:List (Nm × Nat)} (ho:MapOk es cl l):∀ p ∈ es,∃ k q,(k,q) ∈ l ∧ p.2 = (sV k,pD q):=fun p hp=>by
 have:=ho.perm.subset (List.mem_map_of_mem (f:=fun p:Nat × Value × D=>(p.2.1,p.2.2)) hp)
 obtain ⟨x,hx,e⟩:=List.mem_map.1 this
 exact ⟨x.1,x.2,hx,e.symm⟩
theorem map_find {es:List (Nat × Value × D)} {cl:Nat} {l:List (Nm × Nat)} (ho:MapOk es cl l) {n:Nm} (hn:n ∈ l.map (·.1)):∃ j b q,findD .string (sV n) es 0 = some (some j) ∧ es[j]? = some (b,sV n,pD q) ∧ (n,q) ∈ l:=by
 rcases find_gen (n:=n) (es:=es) 0 (fun p hp=>by obtain ⟨k,q,_,e⟩:=ho.strs p hp;exact ⟨k,by rw [e]⟩) with ⟨_,h2⟩ | ⟨j,p,h1,h2,h3⟩
 · obtain ⟨x,hx,rfl⟩:=List.mem_map.1 hn
   have:=ho.perm.symm.subset (List.mem_map_of_mem (f:=fun p:Nm × Nat=>(sV p.1,pD p.2)) hx)
   obtain ⟨p,hp,e⟩:=List.mem_map.1 this
   exact absurd (congrArg Prod.fst e) (h2 p hp)
 · obtain ⟨k,q,hkq,e⟩:=ho.strs p (List.mem_of_getElem? h2)
   obtain ⟨b,kk,dd⟩:=p
   have e:=Prod.mk.inj e
   obtain ⟨rfl,rfl⟩:=e
   have:=Value.string.inj h3
   subst this
   exact ⟨j,b,q,by rw [h1,Nat.zero_add],h2,hkq⟩
theorem map_none {es:List (Nat × Value × D)} {cl:Nat} {l:List (Nm × Nat)} (ho:MapOk es cl l) {n:Nm} (hn:n ∉ l.map (·.1)):findD .string (sV n) es 0 = some none:=by
 rcases find_gen (n:=n) (es:=es) 0 (fun p hp=>by obtain ⟨k,q,_,e⟩:=ho.strs p hp;exact ⟨k,by rw [e]⟩) with ⟨h1,_⟩ | ⟨j,p,h1,h2,h3⟩
 · exact h1
 · obtain ⟨k,q,hkq,e⟩:=ho.strs p (List.mem_of_getElem? h2)
   rw [e] at h3
   have:=Value.string.inj h3
   subst this
   exact absurd (List.mem_map_of_mem (f:=(·.1)) hkq) hn
def Added (H:Heap) (c q:Nat) (s:Int) (F:Fo) (fp:List Nat) (fr:List Nm) (w:Int) (H':Heap):Prop :=
 ∃ fp',NodeAt H' (c + 1) q (insN (s,F) fr w).1 (insN (s,F) fr w).2 fp' ∧ fp'.Nodup ∧ (∀ r ∈ fp',r ∈ fp ∨ H.length ≤ r) ∧ H.length ≤ H'.length ∧ ∀ r,r < H.length → r ∉ fp → H'.get r = H.get r
def Wand (Post:Heap → Prop) (w:Int) (c:Nat) (H1:Heap) (q1:Nat) (s1:Int) (F1:Fo) (fp1:List Nat) (rest:List Nm):Prop :=
 ∀ H' fp1',NodeAt H' (c + 1) q1 (insN (s1,F1) rest w).1 (insN (s1,F1) rest w).2 fp1' → fp1'.Nodup → (∀ r ∈ fp1',r ∈ fp1 ∨ H1.length ≤ r) → H1.length ≤ H'.length → (∀ r,r < H1.length → r ∉ fp1 → H'.get r = H1.get r) → Post H'
theorem wand_refl {H:Heap} {c q:Nat} {s w:Int} {F:Fo} {fp:List Nat} {fr:List Nm}:Wand (Added H c q s F fp fr w) w c H q s F fp fr:=fun H' fp' h1 h2 h3 h4 h5=>⟨fp',h1,h2,h3,h4,h5⟩
section
variable {Post:Heap → Prop} {w u r s1:Int} {c q1 m cl:Nat} {H1:Heap} {F1:Fo} {n:Nm} {rest:List Nm} {es:List (Nat × Value × D)} {l1:List (Nm × Nat)} {fpk:List Nat}
theorem wand_found {q2:Nat} (hW:Wand Post w c H1 q1 s1 F1 (q1 :: m :: fpk) (n :: rest)) (hq:H1.get q1 = some (.cells 3 [.agg [iD u,iD r,.mp m]])) (hm:H1.get m = some (.mp es cl)) (ho:MapOk es cl l1) (hk:KidsAt H1 c F1 l1 fpk) (hSm:Sm u r s1 c) (hnd:(q1 :: m :: fpk).Nodup) (hS:F1.Srt) (hmem:(n,q2) ∈ l1) :
   ∃ s2 sub fp2,NodeAt H1 c q2 s2 sub fp2 ∧ fp2.Nodup ∧ sub.Srt ∧ Wand Post w c H1 q2 s2 sub fp2 rest:=by
 obtain ⟨hn1,hnd2⟩:=List.nodup_cons.1 hnd
 obtain ⟨hn2,hnd3⟩:=List.nodup_cons.1 hnd2
 obtain ⟨s2,sub,fp2,i1,i2,i3,i4,i5⟩:=kids_focus hk hS hnd3 hmem
 refine ⟨s2,sub,fp2,i1,i3,i4,fun H' fp2' g1 g2 g3 g4 g5=>?_⟩
 have hlt:=hk.lt
 obtain ⟨fp',j1,j2,j3⟩:=i5 H' fp2' (fun y=>insN y rest w) g1 (fun r hr hr1=>g5 r (hlt r hr) hr1) g2 g3
 have hq1:q1 ∉ fp2:=fun h=>hn1 (List.mem_cons_of_mem _ (i2 _ h))
 have hm1:m ∉ fp2:=fun h=>hn2 (i2 _ h)
 have lq:=Heap.get_lt hq
 have lm:=Heap.get_lt hm
 refine hW H' (q1 :: m :: fp') ⟨u,r,.mp m,m :: fp',(g5 q1 lq hq1).trans hq,hSm.mono (Nat.le_succ c),rfl,.inr ⟨m,es,cl,l1,fp',rfl,(g5 m lm hm1).trans hm,ho,rfl,j1⟩⟩ ?_ ?_ g4 fun r hr hr1=>?_
 · refine List.nodup_cons.2 ⟨fun h=>?_,List.nodup_cons.2 ⟨fun h=>?_,j2⟩⟩
   · rcases List.mem_cons.1 h with h | h
     · exact hn1 (h ▸ List.mem_cons_self)
     · rcases j3 _ h with h | h
       · exact hn1 (List.mem_cons_of_mem _ h)
       · omega
   · rcases j3 _ h with h | h
     · exact hn2 h
     · omega
 · intro r hr
   rcases List.mem_cons.1 hr with rfl | hr
   · exact .inl List.mem_cons_self
   rcases List.mem_cons.1 hr with rfl | hr
   · exact .inl (List.mem_cons_of_mem _ List.mem_cons_self)
   rcases j3 r hr with h | h
   · exact .inl (List.mem_cons_of_mem _ (List.mem_cons_of_mem _ h))
   · exact .inr h
 · exact g5 r hr fun h=>hr1 (List.mem_cons_of_mem _ (List.mem_cons_of_mem _ (i2 r h)))
theorem wand_map (hW:Wand Post w c H1 q1 s1 .nil [q1] rest) (hq:H1.get q1 = some (.cells 3 [.agg [iD u,iD r,.v (.map none)]])) :
   Wand Post w c ((H1 ++ [some (Row.mp [] 0)]).set q1 (some (Row.cells 3 [.agg [iD u,iD r,.mp H1.length]]))) q1 s1 .nil [q1,H1.length] rest:=fun H' fp' g1 g2 g3 g4 g5=>by
 have lq:=Heap.get_lt hq
 have hl:((H1 ++ [some (Row.mp [] 0)]).set q1 (some (Row.cells 3 [.agg [iD u,iD r,.mp H1.length]]))).length = H1.length + 1:=by simp
 rw [hl] at g3 g4 g5
 refine hW H' fp' g1 g2 (fun r hr=>?_) (by omega) fun r hr hr1=>?_
 · rcases g3 r hr with h | h
   · simp only [List.mem_cons,List.not_mem_nil,or_false] at h ⊢
     rcases h with h | h
     · exact .inl h
     · exact .inr (by omega)
   · exact .inr (by omega)
 · have hr2:r ≠ q1:=fun h=>hr1 (by simp [h])
   rw [g5 r (by omega) (by simp only [List.mem_cons,List.not_mem_nil,or_false,not_or];omega),zCd (by simp;omega),if_neg hr2,g_push,if_neg (by omega)]
theorem wand_new (hW:Wand Post w c H1 q1 s1 F1 (q1 :: m :: fpk) (n :: rest)) (hq:H1.get q1 = some (.cells 3 [.agg [iD u,iD r,.mp m]])) (hm:H1.get m = some (.mp es cl)) (ho:MapOk es cl l1) (hk:KidsAt H1 c F1 l1 fpk) (hSm:Sm u r s1 c) (hnd:(q1 :: m :: fpk).Nodup) (hn:n ∉ F1.heads) :
   NodeAt ((H1 ++ [some (Row.cells 3 [.agg [iD 0,iD 0,.v (.map none)]])]).set m (some (Row.mp (es ++ [(cl,sV n,pD H1.length)]) (cl + 1)))) c H1.length 0 .nil [H1.length] ∧
   Wand Post w c ((H1 ++ [some (Row.cells 3 [.agg [iD 0,iD 0,.v (.map none)]])]).set m (some (Row.mp (es ++ [(cl,sV n,pD H1.length)]) (cl + 1)))) H1.length 0 .nil [H1.length] rest:=by
 obtain ⟨hn1,hnd2⟩:=List.nodup_cons.1 hnd
 obtain ⟨hn2,hnd3⟩:=List.nodup_cons.1 hnd2
 have lq:=Heap.get_lt hq
 have lm:=Heap.get_lt hm
 have hlt:=hk.lt
 generalize hH2:((H1 ++ [some (Row.cells 3 [.agg [iD 0,iD 0,.v (.map none)]])]).set m (some (Row.mp (es ++ [(cl,sV n,pD H1.length)]) (cl + 1))):Heap) = H2
 have hl:H2.length = H1.length + 1:=by rw [← hH2];simp
 have hget:∀ x,Heap.get H2 x = if x = m then some (.mp (es ++ [(cl,sV n,pD H1.length)]) (cl + 1)) else if x = H1.length then some (.cells 3 [.agg [iD 0,iD 0,.v (.map none)]]) else H1.get x:=fun x=>by
   rw [← hH2,zCd (by simp;omega),g_push]
 refine ⟨⟨0,0,.v (.map none),[],by rw [hget,if_neg (by omega),if_pos rfl],⟨by omega,by omega,by omega,by omega,by omega⟩,rfl,.inl ⟨rfl,rfl,rfl⟩⟩,fun H' fp2 g1 g2 g3 g4 g5=>?_⟩
 rw [hl] at g3 g4 g5
 have old:∀ x,x < H1.length → x ≠ m → H'.get x = H1.get x:=fun x hx hxm=>by
   rw [g5 x (by omega) (by simp;omega),hget,if_neg hxm,if_neg (by omega)]
 have hge:∀ x ∈ fp2,H1.length ≤ x:=fun x hx=>by
   rcases g3 x hx with h | h
   · simp at h;omega
   · omega
 have hm':H'.get m = some (.mp (es ++ [(cl,sV n,pD H1.length)]) (cl + 1)):=by
   rw [g5 m (by omega) (by simp;omega),hget,if_pos rfl]
 obtain ⟨l',fp',j1,j2,j3,j4⟩:=kids_new (H:=H1) (g:=fun y=>insN y rest w) g1 g2 hge hk hnd3 hn fun x hx=>old x (hlt x hx) fun e=>hn2 (e ▸ hx)
 refine hW H' (q1 :: m :: fp') ⟨u,r,.mp m,m :: fp',(old q1 lq fun e=>hn1 (by simp [e])).trans hq,hSm.mono (Nat.le_succ c),rfl,.inr ⟨m,_,_,l',fp',rfl,hm',⟨?_,?_,?_⟩,rfl,j1⟩⟩ ?_ ?_ (by omega) fun x hx hx1=>?_
 · rw [List.map_append]
   refine (List.Perm.append_right _ ho.perm).trans ?_
   refine List.Perm.trans ?_ (j2.map _).symm
   rw [List.map_cons]
   exact List.perm_append_comm
 · rw [List.map_append]
   refine List.nodup_append.2 ⟨ho.nd,by simp,fun a ha b hb e=>?_⟩
   simp at hb
   have:=ho.lt a ha;omega
 · intro b hb
   rw [List.map_append] at hb
   rcases List.mem_append.1 hb with h | h
   · have:=ho.lt b h;omega
   · simp at h;omega
 · refine List.nodup_cons.2 ⟨fun h=>?_,List.nodup_cons.2 ⟨fun h=>?_,j3⟩⟩
   · rcases List.mem_cons.1 h with h | h
     · exact hn1 (h ▸ List.mem_cons_self)
     · rcases j4 _ h with h | h
       · exact hn1 (List.mem_cons_of_mem _ h)
       · have:=hge _ h;omega
   · rcases j4 _ h with h | h
     · exact hn2 h
     · have:=hge _ h;omega
 · intro x hx
   rcases List.mem_cons.1 hx with rfl | hx
   · exact .inl List.mem_cons_self
   rcases List.mem_cons.1 hx with rfl | hx
   · exact .inl (List.mem_cons_of_mem _ List.mem_cons_self)
   rcases j4 x hx with h | h
   · exact .inl (List.mem_cons_of_mem _ (List.mem_cons_of_mem _ h))
   · exact .inr (hge x h)
 · exact old x hx fun e=>hx1 (by simp [e])
theorem wand_end {d:D} {fp':List Nat} (hW:Wand Post w c H1 q1 s1 F1 (q1 :: fp') []) (hq:H1.get q1 = some (.cells 3 [.agg [iD u,iD r,d]])) (hSm:Sm u r s1 c) (hCh:ChAt H1 c d F1 fp') (hnd:(q1 :: fp').Nodup) (hw:-1099511627776 ≤ w ∧ w ≤ 1099511627776) :
   Post (H1.set q1 (some (Row.cells 3 [.agg [iD (u + w.tdiv 1048576),iD (r + w.tmod 1048576),d]]))):=by
 have lq:=Heap.get_lt hq
 obtain ⟨hn1,hnd2⟩:=List.nodup_cons.1 hnd
 refine hW _ (q1 :: fp') ⟨_,_,d,fp',by rw [zCd lq,if_pos rfl],?_,rfl,hCh.frame (Nat.le_succ c) fun x hx=>by rw [zCd lq,if_neg (show x ≠ q1 from fun e=>hn1 (e ▸ hx))]⟩ hnd (fun x hx=>.inl hx) (by simp) fun x hx hx1=>by rw [zCd lq,if_neg (show x ≠ q1 from fun e=>hx1 (by simp [e]))]
 obtain ⟨h1,h2,h3,h4,h5⟩:=hSm
 have e1:=Int.tdiv_mul_add_tmod w 1048576
 have b1:-1048576 ≤ w.tdiv 1048576 ∧ w.tdiv 1048576 ≤ 1048576 ∧ -1048576 ≤ w.tmod 1048576 ∧ w.tmod 1048576 ≤ 1048576:=by
   rcases Int.le_total 0 w with h | h
   · rw [Int.tdiv_eq_ediv_of_nonneg h,Int.tmod_eq_emod_of_nonneg h];omega
   · obtain ⟨v,rfl⟩:∃ v,w = -v:=⟨-w,by omega⟩
     rw [Int.neg_tdiv,Int.neg_tmod,Int.tdiv_eq_ediv_of_nonneg (by omega),Int.tmod_eq_emod_of_nonneg (by omega)];omega
 refine ⟨?_,?_,?_,?_,?_⟩
 · show (u + w.tdiv 1048576) * 1048576 + (r + w.tmod 1048576) = s1 + w
   omega
 all_goals omega
end
open Go Go.Ab Go.Proofs Go.Proofs.Ytbhcfbnkdbioaaa.AbT
set_option maxHeartbeats 4000000 in
theorem q_add (H:Heap) (c q:Nat) (s w:Int) (F:Fo) (fp:List Nat) (fr:List Nm) (hN:NodeAt H c q s F fp) (hnd:fp.Nodup) (hS:F.Srt) (hw:-1099511627776 ≤ w ∧ w ≤ 1099511627776) (hc:c < 1000000) (hl:fr.length ≤ 1000000):Sound Try.prog 51 [pD q,.fz 1 (fr.map fun n=>.v (sV n)),iD w] H (fun d H'=>d = .tup [] ∧ Added H c q s F fp fr w H'):=by
 refine zBi Try.func51 rfl (by kernel_rfl) Try.ntmps51 (by simp) ?_
 have hlen:(fr.map fun n=>(.v (sV n):D)).length = fr.length:=List.length_map ..
 refine zAF fun Y0 hY0=>?_
 refine zAF fun Y1 hY1=>?_
 refine zAG ?_
 try simp only [↓zAK,EVq,TY,zAE,↓reduceIte,Nat.reduceLT,Nat.reduceLeDiff,Nat.reduceEqDiff,Nat.reduceAdd,Nat.reduceMul,Int.reduceLE,eq_self]
 refine zAD [0,2,9,10,11] ?_
 simp only [KQ,↓KP,↓reduceIte,Nat.reduceEqDiff]
 subst hY1
 refine zCk ?_
 refine zAD [0,2,9,10,11] ?_
 simp only [KQ,↓KP,↓reduceIte,Nat.reduceEqDiff]
 refine run_loop' (fun m e H1=>∃ (i q1:Nat) (s1:Int) (F1:Fo) (fp1:List Nat),m = fr.length - i ∧ i ≤ fr.length ∧ NodeAt H1 c q1 s1 F1 fp1 ∧ fp1.Nodup ∧ F1.Srt ∧ Wand (Added H c q s F fp fr w) w c H1 q1 s1 F1 fp1 (fr.drop i) ∧ e = envL [(0,pD q1),(2,iD w),(9,.fz 1 (fr.map fun n=>.v (sV n))),(10,iD (fr.map fun n=>(.v (sV n):D)).length),(11,iD (i:Nat))]) fr.length
   ⟨0,q,s,F,fp,by simp,by omega,hN,hnd,hS,wand_refl,rfl⟩ ?_
 intro C hC m e H1 ih hI
 obtain ⟨i,q1,s1,F1,fp1,rfl,hi,hN1,hnd1,hS1,hW,rfl⟩:=hI
 obtain ⟨u,r,d,fp',hq,hSm,rfl,hCh⟩:=id hN1
 refine zAF fun Y2 hY2=>?_
 refine zAG ?_
 try simp only [↓zAK,EVq,TY,zAE,↓reduceIte,Nat.reduceLT,Nat.reduceLeDiff,Nat.reduceEqDiff,Nat.reduceAdd,Nat.reduceMul,Int.reduceLE,eq_self]
 refine zAD [0,2,9,10,11,12] ?_
 simp only [KQ,↓KP,↓reduceIte,Nat.reduceEqDiff]
 subst hY2
 refine zAF fun Y3 hY3=>?_
 first | refine run_if (by simp only [↓zAZ,↓zAg,↓zAq,↓zAV,↓reduceIte,Nat.reduceEqDiff] <;> rfl) (fun h12=>?_) fun h12=>?_ | refine zCc (by simp only [↓zAZ,↓zAg,↓zAq,↓zAV,↓reduceIte,Nat.reduceEqDiff] <;> rfl) (fun h12=>?_) fun h12=>?_
 · refine zBV ?_
   subst hY3
   refine zAF fun Y4 hY4=>?_
   refine zCk ?_
   refine zAF fun Y5 hY5=>?_
   have hi:i < fr.length:=by omega
   refine zAG ?_
   try simp only [nm_get hi,↓zAK,EVq,TY,zAE,↓reduceIte,Nat.reduceLT,Nat.reduceLeDiff,Nat.reduceEqDiff,Nat.reduceAdd,Nat.reduceMul,Int.reduceLE,eq_self]
   refine zBa (by omega) ?_
   try simp only [nm_get hi,↓zAK,EVq,TY,zAE,↓reduceIte,Nat.reduceLT,Nat.reduceLeDiff,Nat.reduceEqDiff,Nat.reduceAdd,Nat.reduceMul,Int.reduceLE,eq_self]
   refine zAD [0,2,7,9,10,11] ?_
   simp only [KQ,↓KP,↓reduceIte,Nat.reduceEqDiff]
   subst hY5
   refine zAF fun Y6 hY6=>?_
   refine zAF fun Y7 hY7=>?_
   rcases hCh with ⟨rfl,rfl,rfl⟩ | ⟨m,es,cl,l1,fpk,rfl,hm,ho,rfl,hk⟩
   rotate_left
   rcases Classical.em (fr[i] ∈ F1.heads) with hn | hn
   · have hn:=hn
     rw [← hk.heads] at hn
     obtain ⟨j,bb,q2,hf,hj,hmem⟩:=map_find ho hn
     refine zAG ?_
     try simp only [hq,mpr,↓zAK,EVq,TY,zAE,↓reduceIte,Nat.reduceLT,Nat.reduceLeDiff,Nat.reduceEqDiff,Nat.reduceAdd,Nat.reduceMul,Int.reduceLE,eq_self]
     refine zAD [0,2,7,9,10,11,19] ?_
     simp only [KQ,↓KP,↓reduceIte,Nat.reduceEqDiff]
     subst hY7
     refine run_if_f (by simp only [↓zAZ,↓zAg,↓zAq,↓zAV,↓reduceIte,Nat.reduceEqDiff] <;> rfl) ?_
     refine zBV ?_
     subst hY6
     refine zAF fun Y8 hY8=>?_
     refine zAG ?_
     try simp only [hq,hm,hf,getM,hj,↓zAK,EVq,TY,zAE,↓reduceIte,Nat.reduceLT,Nat.reduceLeDiff,Nat.reduceEqDiff,Nat.reduceAdd,Nat.reduceMul,Int.reduceLE,eq_self]
     refine zAD [0,2,7,8,9,10,11] ?_
     simp only [KQ,↓KP,↓reduceIte,Nat.reduceEqDiff]
     subst hY8
     refine zAF fun Y9 hY9=>?_
     refine zAF fun Y10 hY10=>?_
     refine zAG ?_
     try simp only [ptr,↓zAK,EVq,TY,zAE,↓reduceIte,Nat.reduceLT,Nat.reduceLeDiff,Nat.reduceEqDiff,Nat.reduceAdd,Nat.reduceMul,Int.reduceLE,eq_self]
     refine zAD [0,2,7,8,9,10,11,31] ?_
     simp only [KQ,↓KP,↓reduceIte,Nat.reduceEqDiff]
     subst hY10
     refine run_if_f (by simp only [↓zAZ,↓zAg,↓zAq,↓zAV,↓reduceIte,Nat.reduceEqDiff] <;> rfl) ?_
     refine zBV ?_
     subst hY9
     refine zAG ?_
     try simp only [↓zAK,EVq,TY,zAE,↓reduceIte,Nat.reduceLT,Nat.reduceLeDiff,Nat.reduceEqDiff,Nat.reduceAdd,Nat.reduceMul,Int.reduceLE,eq_self]
     refine zAD [0,2,9,10,11] ?_
     simp only [KQ,↓KP,↓reduceIte,Nat.reduceEqDiff]
     refine zAr ?_
     subst hY4
     refine zAG ?_
     try simp only [↓zAK,EVq,TY,zAE,↓reduceIte,Nat.reduceLT,Nat.reduceLeDiff,Nat.reduceEqDiff,Nat.reduceAdd,Nat.reduceMul,Int.reduceLE,eq_self]
     refine zAD [0,2,9,10,11] ?_
     simp only [KQ,↓KP,↓reduceIte,Nat.reduceEqDiff]
     refine zAD [0,2,9,10,11] ?_
     simp only [KQ,↓KP,↓reduceIte,Nat.reduceEqDiff]
     have e1:IntKind.i64.wrap ((i:Int) + 1) = ((i + 1:Nat):Int):=by rw [zBX (by omega) (by omega)];omega
     rw [e1]
     rw [List.drop_eq_getElem_cons hi] at hW
     obtain ⟨s2,sub,fp2,g1,g2,g3,g4⟩:=wand_found hW hq hm ho hk hSm hnd1 hS1 hmem
     exact ih (fr.length - (i + 1)) _ _ (by omega) ⟨i + 1,q2,s2,sub,fp2,rfl,by omega,g1,g2,g3,g4,rfl⟩
   · have hn2:=hn
     rw [← hk.heads] at hn2
     have hf:=map_none ho hn2
     refine zAG ?_
     try simp only [hq,mpr,↓zAK,EVq,TY,zAE,↓reduceIte,Nat.reduceLT,Nat.reduceLeDiff,Nat.reduceEqDiff,Nat.reduceAdd,Nat.reduceMul,Int.reduceLE,eq_self]
     refine zAD [0,2,7,9,10,11,19] ?_
     simp only [KQ,↓KP,↓reduceIte,Nat.reduceEqDiff]
     subst hY7
     refine run_if_f (by simp only [↓zAZ,↓zAg,↓zAq,↓zAV,↓reduceIte,Nat.reduceEqDiff] <;> rfl) ?_
     refine zBV ?_
     subst hY6
     refine zAF fun Y11 hY11=>?_
     refine zAG ?_
     try simp only [hq,hm,hf,getM_none,↓zAK,EVq,TY,zAE,↓reduceIte,Nat.reduceLT,Nat.reduceLeDiff,Nat.reduceEqDiff,Nat.reduceAdd,Nat.reduceMul,Int.reduceLE,eq_self]
     refine zAD [0,2,7,8,9,10,11] ?_
     simp only [KQ,↓KP,↓reduceIte,Nat.reduceEqDiff]
     subst hY11
     refine zAF fun Y12 hY12=>?_
     refine zAF fun Y13 hY13=>?_
     refine zAG ?_
     try simp only [ptn,↓zAK,EVq,TY,zAE,↓reduceIte,Nat.reduceLT,Nat.reduceLeDiff,Nat.reduceEqDiff,Nat.reduceAdd,Nat.reduceMul,Int.reduceLE,eq_self]
     refine zAD [0,2,7,8,9,10,11,31] ?_
     simp only [KQ,↓KP,↓reduceIte,Nat.reduceEqDiff]
     subst hY13
     refine run_if_t (by simp only [↓zAZ,↓zAg,↓zAq,↓zAV,↓reduceIte,Nat.reduceEqDiff] <;> rfl) ?_
     refine zAF fun Y14 hY14=>?_
     refine zAG ?_
     try simp only [one_mn,↓zAK,EVq,TY,zAE,↓reduceIte,Nat.reduceLT,Nat.reduceLeDiff,Nat.reduceEqDiff,Nat.reduceAdd,Nat.reduceMul,Int.reduceLE,eq_self]
     refine zAD [0,2,7,8,9,10,11] ?_
     simp only [KQ,↓KP,↓reduceIte,Nat.reduceEqDiff]
     subst hY14
     have hq8:Heap.get (H1 ++ [some (Row.cells 3 [.agg [iD 0,iD 0,.v (.map none)]])]) q1 = _:=(g_push.trans (if_neg (by have:=Heap.get_lt hq;omega))).trans hq
     have hm8:Heap.get (H1 ++ [some (Row.cells 3 [.agg [iD 0,iD 0,.v (.map none)]])]) m = _:=(g_push.trans (if_neg (by have:=Heap.get_lt hm;omega))).trans hm
     refine zAG ?_
     try simp only [hq8,hm8,hf,updM,↓zAK,EVq,TY,zAE,↓reduceIte,Nat.reduceLT,Nat.reduceLeDiff,Nat.reduceEqDiff,Nat.reduceAdd,Nat.reduceMul,Int.reduceLE,eq_self]
     refine zAD [2,8,9,10,11] ?_
     simp only [KQ,↓KP,↓reduceIte,Nat.reduceEqDiff]
     subst hY12
     refine zAG ?_
     try simp only [↓zAK,EVq,TY,zAE,↓reduceIte,Nat.reduceLT,Nat.reduceLeDiff,Nat.reduceEqDiff,Nat.reduceAdd,Nat.reduceMul,Int.reduceLE,eq_self]
     refine zAD [0,2,9,10,11] ?_
     simp only [KQ,↓KP,↓reduceIte,Nat.reduceEqDiff]
     refine zAr ?_
     subst hY4
     refine zAG ?_
     try simp only [↓zAK,EVq,TY,zAE,↓reduceIte,Nat.reduceLT,Nat.reduceLeDiff,Nat.reduceEqDiff,Nat.reduceAdd,Nat.reduceMul,Int.reduceLE,eq_self]
     refine zAD [0,2,9,10,11] ?_
     simp only [KQ,↓KP,↓reduceIte,Nat.reduceEqDiff]
     refine zAD [0,2,9,10,11] ?_
     simp only [KQ,↓KP,↓reduceIte,Nat.reduceEqDiff]
     have e1:IntKind.i64.wrap ((i:Int) + 1) = ((i + 1:Nat):Int):=by rw [zBX (by omega) (by omega)];omega
     rw [e1]
     rw [List.drop_eq_getElem_cons hi] at hW
     obtain ⟨g1,g2⟩:=wand_new hW hq hm ho hk hSm hnd1 hn
     exact ih (fr.length - (i + 1)) _ _ (by omega) ⟨i + 1,_,0,.nil,_,rfl,by omega,g1,by simp,trivial,g2,rfl⟩
   ·
     refine zAG ?_
     try simp only [hq,mpn,↓zAK,EVq,TY,zAE,↓reduceIte,Nat.reduceLT,Nat.reduceLeDiff,Nat.reduceEqDiff,Nat.reduceAdd,Nat.reduceMul,Int.reduceLE,eq_self]
     refine zAD [0,2,7,9,10,11,19] ?_
     simp only [KQ,↓KP,↓reduceIte,Nat.reduceEqDiff]
     subst hY7
     refine run_if_t (by simp only [↓zAZ,↓zAg,↓zAq,↓zAV,↓reduceIte,Nat.reduceEqDiff] <;> rfl) ?_
     have hq4:Heap.get (H1 ++ [some (Row.mp [] 0)]) q1 = _:=(g_push.trans (if_neg (by have:=Heap.get_lt hq;omega))).trans hq
     refine zAG ?_
     try simp only [hq4,↓zAK,EVq,TY,zAE,↓reduceIte,Nat.reduceLT,Nat.reduceLeDiff,Nat.reduceEqDiff,Nat.reduceAdd,Nat.reduceMul,Int.reduceLE,eq_self]
     refine zAD [0,2,7,9,10,11] ?_
     simp only [KQ,↓KP,↓reduceIte,Nat.reduceEqDiff]
     subst hY6
     refine zAF fun Y15 hY15=>?_
     have lq:=Heap.get_lt hq
     have hW:=wand_map hW hq
     generalize hH2:(List.set (H1 ++ [some (Row.mp [] 0)]) q1 (some (Row.cells 3 [D.agg [iD u,iD r,D.mp (List.length H1)]])):Heap) = H2 at hW ⊢
     have hq:Heap.get H2 q1 = some (.cells 3 [.agg [iD u,iD r,.mp H1.length]]):=by rw [← hH2,zCd (by simp;omega),if_pos rfl]
     have hm:Heap.get H2 H1.length = some (.mp [] 0):=by rw [← hH2,zCd (by simp;omega),if_neg (by omega),g_push,if_pos rfl]
     have hnd1:[q1,H1.length].Nodup:=by simp;omega
     have ho:MapOk [] 0 []:=⟨.refl _,List.nodup_nil,by simp⟩
     have hk:KidsAt H2 c .nil [] []:=⟨rfl,rfl⟩
     have hf:findD .string (sV fr[i]) [] 0 = some none:=rfl
     have hn:fr[i] ∉ Fo.nil.heads:=by simp [Fo.heads]
     refine zAG ?_
     try simp only [hq,hm,hf,getM_none,↓zAK,EVq,TY,zAE,↓reduceIte,Nat.reduceLT,Nat.reduceLeDiff,Nat.reduceEqDiff,Nat.reduceAdd,Nat.reduceMul,Int.reduceLE,eq_self]
     refine zAD [0,2,7,8,9,10,11] ?_
     simp only [KQ,↓KP,↓reduceIte,Nat.reduceEqDiff]
     subst hY15
     refine zAF fun Y16 hY16=>?_
     refine zAF fun Y17 hY17=>?_
     refine zAG ?_
     try simp only [ptn,↓zAK,EVq,TY,zAE,↓reduceIte,Nat.reduceLT,Nat.reduceLeDiff,Nat.reduceEqDiff,Nat.reduceAdd,Nat.reduceMul,Int.reduceLE,eq_self]
     refine zAD [0,2,7,8,9,10,11,31] ?_
     simp only [KQ,↓KP,↓reduceIte,Nat.reduceEqDiff]
     subst hY17
     refine run_if_t (by simp only [↓zAZ,↓zAg,↓zAq,↓zAV,↓reduceIte,Nat.reduceEqDiff] <;> rfl) ?_
     refine zAF fun Y18 hY18=>?_
     refine zAG ?_
     try simp only [one_mn,↓zAK,EVq,TY,zAE,↓reduceIte,Nat.reduceLT,Nat.reduceLeDiff,Nat.reduceEqDiff,Nat.reduceAdd,Nat.reduceMul,Int.reduceLE,eq_self]
     refine zAD [0,2,7,8,9,10,11] ?_
     simp only [KQ,↓KP,↓reduceIte,Nat.reduceEqDiff]
     subst hY18
     have hq8:Heap.get (H2 ++ [some (Row.cells 3 [.agg [iD 0,iD 0,.v (.map none)]])]) q1 = _:=(g_push.trans (if_neg (by have:=Heap.get_lt hq;omega))).trans hq
     have hm8:Heap.get (H2 ++ [some (Row.cells 3 [.agg [iD 0,iD 0,.v (.map none)]])]) H1.length = _:=(g_push.trans (if_neg (by have:=Heap.get_lt hm;omega))).trans hm
     refine zAG ?_
     try simp only [hq8,hm8,hf,updM,↓zAK,EVq,TY,zAE,↓reduceIte,Nat.reduceLT,Nat.reduceLeDiff,Nat.reduceEqDiff,Nat.reduceAdd,Nat.reduceMul,Int.reduceLE,eq_self]
     refine zAD [2,8,9,10,11] ?_
     simp only [KQ,↓KP,↓reduceIte,Nat.reduceEqDiff]
     subst hY16
     refine zAG ?_
     try simp only [↓zAK,EVq,TY,zAE,↓reduceIte,Nat.reduceLT,Nat.reduceLeDiff,Nat.reduceEqDiff,Nat.reduceAdd,Nat.reduceMul,Int.reduceLE,eq_self]
     refine zAD [0,2,9,10,11] ?_
     simp only [KQ,↓KP,↓reduceIte,Nat.reduceEqDiff]
     refine zAr ?_
     subst hY4
     refine zAG ?_
     try simp only [↓zAK,EVq,TY,zAE,↓reduceIte,Nat.reduceLT,Nat.reduceLeDiff,Nat.reduceEqDiff,Nat.reduceAdd,Nat.reduceMul,Int.reduceLE,eq_self]
     refine zAD [0,2,9,10,11] ?_
     simp only [KQ,↓KP,↓reduceIte,Nat.reduceEqDiff]
     refine zAD [0,2,9,10,11] ?_
     simp only [KQ,↓KP,↓reduceIte,Nat.reduceEqDiff]
     have e1:IntKind.i64.wrap ((i:Int) + 1) = ((i + 1:Nat):Int):=by rw [zBX (by omega) (by omega)];omega
     rw [e1]
     rw [List.drop_eq_getElem_cons hi] at hW
     obtain ⟨g1,g2⟩:=wand_new hW hq hm ho hk hSm hnd1 hn
     exact ih (fr.length - (i + 1)) _ _ (by omega) ⟨i + 1,_,0,.nil,_,rfl,by omega,g1,by simp,trivial,g2,rfl⟩
 · refine run_exit (by rfl) ?_
   subst hY0
   obtain ⟨hS0,hS2,hS3,hS4,hS5⟩:=id hSm
   refine zAG ?_
   try simp only [hq,put_sum,↓zAK,EVq,TY,zAE,↓reduceIte,Nat.reduceLT,Nat.reduceLeDiff,Nat.reduceEqDiff,Nat.reduceAdd,Nat.reduceMul,Int.reduceLE,eq_self]
   refine zCH ((q_plus (u:=u) (r:=r) hw ⟨by omega,by omega⟩ ⟨by omega,by omega⟩).frame (by simp [zAh,D.noref]) _).sound (fun d Hx hd=>?_)
   obtain ⟨rfl,rfl⟩:=hd
   try simp only [hq,put_sum,↓zAK,EVq,TY,zAE,↓reduceIte,Nat.reduceLT,Nat.reduceLeDiff,Nat.reduceEqDiff,Nat.reduceAdd,Nat.reduceMul,Int.reduceLE,eq_self]
   refine zAD [] ?_
   simp only [KQ,↓KP,↓reduceIte,Nat.reduceEqDiff]
   refine run_end Try.func51 Try.results51 (by simp only [aRes,↓zAZ,↓KP,KQ,↓reduceIte,Nat.reduceEqDiff,zBR,TY] <;> rfl) (Weak.refl _ _ _) ?_
   refine ⟨rfl,?_⟩
   rw [List.drop_eq_nil_of_le (by omega)] at hW
   exact wand_end hW hq hSm hCh hnd1 hw
def Fo.vis:Fo → Int → Nat → List FN
 | .nil,_,_=>[]
 | .cons n s sub rest,par,pl =>
   (if s = 0 ∧ sub.vis pl (pl + 1) = [] then [] else (par,n,s) :: sub.vis pl (pl + 1)) ++ rest.vis par (pl + (if s = 0 ∧ sub.vis pl (pl + 1) = [] then [] else (par,n,s) :: sub.vis pl (pl + 1)).length)
def wOk (s:Int):Bool:=decide (-1099511627776 ≤ s ∧ s ≤ 1099511627776)
def Fo.okW:Fo → Bool
 | .nil=>true
 | .cons _ s sub rest=>wOk s && (sub.okW && rest.okW)
def Fo.Nms:Fo → Prop
 | .nil=>True
 | .cons n _ sub rest=>n.size ≤ 60 ∧ sub.Nms ∧ rest.Nms
abbrev fD (p:FN):D:=.agg [iD p.1,.v (.string p.2.1),iD p.2.2]
def TrieRow (row:Row):Prop:=(∃ u r d,row = .cells 3 [.agg [iD u,iD r,d]]) ∨ (∃ es cl,row = .mp es cl) ∨ ∃ f a b,row = .cells 1 [.fn f a b]
def Keep (H H':Heap):Prop:=H.length ≤ H'.length ∧ ∀ x row,H.get x = some row → TrieRow row → H'.get x = some row
theorem Keep.refl (H:Heap):Keep H H:=⟨Nat.le_refl _,fun _ _ h _=>h⟩
theorem Keep.trans {A B C:Heap} (h:Keep A B) (g:Keep B C):Keep A C:=⟨Nat.le_trans h.1 g.1,fun x row h1 h2=>g.2 x row (h.2 x row h1 h2) h2⟩
theorem KidsAt.rows {H:Heap} {c:Nat}:∀ {F:Fo} {l:List (Nm × Nat)} {fp:List Nat},KidsAt H c F l fp → ∀ r ∈ fp,∃ row,H.get r = some row ∧ TrieRow row
 | .nil,l,fp,h,r,hr=>by rw [h.2] at hr;cases hr
 | .cons n s sub rest,l,fp,h,r,hr=>by
   rw [KidsAt] at h
   obtain ⟨q,l',fp1,fp2,h1,rfl,⟨u,r',d,h3,h4,h5⟩,h6⟩:=h
   rcases List.mem_append.1 hr with hr | hr
   · rcases List.mem_cons.1 hr with rfl | hr
     · exact ⟨_,h3,.inl ⟨_,_,_,rfl⟩⟩
     · rcases h5 with ⟨_,_,rfl⟩ | ⟨m,es,cl,l1,fp',g1,g2,g3,rfl,g5⟩
       · cases hr
       · rcases List.mem_cons.1 hr with rfl | hr
         · exact ⟨_,g2,.inr (.inl ⟨_,_,rfl⟩)⟩
         · exact KidsAt.rows g5 r hr
   · exact KidsAt.rows h6 r hr
theorem KidsAt.keep {H H':Heap} {c:Nat} {F:Fo} {l:List (Nm × Nat)} {fp:List Nat} (h:KidsAt H c F l fp) (hk:Keep H H'):KidsAt H' c F l fp :=
 h.frame (Nat.le_refl c) fun r hr=>by obtain ⟨row,h1,h2⟩:=h.rows r hr;rw [hk.2 r row h1 h2,h1]
def FAt (H:Heap) (fc:Nat) (L:List FN):Prop:=(H.get fc = some (.cells 1 [.v (.slice none 0 0)]) ∧ L = []) ∨ ∃ r,H.get fc = some (.cells 1 [.sl r 0 L.length]) ∧ H.get r = some (.cells 3 (L.map fD))
structure VS (H:Heap) (fc ac vc:Nat) (L:List FN) (b:Bool):Prop where
 f:FAt H fc L
 a:H.get ac = some (.cells 1 [.v (.bool b)])
 v:H.get vc = some (.cells 1 [.fn (.func 65) [] [pD ac,pD fc,pD vc]])
def Visited (H:Heap) (fc ac vc:Nat) (L:List FN) (b:Bool) (F:Fo) (par:Int) (H':Heap):Prop :=
 ∃ L',VS H' fc ac vc L' (b && F.okW) ∧ L.length ≤ L'.length ∧ L'.length ≤ L.length + F.len ∧ (F.okW = true → L' = L ++ F.vis par L.length) ∧ Keep H H'
theorem F68_eq {u r s:Int} {c:Nat} (h:Sm u r s c) (hc:c ≤ 1000000):∃ x,F68 (u,r) = some (x,wOk s) ∧ (wOk s = true → x = s):=by
 obtain ⟨h1,h2,h3,h4,h5⟩:=h
 have e0:=Int.tdiv_mul_add_tmod r 1048576
 have b:-(c:Int) ≤ r.tdiv 1048576 ∧ r.tdiv 1048576 ≤ c ∧ -1048576 < r.tmod 1048576 ∧ r.tmod 1048576 < 1048576:=by
   rcases Int.le_total 0 r with h | h
   · rw [Int.tdiv_eq_ediv_of_nonneg h,Int.tmod_eq_emod_of_nonneg h];omega
   · obtain ⟨v,rfl⟩:∃ v,r = -v:=⟨-r,by omega⟩
     rw [Int.neg_tdiv,Int.neg_tmod,Int.tdiv_eq_ediv_of_nonneg (by omega),Int.tmod_eq_emod_of_nonneg (by omega)];omega
 have e3:∀ a b:Int,-9223372036854775808 ≤ a + b → a + b < 9223372036854775808 → zBo .i64 a b = a + b:=fun a b h1 h2=>zBX h1 h2
 have e4:∀ a b:Int,-9223372036854775808 ≤ a * b → a * b < 9223372036854775808 → imul .i64 a b = a * b:=fun a b h1 h2=>zBX h1 h2
 have e5:iquo .i64 r 1048576 = r.tdiv 1048576:=zBX (by omega) (by omega)
 have e6:irem r 1048576 = r.tmod 1048576:=rfl
 have n1:ine 1048576 0 = true:=rfl
 unfold F68
 dsimp only
 rw [Go.Pl.zAY n1,e5,e6,e3 _ _ (by omega) (by omega),Go.Pl.pick_or,Go.Pl.zBy,Go.Pl.zBy,← Bool.decide_or,Go.Pl.sel_i]
 by_cases g:u + r.tdiv 1048576 < -1048577 ∨ 1048577 < u + r.tdiv 1048576
 · have:wOk s = false:=by unfold wOk;rw [decide_eq_false_iff_not];omega
   rw [if_pos g,this]
   exact ⟨0,rfl,fun h=>by cases h⟩
 · rw [if_neg g,Go.Pl.zAY n1,e4 _ _ (by omega) (by omega),e3 _ _ (by omega) (by omega)]
   have es:(u + r.tdiv 1048576) * 1048576 + r.tmod 1048576 = s:=by omega
   rw [es]
   have hF:F36 s = some (wOk s):=by
     unfold F36 wOk
     rw [Go.Pl.zCu,Go.Pl.ile_d,Go.Pl.ile_d,← Bool.decide_and]
   rw [Go.Pl.zAd hF]
   exact ⟨s,rfl,fun _=>rfl⟩
theorem q_value {u r s:Int} {c:Nat} (h:Sm u r s c) (hc:c ≤ 1000000):Pure Try.prog 68 [.agg [iD u,iD r]] fun d=>∃ x,d = .tup [iD x,.v (.bool (wOk s))] ∧ (wOk s = true → x = s):=by
 obtain ⟨x,hx,hs⟩:=F68_eq h hc
 refine Pure.mono (pure_of (c:=c68) ok68 rfl rfl (x:=((u,r):Int × Int)) (y:=((x,wOk s):Int × Bool)) (fun v hv=>by
   have hv:v ∈ [(⟨.agg (.pr (.int .i64) (.int .i64)),((u,r):Int × Int)⟩:TV)]:=hv
   simp only [List.mem_cons,List.not_mem_nil,or_false] at hv
   subst hv;rfl) rfl hx) fun d hd=>⟨x,hd,hs⟩
theorem q_sorted_nil (H:Heap) {b:Nat} (hb:H.get b = some (.bx (.v (.map none)))):Sound Try.prog 66 [.fn (.func 82) [] [pD b]] H fun r H'=>r = .fz 1 [] ∧ H' = H:=by
 refine ⟨⟨Try.f66,Try.func66,by kernel_rfl,by kernel_rfl⟩,fun own X w vs hs hv=>?_⟩
 simp only [zCE,VRels,VRel] at hv
 obtain ⟨v1,_,rfl,⟨_,us,rfl,rfl,⟨v2,_,rfl,⟨hbl,rfl⟩,rfl⟩⟩,rfl⟩:=hv
 obtain ⟨⟨hbase,x,t,hxb,hx⟩,hXb⟩:=hs.live b _ hb
 rw [VRel] at hx
 subst hx
 have hbw:(own b).b < w.heap.size:=(hs.live b _ hb).1.lt
 have hcell:w.cell? ⟨(own b).b,0,none⟩ = some (.map none):=by simp [World.cell?,hxb]
 have hptr:(own b).base + 0 * (own b).k + 0 = 0:=by rw [hbase];omega
 rw [hptr]
 refine Calls.mono (callsIn_wide.1 (sorted_nil (own b).b w hbw hcell)) ?_
 rintro e w' ⟨v,ss,rfl,rfl,hrow,hnil,hbe⟩
 obtain ⟨h1,h2⟩:=Sim.outlives (own':=own) (X':=X) hs (fun b hb=>hb) (fun b hb'=>hbe.block b hb') hbe.size ⟨hbe.os,hbe.output,hbe.tape,fun h=>h.elim⟩
 refine ⟨own,.fz 1 [],H,v,rfl,h1,?_,h2,rfl,rfl⟩
 rw [Rel,VRel,hnil.2 rfl]
 exact ⟨none,0,rfl,Nat.le_refl _,fun h=>absurd rfl h⟩
theorem srt_heads:∀ {F:Fo},F.Srt → F.heads.Pairwise fun a b=>slt a b = true
 | .nil,_=>List.Pairwise.nil
 | .cons n s sub rest,h=>List.pairwise_cons.2 ⟨h.1,srt_heads h.2.2⟩
theorem nms_heads:∀ {F:Fo},F.Nms → ∀ n ∈ F.heads,n.size ≤ 60
 | .nil,_,n,h=>by cases h
 | .cons k s sub rest,h,n,hn=>by
   rcases List.mem_cons.1 hn with rfl | hn
   · exact h.1
   · exact nms_heads h.2.2 n hn
theorem heads_len:∀ F:Fo,F.heads.length ≤ F.len
 | .nil=>by simp [Fo.heads,Fo.len]
 | .cons n s sub rest=>by have:=heads_len rest;rw [Fo.heads,Fo.len,List.length_cons];omega
def DOk (H:Heap) (d:D) (l:List (Nm × Nat)):Prop:=l = [] ∨ ∃ m es cl,d = .mp m ∧ H.get m = some (.mp es cl) ∧ MapOk es cl l
theorem DOk.keep {H H':Heap} {d:D} {l:List (Nm × Nat)} (h:DOk H d l) (hk:Keep H H'):DOk H' d l:=by
 rcases h with h | ⟨m,es,cl,h1,h2,h3⟩
 · exact .inl h
 · exact .inr ⟨m,es,cl,h1,hk.2 m _ h2 (.inr (.inl ⟨_,_,rfl⟩)),h3⟩
theorem ch_list {H:Heap} {c:Nat} {d:D} {F:Fo} {fp:List Nat} (h:ChAt H c d F fp) (hS:F.Srt) (hN:F.Nms) (hl:F.len ≤ 1000000):((∃ m,d = .mp m) ∨ d = .v (.map none)) ∧ ∃ l fpk,KidsAt H c F l fpk ∧ DOk H d l ∧ (l.map (·.1)).Pairwise (fun a b=>slt a b = true) ∧
   Sound Try.prog 66 [.fn (.func 82) [] [pD H.length]] (H ++ [some (.bx d)]) fun r H'=>r = .fz 1 (l.map fun p=>.v (sV p.1)) ∧ H' = H ++ [some (.bx d)]:=by
 have hb:Heap.get (H ++ [some (Row.bx d)]) H.length = some (.bx d):=by rw [g_push,if_pos rfl]
 rcases h with ⟨rfl,rfl,rfl⟩ | ⟨m,es,cl,l,fp',rfl,hm,ho,rfl,hk⟩
 · exact ⟨.inr rfl,[],[],⟨rfl,rfl⟩,.inl rfl,List.Pairwise.nil,q_sorted_nil _ hb⟩
 · have hh:=hk.heads
   have hs:(l.map (·.1)).Pairwise fun a b=>slt a b = true:=by rw [hh];exact srt_heads hS
   have hm':Heap.get (H ++ [some (Row.bx (.mp m))]) m = some (.mp es cl):=by rw [g_push,if_neg (by have:=Heap.get_lt hm;omega)];exact hm
   have hll:l.length ≤ 1000000:=by
     have:=congrArg List.length hh
     rw [List.length_map] at this
     have:=heads_len F;omega
   exact ⟨.inl ⟨m,rfl⟩,l,fp',hk,.inr ⟨m,es,cl,rfl,hm,ho⟩,hs,q_sorted _ hb hm' ho hs (fun p hp=>nms_heads hN p.1 (by rw [← hh];exact List.mem_map_of_mem (f:=(·.1)) hp)) hll⟩
theorem fst_inj:∀ {l:List (Nm × Nat)},(l.map (·.1)).Pairwise (fun a b=>slt a b = true) → ∀ {n:Nm} {a b:Nat},(n,a) ∈ l → (n,b) ∈ l → a = b
 | [],_,n,a,b,h,_=>by cases h
 | (k,x) :: l,hp,n,a,b,h1,h2=>by
   rw [List.map_cons] at hp
   have hp:=List.pairwise_cons.1 hp
   have no:∀ y,(k,y) ∈ l → False:=fun y hy=>slt_irr k (hp.1 k (List.mem_map_of_mem (f:=(·.1)) hy))
   rcases List.mem_cons.1 h1 with e1 | h1 <;> rcases List.mem_cons.1 h2 with e2 | h2
   · exact (Prod.mk.inj e1).2.trans (Prod.mk.inj e2).2.symm
   · rw [(Prod.mk.inj e1).1] at h2;exact (no _ h2).elim
   · rw [(Prod.mk.inj e2).1] at h1;exact (no _ h1).elim
   · exact fst_inj hp.2 h1 h2
theorem keep_push (H:Heap) (x:Option Row):Keep H (H ++ [x]):=⟨by simp,fun y row h _=>by rw [g_push,if_neg (by have:=Heap.get_lt h;omega)];exact h⟩
theorem keep_set {H:Heap} {a:Nat} {x:Option Row} (ha:∃ row,H.get a = some row ∧ ¬ TrieRow row):Keep H (H.set a x):=by
 obtain ⟨row,h1,h2⟩:=ha
 refine ⟨by simp,fun y row' h h'=>?_⟩
 rw [zCd (Heap.get_lt h1),if_neg (fun e=>by subst e;rw [h1] at h;exact h2 (Option.some.inj h ▸ h'))];exact h
theorem no_slice (d:D) (h:∀ f a b,d ≠ .fn f a b):¬ TrieRow (.cells 1 [d]):=by
 rintro (⟨u,r,d',e⟩ | ⟨es,cl,e⟩ | ⟨f,a,b,e⟩)
 · simp at e
 · cases e
 · simp at e;exact h _ _ _ e
theorem no_flame (L:List FN):¬ TrieRow (.cells 3 (L.map fD)):=by
 rintro (⟨u,r,d',e⟩ | ⟨es,cl,e⟩ | ⟨f,a,b,e⟩)
 · cases L with
   | nil=>simp at e
   | cons p L=>simp at e
 · cases e
 · simp at e
theorem VS.keep_f {H:Heap} {fc ac vc:Nat} {L:List FN} {b:Bool} (h:VS H fc ac vc L b):ac ≠ fc ∧ vc ≠ fc ∧ ac ≠ vc:=by
 refine ⟨fun e=>?_,fun e=>?_,fun e=>?_⟩
 · subst e
   rcases h.f with ⟨h1,_⟩ | ⟨r,h1,_⟩ <;> (rw [h.a] at h1;simp at h1)
 · subst e
   rcases h.f with ⟨h1,_⟩ | ⟨r,h1,_⟩ <;> (rw [h.v] at h1;simp at h1)
 · subst e
   have:=h.a.symm.trans h.v;simp at this
theorem VS.push {H:Heap} {fc ac vc:Nat} {L:List FN} {b:Bool} (h:VS H fc ac vc L b) (x:Option Row):VS (H ++ [x]) fc ac vc L b:=by
 have g:∀ y row,H.get y = some row → Heap.get (H ++ [x]) y = some row:=fun y row h=>by rw [g_push,if_neg (by have:=Heap.get_lt h;omega)];exact h
 refine ⟨?_,g _ _ h.a,g _ _ h.v⟩
 rcases h.f with ⟨h1,h2⟩ | ⟨r,h1,h2⟩
 · exact .inl ⟨g _ _ h1,h2⟩
 · exact .inr ⟨r,g _ _ h1,g _ _ h2⟩
theorem VS.flag {H:Heap} {fc ac vc:Nat} {L:List FN} {b:Bool} (h:VS H fc ac vc L b) (b':Bool):VS (H.set ac (some (Row.cells 1 [D.v (.bool b')]))) fc ac vc L b' ∧ Keep H (H.set ac (some (Row.cells 1 [D.v (.bool b')]))):=by
 obtain ⟨n1,n2,n3⟩:=h.keep_f
 have la:=Heap.get_lt h.a
 have hk:Keep H (H.set ac (some (Row.cells 1 [D.v (.bool b')]))):=keep_set ⟨_,h.a,no_slice _ (by simp)⟩
 refine ⟨⟨?_,by rw [zCd la,if_pos rfl],hk.2 _ _ h.v (.inr (.inr ⟨_,_,_,rfl⟩))⟩,hk⟩
 rcases h.f with ⟨h1,h2⟩ | ⟨r,h1,h2⟩
 · exact .inl ⟨by rw [zCd la,if_neg n1.symm];exact h1,h2⟩
 · refine .inr ⟨r,by rw [zCd la,if_neg n1.symm];exact h1,?_⟩
   rw [zCd la,if_neg]
   · exact h2
   · rintro rfl
     have:=h.a.symm.trans h2;simp at this
theorem VS.app_nil {H:Heap} {fc ac vc:Nat} {b:Bool} (h:VS H fc ac vc [] b) (hf:H.get fc = some (.cells 1 [.v (.slice none 0 0)])) (p:FN) {X:Option Row} :
   VS ((H ++ [X] ++ [some (Row.cells 3 [fD p])]).set fc (some (Row.cells 1 [.sl (H ++ [X]).length 0 1]))) fc ac vc [p] b ∧ Keep H ((H ++ [X] ++ [some (Row.cells 3 [fD p])]).set fc (some (Row.cells 1 [.sl (H ++ [X]).length 0 1]))):=by
 obtain ⟨n1,n2,n3⟩:=h.keep_f
 have lf:=Heap.get_lt hf
 have hl:(H ++ [X]).length = H.length + 1:=by simp
 have la:=Heap.get_lt h.a
 have lv:=Heap.get_lt h.v
 have hget:∀ x,Heap.get ((H ++ [X] ++ [some (Row.cells 3 [fD p])]).set fc (some (Row.cells 1 [.sl (H ++ [X]).length 0 1]))) x = if x = fc then some (Row.cells 1 [.sl (H.length + 1) 0 1]) else if x = H.length + 1 then some (Row.cells 3 [fD p]) else if x = H.length then X else H.get x:=fun x=>by
   rw [zCd (by simp;omega),g_push,g_push,hl]
 refine ⟨⟨.inr ⟨H.length + 1,hget fc |>.trans (if_pos rfl),((hget _).trans (if_neg (by omega))).trans (if_pos rfl)⟩,?_,?_⟩,by simp,fun x row hx ht=>?_⟩
 · rw [hget,if_neg n1,if_neg (by omega),if_neg (by omega)];exact h.a
 · rw [hget,if_neg n2,if_neg (by omega),if_neg (by omega)];exact h.v
 · have hxl:=Heap.get_lt hx
   rw [hget,if_neg (fun e=>by subst e;rw [hf] at hx;exact no_slice _ (by simp) (Option.some.inj hx ▸ ht)),if_neg (by omega),if_neg (by omega)];exact hx
theorem VS.app_sl {H:Heap} {fc ac vc:Nat} {b:Bool} {L:List FN} (h:VS H fc ac vc L b) {rr:Nat} (hf:H.get fc = some (.cells 1 [.sl rr 0 L.length])) (hr:H.get rr = some (.cells 3 (L.map fD))) (p:FN) {X:Option Row} :
   VS (((H ++ [X]).set rr none ++ [some (Row.cells 3 (L.map fD ++ [fD p]))]).set fc (some (Row.cells 1 [.sl (H ++ [X]).length 0 (L.length + 1)]))) fc ac vc (L ++ [p]) b ∧ Keep H (((H ++ [X]).set rr none ++ [some (Row.cells 3 (L.map fD ++ [fD p]))]).set fc (some (Row.cells 1 [.sl (H ++ [X]).length 0 (L.length + 1)]))):=by
 obtain ⟨n1,n2,n3⟩:=h.keep_f
 have lf:=Heap.get_lt hf
 have lr:=Heap.get_lt hr
 have hl:(H ++ [X]).length = H.length + 1:=by simp
 have la:=Heap.get_lt h.a
 have lv:=Heap.get_lt h.v
 have nrf:rr ≠ fc:=fun e=>by subst e;have:=hf.symm.trans hr;simp at this
 have nra:rr ≠ ac:=fun e=>by subst e;have:=h.a.symm.trans hr;simp at this
 have nrv:rr ≠ vc:=fun e=>by subst e;have:=h.v.symm.trans hr;simp at this
 have hget:∀ x,Heap.get (((H ++ [X]).set rr none ++ [some (Row.cells 3 (L.map fD ++ [fD p]))]).set fc (some (Row.cells 1 [.sl (H ++ [X]).length 0 (L.length + 1)]))) x = if x = fc then some (Row.cells 1 [.sl (H.length + 1) 0 (L.length + 1)]) else if x = H.length + 1 then some (Row.cells 3 (L.map fD ++ [fD p])) else if x = rr then none else if x = H.length then X else H.get x:=fun x=>by
   rw [zCd (by simp;omega),g_push,zCd (by simp;omega),g_push]
   simp only [List.length_set,hl]
 refine ⟨⟨.inr ⟨H.length + 1,by rw [hget,if_pos rfl];simp,by rw [hget,if_neg (by omega),if_pos rfl];simp⟩,?_,?_⟩,by simp;omega,fun x row hx ht=>?_⟩
 · rw [hget,if_neg n1,if_neg (by omega),if_neg nra.symm,if_neg (by omega)];exact h.a
 · rw [hget,if_neg n2,if_neg (by omega),if_neg nrv.symm,if_neg (by omega)];exact h.v
 · have hxl:=Heap.get_lt hx
   rw [hget,if_neg (fun e=>by subst e;rw [hf] at hx;exact no_slice _ (by simp) (Option.some.inj hx ▸ ht)),if_neg (by omega),if_neg (fun e=>by subst e;rw [hr] at hx;exact no_flame L (Option.some.inj hx ▸ ht)),if_neg (by omega)];exact hx
theorem Visited.pre {H H1:Heap} {fc ac vc:Nat} {L:List FN} {b:Bool} {F:Fo} {par:Int} {H2:Heap} (h:Visited H1 fc ac vc L b F par H2) (hk:Keep H H1):Visited H fc ac vc L b F par H2:=by
 obtain ⟨L',h1,h2,h3,h4,h5⟩:=h
 exact ⟨L',h1,h2,h3,h4,hk.trans h5⟩
theorem kids_drop {H:Heap} {c:Nat} {F:Fo} {p:Nm × Nat} {l:List (Nm × Nat)} {fp:List Nat} (h:KidsAt H c F (p :: l) fp):∃ s2 sub rest fp1 fp2,F = .cons p.1 s2 sub rest ∧ NodeAt H c p.2 s2 sub fp1 ∧ KidsAt H c rest l fp2:=by
 cases F with
 | nil=>have:=h.1;cases this
 | cons n s sub rest =>
   obtain ⟨q,l',fp1,fp2,h1,_,h3,h4⟩:=kids_cons.1 h
   obtain ⟨rfl,rfl⟩:=List.cons.inj h1
   exact ⟨s,sub,rest,fp1,fp2,rfl,h3,h4⟩
theorem nm_get2 {l:List (Nm × Nat)} {i:Nat} (h:i < l.length):(l.map fun p=>(.v (sV p.1):D))[((i:Nat):Int).toNat]? = some (.v (sV l[i].1)):=by simp [h]
theorem NodeAt.keep {H H':Heap} {c q:Nat} {s:Int} {F:Fo} {fp:List Nat} (h:NodeAt H c q s F fp) (hk:Keep H H'):NodeAt H' c q s F fp:=by
 have h1:KidsAt H c (.cons ByteArray.empty s F .nil) [(ByteArray.empty,q)] (fp ++ []):=kids_cons.2 ⟨q,[],fp,[],rfl,rfl,h,rfl,rfl⟩
 obtain ⟨q',l',fp1,fp2,e1,e2,h2,h3⟩:=kids_cons.1 (h1.keep hk)
 obtain ⟨e3,rfl⟩:=List.cons.inj e1
 obtain ⟨_,rfl⟩:=Prod.mk.inj e3
 have:=h3.2
 subst this
 rw [List.append_nil,List.append_nil] at e2
 subst e2
 exact h2
theorem kids_nil {H:Heap} {c:Nat} {F:Fo} {fp:List Nat} (h:KidsAt H c F [] fp):F = .nil:=by
 cases F with
 | nil=>rfl
 | cons n s sub rest=>obtain ⟨q,l',fp1,fp2,h1,_⟩:=kids_cons.1 h;cases h1
theorem VS.cut {H:Heap} {fc ac vc:Nat} {b:Bool} {L:List FN} (h:VS H fc ac vc L b) {rr:Nat} (hf:H.get fc = some (.cells 1 [.sl rr 0 L.length])) (hr:H.get rr = some (.cells 3 (L.map fD))) {n:Nat} (hn:n ≤ L.length) :
   Heap.get (H.set fc (some (Row.cells 1 [.sl rr 0 n]))) rr = some (.cells 3 (L.map fD)) ∧
   VS ((H.set fc (some (Row.cells 1 [.sl rr 0 n]))).set rr (some (Row.cells 3 ((L.map fD).take n)))) fc ac vc (L.take n) b ∧ Keep H ((H.set fc (some (Row.cells 1 [.sl rr 0 n]))).set rr (some (Row.cells 3 ((L.map fD).take n)))):=by
 obtain ⟨n1,n2,n3⟩:=h.keep_f
 have lf:=Heap.get_lt hf
 have lr:=Heap.get_lt hr
 have nrf:rr ≠ fc:=fun e=>by subst e;have:=hf.symm.trans hr;simp at this
 have nra:rr ≠ ac:=fun e=>by subst e;have:=h.a.symm.trans hr;simp at this
 have nrv:rr ≠ vc:=fun e=>by subst e;have:=h.v.symm.trans hr;simp at this
 have hget:∀ x,Heap.get ((H.set fc (some (Row.cells 1 [.sl rr 0 n]))).set rr (some (Row.cells 3 ((L.map fD).take n)))) x = if x = rr then some (Row.cells 3 ((L.map fD).take n)) else if x = fc then some (Row.cells 1 [.sl rr 0 n]) else H.get x:=fun x=>by
   rw [zCd (by simpa using lr),zCd lf]
 refine ⟨by rw [zCd lf,if_neg nrf];exact hr,⟨.inr ⟨rr,?_,?_⟩,?_,?_⟩,by simp,fun x row hx ht=>?_⟩
 · rw [hget,if_neg nrf.symm,if_pos rfl,List.length_take,Nat.min_eq_left hn]
 · rw [hget,if_pos rfl,List.map_take]
 · rw [hget,if_neg nra.symm,if_neg n1];exact h.a
 · rw [hget,if_neg nrv.symm,if_neg n2];exact h.v
 · rw [hget,if_neg (fun e=>by subst e;rw [hr] at hx;exact no_flame L (Option.some.inj hx ▸ ht)),if_neg (fun e=>by subst e;rw [hf] at hx;exact no_slice _ (by simp) (Option.some.inj hx ▸ ht))];exact hx
theorem run_gen {P:Program} {f:FuncId} {N n0:Nat} {R:D → Heap → Prop} {K:List Item} {e:Env} {H:Heap} {Q:Heap → Prop} (h:Q H) (h2:∀ H',Q H' → Run P f N n0 R K e H'):Run P f N n0 R K e H:=h2 H h
section
variable {H1 H6:Heap} {fc ac vc:Nat} {Lj L5:List FN} {bj:Bool} {n:Nm} {s2 x par:Int} {sub rest:Fo}
theorem zCL (hk:Keep H1 H6) (hx:wOk s2 = true → x = s2) (hl:Lj.length + 1 ≤ L5.length ∧ L5.length ≤ Lj.length + 1 + sub.len) (he:sub.okW = true → L5 = Lj ++ [(par,n,x)] ++ sub.vis (Lj.length:Nat) (Lj.length + 1)) (hn:¬ (x = 0 ∧ L5.length = Lj.length + 1)) (H2:Heap)
   (h:Visited H6 fc ac vc L5 (bj && wOk s2 && sub.okW) rest par H2):Visited H1 fc ac vc Lj bj (.cons n s2 sub rest) par H2:=by
 obtain ⟨L',h1,h2,h3,h4,h5⟩:=h
 refine ⟨L',?_,by omega,by rw [Fo.len];omega,fun hok=>?_,hk.trans h5⟩
 · rw [Fo.okW];rw [Bool.and_assoc,Bool.and_assoc] at h1;exact h1
 · rw [Fo.okW,Bool.and_eq_true,Bool.and_eq_true] at hok
   obtain ⟨o1,o2,o3⟩:=hok
   have e1:=hx o1
   subst e1
   have e2:=he o2
   rw [h4 o3,Fo.vis]
   have hne:¬ (x = 0 ∧ sub.vis (Lj.length:Nat) (Lj.length + 1) = []):=fun ⟨a,b⟩=>hn ⟨a,by rw [e2,b];simp⟩
   rw [if_neg hne]
   have hlen:L5.length = Lj.length + ((par,n,x) :: sub.vis (Lj.length:Nat) (Lj.length + 1)).length:=by rw [e2];simp
   rw [hlen,← List.append_assoc,e2]
   simp
theorem zCs (hk:Keep H1 H6) (hx:wOk s2 = true → x = s2) (he:sub.okW = true → L5 = Lj ++ [(par,n,x)] ++ sub.vis (Lj.length:Nat) (Lj.length + 1)) (hl:L5.length = Lj.length + 1) (hz:x = 0) (H2:Heap)
   (h:Visited H6 fc ac vc (L5.take Lj.length) (bj && wOk s2 && sub.okW) rest par H2):Visited H1 fc ac vc Lj bj (.cons n s2 sub rest) par H2:=by
 obtain ⟨L',h1,h2,h3,h4,h5⟩:=h
 rw [List.length_take] at h2 h3
 refine ⟨L',?_,by omega,by rw [Fo.len];omega,fun hok=>?_,hk.trans h5⟩
 · rw [Fo.okW];rw [Bool.and_assoc,Bool.and_assoc] at h1;exact h1
 · rw [Fo.okW,Bool.and_eq_true,Bool.and_eq_true] at hok
   obtain ⟨o1,o2,o3⟩:=hok
   have e1:=hx o1
   subst e1
   have e2:=he o2
   have hnil:sub.vis (Lj.length:Nat) (Lj.length + 1) = []:=by
     have:=congrArg List.length e2
     rw [hl] at this
     simp at this
     exact this
   have e3:L5.take Lj.length = Lj:=by rw [e2,List.append_assoc,List.take_left]
   rw [h4 o3,Fo.vis,if_pos ⟨hz,hnil⟩,e3]
   simp
theorem step_end (h:VS H1 fc ac vc Lj bj):Visited H1 fc ac vc Lj bj .nil par H1:=⟨Lj,by rw [Fo.okW,Bool.and_true];exact h,Nat.le_refl _,by simp,fun _=>by simp [Fo.vis],Keep.refl _⟩
end
end Go.Fl
