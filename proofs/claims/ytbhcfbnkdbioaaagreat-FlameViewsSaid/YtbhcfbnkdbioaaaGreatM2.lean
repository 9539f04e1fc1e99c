/- Part 2 of what the claim leans on: AbEnd, AbDraw, AbEval, AbMore, TPrim, TTy, TOps, TRun, TEnc, TFlow, TAbs, TAbs2, TFrz. -/
import Derived.Test.YtbhcfbnkdbioaaaGreatM1
import Derived.Calls
import Derived.KernelRfl
import Derived.Orders
import Derived.Laws.Sem
import Derived.Laws.CopyRow
import Derived.Laws.Cells
import Derived.Room.Entries
import Derived.Lib.Overlaps
import GoSem.Conv.BytesToString
import Derived.OrdersHeld
set_option linter.defProp false
noncomputable section
set_option linter.unusedVariables false
set_option linter.unusedSectionVars false
set_option linter.unusedSimpArgs false
namespace Go.Ab
variable [Go.Ab.DM]
def aRes (P:Program) (e:Env) (H:Heap):List ResultVar -> Option (List D)
 | []=>some []
 | .tmp t :: r=>(aRes P e H r).map (e t :: ·)
 | .cell a t :: r=>(ldD P t H (e a)).bind fun d=>(aRes P e H r).map (d :: ·)
def retD:List D -> D
 | [d]=>d
 | ds=>.tup ds
def res_sound {P:Program} {H:Heap} {own X w} {tmps:Array Value} {e:Env} (g:ResultVar -> Sem Value) (hg1:∀ t,g (.tmp t) = pure (tmps.getD t undef)) (hg2:∀ a t,g (.cell a t) = (do loadVar t (<- asAddr (tmps.getD a undef)))) (hs:Sim own H X w) (he:EnvRel own H X w tmps e):∀ (rs:List ResultVar) (ds:List D),aRes P e H rs = some ds ->
  ∃ vs,(rs.mapM (m:=Sem) g).run P w = .ok vs w /\ zCL own H X w ds vs
 | [],ds,h=>by simp [aRes] at h;subst h;exact ⟨[],by simp,by simp [zCL,VRels]⟩
 | .tmp t :: rs,ds,h=>by
  simp only [aRes,yAb] at h
  obtain ⟨ds',h1,rfl⟩:=h
  obtain ⟨vs,h2,h3⟩:=res_sound g hg1 hg2 hs he rs ds' h1
  refine ⟨tmps.getD t undef :: vs,?_,by rw [zCL,VRels];exact ⟨_,_,rfl,he t,h3⟩⟩
  simp only [List.mapM_cons,hg1,Sem.run_bind,Sem.run_pure,Result.andThen_ok,h2]
 | .cell a t :: rs,ds,h=>by
  simp only [aRes,yAn,yAb] at h
  obtain ⟨d,h0,ds',h1,rfl⟩:=h
  obtain ⟨vs,h2,h3⟩:=res_sound g hg1 hg2 hs he rs ds' h1
  obtain ⟨x,h4',h5⟩:=load_sound (P:=P) hs (he a) h0
  have h4:=h4' w (fun _ _=>rfl)
  refine ⟨x :: vs,?_,by rw [zCL,VRels];exact ⟨_,_,rfl,h5,h3⟩⟩
  have h6:(do loadVar t (<- asAddr (tmps.getD a undef)):Sem Value).run P w = .ok x w:=by
   generalize tmps.getD a undef = v at h4
   unfold Instr.loadAt Instr.sureAddr at h4
   cases v with
   | pointer o=>cases o <;> simp_all [asAddr]
   | _=>simp at h4
  simp only [List.mapM_cons,hg2,Sem.run_bind,Sem.run_pure,Result.andThen_ok,h2] at h6 ⊢
  rw [h6];simp only [Result.andThen_ok];rw [h2];rfl
def results_sound {P:Program} {H:Heap} {own X w} {fn:Func} {rs:List ResultVar} {tmps:Array Value} {e:Env} {ds:List D} (hr:fn.results = rs.toArray) (hs:Sim own H X w) (he:EnvRel own H X w tmps e) (h:aRes P e H rs = some ds) :
  ∃ v,(results fn tmps).run P w = .ok v w /\ Rel own H X w (retD ds) v:=by
 obtain ⟨vs,h1,h2⟩:=res_sound (P:=P) (fun | .tmp t=>pure (tmps.getD t undef) | .cell a t=>do loadVar t (<- asAddr (tmps.getD a undef))) (fun _=>rfl) (fun _ _=>rfl) hs he rs ds h
 have hl:=zAi h2
 refine ⟨if h:vs.toArray.size = 1 then vs.toArray[0] else .tuple vs.toArray,?_,?_⟩
 ·unfold results
  rw [hr,Array.mapM_eq_mapM_toList]
  simp only [Sem.run_bind,Sem.run_map]
  refine (congrArg (fun z=>Result.andThen (Result.andThen z _) _) h1).trans ?_
  rfl
 ·match ds,vs,hl,h2 with
  | [],[],_,h2=>simp [retD,Rel,VRel,VRels]
  | [d],[v],_,h2=>rw [zCL,VRels] at h2;obtain ⟨x,xs,e1,h3,_⟩:=h2;simp at e1;simp [retD];rw [e1.1];exact h3
  | d :: d' :: ds,v :: v' :: vs,_,h2=>simp only [retD];rw [Rel,VRel];exact ⟨v :: v' :: vs,by simp,h2⟩
def Weak (n0:Nat) (H:Heap) (d:D) (H':Heap) (d':D):Prop :=
 ∀ own X w v,n0 <= H.length -> Sim own H X w -> Rel own H X w d v -> ∃ own',Sim own' H' X w /\ Rel own' H' X w d' v /\ ExtN n0 X own H w own' H' w
def Weak.refl (n0:Nat) (H:Heap) (d:D):Weak n0 H d H d:=fun own X w v hn hs hr=>⟨own,hs,hr,.of_ext hn (.refl _ _ _)⟩
section
variable {P:Program} {f:FuncId} {N n0:Nat} {R:D -> Heap -> Prop} {K:List Item} {e:Env} {H:Heap}
def fin_end {fn:Func} {rs:List ResultVar} {ds:List D} {d':D} {H':Heap} (hf:P.funcs[f]? = some fn) (hr:fn.results = rs.toArray) (h:aRes P e H rs = some ds) (hw:Weak n0 H (retD ds) H' d') (hR:R d' H')
  {own X w tmps cs m todo} (hn:n0 <= H.length) (hs:Sim own H X w) (he:EnvRel own H X w tmps e) (hm:Steps P m (lone { (frameOf f).at ⟨tmps,[]⟩ todo with mode:=.returning } cs w)):Fin P f n0 R X own H w m cs:=by
 obtain ⟨v,h1,h2⟩:=results_sound hr hs he h
 obtain ⟨own',h3,h4,h5⟩:=hw own X w v hn hs h2
 exact ⟨own',w,d',H',v,_,hm,rfl,⟨rfl,rfl,rfl,fn,hf,h1⟩,h3,h4,hR,h5⟩
def zBk {fn:Func} {rs:List ResultVar} {ds:List D} {d':D} {H':Heap} (hf:P.funcs[f]? = some fn) (hr:fn.results = rs.toArray) (h:aRes P e H rs = some ds) (hw:Weak n0 H (retD ds) H' d') (hR:R d' H') :
 Run P f N n0 R (.code .ret :: K) e H:=fun hn own X w tmps cs hN hs he=>fin_end hf hr h hw hR hn hs he (.one step_ret)
def run_end {fn:Func} {rs:List ResultVar} {ds:List D} {d':D} {H':Heap} (hf:P.funcs[f]? = some fn) (hr:fn.results = rs.toArray) (h:aRes P e H rs = some ds) (hw:Weak n0 H (retD ds) H' d') (hR:R d' H') :
 Run P f N n0 R [] e H:=fun hn own X w tmps cs hN hs he=>fin_end hf hr h hw hR hn hs he (.one step_end)
end
def frz (H:Heap):Nat -> D -> Option D
 | _,.v x=>some (.v x)
 | _,.fz k xs=>some (.fz k xs)
 | _,.fp k xs i o=>some (.fp k xs i o)
 | n + 1,.agg cs=>(cs.mapM (frz H n)).map .agg
 | n + 1,.tup cs=>(cs.mapM (frz H n)).map .tup
 | n + 1,.ifc t d=>(frz H n d).map (.ifc t ·)
 | n + 1,.fn f fs cs=>(fs.mapM (frz H n)).bind fun fs'=>(cs.mapM (frz H n)).map fun cs'=>.fn f fs' cs'
 | n + 1,.sl r i m=>match H.get r with
  | some (.cells k xs)=>if i + m <= xs.length then (((xs.drop i).take m).mapM (frz H n)).map (.fz k) else none
  | _=>none
 | n + 1,.slc r i m _=>match H.get r with
  | some (.cells k xs)=>if i + m <= xs.length then (((xs.drop i).take m).mapM (frz H n)).map (.fz k) else none
  | _=>none
 | _,_=>none
section
variable {own:Nat -> Own} {U U':Nat -> Prop} {w:World} {n:Nat} {H:Heap}
def mapM_cons_some {α β:Type} {g:α -> Option β} {x:α} {l:List α} {r:List β} (h:(x :: l).mapM g = some r):∃ y ys,g x = some y /\ l.mapM g = some ys /\ r = y :: ys:=by
 simp only [List.mapM_cons,Option.bind_eq_bind,yAn] at h
 obtain ⟨y,h1,ys,h2,h3⟩:=h
 simp at h3
 exact ⟨y,ys,h1,h2,h3.symm⟩
def frz_sound (hU:∀ b,U b -> U' b) (hrow:∀ r row,H.get r = some row -> RowOk own n U w (own r) row /\ U' (own r).b):∀ (fuel:Nat) (d d':D),frz H fuel d = some d' ->
  (∀ v,VRel own U w n d v -> VRel own U' w 0 d' v) /\ d'.one = d.one /\ d'.width = d.width /\ (∀ k b off,Elem own U w n k d b off -> Elem own U' w 0 k d' b off):=by
 have hk0:Keeps own 0 U w own 0 U' w:=⟨yAJ _,fun _ h=>absurd h (yAr _),hU,fun _ _ _=>rfl⟩
 have cell:∀ (d d':D),(∀ v,VRel own U w n d v -> VRel own U' w 0 d' v) -> d'.one = d.one -> (d.cells = [d]) -> (d'.cells = [d']) -> (∀ k b off,Elem own U w n k d b off -> Elem own U' w 0 k d' b off):=by
  intro d d' h1 h2 h3 h4 k b off h
  rw [zCe,h3] at h
  rw [zCe,h4]
  obtain ⟨h5,h6⟩:=h
  refine ⟨h5,?_⟩
  simp only [Flat] at h6 ⊢
  obtain ⟨h7,⟨x,h8,h9⟩,_⟩:=h6
  exact ⟨h2 ▸ h7,⟨x,h8,h1 x h9⟩,trivial⟩
 intro fuel
 induction fuel with
 | zero =>
  intro d d' h
  cases d <;> simp only [frz,reduceCtorEq,yAH] at h
  case v x =>
   subst h
   have g:∀ v,VRel own U w n (.v x) v -> VRel own U' w 0 (.v x) v:=fun v hv=>by rw [VRel] at hv ⊢;exact hv
   exact ⟨g,rfl,rfl,cell _ _ g rfl rfl rfl⟩
  case fz k xs =>
   subst h
   have g:∀ v,VRel own U w n (.fz k xs) v -> VRel own U' w 0 (.fz k xs) v:=fun v hv=>by
    rw [VRel] at hv ⊢;obtain ⟨a,c,h1,h2,h3⟩:=hv
    exact ⟨a,c,h1,h2,fun h0=>by obtain ⟨b,off,h4,h5,h6⟩:=h3 h0;exact ⟨b,off,h4,hU b h5,Cells.mono hk0 k xs b off (fun _=>rfl) h6⟩⟩
   exact ⟨g,rfl,rfl,cell _ _ g rfl rfl rfl⟩
  case fp k xs i o =>
   subst h
   have g:∀ v,VRel own U w n (.fp k xs i o) v -> VRel own U' w 0 (.fp k xs i o) v:=fun v hv=>by
    rw [VRel] at hv ⊢;obtain ⟨b,off,h4,h5,h6⟩:=hv;exact ⟨b,off,h4,hU b h5,Cells.mono hk0 k xs b off (fun _=>rfl) h6⟩
   exact ⟨g,rfl,rfl,cell _ _ g rfl rfl rfl⟩
 | succ fuel ih =>
  have lists:∀ (ds ds':List D),ds.mapM (frz H fuel) = some ds' -> (∀ vs,VRels own U w n ds vs -> VRels own U' w 0 ds' vs) /\ ds'.length = ds.length /\ (ds.all D.one = true -> ds'.all D.one = true) /\ ((∀ k b off,Cells own U w n k ds b off -> Cells own U' w 0 k ds' b off)):=by
   intro ds
   induction ds with
   | nil=>intro ds' h;simp at h;subst h;simp [VRels,Cells]
   | cons d ds ihl =>
    intro ds' h
    obtain ⟨y,ys,h1,h2,rfl⟩:=mapM_cons_some h
    obtain ⟨g1,g2,g3,g4⟩:=ih d y h1
    obtain ⟨k1,k2,k3,k4⟩:=ihl ys h2
    refine ⟨fun vs hv=>?_,by simp [k2],fun ha=>?_,fun k b off hc=>?_⟩
    ·rw [VRels] at hv ⊢;obtain ⟨x,xs,h5,h6,h7⟩:=hv;exact ⟨x,xs,h5,g1 x h6,k1 xs h7⟩
    ·simp only [yBZ,yAB] at ha ⊢;exact ⟨g2 ▸ ha.1,k3 ha.2⟩
    ·rw [Cells] at hc ⊢;exact ⟨g4 _ _ _ hc.1,k4 _ _ _ hc.2⟩
  intro d d' h
  cases d <;> simp only [frz,reduceCtorEq,yAH,yAb,yAn] at h
  case v x =>
   subst h
   have g:∀ v,VRel own U w n (.v x) v -> VRel own U' w 0 (.v x) v:=fun v hv=>by rw [VRel] at hv ⊢;exact hv
   exact ⟨g,rfl,rfl,cell _ _ g rfl rfl rfl⟩
  case agg cs =>
   obtain ⟨cs',h1,rfl⟩:=h
   obtain ⟨k1,k2,k3,k4⟩:=lists cs cs' h1
   refine ⟨fun v hv=>by rw [VRel] at hv ⊢;obtain ⟨vs,h5,h6⟩:=hv;exact ⟨vs,h5,k1 vs h6⟩,rfl,by simp [D.width,k2],fun k b off he=>?_⟩
   rw [Elem] at he ⊢
   refine ⟨by rw [k2];exact he.1,?_⟩
   obtain ⟨a1,vs,a2,a3⟩:=Flat_values.1 he.2
   exact Flat_values.2 ⟨k3 a1,vs,k1 vs a2,a3⟩
  case tup cs =>
   obtain ⟨cs',h1,rfl⟩:=h
   obtain ⟨k1,k2,k3,k4⟩:=lists cs cs' h1
   have g:∀ v,VRel own U w n (.tup cs) v -> VRel own U' w 0 (.tup cs') v:=fun v hv=>by rw [VRel] at hv ⊢;obtain ⟨vs,h5,h6⟩:=hv;exact ⟨vs,h5,k1 vs h6⟩
   exact ⟨g,rfl,rfl,cell _ _ g rfl rfl rfl⟩
  case fz k xs =>
   subst h
   have g:∀ v,VRel own U w n (.fz k xs) v -> VRel own U' w 0 (.fz k xs) v:=fun v hv=>by
    rw [VRel] at hv ⊢;obtain ⟨a,c,h1,h2,h3⟩:=hv
    exact ⟨a,c,h1,h2,fun h0=>by obtain ⟨b,off,h4,h5,h6⟩:=h3 h0;exact ⟨b,off,h4,hU b h5,Cells.mono hk0 k xs b off (fun _=>rfl) h6⟩⟩
   exact ⟨g,rfl,rfl,cell _ _ g rfl rfl rfl⟩
  case fp k xs i o =>
   subst h
   have g:∀ v,VRel own U w n (.fp k xs i o) v -> VRel own U' w 0 (.fp k xs i o) v:=fun v hv=>by
    rw [VRel] at hv ⊢;obtain ⟨b,off,h4,h5,h6⟩:=hv;exact ⟨b,off,h4,hU b h5,Cells.mono hk0 k xs b off (fun _=>rfl) h6⟩
   exact ⟨g,rfl,rfl,cell _ _ g rfl rfl rfl⟩
  case sl r i m =>
   split at h
   rotate_left
   ·simp at h
   rename_i k xs hg
   split at h
   rotate_left
   ·simp at h
   rename_i hle
   simp only [yAb] at h
   obtain ⟨ys,h1,rfl⟩:=h
   obtain ⟨k1,k2,k3,k4⟩:=lists _ ys h1
   have hyl:ys.length = m:=by rw [k2];simp;omega
   have g:∀ v,VRel own U w n (.sl r i m) v -> VRel own U' w 0 (.fz k ys) v:=fun v hv=>by
    rw [VRel] at hv;rw [VRel];obtain ⟨hr,off,c,h2,h3,h4⟩:=hv
    obtain ⟨⟨rfl,cc,ty,h5,h6,h7,h8⟩,h9⟩:=hrow r _ hg
    refine ⟨_,c,by rw [hyl];exact h2,by omega,fun h0=>?_⟩
    obtain ⟨e1,_⟩:=h4 (by omega)
    subst e1
    exact ⟨_,_,rfl,h9,k4 _ _ _ (Cells_mid h8 hle)⟩
   exact ⟨g,rfl,rfl,cell _ _ g rfl rfl rfl⟩
  case slc r i m c0 =>
   split at h
   rotate_left
   ·simp at h
   rename_i k xs hg
   split at h
   rotate_left
   ·simp at h
   rename_i hle
   simp only [yAb] at h
   obtain ⟨ys,h1,rfl⟩:=h
   obtain ⟨k1,k2,k3,k4⟩:=lists _ ys h1
   have hyl:ys.length = m:=by rw [k2];simp;omega
   have g:∀ v,VRel own U w n (.slc r i m c0) v -> VRel own U' w 0 (.fz k ys) v:=fun v hv=>by
    rw [VRel] at hv;rw [VRel];obtain ⟨hr,off,h2,h3,h4⟩:=hv
    obtain ⟨⟨rfl,cc,ty,h5,h6,h7,h8⟩,h9⟩:=hrow r _ hg
    refine ⟨_,c0,by rw [hyl];exact h2,by omega,fun h0=>?_⟩
    obtain ⟨e1,_⟩:=h4 (by omega)
    subst e1
    exact ⟨_,_,rfl,h9,k4 _ _ _ (Cells_mid h8 hle)⟩
   exact ⟨g,rfl,rfl,cell _ _ g rfl rfl rfl⟩
  case fn f fs cs =>
   obtain ⟨fs',h1,cs',h2,rfl⟩:=h
   obtain ⟨k1,_⟩:=lists fs fs' h1
   obtain ⟨k2,_⟩:=lists cs cs' h2
   have g:∀ v,VRel own U w n (.fn f fs cs) v -> VRel own U' w 0 (.fn f fs' cs') v:=fun v hv=>by rw [VRel] at hv ⊢;obtain ⟨vs,us,h5,h6,h7⟩:=hv;exact ⟨vs,us,h5,k1 vs h6,k2 us h7⟩
   exact ⟨g,rfl,rfl,cell _ _ g rfl rfl rfl⟩
  case ifc t x =>
   obtain ⟨x',h1,rfl⟩:=h
   have g:∀ v,VRel own U w n (.ifc t x) v -> VRel own U' w 0 (.ifc t x') v:=fun v hv=>by rw [VRel] at hv ⊢;obtain ⟨y,h5,h6⟩:=hv;exact ⟨y,h5,(ih x x' h1).1 y h6⟩
   exact ⟨g,rfl,rfl,cell _ _ g rfl rfl rfl⟩
end
def Sim.nil {own X} {w:World} (h:∀ b,X b -> b < w.heap.size):Sim own [] X w:=⟨fun r row h=>by simp [Heap.get] at h,fun r r' _ _ h=>by simp [Heap.get] at h,h⟩
def unowned_nil {own X w b}:zAQ own [] X w b ↔ b < w.heap.size /\ ¬ X b:=by
 unfold zAQ;simp [Heap.get]
def weak_frz {H:Heap} {d d':D} {fuel:Nat} (h:frz H fuel d = some d'):Weak 0 H d [] d':=by
 intro own X w v hn hs hr
 refine ⟨own,Sim.nil hs.hid,?_,⟨yAJ _,yAJ _,fun _ h=>absurd h (yAr _),fun b hb=>⟨unowned_nil.2 ⟨hb.1,hb.2.1⟩,rfl⟩,fun _ _=>rfl,.refl _⟩⟩
 exact (frz_sound (U':=zAQ own [] X w) (fun b hb=>unowned_nil.2 ⟨hb.1,hb.2.1⟩) (fun r row hg=>⟨(hs.live r row hg).1,unowned_nil.2 ⟨(hs.live r row hg).1.lt,(hs.live r row hg).2⟩⟩) fuel d d' h).1 v hr
mutual
def D.noref:D -> Bool
 | .v _=>true
 | .fz _ _=>true
 | .fp _ _ _ _=>true
 | .agg cs=>zAg cs
 | .tup cs=>zAg cs
 | .fn _ fs cs=>zAg fs && zAg cs
 | .ifc _ d=>d.noref
 | .any=>true
 | _=>false
termination_by d=>SizeOf.sizeOf d
def zAg:List D -> Bool
 | []=>true
 | d :: ds=>d.noref && zAg ds
termination_by ds=>SizeOf.sizeOf ds
end
section
variable {own own':Nat -> Own} {U:Nat -> Prop} {w:World} {n:Nat}
mutual
def VRel_noref:∀ (d:D) (v:Value),d.noref = true -> VRel own U w n d v -> VRel own U w 0 d v
 | .v x,v,_,h=>by rw [VRel] at h ⊢;exact h
 | .fz k xs,v,_,h=>by rw [VRel] at h ⊢;exact h
 | .fp k xs i o,v,_,h=>by rw [VRel] at h ⊢;exact h
 | .agg cs,v,hn,h=>by rw [D.noref] at hn;rw [VRel] at h ⊢;obtain ⟨vs,h1,h2⟩:=h;exact ⟨vs,h1,zCT cs vs hn h2⟩
 | .tup cs,v,hn,h=>by rw [D.noref] at hn;rw [VRel] at h ⊢;obtain ⟨vs,h1,h2⟩:=h;exact ⟨vs,h1,zCT cs vs hn h2⟩
 | .fn f fs cs,v,hn,h=>by
  rw [D.noref,yAB] at hn;rw [VRel] at h ⊢;obtain ⟨vs,us,h1,h2,h3⟩:=h
  exact ⟨vs,us,h1,zCT fs vs hn.1 h2,zCT cs us hn.2 h3⟩
 | .ifc t d,v,hn,h=>by rw [D.noref] at hn;rw [VRel] at h ⊢;obtain ⟨x,h1,h2⟩:=h;exact ⟨x,h1,VRel_noref d x hn h2⟩
 | .sl r i m,v,hn,h=>by simp [D.noref] at hn
 | .slc r i m c,v,hn,h=>by simp [D.noref] at hn
 | .pt r i o,v,hn,h=>by simp [D.noref] at hn
 | .mp r,v,hn,h=>by simp [D.noref] at hn
 | .any,v,hn,h=>by rw [VRel];trivial
termination_by d=>SizeOf.sizeOf d
def zCT:∀ (ds:List D) (vs:List Value),zAg ds = true -> VRels own U w n ds vs -> VRels own U w 0 ds vs
 | [],vs,_,h=>by rw [VRels] at h ⊢;exact h
 | d :: ds,vs,hn,h=>by
  rw [zAg,yAB] at hn;rw [VRels] at h ⊢;obtain ⟨x,xs,h1,h2,h3⟩:=h
  exact ⟨x,xs,h1,VRel_noref d x hn.1 h2,zCT ds xs hn.2 h3⟩
termination_by ds=>SizeOf.sizeOf ds
end
end
def Pure (P:Program) (f:FuncId) (ds:List D) (R:D -> Prop):Prop:=Sound P f ds [] fun d H'=>H' = [] /\ R d
def Pure.mono {P f ds R R'} (h:Pure P f ds R) (hr:∀ d,R d -> R' d):Pure P f ds R':=Sound.mono h fun d H' h'=>⟨h'.1,hr d h'.2⟩
def Sim.outlives {own own':Nat -> Own} {H:Heap} {X X':Nat -> Prop} {w w':World} (hs:Sim own H X w) (hX:∀ b,X b -> X' b) (hsub:∀ b,b < w.heap.size -> w'.heap[b]? = w.heap[b]?) (hsz:w.heap.size <= w'.heap.size) (st:SameW w w') :
  Sim own H X w' /\ Ext X own H w own H w':=by
 have hext:Ext X own H w own H w':=⟨hsz,yAJ _,fun _ _=>rfl,fun b hb=>⟨⟨yAd hb.1 hsz,hb.2⟩,hsub b hb.1⟩,fun b hb=>hsub b (hs.hid b hb),st⟩
 exact ⟨⟨fun r row hg=>⟨RowOk.mono hext.keeps (hsub _ (hs.live r row hg).1.lt) (hs.live r row hg).1,(hs.live r row hg).2⟩,hs.excl,fun b hb=>yAd (hs.hid b hb) hsz⟩,hext⟩
def Pure.frame {P:Program} {f:FuncId} {ds:List D} {R:D -> Prop} (h:Pure P f ds R) (hn:zAg ds = true) (H:Heap):SoundK P f ds H fun d H'=>H' = H /\ R d:=by
 refine ⟨h.1,fun own X w vs hs hv=>?_⟩
 let X':Nat -> Prop:=fun b=>X b \/ ∃ r row,H.get r = some row /\ (own r).b = b
 have hX':∀ b,X' b -> b < w.heap.size:=fun b hb=>by
  rcases hb with hb | ⟨r,row,h1,rfl⟩
  ·exact hs.hid b hb
  ·exact (hs.live r row h1).1.lt
 have hU:∀ b,zAQ own H X w b ↔ zAQ own [] X' w b:=fun b=>by
  rw [unowned_nil]
  constructor
  ·rintro ⟨h1,h2,h3⟩;exact ⟨h1,fun hx=>by rcases hx with hx | ⟨r,row,h4,h5⟩;exact h2 hx;exact h3 r row h4 h5⟩
  ·rintro ⟨h1,h2⟩;exact ⟨h1,fun hx=>h2 (.inl hx),fun r row h4 h5=>h2 (.inr ⟨r,row,h4,h5⟩)⟩
 have hv0:zCL own [] X' w ds vs:=VRels.mono ⟨yAJ _,fun _ h=>absurd h (yAr _),fun b hb=>(hU b).1 hb,fun _ _ _=>rfl⟩ ds vs (zCT ds vs hn hv)
 refine Calls.mono (h.2 own X' w vs (Sim.nil hX') hv0) fun e w' hh=>?_
 obtain ⟨own',d,H',v,rfl,h1,h2,h3,rfl,h4⟩:=hh
 have hold:∀ b,b < w.heap.size -> w'.heap[b]? = w.heap[b]?:=fun b hb=>by
  by_cases hx:X' b
  ·exact h3.hx b hx
  ·exact (h3.hb b (unowned_nil.2 ⟨hb,hx⟩)).2
 obtain ⟨h5,h6⟩:=Sim.outlives (own':=own) (X':=X') hs (fun b hb=>.inl hb) hold h3.size h3.st
 refine ⟨own,d,H,v,rfl,h5,?_,⟨h6,hold⟩,rfl,h4⟩
 refine VRel.mono ⟨Nat.zero_le _,fun _ h=>absurd h (yAr _),fun b hb=>?_,fun _ _ _=>rfl⟩ d v h2
 obtain ⟨g1,g2⟩:=unowned_nil.1 hb
 refine ⟨g1,fun hx=>g2 (.inl hx),fun r row h4 h5=>g2 (.inr ⟨r,row,h4,h5⟩)⟩
mutual
def D.under (n:Nat):D -> Bool
 | .v _=>true
 | .fz _ _=>true
 | .fp _ _ _ _=>true
 | .any=>true
 | .agg cs=>unders n cs
 | .tup cs=>unders n cs
 | .fn _ fs cs=>unders n fs && unders n cs
 | .ifc _ d=>d.under n
 | .sl r _ _=>decide (r < n)
 | .slc r _ _ _=>decide (r < n)
 | .pt r _ _=>decide (r < n)
 | .mp r=>decide (r < n)
termination_by d=>SizeOf.sizeOf d
def unders (n:Nat):List D -> Bool
 | []=>true
 | d :: ds=>d.under n && unders n ds
termination_by ds=>SizeOf.sizeOf ds
end
section
variable {own:Nat -> Own} {U:Nat -> Prop} {w:World} {n m:Nat}
mutual
def VRel_below:∀ (d:D) (v:Value),d.under m = true -> VRel own U w n d v -> VRel own U w m d v
 | .v x,v,_,h=>by rw [VRel] at h ⊢;exact h
 | .fz k xs,v,_,h=>by rw [VRel] at h ⊢;exact h
 | .fp k xs i o,v,_,h=>by rw [VRel] at h ⊢;exact h
 | .any,v,_,h=>by rw [VRel];trivial
 | .agg cs,v,hn,h=>by rw [D.under] at hn;rw [VRel] at h ⊢;obtain ⟨vs,h1,h2⟩:=h;exact ⟨vs,h1,zDN cs vs hn h2⟩
 | .tup cs,v,hn,h=>by rw [D.under] at hn;rw [VRel] at h ⊢;obtain ⟨vs,h1,h2⟩:=h;exact ⟨vs,h1,zDN cs vs hn h2⟩
 | .fn f fs cs,v,hn,h=>by
  rw [D.under,yAB] at hn;rw [VRel] at h ⊢;obtain ⟨vs,us,h1,h2,h3⟩:=h
  exact ⟨vs,us,h1,zDN fs vs hn.1 h2,zDN cs us hn.2 h3⟩
 | .ifc t d,v,hn,h=>by rw [D.under] at hn;rw [VRel] at h ⊢;obtain ⟨x,h1,h2⟩:=h;exact ⟨x,h1,VRel_below d x hn h2⟩
 | .sl r i k,v,hn,h=>by rw [D.under,decide_eq_true_eq] at hn;rw [VRel] at h ⊢;exact ⟨hn,h.2⟩
 | .slc r i k c,v,hn,h=>by rw [D.under,decide_eq_true_eq] at hn;rw [VRel] at h ⊢;exact ⟨hn,h.2⟩
 | .pt r i o,v,hn,h=>by rw [D.under,decide_eq_true_eq] at hn;rw [VRel] at h ⊢;exact ⟨hn,h.2⟩
 | .mp r,v,hn,h=>by rw [D.under,decide_eq_true_eq] at hn;rw [VRel] at h ⊢;exact ⟨hn,h.2⟩
termination_by d=>SizeOf.sizeOf d
def zDN:∀ (ds:List D) (vs:List Value),unders m ds = true -> VRels own U w n ds vs -> VRels own U w m ds vs
 | [],vs,_,h=>by rw [VRels] at h ⊢;exact h
 | d :: ds,vs,hn,h=>by
  rw [unders,yAB] at hn;rw [VRels] at h ⊢;obtain ⟨x,xs,h1,h2,h3⟩:=h
  exact ⟨x,xs,h1,VRel_below d x hn.1 h2,zDN ds xs hn.2 h3⟩
termination_by ds=>SizeOf.sizeOf ds
end
def unders_all:∀ (ds:List D),unders m ds = true ↔ ∀ d ∈ ds,d.under m = true
 | []=>by simp [unders]
 | d :: ds=>by rw [unders,yAB,unders_all ds];simp
def Flat_below {ds:List D} (h:∀ d ∈ ds,d.under m = true) {b off:Nat} (hf:Flat own U w n ds b off):Flat own U w m ds b off:=by
 obtain ⟨h0,vs,h1,h2⟩:=Flat_values.1 hf
 exact Flat_values.2 ⟨h0,vs,zDN ds vs ((unders_all ds).2 h) h1,h2⟩
def Cells_below {k:Nat} {xs:List D} (h:unders m xs = true) {b off:Nat} (hf:Cells own U w n k xs b off):Cells own U w m k xs b off:=by
 obtain ⟨h0,h1⟩:=Cells_flat.1 hf
 refine Cells_flat.2 ⟨h0,Flat_below (fun d hd=>?_) h1⟩
 obtain ⟨x,hx,hdx⟩:=List.mem_flatMap.1 hd
 have hxb:=(unders_all xs).1 h x hx
 cases x <;> simp only [D.cells,yAm] at hdx
 case agg cs=>rw [D.under] at hxb;exact (unders_all cs).1 hxb d hdx
 all_goals (subst hdx;exact hxb)
end
def Row.under (n:Nat):Row -> Bool
 | .cells _ xs=>unders n xs
 | .mp es _=>unders n (es.map (·.2.2))
 | .it m _ _ _=>decide (m < n)
 | .sit _ _=>true
 | .bx d=>d.under n
def RowOk.under {own:Nat -> Own} {U:Nat -> Prop} {w:World} {n m:Nat} {o:Own} {row:Row} (hb:row.under m = true) (h:RowOk own n U w o row):RowOk own m U w o row:=by
 cases row with
 | cells k xs=>obtain ⟨h1,c,t,h2,h3,h4,h5⟩:=h;exact ⟨h1,c,t,h2,h3,h4,Cells_below hb h5⟩
 | mp es cl=>obtain ⟨en,h1,h2,h3⟩:=h;exact ⟨en,h1,h2,zDN _ _ hb h3⟩
 | it m0 since seen last=>obtain ⟨h1,h2,h3⟩:=h;exact ⟨by simpa [Row.under] using hb,h2,h3⟩
 | sit s pos=>exact h
 | bx d=>obtain ⟨h1,x,t,h2,h3⟩:=h;exact ⟨h1,x,t,h2,VRel_below _ _ hb h3⟩
def envL (l:List (Nat × D)):Env:=fun i=>((l.find? fun p=>p.1 == i).map (·.2)).getD .any
def D.flat:D -> Bool
 | .v _=>true
 | .agg cs=>cs.all fun | .v _=>true | _=>false
 | .tup cs=>cs.all fun | .v _=>true | _=>false
 | _=>false
end Go.Ab
namespace Go.Ab
variable [Go.Ab.DM]
section
variable {P:Program} {ops:Array Oper} {Q:Exit -> Act -> World -> Prop} {md:Region.Mode}
def waits (md:Region.Mode) (ops:Array Oper):Nat -> Nat -> Nat -> Bool
 | 0,_,_=>false
 | n + 1,i,t=>match ops[i]? with
  | some o=>(o.after.any fun e=>Region.binds md e && e.on == t) || (o.after.any fun e=>Region.binds md e && waits md ops n e.on t)
  | none=>false
def covers (md:Region.Mode) (ops:Array Oper) (pend:List Nat) (i:Nat):Bool:=pend.all fun t=>waits md ops 9 i t
def Closed (md:Region.Mode) (ops:Array Oper) (listed:Array Bool):Prop:=∀ j oj,ops[j]? = some oj -> listed.getD j false = true -> ∀ e ∈ oj.after,Region.binds md e = true -> listed.getD e.on false = true
def waits_listed {listed:Array Bool} (hcl:Closed md ops listed) {t:Nat}:∀ (n i:Nat) (o:Oper),ops[i]? = some o -> (∀ e ∈ o.after,Region.binds md e = true -> listed.getD e.on false = true) -> waits md ops n i t = true -> listed.getD t false = true
 | 0,i,o,_,_,h=>by cases h
 | n + 1,i,o,ho,hall,h=>by
  simp only [waits,ho,Bool.or_eq_true] at h
  rcases h with h | h
  ·rw [Array.any_eq_true] at h
   obtain ⟨k,hk,hb⟩:=h
   simp only [yAB,beq_iff_eq] at hb
   have h1:=hall o.after[k] (Array.getElem_mem hk) hb.1
   rw [hb.2] at h1;exact h1
  ·rw [Array.any_eq_true] at h
   obtain ⟨k,hk,hb⟩:=h
   simp only [yAB] at hb
   have h1:=hall o.after[k] (Array.getElem_mem hk) hb.1
   cases ho':ops[o.after[k].on]? with
   | none =>
    have h2:=hb.2
    cases n with
    | zero=>cases h2
    | succ n=>simp [waits,ho'] at h2
   | some o'=>exact waits_listed hcl n _ o' ho' (fun e he hbi=>hcl _ o' ho' h1 e he hbi) hb.2
def getD_mono {L:Array Bool} {i j:Nat} (h:L.getD j false = true):(L.setIfInBounds i true).getD j false = true:=by
 by_cases hij:i = j
 ·subst hij
  rcases yAZ i L.size with h' | h'
  ·simp [Array.getD,h']
  ·simp [Array.getD,Nat.not_lt.2 h'] at h
 ·rw [getD_set_ne false hij];exact h
def Closed.add {L:Array Bool} {i:Nat} (h:Closed md ops L) (hi:i ∈ Region.ready md ops L):Closed md ops (L.setIfInBounds i true):=fun j oj hj hl e he hb=>by
 refine getD_mono ?_
 by_cases hij:i = j
 ·subst hij
  obtain ⟨_,o,ho,hall⟩:=mem_ready.1 hi
  rw [hj] at ho
  have:=yAA ho;subst this
  exact hall e he hb
 ·rw [getD_set_ne false hij] at hl
  exact h j oj hj hl e he hb
def Closed.start (n:Nat):Closed md ops (Array.replicate n false):=fun j oj _ hl=>by
 exfalso
 rw [Array.getD_eq_getD_getElem?,Array.getElem?_replicate] at hl
 split at hl <;> cases hl
def anyP (P:Program) (md:Region.Mode) (ops:Array Oper) (Q:Exit -> Act -> World -> Prop) (pend:List Nat) (S:World -> Prop):Nat -> Array Bool -> Act -> World -> Prop
 | 0,listed,a,w=>Region.ready md ops listed = [] /\ Q .normal a w
 | fuel + 1,listed,a,w=>(Region.ready md ops listed = [] -> Q .normal a w) /\
  ∀ i ∈ Region.ready md ops listed,wpOp P ops Q i (fun a' w'=>(S w' /\ anyP P md ops Q pend S fuel (listed.setIfInBounds i true) a' w') \/ (covers md ops pend i = true /\ wpAny P md ops Q fuel (listed.setIfInBounds i true) a' w')) a w
def zBy {pend:List Nat} {S:World -> Prop}:∀ (fuel:Nat) (listed:Array Bool) (a:Act) (w:World),anyP P md ops Q pend S fuel listed a w -> wpAny P md ops Q fuel listed a w
 | 0,_,_,_,h=>h
 | fuel + 1,_,_,_,h=>⟨h.1,fun i hi=>wpOp_mono (fun a' w' h'=>by rcases h' with h' | h';exact zBy fuel _ a' w' h'.2;exact h'.2) (h.2 i hi)⟩
def anyP_mono {pend pend':List Nat} {S S':World -> Prop} (hp:∀ t ∈ pend,t ∈ pend') (hS:∀ w,S' w -> S w):∀ (fuel:Nat) (listed:Array Bool) (a:Act) (w:World),anyP P md ops Q pend' S' fuel listed a w -> anyP P md ops Q pend S fuel listed a w
 | 0,_,_,_,h=>h
 | fuel + 1,_,_,_,h=>⟨h.1,fun i hi=>wpOp_mono (fun a' w' h'=>by
     rcases h' with h' | ⟨h1,h2⟩
     ·exact .inl ⟨hS _ h'.1,anyP_mono hp hS fuel _ a' w' h'.2⟩
     ·refine .inr ⟨?_,h2⟩
      unfold covers at h1 ⊢
      rw [yAR] at h1 ⊢;exact fun t ht=>h1 t (hp t ht)) (h.2 i hi)⟩
def not_covers {pend:List Nat} {i j:Nat} {listed:Array Bool} (hcl:Closed md ops listed) (hi:i ∈ pend) (hj:j ∈ Region.ready md ops listed) (hun:i ∈ Region.ready md ops listed):covers md ops pend j = false:=by
 obtain ⟨hjun,oj,hoj,hall⟩:=mem_ready.1 hj
 unfold covers
 rw [Bool.eq_false_iff]
 intro h
 rw [yAR] at h
 have h1:=waits_listed hcl 9 j oj hoj hall (h i hi)
 have h0:=(mem_ready.1 hun).1
 rcases yAZ i listed.size with h' | h'
 ·simp [h'] at h0 h1;rw [h0] at h1;cases h1
 ·simp [yAz h'] at h1
def anyP_first {i:Nat} {oi:Oper} {v:Value} {pend:List Nat} {S T:World -> Prop} (hi:ops[i]? = some oi) (hsel:Region.noSelect ops = true)
  (hQ:∀ c a w,Q (.panic c) (a.put oi.dst v) w -> Q (.panic c) a w) (hT:(∀ w,T w) \/ (T = S /\ i ∈ pend)) :
  ∀ (fuel:Nat) (listed:Array Bool) (a:Act) (w:World),Closed md ops listed -> Region.free md ops listed i = true -> i ∈ Region.ready md ops listed -> YieldsIf P ops T oi v a -> T w -> S w ->
   anyP P md ops Q pend S fuel (listed.setIfInBounds i true) (a.put oi.dst v) w -> anyP P md ops Q pend S (fuel + 1) listed a w:=by
 have main:∀ (fuel:Nat) (listed:Array Bool) (a:Act) (w:World),Closed md ops listed ->
     (∀ j oj,ops[j]? = some oj -> j ≠ i -> listed.getD j true = false -> (∀ e ∈ oj.after,Region.binds md e = true -> e.on ≠ i) -> oi.apart ops oj = true) ->
     i ∈ Region.ready md ops listed -> YieldsIf P ops T oi v a -> T w -> S w ->
     anyP P md ops Q pend S fuel (listed.setIfInBounds i true) (a.put oi.dst v) w -> anyP P md ops Q pend S (fuel + 1) listed a w:=by
  intro fuel
  induction fuel with
  | zero =>
   intro listed a w hcl _ hr hy hTw hSw H
   refine ⟨fun h=>(by rw [h] at hr;cases hr),fun j hj=>?_⟩
   by_cases hji:j = i
   ·subst hji;exact hy.wpOp hi hTw (.inl ⟨hSw,H⟩)
   ·have:=ready_mono hj hji
    rw [H.1] at this;cases this
  | succ fuel ih =>
   intro listed a w hcl hfree hr hy hTw hSw H
   refine ⟨fun h=>(by rw [h] at hr;cases hr),fun j hj=>?_⟩
   by_cases hji:j = i
   ·subst hji;exact hy.wpOp hi hTw (.inl ⟨hSw,H⟩)
   ·have h1:=H.2 j (ready_mono hj hji)
    obtain ⟨hjun,oj,hoj,hall⟩:=mem_ready.1 hj
    have hnot:∀ e ∈ oj.after,Region.binds md e = true -> e.on ≠ i:=fun e he hb heq=>by
     have h1:=hall e he hb
     have h0:=(mem_ready.1 hr).1
     rw [heq] at h1
     rcases yAZ i listed.size with h' | h'
     ·simp [h'] at h0 h1;rw [h0] at h1;cases h1
     ·simp [yAz h'] at h1
    have h2:=wpOp_putIf hoj (hfree j oj hoj hji hjun hnot) (fun cs b=>Region.noSelect_spec hsel i oi cs b hi) (fun cs b=>Region.noSelect_spec hsel j oj cs b hoj) hQ hy h1
    have hfree':∀ k ok,ops[k]? = some ok -> k ≠ i -> (listed.setIfInBounds j true).getD k true = false ->
        (∀ e ∈ ok.after,Region.binds md e = true -> e.on ≠ i) -> oi.apart ops ok = true:=fun k ok hk hki hun hno=>by
     refine hfree k ok hk hki ?_ hno
     by_cases hjk:j = k
     ·subst hjk;exact hjun
     ·rw [getD_set_ne true hjk] at hun;exact hun
    have hr':=ready_mono hr (Ne.symm hji)
    refine wpOp_mono (fun a' w' h3=>?_) h2
    rw [Array.setIfInBounds_comm _ _ (Ne.symm hji)] at h3
    obtain ⟨hy',h3⟩:=h3
    rcases h3 with ⟨h4,h5⟩ | ⟨h4,h5⟩
    ·left
     refine ⟨h4,ih _ a' w' (hcl.add hj) hfree' hr' hy' ?_ h4 h5⟩
     rcases hT with hT | ⟨rfl,_⟩
     ·exact hT w'
     ·exact h4
    ·rcases hT with hT | ⟨rfl,hip⟩
     ·right
      refine ⟨h4,?_⟩
      have hy'':Yields P ops oi v a':=hy'.imp (fun ⟨hw,hv⟩=>⟨hw,fun w=>hv w (hT w)⟩) id
      exact wpAny_first hi (Region.noSelect_spec hsel) hQ fuel _ a' w' hfree' hr' hy'' h5
     ·rw [not_covers hcl hip hj hr] at h4;cases h4
 exact fun fuel listed a w hcl hf hr hy hTw hSw H=>main fuel listed a w hcl (Region.free_spec hi hf) hr hy hTw hSw H
end
def planOk (ops:Array Oper):List (OpKind × Nat) -> List Nat -> Array Bool -> Bool
 | [],_,L=>(Region.ready .any ops L).isEmpty
 | (.pure,i) :: r,pend,L=>Region.free .any ops L i && (Region.ready .any ops L).contains i && planOk ops r pend (L.setIfInBounds i true)
 | (.load,i) :: r,pend,L=>Region.free .any ops L i && (Region.ready .any ops L).contains i && planOk ops r (i :: pend) (L.setIfInBounds i true)
 | (.keep,i) :: r,pend,L=>Region.ready .any ops L == [i] && planOk ops r pend (L.setIfInBounds i true)
 | (.wr,i) :: r,pend,L=>Region.ready .any ops L == [i] && covers .any ops pend i && planOk ops r [] (L.setIfInBounds i true)
def zCQ (ops:Array Oper) (plan:List (OpKind × Nat)):List (OpKind × Oper):=plan.filterMap fun p=>(ops[p.2]?).map (p.1,·)
def goodPlan (ops:Array Oper) (plan:List (OpKind × Nat)):Bool:=planOk ops plan [] (Array.replicate ops.size false) && Region.noSelect ops && plan.length == ops.size
def Sof (w w':World):Prop:=w.heap.size <= w'.heap.size /\ ∀ b,b < w.heap.size -> w'.heap[b]? = w.heap[b]?
def Sof.refl (w:World):Sof w w:=⟨yAJ _,fun _ _=>rfl⟩
def Sof.trans {w w' w'':World} (h:Sof w w') (h':Sof w' w''):Sof w w'':=⟨yBN h.1 h'.1,fun b hb=>(h'.2 b (yAd hb h.1)).trans (h.2 b hb)⟩
section
variable {P:Program} {f:FuncId} {N n0:Nat} {R:D -> Heap -> Prop} {K:List Item} {ops:Array Oper}
def zCt {X own0 H0 w0} {c:List PanicEntry} {a a':Act} {w:World} (h:RegQ P f N n0 R K X own0 H0 w0 (.panic c) a w):RegQ P f N n0 R K X own0 H0 w0 (.panic c) a' w:=h.elim
def draw_sound (hsel:Region.noSelect ops = true):∀ (plan:List (OpKind × Nat)) (pend:List Nat) (L:Array Bool) (e:Env) (H:Heap),planOk ops plan pend L = true -> Closed .any ops L ->
  aops P N ops (zCQ ops plan) e H (fun e' H'=>Run P f N n0 R K e' H') -> ∀ own0 H0 w0 own X w tmps,Ext X own0 H0 w0 own H w -> tmps.size = N -> Sim own H X w -> EnvRel own H X w tmps e ->
  anyP P .any ops (RegQ P f N n0 R K X own0 H0 w0) pend (Sof w) plan.length L ⟨tmps,[]⟩ w
 | [],pend,L,e,H,hp,hcl,ha,own0,H0,w0,own,X,w,tmps,hx,hN,hs,he=>⟨by simpa [planOk] using hp,own,H,e,hN,rfl,hs,he,hx,ha⟩
 | (k,i) :: r,pend,L,e,H,hp,hcl,ha,own0,H0,w0,own,X,w,tmps,hx,hN,hs,he=>by
  have hρ:∀ x,Rel own H X w (ev e x) ((⟨tmps,[]⟩:Act).eval x):=fun x=>he.eval x
  have hready:i ∈ Region.ready .any ops L:=by
   cases k <;> simp only [planOk,yAB] at hp
   ·simpa using hp.1.2
   ·simpa using hp.1.2
   ·have:=hp.1;rw [beq_iff_eq] at this;rw [this];simp
   ·have:=hp.1.1;rw [beq_iff_eq] at this;rw [this];simp
  obtain ⟨_,o,hi,_⟩:=mem_ready.1 hready
  have hpl:zCQ ops ((k,i) :: r) = (k,o) :: zCQ ops r:=by simp [zCQ,hi]
  rw [hpl] at ha
  simp only [aops] at ha
  obtain ⟨hd,ha⟩:=ha
  have hcase:(Region.wanted o (yielded ops tmps) = true /\ zDI P k o e H fun d H'=>aops P N ops (zCQ ops r) (updO e o.dst d) H' fun e' H'=>Run P f N n0 R K e' H') \/ (Region.wanted o (yielded ops tmps) = false /\ aops P N ops (zCQ ops r) (updO e o.dst (.v undef)) H fun e' H'=>Run P f N n0 R K e' H'):=by
   split at ha
   ·rename_i hg;exact .inl ⟨by simp [Region.wanted,hg],ha⟩
   ·rename_i j want hg
    obtain ⟨s,b,h1,h2,h3,h4,h5⟩:=ha
    by_cases hbw:b = want
    ·exact .inl ⟨by simp [Region.wanted,hg,zCZ h1 h2 hN he h3,hbw],h4 hbw⟩
    ·exact .inr ⟨by simp [Region.wanted,hg,zCZ h1 h2 hN he h3,hbw],h5 hbw⟩
  have next:∀ (pend':List Nat) (e':Env) (own1:Nat -> Own) (d:D) (H1:Heap) (v:Value) (w1:World),planOk ops r pend' (L.setIfInBounds i true) = true -> e' = updO e o.dst d -> Sim own1 H1 X w1 -> Rel own1 H1 X w1 d v -> Ext X own H w own1 H1 w1 ->
      (aops P N ops (zCQ ops r) e' H1 fun e' H'=>Run P f N n0 R K e' H') -> anyP P .any ops (RegQ P f N n0 R K X own0 H0 w0) pend' (Sof w1) r.length (L.setIfInBounds i true) ((⟨tmps,[]⟩:Act).put o.dst v) w1:=by
   intro pend' e' own1 d H1 v w1 hp' he' h1 h2 h3 h4
   subst he'
   have h5:=(he.ext h3).put (o:=o.dst) (by rw [hN];exact hd) h2 []
   have hsz:=put_size (tmps:=tmps) (ds:=[]) (o:=o.dst) (v:=v)
   have hdf:=put_defers (tmps:=tmps) (ds:=[]) (o:=o.dst) (v:=v)
   generalize (⟨tmps,[]⟩:Act).put o.dst v = a at *
   obtain ⟨tm,df⟩:=a
   simp at hsz hdf;subst hdf
   exact draw_sound hsel r pend' _ _ H1 hp' (hcl.add hready) h4 own0 H0 w0 own1 X w1 tm (Ext.trans hx h3) (by rw [hsz,hN]) h1 h5
  have hundef:Rel own H X w (.v undef) undef:=by simp [Rel,VRel]
  cases k with
  | pure =>
   simp only [planOk,yAB] at hp
   rcases hcase with ⟨hw,ha⟩ | ⟨hw,ha⟩
   ·obtain ⟨v,d,h1,h2,h3⟩:=apure_sound hs hρ ha
    exact anyP_first hi hsel (fun c a w h=>zCt h) (T:=fun _=>True) (.inl fun _=>trivial) _ _ _ _ hcl hp.1.1 hready (.inl ⟨hw,fun w' _=>h1 w'⟩) trivial (Sof.refl w) (next pend _ own d H v w hp.2 rfl hs h2 (.refl _ _ _) h3)
   ·exact anyP_first hi hsel (fun c a w h=>zCt h) (T:=fun _=>True) (.inl fun _=>trivial) _ _ _ _ hcl hp.1.1 hready (.inr ⟨hw,rfl⟩) trivial (Sof.refl w) (next pend _ own _ H undef w hp.2 rfl hs hundef (.refl _ _ _) ha)
  | load =>
   simp only [planOk,yAB] at hp
   refine anyP_mono (pend':=i :: pend) (fun t ht=>yAF _ ht) (fun _ h=>h) _ _ _ _ ?_
   rcases hcase with ⟨hw,ha⟩ | ⟨hw,ha⟩
   ·simp only [zDI] at ha
    obtain ⟨x,d,h3,h4,h2⟩:=aLoad_sound hs hρ ha
    exact anyP_first hi hsel (fun c a w h=>zCt h) (T:=Sof w) (.inr ⟨rfl,yAN ..⟩) _ _ _ _ hcl hp.1.1 hready (.inl ⟨hw,fun w' hw'=>h3 w' hw'.2⟩) (Sof.refl w) (Sof.refl w) (next _ _ own d H x w hp.2 rfl hs h4 (.refl _ _ _) h2)
   ·exact anyP_first hi hsel (fun c a w h=>zCt h) (T:=fun _=>True) (.inl fun _=>trivial) _ _ _ _ hcl hp.1.1 hready (.inr ⟨hw,rfl⟩) trivial (Sof.refl w) (next _ _ own _ H undef w hp.2 rfl hs hundef (.refl _ _ _) ha)
  | keep =>
   simp only [planOk,yAB,beq_iff_eq] at hp
   refine ⟨fun h=>(by rw [h] at hready;cases hready),fun j hj=>?_⟩
   rw [hp.1,yAm] at hj
   subst hj
   unfold wpOp
   simp only [hi]
   rcases hcase with ⟨hw,ha⟩ | ⟨hw,ha⟩
   ·simp only [hw,if_true]
    left
    have hk:=aKeep_sound hs hρ ha
    unfold Oper.wp
    generalize (execOp (⟨tmps,[]⟩:Act).eval o).run P w = res at hk
    cases res with
    | halt x w'=>exact hk.elim
    | ok n w1 =>
     cases n with
     | value v =>
      obtain ⟨own1,d,H1,h1,h2,h3,h4⟩:=hk
      have hS:Sof w w1:=⟨h3.1.size,h3.2⟩
      exact .inl ⟨hS,anyP_mono (fun _ h=>h) (fun _ h=>hS.trans h) _ _ _ _ (next pend _ own1 d H1 v w1 hp.2 rfl h1 h2 h3.1 h4)⟩
     | enter g args =>
      refine Calls.mono hk fun en w' hh=>?_
      obtain ⟨own1,d,H1,v,rfl,h1,h2,h3,h4⟩:=hh
      have hS:Sof w w':=⟨h3.1.size,h3.2⟩
      exact .inl ⟨hS,anyP_mono (fun _ h=>h) (fun _ h=>hS.trans h) _ _ _ _ (next pend _ own1 d H1 v w' hp.2 rfl h1 h2 h3.1 h4)⟩
     | _=>exact hk.elim
   ·simp only [hw,yBS,if_false]
    exact .inl ⟨Sof.refl w,next pend _ own _ H undef w hp.2 rfl hs hundef (.refl _ _ _) ha⟩
  | wr =>
   simp only [planOk,yAB,beq_iff_eq] at hp
   refine ⟨fun h=>(by rw [h] at hready;cases hready),fun j hj=>?_⟩
   rw [hp.1.1,yAm] at hj
   subst hj
   unfold wpOp
   simp only [hi]
   rcases hcase with ⟨hw,ha⟩ | ⟨hw,ha⟩
   ·simp only [hw,if_true]
    left
    have hk:=aMut_sound (C:=fun d H'=>aops P N ops (zCQ ops r) (updO e o.dst d) H' fun e' H'=>Run P f N n0 R K e' H') hs hρ ha
    unfold Oper.wp
    generalize (execOp (⟨tmps,[]⟩:Act).eval o).run P w = res at hk
    cases res with
    | halt x w'=>exact hk.elim
    | ok n w1 =>
     cases n with
     | value v =>
      obtain ⟨own1,d,H1,h1,h2,h3,h4⟩:=hk
      exact .inr ⟨hp.1.2,zBy _ _ _ _ (next [] _ own1 d H1 v w1 hp.2 rfl h1 h2 h3 h4)⟩
     | skip =>
      obtain ⟨own1,H1,h1,h3,h4⟩:=hk
      exact .inr ⟨hp.1.2,zBy _ _ _ _ (next [] _ own1 _ H1 undef w1 hp.2 rfl h1 (by simp [Rel,VRel]) h3 h4)⟩
     | enter g args =>
      refine Calls.mono hk fun en w' hh=>?_
      obtain ⟨own1,d,H1,v,rfl,h1,h2,h3,h4⟩:=hh
      exact .inr ⟨hp.1.2,zBy _ _ _ _ (next [] _ own1 d H1 v w' hp.2 rfl h1 h2 h3 h4)⟩
     | _=>exact hk.elim
   ·simp only [hw,yBS,if_false]
    exact .inr ⟨hp.1.2,zBy _ _ _ _ (next [] _ own _ H undef w hp.2 rfl hs hundef (.refl _ _ _) ha)⟩
def run_draw {id:Nat} {l:List Oper} {e:Env} {H:Heap} (plan:List (OpKind × Nat)) (hm:P.follows .mixedOrders = true) (hp:goodPlan l.toArray plan = true)
  (h:aops P N l.toArray (zCQ l.toArray plan) e H fun e' H'=>Run P f N n0 R K e' H'):Run P f N n0 R (.code (.region id l.toArray true) :: K) e H:=by
 intro hn own X w tmps cs hN hsim henv
 simp only [goodPlan,yAB,beq_iff_eq] at hp
 have hw:({ w with drawn:=w.drawn + 1 }:World).heap = w.heap:=rfl
 have hany:=draw_sound (f:=f) (n0:=n0) (R:=R) (K:=K) hp.1.2 plan [] _ e H hp.1.1 (Closed.start _) h own H w own X { w with drawn:=w.drawn + 1 } tmps (zDa own H w _ rfl) hN (sim_drawn hw hsim) (henv.ext (zDa own H w _ rfl))
 rw [hp.2] at hany
 have hwp:(Code.region id l.toArray true).wp P (RegQ P f N n0 R K X own H w) ⟨tmps,[]⟩ w:=wp_region_any hm (zBy _ _ _ _ hany)
 obtain ⟨ex,a',w',hq,harr⟩:=hwp (frameOf f) K cs
 cases ex with
 | normal =>
  obtain ⟨own1,H1,e1,h1,h2,h3,h4,h5,h6⟩:=hq
  obtain ⟨tm,df⟩:=a'
  simp at h1 h2;subst h2
  exact Fin.of_steps hn h5 harr (h6 (yBN hn h5.hn) own1 X w' tm cs h1 h3 h4)
 | _=>exact hq.elim
end
def zAI {P:Program} {f:FuncId} {N n0:Nat} {R:D -> Heap -> Prop} {K:List Item} {e:Env} {H:Heap} {x y:Code} (h:∀ Y,Y = y -> Run P f N n0 R (.code x :: .code Y :: K) e H):Run P f N n0 R (.code (.seq x y) :: K) e H:=run_seq (h y rfl)
def run_loop' {P:Program} {f:FuncId} {N n0:Nat} {R:D -> Heap -> Prop} {K:List Item} {e:Env} {H:Heap} {c:Code} (I:Nat -> Env -> Heap -> Prop) (m:Nat) (h0:I m e H)
  (round:∀ (C:Code),C = c -> ∀ m e H,(∀ m' e' H',m' < m -> I m' e' H' -> Run P f N n0 R (.inLoop C :: K) e' H') -> I m e H -> Run P f N n0 R (.code c :: .inLoop C :: K) e H):Run P f N n0 R (.code (.loop c) :: K) e H :=
 run_loop_inv I m h0 (round c rfl)
def zAq (e:Env) (n:Nat) (d:D) (m:Nat):upd e n d m = if m = n then d else e m:=rfl
def envOf_app (ds:List D) (i:Nat):envOf ds i = ds.getD i (.v undef):=rfl
def zAV (s:Nat) (d:D) (l:List (Nat × D)) (i:Nat):envL ((s,d) :: l) i = if i = s then d else envL l i:=by
 unfold envL
 by_cases h:i = s
 ·subst h;simp
 ·simp [h,Ne.symm h]
def envL_nil (i:Nat):envL [] i = .any:=rfl
def get_cons_zero (x:Option Row) (l:Heap):Heap.get (x :: l) 0 = x:=by simp [Heap.get]
def get_cons_succ (x:Option Row) (l:Heap) (n:Nat):Heap.get (x :: l) (n + 1) = Heap.get l n:=by simp [Heap.get]
end Go.Ab
set_option linter.defProp false
namespace Go.Ab
variable [Go.Ab.DM]
def okK (o:Option D) (C:D -> Prop):Prop:=∃ d,o = some d /\ C d
def okH (o:Option Heap) (C:Heap -> Prop):Prop:=∃ H,o = some H /\ C H
inductive Tag (A B:Prop):Type where
 | mk
def guardK (v:D) (want:Bool) (A B:Prop) (t:Tag A B):Prop:=∃ b,v = .v (.bool b) /\ (b = want -> A) /\ (b ≠ want -> B)
def zAt (c:Prop) (A:Prop) (t:Tag A A):Prop:=c /\ A
def okK_some (d:D) (C:D -> Prop):okK (some d) C = C d:=by simp [okK]
def okH_some (H:Heap) (C:Heap -> Prop):okH (some H) C = C H:=by simp [okH]
def guardK_tt (A B:Prop) (t:Tag A B):guardK (.v (.bool true)) true A B t = A:=by simp [guardK]
def guardK_ff (A B:Prop) (t:Tag A B):guardK (.v (.bool false)) false A B t = A:=by simp [guardK]
def guardK_tf (A B:Prop) (t:Tag A B):guardK (.v (.bool true)) false A B t = B:=by simp [guardK]
def guardK_ft (A B:Prop) (t:Tag A B):guardK (.v (.bool false)) true A B t = B:=by simp [guardK]
def guardK_mk {b want:Bool} {A B:Prop} {t:Tag A B} (h1:b = want -> A) (h2:b = (!want) -> B):guardK (.v (.bool b)) want A B t:=⟨b,rfl,h1,fun h=>h2 (by cases b <;> cases want <;> simp_all)⟩
def sideK_true (A:Prop) (t:Tag A A):zAt True A t = A:=by simp [zAt]
def zBi {c A:Prop} {t:Tag A A} (h1:c) (h2:A):zAt c A t:=⟨h1,h2⟩
def guardK_p {p:Prop} [Decidable p] {A B:Prop} {t:Tag A B} (h1:p -> A) (h2:¬ p -> B):guardK (.v (.bool (decide p))) true A B t:=guardK_mk (fun h=>h1 (by simpa using h)) (fun h=>h2 (by simpa using h))
def gK_p {p:Prop} [Decidable p] {A B:Prop} {t:Tag A B} (h1:p -> decide p = true -> A) (h2:¬ p -> decide p = false -> B):guardK (.v (.bool (decide p))) true A B t:=guardK_p (fun h=>h1 h (decide_eq_true h)) fun h=>h2 h (decide_eq_false h)
def gK_b {b want:Bool} {A B:Prop} {t:Tag A B} (h1:b = want -> b = want -> A) (h2:b = (!want) -> b = (!want) -> B):guardK (.v (.bool b)) want A B t:=guardK_mk (fun h=>h1 h h) fun h=>h2 h h
@[congr] theorem okK_congr {o o':Option D} {C:D -> Prop} (h:o = o'):okK o C = okK o' C:=by rw [h]
@[congr] theorem okH_congr {o o':Option Heap} {C:Heap -> Prop} (h:o = o'):okH o C = okH o' C:=by rw [h]
@[congr] theorem Run_congr {P:Program} {f:FuncId} {N n0:Nat} {R:D -> Heap -> Prop} {K:List Item} {e:Env} {H:Heap}:Run P f N n0 R K e H = Run P f N n0 R K e H:=rfl
@[congr] theorem Sound_congr {P:Program} {f:FuncId} {ds ds':List D} {H:Heap} {R:D -> Heap -> Prop} (h:ds = ds'):Sound P f ds H R = Sound P f ds' H R:=by rw [h]
@[congr] theorem SoundK_congr {P:Program} {f:FuncId} {ds ds':List D} {H:Heap} {R:D -> Heap -> Prop} (h:ds = ds'):SoundK P f ds H R = SoundK P f ds' H R:=by rw [h]
section
variable {P:Program} {N:Nat} {ops:Array Oper} {e:Env} {H:Heap} {Q:Env -> Heap -> Prop} {C:D -> Heap -> Prop} {D1:D -> Prop}
variable {dst:Option Tmp} {ty:TypeId} {pos:String} {af:Array Edge} {g:Option (Nat × Bool)} {k:OpKind} {op:Op} {rest:List (OpKind × Oper)}
def aops_nil:aops P N ops [] e H Q = Q e H:=rfl
def aops_cons:aops P N ops ((k,⟨dst,op,ty,pos,af,none⟩) :: rest) e H Q = zAt (dstOk N dst) (zDI P k ⟨dst,op,ty,pos,af,none⟩ e H fun d H'=>aops P N ops rest (updO e dst d) H' Q) .mk:=rfl
def eO (e:Env) (o:Option Tmp):D:=match o with | some s=>e s | none=>.any
def eO_some (e:Env) (s:Nat):eO e (some s) = e s:=rfl
def slotOk (N:Nat) (o:Option Tmp):Prop:=match o with | some s=>s < N | none=>False
def slotOk_some (N s:Nat):slotOk N (some s) = (s < N):=rfl
def aops_guard {j:Nat} {want:Bool}:aops P N ops ((k,⟨dst,op,ty,pos,af,some (j,want)⟩) :: rest) e H Q = zAt (dstOk N dst /\ slotOk N (gslot ops j)) (guardK (eO e (gslot ops j)) want (zDI P k ⟨dst,op,ty,pos,af,some (j,want)⟩ e H fun d H'=>aops P N ops rest (updO e dst d) H' Q) (aops P N ops rest (updO e dst (.v undef)) H Q) .mk) .mk:=by
 simp only [aops,zAt,guardK]
 cases hg:gslot ops j with
 | none=>simp [slotOk]
 | some s=>simp [slotOk,eO,and_assoc]
def gslot_lit (l:List Oper) (j:Nat):gslot l.toArray j = (l[j]?).bind (·.dst):=by simp [gslot]
def dstOk_some (n:Nat):dstOk N (some n) = (n < N):=rfl
def dstOk_none:dstOk N none = True:=rfl
def updO_some (n:Nat) (d:D):updO e (some n) d = upd e n d:=rfl
def updO_none (d:D):updO e none d = e:=rfl
def zAZ (t:Nat):ev e (.tmp t) = e t:=rfl
def zAd (v:Value):ev e (.const v) = .v v:=rfl
def ev_func (f:FuncId):ev e (.func f) = .fn (.func f) [] []:=rfl
variable {x y c a b:Operand} {t s:TypeId} {i:Nat}
def k_move:zDI P .pure ⟨dst,.move x,ty,pos,af,g⟩ e H C = okK (some (ev e x)) fun d=>C d H:=by simp [okK,zDI,apureH,apure]
def k_assign:zDI P .pure ⟨dst,.assign x,ty,pos,af,g⟩ e H C = okK (some (ev e x)) fun d=>C d H:=by simp [okK,zDI,apureH,apure]
def k_pick:zDI P .pure ⟨dst,.pick c a b,ty,pos,af,g⟩ e H C = aPick (ev e c) (ev e a) (ev e b) fun d=>C d H:=rfl
def k_fieldAddr {f:Nat}:zDI P .pure ⟨dst,.fieldAddr s x f,ty,pos,af,g⟩ e H C = zAh P s (ev e x) f fun d=>C d H:=rfl
def k_field {f:Nat}:zDI P .pure ⟨dst,.field s x f,ty,pos,af,g⟩ e H C = aField P s (ev e x) f fun d=>C d H:=rfl
def k_extract:zDI P .pure ⟨dst,.extract x i,ty,pos,af,g⟩ e H C = aExtract (ev e x) i fun d=>C d H:=rfl
def k_binOp {o:BinOp} {yt:TypeId}:zDI P .pure ⟨dst,.binOp o t x y yt,ty,pos,af,g⟩ e H C = zCx P o t (ev e x) (ev e y) fun d=>C d H:=rfl
def k_unOp {o:UnOp}:zDI P .pure ⟨dst,.unOp o t x,ty,pos,af,g⟩ e H C = aUn o (ev e x) fun d=>C d H:=rfl
def k_convert:zDI P .load ⟨dst,.convert s t x,ty,pos,af,g⟩ e H C = aConvL P s t H (ev e x) fun d=>C d H:=rfl
def k_indexAddr:zDI P .pure ⟨dst,.indexAddr t x y,ty,pos,af,g⟩ e H C = zBC P t H (ev e x).wk (ev e y) fun d=>C d H:=rfl
def k_index:zDI P .pure ⟨dst,.index t x y,ty,pos,af,g⟩ e H C = aIndex P t (ev e x) (ev e y) fun d=>C d H:=rfl
def k_nilCheck:zDI P .pure ⟨dst,.nilCheck x,ty,pos,af,g⟩ e H C = zCl (ev e x) fun d=>C d H:=rfl
def k_build {ps:Array (Nat × Operand)}:zDI P .pure ⟨dst,.build t ps,ty,pos,af,g⟩ e H C = aBuild P t (ps.toList.map fun p=>(p.1,ev e p.2)) fun d=>C d H:=rfl
def k_makeFunc {fn:Fn} {fs cs:Array Operand}:zDI P .pure ⟨dst,.makeFunc fn fs cs,ty,pos,af,g⟩ e H C = okK (some (.fn fn (fs.toList.map (ev e)) (cs.toList.map (ev e)))) fun d=>C d H:=by simp [okK,zDI,apureH,apure]
def k_makeInterface:zDI P .pure ⟨dst,.makeInterface t x,ty,pos,af,g⟩ e H C = aMakeIface P t (ev e x) fun d=>C d H:=rfl
def k_slice {lo hi mx:Option Operand}:zDI P .pure ⟨dst,.slice t x lo hi mx,ty,pos,af,g⟩ e H C = zCw P t H (ev e x) (lo.map (ev e)) (hi.map (ev e)) (mx.map (ev e)) fun d=>C d H:=rfl
def k_assert {ok:Bool}:zDI P .pure ⟨dst,.typeAssert x s t ok,ty,pos,af,g⟩ e H C = aAssert P (ev e x) t ok fun d=>C d H:=rfl
def k_builtin {bi:Builtin} {args:Array Operand} {ts:Array TypeId}:zDI P .pure ⟨dst,.call ⟨.builtin bi,args,ts⟩,ty,pos,af,g⟩ e H C = zAk P bi ts (args.toList.map (ev e)) fun d=>C d H:=rfl
def k_load:zDI P .load ⟨dst,.load t x,ty,pos,af,g⟩ e H C = okK (ldD P t H (ev e x)) fun d=>C d H:=rfl
def k_alloc:zDI P .keep ⟨dst,.alloc t,ty,pos,af,g⟩ e H C = aAlloc P t H C:=rfl
def k_box:zDI P .keep ⟨dst,.box t x,ty,pos,af,g⟩ e H C = aBox (ev e x) H C:=rfl
def k_buildSlice {n:Nat} {ps:Array (Nat × Operand)}:zDI P .keep ⟨dst,.buildSlice t n ps,ty,pos,af,g⟩ e H C = zBn P t n (ps.toList.map fun p=>(p.1,ev e p.2)) H C:=rfl
def k_store:zDI P .wr ⟨dst,.store t a x,ty,pos,af,g⟩ e H C = okH (stD P t H (ev e a) (ev e x)) fun H'=>C (.v undef) H':=rfl
def k_lookup {ok:Bool}:zDI P .load ⟨dst,.lookup t x y ok,ty,pos,af,g⟩ e H C = okK (lkD P t H (ev e x) (ev e y) ok) fun d=>C d H:=rfl
def k_entry:zDI P .load ⟨dst,.entry x,ty,pos,af,g⟩ e H C = okK (entD H (ev e x)) fun d=>C d H:=rfl
def aLenL (P:Program) (ts:Array TypeId) (l:List D) (H:Heap) (C:D -> Prop):Prop:=match l with | [x]=>okK (lenD P ts H x) C | _=>False
def k_len {args:Array Operand} {ts:Array TypeId}:zDI P .load ⟨dst,.call ⟨.builtin .len,args,ts⟩,ty,pos,af,g⟩ e H C = aLenL P ts (args.toList.map (ev e)) H fun d=>C d H:=by
 simp only [zDI,aLoad,aLenL,okK] <;> rfl
def k_makeSlice:zDI P .keep ⟨dst,.makeSlice t x y,ty,pos,af,g⟩ e H C = zCs P t (ev e x) (ev e y) H C:=rfl
def k_makeMap {r:Option Operand}:zDI P .keep ⟨dst,.makeMap t r,ty,pos,af,g⟩ e H C = aMakeMap P t (r.map (ev e)) H C:=rfl
def k_range:zDI P .keep ⟨dst,.range t x,ty,pos,af,g⟩ e H C = aRange P t (ev e x) H C:=rfl
def k_mapUpdate:zDI P .wr ⟨dst,.mapUpdate t x y c,ty,pos,af,g⟩ e H C = zBx P t (ev e x) (ev e y) (ev e c) H C:=rfl
def k_next {b:Bool}:zDI P .wr ⟨dst,.next x b,ty,pos,af,g⟩ e H C = aNext b (ev e x) H C:=rfl
def callSK (P:Program) (f:FuncId) (ds:List D) (H:Heap) (C:D -> Heap -> Prop):Prop:=SoundK P f ds H C \/ ExtS P f ds H C
def callS (P:Program) (f:FuncId) (ds:List D) (H:Heap) (C:D -> Heap -> Prop):Prop:=Sound P f ds H C \/ ExtS P f ds H C
def aCallK (P:Program) (f:D) (args:List D) (H:Heap) (C:D -> Heap -> Prop):Prop:=match f with | .fn (.func g) fs cs=>callSK P g (fs ++ args ++ cs) H C | _=>False
def aCallW (P:Program) (f:D) (args:List D) (H:Heap) (C:D -> Heap -> Prop):Prop:=match f with | .fn (.func g) fs cs=>callS P g (fs ++ args ++ cs) H C | _=>False
def k_callK {args:Array Operand} {ts:Array TypeId}:zDI P .keep ⟨dst,.call ⟨.value x,args,ts⟩,ty,pos,af,g⟩ e H C = aCallK P (ev e x) (args.toList.map (ev e)) H C:=rfl
def k_callW {args:Array Operand} {ts:Array TypeId}:zDI P .wr ⟨dst,.call ⟨.value x,args,ts⟩,ty,pos,af,g⟩ e H C = aCallW P (ev e x) (args.toList.map (ev e)) H C:=rfl
def aInvK (P:Program) (x:D) (name:String) (args:List D) (H:Heap) (C:D -> Heap -> Prop):Prop:=∃ gd,recvOf P H x name = some gd /\ SoundK P gd.1 (gd.2 :: args) H C
def aInvW (P:Program) (x:D) (name:String) (args:List D) (H:Heap) (C:D -> Heap -> Prop):Prop:=∃ gd,recvOf P H x name = some gd /\ Sound P gd.1 (gd.2 :: args) H C
def k_invK {name:String} {args:Array Operand} {ts:Array TypeId}:zDI P .keep ⟨dst,.call ⟨.invoke x name,args,ts⟩,ty,pos,af,g⟩ e H C = aInvK P (ev e x) name (args.toList.map (ev e)) H C:=rfl
def k_invW {name:String} {args:Array Operand} {ts:Array TypeId}:zDI P .wr ⟨dst,.call ⟨.invoke x name,args,ts⟩,ty,pos,af,g⟩ e H C = aInvW P (ev e x) name (args.toList.map (ev e)) H C:=rfl
def k_append {args:Array Operand} {ts:Array TypeId}:zDI P .wr ⟨dst,.call ⟨.builtin .append,args,ts⟩,ty,pos,af,g⟩ e H C = zBD P ts (args.toList.map (ev e)) H C:=rfl
def aCopyL (P:Program) (ts:Array TypeId) (l:List D) (H:Heap) (C:D -> Heap -> Prop):Prop:=match l with | [s,x]=>aCopy P ts s x H C | _=>False
def aDeleteL (P:Program) (ts:Array TypeId) (l:List D) (H:Heap) (C:D -> Heap -> Prop):Prop:=match l with | [s,x]=>aDelete P ts s x H C | _=>False
def k_copy {args:Array Operand} {ts:Array TypeId}:zDI P .wr ⟨dst,.call ⟨.builtin .copy,args,ts⟩,ty,pos,af,g⟩ e H C = aCopyL P ts (args.toList.map (ev e)) H C:=rfl
def k_delete {args:Array Operand} {ts:Array TypeId}:zDI P .wr ⟨dst,.call ⟨.builtin .delete,args,ts⟩,ty,pos,af,g⟩ e H C = aDeleteL P ts (args.toList.map (ev e)) H C:=rfl
def callK_fn {gf:FuncId} {fs cs args:List D}:aCallK P (.fn (.func gf) fs cs) args H C = callSK P gf (fs ++ args ++ cs) H C:=rfl
def callW_fn {gf:FuncId} {fs cs args:List D}:aCallW P (.fn (.func gf) fs cs) args H C = callS P gf (fs ++ args ++ cs) H C:=rfl
def zCS {f:FuncId} {ds:List D} {R:D -> Heap -> Prop} (h:Sound P f ds H R) (hr:∀ d H',R d H' -> C d H'):callS P f ds H C:=.inl (h.mono hr)
def invS (P:Program) (f:FuncId) (ds:List D) (H:Heap) (C:D -> Heap -> Prop):Prop:=Sound P f ds H C
def invSK (P:Program) (f:FuncId) (ds:List D) (H:Heap) (C:D -> Heap -> Prop):Prop:=SoundK P f ds H C
@[congr] theorem invS_congr {f:FuncId} {ds ds':List D} (h:ds = ds'):invS P f ds H C = invS P f ds' H C:=by rw [h]
@[congr] theorem invSK_congr {f:FuncId} {ds ds':List D} (h:ds = ds'):invSK P f ds H C = invSK P f ds' H C:=by rw [h]
@[congr] theorem callS_congr {f:FuncId} {ds ds':List D} (h:ds = ds'):callS P f ds H C = callS P f ds' H C:=by rw [h]
@[congr] theorem callSK_congr {f:FuncId} {ds ds':List D} (h:ds = ds'):callSK P f ds H C = callSK P f ds' H C:=by rw [h]
@[congr] theorem aBinE_congr {o:BinOp} {x x' y y':D} (h1:x = x') (h2:y = y'):zCx P o t x y D1 = zCx P o t x' y' D1:=by rw [h1,h2]
@[congr] theorem aSliceE_congr {x x':D} {lo lo' hi hi' mx mx':Option D} (h1:x = x') (h2:lo = lo') (h3:hi = hi') (h4:mx = mx'):zCw P t H x lo hi mx D1 = zCw P t H x' lo' hi' mx' D1:=by rw [h1,h2,h3,h4]
@[congr] theorem aAssert_congr {ok:Bool} {x x':D} (h1:x = x'):aAssert P x t ok D1 = aAssert P x' t ok D1:=by rw [h1]
@[congr] theorem aLenL_congr {ts:Array TypeId} {l l':List D} (h1:l = l'):aLenL P ts l H D1 = aLenL P ts l' H D1:=by rw [h1]
@[congr] theorem aMakeSlice_congr {x x' y y':D} (h1:x = x') (h2:y = y'):zCs P t x y H C = zCs P t x' y' H C:=by rw [h1,h2]
@[congr] theorem aMakeMap_congr {x x':Option D} (h1:x = x'):aMakeMap P t x H C = aMakeMap P t x' H C:=by rw [h1]
@[congr] theorem aRange_congr {x x':D} (h1:x = x'):aRange P t x H C = aRange P t x' H C:=by rw [h1]
@[congr] theorem aMapUpdate_congr {x x' y y' z z':D} (h1:x = x') (h2:y = y') (h3:z = z'):zBx P t x y z H C = zBx P t x' y' z' H C:=by rw [h1,h2,h3]
@[congr] theorem aNext_congr {b:Bool} {x x':D} (h1:x = x'):aNext b x H C = aNext b x' H C:=by rw [h1]
@[congr] theorem aInvK_congr {x x':D} {name:String} {l l':List D} (h1:x = x') (h2:l = l'):aInvK P x name l H C = aInvK P x' name l' H C:=by rw [h1,h2]
@[congr] theorem aInvW_congr {x x':D} {name:String} {l l':List D} (h1:x = x') (h2:l = l'):aInvW P x name l H C = aInvW P x' name l' H C:=by rw [h1,h2]
@[congr] theorem aCopyL_congr {ts:Array TypeId} {l l':List D} (h1:l = l'):aCopyL P ts l H C = aCopyL P ts l' H C:=by rw [h1]
@[congr] theorem aDeleteL_congr {ts:Array TypeId} {l l':List D} (h1:l = l'):aDeleteL P ts l H C = aDeleteL P ts l' H C:=by rw [h1]
@[congr] theorem aPick_congr {c c' a a' b b':D} (h1:c = c') (h2:a = a') (h3:b = b'):aPick c a b D1 = aPick c' a' b' D1:=by rw [h1,h2,h3]
@[congr] theorem aFieldAddr_congr {x x':D} {f:Nat} (h1:x = x'):zAh P s x f D1 = zAh P s x' f D1:=by rw [h1]
@[congr] theorem aField_congr {x x':D} {f:Nat} (h1:x = x'):aField P s x f D1 = aField P s x' f D1:=by rw [h1]
@[congr] theorem aExtract_congr {x x':D} (h1:x = x'):aExtract x i D1 = aExtract x' i D1:=by rw [h1]
@[congr] theorem aBin_congr {o:BinOp} {x x' y y':D} (h1:x = x') (h2:y = y'):aBin P o t x y D1 = aBin P o t x' y' D1:=by rw [h1,h2]
@[congr] theorem aUn_congr {o:UnOp} {x x':D} (h1:x = x'):aUn o x D1 = aUn o x' D1:=by rw [h1]
@[congr] theorem aConv_congr {x x':D} (h1:x = x'):aConvL P s t H x D1 = aConvL P s t H x' D1:=by rw [h1]
@[congr] theorem aIndexAddr_congr {x x' y y':D} (h1:x = x') (h2:y = y'):zBC P t H x y D1 = zBC P t H x' y' D1:=by rw [h1,h2]
@[congr] theorem aIndex_congr {x x' y y':D} (h1:x = x') (h2:y = y'):aIndex P t x y D1 = aIndex P t x' y' D1:=by rw [h1,h2]
@[congr] theorem aNilCheck_congr {x x':D} (h1:x = x'):zCl x D1 = zCl x' D1:=by rw [h1]
@[congr] theorem aBuild_congr {ps ps':List (Nat × D)} (h1:ps = ps'):aBuild P t ps D1 = aBuild P t ps' D1:=by rw [h1]
@[congr] theorem aMakeIface_congr {x x':D} (h1:x = x'):aMakeIface P t x D1 = aMakeIface P t x' D1:=by rw [h1]
@[congr] theorem aSlice_congr {x x':D} {lo lo' hi hi' mx mx':Option D} (h1:x = x') (h2:lo = lo') (h3:hi = hi') (h4:mx = mx'):zAx P t x lo hi mx D1 = zAx P t x' lo' hi' mx' D1:=by rw [h1,h2,h3,h4]
@[congr] theorem aBuiltinP_congr {bi:Builtin} {ts:Array TypeId} {l l':List D} (h1:l = l'):zAk P bi ts l D1 = zAk P bi ts l' D1:=by rw [h1]
@[congr] theorem aAlloc_congr:aAlloc P t H C = aAlloc P t H C:=rfl
@[congr] theorem aBox_congr {x x':D} (h1:x = x'):aBox x H C = aBox x' H C:=by rw [h1]
@[congr] theorem aBuildSlice_congr {n:Nat} {ps ps':List (Nat × D)} (h1:ps = ps'):zBn P t n ps H C = zBn P t n ps' H C:=by rw [h1]
@[congr] theorem aCallK_congr {x x':D} {l l':List D} (h1:x = x') (h2:l = l'):aCallK P x l H C = aCallK P x' l' H C:=by rw [h1,h2]
@[congr] theorem aCallW_congr {x x':D} {l l':List D} (h1:x = x') (h2:l = l'):aCallW P x l H C = aCallW P x' l' H C:=by rw [h1,h2]
@[congr] theorem aAppendL_congr {ts:Array TypeId} {l l':List D} (h1:l = l'):zBD P ts l H C = zBD P ts l' H C:=by rw [h1]
@[congr] theorem aopK_congr {o:Oper}:zDI P k o e H C = zDI P k o e H C:=rfl
@[congr] theorem aops_congr {l l':List (OpKind × Oper)} (h:l = l'):aops P N ops l e H Q = aops P N ops l' e H Q:=by rw [h]
def wk_sl (r i m:Nat):(D.sl r i m).wk = .sl r i m:=rfl
def wk_slc (r i m c:Nat):(D.slc r i m c).wk = .sl r i m:=rfl
def wk_fz (k:Nat) (xs:List D):(D.fz k xs).wk = .fz k xs:=rfl
def wk_v (v:Value):(D.v v).wk = .v v:=rfl
def wk_pt (r i m:Nat):(D.pt r i m).wk = .pt r i m:=rfl
def wk_fp (k:Nat) (xs:List D) (i o:Nat):(D.fp k xs i o).wk = .fp k xs i o:=rfl
inductive TagF (A:Bool -> Prop):Type where
 | mk
def allK (c:Bool -> Prop) (A:Bool -> Prop) (t:TagF A):Prop:=∀ b,c b -> A b
def allK_mk {c A:Bool -> Prop} {t:TagF A} (h:∀ b,c b -> A b):allK c A t:=h
def binE_int {o:BinOp} {x:D} {k:IntKind} {n:Int}:zCx P o t x (.v (.int k n)) D1 = aBin P o t x (.v (.int k n)) D1:=rfl
def binE_str {o:BinOp} {x:D} {u:ByteArray}:zCx P o t x (.v (.string u)) D1 = aBin P o t x (.v (.string u)) D1:=rfl
def binE_bool {o:BinOp} {x:D} {u:Bool}:zCx P o t x (.v (.bool u)) D1 = aBin P o t x (.v (.bool u)) D1:=rfl
def binE_agg {o:BinOp} {xs ys:List D}:zCx P o t (.agg xs) (.agg ys) D1 = aEqAgg P o t xs ys D1:=rfl
def nil_mp {k e:TypeId} {r:Nat} (he:P.underlying t = some (.map k e)):zCx P .eql t (.mp r) (.v (.map none)) D1 = D1 (.v (.bool false)):=propext ⟨fun ⟨_,c,h1,h2⟩=>by cases h1;exact h2,fun h=>⟨⟨k,e,he⟩,false,rfl,h⟩⟩
def nil_mpn {k e:TypeId} (he:P.underlying t = some (.map k e)):zCx P .eql t (.v (.map none)) (.v (.map none)) D1 = D1 (.v (.bool true)):=propext ⟨fun ⟨_,c,h1,h2⟩=>by cases h1;exact h2,fun h=>⟨⟨k,e,he⟩,true,rfl,h⟩⟩
def nil_pt {e:TypeId} {r i o:Nat} (he:P.underlying t = some (.pointer e)):zCx P .eql t (.pt r i o) (.v (.pointer none)) D1 = D1 (.v (.bool false)):=propext ⟨fun ⟨_,c,h1,h2⟩=>by cases h1;exact h2,fun h=>⟨⟨e,he⟩,false,rfl,h⟩⟩
def nil_ptn {e:TypeId} (he:P.underlying t = some (.pointer e)):zCx P .eql t (.v (.pointer none)) (.v (.pointer none)) D1 = D1 (.v (.bool true)):=propext ⟨fun ⟨_,c,h1,h2⟩=>by cases h1;exact h2,fun h=>⟨⟨e,he⟩,true,rfl,h⟩⟩
def nil_sl {el:TypeId} {r i m:Nat} (he:zBI P t = some el):zCx P .eql t (.sl r i m) (.v (.slice none 0 0)) D1 = D1 (.v (.bool false)):=by simp [zCx,aNilEq,he]
def nil_slc {el:TypeId} {r i m c:Nat} (he:zBI P t = some el):zCx P .eql t (.slc r i m c) (.v (.slice none 0 0)) D1 = D1 (.v (.bool false)):=by simp [zCx,aNilEq,he]
def nil_nil {el:TypeId} (he:zBI P t = some el):zCx P .eql t (.v (.slice none 0 0)) (.v (.slice none 0 0)) D1 = D1 (.v (.bool true)):=by simp [zCx,aNilEq,he]
def nil_fz {el:TypeId} {k:Nat} {xs:List D} (he:zBI P t = some el):zCx P .eql t (.fz k xs) (.v (.slice none 0 0)) D1 = allK (fun b=>b = true -> xs = []) (fun b=>D1 (.v (.bool b))) .mk:=by
 simp only [zCx,aNilEq,he,allK,Bool.forall_bool,eq_iff_iff]
 simp
def okB (o:Option Bool) (C:Bool -> Prop):Prop:=∃ b,o = some b /\ C b
def okB_some (b:Bool) (C:Bool -> Prop):okB (some b) C = C b:=by simp [okB]
@[congr] theorem okB_congr {o o':Option Bool} {C:Bool -> Prop} (h:o = o'):okB o C = okB o' C:=by rw [h]
def okL (o:Option (List D)) (C:List D -> Prop):Prop:=∃ ys,o = some ys /\ C ys
def okL_some (ys:List D) (C:List D -> Prop):okL (some ys) C = C ys:=by simp [okL]
@[congr] theorem okL_congr {o o':Option (List D)} {C:List D -> Prop} (h:o = o'):okL o C = okL o' C:=by rw [h]
def okR (o:Option Row) (k:Nat) (C:List D -> Prop):Prop:=∃ xs,o = some (.cells k xs) /\ C xs
def okR_some (k:Nat) (xs:List D) (C:List D -> Prop):okR (some (.cells k xs)) k C = C xs:=by simp [okR]
@[congr] theorem okR_congr {o o':Option Row} {k:Nat} {C:List D -> Prop} (h:o = o'):okR o k C = okR o' k C:=by rw [h]
def el_nil (k:Nat) (C1:List D -> Prop):okL (zBY H k (.v (.slice none 0 0))) C1 = C1 []:=by simp [okL,zBY]
def el_fz (k:Nat) (xs:List D) (C1:List D -> Prop):okL (zBY H k (.fz k xs)) C1 = C1 xs:=by simp [okL,zBY]
def el_sl (k r i m:Nat) (C1:List D -> Prop):okL (zBY H k (.sl r i m)) C1 = okR (H.get r) k fun xs=>zAt (i + m <= xs.length) (C1 ((xs.drop i).take m)) .mk:=by
 simp only [okL,okR,zAt,zBY,eq_iff_iff]
 constructor
 ·rintro ⟨ys,h1,h2⟩
  split at h1
  ·rename_i k' xs hg
   split at h1
   ·rename_i hk;obtain ⟨rfl,hle⟩:=hk;simp at h1;subst h1;exact ⟨xs,hg,hle,h2⟩
   ·simp at h1
  ·simp at h1
 ·rintro ⟨xs,hg,hle,h2⟩
  exact ⟨_,by simp only [hg];rw [if_pos ⟨trivial,hle⟩],h2⟩
def pick_v {b:Bool} {x y:D}:aPick (.v (.bool b)) x y D1 = D1 (if b then x else y):=rfl
def zDS {off ft z r j o f:Nat} (hf:tfld P s f = some (off,ft)) (hz:tsz P ft = some (z + 1)):zAh P s (.pt r j o) f D1 = D1 (.pt r j (o + off)):=by simp [zAh,hf,hz]
def zDT {off ft z j o f k:Nat} {xs:List D} (hf:tfld P s f = some (off,ft)) (hz:tsz P ft = some (z + 1)):zAh P s (.fp k xs j o) f D1 = D1 (.fp k xs j (o + off)):=by simp [zAh,hf,hz]
def extract_tup {cs:List D}:aExtract (.tup cs) i D1 = okK (cs[i]?) D1:=rfl
variable {m n:Int} {ik:IntKind}
def bin_add:aBin P .add t (.v (.int ik m)) (.v (.int ik n)) D1 = D1 (.v (.int ik (ik.wrap (m + n)))):=by simp [aBin,aInt]
def bin_sub:aBin P .sub t (.v (.int ik m)) (.v (.int ik n)) D1 = D1 (.v (.int ik (ik.wrap (m - n)))):=by simp [aBin,aInt]
def bin_mul:aBin P .mul t (.v (.int ik m)) (.v (.int ik n)) D1 = D1 (.v (.int ik (ik.wrap (m * n)))):=by simp [aBin,aInt]
def bin_quo:aBin P .quo t (.v (.int ik m)) (.v (.int ik n)) D1 = zAt (n ≠ 0) (D1 (.v (.int ik (ik.wrap (m.tdiv n))))) .mk:=by simp [aBin,aInt,zAt]
def bin_rem:aBin P .rem t (.v (.int ik m)) (.v (.int ik n)) D1 = zAt (n ≠ 0) (D1 (.v (.int ik (m.tmod n)))) .mk:=by simp [aBin,aInt,zAt]
def bin_and:aBin P .and t (.v (.int ik m)) (.v (.int ik n)) D1 = D1 (.v (.int ik (ik.wrap (BitVec.ofInt ik.bits m &&& BitVec.ofInt ik.bits n).toNat))):=by simp [aBin,aInt]
def bin_or:aBin P .or t (.v (.int ik m)) (.v (.int ik n)) D1 = D1 (.v (.int ik (ik.wrap (BitVec.ofInt ik.bits m ||| BitVec.ofInt ik.bits n).toNat))):=by simp [aBin,aInt]
def bin_xor:aBin P .xor t (.v (.int ik m)) (.v (.int ik n)) D1 = D1 (.v (.int ik (ik.wrap (BitVec.ofInt ik.bits m ^^^ BitVec.ofInt ik.bits n).toNat))):=by simp [aBin,aInt]
def bin_eql:aBin P .eql t (.v (.int ik m)) (.v (.int ik n)) D1 = D1 (.v (.bool (decide (m = n)))):=by simp [aBin,aInt];rfl
def bin_neq:aBin P .neq t (.v (.int ik m)) (.v (.int ik n)) D1 = D1 (.v (.bool (decide (m ≠ n)))):=by
 have:(m != n) = decide (m ≠ n):=by by_cases h:m = n <;> simp [h]
 simp only [aBin,aInt,true_and,this]
def bin_lss:aBin P .lss t (.v (.int ik m)) (.v (.int ik n)) D1 = D1 (.v (.bool (decide (m < n)))):=by simp [aBin,aInt]
def bin_leq:aBin P .leq t (.v (.int ik m)) (.v (.int ik n)) D1 = D1 (.v (.bool (decide (m <= n)))):=by simp [aBin,aInt]
def bin_gtr:aBin P .gtr t (.v (.int ik m)) (.v (.int ik n)) D1 = D1 (.v (.bool (decide (n < m)))):=by simp [aBin,aInt]
def bin_geq:aBin P .geq t (.v (.int ik m)) (.v (.int ik n)) D1 = D1 (.v (.bool (decide (n <= m)))):=by simp [aBin,aInt]
def bin_shl {jk:IntKind}:aBin P .shl t (.v (.int ik m)) (.v (.int jk n)) D1 = zAt (0 <= n) (D1 (.v (.int ik (ik.wrap (m * 2 ^ min n.toNat ik.bits))))) .mk:=rfl
def bin_shr {jk:IntKind}:aBin P .shr t (.v (.int ik m)) (.v (.int jk n)) D1 = zAt (0 <= n) (D1 (.v (.int ik (m.fdiv (2 ^ min n.toNat ik.bits))))) .mk:=rfl
def bin_str {o:BinOp} {u v:ByteArray}:aBin P o t (.v (.string u)) (.v (.string v)) D1 = aStr o u v fun r=>D1 (.v r):=rfl
def nc_pt {r j o:Nat}:zCl (.pt r j o) D1 = D1 (.pt r j o):=rfl
def nc_fp {kk j o:Nat} {xs:List D}:zCl (.fp kk xs j o) D1 = D1 (.fp kk xs j o):=rfl
def nc_fn {gf:FuncId} {fs cs:List D}:zCl (.fn (.func gf) fs cs) D1 = D1 (.fn (.func gf) fs cs):=rfl
def un_neg:aUn .neg (.v (.int ik m)) D1 = D1 (.v (.int ik (ik.wrap (0 - m)))):=rfl
def un_not {b:Bool}:aUn .not (.v (.bool b)) D1 = D1 (.v (.bool !b)):=rfl
def indexAddr_fz {el k:Nat} {xs:List D} {jk:IntKind} (he:zBI P t = some el) (hz:tsz P el = some k):zBC P t H (.fz k xs) (.v (.int jk n)) D1 = zAt (0 <= n /\ n < xs.length) (D1 (.fp k xs n.toNat 0)) .mk:=by
 simp [zBC,he,hz,zAt]
def len_fz {ts:Array TypeId} {tt:TypeId} {k:Nat} {xs:List D} {el:TypeId} (h1:ts[0]? = some tt) (h2:P.underlying tt = some (.slice el)):zAk P .len ts [.fz k xs] D1 = D1 (.v (.int .i64 xs.length)):=by simp [zAk,h1,aLen,h2]
def len_sl {ts:Array TypeId} {tt:TypeId} {r j len:Nat} {el:TypeId} (h1:ts[0]? = some tt) (h2:P.underlying tt = some (.slice el)):zAk P .len ts [.sl r j len] D1 = D1 (.v (.int .i64 len)):=by simp [zAk,h1,aLen,h2]
def len_nil {ts:Array TypeId} {tt:TypeId} {el:TypeId} (h1:ts[0]? = some tt) (h2:P.underlying tt = some (.slice el)):zAk P .len ts [.v (.slice none 0 0)] D1 = D1 (.v (.int .i64 0)):=by simp [zAk,h1,aLen,h2]
def len_str {ts:Array TypeId} {tt:TypeId} {u:ByteArray} (h1:ts[0]? = some tt) (h2:P.underlying tt = some .string):zAk P .len ts [.v (.string u)] D1 = D1 (.v (.int .i64 u.size)):=by simp [zAk,h1,aLen,h2]
def max_int {ts:Array TypeId} {jk:IntKind}:zAk P .max ts [.v (.int ik m),.v (.int jk n)] D1 = D1 (.v (.int ik (if n > m then n else m))):=by simp [zAk,aMinMax]
def min_int {ts:Array TypeId} {jk:IntKind}:zAk P .min ts [.v (.int ik m),.v (.int jk n)] D1 = D1 (.v (.int ik (if n < m then n else m))):=by simp [zAk,aMinMax]
def ldD_fp {tg:Bool} {z j o k:Nat} {xs:List D} (h1:tag P t = some tg) (h2:tsz P t = some z):ldD P t H (.fp k xs j o) = (xs[j]?).bind (zBV tg z · o):=by simp [ldD,h1,h2]
def part_f (cs:List D) (z o:Nat):zBV false z (.agg cs) o = cs[o]?:=rfl
def part_fv (v:Value) (z:Nat):zBV false z (.v v) 0 = some (.v v):=rfl
def part_fz (k:Nat) (xs:List D) (z:Nat):zBV false z (.fz k xs) 0 = some (.fz k xs):=rfl
def part_fsl (r j n z:Nat):zBV false z (.sl r j n) 0 = some (.sl r j n):=rfl
def part_fslc (r j n c z:Nat):zBV false z (.slc r j n c) 0 = some (.slc r j n c):=rfl
def part_fmp (r z:Nat):zBV false z (.mp r) 0 = some (.mp r):=rfl
def part_fifc (t:TypeId) (d:D) (z:Nat):zBV false z (.ifc t d) 0 = some (.ifc t d):=rfl
def part_fpt (r j n z:Nat):zBV false z (.pt r j n) 0 = some (.pt r j n):=rfl
def part_ffn (f:Fn) (a b:List D) (z:Nat):zBV false z (.fn f a b) 0 = some (.fn f a b):=rfl
def part_t (cs:List D) (z o:Nat) (h:decide (o + z <= cs.length) = true):zBV true z (.agg cs) o = some (.agg (if o = 0 /\ z = cs.length then cs else (cs.drop o).take z)):=by
 simp at h;simp [zBV,h]
def put_f (cs:List D) (o:Nat) (x:D) (h:decide (o < cs.length) = true) (h1:x.one = true):putD false 1 (.agg cs) o x = some (.agg (cs.set o x)):=by simp at h;simp [putD,h,h1]
def put_fv (v:Value) (x:D) (h1:x.one = true):putD false 1 (.v v) 0 x = some x:=by simp [putD,h1]
def put_fz (k:Nat) (xs:List D) (x:D) (h1:x.one = true):putD false 1 (.fz k xs) 0 x = some x:=by simp [putD,h1]
def put_fsl (r j n:Nat) (x:D) (h1:x.one = true):putD false 1 (.sl r j n) 0 x = some x:=by simp [putD,h1]
def put_fslc (r j n c:Nat) (x:D) (h1:x.one = true):putD false 1 (.slc r j n c) 0 x = some x:=by simp [putD,h1]
def put_fmp (r:Nat) (x:D) (h1:x.one = true):putD false 1 (.mp r) 0 x = some x:=by simp [putD,h1]
def put_fifc (t:TypeId) (d x:D) (h1:x.one = true):putD false 1 (.ifc t d) 0 x = some x:=by simp [putD,h1]
def put_fpt (r j n:Nat) (x:D) (h1:x.one = true):putD false 1 (.pt r j n) 0 x = some x:=by simp [putD,h1]
def put_ffn (f:Fn) (a b:List D) (x:D) (h1:x.one = true):putD false 1 (.fn f a b) 0 x = some x:=by simp [putD,h1]
def put_t (cs ds:List D) (z:Nat) (h:decide (cs.length = z) = true) (h2:decide (ds.length = z) = true) (h1:ds.all D.one = true):putD true z (.agg cs) 0 (.agg ds) = some (.agg ds):=by
 simp at h h2;subst h;simp [putD,h2];simpa using h1
def alloc_z {d:D} (hz:zCy P t = some d):aAlloc P t H C = zAt (d.lies = true) (C (.pt H.length 0 0) (H ++ [some (.cells d.width [d])])) .mk:=by simp [aAlloc,hz,zAt]
def box_x {x:D}:aBox x H C = zAt (x.lies = true) (C (.pt H.length 0 0) (H ++ [some (.cells x.width [x])])) .mk:=rfl
def build_z {zs:List D} {fl:List (Nat × Nat)} {ps:List (Nat × D)} (hz:zCy P t = some (.agg zs)) (hf:fieldsOf P t = some fl):aBuild P t ps D1 = okK ((fillD (fl[·]?) zs ps).map .agg) D1:=by
 simp only [aBuild,hz,hf,okK,yAb,eq_iff_iff]
 constructor
 ·rintro ⟨cs,h1,h2⟩;exact ⟨_,⟨cs,h1,rfl⟩,h2⟩
 ·rintro ⟨_,⟨cs,h1,rfl⟩,h2⟩;exact ⟨cs,h1,h2⟩
end
def one_int (k:IntKind) (n:Int):(D.v (.int k n)).one = true:=rfl
def one_bool (b:Bool):(D.v (.bool b)).one = true:=rfl
def one_str (s:ByteArray):(D.v (.string s)).one = true:=rfl
def one_nil (a:Option Addr) (m c:Nat):(D.v (.slice a m c)).one = true:=rfl
def one_fz (k:Nat) (xs:List D):(D.fz k xs).one = true:=rfl
def one_sl (r i m:Nat):(D.sl r i m).one = true:=rfl
def one_slc (r i m c:Nat):(D.slc r i m c).one = true:=rfl
def one_mp (r:Nat):(D.mp r).one = true:=rfl
def one_ifc (t:TypeId) (d:D):(D.ifc t d).one = true:=rfl
def one_nilIface:(D.v .nilIface).one = true:=rfl
def one_pt (r i m:Nat):(D.pt r i m).one = true:=rfl
def one_fn (f:Fn) (a b:List D):(D.fn f a b).one = true:=rfl
def lies_int (k:IntKind) (n:Int):(D.v (.int k n)).lies = true:=rfl
def lies_bool (b:Bool):(D.v (.bool b)).lies = true:=rfl
def lies_str (s:ByteArray):(D.v (.string s)).lies = true:=rfl
def lies_nil (a:Option Addr) (m c:Nat):(D.v (.slice a m c)).lies = true:=rfl
def lies_fz (k:Nat) (xs:List D):(D.fz k xs).lies = true:=rfl
def lies_sl (r i m:Nat):(D.sl r i m).lies = true:=rfl
def lies_slc (r i m c:Nat):(D.slc r i m c).lies = true:=rfl
def lies_mp (r:Nat):(D.mp r).lies = true:=rfl
def lies_ifc (t:TypeId) (d:D):(D.ifc t d).lies = true:=rfl
def lies_nilIface:(D.v .nilIface).lies = true:=rfl
def lies_pt (r i m:Nat):(D.pt r i m).lies = true:=rfl
def lies_fn (f:Fn) (a b:List D):(D.fn f a b).lies = true:=rfl
def lies_agg (cs:List D):(D.agg cs).lies = cs.all D.one:=rfl
def width_agg (cs:List D):(D.agg cs).width = cs.length:=rfl
def width_v (v:Value):(D.v v).width = 1:=rfl
def width_fz (k:Nat) (xs:List D):(D.fz k xs).width = 1:=rfl
def width_sl (r i m:Nat):(D.sl r i m).width = 1:=rfl
def width_slc (r i m c:Nat):(D.slc r i m c).width = 1:=rfl
def width_mp (r:Nat):(D.mp r).width = 1:=rfl
def width_ifc (t:TypeId) (d:D):(D.ifc t d).width = 1:=rfl
def width_pt (r i m:Nat):(D.pt r i m).width = 1:=rfl
def width_fn (f:Fn) (a b:List D):(D.fn f a b).width = 1:=rfl
def rowXs:Option Row -> Option (List D)
 | some (.cells _ xs)=>some xs
 | _=>none
def rowK:Option Row -> Option Nat
 | some (.cells k _)=>some k
 | _=>none
def rowXs_some (k:Nat) (xs:List D):rowXs (some (.cells k xs)) = some xs:=rfl
def rowK_some (k:Nat) (xs:List D):rowK (some (.cells k xs)) = some k:=rfl
def okZ (o:Option Int) (C:Int -> Prop):Prop:=∃ z,o = some z /\ C z
def okZ_some (z:Int) (C:Int -> Prop):okZ (some z) C = C z:=by simp [okZ]
@[congr] theorem okZ_congr {o o':Option Int} {C:Int -> Prop} (h:o = o'):okZ o C = okZ o' C:=by rw [h]
def bound_none (k:IntKind) (n:Int):zAc (.v (.int k n)) none = some n:=rfl
def bound_some (d:D) (k:IntKind) (n:Int):zAc d (some (.v (.int k n))) = some n:=rfl
def nilK (ys:List D) (A B:Prop) (t:Tag A B):Prop:=(ys = [] -> A) /\ (¬ ys = [] -> B)
def nilK_nil (A B:Prop) (t:Tag A B):nilK [] A B t = A:=by simp [nilK]
def nilK_cons (y:D) (ys:List D) (A B:Prop) (t:Tag A B):nilK (y :: ys) A B t = B:=by simp [nilK]
def getM (es:MapD) (q:Option Nat) (z:D) (ok:Bool):Option D :=
 match q.bind fun i=>(es[i]?).map (·.2.2) with
 | some d=>some (if ok then .tup [d,.v (.bool true)] else d)
 | none=>some (if ok then .tup [z,.v (.bool false)] else z)
section
variable {P:Program} {t s:TypeId} {H:Heap} {C:D -> Heap -> Prop} {D1:D -> Prop}
def ld_pt {tg:Bool} {z r j o:Nat} (h1:tag P t = some tg) (h2:tsz P t = some z):ldD P t H (.pt r j o) = ((rowXs (H.get r)).bind fun xs=>xs[j]?).bind (zBV tg z · o):=by
 simp only [ldD,h1,h2]
 cases H.get r with
 | none=>rfl
 | some row=>cases row <;> rfl
def stRow (H:Heap) (r j:Nat) (tg:Bool) (z o:Nat) (x:D):Option Row -> Option Heap
 | some (.cells k xs)=>((xs[j]?).bind fun e=>putD tg z e o x).map fun e'=>H.set r (some (.cells k (xs.set j e')))
 | _=>none
def stRow_some (H:Heap) (r j:Nat) (tg:Bool) (z o:Nat) (x:D) (k:Nat) (xs:List D):stRow H r j tg z o x (some (.cells k xs)) = ((xs[j]?).bind fun e=>putD tg z e o x).map fun e'=>H.set r (some (.cells k (xs.set j e'))):=rfl
def st_pt {tg:Bool} {z r j o:Nat} {x:D} (h1:tag P t = some tg) (h2:tsz P t = some z):stD P t H (.pt r j o) x = stRow H r j tg z o x (H.get r):=by
 simp only [stD,h1,h2]
 cases H.get r with
 | none=>rfl
 | some row=>cases row <;> rfl
def ix_sl {el k r j:Nat} {len:Nat} {n:Int} {jk:IntKind} (he:zBI P t = some el) (hz:tsz P el = some k):zBC P t H (.sl r j len) (.v (.int jk n)) D1 = zAt (rowK (H.get r) = some k) (zAt (0 <= n /\ n < len) (D1 (.pt r (j + n.toNat) 0)) .mk) .mk:=by
 simp only [zBC,he,hz,zAt,eq_iff_iff]
 constructor
 ·rintro ⟨h1,⟨k',xs,h2,h3⟩,h4⟩;simp at h3;subst h3;exact ⟨by simp [h2,rowK],h1,h4⟩
 ·rintro ⟨h1,h2,h3⟩
  refine ⟨h2,?_,h3⟩
  unfold rowK at h1
  split at h1
  ·rename_i k' xs hg;simp at h1;subst h1;exact ⟨_,xs,hg,rfl⟩
  ·simp at h1
def slice_sl {el k r j len:Nat} {lo hi:Option D} (hu:P.underlying t = some (.slice el)) (hz:tsz P el = some k) {tg:Tag (zAx P t (.sl r j len) lo hi none D1) (zAx P t (.sl r j len) lo hi none D1)}:zAt (zBd P t H (.sl r j len)) (zAx P t (.sl r j len) lo hi none D1) tg = zAt (rowK (H.get r) = some k) (okZ (zAc (.v (.int .i64 0)) lo) fun l=>okZ (zAc (.v (.int .i64 len)) hi) fun h=>zAt (0 <= l /\ l <= h /\ h <= len) (D1 (.sl r (j + l.toNat) (h.toNat - l.toNat))) .mk) .mk:=by
 have he:zBI P t = some el:=by simp [zBI,hu]
 have h0:(∃ k',tsz P el = some k' /\ ∃ xs,H.get r = some (.cells k' xs)) ↔ rowK (H.get r) = some k:=by
  rw [hz];simp only [yAH,exists_eq_left']
  unfold rowK
  constructor
  ·rintro ⟨xs,hg⟩;simp [hg]
  ·intro h1
   split at h1
   ·rename_i k' xs hg;simp at h1;subst h1;exact ⟨xs,hg⟩
   ·simp at h1
 simp only [zAt,zBd,he,zAx,hu,h0,eq_iff_iff,okZ]
 cases hl:zAc (.v (.int .i64 0)) lo with
 | none=>simp
 | some l=>cases hb:zAc (.v (.int .i64 len)) hi <;> simp
def slice_fz {el k:Nat} {xs:List D} {lo hi:Option D} (hu:P.underlying t = some (.slice el)) (hz:tsz P el = some k) {tg:Tag (zAx P t (.fz k xs) lo hi none D1) (zAx P t (.fz k xs) lo hi none D1)}:zAt (zBd P t H (.fz k xs)) (zAx P t (.fz k xs) lo hi none D1) tg = okZ (zAc (.v (.int .i64 0)) lo) fun l=>okZ (zAc (.v (.int .i64 xs.length)) hi) fun h=>zAt (0 <= l /\ l <= h /\ h <= xs.length) (D1 (.fz k ((xs.drop l.toNat).take (h.toNat - l.toNat)))) .mk:=by
 have he:zBI P t = some el:=by simp [zBI,hu]
 simp only [zAt,zBd,he,zAx,hu,hz,eq_iff_iff,yAH,and_true,okZ]
 cases hl:zAc (.v (.int .i64 0)) lo with
 | none=>simp
 | some l=>cases hb:zAc (.v (.int .i64 xs.length)) hi <;> simp
def slice_nil {el k:Nat} {lo hi:Option D} (hu:P.underlying t = some (.slice el)) (hz:tsz P el = some k) {tg:Tag (zAx P t (.v (.slice none 0 0)) lo hi none D1) (zAx P t (.v (.slice none 0 0)) lo hi none D1)}:zAt (zBd P t H (.v (.slice none 0 0))) (zAx P t (.v (.slice none 0 0)) lo hi none D1) tg = okZ (zAc (.v (.int .i64 0)) lo) fun l=>okZ (zAc (.v (.int .i64 0)) hi) fun h=>zAt (l = 0 /\ h = 0) (D1 (.v (.slice none 0 0))) .mk:=by
 have he:zBI P t = some el:=by simp [zBI,hu]
 simp only [zAt,zBd,he,zAx,hu,hz,eq_iff_iff,yAH,and_true,okZ]
 cases hl:zAc (.v (.int .i64 0)) lo with
 | none=>simp
 | some l=>cases hb:zAc (.v (.int .i64 0)) hi <;> simp [and_assoc]
def append_sl {ts:Array TypeId} {tt t1 el:TypeId} {k b r i m:Nat} {z x:D} (h0:ts[0]? = some tt) (h1:ts[1]? = some t1) (he:zBI P tt = some el) (hk:tsz P el = some k) (hb:tby P el = some (b + 1)) (hz:zCy P el = some z) (hzw:z.width = k) (hi:isIntT P t1 = some false) :
  zBD P ts [.sl r i m,x] H C = okL (zBY H k x.wk) fun ys=>okR (H.get r) k fun xs=>zAt (i + m = xs.length /\ (m + ys.length) * (b + 1) <= 140737488355328) (C (.sl H.length 0 (m + ys.length)) (H.set r none ++ [some (.cells k (xs.drop i ++ ys))])) .mk:=by
 simp only [zBD,aAppend,h0,h1,he,hk,hb,hz,hzw,hi,true_and,eq_iff_iff,ne_eq,Nat.add_eq_zero_iff,Nat.one_ne_zero,and_false,not_false_eq_true,okL,okR,zAt,and_assoc]
def append_nil {ts:Array TypeId} {tt t1 el:TypeId} {k b:Nat} {z x:D} (h0:ts[0]? = some tt) (h1:ts[1]? = some t1) (he:zBI P tt = some el) (hk:tsz P el = some k) (hb:tby P el = some (b + 1)) (hz:zCy P el = some z) (hzw:z.width = k) (hi:isIntT P t1 = some false) :
  zBD P ts [.v (.slice none 0 0),x] H C = okL (zBY H k x.wk) fun ys=>zAt (ys.length * (b + 1) <= 140737488355328) (nilK ys (C (.v (.slice none 0 0)) H) (C (.sl H.length 0 ys.length) (H ++ [some (.cells k ys)])) .mk) .mk:=by
 simp only [zBD,aAppend,h0,h1,he,hk,hb,hz,hzw,hi,true_and,eq_iff_iff,ne_eq,Nat.add_eq_zero_iff,Nat.one_ne_zero,and_false,not_false_eq_true,okL,zAt,nilK,yBL]
def append_slc {ts:Array TypeId} {tt t1 el:TypeId} {k r i m c:Nat} {x:D} (h0:ts[0]? = some tt) (h1:ts[1]? = some t1) (he:zBI P tt = some el) (hk:tsz P el = some k) (hi:isIntT P t1 = some false) :
  zBD P ts [.slc r i m c,x] H C = okL (zBY H k x.wk) fun ys=>okR (H.get r) k fun xs=>zAt (m + ys.length <= c /\ i + c <= xs.length) (C (.slc r i (m + ys.length) c) (H.set r (some (.cells k (splice xs (i + m) ys))))) .mk:=by
 simp only [zBD,aAppendC,h0,h1,he,hk,hi,true_and,eq_iff_iff,okL,okR,zAt,and_assoc]
 constructor
 ·rintro ⟨ys,xs,a,b,c,d⟩;exact ⟨ys,a,xs,b,c,d⟩
 ·rintro ⟨ys,a,xs,b,c,d⟩;exact ⟨ys,xs,a,b,c,d⟩
def slice_slc {el k r i m c:Nat} {lo hi:Option D} (he:zBI P t = some el) (hz:tsz P el = some k):zCw P t H (.slc r i m c) lo hi none D1 = zAt (rowK (H.get r) = some k) (okZ (zAc (.v (.int .i64 0)) lo) fun l=>okZ (zAc (.v (.int .i64 m)) hi) fun h=>zAt (0 <= l /\ l <= h /\ h <= c) (D1 (.slc r (i + l.toNat) (h.toNat - l.toNat) (c - l.toNat))) .mk) .mk:=by
 have h0:(∃ xs,H.get r = some (.cells k xs)) ↔ rowK (H.get r) = some k:=by
  unfold rowK
  constructor
  ·rintro ⟨xs,hg⟩;simp [hg]
  ·intro h1
   split at h1
   ·rename_i k' xs hg;simp at h1;subst h1;exact ⟨xs,hg⟩
   ·simp at h1
 simp only [zCw,aSliceC,he,hz,true_and,h0,zAt,okZ,eq_iff_iff]
 constructor
 ·rintro ⟨a,l,h,b,c,d⟩;exact ⟨a,l,b,h,c,d⟩
 ·rintro ⟨a,l,b,h,c,d⟩;exact ⟨a,l,h,b,c,d⟩
def sliceE_sl {r i m:Nat} {lo hi mx:Option D}:zCw P t H (.sl r i m) lo hi mx D1 = zAt (zBd P t H (.sl r i m)) (zAx P t (.sl r i m) lo hi mx D1) .mk:=rfl
def sliceE_fz {k:Nat} {xs:List D} {lo hi mx:Option D}:zCw P t H (.fz k xs) lo hi mx D1 = zAt (zBd P t H (.fz k xs)) (zAx P t (.fz k xs) lo hi mx D1) .mk:=rfl
def sliceE_v {v:Value} {lo hi mx:Option D}:zCw P t H (.v v) lo hi mx D1 = zAt (zBd P t H (.v v)) (zAx P t (.v v) lo hi mx D1) .mk:=rfl
def makeMap_n:aMakeMap P t none H C = C (.mp H.length) (H ++ [some (.mp [] 0)]):=by simp [aMakeMap]
def makeMap_z {k:IntKind} {n:Int} (h:(tmap P t).isSome = true):aMakeMap P t (some (.v (.int k n))) H C = C (.mp H.length) (H ++ [some (.mp [] 0)]):=by simp [aMakeMap,h]
def okM (o:Option Row) (C:MapD -> Nat -> Prop):Prop:=∃ es cl,o = some (.mp es cl) /\ C es cl
def okM_some (es:MapD) (cl:Nat) (C:MapD -> Nat -> Prop):okM (some (.mp es cl)) C = C es cl:=by
 simp only [okM,eq_iff_iff,yAH,Row.mp.injEq]
 exact ⟨by rintro ⟨a,b,⟨rfl,rfl⟩,h⟩;exact h,fun h=>⟨_,_,⟨rfl,rfl⟩,h⟩⟩
@[congr] theorem okM_congr {o o':Option Row} {C:MapD -> Nat -> Prop} (h:o = o'):okM o C = okM o' C:=by rw [h]
def okQ (o:Option (Option Nat)) (C:Option Nat -> Prop):Prop:=∃ q,o = some q /\ C q
def okQ_some (q:Option Nat) (C:Option Nat -> Prop):okQ (some q) C = C q:=by simp [okQ]
@[congr] theorem okQ_congr {o o':Option (Option Nat)} {C:Option Nat -> Prop} (h:o = o'):okQ o C = okQ o' C:=by rw [h]
def mapUpdate_mp {k el:TypeId} {kd:TypeDesc} {r:Nat} {kv:Value} {x:D} (hm:tmap P t = some (k,el,kd)):zBx P t (.mp r) (.v kv) x H C = okM (H.get r) fun es cl=>okQ (findD kd kv es 0) fun q=>C (.v undef) (H.set r (some (.mp (updM es cl kv x q).1 (updM es cl kv x q).2))):=by
 simp only [zBx,hm,okM,okQ,eq_iff_iff]
 constructor
 ·intro h;split at h
  ·rename_i es cl hg
   split at h
   ·rename_i q hq;exact ⟨es,cl,hg,q,hq,h⟩
   ·exact h.elim
  ·exact h.elim
 ·rintro ⟨es,cl,hg,q,hq,h⟩;simp only [hg,hq];exact h
def lk_mp {k el:TypeId} {kd:TypeDesc} {r:Nat} {kv:Value} {z:D} {ok:Bool} (hm:tmap P t = some (k,el,kd)) (hz:zCy P el = some z):okK (lkD P t H (.mp r) (.v kv) ok) D1 = okM (H.get r) fun es _=>okQ (findD kd kv es 0) fun q=>okK (getM es q z ok) D1:=by
 simp only [lkD,hm,okM,okQ,okK,eq_iff_iff]
 constructor
 ·rintro ⟨d,h1,h2⟩
  cases hg:H.get r with
  | none=>simp [hg] at h1
  | some row =>
   cases row with
   | mp es cl =>
    cases hq:findD kd kv es 0 with
    | none=>simp [hg,hq] at h1
    | some q =>
     refine ⟨es,cl,rfl,q,hq,d,?_,h2⟩
     cases q with
     | none=>simpa [hg,hq,hz,getM] using h1
     | some i =>
      cases hi:es[i]? with
      | none=>simpa [hg,hq,hz,getM,hi] using h1
      | some p=>simpa [hg,hq,hz,getM,hi] using h1
   | _=>simp [hg] at h1
 ·rintro ⟨es,cl,hg,q,hq,d,h1,h2⟩
  refine ⟨d,?_,h2⟩
  cases q with
  | none=>simpa [hg,hq,hz,getM] using h1
  | some i =>
   cases hi:es[i]? with
   | none=>simpa [hg,hq,hz,getM,hi] using h1
   | some p=>simpa [hg,hq,hz,getM,hi] using h1
inductive TagP (A:Nat × Value × D -> Prop):Type where
 | mk
def lenL_x {ts:Array TypeId} {x:D}:aLenL P ts [x] H D1 = okK (lenD P ts H x) D1:=rfl
def lend_fz {tt el:TypeId} {k:Nat} {xs:List D} (h2:P.underlying tt = some (.slice el)):lenD P #[tt] H (.fz k xs) = some (.v (.int .i64 xs.length)):=by simp [lenD,h2]
def lend_sl {tt el:TypeId} {r i m:Nat} (h2:P.underlying tt = some (.slice el)):lenD P #[tt] H (.sl r i m) = some (.v (.int .i64 m)):=by simp [lenD,h2]
def lend_slc {tt el:TypeId} {r i m c:Nat} (h2:P.underlying tt = some (.slice el)):lenD P #[tt] H (.slc r i m c) = some (.v (.int .i64 m)):=by simp [lenD,h2]
def lend_nil {tt el:TypeId} (h2:P.underlying tt = some (.slice el)):lenD P #[tt] H (.v (.slice none 0 0)) = some (.v (.int .i64 0)):=by simp [lenD,h2]
def lend_str {tt:TypeId} {u:ByteArray} (h2:P.underlying tt = some .string):lenD P #[tt] H (.v (.string u)) = some (.v (.int .i64 u.size)):=by simp [lenD,h2]
def lenRow:Option Row -> Option D
 | some (.mp es _)=>some (.v (.int .i64 es.length))
 | _=>none
def lenRow_mp (es:MapD) (cl:Nat):lenRow (some (.mp es cl)) = some (.v (.int .i64 es.length)):=rfl
def buildSlice_z {el k n:Nat} {ps:List (Nat × D)} (he:zBI P t = some el) (hk:tsz P el = some k) (hz:((P.info? el).bind (·.zero)).isSome = true):zBn P t n ps H C = zAt ((ps.map (·.1) = List.range n) /\ n * k <= 16777216 /\ (ps.all fun p=>p.2.width == k && p.2.lies) = true) (C (.sl H.length 0 n) (H ++ [some (.cells k (ps.map (·.2)))])) .mk:=by
 simp only [zBn,he,hk,hz,zAt,implies_true,true_and,and_assoc]
end
section
variable {α β:Type}
def l_map_nil (f:α -> β):List.map f [] = []:=rfl
def l_map_cons (f:α -> β) (x:α) (l:List α):List.map f (x :: l) = f x :: List.map f l:=rfl
def l_get_zero (x:α) (l:List α):(x :: l)[0]? = some x:=rfl
def l_get_succ (x:α) (l:List α) (n:Nat):(x :: l)[n + 1]? = l[n]?:=rfl
def o_bind_some (x:α) (f:α -> Option β):(some x).bind f = f x:=rfl
def o_map_some (x:α) (f:α -> β):(some x).map f = some (f x):=rfl
def o_map_none (f:α -> β):(none:Option α).map f = none:=rfl
def l_all_nil (f:α -> Bool):List.all [] f = true:=rfl
def l_all_cons (f:α -> Bool) (x:α) (l:List α):List.all (x :: l) f = (f x && List.all l f):=rfl
def l_len_nil:([]:List α).length = 0:=rfl
def l_len_cons (x:α) (l:List α):(x :: l).length = l.length + 1:=rfl
def l_app_nil (l:List α):[] ++ l = l:=rfl
def l_app_cons (x:α) (l m:List α):(x :: l) ++ m = x :: (l ++ m):=rfl
def l_getD_zero (x:α) (l:List α) (d:α):(x :: l).getD 0 d = x:=rfl
def l_getD_succ (x:α) (l:List α) (n:Nat) (d:α):(x :: l).getD (n + 1) d = l.getD n d:=by simp [List.getD]
def l_set_zero (x y:α) (l:List α):(x :: l).set 0 y = y :: l:=rfl
def l_set_succ (x y:α) (l:List α) (n:Nat):(x :: l).set (n + 1) y = x :: l.set n y:=rfl
def l_toL (l:List α):l.toArray.toList = l:=rfl
def b_and_tt:(true && true) = true:=rfl
def d_true:decide True = true:=rfl
def d_false:decide False = false:=rfl
def b_not_t:(!true) = false:=rfl
def b_not_f:(!false) = true:=rfl
end
def fillP (place:Nat -> Option (Nat × Nat)) (cs:List D) (x:D) (rest:List (Nat × D)):Option (Nat × Nat) -> Option (List D)
 | some (off,sz)=>if x.width = sz /\ off + sz <= cs.length /\ x.lies = true then fillD place (cs.take off ++ x.cells ++ cs.drop (off + sz)) rest else none
 | none=>none
def fill_nil (place:Nat -> Option (Nat × Nat)) (cs:List D):fillD place cs [] = some cs:=rfl
def fill_cons (place:Nat -> Option (Nat × Nat)) (cs:List D) (i:Nat) (x:D) (rest:List (Nat × D)):fillD place cs ((i,x) :: rest) = fillP place cs x rest (place i):=by
 simp only [fillD,fillP];cases place i <;> rfl
def fillP_some (place:Nat -> Option (Nat × Nat)) (cs:List D) (x:D) (rest:List (Nat × D)) (off sz:Nat):fillP place cs x rest (some (off,sz)) = if x.width = sz /\ off + sz <= cs.length /\ x.lies = true then fillD place (cs.take off ++ x.cells ++ cs.drop (off + sz)) rest else none:=rfl
def cells_v (v:Value):(D.v v).cells = [.v v]:=rfl
def cells_fz (k:Nat) (xs:List D):(D.fz k xs).cells = [.fz k xs]:=rfl
def cells_sl (r i m:Nat):(D.sl r i m).cells = [.sl r i m]:=rfl
def cells_slc (r i m c:Nat):(D.slc r i m c).cells = [.slc r i m c]:=rfl
def cells_pt (r i m:Nat):(D.pt r i m).cells = [.pt r i m]:=rfl
def cells_fn (f:Fn) (a b:List D):(D.fn f a b).cells = [.fn f a b]:=rfl
def cells_mp (r:Nat):(D.mp r).cells = [.mp r]:=rfl
def cells_ifc (t:TypeId) (d:D):(D.ifc t d).cells = [.ifc t d]:=rfl
def cells_agg (cs:List D):(D.agg cs).cells = cs:=rfl
def l_take_zero {α:Type} (l:List α):l.take 0 = []:=rfl
def l_take_nil {α:Type} (n:Nat):([]:List α).take n = []:=by simp
def l_take_succ {α:Type} (x:α) (l:List α) (n:Nat):(x :: l).take (n + 1) = x :: l.take n:=rfl
def l_drop_zero {α:Type} (l:List α):l.drop 0 = l:=rfl
def l_drop_nil {α:Type} (n:Nat):([]:List α).drop n = []:=by simp
def l_drop_succ {α:Type} (x:α) (l:List α) (n:Nat):(x :: l).drop (n + 1) = l.drop n:=rfl
def zAN:=And.intro @k_assert <| And.intro @k_lookup <| And.intro @k_entry <| And.intro @k_len <| And.intro @k_makeSlice <| And.intro @k_makeMap <| And.intro @k_range <| And.intro @k_mapUpdate <| And.intro @k_next <| And.intro @k_invK <| And.intro @k_invW <| And.intro @k_copy <| And.intro @k_delete <| And.intro @aops_cons <| And.intro @aops_guard <| And.intro @aops_nil <| And.intro @updO_some <| And.intro @updO_none <| And.intro @zAZ <| And.intro @zAd <| And.intro @ev_func <| And.intro @zAq <| And.intro @zAV <|
 And.intro @k_move <| And.intro @k_assign <| And.intro @k_pick <| And.intro @k_fieldAddr <| And.intro @k_field <| And.intro @k_extract <| And.intro @k_binOp <| And.intro @k_unOp <| And.intro @k_convert <| And.intro @k_indexAddr <| And.intro @k_index <| And.intro @k_nilCheck <| And.intro @k_build <|
 And.intro @k_makeFunc <| And.intro @k_makeInterface <| And.intro @k_slice <| And.intro @k_builtin <| And.intro @k_load <| And.intro @k_alloc <| And.intro @k_box <| And.intro @k_buildSlice <| And.intro @k_store <| And.intro @k_callK <| And.intro @k_callW <| And.intro @k_append <| And.intro @l_map_cons <| @l_map_nil
def zBU:=And.intro @fill_nil <| And.intro @fill_cons <| And.intro @fillP_some <| And.intro @cells_v <| And.intro @cells_fz <| And.intro @cells_sl <| And.intro @cells_slc <| And.intro @cells_pt <| And.intro @cells_fn <| And.intro @cells_mp <| And.intro @cells_ifc <| And.intro @cells_agg <| And.intro @l_take_zero <| And.intro @l_take_nil <| And.intro @l_take_succ <| And.intro @l_drop_zero <| And.intro @l_drop_nil <| And.intro @l_drop_succ <| And.intro @nc_pt <| And.intro @nc_fp <| And.intro @nc_fn <| And.intro @wk_sl <| And.intro @wk_slc <| And.intro @wk_fz <| And.intro @wk_v <| And.intro @wk_pt <| And.intro @wk_fp <| And.intro @binE_int <| And.intro @binE_str <| And.intro @binE_bool <| And.intro @binE_agg <| And.intro @okB_some <| And.intro @okL_some <| And.intro @okR_some <| And.intro @okZ_some <| And.intro @okM_some <| And.intro @okQ_some <| And.intro @el_nil <| And.intro @el_fz <| And.intro @el_sl <| And.intro @bound_none <| And.intro @bound_some <| And.intro @nilK_nil <| And.intro @nilK_cons <| And.intro @sliceE_sl <| And.intro @sliceE_fz <| And.intro @sliceE_v <| And.intro @makeMap_n <| And.intro @lenL_x <| And.intro @lenRow_mp <| And.intro @one_slc <| And.intro @one_mp <| And.intro @one_ifc <| And.intro @one_nilIface <| And.intro @lies_slc <| And.intro @lies_mp <| And.intro @lies_ifc <| And.intro @lies_nilIface <| And.intro @width_slc <| And.intro @width_mp <| And.intro @width_ifc <| And.intro @part_fslc <| And.intro @part_fmp <| And.intro @part_fifc <| And.intro @put_fslc <| And.intro @put_fmp <| And.intro @put_fifc <| And.intro @put_fpt <| And.intro @put_ffn <| And.intro @okK_some <| And.intro @okH_some <| And.intro @guardK_tt <| And.intro @guardK_ff <| And.intro @guardK_tf <| And.intro @guardK_ft <| And.intro @sideK_true <| And.intro @eO_some <| And.intro @slotOk_some <| And.intro @gslot_lit <| And.intro @dstOk_some <| And.intro @dstOk_none <| And.intro @envOf_app <| And.intro @envL_nil <|
 And.intro @get_cons_zero <| And.intro @get_cons_succ <| And.intro @callK_fn <| And.intro @callW_fn <| And.intro @pick_v <| And.intro @extract_tup <| And.intro @bin_add <| And.intro @bin_sub <| And.intro @bin_mul <| And.intro @bin_quo <| And.intro @bin_rem <| And.intro @bin_and <| And.intro @bin_or <| And.intro @bin_xor <| And.intro @bin_eql <| And.intro @bin_neq <| And.intro @bin_lss <| And.intro @bin_leq <| And.intro @bin_gtr <| And.intro @bin_geq <| And.intro @bin_shl <| And.intro @bin_shr <| And.intro @bin_str <|
 And.intro @un_neg <| And.intro @un_not <| And.intro @max_int <| And.intro @min_int <| And.intro @part_f <| And.intro @part_fv <| And.intro @part_fz <| And.intro @part_fsl <| And.intro @part_fpt <| And.intro @part_ffn <| And.intro @part_t <| And.intro @put_f <| And.intro @put_fv <| And.intro @put_fz <| And.intro @put_fsl <| And.intro @put_t <| And.intro @box_x <|
 And.intro @one_int <| And.intro @one_bool <| And.intro @one_str <| And.intro @one_nil <| And.intro @one_fz <| And.intro @one_sl <| And.intro @one_pt <| And.intro @one_fn <| And.intro @lies_int <| And.intro @lies_bool <| And.intro @lies_str <| And.intro @lies_nil <| And.intro @lies_fz <| And.intro @lies_sl <| And.intro @lies_pt <| And.intro @lies_fn <| And.intro @lies_agg <| And.intro @width_agg <| And.intro @width_v <| And.intro @width_fz <| And.intro @width_sl <| And.intro @width_pt <| And.intro @width_fn <| And.intro @rowXs_some <| And.intro @rowK_some <| And.intro @stRow_some <| And.intro @l_get_zero <| And.intro @l_get_succ <| And.intro @o_bind_some <| And.intro @o_map_some <| And.intro @o_map_none <| And.intro @l_all_nil <| And.intro @l_all_cons <| And.intro @l_len_nil <| And.intro @l_len_cons <| And.intro @l_app_nil <| And.intro @l_app_cons <| And.intro @l_getD_zero <| And.intro @l_getD_succ <| And.intro @l_set_zero <| And.intro @l_set_succ <| And.intro @l_toL <| And.intro @b_and_tt <| And.intro @d_true <| And.intro @d_false <| And.intro @b_not_t @b_not_f
section
variable {P:Program} {f:FuncId} {N n0:Nat} {R:D -> Heap -> Prop} {K:List Item} {e:Env} {H:Heap} {c:Operand} {x y:Code}
def run_if_t (hc:ev e c = .v (.bool true)) (h:Run P f N n0 R (.code x :: K) e H):Run P f N n0 R (.code (.cond c x y) :: K) e H:=run_cond hc (fun _=>h) fun h=>by cases h
def run_if_f (hc:ev e c = .v (.bool false)) (h:Run P f N n0 R (.code y :: K) e H):Run P f N n0 R (.code (.cond c x y) :: K) e H:=run_cond hc (fun h=>by cases h) fun _=>h
def run_if {p:Prop} [Decidable p] (hc:ev e c = .v (.bool (decide p))) (h1:p -> Run P f N n0 R (.code x :: K) e H) (h2:¬ p -> Run P f N n0 R (.code y :: K) e H):Run P f N n0 R (.code (.cond c x y) :: K) e H :=
 run_cond hc (fun h=>h1 (by simpa using h)) fun h=>h2 (by simpa using h)
def zCo {b:Bool} (hc:ev e c = .v (.bool b)) (h1:b = true -> Run P f N n0 R (.code x :: K) e H) (h2:b = false -> Run P f N n0 R (.code y :: K) e H):Run P f N n0 R (.code (.cond c x y) :: K) e H:=run_cond hc h1 h2
def keepE (e:Env) (ss:List Nat):List (Nat × D):=ss.map fun s=>(s,e s)
def keepE_cons (e:Env) (s:Nat) (ss:List Nat):keepE e (s :: ss) = (s,e s) :: keepE e ss:=rfl
def keepE_nil (e:Env):keepE e [] = []:=rfl
def zAD (ss:List Nat) (h:Run P f N n0 R K (envL (keepE e ss)) H):Run P f N n0 R K e H:=by
 intro hn0 own X w tmps cs hN hs he
 refine h hn0 own X w tmps cs hN hs fun i=>?_
 unfold envL
 cases hf:(keepE e ss).find? fun p=>p.1 == i with
 | none=>simp [Rel,VRel]
 | some p =>
  have hmem:=List.mem_of_find?_eq_some hf
  have hpi:p.1 = i:=by simpa using List.find?_some hf
  obtain ⟨s,_,rfl⟩:=yBC.1 hmem
  simp only [yBU,Option.getD_some]
  simp at hpi;subst hpi
  exact he s
end
def zDP (l:List Oper) (k:OpKind) (i:Nat) (r:List (OpKind × Nat)):zCQ l.toArray ((k,i) :: r) = ((l[i]?).map fun o=>(k,o)).toList ++ zCQ l.toArray r:=by
 simp only [zCQ,List.filterMap_cons,yBA]
 cases l[i]? <;> rfl
def planned_nil (ops:Array Oper):zCQ ops [] = []:=rfl
def o_toList {α:Type} (x:α):(some x).toList = [x]:=rfl
def EVq:=And.intro zBU <| And.intro @true_and <| And.intro @and_true <| And.intro @and_self <| And.intro not_true <| And.intro not_false_eq_true yBS
def KP:=And.intro @zAq @zAV
def KQ:=And.intro @keepE_cons <| And.intro @keepE_nil <| And.intro @envL_nil <| And.intro @envOf_app <| And.intro @l_getD_zero <| And.intro @l_getD_succ <| And.intro @o_map_some @o_bind_some
end Go.Ab
namespace Go.Ab
variable [Go.Ab.DM]
mutual
def leD:D -> D -> Prop
 | .v (.slice none 0 0),d=>d = .v (.slice none 0 0) \/ ∃ k,d = .fz k []
 | .agg xs,d=>∃ ys,d = .agg ys /\ lesD xs ys
 | .tup xs,d=>∃ ys,d = .tup ys /\ lesD xs ys
 | .slc r i m c,d=>d = .slc r i m c \/ d = .sl r i m
 | x,d=>d = x
termination_by x=>SizeOf.sizeOf x
def lesD:List D -> List D -> Prop
 | [],ys=>ys = []
 | x :: xs,ys=>∃ y r,ys = y :: r /\ leD x y /\ lesD xs r
termination_by xs=>SizeOf.sizeOf xs
end
section
variable {own:Nat -> Own} {U:Nat -> Prop} {w:World} {n:Nat}
mutual
def VRel_le:∀ (x d:D) (v:Value),leD x d -> VRel own U w n x v -> VRel own U w n d v
 | .agg xs,d,v,h,hv=>by
  simp only [leD] at h;obtain ⟨ys,rfl,h⟩:=h
  rw [VRel] at hv ⊢;obtain ⟨vs,h1,h2⟩:=hv;exact ⟨vs,h1,VRels_le xs ys vs h h2⟩
 | .tup xs,d,v,h,hv=>by
  simp only [leD] at h;obtain ⟨ys,rfl,h⟩:=h
  rw [VRel] at hv ⊢;obtain ⟨vs,h1,h2⟩:=hv;exact ⟨vs,h1,VRels_le xs ys vs h h2⟩
 | .slc r i m c,d,v,h,hv=>by
  simp only [leD] at h
  rcases h with rfl | rfl
  ·exact hv
  ·simp only [VRel] at hv ⊢;obtain ⟨h1,off,h2,h3,h4⟩:=hv;exact ⟨h1,off,c,h2,h3,h4⟩
 | .v x,d,v,h,hv=>by
  by_cases hx:x = .slice none 0 0
  ·subst hx
   simp only [leD] at h
   rcases h with rfl | ⟨k,rfl⟩
   ·exact hv
   ·simp only [VRel] at hv ⊢;exact ⟨none,0,hv,by simp,by simp⟩
  ·rw [leD] at h
   ·subst h;exact hv
   all_goals simp_all
 | .fz k xs,d,v,h,hv=>by simp only [leD] at h;subst h;exact hv
 | .fp k xs i o,d,v,h,hv=>by simp only [leD] at h;subst h;exact hv
 | .sl r i m,d,v,h,hv=>by simp only [leD] at h;subst h;exact hv
 | .pt r i m,d,v,h,hv=>by simp only [leD] at h;subst h;exact hv
 | .fn f a b,d,v,h,hv=>by simp only [leD] at h;subst h;exact hv
 | .ifc t x,d,v,h,hv=>by simp only [leD] at h;subst h;exact hv
 | .mp r,d,v,h,hv=>by simp only [leD] at h;subst h;exact hv
 | .any,d,v,h,hv=>by simp only [leD] at h;subst h;exact hv
termination_by x=>SizeOf.sizeOf x
def VRels_le:∀ (xs ys:List D) (vs:List Value),lesD xs ys -> VRels own U w n xs vs -> VRels own U w n ys vs
 | [],ys,vs,h,hv=>by simp only [lesD] at h;subst h;exact hv
 | x :: xs,ys,vs,h,hv=>by
  simp only [lesD] at h;obtain ⟨y,r,rfl,h1,h2⟩:=h
  rw [VRels] at hv ⊢;obtain ⟨v,us,rfl,h3,h4⟩:=hv
  exact ⟨v,us,rfl,VRel_le x y v h1 h3,VRels_le xs r us h2 h4⟩
termination_by xs=>SizeOf.sizeOf xs
end
end
section
variable {P:Program} {f:FuncId} {N n0:Nat} {R:D -> Heap -> Prop} {K:List Item} {e:Env} {H:Heap}
def weak_le {H:Heap} {d d' d'':D} {fuel:Nat} (h:frz H fuel d = some d') (hl:leD d' d''):Weak 0 H d [] d'':=by
 intro own X w v hn hs hr
 obtain ⟨own',h1,h2,h3⟩:=weak_frz h own X w v hn hs hr
 exact ⟨own',h1,VRel_le _ _ _ hl h2,h3⟩
def zCz {R:D -> Prop} {fn:Func} {rs:List ResultVar} {ds:List D} {d' d'':D} (fuel:Nat) (hf:P.funcs[f]? = some fn) (hr:fn.results = rs.toArray) (h:aRes P e H rs = some ds)
 (hz:frz H fuel (retD ds) = some d') (hl:leD d' d'') (hR:R d''):Run P f N 0 (fun d H'=>H' = [] /\ R d) (.code .ret :: K) e H:=zBk hf hr h (weak_le hz hl) ⟨rfl,hR⟩
def run_dead {H':Heap} (hl:H'.length = H.length) (hg:∀ r row,H'.get r = some row -> H.get r = some row) {s:Nat} {d:D}
  (hd:∀ own X w v,Sim own H X w -> Rel own H X w (e s) v -> Sim own H' X w -> Ext X own H w own H' w -> Rel own H' X w d v) (h:Run P f N n0 R K (upd e s d) H'):Run P f N n0 R K e H:=by
 intro hn0 own X w tmps cs hN hs he
 obtain ⟨h1,h2⟩:=step_drop hs hl hg
 have hfin:=h (by omega) own X w tmps cs hN h1 (fun i=>by
  unfold upd
  split
  ·rename_i hi;subst hi;exact hd own X w _ hs (he i) h1 h2
  ·exact h2.rel (he i))
 exact Fin.of_steps hn0 h2 (.refl _ _) hfin
def run_cut {r k j:Nat} {xs:List D} (hg:H.get r = some (.cells k xs)) (hj:j <= xs.length) (h:Run P f N n0 R K e (H.set r (some (.cells k (xs.take j))))):Run P f N n0 R K e H:=by
 have hrl:=Heap.get_lt hg
 intro hn0 own X w tmps cs hN hs he
 have hget:∀ r' row,Heap.get (H.set r (some (.cells k (xs.take j)))) r' = some row -> (r' = r /\ row = .cells k (xs.take j)) \/ (r' ≠ r /\ H.get r' = some row):=fun r' row h=>by
  rw [Heap.get_set H hrl] at h
  by_cases hrr:r' = r
  ·simp [hrr] at h;exact .inl ⟨hrr,h.symm⟩
  ·exact .inr ⟨hrr,by simpa [hrr] using h⟩
 have hlen:(H.set r (some (.cells k (xs.take j)))).length = H.length:=by simp
 have hx:Ext X own H w own (H.set r (some (.cells k (xs.take j)))) w:=⟨yAJ _,by omega,fun _ _=>rfl,fun b hb=>⟨⟨hb.1,hb.2.1,fun r' row h=>by
  rcases hget r' row h with ⟨rfl,_⟩ | ⟨_,h1⟩
  ·exact hb.2.2 _ _ hg
  ·exact hb.2.2 _ _ h1⟩,rfl⟩,fun _ _=>rfl,.refl _⟩
 have hs':Sim own (H.set r (some (.cells k (xs.take j)))) X w:=by
  refine ⟨fun r' row h=>?_,fun r₁ r₂ row₁ row₂ h₁ h₂ hne=>?_,hs.hid⟩
  ·rcases hget r' row h with ⟨rfl,rfl⟩ | ⟨_,h1⟩
   ·obtain ⟨⟨g1,c,t,g2,g3,g4,g5⟩,g6⟩:=hs.live _ _ hg
    rw [hlen]
    refine ⟨⟨g1,c,t,g2,g3,?_,?_⟩,g6⟩
    ·have:=yBY k (show (xs.take j).length <= xs.length by simp;omega);omega
    ·have g7:Cells own (zAQ own H X w) w H.length k (xs.take j) (own r').b (own r').base:=by
      rw [<- yAk j xs,zBf] at g5;exact g5.1
     have hk:=hx.keeps
     rw [hlen] at hk
     exact Cells.mono hk k _ _ _ (fun _=>rfl) g7
   ·exact ⟨RowOk.mono hx.keeps rfl (hs.live _ _ h1).1,(hs.live _ _ h1).2⟩
  ·have g:∀ r' row₁,Heap.get (H.set r (some (.cells k (xs.take j)))) r' = some row₁ -> ∃ row₂,H.get r' = some row₂:=fun r' row₁ h=>by
    rcases hget r' row₁ h with ⟨rfl,_⟩ | ⟨_,h1⟩
    ·exact ⟨_,hg⟩
    ·exact ⟨_,h1⟩
   obtain ⟨_,g1⟩:=g _ _ h₁
   obtain ⟨_,g2⟩:=g _ _ h₂
   exact hs.excl _ _ _ _ g1 g2 hne
 exact Fin.of_steps hn0 hx (.refl _ _) (h (by omega) own X w tmps cs hN hs' (he.ext hx))
def run_freeze {s r i m k:Nat} {xs:List D} (he:(e s).wk = .sl r i m) (hg:H.get r = some (.cells k xs)) (hm:i + m <= xs.length) (hn:zAg xs = true) (h:Run P f N n0 R K (upd e s (.fz k ((xs.drop i).take m))) (H.set r none)):Run P f N n0 R K e H:=by
 have hrl:=Heap.get_lt hg
 refine run_dead (H':=H.set r none) (by simp) (fun r' row h=>?_) (fun own X w v hs hr hs' hx=>?_) h
 ·rw [Heap.get_set H hrl] at h
  by_cases hrr:r' = r
  ·simp [hrr] at h
  ·simpa [hrr] using h
 ·have hr':=Rel_wk hr
  rw [he,Rel,VRel] at hr'
  obtain ⟨h1,off,c,rfl,h2,h3⟩:=hr'
  obtain ⟨⟨rfl,cc,ty,h5,h6,h7,h8⟩,h9⟩:=hs.live r _ hg
  have hl:((xs.drop i).take m).length = m:=by simp;omega
  rw [Rel,VRel]
  refine ⟨_,c,by rw [hl],by omega,fun h0=>?_⟩
  obtain ⟨e1,_⟩:=h3 (by omega)
  subst e1
  refine ⟨_,_,rfl,⟨?_,h9,fun r' row hr'=>?_⟩,?_⟩
  ·rcases yAZ (own r).b w.heap.size with h | h
   ·exact h
   ·simp [yAz h] at h5
  ·rw [Heap.get_set H hrl] at hr'
   by_cases hrr:r' = r
   ·simp [hrr] at hr'
   ·exact hs.excl _ _ _ _ (by simpa [hrr] using hr') hg hrr
  ·have h10:=Cells_mid h8 hm
   obtain ⟨g1,g2⟩:=Cells_flat.1 h10
   obtain ⟨g3,vs,g4,g5⟩:=Flat_values.1 g2
   have hall:zAg (((xs.drop i).take m).flatMap D.cells) = true:=by
    have key:∀ ys:List D,zAg ys = true ↔ ∀ d ∈ ys,d.noref = true:=by
     intro ys
     induction ys with
     | nil=>simp [zAg]
     | cons y ys ih=>rw [zAg,yAB,ih];simp
    rw [key] at hn ⊢
    intro d hd
    obtain ⟨x,hx,hdx⟩:=List.mem_flatMap.1 hd
    have hxn:=hn x (List.mem_of_mem_drop (yBJ hx))
    cases x <;> simp only [D.cells,yAm] at hdx
    case agg cs=>rw [D.noref] at hxn;exact (key cs).1 hxn d hdx
    all_goals (subst hdx;exact hxn)
   refine Cells_flat.2 ⟨g1,Flat_values.2 ⟨g3,vs,?_,g5⟩⟩
   have:=zCT _ _ hall g4
   exact VRels.mono ⟨yAJ _,fun _ h=>absurd h (yAr _),fun b hb=>(hx.hb b hb).1,fun _ _ _=>rfl⟩ _ _ this
end
end Go.Ab
namespace Go.T
section
variable {R S E A α:Type}
def sel (b:Bool) (x y:Option R):Option R:=bif b then x else y
def need (b:Bool) (x:Option R):Option R:=bif b then x else none
def call (x:Option A) (k:A -> Option R):Option R:=x.bind k
open Classical in
def callQ (p:A -> Prop) (k:A -> Option R):Option R:=if h:(∃ a,p a) /\ ∃ r,∀ a,p a -> k a = some r then some (Classical.choose h.2) else none
def join (x:Option (S ⊕ R)) (k:S -> Option R):Option R:=x.bind fun o=>match o with | .inl s=>k s | .inr r=>some r
def up (x:Option R):Option (S ⊕ R):=x.map .inr
def iterN (body:S -> Option (S ⊕ E)):Nat -> S -> Option E
 | 0,_=>none
 | n + 1,s=>match body s with | none=>none | some (.inl s')=>iterN body n s' | some (.inr e)=>some e
open Classical in
def zBh (body:S -> Option (S ⊕ E)) (s:S):Option E:=if h:∃ n e,iterN body n s = some e then some (Classical.choose (yBB h)) else none
def zAL (b:Bool) (x y:α):α:=bif b then x else y
def zBA (k:IntKind) (a b:Int):Int:=k.wrap (a + b)
def zCX (k:IntKind) (a b:Int):Int:=k.wrap (a - b)
def imul (k:IntKind) (a b:Int):Int:=k.wrap (a * b)
def iquo (k:IntKind) (a b:Int):Int:=k.wrap (a.tdiv b)
def irem (a b:Int):Int:=a.tmod b
def iand (k:IntKind) (a b:Int):Int:=k.wrap (BitVec.ofInt k.bits a &&& BitVec.ofInt k.bits b).toNat
def ior (k:IntKind) (a b:Int):Int:=k.wrap (BitVec.ofInt k.bits a ||| BitVec.ofInt k.bits b).toNat
def ixor (k:IntKind) (a b:Int):Int:=k.wrap (BitVec.ofInt k.bits a ^^^ BitVec.ofInt k.bits b).toNat
def ishl (k:IntKind) (a b:Int):Int:=k.wrap (a * 2 ^ min b.toNat k.bits)
def ishr (k:IntKind) (a b:Int):Int:=a.fdiv (2 ^ min b.toNat k.bits)
def ineg (k:IntKind) (a:Int):Int:=k.wrap (0 - a)
def iwrap (k:IntKind) (a:Int):Int:=k.wrap a
def ieq (a b:Int):Bool:=a == b
def ine (a b:Int):Bool:=a != b
def ilt (a b:Int):Bool:=decide (a < b)
def ile (a b:Int):Bool:=decide (a <= b)
def imax (a b:Int):Int:=if decide (b > a) then b else a
def imin (a b:Int):Int:=if decide (b < a) then b else a
def zCr (a:Bool):Bool:=!a
def band (a b:Bool):Bool:=a && b
def beq (a b:Bool):Bool:=a == b
def impl (g c:Bool):Bool:=!g || c
def scat (x y:ByteArray):ByteArray:=x ++ y
def seq (x y:ByteArray):Bool:=x.toList == y.toList
def slt (x y:ByteArray):Bool:=Op.bytesLess x.toList y.toList
def sle (x y:ByteArray):Bool:=Op.bytesLess x.toList y.toList || x.toList == y.toList
def sofb (l:List Int):ByteArray:=⟨(l.map fun n=>UInt8.ofNat n.toNat).toArray⟩
def ssize (x:ByteArray):Nat:=x.size
def sroom (x y:ByteArray):Bool:=decide (x.size + y.size <= 9223372036854775807)
def sget (x:ByteArray) (j:Int):Int:=(x.get! j.toNat).toNat
def ssub (x:ByteArray) (l h:Int):ByteArray:=x.extract l.toNat h.toNat
def n2i (n:Nat):Int:=n
def i2n (i:Int):Nat:=i.toNat
def zBl (a b:Nat):Nat:=a + b
def nsub (a b:Nat):Nat:=a - b
def zAE (l:List α):Nat:=l.length
def lnil (l:List α):Bool:=l.isEmpty
def zAH (d:α) (l:List α) (n:Nat):α:=l.getD n d
def lset (l:List α) (n:Nat) (x:α):List α:=l.set n x
def zBg (a b:List α):List α:=a ++ b
def zCI (l:List α) (i m:Nat):List α:=(l.drop i).take m
def lrep (n:Int) (x:α):List α:=List.replicate n.toNat x
def inL (j:Int) (n:Nat):Bool:=decide (0 <= j) && decide (j < n)
def inS (l h:Int) (n:Nat):Bool:=decide (0 <= l) && decide (l <= h) && decide (h <= n)
def lsplice (l:List α) (p:Nat) (a:List α):List α:=l.take p ++ a ++ l.drop (p + a.length)
def nmin (a b:Nat):Nat:=min a b
def room (n by_:Nat):Bool:=decide (n * by_ <= 140737488355328)
def mk (l c:Int) (b:Nat):Bool:=decide (0 <= l) && decide (l <= c) && decide (c * b <= 281474976710656) && decide (c <= 281474976710656)
def mget {K V:Type} (eq:K -> K -> Bool) (d:V) (l:List (K × V)) (k:K):V:=match l.find? (fun p=>eq k p.1) with | some p=>p.2 | none=>d
def mhas {K V:Type} (eq:K -> K -> Bool) (l:List (K × V)) (k:K):Bool:=l.any fun p=>eq k p.1
def mputGo {K V:Type} (eq:K -> K -> Bool) (k:K) (v:V):List (K × V) -> List (K × V)
 | []=>[(k,v)]
 | p :: r=>if eq k p.1 then (k,v) :: r else p :: mputGo eq k v r
def mput {K V:Type} (eq:K -> K -> Bool) (l:List (K × V)) (k:K) (v:V):List (K × V):=mputGo eq k v l
def mdel {K V:Type} (eq:K -> K -> Bool) (l:List (K × V)) (k:K):List (K × V):=l.eraseP fun p=>eq k p.1
open Classical in
def both (x y:Option R):Option R:=if x = y then x else none
def foldM {A S E:Type} (B:A -> S -> Option (S ⊕ E)) (N:S -> Option (S ⊕ E)):List A -> S -> Option E
 | [],s=>match N s with | some (.inr e)=>some e | _=>none
 | a :: l,s=>match B a s with | none=>none | some (.inl s')=>foldM B N l s' | some (.inr e)=>some e
open Classical in
def mrange {A S E:Type} (l:List A) (B:A -> S -> Option (S ⊕ E)) (N:S -> Option (S ⊕ E)) (s:S):Option E :=
 if h:∃ e,∀ l',l'.Perm l -> foldM B N l' s = some e then some (Classical.choose h) else none
def rnext (s:ByteArray) (p:Nat):Nat:=p + (Utf8.decode s p).2
def rrune (s:ByteArray) (p:Nat):Int:=(Utf8.decode s p).1
def nlt (a b:Nat):Bool:=decide (a < b)
end
open Go.Ab
inductive Ty where
 | int (k:IntKind) | bool | str
 | unit
 | pr (a b:Ty)
 | agg (s:Ty)
 | tup (s:Ty)
 | sl (t:Ty)
 | own (r:Nat)
 | sub (r:Nat)
 | p0 (r o:Nat)
 | pt (r o:Nat)
 | fp (t:Ty) (o:Nat)
 | fn (f:FuncId) (a c:Ty)
 | ifc (id:TypeId) (t:Ty)
 | mp (r:Nat)
 | nul (c:Nat)
 | tt | ff
 | any
 deriving DecidableEq
def Ty.I:Ty -> Type
 | .int _=>Int
 | .bool=>Bool
 | .str=>ByteArray
 | .pr a b=>a.I × b.I
 | .agg s=>s.I
 | .tup s=>s.I
 | .sl t=>List t.I
 | .sub _=>Nat × Nat
 | .pt _ _=>Nat
 | .fp t _=>t.I
 | .fn _ a c=>a.I × c.I
 | .ifc _ t=>t.I
 | .unit=>Unit | .own _=>Unit | .p0 _ _=>Unit | .mp _=>Unit | .nul _=>Unit | .tt=>Unit | .ff=>Unit | .any=>Unit
def Ty.dv:(t:Ty) -> t.I
 | .int _=>(0:Int)
 | .bool=>false
 | .str=>ByteArray.empty
 | .pr a b=>(a.dv,b.dv)
 | .agg s=>s.dv
 | .tup s=>s.dv
 | .sl _=>[]
 | .sub _=>(0,0)
 | .pt _ _=>(0:Nat)
 | .fp t _=>t.dv
 | .fn _ a c=>(a.dv,c.dv)
 | .ifc _ t=>t.dv
 | .unit=>() | .own _=>() | .p0 _ _=>() | .mp _=>() | .nul _=>() | .tt=>() | .ff=>() | .any=>()
def Ty.triv:Ty -> Bool
 | .unit | .own _ | .p0 _ _ | .mp _ | .nul _ | .tt | .ff | .any=>true
 | .pr a b=>a.triv && b.triv
 | .agg s=>s.triv
 | .tup s=>s.triv
 | .fn _ a c=>a.triv && c.triv
 | .fp t _=>t.triv
 | .ifc _ t=>t.triv
 | _=>false
def Ty.w:Ty -> Nat
 | .pr a b=>a.w + b.w
 | .agg s=>s.w
 | .unit=>0
 | _=>1
def Ty.one:Ty -> Bool
 | .unit | .pr _ _ | .agg _ | .tup _ | .any=>false
 | .nul c=>Nat.blt c 5
 | _=>true
def Ty.pure:Ty -> Bool
 | .pr a b=>a.pure && b.pure
 | .agg s=>s.pure
 | .tup s=>s.pure
 | .sl t=>t.pure
 | .fp t _=>t.pure
 | .fn _ a c=>a.pure && c.pure
 | .ifc _ t=>t.pure
 | .own _ | .sub _ | .p0 _ _ | .pt _ _ | .mp _=>false
 | _=>true
def Ty.mem:Ty -> Bool
 | .pr a b=>a.mem || b.mem
 | .agg s=>s.mem
 | .tup s=>s.mem
 | .fn _ a c=>a.mem || c.mem
 | .ifc _ t=>t.mem
 | .sl _ | .fp _ _=>true
 | _=>false
def Ty.refs:Ty -> List Nat
 | .pr a b=>a.refs ++ b.refs
 | .agg s=>s.refs
 | .tup s=>s.refs
 | .fn _ a c=>a.refs ++ c.refs
 | .ifc _ t=>t.refs
 | .own q=>[q] | .sub q=>[q] | .p0 q _=>[q] | .pt q _=>[q] | .mp q=>[q]
 | _=>[]
structure TV where
 t:Ty
 x:t.I
def zAK:(s:Ty) -> s.I -> List TV
 | .pr a b,x=>⟨a,x.1⟩ :: zAK b x.2
 | .unit,_=>[]
 | t,x=>[⟨t,x⟩]
def TV.lf (v:TV):TV:=match v with | ⟨.pr _ _,_⟩=>⟨.any,()⟩ | ⟨.unit,_⟩=>⟨.any,()⟩ | v=>v
def zDV:List TV -> TV
 | []=>⟨.unit,()⟩
 | v :: r=>match r with
  | []=>v.lf
  | _=>let w:=zDV r;⟨.pr v.t w.t,(v.x,w.x)⟩
def zAY:List Ty -> Ty
 | []=>.unit
 | v :: r=>match r with
  | []=>v
  | _=>.pr v (zAY r)
def aggV (l:List TV):TV:=let w:=zDV l;⟨.agg w.t,w.x⟩
def tupV (l:List TV):TV:=let w:=zDV l;⟨.tup w.t,w.x⟩
inductive TRow where
 | one (t:Ty) (x:t.I)
 | many (t:Ty) (l:List t.I)
 | lst (t:Ty) (l:List t.I)
 | fro (t:Ty) (l:List t.I)
 | fr1 (t:Ty) (x:t.I)
 | mp (k v:Ty) (l:List (k.I × v.I))
 | itb (m:Nat)
 | ite (m:Nat) (k v:Ty) (x:k.I) (y:v.I)
 | sit (s:ByteArray) (p:Nat)
 | gone
structure Ent where
 s:Nat
 lv:Nat
 c:List (Nat × Bool)
 v:TV
abbrev Rows:=List (Nat × TRow)
structure St where
 env:List Ent
 rows:Rows
 gs:List (Nat × Bool)
def zAm:List Ent -> Nat -> Option Ent
 | [],_=>none
 | e :: r,n=>bif Nat.beq e.s n then some e else zAm r n
def getG:List (Nat × Bool) -> Nat -> Option Bool
 | [],_=>none
 | e :: r,n=>bif Nat.beq e.1 n then some e.2 else getG r n
def zAA:Rows -> Nat -> TRow
 | [],_=>.gone
 | e :: _,0=>e.2
 | _ :: r,n + 1=>zAA r n
def zAU:Rows -> Nat -> Option Nat
 | [],_=>none
 | e :: _,0=>some e.1
 | _ :: r,n + 1=>zAU r n
def setRow:Rows -> Nat -> Nat -> TRow -> Rows
 | [],_,_,_=>[]
 | _ :: r,0,d,x=>(d,x) :: r
 | e :: r,n + 1,d,x=>e :: setRow r n d x
def ofValue:Value -> Option TV
 | .int k n=>some ⟨.int k,n⟩
 | .bool b=>some ⟨.bool,b⟩
 | .string s=>some ⟨.str,s⟩
 | .slice none 0 0=>some ⟨.nul 0,()⟩
 | .pointer none=>some ⟨.nul 1,()⟩
 | .map none=>some ⟨.nul 2,()⟩
 | .nilIface=>some ⟨.nul 3,()⟩
 | .nilFunc=>some ⟨.nul 4,()⟩
 | _=>none
def nulV:Nat -> Value
 | 0=>.slice none 0 0
 | 1=>.pointer none
 | 2=>.map none
 | 3=>.nilIface
 | 4=>.nilFunc
 | _=>undef
def subC (c c':List (Nat × Bool)):Bool:=c.all fun p=>c'.any fun q=>Nat.beq p.1 q.1 && (p.2 == q.2)
def evT (env:List Ent) (c:List (Nat × Bool)):Operand -> Option TV
 | .tmp t=>match zAm env t with
  | some e=>bif subC e.c c then some e.v else none
  | none=>none
 | .const v=>ofValue v
 | .global _=>none
 | .func f=>some ⟨.fn f .unit .unit,((),())⟩
def evTs (env:List Ent) (c:List (Nat × Bool)):List Operand -> Option (List TV)
 | []=>some []
 | o :: r=>match evT env c o,evTs env c r with
  | some v,some vs=>some (v :: vs)
  | _,_=>none
def evPs (env:List Ent) (c:List (Nat × Bool)):List (Nat × Operand) -> Option (List (Nat × TV))
 | []=>some []
 | (i,o) :: r=>match evT env c o,evPs env c r with
  | some v,some vs=>some ((i,v) :: vs)
  | _,_=>none
def castL {u t:Ty} (h:u = t) (l:List u.I):List t.I:=cast (congrArg (fun z=>List (Ty.I z)) h) l
def castI {u t:Ty} (h:u = t) (x:u.I):t.I:=cast (congrArg Ty.I h) x
def zCu (t:Ty):TRow -> Option (List t.I)
 | .many u l=>if h:u = t then some (castL h l) else none
 | .lst u l=>if h:u = t then some (castL h l) else none
 | .fro u l=>if h:u = t then some (castL h l) else none
 | _=>none
def rowLen:TRow -> Option Nat
 | .many _ l=>some (zAE l)
 | .lst _ l=>some (zAE l)
 | .fro _ l=>some (zAE l)
 | _=>none
def rowTy:TRow -> Option Ty
 | .many t _=>some t
 | .lst t _=>some t
 | .fro t _=>some t
 | _=>none
def elemsT (rows:Rows) (t:Ty) (v:TV):Option (List t.I) :=
 match v with
 | ⟨.nul 0,_⟩=>some []
 | ⟨.sl u,l⟩=>if h:u = t then some (castL h l) else none
 | ⟨.own r,_⟩=>zCu t (zAA rows r)
 | ⟨.sub r,x⟩=>match zCu t (zAA rows r) with
  | some l=>some (zCI l x.1 x.2)
  | none=>none
 | _=>none
def isFro:TRow -> Bool | .fro _ _=>true | .fr1 _ _=>true | _=>false
def elemsF (rows:Rows) (t:Ty) (v:TV):Option (List t.I) :=
 match v with
 | ⟨.own r,y⟩=>bif isFro (zAA rows r) then elemsT rows t ⟨.own r,y⟩ else none
 | ⟨.sub r,y⟩=>bif isFro (zAA rows r) then elemsT rows t ⟨.sub r,y⟩ else none
 | v=>elemsT rows t v
def ptrF (rows:Rows) (t:Ty) (o:Nat) (v:TV):Option t.I :=
 match v with
 | ⟨.p0 r o',_⟩=>bif Nat.beq o o' then (match zAA rows r with
  | .fr1 u x=>if h:u = t then some (castI h x) else none
  | _=>none) else none
 | ⟨.pt r o',i⟩=>bif Nat.beq o o' then (match zAA rows r with
  | .fro u l=>if h:u = t then some (castI h (zAH u.dv l i)) else none
  | _=>none) else none
 | _=>none
def zBK (rows:Rows):(b:Ty) -> TV -> Option b.I
 | .agg s,v=>if h:v.t = .agg s /\ s.pure = true then some (castI h.1 v.x) else match v with | ⟨.agg s',x⟩=>zBK rows s ⟨s',x⟩ | _=>none
 | .tup s,v=>if h:v.t = .tup s /\ s.pure = true then some (castI h.1 v.x) else match v with | ⟨.tup s',x⟩=>zBK rows s ⟨s',x⟩ | _=>none
 | .pr a b,v=>if h:v.t = .pr a b /\ (Ty.pr a b).pure = true then some (castI h.1 v.x) else match v with
  | ⟨.pr a' b',x⟩=>(match zBK rows a ⟨a',x.1⟩,zBK rows b ⟨b',x.2⟩ with
   | some y,some z=>some (y,z)
   | _,_=>none)
  | _=>none
 | .fn f a c,v=>if h:v.t = .fn f a c /\ (Ty.fn f a c).pure = true then some (castI h.1 v.x) else match v with
  | ⟨.fn f' a' c',x⟩=>bif Nat.beq f f' then (match zBK rows a ⟨a',x.1⟩,zBK rows c ⟨c',x.2⟩ with
   | some y,some z=>some (y,z)
   | _,_=>none) else none
  | _=>none
 | .ifc id t,v=>if h:v.t = .ifc id t /\ t.pure = true then some (castI h.1 v.x) else match v with
  | ⟨.ifc id' t',x⟩=>bif Nat.beq id id' then zBK rows t ⟨t',x⟩ else none
  | _=>none
 | .sl t,v=>elemsF rows t v
 | .fp t o,v=>if h:v.t = .fp t o then some (castI h v.x) else ptrF rows t o v
 | .bool,v=>match v with
  | ⟨.bool,b⟩=>some b
  | ⟨.tt,_⟩=>some true
  | ⟨.ff,_⟩=>some false
  | _=>none
 | .any,v=>match v.t with | .pr _ _=>none | .unit=>none | _=>some ()
 | t,v=>if h:v.t = t /\ t.pure = true then some (castI h.1 v.x) else none
def zAz (d:Nat) (f:List Nat):Nat -> Rows -> Rows
 | _,[]=>[]
 | n,(lv,row) :: r=>(bif f.any (Nat.beq n) then (match row with
     | .many t l=>(d,.fro t l)
     | .lst t l=>(d,.fro t l)
     | .one t x=>bif t.pure then (d,.fr1 t x) else (lv,.one t x)
     | row=>(lv,row)) else (lv,row)) :: zAz d f (n + 1) r
def refsOf:List TV -> List Nat
 | []=>[]
 | v :: r=>v.t.refs ++ refsOf r
def Ty.flat:Ty -> List Ty
 | .pr a b=>a :: b.flat
 | .unit=>[]
 | t=>[t]
def tyOf (P:Program):Nat -> TypeId -> Option Ty
 | 0,_=>none
 | n + 1,t=>match P.underlying t with
  | some (.int k)=>some (.int k)
  | some .bool=>some .bool
  | some .string=>some .str
  | some (.slice e)=>match tyOf P n e with | some u=>some (.sl u) | none=>none
  | some (.struct fs)=>(fs.toList.foldr (fun f acc=>match acc,tyOf P n f.type with
      | some l,some (.agg s)=>some (s.flat ++ l)
      | some l,some u=>some (u :: l)
      | _,_=>none) (some [])).map fun l=>.agg (zAY l)
  | some (.array len e)=>match tyOf P n e with
      | some (.agg s)=>some (.agg (zAY (List.replicate len s.flat).flatten))
      | some u=>some (.agg (zAY (List.replicate len u)))
      | none=>none
  | _=>none
def zDX:List Value -> Option (List TV)
 | []=>some []
 | v :: r=>match ofValue v,zDX r with | some x,some y=>some (x :: y) | _,_=>none
def zeroT (P:Program) (t:TypeId):Option TV :=
 match (P.info? t).bind (·.zero) with
 | some (.agg cs)=>(zDX cs.toList).map aggV
 | some v=>ofValue v
 | none=>none
def partT (tg:Bool) (sz o:Nat) (v:TV):Option TV :=
 match v with
 | ⟨.agg s,x⟩=>match tg with
  | true=>bif Nat.beq o 0 && Nat.beq sz (zAK s x).length then some ⟨.agg s,x⟩ else bif Nat.ble (o + sz) (zAK s x).length then some (aggV (((zAK s x).drop o).take sz)) else none
  | false=>(zAK s x)[o]?
 | v=>match tg with
  | true=>none
  | false=>bif Nat.beq o 0 then some v else none
def zAS:TRow -> Bool | .many _ _=>true | .lst _ _=>true | .fro _ _=>true | _=>false
def isCell:TRow -> Bool | .one _ _=>true | .fr1 _ _=>true | _=>false
def refOk (rows:Rows):Ty -> Bool
 | .own r=>zAS (zAA rows r)
 | .sub r=>zAS (zAA rows r)
 | .pt r _=>zAS (zAA rows r)
 | .p0 r _=>isCell (zAA rows r)
 | .mp r=>match zAA rows r with | .mp _ _ _=>true | _=>false
 | _=>true
def zCW (rows:Rows) (v:TV):Bool:=v.t.one && refOk rows v.t
def Ty.ones:Ty -> Bool
 | .pr a b=>a.one && b.ones
 | .unit=>true
 | t=>t.one
def Ty.elem (t:Ty):Bool:=t.pure && match t with | .agg s=>s.ones | t=>t.one
def putT (rows:Rows) (tg:Bool) (sz o:Nat) (v x:TV):Option TV :=
 match v with
 | ⟨.agg s,y⟩=>match tg with
  | true=>match x with
   | ⟨.agg u,z⟩=>bif Nat.beq (zAK u z).length sz && (zAK u z).all (zCW rows) && Nat.ble (o + sz) (zAK s y).length then
       (bif Nat.beq o 0 && Nat.beq sz (zAK s y).length then some ⟨.agg u,z⟩ else some (aggV ((zAK s y).take o ++ zAK u z ++ (zAK s y).drop (o + sz)))) else none
   | _=>none
  | false=>bif Nat.blt o (zAK s y).length && zCW rows x && Nat.beq sz 1 then some (aggV ((zAK s y).set o x)) else none
 | v=>match tg with
  | true=>none
  | false=>bif Nat.beq o 0 && zCW rows x && Nat.beq sz 1 then some x else none
def zBr:Ty -> Bool | .agg _=>true | _=>false
def Ty.lay (t:Ty):Bool:=match t with | .agg s=>s.ones | t=>t.one
inductive RTy where
 | one (t:Ty) | many (t:Ty) | lst (t:Ty) | fro (t:Ty) | fr1 (t:Ty) | mp (k v:Ty) | sit | gone
def RTy.dat:RTy -> Ty
 | .one t=>t | .fr1 t=>t
 | .many t=>.sl t | .lst t=>.sl t | .fro t=>.sl t
 | .mp k v=>.sl (.pr k v)
 | .sit=>.tup (.pr .str (.pt 0 0))
 | .gone=>.unit
def uni:Ty -> Ty -> List (Nat × Nat)
 | .own a,.own b=>[(a,b)]
 | .sub a,.sub b=>[(a,b)]
 | .sub a,.own b=>[(a,b)]
 | .p0 a _,.p0 b _=>[(a,b)]
 | .pt a _,.pt b _=>[(a,b)]
 | .mp a,.mp b=>[(a,b)]
 | .pr a b,.pr c d=>uni a c ++ uni b d
 | .agg a,.agg b=>uni a b
 | .tup a,.tup b=>uni a b
 | .fn _ a b,.fn _ c d=>uni a c ++ uni b d
 | .ifc _ a,.ifc _ b=>uni a b
 | _,_=>[]
def zCK:List (Nat × Nat) -> Nat -> Option Nat
 | [],_=>none
 | e :: r,n=>bif Nat.beq e.1 n then some e.2 else zCK r n
def fzT:Ty -> Ty -> List Nat
 | .pr a b,.pr c d=>fzT a c ++ fzT b d
 | .agg a,.agg b=>fzT a b
 | .tup a,.tup b=>fzT a b
 | .fn _ a b,.fn _ c d=>fzT a c ++ fzT b d
 | .ifc _ a,.ifc _ b=>fzT a b
 | .sl _,u=>u.refs
 | .fp _ _,u=>u.refs
 | _,_=>[]
def packV (ρ:List (Nat × Nat)) (isL:Nat -> Bool) (rows:Rows):(b:Ty) -> TV -> Option b.I
 | .own r,v=>match v with
  | ⟨.own q,_⟩=>(match zCK ρ r with | some q'=>bif Nat.beq q q' then some () else none | none=>none)
  | ⟨.nul 0,_⟩=>(match zCK ρ r with | some _=>none | none=>bif isL r then some () else none)
  | _=>none
 | .sub r,v=>match v with
  | ⟨.sub q,x⟩=>(match zCK ρ r with | some q'=>bif Nat.beq q q' then some x else none | none=>none)
  | ⟨.own q,_⟩=>(match zCK ρ r,rowLen (zAA rows q) with | some q',some n=>bif Nat.beq q q' then some (0,n) else none | _,_=>none)
  | ⟨.nul 0,_⟩=>(match zCK ρ r with | some _=>none | none=>bif isL r then some (0,0) else none)
  | _=>none
 | .p0 r o,v=>match v with
  | ⟨.p0 q o',_⟩=>(match zCK ρ r with | some q'=>bif Nat.beq q q' && Nat.beq o o' then some () else none | none=>none)
  | _=>none
 | .pt r o,v=>match v with
  | ⟨.pt q o',x⟩=>(match zCK ρ r with | some q'=>bif Nat.beq q q' && Nat.beq o o' then some x else none | none=>none)
  | _=>none
 | .mp r,v=>match v with
  | ⟨.mp q,_⟩=>(match zCK ρ r with | some q'=>bif Nat.beq q q' then some () else none | none=>none)
  | _=>none
 | .pr a b,v=>if (Ty.pr a b).pure then zBK rows (.pr a b) v else match v with
  | ⟨.pr a' b',x⟩=>(match packV ρ isL rows a ⟨a',x.1⟩,packV ρ isL rows b ⟨b',x.2⟩ with
   | some y,some z=>some (y,z)
   | _,_=>none)
  | _=>none
 | .agg s,v=>if s.pure then zBK rows (.agg s) v else match v with | ⟨.agg s',x⟩=>packV ρ isL rows s ⟨s',x⟩ | _=>none
 | .tup s,v=>if s.pure then zBK rows (.tup s) v else match v with | ⟨.tup s',x⟩=>packV ρ isL rows s ⟨s',x⟩ | _=>none
 | .fn f a c,v=>if (Ty.fn f a c).pure then zBK rows (.fn f a c) v else match v with
  | ⟨.fn f' a' c',x⟩=>bif Nat.beq f f' then (match packV ρ isL rows a ⟨a',x.1⟩,packV ρ isL rows c ⟨c',x.2⟩ with
   | some y,some z=>some (y,z)
   | _,_=>none) else none
  | _=>none
 | .ifc id t,v=>if t.pure then zBK rows (.ifc id t) v else match v with
  | ⟨.ifc id' t',x⟩=>bif Nat.beq id id' then packV ρ isL rows t ⟨t',x⟩ else none
  | _=>none
 | t,v=>zBK rows t v
def packRow (ρ:List (Nat × Nat)) (isL:Nat -> Bool) (rows:Rows) (r:Nat) (e:RTy):Option (List TV) :=
 match e with
 | .gone=>some []
 | e=>match zCK ρ r with
  | some q=>match e,zAA rows q with
   | .one t,.one u x=>bif t.lay && (zBr t == zBr u) then (match packV ρ isL rows t ⟨u,x⟩ with | some y=>some (bif t.triv then [] else [⟨t,y⟩]) | none=>none) else none
   | .many t,.many u l=>bif decide (u = t) then some [⟨.sl u,l⟩] else none
   | .lst t,.lst u l=>bif decide (u = t) then some [⟨.sl u,l⟩] else none
   | .fro t,.fro u l=>bif decide (u = t) then some [⟨.sl u,l⟩] else none
   | .fr1 t,.fr1 u x=>bif decide (u = t) then some (bif u.triv then [] else [⟨u,x⟩]) else none
   | .mp k v,.mp k' v' l=>bif decide (k' = k) && decide (v' = v) then some [⟨.sl (.pr k' v'),l⟩] else none
   | .sit,.sit s p=>some [⟨.tup (.pr .str (.pt 0 0)),(s,p)⟩]
   | _,_=>none
  | none=>match e with
   | .lst t=>bif t.elem then some [⟨.sl t,[]⟩] else none
   | _=>none
def packRows (ρ:List (Nat × Nat)) (isL:Nat -> Bool) (rows:Rows):List (Nat × RTy) -> Option (List TV)
 | []=>some []
 | (r,e) :: l=>match packRow ρ isL rows r e,packRows ρ isL rows l with
  | some v,some vs=>some (v ++ vs)
  | _,_=>none
def packVals (ρ:List (Nat × Nat)) (isL:Nat -> Bool) (rows:Rows):List Ty -> List TV -> Option (List TV)
 | [],[]=>some []
 | t :: ts,v :: vs=>match packV ρ isL rows t v,packVals ρ isL rows ts vs with
  | some x,some l=>some (bif t.triv then l else ⟨t,x⟩ :: l)
  | _,_=>none
 | _,_=>none
def uniL:List Ty -> List TV -> List (Nat × Nat)
 | t :: ts,v :: vs=>uni t v.t ++ uniL ts vs
 | _,_=>[]
def fzL:List Ty -> List TV -> List Nat
 | t :: ts,v :: vs=>fzT t v.t ++ fzL ts vs
 | _,_=>[]
def uniRows (rows:Rows) (ρ:List (Nat × Nat)):List (Nat × RTy) -> List (Nat × Nat)
 | []=>ρ
 | (r,e) :: l=>match e,(zCK ρ r).map (zAA rows) with
  | .one t,some (.one u _)=>uniRows rows (ρ ++ uni t u) l
  | _,_=>uniRows rows ρ l
def fzRows (rows:Rows) (ρ:List (Nat × Nat)):List (Nat × RTy) -> List Nat
 | []=>[]
 | (r,e) :: l=>(match e,zCK ρ r with
  | .one t,some q=>(match zAA rows q with | .one u _=>fzT t u | _=>[])
  | .fro _,some q=>[q]
  | .fr1 _,some q=>[q]
  | _,_=>[]) ++ fzRows rows ρ l
def zBR:List (Nat × RTy) -> Nat -> Option RTy
 | [],_=>none
 | e :: r,n=>bif Nat.beq e.1 n then some e.2 else zBR r n
def isLst (l:List (Nat × RTy)) (r:Nat):Bool:=match zBR l r with | some (.lst _)=>true | _=>false
def Ty.sp:Ty -> Bool | .pr _ _=>true | .unit=>true | _=>false
def packAll (ts:List Ty) (l:List TV):Option (zAY ts).I:=let w:=zDV l;if h:w.t = zAY ts then (bif l.all fun v=>!v.t.sp then some (castI h w.x) else none) else none
def zCd (l:List Ty):List Ty:=l.filter fun t=>!t.triv
def zBz:List Ty -> List TV -> List TV × List TV
 | [],vs=>([],vs)
 | t :: l,vs=>bif t.triv then (let q:=zBz l vs;(⟨t,t.dv⟩ :: q.1,q.2)) else
  match vs with
  | v :: vs'=>let q:=zBz l vs';(v :: q.1,q.2)
  | []=>([],[])
def rowOf (e:RTy) (v:TV):TRow :=
 match e,v with
 | .one _,v=>.one v.t v.x
 | .fr1 _,v=>.fr1 v.t v.x
 | .many _,⟨.sl u,l⟩=>.many u l
 | .lst _,⟨.sl u,l⟩=>.lst u l
 | .fro _,⟨.sl u,l⟩=>.fro u l
 | .mp _ _,⟨.sl (.pr k v),l⟩=>.mp k v l
 | .sit,⟨.tup (.pr .str (.pt _ _)),x⟩=>.sit x.1 x.2
 | _,_=>.gone
def zBc:List (Nat × RTy) -> List TV -> List (Nat × TRow)
 | [],_=>[]
 | (r,e) :: l,vs=>bif e.dat.triv then (r,rowOf e ⟨e.dat,e.dat.dv⟩) :: zBc l vs else
  match vs with
  | v :: vs'=>(r,rowOf e v) :: zBc l vs'
  | []=>[]
def renV (τ:Nat -> Nat):(t:Ty) -> t.I -> TV
 | .pr a b,x=>let u:=renV τ a x.1;let w:=renV τ b x.2;⟨.pr u.t w.t,(u.x,w.x)⟩
 | .agg s,x=>bif s.pure then ⟨.agg s,x⟩ else (let w:=renV τ s x;⟨.agg w.t,w.x⟩)
 | .tup s,x=>bif s.pure then ⟨.tup s,x⟩ else (let w:=renV τ s x;⟨.tup w.t,w.x⟩)
 | .fn f a c,x=>let u:=renV τ a x.1;let w:=renV τ c x.2;⟨.fn f u.t w.t,(u.x,w.x)⟩
 | .ifc id t,x=>let w:=renV τ t x;⟨.ifc id w.t,w.x⟩
 | .own r,x=>⟨.own (τ r),x⟩
 | .sub r,x=>⟨.sub (τ r),x⟩
 | .p0 r o,x=>⟨.p0 (τ r) o,x⟩
 | .pt r o,x=>⟨.pt (τ r) o,x⟩
 | .mp r,x=>⟨.mp (τ r),x⟩
 | t,x=>⟨t,x⟩
def renRow (τ:Nat -> Nat):TRow -> TRow
 | .one t x=>let w:=renV τ t x;.one w.t w.x
 | row=>row
structure Con where
 f:FuncId
 as:List Ty
 ins:List RTy
 res:Ty
 outs:List RTy
 F:(zAY (zCd (as ++ ins.map RTy.dat))).I -> Option (zAY (zCd (res :: outs.map RTy.dat))).I
 q:Option ((zAY (zCd (as ++ ins.map RTy.dat))).I -> (zAY (zCd (res :: outs.map RTy.dat))).I -> Prop):=none
def Con.inT (c:Con):List Ty:=zCd (c.as ++ c.ins.map RTy.dat)
def Con.outT (c:Con):List Ty:=zCd (c.res :: c.outs.map RTy.dat)
def Con.Q (c:Con) (x:(zAY c.inT).I) (y:(zAY c.outT).I):Prop:=match c.q with | none=>c.F x = some y | some q=>q x y
def RTy.mem:RTy -> Bool | .many t=>t.mem | .lst t=>t.mem | .gone=>false | _=>true
def Con.mem (c:Con):Bool:=c.res.mem || c.outs.any RTy.mem
def numb {α:Type}:Nat -> List α -> List (Nat × α)
 | _,[]=>[]
 | n,x :: r=>(n,x) :: numb (n + 1) r
def gB (gs:List (Nat × Bool)):List (Nat × Bool) -> Option Bool
 | []=>none
 | (s,w) :: r=>match getG gs s with
  | some b=>match gB gs r with
   | none=>some (match w with | true=>b | false=>zCr b)
   | some b'=>some (band b' (match w with | true=>b | false=>zCr b))
  | none=>some false
def needG {R:Type} (g:Option Bool) (b:Bool) (k:Option R):Option R:=match g with | none=>need b k | some g=>need (impl g b) k
def notG {R:Type} (g:Option Bool) (k:Option R):Option R:=match g with | none=>none | some g=>need (zCr g) k
def callG {A R:Type} (g:Option Bool) (dv:A) (x:Option A) (k:A -> Option R):Option R:=match g with | none=>call x k | some g=>call (sel g x (some dv)) k
section
variable (P:Program)
def loadT (rows:Rows) (t:TypeId) (a:TV):Option TV :=
 match tag P t,tsz P t with
 | some tg,some sz=>match a with
  | ⟨.p0 r o,_⟩=>match zAA rows r with
   | .one u x=>partT tg sz o ⟨u,x⟩
   | .fr1 u x=>partT tg sz o ⟨u,x⟩
   | _=>none
  | ⟨.pt r o,i⟩=>match zAA rows r with
   | .many u l=>partT tg sz o ⟨u,zAH u.dv l i⟩
   | .lst u l=>partT tg sz o ⟨u,zAH u.dv l i⟩
   | .fro u l=>partT tg sz o ⟨u,zAH u.dv l i⟩
   | _=>none
  | ⟨.fp u o,x⟩=>bif u.pure then partT tg sz o ⟨u,x⟩ else none
  | _=>none
 | _,_=>none
def eqLeaf:TypeDesc -> TV -> TV -> Option Bool
 | .int _,⟨.int k,a⟩,⟨.int k',b⟩=>if k = k' then some (ieq a b) else none
 | .string,⟨.str,a⟩,⟨.str,b⟩=>some (seq a b)
 | .bool,⟨.bool,a⟩,⟨.bool,b⟩=>some (beq a b)
 | _,_,_=>none
mutual
def eqT:Nat -> TypeId -> TV -> TV -> Option Bool
 | 0,_,_,_=>none
 | n + 1,t,x,y=>match P.underlying t with
  | some (.struct fs)=>match x,y with
   | ⟨.agg s,a⟩,⟨.agg u,b⟩=>if P.stoodInHeld t = false then eqTs n fs.toList ⟨.agg s,a⟩ ⟨.agg u,b⟩ else none
   | _,_=>none
  | some d=>eqLeaf d x y
  | none=>none
def eqTs:Nat -> List Field -> TV -> TV -> Option Bool
 | 0,_,_,_=>none
 | _ + 1,[],_,_=>some true
 | n + 1,f :: fs,xs,ys=>if f.name = "_" then none else
  match tag P f.type,tsz P f.type with
  | some tg,some sz=>match partT tg sz f.offset xs,partT tg sz f.offset ys with
   | some x,some y=>match eqT n f.type x y,eqTs n fs xs ys with
    | some b,some c=>some (band b c)
    | _,_=>none
   | _,_=>none
  | _,_=>none
end
variable {R:Type}
def binT (g:Option Bool) (op:BinOp) (t:TypeId) (rows:Rows) (x y:TV) (k:TV -> Option R):Option R :=
 match x,y with
 | ⟨.int ka,a⟩,⟨.int kb,b⟩=>match op with
  | .shl=>needG g (ile 0 b) (k ⟨.int ka,ishl ka a b⟩)
  | .shr=>needG g (ile 0 b) (k ⟨.int ka,ishr ka a b⟩)
  | op=>if ka = kb then (match op with
   | .add=>k ⟨.int ka,zBA ka a b⟩
   | .sub=>k ⟨.int ka,zCX ka a b⟩
   | .mul=>k ⟨.int ka,imul ka a b⟩
   | .quo=>needG g (ine b 0) (k ⟨.int ka,iquo ka a b⟩)
   | .rem=>needG g (ine b 0) (k ⟨.int ka,irem a b⟩)
   | .and=>k ⟨.int ka,iand ka a b⟩
   | .or=>k ⟨.int ka,ior ka a b⟩
   | .xor=>k ⟨.int ka,ixor ka a b⟩
   | .eql=>k ⟨.bool,ieq a b⟩
   | .neq=>k ⟨.bool,ine a b⟩
   | .lss=>k ⟨.bool,ilt a b⟩
   | .leq=>k ⟨.bool,ile a b⟩
   | .gtr=>k ⟨.bool,ilt b a⟩
   | .geq=>k ⟨.bool,ile b a⟩
   | _=>none) else none
 | ⟨.str,a⟩,⟨.str,b⟩=>match op with
  | .add=>needG g (sroom a b) (k ⟨.str,scat a b⟩)
  | .eql=>k ⟨.bool,seq a b⟩
  | .neq=>k ⟨.bool,zCr (seq a b)⟩
  | .lss=>k ⟨.bool,slt a b⟩
  | .leq=>k ⟨.bool,sle a b⟩
  | .gtr=>k ⟨.bool,zCr (sle a b)⟩
  | .geq=>k ⟨.bool,zCr (slt a b)⟩
  | _=>none
 | ⟨.bool,a⟩,⟨.bool,b⟩=>match P.underlying t with
  | some .bool=>(match op with
   | .eql=>k ⟨.bool,beq a b⟩
   | .neq=>k ⟨.bool,zCr (beq a b)⟩
   | _=>none)
  | _=>none
 | ⟨.agg s,a⟩,⟨.agg u,b⟩=>match P.eqGuardType P.depth t,eqT P 12 t ⟨.agg s,a⟩ ⟨.agg u,b⟩ with
  | false,some r=>(match op with
   | .eql=>k ⟨.bool,r⟩
   | .neq=>k ⟨.bool,zCr r⟩
   | _=>none)
  | _,_=>none
 | ⟨.own r,_⟩,⟨.nul 0,_⟩=>match zBI P t,op,zAA rows r with
  | some _,.eql,.many _ _=>k ⟨.bool,false⟩
  | some _,.neq,.many _ _=>k ⟨.bool,true⟩
  | some _,.eql,.lst _ l=>k ⟨.bool,lnil l⟩
  | some _,.neq,.lst _ l=>k ⟨.bool,zCr (lnil l)⟩
  | _,_,_=>none
 | ⟨.nul 0,_⟩,⟨.nul 0,_⟩=>match zBI P t,op with
  | some _,.eql=>k ⟨.bool,true⟩
  | some _,.neq=>k ⟨.bool,false⟩
  | _,_=>none
 | _,_=>none
def natT:TV -> Option Nat
 | ⟨.int _,j⟩=>(match (j:Int) with | .ofNat n=>some n | .negSucc _=>none)
 | _=>none
def zDR (g:Option Bool) (rows:Rows) (t:TypeId) (x i:TV) (ic:Option Nat) (k:TV -> Option R):Option R :=
 match i with
 | ⟨.int _,j⟩=>match zBI P t with
  | some e=>match tsz P e,x with
   | some z,⟨.sl u,l⟩=>bif Nat.beq z u.w then needG g (inL j (zAE l)) (k ⟨.fp u 0,zAH u.dv l (i2n j)⟩) else none
   | some z,⟨.own r,_⟩=>match rowTy (zAA rows r),rowLen (zAA rows r) with
    | some u,some n=>bif Nat.beq z u.w then needG g (inL j n) (k ⟨.pt r 0,i2n j⟩) else none
    | _,_=>none
   | some z,⟨.sub r,q⟩=>match zAA rows r with
    | .fro u l=>bif Nat.beq z u.w then needG g (inL j q.2) (k ⟨.fp u 0,zAH u.dv l (zBl q.1 (i2n j))⟩) else none
    | .many u l=>bif Nat.beq z u.w then needG g (inL j q.2) (k ⟨.pt r 0,zBl q.1 (i2n j)⟩) else none
    | .lst u l=>bif Nat.beq z u.w then needG g (inL j q.2) (k ⟨.pt r 0,zBl q.1 (i2n j)⟩) else none
    | _=>none
   | _,_=>none
  | none=>match P.underlying t,ic,x with
   | some (.array len e),some j',⟨.p0 r o,_⟩=>match tsz P e,zAA rows r with
    | some z,.one _ _=>bif Nat.blt j' len then k ⟨.p0 r (o + j' * z),()⟩ else none
    | _,_=>none
   | _,_,_=>none
 | _=>none
def boundT (o:Option TV) (dflt:Int):Option Int:=match o with | none=>some dflt | some ⟨.int _,n⟩=>some n | _=>none
def szOk (t e:TypeId) (u:Ty):Bool:=match tsz P e with | some z=>Nat.beq z u.w | none=>false
def sliceT (g:Option Bool) (rows:Rows) (t:TypeId) (x:TV) (lo hi:Option TV) (k:TV -> Option R):Option R :=
 match boundT lo 0 with
 | some l=>match x with
  | ⟨.str,s⟩=>match P.underlying t,boundT hi (n2i (ssize s)) with
   | some .string,some h=>needG g (inS l h (ssize s)) (k ⟨.str,ssub s l h⟩)
   | _,_=>none
  | ⟨.sl u,a⟩=>match zBI P t,boundT hi (n2i (zAE a)) with
   | some e,some h=>bif szOk P t e u then needG g (inS l h (zAE a)) (k ⟨.sl u,zCI a (i2n l) (nsub (i2n h) (i2n l))⟩) else none
   | _,_=>none
  | ⟨.own r,_⟩=>match zBI P t,rowTy (zAA rows r),rowLen (zAA rows r) with
   | some e,some u,some n=>match boundT hi (n2i n) with
    | some h=>bif szOk P t e u then needG g (inS l h n) (k ⟨.sub r,(i2n l,nsub (i2n h) (i2n l))⟩) else none
    | none=>none
   | _,_,_=>none
  | ⟨.sub r,q⟩=>match zBI P t,rowTy (zAA rows r) with
   | some e,some u=>match boundT hi (n2i q.2) with
    | some h=>bif szOk P t e u then needG g (inS l h q.2) (k ⟨.sub r,(zBl q.1 (i2n l),nsub (i2n h) (i2n l))⟩) else none
    | none=>none
   | _,_=>none
  | ⟨.nul 0,_⟩=>match zBI P t,boundT hi 0 with
   | some e,some h=>bif (tsz P e).isSome then needG g (band (ieq l 0) (ieq h 0)) (k ⟨.nul 0,()⟩) else none
   | _,_=>none
  | _=>none
 | none=>none
def lenT (rows:Rows) (t:TypeId) (x:TV):Option Int :=
 match P.underlying t,x with
 | some .string,⟨.str,s⟩=>some (n2i (ssize s))
 | some (.slice _),⟨.sl _,l⟩=>some (n2i (zAE l))
 | some (.slice _),⟨.own r,_⟩=>(match rowLen (zAA rows r) with | some n=>some (n2i n) | none=>none)
 | some (.slice _),⟨.sub r,q⟩=>(match rowLen (zAA rows r) with | some _=>some (n2i q.2) | none=>none)
 | some (.slice _),⟨.nul 0,_⟩=>some 0
 | some (.map _ _),⟨.mp r,_⟩=>(match zAA rows r with | .mp _ _ l=>some (n2i (zAE l)) | _=>none)
 | _,_=>none
def fieldAddrT (rows:Rows) (s:TypeId) (x:TV) (f:Nat):Option TV :=
 match tfld P s f with
 | some (off,ft)=>match tsz P ft with
  | some (_ + 1)=>match x with
   | ⟨.p0 r o,_⟩=>bif isCell (zAA rows r) then some ⟨.p0 r (o + off),()⟩ else none
   | ⟨.pt r o,i⟩=>bif zAS (zAA rows r) then some ⟨.pt r (o + off),i⟩ else none
   | ⟨.fp t o,y⟩=>some ⟨.fp t (o + off),y⟩
   | _=>none
  | _=>none
 | none=>none
def fieldT (t:TypeId) (x:TV) (f:Nat):Option TV :=
 match tfld P t f with
 | some (off,ft)=>match tag P ft,tsz P ft,x with
  | some tg,some sz,⟨.agg s,y⟩=>partT tg sz off ⟨.agg s,y⟩
  | _,_,_=>none
 | none=>none
def zAs (x:TV):List TV:=match x with | ⟨.agg s,y⟩=>zAK s y | x=>[x]
def fillT (rows:Rows) (place:Nat -> Option (Nat × Nat)) (v:List TV):List (Nat × TV) -> Option (List TV)
 | []=>some v
 | (i,x) :: rest=>match place i with
  | some (off,sz)=>bif Nat.beq (zAs x).length sz && Nat.ble (off + sz) v.length && (zAs x).all (zCW rows) then fillT rows place (v.take off ++ zAs x ++ v.drop (off + sz)) rest else none
  | none=>none
def liesT (rows:Rows) (x:TV):Bool:=(zAs x).all (zCW rows) && (match x.t with | .agg _=>true | t=>t.one)
def keq:(k:Ty) -> Option (k.I -> k.I -> Bool)
 | .int _=>some ieq
 | .str=>some seq
 | .bool=>some beq
 | _=>none
def mapT (t:TypeId):Option (Ty × Ty) :=
 match tmap P t with
 | some (k,e,_)=>match tyOf P 2 k,tyOf P 8 e with
  | some a,some b=>some (a,b)
  | _,_=>none
 | none=>none
def lookT (rows:Rows) (t:TypeId) (m key:TV) (ok:Bool):Option TV :=
 match mapT P t,(tmap P t).bind fun q=>zeroT P q.2.1 with
 | some (a,_),some z=>match m with
  | ⟨.mp r,_⟩=>match zAA rows r with
   | .mp k v l=>match keq k,zBK [] k key,zBK [] v z with
    | some eq,some kx,some zx=>bif decide (a = k) then some (bif ok then tupV [⟨v,mget eq zx l kx⟩,⟨.bool,mhas eq l kx⟩] else ⟨v,mget eq zx l kx⟩) else none
    | _,_,_=>none
   | _=>none
  | ⟨.nul 2,_⟩=>match zBK [] a key with
   | some _=>some (bif ok then tupV [z,⟨.ff,()⟩] else z)
   | none=>none
  | _=>none
 | _,_=>none
def zDW (d:Nat) (g:Option Bool) (c:List (Nat × Bool)) (s:St) (o:Oper) (k:TV -> Option R):Option R :=
 match o.op with
 | .move x=>match evT s.env c x with | some v=>k v | none=>none
 | .assign x=>match evT s.env c x with | some v=>k v | none=>none
 | .build t ps=>match evPs s.env c ps.toList,zeroT P t,fieldsOf P t with
  | some l,some ⟨.agg z,y⟩,some fl=>match fillT s.rows (fl[·]?) (zAK z y) l with
   | some r=>k (aggV r)
   | none=>none
  | _,_,_=>none
 | .nilCheck x=>match evT s.env c x with
  | some ⟨.p0 r o,y⟩=>bif isCell (zAA s.rows r) then k ⟨.p0 r o,y⟩ else none
  | some ⟨.pt r o,y⟩=>bif zAS (zAA s.rows r) then k ⟨.pt r o,y⟩ else none
  | some ⟨.fp t o,y⟩=>k ⟨.fp t o,y⟩
  | some ⟨.fn f a b,y⟩=>k ⟨.fn f a b,y⟩
  | _=>none
 | .binOp op t x y _=>match evT s.env c x,evT s.env c y with
  | some a,some b=>binT P g op t s.rows a b k
  | _,_=>none
 | .unOp op _ x=>match op,evT s.env c x with
  | .neg,some ⟨.int kk,n⟩=>k ⟨.int kk,ineg kk n⟩
  | .not,some ⟨.bool,b⟩=>k ⟨.bool,zCr b⟩
  | .not,some ⟨.tt,_⟩=>k ⟨.ff,()⟩
  | .not,some ⟨.ff,_⟩=>k ⟨.tt,()⟩
  | _,_=>none
 | .convert st t x=>match evT s.env c x with
  | some ⟨.int _,n⟩=>(match P.underlying t,P.underlying st with
   | some (.int kk),some _=>k ⟨.int kk,iwrap kk n⟩
   | _,_=>none)
  | some ⟨.str,b⟩=>(match P.underlying t,P.underlying st with
   | some .string,some .string=>k ⟨.str,b⟩
   | _,_=>none)
  | some v=>(match P.underlying t,P.underlying st with
   | some .string,some (.slice e)=>(match P.underlying e,elemsT s.rows (.int .u8) v with
    | some (.int .u8),some l=>k ⟨.str,sofb l⟩
    | _,_=>none)
   | _,_=>none)
  | _=>none
 | .makeFunc (.func f) a b=>match evTs s.env c a.toList,evTs s.env c b.toList with
  | some l,some m=>let u:=zDV l;let w:=zDV m;k ⟨.fn f u.t w.t,(u.x,w.x)⟩
  | _,_=>none
 | .makeInterface t x=>match P.underlying t,evT s.env c x with
  | some (.interface _),_=>none
  | some _,some v=>k ⟨.ifc t v.t,v.x⟩
  | _,_=>none
 | .typeAssert x _ t ok=>match isIface P t,evT s.env c x with
  | some false,some ⟨.ifc q u,y⟩=>bif Nat.beq q t then (bif ok then k (tupV [⟨u,y⟩,⟨.tt,()⟩]) else k ⟨u,y⟩) else none
  | _,_=>none
 | .fieldAddr t x f=>match evT s.env c x with
  | some v=>(match fieldAddrT P s.rows t v f with | some u=>k u | none=>none)
  | none=>none
 | .field t x f=>match evT s.env c x with
  | some v=>(match fieldT P t v f with | some u=>k u | none=>none)
  | none=>none
 | .index t x i=>match P.underlying t,evT s.env c x,evT s.env c i with
  | some .string,some ⟨.str,b⟩,some ⟨.int _,j⟩=>needG g (inL j (ssize b)) (k ⟨.int .u8,sget b j⟩)
  | _,_,_=>none
 | .extract x i=>match evT s.env c x with
  | some ⟨.tup u,y⟩=>(match (zAK u y)[i]? with | some v=>k v | none=>none)
  | _=>none
 | .slice t x lo hi mx=>match mx,evT s.env c x with
  | none,some v=>(match lo,hi with
   | none,none=>sliceT P g s.rows t v none none k
   | some l,none=>(match evT s.env c l with | some a=>sliceT P g s.rows t v (some a) none k | none=>none)
   | none,some h=>(match evT s.env c h with | some b=>sliceT P g s.rows t v none (some b) k | none=>none)
   | some l,some h=>(match evT s.env c l,evT s.env c h with | some a,some b=>sliceT P g s.rows t v (some a) (some b) k | _,_=>none))
  | _,_=>none
 | .indexAddr t x i=>match evT s.env c x,evT s.env c i with
  | some a,some b=>zDR P g s.rows t a b (natT b) k
  | _,_=>none
 | .load t a=>match evT s.env c a with
  | some v=>(match loadT P s.rows t v with | some u=>k u | none=>none)
  | none=>none
 | .lookup t m key ok=>match evT s.env c m,evT s.env c key with
  | some a,some b=>(match lookT P s.rows t a b ok with | some u=>k u | none=>none)
  | _,_=>none
 | .entry it=>match evT s.env c it with
  | some ⟨.p0 r 0,_⟩=>(match zAA s.rows r with
   | .ite m a b x y=>k (tupV [⟨a,x⟩,⟨b,y⟩])
   | _=>none)
  | _=>none
 | .call ⟨.builtin b,args,ts⟩=>match b,evTs s.env c args.toList with
  | .len,some [v]=>(match ts[0]? with
   | some t=>(match lenT P s.rows t v with | some n=>k ⟨.int .i64,n⟩ | none=>none)
   | none=>none)
  | .max,some [⟨.int ka,x⟩,⟨.int _,y⟩]=>k ⟨.int ka,imax x y⟩
  | .min,some [⟨.int ka,x⟩,⟨.int _,y⟩]=>k ⟨.int ka,imin x y⟩
  | _,_=>none
 | _=>none
def zDD (m:Nat):Rows -> Bool
 | []=>true
 | (_,.itb q) :: r=>!(Nat.beq q m) && zDD m r
 | (_,.ite q _ _ _ _) :: r=>!(Nat.beq q m) && zDD m r
 | _ :: r=>zDD m r
def storeT (d:Nat) (rows:Rows) (t:TypeId) (a x:TV):Option Rows :=
 match tag P t,tsz P t with
 | some tg,some sz=>match a with
  | ⟨.p0 r o,_⟩=>match zAA rows r with
   | .one u y=>match putT rows tg sz o ⟨u,y⟩ x with
    | some v=>some (setRow rows r d (.one v.t v.x))
    | none=>none
   | _=>none
  | ⟨.pt r o,i⟩=>match zAA (zAz d x.t.refs 0 rows) r with
   | .many u l=>match putT (zAz d x.t.refs 0 rows) tg sz o ⟨u,zAH u.dv l i⟩ x with
    | some v=>match zBK (zAz d x.t.refs 0 rows) u v with
     | some y=>some (setRow (zAz d x.t.refs 0 rows) r d (.many u (lset l i y)))
     | none=>none
    | none=>none
   | .lst u l=>match putT (zAz d x.t.refs 0 rows) tg sz o ⟨u,zAH u.dv l i⟩ x with
    | some v=>match zBK (zAz d x.t.refs 0 rows) u v with
     | some y=>some (setRow (zAz d x.t.refs 0 rows) r d (.lst u (lset l i y)))
     | none=>none
    | none=>none
   | _=>none
  | _=>none
 | _,_=>none
def convAll (rows:Rows) (t:Ty):List TV -> Option (List t.I)
 | []=>some []
 | v :: r=>match zBK rows t v,convAll rows t r with
  | some x,some xs=>some (x :: xs)
  | _,_=>none
inductive Apd (u:Ty) where
 | nil
 | own (r:Nat) (real:Bool) (l:List u.I)
 | sub (r:Nat) (real:Bool) (l:List u.I)
def baseT (rows:Rows) (u:Ty) (v:TV):Option (Apd u) :=
 match v with
 | ⟨.nul 0,_⟩=>some .nil
 | ⟨.own r,_⟩=>match zAA rows r with
  | .many t l=>if h:t = u then some (.own r true (castL h l)) else none
  | .lst t l=>if h:t = u then some (.own r false (castL h l)) else none
  | _=>none
 | ⟨.sub r,q⟩=>match zAA rows r with
  | .many t l=>if h:t = u then some (.sub r true (zCI (castL h l) q.1 q.2)) else none
  | .lst t l=>if h:t = u then some (.sub r false (zCI (castL h l) q.1 q.2)) else none
  | _=>none
 | _=>none
def refsBelow (n:Nat) (l:List Nat):Bool:=l.all fun r=>Nat.blt r n
def slotsBelow (n:Nat):List Ty -> Bool
 | []=>true
 | t :: l=>refsBelow n t.refs && slotsBelow n l
def rtRefs:RTy -> List Nat | .one t=>t.refs | _=>[]
def rowsBelowT (n:Nat):List (Nat × RTy) -> Bool
 | []=>true
 | (_,e) :: l=>refsBelow n (rtRefs e) && rowsBelowT n l
def okIO:RTy -> RTy -> Bool
 | .fro _,_ | .fr1 _,_ | .gone,_=>false
 | _,.gone=>true
 | .one _,.one _=>true
 | .many a,.many b=>decide (a = b)
 | .lst a,.lst b=>decide (a = b)
 | .mp a b,.mp c d=>decide (a = c) && decide (b = d)
 | .sit,.sit=>true
 | _,_=>false
def okIOs:List RTy -> List RTy -> Bool
 | [],_=>true
 | a :: l,b :: m=>okIO a b && okIOs l m
 | _ :: _,[]=>false
def noIters (rows:Rows) (ρ:List (Nat × Nat)):List (Nat × RTy) -> Bool
 | []=>true
 | (i,.mp _ _) :: l=>(match zCK ρ i with | some q=>zDD q rows | none=>false) && noIters rows ρ l
 | _ :: l=>noIters rows ρ l
structure Got (c:Con) where
 ρ:List (Nat × Nat)
 fz:List Nat
 x:(zAY c.inT).I
def distinct:List Nat -> Bool
 | []=>true
 | a :: l=>!(l.any (Nat.beq a)) && distinct l
def getNs (ρ:List (Nat × Nat)):Nat -> Nat -> List Nat
 | _,0=>[]
 | i,n + 1=>(match zCK ρ i with | some q=>[q] | none=>[]) ++ getNs ρ (i + 1) n
def fitCon (d:Nat) (c:Con) (rows:Rows) (args:List TV):Option (Got c) :=
 let ins:=numb 0 c.ins
 let ρ:=uniRows rows (uniL c.as args) ins
 let fz:=fzL c.as args ++ fzRows rows ρ ins
 let rf:=zAz d fz 0 rows
 bif distinct (getNs ρ 0 c.ins.length) && Nat.beq (getNs ρ 0 c.ins.length).length c.ins.length && slotsBelow c.ins.length c.as && rowsBelowT c.ins.length ins && okIOs c.ins c.outs && noIters rows ρ ins && (c.outT.all fun t=>!t.sp) then
  (match packVals ρ (fun _=>false) rf c.as args,packRows ρ (fun _=>false) rf ins with
  | some a,some b=>(match packAll c.inT (a ++ b) with | some x=>some ⟨ρ,fz,x⟩ | none=>none)
  | _,_=>none) else none
def findCon (d:Nat) (f:FuncId) (rows:Rows) (args:List TV):List Con -> Option ((c:Con) × Got c)
 | []=>none
 | c :: r=>bif Nat.beq c.f f then (match fitCon d c rows args with | some x=>some ⟨c,x⟩ | none=>findCon d f rows args r) else findCon d f rows args r
def zBa (d:Nat) (τ:Nat -> Nat) (ρ:List (Nat × Nat)) (k:Nat) (rows:Rows):List (Nat × TRow) -> Rows
 | []=>rows
 | (i,row) :: r=>bif Nat.blt i k then (match zCK ρ i with
     | some q=>zBa d τ ρ k (setRow rows q d (renRow τ row)) r
     | none=>zBa d τ ρ k rows r)
  else zBa d τ ρ k (rows ++ [(d,renRow τ row)]) r
def locR (ρ:List (Nat × Nat)) (k base:Nat) (i:Nat):Nat:=bif Nat.blt i k then (zCK ρ i).getD 0 else base + (i - k)
def backT (d:Nat) (c:Con) (q:Got c) (s:St) (y:(zAY c.outT).I):TV × St :=
 let w:=zBz [c.res] (zAK (zAY c.outT) y)
 let τ:=locR q.ρ c.ins.length s.rows.length
 let rows:=bif c.mem then zAz d q.fz 0 s.rows else s.rows
 ((match w.1 with | [v]=>renV τ v.t v.x | _=>⟨.any,()⟩),{ s with rows:=zBa d τ q.ρ c.ins.length rows (zBc (numb 0 c.outs) w.2) })
def put (d:Nat) (dst:Option Tmp) (c:List (Nat × Bool)) (v:TV) (s:St):Option St :=
 match dst with
 | none=>some s
 | some n=>match getG s.gs n with
  | none=>some ⟨⟨n,d,c,v⟩ :: s.env,s.rows,s.gs⟩
  | some _=>none
variable (Γ:List Con)
def appendT (d:Nat) (s:St) (t t1:TypeId) (a b:TV) (k:TV -> St -> Option R):Option R :=
 match zBI P t with
 | some e=>match tyOf P 8 e,tsz P e,tby P e,isIntT P t1,zeroT P e with
  | some u,some z,some by_,some false,some zv=>bif Nat.beq z u.w && u.elem && !(Nat.beq by_ 0) && Nat.beq (zAs zv).length z then
   (match baseT s.rows u a,elemsT s.rows u b with
   | some .nil,some ys=>need (room (zAE ys) by_) (k ⟨.own s.rows.length,()⟩ { s with rows:=s.rows ++ [(d,.lst u ys)] })
   | some (.own r real l),some ys=>need (room (zBl (zAE l) (zAE ys)) by_)
       (k ⟨.own s.rows.length,()⟩ { s with rows:=setRow s.rows r d .gone ++ [(d,bif real then .many u (zBg l ys) else .lst u (zBg l ys))] })
   | some (.sub r real l),some ys=>bif b.t.refs.any (Nat.beq r) then none else need (room (zBl (zAE l) (zAE ys)) by_)
       (bif real then k ⟨.own s.rows.length,()⟩ { s with rows:=setRow s.rows r d .gone ++ [(d,.many u (zBg l ys))] }
        else need (nlt 0 (zAE ys)) (k ⟨.own s.rows.length,()⟩ { s with rows:=setRow s.rows r d .gone ++ [(d,.lst u (zBg l ys))] }))
   | _,_=>none) else none
  | _,_,_,_,_=>none
 | none=>none
def dvT (t:TypeId):TV:=match tyOf P 8 t with | some u=>⟨u,u.dv⟩ | none=>⟨.any,()⟩
def heapT (dr:Bool) (d:Nat) (g:Option Bool) (c:List (Nat × Bool)) (s:St) (o:Oper) (k:TV -> St -> Option R):Option R :=
 match o.op with
 | .alloc t=>match zeroT P t with
  | some v=>bif liesT s.rows v then k ⟨.p0 s.rows.length 0,()⟩ { s with rows:=s.rows ++ [(d,.one v.t v.x)] } else none
  | none=>none
 | .box _ x=>match evT s.env c x with
  | some v=>bif liesT s.rows v then k ⟨.p0 s.rows.length 0,()⟩ { s with rows:=s.rows ++ [(d,.one v.t v.x)] } else none
  | none=>none
 | .buildSlice t n ps=>match zBI P t with
  | some e=>match tyOf P 8 e,tsz P e,evPs s.env c ps.toList with
   | some u,some z,some l=>bif Nat.beq z u.w && u.elem && (l.map (·.1) == List.range n) && decide (n * z <= 16777216) && ((P.info? e).bind (·.zero)).isSome && l.all (fun p=>liesT (zAz d (refsOf (l.map (·.2))) 0 s.rows) p.2 && Nat.beq (zAs p.2).length z) then
       (match convAll (zAz d (refsOf (l.map (·.2))) 0 s.rows) u (l.map (·.2)) with
       | some xs=>k ⟨.own s.rows.length,()⟩ { s with rows:=zAz d (refsOf (l.map (·.2))) 0 s.rows ++ [(d,.many u xs)] }
       | none=>none) else none
   | _,_,_=>none
  | none=>none
 | .makeSlice t l cp=>match evT s.env c l,evT s.env c cp,zBI P t with
  | some ⟨.int _,a⟩,some ⟨.int _,b⟩,some e=>match tyOf P 8 e,tsz P e,tby P e,zeroT P e with
   | some u,some z,some by_,some zv=>bif Nat.beq z u.w && u.elem && liesT [] zv && Nat.beq (zAs zv).length z then (match zBK [] u zv with
    | some y=>need (mk a b by_) (k ⟨.own s.rows.length,()⟩ { s with rows:=s.rows ++ [(d,.many u (lrep a y))] })
    | none=>none) else none
   | _,_,_,_=>none
  | _,_,_=>none
 | .makeMap t r=>match mapT P t,(match r with | none=>some (⟨.int .i64,(0:Int)⟩:TV) | some x=>evT s.env c x) with
  | some (a,b),some ⟨.int _,_⟩=>bif (keq a).isSome && b.pure then k ⟨.mp s.rows.length,()⟩ { s with rows:=s.rows ++ [(d,.mp a b [])] } else none
  | _,_=>none
 | .store t a x=>match evT s.env c a,evT s.env c x with
  | some va,some vx=>match storeT P d s.rows t va vx with
   | some rows=>k ⟨.any,()⟩ { s with rows:=rows }
   | none=>none
  | _,_=>none
 | .mapUpdate t m key x=>match evT s.env c m,evT s.env c key,evT s.env c x with
  | some ⟨.mp r,_⟩,some kx,some vx=>match zAA (zAz d vx.t.refs 0 s.rows) r with
   | .mp a b l=>match keq a,zBK [] a kx,zBK (zAz d vx.t.refs 0 s.rows) b vx with
    | some eq,some ky,some vy=>bif (match mapT P t with | some q=>decide (q.1 = a) | none=>false) && zDD r s.rows then k ⟨.any,()⟩ { s with rows:=setRow (zAz d vx.t.refs 0 s.rows) r d (.mp a b (mput eq l ky vy)) } else none
    | _,_,_=>none
   | _=>none
  | _,_,_=>none
 | .range t x=>match P.underlying t,evT s.env c x with
  | some .string,some ⟨.str,b⟩=>k ⟨.p0 s.rows.length 0,()⟩ { s with rows:=s.rows ++ [(d,.sit b 0)] }
  | some (.map _ _),some ⟨.mp r,_⟩=>(match zAA s.rows r with
   | .mp _ _ _=>k ⟨.p0 s.rows.length 0,()⟩ { s with rows:=s.rows ++ [(d,.itb r)] }
   | _=>none)
  | _,_=>none
 | .next it str=>match evT s.env c it with
  | some ⟨.p0 r 0,_⟩=>(match zAA s.rows r,str with
   | .sit b p,true=>sel (nlt p (ssize b)) (k (tupV [⟨.tt,()⟩,⟨.int .i64,n2i p⟩,⟨.int .i32,rrune b p⟩]) { s with rows:=setRow s.rows r d (.sit b (rnext b p)) }) (k (tupV [⟨.ff,()⟩]) s)
   | _,_=>none)
  | _=>none
 | .call ⟨.builtin .append,args,ts⟩=>match evTs s.env c args.toList,ts[0]?,ts[1]? with
  | some [a,b],some t,some t1=>appendT P d s t t1 a b k
  | _,_,_=>none
 | .call ⟨.builtin .copy,args,ts⟩=>match evTs s.env c args.toList,ts[0]? with
  | some [a,b],some t=>(match zBI P t with
   | some e=>(match a with
    | ⟨.own r,_⟩=>(match zAA s.rows r with
     | .many u l=>(match elemsT s.rows u b with
      | some ys=>bif szOk P t e u then k ⟨.int .i64,n2i (nmin (zAE ys) (zAE l))⟩ { s with rows:=setRow s.rows r d (.many u (lsplice l 0 (zCI ys 0 (nmin (zAE ys) (zAE l))))) } else none
      | none=>none)
     | _=>none)
    | ⟨.sub r,q⟩=>(match zAA s.rows r with
     | .many u l=>(match elemsT s.rows u b with
      | some ys=>bif szOk P t e u then k ⟨.int .i64,n2i (nmin (zAE ys) q.2)⟩ { s with rows:=setRow s.rows r d (.many u (lsplice l q.1 (zCI ys 0 (nmin (zAE ys) q.2)))) } else none
      | none=>none)
     | _=>none)
    | _=>none)
   | none=>none)
  | _,_=>none
 | .call ⟨.builtin .delete,args,ts⟩=>match evTs s.env c args.toList,ts[0]? with
  | some [⟨.mp r,_⟩,kx],some t=>(match zAA s.rows r with
   | .mp a b l=>(match keq a,zBK [] a kx with
    | some eq,some ky=>bif (match mapT P t with | some q=>decide (q.1 = a) | none=>false) && zDD r s.rows then k ⟨.tup .unit,()⟩ { s with rows:=setRow s.rows r d (.mp a b (mdel eq l ky)) } else none
    | _,_=>none)
   | _=>none)
  | _,_=>none
 | .call ⟨.value f,args,_⟩=>match evT s.env c f,evTs s.env c args.toList with
  | some ⟨.fn q a b,y⟩,some l=>match findCon d q s.rows (zAK a y.1 ++ l ++ zAK b y.2) Γ with
   | some ⟨con,x⟩=>bif (match g with | none=>!dr || con.ins.isEmpty | some _=>con.ins.isEmpty && con.outs.isEmpty) then (match con.q with
       | none=>callG g (zAY con.outT).dv (con.F x.x) fun r=>let w:=backT d con x s r;k w.1 w.2
       | some q=>(match g with
        | none=>callQ (q x.x) fun r=>let w:=backT d con x s r;k w.1 w.2
        | some _=>none)) else none
   | none=>notG g (k (dvT P o.type) s)
  | _,_=>notG g (k (dvT P o.type) s)
 | _=>none
def isHeapOp (o:Oper):Bool:=match o.op with
 | .alloc .. | .box .. | .buildSlice .. | .makeSlice .. | .store .. | .makeMap .. | .mapUpdate .. | .range .. | .next ..=>true
 | .call ⟨.builtin .append,_,_⟩=>true
 | .call ⟨.builtin .copy,_,_⟩=>true
 | .call ⟨.builtin .delete,_,_⟩=>true
 | .call ⟨.value _,_,_⟩=>true
 | _=>false
def isPick (o:Oper):Option (Operand × Operand × Operand):=match o.op with | .pick c a b=>some (c,a,b) | _=>none
def isCall (o:Oper):Bool:=match o.op with | .call ⟨.value _,_,_⟩=>true | _=>false
def slotOf (full:List Oper) (j:Nat):Option Tmp:=match full[j]? with | some o=>o.dst | none=>none
def regG (s:St) (n:Nat):Option (St × List (Nat × Bool)) :=
 match zAm s.env n with
 | some ⟨_,_,c,⟨.bool,b⟩⟩=>match getG s.gs n with
  | some _=>some (s,c)
  | none=>some ({ s with gs:=(n,b) :: s.gs },c)
 | _=>none
def pickT (s:St) (sc:Nat) (co:List (Nat × Bool)) (a b:Operand) (k:TV -> Option R):Option R :=
 match getG s.gs sc,evT s.env ((sc,true) :: co) a,evT s.env ((sc,false) :: co) b with
 | some q,some va,some vb=>if h:vb.t = va.t then k ⟨va.t,zAL q va.x (castI h vb.x)⟩ else none
 | _,_,_=>none
def execT (dr:Bool) (d:Nat) (c:List (Nat × Bool)) (o:Oper) (s:St) (k:St -> Option R):Option R :=
 match isPick o with
 | some (.tmp sc,a,b)=>match regG s sc with
  | some (s',cc)=>bif subC cc c then pickT s' sc c a b fun v=>(match put d o.dst c v s' with | some s''=>k s'' | none=>none) else none
  | none=>none
 | some _=>none
 | none=>bif isHeapOp o then
     (match isCall o,gB s.gs c with
     | true,g=>heapT P Γ dr d g c s o fun v s'=>(match put d o.dst c v s' with | some s''=>k s'' | none=>none)
     | false,none=>heapT P Γ dr d none c s o fun v s'=>(match put d o.dst c v s' with | some s''=>k s'' | none=>none)
     | false,some g=>sel g (heapT P Γ dr d none c s o fun v s'=>(match put d o.dst c v s' with | some s''=>k s'' | none=>none))
         (match put d o.dst c ⟨.any,()⟩ s with | some s''=>k s'' | none=>none))
  else zDW P d (gB s.gs c) c s o fun v=>(match put d o.dst c v s with | some s''=>k s'' | none=>none)
def dropC:List Ent -> List Ent
 | []=>[]
 | e :: r=>(bif e.c.isEmpty then e else ⟨e.s,e.lv,[],⟨.any,()⟩⟩) :: dropC r
def endG (s:St):St:=match s.gs with | []=>s | _=>⟨dropC s.env,s.rows,[]⟩
def opT1 (dr:Bool) (d:Nat) (full:List Oper) (o:Oper) (s:St) (k:St -> Option R):Option R:=match o.guard with
 | none=>execT P Γ dr d [] o s k
 | some (j,w)=>match slotOf full j with
  | some sj=>match regG s sj with
   | some (s1,cj)=>execT P Γ dr d ((sj,w) :: cj) o s1 k
   | none=>none
  | none=>none
def opsT (dr:Bool) (d:Nat) (full:List Oper):List Oper -> St -> (St -> Option R) -> Option R
 | [],s,k=>k (endG s)
 | o :: r,s,k=>opT1 P Γ dr d full o s fun s'=>opsT dr d full r s' k
inductive PN where
 | e
 | o (i:Nat) (r:PN)
 | b (i:Nat) (r:PN) (j:Nat) (q:PN)
def PN.of:List Nat -> PN
 | []=>.e
 | i :: r=>.o i (PN.of r)
def treeT (d:Nat) (full:List Oper):PN -> St -> (St -> Option R) -> Option R
 | .e,s,k=>k (endG s)
 | .o i r,s,k=>match full[i]? with
  | some o=>opT1 P Γ true d full o s fun s'=>treeT d full r s' k
  | none=>none
 | .b i r j q,s,k=>match full[i]?,full[j]? with
  | some o,some o'=>both (opT1 P Γ true d full o s fun s'=>treeT d full r s' k) (opT1 P Γ true d full o' s fun s'=>treeT d full q s' k)
  | _,_=>none
end
end Go.T
namespace Go.T
open Go.Ab
structure Sig where
 keep:List Nat
 slots:List (Nat × Ty)
 rows:List (Nat × RTy)
 n:Nat
 id:Nat
inductive Hint where
 | o
 | n (a b:Hint)
 | j (σ:Sig) (a b:Hint)
 | l (σ:Sig) (a:Hint)
 | lm (σ:Sig) (r:Nat) (a:Hint)
 | b (a:Hint)
 | jb (σ:Sig) (a:Hint)
 | r (plan:List Nat)
 | rt (t:PN)
 | u (n:Nat) (a:Hint)
def Sig.tys (σ:Sig):List Ty:=zCd (σ.slots.map (·.2) ++ σ.rows.map (·.2.dat))
abbrev Sig.I (σ:Sig):Type:=(zAY σ.tys).I
def findVs (env:List Ent):List (Nat × Ty) -> Option (List TV)
 | []=>some []
 | (n,_) :: l=>match zAm env n,findVs env l with
  | some e,some vs=>bif e.c.isEmpty then some (e.v :: vs) else none
  | _,_=>none
def idRefs:List Nat -> List (Nat × Nat)
 | []=>[]
 | q :: l=>(q,q) :: idRefs l
def uniKeep (env:List Ent):List Nat -> List (Nat × Nat)
 | []=>[]
 | n :: l=>match zAm env n with | some e=>idRefs e.v.t.refs ++ uniKeep env l | none=>uniKeep env l
def uniKeepR (l:List (Nat × RTy)) (rows:Rows):Nat -> List (Nat × Nat)
 | 0=>[]
 | n + 1=>(match zBR l n,zAA rows n with | none,.one t _=>idRefs t.refs | _,_=>[]) ++ uniKeepR l rows n
def keepOk (d:Nat) (env:List Ent):List Nat -> Bool
 | []=>true
 | n :: l=>(match zAm env n with | some e=>Nat.ble e.lv d && e.c.isEmpty | none=>false) && keepOk d env l
def rowsOk (d:Nat) (l:List (Nat × RTy)) (rows:Rows):Nat -> Bool
 | 0=>true
 | n + 1=>(match zBR l n with | some _=>true | none=>(match zAU rows n with | some lv=>Nat.ble lv d | none=>false)) && rowsOk d l rows n
def injOk (k:Nat) (l0:List (Nat × RTy)) (n:Nat) (ρ:List (Nat × Nat)):List (Nat × RTy) -> List Nat -> Bool
 | [],_=>true
 | (r,.gone) :: l,used=>injOk k l0 n ρ l used
 | (r,_) :: l,used=>match zCK ρ r with
  | some q=>(Nat.blt r k && Nat.beq q r || Nat.ble k r && Nat.ble k q) && !(used.any (Nat.beq q)) && (match zBR l0 q with | some _=>true | none=>Nat.ble n q) && injOk k l0 n ρ l (q :: used)
  | none=>Nat.ble k r && injOk k l0 n ρ l used
def keepBelow (n:Nat) (env:List Ent):List Nat -> Bool
 | []=>true
 | m :: l=>(match zAm env m with | some e=>refsBelow n e.v.t.refs | none=>true) && keepBelow n env l
def rowRefs:TRow -> List Nat | .one t _=>t.refs | .itb m=>[m] | .ite m _ _ _ _=>[m] | _=>[]
def keptBelow (N:Nat) (l:List (Nat × RTy)) (rows:Rows):Nat -> Bool
 | 0=>true
 | n + 1=>(match zBR l n with | some _=>true | none=>(rowRefs (zAA rows n)).all fun q=>Nat.blt q N && (match zAA rows n,zBR l q with | .one _ _,_=>true | _,none=>true | _,_=>false)) && keptBelow N l rows n
def below (n:Nat):List (Nat × RTy) -> List Nat -> Bool
 | [],_=>true
 | (r,_) :: l,used=>Nat.blt r n && !(used.any (Nat.beq r)) && below n l (r :: used)
def rhoOk (l:List (Nat × RTy)) (ρ:List (Nat × Nat)):Bool:=ρ.all fun e=>match zBR l e.1 with | some _=>true | none=>Nat.beq e.1 e.2
def ids:Nat -> List (Nat × Nat)
 | 0=>[]
 | n + 1=>(n,n) :: ids n
def pack (k d:Nat) (σ:Sig) (s:St):Option σ.I :=
 match findVs s.env σ.slots with
 | some vs =>
  let ρ:=uniRows s.rows (uniKeep s.env σ.keep ++ (uniKeepR σ.rows s.rows σ.n ++ ids k) ++ uniL (σ.slots.map (·.2)) vs) σ.rows
  let fz:=fzL (σ.slots.map (·.2)) vs ++ fzRows s.rows ρ σ.rows
  let rf:=zAz (d + 1) fz 0 s.rows
  bif keepOk d s.env σ.keep && rowsOk d σ.rows rf σ.n && injOk k σ.rows σ.n ρ σ.rows [] && below σ.n σ.rows [] && keepBelow σ.n s.env σ.keep && slotsBelow σ.n (σ.slots.map (·.2)) && rowsBelowT σ.n σ.rows && keptBelow σ.n σ.rows s.rows σ.n && Nat.ble k σ.n && rhoOk σ.rows ρ then
   (match packVals ρ (isLst σ.rows) rf (σ.slots.map (·.2)) vs,packRows ρ (isLst σ.rows) rf σ.rows with
   | some a,some b=>packAll σ.tys (a ++ b)
   | _,_=>none) else none
 | none=>none
def rowIn:List (Nat × TRow) -> Nat -> Option TRow
 | [],_=>none
 | e :: r,n=>bif Nat.beq e.1 n then some e.2 else rowIn r n
def zBs (d:Nat) (l:List (Nat × TRow)) (base:Rows):Nat -> Nat -> Rows
 | _,0=>[]
 | i,n + 1=>(match rowIn l i with
     | some row=>(d,row)
     | none=>match zAU base i with
      | some lv=>(lv,zAA base i)
      | none=>(d,.gone)) :: zBs d l base (i + 1) n
def keepE (env:List Ent):List Nat -> List Ent
 | []=>[]
 | n :: l=>match zAm env n with | some e=>e :: keepE env l | none=>keepE env l
def slotE (d:Nat):List (Nat × Ty) -> List TV -> List Ent
 | (n,_) :: l,v :: vs=>⟨n,d,[],v⟩ :: slotE d l vs
 | _,_=>[]
def zAp (d:Nat) (σ:Sig) (x:σ.I) (base:St):St :=
 let q:=zBz (σ.slots.map (·.2)) (zAK (zAY σ.tys) x)
 ⟨slotE d σ.slots q.1 ++ keepE base.env σ.keep,zBs d (zBc σ.rows q.2) base.rows 0 σ.n,[]⟩
section
variable (P:Program) (Γ:List Con)
structure Cx (R:Type) where
 k:Nat
 d:Nat
 ex:List (Nat × (St -> Option R))
 ret:St -> Option R
def getX {R:Type}:List (Nat × (St -> Option R)) -> Nat -> Option (St -> Option R)
 | [],_=>none
 | e :: r,n=>bif Nat.beq e.1 n then some e.2 else getX r n
def mapX {R R':Type} (g:(St -> Option R) -> St -> Option R'):List (Nat × (St -> Option R)) -> List (Nat × (St -> Option R'))
 | []=>[]
 | e :: r=>(e.1,g e.2) :: mapX g r
def upR {R:Type} (S:Type) (k:St -> Option R) (s:St):Option (S ⊕ R):=match k s with | some r=>some (.inr r) | none=>none
def Cx.inner {R:Type} (S:Type) (c:Cx R):Cx (S ⊕ R):=⟨c.k,c.d + 1,mapX (upR S) c.ex,upR S c.ret⟩
def dropK {R:Type} (r d:Nat) (k:St -> Option R) (s:St):Option R:=match zAA s.rows r with | .mp _ _ _=>none | _=>k { s with rows:=setRow s.rows r d .gone }
def Cx.innerM {R:Type} (S:Type) (r:Nat) (c:Cx R):Cx (S ⊕ R):=⟨c.k,c.d + 1,mapX (fun k=>upR S (dropK r (c.d + 1) k)) c.ex,upR S (dropK r (c.d + 1) c.ret)⟩
def zCh (r d:Nat) (row:TRow) (s:St):St:={ s with rows:=setRow s.rows r d row }
def isNext (env:List Ent) (σ:Sig) (r:Nat) (o:Oper):Bool:=match o.op,o.guard with
 | .next (.tmp t) false,none=>(match zAm env t with | some ⟨_,_,[],⟨.p0 q 0,_⟩⟩=>Nat.beq q r && σ.keep.any (Nat.beq t) && !(σ.slots.any fun p=>Nat.beq p.1 t) | _=>false)
 | _,_=>false
def unrN {R:Type}:Nat -> ((St -> Option R) -> St -> Option R) -> St -> Option R
 | 0,_,_=>none
 | n + 1,F,s=>F (fun s'=>unrN n F s') s
def trun:Code -> {R:Type} -> Hint -> Cx R -> (St -> Option R) -> St -> Option R
 | .skip,_,_,_,k,s=>k s
 | .seq a b,_,h,c,k,s=>match h with
  | .j σ ha hb=>join (trun a ha (c.inner σ.I) (fun s'=>(pack c.k c.d σ s').map .inl) s) fun x=>trun b hb c k (zAp c.d σ x s)
  | .n ha hb=>trun a ha c (fun s'=>trun b hb c k s') s
  | _=>trun a .o c (fun s'=>trun b .o c k s') s
 | .cond q x y,_,h,c,k,s=>match evT s.env [] q with
  | some ⟨.bool,b⟩=>(match h with
   | .n hx hy=>sel b (trun x hx c k s) (trun y hy c k s)
   | _=>sel b (trun x .o c k s) (trun y .o c k s))
  | some ⟨.tt,_⟩=>(match h with
   | .n hx hy=>trun x hx c k s
   | _=>trun x .o c k s)
  | some ⟨.ff,_⟩=>(match h with
   | .n hx hy=>trun y hy c k s
   | _=>trun y .o c k s)
  | _=>none
 | .block i b,_,h,c,k,s=>match h with
  | .jb σ hb=>join (trun b hb { c.inner σ.I with ex:=(i,fun s'=>(pack c.k c.d σ s').map .inl) :: (c.inner σ.I).ex } (fun s'=>(pack c.k c.d σ s').map .inl) s) fun x=>k (zAp c.d σ x s)
  | .b hb=>trun b hb { c with ex:=(i,k) :: c.ex } k s
  | _=>trun b .o { c with ex:=(i,k) :: c.ex } k s
 | .loop b,_,h,c,k,s=>match h with
  | .l σ hb=>match pack c.k c.d σ s with
   | some x0=>zBh (fun x=>trun b hb (c.inner σ.I) (fun s'=>(pack c.k c.d σ s').map .inl) (zAp (c.d + 1) σ x s)) x0
   | none=>none
  | .u n hb=>unrN n (fun k' s'=>trun b hb c k' s') s
  | .lm σ r hb=>match zAA s.rows r,b with
   | .itb m,.seq (.region _ ops false) rest=>match zAA s.rows m,zBR σ.rows r,ops.toList with
    | .mp kt vt l,none,o :: os=>bif Nat.blt m σ.n && (zBR σ.rows m).isNone && Nat.blt r σ.n && isNext s.env σ r o then
     (match pack c.k c.d σ s with
     | some x0=>mrange l
         (fun p x=>match put (c.d + 1) o.dst [] (tupV [⟨.tt,()⟩,⟨kt,p.1⟩,⟨vt,p.2⟩]) (zCh r c.d (.ite m kt vt p.1 p.2) (zAp (c.d + 1) σ x s)) with
          | some u=>opsT P Γ false (c.d + 1) (o :: os) os u fun s1=>trun rest hb (c.innerM σ.I r) (fun s'=>(pack c.k c.d σ s').map .inl) s1
          | none=>none)
         (fun x=>match put (c.d + 1) o.dst [] (tupV [⟨.ff,()⟩]) (zCh r c.d .gone (zAp (c.d + 1) σ x s)) with
          | some u=>opsT P Γ false (c.d + 1) (o :: os) os u fun s1=>trun rest hb (c.innerM σ.I r) (fun _=>none) s1
          | none=>none) x0
     | none=>none) else none
    | _,_,_=>none
   | _,_=>none
  | _=>none
 | .exit i,_,_,c,_,s=>match getX c.ex i with
  | some k'=>k' s
  | none=>none
 | .ret,_,_,c,_,s=>c.ret s
 | .region _ ops draw,_,h,c,k,s=>match draw,h with
  | false,_=>opsT P Γ false c.d ops.toList ops.toList s k
  | true,.r plan=>treeT P Γ c.d ops.toList (PN.of plan) s k
  | true,.rt t=>treeT P Γ c.d ops.toList t s k
  | true,_=>none
 | _,_,_,_,_,_=>none
def resT (s:St):List ResultVar -> Option (List TV)
 | []=>some []
 | .tmp t :: r=>match zAm s.env t,resT s r with | some e,some l=>bif e.c.isEmpty then some (e.v :: l) else none | _,_=>none
 | .cell a t :: r=>match zAm s.env a,resT s r with
  | some e,some l=>bif e.c.isEmpty then (match loadT P s.rows t e.v with | some v=>some (v :: l) | none=>none) else none
  | _,_=>none
def retT:List TV -> TV
 | [v]=>v
 | vs=>tupV vs
def argsE:Nat -> List TV -> List Ent
 | _,[]=>[]
 | n,v :: r=>⟨n,0,[],v⟩ :: argsE (n + 1) r
def endT (rs:List ResultVar) (k:Nat) (res:Ty) (outs:List RTy) (s:St):Option (zAY (zCd (res :: outs.map RTy.dat))).I :=
 match resT P s rs with
 | some l =>
  let v:=retT l
  let os:=numb 0 outs
  let ρ:=uniRows s.rows (ids k ++ uni res v.t) os
  let rf:=zAz 1 (fzT res v.t ++ fzRows s.rows ρ os) 0 s.rows
  bif injOk k os outs.length ρ os [] && slotsBelow outs.length [res] && rowsBelowT outs.length os then
   (match packVals ρ (isLst os) rf [res] [v],packRows ρ (isLst os) rf os with
   | some a,some b=>packAll (zCd (res :: outs.map RTy.dat)) (a ++ b)
   | _,_=>none) else none
 | none=>none
def zAo:List (Nat × TRow) -> Rows
 | []=>[]
 | (_,row) :: r=>(0,row) :: zAo r
def trunFk (k:Nat) (fn:Func) (h:Hint) (as:List Ty) (ins:List RTy) (res:Ty) (outs:List RTy) (x:(zAY (zCd (as ++ ins.map RTy.dat))).I):Option (zAY (zCd (res :: outs.map RTy.dat))).I :=
 match fn.body with
 | some c =>
  let q:=zBz as (zAK (zAY (zCd (as ++ ins.map RTy.dat))) x)
  let e:=endT P fn.results.toList k res outs
  trun P Γ c h ⟨k,0,[],e⟩ e ⟨argsE 0 q.1,zAo (zBc (numb 0 ins) q.2),[]⟩
 | none=>none
abbrev trunF (fn:Func) (h:Hint) (as:List Ty) (ins:List RTy) (res:Ty) (outs:List RTy):=trunFk P Γ ins.length fn h as ins res outs
end
variable [Go.Ab.DM]
structure Refs where
 own:Nat -> D
 sub:Nat -> Nat × Nat -> D
 p0:Nat -> Nat -> D
 pt:Nat -> Nat -> Nat -> D
 mp:Nat -> D
def zDH:Refs:=⟨fun _=>.any,fun _ _=>.any,fun _ _=>.any,fun _ _ _=>.any,fun _=>.any⟩
def E:(t:Ty) -> Refs -> t.I -> D × List D
 | .int k,_,n=>(.v (.int k n),[.v (.int k n)])
 | .bool,_,b=>(.v (.bool b),[.v (.bool b)])
 | .str,_,s=>(.v (.string s),[.v (.string s)])
 | .unit,_,_=>(.any,[])
 | .pr a b,ρ,x=>(.any,(E a ρ x.1).1 :: (E b ρ x.2).2)
 | .agg s,ρ,x=>(.agg (E s ρ x).2,[.agg (E s ρ x).2])
 | .tup s,ρ,x=>(.tup (E s ρ x).2,[.tup (E s ρ x).2])
 | .sl t,_,l=>(.fz t.w (l.map fun x=>(E t zDH x).1),[.fz t.w (l.map fun x=>(E t zDH x).1)])
 | .own r,ρ,_=>(ρ.own r,[ρ.own r])
 | .sub r,ρ,q=>(ρ.sub r q,[ρ.sub r q])
 | .p0 r o,ρ,_=>(ρ.p0 r o,[ρ.p0 r o])
 | .pt r o,ρ,i=>(ρ.pt r o i,[ρ.pt r o i])
 | .fp t o,_,x=>(.fp t.w [(E t zDH x).1] 0 o,[.fp t.w [(E t zDH x).1] 0 o])
 | .fn f a c,ρ,x=>(.fn (.func f) (E a ρ x.1).2 (E c ρ x.2).2,[.fn (.func f) (E a ρ x.1).2 (E c ρ x.2).2])
 | .ifc id t,ρ,x=>(.ifc id (E t ρ x).1,[.ifc id (E t ρ x).1])
 | .mp r,ρ,_=>(ρ.mp r,[ρ.mp r])
 | .nul c,_,_=>(.v (nulV c),[.v (nulV c)])
 | .tt,_,_=>(.v (.bool true),[.v (.bool true)])
 | .ff,_,_=>(.v (.bool false),[.v (.bool false)])
 | .any,_,_=>(.any,[.any])
def enc (ρ:Refs) (v:TV):D:=(E v.t ρ v.x).1
def encs (ρ:Refs) (v:TV):List D:=(E v.t ρ v.x).2
abbrev e0 (t:Ty) (x:t.I):D:=(E t zDH x).1
def E_one {t:Ty} (h:t.sp = false) (ρ:Refs) (x:t.I):(E t ρ x).2 = [(E t ρ x).1]:=by
 cases t <;> simp [Ty.sp] at h <;> rfl
def E_leaves:∀ (s:Ty) (ρ:Refs) (x:s.I),(E s ρ x).2 = (zAK s x).map (enc ρ):=by
 intro s
 induction s with
 | pr a b iha ihb=>intro ρ x;simp only [E,zAK,yAL,ihb];rfl
 | unit=>intro ρ x;rfl
 | _=>intro ρ x;rfl
def enc_lf (ρ:Refs) (v:TV):enc ρ v.lf = enc ρ v:=by
 obtain ⟨t,x⟩:=v
 cases t <;> rfl
def lf_sp (v:TV):v.lf.t.sp = false:=by
 obtain ⟨t,x⟩:=v
 cases t <;> rfl
def E_spine (ρ:Refs):∀ l:List TV,encs ρ (zDV l) = l.map (enc ρ)
 | []=>rfl
 | [v]=>by
  show (E v.lf.t ρ v.lf.x).2 = _
  rw [E_one (lf_sp v)]
  show [enc ρ v.lf] = _
  rw [enc_lf];rfl
 | v :: u :: r=>by
  show (E v.t ρ v.x).1 :: encs ρ (zDV (u :: r)) = _
  rw [E_spine ρ (u :: r)];rfl
def enc_agg (ρ:Refs) (l:List TV):enc ρ (aggV l) = .agg (l.map (enc ρ)):=by
 show D.agg (encs ρ (zDV l)) = _
 rw [E_spine]
def enc_tup (ρ:Refs) (l:List TV):enc ρ (tupV l) = .tup (l.map (enc ρ)):=by
 show D.tup (encs ρ (zDV l)) = _
 rw [E_spine]
def enc_aggK (ρ:Refs) (s:Ty) (x:s.I):enc ρ ⟨.agg s,x⟩ = .agg ((zAK s x).map (enc ρ)):=by
 show D.agg (E s ρ x).2 = _
 rw [E_leaves]
def enc_tupK (ρ:Refs) (s:Ty) (x:s.I):enc ρ ⟨.tup s,x⟩ = .tup ((zAK s x).map (enc ρ)):=by
 show D.tup (E s ρ x).2 = _
 rw [E_leaves]
def E_pure:∀ (t:Ty),t.pure = true -> ∀ (ρ ρ':Refs) (x:t.I),E t ρ x = E t ρ' x:=by
 intro t
 induction t with
 | pr a b iha ihb=>intro h ρ ρ' x;simp only [Ty.pure,yAB] at h;simp only [E,iha h.1 ρ ρ',ihb h.2 ρ ρ']
 | agg s ih=>intro h ρ ρ' x;exact congrArg (fun p:D × List D=>(D.agg p.2,[D.agg p.2])) (ih h ρ ρ' x)
 | tup s ih=>intro h ρ ρ' x;exact congrArg (fun p:D × List D=>(D.tup p.2,[D.tup p.2])) (ih h ρ ρ' x)
 | fn f a c iha ihb=>intro h ρ ρ' x;simp only [Ty.pure,yAB] at h;simp only [E,iha h.1 ρ ρ',ihb h.2 ρ ρ']
 | ifc id t ih=>intro h ρ ρ' x;exact congrArg (fun p:D × List D=>(D.ifc id p.1,[D.ifc id p.1])) (ih h ρ ρ' x)
 | own r=>intro h;simp [Ty.pure] at h
 | sub r=>intro h;simp [Ty.pure] at h
 | p0 r o=>intro h;simp [Ty.pure] at h
 | pt r o=>intro h;simp [Ty.pure] at h
 | mp r=>intro h;simp [Ty.pure] at h
 | _=>intro h ρ ρ' x;rfl
def enc_pure {v:TV} (h:v.t.pure = true) (ρ ρ':Refs):enc ρ v = enc ρ' v:=by unfold enc;rw [E_pure v.t h ρ ρ']
def ones_len:∀ (s:Ty) (ρ:Refs) (x:s.I),s.ones = true -> (E s ρ x).2.length = s.w:=by
 intro s
 induction s with
 | pr a b iha ihb =>
  intro ρ x h
  simp only [Ty.ones,yAB] at h
  simp only [E,yAY,Ty.w,ihb ρ x.2 h.2]
  have:a.w = 1:=by have:=h.1;cases a <;> simp [Ty.one] at this <;> rfl
  omega
 | unit=>intro ρ x _;rfl
 | agg s ih=>intro ρ x h;simp [Ty.ones,Ty.one] at h
 | tup s ih=>intro ρ x h;simp [Ty.ones,Ty.one] at h
 | any=>intro ρ x h;simp [Ty.ones,Ty.one] at h
 | _=>intro ρ x h;rfl
def nulV_one {c:Nat} (h:c < 5):(D.v (nulV c)).one = true:=by
 match c,h with
 | 0,_=>rfl
 | 1,_=>rfl
 | 2,_=>rfl
 | 3,_=>rfl
 | 4,_=>rfl
def pure_one {t:Ty} (hp:t.pure = true) (h1:t.one = true) (ρ:Refs) (x:t.I):(E t ρ x).1.one = true:=by
 cases t <;> simp [Ty.one] at h1 <;> simp [Ty.pure] at hp <;> first | rfl | exact nulV_one h1
def ones_one:∀ (s:Ty) (ρ:Refs) (x:s.I),s.pure = true -> s.ones = true -> (E s ρ x).2.all D.one = true:=by
 intro s
 induction s with
 | pr a b iha ihb =>
  intro ρ x hp h
  simp only [Ty.ones,yAB] at h
  simp only [Ty.pure,yAB] at hp
  simp only [E,yBZ,ihb ρ x.2 hp.2 h.2,pure_one hp.1 h.1,Bool.and_self]
 | unit=>intro ρ x _ _;rfl
 | _=>intro ρ x hp h;first | (simp [Ty.ones,Ty.one] at h;done) | (rw [E_one (by rfl),yBZ,pure_one hp h];rfl)
def elem_width {t:Ty} (h:t.elem = true) (ρ:Refs) (x:t.I):(E t ρ x).1.width = t.w:=by
 simp only [Ty.elem,yAB] at h
 cases t with
 | agg s=>exact ones_len s ρ x h.2
 | pr a b=>simp [Ty.one] at h
 | unit=>simp [Ty.one] at h
 | tup s=>simp [Ty.one] at h
 | any=>simp [Ty.one] at h
 | own r=>simp [Ty.pure] at h
 | sub r=>simp [Ty.pure] at h
 | p0 r o=>simp [Ty.pure] at h
 | pt r o=>simp [Ty.pure] at h
 | mp r=>simp [Ty.pure] at h
 | _=>rfl
def elem_cells {t:Ty} (h:t.elem = true) (ρ:Refs) (x:t.I):(E t ρ x).1.cells.all D.one = true:=by
 simp only [Ty.elem,yAB] at h
 cases t with
 | agg s=>exact ones_one s ρ x h.1 h.2
 | _ =>
  first
   | (simp [Ty.one] at h;done)
   | (have:=pure_one h.1 h.2 ρ x;rw [one_cells this,yBZ,this];rfl)
def zCY {t:Ty} (h:t.elem = true):t.pure = true:=by simp only [Ty.elem,yAB] at h;exact h.1
def Tl (d d':D):Prop:=∀ (own:Nat -> Own) (U:Nat -> Prop) (w:World) (n:Nat) (v:Value),VRel own U w n d v -> VRel own U w n d' v
def Tl.refl (d:D):Tl d d:=fun _ _ _ _ _ h=>h
def Tl.of_eq {d d':D} (h:d = d'):Tl d d':=h ▸ Tl.refl d
def Tl.trans {a b c:D} (h:Tl a b) (h':Tl b c):Tl a c:=fun o U w n v hv=>h' o U w n v (h o U w n v hv)
def Tl.any (d:D):Tl d .any:=fun _ _ _ _ _ _=>by rw [VRel];trivial
def Tl.nil (k:Nat):Tl (.v (.slice none 0 0)) (.fz k []):=fun o U w n v hv=>by
 rw [VRel] at hv;subst hv
 rw [VRel];exact ⟨none,0,rfl,yAJ _,fun h=>absurd rfl h⟩
inductive Tls:List D -> List D -> Prop
 | nil:Tls [] []
 | cons {d d' ds ds'}:Tl d d' -> Tls ds ds' -> Tls (d :: ds) (d' :: ds')
def Tls.refl:∀ ds,Tls ds ds
 | []=>.nil
 | d :: ds=>.cons (Tl.refl d) (Tls.refl ds)
def Tls.vrels {own U w n}:∀ {ds ds':List D},Tls ds ds' -> ∀ {vs},VRels own U w n ds vs -> VRels own U w n ds' vs
 | _,_,.nil,vs,h=>h
 | _,_,.cons h1 h2,vs,h=>by
  rw [VRels] at h ⊢
  obtain ⟨x,xs,e,ha,hb⟩:=h
  exact ⟨x,xs,e,h1 _ _ _ _ _ ha,Tls.vrels h2 hb⟩
def Tls.trans:∀ {a b c:List D},Tls a b -> Tls b c -> Tls a c
 | _,_,_,.nil,.nil=>.nil
 | _,_,_,.cons h1 h2,.cons h3 h4=>.cons (h1.trans h3) (h2.trans h4)
def Tls.len:∀ {a b:List D},Tls a b -> a.length = b.length
 | _,_,.nil=>rfl
 | _,_,.cons _ h=>by simp [Tls.len h]
def Tls.app:∀ {a b c d:List D},Tls a b -> Tls c d -> Tls (a ++ c) (b ++ d)
 | _,_,_,_,.nil,h=>h
 | _,_,_,_,.cons h1 h2,h=>.cons h1 (Tls.app h2 h)
def Tl.agg {a b:List D} (h:Tls a b):Tl (.agg a) (.agg b):=fun o U w n v hv=>by
 rw [VRel] at hv ⊢;obtain ⟨vs,e,hv⟩:=hv;exact ⟨vs,e,h.vrels hv⟩
def Tl.tup {a b:List D} (h:Tls a b):Tl (.tup a) (.tup b):=fun o U w n v hv=>by
 rw [VRel] at hv ⊢;obtain ⟨vs,e,hv⟩:=hv;exact ⟨vs,e,h.vrels hv⟩
def Tl.fn {f:Fn} {a b c d:List D} (h:Tls a b) (h':Tls c d):Tl (.fn f a c) (.fn f b d):=fun o U w n v hv=>by
 rw [VRel] at hv ⊢;obtain ⟨vs,us,e,h1,h2⟩:=hv;exact ⟨vs,us,e,h.vrels h1,h'.vrels h2⟩
def Tl.ifc {t:TypeId} {a b:D} (h:Tl a b):Tl (.ifc t a) (.ifc t b):=fun o U w n v hv=>by
 rw [VRel] at hv ⊢;obtain ⟨x,e,h1⟩:=hv;exact ⟨x,e,h _ _ _ _ _ h1⟩
def Tl.fp {k:Nat} {xs:List D} {i o:Nat} {d:D} (h:xs[i]? = some d):Tl (.fp k xs i o) (.fp k [d] 0 o):=fun own U w n v hv=>by
 rw [VRel] at hv ⊢
 obtain ⟨b,off,e,hU,hc⟩:=hv
 refine ⟨b,off + i * k,by rw [e];simp [Nat.add_assoc],hU,?_⟩
 rw [Cells]
 exact ⟨Cells_get hc h,by rw [Cells];trivial⟩
def Tls.get:∀ {a b:List D},Tls a b -> ∀ {i:Nat} {d:D},b[i]? = some d -> ∃ d',a[i]? = some d' /\ Tl d' d
 | _,_,.nil,i,d,h=>by simp at h
 | _,_,.cons h1 h2,0,d,h=>by simp at h;subst h;exact ⟨_,rfl,h1⟩
 | _,_,.cons h1 h2,i + 1,d,h=>by
  obtain ⟨d',e,h3⟩:=Tls.get h2 (i:=i) (by simpa using h)
  exact ⟨d',by simpa using e,h3⟩
def Te (d d':D):Prop:=d.cells.length = d'.cells.length /\ (d.cells.all D.one = true -> d'.cells.all D.one = true) /\ Tls d.cells d'.cells
def Te.refl (d:D):Te d d:=⟨rfl,id,Tls.refl _⟩
def Flat_tl {own U w n}:∀ {ds ds':List D},Tls ds ds' -> ds'.all D.one = true -> ∀ {b off},Flat own U w n ds b off -> Flat own U w n ds' b off
 | _,_,.nil,_,b,off,h=>h
 | _,_,.cons h1 h2,h',b,off,h=>by
  rw [yBZ,yAB] at h'
  rw [Flat] at h ⊢
  obtain ⟨h3,⟨x,h4,h5⟩,h6⟩:=h
  exact ⟨h'.1,⟨x,h4,h1 _ _ _ _ _ h5⟩,Flat_tl h2 h'.2 h6⟩
def Elem_te {own U w n k} {d d':D} (h:Te d d') {b off:Nat} (he:Elem own U w n k d b off):Elem own U w n k d' b off:=by
 rw [zCe] at he ⊢
 obtain ⟨h1,h2,h3⟩:=h
 have:=(Flat_values.1 he.2).1
 exact ⟨by omega,Flat_tl h3 (h2 this) he.2⟩
inductive Tes:List D -> List D -> Prop
 | nil:Tes [] []
 | cons {d d' ds ds'}:Te d d' -> Tes ds ds' -> Tes (d :: ds) (d' :: ds')
def Tes.refl:∀ ds,Tes ds ds
 | []=>.nil
 | d :: ds=>.cons (Te.refl d) (Tes.refl ds)
def Tes.len:∀ {a b:List D},Tes a b -> a.length = b.length
 | _,_,.nil=>rfl
 | _,_,.cons _ h=>by simp [Tes.len h]
def Tes.app:∀ {a b c d:List D},Tes a b -> Tes c d -> Tes (a ++ c) (b ++ d)
 | _,_,_,_,.nil,h=>h
 | _,_,_,_,.cons h1 h2,h=>.cons h1 (Tes.app h2 h)
def Cells_te {own U w n k}:∀ {ds ds':List D},Tes ds ds' -> ∀ {b off},Cells own U w n k ds b off -> Cells own U w n k ds' b off
 | _,_,.nil,b,off,h=>h
 | _,_,.cons h1 h2,b,off,h=>by rw [Cells] at h ⊢;exact ⟨Elem_te h1 h.1,Cells_te h2 h.2⟩
end Go.T
namespace Go.Ab
variable [Go.Ab.DM]
def WeakS (e:Env) (H:Heap) (e':Env) (H':Heap):Prop :=
 ∀ own X w,Sim own H X w -> Sim own H' X w /\ Ext X own H w own H' w /\ ∀ i v,Rel own H X w (e i) v -> Rel own H' X w (e' i) v
def WeakS.refl (e:Env) (H:Heap):WeakS e H e H:=fun own X w hs=>⟨hs,.refl _ _ _,fun _ _ h=>h⟩
def WeakS.trans {e H e' H' e'' H''} (h:WeakS e H e' H') (h':WeakS e' H' e'' H''):WeakS e H e'' H'':=fun own X w hs=>by
 obtain ⟨h1,h2,h3⟩:=h own X w hs
 obtain ⟨h4,h5,h6⟩:=h' own X w h1
 exact ⟨h4,Ext.trans h2 h5,fun i v hv=>h6 i v (h3 i v hv)⟩
def WeakS.env {e e':Env} {H:Heap} (h:∀ i,Go.T.Tl (e i) (e' i)):WeakS e H e' H:=fun own X w hs=>⟨hs,.refl _ _ _,fun i v hv=>h i _ _ _ _ _ hv⟩
def run_weak {P:Program} {f:FuncId} {N n0:Nat} {R:D -> Heap -> Prop} {K:List Item} {e e':Env} {H H':Heap} (hw:WeakS e H e' H') (h:Run P f N n0 R K e' H'):Run P f N n0 R K e H:=by
 intro hn own X w tmps cs hN hsim henv
 obtain ⟨h1,h2,h3⟩:=hw own X w hsim
 exact Fin.of_steps hn h2 (Steps.refl _ _) (h (yBN hn h2.hn) own X w tmps cs hN h1 (fun i=>h3 i _ (henv i)))
def bops (P:Program) (N:Nat) (ops:Array Oper):List (OpKind × Oper) -> Env -> Heap -> (Env -> Heap -> Prop) -> Prop
 | [],e,H,Q=>Q e H
 | (k,o) :: rest,e,H,Q=>∃ e1 H1,WeakS e H e1 H1 /\ dstOk N o.dst /\ match o.guard with
  | none=>zDI P k o e1 H1 fun d H'=>bops P N ops rest (updO e1 o.dst d) H' Q
  | some (j,want)=>∃ s,gslot ops j = some s /\ s < N /\ ((∃ b,e1 s = .v (.bool b) /\
      (b = want -> zDI P k o e1 H1 fun d H'=>bops P N ops rest (updO e1 o.dst d) H' Q) /\ (b ≠ want -> bops P N ops rest (updO e1 o.dst (.v undef)) H1 Q)) \/
      (e1 s = .v undef /\ bops P N ops rest (updO e1 o.dst (.v undef)) H1 Q))
def yielded_undef {ops:Array Oper} {e:Env} {H:Heap} {N:Nat} {own X w tmps} {j s:Nat} (hs:gslot ops j = some s) (hlt:s < N) (hN:tmps.size = N) (henv:EnvRel own H X w tmps e) (hb:e s = .v undef):yielded ops tmps j = none:=by
 have h:=henv s
 rw [hb,zCE] at h
 have hl:s < tmps.size:=by omega
 unfold gslot at hs
 unfold yielded
 rw [hs]
 simp [Array.getD,hl] at h
 simp [hl,h,undef]
section
variable {P:Program} {f:FuncId} {N n0:Nat} {R:D -> Heap -> Prop} {K:List Item} {ops:Array Oper}
def runOps_weak {l:List Oper} {e e':Env} {H H':Heap} (hw:WeakS e H e' H') (h:RunOps P f N n0 R K ops l e' H'):RunOps P f N n0 R K ops l e H:=by
 intro idx hidx own0 H0 w0 own X w tmps hx hN hsim henv
 obtain ⟨h1,h2,h3⟩:=hw own X w hsim
 exact h idx hidx own0 H0 w0 own X w tmps (Ext.trans hx h2) hN h1 (fun i=>h3 i _ (henv i))
def zDB:∀ (l:List Oper) (e:Env) (H:Heap),bops P N ops (l.map fun o=>(zAF o,o)) e H (fun e' H'=>Run P f N n0 R K e' H') -> RunOps P f N n0 R K ops l e H
 | [],e,H,h=>runOps_nil h
 | o :: rest,e,H,h=>by
  simp only [yAL,bops] at h
  obtain ⟨e1,H1,hw,hd,h⟩:=h
  refine runOps_weak hw ?_
  split at h
  ·rename_i hg
   exact runOps_cons hd (fun _ _ _ _ _ _=>by simp [Region.wanted,hg]) ((aop_sound h).mono fun d H' h'=>zDB rest _ _ h')
  ·rename_i j want hg
   obtain ⟨s,h1,h2,⟨b,h3,h4,h5⟩ | ⟨h3,h4⟩⟩:=h
   ·by_cases hbw:b = want
    ·exact runOps_cons hd (fun own X w tmps hN henv=>by simp [Region.wanted,hg,zCZ h1 h2 hN henv h3,hbw]) ((aop_sound (h4 hbw)).mono fun d H' h'=>zDB rest _ _ h')
    ·exact runOps_skip hd (fun own X w tmps hN henv=>by simp [Region.wanted,hg,zCZ h1 h2 hN henv h3,hbw]) (zDB rest _ _ (h5 hbw))
   ·exact runOps_skip hd (fun own X w tmps hN henv=>by simp [Region.wanted,hg,yielded_undef h1 h2 hN henv h3]) (zDB rest _ _ h4)
def run_breg {id:Nat} {l:List Oper} {e:Env} {H:Heap} (h:bops P N l.toArray (l.map fun o=>(zAF o,o)) e H fun e' H'=>Run P f N n0 R K e' H'):Run P f N n0 R (.code (.region id l.toArray false) :: K) e H :=
 run_region (zDB l e H h)
inductive PT where
 | e
 | f (k:OpKind) (i:Nat) (r:PT)
 | a (k:OpKind) (i:Nat) (r:PT)
 | b (k:OpKind) (i:Nat) (r:PT) (k':OpKind) (j:Nat) (q:PT)
def PT.size:PT -> Nat | .e=>0 | .f _ _ r=>r.size + 1 | .a _ _ r=>r.size + 1 | .b _ _ r _ _ _=>r.size + 1
def pend2:OpKind -> List Nat -> List Nat | .wr,_=>[] | _,p=>p
def altOk (ops:Array Oper) (pend:List Nat):OpKind -> Nat -> Bool | .wr,i=>covers .any ops pend i | _,_=>true
def treeOk (ops:Array Oper):PT -> List Nat -> Array Bool -> Bool
 | .e,_,L=>(Region.ready .any ops L).isEmpty
 | .f .pure i r,pend,L=>Region.free .any ops L i && (Region.ready .any ops L).contains i && treeOk ops r pend (L.setIfInBounds i true)
 | .f .load i r,pend,L=>Region.free .any ops L i && (Region.ready .any ops L).contains i && treeOk ops r (i :: pend) (L.setIfInBounds i true)
 | .f _ _ _,_,_=>false
 | .a k i r,pend,L=>Region.ready .any ops L == [i] && altOk ops pend k i && treeOk ops r (pend2 k pend) (L.setIfInBounds i true)
 | .b k i r k' j q,pend,L=>Region.ready .any ops L == [i,j] && r.size == q.size && (altOk ops pend k i && treeOk ops r (pend2 k pend) (L.setIfInBounds i true)) && (altOk ops pend k' j && treeOk ops q (pend2 k' pend) (L.setIfInBounds j true))
def bone (P:Program) (N:Nat) (ops:Array Oper) (k:OpKind) (i:Nat) (e:Env) (H:Heap) (C:Env -> Heap -> Prop):Prop:=∃ o,ops[i]? = some o /\ bops P N ops [(k,o)] e H C
def btree (P:Program) (N:Nat) (ops:Array Oper):PT -> Env -> Heap -> (Env -> Heap -> Prop) -> Prop
 | .e,e,H,Q=>Q e H
 | .f k i r,e,H,Q=>bone P N ops k i e H fun e H=>btree P N ops r e H Q
 | .a k i r,e,H,Q=>bone P N ops k i e H fun e H=>btree P N ops r e H Q
 | .b k i r k' j q,e,H,Q=>(bone P N ops k i e H fun e H=>btree P N ops r e H Q) /\ bone P N ops k' j e H fun e H=>btree P N ops q e H Q
def one_sound {k:OpKind} {i:Nat} {o:Oper} (hi:ops[i]? = some o) {e:Env} {H:Heap} {C:Env -> Heap -> Prop} (h:bops P N ops [(k,o)] e H C) {Q:Exit -> Act -> World -> Prop} {n:Nat} {L:Array Bool} {pend:List Nat} (hk:altOk ops pend k i = true)
  {own X w tmps} (hN:tmps.size = N) (hs:Sim own H X w) (he:EnvRel own H X w tmps e)
  (next:∀ e' H' own1 w1 tm,C e' H' -> Ext X own H w own1 H' w1 -> tm.size = N -> Sim own1 H' X w1 -> EnvRel own1 H' X w1 tm e' -> anyP P .any ops Q (pend2 k pend) (Sof w1) n L ⟨tm,[]⟩ w1) :
  wpOp P ops Q i (fun a' w'=>(Sof w w' /\ anyP P .any ops Q pend (Sof w) n L a' w') \/ (covers .any ops pend i = true /\ wpAny P .any ops Q n L a' w')) ⟨tmps,[]⟩ w:=by
 simp only [bops] at h
 obtain ⟨e1,H1',hweak,hd,ha⟩:=h
 obtain ⟨hs1,hx1,he1⟩:=hweak own X w hs
 have he:EnvRel own H1' X w tmps e1:=fun q=>he1 q _ (he q)
 have next:∀ e' H' own1 w1 tm,C e' H' -> Ext X own H1' w own1 H' w1 -> tm.size = N -> Sim own1 H' X w1 -> EnvRel own1 H' X w1 tm e' -> anyP P .any ops Q (pend2 k pend) (Sof w1) n L ⟨tm,[]⟩ w1:=fun e' H' own1 w1 tm h1 h2=>next e' H' own1 w1 tm h1 (Ext.trans hx1 h2)
 have hs:=hs1
 clear hs1 hx1 he1
 revert he hs next
 generalize H1' = H at *
 generalize e1 = e at *
 intro he next hs
 have hρ:∀ x,Rel own H X w (ev e x) ((⟨tmps,[]⟩:Act).eval x):=fun x=>he.eval x
 have hcase:(Region.wanted o (yielded ops tmps) = true /\ zDI P k o e H fun d H'=>C (updO e o.dst d) H') \/ (Region.wanted o (yielded ops tmps) = false /\ C (updO e o.dst (.v undef)) H):=by
  split at ha
  ·rename_i hg;exact .inl ⟨by simp [Region.wanted,hg],ha⟩
  ·rename_i j want hg
   obtain ⟨s,h1,h2,⟨b,h3,h4,h5⟩ | ⟨h3,h4⟩⟩:=ha
   ·by_cases hbw:b = want
    ·exact .inl ⟨by simp [Region.wanted,hg,zCZ h1 h2 hN he h3,hbw],h4 hbw⟩
    ·exact .inr ⟨by simp [Region.wanted,hg,zCZ h1 h2 hN he h3,hbw],h5 hbw⟩
   ·exact .inr ⟨by simp [Region.wanted,hg,yielded_undef h1 h2 hN he h3],h4⟩
 have go:∀ (own1:Nat -> Own) (d:D) (H1:Heap) (v:Value) (w1:World),Sim own1 H1 X w1 -> Rel own1 H1 X w1 d v -> Ext X own H w own1 H1 w1 -> C (updO e o.dst d) H1 -> anyP P .any ops Q (pend2 k pend) (Sof w1) n L ((⟨tmps,[]⟩:Act).put o.dst v) w1:=by
  intro own1 d H1 v w1 h1 h2 h3 h4
  have h5:=(he.ext h3).put (o:=o.dst) (by rw [hN];exact hd) h2 []
  have hsz:=put_size (tmps:=tmps) (ds:=[]) (o:=o.dst) (v:=v)
  have hdf:=put_defers (tmps:=tmps) (ds:=[]) (o:=o.dst) (v:=v)
  generalize (⟨tmps,[]⟩:Act).put o.dst v = a at *
  obtain ⟨tm,df⟩:=a
  simp at hsz hdf;subst hdf
  exact next _ _ own1 w1 tm h4 h3 (by rw [hsz,hN]) h1 h5
 have hundef:Rel own H X w (.v undef) undef:=by simp [Rel,VRel]
 have lift:∀ (w1:World) (a:Act),(k ≠ .wr -> Sof w w1) -> anyP P .any ops Q (pend2 k pend) (Sof w1) n L a w1 -> (Sof w w1 /\ anyP P .any ops Q pend (Sof w) n L a w1) \/ (covers .any ops pend i = true /\ wpAny P .any ops Q n L a w1):=fun w1 a hS h=>by
  cases k with
  | wr=>exact .inr ⟨hk,zBy _ _ _ _ h⟩
  | pure=>exact .inl ⟨hS (by simp),anyP_mono (fun _ h=>h) (fun _ h=>(hS (by simp)).trans h) _ _ _ _ h⟩
  | load=>exact .inl ⟨hS (by simp),anyP_mono (fun _ h=>h) (fun _ h=>(hS (by simp)).trans h) _ _ _ _ h⟩
  | keep=>exact .inl ⟨hS (by simp),anyP_mono (fun _ h=>h) (fun _ h=>(hS (by simp)).trans h) _ _ _ _ h⟩
 rcases hcase with ⟨hw,ha⟩ | ⟨hw,ha⟩
 rotate_left
 ·unfold wpOp
  simp only [hi,hw,yBS,if_false]
  exact lift w _ (fun _=>Sof.refl w) (go own _ H undef w hs hundef (.refl _ _ _) ha)
 cases k with
 | pure =>
  obtain ⟨v,d,h1,h2,h3⟩:=apure_sound hs hρ ha
  exact YieldsIf.wpOp (S:=fun _=>True) hi (.inl ⟨hw,fun w' _=>h1 w'⟩) trivial (lift w _ (fun _=>Sof.refl w) (go own d H v w hs h2 (.refl _ _ _) h3))
 | load =>
  simp only [zDI] at ha
  obtain ⟨x,d,h3,h4,h2⟩:=aLoad_sound hs hρ ha
  exact YieldsIf.wpOp (S:=Sof w) hi (.inl ⟨hw,fun w' hw'=>h3 w' hw'.2⟩) (Sof.refl w) (lift w _ (fun _=>Sof.refl w) (go own d H x w hs h4 (.refl _ _ _) h2))
 | keep =>
  unfold wpOp
  simp only [hi,hw,if_true]
  left
  have hk:=aKeep_sound hs hρ ha
  unfold Oper.wp
  generalize (execOp (⟨tmps,[]⟩:Act).eval o).run P w = res at hk
  cases res with
  | halt x w'=>exact hk.elim
  | ok n w1 =>
   cases n with
   | value v =>
    obtain ⟨own1,d,H1,h1,h2,h3,h4⟩:=hk
    exact lift w1 _ (fun _=>⟨h3.1.size,h3.2⟩) (go own1 d H1 v w1 h1 h2 h3.1 h4)
   | enter g args =>
    refine Calls.mono hk fun en w' hh=>?_
    obtain ⟨own1,d,H1,v,rfl,h1,h2,h3,h4⟩:=hh
    exact lift w' _ (fun _=>⟨h3.1.size,h3.2⟩) (go own1 d H1 v w' h1 h2 h3.1 h4)
   | _=>exact hk.elim
 | wr =>
  unfold wpOp
  simp only [hi,hw,if_true]
  left
  have hk':=aMut_sound (C:=fun d H'=>C (updO e o.dst d) H') hs hρ ha
  unfold Oper.wp
  generalize (execOp (⟨tmps,[]⟩:Act).eval o).run P w = res at hk'
  cases res with
  | halt x w'=>exact hk'.elim
  | ok n w1 =>
   cases n with
   | value v =>
    obtain ⟨own1,d,H1,h1,h2,h3,h4⟩:=hk'
    exact lift w1 _ (fun h=>absurd rfl h) (go own1 d H1 v w1 h1 h2 h3 h4)
   | skip =>
    obtain ⟨own1,H1,h1,h3,h4⟩:=hk'
    exact lift w1 _ (fun h=>absurd rfl h) (go own1 _ H1 undef w1 h1 (by simp [Rel,VRel]) h3 h4)
   | enter g args =>
    refine Calls.mono hk' fun en w' hh=>?_
    obtain ⟨own1,d,H1,v,rfl,h1,h2,h3,h4⟩:=hh
    exact lift w' _ (fun h=>absurd rfl h) (go own1 d H1 v w' h1 h2 h3 h4)
   | _=>exact hk'.elim
def first_sound (hsel:Region.noSelect ops = true) {k:OpKind} {i:Nat} {o:Oper} (hi:ops[i]? = some o) {e:Env} {H:Heap} {C:Env -> Heap -> Prop} (h:bops P N ops [(k,o)] e H C) {own0 H0 w0} {n:Nat} {L:Array Bool} {pend:List Nat} (hk:k = .pure \/ k = .load)
  (hcl:Closed .any ops L) (hf:Region.free .any ops L i = true) (hr:i ∈ Region.ready .any ops L) {own X w tmps} (hN:tmps.size = N) (hs:Sim own H X w) (he:EnvRel own H X w tmps e)
  (next:∀ e' H' own1 w1 tm,C e' H' -> Ext X own H w own1 H' w1 -> tm.size = N -> Sim own1 H' X w1 -> EnvRel own1 H' X w1 tm e' -> anyP P .any ops (RegQ P f N n0 R K X own0 H0 w0) (if k = .load then i :: pend else pend) (Sof w1) n (L.setIfInBounds i true) ⟨tm,[]⟩ w1) :
  anyP P .any ops (RegQ P f N n0 R K X own0 H0 w0) pend (Sof w) (n + 1) L ⟨tmps,[]⟩ w:=by
 simp only [bops] at h
 obtain ⟨e1,H1',hweak,hd,ha⟩:=h
 obtain ⟨hs1,hx1,he1⟩:=hweak own X w hs
 have he:EnvRel own H1' X w tmps e1:=fun q=>he1 q _ (he q)
 have hρ:∀ x,Rel own H1' X w (ev e1 x) ((⟨tmps,[]⟩:Act).eval x):=fun x=>he.eval x
 have hcase:(Region.wanted o (yielded ops tmps) = true /\ zDI P k o e1 H1' fun d H'=>C (updO e1 o.dst d) H') \/ (Region.wanted o (yielded ops tmps) = false /\ C (updO e1 o.dst (.v undef)) H1'):=by
  split at ha
  ·rename_i hg;exact .inl ⟨by simp [Region.wanted,hg],ha⟩
  ·rename_i j want hg
   obtain ⟨s,h1,h2,⟨b,h3,h4,h5⟩ | ⟨h3,h4⟩⟩:=ha
   ·by_cases hbw:b = want
    ·exact .inl ⟨by simp [Region.wanted,hg,zCZ h1 h2 hN he h3,hbw],h4 hbw⟩
    ·exact .inr ⟨by simp [Region.wanted,hg,zCZ h1 h2 hN he h3,hbw],h5 hbw⟩
   ·exact .inr ⟨by simp [Region.wanted,hg,yielded_undef h1 h2 hN he h3],h4⟩
 have go:∀ (d:D) (v:Value),Rel own H1' X w d v -> C (updO e1 o.dst d) H1' -> anyP P .any ops (RegQ P f N n0 R K X own0 H0 w0) (if k = .load then i :: pend else pend) (Sof w) n (L.setIfInBounds i true) ((⟨tmps,[]⟩:Act).put o.dst v) w:=by
  intro d v h2 h4
  have h5:=he.put (o:=o.dst) (by rw [hN];exact hd) h2 []
  have hsz:=put_size (tmps:=tmps) (ds:=[]) (o:=o.dst) (v:=v)
  have hdf:=put_defers (tmps:=tmps) (ds:=[]) (o:=o.dst) (v:=v)
  generalize (⟨tmps,[]⟩:Act).put o.dst v = a at *
  obtain ⟨tm,df⟩:=a
  simp at hsz hdf;subst hdf
  exact next _ _ own w tm h4 hx1 (by rw [hsz,hN]) hs1 h5
 have hundef:Rel own H1' X w (.v undef) undef:=by simp [Rel,VRel]
 have hp:∀ t ∈ pend,t ∈ (if k = .load then i :: pend else pend):=fun t ht=>by split <;> simp [ht]
 refine anyP_mono hp (fun _ h=>h) _ _ _ _ ?_
 rcases hcase with ⟨hw,ha⟩ | ⟨hw,ha⟩
 rotate_left
 ·exact anyP_first hi hsel (fun c a w h=>zCt h) (T:=fun _=>True) (.inl fun _=>trivial) _ _ _ _ hcl hf hr (.inr ⟨hw,rfl⟩) trivial (Sof.refl w) (go _ undef hundef ha)
 rcases hk with rfl | rfl
 ·obtain ⟨v,d,h1,h2,h3⟩:=apure_sound hs1 hρ ha
  exact anyP_first hi hsel (fun c a w h=>zCt h) (T:=fun _=>True) (.inl fun _=>trivial) _ _ _ _ hcl hf hr (.inl ⟨hw,fun w' _=>h1 w'⟩) trivial (Sof.refl w) (go d v h2 h3)
 ·simp only [zDI] at ha
  obtain ⟨x,d,h3,h4,h2⟩:=aLoad_sound hs1 hρ ha
  exact anyP_first hi hsel (fun c a w h=>zCt h) (T:=Sof w) (.inr ⟨rfl,by simp⟩) _ _ _ _ hcl hf hr (.inl ⟨hw,fun w' hw'=>h3 w' hw'.2⟩) (Sof.refl w) (Sof.refl w) (go d x h4 h2)
def btree_sound (hsel:Region.noSelect ops = true):∀ (t:PT) (pend:List Nat) (L:Array Bool) (e:Env) (H:Heap),treeOk ops t pend L = true -> Closed .any ops L ->
  btree P N ops t e H (fun e' H'=>Run P f N n0 R K e' H') -> ∀ own0 H0 w0 own X w tmps,Ext X own0 H0 w0 own H w -> tmps.size = N -> Sim own H X w -> EnvRel own H X w tmps e ->
  anyP P .any ops (RegQ P f N n0 R K X own0 H0 w0) pend (Sof w) t.size L ⟨tmps,[]⟩ w
 | .e,pend,L,e,H,hp,hcl,ha,own0,H0,w0,own,X,w,tmps,hx,hN,hs,he=>⟨by simpa [treeOk] using hp,own,H,e,hN,rfl,hs,he,hx,ha⟩
 | .f k i r,pend,L,e,H,hp,hcl,ha,own0,H0,w0,own,X,w,tmps,hx,hN,hs,he=>by
  obtain ⟨o,hi,ha⟩:=ha
  have hp':(k = .pure \/ k = .load) /\ Region.free .any ops L i = true /\ i ∈ Region.ready .any ops L /\ treeOk ops r (if k = .load then i :: pend else pend) (L.setIfInBounds i true) = true:=by
   cases k <;> simp only [treeOk,yAB] at hp <;> first | (cases hp;done) | exact ⟨by simp,hp.1.1,by simpa using hp.1.2,by simpa using hp.2⟩
  exact first_sound hsel hi ha hp'.1 hcl hp'.2.1 hp'.2.2.1 hN hs he fun e' H' own1 w1 tm h1 h2 h3 h4 h5=>btree_sound hsel r _ _ e' H' hp'.2.2.2 (hcl.add hp'.2.2.1) h1 own0 H0 w0 own1 X w1 tm (Ext.trans hx h2) h3 h4 h5
 | .a k i r,pend,L,e,H,hp,hcl,ha,own0,H0,w0,own,X,w,tmps,hx,hN,hs,he=>by
  obtain ⟨o,hi,ha⟩:=ha
  simp only [treeOk,yAB,beq_iff_eq] at hp
  have hready:i ∈ Region.ready .any ops L:=by rw [hp.1.1];simp
  refine ⟨fun h=>(by rw [h] at hready;cases hready),fun j hj=>?_⟩
  rw [hp.1.1,yAm] at hj
  subst hj
  exact one_sound hi ha hp.1.2 hN hs he fun e' H' own1 w1 tm h1 h2 h3 h4 h5=>btree_sound hsel r _ _ e' H' hp.2 (hcl.add hready) h1 own0 H0 w0 own1 X w1 tm (Ext.trans hx h2) h3 h4 h5
 | .b k i r k' j q,pend,L,e,H,hp,hcl,ha,own0,H0,w0,own,X,w,tmps,hx,hN,hs,he=>by
  obtain ⟨⟨o,hi,ha⟩,o',hj,ha'⟩:=ha
  simp only [treeOk,yAB,beq_iff_eq] at hp
  obtain ⟨⟨⟨hr,hz⟩,hp1,hp2⟩,hp3,hp4⟩:=hp
  have hri:i ∈ Region.ready .any ops L:=by rw [hr];simp
  have hrj:j ∈ Region.ready .any ops L:=by rw [hr];simp
  refine ⟨fun h=>(by rw [h] at hri;cases hri),fun m hm=>?_⟩
  rw [hr,yAE,yAm] at hm
  rcases hm with rfl | rfl
  ·exact one_sound hi ha hp1 hN hs he fun e' H' own1 w1 tm h1 h2 h3 h4 h5=>btree_sound hsel r _ _ e' H' hp2 (hcl.add hri) h1 own0 H0 w0 own1 X w1 tm (Ext.trans hx h2) h3 h4 h5
  ·rw [hz]
   exact one_sound hj ha' hp3 hN hs he fun e' H' own1 w1 tm h1 h2 h3 h4 h5=>btree_sound hsel q _ _ e' H' hp4 (hcl.add hrj) h1 own0 H0 w0 own1 X w1 tm (Ext.trans hx h2) h3 h4 h5
def goodTree (ops:Array Oper) (t:PT):Bool:=treeOk ops t [] (Array.replicate ops.size false) && Region.noSelect ops && t.size == ops.size
def run_bdraw {id:Nat} {l:List Oper} {e:Env} {H:Heap} (t:PT) (hm:P.follows .mixedOrders = true) (hp:goodTree l.toArray t = true)
  (h:btree P N l.toArray t e H fun e' H'=>Run P f N n0 R K e' H'):Run P f N n0 R (.code (.region id l.toArray true) :: K) e H:=by
 intro hn own X w tmps cs hN hsim henv
 simp only [goodTree,yAB,beq_iff_eq] at hp
 have hw:({ w with drawn:=w.drawn + 1 }:World).heap = w.heap:=rfl
 have hany:=btree_sound (f:=f) (n0:=n0) (R:=R) (K:=K) hp.1.2 t [] _ e H hp.1.1 (Closed.start _) h own H w own X { w with drawn:=w.drawn + 1 } tmps (zDa own H w _ rfl) hN (sim_drawn hw hsim) (henv.ext (zDa own H w _ rfl))
 rw [hp.2] at hany
 have hwp:(Code.region id l.toArray true).wp P (RegQ P f N n0 R K X own H w) ⟨tmps,[]⟩ w:=wp_region_any hm (zBy _ _ _ _ hany)
 obtain ⟨ex,a',w',hq,harr⟩:=hwp (frameOf f) K cs
 cases ex with
 | normal =>
  obtain ⟨own1,H1,e1,h1,h2,h3,h4,h5,h6⟩:=hq
  obtain ⟨tm,df⟩:=a'
  simp at h1 h2;subst h2
  exact Fin.of_steps hn h5 harr (h6 (yBN hn h5.hn) own1 X w' tm cs h1 h3 h4)
 | _=>exact hq.elim
end
end Go.Ab
namespace Go.T
open Go.Ab
variable [Go.Ab.DM]
def rowAt_app_lt:∀ (rows:Rows) (x:Rows) (r:Nat),r < rows.length -> zAA (rows ++ x) r = zAA rows r
 | [],_,r,h=>absurd h (yAr _)
 | e :: l,x,0,_=>rfl
 | e :: l,x,r + 1,h=>rowAt_app_lt l x r (Nat.lt_of_succ_lt_succ h)
def zBP:∀ (rows:Rows) (e:Nat × TRow) (x:Rows),zAA (rows ++ e :: x) rows.length = e.2
 | [],e,x=>rfl
 | _ :: l,e,x=>zBP l e x
def rowAt_ge:∀ (rows:Rows) (r:Nat),rows.length <= r -> zAA rows r = .gone
 | [],r,_=>rfl
 | e :: l,0,h=>absurd h (Nat.not_succ_le_zero _)
 | e :: l,r + 1,h=>rowAt_ge l r (Nat.le_of_succ_le_succ h)
def rowAt_app_gt (rows:Rows) (e:Nat × TRow) (r:Nat) (h:rows.length < r):zAA (rows ++ [e]) r = .gone:=rowAt_ge _ _ (by simp;omega)
def stampAt_app_lt:∀ (rows:Rows) (x:Rows) (r:Nat),r < rows.length -> zAU (rows ++ x) r = zAU rows r
 | [],_,r,h=>absurd h (yAr _)
 | e :: l,x,0,_=>rfl
 | e :: l,x,r + 1,h=>stampAt_app_lt l x r (Nat.lt_of_succ_lt_succ h)
def stampAt_app_len:∀ (rows:Rows) (e:Nat × TRow) (x:Rows),zAU (rows ++ e :: x) rows.length = some e.1
 | [],e,x=>rfl
 | _ :: l,e,x=>stampAt_app_len l e x
def stampAt_ge:∀ (rows:Rows) (r:Nat),rows.length <= r -> zAU rows r = none
 | [],r,_=>rfl
 | e :: l,0,h=>absurd h (Nat.not_succ_le_zero _)
 | e :: l,r + 1,h=>stampAt_ge l r (Nat.le_of_succ_le_succ h)
def zBv:∀ (rows:Rows) (r d:Nat) (x:TRow),(setRow rows r d x).length = rows.length
 | [],_,_,_=>rfl
 | _ :: l,0,d,x=>rfl
 | e :: l,r + 1,d,x=>by simp [setRow,zBv l r d x]
def zDC:∀ (rows:Rows) (r d:Nat) (x:TRow) (q:Nat),zAA (setRow rows r d x) q = if q = r /\ r < rows.length then x else zAA rows q
 | [],r,d,x,q=>by simp [setRow]
 | _ :: l,0,d,x,0=>by simp [setRow,zAA]
 | _ :: l,0,d,x,q + 1=>by simp [setRow,zAA]
 | e :: l,r + 1,d,x,0=>by simp [setRow,zAA]
 | e :: l,r + 1,d,x,q + 1=>by simp [setRow,zAA,zDC l r d x q]
def zBX:∀ (rows:Rows) (r d:Nat) (x:TRow) (q:Nat),zAU (setRow rows r d x) q = if q = r /\ r < rows.length then some d else zAU rows q
 | [],r,d,x,q=>by simp [setRow]
 | _ :: l,0,d,x,0=>by simp [setRow,zAU]
 | _ :: l,0,d,x,q + 1=>by simp [setRow,zAU]
 | e :: l,r + 1,d,x,0=>by simp [setRow,zAU]
 | e :: l,r + 1,d,x,q + 1=>by simp [setRow,zAU,zBX l r d x q]
def zAw {rows:Rows} {r:Nat} (h:zAA rows r ≠ .gone):r < rows.length:=by
 rcases yAZ r rows.length with h' | h'
 ·exact h'
 ·exact absurd (rowAt_ge rows r h') h
def zCi {rows:Rows} {r d q:Nat} {x:TRow} (h:q ≠ r):zAA (setRow rows r d x) q = zAA rows q:=by rw [zDC,if_neg (fun h'=>h h'.1)]
def rowAt_seteq {rows:Rows} {r d:Nat} {x:TRow} (h:r < rows.length):zAA (setRow rows r d x) r = x:=by rw [zDC,if_pos ⟨rfl,h⟩]
def freeze_len (d:Nat) (f:List Nat):∀ (rows:Rows) (n:Nat),(zAz d f n rows).length = rows.length
 | [],n=>rfl
 | (lv,row) :: l,n=>by simp [zAz,freeze_len d f l (n + 1)]
def zCH:TRow -> TRow
 | .many t l=>.fro t l
 | .lst t l=>.fro t l
 | .one t x=>bif t.pure then .fr1 t x else .one t x
 | row=>row
def rowAt_freeze (d:Nat) (f:List Nat):∀ (rows:Rows) (n q:Nat),zAA (zAz d f n rows) q = bif f.any (Nat.beq (n + q)) then zCH (zAA rows q) else zAA rows q
 | [],n,q=>by simp only [zAz,zAA,zCH];cases f.any (Nat.beq (n + q)) <;> rfl
 | (lv,row) :: l,n,0=>by
  simp only [zAz,zAA,Nat.add_zero]
  cases f.any (Nat.beq n)
  ·rfl
  ·cases row <;> first | rfl | (simp only [cond_true,zCH];rename_i t x;cases t.pure <;> rfl)
 | (lv,row) :: l,n,q + 1=>by
  simp only [zAz,zAA,rowAt_freeze d f l (n + 1) q]
  rw [show n + 1 + q = n + (q + 1) by omega]
def stampAt_freeze (d:Nat) (f:List Nat):∀ (rows:Rows) (n q lv:Nat),zAU (zAz d f n rows) q = some lv -> lv = d \/ (zAU rows q = some lv /\ zAA (zAz d f n rows) q = zAA rows q)
 | [],n,q,lv=>by simp [zAz,zAU]
 | (lv',row) :: l,n,0,lv=>by
  simp only [zAz,zAA,zAU]
  cases f.any (Nat.beq n)
  ·intro h;exact .inr ⟨by simpa using h,rfl⟩
  ·intro h
   cases row with
   | one t x =>
    cases ht:t.pure
    ·simp only [cond_true,ht,cond_false,yAH] at h ⊢;exact .inr ⟨h,trivial⟩
    ·simp only [cond_true,ht,yAH] at h;exact .inl h.symm
   | many t l=>simp only [cond_true,yAH] at h;exact .inl h.symm
   | lst t l=>simp only [cond_true,yAH] at h;exact .inl h.symm
   | _=>simp only [cond_true,yAH] at h ⊢;exact .inr ⟨h,trivial⟩
 | (lv',row) :: l,n,q + 1,lv=>by
  simp only [zAz,zAA,zAU];exact stampAt_freeze d f l (n + 1) q lv
def ownD (n:Nat):TRow -> D
 | .many _ l=>.sl n 0 l.length
 | .lst _ l=>match l with | []=>.v (.slice none 0 0) | _ :: _=>.sl n 0 l.length
 | .fro t l=>.fz t.w (l.map (e0 t))
 | _=>.any
def subD (n:Nat) (q:Nat × Nat):TRow -> D
 | .many _ l=>.sl n q.1 q.2
 | .lst _ l=>match l with | []=>.v (.slice none 0 0) | _ :: _=>.sl n q.1 q.2
 | .fro t l=>.fz t.w (((l.drop q.1).take q.2).map (e0 t))
 | _=>.any
def p0D (n o:Nat):TRow -> D
 | .one _ _=>.pt n 0 o
 | .fr1 t x=>.fp t.w [e0 t x] 0 o
 | .itb _=>.pt n 0 o
 | .ite _ _ _ _ _=>.pt n 0 o
 | .sit _ _=>.pt n 0 o
 | _=>.any
def ptD (n o i:Nat):TRow -> D
 | .many _ _=>.pt n i o
 | .lst _ _=>.pt n i o
 | .fro t l=>.fp t.w (l.map (e0 t)) i o
 | _=>.any
def mpD (n:Nat):TRow -> D
 | .mp _ _ _=>.mp n
 | _=>.any
def zAB (num:Nat -> Nat) (rows:Rows):Refs :=
 ⟨fun r=>ownD (num r) (zAA rows r),fun r q=>subD (num r) q (zAA rows r),fun r o=>p0D (num r) o (zAA rows r),fun r o i=>ptD (num r) o i (zAA rows r),fun r=>mpD (num r) (zAA rows r)⟩
def zCg:TRow -> Nat
 | .many _ l=>l.length
 | .lst _ l=>l.length
 | .fro _ l=>l.length
 | _=>0
def okT (rows:Rows):(t:Ty) -> t.I -> Prop
 | .pr a b,x=>okT rows a x.1 /\ okT rows b x.2
 | .agg s,x=>okT rows s x
 | .tup s,x=>okT rows s x
 | .fn _ a c,x=>okT rows a x.1 /\ okT rows c x.2
 | .ifc _ t,x=>okT rows t x
 | .own r,_=>r < rows.length
 | .p0 r _,_=>r < rows.length
 | .mp r,_=>r < rows.length
 | .sub r,q=>r < rows.length /\ (zAS (zAA rows r) = true -> q.1 + q.2 <= zCg (zAA rows r))
 | .pt r _,i=>r < rows.length /\ (zAS (zAA rows r) = true -> Nat.lt i (zCg (zAA rows r)))
 | _,_=>True
def okV (rows:Rows) (v:TV):Prop:=okT rows v.t v.x
def zCR {rows:Rows}:∀ (t:Ty) (x:t.I),t.pure = true -> okT rows t x:=by
 intro t
 induction t with
 | pr a b iha ihb=>intro x h;simp only [Ty.pure,yAB] at h;exact ⟨iha _ h.1,ihb _ h.2⟩
 | agg s ih=>intro x h;exact ih x h
 | tup s ih=>intro x h;exact ih x h
 | fn f a c iha ihb=>intro x h;simp only [Ty.pure,yAB] at h;exact ⟨iha _ h.1,ihb _ h.2⟩
 | ifc id t ih=>intro x h;exact ih x h
 | own r=>intro x h;simp [Ty.pure] at h
 | sub r=>intro x h;simp [Ty.pure] at h
 | p0 r o=>intro x h;simp [Ty.pure] at h
 | pt r o=>intro x h;simp [Ty.pure] at h
 | mp r=>intro x h;simp [Ty.pure] at h
 | _=>intro x h;trivial
def ok_leaves {rows:Rows}:∀ (s:Ty) (x:s.I),okT rows s x ↔ ∀ v ∈ zAK s x,okV rows v:=by
 intro s
 induction s with
 | pr a b iha ihb =>
  intro x
  simp only [okT,zAK,yAE,forall_eq_or_imp,ihb]
  rfl
 | unit=>intro x;simp [okT,zAK]
 | _=>intro x;simp only [zAK,yAE,yAf,or_false,forall_eq];rfl
def ok_lf {rows:Rows} (v:TV) (h:okV rows v):okV rows v.lf:=by
 obtain ⟨t,x⟩:=v
 cases t <;> first | exact h | trivial
def ok_spine {rows:Rows}:∀ (l:List TV),(∀ v ∈ l,okV rows v) -> okV rows (zDV l)
 | [],_=>trivial
 | [v],h=>ok_lf v (h v (by simp))
 | v :: u :: r,h=>⟨h v (by simp),ok_spine (u :: r) fun z hz=>h z (yAF _ hz)⟩
def ok_agg {rows:Rows} (l:List TV) (h:∀ v ∈ l,okV rows v):okV rows (aggV l):=ok_spine l h
def ok_tup {rows:Rows} (l:List TV) (h:∀ v ∈ l,okV rows v):okV rows (tupV l):=ok_spine l h
def RowsLe (rows rows':Rows):Prop:=rows.length <= rows'.length /\ ∀ r,r < rows.length -> zAS (zAA rows' r) = true -> zAS (zAA rows r) = true /\ zCg (zAA rows' r) = zCg (zAA rows r)
def RowsLe.refl (rows:Rows):RowsLe rows rows:=⟨yAJ _,fun _ _ h=>⟨h,rfl⟩⟩
def RowsLe.trans {a b c:Rows} (h:RowsLe a b) (h':RowsLe b c):RowsLe a c :=
 ⟨yBN h.1 h'.1,fun r hr hl=>by
  obtain ⟨h1,h2⟩:=h'.2 r (yAd hr h.1) hl
  obtain ⟨h3,h4⟩:=h.2 r hr h1
  exact ⟨h3,by omega⟩⟩
def zCv {rows rows':Rows} (h:RowsLe rows rows'):∀ (t:Ty) (x:t.I),okT rows t x -> okT rows' t x:=by
 intro t
 induction t with
 | pr a b iha ihb=>intro x hx;exact ⟨iha _ hx.1,ihb _ hx.2⟩
 | agg s ih=>intro x hx;exact ih x hx
 | tup s ih=>intro x hx;exact ih x hx
 | fn f a c iha ihb=>intro x hx;exact ⟨iha _ hx.1,ihb _ hx.2⟩
 | ifc id t ih=>intro x hx;exact ih x hx
 | own r=>intro x hx;exact yAd hx h.1
 | p0 r o=>intro x hx;exact yAd hx h.1
 | mp r=>intro x hx;exact yAd hx h.1
 | sub r=>intro x hx;exact ⟨yAd hx.1 h.1,fun hl=>by obtain ⟨h1,h2⟩:=h.2 r hx.1 hl;rw [h2];exact hx.2 h1⟩
 | pt r o=>intro x hx;exact ⟨yAd hx.1 h.1,fun hl=>by obtain ⟨h1,h2⟩:=h.2 r hx.1 hl;rw [h2];exact hx.2 h1⟩
 | _=>intro x _;trivial
def Ty.isRef:Ty -> Bool
 | .own _ | .sub _ | .p0 _ _ | .pt _ _ | .mp _=>true
 | _=>false
section
variable {own own':Nat -> Own} {U U':Nat -> Prop} {w w':World} {n n':Nat}
def E_mono {ρ ρ':Refs} {rows:Rows} (hk:Keeps own n U w own' n' U' w')
  (hleaf:∀ (t:Ty) (x:t.I) (v:Value),t.isRef = true -> okT rows t x -> VRel own U w n (E t ρ x).1 v -> VRel own' U' w' n' (E t ρ' x).1 v) :
  ∀ (t:Ty) (x:t.I),okT rows t x -> (∀ v,VRel own U w n (E t ρ x).1 v -> VRel own' U' w' n' (E t ρ' x).1 v) /\ (∀ vs,VRels own U w n (E t ρ x).2 vs -> VRels own' U' w' n' (E t ρ' x).2 vs):=by
 have one:∀ (t:Ty) (x:t.I),t.sp = false -> (∀ v,VRel own U w n (E t ρ x).1 v -> VRel own' U' w' n' (E t ρ' x).1 v) -> (∀ vs,VRels own U w n (E t ρ x).2 vs -> VRels own' U' w' n' (E t ρ' x).2 vs):=by
  intro t x hs h vs hv
  rw [E_one hs] at hv ⊢
  simp only [VRels] at hv ⊢
  obtain ⟨y,ys,e,h1,h2⟩:=hv
  exact ⟨y,ys,e,h y h1,h2⟩
 have triv:∀ (t:Ty) (x:t.I),t.sp = false -> E t ρ x = E t ρ' x -> (∀ v,VRel own U w n (E t ρ x).1 v -> VRel own' U' w' n' (E t ρ' x).1 v) /\ (∀ vs,VRels own U w n (E t ρ x).2 vs -> VRels own' U' w' n' (E t ρ' x).2 vs):=by
  intro t x hs he
  have:∀ v,VRel own U w n (E t ρ x).1 v -> VRel own' U' w' n' (E t ρ' x).1 v:=fun v hv=>by rw [<- he];exact VRel.mono hk _ _ hv
  exact ⟨this,one t x hs this⟩
 intro t
 induction t with
 | pr a b iha ihb =>
  intro x hx
  refine ⟨fun v _=>by simp only [E];rw [VRel];trivial,fun vs hv=>?_⟩
  simp only [E,VRels] at hv ⊢
  obtain ⟨y,ys,e,h1,h2⟩:=hv
  exact ⟨y,ys,e,(iha _ hx.1).1 _ h1,(ihb _ hx.2).2 _ h2⟩
 | unit=>intro x hx;exact ⟨fun v _=>by simp only [E];rw [VRel];trivial,fun vs hv=>by simpa [E,VRels] using hv⟩
 | agg s ih =>
  intro x hx
  have:∀ v,VRel own U w n (E (.agg s) ρ x).1 v -> VRel own' U' w' n' (E (.agg s) ρ' x).1 v:=fun v hv=>by
   simp only [E] at hv ⊢
   rw [VRel] at hv ⊢
   obtain ⟨vs,e,h⟩:=hv
   exact ⟨vs,e,(ih x hx).2 _ h⟩
  exact ⟨this,one _ x rfl this⟩
 | tup s ih =>
  intro x hx
  have:∀ v,VRel own U w n (E (.tup s) ρ x).1 v -> VRel own' U' w' n' (E (.tup s) ρ' x).1 v:=fun v hv=>by
   simp only [E] at hv ⊢
   rw [VRel] at hv ⊢
   obtain ⟨vs,e,h⟩:=hv
   exact ⟨vs,e,(ih x hx).2 _ h⟩
  exact ⟨this,one _ x rfl this⟩
 | fn f a c iha ihb =>
  intro x hx
  have:∀ v,VRel own U w n (E (.fn f a c) ρ x).1 v -> VRel own' U' w' n' (E (.fn f a c) ρ' x).1 v:=fun v hv=>by
   simp only [E] at hv ⊢
   rw [VRel] at hv ⊢
   obtain ⟨vs,us,e,h1,h2⟩:=hv
   exact ⟨vs,us,e,(iha _ hx.1).2 _ h1,(ihb _ hx.2).2 _ h2⟩
  exact ⟨this,one _ x rfl this⟩
 | ifc id t ih =>
  intro x hx
  have:∀ v,VRel own U w n (E (.ifc id t) ρ x).1 v -> VRel own' U' w' n' (E (.ifc id t) ρ' x).1 v:=fun v hv=>by
   simp only [E] at hv ⊢
   rw [VRel] at hv ⊢
   obtain ⟨y,e,h⟩:=hv
   exact ⟨y,e,(ih x hx).1 _ h⟩
  exact ⟨this,one _ x rfl this⟩
 | own r=>intro x hx;have:=fun v=>hleaf (.own r) x v rfl hx;exact ⟨this,one _ x rfl this⟩
 | sub r=>intro x hx;have:=fun v=>hleaf (.sub r) x v rfl hx;exact ⟨this,one _ x rfl this⟩
 | p0 r o=>intro x hx;have:=fun v=>hleaf (.p0 r o) x v rfl hx;exact ⟨this,one _ x rfl this⟩
 | pt r o=>intro x hx;have:=fun v=>hleaf (.pt r o) x v rfl hx;exact ⟨this,one _ x rfl this⟩
 | mp r=>intro x hx;have:=fun v=>hleaf (.mp r) x v rfl hx;exact ⟨this,one _ x rfl this⟩
 | _=>intro x hx;exact triv _ x rfl rfl
end
def E_congr {ρ ρ':Refs}:∀ (t:Ty) (x:t.I),(∀ r ∈ t.refs,ρ.own r = ρ'.own r /\ ρ.sub r = ρ'.sub r /\ ρ.p0 r = ρ'.p0 r /\ ρ.pt r = ρ'.pt r /\ ρ.mp r = ρ'.mp r) -> E t ρ x = E t ρ' x:=by
 intro t
 induction t with
 | pr a b iha ihb=>intro x h;simp only [E];rw [iha x.1 fun r hr=>h r (by simp [Ty.refs,hr]),ihb x.2 fun r hr=>h r (by simp [Ty.refs,hr])]
 | agg s ih=>intro x h;exact congrArg (fun p:D × List D=>(D.agg p.2,[D.agg p.2])) (ih x h)
 | tup s ih=>intro x h;exact congrArg (fun p:D × List D=>(D.tup p.2,[D.tup p.2])) (ih x h)
 | fn f a c iha ihb=>intro x h;simp only [E];rw [iha x.1 fun r hr=>h r (by simp [Ty.refs,hr]),ihb x.2 fun r hr=>h r (by simp [Ty.refs,hr])]
 | ifc id t ih=>intro x h;exact congrArg (fun p:D × List D=>(D.ifc id p.1,[D.ifc id p.1])) (ih x h)
 | own r=>intro x h;simp only [E,(h r (by simp [Ty.refs])).1]
 | sub r=>intro x h;simp only [E,(h r (by simp [Ty.refs])).2.1]
 | p0 r o=>intro x h;simp only [E,(h r (by simp [Ty.refs])).2.2.1]
 | pt r o=>intro x h;simp only [E,(h r (by simp [Ty.refs])).2.2.2.1]
 | mp r=>intro x h;simp only [E,(h r (by simp [Ty.refs])).2.2.2.2]
 | _=>intro x h;rfl
def E_same {num num':Nat -> Nat} {rows rows':Rows} {t:Ty} {x:t.I} (h:∀ r ∈ t.refs,zAA rows' r = zAA rows r /\ num' r = num r):E t (zAB num' rows') x = E t (zAB num rows) x:=by
 refine E_congr t x fun r hr=>?_
 obtain ⟨h1,h2⟩:=h r hr
 simp only [zAB,h1,h2,and_self]
end Go.T
namespace Go.T
open Go.Ab
variable [Go.Ab.DM]
def zBS:D -> Bool | .agg _=>true | _=>false
def keyV:(k:Ty) -> k.I -> Value
 | .int k,n=>.int k n
 | .bool,b=>.bool b
 | .str,s=>.string s
 | _,_=>undef
def zAW:TRow -> Bool
 | .one _ _=>true
 | .many _ _=>true
 | .lst _ l=>!l.isEmpty
 | .mp _ _ _=>true
 | .itb _=>true
 | .ite _ _ _ _ _=>true
 | .sit _ _=>true
 | _=>false
def zCC (ζ:Nat -> Row) (num:Nat -> Nat) (rows:Rows) (H:Heap) (r:Nat):TRow -> Prop
 | .one t x=>t.lay = true /\ ∃ k d,H.get (num r) = some (.cells k [d]) /\ zBS d = zBr t /\ Tls d.cells ((zAs ⟨t,x⟩).map (enc (zAB num rows)))
 | .many t l=>t.elem = true /\ H.get (num r) = some (.cells t.w (l.map (e0 t)))
 | .lst t l=>t.elem = true /\ (l ≠ [] -> H.get (num r) = some (.cells t.w (l.map (e0 t))))
 | .fro t l=>t.elem = true
 | .fr1 t x=>t.pure = true
 | .mp k v l=>(keq k).isSome = true /\ v.pure = true /\ ∃ es cl,(H.get (num r) = some (.mp es cl) /\ ζ r = .mp es cl) /\ es.map (·.2.1) = l.map (fun p=>keyV k p.1) /\ Tls (es.map (·.2.2)) (l.map fun p=>e0 v p.2) /\ (∀ p ∈ es,p.1 < cl) /\ (es.map (·.1)).Nodup
 | .itb m=>H.get (num r) = some (ζ r) /\ (∃ a b l,zAA rows m = .mp a b l) /\ ∃ es cl,H.get (num m) = some (.mp es cl) /\ ζ r = .it (num m) cl [] cl
 | .ite m k v x y=>H.get (num r) = some (ζ r) /\ (∃ a b l,zAA rows m = .mp a b l) /\ k.pure = true /\ v.pure = true /\ ∃ since seen b es cl d,H.get (num m) = some (.mp es cl) /\ ζ r = .it (num m) since (seen ++ [b]) cl /\ es.find? (fun p=>p.1 == b) = some (b,keyV k x,d) /\ e0 k x = .v (keyV k x) /\ Tl d (e0 v y)
 | .sit s p=>H.get (num r) = some (.sit s p)
 | .gone=>True
structure HRel (ζ:Nat -> Row) (num:Nat -> Nat) (rows:Rows) (H:Heap):Prop where
 row:∀ r,zCC ζ num rows H r (zAA rows r)
 inj:∀ r q,zAW (zAA rows r) = true -> zAW (zAA rows q) = true -> r ≠ q -> num r ≠ num q
 ok:∀ r t x,zAA rows r = .one t x -> okT rows t x
def own_one (n:Nat) (row:TRow):ownD n row = .any \/ (ownD n row).one = true:=by
 cases row <;> first | exact .inl rfl | exact .inr rfl | skip
 rename_i t l
 cases l <;> exact .inr rfl
def sub_one (n:Nat) (q:Nat × Nat) (row:TRow):subD n q row = .any \/ (subD n q row).one = true:=by
 cases row <;> first | exact .inl rfl | exact .inr rfl | skip
 rename_i t l
 cases l <;> exact .inr rfl
def p0_one (n o:Nat) (row:TRow):p0D n o row = .any \/ (p0D n o row).one = true:=by
 cases row <;> first | exact .inl rfl | exact .inr rfl
def pt_one (n o i:Nat) (row:TRow):ptD n o i row = .any \/ (ptD n o i row).one = true:=by
 cases row <;> first | exact .inl rfl | exact .inr rfl
def mp_one (n:Nat) (row:TRow):mpD n row = .any \/ (mpD n row).one = true:=by
 cases row <;> first | exact .inl rfl | exact .inr rfl
def enc_one {num:Nat -> Nat} {rows:Rows} {t:Ty} (h:t.one = true) (x:t.I):(E t (zAB num rows) x).1 = .any \/ (E t (zAB num rows) x).1.one = true:=by
 cases t with
 | own r=>exact own_one _ _
 | sub r=>exact sub_one _ _ _
 | p0 r o=>exact p0_one _ _ _
 | pt r o=>exact pt_one _ _ _ _
 | mp r=>exact mp_one _ _
 | nul c=>exact .inr (nulV_one (by simpa [Ty.one,Nat.blt_eq] using h))
 | _=>first | (simp [Ty.one] at h;done) | exact .inr rfl
def ones_leaves:∀ (s:Ty) (x:s.I),s.ones = true -> ∀ v ∈ zAK s x,v.t.one = true:=by
 intro s
 induction s with
 | pr a b iha ihb =>
  intro x h v hv
  simp only [Ty.ones,yAB] at h
  simp only [zAK,yAE] at hv
  rcases hv with rfl | hv
  ·exact h.1
  ·exact ihb _ h.2 v hv
 | unit=>intro x h v hv;simp [zAK] at hv
 | _=>intro x h v hv;simp only [zAK,yAE,yAf,or_false] at hv;subst hv;exact h
def lay_kids {t:Ty} {x:t.I} (h:t.lay = true):∀ v ∈ zAs ⟨t,x⟩,v.t.one = true:=by
 cases t with
 | agg s=>exact ones_leaves s x h
 | _=>intro v hv;simp only [zAs,yAE,yAf,or_false] at hv;subst hv;exact h
def ok_kids {rows:Rows} {v:TV} (h:okV rows v):∀ u ∈ zAs v,okV rows u:=by
 obtain ⟨t,x⟩:=v
 cases t with
 | agg s=>exact (ok_leaves s x).1 h
 | _=>intro u hu;simp only [zAs,yAE,yAf,or_false] at hu;subst hu;exact h
def pickD (a b:D):D:=match b with | .any=>a | b=>b
def pick_tl (a b:D):Tl (pickD a b) b:=by
 cases b <;> first | exact Tl.refl _ | exact Tl.any _
def mixD (cs ds:List D):List D:=match cs,ds with | c :: cs,d :: ds=>pickD c d :: mixD cs ds | _,_=>[]
def mix_len:∀ {cs ds:List D},cs.length = ds.length -> (mixD cs ds).length = cs.length
 | [],[],_=>rfl
 | c :: cs,d :: ds,h=>by simp [mixD,mix_len (cs:=cs) (ds:=ds) (by simpa using h)]
def mix_tl:∀ {cs ds:List D},cs.length = ds.length -> Tls (mixD cs ds) ds
 | [],[],_=>.nil
 | c :: cs,d :: ds,h=>.cons (pick_tl c d) (mix_tl (by simpa using h))
def FrStep (rows rows':Rows):Prop:=rows'.length = rows.length /\ ∀ r,zAA rows' r = zAA rows r \/ zAA rows' r = zCH (zAA rows r)
def zBt (d:Nat) (f:List Nat) (rows:Rows):FrStep rows (zAz d f 0 rows):=⟨freeze_len d f rows 0,fun r=>by
 rw [rowAt_freeze]
 cases f.any (Nat.beq (0 + r)) <;> simp⟩
def fr_list (row:TRow) (h:zAS (zCH row) = true):zAS row = true /\ zCg (zCH row) = zCg row:=by
 cases row with
 | one t x=>cases ht:t.pure <;> simp [zCH,ht,zAS] at h
 | _=>first | exact ⟨rfl,rfl⟩ | (simp [zCH,zAS] at h)
def fr_le {rows rows':Rows} (h:FrStep rows rows'):RowsLe rows rows':=⟨Nat.le_of_eq h.1.symm,fun r hr hl=>by
 rcases h.2 r with e | e
 ·rw [e] at hl ⊢;exact ⟨hl,rfl⟩
 ·rw [e] at hl ⊢;exact fr_list _ hl⟩
def e0_noref:∀ (t:Ty) (x:t.I),t.pure = true -> (E t zDH x).1.noref = true /\ zAg (E t zDH x).2 = true:=by
 intro t
 induction t with
 | pr a b iha ihb =>
  intro x h
  simp only [Ty.pure,yAB] at h
  simp only [E,D.noref,zAg,yAB,true_and]
  exact ⟨(iha _ h.1).1,(ihb _ h.2).2⟩
 | unit=>intro x _;simp [E,D.noref,zAg]
 | agg s ih=>intro x h;have:=(ih x h).2;simp only [E,D.noref,zAg,Bool.and_true];exact ⟨this,this⟩
 | tup s ih=>intro x h;have:=(ih x h).2;simp only [E,D.noref,zAg,Bool.and_true];exact ⟨this,this⟩
 | fn f a c iha ihb =>
  intro x h
  simp only [Ty.pure,yAB] at h
  simp only [E,D.noref,zAg,Bool.and_true,yAB]
  exact ⟨⟨(iha _ h.1).2,(ihb _ h.2).2⟩,(iha _ h.1).2,(ihb _ h.2).2⟩
 | ifc id t ih=>intro x h;have:=(ih x h).1;simp only [E,D.noref,zAg,Bool.and_true];exact ⟨this,this⟩
 | own r=>intro x h;simp [Ty.pure] at h
 | sub r=>intro x h;simp [Ty.pure] at h
 | p0 r o=>intro x h;simp [Ty.pure] at h
 | pt r o=>intro x h;simp [Ty.pure] at h
 | mp r=>intro x h;simp [Ty.pure] at h
 | _=>intro x _;simp [E,D.noref,zAg]
def norefs_map {t:Ty} (h:t.pure = true):∀ l:List t.I,zAg (l.map (e0 t)) = true
 | []=>by simp [zAg]
 | x :: l=>by simp [zAg,norefs_map h l,(e0_noref t x h).1]
def Flat_noref {own:Nat -> Own} {U:Nat -> Prop} {w:World} {n:Nat}:∀ {ds:List D} {b off:Nat},zAg ds = true -> Flat own U w n ds b off -> Flat own U w 0 ds b off
 | [],b,off,_,h=>by rw [Flat];trivial
 | d :: ds,b,off,hn,h=>by
  simp only [zAg,yAB] at hn
  rw [Flat] at h ⊢
  obtain ⟨h0,⟨x,h1,h2⟩,h3⟩:=h
  exact ⟨h0,⟨x,h1,VRel_noref _ _ hn.1 h2⟩,Flat_noref hn.2 h3⟩
def norefs_mem:∀ {ds:List D},zAg ds = true -> ∀ d ∈ ds,d.noref = true
 | [],_,d,h=>by simp at h
 | e :: ds,hn,d,h=>by
  simp only [zAg,yAB] at hn
  rcases yAE.1 h with rfl | h
  ·exact hn.1
  ·exact norefs_mem hn.2 d h
def noref_cells {d:D} (h:d.noref = true):zAg d.cells = true:=by
 cases d <;> simp [D.cells,D.noref,zAg] at h ⊢ <;> exact h
def Cells_noref {own:Nat -> Own} {U:Nat -> Prop} {w:World} {n k:Nat}:∀ {ds:List D} {b off:Nat},zAg ds = true -> Cells own U w n k ds b off -> Cells own U w 0 k ds b off
 | [],b,off,_,h=>by rw [Cells];trivial
 | d :: ds,b,off,hn,h=>by
  simp only [zAg,yAB] at hn
  rw [Cells] at h ⊢
  refine ⟨?_,Cells_noref hn.2 h.2⟩
  rw [zCe] at h ⊢
  exact ⟨h.1.1,Flat_noref (noref_cells hn.1) h.1.2⟩
end Go.T
namespace Go.T
open Go.Ab
variable [Go.Ab.DM]
def lay_w {t:Ty} {x:t.I} (h:t.lay = true):(zAs ⟨t,x⟩).length = t.w:=by
 cases t with
 | agg s =>
  have:=ones_len s zDH x h
  have e:(E s zDH x).2 = (zAK s x).map (enc zDH):=E_leaves s zDH x
  rw [e,yAG] at this
  exact this
 | pr a b=>simp [Ty.lay,Ty.one] at h
 | unit=>simp [Ty.lay,Ty.one] at h
 | tup s=>simp [Ty.lay,Ty.one] at h
 | any=>simp [Ty.lay,Ty.one] at h
 | _=>rfl
def kids_pure {t:Ty} {x:t.I} (h:t.lay = true) (hp:t.pure = true) (ρ:Refs):(zAs ⟨t,x⟩).map (enc ρ) = (e0 t x).cells:=by
 have key:∀ (u:Ty) (y:u.I),u.one = true -> u.pure = true -> [enc ρ ⟨u,y⟩] = (e0 u y).cells:=fun u y h1 h2=>by
  rw [one_cells (pure_one h2 h1 zDH y),enc_pure (v:=⟨u,y⟩) h2 ρ zDH];rfl
 cases t with
 | agg s =>
  have e:(E s ρ x).2 = (zAK s x).map (enc ρ):=E_leaves s ρ x
  have e':E s ρ x = E s zDH x:=E_pure s hp ρ zDH x
  exact e.symm.trans (congrArg Prod.snd e')
 | _=>exact key _ _ h hp
def live_get {ζ:Nat -> Row} {num:Nat -> Nat} {rows:Rows} {H:Heap} {r:Nat} (h:HRel ζ num rows H) (hl:zAW (zAA rows r) = true):∃ row,H.get (num r) = some row:=by
 have:=h.row r
 cases hrow:zAA rows r <;> rw [hrow] at hl this <;> simp [zAW] at hl <;> simp only [zCC] at this
 ·obtain ⟨_,k,d,h1,_⟩:=this;exact ⟨_,h1⟩
 ·exact ⟨_,this.2⟩
 ·exact ⟨_,this.2 (by intro h;subst h;simp at hl)⟩
 ·obtain ⟨_,_,es,cl,h1,_⟩:=this;exact ⟨_,h1.1⟩
 ·exact ⟨_,this.1⟩
 ·exact ⟨_,this.1⟩
 ·exact ⟨_,this⟩
def reD (d:D) (ds:List D):D:=match d with
 | .agg cs=>.agg (mixD cs ds)
 | d=>match ds with | [b]=>pickD d b | _=>d
open Classical in
def frG (num:Nat -> Nat) (rows rows':Rows) (H:Heap) (q:Nat):Option Row :=
 if h:∃ r,zAW (zAA rows r) = true /\ num r = q then
  (if zAW (zAA rows' (Classical.choose h)) = true then
   (match zAA rows' (Classical.choose h),H.get q with
   | .one t x,some (.cells k [d])=>some (.cells k [reD d ((zAs ⟨t,x⟩).map (enc (zAB num rows')))])
   | _,o=>o)
  else none)
 else H.get q
def frH (num:Nat -> Nat) (rows rows':Rows) (H:Heap):Heap:=(List.range H.length).map (frG num rows rows' H)
def frH_len (num:Nat -> Nat) (rows rows':Rows) (H:Heap):(frH num rows rows' H).length = H.length:=by simp [frH]
section
variable {ζ:Nat -> Row} {num:Nat -> Nat} {rows rows':Rows} {H:Heap}
def frH_get (hr:HRel ζ num rows H) (q:Nat):(frH num rows rows' H).get q = frG num rows rows' H q:=by
 unfold frH Heap.get
 rcases yAZ q H.length with h | h
 ·simp [h]
 ·rw [yAw (by simp;exact h)]
  unfold frG
  have hn:H.get q = none:=by unfold Heap.get;rw [yAw h];rfl
  split
  ·rename_i hx
   obtain ⟨row,h1⟩:=live_get hr (yBB hx).1
   rw [(yBB hx).2,hn] at h1
   exact absurd h1 (by simp)
  ·rw [hn];rfl
def frH_live (hr:HRel ζ num rows H) {r:Nat} (hl:zAW (zAA rows r) = true):(frH num rows rows' H).get (num r) =
  if zAW (zAA rows' r) = true then (match zAA rows' r,H.get (num r) with
   | .one t x,some (.cells k [d])=>some (.cells k [reD d ((zAs ⟨t,x⟩).map (enc (zAB num rows')))])
   | _,o=>o) else none:=by
 rw [frH_get hr]
 unfold frG
 have hx:∃ q,zAW (zAA rows q) = true /\ num q = num r:=⟨r,hl,rfl⟩
 rw [dif_pos hx]
 have he:Classical.choose hx = r:=by
  obtain ⟨h1,h2⟩:=yBB hx
  rcases Nat.decEq (Classical.choose hx) r with h | h
  ·exact absurd h2 (hr.inj _ _ h1 hl h)
  ·exact h
 rw [he]
def frH_other (hr:HRel ζ num rows H) {q:Nat} (h:∀ r,zAW (zAA rows r) = true -> num r ≠ q):(frH num rows rows' H).get q = H.get q:=by
 rw [frH_get hr]
 unfold frG
 rw [dif_neg]
 rintro ⟨r,h1,h2⟩
 exact h r h1 h2
def frH_sub (hr:HRel ζ num rows H) {q:Nat} {row:Row} (h:(frH num rows rows' H).get q = some row):∃ row0,H.get q = some row0:=by
 by_cases hx:∃ r,zAW (zAA rows r) = true /\ num r = q
 ·obtain ⟨r,h1,h2⟩:=hx
  subst h2
  exact live_get hr h1
 ·rw [frH_other hr (fun r h1 h2=>hx ⟨r,h1,h2⟩)] at h
  exact ⟨row,h⟩
variable {X:Nat -> Prop} {own:Nat -> Own} {w:World}
def fr_unowned (hr:HRel ζ num rows H) {b:Nat} (h:zAQ own H X w b):zAQ own (frH num rows rows' H) X w b :=
 ⟨h.1,h.2.1,fun q row hq=>by obtain ⟨row0,h0⟩:=frH_sub hr hq;exact h.2.2 q row0 h0⟩
def fr_keeps (hr:HRel ζ num rows H):Keeps own H.length (zAQ own H X w) w own (frH num rows rows' H).length (zAQ own (frH num rows rows' H) X w) w :=
 ⟨by rw [frH_len];exact yAJ _,fun _ _=>rfl,fun b hb=>fr_unowned hr hb,fun _ _ _=>rfl⟩
def fr_dead (hs:Sim own H X w) (hr:HRel ζ num rows H) {r:Nat} (hl:zAW (zAA rows r) = true) (hd:zAW (zAA rows' r) = false):zAQ own (frH num rows rows' H) X w (own (num r)).b:=by
 obtain ⟨row,h0⟩:=live_get hr hl
 obtain ⟨h1,h2⟩:=hs.live _ _ h0
 refine ⟨h1.lt,h2,fun q row' hq hb=>?_⟩
 obtain ⟨row0,hq0⟩:=frH_sub hr hq
 rcases Nat.decEq q (num r) with hne | he
 ·exact hs.excl _ _ _ _ hq0 h0 hne hb
 ·subst he
  rw [frH_live hr hl,hd] at hq
  simp at hq
def fz_of {n k:Nat} {xs:List D} {U:Nat -> Prop} {own:Nat -> Own} {w:World} {r i m:Nat} {U0:Nat -> Prop} {v:Value} (hn:zAg xs = true) (hk:k = (own r).k)
  (hU:U (own r).b) (hc:Cells own U0 w n k xs (own r).b (own r).base) (hsub:∀ b,U0 b -> U b) (him:i + m <= xs.length) (h:VRel own U0 w n (.sl r i m) v):∀ n',VRel own U w n' (.fz k ((xs.drop i).take m)) v:=by
 intro n'
 simp only [VRel] at h
 rw [VRel]
 obtain ⟨h1,off,c,h2,h3,h4⟩:=h
 have hlen:((xs.drop i).take m).length = m:=by simp;omega
 refine ⟨_,c,by rw [hlen];exact h2,by omega,fun hne=>?_⟩
 rw [hlen] at hne
 obtain ⟨h5,h6⟩:=h4 (by omega)
 refine ⟨_,off,rfl,hU,?_⟩
 have hc':=Cells_mid hc him
 have:Cells own U w 0 k ((xs.drop i).take m) (own r).b ((own r).base + i * k):=by
  refine Cells.mono (own:=own) (n:=0) (n':=0) ⟨yAJ _,fun _ _=>rfl,hsub,fun _ _ _=>rfl⟩ k _ _ _ (fun _=>rfl) (Cells_noref ?_ hc')
  exact norefs_sub hn
 rw [h5,<- hk];exact this
where
 norefs_sub {xs:List D} {i m:Nat} (h:zAg xs = true):zAg ((xs.drop i).take m) = true:=by
  have key:∀ (ys:List D),(∀ d ∈ ys,d.noref = true) -> zAg ys = true:=by
   intro ys
   induction ys with
   | nil=>intro _;simp [zAg]
   | cons y ys ih=>intro h;simp [zAg,h y (by simp),ih fun d hd=>h d (yAF _ hd)]
  exact key _ fun d hd=>norefs_mem h d (List.mem_of_mem_drop (yBJ hd))
def fr_leaf (hs:Sim own H X w) (hr:HRel ζ num rows H) (hf:FrStep rows rows') (t:Ty) (x:t.I) (v:Value) (ht:t.isRef = true) (hx:okT rows t x)
  (h:VRel own (zAQ own H X w) w H.length (E t (zAB num rows) x).1 v):VRel own (zAQ own (frH num rows rows' H) X w) w (frH num rows rows' H).length (E t (zAB num rows') x).1 v:=by
 have same:∀ r,zAA rows' r = zAA rows r -> (∀ q ∈ t.refs,q = r) -> VRel own (zAQ own (frH num rows rows' H) X w) w (frH num rows rows' H).length (E t (zAB num rows') x).1 v:=by
  intro r he hq
  rw [E_same (num:=num) (num':=num) (rows:=rows) (rows':=rows') fun q hq'=>⟨by rw [hq q hq',he],rfl⟩]
  exact VRel.mono (fr_keeps hr) _ _ h
 have rowcells:∀ r t' (l:List t'.I),zCC ζ num rows H r (.many t' l) -> zAW (zAA rows r) = true -> t'.w = (own (num r)).k /\ Cells own (zAQ own H X w) w H.length t'.w (l.map (e0 t')) (own (num r)).b (own (num r)).base:=by
  intro r t' l hrow hl
  obtain ⟨_,hg⟩:=hrow
  obtain ⟨⟨h1,c,tt,h2,h3,h4,h5⟩,_⟩:=hs.live _ _ hg
  exact ⟨h1,h5⟩
 have listcase:∀ r t' (l:List t'.I),t'.elem = true -> H.get (num r) = some (.cells t'.w (l.map (e0 t'))) -> zAW (zAA rows r) = true -> zAA rows' r = .fro t' l -> t'.w = (own (num r)).k /\ Cells own (zAQ own H X w) w H.length t'.w (l.map (e0 t')) (own (num r)).b (own (num r)).base /\ zAQ own (frH num rows rows' H) X w (own (num r)).b:=by
  intro r t' l hel hg hl he
  obtain ⟨⟨h1,c,tt,h2,h3,h4,h5⟩,_⟩:=hs.live _ _ hg
  exact ⟨h1,h5,fr_dead hs hr hl (by rw [he];rfl)⟩
 have hsub:∀ b,zAQ own H X w b -> zAQ own (frH num rows rows' H) X w b:=fun b hb=>fr_unowned hr hb
 cases t with
 | own r =>
  rcases hf.2 r with e | e
  ·exact same r e (by simp [Ty.refs])
  ·cases hrow:zAA rows r with
   | many t' l =>
    rw [hrow] at e;simp only [zCH] at e
    have hR:=hr.row r;rw [hrow] at hR
    obtain ⟨h1,h2,h3⟩:=listcase r t' l hR.1 hR.2 (by rw [hrow];rfl) e
    simp only [E,zAB,hrow,ownD,e] at h ⊢
    have:=fz_of (norefs_map (zCY hR.1) l) h1 h3 h2 hsub (i:=0) (m:=l.length) (by simp) h (frH num rows rows' H).length
    rw [yBD,yAW (by simp)] at this
    exact this
   | lst t' l =>
    rw [hrow] at e;simp only [zCH] at e
    have hR:=hr.row r;rw [hrow] at hR
    cases l with
    | nil =>
     simp only [E,zAB,hrow,ownD,e,yBM] at h ⊢
     exact Tl.nil _ _ _ _ _ _ (VRel.mono (fr_keeps hr) _ _ h)
    | cons y l =>
     obtain ⟨h1,h2,h3⟩:=listcase r t' (y :: l) hR.1 (hR.2 (by simp)) (by rw [hrow];rfl) e
     simp only [E,zAB,hrow,ownD,e] at h ⊢
     have:=fz_of (norefs_map (zCY hR.1) (y :: l)) h1 h3 h2 hsub (i:=0) (m:=(y :: l).length) (by simp) h (frH num rows rows' H).length
     rw [yBD,yAW (by simp)] at this
     exact this
   | one t' x' =>
    simp only [E,zAB,ownD,e,hrow,zCH]
    cases t'.pure <;> (simp only [cond_true,cond_false];rw [VRel];trivial)
   | _=>exact same r (by rw [e,hrow];rfl) (by simp [Ty.refs])
 | sub r =>
  rcases hf.2 r with e | e
  ·exact same r e (by simp [Ty.refs])
  ·cases hrow:zAA rows r with
   | many t' l =>
    rw [hrow] at e;simp only [zCH] at e
    have hR:=hr.row r;rw [hrow] at hR
    obtain ⟨h1,h2,h3⟩:=listcase r t' l hR.1 hR.2 (by rw [hrow];rfl) e
    have hb:=hx.2 (by rw [hrow];rfl)
    rw [hrow] at hb
    simp only [E,zAB,hrow,subD,e] at h ⊢
    have:=fz_of (norefs_map (zCY hR.1) l) h1 h3 h2 hsub (i:=x.1) (m:=x.2) (by simpa [zCg] using hb) h (frH num rows rows' H).length
    rw [List.map_take,List.map_drop];exact this
   | lst t' l =>
    rw [hrow] at e;simp only [zCH] at e
    have hR:=hr.row r;rw [hrow] at hR
    have hb:=hx.2 (by rw [hrow];rfl)
    rw [hrow] at hb
    cases l with
    | nil =>
     simp only [E,zAB,hrow,subD,e,yBM,List.drop_nil,List.take_nil] at h ⊢
     exact Tl.nil _ _ _ _ _ _ (VRel.mono (fr_keeps hr) _ _ h)
    | cons y l =>
     obtain ⟨h1,h2,h3⟩:=listcase r t' (y :: l) hR.1 (hR.2 (by simp)) (by rw [hrow];rfl) e
     simp only [E,zAB,hrow,subD,e] at h ⊢
     have:=fz_of (norefs_map (zCY hR.1) (y :: l)) h1 h3 h2 hsub (i:=x.1) (m:=x.2) (by simpa [zCg] using hb) h (frH num rows rows' H).length
     rw [List.map_take,List.map_drop];exact this
   | one t' x' =>
    simp only [E,zAB,subD,e,hrow,zCH]
    cases t'.pure <;> (simp only [cond_true,cond_false];rw [VRel];trivial)
   | _=>exact same r (by rw [e,hrow];rfl) (by simp [Ty.refs])
 | pt r o =>
  rcases hf.2 r with e | e
  ·exact same r e (by simp [Ty.refs])
  ·have fin:∀ t' (l:List t'.I) (x:Nat),t'.elem = true -> H.get (num r) = some (.cells t'.w (l.map (e0 t'))) -> zAW (zAA rows r) = true -> zAA rows' r = .fro t' l -> VRel own (zAQ own H X w) w H.length (.pt (num r) x o) v -> VRel own (zAQ own (frH num rows rows' H) X w) w (frH num rows rows' H).length (.fp t'.w (l.map (e0 t')) x o) v:=by
    intro t' l x hel hg hl he hv
    obtain ⟨h1,h2,h3⟩:=listcase r t' l hel hg hl he
    simp only [VRel] at hv ⊢
    obtain ⟨h4,h5⟩:=hv
    refine ⟨_,_,by rw [h5,<- h1],h3,?_⟩
    exact Cells.mono (own:=own) (n:=0) (n':=0) ⟨yAJ _,fun _ _=>rfl,hsub,fun _ _ _=>rfl⟩ _ _ _ _ (fun _=>rfl) (Cells_noref (norefs_map (zCY hel) l) h2)
   cases hrow:zAA rows r with
   | many t' l =>
    rw [hrow] at e;simp only [zCH] at e
    have hR:=hr.row r;rw [hrow] at hR
    simp only [E,zAB,hrow,ptD,e] at h ⊢
    exact fin t' l x hR.1 hR.2 (by rw [hrow];rfl) e h
   | lst t' l =>
    rw [hrow] at e;simp only [zCH] at e
    have hR:=hr.row r;rw [hrow] at hR
    have hb:=hx.2 (by rw [hrow];rfl)
    rw [hrow] at hb
    simp only [E,zAB,hrow,ptD,e] at h ⊢
    cases l with
    | nil=>exact absurd hb (yAr _)
    | cons y l=>exact fin t' (y :: l) x hR.1 (hR.2 (by simp)) (by rw [hrow];rfl) e h
   | one t' x' =>
    simp only [E,zAB,ptD,e,hrow,zCH]
    cases t'.pure <;> (simp only [cond_true,cond_false];rw [VRel];trivial)
   | _=>exact same r (by rw [e,hrow];rfl) (by simp [Ty.refs])
 | p0 r o =>
  rcases hf.2 r with e | e
  ·exact same r e (by simp [Ty.refs])
  ·cases hrow:zAA rows r with
   | one t' x' =>
    rw [hrow] at e
    cases hp:t'.pure with
    | false=>exact same r (by rw [e,hrow];simp [zCH,hp]) (by simp [Ty.refs])
    | true =>
     simp only [zCH,hp,cond_true] at e
     have hR:=hr.row r;rw [hrow] at hR
     obtain ⟨hlay,k,d,hg,hag,htl⟩:=hR
     obtain ⟨⟨h1,c,tt,h2,h3,h4,h5⟩,_⟩:=hs.live _ _ hg
     simp only [E,zAB,hrow,p0D,e] at h ⊢
     rw [VRel] at h
     obtain ⟨h6,h7⟩:=h
     rw [VRel]
     refine ⟨_,_,by rw [h7,Nat.zero_mul,Nat.zero_mul],fr_dead hs hr (by rw [hrow];rfl) (by rw [e];rfl),?_⟩
     have hw:=lay_w (x:=x') hlay
     have hkids:=kids_pure (x:=x') hlay hp (zAB num rows)
     rw [Cells] at h5 ⊢
     refine ⟨?_,by rw [Cells];trivial⟩
     rw [zCe] at h5 ⊢
     rw [hkids] at htl
     have hl1:=htl.len
     have hone:(e0 t' x').cells.all D.one = true:=by
      cases t' with
      | agg s=>exact ones_one s zDH x' hp hlay
      | _=>first | (simp [Ty.lay,Ty.one] at hlay;done) | (simp [Ty.pure] at hp;done) | (have:=pure_one hp hlay zDH x';rw [one_cells this,yBZ,this];rfl)
     refine ⟨by rw [<- hkids,yAG];exact hw,?_⟩
     have:=Flat_noref (noref_cells (e0_noref t' x' hp).1) (Flat_tl htl hone h5.1.2)
     exact Flat.mono (own:=own) (n:=0) (n':=0) ⟨yAJ _,fun _ _=>rfl,hsub,fun _ _ _=>rfl⟩ _ _ _ (fun _=>rfl) this
   | many t' l=>simp only [E,zAB,p0D,e,hrow,zCH];rw [VRel];trivial
   | lst t' l=>simp only [E,zAB,p0D,e,hrow,zCH];rw [VRel];trivial
   | _=>exact same r (by rw [e,hrow];rfl) (by simp [Ty.refs])
 | mp r =>
  rcases hf.2 r with e | e
  ·exact same r e (by simp [Ty.refs])
  ·cases hrow:zAA rows r with
   | one t' x'=>simp only [E,zAB,mpD,e,hrow,zCH];cases t'.pure <;> (simp only [cond_true,cond_false];rw [VRel];trivial)
   | many t' l=>simp only [E,zAB,mpD,e,hrow,zCH];rw [VRel];trivial
   | lst t' l=>simp only [E,zAB,mpD,e,hrow,zCH];rw [VRel];trivial
   | _=>exact same r (by rw [e,hrow];rfl) (by simp [Ty.refs])
 | _=>simp [Ty.isRef] at ht
def fr_rel (hs:Sim own H X w) (hr:HRel ζ num rows H) (hf:FrStep rows rows') {t:Ty} {x:t.I} (hx:okT rows t x) {v:Value}
  (h:VRel own (zAQ own H X w) w H.length (E t (zAB num rows) x).1 v):VRel own (zAQ own (frH num rows rows' H) X w) w (frH num rows rows' H).length (E t (zAB num rows') x).1 v :=
 (E_mono (rows:=rows) (fr_keeps hr) (fun t x v=>fr_leaf hs hr hf t x v) t x hx).1 v h
end
end Go.T
