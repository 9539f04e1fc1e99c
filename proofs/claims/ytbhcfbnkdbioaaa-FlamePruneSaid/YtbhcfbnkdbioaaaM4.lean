/- Part 4 of what the claim leans on: TPack3, TJoin, TJoin2, TCall, TCall2, TCall3, TCall4, TCall5, TOp, TOp2, TOp3, TOp4, TOp5, TDrawH, TLdF, TWalk, TRange, TWalk2, TEnd, TShift, TCon. -/
import Derived.Test.YtbhcfbnkdbioaaaM3
import Derived.Calls
import Derived.KernelRfl
import Derived.Orders
import Derived.Laws.Sem
import Derived.Laws.CopyRow
import Derived.Laws.Cells
import Derived.Room.Entries
import Derived.Lib.Overlaps
import GoSem.Conv.BytesToString
import Derived.OrdersHeld
set_option linter.unusedVariables false
set_option linter.unusedSectionVars false
set_option linter.unusedSimpArgs false
namespace Go.T
open Go.Ab
variable [Go.Ab.DM]
def src (ρ:List (Nat × Nat)) (r:Nat):Nat:=(zCD ρ r).getD r
theorem zAb {ρ:List (Nat × Nat)} {r q:Nat} (h:zCD ρ r = some q):src ρ r = q:=by unfold src;rw [h];rfl
section
variable {ρ:List (Nat × Nat)} {isL:Nat → Bool} {ζ:Nat → Row} {num:Nat → Nat} {rf rows':Rows} {H:Heap}
inductive Tgt (ρ:List (Nat × Nat)) (isL:Nat → Bool) (rf rows':Rows) (r:Nat):TRow → Prop
 | gone:Tgt ρ isL rf rows' r .gone
 | pk {e row}:PkRow ρ isL rf r e row → Tgt ρ isL rf rows' r row
 | keep:src ρ r = r → (∀ t x,zAA rf r = .one t x → ∀ z ∈ t.refs,zCD ρ z = some z) → (∀ m,(zAA rf r = .itb m ∨ ∃ k v x y,zAA rf r = .ite m k v x y) → src ρ m = m ∧ zAA rows' m = zAA rf m) → Tgt ρ isL rf rows' r (zAA rf r)
theorem tgt_ref {r q:Nat} {row:TRow} (h:Tgt ρ isL rf rows' r row) (hg:zCD ρ r = some q):RefTl (num q) (zAA rf q) (num (src ρ r)) row ∧ (zAP row = true → zAP (zAA rf q) = true ∧ zCW row = zCW (zAA rf q)):=by
 rw [zAb hg]
 cases h with
 | gone=>exact ⟨RefTl.gone _ _ _,fun h=>by simp [zAP] at h⟩
 | pk h =>
   have eq:∀ {q'},zCD ρ r = some q' → q' = q:=fun h=>by rw [hg] at h;exact (Option.some.inj h).symm
   cases h with
   | gone=>exact ⟨RefTl.gone _ _ _,fun h=>by simp [zAP] at h⟩
   | one h1 h2 h3 h4 h5=>have:=eq h1;subst this;rw [h2];exact ⟨ref_one _,fun h=>by simp [zAP] at h⟩
   | many h1 h2=>have:=eq h1;subst this;rw [h2];exact ⟨RefTl.refl _ _,fun _=>⟨rfl,rfl⟩⟩
   | lst h1 h2=>have:=eq h1;subst this;rw [h2];exact ⟨RefTl.refl _ _,fun _=>⟨rfl,rfl⟩⟩
   | fro h1 h2=>have:=eq h1;subst this;rw [h2];exact ⟨RefTl.refl _ _,fun _=>⟨rfl,rfl⟩⟩
   | fr1 h1 h2=>have:=eq h1;subst this;rw [h2];exact ⟨RefTl.refl _ _,fun h=>by simp [zAP] at h⟩
   | mp h1 h2=>have:=eq h1;subst this;rw [h2];exact ⟨RefTl.refl _ _,fun h=>by simp [zAP] at h⟩
   | sit h1 h2=>have:=eq h1;subst this;rw [h2];exact ⟨RefTl.refl _ _,fun h=>by simp [zAP] at h⟩
   | nil h1 _=>rw [hg] at h1;cases h1
 | keep h1 _ _=>have:q = r:=by rw [← zAb hg];exact h1
                subst this;exact ⟨RefTl.refl _ _,fun h=>⟨h,rfl⟩⟩
theorem tgt_prel (hT:∀ r,Tgt ρ isL rf rows' r (zAA rows' r)) (hnul:∀ r,zCD ρ r = none → isL r = true → ∃ t,zAA rows' r = .lst t []):PRel ρ isL num rf (fun r=>num (src ρ r)) rows' :=
 ⟨fun r q h=>tgt_ref (hT r) h,hnul⟩
theorem enc_self {num':Nat → Nat} (hp:PRel ρ isL num rf num' rows') (t:Ty) (x:t.I) (hz:∀ z ∈ t.refs,zCD ρ z = some z) (hx:okT rf t x) :
   (Tl (E t (zAB num rf) x).1 (E t (zAB num' rows') x).1 ∧ Tls (E t (zAB num rf) x).2 (E t (zAB num' rows') x).2) ∧ ((∀ z ∈ t.refs,z < rows'.length) → okT rows' t x):=by
 induction t with
 | pr a b iha ihb =>
   have ga:=iha x.1 (fun z h=>hz z (by simp [Ty.refs,h])) hx.1
   have gb:=ihb x.2 (fun z h=>hz z (by simp [Ty.refs,h])) hx.2
   exact ⟨⟨Tl.refl _,.cons ga.1.1 gb.1.2⟩,fun hr=>⟨ga.2 fun z h=>hr z (by simp [Ty.refs,h]),gb.2 fun z h=>hr z (by simp [Ty.refs,h])⟩⟩
 | unit=>exact ⟨⟨Tl.refl _,.nil⟩,fun _=>trivial⟩
 | agg s ih=>have g:=ih x hz hx;have:=Tl.agg g.1.2;exact ⟨⟨this,.cons this .nil⟩,g.2⟩
 | tup s ih=>have g:=ih x hz hx;have:=Tl.tup g.1.2;exact ⟨⟨this,.cons this .nil⟩,g.2⟩
 | fn f a c iha ihc =>
   have ga:=iha x.1 (fun z h=>hz z (by simp [Ty.refs,h])) hx.1
   have gc:=ihc x.2 (fun z h=>hz z (by simp [Ty.refs,h])) hx.2
   have:=Tl.fn (f:=.func f) ga.1.2 gc.1.2
   exact ⟨⟨this,.cons this .nil⟩,fun hr=>⟨ga.2 fun z h=>hr z (by simp [Ty.refs,h]),gc.2 fun z h=>hr z (by simp [Ty.refs,h])⟩⟩
 | ifc id t ih=>have g:=ih x hz hx;have:=Tl.ifc (t:=id) g.1.1;exact ⟨⟨this,.cons this .nil⟩,g.2⟩
 | own r=>have:=(hp.ref r r (hz r (by simp [Ty.refs]))).1.own;exact ⟨⟨this,.cons this .nil⟩,fun hr=>hr r (by simp [Ty.refs])⟩
 | sub r =>
   obtain ⟨h1,h2⟩:=hp.ref r r (hz r (by simp [Ty.refs]))
   have:=h1.sub x
   exact ⟨⟨this,.cons this .nil⟩,fun hr=>⟨hr r (by simp [Ty.refs]),fun hl=>by obtain ⟨h3,h4⟩:=h2 hl;rw [h4];exact hx.2 h3⟩⟩
 | p0 r o=>have:=(hp.ref r r (hz r (by simp [Ty.refs]))).1.p0 o;exact ⟨⟨this,.cons this .nil⟩,fun hr=>hr r (by simp [Ty.refs])⟩
 | pt r o =>
   obtain ⟨h1,h2⟩:=hp.ref r r (hz r (by simp [Ty.refs]))
   have:=h1.pt o x
   exact ⟨⟨this,.cons this .nil⟩,fun hr=>⟨hr r (by simp [Ty.refs]),fun hl=>by obtain ⟨h3,h4⟩:=h2 hl;rw [h4];exact hx.2 h3⟩⟩
 | mp r=>have:=(hp.ref r r (hz r (by simp [Ty.refs]))).1.mp;exact ⟨⟨this,.cons this .nil⟩,fun hr=>hr r (by simp [Ty.refs])⟩
 | _=>exact ⟨⟨Tl.refl _,Tls.refl _⟩,fun _=>trivial⟩
theorem cast_tls {a b c d:List D} (h:a = b) (h':c = d) (ht:Tls a c):Tls b d:=by subst h;subst h';exact ht
theorem cells_told {num':Nat → Nat} {t u:Ty} {x:u.I} {y:t.I} (h:PTold num rf num' rows' ⟨u,x⟩ t y) (hv:okV rf ⟨u,x⟩) (hp:packV ρ isL rf t ⟨u,x⟩ = some y) (hr:PRel ρ isL num rf num' rows') (hl:t.lay = true) (hag:zBj t = zBj u):Tls ((zAs ⟨u,x⟩).map (enc (zAB num rf))) ((zAs ⟨t,y⟩).map (enc (zAB num' rows'))):=by
 have plain:zBj t = false → Tls ((zAs ⟨u,x⟩).map (enc (zAB num rf))) ((zAs ⟨t,y⟩).map (enc (zAB num' rows'))):=fun ht=>by
   rw [← zBS,← zBS,zBF (by rw [zCr];exact hag ▸ ht),zBF (by rw [zCr];exact ht)]
   exact .cons h.one .nil
 cases t with
 | agg s =>
   cases u with
   | agg s' =>
     refine cast_tls (E_leaves s' _ x) (E_leaves s _ y) ?_
     rw [packV_agg] at hp
     split at hp
     · rename_i hpu
       rw [convS_agg] at hp
       split at hp
       · rename_i hh
         have:=Option.some.inj hp;subst this
         obtain ⟨h1,h2⟩:=hh
         have h1:s' = s:=by injection h1
         subst h1
         rw [castI_rfl]
         exact Tls_of_eq (congrArg Prod.snd (E_pure s' h2 _ _ x))
       · have g:=(convS_told (num:=num) s ⟨s',x⟩ y hv hp).2
         have e:=E_pure s hpu zCt (zAB num' rows') y
         rw [← e];exact g
     · exact (packV_told hr s ⟨s',x⟩ y hv hp).all
   | _=>simp [zBj] at hag
 | _=>exact plain rfl
where
 Tls_of_eq {a b:List D} (h:a = b):Tls a b:=h ▸ Tls.refl a
theorem tgt_live {r:Nat} {row:TRow} (h:Tgt ρ isL rf rows' r row) (hl:zAW row = true):zAW (zAA rf (src ρ r)) = true:=by
 cases h with
 | gone=>simp [zAW] at hl
 | pk h =>
   cases h with
   | gone=>simp [zAW] at hl
   | one h1 h2 h3 h4 h5=>rw [zAb h1,h2];rfl
   | many h1 h2=>rw [zAb h1,h2];exact hl
   | lst h1 h2=>rw [zAb h1,h2];exact hl
   | fro h1 h2=>rw [zAb h1,h2];exact hl
   | fr1 h1 h2=>rw [zAb h1,h2];exact hl
   | mp h1 h2=>rw [zAb h1,h2];exact hl
   | sit h1 h2=>rw [zAb h1,h2];exact hl
   | nil h1 _=>simp [zAW] at hl
 | keep h1 _ _=>rw [h1];exact hl
theorem tgt_hrel (hr:HRel ζ num rf H) (hT:∀ r,Tgt ρ isL rf rows' r (zAA rows' r)) (hnul:∀ r,zCD ρ r = none → isL r = true → ∃ t,zAA rows' r = .lst t [])
   (hrefs:∀ r t y,zAA rows' r = .one t y → ∀ z ∈ t.refs,z < rows'.length) (hinj:∀ r z,zAW (zAA rows' r) = true → zAW (zAA rows' z) = true → r ≠ z → src ρ r ≠ src ρ z) :
   HRel (fun r=>ζ (src ρ r)) (fun r=>num (src ρ r)) rows' H:=by
 have hp:=tgt_prel (num:=num) hT hnul
 refine ⟨fun r=>?_,fun r z h1 h2 hrz=>hr.inj _ _ (tgt_live (hT r) h1) (tgt_live (hT z) h2) (hinj r z h1 h2 hrz),fun r t x hrow=>?_⟩
 · have hTr:=hT r
   generalize hrow':zAA rows' r = row at *
   cases hTr with
   | gone=>trivial
   | pk h =>
     cases h with
     | gone=>trivial
     | one h1 h2 h3 h4 h5 =>
       have hR:=hr.row (src ρ r)
       rw [zAb h1,h2] at hR
       obtain ⟨g1,k,d,g2,g3,g4⟩:=hR
       have hv:=hr.ok _ _ _ h2
       refine ⟨h4,k,d,by dsimp only;rw [zAb h1];exact g2,by rw [g3,h5],g4.trans (cells_told (packV_told hp _ ⟨_,_⟩ _ hv h3) hv h3 hp h4 h5)⟩
     | many h1 h2=>have hR:=hr.row (src ρ r);rw [zAb h1,h2] at hR;simp only [zBu] at hR ⊢;rw [zAb h1];exact hR
     | lst h1 h2=>have hR:=hr.row (src ρ r);rw [zAb h1,h2] at hR;simp only [zBu] at hR ⊢;rw [zAb h1];exact hR
     | fro h1 h2=>have hR:=hr.row (src ρ r);rw [zAb h1,h2] at hR;exact hR
     | fr1 h1 h2=>have hR:=hr.row (src ρ r);rw [zAb h1,h2] at hR;exact hR
     | mp h1 h2=>have hR:=hr.row (src ρ r);rw [zAb h1,h2] at hR;simp only [zBu] at hR ⊢;rw [zAb h1];exact hR
     | sit h1 h2=>have hR:=hr.row (src ρ r);rw [zAb h1,h2] at hR;simp only [zBu] at hR ⊢;rw [zAb h1];exact hR
     | nil h1 h2=>exact ⟨h2,fun h=>absurd rfl h⟩
   | keep h1 h2 h3 =>
     have hR:=hr.row r
     cases hrow:zAA rf r with
     | one t x =>
       rw [hrow] at hR
       obtain ⟨g1,k,d,g2,g3,g4⟩:=hR
       refine ⟨g1,k,d,by dsimp only;rw [h1];exact g2,g3,g4.trans ?_⟩
       have hz:=h2 t x hrow
       have hok:=hr.ok _ _ _ hrow
       have ge:=enc_self hp t x hz hok
       rw [← zBS,← zBS]
       cases t with
       | agg s=>exact (enc_self hp s x hz hok).1.2
       | _ =>
         rw [zBF (by rw [zCr];rfl),zBF (by rw [zCr];rfl)]
         exact .cons ge.1.1 .nil
     | many t l=>rw [hrow] at hR;simp only [zBu] at hR ⊢;rw [h1];exact hR
     | lst t l=>rw [hrow] at hR;simp only [zBu] at hR ⊢;rw [h1];exact hR
     | fro t l=>rw [hrow] at hR;exact hR
     | fr1 t l=>rw [hrow] at hR;exact hR
     | mp k v l=>rw [hrow] at hR;simp only [zBu] at hR ⊢;rw [h1];exact hR
     | itb m =>
       rw [hrow] at hR
       obtain ⟨g1,⟨a,b,l,g2⟩,es,cl,g3,g4⟩:=hR
       obtain ⟨g5,g6⟩:=h3 m (.inl hrow)
       refine ⟨by dsimp only;rw [h1];exact g1,⟨a,b,l,by rw [g6];exact g2⟩,es,cl,by dsimp only;rw [g5];exact g3,by dsimp only;rw [h1,g5];exact g4⟩
     | ite m k v x y =>
       rw [hrow] at hR
       obtain ⟨g1,⟨a,b,l,g2⟩,hp1,hp2,since,seen,bb,es,cl,dd,g3,g4,g8⟩:=hR
       obtain ⟨g5,g6⟩:=h3 m (.inr ⟨_,_,_,_,hrow⟩)
       refine ⟨by dsimp only;rw [h1];exact g1,⟨a,b,l,by rw [g6];exact g2⟩,hp1,hp2,since,seen,bb,es,cl,dd,by dsimp only;rw [g5];exact g3,by dsimp only;rw [h1,g5];exact g4,g8⟩
     | sit b p=>rw [hrow] at hR;simp only [zBu] at hR ⊢;rw [h1];exact hR
     | gone=>trivial
 · have hTr:=hT r
   have hz:=hrefs r t x hrow
   rw [hrow] at hTr
   generalize hrow':TRow.one t x = row at hTr
   cases hTr with
   | gone=>cases hrow'
   | pk h =>
     cases h <;> first | (cases hrow';done) | skip
     rename_i h1 h2 h3 h4 h5
     cases hrow'
     exact (packV_told hp _ ⟨_,_⟩ _ (hr.ok _ _ _ h2) h3).ok hz
   | keep h1 h2 h3=>exact (enc_self hp t x (h2 t x hrow'.symm) (hr.ok _ _ _ hrow'.symm)).2 hz
theorem tgt_lens {B:Base} (hT:∀ r,Tgt ρ isL rf rows' r (zAA rows' r)) (hl:∀ r,r < B.k → zAP (zAA rf r) = true → zCW (zAA rf r) = B.len0 r) {r:Nat} (hr:r < B.k) (hs:src ρ r = r) (hg:zCD ρ r = some r ∨ zAA rows' r = zAA rf r ∨ zAA rows' r = .gone) (hi:zAP (zAA rows' r) = true):zCW (zAA rows' r) = B.len0 r:=by
 rcases hg with hg | hg | hg
 · obtain ⟨_,h2⟩:=tgt_ref (num:=fun i=>i) (hT r) hg
   obtain ⟨h3,h4⟩:=h2 hi
   rw [h4];exact hl r hr h3
 · rw [hg] at hi ⊢;exact hl r hr hi
 · rw [hg] at hi;simp [zAP] at hi
end
end Go.T
namespace Go.T
open Go.Ab
variable [Go.Ab.DM]
section
variable {ρ:List (Nat × Nat)} {rows:Rows}
theorem getN_app {a b:List (Nat × Nat)} {z:Nat}:zCD (a ++ b) z = match zCD a z with | some q=>some q | none=>zCD b z:=by
 induction a with
 | nil=>rfl
 | cons p a ih =>
   simp only [List.cons_append,zCD]
   cases Nat.beq p.1 z <;> simp [ih]
theorem getN_id {a b:List (Nat × Nat)} (h:∀ p ∈ a,p.1 = p.2) {z:Nat} (hz:∃ p ∈ a,p.1 = z):zCD (a ++ b) z = some z:=by
 rw [getN_app]
 have:zCD a z = some z:=by
   induction a with
   | nil=>obtain ⟨p,hp,_⟩:=hz;cases hp
   | cons p a ih =>
     simp only [zCD]
     cases hb:Nat.beq p.1 z with
     | true =>
       rw [Nat.beq_eq] at hb
       rw [cond_true,← h p (by simp),hb]
     | false =>
       rw [cond_false]
       refine ih (fun q hq=>h q (List.mem_cons_of_mem _ hq)) ?_
       obtain ⟨q,hq,hqz⟩:=hz
       rcases List.mem_cons.1 hq with rfl | hq
       · rw [hqz,Nat.beq_refl] at hb;cases hb
       · exact ⟨q,hq,hqz⟩
 rw [this]
theorem getN_mem {a:List (Nat × Nat)} {r q:Nat} (h:zCD a r = some q):(r,q) ∈ a:=by
 induction a with
 | nil=>cases h
 | cons p a ih =>
   simp only [zCD] at h
   cases hb:Nat.beq p.1 r with
   | true =>
     rw [hb,cond_true] at h
     have:=Option.some.inj h
     rw [Nat.beq_eq] at hb
     rw [← hb,← this];exact List.mem_cons_self ..
   | false=>rw [hb] at h;exact List.mem_cons_of_mem _ (ih h)
theorem uniRows_app:∀ (l:List (Nat × RTy)) (ρ:List (Nat × Nat)),∃ x,uniRows rows ρ l = ρ ++ x
 | [],ρ=>⟨[],by simp [uniRows]⟩
 | (r,e) :: l,ρ=>by
   simp only [uniRows]
   split
   · obtain ⟨x,h⟩:=uniRows_app l (ρ ++ uni _ _)
     exact ⟨_,by rw [h,List.append_assoc]⟩
   · exact uniRows_app l ρ
theorem idRefs_mem {l:List Nat}:(∀ p ∈ idRefs l,p.1 = p.2) ∧ ∀ z ∈ l,∃ p ∈ idRefs l,p.1 = z:=by
 induction l with
 | nil=>exact ⟨fun p h=>by simp [idRefs] at h,fun z h=>by simp at h⟩
 | cons q l ih =>
   refine ⟨fun p h=>?_,fun z h=>?_⟩
   · rcases List.mem_cons.1 h with rfl | h
     · rfl
     · exact ih.1 p h
   · rcases List.mem_cons.1 h with rfl | h
     · exact ⟨(z,z),List.mem_cons_self ..,rfl⟩
     · obtain ⟨p,h1,h2⟩:=ih.2 z h;exact ⟨p,List.mem_cons_of_mem _ h1,h2⟩
theorem uniKeep_id (env:List Ent):∀ l:List Nat,(∀ p ∈ uniKeep env l,p.1 = p.2) ∧ ∀ n ∈ l,∀ e,zAl env n = some e → ∀ z ∈ e.v.t.refs,∃ p ∈ uniKeep env l,p.1 = z
 | []=>⟨fun p h=>by simp [uniKeep] at h,fun n h=>by simp at h⟩
 | n :: l=>by
   obtain ⟨h1,h2⟩:=uniKeep_id env l
   cases hf:zAl env n with
   | none =>
     simp only [uniKeep,hf]
     refine ⟨h1,fun m hm e he z hz=>?_⟩
     rcases List.mem_cons.1 hm with rfl | hm
     · rw [hf] at he;cases he
     · exact h2 m hm e he z hz
   | some e0 =>
     simp only [uniKeep,hf]
     refine ⟨fun p hp=>?_,fun m hm e he z hz=>?_⟩
     · rcases List.mem_append.1 hp with hp | hp
       · exact idRefs_mem.1 p hp
       · exact h1 p hp
     · rcases List.mem_cons.1 hm with rfl | hm
       · rw [hf] at he
         have:=Option.some.inj he;subst this
         obtain ⟨p,hp,hpz⟩:=idRefs_mem.2 z hz
         exact ⟨p,List.mem_append_left _ hp,hpz⟩
       · obtain ⟨p,hp,hpz⟩:=h2 m hm e he z hz
         exact ⟨p,List.mem_append_right _ hp,hpz⟩
theorem uniKeepR_id (l:List (Nat × RTy)) (rows:Rows):∀ n:Nat,(∀ p ∈ uniKeepR l rows n,p.1 = p.2) ∧ ∀ r,r < n → zBM l r = none → ∀ t x,zAA rows r = .one t x → ∀ z ∈ t.refs,∃ p ∈ uniKeepR l rows n,p.1 = z
 | 0=>⟨fun p h=>by simp [uniKeepR] at h,fun r h=>absurd h (Nat.not_lt_zero _)⟩
 | n + 1=>by
   obtain ⟨h1,h2⟩:=uniKeepR_id l rows n
   simp only [uniKeepR]
   refine ⟨fun p hp=>?_,fun r hr hl t x hrow z hz=>?_⟩
   · rcases List.mem_append.1 hp with hp | hp
     · split at hp
       · exact idRefs_mem.1 p hp
       · simp at hp
     · exact h1 p hp
   · by_cases h:r = n
     · subst h
       obtain ⟨p,hp,hpz⟩:=idRefs_mem.2 z hz
       exact ⟨p,List.mem_append_left _ (by rw [hl,hrow];exact hp),hpz⟩
     · obtain ⟨p,hp,hpz⟩:=h2 r (by omega) hl t x hrow z hz
       exact ⟨p,List.mem_append_right _ hp,hpz⟩
theorem refsBelow_at {n:Nat} {l:List Nat} (h:refsBelow n l = true):∀ z ∈ l,z < n:=fun z hz=>by
 unfold refsBelow at h
 rw [List.all_eq_true] at h
 have:=h z hz
 exact Nat.le_of_ble_eq_true this
theorem keepOk_at {d:Nat} {env:List Ent}:∀ {l:List Nat},keepOk d env l = true → ∀ n ∈ l,∃ e,zAl env n = some e ∧ e.lv ≤ d ∧ e.c = []
 | [],_,n,h=>by simp at h
 | m :: l,h,n,hn=>by
   simp only [keepOk,Bool.and_eq_true] at h
   rcases List.mem_cons.1 hn with rfl | hn
   · have h1:=h.1
     split at h1
     · rename_i e he
       rw [Bool.and_eq_true,List.isEmpty_iff] at h1
       exact ⟨e,he,Nat.le_of_ble_eq_true h1.1,h1.2⟩
     · cases h1
   · exact keepOk_at h.2 n hn
theorem keepBelow_at {N:Nat} {env:List Ent}:∀ {l:List Nat},keepBelow N env l = true → ∀ n ∈ l,∀ e,zAl env n = some e → ∀ z ∈ e.v.t.refs,z < N
 | [],_,n,h=>by simp at h
 | m :: l,h,n,hn=>by
   simp only [keepBelow,Bool.and_eq_true] at h
   rcases List.mem_cons.1 hn with rfl | hn
   · intro e he
     have h1:=h.1
     rw [he] at h1
     exact refsBelow_at h1
   · exact keepBelow_at h.2 n hn
theorem slotsBelow_at {N:Nat}:∀ {l:List Ty},slotsBelow N l = true → ∀ t ∈ l,∀ z ∈ t.refs,z < N
 | [],_,t,h=>by simp at h
 | u :: l,h,t,ht=>by
   simp only [slotsBelow,Bool.and_eq_true] at h
   rcases List.mem_cons.1 ht with rfl | ht
   · exact refsBelow_at h.1
   · exact slotsBelow_at h.2 t ht
theorem lookR_mem:∀ {l:List (Nat × RTy)} {r:Nat} {e:RTy},zBM l r = some e → (r,e) ∈ l
 | [],r,e,h=>by cases h
 | p :: l,r,e,h=>by
   simp only [zBM] at h
   cases hb:Nat.beq p.1 r with
   | true =>
     rw [hb,cond_true] at h
     have:=Option.some.inj h
     rw [Nat.beq_eq] at hb
     rw [← hb,← this];exact List.mem_cons_self ..
   | false=>rw [hb] at h;exact List.mem_cons_of_mem _ (lookR_mem h)
theorem rowsBelow_at {N:Nat}:∀ {l:List (Nat × RTy)},rowsBelowT N l = true → ∀ r t,(r,RTy.one t) ∈ l → ∀ z ∈ t.refs,z < N
 | [],_,r,t,h=>by simp at h
 | (q,e) :: l,h,r,t,ht=>by
   simp only [rowsBelowT,Bool.and_eq_true] at h
   rcases List.mem_cons.1 ht with ht | ht
   · injection ht with h1 h2;subst h1;subst h2;exact refsBelow_at h.1
   · exact rowsBelow_at h.2 r t ht
theorem below_at {N:Nat}:∀ {l:List (Nat × RTy)} {used:List Nat},below N l used = true → ∀ r e,(r,e) ∈ l → r < N
 | [],_,_,r,e,h=>by simp at h
 | (q,e') :: l,used,h,r,e,hr=>by
   simp only [below,Bool.and_eq_true] at h
   rcases List.mem_cons.1 hr with hr | hr
   · injection hr with h1 h2;subst h1;exact Nat.le_of_ble_eq_true h.1.1
   · exact below_at h.2 r e hr
theorem rowsOk_at {d:Nat} {l:List (Nat × RTy)}:∀ {n:Nat},rowsOk d l rows n = true → ∀ r,r < n → zBM l r = none → ∃ lv,zAT rows r = some lv ∧ lv ≤ d
 | 0,_,r,h,_=>absurd h (Nat.not_lt_zero _)
 | n + 1,h,r,hr,hl=>by
   simp only [rowsOk,Bool.and_eq_true] at h
   by_cases hrn:r = n
   · subst hrn
     have h1:=h.1
     rw [hl] at h1
     dsimp only at h1
     split at h1
     · rename_i lv hs;exact ⟨lv,hs,Nat.le_of_ble_eq_true h1⟩
     · cases h1
   · exact rowsOk_at h.2 r (by omega) hl
theorem keptBelow_at {N:Nat} {l:List (Nat × RTy)}:∀ {n:Nat},keptBelow N l rows n = true → ∀ r,r < n → zBM l r = none → ∀ q ∈ rowRefs (zAA rows r),q < N ∧ ((∃ t x,zAA rows r = .one t x) ∨ zBM l q = none)
 | 0,_,r,h,_=>absurd h (Nat.not_lt_zero _)
 | n + 1,h,r,hr,hl=>by
   simp only [keptBelow,Bool.and_eq_true] at h
   by_cases hrn:r = n
   · subst hrn
     have h1:=h.1
     rw [hl] at h1
     dsimp only at h1
     rw [List.all_eq_true] at h1
     intro q hq
     have h2:=h1 q hq
     rw [Bool.and_eq_true] at h2
     refine ⟨Nat.le_of_ble_eq_true h2.1,?_⟩
     have h3:=h2.2
     cases hlq:zBM l q with
     | none=>exact .inr rfl
     | some e =>
       rw [hlq] at h3
       cases hrow:zAA rows r <;> rw [hrow] at h3 <;> first | (cases h3;done) | exact .inl ⟨_,_,rfl⟩
   · exact keptBelow_at h.2 r (by omega) hl
theorem rhoOk_at {l:List (Nat × RTy)} (h:rhoOk l ρ = true) {r q:Nat} (hg:zCD ρ r = some q) (hl:zBM l r = none):q = r:=by
 unfold rhoOk at h
 rw [List.all_eq_true] at h
 have:=h (r,q) (getN_mem hg)
 dsimp only at this
 rw [hl] at this
 dsimp only at this
 rw [Nat.beq_eq] at this
 exact this.symm
structure InjAt (k:Nat) (l0:List (Nat × RTy)) (n:Nat) (ρ:List (Nat × Nat)) (l:List (Nat × RTy)) (used:List Nat):Prop where
 one:∀ r e,zBM l r = some e → e ≠ .gone → (∀ q,zCD ρ r = some q → ((r < k ∧ q = r) ∨ (k ≤ r ∧ k ≤ q)) ∧ q ∉ used ∧ (zBM l0 q = none → n ≤ q)) ∧ (zCD ρ r = none → k ≤ r)
 two:∀ r z e e' q q',zBM l r = some e → zBM l z = some e' → e ≠ .gone → e' ≠ .gone → r ≠ z → zCD ρ r = some q → zCD ρ z = some q' → q ≠ q'
theorem not_used {q:Nat} {used:List Nat} (h:(!(used.any (Nat.beq q))) = true):q ∉ used:=fun hq=>by
 have:used.any (Nat.beq q) = true:=by rw [List.any_eq_true];exact ⟨q,hq,by simp⟩
 rw [this] at h;cases h
theorem injOk_at {k n:Nat} {l0:List (Nat × RTy)}:∀ {l:List (Nat × RTy)} {used:List Nat},injOk k l0 n ρ l used = true → InjAt k l0 n ρ l used
 | [],used,_=>⟨fun r e h=>(by cases h),fun r z e e' q q' h=>(by cases h)⟩
 | (r0,e0) :: l,used,h=>by
   by_cases he0:e0 = .gone
   · subst he0
     have h:injOk k l0 n ρ l used = true:=h
     obtain ⟨h1,h2⟩:=injOk_at h
     refine ⟨fun r e hl he=>?_,fun r z e e' q q' hl hl' he he' hne=>?_⟩
     · simp only [zBM] at hl
       cases hb:Nat.beq r0 r <;> rw [hb] at hl
       · exact h1 r e hl he
       · exact absurd (Option.some.inj hl).symm he
     · simp only [zBM] at hl hl'
       cases hb:Nat.beq r0 r <;> rw [hb] at hl
       · cases hb':Nat.beq r0 z <;> rw [hb'] at hl'
         · exact h2 r z e e' q q' hl hl' he he' hne
         · exact absurd (Option.some.inj hl').symm he'
       · exact absurd (Option.some.inj hl).symm he
   · have h:(match zCD ρ r0 with
       | some q=>(Nat.blt r0 k && Nat.beq q r0 || Nat.ble k r0 && Nat.ble k q) && !(used.any (Nat.beq q)) && (match zBM l0 q with | some _=>true | none=>Nat.ble n q) && injOk k l0 n ρ l (q :: used)
       | none=>Nat.ble k r0 && injOk k l0 n ρ l used) = true:=by
       cases e0 <;> first | (exact absurd rfl he0;done) | (simp only [injOk] at h;exact h)
     cases hg0:zCD ρ r0 with
     | none =>
       rw [hg0] at h
       dsimp only at h
       rw [Bool.and_eq_true] at h
       obtain ⟨h1,h2⟩:=injOk_at h.2
       refine ⟨fun r e hl he=>?_,fun r z e e' q q' hl hl' he he' hne g g'=>?_⟩
       · simp only [zBM] at hl
         cases hb:Nat.beq r0 r <;> rw [hb] at hl
         · exact h1 r e hl he
         · rw [Nat.beq_eq] at hb;subst hb
           exact ⟨fun q hq=>(by rw [hg0] at hq;cases hq),fun _=>Nat.le_of_ble_eq_true h.1⟩
       · simp only [zBM] at hl hl'
         cases hb:Nat.beq r0 r <;> rw [hb] at hl
         · cases hb':Nat.beq r0 z <;> rw [hb'] at hl'
           · exact h2 r z e e' q q' hl hl' he he' hne g g'
           · rw [Nat.beq_eq] at hb';subst hb';rw [hg0] at g';cases g'
         · rw [Nat.beq_eq] at hb;subst hb;rw [hg0] at g;cases g
     | some q0 =>
       rw [hg0] at h
       simp only [Bool.and_eq_true,Bool.or_eq_true,Nat.beq_eq] at h
       obtain ⟨⟨⟨ha,hu⟩,hl0⟩,hi⟩:=h
       obtain ⟨h1,h2⟩:=injOk_at hi
       refine ⟨fun r e hl he=>?_,fun r z e e' q q' hl hl' he he' hne g g'=>?_⟩
       · simp only [zBM] at hl
         cases hb:Nat.beq r0 r <;> rw [hb] at hl
         · obtain ⟨g1,g2⟩:=h1 r e hl he
           refine ⟨fun q hq=>?_,g2⟩
           obtain ⟨g3,g4,g5⟩:=g1 q hq
           exact ⟨g3,fun hm=>g4 (List.mem_cons_of_mem _ hm),g5⟩
         · rw [Nat.beq_eq] at hb;subst hb
           refine ⟨fun q hq=>?_,fun hq=>by rw [hg0] at hq;cases hq⟩
           rw [hg0] at hq
           have:=Option.some.inj hq;subst this
           refine ⟨?_,not_used hu,fun hn=>?_⟩
           · rcases ha with ⟨h3,h4⟩ | ⟨h3,h4⟩
             · exact .inl ⟨Nat.le_of_ble_eq_true h3,h4⟩
             · exact .inr ⟨Nat.le_of_ble_eq_true h3,Nat.le_of_ble_eq_true h4⟩
           · rw [hn] at hl0;exact Nat.le_of_ble_eq_true hl0
       · simp only [zBM] at hl hl'
         cases hb:Nat.beq r0 r <;> rw [hb] at hl
         · cases hb':Nat.beq r0 z <;> rw [hb'] at hl'
           · exact h2 r z e e' q q' hl hl' he he' hne g g'
           · rw [Nat.beq_eq] at hb';subst hb'
             rw [hg0] at g'
             have:=Option.some.inj g';subst this
             obtain ⟨g3,g4,g5⟩:=(h1 r e hl he).1 q g
             intro hqq;subst hqq;exact g4 (List.mem_cons_self ..)
         · rw [Nat.beq_eq] at hb;subst hb
           rw [hg0] at g
           have:=Option.some.inj g;subst this
           cases hb':Nat.beq r0 z <;> rw [hb'] at hl'
           · obtain ⟨g3,g4,g5⟩:=(h1 z e' hl' he').1 q' g'
             intro hqq;subst hqq;exact g4 (List.mem_cons_self ..)
           · rw [Nat.beq_eq] at hb';exact absurd hb' hne
end
end Go.T
namespace Go.T
open Go.Ab
variable [Go.Ab.DM]
section
variable {ρ:List (Nat × Nat)} {isL:Nat → Bool} {rows rf:Rows} {env:List Ent}
theorem findE_s:∀ {env:List Ent} {n:Nat} {e:Ent},zAl env n = some e → e.s = n
 | [],n,e,h=>by cases h
 | a :: l,n,e,h=>by
   simp only [zAl] at h
   cases hb:Nat.beq a.s n with
   | true=>rw [hb,cond_true] at h;have:=Option.some.inj h;subst this;rw [Nat.beq_eq] at hb;exact hb
   | false=>rw [hb] at h;exact findE_s h
theorem findE_app {a b:List Ent} {n:Nat}:zAl (a ++ b) n = match zAl a n with | some e=>some e | none=>zAl b n:=by
 induction a with
 | nil=>rfl
 | cons p a ih =>
   simp only [List.cons_append,zAl]
   cases Nat.beq p.s n <;> simp [ih]
theorem keepE_at:∀ {l:List Nat} {n:Nat} {e:Ent},zAl (keepE env l) n = some e → zAl env n = some e ∧ n ∈ l
 | [],n,e,h=>by cases h
 | m :: l,n,e,h=>by
   simp only [keepE] at h
   cases hf:zAl env m with
   | none=>rw [hf] at h;obtain ⟨h1,h2⟩:=keepE_at h;exact ⟨h1,List.mem_cons_of_mem _ h2⟩
   | some e0 =>
     rw [hf] at h
     simp only [zAl] at h
     have hs:=findE_s hf
     cases hb:Nat.beq e0.s n with
     | true =>
       rw [hb,cond_true] at h
       have:=Option.some.inj h;subst this
       rw [Nat.beq_eq,hs] at hb
       subst hb
       exact ⟨hf,List.mem_cons_self ..⟩
     | false=>rw [hb] at h;obtain ⟨h1,h2⟩:=keepE_at h;exact ⟨h1,List.mem_cons_of_mem _ h2⟩
theorem slotE_at {dl:Nat}:∀ {l:List (Nat × Ty)} {vs us:List TV},findVs env l = some vs → Packed ρ isL rf (l.map (·.2)) vs us → ∀ {n:Nat} {ent:Ent},zAl (slotE dl l us) n = some ent →
   ∃ e t,∃ y:t.I,zAl env n = some e ∧ e.c = [] ∧ packV ρ isL rf t e.v = some y ∧ ent = ⟨n,dl,[],⟨t,y⟩⟩ ∧ t ∈ l.map (·.2)
 | [],_,_,_,_,n,ent,h=>by cases h
 | (m,t) :: l,vs,us,hf,hp,n,ent,h=>by
   simp only [findVs] at hf
   split at hf
   · rename_i e vs' h1 h2
     obtain ⟨hc,hx⟩:=zAa hf
     have:=Option.some.inj hx;subst this
     cases hp with
     | cons h3 h4 =>
       simp only [slotE,zAl] at h
       cases hb:Nat.beq m n with
       | true =>
         rw [hb,cond_true] at h
         have:=Option.some.inj h;subst this
         rw [Nat.beq_eq] at hb;subst hb
         exact ⟨e,t,_,h1,List.isEmpty_iff.1 hc,h3,rfl,by simp⟩
       | false =>
         rw [hb] at h
         obtain ⟨e',t',y',g1,g2,g3,g4,g5⟩:=slotE_at h2 h4 h
         exact ⟨e',t',y',g1,g2,g3,g4,by simp only [List.map_cons,List.mem_cons];exact .inr g5⟩
   · cases hf
theorem newRows_at {dl:Nat} {m:List (Nat × TRow)} {base:Rows}:∀ (n i r:Nat),(r < n → zAA (zBm dl m base i n) r = (match rowIn m (i + r) with | some row=>row | none=>match zAT base (i + r) with | some lv=>zAA base (i + r) | none=>.gone)) ∧
     (∀ lv,zAT (zBm dl m base i n) r = some lv → (lv = dl ∧ ∃ row,rowIn m (i + r) = some row) ∨ (lv = dl ∧ zAT base (i + r) = none) ∨ (rowIn m (i + r) = none ∧ zAT base (i + r) = some lv))
 | 0,i,r=>⟨fun h=>absurd h (Nat.not_lt_zero _),fun lv h=>by cases h⟩
 | n + 1,i,0=>by
   refine ⟨fun _=>?_,fun lv h=>?_⟩
   · simp only [zBm,zAA,Nat.add_zero]
     cases rowIn m i with
     | some row=>rfl
     | none=>cases zAT base i <;> rfl
   · simp only [zBm,zAT,Nat.add_zero] at h ⊢
     cases h1:rowIn m i with
     | some row=>rw [h1] at h;exact .inl ⟨(Option.some.inj h).symm,row,rfl⟩
     | none =>
       rw [h1] at h
       cases h2:zAT base i with
       | some lv'=>rw [h2] at h;exact .inr (.inr ⟨rfl,h⟩)
       | none=>rw [h2] at h;exact .inr (.inl ⟨(Option.some.inj h).symm,rfl⟩)
 | n + 1,i,r + 1=>by
   obtain ⟨h1,h2⟩:=newRows_at (dl:=dl) (m:=m) (base:=base) n (i + 1) r
   rw [show i + 1 + r = i + (r + 1) by omega] at h1 h2
   exact ⟨fun h=>h1 (Nat.lt_of_succ_lt_succ h),h2⟩
theorem newRows_len {dl:Nat} {m:List (Nat × TRow)} {base:Rows}:∀ (n i:Nat),(zBm dl m base i n).length = n
 | 0,i=>rfl
 | n + 1,i=>by simp [zBm,newRows_len n (i + 1)]
theorem fr_one' {d:Nat} {f:List Nat} {r:Nat} {t:Ty} {x:t.I} (h:zAA (zAk d f 0 rows) r = .one t x):zAA rows r = .one t x:=fr_one (zBg d f rows) h
end
section
variable {B:Base} {ζ ζ0:Nat → Row} {num num0:Nat → Nat} {s s0:St} {e:Env} {H:Heap}
theorem ids_same:∀ (k:Nat),∀ p ∈ ids k,p.1 = p.2
 | 0,p,h=>by simp [ids] at h
 | n + 1,p,h=>by
   rw [ids,List.mem_cons] at h
   rcases h with rfl | h
   · rfl
   · exact ids_same n p h
theorem unpack_sound {k d dl:Nat} {σ:Sig} {x:σ.I} (hk:B.k = k) (hd:d ≤ dl) (ha:Abs B ζ num s e H) (hle:Le (d + 1) ζ0 num0 s0 ζ num s) (h:pack k d σ s = some x) :
   ∃ ζ' num' H',WeakS e H (zCh num' (zAp dl σ x s0)) H' ∧ Abs B ζ' num' (zAp dl σ x s0) (zCh num' (zAp dl σ x s0)) H' ∧ Le dl ζ0 num0 s0 ζ' num' (zAp dl σ x s0):=by
 unfold pack at h
 split at h
 rotate_left
 · cases h
 rename_i vs hvs
 dsimp only at h
 obtain ⟨hb,h⟩:=zAa h
 simp only [Bool.and_eq_true] at hb
 obtain ⟨⟨⟨⟨⟨⟨⟨⟨⟨hkeep,hrows⟩,hinj⟩,hbelow⟩,hkb⟩,hsb⟩,hrb⟩,hkr⟩,hkn⟩,hrho⟩:=hb
 split at h
 rotate_left
 · cases h
 rename_i la lb hla hlb
 have hx:=packAll_leaves h
 obtain ⟨tail,htail⟩:=uniRows_app (rows:=s.rows) σ.rows (uniKeep s.env σ.keep ++ (uniKeepR σ.rows s.rows σ.n ++ ids k) ++ uniL (σ.slots.map (·.2)) vs)
 have hself:∀ z,((∃ p ∈ uniKeep s.env σ.keep,p.1 = z) ∨ ∃ p ∈ uniKeepR σ.rows s.rows σ.n,p.1 = z) → zCD (uniRows s.rows (uniKeep s.env σ.keep ++ (uniKeepR σ.rows s.rows σ.n ++ ids k) ++ uniL (σ.slots.map (·.2)) vs) σ.rows) z = some z:=fun z hz=>by
   rw [htail,List.append_assoc]
   refine getN_id (fun p hp=>?_) ?_
   · rcases List.mem_append.1 hp with hp | hp
     · exact (uniKeep_id _ _).1 p hp
     · rcases List.mem_append.1 hp with hp | hp
       · exact (uniKeepR_id _ _ _).1 p hp
       · exact ids_same k p hp
   · rcases hz with ⟨p,hp,hpz⟩ | ⟨p,hp,hpz⟩
     · exact ⟨p,List.mem_append_left _ hp,hpz⟩
     · exact ⟨p,List.mem_append_right _ (List.mem_append_left _ hp),hpz⟩
 generalize hρ:uniRows s.rows (uniKeep s.env σ.keep ++ (uniKeepR σ.rows s.rows σ.n ++ ids k) ++ uniL (σ.slots.map (·.2)) vs) σ.rows = ρ at *
 generalize hfz:fzL (σ.slots.map (·.2)) vs ++ fzRows s.rows ρ σ.rows = fz at *
 obtain ⟨ha1,hw1⟩:=fr_abs ha (zBg (d + 1) fz s.rows)
 have hle1:=hle.trans (fr_Le (ζ:=ζ) (num:=num) (s:=s) (d + 1) fz)
 have hone:∀ r t x,zAA (zAk (d + 1) fz 0 s.rows) r = .one t x → zAA s.rows r = .one t x:=fun r t x h=>fr_one' h
 have hst:∀ r lv,zAT (zAk (d + 1) fz 0 s.rows) r = some lv → lv ≤ d → zAA (zAk (d + 1) fz 0 s.rows) r = zAA s.rows r:=fun r lv h1 h2=>by
   rcases stampAt_freeze (d + 1) fz s.rows 0 r lv h1 with h3 | h3
   · omega
   · exact h3.2
 generalize zAk (d + 1) fz 0 s.rows = rf at *
 obtain ⟨us,hus,hun⟩:=packVals_un hla
 obtain ⟨m,hm,hum⟩:=packRows_un hlb
 have hu:zAp dl σ x s0 = ⟨slotE dl σ.slots us ++ keepE s0.env σ.keep,zBm dl m s0.rows 0 σ.n,[]⟩:=by
   unfold zAp
   rw [hx,hun lb]
   dsimp only
   rw [hum]
 have hkept:∀ r,r < σ.n → zBM σ.rows r = none → ∃ lv,zAT rf r = some lv ∧ lv ≤ d ∧ zAT s0.rows r = some lv ∧ zAA rf r = zAA s0.rows r ∧ num r = num0 r ∧ ζ r = ζ0 r ∧ zAA rf r = zAA s.rows r:=fun r hr hl=>by
   obtain ⟨lv,h1,h2⟩:=rowsOk_at hrows r hr hl
   obtain ⟨h3,h4,h5,h6⟩:=hle1.rows r lv h1 (by omega)
   exact ⟨lv,h1,h2,h3,h4,h5,h6,hst r lv h1 h2⟩
 have hia:=injOk_at hinj
 have hsrc:∀ r,zBM σ.rows r = none → src ρ r = r:=fun r hl=>by
   unfold src
   cases hg:zCD ρ r with
   | none=>rfl
   | some q=>exact rhoOk_at hrho hg hl
 rw [hu]
 have hlook:=hm.look
 have hlt:∀ r e,zBM σ.rows r = some e → r < σ.n:=fun r e h=>below_at hbelow r e (lookR_mem h)
 have hat:∀ r,r < σ.n → zAA (zBm dl m s0.rows 0 σ.n) r = (match rowIn m r with | some row=>row | none=>zAA rf r):=fun r hr=>by
   have h1:=(newRows_at (dl:=dl) (m:=m) (base:=s0.rows) σ.n 0 r).1 hr
   rw [Nat.zero_add] at h1
   rw [h1]
   have h2:=hlook r
   cases hl:zBM σ.rows r with
   | some e=>rw [hl] at h2;obtain ⟨row,h3,_⟩:=h2;rw [h3]
   | none =>
     rw [hl] at h2
     obtain ⟨lv,g1,g2,g3,g4,_⟩:=hkept r hr hl
     rw [h2,g3,g4]
 have hge:∀ r,σ.n ≤ r → zAA (zBm dl m s0.rows 0 σ.n) r = .gone:=fun r hr=>rowAt_ge _ _ (by rw [newRows_len];exact hr)
 have hlen:=newRows_len (dl:=dl) (m:=m) (base:=s0.rows) σ.n 0
 have hstamp:=fun r=>(newRows_at (dl:=dl) (m:=m) (base:=s0.rows) σ.n 0 r).2
 generalize zBm dl m s0.rows 0 σ.n = rows' at *
 have hT:∀ r,Tgt ρ (isLst σ.rows) rf rows' r (zAA rows' r):=fun r=>by
   by_cases hr:r < σ.n
   · rw [hat r hr]
     have h2:=hlook r
     cases hl:zBM σ.rows r with
     | some e=>rw [hl] at h2;obtain ⟨row,h3,h4⟩:=h2;rw [h3];exact .pk h4
     | none =>
       rw [hl] at h2
       rw [h2]
       obtain ⟨lv,g1,g2,g3,g4,g5,g6,g7⟩:=hkept r hr hl
       refine .keep (hsrc r hl) (fun t x hrow z hz=>hself z (.inr ((uniKeepR_id _ _ _).2 r hr hl t x (hone r t x hrow) z hz))) fun mm hmm=>?_
       have hmem:mm ∈ rowRefs (zAA s.rows r):=by rw [← g7];rcases hmm with h | ⟨_,_,_,_,h⟩ <;> rw [h] <;> simp [rowRefs]
       obtain ⟨k1,k2⟩:=keptBelow_at hkr r hr hl mm hmem
       have hlm:zBM σ.rows mm = none:=by
         rcases k2 with ⟨t,x,k2⟩ | k2
         · rw [← g7] at k2;rcases hmm with h | ⟨_,_,_,_,h⟩ <;> rw [h] at k2 <;> cases k2
         · exact k2
       have h3:=hlook mm
       rw [hlm] at h3
       exact ⟨hsrc mm hlm,by rw [hat mm k1,h3]⟩
   · rw [hge r (by omega)];exact .gone
 have hnul:∀ r,zCD ρ r = none → isLst σ.rows r = true → ∃ t,zAA rows' r = .lst t []:=fun r hg hl=>by
   unfold isLst at hl
   have h2:=hlook r
   cases hlr:zBM σ.rows r with
   | none=>rw [hlr] at hl;cases hl
   | some e =>
     rw [hlr] at hl h2
     cases e <;> first | (cases hl;done) | skip
     obtain ⟨row,h3,h4⟩:=h2
     rw [hat r (hlt r _ hlr),h3]
     cases h4 with
     | lst h5 _=>rw [hg] at h5;cases h5
     | nil=>exact ⟨_,rfl⟩
 have hcls:∀ r,zAW (zAA rows' r) = true → r < σ.n ∧ ((zBM σ.rows r = none) ∨ ∃ e q,zBM σ.rows r = some e ∧ e ≠ .gone ∧ zCD ρ r = some q):=fun r hl=>by
   have hr:r < σ.n:=by
     rcases Nat.lt_or_ge r σ.n with h | h
     · exact h
     · rw [hge r h] at hl;simp [zAW] at hl
   refine ⟨hr,?_⟩
   have h2:=hlook r
   cases hlr:zBM σ.rows r with
   | none=>exact .inl rfl
   | some e =>
     rw [hlr] at h2
     obtain ⟨row,h3,h4⟩:=h2
     rw [hat r hr,h3] at hl
     refine .inr ⟨e,?_⟩
     cases h4 with
     | gone=>simp [zAW] at hl
     | nil=>simp [zAW] at hl
     | one h5=>exact ⟨_,rfl,by simp,h5⟩
     | many h5=>exact ⟨_,rfl,by simp,h5⟩
     | lst h5=>exact ⟨_,rfl,by simp,h5⟩
     | fro h5=>exact ⟨_,rfl,by simp,h5⟩
     | fr1 h5=>exact ⟨_,rfl,by simp,h5⟩
     | mp h5=>exact ⟨_,rfl,by simp,h5⟩
     | sit h5=>exact ⟨_,rfl,by simp,h5⟩
 have hinj':∀ r z,zAW (zAA rows' r) = true → zAW (zAA rows' z) = true → r ≠ z → src ρ r ≠ src ρ z:=fun r z h1 h2 hne=>by
   obtain ⟨hr,h3⟩:=hcls r h1
   obtain ⟨hz,h4⟩:=hcls z h2
   rcases h3 with h3 | ⟨e1,q1,h3,h3g,h3q⟩ <;> rcases h4 with h4 | ⟨e2,q2,h4,h4g,h4q⟩
   · rw [hsrc r h3,hsrc z h4];exact hne
   · rw [hsrc r h3,zAb h4q]
     intro hq
     have:=((hia.one z e2 h4 h4g).1 q2 h4q).2.2 (hq ▸ h3)
     omega
   · rw [hsrc z h4,zAb h3q]
     intro hq
     have:=((hia.one r e1 h3 h3g).1 q1 h3q).2.2 (hq ▸ h4)
     omega
   · rw [zAb h3q,zAb h4q];exact hia.two r z e1 e2 q1 q2 h3 h4 h3g h4g hne h3q h4q
 have hrefs:∀ r t y,zAA rows' r = .one t y → ∀ z ∈ t.refs,z < rows'.length:=fun r t y hrow z hz=>by
   rw [hlen]
   have hr:r < σ.n:=by
     rcases Nat.lt_or_ge r σ.n with h | h
     · exact h
     · rw [hge r h] at hrow;cases hrow
   have h2:=hlook r
   rw [hat r hr] at hrow
   cases hlr:zBM σ.rows r with
   | none =>
     rw [hlr] at h2
     rw [h2] at hrow
     obtain ⟨lv,g1,g2,g3,g4,g5,g6,g7⟩:=hkept r hr hlr
     exact (keptBelow_at hkr r hr hlr z (by rw [hone r t y hrow];exact hz)).1
   | some e =>
     rw [hlr] at h2
     obtain ⟨row,h3,h4⟩:=h2
     rw [h3] at hrow
     dsimp only at hrow
     subst hrow
     cases h4
     exact rowsBelow_at hrb r _ (lookR_mem hlr) z hz
 have hp:=tgt_prel (num:=num) hT hnul
 have hR:=tgt_hrel ha1.hrel hT hnul hrefs hinj'
 have hent:∀ n ent,zAl (slotE dl σ.slots us ++ keepE s0.env σ.keep) n = some ent → ent.c = [] ∧ okV rows' ent.v ∧ (ent.lv < dl → zAl s0.env n = some ent) ∧ ∃ e0,zAl s.env n = some e0 ∧ e0.c = [] ∧ Tl (enc (zAB num rf) e0.v) (enc (zAB (fun r=>num (src ρ r)) rows') ent.v):=fun n ent hf=>by
   rw [findE_app] at hf
   cases hs:zAl (slotE dl σ.slots us) n with
   | some e1 =>
     rw [hs] at hf
     have:=Option.some.inj hf;subst this
     obtain ⟨e0,t,y,g1,g2,g3,g4,g5⟩:=slotE_at hvs hus hs
     subst g4
     have hok:=ha1.ok n e0 g1 (by rw [g2];rfl)
     have ht:=packV_told hp t e0.v y hok g3
     refine ⟨rfl,ht.ok fun z hz=>by rw [hlen];exact slotsBelow_at hsb t g5 z hz,fun hlv=>absurd hlv (Nat.lt_irrefl _),e0,g1,g2,ht.one⟩
   | none =>
     rw [hs] at hf
     obtain ⟨g1,g2⟩:=keepE_at hf
     obtain ⟨e0,g3,g4,g5⟩:=keepOk_at hkeep n g2
     have g6:=hle.env n e0 g3 (by omega)
     rw [g1] at g6
     have:=Option.some.inj g6;subst this
     have hz:∀ z ∈ ent.v.t.refs,zCD ρ z = some z:=fun z hz=>hself z (.inl ((uniKeep_id _ _).2 n g2 ent g3 z hz))
     have hok:=ha1.ok n ent g3 (by rw [g5];rfl)
     have hs:=enc_self hp ent.v.t ent.v.x hz hok
     exact ⟨g5,hs.2 fun z hz'=>by rw [hlen];exact keepBelow_at hkb n g2 ent g3 z hz',fun _=>g1,ent,g3,g5,hs.1.1⟩
 refine ⟨fun r=>ζ (src ρ r),fun r=>num (src ρ r),_,hw1.trans (WeakS.env fun i=>?_),⟨rfl,hR,fun n ent hf _=>(hent n ent hf).2.1,fun n b h=>(by cases h),fun r hl=>?_,ha1.hlen,?_,fun r hr hi=>?_⟩,⟨fun n ent hf hlv=>(hent n ent hf).2.2.1 hlv,fun r lv h1 h2=>?_⟩⟩
 · unfold zCh
   dsimp only
   cases hf:zAl (slotE dl σ.slots us ++ keepE s0.env σ.keep) i with
   | none=>exact Tl.any _
   | some ent =>
     obtain ⟨g1,g2,g3,e0,g4,g5,g6⟩:=hent i ent hf
     rw [g4]
     have hh:∀ gs:List (Nat × Bool),zAw gs [] = true:=fun gs=>rfl
     simp only [entD,g1,g5,hh,if_true]
     exact g6
 · obtain ⟨h1,h2⟩:=hcls r hl
   have hb:=ha1.base (src ρ r) (tgt_live (hT r) hl)
   rcases h2 with h2 | ⟨e1,q1,h2,h2g,h2q⟩
   · rw [hsrc r h2] at hb ⊢;exact hb
   · have h3:=((hia.one r e1 h2 h2g).1 q1 h2q).1
     rw [zAb h2q] at hb ⊢
     rcases h3 with ⟨h3,h4⟩ | ⟨h3,h4⟩
     · subst h4;exact hb
     · exact ⟨fun h=>by omega,fun _=>hb.2 (by omega)⟩
 · show B.k ≤ rows'.length
   rw [hlen,hk];exact Nat.le_of_ble_eq_true hkn
 · have hr':r < σ.n:=Nat.lt_of_lt_of_le hr (by rw [hk];exact Nat.le_of_ble_eq_true hkn)
   have h2:=hlook r
   cases hlr:zBM σ.rows r with
   | none =>
     rw [hlr] at h2
     exact tgt_lens (B:=B) hT ha1.lens hr (hsrc r hlr) (.inr (.inl (by rw [hat r hr',h2]))) hi
   | some e =>
     by_cases hg:e = .gone
     · subst hg
       rw [hlr] at h2
       obtain ⟨row,h3,h4⟩:=h2
       cases h4
       have hi:zAP (zAA rows' r) = true:=hi
       rw [hat r hr',h3] at hi;simp [zAP] at hi
     · cases hq:zCD ρ r with
       | none=>have:=(hia.one r e hlr hg).2 hq;omega
       | some q =>
         have h3:=((hia.one r e hlr hg).1 q hq).1
         have hqr:q = r:=by rcases h3 with ⟨_,h4⟩ | ⟨h4,_⟩;exact h4;omega
         subst hqr
         exact tgt_lens (B:=B) hT ha1.lens hr (zAb hq) (.inl hq) hi
 · have h1:zAT rows' r = some lv:=h1
   have h3:=hstamp r lv h1
   rw [Nat.zero_add] at h3
   rcases h3 with ⟨h3,_⟩ | ⟨h3,_⟩ | ⟨h3,h4⟩
   · omega
   · omega
   · have h2':=hlook r
     have hr:r < σ.n:=by
       rcases Nat.lt_or_ge r σ.n with h | h
       · exact h
       · rw [stampAt_ge _ _ (by rw [hlen];exact h)] at h1;cases h1
     cases hlr:zBM σ.rows r with
     | some e=>rw [hlr] at h2';obtain ⟨row,h5,_⟩:=h2';rw [h3] at h5;cases h5
     | none =>
       obtain ⟨lv',g1,g2,g3,g4,g5,g6,g7⟩:=hkept r hr hlr
       refine ⟨h4,?_,?_,?_⟩
       · show zAA rows' r = _
         rw [hat r hr,h3];exact g4
       · show num (src ρ r) = _
         rw [hsrc r hlr];exact g5
       · show ζ (src ρ r) = _
         rw [hsrc r hlr];exact g6
end
end Go.T
namespace Go.T
open Go.Ab
variable [Go.Ab.DM]
def zBD (c:Con) (x:(zAX c.inT).I):List TV:=(zBr c.as (zAI (zAX c.inT) x)).1
def zBh (c:Con) (x:(zAX c.inT).I):Rows:=zAn (zBY (numb 0 c.ins) (zBr c.as (zAI (zAX c.inT) x)).2)
def zBQ (c:Con) (y:(zAX c.outT).I):TV:=match (zBr [c.res] (zAI (zAX c.outT) y)).1 with | [v]=>v | _=>⟨.any,()⟩
def zAQ (c:Con) (y:(zAX c.outT).I):Rows:=zAn (zBY (numb 0 c.outs) (zBr [c.res] (zAI (zAX c.outT) y)).2)
def zAu (P:Program) (c:Con):Prop:=∀ x,(∃ y,c.Q x y) → ∀ (ζ:Nat → Row) (num:Nat → Nat) (H:Heap),HRel ζ num (zBh c x) H → (∀ v ∈ zBD c x,okV (zBh c x) v) →
 Sound P c.f ((zBD c x).map (enc (zAB num (zBh c x)))) H fun dd H'=>∃ y,c.Q x y ∧ ∃ ζ' num',HRel ζ' num' (zAQ c y) H' ∧ dd = enc (zAB num' (zAQ c y)) (zBQ c y) ∧ okV (zAQ c y) (zBQ c y) ∧
   (∀ r,zAW (zAA (zAQ c y) r) = true → (r < c.ins.length → num' r = num r) ∧ (c.ins.length ≤ r → H.length ≤ num' r)) ∧ ∀ r,r < c.ins.length → zAP (zAA (zAQ c y) r) = true → zCW (zAA (zAQ c y) r) = zCW (zAA (zBh c x) r)
section
variable {ζ ζ':Nat → Row} {num num':Nat → Nat} {rows rows' rf:Rows} {H H':Heap}
theorem rowAt_stRows:∀ (l:List (Nat × TRow)) (i:Nat),zAA (zAn l) i = match l[i]? with | some p=>p.2 | none=>.gone
 | [],i=>by simp [zAn,zAA]
 | (_,row) :: l,0=>rfl
 | (_,row) :: l,i + 1=>by simp only [zAn,zAA,List.getElem?_cons_succ];exact rowAt_stRows l i
theorem len_stRows:∀ (l:List (Nat × TRow)),(zAn l).length = l.length
 | []=>rfl
 | (_,row) :: l=>by simp [zAn,len_stRows l]
theorem numb_len {α:Type}:∀ (l:List α) (n:Nat),(numb n l).length = l.length
 | [],n=>rfl
 | _ :: l,n=>by simp [numb,numb_len l (n + 1)]
theorem PkRows.len {ρ:List (Nat × Nat)} {isL:Nat → Bool} {l:List (Nat × RTy)} {m:List (Nat × TRow)} (h:PkRows ρ isL rows l m):m.length = l.length:=by
 induction h with
 | nil=>rfl
 | cons _ _ ih=>simp [ih]
theorem PkRows.at {ρ:List (Nat × Nat)} {isL:Nat → Bool}:∀ {l:List RTy} {n:Nat} {m:List (Nat × TRow)},PkRows ρ isL rows (numb n l) m → ∀ i,(match l[i]? with | some e=>∃ row,zAA (zAn m) i = row ∧ m[i]? = some (n + i,row) ∧ PkRow ρ isL rows (n + i) e row | none=>zAA (zAn m) i = .gone)
 | [],n,m,h,i=>by cases h;rfl
 | e :: l,n,m,h,0=>by cases h with | cons h1 h2=>exact ⟨_,rfl,rfl,h1⟩
 | e :: l,n,m,h,i + 1=>by
   cases h with
   | cons h1 h2 =>
     have ih:=PkRows.at h2 i
     simp only [List.getElem?_cons_succ,zAn,zAA]
     rw [show n + (i + 1) = n + 1 + i by omega]
     exact ih
theorem hrel_get (hr:HRel ζ num rows H) (h:∀ r,zAW (zAA rows r) = true → H'.get (num r) = H.get (num r)):HRel ζ num rows H' :=
 ⟨fun r=>row_keep (hr.row r) (fun t x=>hr.ok r t x) rfl rfl rfl (h r) (fun m a b l hm _=>⟨hm,rfl,h m (by rw [hm];rfl)⟩) fun _ _=>RefTl.refl _ _,hr.inj,hr.ok⟩
def zBn:TRow → Nat
 | .one _ _=>0 | .many _ _=>1 | .lst _ _=>2 | .mp _ _ _=>3 | .sit _ _=>4 | .fro _ _=>5 | .fr1 _ _=>6 | .itb _=>7 | .ite _ _ _ _ _=>8 | .gone=>9
theorem kind_ref {n:Nat} {a b:TRow} (h:zBn b = zBn a) (hk:zBn a < 5) (hl:zAP b = true → zCW b = zCW a):RefTl n a n b:=by
 cases a <;> cases b <;> simp [zBn] at h hk <;> first | exact ref_one _ | exact ref_many _ (hl rfl) | exact ref_lst _ (hl rfl) | exact ref_mp _ | exact ⟨Tl.refl _,fun _=>Tl.refl _,fun _=>Tl.refl _,fun _ _=>Tl.refl _,Tl.refl _⟩
theorem kind_live {a b:TRow} (h:zBn b = zBn a) (hl:zAP b = true → zCW b = zCW a) (hb:zAW b = true):zAW a = true:=by
 cases a <;> cases b <;> simp [zBn] at h <;> first | rfl | (simp [zAW] at hb;done) | skip
 rename_i t l t' l'
 have:=hl rfl
 simp only [zCW] at this
 simp only [zAW] at hb ⊢
 cases l <;> cases l' <;> simp at this hb ⊢
theorem kind_list {a b:TRow} (h:zBn b = zBn a) (hb:zAP b = true):zAP a = true:=by
 cases a <;> cases b <;> simp [zBn] at h <;> first | rfl | (simp [zAP] at hb;done)
theorem rowOf_kind (e:RTy) (v:TV):rowOf e v = .gone ∨ (match e with | .one _=>zBn (rowOf e v) = 0 | .many _=>zBn (rowOf e v) = 1 | .lst _=>zBn (rowOf e v) = 2 | .mp _ _=>zBn (rowOf e v) = 3 | .sit=>zBn (rowOf e v) = 4 | .fro _=>zBn (rowOf e v) = 5 | .fr1 _=>zBn (rowOf e v) = 6 | .gone=>False):=by
 unfold rowOf
 split <;> first | exact .inr rfl | exact .inl rfl
theorem ren_row_kind (τ:Nat → Nat) (row:TRow):zBn (renRow τ row) = zBn row ∧ zAP (renRow τ row) = zAP row ∧ zCW (renRow τ row) = zCW row ∧ zAW (renRow τ row) = zAW row:=by
 cases row <;> exact ⟨rfl,rfl,rfl,rfl⟩
structure SameRef (n:Nat) (row:TRow) (n':Nat) (row':TRow):Prop where
 own:ownD n' row' = ownD n row
 sub:∀ q,subD n' q row' = subD n q row
 p0:∀ o,p0D n' o row' = p0D n o row
 pt:∀ o i,(zAP row = true → Nat.lt i (zCW row)) → ptD n' o i row' = ptD n o i row
 mp:mpD n' row' = mpD n row
theorem ren_same (τ:Nat → Nat) {n n':Nat} (row:TRow) (h:zAW row = true → n' = n):SameRef n row n' (renRow τ row):=by
 cases row with
 | one t x=>have:=h rfl;subst this;exact ⟨rfl,fun _=>rfl,fun _=>rfl,fun _ _ _=>rfl,rfl⟩
 | many t l=>have:=h rfl;subst this;exact ⟨rfl,fun _=>rfl,fun _=>rfl,fun _ _ _=>rfl,rfl⟩
 | lst t l=>cases l with
   | nil=>exact ⟨rfl,fun _=>rfl,fun _=>rfl,fun _ i hi=>absurd (hi rfl) (Nat.not_lt_zero i),rfl⟩
   | cons y l=>have:=h rfl;subst this;exact ⟨rfl,fun _=>rfl,fun _=>rfl,fun _ _ _=>rfl,rfl⟩
 | mp k v l=>have:=h rfl;subst this;exact ⟨rfl,fun _=>rfl,fun _=>rfl,fun _ _ _=>rfl,rfl⟩
 | itb m=>have:=h rfl;subst this;exact ⟨rfl,fun _=>rfl,fun _=>rfl,fun _ _ _=>rfl,rfl⟩
 | ite m k v x y=>have:=h rfl;subst this;exact ⟨rfl,fun _=>rfl,fun _=>rfl,fun _ _ _=>rfl,rfl⟩
 | sit b p=>have:=h rfl;subst this;exact ⟨rfl,fun _=>rfl,fun _=>rfl,fun _ _ _=>rfl,rfl⟩
 | _=>exact ⟨rfl,fun _=>rfl,fun _=>rfl,fun _ _ _=>rfl,rfl⟩
structure RenOk (num:Nat → Nat) (rows:Rows) (num':Nat → Nat) (rows':Rows) (v:TV) (t:Ty) (x:t.I):Prop where
 one:enc (zAB num' rows') v = (E t (zAB num rows) x).1
 all:encs (zAB num' rows') v = (E t (zAB num rows) x).2
 ok:okV rows' v
theorem ren_pure {t:Ty} (h:t.pure = true) (x:t.I):RenOk num rows num' rows' ⟨t,x⟩ t x :=
 ⟨congrArg Prod.fst (E_pure t h _ _ x),congrArg Prod.snd (E_pure t h _ _ x),zCG t x h⟩
theorem ren_leaf {v:TV} {t:Ty} {x:t.I} (hv:v.t.sp = false) (ht:t.sp = false) (h:enc (zAB num' rows') v = (E t (zAB num rows) x).1) (hok:okV rows' v):RenOk num rows num' rows' v t x :=
 ⟨h,by unfold encs;rw [E_one hv,E_one ht];exact congrArg (fun d=>[d]) h,hok⟩
theorem renV_pr (τ:Nat → Nat) (a b:Ty) (x:(Ty.pr a b).I):renV τ (.pr a b) x = ⟨.pr (renV τ a x.1).t (renV τ b x.2).t,((renV τ a x.1).x,(renV τ b x.2).x)⟩:=rfl
theorem renV_agg (τ:Nat → Nat) (s:Ty) (x:(Ty.agg s).I):renV τ (.agg s) x = bif s.pure then ⟨.agg s,x⟩ else ⟨.agg (renV τ s x).t,(renV τ s x).x⟩:=rfl
theorem renV_tup (τ:Nat → Nat) (s:Ty) (x:(Ty.tup s).I):renV τ (.tup s) x = bif s.pure then ⟨.tup s,x⟩ else ⟨.tup (renV τ s x).t,(renV τ s x).x⟩:=rfl
theorem ren_ok (τ:Nat → Nat) (h:∀ r,r < rows.length → SameRef (num r) (zAA rows r) (num' (τ r)) (zAA rows' (τ r))) (hlen:∀ r,r < rows.length → τ r < rows'.length) (hlens:∀ r,r < rows.length → zAP (zAA rows' (τ r)) = true → zAP (zAA rows r) = true ∧ zCW (zAA rows' (τ r)) = zCW (zAA rows r)) :
   ∀ (t:Ty) (x:t.I),okT rows t x → RenOk num rows num' rows' (renV τ t x) t x:=by
 intro t
 induction t with
 | pr a b iha ihb =>
   intro x hx
   rw [renV_pr]
   have ga:=iha x.1 hx.1
   have gb:=ihb x.2 hx.2
   exact ⟨rfl,by show enc _ (renV τ a x.1) :: encs _ (renV τ b x.2) = _;rw [ga.one,gb.all];rfl,⟨ga.ok,gb.ok⟩⟩
 | unit=>intro x hx;exact ⟨rfl,rfl,trivial⟩
 | agg s ih =>
   intro x hx
   rw [renV_agg]
   cases hp:s.pure with
   | true=>exact ren_pure (t:=.agg s) hp x
   | false =>
     have g:=ih x hx
     exact ren_leaf rfl rfl (congrArg D.agg g.all) g.ok
 | tup s ih =>
   intro x hx
   rw [renV_tup]
   cases hp:s.pure with
   | true=>exact ren_pure (t:=.tup s) hp x
   | false =>
     have g:=ih x hx
     exact ren_leaf rfl rfl (congrArg D.tup g.all) g.ok
 | fn f a c iha ihc =>
   intro x hx
   have ga:=iha x.1 hx.1
   have gc:=ihc x.2 hx.2
   refine ren_leaf rfl rfl ?_ ⟨ga.ok,gc.ok⟩
   show D.fn (.func f) (encs _ (renV τ a x.1)) (encs _ (renV τ c x.2)) = _
   rw [ga.all,gc.all];rfl
 | ifc id t ih =>
   intro x hx
   have g:=ih x hx
   exact ren_leaf rfl rfl (congrArg (D.ifc id) g.one) g.ok
 | own r=>intro x hx;exact ren_leaf rfl rfl (h r hx).own (hlen r hx)
 | sub r =>
   intro x hx
   exact ren_leaf rfl rfl ((h r hx.1).sub x) ⟨hlen r hx.1,fun hl=>by obtain ⟨h1,h2⟩:=hlens r hx.1 hl;rw [h2];exact hx.2 h1⟩
 | p0 r o=>intro x hx;exact ren_leaf rfl rfl ((h r hx).p0 o) (hlen r hx)
 | pt r o =>
   intro x hx
   exact ren_leaf rfl rfl ((h r hx.1).pt o x hx.2) ⟨hlen r hx.1,fun hl=>by obtain ⟨h1,h2⟩:=hlens r hx.1 hl;rw [h2];exact hx.2 h1⟩
 | mp r=>intro x hx;exact ren_leaf rfl rfl (h r hx).mp (hlen r hx)
 | _=>intro x hx;exact ⟨rfl,rfl,trivial⟩
theorem ren_shape (τ:Nat → Nat) (t:Ty) (x:t.I):zBj (renV τ t x).t = zBj t ∧ (t.lay = true → (renV τ t x).t.lay = true):=by
 have ones:∀ (s:Ty) (y:s.I),s.ones = true → (renV τ s y).t.ones = true:=by
   intro s
   induction s with
   | pr a b iha ihb =>
     intro y h
     simp only [Ty.ones,Bool.and_eq_true] at h
     rw [renV_pr]
     simp only [Ty.ones,Bool.and_eq_true]
     exact ⟨oneT a y.1 h.1,ihb y.2 h.2⟩
   | unit=>intro y h;rfl
   | agg s ih=>intro y h;simp [Ty.ones,Ty.one] at h
   | tup s ih=>intro y h;simp [Ty.ones,Ty.one] at h
   | _=>intro y h;exact oneT _ y h
 cases t with
 | agg s =>
   rw [renV_agg]
   cases s.pure
   · exact ⟨rfl,fun h=>ones s x h⟩
   · exact ⟨rfl,id⟩
 | pr a b=>exact ⟨rfl,fun h=>by simp [Ty.lay,Ty.one] at h⟩
 | tup s=>rw [renV_tup];cases s.pure <;> exact ⟨rfl,fun h=>by simp [Ty.lay,Ty.one] at h⟩
 | _=>exact ⟨rfl,fun h=>h⟩
where
 oneT (t:Ty) (x:t.I) (h:t.one = true):(renV τ t x).t.one = true:=by
   cases t with
   | pr a b=>simp [Ty.one] at h
   | agg s=>simp [Ty.one] at h
   | tup s=>simp [Ty.one] at h
   | _=>exact h
end
end Go.T
namespace Go.T
open Go.Ab
variable [Go.Ab.DM]
theorem leaves_types:∀ (ts:List Ty),(∀ t ∈ ts,t.sp = false) → ∀ y:(zAX ts).I,(zAI (zAX ts) y).map (·.t) = ts
 | [],_,y=>rfl
 | [t],h,y=>congrArg (List.map (·.t)) (leaves_one (h t (by simp)) y)
 | t :: u :: r,h,y=>by
   show t :: (zAI (zAX (u :: r)) y.2).map (·.t) = _
   rw [leaves_types (u :: r) (fun v hv=>h v (List.mem_cons_of_mem _ hv)) y.2]
theorem noTriv_cons (t:Ty) (l:List Ty):zCT (t :: l) = if t.triv = true then zCT l else t :: zCT l:=by
 unfold zCT
 cases h:t.triv <;> simp [h]
theorem unRows_full:∀ (l:List (Nat × RTy)) (vs:List TV),vs.map (·.t) = zCT (l.map (·.2.dat)) → (zBY l vs).length = l.length
 | [],vs,_=>rfl
 | (r,e) :: l,vs,h=>by
   rw [List.map_cons,noTriv_cons] at h
   simp only [zBY]
   cases ht:e.dat.triv with
   | true=>rw [if_pos ht] at h;simp only [cond_true,List.length_cons,unRows_full l vs h]
   | false =>
     rw [if_neg (by rw [ht];simp)] at h
     simp only [cond_false]
     cases vs with
     | nil=>cases h
     | cons v vs =>
       simp only [List.map_cons,List.cons.injEq] at h
       simp only [List.length_cons,unRows_full l vs h.2]
theorem unRows_types:∀ (l:List RTy) (n:Nat) (vs:List TV),vs.map (·.t) = zCT (l.map RTy.dat) → ∀ i p,(zBY (numb n l) vs)[i]? = some p → ∃ e v,l[i]? = some e ∧ p = (n + i,rowOf e v) ∧ v.t = e.dat
 | [],n,vs,_,i,p,h=>by simp [numb,zBY] at h
 | e :: l,n,vs,hvs,i,p,h=>by
   rw [List.map_cons,noTriv_cons] at hvs
   simp only [numb,zBY] at h
   have step:∀ v vs',v.t = e.dat → vs'.map (·.t) = zCT (l.map RTy.dat) → ((n,rowOf e v) :: zBY (numb (n + 1) l) vs')[i]? = some p → ∃ e' v,(e :: l)[i]? = some e' ∧ p = (n + i,rowOf e' v) ∧ v.t = e'.dat:=fun v vs' hv hvs' h=>by
     cases i with
     | zero=>exact ⟨e,v,rfl,(Option.some.inj h).symm,hv⟩
     | succ i =>
       obtain ⟨e',v',h1,h2,h3⟩:=unRows_types l (n + 1) vs' hvs' i p h
       exact ⟨e',v',h1,by rw [h2,show n + 1 + i = n + (i + 1) by omega],h3⟩
   cases ht:e.dat.triv with
   | true=>rw [ht,cond_true] at h;rw [if_pos ht] at hvs;exact step _ _ rfl hvs h
   | false =>
     rw [ht,cond_false] at h
     rw [if_neg (by rw [ht];simp)] at hvs
     cases vs with
     | nil=>simp at h
     | cons v vs=>simp only [List.map_cons,List.cons.injEq] at hvs;exact step v vs hvs.1 hvs.2 h
theorem out_types {c:Con} (h:(c.outT.all fun t=>!t.sp) = true) (y:(zAX c.outT).I):(zBr [c.res] (zAI (zAX c.outT) y)).2.map (·.t) = zCT (c.outs.map RTy.dat) ∧ ∃ v,(zBr [c.res] (zAI (zAX c.outT) y)).1 = [v] ∧ v.t = c.res:=by
 have h1:=leaves_types c.outT (fun t ht=>by rw [List.all_eq_true] at h;simpa using h t ht) y
 have h3:c.outT = zCT (c.res :: c.outs.map RTy.dat):=rfl
 have h1:(zAI (zAX c.outT) y).map (·.t) = zCT (c.res :: c.outs.map RTy.dat):=h1.trans h3
 rw [noTriv_cons] at h1
 simp only [zBr]
 cases ht:c.res.triv with
 | true=>rw [if_pos ht] at h1;exact ⟨h1,_,rfl,rfl⟩
 | false =>
   rw [if_neg (by rw [ht];simp)] at h1
   simp only [cond_false]
   generalize zAI (zAX c.outT) y = vs at *
   cases vs with
   | nil=>cases h1
   | cons v vs=>simp only [List.map_cons,List.cons.injEq] at h1;exact ⟨h1.2,v,rfl,h1.1⟩
theorem conOuts_len {c:Con} (h:(c.outT.all fun t=>!t.sp) = true) (y:(zAX c.outT).I):(zAQ c y).length = c.outs.length:=by
 have h1:=leaves_types c.outT (fun t ht=>by rw [List.all_eq_true] at h;simpa using h t ht) y
 unfold zAQ
 rw [len_stRows,unRows_full,numb_len]
 have h2:(numb 0 c.outs).map (·.2.dat) = c.outs.map RTy.dat:=by
   have:∀ (l:List RTy) (n:Nat),(numb n l).map (·.2.dat) = l.map RTy.dat:=by
     intro l
     induction l with
     | nil=>intro n;rfl
     | cons e l ih=>intro n;simp [numb,ih]
   exact this _ _
 rw [h2]
 have h3:c.outT = zCT (c.res :: c.outs.map RTy.dat):=rfl
 have h1:(zAI (zAX c.outT) y).map (·.t) = zCT (c.res :: c.outs.map RTy.dat):=h1.trans h3
 rw [noTriv_cons] at h1
 simp only [zBr]
 cases ht:c.res.triv with
 | true=>rw [if_pos ht] at h1;exact h1
 | false =>
   rw [if_neg (by rw [ht];simp)] at h1
   simp only [cond_false]
   generalize zAI (zAX c.outT) y = vs at *
   cases vs with
   | nil=>cases h1
   | cons v vs=>simp only [List.map_cons,List.cons.injEq] at h1;exact h1.2
section
variable {d k base:Nat} {τ:Nat → Nat} {ρ:List (Nat × Nat)}
theorem loc_lt {i:Nat} (h:i < k):locR ρ k base i = (zCD ρ i).getD 0:=by
 unfold locR
 have:Nat.blt i k = true:=Nat.ble_eq_true_of_le h
 rw [this];rfl
theorem loc_ge {i:Nat} (h:k ≤ i):locR ρ k base i = base + (i - k):=by
 unfold locR
 cases hb:Nat.blt i k with
 | true=>have:i < k:=Nat.le_of_ble_eq_true hb;omega
 | false=>rfl
theorem loc_inj (hρ:∀ i,i < k → ∃ q,zCD ρ i = some q ∧ q < base) (hinj:∀ i j,i < k → j < k → i ≠ j → src ρ i ≠ src ρ j) {i j:Nat} (h:i ≠ j):locR ρ k base i ≠ locR ρ k base j:=by
 have hs:∀ i,i < k → locR ρ k base i = src ρ i ∧ src ρ i < base:=fun i hi=>by
   obtain ⟨q,h1,h2⟩:=hρ i hi
   rw [loc_lt hi,h1,zAb h1];exact ⟨rfl,h2⟩
 rcases Nat.lt_or_ge i k with hi | hi <;> rcases Nat.lt_or_ge j k with hj | hj
 · rw [(hs i hi).1,(hs j hj).1];exact hinj i j hi hj h
 · rw [(hs i hi).1,loc_ge hj];have:=(hs i hi).2;omega
 · rw [(hs j hj).1,loc_ge hi];have:=(hs j hj).2;omega
 · rw [loc_ge hi,loc_ge hj];omega
theorem back_at (hρ:∀ i,i < k → ∃ q,zCD ρ i = some q ∧ q < base) (hinj:∀ i j,i < k → j < k → i ≠ j → src ρ i ≠ src ρ j) :
   ∀ (m:List (Nat × TRow)) (n:Nat) (rows:Rows),(∀ i p,m[i]? = some p → p.1 = n + i) → rows.length = base + (n - k) →
     (zBW d τ ρ k rows m).length = base + (n + m.length - k) ∧
     (∀ i p,m[i]? = some p → zAA (zBW d τ ρ k rows m) (locR ρ k base (n + i)) = renRow τ p.2 ∧ zAT (zBW d τ ρ k rows m) (locR ρ k base (n + i)) = some d) ∧
     ∀ r,(∀ i,i < m.length → locR ρ k base (n + i) ≠ r) → zAA (zBW d τ ρ k rows m) r = zAA rows r ∧ zAT (zBW d τ ρ k rows m) r = zAT rows r
 | [],n,rows,_,hl=>⟨by simpa [zBW] using hl,fun i p h=>by simp at h,fun r _=>⟨rfl,rfl⟩⟩
 | p :: m,n,rows,hm,hl=>by
   have hp:p.1 = n:=by have:=hm 0 p rfl;simpa using this
   have hm':∀ i q,m[i]? = some q → q.1 = n + 1 + i:=fun i q h=>by have:=hm (i + 1) q h;omega
   obtain ⟨pi,prow⟩:=p
   dsimp only at hp;subst hp
   have one:∃ rows1,zBW d τ ρ k rows ((pi,prow) :: m) = zBW d τ ρ k rows1 m ∧ rows1.length = base + (pi + 1 - k) ∧ zAA rows1 (locR ρ k base pi) = renRow τ prow ∧ zAT rows1 (locR ρ k base pi) = some d ∧ ∀ r,locR ρ k base pi ≠ r → zAA rows1 r = zAA rows r ∧ zAT rows1 r = zAT rows r:=by
     rcases Nat.lt_or_ge pi k with h | h
     · obtain ⟨q,h1,h2⟩:=hρ pi h
       have hb:Nat.blt pi k = true:=Nat.ble_eq_true_of_le h
       have hql:q < rows.length:=by omega
       refine ⟨setRow rows q d (renRow τ prow),by simp only [zBW,hb,cond_true,h1],by rw [zBp,hl];omega,?_,?_,fun r hr=>?_⟩
       · rw [loc_lt h,h1];exact rowAt_seteq hql
       · rw [loc_lt h,h1,zBT];show (if q = q ∧ q < rows.length then some d else _) = _;rw [if_pos ⟨rfl,hql⟩]
       · rw [loc_lt h,h1] at hr
         have hr:q ≠ r:=hr
         exact ⟨zCY (Ne.symm hr),by rw [zBT,if_neg (fun h=>hr h.1.symm)]⟩
     · have hb:Nat.blt pi k = false:=by
         cases hb:Nat.blt pi k with
         | false=>rfl
         | true=>have:pi < k:=Nat.le_of_ble_eq_true hb;omega
       have hlen:locR ρ k base pi = rows.length:=by rw [loc_ge h,hl]
       refine ⟨rows ++ [(d,renRow τ prow)],by simp only [zBW,hb,cond_false],by simp [hl];omega,?_,?_,fun r hr=>?_⟩
       · rw [hlen,zBK]
       · rw [hlen,stampAt_app_len]
       · rw [hlen] at hr
         rcases Nat.lt_trichotomy r rows.length with h' | h' | h'
         · exact ⟨rowAt_app_lt _ _ _ h',stampAt_app_lt _ _ _ h'⟩
         · exact absurd h'.symm hr
         · exact ⟨by rw [rowAt_app_gt _ _ _ h',rowAt_ge _ _ (by omega)],by rw [stampAt_ge _ _ (by simp;omega),stampAt_ge _ _ (by omega)]⟩
   obtain ⟨rows1,e1,e2,e3,e4,e5⟩:=one
   obtain ⟨g1,g2,g3⟩:=back_at hρ hinj m (pi + 1) rows1 hm' e2
   rw [e1]
   have hne:∀ i,locR ρ k base (pi + 1 + i) ≠ locR ρ k base pi:=fun i=>loc_inj hρ hinj (by omega)
   refine ⟨by rw [g1,List.length_cons];congr 1;omega,fun i p h=>?_,fun r hr=>?_⟩
   · cases i with
     | zero =>
       have:=Option.some.inj h;subst this
       obtain ⟨h1,h2⟩:=g3 (locR ρ k base pi) fun i _=>hne i
       exact ⟨by rw [show pi + 0 = pi from rfl,h1,e3],by rw [show pi + 0 = pi from rfl,h2,e4]⟩
     | succ i =>
       have:=g2 i p h
       rw [show pi + (i + 1) = pi + 1 + i by omega];exact this
   · obtain ⟨h1,h2⟩:=g3 r fun i hi=>by rw [show pi + 1 + i = pi + (i + 1) by omega];exact hr (i + 1) (by rw [List.length_cons];omega)
     obtain ⟨h3,h4⟩:=e5 r (hr 0 (by rw [List.length_cons];omega))
     exact ⟨h1.trans h3,h2.trans h4⟩
end
end Go.T
namespace Go.T
open Go.Ab
variable [Go.Ab.DM]
def kindE:RTy → Nat
 | .one _=>0 | .many _=>1 | .lst _=>2 | .mp _ _=>3 | .sit=>4 | .fro _=>5 | .fr1 _=>6 | .gone=>9
theorem okIO_kind {a b:RTy} (h:okIO a b = true):kindE a < 5 ∧ (b = .gone ∨ kindE b = kindE a):=by
 cases a <;> cases b <;> simp [okIO] at h <;> simp [kindE]
theorem okIOs_at:∀ {l m:List RTy},okIOs l m = true → ∀ (i:Nat) (e:RTy),l[i]? = some e → ∃ e',m[i]? = some e' ∧ okIO e e' = true
 | [],m,_,i,e,h=>by simp at h
 | a :: l,[],h,_,_,_=>by cases h
 | a :: l,b :: m,h,i,e,hi=>by
   simp only [okIOs,Bool.and_eq_true] at h
   cases i with
   | zero=>have:=Option.some.inj hi;subst this;exact ⟨b,rfl,h.1⟩
   | succ i=>exact okIOs_at h.2 i e hi
theorem okIOs_len:∀ {l m:List RTy},okIOs l m = true → l.length ≤ m.length
 | [],m,_=>by simp
 | a :: l,[],h=>by cases h
 | a :: l,b :: m,h=>by
   simp only [okIOs,Bool.and_eq_true] at h
   have:=okIOs_len h.2
   simp only [List.length_cons];omega
theorem noIters_at {rows:Rows} {ρ:List (Nat × Nat)}:∀ {l:List RTy} {n:Nat},noIters rows ρ (numb n l) = true → ∀ (i:Nat) (a b:Ty),l[i]? = some (.mp a b) → ∃ q,zCD ρ (n + i) = some q ∧ zCo q rows = true
 | [],n,_,i,a,b,h=>by simp at h
 | e :: l,n,h,i,a,b,hi=>by
   have tl:noIters rows ρ (numb (n + 1) l) = true:=by
     simp only [numb] at h
     cases e <;> first | exact h | (simp only [noIters,Bool.and_eq_true] at h;exact h.2)
   cases i with
   | zero =>
     have:=Option.some.inj hi;subst this
     simp only [numb,noIters,Bool.and_eq_true] at h
     have h1:=h.1
     split at h1
     · rename_i q hq;exact ⟨q,hq,h1⟩
     · cases h1
   | succ i =>
     obtain ⟨q,h1,h2⟩:=noIters_at tl i a b hi
     exact ⟨q,by rw [show n + (i + 1) = n + 1 + i by omega];exact h1,h2⟩
section
variable {ρ:List (Nat × Nat)} {isL:Nat → Bool} {rows rf:Rows}
theorem pk_kind {r q:Nat} {e:RTy} {row:TRow} (h:PkRow ρ isL rf r e row) (hg:zCD ρ r = some q) (he:kindE e < 5):zBn row = kindE e ∧ zBn (zAA rf q) = kindE e ∧ zCW row = zCW (zAA rf q) ∧ zAW row = zAW (zAA rf q):=by
 have eq:∀ {q'},zCD ρ r = some q' → q' = q:=fun h=>by rw [hg] at h;exact (Option.some.inj h).symm
 cases h with
 | gone=>simp [kindE] at he
 | one h1 h2 h3 h4 h5=>have:=eq h1;subst this;rw [h2];exact ⟨rfl,rfl,rfl,rfl⟩
 | many h1 h2=>have:=eq h1;subst this;rw [h2];exact ⟨rfl,rfl,rfl,rfl⟩
 | lst h1 h2=>have:=eq h1;subst this;rw [h2];exact ⟨rfl,rfl,rfl,rfl⟩
 | fro h1 h2=>simp [kindE] at he
 | fr1 h1 h2=>simp [kindE] at he
 | mp h1 h2=>have:=eq h1;subst this;rw [h2];exact ⟨rfl,rfl,rfl,rfl⟩
 | sit h1 h2=>have:=eq h1;subst this;rw [h2];exact ⟨rfl,rfl,rfl,rfl⟩
 | nil h1 _=>rw [hg] at h1;cases h1
theorem fr_kind (hf:FrStep rows rf) {q:Nat} (h:zBn (zAA rf q) < 5):zAA rf q = zAA rows q:=by
 rcases hf.2 q with e | e
 · exact e
 · rw [e] at h ⊢
   cases hr:zAA rows q with
   | one t x=>rw [hr] at h;simp only [zBz] at h ⊢;cases hp:t.pure <;> rw [hp] at h <;> first | rfl | (simp [zBn] at h)
   | many t l=>rw [hr] at h;simp [zBz,zBn] at h
   | lst t l=>rw [hr] at h;simp [zBz,zBn] at h
   | _=>rfl
theorem kind_gone {row:TRow} (h:zBn row = 9):row = .gone:=by cases row <;> simp [zBn] at h;rfl
theorem enc_nomem {num:Nat → Nat} (hrows:∀ r,zBn (zAA rows r) = 1 ∨ zBn (zAA rows r) = 2 ∨ zBn (zAA rows r) = 9):∀ (t:Ty) (x:t.I),t.mem = false → (E t (zAB num rows) x).1.nomem = true ∧ zCS (E t (zAB num rows) x).2 = true:=by
 have one:∀ (t:Ty) (x:t.I),t.sp = false → (E t (zAB num rows) x).1.nomem = true → (E t (zAB num rows) x).1.nomem = true ∧ zCS (E t (zAB num rows) x).2 = true:=fun t x hs h=>⟨h,by rw [E_one hs];simp [zCS,h]⟩
 intro t
 induction t with
 | pr a b iha ihb =>
   intro x h
   simp only [Ty.mem,Bool.or_eq_false_iff] at h
   exact ⟨rfl,by show zCS ((E a _ x.1).1 :: (E b _ x.2).2) = true;simp only [zCS,(iha x.1 h.1).1,(ihb x.2 h.2).2,Bool.and_self]⟩
 | unit=>intro x h;exact ⟨rfl,rfl⟩
 | agg s ih=>intro x h;exact one _ x rfl (ih x h).2
 | tup s ih=>intro x h;exact one _ x rfl (ih x h).2
 | fn f a c iha ihc =>
   intro x h
   simp only [Ty.mem,Bool.or_eq_false_iff] at h
   exact one _ x rfl (by show (zCS (E a _ x.1).2 && zCS (E c _ x.2).2) = true;rw [(iha x.1 h.1).2,(ihc x.2 h.2).2];rfl)
 | ifc id t ih=>intro x h;exact one _ x rfl (ih x h).1
 | own r =>
   intro x _
   refine one _ x rfl ?_
   show (ownD (num r) (zAA rows r)).nomem = true
   rcases hrows r with h | h | h <;> cases hr:zAA rows r <;> rw [hr] at h <;> simp [zBn] at h <;> first | rfl | (rename_i t l;cases l <;> rfl)
 | sub r =>
   intro x _
   refine one _ x rfl ?_
   show (subD (num r) x (zAA rows r)).nomem = true
   rcases hrows r with h | h | h <;> cases hr:zAA rows r <;> rw [hr] at h <;> simp [zBn] at h <;> first | rfl | (rename_i t l;cases l <;> rfl)
 | p0 r o =>
   intro x _
   refine one _ x rfl ?_
   show (p0D (num r) o (zAA rows r)).nomem = true
   rcases hrows r with h | h | h <;> cases hr:zAA rows r <;> rw [hr] at h <;> simp [zBn] at h <;> rfl
 | pt r o =>
   intro x _
   refine one _ x rfl ?_
   show (ptD (num r) o x (zAA rows r)).nomem = true
   rcases hrows r with h | h | h <;> cases hr:zAA rows r <;> rw [hr] at h <;> simp [zBn] at h <;> rfl
 | mp r =>
   intro x _
   refine one _ x rfl ?_
   show (mpD (num r) (zAA rows r)).nomem = true
   rcases hrows r with h | h | h <;> cases hr:zAA rows r <;> rw [hr] at h <;> simp [zBn] at h <;> rfl
 | sl t _=>intro x h;simp [Ty.mem] at h
 | fp t o _=>intro x h;simp [Ty.mem] at h
 | _=>intro x h;exact one _ x rfl rfl
theorem e0_nomem {t:Ty} (hp:t.pure = true) (h:t.mem = false) (l:List t.I):zCS (l.map (e0 t)) = true:=by
 induction l with
 | nil=>rfl
 | cons x l ih =>
   have e:e0 t x = (E t (zAB (fun _=>0) []) x).1:=congrArg Prod.fst (E_pure t hp _ _ x)
   have:=(enc_nomem (rows:=[]) (num:=fun _=>0) (fun r=>.inr (.inr rfl)) t x h).1
   simp only [List.map_cons,zCS,ih,Bool.and_true]
   rw [e];exact this
theorem mk_get (n:Nat) (f:Nat → Option Row) (q:Nat):Heap.get ((List.range n).map f) q = if q < n then f q else none:=by
 unfold Heap.get
 rcases Nat.lt_or_ge q n with h | h
 · simp [h]
 · rw [List.getElem?_eq_none (by simp;exact h),if_neg (by omega)];rfl
end
end Go.T
namespace Go.T
open Go.Ab
variable [Go.Ab.DM]
section
variable {B:Base} {ζ ζ':Nat → Row} {num num':Nat → Nat} {s:St} {e:Env} {H H1:Heap} {ρ:List (Nat × Nat)} {isL:Nat → Bool} {rf crows:Rows}
def seen (num:Nat → Nat) (ρ:List (Nat × Nat)) (k:Nat) (crows:Rows) (q:Nat):Bool:=(List.range k).any fun i=>zAW (zAA crows i) && Nat.beq (num (src ρ i)) q
theorem seen_iff {k q:Nat}:seen num ρ k crows q = true ↔ ∃ i,i < k ∧ zAW (zAA crows i) = true ∧ num (src ρ i) = q:=by
 unfold seen
 rw [List.any_eq_true]
 constructor
 · rintro ⟨i,h1,h2⟩
   simp only [List.mem_range,Bool.and_eq_true,Nat.beq_eq] at h1 h2
   exact ⟨i,h1,h2.1,h2.2⟩
 · rintro ⟨i,h1,h2,h3⟩
   exact ⟨i,by simpa using h1,by simp [h2,h3]⟩
def left (num':Nat → Nat) (couts:Rows) (q:Nat):Bool:=(List.range couts.length).any fun i=>zAW (zAA couts i) && Nat.beq (num' i) q
theorem left_iff {couts:Rows} {q:Nat}:left num' couts q = true ↔ ∃ i,zAW (zAA couts i) = true ∧ num' i = q:=by
 unfold left
 rw [List.any_eq_true]
 constructor
 · rintro ⟨i,h1,h2⟩
   simp only [Bool.and_eq_true,Nat.beq_eq] at h2
   exact ⟨i,h2.1,h2.2⟩
 · rintro ⟨i,h2,h3⟩
   have:i < couts.length:=zAt (by intro h;rw [h] at h2;simp [zAW] at h2)
   exact ⟨i,by simpa using this,by simp [h2,h3]⟩
def behind (H H1:Heap) (S T:Nat → Bool):Heap:=(List.range H1.length).map fun q=>if q < H.length ∧ S q = false then H.get q else if T q = true then H1.get q else none
theorem behind_get (S T:Nat → Bool) (hl:H.length ≤ H1.length) (q:Nat):(behind H H1 S T).get q = if q < H.length ∧ S q = false then H.get q else if T q = true then H1.get q else none:=by
 unfold behind
 rw [mk_get]
 split
 · rfl
 · rename_i h
   rw [if_neg (fun h'=>h (Nat.lt_of_lt_of_le h'.1 hl))]
   split
   · unfold Heap.get;rw [List.getElem?_eq_none (by omega)];rfl
   · rfl
theorem call_rows {d:Nat} {c:Con} {y:(zAX c.outT).I} {m:List (Nat × TRow)} (ha:Abs B ζ num s e H) (hf:FrStep s.rows rf)
   (hm:PkRows ρ isL rf (numb 0 c.ins) m) (hρ:∀ i,i < c.ins.length → ∃ q,zCD ρ i = some q) (hinj:∀ i j,i < c.ins.length → j < c.ins.length → i ≠ j → src ρ i ≠ src ρ j)
   (hio:okIOs c.ins c.outs = true) (hno:noIters s.rows ρ (numb 0 c.ins) = true) (hsp:(c.outT.all fun t=>!t.sp) = true)
   (hR:HRel ζ' num' (zAQ c y) H1) (hres:okV (zAQ c y) (zBQ c y)) (hnum:∀ r,zAW (zAA (zAQ c y) r) = true → (r < c.ins.length → num' r = num (src ρ r)) ∧ (c.ins.length ≤ r → H.length ≤ num' r))
   (hlens:∀ r,r < c.ins.length → zAP (zAA (zAQ c y) r) = true → zCW (zAA (zAQ c y) r) = zCW (zAA (zAn m) r)) (hH:H.length ≤ H1.length) (hfull:c.mem = true → rf = s.rows) :
   ∃ H2 ζ2 num2,Over H (frH num s.rows rf H) H1 (seen num ρ c.ins.length (zAn m)) (enc (zAB num' (zAQ c y)) (zBQ c y)) H2 ∧
     Step B d ζ num s e (enc (zAB num' (zAQ c y)) (zBQ c y)) H2 (renV (locR ρ c.ins.length s.rows.length) (zBQ c y).t (zBQ c y).x)
       { s with rows:=zBW d (locR ρ c.ins.length s.rows.length) ρ c.ins.length s.rows (zBY (numb 0 c.outs) (zBr [c.res] (zAI (zAX c.outT) y)).2) } ζ2 num2 H2:=by
 have hr:=ha.hrel
 have hlen:=conOuts_len hsp y
 obtain ⟨htys,vres,hv1,hv2⟩:=out_types hsp y
 have hkl:=okIOs_len hio
 have hin:∀ i,i < c.ins.length → ∃ ei eo,c.ins[i]? = some ei ∧ c.outs[i]? = some eo ∧ okIO ei eo = true ∧ zCD ρ i = some (src ρ i) ∧ src ρ i < s.rows.length ∧ kindE ei < 5 ∧ zBn (zAA (zAn m) i) = kindE ei ∧ zBn (zAA s.rows (src ρ i)) = kindE ei ∧ zCW (zAA (zAn m) i) = zCW (zAA s.rows (src ρ i)) ∧ zAW (zAA (zAn m) i) = zAW (zAA s.rows (src ρ i)):=fun i hi=>by
   obtain ⟨q,hq⟩:=hρ i hi
   have hs:=zAb hq
   rw [hs]
   have hat:=hm.at i
   rw [List.getElem?_eq_getElem hi] at hat
   obtain ⟨row,h1,_,h2⟩:=hat
   rw [Nat.zero_add] at h2
   obtain ⟨eo,h3,h4⟩:=okIOs_at hio i _ (List.getElem?_eq_getElem hi)
   obtain ⟨h5,h6⟩:=okIO_kind h4
   obtain ⟨g1,g2,g3,g4⟩:=pk_kind h2 hq h5
   have g5:=fr_kind hf (q:=q) (by rw [g2];exact h5)
   rw [g5] at g2 g3 g4
   refine ⟨_,eo,List.getElem?_eq_getElem hi,h3,h4,hq,zAt (fun hg=>?_),h5,by rw [h1];exact g1,g2,by rw [h1];exact g3,by rw [h1];exact g4⟩
   rw [hg] at g2
   have:(9:Nat) = kindE c.ins[i]:=g2
   omega
 have hout:∀ i,i < c.outs.length → ∃ eo v,c.outs[i]? = some eo ∧ (zBY (numb 0 c.outs) (zBr [c.res] (zAI (zAX c.outT) y)).2)[i]? = some (i,zAA (zAQ c y) i) ∧ zAA (zAQ c y) i = rowOf eo v ∧ v.t = eo.dat:=fun i hi=>by
   have h1:i < (zBY (numb 0 c.outs) (zBr [c.res] (zAI (zAX c.outT) y)).2).length:=by rw [← len_stRows];show i < (zAQ c y).length;rw [hlen];exact hi
   obtain ⟨eo,v,h2,h3,h4⟩:=unRows_types c.outs 0 _ htys i _ (List.getElem?_eq_getElem h1)
   have h5:zAA (zAQ c y) i = rowOf eo v:=by
     unfold zAQ
     rw [rowAt_stRows,List.getElem?_eq_getElem h1,h3]
   refine ⟨eo,v,h2,?_,h5,h4⟩
   rw [List.getElem?_eq_getElem h1,h3,h5,Nat.zero_add]
 have hkind:∀ i,i < c.outs.length → zAA (zAQ c y) i = .gone ∨ ∃ eo,c.outs[i]? = some eo ∧ zBn (zAA (zAQ c y) i) = kindE eo:=fun i hi=>by
   obtain ⟨eo,v,h1,h2,h3,h4⟩:=hout i hi
   rw [h3]
   rcases rowOf_kind eo v with h | h
   · exact .inl h
   · refine .inr ⟨eo,h1,?_⟩
     cases eo <;> first | exact h | exact h.elim
 have hpass:∀ i,i < c.ins.length → zAA (zAQ c y) i = .gone ∨ zBn (zAA (zAQ c y) i) = zBn (zAA s.rows (src ρ i)):=fun i hi=>by
   obtain ⟨ei,eo,h1,h2,h3,h4,h5,h6,h7,h8,h9,h10⟩:=hin i hi
   rcases hkind i (by omega) with h | ⟨eo',h11,h12⟩
   · exact .inl h
   · rw [h2] at h11
     have:=Option.some.inj h11;subst this
     rcases (okIO_kind h3).2 with h13 | h13
     · subst h13;exact .inl (kind_gone h12)
     · exact .inr (by rw [h12,h13,h8])
 have hpl:∀ i,i < c.ins.length → zAP (zAA (zAQ c y) i) = true → zCW (zAA (zAQ c y) i) = zCW (zAA s.rows (src ρ i)):=fun i hi hl=>by
   obtain ⟨ei,eo,h1,h2,h3,h4,h5,h6,h7,h8,h9,h10⟩:=hin i hi
   rw [hlens i hi hl,h9]
 have hplive:∀ i,i < c.ins.length → zAW (zAA (zAQ c y) i) = true → zAW (zAA s.rows (src ρ i)) = true:=fun i hi hl=>by
   rcases hpass i hi with h | h
   · rw [h] at hl;simp [zAW] at hl
   · exact kind_live h (hpl i hi) hl
 have hρ':∀ i,i < c.ins.length → ∃ q,zCD ρ i = some q ∧ q < s.rows.length:=fun i hi=>by
   obtain ⟨ei,eo,h1,h2,h3,h4,h5,_⟩:=hin i hi
   exact ⟨_,h4,h5⟩
 have hmo:∀ (i:Nat) (p:Nat × TRow),(zBY (numb 0 c.outs) (zBr [c.res] (zAI (zAX c.outT) y)).2)[i]? = some p → p.1 = 0 + i:=fun i p h=>by
   obtain ⟨eo,v,h2,h3,h4⟩:=unRows_types c.outs 0 _ htys i _ h
   rw [h3]
 have hlmo:(zBY (numb 0 c.outs) (zBr [c.res] (zAI (zAX c.outT) y)).2).length = c.outs.length:=by rw [← len_stRows];exact hlen
 obtain ⟨hbl,hba,hbo⟩:=back_at (d:=d) (τ:=locR ρ c.ins.length s.rows.length) hρ' hinj _ 0 s.rows hmo (by omega)
 rw [hlmo] at hbl hbo
 have hba:∀ i,i < c.outs.length → zAA (zBW d (locR ρ c.ins.length s.rows.length) ρ c.ins.length s.rows (zBY (numb 0 c.outs) (zBr [c.res] (zAI (zAX c.outT) y)).2)) (locR ρ c.ins.length s.rows.length i) = renRow (locR ρ c.ins.length s.rows.length) (zAA (zAQ c y) i) ∧ zAT (zBW d (locR ρ c.ins.length s.rows.length) ρ c.ins.length s.rows (zBY (numb 0 c.outs) (zBr [c.res] (zAI (zAX c.outT) y)).2)) (locR ρ c.ins.length s.rows.length i) = some d:=fun i hi=>by
   obtain ⟨eo,v,h1,h2,h3,h4⟩:=hout i hi
   have:=hba i _ h2
   rw [Nat.zero_add] at this
   exact this
 simp only [Nat.zero_add] at hbo hbl
 have hlocI:∀ i,i < c.ins.length → locR ρ c.ins.length s.rows.length i = src ρ i:=fun i hi=>by
   obtain ⟨q,h1,_⟩:=hρ' i hi
   rw [loc_lt hi,zAb h1,h1];rfl
 have hlocO:∀ i,c.ins.length ≤ i → locR ρ c.ins.length s.rows.length i = s.rows.length + (i - c.ins.length):=fun i hi=>loc_ge hi
 have hlocinj:∀ {i j:Nat},i ≠ j → locR ρ c.ins.length s.rows.length i ≠ locR ρ c.ins.length s.rows.length j:=fun h=>loc_inj hρ' hinj h
 generalize hτ:locR ρ c.ins.length s.rows.length = τ at *
 generalize hRb:zBW d τ ρ c.ins.length s.rows (zBY (numb 0 c.outs) (zBr [c.res] (zAI (zAX c.outT) y)).2) = Rb at *
 generalize hco:zAQ c y = co at *
 let num2:Nat → Nat:=fun r=>if r < s.rows.length then num r else num' (r - s.rows.length + c.ins.length)
 obtain ⟨ζ2,hz2,hz3⟩:∃ ζ2:Nat → Row,(∀ r,(∀ i,i < c.outs.length → τ i ≠ r) → ζ2 r = ζ r) ∧ ∀ i,i < c.outs.length → ζ2 (τ i) = ζ' i:=by
   classical
   refine ⟨fun r=>if h:∃ i,i < c.outs.length ∧ τ i = r then ζ' (Classical.choose h) else ζ r,fun r h=>?_,fun i hi=>?_⟩
   · show dite _ _ _ = _;rw [dif_neg];rintro ⟨i,h1,h2⟩;exact h i h1 h2
   · have hx:∃ j,j < c.outs.length ∧ τ j = τ i:=⟨i,hi,rfl⟩
     show dite _ _ _ = _;rw [dif_pos hx]
     have h2:=(Classical.choose_spec hx).2
     congr 1
     by_cases he:Classical.choose hx = i
     · exact he
     · exact absurd h2 (hlocinj he)
 have hn2:∀ r,r < s.rows.length → num2 r = num r:=fun r h=>if_pos h
 have hsrcl:∀ i,i < c.ins.length → src ρ i < s.rows.length:=fun i hi=>by
   obtain ⟨q,h1,h2⟩:=hρ' i hi
   rw [zAb h1];exact h2
 have hnl:∀ i,zAW (zAA co i) = true → num2 (τ i) = num' i:=fun i hl=>by
   rcases Nat.lt_or_ge i c.ins.length with h | h
   · rw [hlocI i h,hn2 _ (hsrcl i h),(hnum i hl).1 h]
   · rw [hlocO i h]
     show (if s.rows.length + (i - c.ins.length) < s.rows.length then _ else _) = _
     rw [if_neg (by omega)]
     congr 1;omega
 have hcol:∀ i,zAA co i ≠ .gone → i < c.outs.length:=fun i h=>by rw [← hlen];exact zAt h
 have hcase:∀ r,(∃ i,i < c.outs.length ∧ r = τ i) ∨ (zAA Rb r = zAA s.rows r ∧ zAT Rb r = zAT s.rows r ∧ ∀ i,i < c.outs.length → τ i ≠ r):=fun r=>by
   by_cases h:∃ i,i < c.outs.length ∧ r = τ i
   · exact .inl h
   · have h':∀ i,i < c.outs.length → τ i ≠ r:=fun i hi he=>h ⟨i,hi,he.symm⟩
     obtain ⟨h1,h2⟩:=hbo r h'
     exact .inr ⟨h1,h2,h'⟩
 have hle:RowsLe s.rows Rb:=⟨by rw [hbl];omega,fun r hrl hl=>by
   rcases hcase r with ⟨i,hi,rfl⟩ | ⟨h1,_⟩
   · rcases Nat.lt_or_ge i c.ins.length with h | h
     · rw [(hba i hi).1] at hl ⊢
       obtain ⟨k1,k2,k3,k4⟩:=ren_row_kind τ (zAA co i)
       rw [k2] at hl
       rw [k3,hlocI i h]
       rcases hpass i h with hg | hg
       · rw [hg] at hl;simp [zAP] at hl
       · exact ⟨kind_list hg hl,hpl i h hl⟩
     · rw [hlocO i h] at hrl;omega
   · rw [h1] at hl ⊢;exact ⟨hl,rfl⟩⟩
 have hchg:∀ r,r < s.rows.length → RefTl (num r) (zAA s.rows r) (num2 r) (zAA Rb r):=fun r hrl=>by
   rw [hn2 r hrl]
   rcases hcase r with ⟨i,hi,rfl⟩ | ⟨h1,_⟩
   · rcases Nat.lt_or_ge i c.ins.length with h | h
     · rw [(hba i hi).1]
       obtain ⟨k1,k2,k3,k4⟩:=ren_row_kind τ (zAA co i)
       obtain ⟨ei,eo,h1,h2,h3,h4,h5,h6,h7,h8,h9,h10⟩:=hin i h
       rw [hlocI i h]
       rcases hpass i h with hg | hg
       · rw [hg];exact RefTl.gone _ _ _
       · exact kind_ref (by rw [k1];exact hg) (by rw [h8];exact h6) (fun hl=>by rw [k3];exact hpl i h (by rw [← k2];exact hl))
     · rw [hlocO i h] at hrl;omega
   · rw [h1];exact RefTl.refl _ _
 have hlocl:∀ i,i < c.outs.length → τ i < Rb.length:=fun i hi=>by
   rw [hbl]
   rcases Nat.lt_or_ge i c.ins.length with h | h
   · rw [hlocI i h];have:=hsrcl i h;omega
   · rw [hlocO i h];omega
 have hren:=ren_ok (num:=num') (rows:=co) (num':=num2) (rows':=Rb) τ (fun r hrl=>by
     rw [(hba r (by rw [← hlen];exact hrl)).1]
     exact ren_same τ _ (hnl r)) (fun r hrl=>hlocl r (by rw [← hlen];exact hrl)) (fun r hrl hl=>by
     rw [(hba r (by rw [← hlen];exact hrl)).1] at hl ⊢
     obtain ⟨k1,k2,k3,k4⟩:=ren_row_kind τ (zAA co r)
     rw [k2] at hl;exact ⟨hl,k3⟩)
 have hseen:∀ r,zAW (zAA s.rows r) = true → (∀ i,i < c.outs.length → τ i ≠ r) → seen num ρ c.ins.length (zAn m) (num r) = false:=fun r hl hne=>by
   cases hs:seen num ρ c.ins.length (zAn m) (num r) with
   | false=>rfl
   | true =>
     obtain ⟨i,h1,h2,h3⟩:=seen_iff.1 hs
     obtain ⟨ei,eo,g1,g2,g3,g4,g5,g6,g7,g8,g9,g10⟩:=hin i h1
     have hi:src ρ i ≠ r:=by rw [← hlocI i h1];exact hne i (by omega)
     exact absurd h3 (hr.inj _ _ (by rw [← g10];exact h2) hl hi)
 have hgetO:∀ r,zAW (zAA s.rows r) = true → (∀ i,i < c.outs.length → τ i ≠ r) → (behind H H1 (seen num ρ c.ins.length (zAn m)) (left num' co)).get (num r) = H.get (num r):=fun r hl hne=>by
   rw [behind_get _ _ hH,if_pos ⟨live_lt hr hl,hseen r hl hne⟩]
 have hgetI:∀ i,zAW (zAA co i) = true → (behind H H1 (seen num ρ c.ins.length (zAn m)) (left num' co)).get (num' i) = H1.get (num' i):=fun i hl=>by
   rw [behind_get _ _ hH,if_neg,if_pos (left_iff.2 ⟨i,hl,rfl⟩)]
   rintro ⟨h1,h2⟩
   rcases Nat.lt_or_ge i c.ins.length with h | h
   · obtain ⟨ei,eo,g1,g2,g3,g4,g5,g6,g7,g8,g9,g10⟩:=hin i h
     have:seen num ρ c.ins.length (zAn m) (num' i) = true:=seen_iff.2 ⟨i,h,by rw [g10];exact hplive i h hl,((hnum i hl).1 h).symm⟩
     rw [this] at h2;cases h2
   · have:=(hnum i hl).2 h;omega
 have hfulld:c.mem = true → ∀ r row,H.get r = some row → ∃ row',(frH num s.rows rf H).get r = some row':=fun hcm r row hg=>by
   have:=hfull hcm;subst this
   by_cases hx:∃ q,zAW (zAA s.rows q) = true ∧ num q = r
   · obtain ⟨q,h1,rfl⟩:=hx
     rw [frH_live hr h1,if_pos h1,hg]
     split
     · exact ⟨_,rfl⟩
     · exact ⟨row,rfl⟩
   · rw [frH_other hr (fun q h1 h2=>hx ⟨q,h1,h2⟩)];exact ⟨row,hg⟩
 have hnm:c.mem = false → c.res.mem = false ∧ ∀ e ∈ c.outs,e.mem = false:=fun h=>by
   unfold Con.mem at h
   simp only [Bool.or_eq_false_iff,List.any_eq_false] at h
   exact ⟨h.1,fun e he=>by have:=h.2 e he;simpa using this⟩
 have hrowk:c.mem = false → ∀ r,zBn (zAA co r) = 1 ∨ zBn (zAA co r) = 2 ∨ zBn (zAA co r) = 9:=fun h r=>by
   rcases Nat.lt_or_ge r c.outs.length with hrl | hrl
   · rcases hkind r hrl with hg | ⟨eo,h1,h2⟩
     · rw [hg];exact .inr (.inr rfl)
     · have:=(hnm h).2 eo (List.mem_of_getElem? h1)
       rw [h2]
       cases eo <;> first | exact .inl rfl | exact .inr (.inl rfl) | exact .inr (.inr rfl) | cases this
   · rw [rowAt_ge _ _ (by rw [hlen];exact hrl)];exact .inr (.inr rfl)
 have hcres:zBQ c y = vres:=by unfold zBQ;rw [hv1]
 have hovr:Over H (frH num s.rows rf H) H1 (seen num ρ c.ins.length (zAn m)) (enc (zAB num' co) (zBQ c y)) (behind H H1 (seen num ρ c.ins.length (zAn m)) (left num' co)):=by
   refine ⟨by simp [behind],fun q row hg=>?_,?_⟩
   · rw [behind_get _ _ hH] at hg
     split at hg
     · rename_i h;exact .inl ⟨h.1,h.2,hg⟩
     · split at hg
       · rename_i h
         refine .inr ⟨hg,?_⟩
         cases hcm:c.mem with
         | true=>exact .inr (hfulld hcm)
         | false =>
           refine .inl ?_
           obtain ⟨i,h1,h2⟩:=left_iff.1 h
           have hil:=hcol i (by intro hgn;rw [hgn] at h1;simp [zAW] at h1)
           obtain ⟨eo,v,g1,g2,g3,g4⟩:=hout i hil
           have g5:=(hnm hcm).2 eo (List.mem_of_getElem? g1)
           have hRi:=hR.row i
           rw [g3] at hRi h1
           obtain ⟨tv,xv⟩:=v
           cases eo <;> first | (cases g5;done) | skip
           · rename_i t
             have g4:tv = .sl t:=g4
             subst g4
             obtain ⟨k1,k2⟩:=hRi
             rw [h2,hg] at k2
             have:=Option.some.inj k2;subst this
             exact e0_nomem (zCN k1) g5 _
           · rename_i t
             have g4:tv = .sl t:=g4
             subst g4
             obtain ⟨k1,k2⟩:=hRi
             have k3:xv ≠ []:=by
               intro hx
               have h1:zAW (.lst t xv) = true:=h1
               rw [hx] at h1;simp [zAW] at h1
             have k2:=k2 k3
             rw [h2,hg] at k2
             have:=Option.some.inj k2;subst this
             exact e0_nomem (zCN k1) g5 _
           · simp [rowOf,zAW] at h1
       · cases hg
   · cases hcm:c.mem with
     | true=>exact .inr (hfulld hcm)
     | false =>
       refine .inl ?_
       rw [hcres]
       exact (enc_nomem (hrowk hcm) vres.t vres.x (by rw [hv2];exact (hnm hcm).1)).1
 have hrb0:=hren (zBQ c y).t (zBQ c y).x hres
 refine ⟨behind H H1 (seen num ρ c.ins.length (zAn m)) (left num' co),ζ2,num2,hovr,step_of ha hchg hle ⟨fun r=>?_,fun r z h1 h2 hrz=>?_,fun r t x h=>?_⟩ (fun r hl=>?_) (by simp only [behind,List.length_map,List.length_range];exact hH) (fun r lv h1 h2=>?_) (Tl.of_eq hrb0.one.symm) hrb0.ok⟩
 · rcases hcase r with ⟨i,hi,rfl⟩ | ⟨h1,_,hne⟩
   · have hRi:=hR.row i
     rw [(hba i hi).1]
     have hgi:=hgetI i
     have hni:=hnl i
     have hki:=hkind i hi
     cases hrow:zAA co i with
     | one t x =>
       rw [hrow] at hRi hgi hni
       obtain ⟨g1,k,dd,g2,g3,g4⟩:=hRi
       have hx:=hren t x (hR.ok i t x hrow)
       obtain ⟨s1,s2⟩:=ren_shape τ t x
       refine ⟨s2 g1,k,dd,by rw [hni rfl,hgi rfl];exact g2,by rw [g3];exact s1.symm,?_⟩
       have e1:(zAs ⟨t,x⟩).map (enc (zAB num' co)) = (enc (zAB num' co) ⟨t,x⟩).cells:=(zBS _ _ _).symm
       have e2:(zAs ⟨(renV τ t x).t,(renV τ t x).x⟩).map (enc (zAB num2 Rb)) = (enc (zAB num2 Rb) (renV τ t x)).cells:=(zBS _ _ _).symm
       rw [e2,hx.one]
       rw [e1] at g4
       exact g4
     | many t l=>rw [hrow] at hRi hgi hni;exact ⟨hRi.1,by rw [hni rfl,hgi rfl];exact hRi.2⟩
     | lst t l =>
       rw [hrow] at hRi hgi hni
       refine ⟨hRi.1,fun hne=>?_⟩
       have hlv:zAW (.lst t l) = true:=by cases l <;> simp at hne ⊢ <;> rfl
       rw [hni hlv,hgi hlv];exact hRi.2 hne
     | fro t l=>rw [hrow] at hRi;exact hRi
     | fr1 t x=>rw [hrow] at hRi;exact hRi
     | mp a b l=>rw [hrow] at hRi hgi hni;simp only [renRow,zBu] at hRi ⊢;rw [hni rfl,hgi rfl,hz3 i hi];exact hRi
     | sit b p=>rw [hrow] at hRi hgi hni;simp only [renRow,zBu] at hRi ⊢;rw [hni rfl,hgi rfl];exact hRi
     | itb mm =>
       rcases hki with hg | ⟨eo,g1,g2⟩
       · rw [hrow] at hg;cases hg
       · rw [hrow] at g2;cases eo <;> simp [zBn,kindE] at g2
     | ite mm a b x y =>
       rcases hki with hg | ⟨eo,g1,g2⟩
       · rw [hrow] at hg;cases hg
       · rw [hrow] at g2;cases eo <;> simp [zBn,kindE] at g2
     | gone=>trivial
   · rcases Nat.lt_or_ge r s.rows.length with hrl | hrl
     · refine row_keep (hr.row r) (fun t x hx=>hr.ok r t x hx) h1 (hn2 r hrl) (hz2 r hne) (fun hl=>hgetO r hl hne) (fun mm a b l hmm hit=>?_) hchg
       have hml:mm < s.rows.length:=zAt (by rw [hmm];simp)
       have hmne:∀ i,i < c.outs.length → τ i ≠ mm:=fun i hi he=>by
         rcases Nat.lt_or_ge i c.ins.length with h | h
         · obtain ⟨ei,eo,g1,g2,g3,g4,g5,g6,g7,g8,g9,g10⟩:=hin i h
           rw [hlocI i h] at he
           rw [he,hmm] at g8
           have hk:kindE ei = 3:=g8.symm
           cases ei <;> simp [kindE] at hk
           obtain ⟨q,k1,k2⟩:=noIters_at hno i _ _ g1
           rw [Nat.zero_add,g4] at k1
           have:=Option.some.inj k1
           obtain ⟨z,hz⟩:=hit
           exact set_stepZ.iter_absurd s.rows mm z (by rw [← he,this];exact k2) hz
         · rw [hlocO i h] at he;omega
       exact ⟨by rw [(hbo mm hmne).1];exact hmm,hn2 mm hml,hgetO mm (by rw [hmm];rfl) hmne⟩
     · rw [h1,rowAt_ge _ _ hrl];trivial
 · have cls:∀ r,zAW (zAA Rb r) = true → (∃ i,i < c.outs.length ∧ r = τ i ∧ zAW (zAA co i) = true ∧ num2 r = num' i ∧ (i < c.ins.length → zAW (zAA s.rows r) = true ∧ num2 r = num r)) ∨ (zAW (zAA s.rows r) = true ∧ num2 r = num r ∧ ∀ i,i < c.outs.length → τ i ≠ r):=fun r hl=>by
     rcases hcase r with ⟨i,hi,rfl⟩ | ⟨h1,_,hne⟩
     · rw [(hba i hi).1,(ren_row_kind τ (zAA co i)).2.2.2] at hl
       refine .inl ⟨i,hi,rfl,hl,hnl i hl,fun h=>⟨by rw [hlocI i h];exact hplive i h hl,by rw [hlocI i h];exact hn2 _ (hsrcl i h)⟩⟩
     · rw [h1] at hl
       exact .inr ⟨hl,hn2 r (zAt (live_row hl)),hne⟩
   rcases cls r h1 with ⟨i,a1,a2,a3,a4,a5⟩ | ⟨a1,a2,a3⟩ <;> rcases cls z h2 with ⟨j,b1,b2,b3,b4,b5⟩ | ⟨b1,b2,b3⟩
   · rw [a4,b4]
     exact hR.inj i j a3 b3 (by intro hij;subst hij;rw [a2,b2] at hrz;exact hrz rfl)
   · rcases Nat.lt_or_ge i c.ins.length with h | h
     · obtain ⟨a6,a7⟩:=a5 h
       rw [a7,b2];exact hr.inj r z a6 b1 hrz
     · rw [a4,b2]
       have:=(hnum i a3).2 h
       have:=live_lt hr b1
       omega
   · rcases Nat.lt_or_ge j c.ins.length with h | h
     · obtain ⟨b6,b7⟩:=b5 h
       rw [a2,b7];exact hr.inj r z a1 b6 hrz
     · rw [a2,b4]
       have:=(hnum j b3).2 h
       have:=live_lt hr a1
       omega
   · rw [a2,b2];exact hr.inj r z a1 b1 hrz
 · rcases hcase r with ⟨i,hi,rfl⟩ | ⟨h1,_,hne⟩
   · rw [(hba i hi).1] at h
     cases hrow:zAA co i <;> rw [hrow] at h <;> first | (cases h;done) | skip
     rename_i t0 x0
     have hx:=(hren t0 x0 (hR.ok i t0 x0 hrow)).ok
     cases h
     exact hx
   · rw [h1] at h;exact zCf hle t x (hr.ok r t x h)
 · rcases hcase r with ⟨i,hi,rfl⟩ | ⟨h1,_,hne⟩
   · rw [(hba i hi).1,(ren_row_kind τ (zAA co i)).2.2.2] at hl
     rcases Nat.lt_or_ge i c.ins.length with h | h
     · rw [hlocI i h,hn2 _ (hsrcl i h)];exact ha.base _ (hplive i h hl)
     · rw [hnl i hl,hlocO i h]
       have:=ha.klen
       have:=(hnum i hl).2 h
       have:=ha.hlen
       exact ⟨fun h'=>by omega,fun _=>by omega⟩
   · rw [h1] at hl
     rw [hn2 r (zAt (live_row hl))];exact ha.base r hl
 · rcases hcase r with ⟨i,hi,rfl⟩ | ⟨h3,h4,hne⟩
   · rw [(hba i hi).2] at h1;have:=Option.some.inj h1;omega
   · rw [h4] at h1
     have hrl:r < s.rows.length:=by
       rcases Nat.lt_or_ge r s.rows.length with h | h
       · exact h
       · rw [stampAt_ge _ _ h] at h1;cases h1
     exact ⟨h1,h3,hn2 r hrl,hz2 r hne⟩
end
end Go.T
namespace Go.T
open Go.Ab
variable [Go.Ab.DM]
section
variable {P:Program} {Γ:List Con} {B:Base} {ζ ζ':Nat → Row} {num num':Nat → Nat} {s:St} {e:Env} {H H1:Heap} {ρ:List (Nat × Nat)} {isL:Nat → Bool} {rf crows:Rows}
theorem FrStep.refl (rows:Rows):FrStep rows rows:=⟨rfl,fun _=>.inl rfl⟩
theorem args_told (hp:PRel ρ isL num rf num' crows) {ts:List Ty} {vs us:List TV} (h:Packed ρ isL rf ts vs us) (hok:∀ v ∈ vs,okV rf v):Tls (vs.map (enc (zAB num rf))) (us.map (enc (zAB num' crows))) ∧ ((∀ t ∈ ts,∀ z ∈ t.refs,z < crows.length) → ∀ u ∈ us,okV crows u):=by
 induction h with
 | nil=>exact ⟨.nil,fun _ u hu=>by simp at hu⟩
 | cons h1 h2 ih =>
   obtain ⟨g1,g2⟩:=ih fun v hv=>hok v (List.mem_cons_of_mem _ hv)
   have g:=packV_told hp _ _ _ (hok _ (List.mem_cons_self ..)) h1
   refine ⟨.cons g.one g1,fun hr u hu=>?_⟩
   rcases List.mem_cons.1 hu with rfl | hu
   · exact g.ok (hr _ (List.mem_cons_self ..))
   · exact g2 (fun t ht=>hr t (List.mem_cons_of_mem _ ht)) u hu
theorem fr_rels {own:Nat → Own} {X:Nat → Prop} {w:World} (hs:Sim own H X w) (hr:HRel ζ num s.rows H) (hf:FrStep s.rows rf):∀ {vs:List TV},(∀ v ∈ vs,okV s.rows v) → ∀ {l:List Value},zCE own H X w (vs.map (enc (zAB num s.rows))) l → zCE own (frH num s.rows rf H) X w (vs.map (enc (zAB num rf))) l
 | [],_,l,h=>by simpa [zCE,VRels] using h
 | v :: vs,hok,l,h=>by
   simp only [List.map_cons,zCE,VRels] at h ⊢
   obtain ⟨x,xs,h1,h2,h3⟩:=h
   exact ⟨x,xs,h1,fr_rel hs hr hf (t:=v.t) (x:=v.x) (hok v (List.mem_cons_self ..)) h2,fr_rels hs hr hf (fun u hu=>hok u (List.mem_cons_of_mem _ hu)) h3⟩
structure Fit (c:Con) (rows rf:Rows) (ρ:List (Nat × Nat)) (x:(zAX c.inT).I) (args:List TV):Prop where
 hargs:∃ us,Packed ρ (fun _=>false) rf c.as args us ∧ zBD c x = us
 hrows:∃ m,PkRows ρ (fun _=>false) rf (numb 0 c.ins) m ∧ zBh c x = zAn m
 some:∀ i,i < c.ins.length → ∃ q,zCD ρ i = some q
 inj:∀ i j,i < c.ins.length → j < c.ins.length → i ≠ j → src ρ i ≠ src ρ j
 slots:slotsBelow c.ins.length c.as = true
 below:rowsBelowT c.ins.length (numb 0 c.ins) = true
 io:okIOs c.ins c.outs = true
 noit:noIters rows ρ (numb 0 c.ins) = true
 sp:(c.outT.all fun t=>!t.sp) = true
theorem call_core {d:Nat} {c:Con} {x:(zAX c.inT).I} {args:List TV} (ha:Abs B ζ num s e H) (hf:FrStep s.rows rf) (hok:zAu P c) (hargs:∀ v ∈ args,okV s.rows v)
   (ft:Fit c s.rows rf ρ x args) (hy:∃ y,c.Q x y) (hfull:c.mem = true → rf = s.rows) {C:D → Heap → Prop}
   (hC:∀ y,c.Q x y → ∀ dd H' ζ2 num2,Step B d ζ num s e dd H' (renV (locR ρ c.ins.length s.rows.length) (zBQ c y).t (zBQ c y).x)
      { s with rows:=zBW d (locR ρ c.ins.length s.rows.length) ρ c.ins.length s.rows (zBY (numb 0 c.outs) (zBr [c.res] (zAI (zAX c.outT) y)).2) } ζ2 num2 H' → C dd H') :
   Sound P c.f (args.map (enc (zAB num s.rows))) H C ∧ (c.ins = [] → SoundK P c.f (args.map (enc (zAB num s.rows))) H C):=by
 have hr:=ha.hrel
 obtain ⟨us,hus,hx1⟩:=ft.hargs
 obtain ⟨m,hm,hx2⟩:=ft.hrows
 have hml:(zAn m).length = c.ins.length:=by rw [len_stRows,hm.len,numb_len]
 have hT:∀ r,Tgt ρ (fun _=>false) rf (zAn m) r (zAA (zAn m) r):=fun r=>by
   have h:=hm.at r
   split at h
   · obtain ⟨row,h1,_,h2⟩:=h
     rw [Nat.zero_add] at h2
     rw [h1];exact .pk h2
   · rw [h];exact .gone
 have hnul:∀ r,zCD ρ r = none → (fun _:Nat=>false) r = true → ∃ t,zAA (zAn m) r = .lst t []:=fun r _ h=>by cases h
 have hrefs:∀ r t y,zAA (zAn m) r = .one t y → ∀ z ∈ t.refs,z < (zAn m).length:=fun r t y hrow z hz=>by
   rw [hml]
   have h:=hm.at r
   split at h
   · rename_i ei hei
     obtain ⟨row,h1,_,h2⟩:=h
     rw [h1] at hrow
     subst hrow
     cases h2
     refine rowsBelow_at ft.below r _ ?_ z hz
     have:∀ (l:List RTy) (n i:Nat) (e:RTy),l[i]? = some e → (n + i,e) ∈ numb n l:=by
       intro l
       induction l with
       | nil=>intro n i e h;simp at h
       | cons a l ih =>
         intro n i e h
         cases i with
         | zero=>have:=Option.some.inj h;subst this;exact List.mem_cons_self ..
         | succ i=>have:=ih (n + 1) i e h;rw [show n + 1 + i = n + (i + 1) by omega] at this;exact List.mem_cons_of_mem _ this
     have h3:=this c.ins 0 r _ hei
     rw [Nat.zero_add] at h3;exact h3
   · rw [h] at hrow;cases hrow
 have hlt:∀ r,zAW (zAA (zAn m) r) = true → r < c.ins.length:=fun r hl=>by rw [← hml];exact zAt (live_row hl)
 have hfr:=fr_hrel hr hf
 have hp:=tgt_prel (num:=num) hT hnul
 have hR:=tgt_hrel hfr hT hnul hrefs fun r z h1 h2 hne=>ft.inj r z (hlt r h1) (hlt z h2) hne
 have hR':HRel (fun r=>ζ (src ρ r)) (fun r=>num (src ρ r)) (zAn m) (maskH (seen num ρ c.ins.length (zAn m)) (frH num s.rows rf H)):=hrel_get hR fun r hl=>by
   rw [mask_get,if_pos (seen_iff.2 ⟨r,hlt r hl,hl,rfl⟩)]
 have hargsf:∀ v ∈ args,okV rf v:=fun v hv=>zCf (fr_le hf) _ _ (hargs v hv)
 obtain ⟨ht,hto⟩:=args_told hp hus hargsf
 have hokA:=hto fun t ht z hz=>by rw [hml];exact slotsBelow_at ft.slots t ht z hz
 have hS:=hok x hy _ _ (maskH (seen num ρ c.ins.length (zAn m)) (frH num s.rows rf H)) (by rw [hx2];exact hR') (by rw [hx1,hx2];exact hokA)
 rw [hx1,hx2] at hS
 have hrel:∀ own X w,Sim own H X w → Sim own (frH num s.rows rf H) X w ∧ ∀ vs,zCE own H X w (args.map (enc (zAB num s.rows))) vs → zCE own (frH num s.rows rf H) X w (us.map (enc (zAB (fun r=>num (src ρ r)) (zAn m)))) vs :=
   fun own X w hs=>⟨fr_sim hs hr hf,fun vs hv=>ht.vrels (fr_rels hs hr hf hargs hv)⟩
 have hpost:∀ dd H1,(maskH (seen num ρ c.ins.length (zAn m)) (frH num s.rows rf H)).length ≤ H1.length → (∃ y,c.Q x y ∧ ∃ ζ' num',HRel ζ' num' (zAQ c y) H1 ∧ dd = enc (zAB num' (zAQ c y)) (zBQ c y) ∧ okV (zAQ c y) (zBQ c y) ∧
     (∀ r,zAW (zAA (zAQ c y) r) = true → (r < c.ins.length → num' r = num (src ρ r)) ∧ (c.ins.length ≤ r → (maskH (seen num ρ c.ins.length (zAn m)) (frH num s.rows rf H)).length ≤ num' r)) ∧ ∀ r,r < c.ins.length → zAP (zAA (zAQ c y) r) = true → zCW (zAA (zAQ c y) r) = zCW (zAA (zAn m) r)) →
     ∃ H2,Over H (frH num s.rows rf H) H1 (seen num ρ c.ins.length (zAn m)) dd H2 ∧ C dd H2:=by
   rintro dd H1 hl ⟨y,hQ,ζ',num',g1,rfl,g2,g3,g4⟩
   rw [mask_len,frH_len] at hl g3
   obtain ⟨H2,ζ2,num2,k1,k2⟩:=call_rows (d:=d) ha hf hm ft.some ft.inj ft.io ft.noit ft.sp g1 g2 g3 g4 hl hfull
   exact ⟨H2,k1,hC y hQ _ _ _ _ k2⟩
 refine ⟨Sound.hide hS (frH_len _ _ _ _) (fun r row h=>frH_sub hr h) hrel hpost,fun hins=>Sound.hideK (fun r=>?_) hS (frH_len _ _ _ _) (fun r row h=>frH_sub hr h) hrel hpost⟩
 cases hs:seen num ρ c.ins.length (zAn m) r with
 | false=>rfl
 | true =>
   obtain ⟨i,h1,_⟩:=seen_iff.1 hs
   rw [hins] at h1;exact absurd h1 (Nat.not_lt_zero _)
theorem getNs_spec:∀ (n i:Nat),(getNs ρ i n).length ≤ n ∧ ((getNs ρ i n).length = n → ∀ j,j < n → ∃ q,zCD ρ (i + j) = some q ∧ (getNs ρ i n)[j]? = some q)
 | 0,i=>⟨by simp [getNs],fun _ j h=>absurd h (Nat.not_lt_zero _)⟩
 | n + 1,i=>by
   obtain ⟨h1,h2⟩:=getNs_spec n (i + 1)
   simp only [getNs]
   cases hg:zCD ρ i with
   | none=>exact ⟨by simp;omega,fun h=>by simp at h;omega⟩
   | some q =>
     refine ⟨by simp;omega,fun h j hj=>?_⟩
     simp at h
     cases j with
     | zero=>exact ⟨q,hg,rfl⟩
     | succ j =>
       obtain ⟨q',h3,h4⟩:=h2 h j (by omega)
       exact ⟨q',by rw [show i + (j + 1) = i + 1 + j by omega];exact h3,h4⟩
theorem distinct_at:∀ {l:List Nat},distinct l = true → ∀ (i j:Nat) (a b:Nat),l[i]? = some a → l[j]? = some b → i ≠ j → a ≠ b
 | [],_,i,j,a,b,h,_,_=>by simp at h
 | z :: l,hd,i,j,a,b,hi,hj,hne=>by
   simp only [distinct,Bool.and_eq_true] at hd
   have hz:=not_used hd.1
   cases i with
   | zero =>
     cases j with
     | zero=>exact absurd rfl hne
     | succ j =>
       have:=Option.some.inj hi;subst this
       intro hab;subst hab
       exact hz (List.mem_of_getElem? (l:=l) hj)
   | succ i =>
     cases j with
     | zero =>
       have:=Option.some.inj hj;subst this
       intro hab;subst hab
       exact hz (List.mem_of_getElem? (l:=l) hi)
     | succ j=>exact distinct_at hd.2 i j a b hi hj (by omega)
theorem fitCon_fit {d:Nat} {c:Con} {args:List TV} {rows:Rows} {q:Got c} (h:fitCon d c rows args = some q):Fit c rows (zAk d q.fz 0 rows) q.ρ q.x args:=by
 unfold fitCon at h
 obtain ⟨hb,h⟩:=zAa h
 simp only [Bool.and_eq_true,Nat.beq_eq] at hb
 obtain ⟨⟨⟨⟨⟨⟨h1,h2⟩,h3⟩,h4⟩,h5⟩,h6⟩,h7⟩:=hb
 split at h
 rotate_left
 · cases h
 rename_i a b hpa hpb
 split at h
 rotate_left
 · cases h
 rename_i x hx
 have:=Option.some.inj h;subst this
 dsimp only
 have hl:=packAll_leaves hx
 obtain ⟨us,hu1,hu2⟩:=packVals_un hpa
 obtain ⟨m,hm1,hm2⟩:=packRows_un hpb
 have hsome:=(getNs_spec (ρ:=uniRows rows (uniL c.as args) (numb 0 c.ins)) c.ins.length 0).2 h2
 refine ⟨⟨us,hu1,?_⟩,⟨m,hm1,?_⟩,fun i hi=>?_,fun i j hi hj hne=>?_,h3,h4,h5,h6,h7⟩
 · unfold zBD;rw [hl,hu2]
 · unfold zBh;rw [hl,hu2];dsimp only;rw [hm2]
 · obtain ⟨q,g1,_⟩:=hsome i hi
   rw [Nat.zero_add] at g1;exact ⟨q,g1⟩
 · obtain ⟨q,g1,g2⟩:=hsome i hi
   obtain ⟨q',g3,g4⟩:=hsome j hj
   rw [Nat.zero_add] at g1 g3
   rw [zAb g1,zAb g3]
   exact distinct_at h1 i j q q' g2 g4 hne
theorem findCon_mem {d:Nat} {f:FuncId} {rows:Rows} {args:List TV}:∀ {Γ:List Con} {c:Con} {q:Got c},findCon d f rows args Γ = some ⟨c,q⟩ → c ∈ Γ ∧ c.f = f ∧ fitCon d c rows args = some q
 | [],c,q,h=>by cases h
 | a :: Γ,c,q,h=>by
   simp only [findCon] at h
   cases hb:Nat.beq a.f f with
   | false =>
     rw [hb,cond_false] at h
     obtain ⟨h1,h2,h3⟩:=findCon_mem h
     exact ⟨List.mem_cons_of_mem _ h1,h2,h3⟩
   | true =>
     rw [hb,cond_true] at h
     rw [Nat.beq_eq] at hb
     split at h
     · rename_i x hx
       have:=Option.some.inj h
       cases this
       exact ⟨List.mem_cons_self ..,hb,hx⟩
     · obtain ⟨h1,h2,h3⟩:=findCon_mem h
       exact ⟨List.mem_cons_of_mem _ h1,h2,h3⟩
end
end Go.T
namespace Go.T
open Go.Ab
variable [Go.Ab.DM]
section
variable {P:Program} {Γ:List Con} {B:Base} {ζ ζ':Nat → Row} {num num':Nat → Nat} {s:St} {e:Env} {H H1:Heap} {R:Type} {r:R}
def kd (dr:Bool) (o:Oper):OpKind:=bif dr && isCall o then .keep else zAE o
theorem fit_fr {c:Con} {rows rf:Rows} {ρ:List (Nat × Nat)} {x:(zAX c.inT).I} {args:List TV} (h:Fit c rows rf ρ x args) (hf:FrStep rows rf):Fit c rf rf ρ x args:=by
 obtain ⟨h1,h2,h3,h4,h5,h6,h7,h8,h9⟩:=h
 refine ⟨h1,h2,h3,h4,h5,h6,h7,?_,h9⟩
 have:∀ (l:List RTy) (n:Nat),noIters rows ρ (numb n l) = true → noIters rf ρ (numb n l) = true:=by
   intro l
   induction l with
   | nil=>intro n h;exact h
   | cons e l ih =>
     intro n h
     cases e with
     | mp a b =>
       simp only [numb,noIters,Bool.and_eq_true] at h ⊢
       refine ⟨?_,ih _ h.2⟩
       have h1:=h.1
       split at h1
       · exact noIter_fr hf h1
       · cases h1
     | _=>exact ih _ (by simpa only [numb,noIters] using h)
 exact this _ _ h8
theorem callQ_some {A:Type} {p:A → Prop} {k:A → Option R} (h:callQ p k = some r):(∃ a,p a) ∧ ∀ a,p a → k a = some r:=by
 unfold callQ at h
 split at h
 · rename_i hx
   have h2:=Classical.choose_spec hx.2
   rw [Option.some.inj h] at h2
   exact ⟨hx.1,h2⟩
 · cases h
theorem leaves_ok {rows:Rows} (t:Ty) (x:t.I) (h:okT rows t x):∀ v ∈ zAI t x,okV rows v:=(ok_leaves t x).1 h
theorem backT_eq {d:Nat} {c:Con} {q:Got c} {s:St} {y:(zAX c.outT).I} (hsp:(c.outT.all fun t=>!t.sp) = true):backT d c q s y = (renV (locR q.ρ c.ins.length s.rows.length) (zBQ c y).t (zBQ c y).x,
   { s with rows:=zBW d (locR q.ρ c.ins.length s.rows.length) q.ρ c.ins.length (bif c.mem then zAk d q.fz 0 s.rows else s.rows) (zBY (numb 0 c.outs) (zBr [c.res] (zAI (zAX c.outT) y)).2) }):=by
 obtain ⟨_,vres,hv1,_⟩:=out_types hsp y
 unfold backT zBQ
 dsimp only
 rw [hv1]
theorem callT_sound {dr:Bool} {d:Nat} {g:Option Bool} (hΓ:∀ c ∈ Γ,zAu P c) (ha:Abs B ζ num s e H) {c:List (Nat × Bool)} (hh:zAw s.gs c = true) (hg:g = none ∨ g = some true) {o:Oper} (hcall:isCall o = true) {k:TV → St → Option R} (h:heapT P Γ dr d g c s o k = some r) {C:Env → D → Heap → Prop}
   (hC:∀ e1 v s' ζ' num' dd H' H'',k v s' = some r → Step B d ζ num s e1 dd H' v s' ζ' num' H'' → C e1 dd H'):∃ e1 H1,(WeakS e H e1 H1 ∧ ∃ rf,e1 = zCh num { s with rows:=rf }) ∧ zCw P (kd dr o) o e1 H1 (C e1):=by
 obtain ⟨dst,op,ty,pos,after,guard⟩:=o
 cases op <;> first | (cases hcall;done) | skip
 rename_i cl
 obtain ⟨f,args,ts⟩:=cl
 cases f <;> first | (cases hcall;done) | skip
 rename_i f
 simp only [heapT] at h
 have hng:∀ {x:Option R},notG g x = some r → False:=fun h=>by rcases hg with rfl | rfl <;> cases h
 split at h
 rotate_left
 · exact (hng h).elim
 rename_i q ta tb yv l hfv hl
 split at h
 rotate_left
 · exact (hng h).elim
 rename_i con x hfind
 obtain ⟨hb,h⟩:=zAa h
 have h:(∃ y:(zAX con.outT).I,con.Q x.x y) ∧ ∀ y,con.Q x.x y → k (backT d con x s y).1 (backT d con x s y).2 = some r:=by
   unfold Con.Q
   cases hq:con.q with
   | none =>
     rw [hq] at h
     dsimp only at h ⊢
     have h':call (con.F x.x) (fun y=>k (backT d con x s y).1 (backT d con x s y).2) = some r:=by rcases hg with rfl | rfl <;> exact h
     unfold call at h'
     cases hF:con.F x.x with
     | none=>rw [hF] at h';cases h'
     | some y=>rw [hF] at h';exact ⟨⟨y,rfl⟩,fun y' hy'=>by cases hy';exact h'⟩
   | some q =>
     rw [hq] at h
     dsimp only at h ⊢
     rcases hg with rfl | rfl
     · exact callQ_some h
     · cases h
 obtain ⟨hy,hk⟩:=h
 have hdr:dr = true → con.ins = []:=fun hdr=>by
   subst hdr
   rcases hg with rfl | rfl
   · simpa using hb
   · simp only [Bool.and_eq_true] at hb;exact List.isEmpty_iff.1 hb.1
 obtain ⟨hmem,hf,hfit⟩:=findCon_mem hfind
 have hfit:=fitCon_fit hfit
 have hok:=hΓ con hmem
 have core:∀ (s1:St) (e1:Env) (H1:Heap) (rf:Rows),s1.env = s.env → s1.gs = s.gs → Abs B ζ num s1 e1 H1 → FrStep s1.rows rf → Fit con s1.rows rf x.ρ x.x (zAI ta yv.1 ++ l ++ zAI tb yv.2) → (con.mem = true → rf = s1.rows) →
     (∀ y,con.Q x.x y → ∀ dd H' ζ2 num2,Step B d ζ num s1 e1 dd H' (renV (locR x.ρ con.ins.length s1.rows.length) (zBQ con y).t (zBQ con y).x)
       { s1 with rows:=zBW d (locR x.ρ con.ins.length s1.rows.length) x.ρ con.ins.length s1.rows (zBY (numb 0 con.outs) (zBr [con.res] (zAI (zAX con.outT) y)).2) } ζ2 num2 H' → C e1 dd H') →
     zCw P (kd dr ⟨dst,.call ⟨.value f,args,ts⟩,ty,pos,after,guard⟩) ⟨dst,.call ⟨.value f,args,ts⟩,ty,pos,after,guard⟩ e1 H1 (C e1):=fun s1 e1 H1 rf h1 h2 ha1 hf1 ft hfull hstep=>by
   have hh1:zAw s1.gs c = true:=by rw [h2];exact hh
   obtain ⟨g1,g2⟩:=zAM ha1 hh1 (by rw [h1];exact hfv)
   obtain ⟨g3,g4⟩:=zCP ha1 hh1 (by rw [h1];exact hl)
   have hargs:∀ v ∈ zAI ta yv.1 ++ l ++ zAI tb yv.2,okV s1.rows v:=fun v hv=>by
     rcases List.mem_append.1 hv with hv | hv
     · rcases List.mem_append.1 hv with hv | hv
       · exact leaves_ok ta yv.1 g2.1 v hv
       · exact g4 v hv
     · exact leaves_ok tb yv.2 g2.2 v hv
   obtain ⟨k1,k2⟩:=call_core (d:=d) ha1 hf1 hok hargs ft hy hfull hstep
   have he:ev e1 f = .fn (.func q) ((zAI ta yv.1).map (enc (zAB num s1.rows))) ((zAI tb yv.2).map (enc (zAB num s1.rows))):=by
     rw [g1]
     show D.fn (.func q) (E ta _ yv.1).2 (E tb _ yv.2).2 = _
     rw [E_leaves,E_leaves]
   rw [hf,List.map_append,List.map_append,← g3] at k1 k2
   cases hdrv:dr with
   | true =>
     show aCallK P (ev e1 f) (args.toList.map (ev e1)) H1 (C e1)
     rw [he]
     exact .inl (k2 (hdr hdrv))
   | false =>
     show aCallW P (ev e1 f) (args.toList.map (ev e1)) H1 (C e1)
     rw [he]
     exact .inl k1
 cases hcm:con.mem with
 | false =>
   refine ⟨e,H,⟨WeakS.refl _ _,s.rows,ha.env⟩,core s e H _ rfl rfl ha (zBg d x.fz s.rows) hfit (fun h=>by rw [hcm] at h;cases h) fun y hQ dd H' ζ2 num2 st=>hC _ _ _ ζ2 num2 dd H' H' (hk y hQ) ?_⟩
   rw [backT_eq hfit.sp,hcm]
   exact st
 | true =>
   obtain ⟨ha1,hw1⟩:=fr_abs ha (zBg d x.fz s.rows)
   have hle1:=fr_Le (ζ:=ζ) (num:=num) (s:=s) d x.fz
   refine ⟨_,_,⟨hw1,_,rfl⟩,core { s with rows:=zAk d x.fz 0 s.rows } _ _ (zAk d x.fz 0 s.rows) rfl rfl ha1 (FrStep.refl _) (fit_fr hfit (zBg d x.fz s.rows)) (fun _=>rfl) fun y hQ dd H' ζ2 num2 st=>hC _ _ _ ζ2 num2 dd H' H' (hk y hQ) ?_⟩
   have st:=st.pre (ζ:=ζ) (num:=num) (s:=s) (fun _=>Tl.refl _) hle1 rfl rfl
   dsimp only at st
   rw [freeze_len] at st
   rw [backT_eq hfit.sp,hcm]
   exact st
end
end Go.T
namespace Go.T
open Go.Ab
variable [Go.Ab.DM]
section
variable {P:Program} {Γ:List Con} {B:Base} {ζ ζ':Nat → Row} {num num':Nat → Nat} {s:St} {e:Env} {H H1:Heap} {R:Type} {r:R}
theorem band_eq (a b:Bool):band a b = (a && b):=by cases a <;> cases b <;> rfl
theorem bnot_eq (a:Bool):zCQ a = !a:=by cases a <;> rfl
theorem gB_spec (gs:List (Nat × Bool)):∀ (c:List (Nat × Bool)),(gB gs c = none ∧ c = []) ∨ gB gs c = some (zAw gs c)
 | []=>.inl ⟨rfl,rfl⟩
 | (n,w) :: l=>by
   refine .inr ?_
   simp only [gB]
   cases hg:getG gs n with
   | none =>
     have:zAw gs ((n,w) :: l) = false:=by
       unfold zAw
       rw [List.all_cons]
       dsimp only
       rw [hg];rfl
     rw [this]
   | some b =>
     have hc:zAw gs ((n,w) :: l) = ((b == w) && zAw gs l):=by
       unfold zAw
       rw [List.all_cons]
       dsimp only
       rw [hg]
     rw [hc]
     rcases gB_spec gs l with ⟨h1,h2⟩ | h1
     · subst h2;rw [h1]
       have:zAw gs [] = true:=rfl
       rw [this]
       cases w <;> cases b <;> rfl
     · rw [h1]
       dsimp only
       rw [band_eq]
       cases w <;> cases b <;> simp [bnot_eq]
structure GOk (d:Nat) (s:St):Prop where
 c:∀ n ent,zAl s.env n = some ent → ∀ p ∈ ent.c,∃ b,getG s.gs p.1 = some b
 lv:∀ n ent,zAl s.env n = some ent → ent.c ≠ [] → d ≤ ent.lv
structure Plain (s:St):Prop where
 gs:s.gs = []
 c:∀ n ent,zAl s.env n = some ent → ent.c = []
theorem Plain.gok (h:Plain s) (d:Nat):GOk d s:=⟨fun n ent hf p hp=>(by rw [h.c n ent hf] at hp;cases hp),fun n ent hf hc=>absurd (h.c n ent hf) hc⟩
theorem holds_cons {gs:List (Nat × Bool)} {n:Nat} {b:Bool} (hn:getG gs n = none) {c:List (Nat × Bool)} (hc:∀ p ∈ c,∃ b,getG gs p.1 = some b):zAw ((n,b) :: gs) c = zAw gs c:=by
 unfold zAw
 rw [Bool.eq_iff_iff,List.all_eq_true,List.all_eq_true]
 have:∀ p ∈ c,getG ((n,b) :: gs) p.1 = getG gs p.1:=fun p hp=>by
   obtain ⟨b',hb⟩:=hc p hp
   simp only [getG]
   cases he:Nat.beq n p.1 with
   | false=>rfl
   | true=>rw [Nat.beq_eq] at he;rw [he] at hn;rw [hn] at hb;cases hb
 exact ⟨fun h p hp=>by rw [← this p hp];exact h p hp,fun h p hp=>by rw [this p hp];exact h p hp⟩
theorem regG_sound {d:Nat} (ha:Abs B ζ num s e H) (hgo:GOk d s) {n:Nat} {s1:St} {c:List (Nat × Bool)} (h:regG s n = some (s1,c)) :
   Abs B ζ num s1 e H ∧ GOk d s1 ∧ Le d ζ num s ζ num s1 ∧ s1.rows = s.rows ∧ s1.env = s.env ∧ ∃ b a lv,getG s1.gs n = some b ∧ zAl s.env n = some ⟨a,lv,c,⟨.bool,b⟩⟩ ∧ (∀ p ∈ c,∃ b,getG s1.gs p.1 = some b) ∧ ∀ c',(∀ p ∈ c',∃ b,getG s.gs p.1 = some b) → zAw s1.gs c' = zAw s.gs c':=by
 unfold regG at h
 split at h
 rotate_left
 · cases h
 rename_i a lv c0 b hf
 split at h
 · rename_i b' hg
   have h:=Option.some.inj h
   obtain ⟨h1,h2⟩:=Prod.mk.inj h
   subst h1;subst h2
   obtain ⟨a2,lv2,c2,hf2⟩:=ha.gs n b' hg
   rw [hf] at hf2
   have hf2:=Option.some.inj hf2
   have hbb:(⟨.bool,b⟩:TV) = ⟨.bool,b'⟩:=by injection hf2
   have hbb:b = b':=by injection hbb with _ hx
   subst hbb
   exact ⟨ha,hgo,Le.refl _ _ _ _,rfl,rfl,b,a,lv,hg,hf,fun p hp=>hgo.c n _ hf p hp,fun _ _=>rfl⟩
 · rename_i hg
   have h:=Option.some.inj h
   obtain ⟨h1,h2⟩:=Prod.mk.inj h
   subst h1;subst h2
   have hhold:∀ c',(∀ p ∈ c',∃ b,getG s.gs p.1 = some b) → zAw ((n,b) :: s.gs) c' = zAw s.gs c':=fun c' hc=>holds_cons hg hc
   have hreg:∀ p,(∃ b,getG s.gs p = some b) → ∃ b',getG ((n,b) :: s.gs) p = some b':=fun p ⟨b',hb⟩=>by
     simp only [getG]
     cases Nat.beq n p with
     | true=>exact ⟨b,rfl⟩
     | false=>exact ⟨b',hb⟩
   refine ⟨⟨?_,ha.hrel,fun m ent hf' hh=>?_,fun m b' hg'=>?_,ha.base,ha.hlen,ha.klen,ha.lens⟩,⟨fun m ent hf' p hp=>hreg _ (hgo.c m ent hf' p hp),hgo.lv⟩,⟨fun _ _ h _=>h,fun _ _ h _=>⟨h,rfl,rfl,rfl⟩⟩,rfl,rfl,b,a,lv,?_,hf,fun p hp=>hreg _ (hgo.c n _ hf p hp),hhold⟩
   · rw [ha.env]
     funext i
     unfold zCh
     dsimp only
     cases hf':zAl s.env i with
     | none=>rfl
     | some ent =>
       simp only [entD]
       rw [hhold _ (hgo.c i ent hf')]
   · exact ha.ok m ent hf' (by rw [← hhold _ (hgo.c m ent hf')];exact hh)
   · have hg':getG ((n,b) :: s.gs) m = some b':=hg'
     simp only [getG] at hg'
     cases he:Nat.beq n m with
     | true =>
       rw [he,cond_true] at hg'
       have:=Option.some.inj hg';subst this
       rw [Nat.beq_eq] at he;subst he
       exact ⟨a,lv,c0,hf⟩
     | false=>rw [he] at hg';exact ha.gs m b' hg'
   · simp only [getG,Nat.beq_refl];rfl
theorem guard_at (ha:Abs B ζ num s e H) {n a lv:Nat} {c:List (Nat × Bool)} {b:Bool} (hf:zAl s.env n = some ⟨a,lv,c,⟨.bool,b⟩⟩):e n = if zAw s.gs c = true then .v (.bool b) else .v undef:=by
 rw [ha.env]
 unfold zCh
 rw [hf]
 rfl
theorem put_sound {d:Nat} {dst:Option Tmp} {c:List (Nat × Bool)} {v:TV} {s':St} {e1:Env} {dd:D} {H':Heap} (ha:Abs B ζ num s (zCh num s) H1) (hgo:GOk d s) (h:put d dst c v s = some s') (hv:zAw s.gs c = true → okV s.rows v) (hc:∀ p ∈ c,∃ b,getG s.gs p.1 = some b)
   (hw:∀ own X w,Sim own H' X w → Sim own H1 X w ∧ Ext X own H' w own H1 w ∧ (∀ i x,Rel own H' X w (e1 i) x → Rel own H1 X w (zCh num s i) x) ∧ (∀ x,Rel own H' X w dd x → Rel own H1 X w (if zAw s.gs c = true then enc (zAB num s.rows) v else .v undef) x)) :
   WeakS (updO e1 dst dd) H' (zCh num s') H1 ∧ Abs B ζ num s' (zCh num s') H1 ∧ GOk d s' ∧ Le d ζ num s ζ num s':=by
 cases dst with
 | none =>
   have:=Option.some.inj h;subst this
   refine ⟨fun own X w hs=>?_,ha,hgo,Le.refl _ _ _ _⟩
   obtain ⟨h1,h2,h3,_⟩:=hw own X w hs
   exact ⟨h1,h2,h3⟩
 | some n =>
   simp only [put] at h
   split at h
   rotate_left
   · cases h
   rename_i hg
   have:=Option.some.inj h;subst this
   have hfn:∀ i,zAl (⟨n,d,c,v⟩ :: s.env) i = if i = n then some ⟨n,d,c,v⟩ else zAl s.env i:=fun i=>by
     simp only [zAl]
     by_cases hi:i = n
     · subst hi;simp
     · rw [if_neg hi]
       cases hb:Nat.beq n i with
       | true=>rw [Nat.beq_eq] at hb;exact absurd hb.symm hi
       | false=>rfl
   have henv:∀ i,zCh num ⟨⟨n,d,c,v⟩ :: s.env,s.rows,s.gs⟩ i = if i = n then (if zAw s.gs c = true then enc (zAB num s.rows) v else .v undef) else zCh num s i:=fun i=>by
     unfold zCh
     dsimp only
     rw [hfn]
     by_cases hi:i = n
     · simp only [hi,if_true];rfl
     · rw [if_neg hi,if_neg hi];rfl
   refine ⟨fun own X w hs=>?_,⟨rfl,ha.hrel,fun m ent hf hh=>?_,fun m b hb=>?_,ha.base,ha.hlen,ha.klen,ha.lens⟩,⟨fun m ent hf p hp=>?_,fun m ent hf hcn=>?_⟩,⟨fun m ent hf hlt=>?_,fun r lv h1 h2=>⟨h1,rfl,rfl,rfl⟩⟩⟩
   · obtain ⟨h1,h2,h3,h4⟩:=hw own X w hs
     refine ⟨h1,h2,fun i x hx=>?_⟩
     rw [henv]
     have hx:Rel own H' X w (if i = n then dd else e1 i) x:=hx
     by_cases hi:i = n
     · rw [if_pos hi] at hx ⊢;exact h4 x hx
     · rw [if_neg hi] at hx ⊢;exact h3 i x hx
   · have hf:zAl (⟨n,d,c,v⟩ :: s.env) m = some ent:=hf
     rw [hfn] at hf
     by_cases hi:m = n
     · rw [if_pos hi] at hf;have:=Option.some.inj hf;subst this;exact hv hh
     · rw [if_neg hi] at hf;exact ha.ok m ent hf hh
   · have hb:getG s.gs m = some b:=hb
     obtain ⟨a,lv,c',hf⟩:=ha.gs m b hb
     have hi:m ≠ n:=by intro hi;subst hi;rw [hg] at hb;cases hb
     exact ⟨a,lv,c',by show zAl (⟨n,d,c,v⟩ :: s.env) m = _;rw [hfn,if_neg hi];exact hf⟩
   · have hf:zAl (⟨n,d,c,v⟩ :: s.env) m = some ent:=hf
     rw [hfn] at hf
     by_cases hi:m = n
     · rw [if_pos hi] at hf;have:=Option.some.inj hf;subst this;exact hc p hp
     · rw [if_neg hi] at hf;exact hgo.c m ent hf p hp
   · have hf:zAl (⟨n,d,c,v⟩ :: s.env) m = some ent:=hf
     rw [hfn] at hf
     by_cases hi:m = n
     · rw [if_pos hi] at hf;have:=Option.some.inj hf;subst this;exact Nat.le_refl _
     · rw [if_neg hi] at hf;exact hgo.lv m ent hf hcn
   · have hf:zAl (⟨n,d,c,v⟩ :: s.env) m = some ent:=hf
     rw [hfn] at hf
     by_cases hi:m = n
     · rw [if_pos hi] at hf;have:=Option.some.inj hf;subst this;exact absurd hlt (Nat.lt_irrefl _)
     · rw [if_neg hi] at hf;exact hf
theorem dropC_at:∀ (env:List Ent) (n:Nat),zAl (dropC env) n = (zAl env n).map fun e=>bif e.c.isEmpty then e else ⟨e.s,e.lv,[],⟨.any,()⟩⟩
 | [],n=>rfl
 | a :: l,n=>by
   simp only [dropC,zAl]
   have hs:(bif a.c.isEmpty then a else ⟨a.s,a.lv,[],⟨.any,()⟩⟩:Ent).s = a.s:=by cases a.c.isEmpty <;> rfl
   rw [hs]
   cases Nat.beq a.s n with
   | true=>rfl
   | false=>exact dropC_at l n
theorem endG_sound {d:Nat} (ha:Abs B ζ num s e H) (hgo:GOk d s):Abs B ζ num (endG s) (zCh num (endG s)) H ∧ Plain (endG s) ∧ Le d ζ num s ζ num (endG s) ∧ WeakS e H (zCh num (endG s)) H:=by
 obtain ⟨env,rows,gs⟩:=s
 cases gs with
 | nil =>
   have he:=ha.env
   refine ⟨by rw [he] at ha;exact ha,⟨rfl,fun n ent hf=>?_⟩,Le.refl _ _ _ _,by rw [he];exact WeakS.refl _ _⟩
   cases hc:ent.c with
   | nil=>rfl
   | cons p l =>
     obtain ⟨b,hb⟩:=hgo.c n ent hf p (by rw [hc];exact List.mem_cons_self ..)
     cases hb
 | cons g gs =>
   have hfd:∀ n ent,zAl (dropC env) n = some ent → ent.c = [] ∧ ((zAl env n = some ent) ∨ (d ≤ ent.lv ∧ ent.v = ⟨.any,()⟩)):=fun n ent hf=>by
     rw [dropC_at] at hf
     cases h0:zAl env n with
     | none=>rw [h0] at hf;cases hf
     | some e0 =>
       rw [h0] at hf
       have this:=Option.some.inj hf
       dsimp only at this
       cases hc:e0.c.isEmpty with
       | true =>
         rw [hc] at this
         have this:e0 = ent:=this
         subst this
         exact ⟨List.isEmpty_iff.1 hc,.inl rfl⟩
       | false =>
         rw [hc] at this
         have this:(⟨e0.s,e0.lv,[],⟨.any,()⟩⟩:Ent) = ent:=this
         subst this
         exact ⟨rfl,.inr ⟨hgo.lv n e0 h0 (fun hx=>by rw [hx] at hc;cases hc),rfl⟩⟩
   refine ⟨⟨rfl,ha.hrel,fun n ent hf _=>?_,fun n b h=>(by cases h),ha.base,ha.hlen,ha.klen,ha.lens⟩,⟨rfl,fun n ent hf=>(hfd n ent hf).1⟩,⟨fun n ent hf hlt=>?_,fun r lv h1 h2=>⟨h1,rfl,rfl,rfl⟩⟩,WeakS.env fun i=>?_⟩
   · obtain ⟨h1,h2 | ⟨h2,h3⟩⟩:=hfd n ent hf
     · exact ha.ok n ent h2 (by rw [h1];rfl)
     · show okV rows ent.v
       rw [h3];trivial
   · obtain ⟨h1,h2 | ⟨h2,h3⟩⟩:=hfd n ent hf
     · exact h2
     · omega
   · unfold zCh endG
     dsimp only
     cases hf:zAl (dropC env) i with
     | none=>exact Tl.any _
     | some ent =>
       have hh:∀ gs:List (Nat × Bool),zAw gs [] = true:=fun _=>rfl
       obtain ⟨h1,h2 | ⟨h2,h3⟩⟩:=hfd i ent hf
       · simp only [entD,h1,hh,if_true]
         rw [ha.at h2 (by rw [h1];rfl)]
         exact Tl.refl _
       · simp only [entD,h1,hh,if_true,h3]
         exact Tl.any _
theorem needG_skip {b:Bool} {k:Option R} (h:needG (some false) b k = some r):k = some r:=by
 have h:need (impl false b) k = some r:=h
 have hi:impl false b = true:=by cases b <;> rfl
 rw [hi] at h;exact h
end
end Go.T
namespace Go.T
open Go.Ab
variable [Go.Ab.DM]
section
variable {P:Program} {Γ:List Con} {B:Base} {ζ ζ':Nat → Row} {num num':Nat → Nat} {s:St} {e:Env} {H H1:Heap} {R:Type} {r:R}
theorem binT_skip {op:BinOp} {t:TypeId} {rows:Rows} {x y:TV} {k:TV → Option R} (h:binT P (some false) op t rows x y k = some r):∃ v,k v = some r:=by
 unfold binT at h
 repeat' split at h
 all_goals first | (cases h;done) | exact ⟨_,h⟩ | exact ⟨_,needG_skip h⟩
theorem indexAddrT_skip {rows:Rows} {t:TypeId} {x i:TV} {ic:Option Nat} {k:TV → Option R} (h:zDH P (some false) rows t x i ic k = some r):∃ v,k v = some r:=by
 unfold zDH at h
 repeat' split at h
 all_goals first
   | (cases h;done)
   | (obtain ⟨_,h⟩:=zAa h;first | exact ⟨_,h⟩ | exact ⟨_,needG_skip h⟩)
theorem sliceT_skip {rows:Rows} {t:TypeId} {x:TV} {lo hi:Option TV} {k:TV → Option R} (h:sliceT P (some false) rows t x lo hi k = some r):∃ v,k v = some r:=by
 unfold sliceT at h
 repeat' split at h
 all_goals first
   | (cases h;done)
   | exact ⟨_,needG_skip h⟩
   | (obtain ⟨_,h⟩:=zAa h;exact ⟨_,needG_skip h⟩)
theorem bif_two {b:Bool} {x y:TV} {k:TV → Option R} (h:(bif b then k x else k y) = some r):∃ v,k v = some r:=by
 cases b <;> exact ⟨_,h⟩
theorem pureT_skip {d:Nat} {c:List (Nat × Bool)} {o:Oper} {k:TV → Option R} (h:zDM P d (some false) c s o k = some r):∃ v,k v = some r:=by
 obtain ⟨dst,op,ty,pos,after,guard⟩:=o
 cases op <;> simp only [zDM] at h <;> (try (cases h;done))
 case call cl =>
   obtain ⟨f,args,ts⟩:=cl
   cases f <;> (try simp only [zDM] at h) <;> (try (cases h;done))
   rename_i b
   cases b <;> (try simp only [zDM] at h) <;> (repeat' split at h) <;> first | (cases h;done) | exact ⟨_,h⟩
 all_goals (repeat' split at h)
 all_goals first
   | (cases h;done)
   | exact ⟨_,h⟩
   | exact ⟨_,needG_skip h⟩
   | exact binT_skip h
   | exact indexAddrT_skip h
   | exact sliceT_skip h
   | (obtain ⟨_,h⟩:=zAa h;exact ⟨_,h⟩)
   | (obtain ⟨_,h⟩:=zAa h;exact bif_two h)
def Next (B:Base) (d:Nat) (ζ:Nat → Row) (num:Nat → Nat) (s:St) (k:St → Option R) (r:R) (T:Env → Heap → Prop):Prop :=
 (∀ e H e' H',WeakS e H e' H' → T e' H' → T e H) ∧ ∀ ζ' num' s' H',k s' = some r → Abs B ζ' num' s' (zCh num' s') H' → GOk d s' → Le d ζ num s ζ' num' s' → T (zCh num' s') H'
theorem put_next {d:Nat} {dst:Option Tmp} {c:List (Nat × Bool)} {v:TV} {s1 s':St} {e1:Env} {dd:D} {H' H'':Heap} {k:St → Option R} {T:Env → Heap → Prop} (hN:Next B d ζ num s k r T) (hst:Step B d ζ num s1 e1 dd H' v s' ζ' num' H'') (hle:Le d ζ num s ζ num s1) (hgo:GOk d s1)
   (hh:zAw s1.gs c = true) (hc:∀ p ∈ c,∃ b,getG s1.gs p.1 = some b) (h:(match put d dst c v s' with | some s''=>k s'' | none=>none) = some r):T (updO e1 dst dd) H':=by
 split at h
 rotate_left
 · cases h
 rename_i s'' hp
 have hgo':GOk d s':=⟨fun n ent hf p hp=>by rw [hst.gs];exact hgo.c n ent (by rw [← hst.env];exact hf) p hp,fun n ent hf hcn=>hgo.lv n ent (by rw [← hst.env];exact hf) hcn⟩
 obtain ⟨g1,g2,g3,g4⟩:=put_sound (e1:=e1) (dd:=dd) (H':=H') hst.abs hgo' hp (fun _=>hst.ok) (by rw [hst.gs];exact hc) fun own X w hs=>by
   obtain ⟨k1,k2,k3,k4⟩:=hst.weak own X w hs
   rw [hst.gs,if_pos hh]
   exact ⟨k1,k2,k3,k4⟩
 exact hN.1 _ _ _ _ g1 (hN.2 _ _ _ _ h g2 g3 ((hle.trans hst.le).trans g4))
theorem put_skip {d:Nat} {dst:Option Tmp} {c:List (Nat × Bool)} {v:TV} {s1:St} {k:St → Option R} {T:Env → Heap → Prop} (hN:Next B d ζ num s k r T) (ha:Abs B ζ num s1 (zCh num s1) H1) (hle:Le d ζ num s ζ num s1) (hgo:GOk d s1)
   (hh:zAw s1.gs c = false) (hc:∀ p ∈ c,∃ b,getG s1.gs p.1 = some b) (h:(match put d dst c v s1 with | some s''=>k s'' | none=>none) = some r):T (updO (zCh num s1) dst (.v undef)) H1:=by
 split at h
 rotate_left
 · cases h
 rename_i s'' hp
 obtain ⟨g1,g2,g3,g4⟩:=put_sound (e1:=zCh num s1) (dd:=.v undef) (H':=H1) ha hgo hp (fun h=>by rw [hh] at h;cases h) hc fun own X w hs=>by
   rw [hh]
   exact ⟨hs,.refl _ _ _,fun _ _ h=>h,fun _ h=>h⟩
 exact hN.1 _ _ _ _ g1 (hN.2 _ _ _ _ h g2 g3 (hle.trans g4))
end
end Go.T
namespace Go.T
open Go.Ab
variable [Go.Ab.DM]
section
variable {P:Program} {Γ:List Con} {B:Base} {ζ ζ':Nat → Row} {num num':Nat → Nat} {s:St} {e:Env} {H H1:Heap} {R:Type} {r:R}
theorem pick_kind {o:Oper} {x a b:Operand} (h:isPick o = some (x,a,b)):o.op = .pick x a b:=by
 unfold isPick at h
 split at h
 · rename_i c a' b' ho
   have h:=Option.some.inj h
   obtain ⟨h1,h2⟩:=Prod.mk.inj h
   obtain ⟨h2,h3⟩:=Prod.mk.inj h2
   subst h1;subst h2;subst h3;exact ho
 · cases h
theorem call_heap {o:Oper} (h:isCall o = true):isHeapOp o = true:=by
 unfold isCall at h
 split at h
 · rename_i ho;unfold isHeapOp;rw [ho]
 · cases h
theorem execT_on {dr:Bool} {d:Nat} {c:List (Nat × Bool)} {o:Oper} {k:St → Option R} {T:Env → Heap → Prop} (hΓ:∀ c ∈ Γ,zAu P c) (ha:Abs B ζ num s e H) (hgo:GOk d s) (hh:zAw s.gs c = true) (hc:∀ p ∈ c,∃ b,getG s.gs p.1 = some b) (hN:Next B d ζ num s k r T) (h:execT P Γ dr d c o s k = some r) :
   ∃ e1 H1,(WeakS e H e1 H1 ∧ ∃ rf,e1 = zCh num { s with rows:=rf }) ∧ zCw P (kd dr o) o e1 H1 fun dd H'=>T (updO e1 o.dst dd) H':=by
 have hg:∀ g,gB s.gs c = g → g = none ∨ g = some true:=fun g hg=>by
   rcases gB_spec s.gs c with ⟨h1,_⟩ | h1
   · rw [h1] at hg;exact .inl hg.symm
   · rw [h1,hh] at hg;exact .inr hg.symm
 have hgo1:=hgo
 unfold execT at h
 split at h
 · -- pick
   rename_i sc a b hp
   split at h
   rotate_left
   · cases h
   rename_i s' cc hreg
   obtain ⟨hsub,h⟩:=zAa h
   obtain ⟨ha',hgo',hle',hrows',henv',q,a0,lv0,hgq,hfq,hcc,hsame⟩:=regG_sound (d:=d) ha hgo hreg
   have hhc:zAw s'.gs c = true:=by rw [hsame c hc];exact hh
   have hqe:e sc = .v (.bool q):=by
     rw [guard_at ha hfq,if_pos (holds_sub hsub hh)]
   unfold pickT at h
   rw [hgq] at h
   split at h <;> first | (cases h;done) | skip
   rename_i q' va vb hq' hva hvb
   have:=Option.some.inj hq';subst this
   split at h
   rotate_left
   · cases h
   rename_i ht
   have hop:=pick_kind hp
   obtain ⟨dst,op,ty,pos,after,guard⟩:=o
   dsimp only at hop;subst hop
   have hkd:kd dr ⟨dst,.pick (.tmp sc) a b,ty,pos,after,guard⟩ = .pure:=by cases dr <;> rfl
   rw [hkd]
   refine ⟨e,H,⟨WeakS.refl _ _,s.rows,ha.env⟩,?_⟩
   show aPick (e sc) (ev e a) (ev e b) fun dd=>T (updO e dst dd) H
   rw [hqe]
   have hcr:∀ p ∈ c,∃ b,getG s'.gs p.1 = some b:=fun p hp=>by
     obtain ⟨b,hb⟩:=hc p hp
     have:zAw s'.gs [(p.1,b)] = zAw s.gs [(p.1,b)]:=hsame _ (fun p' hp'=>by simp only [List.mem_cons,List.not_mem_nil,or_false] at hp';subst hp';exact ⟨b,hb⟩)
     have h1:zAw s.gs [(p.1,b)] = true:=by simp [zAw,hb]
     rw [h1] at this
     simp only [zAw,List.all_cons,List.all_nil,Bool.and_true] at this
     cases hgp:getG s'.gs p.1 with
     | none=>rw [hgp] at this;cases this
     | some b'=>exact ⟨b',rfl⟩
   cases q with
   | true =>
     obtain ⟨g1,g2⟩:=zAM ha' (c:=(sc,true) :: c) (by unfold zAw;rw [List.all_cons];dsimp only;rw [hgq];exact hhc) hva
     show T (updO e dst (ev e a)) H
     refine put_next hN (same_step (d:=d) ha' (v:=va) (Tl.of_eq g1) g2) hle' hgo' hhc hcr ?_
     exact h
   | false =>
     obtain ⟨g1,g2⟩:=zAM ha' (c:=(sc,false) :: c) (by unfold zAw;rw [List.all_cons];dsimp only;rw [hgq];exact hhc) hvb
     show T (updO e dst (ev e b)) H
     refine put_next hN (same_step (d:=d) ha' (v:=vb) (Tl.of_eq g1) g2) hle' hgo' hhc hcr ?_
     have:(⟨va.t,zAH false va.x (castI ht vb.x)⟩:TV) = vb:=by
       obtain ⟨tb,xb⟩:=vb
       obtain ⟨ta,xa⟩:=va
       have ht:tb = ta:=ht
       subst ht
       rfl
     rw [this] at h
     exact h
 · cases h
 · cases hheap:isHeapOp o with
   | true =>
     rw [hheap,cond_true] at h
     split at h
     · rename_i g hcall
       exact callT_sound hΓ ha hh (hg _ rfl) hcall h fun e1 v s' ζ' num' dd H' H'' hk hst=>put_next hN hst (Le.refl _ _ _ _) hgo hh hc hk
     · rename_i hcall hgn
       have hkd:kd dr o = zAE o:=by unfold kd;rw [hcall];cases dr <;> rfl
       rw [hkd]
       exact heapT_sound ha hh hcall h fun e1 v s' ζ' num' dd H' H'' hk hst=>put_next hN hst (Le.refl _ _ _ _) hgo hh hc hk
     · rename_i g hcall hgn
       have hkd:kd dr o = zAE o:=by unfold kd;rw [hcall];cases dr <;> rfl
       rw [hkd]
       rcases hg _ hgn with hx | hx
       · cases hx
       · have:=Option.some.inj hx;subst this
         have h:heapT P Γ dr d none c s o (fun v s'=>match put d o.dst c v s' with | some s''=>k s'' | none=>none) = some r:=h
         exact heapT_sound ha hh hcall h fun e1 v s' ζ' num' dd H' H'' hk hst=>put_next hN hst (Le.refl _ _ _ _) hgo hh hc hk
   | false =>
     rw [hheap,cond_false] at h
     have hkd:kd dr o = zAE o:=by
       unfold kd
       cases hcall:isCall o with
       | true=>rw [call_heap hcall] at hheap;cases hheap
       | false=>cases dr <;> rfl
     rw [hkd]
     exact ⟨e,H,⟨WeakS.refl _ _,s.rows,ha.env⟩,pureT_sound ha (hg _ rfl) hh h fun v hk hv dd hd=>put_next hN (same_step (d:=d) ha hd hv) (Le.refl _ _ _ _) hgo hh hc hk⟩
theorem same_reg {s':St} (hsame:∀ c',(∀ p ∈ c',∃ b,getG s.gs p.1 = some b) → zAw s'.gs c' = zAw s.gs c') {c:List (Nat × Bool)} (hc:∀ p ∈ c,∃ b,getG s.gs p.1 = some b):∀ p ∈ c,∃ b,getG s'.gs p.1 = some b:=fun p hp=>by
 obtain ⟨b,hb⟩:=hc p hp
 have:zAw s'.gs [(p.1,b)] = zAw s.gs [(p.1,b)]:=hsame _ (fun p' hp'=>by simp only [List.mem_cons,List.not_mem_nil,or_false] at hp';subst hp';exact ⟨b,hb⟩)
 have h1:zAw s.gs [(p.1,b)] = true:=by simp [zAw,hb]
 rw [h1] at this
 simp only [zAw,List.all_cons,List.all_nil,Bool.and_true] at this
 cases hgp:getG s'.gs p.1 with
 | none=>rw [hgp] at this;cases this
 | some b'=>exact ⟨b',rfl⟩
theorem execT_off {dr:Bool} {d:Nat} {c:List (Nat × Bool)} {o:Oper} {k:St → Option R} {T:Env → Heap → Prop} (ha:Abs B ζ num s e H) (hgo:GOk d s) (hh:zAw s.gs c = false) (hc:∀ p ∈ c,∃ b,getG s.gs p.1 = some b) (hN:Next B d ζ num s k r T) (h:execT P Γ dr d c o s k = some r) :
   ∃ e1 H1,(WeakS e H e1 H1 ∧ ∃ rf,e1 = zCh num { s with rows:=rf }) ∧ T (updO e1 o.dst (.v undef)) H1:=by
 have hg:gB s.gs c = some false:=by
   rcases gB_spec s.gs c with ⟨_,h2⟩ | h1
   · subst h2;cases hh
   · rw [h1,hh]
 have ha0:Abs B ζ num s (zCh num s) H:=by have:=ha;rw [ha.env] at this;exact this
 have skip:∀ v,(match put d o.dst c v s with | some s''=>k s'' | none=>none) = some r → ∃ e1 H1,(WeakS e H e1 H1 ∧ ∃ rf,e1 = zCh num { s with rows:=rf }) ∧ T (updO e1 o.dst (.v undef)) H1:=fun v hv =>
   ⟨e,H,⟨WeakS.refl _ _,s.rows,ha.env⟩,by rw [ha.env];exact put_skip hN ha0 (Le.refl _ _ _ _) hgo hh hc hv⟩
 unfold execT at h
 split at h
 · rename_i sc a b hp
   split at h
   rotate_left
   · cases h
   rename_i s' cc hreg
   obtain ⟨hsub,h⟩:=zAa h
   obtain ⟨ha',hgo',hle',hrows',henv',q,a0,lv0,hgq,hfq,hcc,hsame⟩:=regG_sound (d:=d) ha hgo hreg
   unfold pickT at h
   split at h <;> first | (cases h;done) | skip
   split at h
   rotate_left
   · cases h
   have ha'':Abs B ζ num s' (zCh num s') H:=by have:=ha';rw [ha'.env] at this;exact this
   refine ⟨e,H,⟨WeakS.refl _ _,s.rows,ha.env⟩,?_⟩
   rw [ha'.env]
   exact put_skip hN ha'' hle' hgo' (by rw [hsame c hc];exact hh) (same_reg hsame hc) h
 · cases h
 · cases hheap:isHeapOp o with
   | false =>
     rw [hheap,cond_false,hg] at h
     obtain ⟨v,hv⟩:=pureT_skip h
     exact skip v hv
   | true =>
     rw [hheap,cond_true,hg] at h
     cases hcall:isCall o with
     | false =>
       rw [hcall] at h
       exact skip ⟨.any,()⟩ h
     | true =>
       rw [hcall] at h
       dsimp only at h
       obtain ⟨dst,op,ty,pos,after,guard⟩:=o
       cases op <;> first | (cases hcall;done) | skip
       rename Call=>cl
       obtain ⟨f,args,ts⟩:=cl
       cases f <;> first | (cases hcall;done) | skip
       rename Operand=>f
       simp only [heapT] at h
       split at h
       rotate_left
       · exact skip _ h
       rename_i q ta tb yv l hfv hl
       split at h
       rotate_left
       · exact skip _ h
       rename_i con x hfind
       obtain ⟨hb,h⟩:=zAa h
       rw [Bool.and_eq_true,List.isEmpty_iff,List.isEmpty_iff] at hb
       have h:(match put d dst c (backT d con x s (zAX con.outT).dv).1 (backT d con x s (zAX con.outT).dv).2 with | some s''=>k s'' | none=>none) = some r:=by
         cases hcq:con.q with
         | none=>rw [hcq] at h;exact h
         | some q=>rw [hcq] at h;cases h
       have hb2:(backT d con x s (zAX con.outT).dv).2 = { s with rows:=bif con.mem then zAk d x.fz 0 s.rows else s.rows }:=by
         unfold backT
         dsimp only
         rw [hb.2]
         rfl
       rw [hb2] at h
       cases hcm:con.mem with
       | false=>rw [hcm] at h;exact skip _ h
       | true =>
         rw [hcm] at h
         obtain ⟨ha1,hw1⟩:=fr_abs ha (zBg d x.fz s.rows)
         exact ⟨_,_,⟨hw1,_,rfl⟩,put_skip hN ha1 (fr_Le d x.fz) ⟨hgo.c,hgo.lv⟩ hh hc h⟩
end
end Go.T
namespace Go.T
open Go.Ab
variable [Go.Ab.DM]
section
variable {P:Program} {Γ:List Con} {B:Base} {R:Type} {r:R}
def dstB (N:Nat):Option Tmp → Bool | some n=>Nat.blt n N | none=>true
def okOp (N:Nat) (full:List Oper) (o:Oper):Bool:=dstB N o.dst && (match o.guard with | none=>true | some (j,_)=>match slotOf full j with | some s=>Nat.blt s N | none=>false)
theorem dstB_ok {N:Nat} {o:Option Tmp} (h:dstB N o = true):dstOk N o:=by
 cases o with
 | none=>trivial
 | some n=>exact Nat.le_of_ble_eq_true h
theorem bops_weak {N:Nat} {ops:Array Oper} {Q:Env → Heap → Prop} (hQ:∀ e H e' H',WeakS e H e' H' → Q e' H' → Q e H) {l:List (OpKind × Oper)} {e e':Env} {H H':Heap} (hw:WeakS e H e' H') (h:bops P N ops l e' H' Q):bops P N ops l e H Q:=by
 cases l with
 | nil=>exact hQ _ _ _ _ hw h
 | cons p l =>
   obtain ⟨k,o⟩:=p
   simp only [bops] at h ⊢
   obtain ⟨e1,H1,h1,h2⟩:=h
   exact ⟨e1,H1,hw.trans h1,h2⟩
theorem gslot_slot (full:List Oper) (j:Nat):gslot full.toArray j = slotOf full j:=by
 unfold gslot slotOf
 rw [List.getElem?_toArray]
 cases full[j]? <;> rfl
theorem opsT_sound (hΓ:∀ c ∈ Γ,zAu P c) {dr:Bool} {d N:Nat} {full:List Oper} {k:St → Option R} {Q:Env → Heap → Prop} (hQw:∀ e H e' H',WeakS e H e' H' → Q e' H' → Q e H) :
   ∀ (l:List Oper) (ζ:Nat → Row) (num:Nat → Nat) (s:St) (e:Env) (H:Heap),Abs B ζ num s e H → GOk d s → (∀ o ∈ l,okOp N full o = true) → opsT P Γ dr d full l s k = some r →
     (∀ ζ' num' s' H',k s' = some r → Abs B ζ' num' s' (zCh num' s') H' → Plain s' → Le d ζ num s ζ' num' s' → Q (zCh num' s') H') → bops P N full.toArray (l.map fun o=>(kd dr o,o)) e H Q
 | [],ζ,num,s,e,H,ha,hgo,_,h,hQ=>by
   obtain ⟨g1,g2,g3,g4⟩:=endG_sound (d:=d) ha hgo
   exact hQw _ _ _ _ g4 (hQ _ _ _ _ h g1 g2 g3)
 | o :: l,ζ,num,s,e,H,ha,hgo,hok,h,hQ=>by
   have ho:=hok o (List.mem_cons_self ..)
   simp only [okOp,Bool.and_eq_true] at ho
   have hdst:=dstB_ok ho.1
   have next:∀ s1,Le d ζ num s ζ num s1 → Next B d ζ num s1 (fun s'=>opsT P Γ dr d full l s' k) r (fun e H=>bops P N full.toArray (l.map fun o=>(kd dr o,o)) e H Q):=fun s1 hle1 =>
     ⟨fun e H e' H' hw h=>bops_weak hQw hw h,fun ζ' num' s' H' h' ha' hgo' hle'=>opsT_sound hΓ hQw l ζ' num' s' _ H' ha' hgo' (fun o ho=>hok o (List.mem_cons_of_mem _ ho)) h' fun ζ2 num2 s2 H2 k1 k2 k3 k4=>hQ ζ2 num2 s2 H2 k1 k2 k3 ((hle1.trans hle').trans k4)⟩
   rw [List.map_cons]
   simp only [bops]
   simp only [opsT] at h
   cases hg:o.guard with
   | none =>
     rw [hg] at h
     obtain ⟨e1,H1,⟨hw,_⟩,hA⟩:=execT_on hΓ ha hgo (c:=[]) rfl (fun p hp=>by cases hp) (next s (Le.refl _ _ _ _)) h
     exact ⟨e1,H1,hw,hdst,hA⟩
   | some p =>
     obtain ⟨j,w⟩:=p
     rw [hg] at h ho
     dsimp only at h ho
     split at h
     rotate_left
     · cases h
     rename_i sj hsj
     rw [hsj] at ho
     have hsN:sj < N:=Nat.le_of_ble_eq_true ho.2
     split at h
     rotate_left
     · cases h
     rename_i s1 cj hreg
     obtain ⟨ha',hgo',hle',hrows',henv',b,a0,lv0,hgq,hfq,hcc,hsame⟩:=regG_sound (d:=d) ha hgo hreg
     have hcr:∀ p ∈ (sj,w) :: cj,∃ b,getG s1.gs p.1 = some b:=fun p hp=>by
       rcases List.mem_cons.1 hp with rfl | hp
       · exact ⟨b,hgq⟩
       · exact hcc p hp
     have hhc:zAw s1.gs ((sj,w) :: cj) = ((b == w) && zAw s1.gs cj):=by
       unfold zAw
       rw [List.all_cons]
       dsimp only
       rw [hgq]
     have hat:∀ rf,zCh num { s1 with rows:=rf } sj = if zAw s1.gs cj = true then .v (.bool b) else .v undef:=fun rf=>by
       unfold zCh
       dsimp only
       rw [henv',hfq]
       rfl
     cases hcj:zAw s1.gs cj with
     | false =>
       obtain ⟨e1,H1,⟨hw,rf,hrf⟩,hA⟩:=execT_off ha' hgo' (by rw [hhc,hcj];simp) hcr (next s1 hle') h
       refine ⟨e1,H1,hw,hdst,sj,by rw [gslot_slot];exact hsj,hsN,.inr ⟨by rw [hrf,hat,hcj];rfl,hA⟩⟩
     | true =>
       by_cases hbw:b = w
       · obtain ⟨e1,H1,⟨hw,rf,hrf⟩,hA⟩:=execT_on hΓ ha' hgo' (by rw [hhc,hcj,hbw];simp) hcr (next s1 hle') h
         exact ⟨e1,H1,hw,hdst,sj,by rw [gslot_slot];exact hsj,hsN,.inl ⟨b,by rw [hrf,hat,hcj];rfl,fun _=>hA,fun hn=>absurd hbw hn⟩⟩
       · obtain ⟨e1,H1,⟨hw,rf,hrf⟩,hA⟩:=execT_off ha' hgo' (by rw [hhc,hcj];simp [hbw]) hcr (next s1 hle') h
         exact ⟨e1,H1,hw,hdst,sj,by rw [gslot_slot];exact hsj,hsN,.inl ⟨b,by rw [hrf,hat,hcj];rfl,fun hn=>absurd hn hbw,fun _=>hA⟩⟩
end
end Go.T
namespace Go.Ab
variable [Go.Ab.DM]
def planOkH (ops:Array Oper):List (OpKind × Nat) → Array Bool → Bool
 | [],L=>(Region.ready .any ops L).isEmpty
 | (.pure,i) :: r,L=>Region.free .any ops L i && (Region.ready .any ops L).contains i && planOkH ops r (L.setIfInBounds i true)
 | (.load,_) :: _,_=>false
 | (.keep,i) :: r,L=>Region.ready .any ops L == [i] && planOkH ops r (L.setIfInBounds i true)
 | (.wr,i) :: r,L=>Region.ready .any ops L == [i] && planOkH ops r (L.setIfInBounds i true)
def goodPlanH (ops:Array Oper) (i:Nat) (plan:List (OpKind × Nat)):Bool :=
 Region.free .any ops (Array.replicate ops.size false) i && (Region.ready .any ops (Array.replicate ops.size false)).contains i && planOkH ops plan ((Array.replicate ops.size false).setIfInBounds i true) && Region.noSelect ops && plan.length + 1 == ops.size
def Sx (own:Nat → Own) (H:Heap) (X:Nat → Prop) (w w':World):Prop:=∀ b,zAN own H X w b → w'.heap[b]? = w.heap[b]?
section
variable {P:Program} {f:FuncId} {N n0:Nat} {R:D → Heap → Prop} {K:List Item} {ops:Array Oper}
theorem load_fp {t:TypeId} {H:Heap} {own X w} {d:D} {v:Value} {k:Nat} {xs:List D} {i o:Nat} (ha:Rel own H X w (.fp k xs i o) v) (h:ldD P t H (.fp k xs i o) = some d) :
   ∃ x,(∀ w':World,Sx own H X w w' → (Instr.loadAt t v).run P w' = .ok x w') ∧ Rel own H X w d x:=by
 unfold ldD at h
 split at h
 · rename_i tg sz htg hsz
   dsimp only at h
   cases hx:xs[i]? with
   | none=>simp [hx] at h
   | some e =>
     simp [hx] at h
     rw [Rel,VRel] at ha;obtain ⟨b,off,rfl,h1,h2⟩:=ha
     have he:=Cells_get h2 hx
     obtain ⟨x,h8,h9⟩:=elem_load htg hsz he h
     exact ⟨x,fun w' hw'=>by simpa [Instr.loadAt,Instr.sureAddr] using h8 w' (hw' _ h1),VRel_zero h9⟩
 · simp at h
theorem hdraw_sound (hsel:Region.noSelect ops = true) {own0:Nat → Own} {H0:Heap} {w0:World} {X:Nat → Prop}:∀ (plan:List (OpKind × Nat)) (L:Array Bool) (e:Env) (H:Heap),planOkH ops plan L = true →
   bops P N ops (zAo ops plan) e H (fun e' H'=>Run P f N n0 R K e' H') → ∀ own w tmps,Ext X own0 H0 w0 own H w → tmps.size = N → Sim own H X w → EnvRel own H X w tmps e →
   wpAnyH P .any ops (RegQ P f N n0 R K X own0 H0 w0) (Sx own0 H0 X w0) plan.length L ⟨tmps,[]⟩ w
 | [],L,e,H,hp,ha,own,w,tmps,hx,hN,hs,he=>⟨by simpa [planOkH] using hp,own,H,e,hN,rfl,hs,he,hx,ha⟩
 | (k,i) :: r,L,e,H,hp,ha,own,w,tmps,hx,hN,hs,he=>by
   have hready:i ∈ Region.ready .any ops L:=by
     cases k <;> simp only [planOkH,Bool.and_eq_true] at hp
     · simpa using hp.1.2
     · cases hp
     · have:=hp.1;rw [beq_iff_eq] at this;rw [this];simp
     · have:=hp.1;rw [beq_iff_eq] at this;rw [this];simp
   obtain ⟨_,o,hi,_⟩:=mem_ready.1 hready
   have hpl:zAo ops ((k,i) :: r) = (k,o) :: zAo ops r:=by simp [zAo,hi]
   rw [hpl] at ha
   simp only [bops] at ha
   obtain ⟨e1,H1',hweak,hd,ha⟩:=ha
   obtain ⟨hs1,hx1,he1⟩:=hweak own X w hs
   have hx:=Ext.trans hx hx1
   have he:EnvRel own H1' X w tmps e1:=fun q=>he1 q _ (he q)
   have hs:=hs1
   clear hs1 hx1 he1
   revert hx he hs
   generalize H1' = H at *
   generalize e1 = e at *
   intro hx he hs
   have hρ:∀ x,Rel own H X w (ev e x) ((⟨tmps,[]⟩:Act).eval x):=fun x=>he.eval x
   have hcase:(Region.wanted o (yielded ops tmps) = true ∧ zCw P k o e H fun d H'=>bops P N ops (zAo ops r) (updO e o.dst d) H' fun e' H'=>Run P f N n0 R K e' H') ∨ (Region.wanted o (yielded ops tmps) = false ∧ bops P N ops (zAo ops r) (updO e o.dst (.v undef)) H fun e' H'=>Run P f N n0 R K e' H'):=by
     split at ha
     · rename_i hg;exact .inl ⟨by simp [Region.wanted,hg],ha⟩
     · rename_i j want hg
       obtain ⟨s,h1,h2,⟨b,h3,h4,h5⟩ | ⟨h3,h4⟩⟩:=ha
       · by_cases hbw:b = want
         · exact .inl ⟨by simp [Region.wanted,hg,zCO h1 h2 hN he h3,hbw],h4 hbw⟩
         · exact .inr ⟨by simp [Region.wanted,hg,zCO h1 h2 hN he h3,hbw],h5 hbw⟩
       · exact .inr ⟨by simp [Region.wanted,hg,yielded_undef h1 h2 hN he h3],h4⟩
   have next:∀ (e':Env) (own1:Nat → Own) (d:D) (H1:Heap) (v:Value) (w1:World),planOkH ops r (L.setIfInBounds i true) = true → e' = updO e o.dst d → Sim own1 H1 X w1 → Rel own1 H1 X w1 d v → Ext X own H w own1 H1 w1 →
       (bops P N ops (zAo ops r) e' H1 fun e' H'=>Run P f N n0 R K e' H') → Sx own0 H0 X w0 w1 ∧ wpAnyH P .any ops (RegQ P f N n0 R K X own0 H0 w0) (Sx own0 H0 X w0) r.length (L.setIfInBounds i true) ((⟨tmps,[]⟩:Act).put o.dst v) w1:=by
     intro e' own1 d H1 v w1 hp' he' h1 h2 h3 h4
     subst he'
     have h5:=(he.ext h3).put (o:=o.dst) (by rw [hN];exact hd) h2 []
     have hsz:=put_size (tmps:=tmps) (ds:=[]) (o:=o.dst) (v:=v)
     have hdf:=put_defers (tmps:=tmps) (ds:=[]) (o:=o.dst) (v:=v)
     generalize (⟨tmps,[]⟩:Act).put o.dst v = a at *
     obtain ⟨tm,df⟩:=a
     simp at hsz hdf;subst hdf
     have hx1:=Ext.trans hx h3
     exact ⟨fun b hb=>(hx1.hb b hb).2,hdraw_sound hsel r _ _ H1 hp' h4 own1 w1 tm hx1 (by rw [hsz,hN]) h1 h5⟩
   have hundef:Rel own H X w (.v undef) undef:=by simp [Rel,VRel]
   have hSx:Sx own0 H0 X w0 w:=fun b hb=>(hx.hb b hb).2
   cases k with
   | pure =>
     simp only [planOkH,Bool.and_eq_true] at hp
     rcases hcase with ⟨hw,ha⟩ | ⟨hw,ha⟩
     · obtain ⟨v,d,h1,h2,h3⟩:=apure_sound hs hρ ha
       exact wpAnyH_first hi (Region.noSelect_spec hsel) (fun c a w h=>zBl h) _ _ _ _ (Region.free_spec hi hp.1.1) hready (.inl ⟨hw,fun w' _=>h1 w'⟩) hSx (next _ own d H v w hp.2 rfl hs h2 (.refl _ _ _) h3).2
     · exact wpAnyH_first hi (Region.noSelect_spec hsel) (fun c a w h=>zBl h) _ _ _ _ (Region.free_spec hi hp.1.1) hready (.inr ⟨hw,rfl⟩) hSx (next _ own _ H undef w hp.2 rfl hs hundef (.refl _ _ _) ha).2
   | load=>simp only [planOkH] at hp;cases hp
   | keep =>
     simp only [planOkH,Bool.and_eq_true,beq_iff_eq] at hp
     refine ⟨fun h=>(by rw [h] at hready;cases hready),fun j hj=>?_⟩
     rw [hp.1,List.mem_singleton] at hj
     subst hj
     unfold wpOp
     simp only [hi]
     rcases hcase with ⟨hw,ha⟩ | ⟨hw,ha⟩
     · simp only [hw,if_true]
       left
       have hk:=aKeep_sound hs hρ ha
       unfold Oper.wp
       generalize (execOp (⟨tmps,[]⟩:Act).eval o).run P w = res at hk
       cases res with
       | halt x w'=>exact hk.elim
       | ok n w1 =>
         cases n with
         | value v =>
           obtain ⟨own1,d,H1,h1,h2,h3,h4⟩:=hk
           exact next _ own1 d H1 v w1 hp.2 rfl h1 h2 h3.1 h4
         | enter g args =>
           refine Calls.mono hk fun en w' hh=>?_
           obtain ⟨own1,d,H1,v,rfl,h1,h2,h3,h4⟩:=hh
           exact next _ own1 d H1 v w' hp.2 rfl h1 h2 h3.1 h4
         | _=>exact hk.elim
     · simp only [hw,Bool.false_eq_true,if_false]
       exact next _ own _ H undef w hp.2 rfl hs hundef (.refl _ _ _) ha
   | wr =>
     simp only [planOkH,Bool.and_eq_true,beq_iff_eq] at hp
     refine ⟨fun h=>(by rw [h] at hready;cases hready),fun j hj=>?_⟩
     rw [hp.1,List.mem_singleton] at hj
     subst hj
     unfold wpOp
     simp only [hi]
     rcases hcase with ⟨hw,ha⟩ | ⟨hw,ha⟩
     · simp only [hw,if_true]
       left
       have hk:=aMut_sound (C:=fun d H'=>bops P N ops (zAo ops r) (updO e o.dst d) H' fun e' H'=>Run P f N n0 R K e' H') hs hρ ha
       unfold Oper.wp
       generalize (execOp (⟨tmps,[]⟩:Act).eval o).run P w = res at hk
       cases res with
       | halt x w'=>exact hk.elim
       | ok n w1 =>
         cases n with
         | value v =>
           obtain ⟨own1,d,H1,h1,h2,h3,h4⟩:=hk
           exact next _ own1 d H1 v w1 hp.2 rfl h1 h2 h3 h4
         | skip =>
           obtain ⟨own1,H1,h1,h3,h4⟩:=hk
           exact next _ own1 _ H1 undef w1 hp.2 rfl h1 (by simp [Rel,VRel]) h3 h4
         | enter g args =>
           refine Calls.mono hk fun en w' hh=>?_
           obtain ⟨own1,d,H1,v,rfl,h1,h2,h3,h4⟩:=hh
           exact next _ own1 d H1 v w' hp.2 rfl h1 h2 h3 h4
         | _=>exact hk.elim
     · simp only [hw,Bool.false_eq_true,if_false]
       exact next _ own _ H undef w hp.2 rfl hs hundef (.refl _ _ _) ha
theorem run_hdraw {id:Nat} {l:List Oper} {e:Env} {H:Heap} (i:Nat) (plan:List (OpKind × Nat)) (hm:P.follows .mixedOrders = true) (hp:goodPlanH l.toArray i plan = true) {o:Oper} {t:TypeId} {a:Operand} (hi:l[i]? = some o) (ho:o.op = .load t a) (hg:o.guard = none) (hd:dstOk N o.dst)
   (h:∃ e1 H1,WeakS e H e1 H1 ∧ ∃ k xs j off d,ev e1 a = .fp k xs j off ∧ ldD P t H1 (.fp k xs j off) = some d ∧ bops P N l.toArray (zAo l.toArray plan) (updO e1 o.dst d) H1 fun e' H'=>Run P f N n0 R K e' H'):Run P f N n0 R (.code (.region id l.toArray true) :: K) e H:=by
 obtain ⟨e1,H1,hw,k,xs,j,off,d,h1,h2,h3⟩:=h
 refine run_weak hw ?_
 clear hw
 intro hn own X w tmps cs hN hsim henv
 simp only [goodPlanH,Bool.and_eq_true,beq_iff_eq] at hp
 have hwh:({ w with drawn:=w.drawn + 1 }:World).heap = w.heap:=rfl
 have hext:=zCp (X:=X) own H1 w _ hwh
 have hs':=sim_drawn hwh hsim
 have he':=henv.ext hext
 have hi':l.toArray[i]? = some o:=by simpa using hi
 have hr:i ∈ Region.ready .any l.toArray (Array.replicate l.toArray.size false):=by simpa using hp.1.1.1.2
 have hav:Rel own H1 X { w with drawn:=w.drawn + 1 } (.fp k xs j off) ((⟨tmps,[]⟩:Act).eval a):=by have:=he'.eval (ds:=[]) a;rwa [h1] at this
 obtain ⟨x,h4,h5⟩:=load_fp (P:=P) hav h2
 have hany:wpAnyH P .any l.toArray (RegQ P f N n0 R K X own H1 w) (Sx own H1 X w) (plan.length + 1) (Array.replicate l.toArray.size false) ⟨tmps,[]⟩ { w with drawn:=w.drawn + 1 }:=by
   refine wpAnyH_first hi' (Region.noSelect_spec hp.1.2) (fun c a w h=>zBl h) _ _ _ _ (Region.free_spec hi' hp.1.1.1.1) hr (v:=x) (.inl ⟨by simp [Region.wanted,hg],fun w' hw'=>?_⟩) (fun _ _=>rfl) ?_
   · simp only [execOp,ho,Sem.run_bind,h4 w' hw',Result.andThen_ok,Sem.run_pure]
   · have h6:=he'.put (o:=o.dst) (by rw [hN];exact hd) h5 []
     have hsz:=put_size (tmps:=tmps) (ds:=[]) (o:=o.dst) (v:=x)
     have hdf:=put_defers (tmps:=tmps) (ds:=[]) (o:=o.dst) (v:=x)
     generalize (⟨tmps,[]⟩:Act).put o.dst x = a' at *
     obtain ⟨tm,df⟩:=a'
     simp at hsz hdf;subst hdf
     exact hdraw_sound (f:=f) (n0:=n0) (R:=R) (K:=K) hp.1.2 plan _ _ H1 hp.1.1.2 h3 own _ tm hext (by rw [hsz,hN]) hs' h6
 rw [hp.2] at hany
 have hwp:(Code.region id l.toArray true).wp P (RegQ P f N n0 R K X own H1 w) ⟨tmps,[]⟩ w:=wp_region_held hm hany
 obtain ⟨ex,a',w',hq,harr⟩:=hwp (frameOf f) K cs
 cases ex with
 | normal =>
   obtain ⟨own1,H2,e2,h1,h2,h3,h4,h5,h6⟩:=hq
   obtain ⟨tm,df⟩:=a'
   simp at h1 h2;subst h2
   exact Fin.of_steps hn h5 harr (h6 (Nat.le_trans hn h5.hn) own1 X w' tm cs h1 h3 h4)
 | _=>exact hq.elim
end
end Go.Ab
namespace Go.T
open Go.Ab
variable [Go.Ab.DM]
section
variable {P:Program} {B:Base} {ζ:Nat → Row} {num:Nat → Nat} {s:St} {e:Env} {H:Heap} {R:Type} {r:R}
theorem frzLd_sound {d:Nat} {o:Oper} {k:St → Option R} {T:Env → Heap → Prop} (ha:Abs B ζ num s e H) (hgo:GOk d s) (hN:Next B d ζ num s k r T) (h:frzLd P d o s k = some r) :
   o.guard = none ∧ ∃ t a,o.op = .load t a ∧ ∃ e1 H1,WeakS e H e1 H1 ∧ ∃ kk xs j off dd,ev e1 a = .fp kk xs j off ∧ ldD P t H1 (.fp kk xs j off) = some dd ∧ T (updO e1 o.dst dd) H1:=by
 unfold frzLd at h
 split at h
 rotate_left
 · cases h
 rename_i t a ho hg
 split at h
 rotate_left
 · cases h
 rename_i q off y hv
 split at h
 rotate_left
 · cases h
 rename_i u x hrow
 obtain ⟨ha1,hw1⟩:=fr_abs ha (zBg d [q] s.rows)
 have hle1:Le d ζ num s ζ num { s with rows:=zAk d [q] 0 s.rows }:=fr_Le d [q]
 have hgo1:GOk d { s with rows:=zAk d [q] 0 s.rows }:=⟨hgo.c,hgo.lv⟩
 refine ⟨hg,t,a,ho,_,_,hw1,?_⟩
 have hev:=(zAM ha1 (c:=[]) rfl hv).1
 have hA:=pureT_sound ha1 (.inl rfl) (c:=[]) rfl h (C:=fun dd H'=>T (updO (zCh num { s with rows:=zAk d [q] 0 s.rows }) o.dst dd) H') fun v hk hv dd hd=>put_next hN (same_step (d:=d) ha1 hd hv) hle1 hgo1 rfl (fun p hp=>by cases hp) hk
 have hkd:zAE o = .load:=by unfold zAE;rw [ho]
 rw [hkd] at hA
 simp only [zCw,aLoad,ho] at hA
 obtain ⟨dd,h1,h2⟩:=hA
 have he:enc (zAB num (zAk d [q] 0 s.rows)) ⟨.p0 q off,y⟩ = .fp u.w [e0 u x] 0 off:=by
   show p0D (num q) off (zAA (zAk d [q] 0 s.rows) q) = _
   rw [hrow];rfl
 rw [he] at hev
 rw [hev] at h1
 exact ⟨_,_,_,_,dd,hev,h1,h2⟩
end
end Go.T
namespace Go.T
open Go.Ab
variable [Go.Ab.DM]
def kindAt (ops:Array Oper) (i:Nat):OpKind:=match ops[i]? with | some o=>kd true o | none=>.pure
def wf (N:Nat):Code → Hint → Bool
 | .seq a b,h=>(match h with
   | .j _ ha hb=>wf N a ha && wf N b hb
   | .n ha hb=>wf N a ha && wf N b hb
   | _=>wf N a .o && wf N b .o)
 | .cond _ x y,h=>(match h with
   | .n hx hy=>wf N x hx && wf N y hy
   | _=>wf N x .o && wf N y .o)
 | .block _ b,h=>(match h with
   | .jb _ hb=>wf N b hb
   | .b hb=>wf N b hb
   | _=>wf N b .o)
 | .loop b,h=>(match h with
   | .l _ hb=>wf N b hb
   | .u _ hb=>wf N b hb
   | .lm _ _ hb=>(match b with
     | .seq (.region _ ops false) rest=>ops.toList.all (okOp N ops.toList) && wf N rest hb
     | _=>false)
   | _=>true)
 | .region _ ops draw,h=>(match draw,h with
   | false,_=>ops.toList.all (okOp N ops.toList)
   | true,.r plan=>ops.toList.all (okOp N ops.toList) && goodPlan ops (plan.map fun i=>(kindAt ops i,i))
   | true,.rf i plan=>ops.toList.all (okOp N ops.toList) && goodPlanH ops i (plan.map fun i=>(kindAt ops i,i))
   | true,_=>true)
 | _,_=>true
omit [Go.Ab.DM] in
theorem iter_some {S E:Type} {body:S → Option (S ⊕ E)} {x:S} {r:E} (h:zCv body x = some r):∃ n,iterN body n x = some r:=by
 unfold zCv at h
 split at h
 · rename_i hx
   have h2:=Classical.choose_spec (Classical.choose_spec hx)
   rw [Option.some.inj h] at h2
   exact ⟨_,h2⟩
 · cases h
theorem planned_ops {ops:Array Oper}:∀ plan:List Nat,zAo ops (plan.map fun i=>(kindAt ops i,i)) = (planOps ops.toList plan).map fun o=>(kd true o,o)
 | []=>rfl
 | i :: plan=>by
   have ih:=planned_ops (ops:=ops) plan
   unfold zAo at ih ⊢
   rw [List.map_cons,List.filterMap_cons,ih]
   simp only [planOps,kindAt]
   have:ops.toList[i]? = ops[i]?:=by simp
   rw [this]
   cases ops[i]? <;> rfl
theorem planOps_mem {l:List Oper} {o:Oper}:∀ {plan:List Nat},o ∈ planOps l plan → o ∈ l
 | [],h=>by cases h
 | i :: plan,h=>by
   simp only [planOps] at h
   split at h
   · rename_i o' ho
     rcases List.mem_cons.1 h with rfl | h
     · exact List.mem_of_getElem? ho
     · exact planOps_mem h
   · exact planOps_mem h
section
variable {P:Program} {Γ:List Con} {B:Base} {f:FuncId} {N n0:Nat} {Rp:D → Heap → Prop}
def Cont (P:Program) (f:FuncId) (N n0:Nat) (Rp:D → Heap → Prop) (B:Base) (d:Nat) (ζ:Nat → Row) (num:Nat → Nat) (s:St) {R:Type} (k:St → Option R) (r:R) (K:List Item):Prop :=
 ∀ ζ' num' s' e' H',k s' = some r → Abs B ζ' num' s' e' H' → Plain s' → Le d ζ num s ζ' num' s' → Run P f N n0 Rp K e' H'
theorem Le.mono {d d':Nat} {ζ num s ζ' num' s'} (h:Le d' ζ num s ζ' num' s') (hd:d ≤ d'):Le d ζ num s ζ' num' s' :=
 ⟨fun n ent h1 h2=>h.env n ent h1 (Nat.lt_of_lt_of_le h2 hd),fun r lv h1 h2=>h.rows r lv h1 (Nat.lt_of_lt_of_le h2 hd)⟩
theorem Cont.from {d d':Nat} {ζ num s ζ1 num1 s1} {R:Type} {k:St → Option R} {r:R} {K:List Item} (h:Cont P f N n0 Rp B d ζ num s k r K) (hle:Le d ζ num s ζ1 num1 s1) (hd:d ≤ d'):Cont P f N n0 Rp B d' ζ1 num1 s1 k r K :=
 fun ζ' num' s' e' H' h1 h2 h3 h4=>h ζ' num' s' e' H' h1 h2 h3 (hle.trans (h4.mono hd))
theorem unpack_plain {d:Nat} {σ:Sig} {x:σ.I} {s:St} (h:Plain s):Plain (zAp d σ x s):=by
 refine ⟨rfl,fun n ent hf=>?_⟩
 have hf:zAl (slotE d σ.slots (zBr (σ.slots.map (·.2)) (zAI (zAX σ.tys) x)).1 ++ keepE s.env σ.keep) n = some ent:=hf
 rw [findE_app] at hf
 split at hf
 · rename_i e he
   have:=Option.some.inj hf;subst this
   have:∀ (l:List (Nat × Ty)) (us:List TV) (e:Ent),zAl (slotE d l us) n = some e → e.c = []:=by
     intro l
     induction l with
     | nil=>intro us e h;cases h
     | cons p l ih =>
       intro us e h
       cases us with
       | nil=>cases h
       | cons u us =>
         simp only [slotE,zAl] at h
         cases hb:Nat.beq p.1 n with
         | true=>rw [hb,cond_true] at h;have:=Option.some.inj h;subst this;rfl
         | false=>rw [hb] at h;exact ih us e h
   exact this _ _ _ he
 · exact h.c n ent (keepE_at hf).1
theorem getX_map {R R':Type} {g:(St → Option R) → St → Option R'}:∀ {ex:List (Nat × (St → Option R))} {i:Nat} {k':St → Option R'},getX (mapX g ex) i = some k' → ∃ k,getX ex i = some k ∧ k' = g k
 | [],i,k',h=>by cases h
 | p :: ex,i,k',h=>by
   simp only [mapX,getX] at h ⊢
   cases hb:Nat.beq p.1 i with
   | true=>rw [hb,cond_true] at h;exact ⟨p.2,rfl,(Option.some.inj h).symm⟩
   | false=>rw [hb] at h;exact getX_map h
structure Outs (P:Program) (f:FuncId) (N n0:Nat) (Rp:D → Heap → Prop) (B:Base) (ζ:Nat → Row) (num:Nat → Nat) (s:St) {R:Type} (cx:Cx R) (r:R) (K:List Item):Prop where
 ex:∀ i k',getX cx.ex i = some k' → ∃ K',exitTo i K = some K' ∧ Cont P f N n0 Rp B cx.d ζ num s k' r K'
 ret:∀ K',Cont P f N n0 Rp B cx.d ζ num s cx.ret r (.code .ret :: K')
theorem Outs.from {ζ num s ζ1 num1 s1} {R:Type} {cx:Cx R} {r:R} {K:List Item} (h:Outs P f N n0 Rp B ζ num s cx r K) (hle:Le cx.d ζ num s ζ1 num1 s1):Outs P f N n0 Rp B ζ1 num1 s1 cx r K :=
 ⟨fun i k' hk=>by obtain ⟨K',h1,h2⟩:=h.ex i k' hk;exact ⟨K',h1,h2.from hle (Nat.le_refl _)⟩,fun K'=>(h.ret K').from hle (Nat.le_refl _)⟩
theorem upR_inr {R S:Type} {k:St → Option R} {s:St} {r:R} (h:upR S k s = some (.inr r)):k s = some r:=by
 unfold upR at h
 cases hk:k s with
 | none=>rw [hk] at h;cases h
 | some r'=>rw [hk] at h;cases h;rfl
theorem upR_inl {R S:Type} {k:St → Option R} {s:St} {x:S} (h:upR S k s = some (.inl x)):False:=by
 unfold upR at h
 cases hk:k s with
 | none=>rw [hk] at h;cases h
 | some r'=>rw [hk] at h;cases h
theorem Outs.innerR {ζ num s ζ1 num1 s1} {R S:Type} {cx:Cx R} {r:R} {K:List Item} (h:Outs P f N n0 Rp B ζ num s cx r K) (hle:Le (cx.d + 1) ζ num s ζ1 num1 s1):Outs P f N n0 Rp B ζ1 num1 s1 (cx.inner S) (.inr r) K :=
 ⟨fun i k' hk=>by
   obtain ⟨k0,h1,h2⟩:=getX_map hk
   obtain ⟨K',h3,h4⟩:=h.ex i k0 h1
   refine ⟨K',h3,fun ζ' num' s' e' H' h5 h6 h7 h8=>?_⟩
   subst h2
   exact h4 ζ' num' s' e' H' (upR_inr h5) h6 h7 ((hle.mono (Nat.le_succ _)).trans (h8.mono (Nat.le_succ _))),
  fun K' ζ' num' s' e' H' h5 h6 h7 h8=>h.ret K' ζ' num' s' e' H' (upR_inr h5) h6 h7 ((hle.mono (Nat.le_succ _)).trans (h8.mono (Nat.le_succ _)))⟩
theorem Outs.innerL {ζ num s ζ1 num1 s1} {R S:Type} {cx:Cx R} {r:R} {x:S} {K:List Item} (h:Outs P f N n0 Rp B ζ num s cx r K):Outs P f N n0 Rp B ζ1 num1 s1 (cx.inner S) (.inl x) K :=
 ⟨fun i k' hk=>by
   obtain ⟨k0,h1,h2⟩:=getX_map hk
   obtain ⟨K',h3,h4⟩:=h.ex i k0 h1
   refine ⟨K',h3,fun ζ' num' s' e' H' h5 h6 h7 h8=>?_⟩
   subst h2
   exact (upR_inl h5).elim,
  fun K' ζ' num' s' e' H' h5 h6 h7 h8=>(upR_inl h5).elim⟩
theorem map_inl {R S:Type} {o:Option S} {x:S} (h:(o.map Sum.inl:Option (S ⊕ R)) = some (.inl x)):o = some x:=by
 cases o with
 | none=>cases h
 | some y=>cases h;rfl
theorem map_inl_r {R S:Type} {o:Option S} {r:R} (h:(o.map Sum.inl:Option (S ⊕ R)) = some (.inr r)):False:=by
 cases o <;> cases h
theorem join_some {S R:Type} {o:Option (S ⊕ R)} {k:S → Option R} {r:R} (h:join o k = some r):(∃ x,o = some (.inl x) ∧ k x = some r) ∨ o = some (.inr r):=by
 unfold join at h
 cases o with
 | none=>cases h
 | some v =>
   cases v with
   | inl x=>exact .inl ⟨x,rfl,h⟩
   | inr r'=>have:=Option.some.inj (show some r' = some r from h);subst this;exact .inr rfl
theorem cont_join {R:Type} {d:Nat} {ζ num s} {σ:Sig} {k2:St → Option R} {r:R} {K:List Item} {k:Nat} (hk:B.k = k) (hp:Plain s) (x:σ.I) (h:k2 (zAp d σ x s) = some r)
   (hC:Cont P f N n0 Rp B d ζ num s k2 r K):Cont P f N n0 Rp B (d + 1) ζ num s (fun s'=>((pack k d σ s').map .inl:Option (σ.I ⊕ R))) (.inl x) K:=fun ζ' num' s' e' H' h1 h2 h3 h4=>by
 obtain ⟨ζ2,num2,H2,g1,g2,g3⟩:=unpack_sound hk (Nat.le_refl d) h2 h4 (map_inl h1)
 exact run_weak g1 (hC ζ2 num2 _ _ H2 h g2 (unpack_plain hp) g3)
end
end Go.T
namespace Go.T
open Go.Ab
variable [Go.Ab.DM]
section
variable {B:Base} {ζ ζ':Nat → Row} {num num':Nat → Nat} {s:St} {e:Env} {H H':Heap}
theorem gone_abs {d q:Nat} (ha:Abs B ζ num s e H) (hql:q < s.rows.length) (hmp:∀ a b l,zAA s.rows q ≠ .mp a b l) :
   Abs B ζ num (zCX q d .gone s) (zCh num (zCX q d .gone s)) H ∧ Le d ζ num s ζ num (zCX q d .gone s) ∧ WeakS e H (zCh num (zCX q d .gone s)) H:=by
 unfold zCX
 have hat:∀ r,zAA (setRow s.rows q d .gone) r = if r = q then .gone else zAA s.rows r:=fun r=>by rw [zCm];simp [hql]
 have hne:∀ r,r ≠ q → zAA (setRow s.rows q d .gone) r = zAA s.rows r:=fun r h=>by rw [hat,if_neg h]
 have heq:zAA (setRow s.rows q d .gone) q = .gone:=by rw [hat,if_pos rfl]
 have hchg:∀ r,r < s.rows.length → RefTl (num r) (zAA s.rows r) (num r) (zAA (setRow s.rows q d .gone) r):=fun r hr=>by
   by_cases h:r = q
   · subst h;rw [heq];exact RefTl.gone _ _ _
   · exact RefTl.of_eq rfl (hne r h)
 have hle:RowsLe s.rows (setRow s.rows q d .gone):=⟨by rw [zBp];exact Nat.le_refl _,fun r hr hl=>by
   by_cases h:r = q
   · subst h;rw [heq] at hl;simp [zAP] at hl
   · rw [hne r h] at hl ⊢;exact ⟨hl,rfl⟩⟩
 have cls:∀ r,zAW (zAA (setRow s.rows q d .gone) r) = true → r ≠ q ∧ zAW (zAA s.rows r) = true:=fun r hl=>by
   by_cases h:r = q
   · subst h;rw [heq] at hl;simp [zAW] at hl
   · rw [hne r h] at hl;exact ⟨h,hl⟩
 refine ⟨⟨rfl,⟨fun r=>?_,fun r z h1 h2 hrz=>ha.hrel.inj r z (cls r h1).2 (cls z h2).2 hrz,fun r t x h=>?_⟩,fun n ent h1 h2=>zCf hle _ _ (ha.ok n ent h1 h2),ha.gs,fun r hl=>ha.base r (cls r hl).2,ha.hlen,by show B.k ≤ (setRow _ _ _ _).length;rw [zBp];exact ha.klen,lens_le ha.lens ha.klen hle⟩,⟨fun n ent h _=>h,fun r lv h1 h2=>?_⟩,WeakS.env fun i=>?_⟩
 · by_cases h:r = q
   · subst h;show zBu _ _ _ _ _ (zAA (setRow _ _ _ _) _);rw [heq];trivial
   · refine row_keep (ha.hrel.row r) (fun t x hx=>ha.hrel.ok r t x hx) (hne r h) rfl rfl (fun _=>rfl) (fun m a b l hm _=>?_) hchg
     have hmq:m ≠ q:=by intro hmq;subst hmq;exact hmp a b l hm
     exact ⟨by rw [hne m hmq];exact hm,rfl,rfl⟩
 · have h:zAA (setRow s.rows q d .gone) r = .one t x:=h
   by_cases h':r = q
   · subst h';rw [heq] at h;cases h
   · rw [hne r h'] at h;exact zCf hle t x (ha.hrel.ok r t x h)
 · have h1:zAT (setRow s.rows q d .gone) r = some lv:=h1
   rw [zBT] at h1
   by_cases h:r = q
   · subst h;rw [if_pos ⟨rfl,hql⟩] at h1;have:=Option.some.inj h1;omega
   · rw [if_neg (fun h'=>h h'.1)] at h1;exact ⟨h1,hne r h,rfl,rfl⟩
 · rw [ha.env]
   unfold zCh
   dsimp only
   cases hf:zAl s.env i with
   | none=>exact Tl.any _
   | some ent =>
     simp only [entD]
     cases hh:zAw s.gs ent.c with
     | false=>exact Tl.refl _
     | true=>simp only [if_true];exact encV_chg hchg (ha.ok i ent hf hh)
theorem it_step {d q m:Nat} (ha:Abs B ζ num s e H) (hq:zAA s.rows q = .itb m ∨ ∃ k v x y,zAA s.rows q = .ite m k v x y) {k v:Ty} {l:List (k.I × v.I)} {x:k.I} {y:v.I} {since:Nat} {seen:List Nat} {b:Nat} {es:MapD} {cl:Nat} {dv:D}
   (hm:zAA s.rows m = .mp k v l) (hes:H.get (num m) = some (.mp es cl)) (hfind:es.find? (fun p=>p.1 == b) = some (b,keyV k x,dv)) (he0:e0 k x = .v (keyV k x)) (hkp:k.pure = true) (htl:Tl dv (e0 v y)) :
   Step B d ζ num s e (.tup [.v (.bool true),.v (keyV k x),dv]) (H.set (num q) (some (.it (num m) since (seen ++ [b]) cl))) (tupV [⟨.tt,()⟩,⟨k,x⟩,⟨v,y⟩]) (zCX q d (.ite m k v x y) s) (updN ζ q (.it (num m) since (seen ++ [b]) cl)) num (H.set (num q) (some (.it (num m) since (seen ++ [b]) cl))):=by
 have hql:q < s.rows.length:=zAt (by rcases hq with h | ⟨_,_,_,_,h⟩ <;> rw [h] <;> simp)
 have hl0:zAW (zAA s.rows q) = true:=by rcases hq with h | ⟨_,_,_,_,h⟩ <;> rw [h] <;> rfl
 have hlm:zAW (zAA s.rows m) = true:=by rw [hm];rfl
 have hqm:m ≠ q:=by intro h;subst h;rcases hq with h | ⟨_,_,_,_,h⟩ <;> rw [hm] at h <;> cases h
 have hvp:v.pure = true:=by have:=ha.hrel.row m;rw [hm] at this;exact this.2.1
 have hgl:=live_lt ha.hrel hl0
 refine set_stepZ ha hql (SameRel.refl _) hl0 ⟨by rw [Heap.get_set H hgl,if_pos rfl,zBc],⟨k,v,l,by rw [zCY hqm];exact hm⟩,hkp,hvp,since,seen,b,es,cl,dv,?_,zBc _ _ _,hfind,he0,htl⟩ ?_ (fun h=>by simp [zAP] at h) (fun t x h=>by cases h)
   (fun a b l h=>by rcases hq with h' | ⟨_,_,_,_,h'⟩ <;> rw [h] at h' <;> cases h') ?_ ?_
 · rw [Heap.get_set H hgl,if_neg (ha.hrel.inj m q hlm hl0 hqm)];exact hes
 · rcases hq with h | ⟨_,_,_,_,h⟩ <;> rw [h] <;> exact ⟨Tl.refl _,fun _=>Tl.refl _,fun _=>Tl.refl _,fun _ _=>Tl.refl _,Tl.refl _⟩
 · rw [enc_tup]
   refine Tl.tup (.cons (Tl.refl _) (.cons (Tl.of_eq ?_) (.cons ?_ .nil)))
   · rw [← he0];show (E k _ x).1 = (E k _ x).1;rw [E_pure k hkp]
   · have:enc (zAB num (setRow s.rows q d (.ite m k v x y))) ⟨v,y⟩ = e0 v y:=by show (E v _ y).1 = (E v _ y).1;rw [E_pure v hvp]
     rw [this];exact htl
 · exact ok_tup _ fun u hu=>by
     simp only [List.mem_cons,List.not_mem_nil,or_false] at hu
     rcases hu with rfl | rfl | rfl
     · trivial
     · exact zCG k x hkp
     · exact zCG v y hvp
theorem rowIn_none:∀ {l:List (Nat × RTy)} {r:Nat} (vs:List TV),zBM l r = none → rowIn (zBY l vs) r = none
 | [],r,vs,h=>rfl
 | (q,e) :: l,r,vs,h=>by
   simp only [zBM] at h
   cases hb:Nat.beq q r with
   | true=>rw [hb] at h;cases h
   | false =>
     rw [hb,cond_false] at h
     simp only [zBY]
     cases e.dat.triv with
     | true=>simp only [cond_true,rowIn,hb,cond_false];exact rowIn_none vs h
     | false =>
       simp only [cond_false]
       cases vs with
       | nil=>rfl
       | cons v vs=>simp only [rowIn,hb,cond_false];exact rowIn_none vs h
theorem newRows_ne {dl d r:Nat} {x:TRow} {l:List (Nat × TRow)} {base:Rows}:∀ (n i:Nat),r < i → zBm dl l (setRow base r d x) i n = zBm dl l base i n
 | 0,i,h=>rfl
 | n + 1,i,h=>by
   simp only [zBm]
   rw [newRows_ne n (i + 1) (by omega),zBT,zCm,if_neg (by omega),if_neg (by omega)]
theorem newRows_set {dl d r:Nat} {x:TRow} {l:List (Nat × TRow)} {base:Rows} (hb:r < base.length) (hl:rowIn l r = none):∀ (n i:Nat),i ≤ r → r < i + n → zBm dl l (setRow base r d x) i n = setRow (zBm dl l base i n) (r - i) d x
 | 0,i,h,h'=>by omega
 | n + 1,i,h,h'=>by
   by_cases hri:r = i
   · subst hri
     rw [Nat.sub_self]
     simp only [zBm,setRow]
     rw [newRows_ne n (r + 1) (Nat.lt_succ_self r),hl,zBT,zCm,if_pos ⟨rfl,hb⟩,if_pos ⟨rfl,hb⟩]
   · obtain ⟨k,hk⟩:∃ k,r - i = k + 1:=⟨r - i - 1,by omega⟩
     rw [hk]
     simp only [zBm,setRow]
     rw [newRows_set hb hl n (i + 1) (by omega) (by omega),show r - (i + 1) = k by omega,zBT,zCm,if_neg (by omega),if_neg (by omega)]
theorem unpack_set {dl d r:Nat} {row:TRow} {σ:Sig} {x:σ.I} (hl:zBM σ.rows r = none) (hr:r < σ.n) (hb:r < s.rows.length):zAp dl σ x (zCX r d row s) = zCX r d row (zAp dl σ x s):=by
 unfold zAp zCX
 dsimp only
 rw [newRows_set hb (rowIn_none _ hl) σ.n 0 (Nat.zero_le _) (by omega),Nat.sub_zero]
theorem stamp_lt:∀ (rows:Rows) (r:Nat),r < rows.length → ∃ lv,zAT rows r = some lv
 | [],r,h=>absurd h (Nat.not_lt_zero _)
 | p :: rows,0,h=>⟨_,rfl⟩
 | p :: rows,r + 1,h=>stamp_lt rows r (Nat.lt_of_succ_lt_succ h)
theorem unpack_keep {dl r:Nat} {σ:Sig} {x:σ.I} (hl:zBM σ.rows r = none) (hr:r < σ.n) (hb:r < s.rows.length):zAA (zAp dl σ x s).rows r = zAA s.rows r ∧ zAT (zAp dl σ x s).rows r = zAT s.rows r:=by
 have key:∀ (n i:Nat) (l:List (Nat × TRow)),rowIn l r = none → i ≤ r → r < i + n → zAA (zBm dl l s.rows i n) (r - i) = zAA s.rows r ∧ zAT (zBm dl l s.rows i n) (r - i) = zAT s.rows r:=by
   intro n
   induction n with
   | zero=>intro i l _ h h';omega
   | succ n ih =>
     intro i l hl h h'
     by_cases hri:r = i
     · subst hri
       rw [Nat.sub_self]
       simp only [zBm,hl]
       obtain ⟨lv,h1⟩:=stamp_lt s.rows r hb
       rw [h1]
       exact ⟨rfl,rfl⟩
     · obtain ⟨k,hk⟩:∃ k,r - i = k + 1:=⟨r - i - 1,by omega⟩
       rw [hk]
       simp only [zBm,zAA,zAT]
       have:=ih (i + 1) l hl (by omega) (by omega)
       rw [show r - (i + 1) = k by omega] at this
       exact this
 have:=key σ.n 0 (zBY σ.rows (zBr (σ.slots.map (·.2)) (zAI (zAX σ.tys) x)).2) (rowIn_none _ hl) (Nat.zero_le _) (by omega)
 rw [Nat.sub_zero] at this
 exact this
theorem pack_kept {k d:Nat} {σ:Sig} {x:σ.I} (h:pack k d σ s = some x) {r:Nat} (hr:r < σ.n) (hl:zBM σ.rows r = none):∃ lv,zAT s.rows r = some lv ∧ lv ≤ d:=by
 unfold pack at h
 split at h
 rotate_left
 · cases h
 dsimp only at h
 obtain ⟨hb,h⟩:=zAa h
 simp only [Bool.and_eq_true] at hb
 obtain ⟨⟨⟨⟨⟨⟨⟨⟨⟨hkeep,hrows⟩,hinj⟩,hbelow⟩,hkb⟩,hsb⟩,hrb⟩,hkr⟩,hkn⟩,hrho⟩:=hb
 obtain ⟨lv,h1,h2⟩:=rowsOk_at hrows r hr hl
 rcases stampAt_freeze _ _ s.rows 0 r lv h1 with h3 | h3
 · omega
 · exact ⟨lv,h3.1,h2⟩
theorem keepE_find {env:List Ent} {n:Nat} {ent:Ent} (hf:zAl env n = some ent):∀ {l:List Nat},n ∈ l → zAl (keepE env l) n = some ent
 | m :: l,h=>by
   simp only [keepE]
   by_cases hmn:m = n
   · subst hmn
     rw [hf]
     simp only [zAl]
     rw [findE_s hf,Nat.beq_refl];rfl
   · have hl:n ∈ l:=by rcases List.mem_cons.1 h with h | h;exact absurd h.symm hmn;exact h
     cases hm:zAl env m with
     | none=>exact keepE_find hf hl
     | some e0 =>
       simp only [zAl]
       have:Nat.beq e0.s n = false:=by
         rw [findE_s hm]
         cases hb:Nat.beq m n with
         | true=>rw [Nat.beq_eq] at hb;exact absurd hb hmn
         | false=>rfl
       rw [this,cond_false];exact keepE_find hf hl
theorem slotE_none {dl n:Nat}:∀ {l:List (Nat × Ty)} (us:List TV),(∀ p ∈ l,p.1 ≠ n) → zAl (slotE dl l us) n = none
 | [],us,h=>rfl
 | (m,t) :: l,us,h=>by
   cases us with
   | nil=>rfl
   | cons u us =>
     simp only [slotE,zAl]
     have:Nat.beq m n = false:=by
       cases hb:Nat.beq m n with
       | true=>rw [Nat.beq_eq] at hb;exact absurd hb (h (m,t) (List.mem_cons_self ..))
       | false=>rfl
     rw [this,cond_false];exact slotE_none us fun p hp=>h p (List.mem_cons_of_mem _ hp)
theorem unpack_find {dl n:Nat} {σ:Sig} {x:σ.I} {ent:Ent} (hf:zAl s.env n = some ent) (hk:n ∈ σ.keep) (hs:∀ p ∈ σ.slots,p.1 ≠ n):zAl (zAp dl σ x s).env n = some ent:=by
 show zAl (slotE _ _ _ ++ keepE _ _) n = _
 rw [findE_app,slotE_none _ hs]
 exact keepE_find hf hk
end
theorem perm_pick {α:Type} (f:α → Nat):∀ (A:List α),(A.map f).Nodup → ∀ a ∈ A,(a :: A.filter fun x=>!(f x == f a)).Perm A
 | [],_,a,h=>by cases h
 | b :: A,hn,a,h=>by
   simp only [List.map_cons,List.nodup_cons] at hn
   rcases List.mem_cons.1 h with rfl | h
   · have:(a :: A).filter (fun x=>!(f x == f a)) = A:=by
       rw [List.filter_cons_of_neg (by simp)]
       refine List.filter_eq_self.2 fun x hx=>?_
       have:f x ≠ f a:=fun h=>hn.1 (h ▸ List.mem_map_of_mem hx)
       simp [this]
     rw [this]
   · have hba:f b ≠ f a:=fun h'=>hn.1 (h' ▸ List.mem_map_of_mem h)
     rw [List.filter_cons_of_pos (by simp [hba])]
     exact (List.Perm.swap b a _).trans ((perm_pick f A hn.2 a h).cons b)
theorem find_born:∀ {es:MapD} {p:Nat × Value × D},(es.map (·.1)).Nodup → p ∈ es → es.find? (fun q=>q.1 == p.1) = some p
 | [],p,_,h=>by cases h
 | q :: es,p,hn,h=>by
   simp only [List.map_cons,List.nodup_cons] at hn
   rcases List.mem_cons.1 h with rfl | h
   · simp
   · have:q.1 ≠ p.1:=fun h'=>hn.1 (h' ▸ List.mem_map_of_mem h)
     rw [List.find?_cons_of_neg (by simp [this])]
     exact find_born hn.2 h
theorem mrange_some {A S E:Type} {l:List A} {Bd:A → S → Option (S ⊕ E)} {Nd:S → Option (S ⊕ E)} {s:S} {r:E} (h:mrange l Bd Nd s = some r):∀ l',l'.Perm l → foldM Bd Nd l' s = some r:=by
 unfold mrange at h
 split at h
 · rename_i hx
   have h2:=Classical.choose_spec hx
   rw [Option.some.inj h] at h2
   exact h2
 · cases h
theorem key_e0 {k:Ty} (h:(keq k).isSome = true) (x:k.I):e0 k x = .v (keyV k x):=by
 cases k <;> first | (simp [keq] at h;done) | rfl
theorem key_pure {k:Ty} (h:(keq k).isSome = true):k.pure = true:=by
 cases k <;> first | (simp [keq] at h;done) | rfl
section
variable {P:Program} {Γ:List Con} {B:Base} {f:FuncId} {N n0:Nat} {Rp:D → Heap → Prop}
def SoundAt (P:Program) (Γ:List Con) (B:Base) (f:FuncId) (N n0:Nat) (Rp:D → Heap → Prop) (c:Code):Prop :=
 ∀ {R:Type} (h:Hint) (cx:Cx R) (k:St → Option R) (s:St) (r:R) (ζ:Nat → Row) (num:Nat → Nat) (e:Env) (H:Heap) (K:List Item),wf N c h = true → B.k = cx.k → Abs B ζ num s e H → Plain s → trun P Γ c h cx k s = some r →
   Cont P f N n0 Rp B cx.d ζ num s k r K → Outs P f N n0 Rp B ζ num s cx r K → Run P f N n0 Rp (.code c :: K) e H
theorem Outs.innerMR {ζ num s ζ1 num1 s1} {R S:Type} {q:Nat} {cx:Cx R} {r:R} {K:List Item} (h:Outs P f N n0 Rp B ζ num s cx r K) (hle:Le cx.d ζ num s ζ1 num1 s1):Outs P f N n0 Rp B ζ1 num1 s1 (cx.innerM S q) (.inr r) K:=by
 have go:∀ (k0:St → Option R) (K':List Item),Cont P f N n0 Rp B cx.d ζ num s k0 r K' → Cont P f N n0 Rp B (cx.d + 1) ζ1 num1 s1 (fun s'=>upR S (dropK q (cx.d + 1) k0) s') (.inr r) K':=fun k0 K' hC ζ' num' s' e' H' h5 h6 h7 h8=>by
   have h9:=upR_inr h5
   obtain ⟨h9,hmp⟩:k0 (zCX q (cx.d + 1) .gone s') = some r ∧ ∀ a b l,zAA s'.rows q ≠ .mp a b l:=by
     unfold dropK at h9
     split at h9
     · cases h9
     · rename_i hne;exact ⟨h9,fun a b l h=>hne a b l h⟩
   have hle':Le cx.d ζ num s ζ' num' s':=hle.trans (h8.mono (Nat.le_succ _))
   by_cases hql:q < s'.rows.length
   · obtain ⟨g1,g2,g3⟩:=gone_abs (d:=cx.d + 1) h6 hql hmp
     exact run_weak g3 (hC ζ' num' _ _ H' h9 g1 ⟨h7.gs,h7.c⟩ (hle'.trans (g2.mono (Nat.le_succ _))))
   · have hs:zCX q (cx.d + 1) .gone s' = s':=by
       unfold zCX
       have:∀ (rows:Rows) (q:Nat),¬ q < rows.length → setRow rows q (cx.d + 1) .gone = rows:=by
         intro rows
         induction rows with
         | nil=>intro q _;rfl
         | cons p rows ih=>intro q h;cases q with
           | zero=>simp at h
           | succ q=>simp only [setRow];rw [ih q (by simpa using h)]
       rw [this _ _ hql]
     rw [hs] at h9
     exact hC ζ' num' s' e' H' h9 h6 h7 hle'
 exact ⟨fun i k' hk=>by
   obtain ⟨k0,h1,h2⟩:=getX_map hk
   obtain ⟨K',h3,h4⟩:=h.ex i k0 h1
   subst h2
   exact ⟨K',h3,go k0 K' h4⟩,fun K'=>go cx.ret _ (h.ret K')⟩
theorem Outs.innerML {ζ num s ζ1 num1 s1} {R S:Type} {q:Nat} {cx:Cx R} {r:R} {x:S} {K:List Item} (h:Outs P f N n0 Rp B ζ num s cx r K):Outs P f N n0 Rp B ζ1 num1 s1 (cx.innerM S q) (.inl x) K :=
 ⟨fun i k' hk=>by
   obtain ⟨k0,h1,h2⟩:=getX_map hk
   obtain ⟨K',h3,h4⟩:=h.ex i k0 h1
   refine ⟨K',h3,fun ζ' num' s' e' H' h5 h6 h7 h8=>?_⟩
   subst h2
   exact (upR_inl h5).elim,
  fun K' ζ' num' s' e' H' h5 h6 h7 h8=>(upR_inl h5).elim⟩
theorem run_breg' {id:Nat} {ops:Array Oper} {l:List Oper} {e:Env} {H:Heap} {K:List Item} (hl:ops.toList = l) (h:bops P N l.toArray (l.map fun o=>(zAE o,o)) e H fun e' H'=>Run P f N n0 Rp K e' H'):Run P f N n0 Rp (.code (.region id ops false) :: K) e H:=by
 have:ops = l.toArray:=by rw [← hl]
 subst this
 exact run_breg h
theorem lm_sound (hΓ:∀ c ∈ Γ,zAu P c) {σ:Sig} {r m:Nat} {kt vt:Ty} {l:List (kt.I × vt.I)} {id:Nat} {ops:Array Oper} {rest:Code} {o:Oper} {os:List Oper} {hb:Hint} {R:Type} {cx:Cx R} {s:St} {res:R} {ζ:Nat → Row} {num:Nat → Nat} {e:Env} {H:Heap} {K:List Item} {x0:σ.I}
   (hrest:SoundAt P Γ B f N n0 Rp rest) (hw1:ops.toList.all (okOp N ops.toList) = true) (hw2:wf N rest hb = true) (hk:B.k = cx.k) (ha:Abs B ζ num s e H) (hp:Plain s)
   (hr:zAA s.rows r = .itb m) (hm:zAA s.rows m = .mp kt vt l) (hl:zBM σ.rows r = none) (hlm:zBM σ.rows m = none) (hops:ops.toList = o :: os) (hrn:r < σ.n) (hmn:m < σ.n) (hnext:isNext s.env σ r o = true) (hx0:pack cx.k cx.d σ s = some x0)
   (hmr:mrange l
           (fun p x=>match put (cx.d + 1) o.dst [] (tupV [⟨.tt,()⟩,⟨kt,p.1⟩,⟨vt,p.2⟩]) (zCX r cx.d (.ite m kt vt p.1 p.2) (zAp (cx.d + 1) σ x s)) with
             | some u=>opsT P Γ false (cx.d + 1) (o :: os) os u fun s1=>trun P Γ rest hb (cx.innerM σ.I r) (fun s'=>(pack cx.k cx.d σ s').map .inl) s1
             | none=>none)
           (fun x=>match put (cx.d + 1) o.dst [] (tupV [⟨.ff,()⟩]) (zCX r cx.d .gone (zAp (cx.d + 1) σ x s)) with
             | some u=>opsT P Γ false (cx.d + 1) (o :: os) os u fun s1=>trun P Γ rest hb (cx.innerM σ.I r) (fun _=>none) s1
             | none=>none) x0 = some res)
   (hO:Outs P f N n0 Rp B ζ num s cx res K):Run P f N n0 Rp (.code (.seq (.region id ops false) rest) :: .inLoop (.seq (.region id ops false) rest) :: K) e H:=by
 have hrl:r < s.rows.length:=zAt (by rw [hr];simp)
 have hml:m < s.rows.length:=zAt (by rw [hm];simp)
 obtain ⟨lvr,hsr,hsrd⟩:=pack_kept hx0 hrn hl
 obtain ⟨lvm,hsm,hsmd⟩:=pack_kept hx0 hmn hlm
 have hRm:=ha.hrel.row m
 rw [hm] at hRm
 obtain ⟨hke,hvp,es',cl',⟨hes',hζm⟩,hk1,hv1,hlt,hnd⟩:=hRm
 have hkp:=key_pure hke
 have hRr:=ha.hrel.row r
 rw [hr] at hRr
 obtain ⟨hgr,_,es,cl,hes,hζr⟩:=hRr
 rw [hes] at hes'
 obtain ⟨rfl,rfl⟩:es = es' ∧ cl = cl':=by have:=Option.some.inj hes';simp only [Row.mp.injEq] at this;exact this
 clear hes'
 obtain ⟨dst,op,oty,pos,after,guard⟩:=o
 unfold isNext at hnext
 split at hnext
 rotate_left
 · cases hnext
 rename_i t hop hgu
 have hop:op = .next (.tmp t) false:=hop
 have hgu:guard = none:=hgu
 subst hop hgu
 split at hnext
 rotate_left
 · cases hnext
 rename_i e1s e1l q yq hft
 simp only [Bool.and_eq_true,Nat.beq_eq] at hnext
 obtain ⟨⟨rfl,hkt⟩,hst⟩:=hnext
 have hkt:t ∈ σ.keep:=by
   obtain ⟨z,h1,h2⟩:=List.any_eq_true.1 hkt
   rw [Nat.beq_eq] at h2;exact h2 ▸ h1
 have hst:∀ p ∈ σ.slots,p.1 ≠ t:=fun p hp hpt=>by
   have:(σ.slots.any fun p=>Nat.beq p.1 t) = true:=List.any_eq_true.2 ⟨p,hp,by rw [hpt];exact Nat.beq_refl t⟩
   rw [this] at hst;cases hst
 have hw1':∀ o' ∈ ops.toList,okOp N ops.toList o' = true:=List.all_eq_true.1 hw1
 have hdst:dstOk N dst:=by
   have:=hw1' _ (by rw [hops];exact List.mem_cons_self ..)
   simp only [okOp,Bool.and_eq_true] at this
   exact dstB_ok this.1
 have hfold:=mrange_some hmr
 generalize hBd:(fun (p:kt.I × vt.I) (x:σ.I)=>(match put (cx.d + 1) dst [] (tupV [⟨.tt,()⟩,⟨kt,p.1⟩,⟨vt,p.2⟩]) (zCX q cx.d (.ite m kt vt p.1 p.2) (zAp (cx.d + 1) σ x s)) with
               | some u=>opsT P Γ false (cx.d + 1) (⟨dst,.next (.tmp t) false,oty,pos,after,none⟩ :: os) os u fun s1=>trun P Γ rest hb (cx.innerM σ.I q) (fun s'=>(pack cx.k cx.d σ s').map .inl) s1
               | none=>none:Option (σ.I ⊕ R))) = Bd at hfold
 generalize hNd:(fun (x:σ.I)=>(match put (cx.d + 1) dst [] (tupV [⟨.ff,()⟩]) (zCX q cx.d .gone (zAp (cx.d + 1) σ x s)) with
               | some u=>opsT P Γ false (cx.d + 1) (⟨dst,.next (.tmp t) false,oty,pos,after,none⟩ :: os) os u fun s1=>trun P Γ rest hb (cx.innerM σ.I q) (fun _=>none) s1
               | none=>none:Option (σ.I ⊕ R))) = Nd at hfold
 have hlen:es.length = l.length:=by have:=congrArg List.length hk1;simpa using this
 let left:List Nat → List ((Nat × Value × D) × (kt.I × vt.I)):=fun seen=>(es.zip l).filter fun z=>!seen.contains z.1.1
 have hleft:∀ seen,leftM es seen = (left seen).map (·.1):=fun seen=>by
   show es.filter _ = ((es.zip l).filter _).map _
   have:∀ (es:MapD) (l:List (kt.I × vt.I)),es.length = l.length → (es.filter fun p=>!seen.contains p.1) = ((es.zip l).filter fun z=>!seen.contains z.1.1).map (·.1):=by
     intro es
     induction es with
     | nil=>intro l _;simp
     | cons a es ih =>
       intro l hl
       cases l with
       | nil=>simp at hl
       | cons b l =>
         simp only [List.zip_cons_cons,List.filter_cons]
         rw [ih l (by simpa using hl)]
         split <;> rfl
   exact this es l hlen
 have hnodup:((es.zip l).map (fun z=>z.1.1)).Nodup:=by
   have:(es.zip l).map (fun z=>z.1.1) = es.map (·.1):=by
     have h:((es.zip l).map (·.1)) = es:=by rw [List.map_fst_zip];omega
     rw [← h,List.map_map,h];rfl
   rw [this];exact hnd
 have hzip:∀ z ∈ es.zip l,z.1 ∈ es ∧ z.1.2.1 = keyV kt z.2.1 ∧ Tl z.1.2.2 (e0 vt z.2.2):=fun z hz=>by
   refine ⟨(List.of_mem_zip hz).1,?_,?_⟩
   · have:∀ (es:MapD) (l:List (kt.I × vt.I)),es.map (·.2.1) = l.map (fun p=>keyV kt p.1) → ∀ z ∈ es.zip l,z.1.2.1 = keyV kt z.2.1:=by
       intro es
       induction es with
       | nil=>intro l _ z hz;simp at hz
       | cons a es ih =>
         intro l h z hz
         cases l with
         | nil=>simp at hz
         | cons b l =>
           simp only [List.map_cons,List.cons.injEq] at h
           rcases List.mem_cons.1 (by simpa using hz) with rfl | hz
           · exact h.1
           · exact ih l h.2 z hz
     exact this es l hk1 z hz
   · have:∀ (es:MapD) (l:List (kt.I × vt.I)),Tls (es.map (·.2.2)) (l.map fun p=>e0 vt p.2) → ∀ z ∈ es.zip l,Tl z.1.2.2 (e0 vt z.2.2):=by
       intro es
       induction es with
       | nil=>intro l _ z hz;simp at hz
       | cons a es ih =>
         intro l h z hz
         cases l with
         | nil=>simp at hz
         | cons b l =>
           simp only [List.map_cons] at h
           cases h with
           | cons h1 h2 =>
             rcases List.mem_cons.1 (by simpa using hz) with rfl | hz
             · exact h1
             · exact ih l h2 z hz
     exact this es l hv1 z hz
 have main:∀ (n:Nat) (seen:List Nat) (sb:St) (ζb:Nat → Row) (x:σ.I) (ζ1:Nat → Row) (num1:Nat → Nat) (H1:Heap),(left seen).length = n → sb.gs = s.gs → sb.env = s.env → sb.rows.length = s.rows.length → (∀ row,zCX q cx.d row sb = zCX q cx.d row s) → zAA sb.rows m = .mp kt vt l → zAT sb.rows m = some lvm →
     (zAA sb.rows q = .itb m ∨ ∃ k v x y,zAA sb.rows q = .ite m k v x y) → (∃ lv,zAT sb.rows q = some lv ∧ lv ≤ cx.d) → ζb m = .mp es cl → ζb q = .it (num m) cl seen cl → Le cx.d ζ num s ζb num sb →
     Abs B ζ1 num1 (zAp (cx.d + 1) σ x sb) (zCh num1 (zAp (cx.d + 1) σ x sb)) H1 → Le (cx.d + 1) ζb num sb ζ1 num1 (zAp (cx.d + 1) σ x sb) → (∀ L,L.Perm ((left seen).map (·.2)) → foldM Bd Nd L x = some res) →
     Run P f N n0 Rp (.code (.seq (.region id ops false) rest) :: .inLoop (.seq (.region id ops false) rest) :: K) (zCh num1 (zAp (cx.d + 1) σ x sb)) H1:=by
   intro n
   induction n using Nat.strongRecOn with
   | _ n ihn =>
   intro seen sb ζb x ζ1 num1 H1 hn hgsb henv hlenb hset hmb hsmb hqb hsqb hζbm hζbq hLeb hab hle1 hperm
   obtain ⟨lvq,hsq1,hsq2⟩:=hsqb
   have hqlb:q < sb.rows.length:=by rw [hlenb];exact hrl
   have hmlb:m < sb.rows.length:=by rw [hlenb];exact hml
   obtain ⟨hq1,hq2⟩:=unpack_keep (dl:=cx.d + 1) (x:=x) hl hrn hqlb
   obtain ⟨hm1,hm2⟩:=unpack_keep (dl:=cx.d + 1) (x:=x) hlm hmn hmlb
   obtain ⟨_,hq3,hq4,hq5⟩:=hle1.rows q lvq (by rw [hq2];exact hsq1) (by omega)
   obtain ⟨_,hm3,hm4,hm5⟩:=hle1.rows m lvm (by rw [hm2];exact hsmb) (by omega)
   have hqx:zAA (zAp (cx.d + 1) σ x sb).rows q = .itb m ∨ ∃ k v x' y,zAA (zAp (cx.d + 1) σ x sb).rows q = .ite m k v x' y:=by rw [hq1];exact hqb
   have hmx:zAA (zAp (cx.d + 1) σ x sb).rows m = .mp kt vt l:=by rw [hm1];exact hmb
   have hqlx:q < (zAp (cx.d + 1) σ x sb).rows.length:=zAt (by rcases hqx with h | ⟨_,_,_,_,h⟩ <;> rw [h] <;> simp)
   have hg1m:H1.get (num1 m) = some (.mp es cl):=by
     have h:=hab.hrel.row m
     rw [hmx] at h
     obtain ⟨_,_,es2,cl2,⟨g1,g2⟩,_⟩:=h
     rw [hm5,hζbm] at g2
     rw [g1,← g2]
   have hg1q:H1.get (num1 q) = some (.it (num m) cl seen cl):=by
     have h:=hab.hrel.row q
     rcases hqx with h' | ⟨_,_,_,_,h'⟩ <;> rw [h'] at h <;> rw [h.1,hq5,hζbq]
   have hnm:num1 m = num m:=hm4
   have hnq:num1 q = num q:=hq4
   have hplain:Plain (zAp (cx.d + 1) σ x sb):=unpack_plain ⟨by rw [hgsb];exact hp.gs,fun n ent hf=>hp.c n ent (by rw [← henv];exact hf)⟩
   have hset':∀ row,zCX q cx.d row (zAp (cx.d + 1) σ x s) = zCX q cx.d row (zAp (cx.d + 1) σ x sb):=fun row=>by
     rw [← unpack_set hl hrn hrl,← hset row,unpack_set hl hrn hqlb]
   have hev:zCh num1 (zAp (cx.d + 1) σ x sb) t = .pt (num q) 0 0:=by
     unfold zCh
     rw [unpack_find (by rw [henv];exact hft) hkt hst]
     show p0D (num1 q) 0 (zAA (zAp (cx.d + 1) σ x sb).rows q) = _
     rw [hnq]
     rcases hqx with h' | ⟨_,_,_,_,h'⟩ <;> rw [h'] <;> rfl
   have hqm:m ≠ q:=by intro h;rw [h] at hmb;rcases hqb with h' | ⟨_,_,_,_,h'⟩ <;> rw [hmb] at h' <;> cases h'
   have hQw:∀ e H e' H',WeakS e H e' H' → Run P f N n0 Rp (.code rest :: .inLoop (.seq (.region id ops false) rest) :: K) e' H' → Run P f N n0 Rp (.code rest :: .inLoop (.seq (.region id ops false) rest) :: K) e H:=fun e H e' H' hw h=>run_weak hw h
   have hOl:∀ {R':Type} {cx':Cx R'} {r':R'} {ζ1 num1 s1},Outs P f N n0 Rp B ζ1 num1 s1 cx' r' K → Outs P f N n0 Rp B ζ1 num1 s1 cx' r' (.inLoop (.seq (.region id ops false) rest) :: K):=fun h=>⟨fun i k' hk'=>h.ex i k' hk',h.ret⟩
   have hos:∀ o' ∈ os,okOp N (⟨dst,.next (.tmp t) false,oty,pos,after,none⟩ :: os) o' = true:=fun o' ho=>by
     have:=hw1' o' (by rw [hops];exact List.mem_cons_of_mem _ ho)
     rw [hops] at this;exact this
   have hmpx:∀ a b l',zAA (zAp (cx.d + 1) σ x sb).rows q ≠ .mp a b l':=fun a b l' h=>by
     rcases hqx with h' | ⟨_,_,_,_,h'⟩ <;> rw [h] at h' <;> cases h'
   refine run_seq (run_breg' hops ?_)
   simp only [List.map_cons,bops]
   refine ⟨zCh num1 (zAp (cx.d + 1) σ x sb),H1,WeakS.refl _ _,hdst,?_⟩
   suffices hN:aNext false (ev (zCh num1 (zAp (cx.d + 1) σ x sb)) (.tmp t)) H1 (fun d H'=>bops P N (⟨dst,.next (.tmp t) false,oty,pos,after,none⟩ :: os).toArray (os.map fun o=>(zAE o,o)) (updO (zCh num1 (zAp (cx.d + 1) σ x sb)) dst d) H' fun e' H'=>Run P f N n0 Rp (.code rest :: .inLoop (.seq (.region id ops false) rest) :: K) e' H') from hN
   rw [show ev (zCh num1 (zAp (cx.d + 1) σ x sb)) (.tmp t) = .pt (num q) 0 0 from hev]
   rw [hnq] at hg1q
   rw [hnm] at hg1m
   unfold aNext
   simp only [hg1q,hg1m]
   have hlts:∀ p ∈ es,decide (p.1 < cl) = true:=fun p hp=>decide_eq_true (hlt p hp)
   refine ⟨⟨?_,List.all_eq_true.2 fun p hp=>hlts p (List.mem_filter.1 hp).1⟩,fun hnil=>?_,fun p hpl=>?_⟩
   · cases hes0:es with
     | nil=>simp
     | cons p es=>have:=hlts p (by rw [hes0];exact List.mem_cons_self ..);simp at this;simp [this]
   · -- no entry is left
     rw [hleft] at hnil
     have hnil:left seen = []:=List.map_eq_nil_iff.1 hnil
     have hfo:=hperm [] (by rw [hnil];exact .refl _)
     simp only [foldM] at hfo
     split at hfo
     rotate_left
     · cases hfo
     rename_i r' hN
     have:=Option.some.inj hfo;subst this
     rw [← hNd] at hN
     dsimp only at hN
     rw [hset'] at hN
     split at hN
     rotate_left
     · cases hN
     rename_i u hput
     obtain ⟨g1,g2,g3⟩:=gone_abs (d:=cx.d) hab hqlx hmpx
     have hgok:GOk (cx.d + 1) (zCX q cx.d .gone (zAp (cx.d + 1) σ x sb)):=(show Plain (zCX _ _ _ (zAp (cx.d + 1) σ x sb)) from ⟨hplain.gs,hplain.c⟩).gok _
     obtain ⟨k1,k2,k3,k4⟩:=put_sound (d:=cx.d + 1) (e1:=zCh num1 (zAp (cx.d + 1) σ x sb)) (dd:=.tup [.v (.bool false)]) (H':=H1) g1 hgok hput (fun _=>ok_tup _ fun u hu=>by
         simp only [List.mem_cons,List.not_mem_nil,or_false] at hu
         subst hu;trivial) (fun p hp=>by cases hp) fun own X w hs=>by
       obtain ⟨j1,j2,j3⟩:=g3 own X w hs
       refine ⟨j1,j2,j3,fun y hy=>?_⟩
       rw [if_pos (show zAw _ [] = true from rfl),enc_tup]
       exact hy
     refine bops_weak hQw k1 (opsT_sound (d:=cx.d + 1) hΓ hQw os ζ1 num1 u _ H1 k2 k3 hos hN fun ζ' num' s' H' h1 h2 h3 h4=>?_)
     have hle':Le cx.d ζ num s ζ' num' s':=(hLeb.trans (hle1.mono (Nat.le_succ _))).trans (g2.trans ((k4.mono (Nat.le_succ _)).trans (h4.mono (Nat.le_succ _))))
     exact hrest hb (cx.innerM σ.I q) _ s' _ ζ' num' _ H' _ hw2 hk h2 h3 h1 (fun ζ'' num'' s'' e'' H'' j1 _ _ _=>by cases j1) (hOl (hO.innerMR hle'))
   · -- an entry
     rw [hleft] at hpl
     obtain ⟨z,hz,rfl⟩:=List.mem_map.1 hpl
     have hz':z ∈ es.zip l:=(List.mem_filter.1 hz).1
     obtain ⟨hz1,hz2,hz3⟩:=hzip z hz'
     have hfind:es.find? (fun p=>p.1 == z.1.1) = some (z.1.1,keyV kt z.2.1,z.1.2.2):=by
       rw [find_born hnd hz1,← hz2]
     have hst1:=it_step (d:=cx.d) (since:=cl) (seen:=seen) hab hqx hmx (by rw [hnm];exact hg1m) hfind (key_e0 hke z.2.1) hkp hz3
     rw [hnq,hnm] at hst1
     have hstamp:∀ row,zAT (zCX q cx.d row sb).rows q = some cx.d:=fun row=>by show zAT (setRow _ _ _ _) _ = _;rw [zBT,if_pos ⟨rfl,hqlb⟩]
     have hrowq:∀ row,zAA (zCX q cx.d row sb).rows q = row:=fun row=>rowAt_seteq hqlb
     have hrowne:∀ row r',r' ≠ q → zAA (zCX q cx.d row sb).rows r' = zAA sb.rows r' ∧ zAT (zCX q cx.d row sb).rows r' = zAT sb.rows r':=fun row r' h=>⟨zCY h,by show zAT (setRow _ _ _ _) _ = _;rw [zBT,if_neg (fun h'=>h h'.1)]⟩
     have hLep:Le cx.d ζ num s (updN ζb q (.it (num m) cl (seen ++ [z.1.1]) cl)) num (zCX q cx.d (.ite m kt vt z.2.1 z.2.2) sb):=hLeb.trans ⟨fun n ent h _=>h,fun r' lv h1 h2=>by
       by_cases hr':r' = q
       · subst hr';rw [hstamp] at h1;have:=Option.some.inj h1;omega
       · obtain ⟨j1,j2⟩:=hrowne (.ite m kt vt z.2.1 z.2.2) r' hr'
         rw [j2] at h1
         exact ⟨h1,j1,rfl,updN_ne hr'⟩⟩
     have hLe1:Le (cx.d + 1) (updN ζb q (.it (num m) cl (seen ++ [z.1.1]) cl)) num (zCX q cx.d (.ite m kt vt z.2.1 z.2.2) sb) (updN ζ1 q (.it (num m) cl (seen ++ [z.1.1]) cl)) num1 (zCX q cx.d (.ite m kt vt z.2.1 z.2.2) (zAp (cx.d + 1) σ x sb)):=⟨fun n ent h1 h2=>hle1.env n ent h1 h2,fun r' lv h1 h2=>by
       have h1:zAT (setRow (zAp (cx.d + 1) σ x sb).rows q cx.d (.ite m kt vt z.2.1 z.2.2)) r' = some lv:=h1
       by_cases hr':r' = q
       · subst hr'
         rw [zBT,if_pos ⟨rfl,hqlx⟩] at h1
         refine ⟨by rw [hstamp];exact h1,?_,hnq,by rw [zBc,zBc]⟩
         rw [hrowq];exact rowAt_seteq hqlx
       · rw [zBT,if_neg (fun h'=>hr' h'.1)] at h1
         obtain ⟨j1,j2,j3,j4⟩:=hle1.rows r' lv h1 h2
         obtain ⟨j5,j6⟩:=hrowne (.ite m kt vt z.2.1 z.2.2) r' hr'
         refine ⟨by rw [j6];exact j1,?_,j3,by rw [updN_ne hr',updN_ne hr'];exact j4⟩
         rw [j5,← j2];exact zCY hr'⟩
     have hperm':∀ L,L.Perm ((left (seen ++ [z.1.1])).map (·.2)) → foldM Bd Nd (z.2 :: L) x = some res:=fun L hL=>by
       refine hperm _ ?_
       have h1:=perm_pick (fun z:(Nat × Value × D) × (kt.I × vt.I)=>z.1.1) (left seen) (hnodup.sublist ((List.filter_sublist (l:=es.zip l) (p:=fun z=>!seen.contains z.1.1)).map _)) z hz
       have h2:left (seen ++ [z.1.1]) = (left seen).filter fun y=>!(y.1.1 == z.1.1):=by
         show List.filter _ _ = List.filter _ (List.filter _ _)
         rw [List.filter_filter]
         refine List.filter_congr fun y _=>?_
         rw [Bool.eq_iff_iff]
         simp [not_or,and_comm]
       rw [h2] at hL
       have h3:=(h1.map (·.2))
       rw [List.map_cons] at h3
       exact (hL.cons z.2).trans h3
     have hlt':(left (seen ++ [z.1.1])).length < n:=by
       rw [← hn]
       have h1:=perm_pick (fun z:(Nat × Value × D) × (kt.I × vt.I)=>z.1.1) (left seen) (hnodup.sublist ((List.filter_sublist (l:=es.zip l) (p:=fun z=>!seen.contains z.1.1)).map _)) z hz
       have h2:left (seen ++ [z.1.1]) = (left seen).filter fun y=>!(y.1.1 == z.1.1):=by
         show List.filter _ _ = List.filter _ (List.filter _ _)
         rw [List.filter_filter]
         refine List.filter_congr fun y _=>?_
         rw [Bool.eq_iff_iff]
         simp [not_or,and_comm]
       have:=h1.length_eq
       rw [h2,← this,List.length_cons];exact Nat.lt_succ_self _
     have hv:∃ v,Bd z.2 x = some v ∧ ((∃ x',v = .inl x' ∧ ∀ L,L.Perm ((left (seen ++ [z.1.1])).map (·.2)) → foldM Bd Nd L x' = some res) ∨ v = .inr res):=by
       have h1:=hperm' _ (.refl _)
       simp only [foldM] at h1
       cases hB:Bd z.2 x with
       | none=>rw [hB] at h1;cases h1
       | some v =>
         refine ⟨v,rfl,?_⟩
         cases v with
         | inl x'=>exact .inl ⟨x',rfl,fun L hL=>by have h2:=hperm' L hL;simp only [foldM,hB] at h2;exact h2⟩
         | inr e'=>rw [hB] at h1;have:=Option.some.inj h1;subst this;exact .inr rfl
     obtain ⟨v,hBv,hvc⟩:=hv
     rw [← hBd] at hBv
     dsimp only at hBv
     rw [hset'] at hBv
     split at hBv
     rotate_left
     · cases hBv
     rename_i u hput
     have hgok:GOk (cx.d + 1) (zCX q cx.d (.ite m kt vt z.2.1 z.2.2) (zAp (cx.d + 1) σ x sb)):=(show Plain (zCX _ _ _ (zAp (cx.d + 1) σ x sb)) from ⟨hplain.gs,hplain.c⟩).gok _
     obtain ⟨k1,k2,k3,k4⟩:=put_sound (d:=cx.d + 1) hst1.abs hgok hput (fun _=>hst1.ok) (fun p hp=>by cases hp) fun own X w hs=>by
       obtain ⟨j1,j2,j3,j4⟩:=hst1.weak own X w hs
       exact ⟨j1,j2,j3,fun y hy=>by rw [if_pos (show zAw _ [] = true from rfl)];exact j4 y hy⟩
     rw [← hz2] at k1
     refine bops_weak hQw k1 (opsT_sound (d:=cx.d + 1) hΓ hQw os _ num1 u _ _ k2 k3 hos hBv fun ζ' num' s' H' h1 h2 h3 h4=>?_)
     have hLe2:=hLe1.trans (k4.trans h4)
     have hle':Le cx.d ζ num s ζ' num' s':=hLep.trans (hLe2.mono (Nat.le_succ _))
     rcases hvc with ⟨x',rfl,hf'⟩ | rfl
     · refine hrest hb (cx.innerM σ.I q) _ s' _ ζ' num' _ H' _ hw2 hk h2 h3 h1 (fun ζ'' num'' s'' e'' H'' j1 j2 j3 j4=>?_) (hOl (Outs.innerML hO))
       obtain ⟨ζ2,num2,H2,w1,w2,w3⟩:=unpack_sound hk (Nat.le_succ cx.d) j2 (hLe2.trans j4) (map_inl j1)
       obtain ⟨m1,m2⟩:=hrowne (.ite m kt vt z.2.1 z.2.2) m hqm
       refine run_weak w1 (run_inLoop (ihn _ hlt' (seen ++ [z.1.1]) (zCX q cx.d (.ite m kt vt z.2.1 z.2.2) sb) (updN ζb q (.it (num m) cl (seen ++ [z.1.1]) cl)) x' ζ2 num2 H2 rfl hgsb henv (by show (setRow _ _ _ _).length = _;rw [zBp];exact hlenb) (fun row=>?_) (by rw [m1];exact hmb) (by rw [m2];exact hsmb) (.inr ⟨_,_,_,_,hrowq _⟩) ⟨cx.d,hstamp _,Nat.le_refl _⟩ (by rw [updN_ne hqm];exact hζbm) (zBc _ _ _) hLep w2 w3 hf'))
       rw [← hset row]
       unfold zCX
       congr 1
       have:∀ (rows:Rows) (q d d':Nat) (a b:TRow),setRow (setRow rows q d a) q d' b = setRow rows q d' b:=by
         intro rows
         induction rows with
         | nil=>intro q d d' a b;rfl
         | cons p rows ih=>intro q d d' a b;cases q with
           | zero=>rfl
           | succ q=>simp only [setRow];rw [ih]
       exact this _ _ _ _ _ _
     · exact hrest hb (cx.innerM σ.I q) _ s' _ ζ' num' _ H' _ hw2 hk h2 h3 h1 (fun ζ'' num'' s'' e'' H'' j1 _ _ _=>(map_inl_r j1).elim) (hOl (hO.innerMR hle'))
 obtain ⟨ζ2,num2,H2,w1,w2,w3⟩:=unpack_sound hk (Nat.le_succ cx.d) ha (Le.refl _ _ _ _) hx0
 refine run_weak w1 (main (left []).length [] s ζ x0 ζ2 num2 H2 rfl rfl rfl rfl (fun _=>rfl) hm hsm (.inl hr) ⟨lvr,hsr,hsrd⟩ hζm hζr (Le.refl _ _ _ _) w2 w3 fun L hL=>hfold L ?_)
 refine hL.trans (List.Perm.of_eq ?_)
 show ((es.zip l).filter fun z=>!([]:List Nat).contains z.1.1).map (·.2) = l
 rw [List.filter_eq_self.2 (fun z _=>by simp),List.map_snd_zip]
 omega
end
end Go.T
namespace Go.T
open Go.Ab
variable [Go.Ab.DM]
section
variable {P:Program} {Γ:List Con} {B:Base} {f:FuncId} {N n0:Nat} {Rp:D → Heap → Prop}
theorem trun_sound2 (hΓ:∀ c ∈ Γ,zAu P c) (zDN:P.follows .mixedOrders = true):∀ (c:Code),SoundAt P Γ B f N n0 Rp c ∧ ∀ a b,c = .seq a b → SoundAt P Γ B f N n0 Rp b:=by
 intro c
 induction c with
 | skip =>
   refine ⟨?_,fun _ _ h=>by cases h⟩
   intro R h cx k s r ζ num e H K hw hk ha hp ht hC hO
   exact zBV (hC ζ num s e H ht ha hp (Le.refl _ _ _ _))
 | seq a b iha ihb =>
   refine ⟨?_,fun _ _ h=>by cases h;exact ihb.1⟩
   have iha:SoundAt P Γ B f N n0 Rp a:=iha.1
   have ihb:SoundAt P Γ B f N n0 Rp b:=ihb.1
   intro R h cx k s r ζ num e H K hw hk ha hp ht hC hO
   refine run_seq ?_
   have hO':∀ {R':Type} {cx':Cx R'} {r':R'} {ζ1 num1 s1},Outs P f N n0 Rp B ζ1 num1 s1 cx' r' K → Outs P f N n0 Rp B ζ1 num1 s1 cx' r' (.code b :: K):=fun h=>⟨fun i k' hk'=>h.ex i k' hk',h.ret⟩
   have plain:∀ ha' hb',wf N a ha' = true → wf N b hb' = true → trun P Γ a ha' cx (fun s'=>trun P Γ b hb' cx k s') s = some r → Run P f N n0 Rp (.code a :: .code b :: K) e H:=fun ha' hb' hwa hwb ht =>
     iha ha' cx _ s r ζ num e H _ hwa hk ha hp ht (fun ζ' num' s' e' H' h1 h2 h3 h4=>ihb hb' cx k s' r ζ' num' e' H' K hwb hk h2 h3 h1 (hC.from h4 (Nat.le_refl _)) (hO.from h4)) (hO' hO)
   cases h with
   | j σ h1 h2 =>
     simp only [wf,Bool.and_eq_true] at hw
     simp only [trun] at ht
     rcases join_some ht with ⟨x,hx,hk2⟩ | hr
     · refine iha h1 (cx.inner σ.I) _ s (.inl x) ζ num e H _ hw.1 hk ha hp hx (cont_join hk hp x hk2 fun ζ' num' s' e' H' g1 g2 g3 g4=>ihb h2 cx k s' r ζ' num' e' H' K hw.2 hk g2 g3 g1 (hC.from g4 (Nat.le_refl _)) (hO.from g4)) (hO' (Outs.innerL hO))
     · exact iha h1 (cx.inner σ.I) _ s (.inr r) ζ num e H _ hw.1 hk ha hp hr (fun ζ' num' s' e' H' g1 _ _ _=>(map_inl_r g1).elim) (hO' (hO.innerR (Le.refl _ _ _ _)))
   | n h1 h2=>simp only [wf,Bool.and_eq_true] at hw;exact plain h1 h2 hw.1 hw.2 ht
   | _=>simp only [wf,Bool.and_eq_true] at hw;exact plain .o .o hw.1 hw.2 ht
 | cond q x y ihx ihy =>
   refine ⟨?_,fun _ _ h=>by cases h⟩
   have ihx:SoundAt P Γ B f N n0 Rp x:=ihx.1
   have ihy:SoundAt P Γ B f N n0 Rp y:=ihy.1
   intro R h cx k s r ζ num e H K hw hk ha hp ht hC hO
   have hh:zAw s.gs [] = true:=rfl
   have go:∀ hx hy,wf N x hx = true → wf N y hy = true → (match evT s.env [] q with
       | some ⟨.bool,b⟩=>sel b (trun P Γ x hx cx k s) (trun P Γ y hy cx k s)
       | some ⟨.tt,_⟩=>trun P Γ x hx cx k s
       | some ⟨.ff,_⟩=>trun P Γ y hy cx k s
       | _=>none) = some r → Run P f N n0 Rp (.code (.cond q x y) :: K) e H:=fun hx hy hwx hwy ht=>by
     have vx:trun P Γ x hx cx k s = some r → Run P f N n0 Rp (.code x :: K) e H:=fun h=>ihx hx cx k s r ζ num e H K hwx hk ha hp h hC hO
     have vy:trun P Γ y hy cx k s = some r → Run P f N n0 Rp (.code y :: K) e H:=fun h=>ihy hy cx k s r ζ num e H K hwy hk ha hp h hC hO
     split at ht
     · rename_i b hq
       obtain ⟨h1,_⟩:=zAM ha hh hq
       refine run_cond (t:=b) h1 (fun hb=>vx ?_) (fun hb=>vy ?_)
       · subst hb;exact ht
       · subst hb;exact ht
     · rename_i u hq
       obtain ⟨h1,_⟩:=zAM ha hh hq
       exact run_cond (t:=true) h1 (fun _=>vx ht) (fun hb=>by cases hb)
     · rename_i u hq
       obtain ⟨h1,_⟩:=zAM ha hh hq
       exact run_cond (t:=false) h1 (fun hb=>by cases hb) (fun _=>vy ht)
     · cases ht
   cases h with
   | n hx hy=>simp only [wf,Bool.and_eq_true] at hw;exact go hx hy hw.1 hw.2 ht
   | _=>simp only [wf,Bool.and_eq_true] at hw;exact go .o .o hw.1 hw.2 ht
 | exit i =>
   refine ⟨?_,fun _ _ h=>by cases h⟩
   intro R h cx k s r ζ num e H K hw hk ha hp ht hC hO
   simp only [trun] at ht
   split at ht
   · rename_i k' hk'
     obtain ⟨K',h1,h2⟩:=hO.ex i k' hk'
     exact run_exit h1 (h2 ζ num s e H ht ha hp (Le.refl _ _ _ _))
   · cases ht
 | ret =>
   refine ⟨?_,fun _ _ h=>by cases h⟩
   intro R h cx k s r ζ num e H K hw hk ha hp ht hC hO
   exact hO.ret K ζ num s e H ht ha hp (Le.refl _ _ _ _)
 | block i b ih =>
   refine ⟨?_,fun _ _ h=>by cases h⟩
   have ih:SoundAt P Γ B f N n0 Rp b:=ih.1
   intro R h cx k s r ζ num e H K hw hk ha hp ht hC hO
   refine zCk ?_
   have plain:∀ hb,wf N b hb = true → trun P Γ b hb { cx with ex:=(i,k) :: cx.ex } k s = some r → Run P f N n0 Rp (.code b :: .inBlock i :: K) e H:=fun hb hwb ht=>by
     refine ih hb { cx with ex:=(i,k) :: cx.ex } k s r ζ num e H _ hwb hk ha hp ht (fun ζ' num' s' e' H' h1 h2 h3 h4=>zAr (hC ζ' num' s' e' H' h1 h2 h3 h4)) ⟨fun j k' hj=>?_,hO.ret⟩
     simp only [getX] at hj
     by_cases hij:i = j
     · subst hij
       rw [Nat.beq_refl,cond_true] at hj
       have:=Option.some.inj hj;subst this
       exact ⟨K,by simp [exitTo],hC⟩
     · have hb1:Nat.beq i j = false:=by
         cases hb:Nat.beq i j with
         | true=>rw [Nat.beq_eq] at hb;exact absurd hb hij
         | false=>rfl
       rw [hb1,cond_false] at hj
       obtain ⟨K',h1,h2⟩:=hO.ex j k' hj
       exact ⟨K',by simp [exitTo,hij,h1],h2⟩
   cases h with
   | b hb=>exact plain hb hw ht
   | jb σ hb =>
     simp only [trun] at ht
     have exits:∀ (v:σ.I ⊕ R),Cont P f N n0 Rp B (cx.d + 1) ζ num s (fun s'=>((pack cx.k cx.d σ s').map .inl:Option (σ.I ⊕ R))) v K → Outs P f N n0 Rp B ζ num s (cx.inner σ.I) v K → Outs P f N n0 Rp B ζ num s { cx.inner σ.I with ex:=(i,fun s'=>((pack cx.k cx.d σ s').map .inl:Option (σ.I ⊕ R))) :: (cx.inner σ.I).ex } v (.inBlock i :: K):=fun v hCv hOv=>by
       refine ⟨fun j k' hj=>?_,hOv.ret⟩
       simp only [getX] at hj
       by_cases hij:i = j
       · subst hij
         rw [Nat.beq_refl,cond_true] at hj
         have:=Option.some.inj hj;subst this
         exact ⟨K,by simp [exitTo],hCv⟩
       · have hb1:Nat.beq i j = false:=by
           cases hb:Nat.beq i j with
           | true=>rw [Nat.beq_eq] at hb;exact absurd hb hij
           | false=>rfl
         rw [hb1,cond_false] at hj
         obtain ⟨K',h1,h2⟩:=hOv.ex j k' hj
         exact ⟨K',by simp [exitTo,hij,h1],h2⟩
     have body:∀ (v:σ.I ⊕ R),trun P Γ b hb { cx.inner σ.I with ex:=(i,fun s'=>(pack cx.k cx.d σ s').map .inl) :: (cx.inner σ.I).ex } (fun s'=>(pack cx.k cx.d σ s').map .inl) s = some v → Cont P f N n0 Rp B (cx.d + 1) ζ num s (fun s'=>((pack cx.k cx.d σ s').map .inl:Option (σ.I ⊕ R))) v K → Outs P f N n0 Rp B ζ num s (cx.inner σ.I) v K → Run P f N n0 Rp (.code b :: .inBlock i :: K) e H:=fun v hv hCv hOv =>
       ih hb { cx.inner σ.I with ex:=(i,fun s'=>(pack cx.k cx.d σ s').map .inl) :: (cx.inner σ.I).ex } _ s v ζ num e H _ hw hk ha hp hv (fun ζ' num' s' e' H' h1 h2 h3 h4=>zAr (hCv ζ' num' s' e' H' h1 h2 h3 h4)) (exits v hCv hOv)
     rcases join_some ht with ⟨x,hx,hk2⟩ | hr
     · exact body (.inl x) hx (cont_join hk hp x hk2 hC) (Outs.innerL hO)
     · exact body (.inr r) hr (fun ζ' num' s' e' H' g1 _ _ _=>(map_inl_r g1).elim) (hO.innerR (Le.refl _ _ _ _))
   | _=>exact plain .o hw ht
 | region id ops draw =>
   refine ⟨?_,fun _ _ h=>by cases h⟩
   intro R h cx k s r ζ num e H K hw hk ha hp ht hC hO
   have hQw:∀ e H e' H',WeakS e H e' H' → Run P f N n0 Rp K e' H' → Run P f N n0 Rp K e H:=fun e H e' H' hw h=>run_weak hw h
   cases draw with
   | false =>
     have hw:ops.toList.all (okOp N ops.toList) = true:=by simpa only [wf] using hw
     rw [List.all_eq_true] at hw
     have ht:opsT P Γ false cx.d ops.toList ops.toList s k = some r:=by simpa only [trun] using ht
     have hb:=opsT_sound (N:=N) hΓ hQw ops.toList ζ num s e H ha (hp.gok _) hw ht fun ζ' num' s' H' h1 h2 h3 h4=>hC ζ' num' s' _ H' h1 h2 h3 h4
     exact run_breg (l:=ops.toList) hb
   | true =>
     cases h <;> first | (simp only [trun] at ht;cases ht;done) | skip
     · rename_i plan
       have hw:(ops.toList.all (okOp N ops.toList) && goodPlan ops (plan.map fun i=>(kindAt ops i,i))) = true:=by simpa only [wf] using hw
       rw [Bool.and_eq_true,List.all_eq_true] at hw
       have ht:opsT P Γ true cx.d ops.toList (planOps ops.toList plan) s k = some r:=by simpa only [trun] using ht
       have hb:=opsT_sound (N:=N) hΓ hQw (planOps ops.toList plan) ζ num s e H ha (hp.gok _) (fun o ho=>hw.1 o (planOps_mem ho)) ht fun ζ' num' s' H' h1 h2 h3 h4=>hC ζ' num' s' _ H' h1 h2 h3 h4
       rw [← planned_ops] at hb
       exact run_bdraw (l:=ops.toList) _ zDN hw.2 hb
     · rename_i i plan
       have hw:(ops.toList.all (okOp N ops.toList) && goodPlanH ops i (plan.map fun i=>(kindAt ops i,i))) = true:=by simpa only [wf] using hw
       rw [Bool.and_eq_true,List.all_eq_true] at hw
       simp only [trun] at ht
       split at ht
       rotate_left
       · cases ht
       · rename_i o hi
         have hmem:o ∈ ops.toList:=List.mem_of_getElem? hi
         have hok:=hw.1 o hmem
         simp only [okOp,Bool.and_eq_true] at hok
         obtain ⟨hg,t,a,ho,h1⟩:=frzLd_sound ha (hp.gok _) (T:=fun e H=>bops P N ops (zAo ops (plan.map fun i=>(kindAt ops i,i))) e H fun e' H'=>Run P f N n0 Rp K e' H') ⟨fun e H e' H' hw h=>bops_weak hQw hw h,fun ζ' num' s' H' h' ha' hgo' hle'=>by
           rw [planned_ops]
           exact opsT_sound (N:=N) (full:=ops.toList) hΓ hQw (planOps ops.toList plan) ζ' num' s' _ H' ha' hgo' (fun o ho=>hw.1 o (planOps_mem ho)) h' fun ζ2 num2 s2 H2 k1 k2 k3 k4=>hC ζ2 num2 s2 _ H2 k1 k2 k3 (hle'.trans k4)⟩ ht
         exact run_hdraw (l:=ops.toList) i _ zDN hw.2 hi ho hg (dstB_ok hok.1) h1
 | loop b ih2 =>
   refine ⟨?_,fun _ _ h=>by cases h⟩
   have ih:SoundAt P Γ B f N n0 Rp b:=ih2.1
   intro R h cx k s r ζ num e H K hw hk ha hp ht hC hO
   refine run_loop ?_
   by_cases hu:∃ n hb,h = .u n hb
   · obtain ⟨n,hb,rfl⟩:=hu
     simp only [trun] at ht
     have hOl:∀ {ζ1 num1 s1},Outs P f N n0 Rp B ζ1 num1 s1 cx r K → Outs P f N n0 Rp B ζ1 num1 s1 cx r (.inLoop b :: K):=fun h=>⟨fun i k' hk'=>h.ex i k' hk',h.ret⟩
     have main:∀ (n:Nat) (s:St) (ζ:Nat → Row) (num:Nat → Nat) (e:Env) (H:Heap),Abs B ζ num s e H → Plain s → unrN n (fun k' s'=>trun P Γ b hb cx k' s') s = some r → Outs P f N n0 Rp B ζ num s cx r K → Run P f N n0 Rp (.code b :: .inLoop b :: K) e H:=by
       intro n
       induction n with
       | zero=>intro s ζ num e H _ _ h _;cases h
       | succ n ihn =>
         intro s ζ num e H ha hp h hO
         exact ih hb cx _ s r ζ num e H _ hw hk ha hp h (fun ζ' num' s' e' H' g1 g2 g3 g4=>run_inLoop (ihn s' ζ' num' e' H' g2 g3 g1 (hO.from g4))) (hOl hO)
     exact main n s ζ num e H ha hp ht hO
   cases h <;> first | (exact absurd ⟨_,_,rfl⟩ hu;done) | skip
   all_goals clear hu
   all_goals first | (simp only [trun] at ht;cases ht;done) | (cases hw;done) | skip
   rotate_left
   · rename_i σ r0 hb
     cases b <;> first | (simp [wf] at hw;done) | skip
     rename_i b1 rest
     cases b1 <;> first | (simp [wf] at hw;done) | skip
     rename_i id ops draw
     cases draw <;> first | (simp [wf] at hw;done) | skip
     rw [trun.eq_def] at ht;dsimp only at ht
     split at ht
     rotate_left
     · cases ht
     rename_i hr hbb
     cases hbb
     split at ht
     rotate_left
     · cases ht
     rename_i kt vt l o os hm hl hops
     obtain ⟨hb1,ht⟩:=zAa ht
     simp only [Bool.and_eq_true,Option.isNone_iff_eq_none] at hb1
     obtain ⟨⟨⟨hmn,hlm⟩,hrn⟩,hnext⟩:=hb1
     split at ht
     rotate_left
     · cases ht
     rename_i x0 hx0
     have hw:(ops.toList.all (okOp N ops.toList) && wf N rest hb) = true:=by simpa only [wf] using hw
     rw [Bool.and_eq_true] at hw
     exact lm_sound hΓ (ih2.2 _ _ rfl) hw.1 hw.2 hk ha hp hr hm hl hlm hops (Nat.le_of_ble_eq_true hrn) (Nat.le_of_ble_eq_true hmn) hnext hx0 ht hO
   rename_i σ hb
   simp only [trun] at ht
   split at ht
   rotate_left
   · cases ht
   rename_i x0 hx0
   obtain ⟨n,hn⟩:=iter_some ht
   have hOl:∀ {R':Type} {cx':Cx R'} {r':R'} {ζ1 num1 s1},Outs P f N n0 Rp B ζ1 num1 s1 cx' r' K → Outs P f N n0 Rp B ζ1 num1 s1 cx' r' (.inLoop b :: K):=fun h=>⟨fun i k' hk'=>h.ex i k' hk',h.ret⟩
   have main:∀ (n:Nat) (x:σ.I) (ζ1:Nat → Row) (num1:Nat → Nat) (H1:Heap),Abs B ζ1 num1 (zAp (cx.d + 1) σ x s) (zCh num1 (zAp (cx.d + 1) σ x s)) H1 → Le (cx.d + 1) ζ num s ζ1 num1 (zAp (cx.d + 1) σ x s) →
       iterN (fun x=>trun P Γ b hb (cx.inner σ.I) (fun s'=>(pack cx.k cx.d σ s').map .inl) (zAp (cx.d + 1) σ x s)) n x = some r → Run P f N n0 Rp (.code b :: .inLoop b :: K) (zCh num1 (zAp (cx.d + 1) σ x s)) H1:=by
     intro n
     induction n with
     | zero=>intro x ζ1 num1 H1 _ _ h;cases h
     | succ n ihn =>
       intro x ζ1 num1 H1 ha1 hle1 h
       simp only [iterN] at h
       split at h
       · cases h
       · rename_i x' hx'
         refine ih hb (cx.inner σ.I) _ _ (.inl x') ζ1 num1 _ H1 _ hw hk ha1 (unpack_plain hp) hx' (fun ζ' num' s' e' H' g1 g2 g3 g4=>?_) (hOl (Outs.innerL hO))
         obtain ⟨ζ2,num2,H2,w1,w2,w3⟩:=unpack_sound hk (Nat.le_succ cx.d) g2 (hle1.trans g4) (map_inl g1)
         exact run_weak w1 (run_inLoop (ihn x' ζ2 num2 H2 w2 w3 h))
       · rename_i r' hr'
         have:=Option.some.inj h;subst this
         exact ih hb (cx.inner σ.I) _ _ (.inr r') ζ1 num1 _ H1 _ hw hk ha1 (unpack_plain hp) hr' (fun ζ' num' s' e' H' g1 _ _ _=>(map_inl_r g1).elim) (hOl (hO.innerR hle1))
   obtain ⟨ζ2,num2,H2,w1,w2,w3⟩:=unpack_sound hk (Nat.le_succ cx.d) ha (Le.refl _ _ _ _) hx0
   exact run_weak w1 (main n x0 ζ2 num2 H2 w2 w3 hn)
 | _ =>
   refine ⟨?_,fun _ _ h=>by cases h⟩
   intro R h cx k s r ζ num e H K hw hk ha hp ht hC hO
   simp only [trun] at ht
   cases ht
theorem trun_sound (hΓ:∀ c ∈ Γ,zAu P c) (zDN:P.follows .mixedOrders = true) (c:Code):SoundAt P Γ B f N n0 Rp c:=(trun_sound2 hΓ zDN c).1
end
end Go.T
namespace Go.T
open Go.Ab
variable [Go.Ab.DM]
section
variable {P:Program} {Γ:List Con} {B:Base} {ζ:Nat → Row} {num:Nat → Nat} {s:St} {e:Env} {H:Heap}
theorem resT_sound (ha:Abs B ζ num s e H):∀ {rs:List ResultVar} {l:List TV},resT P s rs = some l → ∃ ds,aRes P e H rs = some ds ∧ Tls ds (l.map (enc (zAB num s.rows))) ∧ ∀ v ∈ l,okV s.rows v
 | [],l,h=>by have:=Option.some.inj h;subst this;exact ⟨[],rfl,.nil,by simp⟩
 | .tmp t :: rs,l,h=>by
   simp only [resT] at h
   split at h
   · rename_i en l' h1 h2
     obtain ⟨hc,hx⟩:=zAa h
     have:=Option.some.inj hx;subst this
     obtain ⟨ds,g1,g2,g3⟩:=resT_sound ha h2
     have hc:=List.isEmpty_iff.1 hc
     have hh:zAw s.gs en.c = true:=by rw [hc];rfl
     refine ⟨e t :: ds,by simp only [aRes,g1,Option.map_some],.cons (Tl.of_eq (ha.at h1 hh)) g2,fun v hv=>?_⟩
     rcases List.mem_cons.1 hv with rfl | hv
     · exact ha.ok t en h1 hh
     · exact g3 v hv
   · cases h
 | .cell a t :: rs,l,h=>by
   simp only [resT] at h
   split at h
   · rename_i en l' h1 h2
     obtain ⟨hc,hx⟩:=zAa h
     split at hx
     · rename_i v hv
       have:=Option.some.inj hx;subst this
       obtain ⟨ds,g1,g2,g3⟩:=resT_sound ha h2
       have hc:=List.isEmpty_iff.1 hc
       have hh:zAw s.gs en.c = true:=by rw [hc];rfl
       obtain ⟨d,k1,k2,k3⟩:=loadT_sound ha.hrel (ha.ok a en h1 hh) hv
       rw [← ha.at h1 hh] at k1
       refine ⟨d :: ds,by simp only [aRes,k1,g1,Option.bind_some,Option.map_some],.cons k2 g2,fun v hv=>?_⟩
       rcases List.mem_cons.1 hv with rfl | hv
       · exact k3
       · exact g3 v hv
     · cases hx
   · cases h
theorem retT_sound {ds:List D} {l:List TV} {ρ:Refs} (h:Tls ds (l.map (enc ρ))):Tl (retD ds) (enc ρ (retT l)):=by
 match l,ds,h with
 | [],_,.nil=>exact Tl.of_eq (by rw [show retT [] = tupV [] from rfl,enc_tup];rfl)
 | [v],_,.cons h .nil=>exact h
 | v :: u :: l,_,.cons h1 (.cons h2 h3) =>
   rw [show retT (v :: u :: l) = tupV (v :: u :: l) from rfl,enc_tup]
   exact Tl.tup (.cons h1 (.cons h2 h3))
theorem retT_ok {rows:Rows} {l:List TV} (h:∀ v ∈ l,okV rows v):okV rows (retT l):=by
 match l with
 | []=>exact ok_tup _ h
 | [v]=>exact h v (by simp)
 | v :: u :: l=>exact ok_tup _ h
theorem lookR_numb:∀ (l:List RTy) (n r:Nat),zBM (numb n l) (n + r) = l[r]?
 | [],n,r=>by simp [numb,zBM]
 | e :: l,n,0=>by simp [numb,zBM]
 | e :: l,n,r + 1=>by
   have:=lookR_numb l (n + 1) r
   rw [show n + 1 + r = n + (r + 1) by omega] at this
   simp only [numb,zBM,List.getElem?_cons_succ]
   cases hb:Nat.beq n (n + (r + 1)) with
   | true=>rw [Nat.beq_eq] at hb;omega
   | false=>exact this
theorem end_sound {c:Con} {k:Nat} {n0:Nat} (hn0:n0 ≤ H.length) {rs:List ResultVar} {y:(zAX c.outT).I} (ha:Abs B ζ num s e H) (hk:B.k = k) (h:endT P rs k c.res c.outs s = some y) :
   ∃ ds,aRes P e H rs = some ds ∧ ∃ ζ' num' H',Weak n0 H (retD ds) H' (enc (zAB num' (zAQ c y)) (zBQ c y)) ∧ HRel ζ' num' (zAQ c y) H' ∧ okV (zAQ c y) (zBQ c y) ∧
     (∀ r,zAW (zAA (zAQ c y) r) = true → (r < k → num' r = B.num0 r) ∧ (k ≤ r → B.n0 ≤ num' r)) ∧ ∀ r,r < k → zAP (zAA (zAQ c y) r) = true → zCW (zAA (zAQ c y) r) = B.len0 r:=by
 unfold endT at h
 split at h
 rotate_left
 · cases h
 rename_i l hl
 dsimp only at h
 obtain ⟨hb,h⟩:=zAa h
 simp only [Bool.and_eq_true] at hb
 obtain ⟨⟨hinj,hsb⟩,hrb⟩:=hb
 split at h
 rotate_left
 · cases h
 rename_i a b hpa hpb
 have hlv:zAI (zAX c.outT) y = a ++ b:=packAll_leaves h
 obtain ⟨ds,hds1,hds2,hds3⟩:=resT_sound ha hl
 generalize hρ:uniRows s.rows (ids k ++ uni c.res (retT l).t) (numb 0 c.outs) = ρ at *
 generalize hfz:fzT c.res (retT l).t ++ fzRows s.rows ρ (numb 0 c.outs) = fz at *
 have hf:=zBg 1 fz s.rows
 generalize zAk 1 fz 0 s.rows = rf at *
 obtain ⟨us,hu1,hu2⟩:=packVals_un hpa
 obtain ⟨m,hm1,hm2⟩:=packRows_un hpb
 have hco:zAQ c y = zAn m:=by
   unfold zAQ
   rw [hlv,hu2];dsimp only;rw [hm2]
 obtain ⟨w,hw,hus⟩:∃ w:c.res.I,packV ρ (isLst (numb 0 c.outs)) rf c.res (retT l) = some w ∧ us = [⟨c.res,w⟩]:=by
   cases hu1 with
   | cons h1 h2=>cases h2;exact ⟨_,h1,rfl⟩
 have hcr:zBQ c y = ⟨c.res,w⟩:=by
   unfold zBQ
   rw [hlv,hu2,hus]
 rw [hco,hcr]
 have hr:=ha.hrel
 have hml:(zAn m).length = c.outs.length:=by rw [len_stRows,hm1.len,numb_len]
 have hia:=injOk_at hinj
 have hlk:∀ r,zBM (numb 0 c.outs) r = c.outs[r]?:=fun r=>by have:=lookR_numb c.outs 0 r;rw [Nat.zero_add] at this;exact this
 have hat:=fun r=>hm1.at r
 have hT:∀ r,Tgt ρ (isLst (numb 0 c.outs)) rf (zAn m) r (zAA (zAn m) r):=fun r=>by
   have h:=hat r
   split at h
   · obtain ⟨row,h1,_,h2⟩:=h
     rw [Nat.zero_add] at h2
     rw [h1];exact .pk h2
   · rw [h];exact .gone
 have hpk:∀ r,zAW (zAA (zAn m) r) = true ∨ zAP (zAA (zAn m) r) = true → ∃ ee,zBM (numb 0 c.outs) r = some ee ∧ ee ≠ .gone ∧ PkRow ρ (isLst (numb 0 c.outs)) rf r ee (zAA (zAn m) r):=fun r hl=>by
   have h:=hat r
   split at h
   · rename_i ei hei
     obtain ⟨row,h1,_,h2⟩:=h
     rw [Nat.zero_add] at h2
     rw [h1] at hl ⊢
     refine ⟨ei,by rw [hlk];exact hei,fun hg=>?_,h2⟩
     subst hg
     cases h2
     rcases hl with hl | hl <;> simp [zAW,zAP] at hl
   · rw [h] at hl;rcases hl with hl | hl <;> simp [zAW,zAP] at hl
 have hsrc:∀ r,zAW (zAA (zAn m) r) = true → ∃ ee,zBM (numb 0 c.outs) r = some ee ∧ ee ≠ .gone ∧ zCD ρ r = some (src ρ r):=fun r hl=>by
   obtain ⟨ee,h1,h2,h3⟩:=hpk r (.inl hl)
   refine ⟨ee,h1,h2,?_⟩
   generalize zAA (zAn m) r = row at *
   cases h3 with
   | gone=>exact absurd rfl h2
   | one h5=>rw [zAb h5];exact h5
   | many h5=>rw [zAb h5];exact h5
   | lst h5=>rw [zAb h5];exact h5
   | fro h5=>rw [zAb h5];exact h5
   | fr1 h5=>rw [zAb h5];exact h5
   | mp h5=>rw [zAb h5];exact h5
   | sit h5=>rw [zAb h5];exact h5
   | nil=>simp [zAW] at hl
 have hnul:∀ r,zCD ρ r = none → isLst (numb 0 c.outs) r = true → ∃ t,zAA (zAn m) r = .lst t []:=fun r hg hl=>by
   unfold isLst at hl
   have h:=hat r
   rw [hlk] at hl
   split at hl <;> first | (cases hl;done) | skip
   rename_i t ht
   rw [ht] at h
   obtain ⟨row,h1,_,h2⟩:=h
   rw [Nat.zero_add] at h2
   rw [h1]
   cases h2 with
   | lst h5 _=>rw [hg] at h5;cases h5
   | nil=>exact ⟨_,rfl⟩
 have hrefs:∀ r t y,zAA (zAn m) r = .one t y → ∀ z ∈ t.refs,z < (zAn m).length:=fun r t y hrow z hz=>by
   rw [hml]
   obtain ⟨ee,h1,h2,h3⟩:=hpk r (.inl (by rw [hrow];rfl))
   rw [hrow] at h3
   cases h3
   exact rowsBelow_at hrb r _ (lookR_mem h1) z hz
 have hR:=tgt_hrel (fr_hrel hr hf) hT hnul hrefs fun r z h1 h2 hne=>by
   obtain ⟨e1,g1,g2,g3⟩:=hsrc r h1
   obtain ⟨e2,k1,k2,k3⟩:=hsrc z h2
   exact hia.two r z e1 e2 _ _ g1 k1 g2 k2 hne g3 k3
 have hpr:=tgt_prel (num:=num) hT hnul
 have hokr:=retT_ok hds3
 have hokf:okV rf (retT l):=zCf (fr_le hf) _ _ hokr
 have htold:=packV_told hpr c.res (retT l) w hokf hw
 refine ⟨ds,hds1,fun r=>ζ (src ρ r),fun r=>num (src ρ r),frH num s.rows rf H,fun own X wd v hn hs hv=>⟨own,fr_sim hs hr hf,?_,.of_ext hn (fr_ext hs hr)⟩,hR,htold.ok fun z hz=>by rw [hml];exact slotsBelow_at hsb c.res (by simp) z hz,fun r hl=>?_,fun r hrl hi=>?_⟩
 · exact htold.one _ _ _ _ _ (fr_rel hs hr hf (t:=(retT l).t) (x:=(retT l).x) hokr (retT_sound hds2 _ _ _ _ _ hv))
 · obtain ⟨e1,g1,g2,g3⟩:=hsrc r hl
   have h1:=((hia.one r e1 g1 g2).1 _ g3).1
   have hlr:=tgt_live (hT r) hl
   have hb:=ha.base (src ρ r) (by rw [← zBH hf hlr];exact hlr)
   rw [hk] at hb
   rcases h1 with ⟨h2,h3⟩ | ⟨h2,h3⟩
   · rw [h3] at hb
     dsimp only
     rw [h3]
     exact ⟨fun _=>hb.1 h2,fun h=>by omega⟩
   · exact ⟨fun h=>by omega,fun _=>hb.2 h3⟩
 · obtain ⟨e1,g1,g2,g3⟩:=hpk r (.inr hi)
   cases hq:zCD ρ r with
   | none=>have:=(hia.one r e1 g1 g2).2 hq;omega
   | some q =>
     have h3:=((hia.one r e1 g1 g2).1 q hq).1
     have hqr:q = r:=by rcases h3 with ⟨_,h4⟩ | ⟨h4,_⟩;exact h4;omega
     subst hqr
     exact tgt_lens (B:=B) hT (lens_le ha.lens ha.klen (fr_le hf)) (by rw [hk];exact hrl) (zAb hq) (.inl hq) hi
end
end Go.T
namespace Go.Ab
variable [Go.Ab.DM]
mutual
def D.sh (n:Nat):D → D
 | .agg cs=>.agg (shs n cs)
 | .tup cs=>.tup (shs n cs)
 | .sl r i m=>.sl (n + r) i m
 | .slc r i m c=>.slc (n + r) i m c
 | .pt r i o=>.pt (n + r) i o
 | .mp r=>.mp (n + r)
 | .fn f fs cs=>.fn f (shs n fs) (shs n cs)
 | .ifc t d=>.ifc t (d.sh n)
 | .v x=>.v x
 | .fz k xs=>.fz k xs
 | .fp k xs i o=>.fp k xs i o
 | .any=>.any
termination_by d=>SizeOf.sizeOf d
def shs (n:Nat):List D → List D
 | []=>[]
 | d :: ds=>d.sh n :: shs n ds
termination_by ds=>SizeOf.sizeOf ds
end
theorem shs_map (n:Nat):∀ ds:List D,shs n ds = ds.map (D.sh n)
 | []=>by simp [shs]
 | d :: ds=>by rw [shs,shs_map n ds];rfl
section
variable {own:Nat → Own} {U:Nat → Prop} {w:World}
theorem Cells_own {own own':Nat → Own} {k:Nat} {xs:List D} {b off:Nat} (h:Cells own U w 0 k xs b off):Cells own' U w 0 k xs b off :=
 Cells.mono (n:=0) (n':=0) ⟨Nat.le_refl _,fun r hr=>absurd hr (Nat.not_lt_zero _),fun _ h=>h,fun _ _ _=>rfl⟩ k xs b off (fun _=>rfl) h
mutual
theorem VRel_sh (n N:Nat):∀ (d:D) (v:Value),VRel own U w N (d.sh n) v ↔ VRel (fun r=>own (n + r)) U w (N - n) d v
 | .v x,v=>by rw [D.sh,VRel,VRel]
 | .agg cs,v=>by
   rw [D.sh,VRel,VRel]
   exact ⟨fun ⟨vs,h1,h2⟩=>⟨vs,h1,(zDP n N cs vs).1 h2⟩,fun ⟨vs,h1,h2⟩=>⟨vs,h1,(zDP n N cs vs).2 h2⟩⟩
 | .tup cs,v=>by
   rw [D.sh,VRel,VRel]
   exact ⟨fun ⟨vs,h1,h2⟩=>⟨vs,h1,(zDP n N cs vs).1 h2⟩,fun ⟨vs,h1,h2⟩=>⟨vs,h1,(zDP n N cs vs).2 h2⟩⟩
 | .fz k xs,v=>by
   rw [D.sh,VRel,VRel]
   exact ⟨fun ⟨a,c,h1,h2,h3⟩=>⟨a,c,h1,h2,fun h=>by obtain ⟨b,off,h4,h5,h6⟩:=h3 h;exact ⟨b,off,h4,h5,Cells_own h6⟩⟩,
     fun ⟨a,c,h1,h2,h3⟩=>⟨a,c,h1,h2,fun h=>by obtain ⟨b,off,h4,h5,h6⟩:=h3 h;exact ⟨b,off,h4,h5,Cells_own h6⟩⟩⟩
 | .fp k xs i o,v=>by
   rw [D.sh,VRel,VRel]
   exact ⟨fun ⟨b,off,h4,h5,h6⟩=>⟨b,off,h4,h5,Cells_own h6⟩,fun ⟨b,off,h4,h5,h6⟩=>⟨b,off,h4,h5,Cells_own h6⟩⟩
 | .sl r i m,v=>by rw [D.sh,VRel,VRel,show n + r < N ↔ r < N - n by omega]
 | .slc r i m c,v=>by rw [D.sh,VRel,VRel,show n + r < N ↔ r < N - n by omega]
 | .pt r i o,v=>by rw [D.sh,VRel,VRel,show n + r < N ↔ r < N - n by omega]
 | .mp r,v=>by rw [D.sh,VRel,VRel,show n + r < N ↔ r < N - n by omega]
 | .fn f fs cs,v=>by
   rw [D.sh,VRel,VRel]
   exact ⟨fun ⟨vs,us,h1,h2,h3⟩=>⟨vs,us,h1,(zDP n N fs vs).1 h2,(zDP n N cs us).1 h3⟩,fun ⟨vs,us,h1,h2,h3⟩=>⟨vs,us,h1,(zDP n N fs vs).2 h2,(zDP n N cs us).2 h3⟩⟩
 | .ifc t d,v=>by
   rw [D.sh,VRel,VRel]
   exact ⟨fun ⟨x,h1,h2⟩=>⟨x,h1,(VRel_sh n N d x).1 h2⟩,fun ⟨x,h1,h2⟩=>⟨x,h1,(VRel_sh n N d x).2 h2⟩⟩
 | .any,v=>by rw [D.sh,VRel,VRel]
termination_by d=>SizeOf.sizeOf d
theorem zDP (n N:Nat):∀ (ds:List D) (vs:List Value),VRels own U w N (shs n ds) vs ↔ VRels (fun r=>own (n + r)) U w (N - n) ds vs
 | [],vs=>by rw [shs,VRels,VRels]
 | d :: ds,vs=>by
   rw [shs,VRels,VRels]
   exact ⟨fun ⟨x,xs,h1,h2,h3⟩=>⟨x,xs,h1,(VRel_sh n N d x).1 h2,(zDP n N ds xs).1 h3⟩,fun ⟨x,xs,h1,h2,h3⟩=>⟨x,xs,h1,(VRel_sh n N d x).2 h2,(zDP n N ds xs).2 h3⟩⟩
termination_by ds=>SizeOf.sizeOf ds
end
theorem sh_one (n:Nat) (d:D):(d.sh n).one = d.one:=by cases d <;> simp [D.sh,D.one]
theorem sh_cells (n:Nat) (d:D):(d.sh n).cells = shs n d.cells:=by cases d <;> simp [D.sh,D.cells,shs]
theorem Flat_sh (n N:Nat):∀ (ds:List D) (b off:Nat),Flat own U w N (shs n ds) b off ↔ Flat (fun r=>own (n + r)) U w (N - n) ds b off
 | [],b,off=>by rw [shs,Flat,Flat]
 | d :: ds,b,off=>by
   rw [shs,Flat,Flat,sh_one,Flat_sh n N ds]
   exact ⟨fun ⟨h1,⟨x,h2,h3⟩,h4⟩=>⟨h1,⟨x,h2,(VRel_sh n N d x).1 h3⟩,h4⟩,fun ⟨h1,⟨x,h2,h3⟩,h4⟩=>⟨h1,⟨x,h2,(VRel_sh n N d x).2 h3⟩,h4⟩⟩
theorem shs_len (n:Nat) (ds:List D):(shs n ds).length = ds.length:=by rw [shs_map,List.length_map]
theorem CellsL_sh (n N k:Nat):∀ (ds:List D) (b off:Nat),Cells own U w N k (shs n ds) b off ↔ Cells (fun r=>own (n + r)) U w (N - n) k ds b off
 | [],b,off=>by rw [shs,Cells,Cells]
 | d :: ds,b,off=>by
   rw [shs,Cells,Cells,CellsL_sh n N k ds,zCU,zCU,sh_cells,shs_len,Flat_sh]
end
def shRow (n:Nat):Row → Row
 | .cells k xs=>.cells k (shs n xs)
 | .mp es cl=>.mp (es.map fun p=>(p.1,p.2.1,p.2.2.sh n)) cl
 | .it m since seen last=>.it (n + m) since seen last
 | .sit s p=>.sit s p
 | .bx d=>.bx (d.sh n)
def shH (n:Nat) (H:Heap):Heap:=List.replicate n none ++ H.map (Option.map (shRow n))
def shOwn (n:Nat) (own:Nat → Own):Nat → Own:=fun r=>if r < n then own r else own (r - n)
theorem shH_len (n:Nat) (H:Heap):(shH n H).length = n + H.length:=by simp [shH]
theorem shH_get (n:Nat) (H:Heap) (r:Nat):(shH n H).get r = if r < n then none else (H.get (r - n)).map (shRow n):=by
 unfold shH Heap.get
 split
 · rename_i h;rw [List.getElem?_append_left (by simpa using h)];simp [h]
 · rename_i h
   rw [List.getElem?_append_right (by simp;omega)]
   simp only [List.length_replicate,List.getElem?_map]
   cases H[r - n]? with
   | none=>rfl
   | some x=>cases x <;> rfl
theorem shOwn_at (n:Nat) (own:Nat → Own):(fun r=>shOwn n own (n + r)) = own:=by
 funext r
 unfold shOwn
 rw [if_neg (by omega)]
 congr 1;omega
theorem shift_sim {own:Nat → Own} {H:Heap} {X:Nat → Prop} {w:World} (hs:Sim own H X w) :
   Sim (shOwn H.length own) (shH H.length H) X w ∧ Ext X own H w (shOwn H.length own) (shH H.length H) w ∧ ∀ d v,Rel own H X w d v → Rel (shOwn H.length own) (shH H.length H) X w (d.sh H.length) v:=by
 generalize hn:H.length = n
 have hget:∀ r row,(shH n H).get r = some row → ∃ row0,n ≤ r ∧ H.get (r - n) = some row0 ∧ row = shRow n row0:=fun r row h=>by
   rw [shH_get] at h
   split at h
   · cases h
   · rename_i hr
     cases h0:H.get (r - n) with
     | none=>rw [h0] at h;cases h
     | some row0=>rw [h0] at h;exact ⟨row0,by omega,rfl,(Option.some.inj h).symm⟩
 have hown:∀ r,n ≤ r → shOwn n own r = own (r - n):=fun r h=>by unfold shOwn;rw [if_neg (by omega)]
 have hU:∀ b,zAN own H X w b ↔ zAN (shOwn n own) (shH n H) X w b:=fun b=>by
   constructor
   · rintro ⟨h1,h2,h3⟩
     refine ⟨h1,h2,fun r row h=>?_⟩
     obtain ⟨row0,h4,h5,_⟩:=hget r row h
     rw [hown r h4];exact h3 _ _ h5
   · rintro ⟨h1,h2,h3⟩
     refine ⟨h1,h2,fun r row h=>?_⟩
     have:=h3 (n + r) (shRow n row) (by rw [shH_get,if_neg (by omega),Nat.add_sub_cancel_left,h];rfl)
     rw [hown _ (by omega),Nat.add_sub_cancel_left] at this
     exact this
 have hUeq:zAN (shOwn n own) (shH n H) X w = zAN own H X w:=funext fun b=>propext (hU b).symm
 have hlen:(shH n H).length - n = H.length:=by rw [shH_len];omega
 have hrel:∀ d v,Rel own H X w d v → Rel (shOwn n own) (shH n H) X w (d.sh n) v:=fun d v h=>by
   rw [Rel,VRel_sh,shOwn_at,hUeq,hlen];exact h
 refine ⟨⟨fun r row h=>?_,fun r r' row row' h h' hne=>?_,hs.hid⟩,⟨Nat.le_refl _,by rw [shH_len];omega,fun r hr=>by unfold shOwn;rw [if_pos (by omega)],fun b hb=>⟨(hU b).1 hb,rfl⟩,fun _ _=>rfl,.refl _⟩,hrel⟩
 · obtain ⟨row0,h1,h2,rfl⟩:=hget r row h
   obtain ⟨h3,h4⟩:=hs.live _ _ h2
   rw [hown r h1]
   refine ⟨?_,h4⟩
   cases row0 with
   | cells k xs =>
     obtain ⟨g1,c,t,g2,g3,g4,g5⟩:=h3
     exact ⟨g1,c,t,g2,g3,by rw [shs_len];exact g4,by rw [CellsL_sh,shOwn_at,hUeq,hlen];exact g5⟩
   | mp es cl =>
     obtain ⟨en,g1,g2,g3⟩:=h3
     refine ⟨en,g1,by rw [g2,List.map_map];rfl,?_⟩
     have:(es.map fun p=>(p.1,p.2.1,p.2.2.sh n)).map (·.2.2) = shs n (es.map (·.2.2)):=by rw [shs_map,List.map_map,List.map_map];rfl
     rw [this,zDP,shOwn_at,hUeq,hlen];exact g3
   | it m since seen last =>
     obtain ⟨g1,g2,g3⟩:=h3
     exact ⟨by rw [shH_len];omega,g2,by rw [hown _ (by omega),Nat.add_sub_cancel_left];exact g3⟩
   | sit s pos=>exact h3
   | bx d =>
     obtain ⟨g1,x,t,g2,g3⟩:=h3
     exact ⟨g1,x,t,g2,by rw [VRel_sh,shOwn_at,hUeq,hlen];exact g3⟩
 · obtain ⟨row0,h1,h2,_⟩:=hget r row h
   obtain ⟨row0',h1',h2',_⟩:=hget r' row' h'
   rw [hown r h1,hown r' h1']
   exact hs.excl _ _ _ _ h2 h2' (by omega)
theorem Sound.shift {P:Program} {f:FuncId} {ds:List D} {H:Heap} {R R':D → Heap → Prop} (h:Sound P f ds H R) (hr:∀ d H',H.length ≤ H'.length → R d H' → R' (d.sh H'.length) (shH H'.length H')):Sound P f ds H R':=⟨h.1,fun own X w vs hs hv =>
 Calls.mono (h.2 own X w vs hs hv) fun e w' ⟨own',d,H',v,h1,h2,h3,h4,h5⟩=>by
   obtain ⟨g1,g2,g3⟩:=shift_sim h2
   exact ⟨_,_,_,v,h1,g1,g3 _ _ h3,Ext.trans h4 g2,hr _ _ h4.hn h5⟩⟩
mutual
theorem sh_noref (n:Nat):∀ d:D,d.noref = true → d.sh n = d
 | .v x,_=>by rw [D.sh]
 | .fz k xs,_=>by rw [D.sh]
 | .fp k xs i o,_=>by rw [D.sh]
 | .any,_=>by rw [D.sh]
 | .agg cs,h=>by rw [D.noref] at h;rw [D.sh,shs_noref n cs h]
 | .tup cs,h=>by rw [D.noref] at h;rw [D.sh,shs_noref n cs h]
 | .fn f fs cs,h=>by rw [D.noref,Bool.and_eq_true] at h;rw [D.sh,shs_noref n fs h.1,shs_noref n cs h.2]
 | .ifc t d,h=>by rw [D.noref] at h;rw [D.sh,sh_noref n d h]
 | .sl r i m,h=>by simp [D.noref] at h
 | .slc r i m c,h=>by simp [D.noref] at h
 | .pt r i o,h=>by simp [D.noref] at h
 | .mp r,h=>by simp [D.noref] at h
termination_by d=>SizeOf.sizeOf d
theorem shs_noref (n:Nat):∀ ds:List D,zAh ds = true → shs n ds = ds
 | [],_=>by rw [shs]
 | d :: ds,h=>by rw [zAh,Bool.and_eq_true] at h;rw [shs,sh_noref n d h.1,shs_noref n ds h.2]
termination_by ds=>SizeOf.sizeOf ds
end
end Go.Ab
namespace Go.T
open Go.Ab
variable [Go.Ab.DM]
section
variable {ζ:Nat → Row} {num:Nat → Nat} {rows:Rows} {H:Heap}
end
end Go.T
namespace Go.T
open Go.Ab
variable [Go.Ab.DM]
theorem argsE_at:∀ (l:List TV) (n i:Nat),zAl (argsE n l) (n + i) = (l[i]?).map fun v=>⟨n + i,0,[],v⟩
 | [],n,i=>rfl
 | v :: l,n,0=>by simp [argsE,zAl]
 | v :: l,n,i + 1=>by
   have:=argsE_at l (n + 1) i
   rw [show n + 1 + i = n + (i + 1) by omega] at this
   simp only [argsE,zAl,List.getElem?_cons_succ]
   cases hb:Nat.beq n (n + (i + 1)) with
   | true=>rw [Nat.beq_eq] at hb;omega
   | false=>exact this
theorem conOk_of {P:Program} {Γ:List Con} (hΓ:∀ c ∈ Γ,zAu P c) (zDN:P.follows .mixedOrders = true) (c:Con) {fn:Func} {body:Code} {hint:Hint} (hf:P.funcs[c.f]? = some fn) (hb:fn.body = some body) (hnm:(fn.name == "runtime.NumGoroutine") = false)
   (hN:c.as.length ≤ fn.ntmps) (hw:wf fn.ntmps body hint = true) (hq:c.q = none) (hF:∀ x,trunF P Γ fn hint c.as c.ins c.res c.outs x = c.F x) (hlen:∀ x,(zBD c x).length = c.as.length ∧ (zBh c x).length = c.ins.length):zAu P c:=by
 intro x hy ζ num H hR hok
 obtain ⟨y,hy⟩:=hy
 have hQ:∀ {z},c.Q x z ↔ c.F x = some z:=fun {z}=>by unfold Con.Q;rw [hq]
 rw [hQ] at hy
 have ht:=hF x
 rw [hy] at ht
 unfold trunF trunFk at ht
 rw [hb] at ht
 dsimp only at ht
 refine Sound.mono (R:=fun dd H'=>∃ ζ' num',HRel ζ' num' (zAQ c y) H' ∧ dd = enc (zAB num' (zAQ c y)) (zBQ c y) ∧ okV (zAQ c y) (zBQ c y) ∧
   (∀ r,zAW (zAA (zAQ c y) r) = true → (r < c.ins.length → num' r = num r) ∧ (c.ins.length ≤ r → H.length ≤ num' r)) ∧ ∀ r,r < c.ins.length → zAP (zAA (zAQ c y) r) = true → zCW (zAA (zAQ c y) r) = zCW (zAA (zBh c x) r)) ?_ fun dd H' h=>⟨y,hQ.2 hy,h⟩
 refine zBi hf hb hnm rfl (by rw [List.length_map,(hlen x).1];exact hN) ?_
 let B:Base:=⟨c.ins.length,H.length,num,fun r=>zCW (zAA (zBh c x) r)⟩
 let s:St:=⟨argsE 0 (zBD c x),zBh c x,[]⟩
 have hfe:∀ n,zAl (argsE 0 (zBD c x)) n = ((zBD c x)[n]?).map fun v=>⟨n,0,[],v⟩:=fun n=>by
   have:=argsE_at (zBD c x) 0 n
   simp only [Nat.zero_add] at this
   exact this
 have hplain:Plain s:=⟨rfl,fun n ent hf=>by
   have hf:zAl (argsE 0 (zBD c x)) n = some ent:=hf
   rw [hfe] at hf
   cases hv:(zBD c x)[n]? with
   | none=>rw [hv] at hf;cases hf
   | some v=>rw [hv] at hf;have:=Option.some.inj hf;subst this;rfl⟩
 have hlive:∀ r,zAW (zAA (zBh c x) r) = true → r < c.ins.length:=fun r hl=>by rw [← (hlen x).2];exact zAt (live_row hl)
 have ha:Abs B ζ num s (zCh num s) H:=⟨rfl,hR,fun n ent hf _=>by
     have hf:zAl (argsE 0 (zBD c x)) n = some ent:=hf
     rw [hfe] at hf
     cases hv:(zBD c x)[n]? with
     | none=>rw [hv] at hf;cases hf
     | some v=>rw [hv] at hf;have:=Option.some.inj hf;subst this;exact hok v (List.mem_of_getElem? hv),
   fun n b h=>(by cases h),fun r hl=>⟨fun _=>rfl,fun h=>absurd (hlive r hl) (Nat.not_lt.2 h)⟩,Nat.le_refl _,Nat.le_of_eq (hlen x).2.symm,fun r _ _=>rfl⟩
 have hw0:WeakS (envOf ((zBD c x).map (enc (zAB num (zBh c x))))) H (zCh num s) H:=WeakS.env fun i=>by
   unfold zCh
   show Tl _ (match zAl (argsE 0 (zBD c x)) i with | some e=>entD num s e | none=>.any)
   rw [hfe]
   cases hv:(zBD c x)[i]? with
   | none=>exact Tl.any _
   | some v =>
     refine Tl.of_eq ?_
     unfold envOf
     rw [List.getD_eq_getElem?_getD,List.getElem?_map,hv]
     rfl
 have hret:∀ {rs:List ResultVar},rs = fn.results.toList → ∀ {ζ' num' s' e' H'},endT P rs c.ins.length c.res c.outs s' = some y → Abs B ζ' num' s' e' H' → (∀ K,Run P c.f fn.ntmps H.length (fun dd H'=>∃ ζ' num',HRel ζ' num' (zAQ c y) H' ∧ dd = enc (zAB num' (zAQ c y)) (zBQ c y) ∧ okV (zAQ c y) (zBQ c y) ∧
   (∀ r,zAW (zAA (zAQ c y) r) = true → (r < c.ins.length → num' r = num r) ∧ (c.ins.length ≤ r → H.length ≤ num' r)) ∧ ∀ r,r < c.ins.length → zAP (zAA (zAQ c y) r) = true → zCW (zAA (zAQ c y) r) = zCW (zAA (zBh c x) r)) (.code .ret :: K) e' H') ∧ Run P c.f fn.ntmps H.length (fun dd H'=>∃ ζ' num',HRel ζ' num' (zAQ c y) H' ∧ dd = enc (zAB num' (zAQ c y)) (zBQ c y) ∧ okV (zAQ c y) (zBQ c y) ∧
   (∀ r,zAW (zAA (zAQ c y) r) = true → (r < c.ins.length → num' r = num r) ∧ (c.ins.length ≤ r → H.length ≤ num' r)) ∧ ∀ r,r < c.ins.length → zAP (zAA (zAQ c y) r) = true → zCW (zAA (zAQ c y) r) = zCW (zAA (zBh c x) r)) [] e' H':=fun hrs ζ' num' s' e' H' he ha'=>by
   have hr:fn.results = _:=(show fn.results = (fn.results.toList).toArray from by simp)
   rw [← hrs] at hr
   refine ⟨fun K hn=>?_,fun hn=>?_⟩
   · obtain ⟨ds,h1,ζ2,num2,H2,h2,h3,h4,h5,h6⟩:=end_sound hn ha' (B:=B) rfl he
     exact zBd hf hr h1 h2 ⟨ζ2,num2,h3,rfl,h4,h5,h6⟩ hn
   · obtain ⟨ds,h1,ζ2,num2,H2,h2,h3,h4,h5,h6⟩:=end_sound hn ha' (B:=B) rfl he
     exact run_end hf hr h1 h2 ⟨ζ2,num2,h3,rfl,h4,h5,h6⟩ hn
 exact run_weak hw0 (trun_sound (B:=B) hΓ zDN body hint ⟨c.ins.length,0,[],endT P fn.results.toList c.ins.length c.res c.outs⟩ _ s y ζ num _ H [] hw rfl ha hplain ht
   (fun ζ' num' s' e' H' h1 h2 _ _=>(hret rfl h1 h2).2) ⟨fun i k' hk=>(by cases hk),fun K' ζ' num' s' e' H' h1 h2 _ _=>(hret rfl h1 h2).1 K'⟩)
theorem zBf {P:Program}:∀ c ∈ ([]:List Con),zAu P c:=fun _ h=>by cases h
theorem zAU {P:Program} {c:Con} {l:List Con} (h:zAu P c) (hs:∀ c ∈ l,zAu P c):∀ c' ∈ c :: l,zAu P c':=fun c' hc=>by
 rcases List.mem_cons.1 hc with rfl | hc
 · exact h
 · exact hs c' hc
theorem zBe {P:Program} (zDN:P.follows .mixedOrders = true) (Γ:List Con) (hΓ:∀ c ∈ Γ,zAu P c) (c:Con) (fn:Func) (hint:Hint) (hf:P.funcs[c.f]? = some fn) (hnm:(fn.name == "runtime.NumGoroutine") = false)
   (hN:Nat.ble c.as.length fn.ntmps = true) (hw:(match fn.body with | some b=>wf fn.ntmps b hint | none=>false) = true) (hq:c.q = none) (hF:∀ x,trunF P Γ fn hint c.as c.ins c.res c.outs x = c.F x) (hlen:∀ x,(zBD c x).length = c.as.length ∧ (zBh c x).length = c.ins.length):zAu P c:=by
 cases hb:fn.body with
 | none=>rw [hb] at hw;cases hw
 | some b=>rw [hb] at hw;exact conOk_of hΓ zDN c hf hb hnm (Nat.le_of_ble_eq_true hN) hw hq hF hlen
end Go.T
