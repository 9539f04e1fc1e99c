/- Part 3 of what the claim leans on: TAbs3, TAbs4, TPure, TPure2, TPure3, TConv, TPure4, TMap, TElems, TPure5, TStep, TStep2, THeap, TApp, THeap2, THeap3, THeap4, THeap5, THeap6, THide, TPack, TPack2, TPack3. -/
import Derived.Test.YtbhcfbnkdbioaaaGreatM2
import Derived.Calls
import Derived.KernelRfl
import Derived.Orders
import Derived.Laws.Sem
import Derived.Laws.CopyRow
import Derived.Laws.Cells
import Derived.Room.Entries
import Derived.Lib.Overlaps
import GoSem.Conv.BytesToString
import Derived.OrdersHeld
set_option linter.defProp false
noncomputable section
set_option linter.unusedVariables false
set_option linter.unusedSectionVars false
set_option linter.unusedSimpArgs false
namespace Go.T
open Go.Ab
variable [Go.Ab.DM]
section
variable {ζ:Nat -> Row} {num:Nat -> Nat} {rows rows':Rows} {H:Heap} {X:Nat -> Prop} {own:Nat -> Own} {w:World}
def fr_one {rows rows':Rows} (hf:FrStep rows rows') {r:Nat} {t:Ty} {x:t.I} (h:zAA rows' r = .one t x):zAA rows r = .one t x:=by
 rcases hf.2 r with e | e
 ·rw [<- e];exact h
 ·rw [e] at h
  cases hrow:zAA rows r with
  | one t' x' =>
   rw [hrow] at h;simp only [zCH] at h
   cases hp:t'.pure <;> rw [hp] at h <;> simp at h
   obtain ⟨rfl,h2⟩:=h
   rw [eq_of_heq h2]
  | _=>rw [hrow] at h;simp [zCH] at h
def zBL (hf:FrStep rows rows') {r:Nat} (h:zAW (zAA rows' r) = true):zAA rows' r = zAA rows r:=by
 rcases hf.2 r with e | e
 ·exact e
 ·rw [e] at h ⊢
  cases hrow:zAA rows r with
  | one t' x' =>
   rw [hrow] at h
   simp only [zCH] at h ⊢
   cases hp:t'.pure <;> rw [hp] at h <;> simp [zAW] at h ⊢
  | many t l=>rw [hrow] at h;simp [zCH,zAW] at h
  | lst t l=>rw [hrow] at h;simp [zCH,zAW] at h
  | _=>rfl
def pick_not_agg {d b:D} (h1:zBS d = false) (h2:zBS b = false):zBS (pickD d b) = false:=by
 cases b <;> first | exact h1 | exact h2
def zBJ {d:D} (h:zBS d = false):d.cells = [d]:=by cases d <;> first | rfl | simp [zBS] at h
def one_not_agg {d:D} (h:d.one = true):zBS d = false:=by cases d <;> first | rfl | simp [D.one] at h
def reD_spec {t:Ty} {x:t.I} {d:D} {told:List D} (hl:t.lay = true) (ha:zBS d = zBr t) (ht:Tls d.cells told) (hlen:told.length = (zAs ⟨t,x⟩).length) :
  zBS (reD d ((zAs ⟨t,x⟩).map (enc (zAB num rows')))) = zBr t /\ (reD d ((zAs ⟨t,x⟩).map (enc (zAB num rows')))).cells.length = d.cells.length /\ Tls (reD d ((zAs ⟨t,x⟩).map (enc (zAB num rows')))).cells ((zAs ⟨t,x⟩).map (enc (zAB num rows'))):=by
 have hl1:=ht.len
 cases t with
 | agg s =>
  cases d with
  | agg cs =>
   have hlen':cs.length = ((zAs ⟨.agg s,x⟩).map (enc (zAB num rows'))).length:=by rw [yAG,<- hlen];exact hl1
   exact ⟨rfl,mix_len hlen',mix_tl hlen'⟩
  | _=>simp [zBS,zBr] at ha
 | _=>exact key _ x (by exact hl) ha
where
 key (u:Ty) (y:u.I) (hl:u.one = true) {d:D} (ha:zBS d = false) :
     zBS (reD d ([⟨u,y⟩].map (enc (zAB num rows')))) = false /\ (reD d ([⟨u,y⟩].map (enc (zAB num rows')))).cells.length = d.cells.length /\ Tls (reD d ([⟨u,y⟩].map (enc (zAB num rows')))).cells ([⟨u,y⟩].map (enc (zAB num rows'))):=by
  have hb:zBS (enc (zAB num rows') ⟨u,y⟩) = false:=by
   rcases enc_one (num:=num) (rows:=rows') hl y with e | e
   ·have:enc (zAB num rows') ⟨u,y⟩ = .any:=e
    rw [this];rfl
   ·exact one_not_agg e
  have hp:=pick_not_agg ha hb
  have e:reD d ([⟨u,y⟩].map (enc (zAB num rows'))) = pickD d (enc (zAB num rows') ⟨u,y⟩):=by
   cases d <;> first | rfl | simp [zBS] at ha
  rw [e]
  refine ⟨hp,by rw [zBJ hp,zBJ ha];rfl,?_⟩
  rw [zBJ hp]
  exact .cons (pick_tl _ _) .nil
def pick_one {a b:D} (h1:a.one = true) (h2:b = .any \/ b.one = true):(pickD a b).one = true:=by
 cases b <;> first | exact h1 | (rcases h2 with h | h;exact absurd h (by simp);exact h)
def mix_flat {own:Nat -> Own} {U U':Nat -> Prop} {w:World} {n n':Nat} {ρ ρ':Refs} (hk:Keeps own n U w own n' U' w):∀ (L:List TV) (cs:List D) (b off:Nat),Tls cs (L.map (enc ρ)) ->
  (∀ v ∈ L,(enc ρ' v = .any \/ (enc ρ' v).one = true) /\ ∀ x,VRel own U w n (enc ρ v) x -> VRel own U' w n' (enc ρ' v) x) -> Flat own U w n cs b off -> Flat own U' w n' (mixD cs (L.map (enc ρ'))) b off
 | [],cs,b,off,ht,_,h=>by cases cs <;> (simp only [yBM,mixD];rw [Flat];trivial)
 | v :: L,[],b,off,ht,_,h=>by simp only [mixD];rw [Flat];trivial
 | v :: L,c :: cs,b,off,ht,hv,h=>by
  simp only [yAL] at ht ⊢
  cases ht with
  | cons h1 h2 =>
   rw [Flat] at h
   obtain ⟨h3,⟨x,h4,h5⟩,h6⟩:=h
   simp only [mixD]
   rw [Flat]
   obtain ⟨ha,hb⟩:=hv v (by simp)
   refine ⟨pick_one h3 ha,⟨x,h4,?_⟩,mix_flat hk L cs b (off + 1) h2 (fun u hu=>hv u (yAF _ hu)) h6⟩
   have h7:=hb x (h1 _ _ _ _ _ h5)
   have h8:=VRel.mono hk c x h5
   generalize enc ρ' v = y at h7
   cases y <;> first | exact h7 | exact h8
def re_cells (u:Ty) (y:u.I) {d:D} (h1:zBS (reD d ([⟨u,y⟩].map (enc (zAB num rows')))) = false) (ha:zBS d = false) :
  (reD d ([⟨u,y⟩].map (enc (zAB num rows')))).cells = mixD d.cells ([⟨u,y⟩].map (enc (zAB num rows'))):=by
 rw [zBJ h1]
 cases d <;> first | rfl | simp [zBS] at ha
def re_elem {own:Nat -> Own} {U U':Nat -> Prop} {w:World} {n n':Nat} {k:Nat} {ρ:Refs} {t:Ty} {x:t.I} {d:D} (hk:Keeps own n U w own n' U' w) (hl:t.lay = true) (ha:zBS d = zBr t) (ht:Tls d.cells ((zAs ⟨t,x⟩).map (enc ρ)))
  (hv:∀ v ∈ zAs ⟨t,x⟩,(enc (zAB num rows') v = .any \/ (enc (zAB num rows') v).one = true) /\ ∀ y,VRel own U w n (enc ρ v) y -> VRel own U' w n' (enc (zAB num rows') v) y) {b off:Nat}
  (h:Elem own U w n k d b off):Elem own U' w n' k (reD d ((zAs ⟨t,x⟩).map (enc (zAB num rows')))) b off:=by
 obtain ⟨h1,h2,h3⟩:=reD_spec (num:=num) (rows':=rows') (x:=x) hl ha ht (by rw [yAG])
 rw [zCe] at h ⊢
 refine ⟨by rw [h2];exact h.1,?_⟩
 have key:=mix_flat hk (zAs ⟨t,x⟩) d.cells b off ht hv h.2
 have e:(reD d ((zAs ⟨t,x⟩).map (enc (zAB num rows')))).cells = mixD d.cells ((zAs ⟨t,x⟩).map (enc (zAB num rows'))):=by
  cases t with
  | agg s =>
   cases d with
   | agg cs=>rfl
   | _=>simp [zBS,zBr] at ha
  | _=>exact re_cells _ x (by exact h1) (by exact ha)
 rw [e];exact key
def fr_sim (hs:Sim own H X w) (hr:HRel ζ num rows H) (hf:FrStep rows rows'):Sim own (frH num rows rows' H) X w:=by
 refine ⟨fun q row' hq=>?_,fun q q' row₁ row₂ h1 h2 hne=>?_,hs.hid⟩
 ·obtain ⟨row0,h0⟩:=frH_sub hr hq
  obtain ⟨hok,hnx⟩:=hs.live q row0 h0
  refine ⟨?_,hnx⟩
  have hk:=fr_keeps (rows':=rows') (own:=own) (X:=X) (w:=w) hr
  have same:row' = row0 -> RowOk own (frH num rows rows' H).length (zAQ own (frH num rows rows' H) X w) w (own q) row':=fun e=>e ▸ RowOk.mono hk rfl hok
  by_cases hx:∃ r,zAW (zAA rows r) = true /\ num r = q
  ·obtain ⟨r,h1,h2⟩:=hx
   subst h2
   rw [frH_live hr h1] at hq
   split at hq
   ·rename_i hl
    have he:=zBL hf hl
    split at hq
    ·rename_i t x k d hrow hg
     have hg':zAA rows r = .one t x:=fr_one hf hrow
     have hR:=hr.row r
     rw [hg'] at hR
     obtain ⟨hlay,k',d',hg2,hag,htl⟩:=hR
     rw [hg] at hg2
     simp only [yAH,Row.cells.injEq,yAq,and_true] at hg2
     obtain ⟨rfl,rfl⟩:=hg2
     rw [hg] at h0
     simp only [yAH] at h0 hq
     subst h0;subst hq
     obtain ⟨h3,c,tt,h4,h5,h6,h7⟩:=hok
     refine ⟨h3,c,tt,h4,h5,h6,?_⟩
     rw [Cells] at h7 ⊢
     refine ⟨re_elem hk hlay hag htl (fun v hv=>⟨enc_one (lay_kids hlay v hv) v.x,fun y hy=>?_⟩) h7.1,by rw [Cells];trivial⟩
     exact fr_rel hs hr hf (ok_kids (v:=⟨t,x⟩) (hr.ok r t x hg') v hv) hy
    ·exact same (by rw [h0] at hq;simpa using hq.symm)
   ·simp at hq
  ·rw [frH_other hr (fun r h1 h2=>hx ⟨r,h1,h2⟩),h0] at hq
   exact same (by simpa using hq.symm)
 ·obtain ⟨_,g1⟩:=frH_sub hr h1
  obtain ⟨_,g2⟩:=frH_sub hr h2
  exact hs.excl _ _ _ _ g1 g2 hne
def fr_ext (hs:Sim own H X w) (hr:HRel ζ num rows H):Ext X own H w own (frH num rows rows' H) w :=
 ⟨yAJ _,by rw [frH_len];exact yAJ _,fun _ _=>rfl,fun b hb=>⟨fr_unowned hr hb,rfl⟩,fun _ _=>rfl,.refl _⟩
def frH_same (hr:HRel ζ num rows H) (hf:FrStep rows rows') {r:Nat} (hl:zAW (zAA rows' r) = true) (hn:∀ t x,zAA rows' r ≠ .one t x):(frH num rows rows' H).get (num r) = H.get (num r):=by
 have he:=zBL hf hl
 rw [frH_live hr (by rw [<- he];exact hl),if_pos hl]
 split
 ·rename_i t x k d hrow hg;exact absurd hrow (hn t x)
 ·rfl
def fr_hrel (hr:HRel ζ num rows H) (hf:FrStep rows rows'):HRel ζ num rows' (frH num rows rows' H):=by
 refine ⟨fun r=>?_,fun r q h1 h2=>hr.inj r q (by rw [<- zBL hf h1];exact h1) (by rw [<- zBL hf h2];exact h2),fun r t x h=>zCv (fr_le hf) t x (hr.ok r t x (fr_one hf h))⟩
 have hR:=hr.row r
 have mapsame:∀ m,(∃ a b l,zAA rows m = .mp a b l) -> (∃ a b l,zAA rows' m = .mp a b l) /\ (frH num rows rows' H).get (num m) = H.get (num m):=by
  rintro m ⟨a,b,l,hm⟩
  have hm':zAA rows' m = .mp a b l:=by
   rcases hf.2 m with e | e
   ·rw [e,hm]
   ·rw [e,hm];rfl
  exact ⟨⟨a,b,l,hm'⟩,frH_same hr hf (by rw [hm'];rfl) (fun t x h=>by rw [hm'] at h;simp at h)⟩
 cases hrow:zAA rows' r with
 | one t x =>
  have h0:=fr_one hf hrow
  rw [h0] at hR
  obtain ⟨hlay,k,d,hg,hag,htl⟩:=hR
  have hg':(frH num rows rows' H).get (num r) = some (.cells k [reD d ((zAs ⟨t,x⟩).map (enc (zAB num rows')))]):=by
   rw [frH_live hr (by rw [h0];rfl),if_pos (by rw [hrow];rfl),hrow,hg]
  obtain ⟨h1,h2,h3⟩:=reD_spec (num:=num) (rows':=rows') (x:=x) hlay hag htl (by rw [yAG])
  exact ⟨hlay,k,_,hg',h1,h3⟩
 | many t l =>
  have he:=zBL hf (r:=r) (by rw [hrow];rfl)
  rw [<- he,hrow] at hR
  exact ⟨hR.1,by rw [frH_same hr hf (by rw [hrow];rfl) (fun t x h=>by rw [hrow] at h;simp at h)];exact hR.2⟩
 | lst t l =>
  have h0:zAA rows r = .lst t l:=by
   rcases hf.2 r with e | e
   ·rw [<- e];exact hrow
   ·rw [e] at hrow
    cases h:zAA rows r with
    | one t' x'=>rw [h] at hrow;simp only [zCH] at hrow;cases hp:t'.pure <;> rw [hp] at hrow <;> simp at hrow
    | _=>rw [h] at hrow;simp [zCH] at hrow
  rw [h0] at hR
  refine ⟨hR.1,fun hne=>?_⟩
  rw [frH_same hr hf (by rw [hrow];cases l <;> simp at hne ⊢ <;> rfl) (fun t x h=>by rw [hrow] at h;simp at h)]
  exact hR.2 hne
 | fro t l =>
  rcases hf.2 r with e | e
  ·rw [<- e,hrow] at hR;exact hR
  ·rw [e] at hrow
   cases h:zAA rows r with
   | one t' x'=>rw [h] at hrow;simp only [zCH] at hrow;cases hp:t'.pure <;> rw [hp] at hrow <;> simp at hrow
   | many t' l'=>rw [h] at hrow hR;simp only [zCH,TRow.fro.injEq] at hrow;obtain ⟨rfl,_⟩:=hrow;exact hR.1
   | lst t' l'=>rw [h] at hrow hR;simp only [zCH,TRow.fro.injEq] at hrow;obtain ⟨rfl,_⟩:=hrow;exact hR.1
   | fro t' l'=>rw [h] at hrow hR;simp only [zCH,TRow.fro.injEq] at hrow;obtain ⟨rfl,_⟩:=hrow;exact hR
   | _=>rw [h] at hrow;simp [zCH] at hrow
 | fr1 t x =>
  rcases hf.2 r with e | e
  ·rw [<- e,hrow] at hR;exact hR
  ·rw [e] at hrow
   cases h:zAA rows r with
   | one t' x' =>
    rw [h] at hrow;simp only [zCH] at hrow
    cases hp:t'.pure <;> rw [hp] at hrow <;> simp at hrow
    obtain ⟨rfl,_⟩:=hrow;exact hp
   | fr1 t' x'=>rw [h] at hrow hR;simp only [zCH,TRow.fr1.injEq] at hrow;obtain ⟨rfl,_⟩:=hrow;exact hR
   | _=>rw [h] at hrow;simp [zCH] at hrow
 | mp a b l =>
  have he:=zBL hf (r:=r) (by rw [hrow];rfl)
  rw [<- he,hrow] at hR
  simp only [zCC] at hR ⊢
  rw [frH_same hr hf (by rw [hrow];rfl) (fun t x h=>by rw [hrow] at h;simp at h)]
  exact hR
 | itb m =>
  have he:=zBL hf (r:=r) (by rw [hrow];rfl)
  rw [<- he,hrow] at hR
  simp only [zCC] at hR ⊢
  obtain ⟨h1,h2,h3⟩:=hR
  obtain ⟨h4,h5⟩:=mapsame m h2
  rw [frH_same hr hf (by rw [hrow];rfl) (fun t x h=>by rw [hrow] at h;simp at h),h5]
  exact ⟨h1,h4,h3⟩
 | ite m a b x y =>
  have he:=zBL hf (r:=r) (by rw [hrow];rfl)
  rw [<- he,hrow] at hR
  simp only [zCC] at hR ⊢
  obtain ⟨h1,h2,h3⟩:=hR
  obtain ⟨h4,h5⟩:=mapsame m h2
  rw [frH_same hr hf (by rw [hrow];rfl) (fun t x h=>by rw [hrow] at h;simp at h),h5]
  exact ⟨h1,h4,h3⟩
 | sit s p =>
  have he:=zBL hf (r:=r) (by rw [hrow];rfl)
  rw [<- he,hrow] at hR
  simp only [zCC] at hR ⊢
  rw [frH_same hr hf (by rw [hrow];rfl) (fun t x h=>by rw [hrow] at h;simp at h)]
  exact hR
 | gone=>trivial
end
end Go.T
namespace Go.T
open Go.Ab
variable [Go.Ab.DM]
def zBB (gs:List (Nat × Bool)) (c:List (Nat × Bool)):Bool:=c.all fun p=>match getG gs p.1 with | some b=>b == p.2 | none=>false
def entD (num:Nat -> Nat) (s:St) (e:Ent):D:=if zBB s.gs e.c = true then enc (zAB num s.rows) e.v else .v undef
def zCn (num:Nat -> Nat) (s:St):Env:=fun i=>match zAm s.env i with | some e=>entD num s e | none=>.any
structure Base where
 k:Nat
 n0:Nat
 num0:Nat -> Nat
 len0:Nat -> Nat
structure Abs (B:Base) (ζ:Nat -> Row) (num:Nat -> Nat) (s:St) (e:Env) (H:Heap):Prop where
 env:e = zCn num s
 hrel:HRel ζ num s.rows H
 ok:∀ n ent,zAm s.env n = some ent -> zBB s.gs ent.c = true -> okV s.rows ent.v
 gs:∀ n b,getG s.gs n = some b -> ∃ a lv c,zAm s.env n = some ⟨a,lv,c,⟨.bool,b⟩⟩
 base:∀ r,zAW (zAA s.rows r) = true -> (r < B.k -> num r = B.num0 r) /\ (B.k <= r -> B.n0 <= num r)
 hlen:B.n0 <= H.length
 klen:B.k <= s.rows.length
 lens:∀ r,r < B.k -> zAS (zAA s.rows r) = true -> zCg (zAA s.rows r) = B.len0 r
def lens_le {B:Base} {rows rows':Rows} (h:∀ r,r < B.k -> zAS (zAA rows r) = true -> zCg (zAA rows r) = B.len0 r) (hk:B.k <= rows.length) (hle:RowsLe rows rows'):∀ r,r < B.k -> zAS (zAA rows' r) = true -> zCg (zAA rows' r) = B.len0 r:=fun r hr hl=>by
 obtain ⟨h1,h2⟩:=hle.2 r (yAd hr hk) hl
 rw [h2];exact h r hr h1
structure Le (d:Nat) (ζ:Nat -> Row) (num:Nat -> Nat) (s:St) (ζ':Nat -> Row) (num':Nat -> Nat) (s':St):Prop where
 env:∀ n ent,zAm s'.env n = some ent -> ent.lv < d -> zAm s.env n = some ent
 rows:∀ r lv,zAU s'.rows r = some lv -> lv < d -> zAU s.rows r = some lv /\ zAA s'.rows r = zAA s.rows r /\ num' r = num r /\ ζ' r = ζ r
def Le.refl (d:Nat) (ζ num s):Le d ζ num s ζ num s:=⟨fun _ _ h _=>h,fun _ _ h _=>⟨h,rfl,rfl,rfl⟩⟩
def Le.trans {d ζ num s ζ' num' s' ζ'' num'' s''} (h:Le d ζ num s ζ' num' s') (h':Le d ζ' num' s' ζ'' num'' s''):Le d ζ num s ζ'' num'' s'' :=
 ⟨fun n ent he hl=>h.env n ent (h'.env n ent he hl) hl,fun r lv hr hl=>by
  obtain ⟨h1,h2,h3,h4⟩:=h'.rows r lv hr hl
  obtain ⟨h5,h6,h7,h8⟩:=h.rows r lv h1 hl
  exact ⟨h5,h2.trans h6,h3.trans h7,h4.trans h8⟩⟩
def holds_sub {gs c c':List (Nat × Bool)} (h:subC c c' = true) (h':zBB gs c' = true):zBB gs c = true:=by
 unfold zBB subC at *
 rw [yAR] at *
 intro p hp
 have h1:=h p hp
 rw [yBQ] at h1
 obtain ⟨q,hq,hpq⟩:=h1
 simp only [yAB,yAP,beq_iff_eq] at hpq
 have h2:=h' q hq
 rw [hpq.1,hpq.2];exact h2
section
variable {B:Base} {ζ:Nat -> Row} {num:Nat -> Nat} {s:St} {e:Env} {H:Heap}
def Abs.at (ha:Abs B ζ num s e H) {n:Nat} {ent:Ent} (hf:zAm s.env n = some ent) (hh:zBB s.gs ent.c = true):e n = enc (zAB num s.rows) ent.v:=by
 rw [ha.env];unfold zCn;rw [hf];simp [entD,hh]
def ofValue_enc {v:Value} {x:TV} (h:ofValue v = some x) (ρ:Refs):enc ρ x = .v v:=by
 cases v with
 | int k n=>simp only [ofValue,yAH] at h;subst h;rfl
 | bool b=>simp only [ofValue,yAH] at h;subst h;rfl
 | string b=>simp only [ofValue,yAH] at h;subst h;rfl
 | slice a l c =>
  unfold ofValue at h
  split at h <;> simp at h
  all_goals (try (rename_i he;cases he))
  all_goals (subst h;try rfl)
 | pointer a=>cases a <;> simp [ofValue] at h;subst h;rfl
 | map a=>cases a <;> simp [ofValue] at h;subst h;rfl
 | nilIface=>simp only [ofValue,yAH] at h;subst h;rfl
 | nilFunc=>simp only [ofValue,yAH] at h;subst h;rfl
 | _=>simp [ofValue] at h
def ofValue_ok {v:Value} {x:TV} (h:ofValue v = some x) (rows:Rows):okV rows x:=by
 cases v with
 | int k n=>simp only [ofValue,yAH] at h;subst h;trivial
 | bool b=>simp only [ofValue,yAH] at h;subst h;trivial
 | string b=>simp only [ofValue,yAH] at h;subst h;trivial
 | slice a l c =>
  unfold ofValue at h
  split at h <;> simp at h
  all_goals (try (rename_i he;cases he))
  all_goals (subst h;try trivial)
 | pointer a=>cases a <;> simp [ofValue] at h;subst h;trivial
 | map a=>cases a <;> simp [ofValue] at h;subst h;trivial
 | nilIface=>simp only [ofValue,yAH] at h;subst h;trivial
 | nilFunc=>simp only [ofValue,yAH] at h;subst h;trivial
 | _=>simp [ofValue] at h
def zAP (ha:Abs B ζ num s e H) {c:List (Nat × Bool)} (hh:zBB s.gs c = true) {x:Operand} {v:TV} (h:evT s.env c x = some v):ev e x = enc (zAB num s.rows) v /\ okV s.rows v:=by
 cases x with
 | tmp t =>
  simp only [evT] at h
  split at h
  ·rename_i ent hf
   cases hs:subC ent.c c <;> rw [hs] at h <;> simp at h
   subst h
   have hc:=holds_sub hs hh
   exact ⟨ha.at hf hc,ha.ok t ent hf hc⟩
  ·simp at h
 | const v'=>exact ⟨(ofValue_enc h _).symm,ofValue_ok h _⟩
 | global g=>simp [evT] at h
 | func f=>simp only [evT,yAH] at h;subst h;exact ⟨rfl,trivial,trivial⟩
def zCa (ha:Abs B ζ num s e H) {c:List (Nat × Bool)} (hh:zBB s.gs c = true):∀ {l:List Operand} {vs:List TV},evTs s.env c l = some vs -> l.map (ev e) = vs.map (enc (zAB num s.rows)) /\ ∀ v ∈ vs,okV s.rows v
 | [],vs,h=>by simp only [evTs,yAH] at h;subst h;exact ⟨rfl,by simp⟩
 | x :: l,vs,h=>by
  simp only [evTs] at h
  split at h
  ·rename_i v ws h1 h2
   simp only [yAH] at h;subst h
   obtain ⟨h3,h4⟩:=zAP ha hh h1
   obtain ⟨h5,h6⟩:=zCa ha hh h2
   exact ⟨by rw [yAL,yAL,h3,h5],fun u hu=>by rcases yAE.1 hu with rfl | hu;exact h4;exact h6 u hu⟩
  ·simp at h
def evPs_sound (ha:Abs B ζ num s e H) {c:List (Nat × Bool)} (hh:zBB s.gs c = true):∀ {l:List (Nat × Operand)} {vs:List (Nat × TV)},evPs s.env c l = some vs -> (l.map fun p=>(p.1,ev e p.2)) = (vs.map fun p=>(p.1,enc (zAB num s.rows) p.2)) /\ ∀ p ∈ vs,okV s.rows p.2
 | [],vs,h=>by simp only [evPs,yAH] at h;subst h;exact ⟨rfl,by simp⟩
 | (i,x) :: l,vs,h=>by
  simp only [evPs] at h
  split at h
  ·rename_i v ws h1 h2
   simp only [yAH] at h;subst h
   obtain ⟨h3,h4⟩:=zAP ha hh h1
   obtain ⟨h5,h6⟩:=evPs_sound ha hh h2
   exact ⟨by rw [yAL,yAL,h3,h5],fun u hu=>by rcases yAE.1 hu with rfl | hu;exact h4;exact h6 u hu⟩
  ·simp at h
def zBQ {R:Type} {g:Option Bool} {b:Bool} {k:Option R} {r:R} (hg:g = none \/ g = some true) (h:needG g b k = some r):b = true /\ k = some r:=by
 have h':(bif b then k else none) = some r:=by rcases hg with rfl | rfl <;> exact h
 cases b with
 | true=>exact ⟨rfl,h'⟩
 | false=>simp at h'
def Tls_take:∀ {a b:List D},Tls a b -> ∀ n,Tls (a.take n) (b.take n)
 | _,_,.nil,n=>by simp;exact .nil
 | _,_,.cons h1 h2,0=>.nil
 | _,_,.cons h1 h2,n + 1=>.cons h1 (Tls_take h2 n)
def Tls_drop:∀ {a b:List D},Tls a b -> ∀ n,Tls (a.drop n) (b.drop n)
 | _,_,.nil,n=>by simp;exact .nil
 | _,_,.cons h1 h2,0=>.cons h1 h2
 | _,_,.cons h1 h2,n + 1=>Tls_drop h2 n
def part_leaf {ρ:Refs} {tg:Bool} {o sz:Nat} {u:TV} (t:Ty) (x:t.I) (hp:zBr t = false) {d:D} (ha:zBS d = zBr t) (ht:Tls d.cells [enc ρ ⟨t,x⟩]) (h:(match tg with | true=>none | false=>bif Nat.beq o 0 then some (⟨t,x⟩:TV) else none) = some u):∃ d',zBV tg sz d o = some d' /\ Tl d' (enc ρ u):=by
 cases tg with
 | true=>simp at h
 | false =>
  simp only at h
  cases hb:Nat.beq o 0 <;> rw [hb] at h <;> simp at h
  subst h
  rw [yAP] at hb
  subst hb
  rw [hp] at ha
  rw [zBJ ha] at ht
  cases ht with
  | cons h1 _ =>
   refine ⟨d,?_,h1⟩
   cases d <;> first | rfl | simp [zBS] at ha
def partT_sound {ρ:Refs} {tg:Bool} {sz o:Nat} {v u:TV} {d:D} (ha:zBS d = zBr v.t) (ht:Tls d.cells ((zAs v).map (enc ρ))) (h:partT tg sz o v = some u):∃ d',zBV tg sz d o = some d' /\ Tl d' (enc ρ u):=by
 obtain ⟨t,x⟩:=v
 cases t with
 | agg s =>
  cases d with
  | agg cs =>
   have ht:Tls cs ((zAK s x).map (enc ρ)):=ht
   have hlen:cs.length = (zAK s x).length:=by rw [ht.len,yAG]
   cases tg with
   | true =>
    simp only [partT] at h
    cases hb:(Nat.beq o 0 && Nat.beq sz (zAK s x).length) with
    | true =>
     rw [hb,cond_true,yAH] at h
     subst h
     simp only [yAB,yAP] at hb
     obtain ⟨h1,h2⟩:=hb
     subst h1
     refine ⟨.agg cs,?_,Tl.trans (Tl.agg ht) (Tl.of_eq (enc_aggK ρ s x).symm)⟩
     simp only [zBV]
     rw [if_pos (by omega),if_pos (by constructor <;> first | trivial | omega)]
    | false =>
     rw [hb,cond_false] at h
     cases hb2:Nat.ble (o + sz) (zAK s x).length with
     | true =>
      rw [hb2,cond_true,yAH] at h
      subst h
      have hle:=yAc hb2
      refine ⟨.agg ((cs.drop o).take sz),?_,?_⟩
      ·simp only [zBV]
       rw [if_pos (by omega)]
       congr 1
       rw [if_neg]
       rintro ⟨h1,h2⟩
       subst h1
       simp only [Bool.and_eq_false_iff] at hb
       rcases hb with hb | hb
       ·simp at hb
       ·have:Nat.beq sz (zAK s x).length = true:=by rw [yAP];omega
        rw [this] at hb;simp at hb
      ·rw [enc_agg]
       refine Tl.agg ?_
       rw [List.map_take,List.map_drop]
       exact Tls_take (Tls_drop ht o) sz
     | false=>rw [hb2] at h;simp at h
   | false =>
    simp only [partT] at h
    have:((zAK s x).map (enc ρ))[o]? = some (enc ρ u):=by rw [yAy,h];rfl
    obtain ⟨d',h1,h2⟩:=ht.get this
    exact ⟨d',h1,h2⟩
  | _=>simp [zBS,zBr] at ha
 | _=>exact part_leaf _ x (by rfl) (by exact ha) (by exact ht) (by exact h)
def part_leaf_ok {rows:Rows} {tg:Bool} {o:Nat} {u:TV} (t:Ty) (x:t.I) (hv:okV rows ⟨t,x⟩) (h:(match tg with | true=>none | false=>bif Nat.beq o 0 then some (⟨t,x⟩:TV) else none) = some u):okV rows u:=by
 cases tg with
 | true=>simp at h
 | false =>
  simp only at h
  cases hb:Nat.beq o 0 <;> rw [hb] at h <;> simp at h
  subst h;exact hv
def partT_ok {rows:Rows} {tg:Bool} {sz o:Nat} {v u:TV} (hv:okV rows v) (h:partT tg sz o v = some u):okV rows u:=by
 obtain ⟨t,x⟩:=v
 cases t with
 | agg s =>
  have hl:=(ok_leaves s x).1 hv
  cases tg with
  | true =>
   simp only [partT] at h
   cases hb:(Nat.beq o 0 && Nat.beq sz (zAK s x).length) with
   | true=>rw [hb,cond_true,yAH] at h;subst h;exact hv
   | false =>
    rw [hb,cond_false] at h
    cases hb2:Nat.ble (o + sz) (zAK s x).length with
    | true =>
     rw [hb2,cond_true,yAH] at h
     subst h
     exact ok_agg _ fun w hw=>hl w (List.mem_of_mem_drop (yBJ hw))
    | false=>rw [hb2] at h;simp at h
  | false =>
   simp only [partT] at h
   exact hl u (yAt h)
 | _=>exact part_leaf_ok _ x hv (by exact h)
end
end Go.T
namespace Go.T
open Go.Ab
variable [Go.Ab.DM]
section
variable {P:Program} {B:Base} {ζ:Nat -> Row} {num:Nat -> Nat} {s:St} {e:Env} {H:Heap} {R:Type} {r:R}
def own_shape (n:Nat) (row:TRow):zBS (ownD n row) = false:=by cases row <;> first | rfl | (rename_i t l;cases l <;> rfl)
def sub_shape (n:Nat) (q:Nat × Nat) (row:TRow):zBS (subD n q row) = false:=by cases row <;> first | rfl | (rename_i t l;cases l <;> rfl)
def p0_shape (n o:Nat) (row:TRow):zBS (p0D n o row) = false:=by cases row <;> rfl
def pt_shape (n o i:Nat) (row:TRow):zBS (ptD n o i row) = false:=by cases row <;> rfl
def mp_shape (n:Nat) (row:TRow):zBS (mpD n row) = false:=by cases row <;> rfl
def zDF (num:Nat -> Nat) (rows:Rows) (v:TV):zBS (enc (zAB num rows) v) = zBr v.t:=by
 obtain ⟨t,x⟩:=v
 cases t with
 | own r=>exact own_shape _ _
 | sub r=>exact sub_shape _ _ _
 | p0 r o=>exact p0_shape _ _ _
 | pt r o=>exact pt_shape _ _ _ _
 | mp r=>exact mp_shape _ _
 | _=>rfl
def zBW (num:Nat -> Nat) (rows:Rows) (v:TV):(enc (zAB num rows) v).cells = (zAs v).map (enc (zAB num rows)):=by
 have hs:=zDF num rows v
 obtain ⟨t,x⟩:=v
 cases t with
 | agg s=>exact E_leaves s _ x
 | _=>exact zBJ hs
def one_ok {rows:Rows} {v:TV} (h:zCW rows v = true):(enc (zAB num rows) v).one = true:=by
 obtain ⟨t,x⟩:=v
 simp only [zCW,yAB] at h
 obtain ⟨h1,h2⟩:=h
 cases t with
 | own r =>
  show (ownD (num r) (zAA rows r)).one = true
  simp only [refOk] at h2
  generalize zAA rows r = row at *
  cases row <;> simp [zAS] at h2 <;> first | rfl | (rename_i t l;cases l <;> rfl)
 | sub r =>
  show (subD (num r) x (zAA rows r)).one = true
  simp only [refOk] at h2
  generalize zAA rows r = row at *
  cases row <;> simp [zAS] at h2 <;> first | rfl | (rename_i t l;cases l <;> rfl)
 | pt r o =>
  show (ptD (num r) o x (zAA rows r)).one = true
  simp only [refOk] at h2
  generalize zAA rows r = row at *
  cases row <;> simp [zAS] at h2 <;> rfl
 | p0 r o =>
  show (p0D (num r) o (zAA rows r)).one = true
  simp only [refOk] at h2
  generalize zAA rows r = row at *
  cases row <;> simp [isCell] at h2 <;> rfl
 | mp r =>
  show (mpD (num r) (zAA rows r)).one = true
  simp only [refOk] at h2
  generalize zAA rows r = row at *
  cases row <;> simp at h2 <;> rfl
 | nul c=>exact nulV_one (by simpa [Ty.one,Nat.blt_eq] using h1)
 | _=>first | (simp [Ty.one] at h1;done) | rfl
def kids_one {rows:Rows} {v:TV} (h:(zAs v).all (zCW rows) = true):(enc (zAB num rows) v).cells.all D.one = true:=by
 rw [zBW,List.all_map,yAR]
 rw [yAR] at h
 exact fun u hu=>one_ok (h u hu)
def lies_of_cells {d:D} (h:d.cells.all D.one = true):d.lies = true:=by
 cases d <;> simp [D.cells,D.lies] at h ⊢ <;> exact h
def enc_width (num:Nat -> Nat) (rows:Rows) (v:TV):(enc (zAB num rows) v).width = (zAs v).length:=by
 rw [D.width_eq,zBW,yAG]
def partT_exact {ρ:Refs} {tg:Bool} {sz o:Nat} {s:Ty} {x:s.I} {u:TV} (h:partT tg sz o ⟨.agg s,x⟩ = some u):zBV tg sz (enc ρ ⟨.agg s,x⟩) o = some (enc ρ u):=by
 rw [enc_aggK]
 cases tg with
 | true =>
  simp only [partT] at h
  cases hb:(Nat.beq o 0 && Nat.beq sz (zAK s x).length) with
  | true =>
   rw [hb,cond_true,yAH] at h
   subst h
   simp only [yAB,yAP] at hb
   obtain ⟨h1,h2⟩:=hb
   subst h1
   simp only [zBV,yAG]
   rw [if_pos (by omega),if_pos (by constructor <;> first | trivial | omega),enc_aggK]
  | false =>
   rw [hb,cond_false] at h
   cases hb2:Nat.ble (o + sz) (zAK s x).length with
   | true =>
    rw [hb2,cond_true,yAH] at h
    subst h
    have hle:=yAc hb2
    simp only [zBV,yAG]
    rw [if_pos (by omega),enc_agg,List.map_take,List.map_drop,if_neg]
    rintro ⟨h1,h2⟩
    subst h1
    simp only [Bool.and_eq_false_iff] at hb
    rcases hb with hb | hb
    ·simp at hb
    ·have:Nat.beq sz (zAK s x).length = true:=by rw [yAP];omega
     rw [this] at hb;simp at hb
   | false=>rw [hb2] at h;simp at h
 | false =>
  simp only [partT] at h
  simp only [zBV]
  rw [yAy,h];rfl
def ofValues_enc (ρ:Refs):∀ {l:List Value} {vs:List TV},zDX l = some vs -> vs.map (enc ρ) = l.map .v
 | [],vs,h=>by simp only [zDX,yAH] at h;subst h;rfl
 | v :: l,vs,h=>by
  simp only [zDX] at h
  split at h
  ·rename_i x y h1 h2
   simp only [yAH] at h;subst h
   rw [yAL,yAL,ofValue_enc h1,ofValues_enc ρ h2]
  ·simp at h
def ofValues_ok (rows:Rows):∀ {l:List Value} {vs:List TV},zDX l = some vs -> ∀ v ∈ vs,okV rows v
 | [],vs,h=>by simp only [zDX,yAH] at h;subst h;simp
 | v :: l,vs,h=>by
  simp only [zDX] at h
  split at h
  ·rename_i x y h1 h2
   simp only [yAH] at h;subst h
   intro u hu
   rcases yAE.1 hu with rfl | hu
   ·exact ofValue_ok h1 rows
   ·exact ofValues_ok rows h2 u hu
  ·simp at h
def zDK {t:TypeId} {v:TV} (h:zeroT P t = some v) (ρ:Refs) (rows:Rows):zCy P t = some (enc ρ v) /\ okV rows v:=by
 unfold zeroT at h
 unfold zCy
 split at h
 ·rename_i cs hz
  rw [hz]
  simp only [yAb] at h
  obtain ⟨l,h1,rfl⟩:=h
  exact ⟨by simp only [yBU,zeroOfV];rw [enc_agg,ofValues_enc ρ h1],ok_agg _ (ofValues_ok rows h1)⟩
 ·rename_i v' hn hz
  rw [hz]
  refine ⟨?_,ofValue_ok h rows⟩
  simp only [yBU]
  rw [ofValue_enc h]
  cases v' <;> first | rfl | (exact absurd rfl (hn _))
 ·simp at h
def get!_data (b:ByteArray) (i:Nat) (h:i < b.size):b.get! i = b.data.toList[i]'(by simpa using h):=by
 have:i < b.data.size:=h
 show b.data[i]! = _
 rw [getElem!_pos b.data i this];simp
def loop_eq (b:ByteArray):∀ (n i:Nat) (r:List UInt8),b.size - i = n -> ByteArray.toList.loop b i r = r.reverse ++ b.data.toList.drop i:=by
 intro n
 induction n with
 | zero =>
  intro i r h
  rw [ByteArray.toList.loop,if_neg (by omega),List.drop_of_length_le (by simp;show b.size <= i;omega)];simp
 | succ n ih =>
  intro i r h
  have hi:i < b.size:=by omega
  rw [ByteArray.toList.loop,if_pos hi,ih (i + 1) _ (by omega),get!_data b i hi]
  rw [List.reverse_cons,yAQ,List.singleton_append,<- yAX]
def toList_eq (b:ByteArray):b.toList = b.data.toList:=by
 rw [ByteArray.toList,loop_eq b b.size 0 [] rfl];simp
def beq_toList (a b:ByteArray):(a == b) = (a.toList == b.toList):=by
 rw [toList_eq,toList_eq,bytes_beq,Bool.eq_iff_iff,beq_iff_eq,beq_iff_eq]
 constructor
 ·intro h;rw [h]
 ·intro h;exact Array.ext' h
def eqLeaf_sound {ρ:Refs} {d:TypeDesc} {x y:TV} {b:Bool} (h:eqLeaf d x y = some b):(match enc ρ x,enc ρ y with | .v a,.v c=>basicEq d a c | _,_=>none) = some b:=by
 unfold eqLeaf at h
 split at h
 ·rename_i k a k' c
  split at h
  ·rename_i hk
   subst hk
   simp only [yAH] at h;subst h
   simp [enc,E,basicEq,ieq]
  ·simp at h
 ·simp only [yAH] at h;subst h
  exact congrArg some (beq_toList _ _)
 ·simp only [yAH] at h;subst h
  simp [enc,E,basicEq,beq]
 ·simp at h
def basicEq_of {d:TypeDesc} {x y:D} {b:Bool} (h:(match x,y with | .v a,.v c=>basicEq d a c | _,_=>none) = some b):∃ a c,x = .v a /\ y = .v c /\ basicEq d a c = some b:=by
 split at h
 ·exact ⟨_,_,rfl,rfl,h⟩
 ·simp at h
mutual
def eqT_sound {ρ:Refs}:∀ (n:Nat) (t:TypeId) (x y:TV) (b:Bool),eqT P n t x y = some b -> eqD P n t (enc ρ x) (enc ρ y) = some b
 | 0,t,x,y,b,h=>by simp [eqT] at h
 | n + 1,t,x,y,b,h=>by
  simp only [eqT] at h
  simp only [eqD]
  split at h
  ·rename_i fs hu
   rw [hu]
   split at h
   ·rename_i s a u c
    split at h
    ·rename_i hst
     have:=eqTs_sound (ρ:=ρ) n fs.toList s a u c b h
     show (if P.stoodInHeld t = false then eqFs P n fs.toList (E s ρ a).2 (E u ρ c).2 else none) = some b
     rw [if_pos hst]
     exact this
    ·simp at h
   ·simp at h
  ·rename_i d hn hu
   rw [hu]
   obtain ⟨a,c,h1,h2,h3⟩:=basicEq_of (eqLeaf_sound (ρ:=ρ) h)
   rw [h1,h2]
   cases d <;> first | exact absurd hu (hn _) | exact h3
  ·simp at h
def eqTs_sound {ρ:Refs}:∀ (n:Nat) (fs:List Field) (s:Ty) (a:s.I) (u:Ty) (c:u.I) (b:Bool),eqTs P n fs ⟨.agg s,a⟩ ⟨.agg u,c⟩ = some b -> (match enc ρ ⟨.agg s,a⟩,enc ρ ⟨.agg u,c⟩ with | .agg xs,.agg ys=>eqFs P n fs xs ys | _,_=>none) = some b
 | 0,fs,s,a,u,c,b,h=>by simp [eqTs] at h
 | n + 1,[],s,a,u,c,b,h=>by
  simp only [eqTs,yAH] at h;subst h
  rw [enc_aggK,enc_aggK];simp only [eqFs]
 | n + 1,f :: fs,s,a,u,c,b,h=>by
  simp only [eqTs] at h
  split at h
  ·simp at h
  ·rename_i hnm
   split at h
   ·rename_i tg sz htg hsz
    split at h
    ·rename_i x y h1 h2
     split at h
     ·rename_i p q h3 h4
      simp only [yAH] at h;subst h
      have e1:=partT_exact (ρ:=ρ) h1
      have e2:=partT_exact (ρ:=ρ) h2
      have e3:=eqT_sound (ρ:=ρ) n f.type x y p h3
      have e4:=eqTs_sound (ρ:=ρ) n fs s a u c q h4
      rw [enc_aggK] at e1 e2 e4 ⊢
      rw [enc_aggK] at e4 ⊢
      simp only [eqFs,hnm,if_false,htg,hsz,e1,e2,yBP,e3]
      rw [show eqFs P n fs _ _ = some q from e4];rfl
     ·simp at h
    ·simp at h
   ·simp at h
end
def dec_t {p:Prop} [Decidable p] (h:decide p = true):p:=of_decide_eq_true h
def binI_sound {g:Option Bool} (hg:g = none \/ g = some true) {op:BinOp} {t:TypeId} {ka kb:IntKind} {a b:Int} {rows:Rows} {k:TV -> Option R} (h:binT P g op t rows ⟨.int ka,a⟩ ⟨.int kb,b⟩ k = some r) {C:D -> Prop}
  (hk:∀ v,k v = some r -> okV rows v -> C (enc (zAB num rows) v)):aBin P op t (.v (.int ka a)) (.v (.int kb b)) C:=by
 cases op with
 | shl=>obtain ⟨h1,h2⟩:=zBQ hg h;exact ⟨dec_t h1,hk _ h2 trivial⟩
 | shr=>obtain ⟨h1,h2⟩:=zBQ hg h;exact ⟨dec_t h1,hk _ h2 trivial⟩
 | quo =>
  simp only [binT] at h
  split at h
  ·rename_i hkk;obtain ⟨h1,h2⟩:=zBQ hg h;exact ⟨hkk,by simpa [ine] using h1,hk _ h2 trivial⟩
  ·simp at h
 | rem =>
  simp only [binT] at h
  split at h
  ·rename_i hkk;obtain ⟨h1,h2⟩:=zBQ hg h;exact ⟨hkk,by simpa [ine] using h1,hk _ h2 trivial⟩
  ·simp at h
 | _ =>
  simp only [binT] at h
  split at h
  ·rename_i hkk
   first
   | (simp at h;done)
   | exact ⟨hkk,hk _ h trivial⟩
  ·simp at h
def binS_sound {g:Option Bool} (hg:g = none \/ g = some true) {op:BinOp} {t:TypeId} {a b:ByteArray} {rows:Rows} {k:TV -> Option R} (h:binT P g op t rows ⟨.str,a⟩ ⟨.str,b⟩ k = some r) {C:D -> Prop}
  (hk:∀ v,k v = some r -> okV rows v -> C (enc (zAB num rows) v)):aStr op a b fun v=>C (.v v):=by
 cases op with
 | add=>obtain ⟨h1,h2⟩:=zBQ hg h;exact ⟨dec_t h1,hk _ h2 trivial⟩
 | _=>first | (simp [binT] at h;done) | exact hk _ h trivial
def nil_bin {op:BinOp} {t:TypeId} {x:D} {ρ:Refs} {z:(Ty.nul 0).I} {C:D -> Prop} (h:aNilEq P op t x C):zCx P op t x (enc ρ ⟨.nul 0,z⟩) C:=by
 have e:enc ρ ⟨.nul 0,z⟩ = .v (.slice none 0 0):=rfl
 rw [e]
 unfold zCx
 exact h
def binT_sound (hr:HRel ζ num s.rows H) {g:Option Bool} (hg:g = none \/ g = some true) {op:BinOp} {t:TypeId} {x y:TV} {k:TV -> Option R} (h:binT P g op t s.rows x y k = some r) {C:D -> Prop}
  (hk:∀ v,k v = some r -> okV s.rows v -> C (enc (zAB num s.rows) v)):zCx P op t (enc (zAB num s.rows) x) (enc (zAB num s.rows) y) C:=by
 have h0:=h
 unfold binT at h
 split at h
 ·exact binI_sound hg h0 hk
 ·exact binS_sound hg h0 hk
 ·rename_i a b
  show P.underlying t = some .bool /\ _
  split at h
  ·rename_i ht
   refine ⟨ht,?_⟩
   cases op <;> first | (simp at h;done) | exact hk _ h trivial
  ·simp at h
 ·rename_i sa a ua b
  split at h
  ·rename_i b' hgd he
   have:=eqT_sound (ρ:=zAB num s.rows) 12 t _ _ b' he
   show P.eqGuardType P.depth t = false /\ ∃ b1,eqD P 12 t (.agg (E sa (zAB num s.rows) a).2) (.agg (E ua (zAB num s.rows) b).2) = some b1 /\ _
   refine ⟨hgd,b',this,?_⟩
   cases op <;> first | (simp at h;done) | exact hk _ h trivial
  ·simp at h
 ·rename_i q _ _
  have hR:=hr.row q
  split at h
  all_goals (try (simp at h;done))
  all_goals (rename_i e' he hrow)
  all_goals (rw [hrow] at hR)
  all_goals (refine nil_bin ?_;rw [show enc (zAB num s.rows) ⟨.own q,_⟩ = ownD (num q) (zAA s.rows q) from rfl,hrow])
  ·exact ⟨⟨_,he⟩,hk _ h trivial⟩
  ·exact ⟨⟨_,he⟩,hk _ h trivial⟩
  ·cases e' <;> exact ⟨⟨_,he⟩,hk _ h trivial⟩
  ·cases e' <;> exact ⟨⟨_,he⟩,hk _ h trivial⟩
 ·split at h
  ·rename_i he;exact nil_bin ⟨⟨_,he⟩,hk _ h trivial⟩
  ·rename_i he;exact nil_bin ⟨⟨_,he⟩,hk _ h trivial⟩
  ·simp at h
 ·simp at h
end
end Go.T
namespace Go.T
open Go.Ab
variable [Go.Ab.DM]
section
variable {P:Program} {B:Base} {ζ:Nat -> Row} {num:Nat -> Nat} {s:St} {e:Env} {H:Heap} {R:Type} {r:R}
def listRow {rows:Rows} (hr:HRel ζ num rows H) {q:Nat} {u:Ty} {n:Nat} (h1:rowTy (zAA rows q) = some u) (h2:rowLen (zAA rows q) = some n) :
  u.elem = true /\ zCg (zAA rows q) = n /\ zAS (zAA rows q) = true /\ ∃ l:List u.I,l.length = n /\ ((zAA rows q = .many u l /\ H.get (num q) = some (.cells u.w (l.map (e0 u)))) \/ (zAA rows q = .lst u l /\ (l ≠ [] -> H.get (num q) = some (.cells u.w (l.map (e0 u))))) \/ zAA rows q = .fro u l):=by
 have hR:=hr.row q
 cases hrow:zAA rows q with
 | many t l =>
  rw [hrow] at h1 h2 hR
  simp only [rowTy,yAH] at h1;subst h1
  simp only [rowLen,zAE,yAH] at h2
  exact ⟨hR.1,h2,rfl,l,h2,.inl ⟨rfl,hR.2⟩⟩
 | lst t l =>
  rw [hrow] at h1 h2 hR
  simp only [rowTy,yAH] at h1;subst h1
  simp only [rowLen,zAE,yAH] at h2
  exact ⟨hR.1,h2,rfl,l,h2,.inr (.inl ⟨rfl,hR.2⟩)⟩
 | fro t l =>
  rw [hrow] at h1 h2 hR
  simp only [rowTy,yAH] at h1;subst h1
  simp only [rowLen,zAE,yAH] at h2
  exact ⟨hR,h2,rfl,l,h2,.inr (.inr rfl)⟩
 | _=>rw [hrow] at h1;simp [rowTy] at h1
def rowTy_len {row:TRow} {u:Ty} (h:rowTy row = some u):rowLen row = some (zCg row) /\ zAS row = true:=by
 cases row <;> simp [rowTy] at h <;> exact ⟨rfl,rfl⟩
def inL_t {j:Int} {n:Nat} (h:inL j n = true):0 <= j /\ j < n:=by
 simp only [inL,yAB,decide_eq_true_eq] at h;exact h
def inS_t {l h:Int} {n:Nat} (hh:inS l h n = true):0 <= l /\ l <= h /\ h <= n:=by
 simp only [inS,yAB,decide_eq_true_eq] at hh;exact ⟨hh.1.1,hh.1.2,hh.2⟩
def fz_get {u:Ty} {l:List u.I} {i:Nat} (h:i < l.length):(l.map (e0 u))[i]? = some (e0 u (zAH u.dv l i)):=by
 rw [yAy]
 have:l[i]? = some (zAH u.dv l i):=by simp [zAH,List.getD,h]
 rw [this];rfl
def ix_sl {rows:Rows} {u:Ty} {l:List u.I} {el:TypeId} {z:Nat} {j:Int} (hz:tsz P el = some z) (hb:z = u.w) (h3:0 <= j) (h4:j < l.length) {C:D -> Prop}
  (hC:∀ d,Tl d (enc (zAB num rows) ⟨.fp u 0,zAH u.dv l j.toNat⟩) -> C d):(0 <= j /\ j < (l.map (e0 u)).length) /\ tsz P el = some u.w /\ C (.fp u.w (l.map (e0 u)) j.toNat 0) :=
 ⟨⟨h3,by rw [yAG];exact h4⟩,by rw [hz,hb],hC _ (Tl.fp (fz_get (by omega)))⟩
def ix_own {rows:Rows} (hr:HRel ζ num rows H) {q:Nat} {u:Ty} {n:Nat} {el:TypeId} {z:Nat} {j:Int} (h1:rowTy (zAA rows q) = some u) (h2:rowLen (zAA rows q) = some n) (hz:tsz P el = some z) (hb:z = u.w) (h5:0 <= j) (h6:j < n) {C:D -> Prop}
  (hC:∀ d,Tl d (ptD (num q) 0 j.toNat (zAA rows q)) -> C d) :
  (match (ownD (num q) (zAA rows q)).wk with
   | .sl r i m=>(0 <= j /\ j < m) /\ (∃ k xs,H.get r = some (.cells k xs) /\ tsz P el = some k) /\ C (.pt r (i + j.toNat) 0)
   | .fz k xs=>(0 <= j /\ j < xs.length) /\ tsz P el = some k /\ C (.fp k xs j.toNat 0)
   | _=>False):=by
 obtain ⟨he,hl1,hl2,l,hl3,hrow⟩:=listRow hr h1 h2
 rcases hrow with ⟨hrow,hg'⟩ | ⟨hrow,hg'⟩ | hrow <;> rw [hrow] at hC ⊢
 ·refine ⟨⟨h5,by omega⟩,⟨_,_,hg',by rw [hz,hb]⟩,hC _ ?_⟩
  rw [yAT];exact Tl.refl _
 ·cases l with
  | nil=>simp at hl3;omega
  | cons y l =>
   refine ⟨⟨h5,by omega⟩,⟨_,_,hg' (by simp),by rw [hz,hb]⟩,hC _ ?_⟩
   rw [yAT];exact Tl.refl _
 ·exact ⟨⟨h5,by rw [yAG];omega⟩,by rw [hz,hb],hC _ (Tl.refl _)⟩
def ix_sub {rows:Rows} (hr:HRel ζ num rows H) {q:Nat} {y:Nat × Nat} {el:TypeId} {z:Nat} {j:Int} {ki:IntKind} {g:Option Bool} (hg:g = none \/ g = some true) {t:TypeId} (hel:zBI P t = some el) {ic:Option Nat} {k:TV -> Option R} (hx:okV rows ⟨.sub q,y⟩) (hz:tsz P el = some z)
  (h:zDR P g rows t ⟨.sub q,y⟩ ⟨.int ki,j⟩ ic k = some r) {C:D -> Prop} (hk:∀ v,k v = some r -> okV rows v -> ∀ d,Tl d (enc (zAB num rows) v) -> C d) :
  (match (subD (num q) y (zAA rows q)).wk with
   | .sl r i m=>(0 <= j /\ j < m) /\ (∃ k xs,H.get r = some (.cells k xs) /\ tsz P el = some k) /\ C (.pt r (i + j.toNat) 0)
   | .fz k xs=>(0 <= j /\ j < xs.length) /\ tsz P el = some k /\ C (.fp k xs j.toNat 0)
   | _=>False):=by
 have hx1:q < rows.length:=hx.1
 have hx2:zAS (zAA rows q) = true -> y.1 + y.2 <= zCg (zAA rows q):=hx.2
 have hR:=hr.row q
 simp only [zDR,hel,hz] at h
 split at h
 ·rename_i u l hrow
  cases hb:Nat.beq z u.w <;> rw [hb] at h <;> simp only [cond_true,cond_false] at h
  ·simp at h
  ·rw [yAP] at hb
   obtain ⟨h3,h4⟩:=zBQ hg h
   obtain ⟨h5,h6⟩:=inL_t h3
   rw [hrow] at hx2 hR ⊢
   have hx2:y.1 + y.2 <= l.length:=hx2 rfl
   have hlen:((l.drop y.1).take y.2).length = y.2:=by simp;omega
   refine ⟨⟨h5,by rw [yAG,hlen];exact h6⟩,by rw [hz,hb],hk _ h4 trivial _ (Tl.fp ?_)⟩
   have hlt:y.1 + j.toNat < l.length:=by omega
   have:((l.drop y.1).take y.2)[j.toNat]? = some (zAH u.dv l (y.1 + j.toNat)):=by
    rw [List.getElem?_take_of_lt (by omega),List.getElem?_drop]
    simp [zAH,List.getD,hlt]
   rw [yAy,this];rfl
 ·rename_i u l hrow
  cases hb:Nat.beq z u.w <;> rw [hb] at h <;> simp only [cond_true,cond_false] at h
  ·simp at h
  ·rw [yAP] at hb
   obtain ⟨h3,h4⟩:=zBQ hg h
   obtain ⟨h5,h6⟩:=inL_t h3
   have hC:=fun d hd=>hk _ h4 ⟨hx1,fun hl=>show y.1 + j.toNat < zCg (zAA rows q) by have:=hx2 hl;omega⟩ d hd
   have hD:enc (zAB num rows) ⟨.pt q 0,zBl y.1 (i2n j)⟩ = ptD (num q) 0 (y.1 + j.toNat) (zAA rows q):=rfl
   rw [hD] at hC
   rw [hrow] at hR hC ⊢
   exact ⟨⟨h5,h6⟩,⟨_,_,hR.2,by rw [hz,hb]⟩,hC _ (Tl.refl _)⟩
 ·rename_i u l hrow
  cases hb:Nat.beq z u.w <;> rw [hb] at h <;> simp only [cond_true,cond_false] at h
  ·simp at h
  ·rw [yAP] at hb
   obtain ⟨h3,h4⟩:=zBQ hg h
   obtain ⟨h5,h6⟩:=inL_t h3
   have hC:=fun d hd=>hk _ h4 ⟨hx1,fun hl=>show y.1 + j.toNat < zCg (zAA rows q) by have:=hx2 hl;omega⟩ d hd
   have hD:enc (zAB num rows) ⟨.pt q 0,zBl y.1 (i2n j)⟩ = ptD (num q) 0 (y.1 + j.toNat) (zAA rows q):=rfl
   rw [hD] at hC
   rw [hrow] at hR hC hx2 ⊢
   have hx2:y.1 + y.2 <= l.length:=hx2 rfl
   cases l with
   | nil=>simp at hx2;omega
   | cons y' l=>exact ⟨⟨h5,h6⟩,⟨_,_,hR.2 (by simp),by rw [hz,hb]⟩,hC _ (Tl.refl _)⟩
 ·simp at h
def ixI_sound {rows:Rows} (hr:HRel ζ num rows H) {g:Option Bool} (hg:g = none \/ g = some true) {t:TypeId} {x:TV} {ki:IntKind} {j:Int} {ic:Option Nat} {k:TV -> Option R} (hx:okV rows x)
  (hic:∀ n,ic = some n -> j = n) (h:zDR P g rows t x ⟨.int ki,j⟩ ic k = some r) {C:D -> Prop}
  (hk:∀ v,k v = some r -> okV rows v -> ∀ d,Tl d (enc (zAB num rows) v) -> C d):zBC P t H (enc (zAB num rows) x).wk (.v (.int ki j)) C:=by
 have h0:=h
 unfold zDR at h
 unfold zBC
 simp only at h
 split at h
 ·rename_i el hel
  rw [hel]
  simp only
  split at h
  ·rename_i z u l hz
   cases hb:Nat.beq z u.w <;> rw [hb] at h <;> simp only [cond_true,cond_false] at h
   ·simp at h
   ·obtain ⟨h1,h2⟩:=zBQ hg h
    obtain ⟨h3,h4⟩:=inL_t h1
    exact ix_sl hz (yAP.mp hb) h3 h4 (hk _ h2 trivial)
  ·rename_i z q y hz
   split at h
   ·rename_i u n h1 h2
    cases hb:Nat.beq z u.w <;> rw [hb] at h <;> simp only [cond_true,cond_false] at h
    ·simp at h
    ·obtain ⟨h3,h4⟩:=zBQ hg h
     obtain ⟨h5,h6⟩:=inL_t h3
     obtain ⟨_,hl1,_,_⟩:=listRow hr h1 h2
     exact ix_own hr h1 h2 hz (yAP.mp hb) h5 h6 fun d hd=>hk _ h4 ⟨hx,fun _=>show j.toNat < zCg (zAA rows q) by omega⟩ d hd
   ·simp at h
  ·rename_i z q y hz
   exact ix_sub hr hg hel hx hz h0 hk
  ·simp at h
 ·rename_i hel
  rw [hel]
  simp only
  split at h
  ·rename_i len el j' q o y hu
   rw [hu]
   simp only
   split at h
   ·rename_i z t' x' hz hrow
    cases hb:Nat.blt j' len <;> rw [hb] at h <;> simp only [cond_true,cond_false] at h
    ·simp at h
    ·have hj:=hic j' rfl
     have hlt:j' < len:=by simpa [Nat.blt_eq] using hb
     show (match (p0D (num q) o (zAA rows q)).wk with | .pt r i o=>_ | _=>False)
     rw [hrow]
     refine ⟨⟨by omega,by omega⟩,z,hz,hk _ h hx _ ?_⟩
     rw [hj,Int.toNat_natCast]
     show Tl _ (p0D (num q) (o + j' * z) (zAA rows q))
     rw [hrow];exact Tl.refl _
   ·simp at h
  ·simp at h
end
end Go.T
namespace Go.T
open Go.Ab
variable [Go.Ab.DM]
section
variable {P:Program} {B:Base} {ζ:Nat -> Row} {num:Nat -> Nat} {rows:Rows} {e:Env} {H:Heap} {R:Type} {r:R}
def zCG {ρ:Refs} {o:Option TV} {d n:Int} (h:boundT o d = some n):zAc (.v (.int .i64 d)) (o.map (enc ρ)) = some n:=by
 unfold boundT at h
 split at h
 ·have:=yAA h;subst this;rfl
 ·have:=yAA h;subst this;rfl
 ·exact absurd h (by simp)
def sz_ok {t el:TypeId} {u:Ty} (h:szOk P t el u = true):tsz P el = some u.w:=by
 unfold szOk at h
 split at h
 ·rename_i z hz;rw [hz,yAP.mp h]
 ·simp at h
def sliceT_sound (hr:HRel ζ num rows H) {g:Option Bool} (hg:g = none \/ g = some true) {t:TypeId} {x:TV} {lo hi:Option TV} {k:TV -> Option R} (hx:okV rows x)
  (h:sliceT P g rows t x lo hi k = some r) {C:D -> Prop} (hk:∀ v,k v = some r -> okV rows v -> ∀ d,Tl d (enc (zAB num rows) v) -> C d) :
  zCw P t H (enc (zAB num rows) x) (lo.map (enc (zAB num rows))) (hi.map (enc (zAB num rows))) none C:=by
 have own_case:∀ (q:Nat) (el:TypeId) (u:Ty) (n:Nat) (l hh:Int),zBI P t = some el -> rowTy (zAA rows q) = some u -> rowLen (zAA rows q) = some n -> tsz P el = some u.w ->
     boundT lo 0 = some l -> boundT hi (n2i n) = some hh -> (0 <= l /\ l <= hh /\ hh <= n) -> (∀ d,Tl d (subD (num q) (l.toNat,hh.toNat - l.toNat) (zAA rows q)) -> C d) ->
     zCw P t H (ownD (num q) (zAA rows q)) (lo.map (enc (zAB num rows))) (hi.map (enc (zAB num rows))) none C:=by
  intro q el u n l hh hel h1 h2 hz hl hhh hb hC
  obtain ⟨he,hl1,hl2,ll,hl3,hrow⟩:=listRow hr h1 h2
  have hbl:=zCG (ρ:=zAB num rows) hl
  have hbh:=zCG (ρ:=zAB num rows) hhh
  have hund:P.underlying t = some (.slice el):=by
   unfold zBI at hel;split at hel <;> simp at hel;subst hel;assumption
  rcases hrow with ⟨hrow,hg'⟩ | ⟨hrow,hg'⟩ | hrow <;> rw [hrow] at hC ⊢
  ·refine ⟨by unfold zBd;rw [hel];exact ⟨_,hz,_,hg'⟩,?_⟩
   show zAx P t (.sl (num q) 0 ll.length) _ _ none C
   unfold zAx
   rw [hbl,hund,hl3]
   simp only
   rw [show zAc (.v (.int .i64 (n:Int))) _ = some hh from hbh]
   refine ⟨hb,hC _ ?_⟩
   rw [yAT];exact Tl.refl _
  ·cases ll with
   | nil =>
    have:n = 0:=by simpa using hl3.symm
    subst this
    refine ⟨by unfold zBd;rw [hel];exact ⟨_,hz,trivial⟩,?_⟩
    show zAx P t (.v (.slice none 0 0)) _ _ none C
    unfold zAx
    rw [hbl,hund]
    simp only
    rw [show zAc (.v (.int .i64 0)) _ = some hh from hbh]
    exact ⟨by omega,by omega,hC _ (Tl.refl _)⟩
   | cons y ll =>
    refine ⟨by unfold zBd;rw [hel];exact ⟨_,hz,_,hg' (by simp)⟩,?_⟩
    show zAx P t (.sl (num q) 0 (y :: ll).length) _ _ none C
    unfold zAx
    rw [hbl,hund,hl3]
    simp only
    rw [show zAc (.v (.int .i64 (n:Int))) _ = some hh from hbh]
    refine ⟨hb,hC _ ?_⟩
    rw [yAT];exact Tl.refl _
  ·refine ⟨by unfold zBd;rw [hel];exact ⟨_,hz,trivial⟩,?_⟩
   show zAx P t (.fz u.w (ll.map (e0 u))) _ _ none C
   unfold zAx
   rw [hbl,hund]
   simp only [yAG]
   rw [show zAc (.v (.int .i64 (ll.length:Int))) _ = some hh by rw [hl3];exact hbh]
   refine ⟨by rw [hl3];exact hb,hz,hC _ (Tl.of_eq ?_)⟩
   show D.fz u.w _ = D.fz u.w _
   rw [List.map_take,List.map_drop]
 have sub_case:∀ (q:Nat) (y:Nat × Nat) (el:TypeId) (u:Ty) (l hh:Int),okV rows ⟨.sub q,y⟩ -> zBI P t = some el -> rowTy (zAA rows q) = some u -> tsz P el = some u.w ->
     boundT lo 0 = some l -> boundT hi (n2i y.2) = some hh -> (0 <= l /\ l <= hh /\ hh <= y.2) -> (∀ d,Tl d (subD (num q) (y.1 + l.toNat,hh.toNat - l.toNat) (zAA rows q)) -> C d) ->
     zCw P t H (subD (num q) y (zAA rows q)) (lo.map (enc (zAB num rows))) (hi.map (enc (zAB num rows))) none C:=by
  intro q y el u l hh hx hel h1 hz hl hhh hb hC
  obtain ⟨h2,hil⟩:=rowTy_len h1
  obtain ⟨he,hl1,hl2,ll,hl3,hrow⟩:=listRow hr h1 h2
  have hbl:=zCG (ρ:=zAB num rows) hl
  have hbh:=zCG (ρ:=zAB num rows) hhh
  have hund:P.underlying t = some (.slice el):=by
   unfold zBI at hel;split at hel <;> simp at hel;subst hel;assumption
  have hy:y.1 + y.2 <= zCg (zAA rows q):=hx.2 hil
  rcases hrow with ⟨hrow,hg'⟩ | ⟨hrow,hg'⟩ | hrow <;> rw [hrow] at hC ⊢
  ·refine ⟨by unfold zBd;rw [hel];exact ⟨_,hz,_,hg'⟩,?_⟩
   show zAx P t (.sl (num q) y.1 y.2) _ _ none C
   unfold zAx
   rw [hbl,hund]
   simp only
   rw [show zAc (.v (.int .i64 (y.2:Int))) _ = some hh from hbh]
   exact ⟨hb,hC _ (Tl.refl _)⟩
  ·cases ll with
   | nil =>
    have h0:y.2 = 0:=by simp at hl3;omega
    refine ⟨by unfold zBd;rw [hel];exact ⟨_,hz,trivial⟩,?_⟩
    show zAx P t (.v (.slice none 0 0)) _ _ none C
    unfold zAx
    rw [hbl,hund]
    simp only
    rw [h0] at hbh
    rw [show zAc (.v (.int .i64 0)) _ = some hh from hbh]
    exact ⟨by omega,by omega,hC _ (Tl.refl _)⟩
   | cons z ll =>
    refine ⟨by unfold zBd;rw [hel];exact ⟨_,hz,_,hg' (by simp)⟩,?_⟩
    show zAx P t (.sl (num q) y.1 y.2) _ _ none C
    unfold zAx
    rw [hbl,hund]
    simp only
    rw [show zAc (.v (.int .i64 (y.2:Int))) _ = some hh from hbh]
    exact ⟨hb,hC _ (Tl.refl _)⟩
  ·refine ⟨by unfold zBd;rw [hel];exact ⟨_,hz,trivial⟩,?_⟩
   have hlen:((ll.drop y.1).take y.2).length = y.2:=by simp;omega
   show zAx P t (.fz u.w (((ll.drop y.1).take y.2).map (e0 u))) _ _ none C
   unfold zAx
   rw [hbl,hund]
   simp only [yAG,hlen]
   rw [show zAc (.v (.int .i64 (y.2:Int))) _ = some hh from hbh]
   refine ⟨hb,hz,hC _ (Tl.of_eq ?_)⟩
   show D.fz u.w _ = D.fz u.w _
   congr 1
   rw [<- List.map_drop,<- List.map_take]
   congr 1
   rw [List.drop_take,List.drop_drop,List.take_take]
   congr 1
   omega
 have sl_case:∀ (u:Ty) (a:List u.I) (el:TypeId) (l hh:Int),zBI P t = some el -> tsz P el = some u.w -> boundT lo 0 = some l -> boundT hi (n2i a.length) = some hh -> (0 <= l /\ l <= hh /\ hh <= a.length) ->
     (∀ d,Tl d (.fz u.w (((a.drop l.toNat).take (hh.toNat - l.toNat)).map (e0 u))) -> C d) -> zCw P t H (.fz u.w (a.map (e0 u))) (lo.map (enc (zAB num rows))) (hi.map (enc (zAB num rows))) none C:=by
  intro u a el l hh hel hz hl hhh hb hC
  have hbl:=zCG (ρ:=zAB num rows) hl
  have hbh:=zCG (ρ:=zAB num rows) hhh
  have hund:P.underlying t = some (.slice el):=by
   unfold zBI at hel;split at hel <;> simp at hel;subst hel;assumption
  refine ⟨by unfold zBd;rw [hel];exact ⟨_,hz,trivial⟩,?_⟩
  unfold zAx
  rw [hbl,hund]
  simp only [yAG]
  rw [show zAc (.v (.int .i64 (a.length:Int))) _ = some hh from hbh]
  refine ⟨hb,hz,hC _ (Tl.of_eq ?_)⟩
  rw [List.map_take,List.map_drop]
 unfold sliceT at h
 split at h
 ·rename_i l hl
  split at h
  ·rename_i b
   split at h
   ·rename_i hh hu hhh
    obtain ⟨h1,h2⟩:=zBQ hg h
    obtain ⟨h3,h4,h5⟩:=inS_t h1
    have hbl:=zCG (ρ:=zAB num rows) hl
    have hbh:=zCG (ρ:=zAB num rows) hhh
    refine ⟨by unfold zBd zBI;rw [hu];trivial,?_⟩
    show zAx P t (.v (.string b)) _ _ none C
    unfold zAx
    rw [hbl,hu]
    simp only
    rw [show zAc (.v (.int .i64 (b.size:Int))) _ = some hh from hbh]
    exact ⟨⟨h3,h4,h5⟩,hk _ h2 trivial _ (Tl.refl _)⟩
   ·simp at h
  ·rename_i u a
   split at h
   ·rename_i el hh hel hhh
    cases hb:szOk P t el u <;> rw [hb] at h <;> simp only [cond_true,cond_false] at h
    ·simp at h
    ·obtain ⟨h1,h2⟩:=zBQ hg h
     exact sl_case u a el l hh hel (sz_ok hb) hl hhh (inS_t h1) (hk _ h2 trivial)
   ·simp at h
  ·rename_i q y
   split at h
   ·rename_i el u n hel h1 h2
    split at h
    ·rename_i hh hhh
     cases hb:szOk P t el u <;> rw [hb] at h <;> simp only [cond_true,cond_false] at h
     ·simp at h
     ·obtain ⟨h3,h4⟩:=zBQ hg h
      have h5:=inS_t h3
      obtain ⟨_,hl1,_,_⟩:=listRow hr h1 h2
      exact own_case q el u n l hh hel h1 h2 (sz_ok hb) hl hhh h5 (hk _ h4 ⟨hx,fun _=>show l.toNat + (hh.toNat - l.toNat) <= zCg (zAA rows q) by omega⟩)
    ·simp at h
   ·simp at h
  ·rename_i q y
   split at h
   ·rename_i el u hel h1
    split at h
    ·rename_i hh hhh
     cases hb:szOk P t el u <;> rw [hb] at h <;> simp only [cond_true,cond_false] at h
     ·simp at h
     ·obtain ⟨h3,h4⟩:=zBQ hg h
      have h5:=inS_t h3
      have hx2:zAS (zAA rows q) = true -> y.1 + y.2 <= zCg (zAA rows q):=hx.2
      exact sub_case q y el u l hh hx hel h1 (sz_ok hb) hl hhh h5 (hk _ h4 ⟨hx.1,fun hil=>show (y.1 + l.toNat) + (hh.toNat - l.toNat) <= zCg (zAA rows q) by have:=hx2 hil;omega⟩)
    ·simp at h
   ·simp at h
  ·split at h
   ·rename_i el hh hel hhh
    cases hb:(tsz P el).isSome <;> rw [hb] at h <;> simp only [cond_true,cond_false] at h
    ·simp at h
    ·obtain ⟨h1,h2⟩:=zBQ hg h
     simp only [band,ieq,yAB,beq_iff_eq] at h1
     have hbl:=zCG (ρ:=zAB num rows) hl
     have hbh:=zCG (ρ:=zAB num rows) hhh
     obtain ⟨z,hz⟩:=Option.isSome_iff_exists.1 hb
     have hund:P.underlying t = some (.slice el):=by
      unfold zBI at hel;split at hel <;> simp at hel;subst hel;assumption
     refine ⟨by unfold zBd;rw [hel];exact ⟨_,hz,trivial⟩,?_⟩
     show zAx P t (.v (.slice none 0 0)) _ _ none C
     unfold zAx
     rw [hbl,hund]
     simp only
     rw [show zAc (.v (.int .i64 0)) _ = some hh from hbh]
     exact ⟨h1.1,h1.2,hk _ h2 trivial _ (Tl.refl _)⟩
   ·simp at h
  ·simp at h
 ·simp at h
end
end Go.T
namespace Go.T
open Go.Ab
variable [Go.Ab.DM]
section
variable {P:Program} {ζ:Nat -> Row} {num:Nat -> Nat} {rows:Rows} {H:Heap}
def castI_rfl {t:Ty} (x:t.I):castI (rfl:t = t) x = x:=rfl
def Told (ρ:Refs) (v:TV) (b:Ty) (y:b.I):Prop:=Tl (enc ρ v) (e0 b y) /\ Tls (encs ρ v) (E b zDH y).2
def zCU {ρ:Refs} {v:TV} {b:Ty} {y:b.I} (hv:v.t.sp = false) (hb:b.sp = false) (h:Tl (enc ρ v) (e0 b y)):Told ρ v b y:=by
 refine ⟨h,?_⟩
 unfold encs
 rw [E_one hv,E_one hb]
 exact .cons h .nil
def told_same {ρ:Refs} {v:TV} {b:Ty} (h:v.t = b) (hp:b.pure = true):Told ρ v b (castI h v.x):=by
 subst h
 have e:=E_pure v.t hp ρ zDH v.x
 exact ⟨Tl.of_eq (congrArg Prod.fst e),by unfold encs;rw [e];exact Tls.refl _⟩
def elemsF_told {t:Ty} {v:TV} {l:List t.I} (h:elemsF rows t v = some l):Told (zAB num rows) v (.sl t) l:=by
 have key:∀ (v:TV) (hsp:v.t.sp = false),Tl (enc (zAB num rows) v) (.fz t.w (l.map (e0 t))) -> Told (zAB num rows) v (.sl t) l:=fun v hsp h=>zCU hsp rfl h
 obtain ⟨tv,y⟩:=v
 cases tv with
 | own r =>
  have h:(bif isFro (zAA rows r) then elemsT rows t ⟨.own r,y⟩ else none) = some l:=h
  cases hf:isFro (zAA rows r) <;> rw [hf] at h <;> simp only [cond_true,cond_false] at h
  ·cases h
  ·refine key _ rfl ?_
   simp only [elemsT] at h
   show Tl (ownD (num r) (zAA rows r)) _
   cases hrow:zAA rows r <;> rw [hrow] at hf h <;> simp [isFro] at hf
   ·simp only [zCu] at h
    split at h
    ·rename_i hu;subst hu
     have:=yAA h;subst this
     exact Tl.refl _
    ·cases h
   ·cases h
 | sub r =>
  have h:(bif isFro (zAA rows r) then elemsT rows t ⟨.sub r,y⟩ else none) = some l:=h
  cases hf:isFro (zAA rows r) <;> rw [hf] at h <;> simp only [cond_true,cond_false] at h
  ·cases h
  ·refine key _ rfl ?_
   simp only [elemsT] at h
   show Tl (subD (num r) y (zAA rows r)) _
   cases hrow:zAA rows r <;> rw [hrow] at hf h <;> simp [isFro] at hf
   ·simp only [zCu] at h
    split at h
    ·rename_i l' hl'
     split at hl'
     ·rename_i hu;subst hu
      have:=yAA hl';subst this
      have:=yAA h;subst this
      exact Tl.refl _
     ·cases hl'
    ·cases h
   ·cases h
 | nul c =>
  have h:elemsT rows t ⟨.nul c,y⟩ = some l:=h
  cases c with
  | zero =>
   have:=yAA h;subst this
   exact key _ rfl (Tl.nil _)
  | succ c=>cases h
 | sl u =>
  have h:(if h:u = t then some (castL h y) else none) = some l:=h
  split at h
  ·rename_i hu;subst hu
   have:=yAA h;subst this
   exact key _ rfl (Tl.refl _)
  ·cases h
 | _=>cases h
def ptrF_told {t:Ty} {o:Nat} {v:TV} {y:t.I} (hv:okV rows v) (h:ptrF rows t o v = some y):Told (zAB num rows) v (.fp t o) y:=by
 unfold ptrF at h
 split at h
 ·rename_i r o' z
  cases hb:Nat.beq o o' <;> rw [hb] at h <;> simp only [cond_true,cond_false] at h
  ·cases h
  ·have hb:=yAP.mp hb
   subst hb
   refine zCU rfl rfl ?_
   show Tl (p0D (num r) o (zAA rows r)) (.fp t.w [e0 t y] 0 o)
   split at h
   ·rename_i u x hrow
    split at h
    ·rename_i hu;subst hu
     have:=yAA h;subst this
     rw [hrow];exact Tl.refl _
    ·cases h
   ·cases h
 ·rename_i r o' i
  cases hb:Nat.beq o o' <;> rw [hb] at h <;> simp only [cond_true,cond_false] at h
  ·cases h
  ·have hb:=yAP.mp hb
   subst hb
   refine zCU rfl rfl ?_
   show Tl (ptD (num r) o i (zAA rows r)) (.fp t.w [e0 t y] 0 o)
   split at h
   ·rename_i u l hrow
    split at h
    ·rename_i hu;subst hu
     have:=yAA h;subst this
     have hi:=hv.2 (by rw [hrow];rfl)
     rw [hrow] at hi ⊢
     exact Tl.fp (fz_get hi)
    ·cases h
   ·cases h
 ·cases h
def convS_agg (s:Ty) (v:TV):zBK rows (.agg s) v = if h:v.t = .agg s /\ s.pure = true then some (castI h.1 v.x) else match v with | ⟨.agg s',x⟩=>zBK rows s ⟨s',x⟩ | _=>none:=rfl
def convS_tup (s:Ty) (v:TV):zBK rows (.tup s) v = if h:v.t = .tup s /\ s.pure = true then some (castI h.1 v.x) else match v with | ⟨.tup s',x⟩=>zBK rows s ⟨s',x⟩ | _=>none:=rfl
def convS_pr (a b:Ty) (v:TV):zBK rows (.pr a b) v = if h:v.t = .pr a b /\ (Ty.pr a b).pure = true then some (castI h.1 v.x) else match v with
 | ⟨.pr a' b',x⟩=>(match zBK rows a ⟨a',x.1⟩,zBK rows b ⟨b',x.2⟩ with
  | some y,some z=>some (y,z)
  | _,_=>none)
 | _=>none:=rfl
def convS_fn (f:FuncId) (a c:Ty) (v:TV):zBK rows (.fn f a c) v = if h:v.t = .fn f a c /\ (Ty.fn f a c).pure = true then some (castI h.1 v.x) else match v with
 | ⟨.fn f' a' c',x⟩=>bif Nat.beq f f' then (match zBK rows a ⟨a',x.1⟩,zBK rows c ⟨c',x.2⟩ with
  | some y,some z=>some (y,z)
  | _,_=>none) else none
 | _=>none:=rfl
def convS_ifc (id:TypeId) (t:Ty) (v:TV):zBK rows (.ifc id t) v = if h:v.t = .ifc id t /\ t.pure = true then some (castI h.1 v.x) else match v with
 | ⟨.ifc id' t',x⟩=>bif Nat.beq id id' then zBK rows t ⟨t',x⟩ else none
 | _=>none:=rfl
def convS_fp1 {t:Ty} {o:Nat} {v:TV} (h:v.t = .fp t o):zBK rows (.fp t o) v = some (castI h v.x):=dif_pos h
def convS_fp2 {t:Ty} {o:Nat} {v:TV} (h:¬ v.t = .fp t o):zBK rows (.fp t o) v = ptrF rows t o v:=dif_neg h
def convS_bool (v:TV):zBK rows .bool v = match v with
 | ⟨.bool,b⟩=>some b
 | ⟨.tt,_⟩=>some true
 | ⟨.ff,_⟩=>some false
 | _=>none:=rfl
def convS_any (v:TV):zBK rows .any v = match v.t with | .pr _ _=>none | .unit=>none | _=>some ():=rfl
def plainT:Ty -> Bool
 | .int _ | .str | .unit | .own _ | .sub _ | .p0 _ _ | .pt _ _ | .mp _ | .nul _ | .tt | .ff=>true
 | _=>false
def convS_plain {t:Ty} (h:plainT t = true) (v:TV):zBK rows t v = if h:v.t = t /\ t.pure = true then some (castI h.1 v.x) else none:=by
 cases t <;> first | rfl | simp [plainT] at h
def convS_told:∀ (b:Ty) (v:TV) (y:b.I),okV rows v -> zBK rows b v = some y -> Told (zAB num rows) v b y:=by
 intro b
 induction b with
 | agg s ih =>
  rintro ⟨tv,x⟩ y hv h
  rw [convS_agg] at h
  by_cases hh:tv = .agg s /\ s.pure = true
  ·rw [dif_pos hh] at h
   have:=yAA h;subst this
   exact told_same hh.1 hh.2
  ·rw [dif_neg hh] at h
   cases tv with
   | agg s'=>exact zCU rfl rfl (Tl.agg (ih ⟨s',x⟩ y hv h).2)
   | _=>cases h
 | tup s ih =>
  rintro ⟨tv,x⟩ y hv h
  rw [convS_tup] at h
  by_cases hh:tv = .tup s /\ s.pure = true
  ·rw [dif_pos hh] at h
   have:=yAA h;subst this
   exact told_same hh.1 hh.2
  ·rw [dif_neg hh] at h
   cases tv with
   | tup s'=>exact zCU rfl rfl (Tl.tup (ih ⟨s',x⟩ y hv h).2)
   | _=>cases h
 | pr a b iha ihb =>
  rintro ⟨tv,x⟩ y hv h
  rw [convS_pr] at h
  by_cases hh:tv = .pr a b /\ (Ty.pr a b).pure = true
  ·rw [dif_pos hh] at h
   have:=yAA h;subst this
   exact told_same hh.1 hh.2
  ·rw [dif_neg hh] at h
   cases tv with
   | pr a' b' =>
    dsimp only at h
    cases h1:zBK rows a ⟨a',x.1⟩ with
    | none=>rw [h1] at h;cases h
    | some y1 =>
     cases h2:zBK rows b ⟨b',x.2⟩ with
     | none=>rw [h1,h2] at h;cases h
     | some y2 =>
      rw [h1,h2] at h
      have:=yAA h;subst this
      exact ⟨Tl.refl _,.cons (iha ⟨a',x.1⟩ y1 hv.1 h1).1 (ihb ⟨b',x.2⟩ y2 hv.2 h2).2⟩
   | _=>cases h
 | fn f a c iha ihb =>
  rintro ⟨tv,x⟩ y hv h
  rw [convS_fn] at h
  by_cases hh:tv = .fn f a c /\ (Ty.fn f a c).pure = true
  ·rw [dif_pos hh] at h
   have:=yAA h;subst this
   exact told_same hh.1 hh.2
  ·rw [dif_neg hh] at h
   cases tv with
   | fn f' a' c' =>
    dsimp only at h
    cases hb:Nat.beq f f' with
    | false=>rw [hb] at h;cases h
    | true =>
     rw [hb] at h
     have hb:=yAP.mp hb
     subst hb
     cases h1:zBK rows a ⟨a',x.1⟩ with
     | none=>rw [h1] at h;cases h
     | some y1 =>
      cases h2:zBK rows c ⟨c',x.2⟩ with
      | none=>rw [h1,h2] at h;cases h
      | some y2 =>
       rw [h1,h2] at h
       have:=yAA h;subst this
       exact zCU rfl rfl (Tl.fn (iha ⟨a',x.1⟩ y1 hv.1 h1).2 (ihb ⟨c',x.2⟩ y2 hv.2 h2).2)
   | _=>cases h
 | ifc id t ih =>
  rintro ⟨tv,x⟩ y hv h
  rw [convS_ifc] at h
  by_cases hh:tv = .ifc id t /\ t.pure = true
  ·rw [dif_pos hh] at h
   have:=yAA h;subst this
   exact told_same hh.1 hh.2
  ·rw [dif_neg hh] at h
   cases tv with
   | ifc id' t' =>
    dsimp only at h
    cases hb:Nat.beq id id' with
    | false=>rw [hb] at h;cases h
    | true =>
     rw [hb] at h
     have hb:=yAP.mp hb
     subst hb
     exact zCU rfl rfl (Tl.ifc (ih ⟨t',x⟩ y hv h).1)
   | _=>cases h
 | sl t ih=>intro v y hv h;exact elemsF_told h
 | fp t o ih =>
  rintro ⟨tv,x⟩ y hv h
  by_cases hh:tv = .fp t o
  ·subst hh
   rw [convS_fp1 rfl] at h
   have:=yAA h;subst this
   exact zCU rfl rfl (Tl.refl _)
  ·exact ptrF_told hv ((convS_fp2 (v:=⟨tv,x⟩) hh).symm.trans h)
 | bool =>
  rintro ⟨tv,x⟩ y hv h
  rw [convS_bool] at h
  cases tv with
  | bool=>have:=yAA h;subst this;exact zCU rfl rfl (Tl.refl _)
  | tt=>have:=yAA h;subst this;exact zCU rfl rfl (Tl.refl _)
  | ff=>have:=yAA h;subst this;exact zCU rfl rfl (Tl.refl _)
  | _=>cases h
 | any =>
  rintro ⟨tv,x⟩ y hv h
  rw [convS_any] at h
  cases tv with
  | pr a b=>cases h
  | unit=>cases h
  | _=>exact zCU rfl rfl (Tl.any _)
 | _ =>
  rintro ⟨tv,x⟩ y hv h
  rw [convS_plain (by rfl)] at h
  split at h
  ·rename_i hh
   have:=yAA h;subst this
   exact told_same hh.1 hh.2
  ·cases h
def convS_tl {b:Ty} {v:TV} {y:b.I} (hv:okV rows v) (h:zBK rows b v = some y):Tl (enc (zAB num rows) v) (e0 b y):=(convS_told b v y hv h).1
def spine_pure:∀ (l:List TV),(∀ v ∈ l,v.t.pure = true) -> (zDV l).t.pure = true
 | [],_=>rfl
 | [v],h=>by
  have:=h v (by simp)
  obtain ⟨t,x⟩:=v
  show (TV.lf ⟨t,x⟩).t.pure = true
  cases t <;> first | exact this | rfl
 | v :: u :: r,h=>by
  show (v.t.pure && (zDV (u :: r)).t.pure) = true
  rw [h v (by simp),spine_pure (u :: r) fun z hz=>h z (yAF _ hz)];rfl
def ofValue_pure {v:Value} {x:TV} (h:ofValue v = some x):x.t.pure = true:=by
 cases v with
 | int k n=>simp only [ofValue,yAH] at h;subst h;rfl
 | bool b=>simp only [ofValue,yAH] at h;subst h;rfl
 | string b=>simp only [ofValue,yAH] at h;subst h;rfl
 | slice a l c =>
  unfold ofValue at h
  split at h <;> simp at h
  all_goals (try (rename_i he;cases he))
  all_goals (subst h;try rfl)
 | pointer a=>cases a <;> simp [ofValue] at h;subst h;rfl
 | map a=>cases a <;> simp [ofValue] at h;subst h;rfl
 | nilIface=>simp only [ofValue,yAH] at h;subst h;rfl
 | nilFunc=>simp only [ofValue,yAH] at h;subst h;rfl
 | _=>simp [ofValue] at h
def ofValues_pure:∀ {l:List Value} {vs:List TV},zDX l = some vs -> ∀ v ∈ vs,v.t.pure = true
 | [],vs,h=>by simp only [zDX,yAH] at h;subst h;simp
 | v :: l,vs,h=>by
  simp only [zDX] at h
  split at h
  ·rename_i x y h1 h2
   simp only [yAH] at h;subst h
   intro u hu
   rcases yAE.1 hu with rfl | hu
   ·exact ofValue_pure h1
   ·exact ofValues_pure h2 u hu
  ·cases h
def zeroT_pure {t:TypeId} {v:TV} (h:zeroT P t = some v):v.t.pure = true:=by
 unfold zeroT at h
 split at h
 ·rename_i cs hz
  simp only [yAb] at h
  obtain ⟨l,h1,rfl⟩:=h
  exact spine_pure _ (ofValues_pure h1)
 ·rename_i v' hn hz;exact ofValue_pure h
 ·cases h
def conv_key {k:Ty} {v:TV} {y:k.I} {rows':Rows} (hk:(keq k).isSome = true) (h:zBK rows' k v = some y) (ρ:Refs):enc ρ v = .v (keyV k y):=by
 obtain ⟨tv,x⟩:=v
 cases k with
 | int kk =>
  rw [convS_plain (by rfl)] at h
  split at h
  ·rename_i hh
   have:=yAA h;subst this
   obtain ⟨h1,_⟩:=hh
   dsimp only at h1;subst h1;rfl
  ·cases h
 | str =>
  rw [convS_plain (by rfl)] at h
  split at h
  ·rename_i hh
   have:=yAA h;subst this
   obtain ⟨h1,_⟩:=hh
   dsimp only at h1;subst h1;rfl
  ·cases h
 | bool =>
  rw [convS_bool] at h
  cases tv with
  | bool=>have:=yAA h;subst this;rfl
  | tt=>have:=yAA h;subst this;rfl
  | ff=>have:=yAA h;subst this;rfl
  | _=>cases h
 | _=>simp [keq] at hk
end
end Go.T
namespace Go.T
open Go.Ab
variable [Go.Ab.DM]
section
variable {P:Program} {B:Base} {ζ:Nat -> Row} {num:Nat -> Nat} {rows:Rows} {e:Env} {H:Heap} {R:Type} {r:R}
def pure_kids {t:Ty} {x:t.I} (hp:t.pure = true):enc (zAB num rows) ⟨t,x⟩ = e0 t x:=congrArg Prod.fst (E_pure t hp (zAB num rows) zDH x)
def part_pure {tg:Bool} {sz o:Nat} {t:Ty} {x:t.I} {u:TV} (hp:t.pure = true) (h:partT tg sz o ⟨t,x⟩ = some u):∃ d',zBV tg sz (e0 t x) o = some d' /\ Tl d' (enc (zAB num rows) u):=by
 rw [<- pure_kids (num:=num) (rows:=rows) hp]
 exact partT_sound (zDF num rows _) (by rw [zBW];exact Tls.refl _) h
def loadT_sound (hr:HRel ζ num rows H) {t:TypeId} {a u:TV} (ha:okV rows a) (h:loadT P rows t a = some u):∃ d,ldD P t H (enc (zAB num rows) a) = some d /\ Tl d (enc (zAB num rows) u) /\ okV rows u:=by
 unfold loadT at h
 unfold ldD
 split at h
 ·rename_i tg sz htg hsz
  rw [htg,hsz]
  simp only
  obtain ⟨ta,xa⟩:=a
  cases ta with
  | p0 q o =>
   dsimp only at h
   have hR:=hr.row q
   show ∃ d,(match p0D (num q) o (zAA rows q) with | .pt r i o=>_ | .fp _ xs i o=>_ | _=>none) = some d /\ _
   cases hrow:zAA rows q with
   | one t' x' =>
    rw [hrow] at h hR
    obtain ⟨hl,k,d,hg,hag,htl⟩:=hR
    obtain ⟨d',h1,h2⟩:=partT_sound (v:=⟨t',x'⟩) hag htl h
    refine ⟨d',?_,h2,partT_ok (v:=⟨t',x'⟩) (hr.ok q t' x' hrow) h⟩
    simp only [p0D,hg]
    exact h1
   | fr1 t' x' =>
    rw [hrow] at h hR
    obtain ⟨d',h1,h2⟩:=part_pure (num:=num) (rows:=rows) hR h
    exact ⟨d',h1,h2,partT_ok (v:=⟨t',x'⟩) (zCR t' x' hR) h⟩
   | _=>rw [hrow] at h;cases h
  | pt q o =>
   obtain ⟨i,hia⟩:∃ i:Nat,i = xa:=⟨xa,rfl⟩
   subst hia
   dsimp only at h
   have hR:=hr.row q
   have hi:zAS (zAA rows q) = true -> i < zCg (zAA rows q):=ha.2
   show ∃ d,(match ptD (num q) o i (zAA rows q) with | .pt r i o=>_ | .fp _ xs i o=>_ | _=>none) = some d /\ _
   cases hrow:zAA rows q with
   | many t' l =>
    rw [hrow] at h hR hi
    have hp:=zCY hR.1
    obtain ⟨d',h1,h2⟩:=part_pure (num:=num) (rows:=rows) hp h
    refine ⟨d',?_,h2,partT_ok (v:=⟨t',_⟩) (zCR t' _ hp) h⟩
    simp only [ptD,hR.2,fz_get (hi rfl),yBP]
    exact h1
   | lst t' l =>
    rw [hrow] at h hR hi
    have hp:=zCY hR.1
    have hlt:i < l.length:=hi rfl
    obtain ⟨d',h1,h2⟩:=part_pure (num:=num) (rows:=rows) hp h
    refine ⟨d',?_,h2,partT_ok (v:=⟨t',_⟩) (zCR t' _ hp) h⟩
    simp only [ptD,hR.2 (by intro h0;rw [h0] at hlt;simp at hlt),fz_get hlt,yBP]
    exact h1
   | fro t' l =>
    rw [hrow] at h hR hi
    have hp:=zCY hR
    obtain ⟨d',h1,h2⟩:=part_pure (num:=num) (rows:=rows) hp h
    refine ⟨d',?_,h2,partT_ok (v:=⟨t',_⟩) (zCR t' _ hp) h⟩
    simp only [ptD,fz_get (hi rfl),yBP]
    exact h1
   | _=>rw [hrow] at h;cases h
  | fp u' o =>
   dsimp only at h
   cases hp:u'.pure with
   | false=>rw [hp] at h;cases h
   | true =>
    rw [hp,cond_true] at h
    obtain ⟨d',h1,h2⟩:=part_pure (num:=num) (rows:=rows) hp h
    exact ⟨d',h1,h2,partT_ok (v:=⟨u',xa⟩) (zCR u' _ hp) h⟩
  | _=>cases h
 ·cases h
def fieldAddrT_sound {t:TypeId} {x u:TV} {f:Nat} {C:D -> Prop} (hx:okV rows x) (h:fieldAddrT P rows t x f = some u) (hC:okV rows u -> ∀ d,Tl d (enc (zAB num rows) u) -> C d):zAh P t (enc (zAB num rows) x) f C:=by
 unfold fieldAddrT at h
 unfold zAh
 split at h
 ·rename_i off ft hf
  rw [hf]
  simp only
  split at h
  ·rename_i n hn
   rw [hn]
   simp only
   obtain ⟨tx,xx⟩:=x
   cases tx with
   | p0 q o =>
    dsimp only at h
    cases hcl:isCell (zAA rows q) with
    | false=>rw [hcl] at h;cases h
    | true =>
    rw [hcl] at h
    have:=yAA h;subst this
    have hC:=hC hx
    show (match p0D (num q) o (zAA rows q) with | .pt r i o=>_ | .fp k xs i o=>_ | _=>False)
    have hC':∀ d,Tl d (p0D (num q) (o + off) (zAA rows q)) -> C d:=hC
    cases hrow:zAA rows q <;> rw [hrow] at hcl hC' <;> simp [isCell] at hcl
    ·exact hC' _ (Tl.refl _)
    ·exact hC' _ (Tl.refl _)
   | pt q o =>
    dsimp only at h
    cases hcl:zAS (zAA rows q) with
    | false=>rw [hcl] at h;cases h
    | true =>
    rw [hcl] at h
    have:=yAA h;subst this
    have hC:=hC hx
    show (match ptD (num q) o xx (zAA rows q) with | .pt r i o=>_ | .fp k xs i o=>_ | _=>False)
    have hC':∀ d,Tl d (ptD (num q) (o + off) xx (zAA rows q)) -> C d:=hC
    cases hrow:zAA rows q <;> rw [hrow] at hcl hC' <;> simp [zAS] at hcl
    ·exact hC' _ (Tl.refl _)
    ·exact hC' _ (Tl.refl _)
    ·exact hC' _ (Tl.refl _)
   | fp t' o =>
    have:=yAA h;subst this
    exact hC trivial _ (Tl.refl _)
   | _=>cases h
  ·cases h
 ·cases h
def fieldT_sound {t:TypeId} {x u:TV} {f:Nat} {C:D -> Prop} (hx:okV rows x) (h:fieldT P t x f = some u) (hC:okV rows u -> C (enc (zAB num rows) u)):aField P t (enc (zAB num rows) x) f C:=by
 unfold fieldT at h
 unfold aField
 split at h
 ·rename_i off ft hf
  rw [hf]
  simp only
  split at h
  ·rename_i tg sz s y htg hsz
   rw [htg,hsz]
   have h1:=partT_exact (ρ:=zAB num rows) h
   have h2:=partT_ok hx h
   exact ⟨_,h1,hC h2⟩
  ·cases h
 ·cases h
def fillT_sound {place:Nat -> Option (Nat × Nat)}:∀ (l:List (Nat × TV)) (v w:List TV),(∀ u ∈ v,okV rows u) -> (∀ p ∈ l,okV rows p.2) -> fillT rows place v l = some w ->
  fillD place (v.map (enc (zAB num rows))) (l.map fun p=>(p.1,enc (zAB num rows) p.2)) = some (w.map (enc (zAB num rows))) /\ ∀ u ∈ w,okV rows u
 | [],v,w,hv,hl,h=>by have:=yAA h;subst this;exact ⟨rfl,hv⟩
 | (i,x) :: l,v,w,hv,hl,h=>by
  simp only [fillT] at h
  simp only [yAL,fillD]
  split at h
  ·rename_i off sz hp
   rw [hp]
   simp only
   cases hb:(Nat.beq (zAs x).length sz && Nat.ble (off + sz) v.length && (zAs x).all (zCW rows)) with
   | false=>rw [hb] at h;cases h
   | true =>
    rw [hb,cond_true] at h
    simp only [yAB,yAP,Nat.ble_eq] at hb
    obtain ⟨⟨h1,h2⟩,h3⟩:=hb
    have hx:=hl (i,x) (by simp)
    obtain ⟨h4,h5⟩:=fillT_sound l _ w (fun u hu=>by
     simp only [yAO] at hu
     rcases hu with (hu | hu) | hu
     ·exact hv u (yBJ hu)
     ·exact ok_kids hx u hu
     ·exact hv u (List.mem_of_mem_drop hu)) (fun p hp=>hl p (yAF _ hp)) h
    refine ⟨?_,h5⟩
    rw [if_pos ⟨by rw [enc_width];exact h1,by rw [yAG];exact h2,lies_of_cells (kids_one h3)⟩]
    rw [yAV,yAV,List.map_take,List.map_drop] at h4
    rw [zBW]
    exact h4
  ·cases h
def len_fz (u:Ty) (l:List u.I):some (D.v (.int .i64 ((l.map (e0 u)).length:Nat))) = some (D.v (.int .i64 (n2i (zAE l)))):=by rw [yAG];rfl
def lenT_sound (hr:HRel ζ num rows H) {t:TypeId} {ts:Array TypeId} {x:TV} {n:Int} (hx:okV rows x) (ht:ts[0]? = some t) (h:lenT P rows t x = some n):lenD P ts H (enc (zAB num rows) x) = some (.v (.int .i64 n)):=by
 unfold lenT at h
 unfold lenD
 rw [ht]
 simp only [yBP]
 split at h
 ·rename_i s hu;rw [hu];have:=yAA h;subst this;rfl
 ·rename_i el u l hu;rw [hu];have:=yAA h;subst this
  exact len_fz u l
 ·rename_i el q y hu
  rw [hu]
  split at h
  ·rename_i n' hn
   have:=yAA h;subst this
   show (match (TypeDesc.slice el),ownD (num q) (zAA rows q) with | .string,.v (.string s)=>_ | .slice _,.fz _ xs=>_ | .slice _,.sl _ _ m=>_ | .slice _,.slc _ _ m _=>_ | .slice _,.v (.slice none 0 0)=>_ | .map _ _,.mp r=>_ | _,_=>none) = some (D.v (.int .i64 (n2i n')))
   cases hrow:zAA rows q with
   | many t' l=>rw [hrow] at hn;have:=yAA hn;subst this;rfl
   | lst t' l =>
    rw [hrow] at hn;have:=yAA hn;subst this
    cases l <;> rfl
   | fro t' l =>
    rw [hrow] at hn;have:=yAA hn;subst this
    exact len_fz t' l
   | _=>rw [hrow] at hn;cases hn
  ·cases h
 ·rename_i el q y hu
  rw [hu]
  have hy:zAS (zAA rows q) = true -> y.1 + y.2 <= zCg (zAA rows q):=hx.2
  split at h
  ·rename_i n' hn
   have:=yAA h;subst this
   show (match (TypeDesc.slice el),subD (num q) y (zAA rows q) with | .string,.v (.string s)=>_ | .slice _,.fz _ xs=>_ | .slice _,.sl _ _ m=>_ | .slice _,.slc _ _ m _=>_ | .slice _,.v (.slice none 0 0)=>_ | .map _ _,.mp r=>_ | _,_=>none) = some (D.v (.int .i64 (n2i y.2)))
   cases hrow:zAA rows q with
   | many t' l=>rfl
   | lst t' l =>
    rw [hrow] at hy
    cases l with
    | nil =>
     have h0:y.1 + y.2 <= 0:=hy rfl
     have:y.2 = 0:=by omega
     show some (D.v (.int .i64 0)) = _
     rw [this];rfl
    | cons z l=>rfl
   | fro t' l =>
    rw [hrow] at hy
    have h0:y.1 + y.2 <= l.length:=hy rfl
    have hlen:(((l.drop y.1).take y.2).map (e0 t')).length = y.2:=by simp;omega
    show some (D.v (.int .i64 ((((l.drop y.1).take y.2).map (e0 t')).length:Nat))) = _
    rw [hlen];rfl
   | _=>rw [hrow] at hn;cases hn
  ·cases h
 ·rename_i el y hu;rw [hu];have:=yAA h;subst this;rfl
 ·rename_i a b q y hu
  rw [hu]
  have hR:=hr.row q
  show (match (TypeDesc.map a b),mpD (num q) (zAA rows q) with | .string,.v (.string s)=>_ | .slice _,.fz _ xs=>_ | .slice _,.sl _ _ m=>_ | .slice _,.slc _ _ m _=>_ | .slice _,.v (.slice none 0 0)=>_ | .map _ _,.mp r=>_ | _,_=>none) = some (D.v (.int .i64 n))
  cases hrow:zAA rows q with
  | mp k v l =>
   rw [hrow] at h hR
   have:=yAA h;subst this
   obtain ⟨_,_,es,cl,hg,hk,_⟩:=hR
   simp only [mpD,hg]
   have:=congrArg List.length hk
   simp only [yAG] at this
   rw [this];rfl
  | _=>rw [hrow] at h;cases h
 ·cases h
end
end Go.T
namespace Go.T
open Go.Ab
variable [Go.Ab.DM]
section
variable {P:Program} {ζ:Nat -> Row} {num:Nat -> Nat} {rows:Rows} {H:Heap}
def mapT_some {t:TypeId} {a b:Ty} (h:mapT P t = some (a,b)):∃ kt et kd,tmap P t = some (kt,et,kd) /\ tyOf P 2 kt = some a /\ tyOf P 8 et = some b:=by
 unfold mapT at h
 split at h
 ·rename_i k e kd ht
  split at h
  ·rename_i x y h1 h2
   simp only [yAH,yBX] at h
   obtain ⟨rfl,rfl⟩:=h
   exact ⟨k,e,kd,ht,h1,h2⟩
  ·cases h
 ·cases h
def key_same {kt:TypeId} {kd:TypeDesc} {a:Ty} {eq:a.I -> a.I -> Bool} (hu:P.underlying kt = some kd) (hkd:keyKind kd = true) (ha:tyOf P 2 kt = some a) (he:keq a = some eq) (x y:a.I):Instr.sameNow kd (keyV a x) (keyV a y) = some (eq x y):=by
 simp only [tyOf,hu] at ha
 cases kd with
 | int kk =>
  have:=yAA ha;subst this
  have:=yAA he;subst this
  show (if kk = kk then _ else _) = _
  rw [if_pos rfl];rfl
 | string =>
  have:=yAA ha;subst this
  have:=yAA he;subst this
  exact congrArg some (beq_toList _ _)
 | bool =>
  have:=yAA ha;subst this
  have:=yAA he;subst this
  rfl
 | _=>simp [keyKind] at hkd
section
variable {k v:Ty} {eq:k.I -> k.I -> Bool} {kd:TypeDesc}
def findD_sound (same:∀ x y:k.I,Instr.sameNow kd (keyV k x) (keyV k y) = some (eq x y)) (kx:k.I) (vx:v.I):∀ (es:MapD) (l:List (k.I × v.I)) (i:Nat),es.map (·.2.1) = l.map (fun p=>keyV k p.1) -> Tls (es.map (·.2.2)) (l.map fun p=>e0 v p.2) ->
  (findD kd (keyV k kx) es i = some none /\ l.find? (fun p=>eq kx p.1) = none /\ l.any (fun p=>eq kx p.1) = false /\ mput eq l kx vx = l ++ [(kx,vx)] /\ mdel eq l kx = l) \/
  (∃ j,findD kd (keyV k kx) es i = some (some (i + j)) /\ l.any (fun p=>eq kx p.1) = true /\ (∃ x p,l.find? (fun p=>eq kx p.1) = some x /\ es[j]? = some p /\ Tl p.2.2 (e0 v x.2)) /\ mput eq l kx vx = l.set j (kx,vx) /\ mdel eq l kx = l.eraseIdx j /\ j < l.length)
 | [],[],i,hk,hv=>.inl ⟨rfl,rfl,rfl,rfl,rfl⟩
 | [],p :: l,i,hk,hv=>by simp at hk
 | p :: es,[],i,hk,hv=>by simp at hk
 | p :: es,x :: l,i,hk,hv=>by
  simp only [yAL,yAq] at hk
  obtain ⟨hk1,hk2⟩:=hk
  simp only [yAL] at hv
  cases hv with
  | cons hv1 hv2 =>
   have hs:=same kx x.1
   rw [<- hk1] at hs
   cases hb:eq kx x.1 with
   | true =>
    rw [hb] at hs
    refine .inr ⟨0,?_,?_,⟨x,p,?_,rfl,hv1⟩,?_,?_,by simp⟩
    ·simp only [findD,hs,Nat.add_zero]
    ·simp [hb]
    ·simp [hb]
    ·simp [mput,mputGo,hb]
    ·simp [mdel,hb]
   | false =>
    rw [hb] at hs
    rcases findD_sound same kx vx es l (i + 1) hk2 hv2 with ⟨h1,h2,h3,h4,h5⟩ | ⟨j,h1,h2,⟨y,q,h3,h4,h5⟩,h6,h7,h8⟩
    ·refine .inl ⟨?_,?_,?_,?_,?_⟩
     ·simp only [findD,hs,h1]
     ·simp [hb,h2]
     ·simp only [List.any_cons,hb,h3,Bool.or_self]
     ·simp only [mput] at h4;simp [mput,mputGo,hb,h4]
     ·simp only [mdel] at h5;simp [mdel,hb,h5]
    ·refine .inr ⟨j + 1,?_,?_,⟨y,q,?_,?_,h5⟩,?_,?_,by simpa using h8⟩
     ·simp only [findD,hs,h1];congr 2;omega
     ·simp only [List.any_cons,h2,Bool.or_true]
     ·simp [hb,h3]
     ·simpa using h4
     ·simp only [mput] at h6;simp [mput,mputGo,hb,h6]
     ·simp only [mdel] at h7;simp [mdel,hb,h7]
end
def lookT_sound (hr:HRel ζ num rows H) {t:TypeId} {m key u:TV} {ok:Bool} (hm:okV rows m) (h:lookT P rows t m key ok = some u) :
  ∃ d,lkD P t H (enc (zAB num rows) m) (enc (zAB num rows) key) ok = some d /\ Tl d (enc (zAB num rows) u) /\ okV rows u:=by
 unfold lookT at h
 split at h
 ·rename_i a b z hmt hz
  obtain ⟨kt,et,kd,h1,h2,h3⟩:=mapT_some hmt
  rw [h1] at hz
  simp only [yBP] at hz
  obtain ⟨hz1,hz2⟩:=zDK hz (zAB num rows) rows
  obtain ⟨hu1,hu2,hkk⟩:=tmap_some h1
  unfold lkD
  rw [h1]
  obtain ⟨tm,xm⟩:=m
  cases tm with
  | mp q =>
   dsimp only at h
   have hR:=hr.row q
   cases hrow:zAA rows q with
   | mp k v l =>
    rw [hrow] at h hR
    dsimp only at h
    split at h
    ·rename_i eq kx zx he hkx hzx
     cases hd:decide (a = k) with
     | false=>rw [hd] at h;cases h
     | true =>
      have hak:=of_decide_eq_true hd
      subst hak
      rw [hd,cond_true] at h
      have:=yAA h;subst this
      obtain ⟨hke,hvp,es,cl,hg,hk1,hv1,hlt,hnd⟩:=hR
      rw [conv_key hke hkx (zAB num rows)]
      have hq:enc (zAB num rows) ⟨.mp q,xm⟩ = .mp (num q):=by
       show mpD (num q) (zAA rows q) = _
       rw [hrow];rfl
      rw [hq]
      simp only [hg]
      have hzp:=zeroT_pure hz
      have hzt:Tl (enc (zAB num rows) z) (e0 v zx):=by
       rw [enc_pure hzp (zAB num rows) (zAB num [])]
       exact convS_tl (rows:=[]) (num:=num) (zDK hz (zAB num []) []).2 hzx
      have fin:∀ (dd:D) (w:v.I) (bb:Bool),Tl dd (e0 v w) -> ∃ d,(some (if ok = true then D.tup [dd,.v (.bool bb)] else dd):Option D) = some d /\ Tl d (enc (zAB num rows) (bif ok then tupV [⟨v,w⟩,⟨.bool,bb⟩] else ⟨v,w⟩)) /\ okV rows (bif ok then tupV [⟨v,w⟩,⟨.bool,bb⟩] else ⟨v,w⟩):=by
       intro dd w bb ht
       have hw:enc (zAB num rows) ⟨v,w⟩ = e0 v w:=pure_kids hvp
       cases ok with
       | false=>exact ⟨dd,rfl,by rw [cond_false,hw];exact ht,zCR v w hvp⟩
       | true =>
        refine ⟨_,rfl,?_,ok_tup _ fun u hu=>?_⟩
        ·rw [cond_true,enc_tup]
         exact Tl.tup (.cons (by rw [hw];exact ht) (.cons (Tl.refl _) .nil))
        ·simp only [yAE,yAf,or_false] at hu
         rcases hu with rfl | rfl
         ·exact zCR v w hvp
         ·trivial
      rcases findD_sound (v:=v) (key_same hu2 hkk h2 he) kx zx es l 0 hk1 hv1 with ⟨g1,g2,g3,_⟩ | ⟨j,g1,g2,⟨x,p,g3,g4,g5⟩,_⟩
      ·rw [g1]
       simp only [yBU,Option.bind_none,hz1]
       have e1:mget eq zx l kx = zx:=by simp only [mget,g2]
       have e2:mhas eq l kx = false:=g3
       rw [e1,e2]
       exact fin _ zx false hzt
      ·rw [g1]
       simp only [yBU,yBP,yAT,g4]
       have e1:mget eq zx l kx = x.2:=by simp only [mget,g3]
       have e2:mhas eq l kx = true:=g2
       rw [e1,e2]
       exact fin _ x.2 true g5
    ·cases h
   | _=>rw [hrow] at h;cases h
  | nul c =>
   match c with
   | 2 =>
    have h:(match zBK [] a key with | some _=>some (bif ok then tupV [z,⟨.ff,()⟩] else z) | none=>none) = some u:=h
    split at h
    ·rename_i kx hkx
     have:=yAA h;subst this
     have hke:(keq a).isSome = true:=by
      simp only [tyOf,hu2] at h2
      cases kd <;> simp [keyKind] at hkk <;> (have:=yAA h2;subst this;rfl)
     rw [conv_key hke hkx (zAB num rows)]
     show ∃ d,((zCy P et).map fun d=>if ok = true then D.tup [d,.v (.bool false)] else d) = some d /\ _
     rw [hz1]
     cases ok with
     | false=>exact ⟨_,rfl,Tl.refl _,hz2⟩
     | true =>
      refine ⟨_,rfl,?_,ok_tup _ fun u hu=>?_⟩
      ·rw [cond_true,enc_tup];exact Tl.refl _
      ·simp only [yAE,yAf,or_false] at hu
       rcases hu with rfl | rfl
       ·exact hz2
       ·trivial
    ·cases h
   | 0=>cases h
   | 1=>cases h
   | n + 3=>cases h
  | _=>cases h
 ·cases h
end
end Go.T
namespace Go.T
open Go.Ab
variable [Go.Ab.DM]
section
variable {P:Program} {ζ:Nat -> Row} {num:Nat -> Nat} {rows:Rows} {H:Heap}
def zDU (hr:HRel ζ num rows H) {t:Ty} {v:TV} {l:List t.I} (hv:okV rows v) (h:elemsT rows t v = some l):zBY H t.w (enc (zAB num rows) v).wk = some (l.map (e0 t)):=by
 obtain ⟨tv,x⟩:=v
 cases tv with
 | nul c =>
  cases c with
  | zero=>have:=yAA h;subst this;rfl
  | succ c=>cases h
 | sl u =>
  have h:(if h:u = t then some (castL h x) else none) = some l:=h
  split at h
  ·rename_i hu;subst hu
   have:=yAA h;subst this
   show (if u.w = u.w then some _ else none) = _
   rw [if_pos rfl];rfl
  ·cases h
 | own q =>
  have h:zCu t (zAA rows q) = some l:=h
  have hR:=hr.row q
  show zBY H t.w (ownD (num q) (zAA rows q)).wk = _
  cases hrow:zAA rows q with
  | many u l' =>
   rw [hrow] at h hR
   simp only [zCu] at h
   split at h
   ·rename_i hu;subst hu
    have:=yAA h;subst this
    show (match H.get (num q) with | some (.cells k' xs)=>_ | _=>_) = _
    rw [hR.2]
    show (if u.w = u.w /\ 0 + l'.length <= (l'.map (e0 u)).length then some _ else none) = _
    rw [if_pos ⟨rfl,by simp⟩,yBD,yAW (by simp)];rfl
   ·cases h
  | lst u l' =>
   rw [hrow] at h hR
   simp only [zCu] at h
   split at h
   ·rename_i hu;subst hu
    have:=yAA h;subst this
    cases l' with
    | nil=>rfl
    | cons y l' =>
     show (match H.get (num q) with | some (.cells k' xs)=>_ | _=>_) = _
     rw [hR.2 (by simp)]
     show (if u.w = u.w /\ 0 + (y :: l').length <= ((y :: l').map (e0 u)).length then some _ else none) = _
     rw [if_pos ⟨rfl,by simp⟩,yBD,yAW (by simp)];rfl
   ·cases h
  | fro u l' =>
   rw [hrow] at h
   simp only [zCu] at h
   split at h
   ·rename_i hu;subst hu
    have:=yAA h;subst this
    show (if u.w = u.w then some _ else none) = _
    rw [if_pos rfl];rfl
   ·cases h
  | _=>rw [hrow] at h;cases h
 | sub q =>
  have hb:zAS (zAA rows q) = true -> x.1 + x.2 <= zCg (zAA rows q):=hv.2
  have h:(match zCu t (zAA rows q) with | some l=>some (zCI l x.1 x.2) | none=>none) = some l:=h
  have hR:=hr.row q
  show zBY H t.w (subD (num q) x (zAA rows q)).wk = _
  cases hrow:zAA rows q with
  | many u l' =>
   rw [hrow] at h hR hb
   have hb:x.1 + x.2 <= l'.length:=hb rfl
   simp only [zCu] at h
   by_cases hu:u = t
   ·subst hu
    rw [dif_pos rfl] at h
    have:=yAA h;subst this
    show (match H.get (num q) with | some (.cells k' xs)=>_ | _=>_) = _
    rw [hR.2]
    show (if u.w = u.w /\ x.1 + x.2 <= (l'.map (e0 u)).length then some _ else none) = _
    rw [if_pos ⟨rfl,by simpa using hb⟩,<- List.map_drop,<- List.map_take];rfl
   ·rw [dif_neg hu] at h;cases h
  | lst u l' =>
   rw [hrow] at h hR hb
   have hb:x.1 + x.2 <= l'.length:=hb rfl
   simp only [zCu] at h
   by_cases hu:u = t
   ·subst hu
    rw [dif_pos rfl] at h
    have:=yAA h;subst this
    cases l' with
    | nil=>show some [] = some ((zCI [] x.1 x.2).map _);simp [zCI]
    | cons y l' =>
     show (match H.get (num q) with | some (.cells k' xs)=>_ | _=>_) = _
     rw [hR.2 (by simp)]
     show (if u.w = u.w /\ x.1 + x.2 <= ((y :: l').map (e0 u)).length then some _ else none) = _
     rw [if_pos ⟨rfl,by simpa using hb⟩,<- List.map_drop,<- List.map_take];rfl
   ·rw [dif_neg hu] at h;cases h
  | fro u l' =>
   rw [hrow] at h
   simp only [zCu] at h
   by_cases hu:u = t
   ·subst hu
    rw [dif_pos rfl] at h
    have:=yAA h;subst this
    show (if u.w = u.w then some _ else none) = _
    rw [if_pos rfl];rfl
   ·rw [dif_neg hu] at h;cases h
  | _=>rw [hrow] at h;cases h
 | _=>cases h
def bytes_e0:∀ l:List Int,zDM (l.map (e0 (.int .u8))) = some (l.map fun n=>UInt8.ofNat n.toNat)
 | []=>rfl
 | n :: l=>by
  show (zDM (l.map (e0 (.int .u8)))).map _ = _
  rw [bytes_e0 l];rfl
end
end Go.T
namespace Go.T
open Go.Ab
variable [Go.Ab.DM]
section
variable {P:Program} {B:Base} {ζ:Nat -> Row} {num:Nat -> Nat} {s:St} {e:Env} {H:Heap} {R:Type} {r:R}
def evO_sound (ha:Abs B ζ num s e H) {c:List (Nat × Bool)} (hh:zBB s.gs c = true) {x:Operand} {v:TV} (h:evT s.env c x = some v):(some x).map (ev e) = (some v).map (enc (zAB num s.rows)):=by
 simp only [yBU,(zAP ha hh h).1]
def pureT_sound (ha:Abs B ζ num s e H) {d:Nat} {g:Option Bool} {c:List (Nat × Bool)} {o:Oper} {k:TV -> Option R} (hg:g = none \/ g = some true) (hh:zBB s.gs c = true) (h:zDW P d g c s o k = some r) {C:D -> Heap -> Prop}
  (hC:∀ v,k v = some r -> okV s.rows v -> ∀ dd,Tl dd (enc (zAB num s.rows) v) -> C dd H):zDI P (zAF o) o e H C:=by
 have hr:=ha.hrel
 obtain ⟨dst,op,ty,pos,after,guard⟩:=o
 cases op with
 | move x =>
  simp only [zDW] at h
  split at h
  ·rename_i v hv
   obtain ⟨h1,h2⟩:=zAP ha hh hv
   show C (ev e x) H
   rw [h1];exact hC v h h2 _ (Tl.refl _)
  ·cases h
 | assign x =>
  simp only [zDW] at h
  split at h
  ·rename_i v hv
   obtain ⟨h1,h2⟩:=zAP ha hh hv
   show C (ev e x) H
   rw [h1];exact hC v h h2 _ (Tl.refl _)
  ·cases h
 | build t ps =>
  simp only [zDW] at h
  split at h
  ·rename_i l z y fl hl hz hf
   split at h
   ·rename_i w hw
    obtain ⟨h1,h2⟩:=evPs_sound ha hh hl
    obtain ⟨hz1,hz2⟩:=zDK hz (zAB num s.rows) s.rows
    obtain ⟨h3,h4⟩:=fillT_sound (num:=num) l _ w ((ok_leaves z y).1 hz2) h2 hw
    show aBuild P t (ps.toList.map fun p=>(p.1,ev e p.2)) fun d=>C d H
    rw [h1]
    unfold aBuild
    rw [hz1.trans (congrArg some (enc_aggK _ z y)),hf]
    exact ⟨_,h3,hC _ h (ok_agg _ h4) _ (Tl.of_eq (enc_agg _ _).symm)⟩
   ·cases h
  ·cases h
 | nilCheck x =>
  simp only [zDW] at h
  show zCl (ev e x) fun d=>C d H
  split at h
  ·rename_i q o' y hv
   obtain ⟨h1,h2⟩:=zAP ha hh hv
   cases hcl:isCell (zAA s.rows q) with
   | false=>rw [hcl] at h;cases h
   | true =>
    rw [hcl,cond_true] at h
    have hC':∀ dd,Tl dd (p0D (num q) o' (zAA s.rows q)) -> C dd H:=hC _ h h2
    rw [h1]
    show zCl (p0D (num q) o' (zAA s.rows q)) fun d=>C d H
    generalize zAA s.rows q = row at hcl hC'
    cases row <;> simp [isCell] at hcl <;> exact hC' _ (Tl.refl _)
  ·rename_i q o' y hv
   obtain ⟨h1,h2⟩:=zAP ha hh hv
   cases hcl:zAS (zAA s.rows q) with
   | false=>rw [hcl] at h;cases h
   | true =>
    rw [hcl,cond_true] at h
    have hC':∀ dd,Tl dd (ptD (num q) o' y (zAA s.rows q)) -> C dd H:=hC _ h h2
    rw [h1]
    show zCl (ptD (num q) o' y (zAA s.rows q)) fun d=>C d H
    generalize zAA s.rows q = row at hcl hC'
    cases row <;> simp [zAS] at hcl <;> exact hC' _ (Tl.refl _)
  ·rename_i t o' y hv
   obtain ⟨h1,h2⟩:=zAP ha hh hv
   rw [h1];exact hC _ h h2 _ (Tl.refl _)
  ·rename_i f a b y hv
   obtain ⟨h1,h2⟩:=zAP ha hh hv
   rw [h1];exact hC _ h h2 _ (Tl.refl _)
  ·cases h
 | binOp op t x y yt =>
  simp only [zDW] at h
  split at h
  ·rename_i a b hva hvb
   obtain ⟨h1,h2⟩:=zAP ha hh hva
   obtain ⟨h3,h4⟩:=zAP ha hh hvb
   show zCx P op t (ev e x) (ev e y) fun d=>C d H
   rw [h1,h3]
   exact binT_sound hr hg h fun v hv hok=>hC v hv hok _ (Tl.refl _)
  ·cases h
 | unOp op t x =>
  simp only [zDW] at h
  show aUn op (ev e x) fun d=>C d H
  split at h
  all_goals (try (cases h;done))
  all_goals (rename_i hv;obtain ⟨h1,h2⟩:=zAP ha hh hv;rw [h1];exact hC _ h trivial _ (Tl.refl _))
 | convert st t x =>
  simp only [zDW] at h
  show aConvL P st t H (ev e x) fun d=>C d H
  split at h
  ·rename_i kk n hv
   obtain ⟨h1,h2⟩:=zAP ha hh hv
   split at h
   ·rename_i k2 d2 hu hs
    rw [h1]
    show aConv P st t (.v (.int kk n)) fun d=>C d H
    show (match P.underlying t with | some (.int k)=>_ | _=>_)
    rw [hu]
    exact ⟨by rw [hs];rfl,hC _ h trivial _ (Tl.refl _)⟩
   ·cases h
  ·rename_i b hv
   obtain ⟨h1,h2⟩:=zAP ha hh hv
   split at h
   ·rename_i hu hs
    rw [h1]
    show aConv P st t (.v (.string b)) fun d=>C d H
    show (match P.underlying st,P.underlying t with | some .string,some .string=>_ | _,_=>_)
    rw [hu,hs]
    exact hC _ h trivial _ (Tl.refl _)
   ·cases h
  ·rename_i v _ _ hv
   obtain ⟨h1,h2⟩:=zAP ha hh hv
   split at h
   ·rename_i e1 hu hs
    split at h
    ·rename_i l he hl
     have hB:aConvB P st t H (ev e x) fun d=>C d H:=by
      unfold aConvB
      rw [hu,hs]
      refine ⟨he,_,_,by rw [h1];exact zDU ha.hrel h2 hl,bytes_e0 l,hC _ h trivial _ (Tl.refl _)⟩
     rw [h1] at hB ⊢
     unfold aConvL
     split
     ·exact hB
     ·rename_i y hy hx
      rw [hx] at hB
      exfalso
      unfold aConvB at hB
      rw [hu,hs] at hB
      obtain ⟨_,ys,bs,h3,_⟩:=hB
      simp only [D.wk,zBY] at h3
      split at h3
      ·rename_i hz;cases hz;exact hy rfl
      ·rename_i hz;cases hz
      ·rename_i hz;cases hz
      ·cases h3
     ·exact hB
    ·cases h
   ·cases h
  ·cases h
 | makeFunc fn a b =>
  cases fn with
  | func f =>
   simp only [zDW] at h
   split at h
   ·rename_i l m hl hm
    obtain ⟨h1,h2⟩:=zCa ha hh hl
    obtain ⟨h3,h4⟩:=zCa ha hh hm
    show C (.fn (.func f) (a.toList.map (ev e)) (b.toList.map (ev e))) H
    rw [h1,h3]
    refine hC _ h ⟨ok_spine l h2,ok_spine m h4⟩ _ (Tl.of_eq ?_)
    show _ = D.fn (.func f) (encs _ (zDV l)) (encs _ (zDV m))
    rw [E_spine,E_spine]
   ·cases h
  | _=>simp [zDW] at h
 | makeInterface t x =>
  simp only [zDW] at h
  show aMakeIface P t (ev e x) fun d=>C d H
  unfold aMakeIface
  split at h
  ·cases h
  ·rename_i td v hn hu hv
   obtain ⟨h1,h2⟩:=zAP ha hh hv
   rw [hu,h1]
   have fin:C (.ifc t (enc (zAB num s.rows) v)) H:=hC _ h h2 _ (Tl.refl _)
   cases td <;> first | exact fin | exact (hn _ rfl).elim
  ·cases h
 | typeAssert x xt t ok =>
  simp only [zDW] at h
  show aAssert P (ev e x) t ok fun d=>C d H
  split at h
  ·rename_i q u y hi hv
   obtain ⟨h1,h2⟩:=zAP ha hh hv
   cases hb:Nat.beq q t with
   | false=>rw [hb] at h;cases h
   | true =>
    have hb':=yAP.mp hb
    rw [hb,cond_true] at h
    subst hb'
    rw [h1]
    refine ⟨hi,?_⟩
    show (if q = q then _ else _)
    rw [if_pos rfl]
    cases ok with
    | false=>exact hC _ h h2 _ (Tl.refl _)
    | true =>
     show C (if true = true then _ else _) H
     rw [if_pos rfl]
     refine hC _ h (ok_tup _ fun u hu=>?_) _ (Tl.of_eq (enc_tup (zAB num s.rows) [⟨u,y⟩,⟨.tt,()⟩]).symm)
     simp only [yAE,yAf,or_false] at hu
     rcases hu with rfl | rfl
     ·exact h2
     ·trivial
  ·cases h
 | fieldAddr t x f =>
  simp only [zDW] at h
  split at h
  ·rename_i v hv
   split at h
   ·rename_i u hu
    obtain ⟨h1,h2⟩:=zAP ha hh hv
    show zAh P t (ev e x) f fun d=>C d H
    rw [h1]
    exact fieldAddrT_sound h2 hu (hC u h)
   ·cases h
  ·cases h
 | field t x f =>
  simp only [zDW] at h
  split at h
  ·rename_i v hv
   split at h
   ·rename_i u hu
    obtain ⟨h1,h2⟩:=zAP ha hh hv
    show aField P t (ev e x) f fun d=>C d H
    rw [h1]
    exact fieldT_sound h2 hu fun hok=>hC u h hok _ (Tl.refl _)
   ·cases h
  ·cases h
 | index t x i =>
  simp only [zDW] at h
  split at h
  ·rename_i b kk j hu hv hi
   obtain ⟨h1,h2⟩:=zAP ha hh hv
   obtain ⟨h3,h4⟩:=zAP ha hh hi
   obtain ⟨h5,h6⟩:=zBQ hg h
   show aIndex P t (ev e x) (ev e i) fun d=>C d H
   rw [h1,h3]
   show (match P.underlying t,D.v (.string b),D.v (.int kk j) with | some .string,.v (.string s),.v (.int _ j)=>_ | some (.array len e),.agg cs,.v (.int _ j)=>_ | _,_,_=>False)
   rw [hu]
   exact ⟨inL_t h5,hC _ h6 trivial _ (Tl.refl _)⟩
  ·cases h
 | extract x i =>
  simp only [zDW] at h
  split at h
  ·rename_i u y hv
   split at h
   ·rename_i v hvv
    obtain ⟨h1,h2⟩:=zAP ha hh hv
    show aExtract (ev e x) i fun d=>C d H
    rw [h1.trans (enc_tupK _ u y)]
    refine ⟨enc (zAB num s.rows) v,by rw [yAy,hvv];rfl,hC v h ?_ _ (Tl.refl _)⟩
    exact (ok_leaves u y).1 h2 v (yAt hvv)
   ·cases h
  ·cases h
 | slice t x lo hi mx =>
  simp only [zDW] at h
  split at h
  ·rename_i v hv
   obtain ⟨h1,h2⟩:=zAP ha hh hv
   show zCw P t H (ev e x) (lo.map (ev e)) (hi.map (ev e)) none fun d=>C d H
   rw [h1]
   split at h
   ·exact sliceT_sound (lo:=none) (hi:=none) hr hg h2 h hC
   ·split at h
    ·rename_i a hva;rw [evO_sound ha hh hva];exact sliceT_sound (hi:=none) hr hg h2 h hC
    ·cases h
   ·split at h
    ·rename_i b hvb;rw [evO_sound ha hh hvb];exact sliceT_sound (lo:=none) hr hg h2 h hC
    ·cases h
   ·split at h
    ·rename_i a b hva hvb;rw [evO_sound ha hh hva,evO_sound ha hh hvb];exact sliceT_sound hr hg h2 h hC
    ·cases h
  ·cases h
 | indexAddr t x i =>
  simp only [zDW] at h
  split at h
  ·rename_i a b hva hvb
   obtain ⟨h1,h2⟩:=zAP ha hh hva
   obtain ⟨h3,h4⟩:=zAP ha hh hvb
   show zBC P t H (ev e x).wk (ev e i) fun d=>C d H
   rw [h1,h3]
   obtain ⟨tb,xb⟩:=b
   cases tb with
   | int kk =>
    refine ixI_sound hr hg h2 ?_ h hC
    intro n hn
    cases (xb:Int) with
    | ofNat j=>have:=yAA hn;subst this;rfl
    | negSucc j=>cases hn
   | _=>simp [zDR] at h
  ·cases h
 | load t a =>
  simp only [zDW] at h
  split at h
  ·rename_i v hv
   split at h
   ·rename_i u hu
    obtain ⟨h1,h2⟩:=zAP ha hh hv
    obtain ⟨dd,h3,h4,h5⟩:=loadT_sound hr h2 hu
    show ∃ d,ldD P t H (ev e a) = some d /\ C d H
    rw [h1]
    exact ⟨dd,h3,hC u h h5 _ h4⟩
   ·cases h
  ·cases h
 | lookup t m key ok =>
  simp only [zDW] at h
  split at h
  ·rename_i a b hva hvb
   split at h
   ·rename_i u hu
    obtain ⟨h1,h2⟩:=zAP ha hh hva
    obtain ⟨h3,h4⟩:=zAP ha hh hvb
    obtain ⟨dd,h5,h6,h7⟩:=lookT_sound hr h2 hu
    show ∃ d,lkD P t H (ev e m) (ev e key) ok = some d /\ C d H
    rw [h1,h3]
    exact ⟨dd,h5,hC u h h7 _ h6⟩
   ·cases h
  ·cases h
 | entry it =>
  simp only [zDW] at h
  split at h
  ·rename_i q y hv
   split at h
   ·rename_i m a b x z hrow
    obtain ⟨h1,h2⟩:=zAP ha hh hv
    have hR:=hr.row q
    rw [hrow] at hR
    obtain ⟨hg1,_,hp1,hp2,since,seen,bb,es,cl,dd,hg2,hz,hf,hk,hd⟩:=hR
    ·show ∃ d,Go.Ab.entD H (ev e it) = some d /\ C d H
     have hq:ev e it = .pt (num q) 0 0:=by
      rw [h1]
      show p0D (num q) 0 (zAA s.rows q) = _
      rw [hrow];rfl
     rw [hq]
     refine ⟨.tup [.v (keyV a x),dd],?_,hC _ h (ok_tup _ fun u hu=>?_) _ ?_⟩
     ·simp only [Go.Ab.entD,hg1,hz,hg2,if_true,List.getLast?_append,List.getLast?_singleton,Option.or_some,yBP,hf,yBU,Option.some_or]
     ·simp only [yAE,yAf,or_false] at hu
      rcases hu with rfl | rfl
      ·exact zCR a x hp1
      ·exact zCR b z hp2
     ·rw [enc_tup]
      refine Tl.tup (.cons (Tl.of_eq ?_) (.cons ?_ .nil))
      ·show _ = enc (zAB num s.rows) ⟨a,x⟩
       rw [pure_kids hp1,hk]
      ·have:enc (zAB num s.rows) ⟨b,z⟩ = e0 b z:=pure_kids hp2
       rw [this];exact hd
   ·cases h
  ·cases h
 | call cl =>
  obtain ⟨cal,args,ts⟩:=cl
  cases cal with
  | builtin bb =>
   simp only [zDW] at h
   split at h
   ·rename_i v hvs
    obtain ⟨h1,h2⟩:=zCa ha hh hvs
    split at h
    ·rename_i t ht
     split at h
     ·rename_i n hn
      show (match args.toList.map (ev e) with | [x]=>∃ d,lenD P ts H x = some d /\ C d H | _=>False)
      rw [h1]
      exact ⟨_,lenT_sound hr (h2 v (by simp)) ht hn,hC _ h trivial _ (Tl.refl _)⟩
     ·cases h
    ·cases h
   ·rename_i ka x kb y hvs
    obtain ⟨h1,h2⟩:=zCa ha hh hvs
    show aMinMax true (args.toList.map (ev e)) fun d=>C d H
    rw [h1]
    exact hC _ h trivial _ (Tl.refl _)
   ·rename_i ka x kb y hvs
    obtain ⟨h1,h2⟩:=zCa ha hh hvs
    show aMinMax false (args.toList.map (ev e)) fun d=>C d H
    rw [h1]
    exact hC _ h trivial _ (Tl.refl _)
   ·cases h
  | _=>simp [zDW] at h
 | _=>simp [zDW] at h
end
end Go.T
namespace Go.T
open Go.Ab
variable [Go.Ab.DM]
section
variable {P:Program} {B:Base} {ζ ζ':Nat -> Row} {num num':Nat -> Nat} {rows rows':Rows} {s:St} {e:Env} {H H':Heap}
def envD_rel {num':Nat -> Nat} {rows':Rows} {X:Nat -> Prop} {own:Nat -> Own} {w:World} (ha:Abs B ζ num s e H)
  (h:∀ v x,okV s.rows v -> Rel own H X w (enc (zAB num s.rows) v) x -> Rel own H' X w (enc (zAB num' rows') v) x) {i:Nat} {x:Value} (hx:Rel own H X w (e i) x):Rel own H' X w (zCn num' { s with rows:=rows' } i) x:=by
 rw [ha.env] at hx
 unfold zCn at hx ⊢
 dsimp only
 cases hf:zAm s.env i with
 | none=>simp only [Rel];rw [VRel];trivial
 | some ent =>
  rw [hf] at hx
  simp only [entD] at hx ⊢
  cases hh:zBB s.gs ent.c with
  | false =>
   rw [hh] at hx
   simp only [yBS,if_false] at hx ⊢
   simpa [Rel,VRel] using hx
  | true =>
   rw [hh] at hx
   simp only [if_true] at hx ⊢
   exact h _ _ (ha.ok i ent hf hh) hx
def fr_abs (ha:Abs B ζ num s e H) (hf:FrStep s.rows rows'):Abs B ζ num { s with rows:=rows' } (zCn num { s with rows:=rows' }) (frH num s.rows rows' H) /\ WeakS e H (zCn num { s with rows:=rows' }) (frH num s.rows rows' H):=by
 refine ⟨⟨rfl,fr_hrel ha.hrel hf,fun n ent h1 h2=>zCv (fr_le hf) _ _ (ha.ok n ent h1 h2),ha.gs,fun r hl=>ha.base r (by rw [<- zBL hf hl];exact hl),by rw [frH_len];exact ha.hlen,by rw [show St.rows _ = rows' from rfl,hf.1];exact ha.klen,lens_le ha.lens ha.klen (fr_le hf)⟩,fun own X w hs=>⟨fr_sim hs ha.hrel hf,fr_ext hs ha.hrel,fun i x hx=>?_⟩⟩
 exact envD_rel ha (fun v x hv hx=>fr_rel hs ha.hrel hf hv hx) hx
def fr_Le (d:Nat) (f:List Nat):Le d ζ num s ζ num { s with rows:=zAz d f 0 s.rows } :=
 ⟨fun n ent h _=>h,fun r lv h1 h2=>by
  rcases stampAt_freeze d f s.rows 0 r lv h1 with h | ⟨h3,h4⟩
  ·omega
  ·exact ⟨h3,h4,rfl,rfl⟩⟩
structure RefTl (n:Nat) (row:TRow) (n':Nat) (row':TRow):Prop where
 own:Tl (ownD n row) (ownD n' row')
 sub:∀ q,Tl (subD n q row) (subD n' q row')
 p0:∀ o,Tl (p0D n o row) (p0D n' o row')
 pt:∀ o i,Tl (ptD n o i row) (ptD n' o i row')
 mp:Tl (mpD n row) (mpD n' row')
def RefTl.refl (n:Nat) (row:TRow):RefTl n row n row:=⟨Tl.refl _,fun _=>Tl.refl _,fun _=>Tl.refl _,fun _ _=>Tl.refl _,Tl.refl _⟩
def RefTl.gone (n n':Nat) (row:TRow):RefTl n row n' .gone:=⟨Tl.any _,fun _=>Tl.any _,fun _=>Tl.any _,fun _ _=>Tl.any _,Tl.any _⟩
def RefTl.of_eq {n n':Nat} {row row':TRow} (h1:n' = n) (h2:row' = row):RefTl n row n' row':=by subst h1;subst h2;exact RefTl.refl _ _
def enc_chg (h:∀ r,r < rows.length -> RefTl (num r) (zAA rows r) (num' r) (zAA rows' r)) (t:Ty) (x:t.I) (hx:okT rows t x):Tl (E t (zAB num rows) x).1 (E t (zAB num' rows') x).1 /\ Tls (E t (zAB num rows) x).2 (E t (zAB num' rows') x).2:=by
 induction t with
 | pr a b iha ihb=>exact ⟨Tl.refl _,.cons (iha _ hx.1).1 (ihb _ hx.2).2⟩
 | unit=>exact ⟨Tl.refl _,.nil⟩
 | agg s ih=>have:=Tl.agg (ih x hx).2;exact ⟨this,.cons this .nil⟩
 | tup s ih=>have:=Tl.tup (ih x hx).2;exact ⟨this,.cons this .nil⟩
 | fn f a c iha ihb=>have:=Tl.fn (f:=.func f) (iha _ hx.1).2 (ihb _ hx.2).2;exact ⟨this,.cons this .nil⟩
 | ifc id t ih=>have:=Tl.ifc (t:=id) (ih x hx).1;exact ⟨this,.cons this .nil⟩
 | own r=>have:=(h r hx).own;exact ⟨this,.cons this .nil⟩
 | sub r=>have:=(h r hx.1).sub x;exact ⟨this,.cons this .nil⟩
 | p0 r o=>have:=(h r hx).p0 o;exact ⟨this,.cons this .nil⟩
 | pt r o=>have:=(h r hx.1).pt o x;exact ⟨this,.cons this .nil⟩
 | mp r=>have:=(h r hx).mp;exact ⟨this,.cons this .nil⟩
 | _=>exact ⟨Tl.refl _,Tls.refl _⟩
def encV_chg (h:∀ r,r < rows.length -> RefTl (num r) (zAA rows r) (num' r) (zAA rows' r)) {v:TV} (hv:okV rows v):Tl (enc (zAB num rows) v) (enc (zAB num' rows') v):=(enc_chg h v.t v.x hv).1
def kids_chg (h:∀ r,r < rows.length -> RefTl (num r) (zAA rows r) (num' r) (zAA rows' r)):∀ (L:List TV),(∀ v ∈ L,okV rows v) -> Tls (L.map (enc (zAB num rows))) (L.map (enc (zAB num' rows')))
 | [],_=>.nil
 | v :: L,hv=>.cons (encV_chg h (hv v (by simp))) (kids_chg h L fun u hu=>hv u (yAF _ hu))
structure Step (B:Base) (d:Nat) (ζ:Nat -> Row) (num:Nat -> Nat) (s:St) (e1:Env) (dd:D) (H':Heap) (v:TV) (s':St) (ζ':Nat -> Row) (num':Nat -> Nat) (H'':Heap):Prop where
 weak:∀ own X w,Sim own H' X w -> Sim own H'' X w /\ Ext X own H' w own H'' w /\ (∀ i x,Rel own H' X w (e1 i) x -> Rel own H'' X w (zCn num' s' i) x) /\ (∀ x,Rel own H' X w dd x -> Rel own H'' X w (enc (zAB num' s'.rows) v) x)
 abs:Abs B ζ' num' s' (zCn num' s') H''
 ok:okV s'.rows v
 le:Le d ζ num s ζ' num' s'
 env:s'.env = s.env
 gs:s'.gs = s.gs
def row_keep {r:Nat} (hR:zCC ζ num rows H r (zAA rows r)) (ho:∀ t x,zAA rows r = .one t x -> okT rows t x) (hrow:zAA rows' r = zAA rows r) (hn:num' r = num r) (hz:ζ' r = ζ r)
  (hg:zAW (zAA rows r) = true -> H'.get (num r) = H.get (num r))
  (hm:∀ m a b l,zAA rows m = .mp a b l -> (∃ q,zAA rows q = .itb m \/ ∃ k v x y,zAA rows q = .ite m k v x y) -> zAA rows' m = .mp a b l /\ num' m = num m /\ H'.get (num m) = H.get (num m))
  (hc:∀ r,r < rows.length -> RefTl (num r) (zAA rows r) (num' r) (zAA rows' r)):zCC ζ' num' rows' H' r (zAA rows' r):=by
 rw [hrow]
 cases hr:zAA rows r with
 | one t x =>
  rw [hr] at hR hg
  obtain ⟨h1,k,dd,h2,h3,h4⟩:=hR
  refine ⟨h1,k,dd,by rw [hn,hg rfl];exact h2,h3,h4.trans (kids_chg hc _ (ok_kids (v:=⟨t,x⟩) (ho t x hr)))⟩
 | many t l=>rw [hr] at hR hg;exact ⟨hR.1,by rw [hn,hg rfl];exact hR.2⟩
 | lst t l =>
  rw [hr] at hR hg
  refine ⟨hR.1,fun hne=>?_⟩
  rw [hn,hg (by cases l <;> simp at hne ⊢ <;> rfl)];exact hR.2 hne
 | fro t l=>rw [hr] at hR;exact hR
 | fr1 t x=>rw [hr] at hR;exact hR
 | mp k v l=>rw [hr] at hR hg;simp only [zCC] at hR ⊢;rw [hn,hz,hg rfl];exact hR
 | itb m =>
  rw [hr] at hR hg
  obtain ⟨h1,⟨a,b,l,h2⟩,es,cl,h3,h4⟩:=hR
  obtain ⟨h5,h6,h7⟩:=hm m a b l h2 ⟨r,.inl hr⟩
  refine ⟨by rw [hn,hz,hg rfl];exact h1,⟨a,b,l,h5⟩,es,cl,by rw [h6,h7];exact h3,by rw [hz,h6];exact h4⟩
 | ite m k v x y =>
  rw [hr] at hR hg
  obtain ⟨h1,⟨a,b,l,h2⟩,hp1,hp2,since,seen,bb,es,cl,dd,h3,h4,h8⟩:=hR
  obtain ⟨h5,h6,h7⟩:=hm m a b l h2 ⟨r,.inr ⟨_,_,_,_,hr⟩⟩
  refine ⟨by rw [hn,hz,hg rfl];exact h1,⟨a,b,l,h5⟩,hp1,hp2,since,seen,bb,es,cl,dd,by rw [h6,h7];exact h3,by rw [hz,h6];exact h4,h8⟩
 | sit b p=>rw [hr] at hR hg;simp only [zCC] at hR ⊢;rw [hn,hg rfl];exact hR
 | gone=>trivial
def step_of {d:Nat} (ha:Abs B ζ num s e H) {v:TV} {dd:D} (hchg:∀ r,r < s.rows.length -> RefTl (num r) (zAA s.rows r) (num' r) (zAA rows' r)) (hle:RowsLe s.rows rows')
  (hrel:HRel ζ' num' rows' H') (hbase:∀ r,zAW (zAA rows' r) = true -> (r < B.k -> num' r = B.num0 r) /\ (B.k <= r -> B.n0 <= num' r)) (hH:H.length <= H'.length)
  (hst:∀ r lv,zAU rows' r = some lv -> lv < d -> zAU s.rows r = some lv /\ zAA rows' r = zAA s.rows r /\ num' r = num r /\ ζ' r = ζ r)
  (hd:Tl dd (enc (zAB num' rows') v)) (hv:okV rows' v):Step B d ζ num s e dd H' v { s with rows:=rows' } ζ' num' H':=by
 refine ⟨fun own X w hs=>⟨hs,.refl _ _ _,fun i x hx=>?_,fun x hx=>hd _ _ _ _ _ hx⟩,⟨rfl,hrel,fun n ent h1 h2=>zCv hle _ _ (ha.ok n ent h1 h2),ha.gs,hbase,yBN ha.hlen hH,yBN ha.klen hle.1,lens_le ha.lens ha.klen hle⟩,hv,⟨fun n ent h _=>h,hst⟩,rfl,rfl⟩
 rw [ha.env] at hx
 unfold zCn at hx ⊢
 dsimp only
 cases hf:zAm s.env i with
 | none=>simp only [Rel];rw [VRel];trivial
 | some ent =>
  rw [hf] at hx
  simp only [entD] at hx ⊢
  cases hh:zBB s.gs ent.c with
  | false=>rw [hh] at hx;exact hx
  | true =>
   rw [hh] at hx
   simp only [if_true] at hx ⊢
   exact encV_chg hchg (ha.ok i ent hf hh) _ _ _ _ _ hx
end
end Go.T
namespace Go.T
open Go.Ab
variable [Go.Ab.DM]
section
variable {P:Program} {B:Base} {ζ ζ':Nat -> Row} {num num':Nat -> Nat} {rows rows':Rows} {s:St} {e:Env} {H H' H'':Heap}
def SameRel (H' H'':Heap):Prop:=∀ own X w,Sim own H' X w -> Sim own H'' X w /\ Ext X own H' w own H'' w /\ ∀ d x,Rel own H' X w d x -> Rel own H'' X w d x
def SameRel.refl (H:Heap):SameRel H H:=fun own X w hs=>⟨hs,.refl _ _ _,fun _ _ h=>h⟩
def content_weak {q:Nat} {row row':Row} (hg:H'.get q = some row) (hrow:∀ own U w n o,RowOk own n U w o row -> RowOk own n U w o row'):SameRel H' (H'.set q (some row')):=by
 intro own X w hs
 have hl:=Heap.get_lt hg
 have hun:∀ b,zAQ own H' X w b -> zAQ own (H'.set q (some row')) X w b:=fun b hb=>⟨hb.1,hb.2.1,fun r row1 h1=>by
  rw [Heap.get_set H' hl] at h1
  by_cases hr:r = q
  ·subst hr;exact hb.2.2 _ _ hg
  ·rw [if_neg hr] at h1;exact hb.2.2 r row1 h1⟩
 have hk:Keeps own H'.length (zAQ own H' X w) w own (H'.set q (some row')).length (zAQ own (H'.set q (some row')) X w) w:=⟨by simp,fun _ _=>rfl,hun,fun _ _ _=>rfl⟩
 refine ⟨⟨fun r row1 h1=>?_,fun r r' row1 row2 h1 h2 hne=>?_,hs.hid⟩,⟨yAJ _,by simp,fun _ _=>rfl,fun b hb=>⟨hun b hb,rfl⟩,fun _ _=>rfl,.refl _⟩,fun d x hx=>VRel.mono hk _ _ hx⟩
 ·rw [Heap.get_set H' hl] at h1
  by_cases hr:r = q
  ·subst hr
   rw [if_pos rfl] at h1
   have:=yAA h1;subst this
   obtain ⟨h2,h3⟩:=hs.live _ _ hg
   exact ⟨hrow _ _ _ _ _ (RowOk.mono hk rfl h2),h3⟩
  ·rw [if_neg hr] at h1
   obtain ⟨h2,h3⟩:=hs.live _ _ h1
   exact ⟨RowOk.mono hk rfl h2,h3⟩
 ·have g:∀ z rowz,Heap.get (H'.set q (some row')) z = some rowz -> ∃ row0,H'.get z = some row0:=fun z rowz h=>by
   rw [Heap.get_set H' hl] at h
   by_cases hz:z = q
   ·subst hz;exact ⟨_,hg⟩
   ·rw [if_neg hz] at h;exact ⟨_,h⟩
  obtain ⟨_,g1⟩:=g _ _ h1
  obtain ⟨_,g2⟩:=g _ _ h2
  exact hs.excl _ _ _ _ g1 g2 hne
def cells_te {k:Nat} {xs ys:List D} (h:Tes xs ys) (own:Nat -> Own) (U:Nat -> Prop) (w:World) (n:Nat) (o:Own) (hr:RowOk own n U w o (.cells k xs)):RowOk own n U w o (.cells k ys):=by
 obtain ⟨h1,c,t,h2,h3,h4,h5⟩:=hr
 exact ⟨h1,c,t,h2,h3,by rw [<- h.len];exact h4,Cells_te h h5⟩
def step_of2 {d:Nat} (ha:Abs B ζ num s e H) {v:TV} {dd:D} (hw:SameRel H' H'') (hchg:∀ r,r < s.rows.length -> RefTl (num r) (zAA s.rows r) (num' r) (zAA rows' r)) (hle:RowsLe s.rows rows')
  (hrel:HRel ζ' num' rows' H'') (hbase:∀ r,zAW (zAA rows' r) = true -> (r < B.k -> num' r = B.num0 r) /\ (B.k <= r -> B.n0 <= num' r)) (hH:H.length <= H''.length)
  (hst:∀ r lv,zAU rows' r = some lv -> lv < d -> zAU s.rows r = some lv /\ zAA rows' r = zAA s.rows r /\ num' r = num r /\ ζ' r = ζ r)
  (hd:Tl dd (enc (zAB num' rows') v)) (hv:okV rows' v):Step B d ζ num s e dd H' v { s with rows:=rows' } ζ' num' H'':=by
 obtain ⟨h1,h2,h3,h4,h5,h6⟩:=step_of (H':=H'') (d:=d) ha hchg hle hrel hbase hH hst hd hv
 refine ⟨fun own X w hs=>?_,h2,h3,h4,h5,h6⟩
 obtain ⟨g1,g2,g3⟩:=hw own X w hs
 obtain ⟨g4,g5,g6,g7⟩:=h1 own X w g1
 exact ⟨g4,Ext.trans g2 g5,fun i x hx=>g6 i x (g3 _ _ hx),fun x hx=>g7 x (g3 _ _ hx)⟩
def updN {α:Type} (f:Nat -> α) (n:Nat) (x:α):Nat -> α:=fun i=>if i = n then x else f i
def zBj {α:Type} (f:Nat -> α) (n:Nat) (x:α):updN f n x n = x:=by simp [updN]
def updN_ne {α:Type} {f:Nat -> α} {n i:Nat} {x:α} (h:i ≠ n):updN f n x i = f i:=by simp [updN,h]
def live_lt (hr:HRel ζ num rows H) {r:Nat} (hl:zAW (zAA rows r) = true):num r < H.length:=by
 obtain ⟨row,h⟩:=live_get hr hl
 exact Heap.get_lt h
def live_row {row:TRow} (h:zAW row = true):row ≠ .gone:=by intro h';subst h';simp [zAW] at h
def push_step {d:Nat} (ha:Abs B ζ num s e H) {row:TRow} {v:TV} {dd:D} {Hr:Option Row} {zr:Row} (hw:SameRel H' (H ++ [Hr]))
  (hrow:zCC (updN ζ s.rows.length zr) (updN num s.rows.length H.length) (s.rows ++ [(d,row)]) (H ++ [Hr]) s.rows.length row)
  (hok:∀ t x,row = .one t x -> okT s.rows t x)
  (hd:Tl dd (enc (zAB (updN num s.rows.length H.length) (s.rows ++ [(d,row)])) v)) (hv:okV (s.rows ++ [(d,row)]) v) :
  Step B d ζ num s e dd H' v { s with rows:=s.rows ++ [(d,row)] } (updN ζ s.rows.length zr) (updN num s.rows.length H.length) (H ++ [Hr]):=by
 have hlt:∀ r,r < s.rows.length -> zAA (s.rows ++ [(d,row)]) r = zAA s.rows r:=fun r hr=>rowAt_app_lt _ _ r hr
 have hne:∀ r,r < s.rows.length -> r ≠ s.rows.length:=fun r hr=>Nat.ne_of_lt hr
 have hn:∀ r,r < s.rows.length -> updN num s.rows.length H.length r = num r:=fun r hr=>updN_ne (hne r hr)
 have hz:∀ r,r < s.rows.length -> updN ζ s.rows.length zr r = ζ r:=fun r hr=>updN_ne (hne r hr)
 have hcase:∀ r,r < s.rows.length \/ r = s.rows.length \/ s.rows.length < r:=fun r=>Nat.lt_trichotomy r _
 have hchg:∀ r,r < s.rows.length -> RefTl (num r) (zAA s.rows r) (updN num s.rows.length H.length r) (zAA (s.rows ++ [(d,row)]) r):=fun r hr=>RefTl.of_eq (hn r hr) (hlt r hr)
 have hle:RowsLe s.rows (s.rows ++ [(d,row)]):=⟨by simp,fun r hr hl=>by rw [hlt r hr] at hl ⊢;exact ⟨hl,rfl⟩⟩
 have hgt:∀ r,s.rows.length < r -> zAA (s.rows ++ [(d,row)]) r = .gone:=fun r hr=>rowAt_app_gt _ _ r hr
 have hget:∀ r,r < s.rows.length -> zAW (zAA s.rows r) = true -> Heap.get (H ++ [Hr]) (num r) = H.get (num r):=fun r hr hl=>by
  rw [Heap.get_push,if_neg (Nat.ne_of_lt (live_lt ha.hrel hl))]
 refine step_of2 ha hw hchg hle ⟨fun r=>?_,fun r q h1 h2 hrq=>?_,fun r t x h=>?_⟩ (fun r hl=>?_) (by simp) (fun r lv h1 h2=>?_) hd hv
 ·rcases hcase r with h | h | h
  ·refine row_keep (ha.hrel.row r) (fun t x hx=>ha.hrel.ok r t x hx) (hlt r h) (hn r h) (hz r h) (hget r h) (fun m a b l hm _=>?_) hchg
   have hml:m < s.rows.length:=zAw (by rw [hm];simp)
   exact ⟨by rw [hlt m hml];exact hm,hn m hml,hget m hml (by rw [hm];rfl)⟩
  ·subst h;rw [zBP];exact hrow
  ·rw [hgt r h];trivial
 ·have cls:∀ r,zAW (zAA (s.rows ++ [(d,row)]) r) = true -> (r < s.rows.length /\ zAW (zAA s.rows r) = true) \/ r = s.rows.length:=fun r hl=>by
   rcases hcase r with h | h | h
   ·rw [hlt r h] at hl;exact .inl ⟨h,hl⟩
   ·exact .inr h
   ·rw [hgt r h] at hl;simp [zAW] at hl
  rcases cls r h1 with ⟨h3,h4⟩ | h3 <;> rcases cls q h2 with ⟨h5,h6⟩ | h5
  ·rw [hn r h3,hn q h5];exact ha.hrel.inj r q h4 h6 hrq
  ·subst h5;rw [hn r h3,zBj];exact Nat.ne_of_lt (live_lt ha.hrel h4)
  ·subst h3;rw [hn q h5,zBj];exact Ne.symm (Nat.ne_of_lt (live_lt ha.hrel h6))
  ·omega
 ·rcases hcase r with h' | h' | h'
  ·rw [hlt r h'] at h;exact zCv hle t x (ha.hrel.ok r t x h)
  ·subst h';rw [zBP] at h;exact zCv hle t x (hok t x h)
  ·rw [hgt r h'] at h;cases h
 ·rcases hcase r with h | h | h
  ·rw [hlt r h] at hl;rw [hn r h];exact ha.base r hl
  ·subst h;rw [zBj];exact ⟨fun hk=>by have:=ha.klen;omega,fun _=>ha.hlen⟩
  ·rw [hgt r h] at hl;simp [zAW] at hl
 ·rcases hcase r with h | h | h
  ·rw [stampAt_app_lt _ _ r h] at h1;exact ⟨h1,hlt r h,hn r h,hz r h⟩
  ·subst h;rw [stampAt_app_len] at h1;have:=yAA h1;dsimp only at this;omega
  ·rw [stampAt_ge _ r (by simp;omega)] at h1;cases h1
def set_stepZ {d q:Nat} (ha:Abs B ζ num s e H) {row:TRow} {v:TV} {dd:D} {Rw zr:Row} (hq:q < s.rows.length) (hw:SameRel H' (H.set (num q) (some Rw)))
  (hl0:zAW (zAA s.rows q) = true)
  (hrow:zCC (updN ζ q zr) num (setRow s.rows q d row) (H.set (num q) (some Rw)) q row) (href:RefTl (num q) (zAA s.rows q) (num q) row)
  (hlen:zAS row = true -> zAS (zAA s.rows q) = true /\ zCg row = zCg (zAA s.rows q))
  (hok:∀ t x,row = .one t x -> okT s.rows t x) (hmp:∀ a b l,zAA s.rows q = .mp a b l -> zDD q s.rows = true)
  (hd:Tl dd (enc (zAB num (setRow s.rows q d row)) v)) (hv:okV s.rows v) :
  Step B d ζ num s e dd H' v { s with rows:=setRow s.rows q d row } (updN ζ q zr) num (H.set (num q) (some Rw)):=by
 have hat:∀ r,zAA (setRow s.rows q d row) r = if r = q then row else zAA s.rows r:=fun r=>by rw [zDC];simp [hq]
 have hne:∀ r,r ≠ q -> zAA (setRow s.rows q d row) r = zAA s.rows r:=fun r h=>by rw [hat,if_neg h]
 have heq:zAA (setRow s.rows q d row) q = row:=by rw [hat,if_pos rfl]
 have hchg:∀ r,r < s.rows.length -> RefTl (num r) (zAA s.rows r) (num r) (zAA (setRow s.rows q d row) r):=fun r hr=>by
  by_cases h:r = q
  ·subst h;rw [heq];exact href
  ·exact RefTl.of_eq rfl (hne r h)
 have hle:RowsLe s.rows (setRow s.rows q d row):=⟨by rw [zBv];exact yAJ _,fun r hr hl=>by
  by_cases h:r = q
  ·subst h;rw [heq] at hl ⊢;exact hlen hl
  ·rw [hne r h] at hl ⊢;exact ⟨hl,rfl⟩⟩
 have hg:=live_lt ha.hrel hl0
 have hget:∀ r,r ≠ q -> zAW (zAA s.rows r) = true -> Heap.get (H.set (num q) (some Rw)) (num r) = H.get (num r):=fun r h hl=>by
  rw [Heap.get_set H hg,if_neg (ha.hrel.inj r q hl hl0 h)]
 refine step_of2 ha hw hchg hle ⟨fun r=>?_,fun r z h1 h2 hrz=>?_,fun r t x h=>?_⟩ (fun r hl=>?_) (by simp) (fun r lv h1 h2=>?_) hd (zCv hle _ _ hv)
 ·by_cases h:r = q
  ·subst h;rw [heq];exact hrow
  ·refine row_keep (ha.hrel.row r) (fun t x hx=>ha.hrel.ok r t x hx) (hne r h) rfl (updN_ne h) (hget r h) (fun m a b l hm hit=>?_) hchg
   have hmq:m ≠ q:=by
    intro hmq
    subst hmq
    have hno:=hmp a b l hm
    obtain ⟨z,hz⟩:=hit
    exact iter_absurd s.rows m z hno hz
   exact ⟨by rw [hne m hmq];exact hm,rfl,hget m hmq (by rw [hm];rfl)⟩
 ·have cls:∀ r,zAW (zAA (setRow s.rows q d row) r) = true -> zAW (zAA s.rows r) = true:=fun r hl=>by
   by_cases h:r = q
   ·subst h;exact hl0
   ·rw [hne r h] at hl;exact hl
  exact ha.hrel.inj r z (cls r h1) (cls z h2) hrz
 ·by_cases h':r = q
  ·subst h';rw [heq] at h;exact zCv hle t x (hok t x h)
  ·rw [hne r h'] at h;exact zCv hle t x (ha.hrel.ok r t x h)
 ·by_cases h:r = q
  ·subst h;exact ha.base r hl0
  ·rw [hne r h] at hl;exact ha.base r hl
 ·rw [zBX] at h1
  by_cases h:r = q
  ·subst h;rw [if_pos ⟨rfl,hq⟩] at h1;have:=yAA h1;omega
  ·rw [if_neg (fun h'=>h h'.1)] at h1;exact ⟨h1,hne r h,rfl,updN_ne h⟩
where
 iter_absurd:∀ (rows:Rows) (m z:Nat),zDD m rows = true -> (zAA rows z = .itb m \/ ∃ k v x y,zAA rows z = .ite m k v x y) -> False
  | [],m,z,_,h=>by rcases h with h | ⟨_,_,_,_,h⟩ <;> cases h
  | (lv,row) :: l,m,0,hno,h=>by
   rcases h with h | ⟨_,_,_,_,h⟩
   ·have h:row = .itb m:=h
    subst h;simp [zDD] at hno
   ·have h:row = _:=h
    subst h;simp [zDD] at hno
  | (lv,row) :: l,m,z + 1,hno,h=>by
   refine iter_absurd l m z ?_ h
   cases row <;> simp [zDD] at hno <;> first | exact hno | exact hno.2
def set_step {d q:Nat} (ha:Abs B ζ num s e H) {row:TRow} {v:TV} {dd:D} {Rw:Row} (hq:q < s.rows.length) (hw:SameRel H' (H.set (num q) (some Rw)))
  (hl0:zAW (zAA s.rows q) = true)
  (hrow:zCC ζ num (setRow s.rows q d row) (H.set (num q) (some Rw)) q row) (href:RefTl (num q) (zAA s.rows q) (num q) row)
  (hlen:zAS row = true -> zAS (zAA s.rows q) = true /\ zCg row = zCg (zAA s.rows q))
  (hok:∀ t x,row = .one t x -> okT s.rows t x) (hmp:∀ a b l,zAA s.rows q = .mp a b l -> zDD q s.rows = true)
  (hd:Tl dd (enc (zAB num (setRow s.rows q d row)) v)) (hv:okV s.rows v) :
  Step B d ζ num s e dd H' v { s with rows:=setRow s.rows q d row } ζ num (H.set (num q) (some Rw)):=by
 have h:updN ζ q (ζ q) = ζ:=by funext i;unfold updN;split <;> simp_all
 have:=set_stepZ (zr:=ζ q) (d:=d) ha hq hw hl0 (by rw [h];exact hrow) href hlen hok hmp hd hv
 rw [h] at this;exact this
def kill_abs {d q:Nat} (ha:Abs B ζ num s e H) (hq:zAS (zAA s.rows q) = true) (hH:H'.length = H.length) (hg:∀ r,r ≠ q -> zAW (zAA s.rows r) = true -> H'.get (num r) = H.get (num r)) :
  Abs B ζ num { s with rows:=setRow s.rows q d .gone } (zCn num { s with rows:=setRow s.rows q d .gone }) H' /\ Le d ζ num s ζ num { s with rows:=setRow s.rows q d .gone } /\ ∀ i,Tl (e i) (zCn num { s with rows:=setRow s.rows q d .gone } i):=by
 have hql:q < s.rows.length:=zAw (by intro h;rw [h] at hq;simp [zAS] at hq)
 have hat:∀ r,zAA (setRow s.rows q d .gone) r = if r = q then .gone else zAA s.rows r:=fun r=>by rw [zDC];simp [hql]
 have hne:∀ r,r ≠ q -> zAA (setRow s.rows q d .gone) r = zAA s.rows r:=fun r h=>by rw [hat,if_neg h]
 have heq:zAA (setRow s.rows q d .gone) q = .gone:=by rw [hat,if_pos rfl]
 have hchg:∀ r,r < s.rows.length -> RefTl (num r) (zAA s.rows r) (num r) (zAA (setRow s.rows q d .gone) r):=fun r hr=>by
  by_cases h:r = q
  ·subst h;rw [heq];exact RefTl.gone _ _ _
  ·exact RefTl.of_eq rfl (hne r h)
 have hle:RowsLe s.rows (setRow s.rows q d .gone):=⟨by rw [zBv];exact yAJ _,fun r hr hl=>by
  by_cases h:r = q
  ·subst h;rw [heq] at hl;simp [zAS] at hl
  ·rw [hne r h] at hl ⊢;exact ⟨hl,rfl⟩⟩
 have cls:∀ r,zAW (zAA (setRow s.rows q d .gone) r) = true -> r ≠ q /\ zAW (zAA s.rows r) = true:=fun r hl=>by
  by_cases h:r = q
  ·subst h;rw [heq] at hl;simp [zAW] at hl
  ·rw [hne r h] at hl;exact ⟨h,hl⟩
 refine ⟨⟨rfl,⟨fun r=>?_,fun r z h1 h2 hrz=>ha.hrel.inj r z (cls r h1).2 (cls z h2).2 hrz,fun r t x h=>?_⟩,fun n ent h1 h2=>zCv hle _ _ (ha.ok n ent h1 h2),ha.gs,fun r hl=>ha.base r (cls r hl).2,by rw [hH];exact ha.hlen,by show B.k <= (setRow _ _ _ _).length;rw [zBv];exact ha.klen,lens_le ha.lens ha.klen hle⟩,⟨fun n ent h _=>h,fun r lv h1 h2=>?_⟩,fun i=>?_⟩
 ·by_cases h:r = q
  ·subst h;show zCC _ _ _ _ _ (zAA (setRow _ _ _ _) _);rw [heq];trivial
  ·refine row_keep (ha.hrel.row r) (fun t x hx=>ha.hrel.ok r t x hx) (hne r h) rfl rfl (hg r h) (fun m a b l hm _=>?_) hchg
   have hmq:m ≠ q:=by intro hmq;subst hmq;rw [hm] at hq;simp [zAS] at hq
   exact ⟨by rw [hne m hmq];exact hm,rfl,hg m hmq (by rw [hm];rfl)⟩
 ·have h:zAA (setRow s.rows q d .gone) r = .one t x:=h
  by_cases h':r = q
  ·subst h';rw [heq] at h;cases h
  ·rw [hne r h'] at h;exact zCv hle t x (ha.hrel.ok r t x h)
 ·have h1:zAU (setRow s.rows q d .gone) r = some lv:=h1
  rw [zBX] at h1
  by_cases h:r = q
  ·subst h;rw [if_pos ⟨rfl,hql⟩] at h1;have:=yAA h1;omega
  ·rw [if_neg (fun h'=>h h'.1)] at h1;exact ⟨h1,hne r h,rfl,rfl⟩
 ·rw [ha.env]
  unfold zCn
  dsimp only
  cases hf:zAm s.env i with
  | none=>exact Tl.any _
  | some ent =>
   simp only [entD]
   cases hh:zBB s.gs ent.c with
   | false=>exact Tl.refl _
   | true=>simp only [if_true];exact encV_chg hchg (ha.ok i ent hf hh)
def Step.pre {d:Nat} {ζ1:Nat -> Row} {num1:Nat -> Nat} {s1 s':St} {e1:Env} {dd:D} {v:TV} (h:Step B d ζ1 num1 s1 e1 dd H' v s' ζ' num' H'') (he:∀ i,Tl (e i) (e1 i)) (hle:Le d ζ num s ζ1 num1 s1) (h1:s1.env = s.env) (h2:s1.gs = s.gs):Step B d ζ num s e dd H' v s' ζ' num' H'':=by
 refine ⟨fun own X w hs=>?_,h.abs,h.ok,hle.trans h.le,h.env.trans h1,h.gs.trans h2⟩
 obtain ⟨g1,g2,g3,g4⟩:=h.weak own X w hs
 exact ⟨g1,g2,fun i x hx=>g3 i x (he i _ _ _ _ _ hx),g4⟩
end
end Go.T
namespace Go.T
open Go.Ab
variable [Go.Ab.DM]
section
variable {P:Program} {B:Base} {ζ ζ':Nat -> Row} {num num':Nat -> Nat} {rows rows':Rows} {s:St} {e:Env} {H H' H'':Heap} {R:Type} {r:R}
def ones_of:∀ (s:Ty) (x:s.I),(∀ v ∈ zAK s x,v.t.one = true) -> s.ones = true:=by
 intro s
 induction s with
 | pr a b iha ihb =>
  intro x h
  simp only [Ty.ones,yAB]
  exact ⟨h ⟨a,x.1⟩ (by simp [zAK]),ihb x.2 fun v hv=>h v (by simp [zAK,hv])⟩
 | unit=>intro x h;rfl
 | _=>intro x h;exact h ⟨_,x⟩ (by simp [zAK])
def lies_lay {v:TV} (h:liesT rows v = true):v.t.lay = true:=by
 obtain ⟨t,x⟩:=v
 simp only [liesT,yAB] at h
 cases t with
 | agg s =>
  refine ones_of s x fun u hu=>?_
  have:=h.1
  rw [yAR] at this
  have:=this u hu
  simp only [zCW,yAB] at this
  exact this.1
 | _=>exact h.2
def lies_lies {v:TV} (h:liesT rows v = true):(enc (zAB num rows) v).lies = true:=by
 simp only [liesT,yAB] at h
 exact lies_of_cells (kids_one h.1)
def one_row {d:Nat} {ζ0:Nat -> Row} (ha:Abs B ζ num s e H) {v:TV} (hv:okV s.rows v) (hl:liesT s.rows v = true) {w:Nat} :
  zCC ζ0 (updN num s.rows.length H.length) (s.rows ++ [(d,.one v.t v.x)]) (H ++ [some (.cells w [enc (zAB num s.rows) v])]) s.rows.length (.one v.t v.x):=by
 refine ⟨lies_lay hl,w,_,by rw [zBj,Heap.get_push,if_pos rfl],zDF _ _ _,?_⟩
 rw [zBW]
 refine kids_chg (fun r hr=>RefTl.of_eq (updN_ne (Nat.ne_of_lt hr)) (rowAt_app_lt _ _ r hr)) _ (ok_kids (v:=⟨v.t,v.x⟩) hv)
def var_step {d:Nat} (ha:Abs B ζ num s e H) {v:TV} (hv:okV s.rows v) (hl:liesT s.rows v = true) {w:Nat} :
  Step B d ζ num s e (.pt H.length 0 0) (H ++ [some (.cells w [enc (zAB num s.rows) v])]) ⟨.p0 s.rows.length 0,()⟩ { s with rows:=s.rows ++ [(d,.one v.t v.x)] } (updN ζ s.rows.length (.sit ByteArray.empty 0)) (updN num s.rows.length H.length) (H ++ [some (.cells w [enc (zAB num s.rows) v])]):=by
 refine push_step ha (SameRel.refl _) (one_row ha hv hl) (fun t x h=>?_) (Tl.of_eq ?_) (by show s.rows.length < _;simp)
 ·cases h;exact hv
 ·show _ = p0D (updN num s.rows.length H.length s.rows.length) 0 (zAA (s.rows ++ [(d,.one v.t v.x)]) s.rows.length)
  rw [zBj,zBP];rfl
def conv_te {u:Ty} (hu:u.elem = true) {v:TV} {y:u.I} (hv:okV rows v) (h:zBK rows u v = some y):Te (enc (zAB num rows) v) (e0 u y):=by
 have hone:=elem_cells hu zDH y
 have main:Tls (enc (zAB num rows) v).cells (e0 u y).cells:=by
  obtain ⟨tv,x⟩:=v
  have leaf:zBS (enc (zAB num rows) ⟨tv,x⟩) = false -> zBS (e0 u y) = false -> Tls (enc (zAB num rows) ⟨tv,x⟩).cells (e0 u y).cells:=fun h1 h2=>by
   rw [zBJ h1,zBJ h2]
   exact .cons (convS_tl hv h) .nil
  cases u with
  | agg s =>
   rw [convS_agg] at h
   by_cases hh:tv = .agg s /\ s.pure = true
   ·rw [dif_pos hh] at h
    have:=yAA h;subst this
    obtain ⟨h1,h2⟩:=hh
    subst h1
    have e:=E_pure s h2 (zAB num rows) zDH x
    show Tls (E s (zAB num rows) x).2 (E s zDH x).2
    rw [e];exact Tls.refl _
   ·rw [dif_neg hh] at h
    cases tv with
    | agg s'=>exact (convS_told s ⟨s',x⟩ y hv h).2
    | _=>cases h
  | _ =>
   have hna:zBr tv = false:=by
    cases tv with
    | agg s' =>
     exfalso
     first
     | (simp [Ty.elem,Ty.one] at hu;done)
     | (cases h;done)
     | (rw [convS_plain (by rfl)] at h;split at h;rename_i hh;exact absurd hh.1 (by simp);cases h)
     | (rw [convS_fn] at h;split at h;rename_i hh;exact absurd hh.1 (by simp);cases h)
     | (rw [convS_ifc] at h;split at h;rename_i hh;exact absurd hh.1 (by simp);cases h)
     | (rw [convS_fp2 (by simp)] at h;cases h)
    | _=>rfl
   exact leaf (by rw [zDF];exact hna) (by first | rfl | (simp [Ty.elem,Ty.pure] at hu;done))
 exact ⟨main.len,fun _=>hone,main⟩
def convAll_te {u:Ty} (hu:u.elem = true):∀ (l:List TV) (xs:List u.I),(∀ v ∈ l,okV rows v) -> convAll rows u l = some xs -> Tes (l.map (enc (zAB num rows))) (xs.map (e0 u)) /\ xs.length = l.length
 | [],xs,_,h=>by have:=yAA h;subst this;exact ⟨.nil,rfl⟩
 | v :: l,xs,hv,h=>by
  simp only [convAll] at h
  split at h
  ·rename_i x ys h1 h2
   have:=yAA h;subst this
   obtain ⟨h3,h4⟩:=convAll_te hu l ys (fun w hw=>hv w (yAF _ hw)) h2
   exact ⟨.cons (conv_te hu (hv v (by simp)) h1) h3,by simp [h4]⟩
  ·cases h
def list_row {d:Nat} {ζ0:Nat -> Row} {u:Ty} (hu:u.elem = true) (l:List u.I) {n0:Nat} {Hb:Heap} {rs:Rows}:zCC ζ0 (updN num rows.length Hb.length) rs (Hb ++ [some (.cells u.w (l.map (e0 u)))]) rows.length (.many u l) :=
 ⟨hu,by rw [zBj,Heap.get_push,if_pos rfl]⟩
def set_last:∀ (H:Heap) (x y:Option Row),(H ++ [x]).set H.length y = H ++ [y]
 | [],x,y=>rfl
 | z :: H,x,y=>congrArg (z :: ·) (set_last H x y)
def list_step {d:Nat} (ha:Abs B ζ num s e H) {u:Ty} (hu:u.elem = true) {xs:List D} {l:List u.I} (hx:Tes xs (l.map (e0 u))) {m:Nat} (hm:m = l.length) :
  Step B d ζ num s e (.sl H.length 0 m) (H ++ [some (.cells u.w xs)]) ⟨.own s.rows.length,()⟩ { s with rows:=s.rows ++ [(d,.many u l)] } (updN ζ s.rows.length (.sit ByteArray.empty 0)) (updN num s.rows.length H.length) (H ++ [some (.cells u.w (l.map (e0 u)))]):=by
 subst hm
 have hw:SameRel (H ++ [some (.cells u.w xs)]) (H ++ [some (.cells u.w (l.map (e0 u)))]):=by
  have:=content_weak (H':=H ++ [some (.cells u.w xs)]) (q:=H.length) (row:=.cells u.w xs) (row':=.cells u.w (l.map (e0 u))) (by rw [Heap.get_push,if_pos rfl]) (fun own U w n o=>cells_te hx own U w n o)
  rw [set_last] at this;exact this
 refine push_step ha hw (list_row (d:=d) (n0:=0) hu l) (fun t x h=>by cases h) (Tl.of_eq ?_) (by show s.rows.length < _;simp)
 show _ = ownD (updN num s.rows.length H.length s.rows.length) (zAA (s.rows ++ [(d,.many u l)]) s.rows.length)
 rw [zBj,zBP];rfl
def lst_step {d:Nat} (ha:Abs B ζ num s e H) {u:Ty} (hu:u.elem = true) {y:u.I} {l:List u.I} {m:Nat} (hm:m = (y :: l).length) :
  Step B d ζ num s e (.sl H.length 0 m) (H ++ [some (.cells u.w ((y :: l).map (e0 u)))]) ⟨.own s.rows.length,()⟩ { s with rows:=s.rows ++ [(d,.lst u (y :: l))] } (updN ζ s.rows.length (.sit ByteArray.empty 0)) (updN num s.rows.length H.length) (H ++ [some (.cells u.w ((y :: l).map (e0 u)))]):=by
 subst hm
 refine push_step ha (SameRel.refl _) ⟨hu,fun _=>by rw [zBj,Heap.get_push,if_pos rfl]⟩ (fun t x h=>by cases h) (Tl.of_eq ?_) (by show s.rows.length < _;simp)
 show _ = ownD (updN num s.rows.length H.length s.rows.length) (zAA (s.rows ++ [(d,.lst u (y :: l))]) s.rows.length)
 rw [zBj,zBP];rfl
def nil_step {d:Nat} (ha:Abs B ζ num s e H) {u:Ty} (hu:u.elem = true) :
  Step B d ζ num s e (.v (.slice none 0 0)) H ⟨.own s.rows.length,()⟩ { s with rows:=s.rows ++ [(d,.lst u [])] } (updN ζ s.rows.length (.sit ByteArray.empty 0)) (updN num s.rows.length H.length) (H ++ [none]):=by
 have hw:SameRel H (H ++ [none]):=by
  intro own X w hs
  have hg:∀ q,Heap.get (H ++ [none]) q = H.get q:=fun q=>by
   rw [Heap.get_push]
   split
   ·rename_i h;subst h;simp [Heap.get]
   ·rfl
  have hun:∀ b,zAQ own H X w b -> zAQ own (H ++ [none]) X w b:=fun b hb=>⟨hb.1,hb.2.1,fun q row h=>by rw [hg] at h;exact hb.2.2 q row h⟩
  have hk:Keeps own H.length (zAQ own H X w) w own (H ++ [none]).length (zAQ own (H ++ [none]) X w) w:=⟨by simp,fun _ _=>rfl,hun,fun _ _ _=>rfl⟩
  refine ⟨⟨fun q row h=>?_,fun q q' row row' h1 h2 hne=>?_,hs.hid⟩,⟨yAJ _,by simp,fun _ _=>rfl,fun b hb=>⟨hun b hb,rfl⟩,fun _ _=>rfl,.refl _⟩,fun d x hx=>VRel.mono hk _ _ hx⟩
  ·rw [hg] at h
   obtain ⟨h1,h2⟩:=hs.live q row h
   exact ⟨RowOk.mono hk rfl h1,h2⟩
  ·rw [hg] at h1 h2;exact hs.excl q q' row row' h1 h2 hne
 refine push_step ha hw ⟨hu,fun h=>absurd rfl h⟩ (fun t x h=>by cases h) (Tl.of_eq ?_) (by show s.rows.length < _;simp)
 show _ = ownD (updN num s.rows.length H.length s.rows.length) (zAA (s.rows ++ [(d,.lst u [])]) s.rows.length)
 rw [zBj,zBP];rfl
end
end Go.T
namespace Go.T
open Go.Ab
variable [Go.Ab.DM]
section
variable {P:Program} {B:Base} {ζ ζ':Nat -> Row} {num num':Nat -> Nat} {rows rows':Rows} {s:St} {e:Env} {H H' H'':Heap} {R:Type} {r:R}
def cut_ok {k j:Nat} {xs:List D} (own:Nat -> Own) (U:Nat -> Prop) (w:World) (n:Nat) (o:Own) (h:RowOk own n U w o (.cells k xs)):RowOk own n U w o (.cells k (xs.take j)):=by
 obtain ⟨h1,c,t,h2,h3,h4,h5⟩:=h
 refine ⟨h1,c,t,h2,h3,?_,?_⟩
 ·have:(xs.take j).length * k <= xs.length * k:=yBY k (by simp;omega)
  omega
 ·rw [<- yAk j xs,zBf] at h5
  exact h5.1
def set_set (H:Heap) (q:Nat) (x y:Option Row):(H.set q x).set q y = H.set q y:=by simp
def elemsT_set {q d:Nat} {t:Ty} {v:TV} (h:v.t.refs.any (Nat.beq q) = false):elemsT (setRow rows q d .gone) t v = elemsT rows t v:=by
 have hne:∀ z,z ∈ v.t.refs -> z ≠ q:=fun z hz hzq=>by
  subst hzq
  have:v.t.refs.any (Nat.beq z) = true:=by rw [yBQ];exact ⟨z,hz,by simp⟩
  rw [this] at h;cases h
 obtain ⟨tv,x⟩:=v
 cases tv with
 | own z=>show zCu t (zAA _ z) = zCu t (zAA _ z);rw [zCi (hne z (by simp [Ty.refs]))]
 | sub z =>
  show (match zCu t (zAA _ z) with | some l=>some (zCI l x.1 x.2) | none=>none) = (match zCu t (zAA _ z) with | some l=>some (zCI l x.1 x.2) | none=>none)
  rw [zCi (hne z (by simp [Ty.refs]))]
 | nul c=>cases c <;> rfl
 | _=>rfl
def enc_set {q d:Nat} {v:TV} (h:v.t.refs.any (Nat.beq q) = false):enc (zAB num (setRow rows q d .gone)) v = enc (zAB num rows) v:=by
 refine congrArg Prod.fst (E_same fun z hz=>⟨zCi ?_,rfl⟩)
 intro hzq
 subst hzq
 have:v.t.refs.any (Nat.beq z) = true:=by rw [yBQ];exact ⟨z,hz,by simp⟩
 rw [this] at h;cases h
def get_set_none {q p:Nat} (h:p ≠ q) (x:Option Row):Heap.get (H.set q x) p = H.get p:=by
 unfold Heap.get
 rw [List.getElem?_set_ne (Ne.symm h)]
def append_to {d q:Nat} (ha:Abs B ζ num s e H) {u:Ty} (hu:u.elem = true) {row:TRow} (hrow:zAA s.rows q = row) (hil:zAS row = true) (hl:zAW row = true) {l ys:List u.I} {i m:Nat} (hg:H.get (num q) = some (.cells u.w (l.map (e0 u)))) (him:i + m <= l.length) {real:Bool} (hne:real = false -> zBg (zCI l i m) ys ≠ []) {C:D -> Heap -> Prop}
  (hC:∀ dd H' ζ' num' H'',Step B d ζ num s e dd H' ⟨.own s.rows.length,()⟩ { s with rows:=setRow s.rows q d .gone ++ [(d,bif real then .many u (zBg (zCI l i m) ys) else .lst u (zBg (zCI l i m) ys))] } ζ' num' H'' -> C dd H') :
  SameRel H (H.set (num q) (some (.cells u.w ((l.map (e0 u)).take (i + m))))) /\ (Heap.get (H.set (num q) (some (.cells u.w ((l.map (e0 u)).take (i + m))))) (num q) = some (.cells u.w ((l.map (e0 u)).take (i + m)))) /\
   C (.sl (H.set (num q) (some (.cells u.w ((l.map (e0 u)).take (i + m))))).length 0 (m + (ys.map (e0 u)).length)) ((H.set (num q) (some (.cells u.w ((l.map (e0 u)).take (i + m))))).set (num q) none ++ [some (.cells u.w (((l.map (e0 u)).take (i + m)).drop i ++ ys.map (e0 u)))]):=by
 have hlt:=Heap.get_lt hg
 refine ⟨content_weak hg (fun own U w n o=>cut_ok own U w n o),by rw [Heap.get_set H hlt,if_pos rfl],?_⟩
 rw [set_set,yBK]
 have hql:zAW (zAA s.rows q) = true:=by rw [hrow];exact hl
 obtain ⟨ha1,hle1,htl⟩:=kill_abs (d:=d) (H':=H.set (num q) none) ha (by rw [hrow];exact hil) (by simp) (fun z hz hzl=>get_set_none (ha.hrel.inj z q hzl hql hz) _)
 have hlen:(setRow s.rows q d .gone).length = s.rows.length:=zBv _ _ _ _
 have hxs:((l.map (e0 u)).take (i + m)).drop i ++ ys.map (e0 u) = (zBg (zCI l i m) ys).map (e0 u):=by
  simp only [zBg,zCI,yAV,List.map_take,List.map_drop]
  rw [List.drop_take]
  congr 2;omega
 have hm:m + (ys.map (e0 u)).length = (zBg (zCI l i m) ys).length:=by simp [zBg,zCI];omega
 rw [hxs]
 cases real with
 | true =>
  have st:=list_step (d:=d) ha1 hu (Tes.refl ((zBg (zCI l i m) ys).map (e0 u))) hm
  have:=st.pre (ζ:=ζ) (num:=num) (s:=s) htl hle1 rfl rfl
  dsimp only at this
  rw [hlen,yBK] at this
  exact hC _ _ _ _ _ this
 | false =>
  have hne:=hne rfl
  generalize zBg (zCI l i m) ys = z at *
  cases z with
  | nil=>exact absurd rfl hne
  | cons y z =>
   have st:=lst_step (d:=d) ha1 hu (y:=y) (l:=z) hm
   have:=st.pre (ζ:=ζ) (num:=num) (s:=s) htl hle1 rfl rfl
   dsimp only at this
   rw [hlen,yBK] at this
   exact hC _ _ _ _ _ this
def append_nil {d:Nat} (ha:Abs B ζ num s e H) {u:Ty} (hu:u.elem = true) {ys:List u.I} {C:D -> Heap -> Prop}
  (hC:∀ dd H' ζ' num' H'',Step B d ζ num s e dd H' ⟨.own s.rows.length,()⟩ { s with rows:=s.rows ++ [(d,.lst u ys)] } ζ' num' H'' -> C dd H') :
  ((ys.map (e0 u)).length = 0 -> C (.v (.slice none 0 0)) H) /\ ((ys.map (e0 u)).length ≠ 0 -> C (.sl H.length 0 (ys.map (e0 u)).length) (H ++ [some (.cells u.w (ys.map (e0 u)))])):=by
 cases ys with
 | nil=>exact ⟨fun _=>hC _ _ _ _ _ (nil_step ha hu),fun h=>absurd rfl h⟩
 | cons y ys=>exact ⟨fun h=>by simp at h,fun _=>hC _ _ _ _ _ (lst_step ha hu (by simp))⟩
def zBe {n b:Nat} (h:room n b = true):n * b <= 140737488355328:=of_decide_eq_true h
def need_some {b:Bool} {k:Option R} (h:need b k = some r):b = true /\ k = some r:=by
 cases b with
 | true=>exact ⟨rfl,h⟩
 | false=>cases h
def appendT_sound {d:Nat} (ha:Abs B ζ num s e H) {t t1:TypeId} {a b:TV} {ts:Array TypeId} (ht0:ts[0]? = some t) (ht1:ts[1]? = some t1) (hva:okV s.rows a) (hvb:okV s.rows b) {k:TV -> St -> Option R} (h:appendT P d s t t1 a b k = some r) {C:D -> Heap -> Prop}
  (hC:∀ v s' ζ' num' dd H' H'',k v s' = some r -> Step B d ζ num s e dd H' v s' ζ' num' H'' -> C dd H'):∃ H1,SameRel H H1 /\ zBD P ts [enc (zAB num s.rows) a,enc (zAB num s.rows) b] H1 C:=by
 have hr:=ha.hrel
 unfold appendT at h
 split at h
 ·rename_i el hel
  split at h
  ·rename_i u z by_ zv hu hz hby hint hzv
   cases hb:(Nat.beq z u.w && u.elem && !(Nat.beq by_ 0) && Nat.beq (zAs zv).length z) with
   | false=>rw [hb] at h;cases h
   | true =>
    rw [hb,cond_true] at h
    simp only [yAB,yAP,yBR] at hb
    obtain ⟨⟨⟨hzw,hue⟩,hby0⟩,hzk⟩:=hb
    have hby0:by_ ≠ 0:=by intro h0;subst h0;simp at hby0
    have hzd:=(zDK hzv (zAB num s.rows) s.rows).1
    have hzwid:(enc (zAB num s.rows) zv).width = z:=by rw [enc_width];exact hzk
    have pre:∀ (a':D) (H1:Heap) (ys:List D),(∀ rr i m c,a' ≠ .slc rr i m c) -> zBY H1 z (enc (zAB num s.rows) b).wk = some ys -> (match a' with
        | .v (.slice none 0 0)=>ys.length * by_ <= 140737488355328 /\ (ys.length = 0 -> C (.v (.slice none 0 0)) H1) /\ (ys.length ≠ 0 -> C (.sl H1.length 0 ys.length) (H1 ++ [some (.cells z ys)]))
        | .sl rr i m=>∃ xs,H1.get rr = some (.cells z xs) /\ i + m = xs.length /\ (m + ys.length) * by_ <= 140737488355328 /\ C (.sl H1.length 0 (m + ys.length)) (H1.set rr none ++ [some (.cells z (xs.drop i ++ ys))])
        | _=>False) -> zBD P ts [a',enc (zAB num s.rows) b] H1 C:=by
     intro a' H1 ys hns hys hm
     have:zBD P ts [a',enc (zAB num s.rows) b] H1 C = aAppend P ts a' (enc (zAB num s.rows) b).wk H1 C:=by
      cases a' <;> first | rfl | exact absurd rfl (hns _ _ _ _)
     rw [this]
     unfold aAppend
     rw [ht0,ht1]
     simp only
     rw [hel]
     simp only
     rw [hz,hby,hzd]
     exact ⟨hzwid,hby0,hint,ys,hys,hm⟩
    split at h
    ·rename_i ys hbase hys
     obtain ⟨h1,h2⟩:=need_some h
     have hb1:=zBe h1
     have haN:enc (zAB num s.rows) a = .v (.slice none 0 0):=by
      obtain ⟨ta,xa⟩:=a
      cases ta with
      | nul c =>
       cases c with
       | zero=>rfl
       | succ c=>cases hbase
      | own q =>
       exfalso
       simp only [baseT] at hbase
       cases hrow:zAA s.rows q <;> rw [hrow] at hbase <;> (first | (cases hbase;done) | (dsimp only at hbase;split at hbase <;> cases hbase))
      | sub q =>
       exfalso
       simp only [baseT] at hbase
       cases hrow:zAA s.rows q <;> rw [hrow] at hbase <;> (first | (cases hbase;done) | (dsimp only at hbase;split at hbase <;> cases hbase))
      | _=>cases hbase
     have hys':=zDU hr hvb hys
     rw [<- hzw] at hys'
     refine ⟨H,SameRel.refl _,?_⟩
     rw [haN]
     refine pre _ H _ (by intro _ _ _ _ h;cases h) hys' ?_
     obtain ⟨g1,g2⟩:=append_nil (d:=d) (ys:=ys) (C:=C) ha hue (fun dd H' ζ' num' H'' st=>hC _ _ _ _ _ _ _ h2 st)
     rw [hzw] at *
     exact ⟨by rw [yAG];exact hb1,g1,g2⟩
    ·rename_i q real l ys hbase hys
     obtain ⟨h1,h2⟩:=need_some h
     have hb1:=zBe h1
     have hys':=zDU hr hvb hys
     rw [<- hzw] at hys'
     obtain ⟨ta,xa⟩:=a
     cases ta with
     | own q' =>
      simp only [baseT] at hbase
      cases hrow:zAA s.rows q' with
      | many u' l' =>
       rw [hrow] at hbase
       dsimp only at hbase
       by_cases huu:u' = u
       ·subst huu
        rw [dif_pos rfl] at hbase
        simp only [yAH,Apd.own.injEq] at hbase
        obtain ⟨rfl,rfl,rfl⟩:=hbase
        have hR:=hr.row q'
        rw [hrow] at hR
        have hsub:zCI l' 0 l'.length = l':=by simp [zCI]
        obtain ⟨g1,g2,g3⟩:=append_to (d:=d) (real:=true) (ys:=ys) (l:=l') (i:=0) (m:=l'.length) (C:=C) ha hue hrow rfl rfl hR.2 (by omega) (fun h=>by cases h) (by rw [hsub];exact fun dd H' ζ' num' H'' st=>hC _ _ _ _ _ _ _ h2 st)
        have hself:(l'.map (e0 u')).take (0 + l'.length) = l'.map (e0 u'):=yAW (by simp)
        rw [hself] at g1 g2 g3
        rw [set_get_self hR.2] at g1 g2 g3
        refine ⟨H,g1,?_⟩
        show zBD P ts [ownD (num q') (zAA s.rows q'),_] H C
        rw [hrow]
        refine pre _ H _ (by intro _ _ _ _ h;cases h) hys' ⟨_,by rw [hzw];exact hR.2,by simp,by rw [yAG];exact hb1,?_⟩
        rw [hzw];exact g3
       ·rw [dif_neg huu] at hbase;cases hbase
      | lst u' l' =>
       rw [hrow] at hbase
       dsimp only at hbase
       by_cases huu:u' = u
       ·subst huu
        rw [dif_pos rfl] at hbase
        simp only [yAH,Apd.own.injEq] at hbase
        obtain ⟨rfl,rfl,rfl⟩:=hbase
        have hR:=hr.row q'
        rw [hrow] at hR
        cases l' with
        | nil =>
         obtain ⟨ha1,hle1,htl⟩:=kill_abs (d:=d) (q:=q') (H':=H) ha (by rw [hrow];rfl) rfl (fun _ _ _=>rfl)
         have hlen:(setRow s.rows q' d .gone).length = s.rows.length:=zBv _ _ _ _
         obtain ⟨g1,g2⟩:=append_nil (d:=d) (ys:=ys) (C:=C) ha1 hue (fun dd H' ζ' num' H'' st=>by
          have:=st.pre (ζ:=ζ) (num:=num) (s:=s) htl hle1 rfl rfl
          dsimp only at this
          rw [hlen] at this
          exact hC _ _ _ _ _ _ _ h2 this)
         refine ⟨H,SameRel.refl _,?_⟩
         show zBD P ts [ownD (num q') (zAA s.rows q'),_] H C
         rw [hrow]
         refine pre _ H _ (by intro _ _ _ _ h;cases h) hys' ?_
         rw [hzw] at *
         refine ⟨?_,g1,g2⟩
         rw [yAG]
         have:(0 + ys.length) * by_ <= 140737488355328:=hb1
         rw [yAT] at this;exact this
        | cons y l' =>
         have hg:=hR.2 (by simp)
         have hsub:zCI (y :: l') 0 (y :: l').length = y :: l':=by simp [zCI]
         obtain ⟨g1,g2,g3⟩:=append_to (d:=d) (real:=false) (ys:=ys) (l:=y :: l') (i:=0) (m:=(y :: l').length) (C:=C) ha hue hrow rfl rfl hg (by omega) (fun _=>by rw [hsub];simp [zBg]) (by rw [hsub];exact fun dd H' ζ' num' H'' st=>hC _ _ _ _ _ _ _ h2 st)
         have hself:((y :: l').map (e0 u')).take (0 + (y :: l').length) = (y :: l').map (e0 u'):=yAW (by simp)
         rw [hself] at g1 g2 g3
         rw [set_get_self hg] at g1 g2 g3
         refine ⟨H,g1,?_⟩
         show zBD P ts [ownD (num q') (zAA s.rows q'),_] H C
         rw [hrow]
         refine pre _ H _ (by intro _ _ _ _ h;cases h) hys' ⟨_,by rw [hzw];exact hg,by simp,by rw [yAG];exact hb1,?_⟩
         rw [hzw];exact g3
       ·rw [dif_neg huu] at hbase;cases hbase
      | _=>rw [hrow] at hbase;cases hbase
     | sub q' =>
      exfalso
      simp only [baseT] at hbase
      cases hrow:zAA s.rows q' <;> rw [hrow] at hbase <;> (first | (cases hbase;done) | (dsimp only at hbase;split at hbase <;> cases hbase))
     | nul c=>cases c <;> cases hbase
     | _=>cases hbase
    ·rename_i q real l ys hbase hys
     cases hrf:b.t.refs.any (Nat.beq q) with
     | true=>rw [hrf] at h;cases h
     | false =>
      rw [hrf,cond_false] at h
      obtain ⟨h1,h2⟩:=need_some h
      have hb1:=zBe h1
      obtain ⟨ta,xa⟩:=a
      cases ta with
      | own q' =>
       exfalso
       simp only [baseT] at hbase
       cases hrow:zAA s.rows q' <;> rw [hrow] at hbase <;> (first | (cases hbase;done) | (dsimp only at hbase;split at hbase <;> cases hbase))
      | nul c=>cases c <;> cases hbase
      | sub q' =>
       have hxa:zAS (zAA s.rows q') = true -> xa.1 + xa.2 <= zCg (zAA s.rows q'):=hva.2
       have fin:∀ (l':List u.I),zAS (zAA s.rows q') = true -> zAW (zAA s.rows q') = true -> zCg (zAA s.rows q') = l'.length -> H.get (num q') = some (.cells u.w (l'.map (e0 u))) -> q = q' -> l = zCI l' xa.1 xa.2 -> subD (num q') xa (zAA s.rows q') = .sl (num q') xa.1 xa.2 -> (real = false -> zBg (zCI l' xa.1 xa.2) ys ≠ []) ->
           k ⟨.own s.rows.length,()⟩ { s with rows:=setRow s.rows q d .gone ++ [(d,bif real then .many u (zBg l ys) else .lst u (zBg l ys))] } = some r ->
           ∃ H1,SameRel H H1 /\ zBD P ts [enc (zAB num s.rows) ⟨.sub q',xa⟩,enc (zAB num s.rows) b] H1 C:=by
        intro l' hil hlv hll hg hq hls hD hne hk
        subst hq;subst hls
        have him:=hxa hil
        rw [hll] at him
        obtain ⟨g1,g2,g3⟩:=append_to (d:=d) (real:=real) (ys:=ys) (l:=l') (i:=xa.1) (m:=xa.2) (C:=C) ha hue rfl hil hlv hg him hne (fun dd H' ζ' num' H'' st=>hC _ _ _ _ _ _ _ hk st)
        refine ⟨_,g1,?_⟩
        show zBD P ts [subD (num q) xa (zAA s.rows q),_] _ C
        rw [hD]
        have hys2:zBY (H.set (num q) (some (.cells u.w ((l'.map (e0 u)).take (xa.1 + xa.2))))) z (enc (zAB num s.rows) b).wk = some (ys.map (e0 u)):=by
         obtain ⟨ha1,_,_⟩:=kill_abs (d:=d) (H':=H.set (num q) (some (.cells u.w ((l'.map (e0 u)).take (xa.1 + xa.2))))) ha hil (by simp) (fun w hw hwl=>get_set_none (ha.hrel.inj w q hwl hlv hw) _)
         have hvb1:okV (setRow s.rows q d .gone) b:=by
          refine zCv ⟨by rw [zBv];exact yAJ _,fun w hw hwl=>?_⟩ _ _ hvb
          rw [zDC] at hwl ⊢
          split at hwl
          ·simp [zAS] at hwl
          ·rename_i hn;rw [if_neg hn];exact ⟨hwl,rfl⟩
         have:=zDU (t:=u) (v:=b) (l:=ys) ha1.hrel hvb1 (by rw [elemsT_set hrf];exact hys)
         rw [show (St.rows { s with rows:=setRow s.rows q d .gone }) = setRow s.rows q d .gone from rfl,enc_set hrf] at this
         rw [hzw];exact this
        refine pre _ _ _ (by intro _ _ _ _ h;cases h) hys2 ⟨_,by rw [hzw];exact g2,by simp;omega,?_,?_⟩
        ·have:(zBl (zCI l' xa.1 xa.2).length ys.length) * by_ <= 140737488355328:=hb1
         have hl2:(zCI l' xa.1 xa.2).length = xa.2:=by simp [zCI];omega
         rw [yAG];simp only [zBl,hl2] at this;exact this
        ·rw [hzw];exact g3
       simp only [baseT] at hbase
       cases hrow:zAA s.rows q' with
       | many u' l' =>
        rw [hrow] at hbase
        dsimp only at hbase
        by_cases huu:u' = u
        ·subst huu
         rw [dif_pos rfl] at hbase
         simp only [yAH,Apd.sub.injEq] at hbase
         obtain ⟨hq,hreal,hls⟩:=hbase
         subst hreal
         have hR:=hr.row q'
         rw [hrow] at hR
         exact fin l' (by rw [hrow];rfl) (by rw [hrow];rfl) (by rw [hrow];rfl) hR.2 hq.symm hls.symm (by rw [hrow];rfl) (fun h=>by cases h) h2
        ·rw [dif_neg huu] at hbase;cases hbase
       | lst u' l' =>
        rw [hrow] at hbase
        dsimp only at hbase
        by_cases huu:u' = u
        ·subst huu
         rw [dif_pos rfl] at hbase
         simp only [yAH,Apd.sub.injEq] at hbase
         obtain ⟨hq,hreal,hls⟩:=hbase
         subst hreal
         rw [cond_false] at h2
         obtain ⟨h3,h4⟩:=need_some h2
         have hpos:0 < ys.length:=of_decide_eq_true h3
         have hne:∀ z:List u'.I,zBg z ys ≠ []:=fun z h0=>by
          simp [zBg] at h0
          rw [h0.2] at hpos;simp at hpos
         have hR:=hr.row q'
         rw [hrow] at hR
         cases l' with
         | nil =>
          have hx0:=hxa (by rw [hrow];rfl)
          rw [hrow] at hx0
          have hx0:xa.1 + xa.2 <= 0:=hx0
          have hl0:l = []:=by rw [<- hls];simp [zCI,castL]
          obtain ⟨ha1,hle1,htl⟩:=kill_abs (d:=d) (q:=q') (H':=H) ha (by rw [hrow];rfl) rfl (fun _ _ _=>rfl)
          have hlen:(setRow s.rows q' d .gone).length = s.rows.length:=zBv _ _ _ _
          obtain ⟨g1,g2⟩:=append_nil (d:=d) (ys:=ys) (C:=C) ha1 hue (fun dd H' ζ' num' H'' st=>by
           have:=st.pre (ζ:=ζ) (num:=num) (s:=s) htl hle1 rfl rfl
           dsimp only at this
           rw [hlen] at this
           subst hq;subst hl0
           exact hC _ _ _ _ _ _ _ h4 this)
          refine ⟨H,SameRel.refl _,?_⟩
          show zBD P ts [subD (num q') xa (zAA s.rows q'),_] H C
          rw [hrow]
          have hys':=zDU hr hvb hys
          rw [<- hzw] at hys'
          refine pre _ H _ (by intro _ _ _ _ h;cases h) hys' ?_
          rw [hzw] at *
          refine ⟨?_,g1,g2⟩
          rw [yAG]
          rw [hl0] at hb1
          have:(0 + ys.length) * by_ <= 140737488355328:=hb1
          rw [yAT] at this;exact this
         | cons y l' =>
          exact fin (y :: l') (by rw [hrow];rfl) (by rw [hrow];rfl) (by rw [hrow];rfl) (hR.2 (by simp)) hq.symm hls.symm (by rw [hrow];rfl) (fun _=>hne _) h4
        ·rw [dif_neg huu] at hbase;cases hbase
       | _=>rw [hrow] at hbase;cases hbase
      | _=>cases hbase
    ·cases h
  ·cases h
 ·cases h
end
end Go.T
namespace Go.T
open Go.Ab
variable [Go.Ab.DM]
section
variable {P:Program} {B:Base} {ζ ζ':Nat -> Row} {num num':Nat -> Nat} {rows rows':Rows} {s:St} {e:Env} {H H' H'':Heap} {R:Type} {r:R}
def len_set_cells {tg:Bool} {sz o:Nat} {v x u:TV} (h:putT rows tg sz o v x = some u):u.t.lay = true \/ ¬ v.t.lay = true:=by
 by_cases hv:v.t.lay = true
 ·left
  obtain ⟨t,y⟩:=v
  have fin:∀ l:List TV,(∀ w ∈ l,w.t.one = true) -> (aggV l).t.lay = true:=fun l hl=>by
   show (zDV l).t.ones = true
   exact spine_ones l hl
  cases t with
  | agg s =>
   have hk:=lay_kids (x:=y) hv
   cases tg with
   | true =>
    obtain ⟨tx,z⟩:=x
    cases tx with
    | agg q =>
     simp only [putT] at h
     cases hb:(Nat.beq (zAK q z).length sz && (zAK q z).all (zCW rows) && Nat.ble (o + sz) (zAK s y).length) with
     | false=>rw [hb] at h;cases h
     | true =>
      rw [hb,cond_true] at h
      simp only [yAB] at hb
      have hz:∀ w ∈ zAK q z,w.t.one = true:=fun w hw=>by
       have:=hb.1.2;rw [yAR] at this
       have:=this w hw;simp only [zCW,yAB] at this;exact this.1
      cases hb2:(Nat.beq o 0 && Nat.beq sz (zAK s y).length) with
      | true=>rw [hb2,cond_true] at h;have:=yAA h;subst this;exact ones_of q z hz
      | false =>
       rw [hb2,cond_false] at h;have:=yAA h;subst this
       refine fin _ fun w hw=>?_
       simp only [yAO] at hw
       rcases hw with (hw | hw) | hw
       ·exact hk w (yBJ hw)
       ·exact hz w hw
       ·exact hk w (List.mem_of_mem_drop hw)
    | _=>cases h
   | false =>
    simp only [putT] at h
    cases hb:(Nat.blt o (zAK s y).length && zCW rows x && Nat.beq sz 1) with
    | false=>rw [hb] at h;cases h
    | true =>
     rw [hb,cond_true] at h
     have:=yAA h;subst this
     simp only [yAB,zCW] at hb
     refine fin _ fun w hw=>?_
     rcases List.mem_or_eq_of_mem_set hw with hw | hw
     ·exact hk w hw
     ·subst hw;exact hb.1.2.1
  | _=>exact leaf _ y (by exact hv) (by rfl) (by exact h)
 ·exact .inr hv
where
 spine_ones:∀ (l:List TV),(∀ w ∈ l,w.t.one = true) -> (zDV l).t.ones = true
  | [],_=>rfl
  | [v],h=>by
   have:=h v (by simp)
   obtain ⟨t,x⟩:=v
   show (TV.lf ⟨t,x⟩).t.ones = true
   cases t <;> first | exact this | rfl | (simp [Ty.one] at this)
  | v :: u :: l,h=>by
   show (v.t.one && (zDV (u :: l)).t.ones) = true
   rw [h v (by simp),spine_ones (u :: l) fun w hw=>h w (yAF _ hw)];rfl
 leaf {rows:Rows} {tg:Bool} {sz o:Nat} {x u:TV} (t:Ty) (y:t.I) (hv:t.one = true) (ht:zBr t = false) (h:(match (generalizing:=false) tg with | true=>none | false=>bif Nat.beq o 0 && zCW rows x && Nat.beq sz 1 then some x else none) = some u):u.t.lay = true:=by
  cases tg with
  | true=>cases h
  | false =>
   dsimp only at h
   cases hb:(Nat.beq o 0 && zCW rows x && Nat.beq sz 1) with
   | false=>rw [hb] at h;cases h
   | true =>
    rw [hb,cond_true] at h
    have:=yAA h;subst this
    simp only [yAB,zCW] at hb
    obtain ⟨tx,xx⟩:=x
    have h1:tx.one = true:=hb.1.2.1
    cases tx <;> first | exact h1 | (simp [Ty.one] at h1)
def Tls_set:∀ {a b:List D} {i:Nat} {x y:D},Tls a b -> Tl x y -> Tls (a.set i x) (b.set i y)
 | _,_,i,x,y,.nil,h=>by simp;exact .nil
 | _,_,0,x,y,.cons h1 h2,h=>.cons h h2
 | _,_,i + 1,x,y,.cons h1 h2,h=>.cons h1 (Tls_set h2 h)
def putT_sound {tg:Bool} {sz o:Nat} {v x u:TV} {d:D} (ha:zBS d = zBr v.t) (ht:Tls d.cells ((zAs v).map (enc (zAB num rows)))) (h:putT rows tg sz o v x = some u) :
  ∃ d',putD tg sz d o (enc (zAB num rows) x) = some d' /\ zBS d' = zBr u.t /\ Tls d'.cells ((zAs u).map (enc (zAB num rows))):=by
 have leaf:∀ (t:Ty) (y:t.I),zBr t = false -> zBS d = zBr t -> (match (generalizing:=false) tg with | true=>none | false=>bif Nat.beq o 0 && zCW rows x && Nat.beq sz 1 then some x else none) = some u -> ∃ d',putD tg sz d o (enc (zAB num rows) x) = some d' /\ zBS d' = zBr u.t /\ Tls d'.cells ((zAs u).map (enc (zAB num rows))):=by
  intro t y ht ha h
  cases tg with
  | true=>cases h
  | false =>
   dsimp only at h
   cases hb:(Nat.beq o 0 && zCW rows x && Nat.beq sz 1) with
   | false=>rw [hb] at h;cases h
   | true =>
    rw [hb,cond_true] at h
    have:=yAA h;subst this
    simp only [yAB,yAP] at hb
    obtain ⟨⟨h1,h2⟩,h3⟩:=hb
    subst h1;subst h3
    refine ⟨enc (zAB num rows) x,?_,zDF _ _ _,by rw [zBW];exact Tls.refl _⟩
    rw [ht] at ha
    have h1:=one_ok (num:=num) h2
    generalize enc (zAB num rows) x = y at h1
    cases d <;> first | (simp [zBS] at ha;done) | (simp [putD,h1])
 obtain ⟨t,y⟩:=v
 cases t with
 | agg s =>
  cases d with
  | agg cs =>
   have ht:Tls cs ((zAK s y).map (enc (zAB num rows))):=ht
   have hlen:cs.length = (zAK s y).length:=by rw [ht.len,yAG]
   cases tg with
   | true =>
    obtain ⟨tx,z⟩:=x
    cases tx with
    | agg q =>
     simp only [putT] at h
     cases hb:(Nat.beq (zAK q z).length sz && (zAK q z).all (zCW rows) && Nat.ble (o + sz) (zAK s y).length) with
     | false=>rw [hb] at h;cases h
     | true =>
      rw [hb,cond_true] at h
      simp only [yAB,yAP,Nat.ble_eq] at hb
      obtain ⟨⟨h1,h2⟩,h3⟩:=hb
      have hx:enc (zAB num rows) ⟨.agg q,z⟩ = .agg ((zAK q z).map (enc (zAB num rows))):=enc_aggK _ q z
      have hone:((zAK q z).map (enc (zAB num rows))).all D.one = true:=by
       have:=kids_one (num:=num) (v:=⟨.agg q,z⟩) h2
       rw [zBW] at this;exact this
      rw [hx]
      have hput:putD true sz (.agg cs) o (.agg ((zAK q z).map (enc (zAB num rows)))) = some (.agg (if o = 0 /\ sz = cs.length then (zAK q z).map (enc (zAB num rows)) else cs.take o ++ (zAK q z).map (enc (zAB num rows)) ++ cs.drop (o + sz))):=by
       simp only [putD]
       rw [if_pos ⟨by omega,by rw [yAG];exact h1,hone⟩]
      refine ⟨_,hput,?_⟩
      cases hb2:(Nat.beq o 0 && Nat.beq sz (zAK s y).length) with
      | true =>
       rw [hb2,cond_true] at h
       have:=yAA h;subst this
       simp only [yAB,yAP] at hb2
       rw [if_pos ⟨hb2.1,by omega⟩]
       exact ⟨rfl,Tls.refl _⟩
      | false =>
       rw [hb2,cond_false] at h
       have:=yAA h;subst this
       rw [if_neg (by
        rintro ⟨g1,g2⟩
        simp only [Bool.and_eq_false_iff] at hb2
        rcases hb2 with g | g
        ·rw [g1] at g;simp at g
        ·have:Nat.beq sz (zAK s y).length = true:=by rw [yAP];omega
         rw [this] at g;cases g)]
       refine ⟨rfl,?_⟩
       have e1:=zBW num rows (aggV ((zAK s y).take o ++ zAK q z ++ (zAK s y).drop (o + sz)))
       rw [<- e1,enc_agg]
       show Tls (cs.take o ++ _ ++ cs.drop (o + sz)) _
       rw [yAV,yAV,List.map_take,List.map_drop]
       exact ((Tls_take ht o).app (Tls.refl _)).app (Tls_drop ht (o + sz))
    | _=>cases h
   | false =>
    simp only [putT] at h
    cases hb:(Nat.blt o (zAK s y).length && zCW rows x && Nat.beq sz 1) with
    | false=>rw [hb] at h;cases h
    | true =>
     rw [hb,cond_true] at h
     have:=yAA h;subst this
     simp only [yAB,yAP,Nat.blt_eq] at hb
     obtain ⟨⟨h1,h2⟩,h3⟩:=hb
     refine ⟨.agg (cs.set o (enc (zAB num rows) x)),?_,rfl,?_⟩
     ·have hone:=one_ok (num:=num) h2
      generalize enc (zAB num rows) x = z at hone
      simp only [putD]
      rw [if_pos ⟨by omega,hone,h3⟩]
     ·rw [<- zBW,enc_agg,List.map_set]
      exact Tls_set ht (Tl.refl _)
  | _=>simp [zBS,zBr] at ha
 | _=>exact leaf _ y (by rfl) (by exact ha) (by exact h)
def putT_ok {rows':Rows} {tg:Bool} {sz o:Nat} {v x u:TV} (hv:okV rows' v) (hx:okV rows' x) (h:putT rows tg sz o v x = some u):okV rows' u:=by
 have leaf:∀ (t:Ty) (y:t.I),(match (generalizing:=false) tg with | true=>none | false=>bif Nat.beq o 0 && zCW rows x && Nat.beq sz 1 then some x else none) = some u -> okV rows' u:=by
  intro t y h
  cases tg with
  | true=>cases h
  | false =>
   dsimp only at h
   cases hb:(Nat.beq o 0 && zCW rows x && Nat.beq sz 1) with
   | false=>rw [hb] at h;cases h
   | true=>rw [hb,cond_true] at h;have:=yAA h;subst this;exact hx
 obtain ⟨t,y⟩:=v
 cases t with
 | agg s =>
  have hk:=(ok_leaves s y).1 hv
  cases tg with
  | true =>
   obtain ⟨tx,z⟩:=x
   cases tx with
   | agg q =>
    have hz:=(ok_leaves q z).1 hx
    simp only [putT] at h
    cases hb:(Nat.beq (zAK q z).length sz && (zAK q z).all (zCW rows) && Nat.ble (o + sz) (zAK s y).length) with
    | false=>rw [hb] at h;cases h
    | true =>
     rw [hb,cond_true] at h
     cases hb2:(Nat.beq o 0 && Nat.beq sz (zAK s y).length) with
     | true=>rw [hb2,cond_true] at h;have:=yAA h;subst this;exact hx
     | false =>
      rw [hb2,cond_false] at h;have:=yAA h;subst this
      refine ok_agg _ fun w hw=>?_
      simp only [yAO] at hw
      rcases hw with (hw | hw) | hw
      ·exact hk w (yBJ hw)
      ·exact hz w hw
      ·exact hk w (List.mem_of_mem_drop hw)
   | _=>cases h
  | false =>
   simp only [putT] at h
   cases hb:(Nat.blt o (zAK s y).length && zCW rows x && Nat.beq sz 1) with
   | false=>rw [hb] at h;cases h
   | true =>
    rw [hb,cond_true] at h
    have:=yAA h;subst this
    refine ok_agg _ fun w hw=>?_
    rcases List.mem_or_eq_of_mem_set hw with hw | hw
    ·exact hk w hw
    ·subst hw;exact hx
 | _=>exact leaf _ y (by exact h)
end
end Go.T
namespace Go.T
open Go.Ab
variable [Go.Ab.DM]
section
variable {P:Program} {B:Base} {ζ ζ':Nat -> Row} {num num':Nat -> Nat} {rows rows':Rows} {s:St} {e:Env} {H H' H'':Heap} {R:Type} {r:R}
def Tes_set:∀ {a b:List D} {i:Nat} {x y:D},Tes a b -> Te x y -> Tes (a.set i x) (b.set i y)
 | _,_,i,x,y,.nil,h=>by simp;exact .nil
 | _,_,0,x,y,.cons h1 h2,h=>.cons h h2
 | _,_,i + 1,x,y,.cons h1 h2,h=>.cons h1 (Tes_set h2 h)
def ref_many (n:Nat) {t t':Ty} {l:List t.I} {l':List t'.I} (h:l'.length = l.length):RefTl n (.many t l) n (.many t' l'):=⟨Tl.of_eq (by show D.sl n 0 l.length = D.sl n 0 l'.length;rw [h]),fun _=>Tl.refl _,fun _=>Tl.refl _,fun _ _=>Tl.refl _,Tl.refl _⟩
def ref_lst (n:Nat) {t t':Ty} {l:List t.I} {l':List t'.I} (h:l'.length = l.length):RefTl n (.lst t l) n (.lst t' l'):=by
 cases l with
 | nil =>
  cases l' with
  | nil=>exact ⟨Tl.refl _,fun _=>Tl.refl _,fun _=>Tl.refl _,fun _ _=>Tl.refl _,Tl.refl _⟩
  | cons y l'=>simp at h
 | cons x l =>
  cases l' with
  | nil=>simp at h
  | cons y l'=>exact ⟨Tl.of_eq (by show D.sl n 0 (x :: l).length = D.sl n 0 (y :: l').length;rw [h]),fun _=>Tl.refl _,fun _=>Tl.refl _,fun _ _=>Tl.refl _,Tl.refl _⟩
def ref_one (n:Nat) {t t':Ty} {x:t.I} {x':t'.I}:RefTl n (.one t x) n (.one t' x'):=⟨Tl.refl _,fun _=>Tl.refl _,fun _=>Tl.refl _,fun _ _=>Tl.refl _,Tl.refl _⟩
def ref_mp (n:Nat) {k v k' v':Ty} {l:List (k.I × v.I)} {l':List (k'.I × v'.I)}:RefTl n (.mp k v l) n (.mp k' v' l'):=⟨Tl.refl _,fun _=>Tl.refl _,fun _=>Tl.refl _,fun _ _=>Tl.refl _,Tl.refl _⟩
def chg_set {q d:Nat} {row:TRow} (h:RefTl (num q) (zAA rows q) (num q) row):∀ z,z < rows.length -> RefTl (num z) (zAA rows z) (num z) (zAA (setRow rows q d row) z):=fun z hz=>by
 by_cases hzq:z = q
 ·subst hzq;rw [rowAt_seteq hz];exact h
 ·exact RefTl.of_eq rfl (zCi hzq)
def elem_store {d q o:Nat} {i:Nat} (ha:Abs B ζ num s e H) {tg:Bool} {sz:Nat} {u:Ty} {l:List u.I} {vx v:TV} {y:u.I} (hue:u.elem = true) (hi:i < l.length) (hox:okV s.rows vx)
  (hput:putT s.rows tg sz o ⟨u,zAH u.dv l i⟩ vx = some v) (hcv:zBK s.rows u v = some y) (hg:H.get (num q) = some (.cells u.w (l.map (e0 u)))) (hql:q < s.rows.length) (hlv:zAW (zAA s.rows q) = true)
  {row:TRow} (hrow:zCC ζ num (setRow s.rows q d row) (H.set (num q) (some (.cells u.w ((lset l i y).map (e0 u))))) q row) (href:RefTl (num q) (zAA s.rows q) (num q) row) (hlen:zAS row = true -> zAS (zAA s.rows q) = true /\ zCg row = zCg (zAA s.rows q))
  (hnone:∀ t x,row ≠ .one t x) (hnmp:∀ a b l,zAA s.rows q ≠ .mp a b l) {C:D -> Heap -> Prop}
  (hC:∀ dd H' ζ' num' H'',Step B d ζ num s e dd H' ⟨.any,()⟩ { s with rows:=setRow s.rows q d row } ζ' num' H'' -> C dd H') :
  ∃ e',putD tg sz (e0 u (zAH u.dv l i)) o (enc (zAB num s.rows) vx) = some e' /\ C (.v undef) (H.set (num q) (some (.cells u.w ((l.map (e0 u)).set i e')))):=by
 have hp:=zCY hue
 have e1:enc (zAB num s.rows) ⟨u,zAH u.dv l i⟩ = e0 u (zAH u.dv l i):=pure_kids hp
 obtain ⟨e',h1,h2,h3⟩:=putT_sound (num:=num) (d:=e0 u (zAH u.dv l i)) (by rw [<- e1];exact zDF num s.rows _) (by rw [<- e1,zBW];exact Tls.refl _) hput
 have hov:=putT_ok (v:=⟨u,zAH u.dv l i⟩) (zCR u _ hp) hox hput
 obtain ⟨g1,g2,g3⟩:=conv_te (num:=num) hue hov hcv
 have hte:Te e' (e0 u y):=⟨by rw [h3.len,<- zBW];exact g1,fun _=>elem_cells hue zDH y,h3.trans (by rw [<- zBW];exact g3)⟩
 refine ⟨e',h1,?_⟩
 have hlt:=Heap.get_lt hg
 have hw:SameRel (H.set (num q) (some (.cells u.w ((l.map (e0 u)).set i e')))) (H.set (num q) (some (.cells u.w ((lset l i y).map (e0 u))))):=by
  have:=content_weak (H':=H.set (num q) (some (.cells u.w ((l.map (e0 u)).set i e')))) (q:=num q) (row:=.cells u.w ((l.map (e0 u)).set i e')) (row':=.cells u.w ((lset l i y).map (e0 u))) (by rw [Heap.get_set H hlt,if_pos rfl]) (fun own U w n o=>cells_te (by simp only [lset];rw [List.map_set];exact Tes_set (Tes.refl _) hte) own U w n o)
  rw [set_set] at this;exact this
 exact hC _ _ _ _ _ (set_step ha hql hw hlv hrow href hlen (fun t x h=>absurd h (hnone t x)) (fun a b l h=>absurd h (hnmp a b l)) (Tl.any _) trivial)
def storeT_sound {d:Nat} (ha:Abs B ζ num s e H) {c:List (Nat × Bool)} (hh:zBB s.gs c = true) {t:TypeId} {xa xx:Operand} {a x:TV} (hxa:evT s.env c xa = some a) (hxx:evT s.env c xx = some x) (h:storeT P d s.rows t a x = some rows') {C:Env -> D -> Heap -> Prop}
  (hC:∀ e1 dd H' ζ' num' H'',Step B d ζ num s e1 dd H' ⟨.any,()⟩ { s with rows:=rows' } ζ' num' H'' -> C e1 dd H'):∃ e1 H1,(WeakS e H e1 H1 /\ ∃ rf,e1 = zCn num { s with rows:=rf }) /\ ∃ H',stD P t H1 (ev e1 xa) (ev e1 xx) = some H' /\ C e1 (.v undef) H':=by
 unfold storeT at h
 split at h
 ·rename_i tg sz htg hsz
  obtain ⟨ta,ya⟩:=a
  cases ta with
  | p0 q o =>
   dsimp only at h
   cases hrow:zAA s.rows q with
   | one u y =>
    rw [hrow] at h
    dsimp only at h
    cases hput:putT s.rows tg sz o ⟨u,y⟩ x with
    | none=>rw [hput] at h;cases h
    | some v =>
     rw [hput] at h
     have:=yAA h;subst this
     obtain ⟨h1,h2⟩:=zAP ha hh hxa
     obtain ⟨h3,h4⟩:=zAP ha hh hxx
     have hR:=ha.hrel.row q
     rw [hrow] at hR
     obtain ⟨hlay,k,d0,hg,hag,htl⟩:=hR
     obtain ⟨e',g1,g2,g3⟩:=putT_sound (num:=num) hag htl hput
     have hql:q < s.rows.length:=zAw (by rw [hrow];simp)
     refine ⟨e,H,⟨WeakS.refl _ _,s.rows,ha.env⟩,H.set (num q) (some (.cells k [e'])),?_,hC _ _ _ ζ num (H.set (num q) (some (.cells k [e']))) ?_⟩
     ·rw [h1,h3]
      unfold stD
      rw [htg,hsz]
      show (match p0D (num q) o (zAA s.rows q) with | .pt r i o=>_ | _=>none) = _
      rw [hrow]
      simp only [p0D,hg]
      show Option.map _ (Option.bind (some d0) _) = _
      rw [yBP,g1];rfl
     ·refine set_step ha hql (SameRel.refl _) (by rw [hrow];rfl) ⟨?_,k,e',by rw [Heap.get_set H (Heap.get_lt hg),if_pos rfl],g2,?_⟩ (by rw [hrow];exact ref_one _) (fun h=>by simp [zAS] at h) (fun t x h=>?_) (fun a b l h=>by rw [hrow] at h;cases h) (Tl.any _) trivial
      ·rcases len_set_cells hput with h | h
       ·exact h
       ·exact absurd hlay h
      ·exact g3.trans (kids_chg (chg_set (by rw [hrow];exact ref_one _)) _ (ok_kids (v:=⟨v.t,v.x⟩) (putT_ok (v:=⟨u,y⟩) (ha.hrel.ok q u y hrow) h4 hput)))
      ·cases h;exact putT_ok (v:=⟨u,y⟩) (ha.hrel.ok q u y hrow) h4 hput
   | _=>rw [hrow] at h;cases h
  | pt q o =>
   obtain ⟨i,hia⟩:∃ i:Nat,i = ya:=⟨ya,rfl⟩
   subst hia
   dsimp only at h
   obtain ⟨ha1,hw1⟩:=fr_abs ha (zBt d x.t.refs s.rows)
   have hle1:=fr_Le (ζ:=ζ) (num:=num) (s:=s) d x.t.refs
   generalize hrf:zAz d x.t.refs 0 s.rows = rf at h ha1 hw1 hle1
   obtain ⟨h1,h2⟩:=zAP ha1 (by exact hh) (by exact hxa)
   obtain ⟨h3,h4⟩:=zAP ha1 (by exact hh) (by exact hxx)
   have hi:zAS (zAA rf q) = true -> i < zCg (zAA rf q):=h2.2
   have hR:=ha1.hrel.row q
   dsimp only at hR
   have post:∀ dd H' ζ' num' H'',Step B d ζ num { s with rows:=rf } (zCn num { s with rows:=rf }) dd H' ⟨.any,()⟩ { s with rows:=rows' } ζ' num' H'' -> C (zCn num { s with rows:=rf }) dd H':=fun dd H' ζ' num' H'' st =>
    hC _ _ _ _ _ _ (st.pre (fun _=>Tl.refl _) hle1 rfl rfl)
   have fin:∀ (u:Ty) (l:List u.I) (e':D),Heap.get (frH num s.rows rf H) (num q) = some (.cells u.w (l.map (e0 u))) -> i < l.length -> ptD (num q) o i (zAA rf q) = .pt (num q) i o -> putD tg sz (e0 u (zAH u.dv l i)) o (enc (zAB num rf) x) = some e' ->
       C (zCn num { s with rows:=rf }) (.v undef) ((frH num s.rows rf H).set (num q) (some (.cells u.w ((l.map (e0 u)).set i e')))) ->
       ∃ e1 H1,(WeakS e H e1 H1 /\ ∃ rf,e1 = zCn num { s with rows:=rf }) /\ ∃ H',stD P t H1 (ev e1 xa) (ev e1 xx) = some H' /\ C e1 (.v undef) H':=by
    intro u l e' hg hlt hpt hput hc
    refine ⟨_,_,⟨hw1,rf,rfl⟩,_,?_,hc⟩
    rw [h1,h3]
    unfold stD
    rw [htg,hsz]
    show (match ptD (num q) o i (zAA rf q) with | .pt r i o=>_ | _=>none) = _
    rw [hpt]
    have hg':Heap.get (frH num s.rows rf H) (num q) = some (.cells u.w (l.map (e0 u))):=hg
    simp only [hg',fz_get hlt,yBP,hput,yBU]
   cases hrow:zAA rf q with
   | many u l =>
    rw [hrow] at h hR hi
    dsimp only at h
    cases hput:putT rf tg sz o ⟨u,zAH u.dv l i⟩ x with
    | none=>rw [hput] at h;cases h
    | some v =>
     rw [hput] at h
     dsimp only at h
     cases hcv:zBK rf u v with
     | none=>rw [hcv] at h;cases h
     | some y =>
      rw [hcv] at h
      have:=yAA h;subst this
      have hlt:i < l.length:=hi rfl
      have hql:q < rf.length:=zAw (by rw [hrow];simp)
      have hlen:(lset l i y).length = l.length:=by simp [lset]
      obtain ⟨e',g1,g2⟩:=elem_store (d:=d) (s:={ s with rows:=rf }) ha1 hR.1 hlt h4 hput hcv hR.2 hql (by show zAW (zAA rf q) = true;rw [hrow];rfl) (row:=.many u (lset l i y)) ⟨hR.1,by rw [Heap.get_set _ (Heap.get_lt hR.2),if_pos rfl]⟩ (by show RefTl _ (zAA rf q) _ _;rw [hrow];exact ref_many _ hlen) (fun _=>by show zAS (zAA rf q) = true /\ _ = zCg (zAA rf q);rw [hrow];exact ⟨rfl,hlen⟩) (fun t x h=>by cases h) (fun a b l h=>by have h:zAA rf q = _:=h;rw [hrow] at h;cases h) post
      exact fin u l e' hR.2 hlt (by rw [hrow];rfl) g1 g2
   | lst u l =>
    rw [hrow] at h hR hi
    dsimp only at h
    cases hput:putT rf tg sz o ⟨u,zAH u.dv l i⟩ x with
    | none=>rw [hput] at h;cases h
    | some v =>
     rw [hput] at h
     dsimp only at h
     cases hcv:zBK rf u v with
     | none=>rw [hcv] at h;cases h
     | some y =>
      rw [hcv] at h
      have:=yAA h;subst this
      have hlt:i < l.length:=hi rfl
      have hg:=hR.2 (by intro h0;rw [h0] at hlt;simp at hlt)
      have hql:q < rf.length:=zAw (by rw [hrow];simp)
      have hlen:(lset l i y).length = l.length:=by simp [lset]
      obtain ⟨e',g1,g2⟩:=elem_store (d:=d) (s:={ s with rows:=rf }) ha1 hR.1 hlt h4 hput hcv hg hql (by show zAW (zAA rf q) = true;rw [hrow];cases l;simp at hlt;rfl) (row:=.lst u (lset l i y)) ⟨hR.1,fun _=>by rw [Heap.get_set _ (Heap.get_lt hg),if_pos rfl]⟩ (by show RefTl _ (zAA rf q) _ _;rw [hrow];exact ref_lst _ hlen) (fun _=>by show zAS (zAA rf q) = true /\ _ = zCg (zAA rf q);rw [hrow];exact ⟨rfl,hlen⟩) (fun t x h=>by cases h) (fun a b l h=>by have h:zAA rf q = _:=h;rw [hrow] at h;cases h) post
      exact fin u l e' hg hlt (by rw [hrow];cases l;simp at hlt;rfl) g1 g2
   | _=>rw [hrow] at h;cases h
  | _=>cases h
 ·cases h
end
end Go.T
namespace Go.T
open Go.Ab
variable [Go.Ab.DM]
section
variable {P:Program} {B:Base} {ζ ζ':Nat -> Row} {num num':Nat -> Nat} {rows rows':Rows} {s:St} {e:Env} {H H' H'':Heap} {R:Type} {r:R}
def map_enc_len (l:List (Nat × TV)):(l.map fun p=>(p.1,enc (zAB num rows) p.2)).map (·.1) = l.map (·.1):=by simp
def buildSlice_sound' {d:Nat} (ha:Abs B ζ num s e H) {c:List (Nat × Bool)} (hh:zBB s.gs c = true) {t el:TypeId} {n z:Nat} {ps:Array (Nat × Operand)} {u:Ty} {l:List (Nat × TV)} {xs:List u.I} (hel:zBI P t = some el) (hz:tsz P el = some z) (hl:evPs s.env c ps.toList = some l)
  (hb:(Nat.beq z u.w && u.elem && (l.map (·.1) == List.range n) && decide (n * z <= 16777216) && ((P.info? el).bind (·.zero)).isSome && l.all (fun p=>liesT (zAz d (refsOf (l.map (·.2))) 0 s.rows) p.2 && Nat.beq (zAs p.2).length z)) = true)
  (hx:convAll (zAz d (refsOf (l.map (·.2))) 0 s.rows) u (l.map (·.2)) = some xs) {C:Env -> D -> Heap -> Prop}
  (hC:∀ e1 dd H' ζ' num' H'',Step B d ζ num s e1 dd H' ⟨.own s.rows.length,()⟩ { s with rows:=zAz d (refsOf (l.map (·.2))) 0 s.rows ++ [(d,.many u xs)] } ζ' num' H'' -> C e1 dd H') :
  ∃ e1 H1,(WeakS e H e1 H1 /\ ∃ rf,e1 = zCn num { s with rows:=rf }) /\ zBn P t n (ps.toList.map fun p=>(p.1,ev e1 p.2)) H1 (C e1):=by
 simp only [yAB,yAP,beq_iff_eq,decide_eq_true_eq] at hb
 obtain ⟨⟨⟨⟨⟨hzw,hue⟩,hnum⟩,hsz⟩,hzero⟩,hall⟩:=hb
 obtain ⟨ha1,hw1⟩:=fr_abs ha (zBt d (refsOf (l.map (·.2))) s.rows)
 have hle1:=fr_Le (ζ:=ζ) (num:=num) (s:=s) d (refsOf (l.map (·.2)))
 have hlen1:=freeze_len d (refsOf (l.map (·.2))) s.rows 0
 generalize zAz d (refsOf (l.map (·.2))) 0 s.rows = rf at *
 obtain ⟨h1,h2⟩:=evPs_sound ha1 (by exact hh) (by exact hl)
 refine ⟨_,_,⟨hw1,rf,rfl⟩,?_⟩
 rw [h1]
 unfold zBn
 rw [hel]
 simp only
 rw [hz]
 have hok:∀ v ∈ l.map (·.2),okV rf v:=fun v hv=>by
  simp only [yBC] at hv
  obtain ⟨p,hp,rfl⟩:=hv
  exact h2 p hp
 obtain ⟨hte,hxl⟩:=convAll_te (num:=num) hue (l.map (·.2)) xs hok hx
 refine ⟨by rw [map_enc_len];exact hnum,hsz,fun _=>hzero,?_,?_⟩
 ·rw [List.all_map,yAR]
  rw [yAR] at hall
  intro p hp
  have:=hall p hp
  simp only [yAB,yAP] at this
  simp only [Function.comp,yAB,beq_iff_eq]
  exact ⟨by rw [enc_width];exact this.2,lies_lies this.1⟩
 ·have hm:n = xs.length:=by
   rw [hxl,yAG]
   have:=congrArg List.length hnum
   simpa using this.symm
  have st:=(list_step (d:=d) (s:={ s with rows:=rf }) ha1 hue hte hm).pre (ζ:=ζ) (num:=num) (s:=s) (fun _=>Tl.refl _) hle1 rfl rfl
  dsimp only at st
  rw [hlen1] at st
  have e2:(l.map fun p=>(p.1,enc (zAB num rf) p.2)).map (·.2) = (l.map (·.2)).map (enc (zAB num rf)):=by simp [Function.comp]
  rw [e2,hzw]
  exact hC _ _ _ _ _ _ st
def makeSlice_sound' {d:Nat} (ha:Abs B ζ num s e H) {t el:TypeId} {z by_:Nat} {u:Ty} {zv:TV} {y:u.I} {a b:Int} {ka kb:IntKind} (hel:zBI P t = some el) (hz:tsz P el = some z) (hby:tby P el = some by_) (hzv:zeroT P el = some zv)
  (hb:(Nat.beq z u.w && u.elem && liesT [] zv && Nat.beq (zAs zv).length z) = true) (hcv:zBK [] u zv = some y) (hmk:mk a b by_ = true) {C:D -> Heap -> Prop}
  (hC:∀ dd H' ζ' num' H'',Step B d ζ num s e dd H' ⟨.own s.rows.length,()⟩ { s with rows:=s.rows ++ [(d,.many u (lrep a y))] } ζ' num' H'' -> C dd H') :
  zCs P t (.v (.int ka a)) (.v (.int kb b)) H C:=by
 simp only [yAB,yAP] at hb
 obtain ⟨⟨⟨hzw,hue⟩,hlies⟩,hk⟩:=hb
 simp only [mk,yAB,decide_eq_true_eq] at hmk
 obtain ⟨⟨⟨h1,h2⟩,h3⟩,h4⟩:=hmk
 obtain ⟨hz1,hz2⟩:=zDK hzv (zAB num s.rows) s.rows
 have hpure:=zeroT_pure hzv
 have hsame:enc (zAB num s.rows) zv = enc (zAB num []) zv:=enc_pure hpure _ _
 have hte:Te (enc (zAB num s.rows) zv) (e0 u y):=by
  rw [hsame];exact conv_te hue (zDK hzv (zAB num []) []).2 hcv
 unfold zCs
 simp only
 rw [hel]
 simp only
 rw [hz,hby,hz1]
 refine ⟨⟨by rw [enc_width];exact hk,by rw [hsame];exact lies_lies hlies,h1,h2,h3,h4⟩,.inr ?_⟩
 have hrep:∀ n:Nat,Tes (List.replicate n (enc (zAB num s.rows) zv)) ((List.replicate n y).map (e0 u)):=by
  intro n
  induction n with
  | zero=>exact .nil
  | succ n ih=>exact .cons hte ih
 rw [hzw]
 exact hC _ _ _ _ _ (list_step ha hue (hrep a.toNat) (by simp [lrep]))
def makeMap_step {d:Nat} (ha:Abs B ζ num s e H) {a b:Ty} (hk:(keq a).isSome = true) (hb:b.pure = true) :
  Step B d ζ num s e (.mp H.length) (H ++ [some (.mp [] 0)]) ⟨.mp s.rows.length,()⟩ { s with rows:=s.rows ++ [(d,.mp a b [])] } (updN ζ s.rows.length (.mp [] 0)) (updN num s.rows.length H.length) (H ++ [some (.mp [] 0)]):=by
 refine push_step ha (SameRel.refl _) ⟨hk,hb,[],0,⟨by rw [zBj,Heap.get_push,if_pos rfl],zBj _ _ _⟩,rfl,.nil,by simp,by simp⟩ (fun t x h=>by cases h) (Tl.of_eq ?_) (by show s.rows.length < _;simp)
 show _ = mpD (updN num s.rows.length H.length s.rows.length) (zAA (s.rows ++ [(d,.mp a b [])]) s.rows.length)
 rw [zBj,zBP];rfl
def Tls_modify {a b:List D} (h:Tls a b) {x y:D} (hxy:Tl x y) (j:Nat):Tls (a.modify j fun _=>x) (b.set j y):=by
 induction h generalizing j with
 | nil=>simp;exact .nil
 | cons h1 h2 ih =>
  cases j with
  | zero=>exact .cons hxy h2
  | succ j=>simp only [List.modify_succ_cons,List.set_cons_succ];exact .cons h1 (ih j)
def map_modify_keys (es:MapD) (kv:Value) (x:D) (j:Nat):(es.modify j fun p=>(p.1,kv,x)).map (·.2.1) = (es.map (·.2.1)).set j kv:=by
 induction es generalizing j with
 | nil=>simp
 | cons p es ih=>cases j <;> simp [List.modify_succ_cons,ih]
def map_modify_vals (es:MapD) (kv:Value) (x:D) (j:Nat):(es.modify j fun p=>(p.1,kv,x)).map (·.2.2) = (es.map (·.2.2)).modify j fun _=>x:=by
 induction es generalizing j with
 | nil=>simp
 | cons p es ih=>cases j <;> simp [List.modify_succ_cons,ih]
def map_modify_born (es:MapD) (kv:Value) (x:D) (j:Nat):(es.modify j fun p=>(p.1,kv,x)).map (·.1) = es.map (·.1):=by
 induction es generalizing j with
 | nil=>simp
 | cons p es ih=>cases j <;> simp [List.modify_succ_cons,ih]
def Tls_erase {a b:List D} (h:Tls a b) (j:Nat):Tls (a.eraseIdx j) (b.eraseIdx j):=by
 induction h generalizing j with
 | nil=>simp;exact .nil
 | cons h1 h2 ih=>cases j with
  | zero=>exact h2
  | succ j=>exact .cons h1 (ih j)
def map_upd {d q:Nat} (ha:Abs B ζ num s e H) {a b:Ty} {l l':List (a.I × b.I)} (hrow:zAA s.rows q = .mp a b l) (hno:zDD q s.rows = true) {es':MapD} {cl':Nat} {v:TV} {dd:D} (hk:es'.map (·.2.1) = l'.map (fun p=>keyV a p.1)) (hv:Tls (es'.map (·.2.2)) (l'.map fun p=>e0 b p.2)) (hlt:∀ p ∈ es',p.1 < cl') (hnd:(es'.map (·.1)).Nodup)
  (hd:∀ ρ,Tl dd (enc ρ v)) (hok:okV s.rows v):Step B d ζ num s e dd (H.set (num q) (some (.mp es' cl'))) v { s with rows:=setRow s.rows q d (.mp a b l') } (updN ζ q (.mp es' cl')) num (H.set (num q) (some (.mp es' cl'))):=by
 have hR:=ha.hrel.row q
 rw [hrow] at hR
 obtain ⟨hke,hbp,es0,cl0,⟨hg,_⟩,_⟩:=hR
 have hql:q < s.rows.length:=zAw (by rw [hrow];simp)
 exact set_stepZ ha hql (SameRel.refl _) (by rw [hrow];rfl) ⟨hke,hbp,es',cl',⟨by rw [Heap.get_set H (Heap.get_lt hg),if_pos rfl],zBj _ _ _⟩,hk,hv,hlt,hnd⟩ (by rw [hrow];exact ref_mp _) (fun h=>by simp [zAS] at h) (fun t x h=>by cases h) (fun _ _ _ _=>hno) (hd _) hok
def mapUpdate_sound' {d:Nat} (ha:Abs B ζ num s e H) {t:TypeId} {q:Nat} {a b b0:Ty} {eq:a.I -> a.I -> Bool} {l:List (a.I × b.I)} {kx vx:TV} {ky:a.I} {vy:b.I} {ym:(Ty.mp q).I} (hrow:zAA s.rows q = .mp a b l) (he:keq a = some eq) (hkx:zBK [] a kx = some ky) (hvx:zBK s.rows b vx = some vy) (hox:okV s.rows vx) (hmt:mapT P t = some (a,b0)) (hno:zDD q s.rows = true) {C:D -> Heap -> Prop}
  (hC:∀ dd H' ζ' num' H'',Step B d ζ num s e dd H' ⟨.any,()⟩ { s with rows:=setRow s.rows q d (.mp a b (mput eq l ky vy)) } ζ' num' H'' -> C dd H') :
  zBx P t (enc (zAB num s.rows) ⟨.mp q,ym⟩) (enc (zAB num s.rows) kx) (enc (zAB num s.rows) vx) H C:=by
 obtain ⟨kt,et,kd,h1,h2,h3⟩:=mapT_some hmt
 obtain ⟨hu1,hu2,hkk⟩:=tmap_some h1
 have hR:=ha.hrel.row q
 rw [hrow] at hR
 obtain ⟨hke,hbp,es,cl,⟨hg,_⟩,hk1,hv1,hlt,hnd⟩:=hR
 have hq:enc (zAB num s.rows) ⟨.mp q,ym⟩ = .mp (num q):=by
  show mpD (num q) (zAA s.rows q) = _
  rw [hrow];rfl
 have hval:Tl (enc (zAB num s.rows) vx) (e0 b vy):=convS_tl hox hvx
 unfold zBx
 rw [h1,conv_key hke hkx (zAB num s.rows),hq]
 simp only [hg]
 rcases findD_sound (v:=b) (key_same hu2 hkk h2 he) ky vy es l 0 hk1 hv1 with ⟨g1,g2,g3,g4,g5⟩ | ⟨j,g1,g2,⟨x,p,g3,g4,g5⟩,g6,g7,g8⟩
 ·rw [g1]
  simp only [updM]
  refine hC _ _ _ num _ (map_upd ha hrow hno ?_ ?_ ?_ ?_ (fun ρ=>Tl.any _) trivial)
  ·rw [g4];simp [hk1]
  ·rw [g4];simp only [yAV,yAL,yBM];exact hv1.app (.cons hval .nil)
  ·intro p hp
   simp only [yAO,yAE,yAf,or_false] at hp
   rcases hp with hp | rfl
   ·have:=hlt p hp;omega
   ·exact Nat.lt_succ_self _
  ·simp only [yAV,yAL,yBM]
   rw [List.nodup_append]
   refine ⟨hnd,by simp,fun x hx y hy=>?_⟩
   simp only [yAE,yAf,or_false] at hy
   subst hy
   simp only [yBC] at hx
   obtain ⟨p,hp,rfl⟩:=hx
   exact Nat.ne_of_lt (hlt p hp)
 ·rw [g1]
  simp only [updM,yAT]
  refine hC _ _ _ num _ (map_upd ha hrow hno ?_ ?_ ?_ ?_ (fun ρ=>Tl.any _) trivial)
  ·rw [g6,map_modify_keys,hk1,List.map_set]
  ·rw [g6,map_modify_vals,List.map_set];exact Tls_modify hv1 hval j
  ·intro p hp
   have:p.1 ∈ (es.modify j fun p=>(p.1,keyV a ky,enc (zAB num s.rows) vx)).map (·.1):=yAg (f:=(·.1)) hp
   rw [map_modify_born] at this
   simp only [yBC] at this
   obtain ⟨p',hp',he'⟩:=this
   rw [<- he'];exact hlt p' hp'
  ·rw [map_modify_born];exact hnd
def delete_sound' {d:Nat} (ha:Abs B ζ num s e H) {t:TypeId} {ts:Array TypeId} {q:Nat} {a b b0:Ty} {eq:a.I -> a.I -> Bool} {l:List (a.I × b.I)} {kx:TV} {ky:a.I} {ym:(Ty.mp q).I} (ht:ts[0]? = some t) (hrow:zAA s.rows q = .mp a b l) (he:keq a = some eq) (hkx:zBK [] a kx = some ky) (hmt:mapT P t = some (a,b0)) (hno:zDD q s.rows = true) {C:D -> Heap -> Prop}
  (hC:∀ dd H' ζ' num' H'',Step B d ζ num s e dd H' ⟨.tup .unit,()⟩ { s with rows:=setRow s.rows q d (.mp a b (mdel eq l ky)) } ζ' num' H'' -> C dd H') :
  aDelete P ts (enc (zAB num s.rows) ⟨.mp q,ym⟩) (enc (zAB num s.rows) kx) H C:=by
 obtain ⟨kt,et,kd,h1,h2,h3⟩:=mapT_some hmt
 obtain ⟨hu1,hu2,hkk⟩:=tmap_some h1
 have hR:=ha.hrel.row q
 rw [hrow] at hR
 obtain ⟨hke,hbp,es,cl,⟨hg,_⟩,hk1,hv1,hlt,hnd⟩:=hR
 have hq:enc (zAB num s.rows) ⟨.mp q,ym⟩ = .mp (num q):=by
  show mpD (num q) (zAA s.rows q) = _
  rw [hrow];rfl
 unfold aDelete
 rw [ht,yBP,h1,conv_key hke hkx (zAB num s.rows),hq]
 simp only [hg]
 rcases findD_sound (v:=b) (key_same hu2 hkk h2 he) ky b.dv es l 0 hk1 hv1 with ⟨g1,g2,g3,g4,g5⟩ | ⟨j,g1,g2,⟨x,p,g3,g4,g5⟩,g6,g7,g8⟩
 ·rw [g1]
  simp only
  exact hC _ _ _ num _ (map_upd ha hrow hno (by rw [g5];exact hk1) (by rw [g5];exact hv1) hlt hnd (fun ρ=>Tl.refl _) trivial)
 ·rw [g1]
  simp only [yAT]
  refine hC _ _ _ num _ (map_upd ha hrow hno ?_ ?_ (fun p hp=>hlt p (List.mem_of_mem_eraseIdx hp)) ?_ (fun ρ=>Tl.refl _) trivial)
  ·rw [g7,zDE,hk1,<- zDE]
  ·rw [g7,zDE,zDE];exact Tls_erase hv1 j
  ·rw [zDE];exact hnd.eraseIdx j
end
end Go.T
namespace Go.T
open Go.Ab
variable [Go.Ab.DM]
section
variable {P:Program} {B:Base} {ζ ζ':Nat -> Row} {num num':Nat -> Nat} {rows rows':Rows} {s:St} {e:Env} {H H' H'':Heap} {R:Type} {r:R}
def splice_map {u:Ty} (l ys:List u.I) (p n:Nat):splice (l.map (e0 u)) p ((ys.map (e0 u)).take n) = (lsplice l p (zCI ys 0 n)).map (e0 u):=by
 simp only [splice,lsplice,zCI,yBD,yAV,List.map_take,List.map_drop,yAU,yAG]
def copy_step {d q:Nat} (ha:Abs B ζ num s e H) {t el:TypeId} {ts:Array TypeId} {u:Ty} {l ys:List u.I} {b:TV} {a:TV} {i m:Nat} (ht:ts[0]? = some t) (hel:zBI P t = some el) (hz:tsz P el = some u.w) (hrow:zAA s.rows q = .many u l) (hb:okV s.rows b) (hys:elemsT s.rows u b = some ys) (hD:enc (zAB num s.rows) a = .sl (num q) i m) (him:i + m <= l.length) {C:D -> Heap -> Prop}
  (hC:∀ dd H' ζ' num' H'',Step B d ζ num s e dd H' ⟨.int .i64,n2i (nmin (zAE ys) m)⟩ { s with rows:=setRow s.rows q d (.many u (lsplice l i (zCI ys 0 (nmin (zAE ys) m)))) } ζ' num' H'' -> C dd H') :
  aCopy P ts (enc (zAB num s.rows) a) (enc (zAB num s.rows) b) H C:=by
 have hR:=ha.hrel.row q
 rw [hrow] at hR
 have hql:q < s.rows.length:=zAw (by rw [hrow];simp)
 unfold aCopy
 rw [ht]
 simp only
 rw [hel]
 simp only
 rw [hz,hD]
 refine ⟨_,zDU ha.hrel hb hys,?_⟩
 show ∃ xs,H.get (num q) = some (.cells u.w xs) /\ i + m <= xs.length /\ C (.v (.int .i64 (min (ys.map (e0 u)).length m:Nat))) (H.set (num q) (some (.cells u.w (splice xs i ((ys.map (e0 u)).take (min (ys.map (e0 u)).length m))))))
 refine ⟨_,hR.2,by rw [yAG];exact him,?_⟩
 rw [splice_map,yAG]
 have hlen:(lsplice l i (zCI ys 0 (min ys.length m))).length = l.length:=by simp [lsplice,zCI];omega
 refine hC _ _ ζ num (H.set (num q) (some (.cells u.w ((lsplice l i (zCI ys 0 (nmin (zAE ys) m))).map (e0 u))))) (set_step ha hql (SameRel.refl _) (by rw [hrow];rfl) ⟨hR.1,by rw [Heap.get_set H (Heap.get_lt hR.2),if_pos rfl]⟩ (by rw [hrow];exact ref_many _ hlen) (fun _=>by rw [hrow];exact ⟨rfl,hlen⟩) (fun t x h=>by cases h) (fun a b l h=>by rw [hrow] at h;cases h) (Tl.refl _) trivial)
def sit_push {d:Nat} (ha:Abs B ζ num s e H) (b:ByteArray) :
  Step B d ζ num s e (.pt H.length 0 0) (H ++ [some (.sit b 0)]) ⟨.p0 s.rows.length 0,()⟩ { s with rows:=s.rows ++ [(d,.sit b 0)] } (updN ζ s.rows.length (.sit ByteArray.empty 0)) (updN num s.rows.length H.length) (H ++ [some (.sit b 0)]):=by
 refine push_step ha (SameRel.refl _) (by show Heap.get _ _ = _;rw [zBj,Heap.get_push,if_pos rfl]) (fun t x h=>by cases h) (Tl.of_eq ?_) (by show s.rows.length < _;simp)
 show _ = p0D (updN num s.rows.length H.length s.rows.length) 0 (zAA (s.rows ++ [(d,.sit b 0)]) s.rows.length)
 rw [zBj,zBP];rfl
def it_push {d q:Nat} (ha:Abs B ζ num s e H) {a b:Ty} {l:List (a.I × b.I)} (hrow:zAA s.rows q = .mp a b l) {es:MapD} {cl:Nat} (hg:H.get (num q) = some (.mp es cl)) :
  Step B d ζ num s e (.pt H.length 0 0) (H ++ [some (.it (num q) cl [] cl)]) ⟨.p0 s.rows.length 0,()⟩ { s with rows:=s.rows ++ [(d,.itb q)] } (updN ζ s.rows.length (.it (num q) cl [] cl)) (updN num s.rows.length H.length) (H ++ [some (.it (num q) cl [] cl)]):=by
 have hql:q < s.rows.length:=zAw (by rw [hrow];simp)
 refine push_step ha (SameRel.refl _) ⟨by rw [zBj,zBj,Heap.get_push,if_pos rfl],⟨a,b,l,by rw [rowAt_app_lt _ _ q hql];exact hrow⟩,es,cl,?_,by rw [zBj,updN_ne (Nat.ne_of_lt hql)]⟩ (fun t x h=>by cases h) (Tl.of_eq ?_) (by show s.rows.length < _;simp)
 ·rw [updN_ne (Nat.ne_of_lt hql),Heap.get_push,if_neg (Nat.ne_of_lt (Heap.get_lt hg))];exact hg
 ·show _ = p0D (updN num s.rows.length H.length s.rows.length) 0 (zAA (s.rows ++ [(d,.itb q)]) s.rows.length)
  rw [zBj,zBP];rfl
def ref_sit (n:Nat) {b:ByteArray} {p p':Nat}:RefTl n (.sit b p) n (.sit b p'):=⟨Tl.refl _,fun _=>Tl.refl _,fun _=>Tl.refl _,fun _ _=>Tl.refl _,Tl.refl _⟩
def same_step {d:Nat} (ha:Abs B ζ num s e H) {v:TV} {dd:D} (hd:Tl dd (enc (zAB num s.rows) v)) (hv:okV s.rows v):Step B d ζ num s e dd H v s ζ num H :=
 ⟨fun own X w hs=>⟨hs,.refl _ _ _,fun i x hx=>by rw [<- ha.env];exact hx,fun x hx=>hd _ _ _ _ _ hx⟩,by have:=ha;rw [ha.env] at this;exact this,hv,Le.refl _ _ _ _,rfl,rfl⟩
def nextS_sound {d q:Nat} (ha:Abs B ζ num s e H) {b:ByteArray} {p:Nat} (hrow:zAA s.rows q = .sit b p) {k:TV -> St -> Option R} (h:sel (nlt p (ssize b)) (k (tupV [⟨.tt,()⟩,⟨.int .i64,n2i p⟩,⟨.int .i32,rrune b p⟩]) { s with rows:=setRow s.rows q d (.sit b (rnext b p)) }) (k (tupV [⟨.ff,()⟩]) s) = some r) {C:D -> Heap -> Prop}
  (hC:∀ v s' ζ' num' dd H' H'',k v s' = some r -> Step B d ζ num s e dd H' v s' ζ' num' H'' -> C dd H'):aNext true (.pt (num q) 0 0) H C:=by
 have hR:=ha.hrel.row q
 rw [hrow] at hR
 have hR:H.get (num q) = some (.sit b p):=hR
 have hql:q < s.rows.length:=zAw (by rw [hrow];simp)
 unfold aNext
 simp only [hR]
 refine ⟨fun hp=>?_,fun hp=>?_⟩
 ·have h1:nlt p (ssize b) = true:=decide_eq_true hp
  rw [h1] at h
  refine hC _ _ ζ num _ _ (H.set (num q) (some (.sit b (rnext b p)))) h (set_step ha hql (SameRel.refl _) (by rw [hrow];rfl) (by show Heap.get _ _ = _;rw [Heap.get_set H (Heap.get_lt hR),if_pos rfl]) (by rw [hrow];exact ref_sit _) (fun h=>by simp [zAS] at h) (fun t x h=>by cases h) (fun a b l h=>by rw [hrow] at h;cases h) (Tl.of_eq ?_) ?_)
  ·rw [enc_tup];rfl
  ·exact ok_tup _ fun u hu=>by
    simp only [yAE,yAf,or_false] at hu
    rcases hu with rfl | rfl | rfl <;> trivial
 ·have h1:nlt p (ssize b) = false:=decide_eq_false hp
  rw [h1] at h
  refine hC _ _ ζ num _ _ H h (same_step ha (Tl.of_eq ?_) ?_)
  ·rw [enc_tup];rfl
  ·exact ok_tup _ fun u hu=>by
    simp only [yAE,yAf,or_false] at hu
    subst hu;trivial
end
end Go.T
namespace Go.T
open Go.Ab
variable [Go.Ab.DM]
section
variable {P:Program} {Γ:List Con} {B:Base} {ζ ζ':Nat -> Row} {num num':Nat -> Nat} {rows rows':Rows} {s:St} {e:Env} {H H' H'':Heap} {R:Type} {r:R}
def zAa {b:Bool} {x:Option R} (h:(bif b then x else none) = some r):b = true /\ x = some r:=by
 cases b with
 | true=>exact ⟨rfl,h⟩
 | false=>cases h
def iter_none:∀ (rows:Rows) (m:Nat),(∀ z,zAA rows z ≠ .itb m /\ ∀ k v x y,zAA rows z ≠ .ite m k v x y) -> zDD m rows = true
 | [],m,_=>rfl
 | (lv,row) :: l,m,h=>by
  have h0:=h 0
  have ih:=iter_none l m fun z=>h (z + 1)
  simp only [zAA] at h0
  cases row with
  | itb q =>
   simp only [zDD,yAB,yBR,ih,and_true]
   cases hb:Nat.beq q m with
   | true=>rw [yAP] at hb;subst hb;exact absurd rfl h0.1
   | false=>rfl
  | ite q k v x y =>
   simp only [zDD,yAB,yBR,ih,and_true]
   cases hb:Nat.beq q m with
   | true=>rw [yAP] at hb;subst hb;exact absurd rfl (h0.2 k v x y)
   | false=>rfl
  | _=>exact ih
def noIter_fr (hf:FrStep rows rows') {m:Nat} (h:zDD m rows = true):zDD m rows' = true:=by
 refine iter_none rows' m fun z=>⟨fun hz=>?_,fun k v x y hz=>?_⟩
 ·exact set_stepZ.iter_absurd rows m z h (.inl (by rw [<- zBL hf (by rw [hz];rfl),hz]))
 ·exact set_stepZ.iter_absurd rows m z h (.inr ⟨k,v,x,y,by rw [<- zBL hf (by rw [hz];rfl),hz]⟩)
def mapT_at {a:Ty} {o:Option (Ty × Ty)} (h:(match o with | some q=>decide (q.1 = a) | none=>false) = true):∃ b,o = some (a,b):=by
 cases o with
 | none=>cases h
 | some q=>obtain ⟨x,y⟩:=q;have:=of_decide_eq_true h;dsimp only at this;subst this;exact ⟨y,rfl⟩
def weak_same (h:SameRel H H'):WeakS e H e H':=fun own X w hs=>by
 obtain ⟨h1,h2,h3⟩:=h own X w hs
 exact ⟨h1,h2,fun i v hv=>h3 _ _ hv⟩
def heapT_sound {dr:Bool} {d:Nat} (ha:Abs B ζ num s e H) {c:List (Nat × Bool)} (hh:zBB s.gs c = true) {o:Oper} (hcall:isCall o = false) {k:TV -> St -> Option R} (h:heapT P Γ dr d none c s o k = some r) {C:Env -> D -> Heap -> Prop}
  (hC:∀ e1 v s' ζ' num' dd H' H'',k v s' = some r -> Step B d ζ num s e1 dd H' v s' ζ' num' H'' -> C e1 dd H'):∃ e1 H1,(WeakS e H e1 H1 /\ ∃ rf,e1 = zCn num { s with rows:=rf }) /\ zDI P (zAF o) o e1 H1 (C e1):=by
 have hr:=ha.hrel
 obtain ⟨dst,op,ty,pos,after,guard⟩:=o
 cases op with
 | alloc t =>
  simp only [heapT] at h
  split at h
  ·rename_i v hv
   cases hb:liesT s.rows v <;> rw [hb] at h
   ·cases h
   ·obtain ⟨h1,h2⟩:=zDK hv (zAB num s.rows) s.rows
    exact ⟨e,H,⟨WeakS.refl _ _,s.rows,ha.env⟩,_,h1,lies_lies hb,hC _ _ _ _ _ _ _ _ h (var_step ha h2 hb)⟩
  ·cases h
 | box t x =>
  simp only [heapT] at h
  split at h
  ·rename_i v hv
   cases hb:liesT s.rows v <;> rw [hb] at h
   ·cases h
   ·obtain ⟨h1,h2⟩:=zAP ha hh hv
    refine ⟨e,H,⟨WeakS.refl _ _,s.rows,ha.env⟩,?_⟩
    show aBox (ev e x) H (C e)
    rw [h1]
    exact ⟨lies_lies hb,hC _ _ _ _ _ _ _ _ h (var_step ha h2 hb)⟩
  ·cases h
 | buildSlice t n ps =>
  simp only [heapT] at h
  split at h
  ·rename_i el hel
   split at h
   ·rename_i u z l hu hz hl
    cases hb:(Nat.beq z u.w && u.elem && (l.map (·.1) == List.range n) && decide (n * z <= 16777216) && ((P.info? el).bind (·.zero)).isSome && l.all (fun p=>liesT (zAz d (refsOf (l.map (·.2))) 0 s.rows) p.2 && Nat.beq (zAs p.2).length z)) <;> rw [hb] at h
    ·cases h
    ·rw [cond_true] at h
     split at h
     ·rename_i xs hxs
      exact buildSlice_sound' ha hh hel hz hl hb hxs fun e1 dd H' ζ' num' H'' hs=>hC _ _ _ _ _ _ _ _ h hs
     ·cases h
   ·cases h
  ·cases h
 | makeSlice t l cp =>
  simp only [heapT] at h
  split at h
  ·rename_i ka a kb b el h1 h2 hel
   split at h
   ·rename_i u z by_ zv hu hz hby hzv
    cases hb:(Nat.beq z u.w && u.elem && liesT [] zv && Nat.beq (zAs zv).length z) <;> rw [hb] at h
    ·cases h
    ·rw [cond_true] at h
     split at h
     ·rename_i y hy
      obtain ⟨hm,h⟩:=need_some h
      refine ⟨e,H,⟨WeakS.refl _ _,s.rows,ha.env⟩,?_⟩
      show zCs P t (ev e l) (ev e cp) H (C e)
      rw [(zAP ha hh h1).1,(zAP ha hh h2).1]
      exact makeSlice_sound' ha hel hz hby hzv hb hy hm fun dd H' ζ' num' H'' hs=>hC _ _ _ _ _ _ _ _ h hs
     ·cases h
   ·cases h
  ·cases h
 | makeMap t x =>
  simp only [heapT] at h
  split at h
  ·rename_i a b kk n hm hx
   cases hb:((keq a).isSome && b.pure) <;> rw [hb] at h
   ·cases h
   ·rw [cond_true] at h
    simp only [yAB] at hb
    obtain ⟨kt,et,kd,h1,h2,h3⟩:=mapT_some hm
    refine ⟨e,H,⟨WeakS.refl _ _,s.rows,ha.env⟩,⟨?_,hC _ _ _ _ _ _ _ _ h (makeMap_step ha hb.1 hb.2)⟩⟩
    cases x with
    | none=>trivial
    | some x =>
     show match (some (ev e x):Option D) with | none=>True | some (.v (.int _ _))=>(tmap P t).isSome = true | _=>False
     have hx:evT s.env c x = some ⟨.int kk,n⟩:=hx
     rw [(zAP ha hh hx).1]
     show (tmap P t).isSome = true
     rw [h1];rfl
  ·cases h
 | store t a x =>
  simp only [heapT] at h
  split at h
  ·rename_i va vx hva hvx
   split at h
   ·rename_i rows' hst
    exact storeT_sound ha hh hva hvx hst fun e1 dd H' ζ' num' H'' hs=>hC _ _ _ _ _ _ _ _ h hs
   ·cases h
  ·cases h
 | mapUpdate t m key x =>
  simp only [heapT] at h
  split at h
  ·rename_i q ym kx vx hm hkx hvx
   split at h
   ·rename_i a b l hrow
    split at h
    ·rename_i eq ky vy heq hky hvy
     obtain ⟨hb,h⟩:=zAa h
     rw [yAB] at hb
     obtain ⟨hb1,hno⟩:=hb
     ·obtain ⟨qb,hq2⟩:=mapT_at hb1
      ·obtain ⟨ha1,hw1⟩:=fr_abs ha (zBt d vx.t.refs s.rows)
       have hno1:=noIter_fr (zBt d vx.t.refs s.rows) hno
       have hle1:=fr_Le (ζ:=ζ) (num:=num) (s:=s) d vx.t.refs
       generalize zAz d vx.t.refs 0 s.rows = rf at *
       obtain ⟨g1,g2⟩:=zAP ha1 (by exact hh) (by exact hvx)
       refine ⟨_,_,⟨hw1,rf,rfl⟩,?_⟩
       show zBx P t (ev _ m) (ev _ key) (ev _ x) _ _
       rw [(zAP ha1 (by exact hh) (by exact hm)).1,(zAP ha1 (by exact hh) (by exact hkx)).1,g1]
       exact mapUpdate_sound' (d:=d) (s:={ s with rows:=rf }) ha1 hrow heq hky hvy g2 hq2 hno1 fun dd H' ζ' num' H'' hs=>hC _ _ _ _ _ _ _ _ h (hs.pre (ζ:=ζ) (num:=num) (s:=s) (fun _=>Tl.refl _) hle1 rfl rfl)
    ·cases h
   ·cases h
  ·cases h
 | range t x =>
  simp only [heapT] at h
  split at h
  ·rename_i b hu hx
   refine ⟨e,H,⟨WeakS.refl _ _,s.rows,ha.env⟩,?_⟩
   show aRange P t (ev e x) H (C e)
   rw [(zAP ha hh hx).1]
   unfold aRange
   rw [hu]
   exact hC _ _ _ _ _ _ _ _ h (sit_push ha b)
  ·rename_i k1 v1 q ym hu hx
   split at h
   ·rename_i a b l hrow
    have hR:=hr.row q
    rw [hrow] at hR
    obtain ⟨hke,hbp,es,cl,⟨hg,_⟩,_⟩:=hR
    refine ⟨e,H,⟨WeakS.refl _ _,s.rows,ha.env⟩,?_⟩
    show aRange P t (ev e x) H (C e)
    rw [(zAP ha hh hx).1]
    unfold aRange
    rw [hu,show enc (zAB num s.rows) ⟨.mp q,ym⟩ = .mp (num q) from by show mpD (num q) (zAA s.rows q) = _;rw [hrow];rfl]
    simp only [hg]
    exact hC _ _ _ _ _ _ _ _ h (it_push ha hrow hg)
   ·cases h
  ·cases h
 | next it str =>
  simp only [heapT] at h
  split at h
  ·rename_i q y hit
   split at h
   ·rename_i b p hrow
    refine ⟨e,H,⟨WeakS.refl _ _,s.rows,ha.env⟩,?_⟩
    show aNext true (ev e it) H (C e)
    rw [(zAP ha hh hit).1,show enc (zAB num s.rows) ⟨.p0 q 0,y⟩ = .pt (num q) 0 0 from by show p0D (num q) 0 (zAA s.rows q) = _;rw [hrow];rfl]
    exact nextS_sound ha hrow h fun v s' ζ' num' dd H' H'' hk hs=>hC _ _ _ _ _ _ _ _ hk hs
   ·cases h
  ·cases h
 | call cl =>
  obtain ⟨f,args,ts⟩:=cl
  cases f with
  | builtin b =>
   cases b with
   | append =>
    simp only [heapT] at h
    split at h
    ·rename_i a b t t1 hargs ht0 ht1
     obtain ⟨g1,g2⟩:=zCa ha hh hargs
     obtain ⟨H1,hw,hA⟩:=appendT_sound (C:=C e) ha ht0 ht1 (g2 a (by simp)) (g2 b (by simp)) h fun v s' ζ' num' dd H' H'' hk hs=>hC _ _ _ _ _ _ _ _ hk hs
     refine ⟨e,H1,⟨weak_same hw,s.rows,ha.env⟩,?_⟩
     show zBD P ts (args.toList.map (ev e)) H1 (C e)
     rw [g1];exact hA
    ·cases h
   | copy =>
    simp only [heapT] at h
    split at h
    ·rename_i a b t hargs ht0
     obtain ⟨g1,g2⟩:=zCa ha hh hargs
     have ga:=g2 a (by simp)
     have gb:=g2 b (by simp)
     refine ⟨e,H,⟨WeakS.refl _ _,s.rows,ha.env⟩,?_⟩
     show aCopyL P ts (args.toList.map (ev e)) H (C e)
     rw [g1]
     show aCopy P ts (enc (zAB num s.rows) a) (enc (zAB num s.rows) b) H (C e)
     split at h
     ·rename_i el hel
      split at h
      ·rename_i q y
       split at h
       ·rename_i u l hrow
        split at h
        ·rename_i ys hys
         cases hb:szOk P t el u <;> rw [hb] at h
         ·cases h
         ·rw [cond_true] at h
          refine copy_step ha ht0 hel (sz_ok hb) hrow gb hys (i:=0) (m:=l.length) ?_ (by omega) fun dd H' ζ' num' H'' hs=>hC _ _ _ _ _ _ _ _ h hs
          show ownD (num q) (zAA s.rows q) = _
          rw [hrow];rfl
        ·cases h
       ·cases h
      ·rename_i q y
       split at h
       ·rename_i u l hrow
        split at h
        ·rename_i ys hys
         cases hb:szOk P t el u <;> rw [hb] at h
         ·cases h
         ·rw [cond_true] at h
          have hbound:y.1 + y.2 <= l.length:=by
           have:=ga.2
           rw [hrow] at this
           exact this rfl
          refine copy_step ha ht0 hel (sz_ok hb) hrow gb hys (i:=y.1) (m:=y.2) ?_ hbound fun dd H' ζ' num' H'' hs=>hC _ _ _ _ _ _ _ _ h hs
          show subD (num q) y (zAA s.rows q) = _
          rw [hrow];rfl
        ·cases h
       ·cases h
      ·cases h
     ·cases h
    ·cases h
   | delete =>
    simp only [heapT] at h
    split at h
    ·rename_i q ym kx t hargs ht0
     obtain ⟨g1,g2⟩:=zCa ha hh hargs
     refine ⟨e,H,⟨WeakS.refl _ _,s.rows,ha.env⟩,?_⟩
     show aDeleteL P ts (args.toList.map (ev e)) H (C e)
     rw [g1]
     show aDelete P ts (enc (zAB num s.rows) ⟨.mp q,ym⟩) (enc (zAB num s.rows) kx) H (C e)
     split at h
     ·rename_i a b l hrow
      split at h
      ·rename_i eq ky heq hky
       obtain ⟨hb,h⟩:=zAa h
       rw [yAB] at hb
       obtain ⟨hb1,hno⟩:=hb
       ·obtain ⟨qb,hq2⟩:=mapT_at hb1
        ·exact delete_sound' ha ht0 hrow heq hky hq2 hno fun dd H' ζ' num' H'' hs=>hC _ _ _ _ _ _ _ _ h hs
      ·cases h
     ·cases h
    ·cases h
   | _=>cases h
  | value f=>cases hcall
  | _=>cases h
 | _=>cases h
end
end Go.T
namespace Go.Ab
variable [Go.Ab.DM]
mutual
def D.nomem:D -> Bool
 | .agg cs=>zCc cs
 | .tup cs=>zCc cs
 | .fz _ _=>false
 | .fp _ _ _ _=>false
 | .fn _ fs cs=>zCc fs && zCc cs
 | .ifc _ d=>d.nomem
 | _=>true
def zCc:List D -> Bool
 | []=>true
 | d :: ds=>d.nomem && zCc ds
end
section
variable {own:Nat -> Own} {U U':Nat -> Prop} {w:World} {n:Nat}
mutual
def VRel_nomem:∀ (d:D) (x:Value),d.nomem = true -> VRel own U w n d x -> VRel own U' w n d x
 | .v x,val,hn,h=>by simpa [VRel] using h
 | .agg cs,val,hn,h=>by rw [VRel] at h ⊢;obtain ⟨vs,h1,h2⟩:=h;exact ⟨vs,h1,VRels_nomem cs vs hn h2⟩
 | .tup cs,val,hn,h=>by rw [VRel] at h ⊢;obtain ⟨vs,h1,h2⟩:=h;exact ⟨vs,h1,VRels_nomem cs vs hn h2⟩
 | .fz k xs,val,hn,h=>by simp [D.nomem] at hn
 | .fp k xs i o,val,hn,h=>by simp [D.nomem] at hn
 | .sl r i m,val,hn,h=>by simpa [VRel] using h
 | .slc r i m c,val,hn,h=>by simpa [VRel] using h
 | .pt r i o,val,hn,h=>by simpa [VRel] using h
 | .fn f fs cs,val,hn,h=>by
  simp only [D.nomem,yAB] at hn
  rw [VRel] at h ⊢;obtain ⟨vs,us,h1,h2,h3⟩:=h;exact ⟨vs,us,h1,VRels_nomem fs vs hn.1 h2,VRels_nomem cs us hn.2 h3⟩
 | .ifc t d,val,hn,h=>by rw [VRel] at h ⊢;obtain ⟨x,h1,h2⟩:=h;exact ⟨x,h1,VRel_nomem d x hn h2⟩
 | .mp r,val,hn,h=>by simpa [VRel] using h
 | .any,val,hn,h=>by rw [VRel];trivial
termination_by d=>SizeOf.sizeOf d
def VRels_nomem:∀ (ds:List D) (xs:List Value),zCc ds = true -> VRels own U w n ds xs -> VRels own U' w n ds xs
 | [],xs,hn,h=>by simpa [VRels] using h
 | d :: ds,xs,hn,h=>by
  simp only [zCc,yAB] at hn
  rw [VRels] at h ⊢;obtain ⟨x,ys,h1,h2,h3⟩:=h
  exact ⟨x,ys,h1,VRel_nomem d x hn.1 h2,VRels_nomem ds ys hn.2 h3⟩
termination_by ds=>SizeOf.sizeOf ds
end
def Flat_nomem:∀ (ds:List D) (b off:Nat),zCc ds = true -> Flat own U w n ds b off -> Flat own U' w n ds b off
 | [],b,off,hn,h=>by simp [Flat]
 | d :: ds,b,off,hn,h=>by
  simp only [zCc,yAB] at hn
  rw [Flat] at h ⊢
  obtain ⟨h0,⟨x,h1,h2⟩,h3⟩:=h
  exact ⟨h0,⟨x,h1,VRel_nomem d x hn.1 h2⟩,Flat_nomem ds b (off + 1) hn.2 h3⟩
def nomems_cells (d:D):zCc d.cells = d.nomem:=by cases d <;> simp [D.cells,zCc,D.nomem]
def Cells_nomem {k:Nat}:∀ (ds:List D) (b off:Nat),zCc ds = true -> Cells own U w n k ds b off -> Cells own U' w n k ds b off
 | [],b,off,hn,h=>by simp [Cells]
 | d :: ds,b,off,hn,h=>by
  simp only [zCc,yAB] at hn
  rw [Cells] at h ⊢
  refine ⟨?_,Cells_nomem ds b (off + k) hn.2 h.2⟩
  have h1:=h.1
  rw [zCe] at h1 ⊢
  exact ⟨h1.1,Flat_nomem _ b off (by rw [nomems_cells];exact hn.1) h1.2⟩
def Row.nomem:Row -> Bool
 | .cells _ xs=>zCc xs
 | .mp es _=>zCc (es.map (·.2.2))
 | .bx d=>d.nomem
 | _=>true
def RowOk_nomem {o:Own} {row:Row} (hn:row.nomem = true) (h:RowOk own n U w o row):RowOk own n U' w o row:=by
 cases row with
 | cells k xs =>
  obtain ⟨h1,c,t,h2,h3,h4,h5⟩:=h
  exact ⟨h1,c,t,h2,h3,h4,Cells_nomem xs _ _ hn h5⟩
 | mp es cl =>
  obtain ⟨en,h1,h2,h3⟩:=h
  exact ⟨en,h1,h2,VRels_nomem _ _ hn h3⟩
 | it m since seen last=>exact h
 | sit s pos=>exact h
 | bx d=>obtain ⟨h1,x,t,h2,h3⟩:=h;exact ⟨h1,x,t,h2,VRel_nomem d x hn h3⟩
end
def maskH (S:Nat -> Bool) (H:Heap):Heap:=H.mapIdx fun i o=>bif S i then o else none
def mask_len (S:Nat -> Bool) (H:Heap):(maskH S H).length = H.length:=by simp [maskH]
def mask_get (S:Nat -> Bool) (H:Heap) (r:Nat):(maskH S H).get r = if S r = true then H.get r else none:=by
 unfold maskH Heap.get
 rw [List.getElem?_mapIdx]
 cases H[r]? with
 | none=>simp
 | some o=>cases hS:S r <;> simp [hS]
section
variable {P:Program} {f:FuncId} {own own':Nat -> Own} {H Hf H1 H2:Heap} {X:Nat -> Prop} {w w':World} {S:Nat -> Bool}
def hidX (own:Nat -> Own) (Hf:Heap) (X:Nat -> Prop) (S:Nat -> Bool):Nat -> Prop:=fun b=>X b \/ ∃ r row,S r = false /\ Hf.get r = some row /\ (own r).b = b
def hid_unowned (hf:Sim own Hf X w) (b:Nat):zAQ own (maskH S Hf) (hidX own Hf X S) w b ↔ zAQ own Hf X w b:=by
 constructor
 ·rintro ⟨h1,h2,h3⟩
  refine ⟨h1,fun hx=>h2 (.inl hx),fun r row h4 h5=>?_⟩
  cases hS:S r with
  | true=>exact h3 r row (by rw [mask_get,if_pos hS];exact h4) h5
  | false=>exact h2 (.inr ⟨r,row,hS,h4,h5⟩)
 ·rintro ⟨h1,h2,h3⟩
  refine ⟨h1,fun hx=>?_,fun r row h4 h5=>?_⟩
  ·rcases hx with hx | ⟨r,row,h4,h5,h6⟩
   ·exact h2 hx
   ·exact h3 r row h5 h6
  ·rw [mask_get] at h4
   split at h4
   ·exact h3 r row h4 h5
   ·cases h4
def hid_keeps (hf:Sim own Hf X w):Keeps own Hf.length (zAQ own Hf X w) w own (maskH S Hf).length (zAQ own (maskH S Hf) (hidX own Hf X S) w) w :=
 ⟨by rw [mask_len];exact yAJ _,fun _ _=>rfl,fun b hb=>(hid_unowned hf b).2 hb,fun _ _ _=>rfl⟩
def hid_sim (hf:Sim own Hf X w):Sim own (maskH S Hf) (hidX own Hf X S) w:=by
 refine ⟨fun r row h=>?_,fun r r' row row' h1 h2 hne=>?_,fun b hb=>?_⟩
 ·rw [mask_get] at h
  split at h
  ·rename_i hS
   obtain ⟨h1,h2⟩:=hf.live r row h
   refine ⟨RowOk.mono (hid_keeps hf) rfl h1,fun hx=>?_⟩
   rcases hx with hx | ⟨r',row',h3,h4,h5⟩
   ·exact h2 hx
   ·refine hf.excl r' r row' row h4 h (fun he=>?_) h5
    subst he;rw [hS] at h3;cases h3
  ·cases h
 ·rw [mask_get] at h1 h2
  split at h1 <;> split at h2 <;> first | cases h1;done | cases h2;done | exact hf.excl r r' row row' h1 h2 hne
 ·rcases hb with hb | ⟨r,row,h1,h2,rfl⟩
  ·exact hf.hid b hb
  ·exact (hf.live r row h2).1.lt
structure Over (H Hf H1:Heap) (S:Nat -> Bool) (dd:D) (H2:Heap):Prop where
 len:H2.length = H1.length
 rows:∀ r row,H2.get r = some row -> (r < H.length /\ S r = false /\ H.get r = some row) \/ (H1.get r = some row /\ (row.nomem = true \/ ∀ r row,H.get r = some row -> ∃ row',Hf.get r = some row'))
 lent:dd.nomem = true \/ ∀ r row,H.get r = some row -> ∃ row',Hf.get r = some row'
def hid_out {dd:D} {v:Value} (hs:Sim own H X w) (hf:Sim own Hf X w) (hlen:Hf.length = H.length) (hsub:∀ r row,Hf.get r = some row -> ∃ row',H.get r = some row')
  (h1:Sim own' H1 (hidX own Hf X S) w') (hx:Ext (hidX own Hf X S) own (maskH S Hf) w own' H1 w') (hv:Rel own' H1 (hidX own Hf X S) w' dd v) (ho:Over H Hf H1 S dd H2) :
  Sim own' H2 X w' /\ Rel own' H2 X w' dd v /\ Ext X own H w own' H2 w':=by
 have hn:H.length <= H2.length:=by rw [ho.len,<- hlen,<- mask_len S Hf];exact hx.hn
 have hown:∀ r,r < H.length -> own' r = own r:=fun r hr=>hx.ho r (by rw [mask_len,hlen];exact hr)
 have hcase:∀ r row,S r = false -> H.get r = some row -> (hidX own Hf X S (own r).b \/ zAQ own Hf X w (own r).b):=fun r row hS hg=>by
  cases hfr:Hf.get r with
  | some row'=>exact .inl (.inr ⟨r,row',hS,hfr,rfl⟩)
  | none =>
   refine .inr ⟨(hs.live r row hg).1.lt,(hs.live r row hg).2,fun r' row' h2 h3=>?_⟩
   obtain ⟨row2,h4⟩:=hsub r' row' h2
   refine hs.excl r' r row2 row h4 hg (fun he=>?_) h3
   subst he;rw [hfr] at h2;cases h2
 have hsame:∀ b,hidX own Hf X S b \/ zAQ own Hf X w b -> w'.heap[b]? = w.heap[b]?:=fun b hb=>by
  rcases hb with hb | hb
  ·exact hx.hx b hb
  ·exact (hx.hb b ((hid_unowned hf b).2 hb)).2
 have hnot:∀ b,hidX own Hf X S b \/ zAQ own Hf X w b -> ∀ r row,H1.get r = some row -> (own' r).b ≠ b:=fun b hb r row hg he=>by
  rcases hb with hb | hb
  ·exact (h1.live r row hg).2 (by rw [he];exact hb)
  ·exact (hx.hb b ((hid_unowned hf b).2 hb)).1.2.2 r row hg he
 have hUf:∀ b,zAQ own H X w b -> zAQ own Hf X w b:=fun b hb=>⟨hb.1,hb.2.1,fun r row h2 h3=>by
  obtain ⟨row',h4⟩:=hsub r row h2
  exact hb.2.2 r row' h4 h3⟩
 have hU:∀ b,zAQ own H X w b -> zAQ own' H2 X w' b:=fun b hb=>by
  refine ⟨yAd hb.1 hx.size,hb.2.1,fun r row h2 h3=>?_⟩
  rcases ho.rows r row h2 with ⟨h4,h5,h6⟩ | ⟨h4,_⟩
  ·rw [hown r h4] at h3;exact hb.2.2 r row h6 h3
  ·exact hnot b (.inr (hUf b hb)) r row h4 h3
 have hk:Keeps own H.length (zAQ own H X w) w own' H2.length (zAQ own' H2 X w') w':=⟨hn,hown,hU,fun b hb=>zCD (hsame b (.inr (hUf b hb)))⟩
 have hU1:(∀ r row,H.get r = some row -> ∃ row',Hf.get r = some row') -> ∀ b,zAQ own' H1 (hidX own Hf X S) w' b -> zAQ own' H2 X w' b:=fun hz b hb=>by
  refine ⟨hb.1,fun hxb=>hb.2.1 (.inl hxb),fun r row h2 h3=>?_⟩
  rcases ho.rows r row h2 with ⟨h4,h5,h6⟩ | ⟨h4,_⟩
  ·obtain ⟨row',h7⟩:=hz r row h6
   exact hb.2.1 (.inr ⟨r,row',h5,h7,by rw [<- hown r h4];exact h3⟩)
  ·exact hb.2.2 r row h4 h3
 refine ⟨⟨fun r row h2=>?_,fun r r' row row' h2 h3 hne=>?_,fun b hb=>yAd (hs.hid b hb) hx.size⟩,?_,⟨hx.size,hn,hown,fun b hb=>⟨hU b hb,hsame b (.inr (hUf b hb))⟩,fun b hb=>hx.hx b (.inl hb),hx.st⟩⟩
 ·rcases ho.rows r row h2 with ⟨h4,h5,h6⟩ | ⟨h4,h4n⟩
  ·obtain ⟨h7,h8⟩:=hs.live r row h6
   rw [hown r h4]
   exact ⟨RowOk.mono hk (hsame _ (hcase r row h5 h6)) h7,h8⟩
  ·obtain ⟨h7,h8⟩:=h1.live r row h4
   refine ⟨?_,fun hxb=>h8 (.inl hxb)⟩
   rcases h4n with hz | hz
   ·rw [ho.len];exact RowOk_nomem hz h7
   ·exact RowOk.mono ⟨by rw [ho.len];exact yAJ _,fun _ _=>rfl,hU1 hz,fun _ _ _=>rfl⟩ rfl h7
 ·rcases ho.rows r row h2 with ⟨h4,h5,h6⟩ | ⟨h4,_⟩ <;> rcases ho.rows r' row' h3 with ⟨g4,g5,g6⟩ | ⟨g4,_⟩
  ·rw [hown r h4,hown r' g4];exact hs.excl r r' row row' h6 g6 hne
  ·rw [hown r h4];exact (hnot _ (hcase r row h5 h6) r' row' g4).symm
  ·rw [hown r' g4];exact hnot _ (hcase r' row' g5 g6) r row h4
  ·exact h1.excl r r' row row' h4 g4 hne
 ·rcases ho.lent with hz | hz
  ·show VRel own' _ w' H2.length dd v
   rw [ho.len];exact VRel_nomem dd v hz hv
  ·exact VRel.mono (n:=H1.length) (n':=H2.length) ⟨by rw [ho.len];exact yAJ _,fun _ _=>rfl,hU1 hz,fun _ _ _=>rfl⟩ _ _ hv
def Rels_hid (hf:Sim own Hf X w) {ds:List D} {vs:List Value} (h:zCL own Hf X w ds vs):zCL own (maskH S Hf) (hidX own Hf X S) w ds vs:=VRels.mono (hid_keeps hf) ds vs h
def Sound.hide {ds0 ds:List D} {R R':D -> Heap -> Prop} (h:Sound P f ds (maskH S Hf) R) (hlen:Hf.length = H.length) (hsub:∀ r row,Hf.get r = some row -> ∃ row',H.get r = some row')
  (hrel:∀ own X w,Sim own H X w -> Sim own Hf X w /\ ∀ vs,zCL own H X w ds0 vs -> zCL own Hf X w ds vs) (hR:∀ dd H1,(maskH S Hf).length <= H1.length -> R dd H1 -> ∃ H2,Over H Hf H1 S dd H2 /\ R' dd H2):Sound P f ds0 H R':=by
 refine ⟨h.1,fun own X w vs hs hv=>?_⟩
 obtain ⟨hf,hr⟩:=hrel own X w hs
 refine Calls.mono (h.2 own (hidX own Hf X S) w vs (hid_sim hf) (Rels_hid hf (hr vs hv))) fun e w' ⟨own',d,H1,v,h1,h2,h3,h4,h5⟩=>?_
 obtain ⟨H2,ho,hR2⟩:=hR d H1 h4.hn h5
 obtain ⟨g1,g2,g3⟩:=hid_out hs hf hlen hsub h2 h4 h3 ho
 exact ⟨own',d,H2,v,h1,g1,g2,g3,hR2⟩
def Sound.hideK {ds0 ds:List D} {R R':D -> Heap -> Prop} (hS:∀ r,S r = false) (h:Sound P f ds (maskH S Hf) R) (hlen:Hf.length = H.length) (hsub:∀ r row,Hf.get r = some row -> ∃ row',H.get r = some row')
  (hrel:∀ own X w,Sim own H X w -> Sim own Hf X w /\ ∀ vs,zCL own H X w ds0 vs -> zCL own Hf X w ds vs) (hR:∀ dd H1,(maskH S Hf).length <= H1.length -> R dd H1 -> ∃ H2,Over H Hf H1 S dd H2 /\ R' dd H2):SoundK P f ds0 H R':=by
 refine ⟨h.1,fun own X w vs hs hv=>?_⟩
 obtain ⟨hf,hr⟩:=hrel own X w hs
 refine Calls.mono (h.2 own (hidX own Hf X S) w vs (hid_sim hf) (Rels_hid hf (hr vs hv))) fun e w' ⟨own',d,H1,v,h1,h2,h3,h4,h5⟩=>?_
 obtain ⟨H2,ho,hR2⟩:=hR d H1 h4.hn h5
 obtain ⟨g1,g2,g3⟩:=hid_out hs hf hlen hsub h2 h4 h3 ho
 refine ⟨own',d,H2,v,h1,g1,g2,⟨g3,fun b hb=>?_⟩,hR2⟩
 by_cases hxb:hidX own Hf X S b
 ·exact h4.hx b hxb
 ·refine (h4.hb b ⟨hb,hxb,fun r row hg=>?_⟩).2
  rw [mask_get,if_neg (by rw [hS r];simp)] at hg
  cases hg
end
end Go.Ab
namespace Go.T
open Go.Ab
variable [Go.Ab.DM]
section
variable {ρ:List (Nat × Nat)} {isL:Nat -> Bool} {num num':Nat -> Nat} {rows rows':Rows}
structure PRel (ρ:List (Nat × Nat)) (isL:Nat -> Bool) (num:Nat -> Nat) (rows:Rows) (num':Nat -> Nat) (rows':Rows):Prop where
 ref:∀ r q,zCK ρ r = some q -> RefTl (num q) (zAA rows q) (num' r) (zAA rows' r) /\ (zAS (zAA rows' r) = true -> zAS (zAA rows q) = true /\ zCg (zAA rows' r) = zCg (zAA rows q))
 nul:∀ r,zCK ρ r = none -> isL r = true -> ∃ t,zAA rows' r = .lst t []
structure PTold (num:Nat -> Nat) (rows:Rows) (num':Nat -> Nat) (rows':Rows) (v:TV) (b:Ty) (y:b.I):Prop where
 one:Tl (enc (zAB num rows) v) (E b (zAB num' rows') y).1
 all:Tls (encs (zAB num rows) v) (E b (zAB num' rows') y).2
 ok:(∀ r ∈ b.refs,r < rows'.length) -> okT rows' b y
def zBw {v:TV} {b:Ty} {y:b.I} (hv:v.t.sp = false) (hb:b.sp = false) (h:Tl (enc (zAB num rows) v) (E b (zAB num' rows') y).1) (hok:(∀ r ∈ b.refs,r < rows'.length) -> okT rows' b y):PTold num rows num' rows' v b y :=
 ⟨h,by unfold encs;rw [E_one hv,E_one hb];exact .cons h .nil,hok⟩
def ptold_conv {v:TV} {b:Ty} {y:b.I} (hp:b.pure = true) (hv:okV rows v) (h:zBK rows b v = some y):PTold num rows num' rows' v b y:=by
 obtain ⟨h1,h2⟩:=convS_told (num:=num) b v y hv h
 have e:=E_pure b hp zDH (zAB num' rows') y
 exact ⟨by rw [<- e];exact h1,by rw [<- e];exact h2,fun _=>zCR b y hp⟩
def packV_pr (a b:Ty) (v:TV):packV ρ isL rows (.pr a b) v = if (Ty.pr a b).pure then zBK rows (.pr a b) v else match v with
 | ⟨.pr a' b',x⟩=>(match packV ρ isL rows a ⟨a',x.1⟩,packV ρ isL rows b ⟨b',x.2⟩ with
  | some y,some z=>some (y,z)
  | _,_=>none)
 | _=>none:=rfl
def packV_agg (s:Ty) (v:TV):packV ρ isL rows (.agg s) v = if s.pure then zBK rows (.agg s) v else match v with | ⟨.agg s',x⟩=>packV ρ isL rows s ⟨s',x⟩ | _=>none:=rfl
def packV_tup (s:Ty) (v:TV):packV ρ isL rows (.tup s) v = if s.pure then zBK rows (.tup s) v else match v with | ⟨.tup s',x⟩=>packV ρ isL rows s ⟨s',x⟩ | _=>none:=rfl
def packV_fn (f:FuncId) (a c:Ty) (v:TV):packV ρ isL rows (.fn f a c) v = if (Ty.fn f a c).pure then zBK rows (.fn f a c) v else match v with
 | ⟨.fn f' a' c',x⟩=>bif Nat.beq f f' then (match packV ρ isL rows a ⟨a',x.1⟩,packV ρ isL rows c ⟨c',x.2⟩ with
  | some y,some z=>some (y,z)
  | _,_=>none) else none
 | _=>none:=rfl
def packV_ifc (id:TypeId) (t:Ty) (v:TV):packV ρ isL rows (.ifc id t) v = if t.pure then zBK rows (.ifc id t) v else match v with
 | ⟨.ifc id' t',x⟩=>bif Nat.beq id id' then packV ρ isL rows t ⟨t',x⟩ else none
 | _=>none:=rfl
def packLeaf:Ty -> Bool
 | .pr _ _ | .agg _ | .tup _ | .fn _ _ _ | .ifc _ _ | .own _ | .sub _ | .p0 _ _ | .pt _ _ | .mp _=>false
 | _=>true
def packV_leaf {t:Ty} (h:packLeaf t = true) (v:TV):packV ρ isL rows t v = zBK rows t v:=by cases t <;> first | rfl | simp [packLeaf] at h
def ptold_leafconv {v:TV} {b:Ty} {y:b.I} (hp:packLeaf b = true) (hv:okV rows v) (h:zBK rows b v = some y):PTold num rows num' rows' v b y:=by
 obtain ⟨h1,h2⟩:=convS_told (num:=num) b v y hv h
 have e:E b zDH y = E b (zAB num' rows') y:=by cases b <;> first | rfl | simp [packLeaf] at hp
 exact ⟨by rw [<- e];exact h1,by rw [<- e];exact h2,fun _=>by cases b <;> first | trivial | simp [packLeaf] at hp⟩
def own_sub (n:Nat) (row:TRow) {m:Nat} (h:rowLen row = some m):Tl (ownD n row) (subD n (0,m) row):=by
 cases row with
 | many t l=>have:=yAA h;subst this;exact Tl.refl _
 | lst t l=>have:=yAA h;subst this;cases l <;> exact Tl.refl _
 | fro t l =>
  have:=yAA h;subst this
  refine Tl.of_eq ?_
  simp only [ownD,subD,yBD,zAE]
  rw [yAW (yAJ _)]
 | _=>cases h
def beq_q {q q':Nat} {R:Type} {x:Option R} {r:R} (h:(bif Nat.beq q q' then x else none) = some r):q = q' /\ x = some r:=by
 obtain ⟨h1,h2⟩:=zAa h
 rw [yAP] at h1
 exact ⟨h1,h2⟩
def packV_told (hp:PRel ρ isL num rows num' rows'):∀ (b:Ty) (v:TV) (y:b.I),okV rows v -> packV ρ isL rows b v = some y -> PTold num rows num' rows' v b y:=by
 intro b
 induction b with
 | pr a b iha ihb =>
  rintro ⟨tv,x⟩ y hv h
  rw [packV_pr] at h
  split at h
  ·rename_i hpu;exact ptold_conv hpu hv h
  ·cases tv with
   | pr a' b' =>
    dsimp only at h
    split at h
    ·rename_i y1 z1 h1 h2
     have:=yAA h;subst this
     have ga:=iha ⟨a',x.1⟩ y1 hv.1 h1
     have gb:=ihb ⟨b',x.2⟩ z1 hv.2 h2
     exact ⟨Tl.refl _,.cons ga.one gb.all,fun hr=>⟨ga.ok fun r h=>hr r (by simp [Ty.refs,h]),gb.ok fun r h=>hr r (by simp [Ty.refs,h])⟩⟩
    ·cases h
   | _=>cases h
 | agg s ih =>
  rintro ⟨tv,x⟩ y hv h
  rw [packV_agg] at h
  split at h
  ·rename_i hpu;exact ptold_conv hpu hv h
  ·cases tv with
   | agg s'=>have g:=ih ⟨s',x⟩ y hv h;exact zBw rfl rfl (Tl.agg g.all) g.ok
   | _=>cases h
 | tup s ih =>
  rintro ⟨tv,x⟩ y hv h
  rw [packV_tup] at h
  split at h
  ·rename_i hpu;exact ptold_conv hpu hv h
  ·cases tv with
   | tup s'=>have g:=ih ⟨s',x⟩ y hv h;exact zBw rfl rfl (Tl.tup g.all) g.ok
   | _=>cases h
 | fn f a c iha ihc =>
  rintro ⟨tv,x⟩ y hv h
  rw [packV_fn] at h
  split at h
  ·rename_i hpu;exact ptold_conv hpu hv h
  ·cases tv with
   | fn f' a' c' =>
    dsimp only at h
    obtain ⟨hf,h⟩:=beq_q h
    subst hf
    split at h
    ·rename_i y1 z1 h1 h2
     have:=yAA h;subst this
     have ga:=iha ⟨a',x.1⟩ y1 hv.1 h1
     have gc:=ihc ⟨c',x.2⟩ z1 hv.2 h2
     exact zBw rfl rfl (Tl.fn ga.all gc.all) fun hr=>⟨ga.ok fun r h=>hr r (by simp [Ty.refs,h]),gc.ok fun r h=>hr r (by simp [Ty.refs,h])⟩
    ·cases h
   | _=>cases h
 | ifc id t ih =>
  rintro ⟨tv,x⟩ y hv h
  rw [packV_ifc] at h
  split at h
  ·rename_i hpu;exact ptold_conv hpu hv h
  ·cases tv with
   | ifc id' t' =>
    dsimp only at h
    obtain ⟨hf,h⟩:=beq_q h
    subst hf
    have g:=ih ⟨t',x⟩ y hv h
    exact zBw rfl rfl (Tl.ifc g.one) g.ok
   | _=>cases h
 | own r =>
  rintro ⟨tv,x⟩ y hv h
  have hok:(∀ q ∈ (Ty.own r).refs,q < rows'.length) -> okT rows' (.own r) y:=fun hr=>hr r (by simp [Ty.refs])
  cases tv with
  | own q =>
   have h:(match zCK ρ r with | some q'=>bif Nat.beq q q' then some () else none | none=>none) = some y:=h
   split at h
   ·rename_i q' hg
    obtain ⟨hq,_⟩:=beq_q h
    subst hq
    exact zBw rfl rfl (hp.ref r q hg).1.own hok
   ·cases h
  | nul c =>
   cases c with
   | zero =>
    have h:(match zCK ρ r with | some _=>none | none=>bif isL r then some () else none) = some y:=h
    split at h
    ·cases h
    ·rename_i hg
     obtain ⟨hl,_⟩:=zAa h
     obtain ⟨t,ht⟩:=hp.nul r hg hl
     refine zBw rfl rfl (Tl.of_eq ?_) hok
     show D.v (.slice none 0 0) = ownD (num' r) (zAA rows' r)
     rw [ht];rfl
   | succ c=>cases h
  | _=>cases h
 | sub r =>
  rintro ⟨tv,x⟩ y hv h
  cases tv with
  | sub q =>
   have h:(match zCK ρ r with | some q'=>bif Nat.beq q q' then some x else none | none=>none) = some y:=h
   split at h
   ·rename_i q' hg
    obtain ⟨hq,hx⟩:=beq_q h
    subst hq
    have:=yAA hx;subst this
    obtain ⟨h1,h2⟩:=hp.ref r q hg
    exact zBw rfl rfl (h1.sub x) fun hr=>⟨hr r (by simp [Ty.refs]),fun hl=>by obtain ⟨h3,h4⟩:=h2 hl;rw [h4];exact hv.2 h3⟩
   ·cases h
  | own q =>
   have h:(match zCK ρ r,rowLen (zAA rows q) with | some q',some n=>bif Nat.beq q q' then some (0,n) else none | _,_=>none) = some y:=h
   split at h
   ·rename_i q' m hg hm
    obtain ⟨hq,hx⟩:=beq_q h
    subst hq
    have:=yAA hx;subst this
    obtain ⟨h1,h2⟩:=hp.ref r q hg
    refine zBw rfl rfl (Tl.trans (own_sub _ _ hm) (h1.sub (0,m))) fun hr=>⟨hr r (by simp [Ty.refs]),fun hl=>?_⟩
    obtain ⟨h3,h4⟩:=h2 hl
    rw [h4]
    have:m = zCg (zAA rows q):=by
     cases hrow:zAA rows q <;> rw [hrow] at hm <;> first | (exact (yAA hm).symm) | cases hm
    dsimp only;omega
   ·cases h
  | nul c =>
   cases c with
   | zero =>
    have h:(match zCK ρ r with | some _=>none | none=>bif isL r then some (0,0) else none) = some y:=h
    split at h
    ·cases h
    ·rename_i hg
     obtain ⟨hl,h⟩:=zAa h
     have:=yAA h;subst this
     obtain ⟨t,ht⟩:=hp.nul r hg hl
     refine zBw rfl rfl (Tl.of_eq ?_) fun hr=>⟨hr r (by simp [Ty.refs]),fun _=>by rw [ht];exact yAJ _⟩
     show D.v (.slice none 0 0) = subD (num' r) (0,0) (zAA rows' r)
     rw [ht];rfl
   | succ c=>cases h
  | _=>cases h
 | p0 r o =>
  rintro ⟨tv,x⟩ y hv h
  cases tv with
  | p0 q o' =>
   have h:(match zCK ρ r with | some q'=>bif Nat.beq q q' && Nat.beq o o' then some () else none | none=>none) = some y:=h
   split at h
   ·rename_i q' hg
    obtain ⟨hq,_⟩:=zAa h
    simp only [yAB,yAP] at hq
    obtain ⟨hq,ho⟩:=hq
    subst hq;subst ho
    exact zBw rfl rfl ((hp.ref r q hg).1.p0 o) fun hr=>hr r (by simp [Ty.refs])
   ·cases h
  | _=>cases h
 | pt r o =>
  rintro ⟨tv,x⟩ y hv h
  cases tv with
  | pt q o' =>
   have h:(match zCK ρ r with | some q'=>bif Nat.beq q q' && Nat.beq o o' then some x else none | none=>none) = some y:=h
   split at h
   ·rename_i q' hg
    obtain ⟨hq,hx⟩:=zAa h
    simp only [yAB,yAP] at hq
    obtain ⟨hq,ho⟩:=hq
    subst hq;subst ho
    have:=yAA hx;subst this
    obtain ⟨h1,h2⟩:=hp.ref r q hg
    exact zBw rfl rfl (h1.pt o x) fun hr=>⟨hr r (by simp [Ty.refs]),fun hl=>by obtain ⟨h3,h4⟩:=h2 hl;rw [h4];exact hv.2 h3⟩
   ·cases h
  | _=>cases h
 | mp r =>
  rintro ⟨tv,x⟩ y hv h
  cases tv with
  | mp q =>
   have h:(match zCK ρ r with | some q'=>bif Nat.beq q q' then some () else none | none=>none) = some y:=h
   split at h
   ·rename_i q' hg
    obtain ⟨hq,_⟩:=beq_q h
    subst hq
    exact zBw rfl rfl (hp.ref r q hg).1.mp fun hr=>hr r (by simp [Ty.refs])
   ·cases h
  | _=>cases h
 | _=>intro v y hv h;rw [packV_leaf (by rfl)] at h;exact ptold_leafconv (by rfl) hv h
end
end Go.T
namespace Go.T
open Go.Ab
variable [Go.Ab.DM]
section
variable {ρ:List (Nat × Nat)} {isL:Nat -> Bool} {num num':Nat -> Nat} {rows rows':Rows}
def lf_id {v:TV} (h:v.t.sp = false):v.lf = v:=by
 obtain ⟨t,x⟩:=v
 cases t <;> first | rfl | simp [Ty.sp] at h
def leaves_one {t:Ty} (h:t.sp = false) (x:t.I):zAK t x = [⟨t,x⟩]:=by cases t <;> first | rfl | simp [Ty.sp] at h
def spine_leaves:∀ (l:List TV),(∀ v ∈ l,v.t.sp = false) -> zAK (zDV l).t (zDV l).x = l
 | [],_=>rfl
 | [v],h=>by
  have hv:=h v (by simp)
  show zAK v.lf.t v.lf.x = [v]
  rw [lf_id hv,leaves_one hv]
 | v :: u :: r,h=>by
  show (⟨v.t,v.x⟩:TV) :: zAK (zDV (u :: r)).t (zDV (u :: r)).x = _
  rw [spine_leaves (u :: r) fun w hw=>h w (yAF _ hw)]
def packAll_leaves {ts:List Ty} {l:List TV} {x:(zAY ts).I} (h:packAll ts l = some x):zAK (zAY ts) x = l:=by
 simp only [packAll] at h
 split at h
 ·rename_i he
  obtain ⟨hb,hx⟩:=zAa h
  have:=yAA hx;subst this
  rw [yAR] at hb
  have hl:=spine_leaves l fun v hv=>by have:=hb v hv;simpa using this
  have cast_leaves:∀ (t u:Ty) (h:t = u) (y:t.I),zAK u (castI h y) = zAK t y:=by intro t u h y;subst h;rfl
  rw [cast_leaves];exact hl
 ·cases h
def triv_dv:∀ (t:Ty),t.triv = true -> ∀ x:t.I,x = t.dv:=by
 intro t
 induction t with
 | pr a b iha ihb =>
  intro h x
  simp only [Ty.triv,yAB] at h
  exact Prod.ext (iha h.1 x.1) (ihb h.2 x.2)
 | agg s ih=>intro h x;exact ih h x
 | tup s ih=>intro h x;exact ih h x
 | fn f a c iha ihc =>
  intro h x
  simp only [Ty.triv,yAB] at h
  exact Prod.ext (iha h.1 x.1) (ihc h.2 x.2)
 | fp t o ih=>intro h x;exact ih h x
 | ifc id t ih=>intro h x;exact ih h x
 | _=>intro h x;first | (simp [Ty.triv] at h;done) | rfl
inductive Packed (ρ:List (Nat × Nat)) (isL:Nat -> Bool) (rows:Rows):List Ty -> List TV -> List TV -> Prop
 | nil:Packed ρ isL rows [] [] []
 | cons {t v ts vs us} {y:t.I}:packV ρ isL rows t v = some y -> Packed ρ isL rows ts vs us -> Packed ρ isL rows (t :: ts) (v :: vs) (⟨t,y⟩ :: us)
def packVals_un:∀ {ts:List Ty} {vs l:List TV},packVals ρ isL rows ts vs = some l -> ∃ us,Packed ρ isL rows ts vs us /\ ∀ rest,zBz ts (l ++ rest) = (us,rest)
 | [],[],l,h=>by have:=yAA h;subst this;exact ⟨[],.nil,fun _=>rfl⟩
 | [],_ :: _,l,h=>by cases h
 | _ :: _,[],l,h=>by cases h
 | t :: ts,v :: vs,l,h=>by
  simp only [packVals] at h
  split at h
  ·rename_i y l' h1 h2
   have:=yAA h;subst this
   obtain ⟨us,h3,h4⟩:=packVals_un h2
   refine ⟨⟨t,y⟩ :: us,.cons h1 h3,fun rest=>?_⟩
   cases ht:t.triv with
   | true =>
    simp only [cond_true,zBz,ht,h4]
    rw [triv_dv t ht y]
   | false=>simp only [cond_false,zBz,ht,yAl,h4]
  ·cases h
inductive PkRow (ρ:List (Nat × Nat)) (isL:Nat -> Bool) (rows:Rows) (r:Nat):RTy -> TRow -> Prop
 | gone:PkRow ρ isL rows r .gone .gone
 | one {q:Nat} {t u:Ty} {x:u.I} {y:t.I}:zCK ρ r = some q -> zAA rows q = .one u x -> packV ρ isL rows t ⟨u,x⟩ = some y -> t.lay = true -> zBr t = zBr u -> PkRow ρ isL rows r (.one t) (.one t y)
 | many {q t l}:zCK ρ r = some q -> zAA rows q = .many t l -> PkRow ρ isL rows r (.many t) (.many t l)
 | lst {q t l}:zCK ρ r = some q -> zAA rows q = .lst t l -> PkRow ρ isL rows r (.lst t) (.lst t l)
 | fro {q t l}:zCK ρ r = some q -> zAA rows q = .fro t l -> PkRow ρ isL rows r (.fro t) (.fro t l)
 | fr1 {q t x}:zCK ρ r = some q -> zAA rows q = .fr1 t x -> PkRow ρ isL rows r (.fr1 t) (.fr1 t x)
 | mp {q k v l}:zCK ρ r = some q -> zAA rows q = .mp k v l -> PkRow ρ isL rows r (.mp k v) (.mp k v l)
 | sit {q s p}:zCK ρ r = some q -> zAA rows q = .sit s p -> PkRow ρ isL rows r .sit (.sit s p)
 | nil {t}:zCK ρ r = none -> t.elem = true -> PkRow ρ isL rows r (.lst t) (.lst t [])
def packRow_un {r:Nat} {e:RTy} {vs:List TV} (h:packRow ρ isL rows r e = some vs):∃ row,PkRow ρ isL rows r e row /\ ∀ l rest,zBc ((r,e) :: l) (vs ++ rest) = (r,row) :: zBc l rest:=by
 have single:∀ (e:RTy) (v:TV) (row:TRow),e.dat.triv = false -> rowOf e v = row -> ∀ l rest,zBc ((r,e) :: l) ([v] ++ rest) = (r,row) :: zBc l rest:=by
  intro e v row ht hr l rest
  simp only [zBc,ht,cond_false,yAl,yBI,hr]
 cases e with
 | gone=>have:=yAA h;subst this;exact ⟨.gone,.gone,fun l rest=>rfl⟩
 | one t =>
  simp only [packRow] at h
  split at h
  ·rename_i q hg
   cases hrow:zAA rows q <;> rw [hrow] at h <;> first | (cases h;done) | skip
   rename_i u x
   obtain ⟨hb,h⟩:=zAa h
   rw [yAB,beq_iff_eq] at hb
   split at h
   ·rename_i y hy
    have:=yAA h;subst this
    refine ⟨.one _ y,.one hg hrow hy hb.1 hb.2,?_⟩
    cases ht:Ty.triv _ with
    | true =>
     intro l rest
     have hd:(RTy.one _).dat.triv = true:=ht
     simp only [cond_true,zBc,hd,yBI]
     rw [triv_dv _ ht y];rfl
    | false=>exact single _ _ _ ht rfl
   ·cases h
  ·cases h
 | many t =>
  simp only [packRow] at h
  split at h
  ·rename_i q hg
   cases hrow:zAA rows q <;> rw [hrow] at h <;> first | (cases h;done) | skip
   rename_i u l
   obtain ⟨hb,hx⟩:=zAa h
   have hb:=of_decide_eq_true hb
   subst hb
   have:=yAA hx;subst this
   exact ⟨_,.many hg hrow,single _ _ _ rfl rfl⟩
  ·cases h
 | lst t =>
  simp only [packRow] at h
  split at h
  ·rename_i q hg
   cases hrow:zAA rows q <;> rw [hrow] at h <;> first | (cases h;done) | skip
   rename_i u l
   obtain ⟨hb,hx⟩:=zAa h
   have hb:=of_decide_eq_true hb
   subst hb
   have:=yAA hx;subst this
   exact ⟨_,.lst hg hrow,single _ _ _ rfl rfl⟩
  ·rename_i hg
   obtain ⟨hb,h⟩:=zAa h
   have:=yAA h;subst this
   exact ⟨_,.nil hg hb,single _ _ _ rfl rfl⟩
 | fro t =>
  simp only [packRow] at h
  split at h
  ·rename_i q hg
   cases hrow:zAA rows q <;> rw [hrow] at h <;> first | (cases h;done) | skip
   rename_i u l
   obtain ⟨hb,hx⟩:=zAa h
   have hb:=of_decide_eq_true hb
   subst hb
   have:=yAA hx;subst this
   exact ⟨_,.fro hg hrow,single _ _ _ rfl rfl⟩
  ·cases h
 | fr1 t =>
  simp only [packRow] at h
  split at h
  ·rename_i q hg
   cases hrow:zAA rows q <;> rw [hrow] at h <;> first | (cases h;done) | skip
   rename_i u x
   obtain ⟨hb,hx⟩:=zAa h
   have hb:=of_decide_eq_true hb
   subst hb
   have:=yAA hx;subst this
   refine ⟨.fr1 _ x,.fr1 hg hrow,?_⟩
   cases ht:Ty.triv _ with
   | true =>
    intro l rest
    have hd:(RTy.fr1 _).dat.triv = true:=ht
    simp only [cond_true,zBc,hd,yBI]
    rw [triv_dv _ ht x];rfl
   | false=>exact single _ _ _ ht rfl
  ·cases h
 | mp k v =>
  simp only [packRow] at h
  split at h
  ·rename_i q hg
   cases hrow:zAA rows q <;> rw [hrow] at h <;> first | (cases h;done) | skip
   rename_i k' v' l
   obtain ⟨hb,hx⟩:=zAa h
   rw [yAB] at hb
   have hb1:=of_decide_eq_true hb.1
   have hb2:=of_decide_eq_true hb.2
   subst hb1;subst hb2
   have:=yAA hx;subst this
   exact ⟨_,.mp hg hrow,single _ _ _ rfl rfl⟩
  ·cases h
 | sit =>
  simp only [packRow] at h
  split at h
  ·rename_i q hg
   cases hrow:zAA rows q <;> rw [hrow] at h <;> first | (cases h;done) | skip
   rename_i s p
   have:=yAA h;subst this
   exact ⟨_,.sit hg hrow,single _ _ _ rfl rfl⟩
  ·cases h
inductive PkRows (ρ:List (Nat × Nat)) (isL:Nat -> Bool) (rows:Rows):List (Nat × RTy) -> List (Nat × TRow) -> Prop
 | nil:PkRows ρ isL rows [] []
 | cons {r e row l m}:PkRow ρ isL rows r e row -> PkRows ρ isL rows l m -> PkRows ρ isL rows ((r,e) :: l) ((r,row) :: m)
def packRows_un:∀ {l:List (Nat × RTy)} {vs:List TV},packRows ρ isL rows l = some vs -> ∃ m,PkRows ρ isL rows l m /\ zBc l vs = m
 | [],vs,h=>by have:=yAA h;subst this;exact ⟨[],.nil,rfl⟩
 | (r,e) :: l,vs,h=>by
  simp only [packRows] at h
  split at h
  ·rename_i v vs' h1 h2
   have:=yAA h;subst this
   obtain ⟨row,h3,h4⟩:=packRow_un h1
   obtain ⟨m,h5,h6⟩:=packRows_un h2
   exact ⟨(r,row) :: m,.cons h3 h5,by rw [h4,h6]⟩
  ·cases h
def PkRows.look:∀ {l:List (Nat × RTy)} {m:List (Nat × TRow)},PkRows ρ isL rows l m -> ∀ r,(match zBR l r with | some e=>∃ row,rowIn m r = some row /\ PkRow ρ isL rows r e row | none=>rowIn m r = none)
 | _,_,.nil,r=>rfl
 | _,_,.cons (r:=q) (e:=e) (row:=row) (l:=l) (m:=m) h1 h2,r=>by
  have ih:=PkRows.look h2 r
  simp only [zBR,rowIn]
  cases hb:Nat.beq q r with
  | true=>rw [yAP] at hb;subst hb;exact ⟨row,rfl,h1⟩
  | false=>exact ih
end
end Go.T
namespace Go.T
open Go.Ab
variable [Go.Ab.DM]
def src (ρ:List (Nat × Nat)) (r:Nat):Nat:=(zCK ρ r).getD r
def zAb {ρ:List (Nat × Nat)} {r q:Nat} (h:zCK ρ r = some q):src ρ r = q:=by unfold src;rw [h];rfl
section
variable {ρ:List (Nat × Nat)} {isL:Nat -> Bool} {ζ:Nat -> Row} {num:Nat -> Nat} {rf rows':Rows} {H:Heap}
inductive Tgt (ρ:List (Nat × Nat)) (isL:Nat -> Bool) (rf rows':Rows) (r:Nat):TRow -> Prop
 | gone:Tgt ρ isL rf rows' r .gone
 | pk {e row}:PkRow ρ isL rf r e row -> Tgt ρ isL rf rows' r row
 | keep:src ρ r = r -> (∀ t x,zAA rf r = .one t x -> ∀ z ∈ t.refs,zCK ρ z = some z) -> (∀ m,(zAA rf r = .itb m \/ ∃ k v x y,zAA rf r = .ite m k v x y) -> src ρ m = m /\ zAA rows' m = zAA rf m) -> Tgt ρ isL rf rows' r (zAA rf r)
def tgt_ref {r q:Nat} {row:TRow} (h:Tgt ρ isL rf rows' r row) (hg:zCK ρ r = some q):RefTl (num q) (zAA rf q) (num (src ρ r)) row /\ (zAS row = true -> zAS (zAA rf q) = true /\ zCg row = zCg (zAA rf q)):=by
 rw [zAb hg]
 cases h with
 | gone=>exact ⟨RefTl.gone _ _ _,fun h=>by simp [zAS] at h⟩
 | pk h =>
  have eq:∀ {q'},zCK ρ r = some q' -> q' = q:=fun h=>by rw [hg] at h;exact (yAA h).symm
  cases h with
  | gone=>exact ⟨RefTl.gone _ _ _,fun h=>by simp [zAS] at h⟩
  | one h1 h2 h3 h4 h5=>have:=eq h1;subst this;rw [h2];exact ⟨ref_one _,fun h=>by simp [zAS] at h⟩
  | many h1 h2=>have:=eq h1;subst this;rw [h2];exact ⟨RefTl.refl _ _,fun _=>⟨rfl,rfl⟩⟩
  | lst h1 h2=>have:=eq h1;subst this;rw [h2];exact ⟨RefTl.refl _ _,fun _=>⟨rfl,rfl⟩⟩
  | fro h1 h2=>have:=eq h1;subst this;rw [h2];exact ⟨RefTl.refl _ _,fun _=>⟨rfl,rfl⟩⟩
  | fr1 h1 h2=>have:=eq h1;subst this;rw [h2];exact ⟨RefTl.refl _ _,fun h=>by simp [zAS] at h⟩
  | mp h1 h2=>have:=eq h1;subst this;rw [h2];exact ⟨RefTl.refl _ _,fun h=>by simp [zAS] at h⟩
  | sit h1 h2=>have:=eq h1;subst this;rw [h2];exact ⟨RefTl.refl _ _,fun h=>by simp [zAS] at h⟩
  | nil h1 _=>rw [hg] at h1;cases h1
 | keep h1 _ _=>have:q = r:=by rw [<- zAb hg];exact h1
                subst this;exact ⟨RefTl.refl _ _,fun h=>⟨h,rfl⟩⟩
def tgt_prel (hT:∀ r,Tgt ρ isL rf rows' r (zAA rows' r)) (hnul:∀ r,zCK ρ r = none -> isL r = true -> ∃ t,zAA rows' r = .lst t []):PRel ρ isL num rf (fun r=>num (src ρ r)) rows' :=
 ⟨fun r q h=>tgt_ref (hT r) h,hnul⟩
def enc_self {num':Nat -> Nat} (hp:PRel ρ isL num rf num' rows') (t:Ty) (x:t.I) (hz:∀ z ∈ t.refs,zCK ρ z = some z) (hx:okT rf t x) :
  (Tl (E t (zAB num rf) x).1 (E t (zAB num' rows') x).1 /\ Tls (E t (zAB num rf) x).2 (E t (zAB num' rows') x).2) /\ ((∀ z ∈ t.refs,z < rows'.length) -> okT rows' t x):=by
 induction t with
 | pr a b iha ihb =>
  have ga:=iha x.1 (fun z h=>hz z (by simp [Ty.refs,h])) hx.1
  have gb:=ihb x.2 (fun z h=>hz z (by simp [Ty.refs,h])) hx.2
  exact ⟨⟨Tl.refl _,.cons ga.1.1 gb.1.2⟩,fun hr=>⟨ga.2 fun z h=>hr z (by simp [Ty.refs,h]),gb.2 fun z h=>hr z (by simp [Ty.refs,h])⟩⟩
 | unit=>exact ⟨⟨Tl.refl _,.nil⟩,fun _=>trivial⟩
 | agg s ih=>have g:=ih x hz hx;have:=Tl.agg g.1.2;exact ⟨⟨this,.cons this .nil⟩,g.2⟩
 | tup s ih=>have g:=ih x hz hx;have:=Tl.tup g.1.2;exact ⟨⟨this,.cons this .nil⟩,g.2⟩
 | fn f a c iha ihc =>
  have ga:=iha x.1 (fun z h=>hz z (by simp [Ty.refs,h])) hx.1
  have gc:=ihc x.2 (fun z h=>hz z (by simp [Ty.refs,h])) hx.2
  have:=Tl.fn (f:=.func f) ga.1.2 gc.1.2
  exact ⟨⟨this,.cons this .nil⟩,fun hr=>⟨ga.2 fun z h=>hr z (by simp [Ty.refs,h]),gc.2 fun z h=>hr z (by simp [Ty.refs,h])⟩⟩
 | ifc id t ih=>have g:=ih x hz hx;have:=Tl.ifc (t:=id) g.1.1;exact ⟨⟨this,.cons this .nil⟩,g.2⟩
 | own r=>have:=(hp.ref r r (hz r (by simp [Ty.refs]))).1.own;exact ⟨⟨this,.cons this .nil⟩,fun hr=>hr r (by simp [Ty.refs])⟩
 | sub r =>
  obtain ⟨h1,h2⟩:=hp.ref r r (hz r (by simp [Ty.refs]))
  have:=h1.sub x
  exact ⟨⟨this,.cons this .nil⟩,fun hr=>⟨hr r (by simp [Ty.refs]),fun hl=>by obtain ⟨h3,h4⟩:=h2 hl;rw [h4];exact hx.2 h3⟩⟩
 | p0 r o=>have:=(hp.ref r r (hz r (by simp [Ty.refs]))).1.p0 o;exact ⟨⟨this,.cons this .nil⟩,fun hr=>hr r (by simp [Ty.refs])⟩
 | pt r o =>
  obtain ⟨h1,h2⟩:=hp.ref r r (hz r (by simp [Ty.refs]))
  have:=h1.pt o x
  exact ⟨⟨this,.cons this .nil⟩,fun hr=>⟨hr r (by simp [Ty.refs]),fun hl=>by obtain ⟨h3,h4⟩:=h2 hl;rw [h4];exact hx.2 h3⟩⟩
 | mp r=>have:=(hp.ref r r (hz r (by simp [Ty.refs]))).1.mp;exact ⟨⟨this,.cons this .nil⟩,fun hr=>hr r (by simp [Ty.refs])⟩
 | _=>exact ⟨⟨Tl.refl _,Tls.refl _⟩,fun _=>trivial⟩
def cast_tls {a b c d:List D} (h:a = b) (h':c = d) (ht:Tls a c):Tls b d:=by subst h;subst h';exact ht
def cells_told {num':Nat -> Nat} {t u:Ty} {x:u.I} {y:t.I} (h:PTold num rf num' rows' ⟨u,x⟩ t y) (hv:okV rf ⟨u,x⟩) (hp:packV ρ isL rf t ⟨u,x⟩ = some y) (hr:PRel ρ isL num rf num' rows') (hl:t.lay = true) (hag:zBr t = zBr u):Tls ((zAs ⟨u,x⟩).map (enc (zAB num rf))) ((zAs ⟨t,y⟩).map (enc (zAB num' rows'))):=by
 have plain:zBr t = false -> Tls ((zAs ⟨u,x⟩).map (enc (zAB num rf))) ((zAs ⟨t,y⟩).map (enc (zAB num' rows'))):=fun ht=>by
  rw [<- zBW,<- zBW,zBJ (by rw [zDF];exact hag ▸ ht),zBJ (by rw [zDF];exact ht)]
  exact .cons h.one .nil
 cases t with
 | agg s =>
  cases u with
  | agg s' =>
   refine cast_tls (E_leaves s' _ x) (E_leaves s _ y) ?_
   rw [packV_agg] at hp
   split at hp
   ·rename_i hpu
    rw [convS_agg] at hp
    split at hp
    ·rename_i hh
     have:=yAA hp;subst this
     obtain ⟨h1,h2⟩:=hh
     have h1:s' = s:=by injection h1
     subst h1
     rw [castI_rfl]
     exact Tls_of_eq (congrArg Prod.snd (E_pure s' h2 _ _ x))
    ·have g:=(convS_told (num:=num) s ⟨s',x⟩ y hv hp).2
     have e:=E_pure s hpu zDH (zAB num' rows') y
     rw [<- e];exact g
   ·exact (packV_told hr s ⟨s',x⟩ y hv hp).all
  | _=>simp [zBr] at hag
 | _=>exact plain rfl
where
 Tls_of_eq {a b:List D} (h:a = b):Tls a b:=h ▸ Tls.refl a
def tgt_live {r:Nat} {row:TRow} (h:Tgt ρ isL rf rows' r row) (hl:zAW row = true):zAW (zAA rf (src ρ r)) = true:=by
 cases h with
 | gone=>simp [zAW] at hl
 | pk h =>
  cases h with
  | gone=>simp [zAW] at hl
  | one h1 h2 h3 h4 h5=>rw [zAb h1,h2];rfl
  | many h1 h2=>rw [zAb h1,h2];exact hl
  | lst h1 h2=>rw [zAb h1,h2];exact hl
  | fro h1 h2=>rw [zAb h1,h2];exact hl
  | fr1 h1 h2=>rw [zAb h1,h2];exact hl
  | mp h1 h2=>rw [zAb h1,h2];exact hl
  | sit h1 h2=>rw [zAb h1,h2];exact hl
  | nil h1 _=>simp [zAW] at hl
 | keep h1 _ _=>rw [h1];exact hl
def tgt_hrel (hr:HRel ζ num rf H) (hT:∀ r,Tgt ρ isL rf rows' r (zAA rows' r)) (hnul:∀ r,zCK ρ r = none -> isL r = true -> ∃ t,zAA rows' r = .lst t [])
  (hrefs:∀ r t y,zAA rows' r = .one t y -> ∀ z ∈ t.refs,z < rows'.length) (hinj:∀ r z,zAW (zAA rows' r) = true -> zAW (zAA rows' z) = true -> r ≠ z -> src ρ r ≠ src ρ z) :
  HRel (fun r=>ζ (src ρ r)) (fun r=>num (src ρ r)) rows' H:=by
 have hp:=tgt_prel (num:=num) hT hnul
 refine ⟨fun r=>?_,fun r z h1 h2 hrz=>hr.inj _ _ (tgt_live (hT r) h1) (tgt_live (hT z) h2) (hinj r z h1 h2 hrz),fun r t x hrow=>?_⟩
 ·have hTr:=hT r
  generalize hrow':zAA rows' r = row at *
  cases hTr with
  | gone=>trivial
  | pk h =>
   cases h with
   | gone=>trivial
   | one h1 h2 h3 h4 h5 =>
    have hR:=hr.row (src ρ r)
    rw [zAb h1,h2] at hR
    obtain ⟨g1,k,d,g2,g3,g4⟩:=hR
    have hv:=hr.ok _ _ _ h2
    refine ⟨h4,k,d,by dsimp only;rw [zAb h1];exact g2,by rw [g3,h5],g4.trans (cells_told (packV_told hp _ ⟨_,_⟩ _ hv h3) hv h3 hp h4 h5)⟩
   | many h1 h2=>have hR:=hr.row (src ρ r);rw [zAb h1,h2] at hR;simp only [zCC] at hR ⊢;rw [zAb h1];exact hR
   | lst h1 h2=>have hR:=hr.row (src ρ r);rw [zAb h1,h2] at hR;simp only [zCC] at hR ⊢;rw [zAb h1];exact hR
   | fro h1 h2=>have hR:=hr.row (src ρ r);rw [zAb h1,h2] at hR;exact hR
   | fr1 h1 h2=>have hR:=hr.row (src ρ r);rw [zAb h1,h2] at hR;exact hR
   | mp h1 h2=>have hR:=hr.row (src ρ r);rw [zAb h1,h2] at hR;simp only [zCC] at hR ⊢;rw [zAb h1];exact hR
   | sit h1 h2=>have hR:=hr.row (src ρ r);rw [zAb h1,h2] at hR;simp only [zCC] at hR ⊢;rw [zAb h1];exact hR
   | nil h1 h2=>exact ⟨h2,fun h=>absurd rfl h⟩
  | keep h1 h2 h3 =>
   have hR:=hr.row r
   cases hrow:zAA rf r with
   | one t x =>
    rw [hrow] at hR
    obtain ⟨g1,k,d,g2,g3,g4⟩:=hR
    refine ⟨g1,k,d,by dsimp only;rw [h1];exact g2,g3,g4.trans ?_⟩
    have hz:=h2 t x hrow
    have hok:=hr.ok _ _ _ hrow
    have ge:=enc_self hp t x hz hok
    rw [<- zBW,<- zBW]
    cases t with
    | agg s=>exact (enc_self hp s x hz hok).1.2
    | _ =>
     rw [zBJ (by rw [zDF];rfl),zBJ (by rw [zDF];rfl)]
     exact .cons ge.1.1 .nil
   | many t l=>rw [hrow] at hR;simp only [zCC] at hR ⊢;rw [h1];exact hR
   | lst t l=>rw [hrow] at hR;simp only [zCC] at hR ⊢;rw [h1];exact hR
   | fro t l=>rw [hrow] at hR;exact hR
   | fr1 t l=>rw [hrow] at hR;exact hR
   | mp k v l=>rw [hrow] at hR;simp only [zCC] at hR ⊢;rw [h1];exact hR
   | itb m =>
    rw [hrow] at hR
    obtain ⟨g1,⟨a,b,l,g2⟩,es,cl,g3,g4⟩:=hR
    obtain ⟨g5,g6⟩:=h3 m (.inl hrow)
    refine ⟨by dsimp only;rw [h1];exact g1,⟨a,b,l,by rw [g6];exact g2⟩,es,cl,by dsimp only;rw [g5];exact g3,by dsimp only;rw [h1,g5];exact g4⟩
   | ite m k v x y =>
    rw [hrow] at hR
    obtain ⟨g1,⟨a,b,l,g2⟩,hp1,hp2,since,seen,bb,es,cl,dd,g3,g4,g8⟩:=hR
    obtain ⟨g5,g6⟩:=h3 m (.inr ⟨_,_,_,_,hrow⟩)
    refine ⟨by dsimp only;rw [h1];exact g1,⟨a,b,l,by rw [g6];exact g2⟩,hp1,hp2,since,seen,bb,es,cl,dd,by dsimp only;rw [g5];exact g3,by dsimp only;rw [h1,g5];exact g4,g8⟩
   | sit b p=>rw [hrow] at hR;simp only [zCC] at hR ⊢;rw [h1];exact hR
   | gone=>trivial
 ·have hTr:=hT r
  have hz:=hrefs r t x hrow
  rw [hrow] at hTr
  generalize hrow':TRow.one t x = row at hTr
  cases hTr with
  | gone=>cases hrow'
  | pk h =>
   cases h <;> first | (cases hrow';done) | skip
   rename_i h1 h2 h3 h4 h5
   cases hrow'
   exact (packV_told hp _ ⟨_,_⟩ _ (hr.ok _ _ _ h2) h3).ok hz
  | keep h1 h2 h3=>exact (enc_self hp t x (h2 t x hrow'.symm) (hr.ok _ _ _ hrow'.symm)).2 hz
def tgt_lens {B:Base} (hT:∀ r,Tgt ρ isL rf rows' r (zAA rows' r)) (hl:∀ r,r < B.k -> zAS (zAA rf r) = true -> zCg (zAA rf r) = B.len0 r) {r:Nat} (hr:r < B.k) (hs:src ρ r = r) (hg:zCK ρ r = some r \/ zAA rows' r = zAA rf r \/ zAA rows' r = .gone) (hi:zAS (zAA rows' r) = true):zCg (zAA rows' r) = B.len0 r:=by
 rcases hg with hg | hg | hg
 ·obtain ⟨_,h2⟩:=tgt_ref (num:=fun i=>i) (hT r) hg
  obtain ⟨h3,h4⟩:=h2 hi
  rw [h4];exact hl r hr h3
 ·rw [hg] at hi ⊢;exact hl r hr hi
 ·rw [hg] at hi;simp [zAS] at hi
end
end Go.T
