/- Part 1 of what the claim leans on: AbCore, AbSim, AbRun, AbOps1, AbOps2, AbOps3, AbOps4, AbOps5, AbOps6, AbOpsS, AbOpsM, AbOpsE, AbOpsB, AbOps7. -/
import Derived.Calls
import Derived.KernelRfl
import Derived.Orders
import Derived.Laws.Sem
import Derived.Laws.CopyRow
import Derived.Laws.Cells
import Derived.Room.Entries
import Derived.Lib.Overlaps
import GoSem.Conv.BytesToString
set_option linter.defProp false
noncomputable section
abbrev yAA:=@Option.some.inj
abbrev yAB:=@Bool.and_eq_true
abbrev yAC:=@List.length_singleton
abbrev yAD:=@List.length_append
abbrev yAE:=@List.mem_cons
abbrev yAF:=@List.mem_cons_of_mem
abbrev yAG:=@List.length_map
abbrev yAH:=@Option.some.injEq
abbrev yAI:=@List.getD_eq_getElem?_getD
abbrev yAJ:=@Nat.le_refl
abbrev yAK:=@List.getElem?_eq_getElem
abbrev yAL:=@List.map_cons
abbrev yAM:=@List.take_succ_eq_append_getElem
abbrev yAN:=@List.mem_cons_self
abbrev yAO:=@List.mem_append
abbrev yAP:=@Nat.beq_eq
abbrev yAQ:=@List.append_assoc
abbrev yAR:=@List.all_eq_true
abbrev yAS:=@List.append_nil
abbrev yAT:=@Nat.zero_add
abbrev yAU:=@List.length_take
abbrev yAV:=@List.map_append
abbrev yAW:=@List.take_of_length_le
abbrev yAX:=@List.drop_eq_getElem_cons
abbrev yAY:=@List.length_cons
abbrev yAZ:=@Nat.lt_or_ge
abbrev yAa:=@List.getElem?_append_right
abbrev yAb:=@Option.map_eq_some_iff
abbrev yAc:=@Nat.le_of_ble_eq_true
abbrev yAd:=@Nat.lt_of_lt_of_le
abbrev yAe:=@List.getElem?_append_left
abbrev yAf:=@List.not_mem_nil
abbrev yAg:=@List.mem_map_of_mem
abbrev yAh:=@List.mem_append_right
abbrev yAi:=@List.take_length
abbrev yAj:=@List.flatMap_cons
abbrev yAk:=@List.take_append_drop
abbrev yAl:=@List.cons_append
abbrev yAm:=@List.mem_singleton
abbrev yAn:=@Option.bind_eq_some_iff
abbrev yAo:=@List.filter_cons_of_pos
abbrev yAp:=@List.filter_cons_of_neg
abbrev yAq:=@List.cons.injEq
abbrev yAr:=@Nat.not_lt_zero
abbrev yAs:=@List.getElem_mem
abbrev yAt:=@List.mem_of_getElem?
abbrev yAu:=@List.mem_append_left
abbrev yAv:=@Nat.add_mul
abbrev yAw:=@List.getElem?_eq_none
abbrev yAx:=@List.eq_nil_of_length_eq_zero
abbrev yAy:=@List.getElem?_map
abbrev yAz:=@Array.getElem?_eq_none
abbrev yBA:=@List.getElem?_toArray
abbrev yBB:=@Classical.choose_spec
abbrev yBC:=@List.mem_map
abbrev yBD:=@List.drop_zero
abbrev yBE:=@List.pairwise_cons
abbrev yBF:=@List.filter_append
abbrev yBG:=@Nat.le_succ
abbrev yBH:=@List.getElem?_cons_succ
abbrev yBI:=@List.nil_append
abbrev yBJ:=@List.mem_of_mem_take
abbrev yBK:=@List.length_set
abbrev yBL:=@List.length_eq_zero_iff
abbrev yBM:=@List.map_nil
abbrev yBN:=@Nat.le_trans
abbrev yBO:=@List.map_map
abbrev yBP:=@Option.bind_some
abbrev yBQ:=@List.any_eq_true
abbrev yBR:=@Bool.not_eq_true'
abbrev yBS:=@Bool.false_eq_true
abbrev yBT:=@Bool.true_and
abbrev yBU:=@Option.map_some
abbrev yBV:=@List.take_succ_cons
abbrev yBW:=@List.getElem?_eq_some_iff
abbrev yBX:=@Prod.mk.injEq
abbrev yBY:=@Nat.mul_le_mul_right
abbrev yBZ:=@List.all_cons
set_option linter.unusedVariables false
namespace Go.Ab
inductive D where
 | v (x:Value)
 | agg (cs:List D)
 | tup (cs:List D)
 | fz (k:Nat) (xs:List D)
 | fp (k:Nat) (xs:List D) (i o:Nat)
 | sl (r i m:Nat)
 | slc (r i m c:Nat)
 | pt (r i o:Nat)
 | fn (f:Fn) (fs cs:List D)
 | ifc (t:TypeId) (d:D)
 | mp (r:Nat)
 | any
instance:Inhabited D:=⟨.v undef⟩
def D.width:D -> Nat
 | .agg cs=>cs.length
 | _=>1
def D.one:D -> Bool
 | .v (.agg _)=>false
 | .v (.tuple _)=>false
 | .v _=>true
 | .agg _=>false
 | .tup _=>false
 | .any=>false
 | _=>true
def D.lies:D -> Bool
 | .agg cs=>cs.all D.one
 | d=>d.one
structure Own where
 b:Nat
 base:Nat
 k:Nat
 tot:Nat
inductive Row where
 | cells (k:Nat) (xs:List D)
 | mp (es:List (Nat × Value × D)) (clock:Nat)
 | it (m since:Nat) (seen:List Nat) (last:Nat)
 | sit (s:ByteArray) (pos:Nat)
 | bx (d:D)
abbrev Heap:=List (Option Row)
section rel
variable (own:Nat -> Own) (U:Nat -> Prop) (w:World)
mutual
def VRel (n:Nat):D -> Value -> Prop
 | .v x,val=>val = x
 | .agg cs,val=>∃ vs,val = .agg vs.toArray /\ VRels n cs vs
 | .tup cs,val=>∃ vs,val = .tuple vs.toArray /\ VRels n cs vs
 | .fz k xs,val=>∃ a c,val = .slice a xs.length c /\ xs.length <= c /\ (xs.length ≠ 0 -> ∃ b off,a = some ⟨b,off,none⟩ /\ U b /\ Cells 0 k xs b off)
 | .fp k xs i o,val=>∃ b off,val = .pointer (some ⟨b,off + i * k + o,none⟩) /\ U b /\ Cells 0 k xs b off
 | .sl r i m,val=>r < n /\ ∃ off c,val = .slice (some ⟨(own r).b,off,none⟩) m c /\ m <= c /\ (c ≠ 0 -> off = (own r).base + i * (own r).k /\ (own r).base + (i + c) * (own r).k <= (own r).tot)
 | .slc r i m c,val=>r < n /\ ∃ off,val = .slice (some ⟨(own r).b,off,none⟩) m c /\ m <= c /\ (c ≠ 0 -> off = (own r).base + i * (own r).k /\ (own r).base + (i + c) * (own r).k <= (own r).tot)
 | .pt r i o,val=>r < n /\ val = .pointer (some ⟨(own r).b,(own r).base + i * (own r).k + o,none⟩)
 | .fn f fs cs,val=>∃ vs us,val = .func f vs.toArray us.toArray /\ VRels n fs vs /\ VRels n cs us
 | .ifc t d,val=>∃ x,val = .iface t x /\ VRel n d x
 | .mp r,val=>r < n /\ val = .map (some (own r).b)
 | .any,_=>True
termination_by d=>(SizeOf.sizeOf d,0)
def VRels (n:Nat):List D -> List Value -> Prop
 | [],vs=>vs = []
 | d :: ds,vs=>∃ x xs,vs = x :: xs /\ VRel n d x /\ VRels n ds xs
termination_by ds=>(SizeOf.sizeOf ds,0)
def Cells (n k:Nat):List D -> Nat -> Nat -> Prop
 | [],_,_=>True
 | d :: ds,b,off=>Elem n k d b off /\ Cells n k ds b (off + k)
termination_by ds=>(SizeOf.sizeOf ds,0)
def Elem (n k:Nat):D -> Nat -> Nat -> Prop
 | .agg cs,b,off=>cs.length = k /\ Flat n cs b off
 | d,b,off=>k = 1 /\ d.one = true /\ ∃ x,w.cell? ⟨b,off,none⟩ = some x /\ VRel n d x
termination_by d=>(SizeOf.sizeOf d,1)
def Flat (n:Nat):List D -> Nat -> Nat -> Prop
 | [],_,_=>True
 | d :: ds,b,off=>d.one = true /\ (∃ x,w.cell? ⟨b,off,none⟩ = some x /\ VRel n d x) /\ Flat n ds b (off + 1)
termination_by ds=>(SizeOf.sizeOf ds,0)
end
end rel
structure Keeps (own:Nat -> Own) (n:Nat) (U:Nat -> Prop) (w:World) (own':Nat -> Own) (n':Nat) (U':Nat -> Prop) (w':World):Prop where
 hn:n <= n'
 ho:∀ r,r < n -> own' r = own r
 hu:∀ b,U b -> U' b
 hc:∀ b,U b -> ∀ off,w'.cell? ⟨b,off,none⟩ = w.cell? ⟨b,off,none⟩
section mono
variable {own:Nat -> Own} {U:Nat -> Prop} {w:World} {own':Nat -> Own} {U':Nat -> Prop} {w':World}
def Keeps.zero {n n':Nat} (h:Keeps own n U w own' n' U' w'):Keeps own 0 U w own' 0 U' w':=⟨yAJ _,fun _ h=>absurd h (yAr _),h.hu,h.hc⟩
mutual
def VRel.mono {n n':Nat} (h:Keeps own n U w own' n' U' w'):∀ d x,VRel own U w n d x -> VRel own' U' w' n' d x
 | .v x,val,hv=>by simpa [VRel] using hv
 | .agg cs,val,hv=>by
  rw [VRel] at hv ⊢;obtain ⟨vs,h1,h2⟩:=hv;exact ⟨vs,h1,VRels.mono h cs vs h2⟩
 | .tup cs,val,hv=>by
  rw [VRel] at hv ⊢;obtain ⟨vs,h1,h2⟩:=hv;exact ⟨vs,h1,VRels.mono h cs vs h2⟩
 | .fz k xs,val,hv=>by
  rw [VRel] at hv ⊢;obtain ⟨a,c,h1,h2,h3⟩:=hv
  refine ⟨a,c,h1,h2,fun h0=>?_⟩
  obtain ⟨b,off,h4,h5,h6⟩:=h3 h0
  exact ⟨b,off,h4,h.hu b h5,Cells.mono h.zero k xs b off (h.hc b h5) h6⟩
 | .fp k xs i o,val,hv=>by
  rw [VRel] at hv ⊢;obtain ⟨b,off,h4,h5,h6⟩:=hv
  exact ⟨b,off,h4,h.hu b h5,Cells.mono h.zero k xs b off (h.hc b h5) h6⟩
 | .sl r i m,val,hv=>by
  rw [VRel] at hv ⊢;obtain ⟨h1,off,c,h2,h3,h4⟩:=hv
  refine ⟨yAd h1 h.hn,off,c,?_⟩
  rw [h.ho r h1];exact ⟨h2,h3,h4⟩
 | .slc r i m c,val,hv=>by
  rw [VRel] at hv ⊢;obtain ⟨h1,off,h2,h3,h4⟩:=hv
  refine ⟨yAd h1 h.hn,off,?_⟩
  rw [h.ho r h1];exact ⟨h2,h3,h4⟩
 | .pt r i o,val,hv=>by
  rw [VRel] at hv ⊢;obtain ⟨h1,h2⟩:=hv
  rw [h.ho r h1];exact ⟨yAd h1 h.hn,h2⟩
 | .fn f fs cs,val,hv=>by
  rw [VRel] at hv ⊢;obtain ⟨vs,us,h1,h2,h3⟩:=hv;exact ⟨vs,us,h1,VRels.mono h fs vs h2,VRels.mono h cs us h3⟩
 | .ifc t d,val,hv=>by
  rw [VRel] at hv ⊢;obtain ⟨x,h1,h2⟩:=hv;exact ⟨x,h1,VRel.mono h d x h2⟩
 | .mp r,val,hv=>by
  rw [VRel] at hv ⊢;obtain ⟨h1,h2⟩:=hv
  rw [h.ho r h1];exact ⟨yAd h1 h.hn,h2⟩
 | .any,val,hv=>by rw [VRel];trivial
termination_by d=>(SizeOf.sizeOf d,0)
def VRels.mono {n n':Nat} (h:Keeps own n U w own' n' U' w'):∀ ds xs,VRels own U w n ds xs -> VRels own' U' w' n' ds xs
 | [],xs,hv=>by simpa [VRels] using hv
 | d :: ds,xs,hv=>by
  rw [VRels] at hv ⊢;obtain ⟨x,ys,h1,h2,h3⟩:=hv
  exact ⟨x,ys,h1,VRel.mono h d x h2,VRels.mono h ds ys h3⟩
termination_by ds=>(SizeOf.sizeOf ds,0)
def Cells.mono {n n':Nat} (h:Keeps own n U w own' n' U' w') (k:Nat):∀ ds b off,(∀ off,w'.cell? ⟨b,off,none⟩ = w.cell? ⟨b,off,none⟩) -> Cells own U w n k ds b off -> Cells own' U' w' n' k ds b off
 | [],b,off,_,hv=>by simp [Cells]
 | d :: ds,b,off,hb,hv=>by
  rw [Cells] at hv ⊢
  exact ⟨Elem.mono h k d b off hb hv.1,Cells.mono h k ds b (off + k) hb hv.2⟩
termination_by ds=>(SizeOf.sizeOf ds,0)
def Elem.mono {n n':Nat} (h:Keeps own n U w own' n' U' w') (k:Nat):∀ d b off,(∀ off,w'.cell? ⟨b,off,none⟩ = w.cell? ⟨b,off,none⟩) -> Elem own U w n k d b off -> Elem own' U' w' n' k d b off
 | .agg cs,b,off,hb,hv=>by rw [Elem] at hv ⊢;exact ⟨hv.1,Flat.mono h cs b off hb hv.2⟩
 | .v x,b,off,hb,hv=>by
  rw [Elem] at hv ⊢ <;> first | (obtain ⟨h1,h0,x,h2,h3⟩:=hv;exact ⟨h1,h0,x,(hb off).trans h2,VRel.mono h _ x h3⟩) | simp
 | .tup cs,b,off,hb,hv=>by
  rw [Elem] at hv ⊢ <;> first | (obtain ⟨h1,h0,x,h2,h3⟩:=hv;exact ⟨h1,h0,x,(hb off).trans h2,VRel.mono h _ x h3⟩) | simp
 | .fz k xs,b,off,hb,hv=>by
  rw [Elem] at hv ⊢ <;> first | (obtain ⟨h1,h0,x,h2,h3⟩:=hv;exact ⟨h1,h0,x,(hb off).trans h2,VRel.mono h _ x h3⟩) | simp
 | .fp k xs i o,b,off,hb,hv=>by
  rw [Elem] at hv ⊢ <;> first | (obtain ⟨h1,h0,x,h2,h3⟩:=hv;exact ⟨h1,h0,x,(hb off).trans h2,VRel.mono h _ x h3⟩) | simp
 | .sl r i m,b,off,hb,hv=>by
  rw [Elem] at hv ⊢ <;> first | (obtain ⟨h1,h0,x,h2,h3⟩:=hv;exact ⟨h1,h0,x,(hb off).trans h2,VRel.mono h _ x h3⟩) | simp
 | .slc r i m c,b,off,hb,hv=>by
  rw [Elem] at hv ⊢ <;> first | (obtain ⟨h1,h0,x,h2,h3⟩:=hv;exact ⟨h1,h0,x,(hb off).trans h2,VRel.mono h _ x h3⟩) | simp
 | .pt r i o,b,off,hb,hv=>by
  rw [Elem] at hv ⊢ <;> first | (obtain ⟨h1,h0,x,h2,h3⟩:=hv;exact ⟨h1,h0,x,(hb off).trans h2,VRel.mono h _ x h3⟩) | simp
 | .fn f fs cs,b,off,hb,hv=>by
  rw [Elem] at hv ⊢ <;> first | (obtain ⟨h1,h0,x,h2,h3⟩:=hv;exact ⟨h1,h0,x,(hb off).trans h2,VRel.mono h _ x h3⟩) | simp
 | .ifc t d,b,off,hb,hv=>by
  rw [Elem] at hv ⊢ <;> first | (obtain ⟨h1,h0,x,h2,h3⟩:=hv;exact ⟨h1,h0,x,(hb off).trans h2,VRel.mono h _ x h3⟩) | simp
 | .any,b,off,hb,hv=>by
  rw [Elem] at hv ⊢ <;> first | (obtain ⟨h1,h0,x,h2,h3⟩:=hv;exact ⟨h1,h0,x,(hb off).trans h2,VRel.mono h _ x h3⟩) | simp
 | .mp r,b,off,hb,hv=>by
  rw [Elem] at hv ⊢ <;> first | (obtain ⟨h1,h0,x,h2,h3⟩:=hv;exact ⟨h1,h0,x,(hb off).trans h2,VRel.mono h _ x h3⟩) | simp
termination_by d=>(SizeOf.sizeOf d,1)
def Flat.mono {n n':Nat} (h:Keeps own n U w own' n' U' w'):∀ ds b off,(∀ off,w'.cell? ⟨b,off,none⟩ = w.cell? ⟨b,off,none⟩) -> Flat own U w n ds b off -> Flat own' U' w' n' ds b off
 | [],b,off,_,hv=>by simp [Flat]
 | d :: ds,b,off,hb,hv=>by
  rw [Flat] at hv ⊢
  obtain ⟨h0,⟨x,h1,h2⟩,h3⟩:=hv
  exact ⟨h0,⟨x,(hb off).trans h1,VRel.mono h d x h2⟩,Flat.mono h ds b (off + 1) hb h3⟩
termination_by ds=>(SizeOf.sizeOf ds,0)
end
end mono
end Go.Ab
set_option linter.unusedSectionVars false
set_option linter.unusedSimpArgs false
namespace Go.Ab
def D.cells:D -> List D
 | .agg cs=>cs
 | d=>[d]
def zCe {own n U w} (k:Nat) (d:D) (b off:Nat):Elem own U w n k d b off ↔ d.cells.length = k /\ Flat own U w n d.cells b off:=by
 cases d <;> simp only [Elem,D.cells,Flat,yAY,List.length_nil] <;> constructor <;> (intro h;simp_all [Flat]) <;> omega
def D.width_eq (d:D):d.width = d.cells.length:=by cases d <;> rfl
def Cells_get {own n U w} {k:Nat}:∀ {xs:List D} {b off:Nat} {i:Nat} {d:D},Cells own U w n k xs b off -> xs[i]? = some d -> Elem own U w n k d b (off + i * k)
 | [],b,off,i,d,_,h=>by simp at h
 | x :: xs,b,off,0,d,hc,h=>by
  rw [Cells] at hc;simp at h;subst h;simpa using hc.1
 | x :: xs,b,off,i + 1,d,hc,h=>by
  rw [Cells] at hc
  have:=Cells_get (i:=i) hc.2 (by simpa using h)
  rw [yAv,Nat.one_mul,Nat.add_comm (i * k),<- Nat.add_assoc];exact this
def Flat_get {own n U w}:∀ {xs:List D} {b off:Nat} {i:Nat} {d:D},Flat own U w n xs b off -> xs[i]? = some d -> ∃ x,w.cell? ⟨b,off + i,none⟩ = some x /\ VRel own U w n d x
 | [],b,off,i,d,_,h=>by simp at h
 | x :: xs,b,off,0,d,hc,h=>by
  rw [Flat] at hc;simp at h;subst h;simpa using hc.2.1
 | x :: xs,b,off,i + 1,d,hc,h=>by
  rw [Flat] at hc
  have:=Flat_get (i:=i) hc.2.2 (by simpa using h)
  rw [Nat.add_comm i 1,<- Nat.add_assoc];exact this
def Flat_append {own n U w}:∀ {xs ys:List D} {b off:Nat},Flat own U w n (xs ++ ys) b off ↔ Flat own U w n xs b off /\ Flat own U w n ys b (off + xs.length)
 | [],ys,b,off=>by simp [Flat]
 | x :: xs,ys,b,off=>by
  simp only [yAl,Flat,Flat_append,yAY,and_assoc]
  rw [show off + 1 + xs.length = off + (xs.length + 1) by omega]
def zBf {own n U w k}:∀ {xs ys:List D} {b off:Nat},Cells own U w n k (xs ++ ys) b off ↔ Cells own U w n k xs b off /\ Cells own U w n k ys b (off + xs.length * k)
 | [],ys,b,off=>by simp [Cells]
 | x :: xs,ys,b,off=>by
  simp only [yAl,Cells,zBf,yAY,and_assoc]
  rw [show off + k + xs.length * k = off + (xs.length + 1) * k by rw [yAv];omega]
def Cells_flat {own n U w k} {xs:List D}:∀ {b off:Nat},Cells own U w n k xs b off ↔ (∀ d ∈ xs,d.width = k) /\ Flat own U w n (xs.flatMap D.cells) b off:=by
 induction xs with
 | nil=>intro b off;simp [Cells,Flat]
 | cons x xs ih =>
  intro b off
  simp only [Cells,zCe,yAE,yAj,Flat_append,ih,D.width_eq,forall_eq_or_imp]
  constructor
  ·rintro ⟨⟨rfl,h2⟩,h3,h4⟩;exact ⟨⟨rfl,h3⟩,h2,h4⟩
  ·rintro ⟨⟨rfl,h3⟩,h2,h4⟩;exact ⟨⟨rfl,h2⟩,h3,h4⟩
def Flat_values {own n U w} {xs:List D}:∀ {b off:Nat},Flat own U w n xs b off ↔ xs.all D.one = true /\ ∃ vs,VRels own U w n xs vs /\ ∀ i,i < vs.length -> w.cell? ⟨b,off + i,none⟩ = vs[i]?:=by
 induction xs with
 | nil=>intro b off;simp [Flat,VRels]
 | cons x xs ih =>
  intro b off
  simp only [Flat,VRels,ih,yBZ,yAB]
  constructor
  ·rintro ⟨h0,⟨v,h1,h2⟩,h5,vs,h3,h4⟩
   refine ⟨⟨h0,h5⟩,v :: vs,⟨v,vs,rfl,h2,h3⟩,fun i hi=>?_⟩
   cases i with
   | zero=>simpa using h1
   | succ i=>have:=h4 i (by simpa using hi);rw [Nat.add_comm i 1,<- Nat.add_assoc];rw [this,Nat.add_comm 1 i,yBH]
  ·rintro ⟨⟨h0,h5⟩,vs,⟨v,us,rfl,h2,h3⟩,h4⟩
   refine ⟨h0,⟨v,by simpa using h4 0 (by simp),h2⟩,h5,us,h3,fun i hi=>?_⟩
   have:=h4 (i + 1) (by simpa using hi)
   rw [Nat.add_comm i 1,<- Nat.add_assoc] at this;rw [this,Nat.add_comm 1 i,yBH]
def zAi {own n U w}:∀ {ds:List D} {vs:List Value},VRels own U w n ds vs -> vs.length = ds.length
 | [],vs,h=>by simp [VRels] at h;simp [h]
 | d :: ds,vs,h=>by rw [VRels] at h;obtain ⟨x,xs,rfl,_,h⟩:=h;simp [zAi h]
def VRels_get {own n U w}:∀ {ds:List D} {vs:List Value} {i:Nat} {d:D},VRels own U w n ds vs -> ds[i]? = some d -> ∃ v,vs[i]? = some v /\ VRel own U w n d v
 | [],vs,i,d,_,h=>by simp at h
 | x :: ds,vs,0,d,hv,h=>by rw [VRels] at hv;obtain ⟨y,ys,rfl,h1,_⟩:=hv;simp at h;subst h;exact ⟨y,rfl,h1⟩
 | x :: ds,vs,i + 1,d,hv,h=>by
  rw [VRels] at hv;obtain ⟨y,ys,rfl,_,h1⟩:=hv
  obtain ⟨v,h2,h3⟩:=VRels_get h1 (by simpa using h);exact ⟨v,by simpa using h2,h3⟩
def zBF {own n U w}:∀ {ds es:List D} {vs us:List Value},VRels own U w n ds vs -> VRels own U w n es us -> VRels own U w n (ds ++ es) (vs ++ us)
 | [],es,vs,us,h,h'=>by simp [VRels] at h;subst h;simpa using h'
 | d :: ds,es,vs,us,h,h'=>by
  rw [VRels] at h;obtain ⟨x,xs,rfl,h1,h2⟩:=h
  rw [yAl,yAl,VRels];exact ⟨x,_,rfl,h1,zBF h2 h'⟩
def VRels_split {own n U w}:∀ {ds es:List D} {vs:List Value},VRels own U w n (ds ++ es) vs -> ∃ us ws,vs = us ++ ws /\ VRels own U w n ds us /\ VRels own U w n es ws
 | [],es,vs,h=>⟨[],vs,rfl,by simp [VRels],by simpa using h⟩
 | d :: ds,es,vs,h=>by
  rw [yAl,VRels] at h;obtain ⟨x,xs,rfl,h1,h2⟩:=h
  obtain ⟨us,ws,rfl,h3,h4⟩:=VRels_split h2
  exact ⟨x :: us,ws,rfl,by rw [VRels];exact ⟨x,us,rfl,h1,h3⟩,h4⟩
def Heap.get (H:Heap) (r:Nat):Option Row:=(H[r]?).join
def Heap.get_lt {H:Heap} {r:Nat} {row:Row} (h:H.get r = some row):r < H.length:=by
 rcases yAZ r H.length with h' | h'
 ·exact h'
 ·simp [Heap.get,yAw h'] at h
def Heap.get_push (H:Heap) (x:Option Row) (r:Nat):Heap.get (H ++ [x]) r = if r = H.length then x else H.get r:=by
 unfold Heap.get
 by_cases h:r = H.length
 ·subst h;simp
 ·rw [if_neg h]
  rcases yAZ r H.length with h' | h'
  ·rw [yAe h']
  ·rw [yAw h',yAw (by simp;omega)]
def Heap.get_set (H:Heap) {i:Nat} (hi:i < H.length) (x:Option Row) (r:Nat):Heap.get (H.set i x) r = if r = i then x else H.get r:=by
 unfold Heap.get
 by_cases h:r = i
 ·subst h;simp [hi]
 ·rw [if_neg h,List.getElem?_set_ne (Ne.symm h)]
def zAQ (own:Nat -> Own) (H:Heap) (X:Nat -> Prop) (w:World) (b:Nat):Prop:=b < w.heap.size /\ ¬ X b /\ ∀ r row,H.get r = some row -> (own r).b ≠ b
def MapRel (own:Nat -> Own) (n:Nat) (U:Nat -> Prop) (w:World) (es:List (Nat × Value × D)) (entries:Array MapEntry):Prop :=
 entries.toList.map (fun e=>(e.born,e.key)) = es.map (fun p=>(p.1,p.2.1)) /\ VRels own U w n (es.map (·.2.2)) (entries.toList.map (·.val))
def RowOk (own:Nat -> Own) (n:Nat) (U:Nat -> Prop) (w:World) (o:Own):Row -> Prop
 | .cells k xs=>k = o.k /\ ∃ c t,w.heap[o.b]? = some (.cells c t (0,0)) /\ c.size = o.tot /\ o.base + xs.length * k <= o.tot /\ Cells own U w n k xs o.b o.base
 | .mp es clock=>∃ entries,w.heap[o.b]? = some (.map entries clock) /\ MapRel own n U w es entries
 | .it m since seen last=>m < n /\ o.base = 0 /\ w.heap[o.b]? = some (.mapIter (some (own m).b) since seen.toArray last)
 | .sit s pos=>o.base = 0 /\ w.heap[o.b]? = some (.stringIter s pos)
 | .bx d=>o.base = 0 /\ ∃ x t,w.heap[o.b]? = some (.cells #[x] t (0,0)) /\ VRel own U w n d x
structure Sim (own:Nat -> Own) (H:Heap) (X:Nat -> Prop) (w:World):Prop where
 live:∀ r row,H.get r = some row -> RowOk own H.length (zAQ own H X w) w (own r) row /\ ¬ X (own r).b
 excl:∀ r r' row row',H.get r = some row -> H.get r' = some row' -> r ≠ r' -> (own r).b ≠ (own r').b
 hid:∀ b,X b -> b < w.heap.size
abbrev Rel (own:Nat -> Own) (H:Heap) (X:Nat -> Prop) (w:World) (d:D) (v:Value):Prop:=VRel own (zAQ own H X w) w H.length d v
abbrev zCL (own:Nat -> Own) (H:Heap) (X:Nat -> Prop) (w:World) (ds:List D) (vs:List Value):Prop:=VRels own (zAQ own H X w) w H.length ds vs
class DM where
 ok:Prop
variable [DM]
structure SameW (w w':World):Prop where
 os:w'.os = w.os
 out:w'.output = w.output
 tape:w'.tape = w.tape
 drawn:DM.ok -> w.drawn <= w'.drawn
def SameW.refl (w:World):SameW w w:=⟨rfl,rfl,rfl,fun _=>yAJ _⟩
def SameW.trans {w w' w'':World} (h:SameW w w') (h':SameW w' w''):SameW w w'':=⟨h'.os.trans h.os,h'.out.trans h.out,h'.tape.trans h.tape,fun o=>yBN (h.drawn o) (h'.drawn o)⟩
structure ExtN (n0:Nat) (X:Nat -> Prop) (own:Nat -> Own) (H:Heap) (w:World) (own':Nat -> Own) (H':Heap) (w':World):Prop where
 size:w.heap.size <= w'.heap.size
 hn:n0 <= H'.length
 ho:∀ r,r < n0 -> own' r = own r
 hb:∀ b,zAQ own H X w b -> zAQ own' H' X w' b /\ w'.heap[b]? = w.heap[b]?
 hx:∀ b,X b -> w'.heap[b]? = w.heap[b]?
 st:SameW w w'
abbrev Ext (X:Nat -> Prop) (own:Nat -> Own) (H:Heap) (w:World) (own':Nat -> Own) (H':Heap) (w':World):Prop:=ExtN H.length X own H w own' H' w'
section steps
variable {X:Nat -> Prop}
def zCD {w w':World} {b:Nat} (h:w'.heap[b]? = w.heap[b]?) (off:Nat):w'.cell? ⟨b,off,none⟩ = w.cell? ⟨b,off,none⟩:=by
 simp [World.cell?,h]
def ExtN.keeps {own H w own' H' w'} (h:Ext X own H w own' H' w'):Keeps own H.length (zAQ own H X w) w own' H'.length (zAQ own' H' X w') w' :=
 ⟨h.hn,h.ho,fun b hb=>(h.hb b hb).1,fun b hb=>zCD (h.hb b hb).2⟩
def ExtN.refl (own H w):Ext X own H w own H w:=⟨yAJ _,yAJ _,fun _ _=>rfl,fun b hb=>⟨hb,rfl⟩,fun _ _=>rfl,.refl _⟩
def ExtN.trans {n0 own H w own' H' w' own'' H'' w''} (hn:n0 <= H.length) (h:Ext X own H w own' H' w') (h':ExtN n0 X own' H' w' own'' H'' w''):ExtN n0 X own H w own'' H'' w'' :=
 ⟨yBN h.size h'.size,h'.hn,fun r hr=>(h'.ho r hr).trans (h.ho r (yAd hr hn)),
  fun b hb=>⟨(h'.hb b (h.hb b hb).1).1,(h'.hb b (h.hb b hb).1).2.trans (h.hb b hb).2⟩,fun b hb=>(h'.hx b hb).trans (h.hx b hb),h.st.trans h'.st⟩
def Ext.trans {own H w own' H' w' own'' H'' w''} (h:Ext X own H w own' H' w') (h':Ext X own' H' w' own'' H'' w''):Ext X own H w own'' H'' w'' :=
 ExtN.trans (yAJ _) h ⟨h'.size,yBN h.hn h'.hn,fun r hr=>h'.ho r (yAd hr h.hn),h'.hb,h'.hx,h'.st⟩
def ExtN.of_ext {n0 own H w own' H' w'} (hn:n0 <= H.length) (h:Ext X own H w own' H' w'):ExtN n0 X own H w own' H' w' :=
 ⟨h.size,yBN hn h.hn,fun r hr=>h.ho r (yAd hr hn),h.hb,h.hx,h.st⟩
def ExtN.rel {own H w own' H' w' d v} (h:Ext X own H w own' H' w') (hr:Rel own H X w d v):Rel own' H' X w' d v:=VRel.mono h.keeps d v hr
def ExtN.rels {own H w own' H' w' d v} (h:Ext X own H w own' H' w') (hr:zCL own H X w d v):zCL own' H' X w' d v:=VRels.mono h.keeps d v hr
def RowOk.mono {own n U w own' n' U' w'} (h:Keeps own n U w own' n' U' w') {o:Own} {row:Row} (hb:w'.heap[o.b]? = w.heap[o.b]?) (hr:RowOk own n U w o row):RowOk own' n' U' w' o row:=by
 cases row with
 | cells k xs =>
  obtain ⟨h1,c,t,h2,h3,h4,h5⟩:=hr
  exact ⟨h1,c,t,hb.trans h2,h3,h4,Cells.mono h k xs _ _ (zCD hb) h5⟩
 | mp es cl =>
  obtain ⟨en,h1,h2,h3⟩:=hr
  exact ⟨en,hb.trans h1,h2,VRels.mono h _ _ h3⟩
 | it m since seen last =>
  obtain ⟨h1,h2,h3⟩:=hr
  exact ⟨yAd h1 h.hn,h2,by rw [h.ho m h1];exact hb.trans h3⟩
 | sit s pos=>exact ⟨hr.1,hb.trans hr.2⟩
 | bx d =>
  obtain ⟨h1,x,t,h2,h3⟩:=hr
  exact ⟨h1,x,t,hb.trans h2,VRel.mono h _ _ h3⟩
def RowOk.lt {own n U w o row} (h:RowOk own n U w o row):o.b < w.heap.size:=by
 cases row with
 | cells k xs=>obtain ⟨_,c,t,h2,_⟩:=h;rcases yAZ o.b w.heap.size with h | h;exact h;simp [yAz h] at h2
 | mp es cl=>obtain ⟨c,h2,_⟩:=h;rcases yAZ o.b w.heap.size with h | h;exact h;simp [yAz h] at h2
 | it m since seen last=>obtain ⟨_,_,h2⟩:=h;rcases yAZ o.b w.heap.size with h | h;exact h;simp [yAz h] at h2
 | sit s pos=>obtain ⟨_,h2⟩:=h;rcases yAZ o.b w.heap.size with h | h;exact h;simp [yAz h] at h2
 | bx d=>obtain ⟨_,x,t,h2,_⟩:=h;rcases yAZ o.b w.heap.size with h | h;exact h;simp [yAz h] at h2
def zDa (own H) (w w':World) (hw:w'.heap = w.heap) (st:SameW w w':=by first | exact ⟨rfl,rfl,rfl,fun _=>yAJ _⟩ | exact ⟨rfl,rfl,rfl,fun _=>yBG _⟩):Ext X own H w own H w' :=
 ⟨by rw [hw];exact yAJ _,yAJ _,fun _ _=>rfl,fun b hb=>⟨⟨by rw [hw];exact hb.1,hb.2⟩,by rw [hw]⟩,fun _ _=>by rw [hw],st⟩
def sim_drawn {own H} {w w':World} (hw:w'.heap = w.heap) (hs:Sim own H X w):Sim own H X w' :=
 ⟨fun r row hr=>⟨RowOk.mono ⟨yAJ _,fun _ _=>rfl,fun b hb=>⟨by rw [hw];exact hb.1,hb.2⟩,fun b hb=>zCD (by rw [hw])⟩ (by rw [hw]) (hs.live r row hr).1,(hs.live r row hr).2⟩,hs.excl,fun b hb=>by rw [hw];exact hs.hid b hb⟩
def zBO (own:Nat -> Own) (r:Nat) (o:Own):Nat -> Own:=fun i=>if i = r then o else own i
def step_push {own H} {w:World} (hs:Sim own H X w) (obj:Obj) (row:Row) (o:Own) (hob:o.b = w.heap.size)
  {w':World} (hw':w'.heap = w.heap.push obj)
  (hrow:∀ (own':Nat -> Own) (H':Heap),Ext X own H w own' H' w' -> w'.heap[w.heap.size]? = some obj -> RowOk own' H'.length (zAQ own' H' X w') w' o row) (st:SameW w w':=by first | exact ⟨rfl,rfl,rfl,fun _=>yAJ _⟩ | exact ⟨rfl,rfl,rfl,fun _=>yBG _⟩) :
  Sim (zBO own H.length o) (H ++ [some row]) X w' /\ Ext X own H w (zBO own H.length o) (H ++ [some row]) w':=by
 have hnew:w'.heap[w.heap.size]? = some obj:=by rw [hw'];simp
 have hold:∀ b,b < w.heap.size -> w'.heap[b]? = w.heap[b]?:=fun b hb=>by rw [hw'];simp [Array.getElem?_push,Nat.ne_of_lt hb]
 have hext:Ext X own H w (zBO own H.length o) (H ++ [some row]) w':=by
  refine ⟨by rw [hw'];simp,by simp,fun r hr=>by simp [zBO,Nat.ne_of_lt hr],fun b hb=>⟨⟨by have:=hb.1;rw [hw'];simp;omega,hb.2.1,fun r row' hr=>?_⟩,hold b hb.1⟩,fun b hb=>hold b (hs.hid b hb),st⟩
  rw [Heap.get_push] at hr
  by_cases hrn:r = H.length
  ·subst hrn;have:=hb.1;simp only [zBO,if_true,hob];omega
  ·simp [hrn] at hr;simp [zBO,hrn];exact hb.2.2 r row' hr
 refine ⟨⟨fun r row' hr=>?_,fun r r' row₁ row₂ h₁ h₂ hne=>?_,fun b hb=>by have:=hs.hid b hb;rw [hw'];simp;omega⟩,hext⟩
 ·rw [Heap.get_push] at hr
  by_cases hrn:r = H.length
  ·subst hrn;simp at hr;subst hr
   have:zBO own H.length o H.length = o:=by simp [zBO]
   rw [this];exact ⟨hrow _ _ hext hnew,fun hx=>by have:=hs.hid _ hx;omega⟩
  ·have hr':H.get r = some row':=by simpa [hrn] using hr
   obtain ⟨h2,h3⟩:=hs.live r row' hr'
   have:zBO own H.length o r = own r:=by simp [zBO,hrn]
   rw [this];exact ⟨RowOk.mono hext.keeps (hold _ h2.lt) h2,h3⟩
 ·rw [Heap.get_push] at h₁ h₂
  by_cases hrn:r = H.length <;> by_cases hrn':r' = H.length
  ·omega
  ·subst hrn
   have hr':H.get r' = some row₂:=by simpa [hrn'] using h₂
   have:=(hs.live r' row₂ hr').1.lt
   simp [zBO,hrn',hob];omega
  ·subst hrn'
   have hr':H.get r = some row₁:=by simpa [hrn] using h₁
   have:=(hs.live r row₁ hr').1.lt
   simp [zBO,hrn,hob];omega
  ·have hr1:H.get r = some row₁:=by simpa [hrn] using h₁
   have hr2:H.get r' = some row₂:=by simpa [hrn'] using h₂
   simp [zBO,hrn,hrn'];exact hs.excl r r' _ _ hr1 hr2 hne
def step_set {own H} {w:World} (hs:Sim own H X w) {r:Nat} {row row':Row} (hr:H.get r = some row) (obj:Obj)
  {w':World} (hw':w'.heap = w.heap.setIfInBounds (own r).b obj)
  (hrow:Ext X own H w own (H.set r (some row')) w' -> w'.heap[(own r).b]? = some obj -> RowOk own H.length (zAQ own (H.set r (some row')) X w') w' (own r) row') (st:SameW w w':=by first | exact ⟨rfl,rfl,rfl,fun _=>yAJ _⟩ | exact ⟨rfl,rfl,rfl,fun _=>yBG _⟩) :
  Sim own (H.set r (some row')) X w' /\ Ext X own H w own (H.set r (some row')) w':=by
 have hrl:=Heap.get_lt hr
 have hlt:=(hs.live r row hr).1.lt
 have hnew:w'.heap[(own r).b]? = some obj:=by rw [hw'];simp [hlt]
 have hold:∀ b,b ≠ (own r).b -> w'.heap[b]? = w.heap[b]?:=fun b hb=>by rw [hw'];simp [Array.getElem?_setIfInBounds,Ne.symm hb]
 have hext:Ext X own H w own (H.set r (some row')) w':=by
  refine ⟨by rw [hw'];simp,by simp,fun _ _=>rfl,fun b hb=>⟨⟨by rw [hw'];simpa using hb.1,hb.2.1,fun r' row₁ hr'=>?_⟩,hold b (Ne.symm (hb.2.2 r row hr))⟩,fun b hb=>hold b fun h=>(hs.live r row hr).2 (h ▸ hb),st⟩
  rw [Heap.get_set H hrl] at hr'
  by_cases hrr:r' = r
  ·subst hrr;exact hb.2.2 _ _ hr
  ·exact hb.2.2 r' row₁ (by simpa [hrr] using hr')
 refine ⟨⟨fun r' row₁ hr'=>?_,fun r₁ r₂ row₁ row₂ h₁ h₂ hne=>?_,fun b hb=>by rw [hw'];simpa using hs.hid b hb⟩,hext⟩
 ·rw [Heap.get_set H hrl] at hr'
  by_cases hrr:r' = r
  ·subst hrr
   simp at hr';subst hr'
   rw [yBK]
   exact ⟨hrow hext hnew,(hs.live _ _ hr).2⟩
  ·have h1:H.get r' = some row₁:=by simpa [hrr] using hr'
   obtain ⟨h2,h3⟩:=hs.live r' row₁ h1
   exact ⟨RowOk.mono hext.keeps (hold _ (hs.excl _ _ _ _ h1 hr hrr)) h2,h3⟩
 ·have g:∀ r' row₁,Heap.get (H.set r (some row')) r' = some row₁ -> ∃ row₂,H.get r' = some row₂:=fun r' row₁ h=>by
   rw [Heap.get_set H hrl] at h
   by_cases hrr:r' = r
   ·subst hrr;exact ⟨_,hr⟩
   ·exact ⟨row₁,by simpa [hrr] using h⟩
  obtain ⟨_,g1⟩:=g _ _ h₁
  obtain ⟨_,g2⟩:=g _ _ h₂
  exact hs.excl _ _ _ _ g1 g2 hne
def step_drop {own} {H H':Heap} {w:World} (hs:Sim own H X w) (hl:H'.length = H.length) (hg:∀ r row,H'.get r = some row -> H.get r = some row):Sim own H' X w /\ Ext X own H w own H' w:=by
 have hext:Ext X own H w own H' w:=⟨yAJ _,by omega,fun _ _=>rfl,fun b hb=>⟨⟨hb.1,hb.2.1,fun r' row h=>hb.2.2 r' row (hg _ _ h)⟩,rfl⟩,fun _ _=>rfl,.refl _⟩
 exact ⟨⟨fun r' row h=>⟨RowOk.mono hext.keeps rfl (hs.live _ _ (hg _ _ h)).1,(hs.live _ _ (hg _ _ h)).2⟩,fun r₁ r₂ _ _ h₁ h₂ hne=>hs.excl _ _ _ _ (hg _ _ h₁) (hg _ _ h₂) hne,hs.hid⟩,hext⟩
end steps
end Go.Ab
namespace Go.Ab
variable [Go.Ab.DM]
abbrev Env:=Nat -> D
def upd (e:Env) (n:Nat) (d:D):Env:=fun m=>if m = n then d else e m
def updO (e:Env) (o:Option Tmp) (d:D):Env:=match o with | some n=>upd e n d | none=>e
def ev (e:Env):Operand -> D
 | .tmp t=>e t
 | .const v=>.v v
 | .global g=>.v (.pointer (some ⟨g,0,none⟩))
 | .func f=>.fn (.func f) [] []
def EnvRel (own:Nat -> Own) (H:Heap) (X:Nat -> Prop) (w:World) (tmps:Array Value) (e:Env):Prop:=∀ i,Rel own H X w (e i) (tmps.getD i undef)
def zCE {own H X w x v}:Rel own H X w (.v x) v ↔ v = x:=by simp [Rel,VRel]
def EnvRel.eval {own H X w tmps e} (h:EnvRel own H X w tmps e) {ds:List Deferred} (x:Operand):Rel own H X w (ev e x) ((⟨tmps,ds⟩:Act).eval x):=by
 cases x with
 | tmp t=>exact h t
 | const v=>simp [ev,Act.eval,Rel,VRel]
 | global g=>simp [ev,Act.eval,Rel,VRel]
 | func f=>simp [ev,Act.eval,Rel,VRel,VRels]
def EnvRel.ext {own H X w tmps e own' H' w'} (h:EnvRel own H X w tmps e) (hx:Ext X own H w own' H' w'):EnvRel own' H' X w' tmps e:=fun i=>hx.rel (h i)
def EnvRel.upd {own H X w tmps e} (h:EnvRel own H X w tmps e) {n:Nat} (hn:n < tmps.size) {d:D} {v:Value} (hv:Rel own H X w d v):EnvRel own H X w (tmps.setIfInBounds n v) (upd e n d):=by
 intro i
 unfold Ab.upd
 by_cases hi:i = n
 ·subst hi;simpa [Array.getD,hn] using hv
 ·have:(tmps.setIfInBounds n v).getD i undef = tmps.getD i undef:=by
   simp only [Array.getD_eq_getD_getElem?];rw [Array.getElem?_setIfInBounds_ne (Ne.symm hi)]
  rw [if_neg hi,this];exact h i
def dstOk (N:Nat):Option Tmp -> Prop
 | some n=>n < N
 | none=>True
def EnvRel.put {own H X w tmps e} (h:EnvRel own H X w tmps e) {o:Option Tmp} (hn:dstOk tmps.size o) {d:D} {v:Value} (hv:Rel own H X w d v) (ds:List Deferred) :
  EnvRel own H X w ((⟨tmps,ds⟩:Act).put o v).tmps (updO e o d):=by
 cases o with
 | none=>exact h
 | some n=>exact h.upd hn hv
def put_size {tmps:Array Value} {ds:List Deferred} {o:Option Tmp} {v:Value}:((⟨tmps,ds⟩:Act).put o v).tmps.size = tmps.size:=by
 cases o <;> simp [Act.put]
def put_defers {tmps:Array Value} {ds:List Deferred} {o:Option Tmp} {v:Value}:((⟨tmps,ds⟩:Act).put o v).defers = ds:=by
 cases o <;> simp [Act.put]
def frameOf (f:FuncId):Frame:={ (default:Frame) with fn:=f,kind:=.normal }
def Fin (P:Program) (f:FuncId) (n0:Nat) (R:D -> Heap -> Prop) (X:Nat -> Prop) (own:Nat -> Own) (H:Heap) (w:World) (m:Machine) (cs:List Frame):Prop :=
 ∃ own' w' d H' v fr,Steps P m (lone fr cs w') /\ fr.fn = f /\ fr.leaving P w' (.returned v) /\ Sim own' H' X w' /\ Rel own' H' X w' d v /\ R d H' /\ ExtN n0 X own H w own' H' w'
def Fin.of_steps {P f n0 R X own H w m m1 cs own1 H1 w1} (hn:n0 <= H.length) (hx:Ext X own H w own1 H1 w1) (hs:Steps P m m1) (h:Fin P f n0 R X own1 H1 w1 m1 cs):Fin P f n0 R X own H w m cs:=by
 obtain ⟨own',w',d,H',v,fr,h1,h2,h3,h4,h5,h6,h7⟩:=h
 exact ⟨own',w',d,H',v,fr,hs.trans h1,h2,h3,h4,h5,h6,ExtN.trans hn hx h7⟩
def Run (P:Program) (f:FuncId) (N n0:Nat) (R:D -> Heap -> Prop) (todo:List Item) (e:Env) (H:Heap):Prop :=
 n0 <= H.length -> ∀ own X w tmps cs,tmps.size = N -> Sim own H X w -> EnvRel own H X w tmps e -> Fin P f n0 R X own H w (lone ((frameOf f).at ⟨tmps,[]⟩ todo) cs w) cs
def callable (P:Program) (g:FuncId):Prop:=∃ fn,P.funcs[g]? = some fn /\ (fn.name == "runtime.NumGoroutine") = false /\ fn.body.isSome = true
def Sound (P:Program) (f:FuncId) (ds:List D) (H:Heap) (R:D -> Heap -> Prop):Prop :=
 callable P f /\ ∀ own X w vs,Sim own H X w -> zCL own H X w ds vs -> Calls P f vs.toArray w fun e w' =>
  ∃ own' d H' v,e = .returned v /\ Sim own' H' X w' /\ Rel own' H' X w' d v /\ Ext X own H w own' H' w' /\ R d H'
def Sound.mono {P f ds H R R'} (h:Sound P f ds H R) (hr:∀ d H',R d H' -> R' d H'):Sound P f ds H R':=⟨h.1,fun own X w vs hs hv =>
 Calls.mono (h.2 own X w vs hs hv) fun e w' ⟨own',d,H',v,h1,h2,h3,h4,h5⟩=>⟨own',d,H',v,h1,h2,h3,h4,hr _ _ h5⟩⟩
def SoundK (P:Program) (f:FuncId) (ds:List D) (H:Heap) (R:D -> Heap -> Prop):Prop :=
 callable P f /\ ∀ own X w vs,Sim own H X w -> zCL own H X w ds vs -> Calls P f vs.toArray w fun e w' =>
  ∃ own' d H' v,e = .returned v /\ Sim own' H' X w' /\ Rel own' H' X w' d v /\ (Ext X own H w own' H' w' /\ ∀ b,b < w.heap.size -> w'.heap[b]? = w.heap[b]?) /\ R d H'
def SoundK.sound {P f ds H R} (h:SoundK P f ds H R):Sound P f ds H R:=⟨h.1,fun own X w vs hs hv =>
 Calls.mono (h.2 own X w vs hs hv) fun e w' ⟨own',d,H',v,h1,h2,h3,h4,h5⟩=>⟨own',d,H',v,h1,h2,h3,h4.1,h5⟩⟩
def SoundK.mono {P f ds H R R'} (h:SoundK P f ds H R) (hr:∀ d H',R d H' -> R' d H'):SoundK P f ds H R':=⟨h.1,fun own X w vs hs hv =>
 Calls.mono (h.2 own X w vs hs hv) fun e w' ⟨own',d,H',v,h1,h2,h3,h4,h5⟩=>⟨own',d,H',v,h1,h2,h3,h4,hr _ _ h5⟩⟩
def envOf (ds:List D):Env:=fun i=>ds.getD i (.v undef)
def zBq {P f fn ds H R} {c:Code} {N:Nat} (hf:P.funcs[f]? = some fn) (hb:fn.body = some c) (hnm:(fn.name == "runtime.NumGoroutine") = false) (hN:fn.ntmps = N) (hl:ds.length <= N)
  (h:Run P f N H.length R [.code c] (envOf ds) H):Sound P f ds H R:=by
 refine ⟨⟨fn,hf,hnm,by simp [hb]⟩,fun own X w vs hs hv cs=>?_⟩
 have hlen:=zAi hv
 have henter:Frame.enter P f vs.toArray .normal = (frameOf f).at ⟨vs.toArray ++ Array.replicate (N - vs.length) undef,[]⟩ [.code c]:=by
  simp [Frame.enter,Frame.at,hf,hb,hN,frameOf]
 have henv:EnvRel own H X w (vs.toArray ++ Array.replicate (N - vs.length) undef) (envOf ds):=by
  intro i
  unfold envOf
  rcases yAZ i ds.length with hi | hi
  ·obtain ⟨v,h1,h2⟩:=VRels_get hv (i:=i) (d:=ds[i]) (by simp [hi])
   have:(vs.toArray ++ Array.replicate (N - vs.length) undef).getD i undef = v:=by
    rw [Array.getD_eq_getD_getElem?,Array.getElem?_append_left (by simp;omega)];simp [h1]
   rw [this];simpa [List.getD,hi] using h2
  ·have:(vs.toArray ++ Array.replicate (N - vs.length) undef).getD i undef = undef:=by
    rw [Array.getD_eq_getD_getElem?,Array.getElem?_append_right (by simp;omega)]
    simp only [Array.getElem?_replicate];split <;> rfl
   rw [this,yAI,yAw hi];simp [Rel,VRel]
 have:=h (yAJ _) own X w _ cs (by simp;omega) hs henv
 obtain ⟨own',w',d,H',v,fr,h1,h2,h3,h4,h5,h6,h7⟩:=this
 rw [<- henter] at h1
 exact ⟨.returned v,w',fr,⟨own',d,H',v,rfl,h4,h5,h7,h6⟩,h1,h2,h3⟩
section code
variable {P:Program} {f:FuncId} {N n0:Nat} {R:D -> Heap -> Prop} {K:List Item} {e:Env} {H:Heap}
def Run.of_step {t t':List Item} (hs:∀ tmps cs w,Steps P (lone ((frameOf f).at ⟨tmps,[]⟩ t) cs w) (lone ((frameOf f).at ⟨tmps,[]⟩ t') cs w)) (h:Run P f N n0 R t' e H):Run P f N n0 R t e H :=
 fun hn own X w tmps cs hN hsim henv=>Fin.of_steps hn (.refl _ _ _) (hs tmps cs w) (h hn own X w tmps cs hN hsim henv)
def run_seq {x y:Code} (h:Run P f N n0 R (.code x :: .code y :: K) e H):Run P f N n0 R (.code (.seq x y) :: K) e H:=h.of_step fun _ _ _=>.one step_seq
def zBZ (h:Run P f N n0 R K e H):Run P f N n0 R (.code .skip :: K) e H:=h.of_step fun _ _ _=>.one step_skip
def zDA {i:Nat} {c:Code} (h:Run P f N n0 R (.code c :: .inBlock i :: K) e H):Run P f N n0 R (.code (.block i c) :: K) e H:=h.of_step fun _ _ _=>.one step_block
def zAr {i:Nat} (h:Run P f N n0 R K e H):Run P f N n0 R (.inBlock i :: K) e H:=h.of_step fun _ _ _=>.one step_inBlock
def run_loop {c:Code} (h:Run P f N n0 R (.code c :: .inLoop c :: K) e H):Run P f N n0 R (.code (.loop c) :: K) e H:=h.of_step fun _ _ _=>.one step_loop
def run_inLoop {c:Code} (h:Run P f N n0 R (.code c :: .inLoop c :: K) e H):Run P f N n0 R (.inLoop c :: K) e H:=h.of_step fun _ _ _=>.one step_inLoop
def run_exit {i:Nat} {K':List Item} (hk:exitTo i K = some K') (h:Run P f N n0 R K' e H):Run P f N n0 R (.code (.exit i) :: K) e H:=h.of_step fun _ _ _=>.one (step_exit hk)
def run_cond {c:Operand} {x y:Code} {t:Bool} (hc:ev e c = .v (.bool t)) (h1:t = true -> Run P f N n0 R (.code x :: K) e H) (h2:t = false -> Run P f N n0 R (.code y :: K) e H) :
  Run P f N n0 R (.code (.cond c x y) :: K) e H:=by
 intro hn own X w tmps cs hN hsim henv
 have he:=henv.eval (ds:=[]) c
 rw [hc,zCE] at he
 have hs:Steps P (lone ((frameOf f).at ⟨tmps,[]⟩ (.code (.cond c x y) :: K)) cs w) (lone ((frameOf f).at ⟨tmps,[]⟩ (.code (if t then x else y) :: K)) cs w):=.one (step_cond he)
 cases t with
 | true=>exact Fin.of_steps hn (.refl _ _ _) hs (h1 rfl hn own X w tmps cs hN hsim henv)
 | false=>exact Fin.of_steps hn (.refl _ _ _) hs (h2 rfl hn own X w tmps cs hN hsim henv)
def run_loop_inv {c:Code} (I:Nat -> Env -> Heap -> Prop) (m:Nat) (h0:I m e H)
  (round:∀ m e H,(∀ m' e' H',m' < m -> I m' e' H' -> Run P f N n0 R (.inLoop c :: K) e' H') -> I m e H -> Run P f N n0 R (.code c :: .inLoop c :: K) e H) :
  Run P f N n0 R (.code (.loop c) :: K) e H:=by
 have key:∀ m e H,I m e H -> Run P f N n0 R (.code c :: .inLoop c :: K) e H:=by
  intro m
  induction m using Nat.strongRecOn with
  | _ m ih=>exact fun e H hI=>round m e H (fun m' e' H' hlt hI'=>run_inLoop (ih m' hlt e' H' hI')) hI
 exact run_loop (key m e H h0)
end code
def RegQ (P:Program) (f:FuncId) (N n0:Nat) (R:D -> Heap -> Prop) (K:List Item) (X:Nat -> Prop) (own0:Nat -> Own) (H0:Heap) (w0:World):Exit -> Act -> World -> Prop
 | .normal,a,w=>∃ own H e,a.tmps.size = N /\ a.defers = [] /\ Sim own H X w /\ EnvRel own H X w a.tmps e /\ Ext X own0 H0 w0 own H w /\ Run P f N n0 R K e H
 | _,_,_=>False
def RunOps (P:Program) (f:FuncId) (N n0:Nat) (R:D -> Heap -> Prop) (K:List Item) (ops:Array Oper) (l:List Oper) (e:Env) (H:Heap):Prop :=
 ∀ idx:List Nat,idx.map (ops[·]?) = l.map some -> ∀ own0 H0 w0 own X w tmps,Ext X own0 H0 w0 own H w -> tmps.size = N -> Sim own H X w -> EnvRel own H X w tmps e ->
  wpOps P ops (RegQ P f N n0 R K X own0 H0 w0) idx ⟨tmps,[]⟩ w
section regions
variable {P:Program} {f:FuncId} {N n0:Nat} {R:D -> Heap -> Prop} {K:List Item} {e:Env} {H:Heap} {ops:Array Oper}
def run_region {id:Nat} {l:List Oper} (h:RunOps P f N n0 R K l.toArray l e H):Run P f N n0 R (.code (.region id l.toArray false) :: K) e H:=by
 intro hn own X w tmps cs hN hsim henv
 have hidx:(List.range l.toArray.size).map (l.toArray[·]?) = l.map some:=by
  apply List.ext_getElem?
  intro i
  by_cases hi:i < l.length
  ·simp [hi]
  ·simp [hi]
 obtain ⟨ex,a',w',hq,harr⟩:=wp_ops _ _ w (h _ hidx own H w own X w tmps (.refl _ _ _) hN hsim henv) (frameOf f) K cs
 cases ex with
 | normal =>
  obtain ⟨own1,H1,e1,h1,h2,h3,h4,h5,h6⟩:=hq
  obtain ⟨tm,df⟩:=a'
  simp at h1 h2;subst h2
  exact Fin.of_steps hn h5 (.head step_region harr) (h6 (yBN hn h5.hn) own1 X w' tm cs h1 h3 h4)
 | _=>exact hq.elim
def runOps_nil (h:Run P f N n0 R K e H):RunOps P f N n0 R K ops [] e H:=by
 intro idx hidx own0 H0 w0 own X w tmps hx hN hsim henv
 cases idx with
 | nil=>exact ⟨own,H,e,hN,rfl,hsim,henv,hx,h⟩
 | cons i r=>simp at hidx
def OpOut (P:Program) (X:Nat -> Prop) (own:Nat -> Own) (H:Heap) (w:World) (C:D -> Heap -> Prop):Result Next -> Prop
 | .ok (.value v) w1=>∃ own1 d H1,Sim own1 H1 X w1 /\ Rel own1 H1 X w1 d v /\ Ext X own H w own1 H1 w1 /\ C d H1
 | .ok .skip w1=>∃ own1 H1,Sim own1 H1 X w1 /\ Ext X own H w own1 H1 w1 /\ C (.v undef) H1
 | .ok (.enter f args) w1=>Calls P f args w1 fun e w'=>∃ own1 d H1 v,e = .returned v /\ Sim own1 H1 X w' /\ Rel own1 H1 X w' d v /\ Ext X own H w own1 H1 w' /\ C d H1
 | _=>False
def OpSem (P:Program) (o:Oper) (e:Env) (H:Heap) (C:D -> Heap -> Prop):Prop :=
 ∀ own X w ρ,Sim own H X w -> (∀ x,Rel own H X w (ev e x) (ρ x)) -> OpOut P X own H w C ((execOp ρ o).run P w)
def OpOut.mono {X own H w} {C C':D -> Heap -> Prop} {r:Result Next} (h:OpOut P X own H w C r) (hc:∀ d H,C d H -> C' d H):OpOut P X own H w C' r:=by
 unfold OpOut at *
 split at h
 ·obtain ⟨a,b,c,h1,h2,h3,h4⟩:=h;exact ⟨a,b,c,h1,h2,h3,hc _ _ h4⟩
 ·obtain ⟨a,c,h1,h3,h4⟩:=h;exact ⟨a,c,h1,h3,hc _ _ h4⟩
 ·exact Calls.mono h fun e w' ⟨a,b,c,v,h0,h1,h2,h3,h4⟩=>⟨a,b,c,v,h0,h1,h2,h3,hc _ _ h4⟩
 ·exact h.elim
def runOps_cons {o:Oper} {rest:List Oper} (hd:dstOk N o.dst) (hw:∀ own X w tmps,tmps.size = N -> EnvRel own H X w tmps e -> Region.wanted o (yielded ops tmps) = true)
  (h:OpSem P o e H fun d H'=>RunOps P f N n0 R K ops rest (updO e o.dst d) H'):RunOps P f N n0 R K ops (o :: rest) e H:=by
 intro idx hidx own0 H0 w0 own X w tmps hx hN hsim henv
 cases idx with
 | nil=>simp at hidx
 | cons i r =>
  simp only [yAL,yAq] at hidx
  rw [wpOps_cons]
  unfold wpOp
  simp only [hidx.1,hw own X w tmps hN henv,if_true]
  left
  have:=h own X w (⟨tmps,[]⟩:Act).eval hsim (fun x=>henv.eval x)
  unfold Oper.wp
  generalize (execOp (⟨tmps,[]⟩:Act).eval o).run P w = res at this
  cases res with
  | halt x w'=>cases x <;> exact this.elim
  | ok n w1 =>
   have fin:∀ own1 d H1 v w2,Sim own1 H1 X w2 -> Rel own1 H1 X w2 d v -> Ext X own H w own1 H1 w2 -> RunOps P f N n0 R K ops rest (updO e o.dst d) H1 ->
       wpOps P ops (RegQ P f N n0 R K X own0 H0 w0) r ((⟨tmps,[]⟩:Act).put o.dst v) w2:=by
    intro own1 d H1 v w2 h1 h2 h3 h4
    have h5:=(henv.ext h3).put (o:=o.dst) (by rw [hN];exact hd) h2 []
    have hsz:=put_size (tmps:=tmps) (ds:=[]) (o:=o.dst) (v:=v)
    have hdf:=put_defers (tmps:=tmps) (ds:=[]) (o:=o.dst) (v:=v)
    generalize (⟨tmps,[]⟩:Act).put o.dst v = a at *
    obtain ⟨tm,df⟩:=a
    simp at hsz hdf;subst hdf
    exact h4 r hidx.2 own0 H0 w0 own1 X w2 tm (Ext.trans hx h3) (by rw [hsz,hN]) h1 h5
   cases n with
   | value v =>
    obtain ⟨own1,d,H1,h1,h2,h3,h4⟩:=this
    exact fin own1 d H1 v w1 h1 h2 h3 h4
   | skip =>
    obtain ⟨own1,H1,h1,h3,h4⟩:=this
    exact fin own1 (.v undef) H1 undef w1 h1 (by simp [Rel,VRel]) h3 h4
   | enter g args =>
    refine Calls.mono this fun en w' hh=>?_
    obtain ⟨own1,d,H1,v,rfl,h1,h2,h3,h4⟩:=hh
    exact fin own1 d H1 v w' h1 h2 h3 h4
   | _=>exact this.elim
def runOps_skip {o:Oper} {rest:List Oper} (hd:dstOk N o.dst) (hw:∀ own X w tmps,tmps.size = N -> EnvRel own H X w tmps e -> Region.wanted o (yielded ops tmps) = false)
  (h:RunOps P f N n0 R K ops rest (updO e o.dst (.v undef)) H):RunOps P f N n0 R K ops (o :: rest) e H:=by
 intro idx hidx own0 H0 w0 own X w tmps hx hN hsim henv
 cases idx with
 | nil=>simp at hidx
 | cons i r =>
  simp only [yAL,yAq] at hidx
  rw [wpOps_cons]
  unfold wpOp
  simp only [hidx.1,hw own X w tmps hN henv,yBS,if_false]
  have h5:=henv.put (o:=o.dst) (by rw [hN];exact hd) (d:=.v undef) (v:=undef) (by simp [Rel,VRel]) []
  have hsz:=put_size (tmps:=tmps) (ds:=[]) (o:=o.dst) (v:=undef)
  have hdf:=put_defers (tmps:=tmps) (ds:=[]) (o:=o.dst) (v:=undef)
  generalize (⟨tmps,[]⟩:Act).put o.dst undef = a at *
  obtain ⟨tm,df⟩:=a
  simp at hsz hdf;subst hdf
  exact h r hidx.2 own0 H0 w0 own X w tm hx (by rw [hsz,hN]) hsim h5
def gslot (ops:Array Oper) (j:Nat):Option Tmp:=(ops[j]?).bind (·.dst)
def zCZ {own X w tmps} {j s:Nat} {b:Bool} (hs:gslot ops j = some s) (hlt:s < N) (hN:tmps.size = N) (henv:EnvRel own H X w tmps e) (hb:e s = .v (.bool b)):yielded ops tmps j = some b:=by
 have h:=henv s
 rw [hb,zCE] at h
 have hl:s < tmps.size:=by omega
 unfold gslot at hs
 unfold yielded
 rw [hs]
 simp [Array.getD,hl] at h
 simp [hl,h]
end regions
end Go.Ab
namespace Go.Ab
variable [Go.Ab.DM]
def tsz (P:Program) (t:TypeId):Option Nat:=(P.info? t).map (·.size)
def tby (P:Program) (t:TypeId):Option Nat:=(P.info? t).map (·.bytes)
def isAggD:TypeDesc -> Bool
 | .struct _ | .array _ _=>true
 | _=>false
def tag (P:Program) (t:TypeId):Option Bool:=(P.underlying t).map isAggD
def tfld (P:Program) (t:TypeId) (i:Nat):Option (Nat × TypeId):=match P.underlying t with | some (.struct fs)=>(fs[i]?).map fun f=>(f.offset,f.type) | _=>none
def zBI (P:Program) (t:TypeId):Option TypeId:=match P.underlying t with | some (.slice e)=>some e | _=>none
def zeroOfV:Value -> D
 | .agg cs=>.agg (cs.toList.map .v)
 | x=>.v x
def zCy (P:Program) (t:TypeId):Option D:=((P.info? t).bind (·.zero)).map zeroOfV
section types
variable {P:Program} {w:World}
def zCB {t:TypeId} {i:TypeInfo} (h:P.info? t = some i):(typeInfo t).run P w = .ok i w:=by
 simp [typeInfo,h]
def zAC {t:TypeId} {d:TypeDesc} (h:P.underlying t = some d):(underlying t).run P w = .ok d w:=by
 simp [underlying,h]
def zAn {t:TypeId} {n:Nat} (h:tsz P t = some n):(sizeOf t).run P w = .ok n w:=by
 unfold tsz at h
 cases hi:P.info? t with
 | none=>simp [hi] at h
 | some i=>simp [hi] at h;simp [sizeOf,zCB hi,h]
def run_isAgg' {t:TypeId} {b:Bool} (h:tag P t = some b):(isAgg t).run P w = .ok b w:=by
 unfold tag at h
 cases hi:P.underlying t with
 | none=>simp [hi] at h
 | some d=>simp [hi] at h;subst h;simp [isAgg,zAC hi];cases d <;> simp [isAggD]
def run_zeroValue' {t:TypeId} {d:D} (h:zCy P t = some d):∃ v,(zeroValue t).run P w = .ok v w /\ d = zeroOfV v:=by
 unfold zCy at h
 cases hi:P.info? t with
 | none=>simp [hi] at h
 | some i =>
  cases hz:i.zero with
  | none=>simp [hi,hz] at h
  | some v=>simp [hi,hz] at h;exact ⟨v,by simp [zeroValue,zCB hi,hz],h.symm⟩
def run_zeroValue'' {t:TypeId} {d:D} (h:zCy P t = some d):∃ v,(∀ w:World,(zeroValue t).run P w = .ok v w) /\ d = zeroOfV v:=by
 unfold zCy at h
 cases hi:P.info? t with
 | none=>simp [hi] at h
 | some i =>
  cases hz:i.zero with
  | none=>simp [hi,hz] at h
  | some v=>simp [hi,hz] at h;exact ⟨v,fun w=>by simp [zeroValue,zCB hi,hz],h.symm⟩
end types
def zBV (tg:Bool) (sz:Nat) (d:D) (o:Nat):Option D :=
 match tg,d with
 | true,.agg cs=>if o + sz <= cs.length then some (.agg (if o = 0 /\ sz = cs.length then cs else (cs.drop o).take sz)) else none
 | true,_=>none
 | false,.agg cs=>cs[o]?
 | false,d=>if o = 0 then some d else none
def putD (tg:Bool) (sz:Nat) (d:D) (o:Nat) (x:D):Option D :=
 match tg,d,x with
 | true,.agg cs,.agg ds=>if o + sz <= cs.length /\ ds.length = sz /\ ds.all D.one then some (.agg (if o = 0 /\ sz = cs.length then ds else cs.take o ++ ds ++ cs.drop (o + sz))) else none
 | true,_,_=>none
 | false,.agg cs,x=>if o < cs.length /\ x.one /\ sz = 1 then some (.agg (cs.set o x)) else none
 | false,_,x=>if o = 0 /\ x.one /\ sz = 1 then some x else none
section parts
variable {own:Nat -> Own} {U:Nat -> Prop} {w:World} {n:Nat}
def VRel_zero {d:D} {v:Value} (h:VRel own U w 0 d v):VRel own U w n d v :=
 VRel.mono ⟨Nat.zero_le _,fun _ h=>absurd h (yAr _),fun _ h=>h,fun _ _ _=>rfl⟩ d v h
def VRels_zero {d:List D} {v:List Value} (h:VRels own U w 0 d v):VRels own U w n d v :=
 VRels.mono ⟨Nat.zero_le _,fun _ h=>absurd h (yAr _),fun _ h=>h,fun _ _ _=>rfl⟩ d v h
def one_cells {d:D} (h:d.one = true):d.cells = [d]:=by cases d <;> simp_all [D.one,D.cells]
def VRel_one {d:D} {v:Value} (h:VRel own U w n d v) (h1:d.one = true):v.oneCell' = true /\ v.cells = #[v]:=by
 cases d <;> simp only [D.one,VRel] at h h1
 case v x=>subst h;cases v <;> simp_all [Value.oneCell',Value.cells]
 case fz=>obtain ⟨a,c,rfl,_⟩:=h;simp [Value.oneCell',Value.cells]
 case fp=>obtain ⟨a,c,rfl,_⟩:=h;simp [Value.oneCell',Value.cells]
 case sl=>obtain ⟨_,a,c,rfl,_⟩:=h;simp [Value.oneCell',Value.cells]
 case slc=>obtain ⟨_,a,rfl,_⟩:=h;simp [Value.oneCell',Value.cells]
 case pt=>obtain ⟨_,rfl⟩:=h;simp [Value.oneCell',Value.cells]
 case fn=>obtain ⟨a,c,rfl,_⟩:=h;simp [Value.oneCell',Value.cells]
 case ifc=>obtain ⟨a,rfl,_⟩:=h;simp [Value.oneCell',Value.cells]
 case mp=>obtain ⟨_,rfl⟩:=h;simp [Value.oneCell',Value.cells]
 all_goals simp at h1
def VRels_one:∀ {ds:List D} {vs:List Value},VRels own U w n ds vs -> ds.all D.one = true -> ∀ v ∈ vs,v.oneCell' = true
 | [],vs,h,_,v,hv=>by simp [VRels] at h;subst h;simp at hv
 | d :: ds,vs,h,h1,v,hv=>by
  rw [VRels] at h;obtain ⟨x,xs,rfl,h2,h3⟩:=h
  simp at h1
  rcases yAE.1 hv with rfl | hv
  ·exact (VRel_one h2 h1.1).1
  ·exact VRels_one h3 (by simpa using h1.2) v hv
def VRel_lies {d:D} {v:Value} (h:VRel own U w n d v) (h1:d.lies = true):VRels own U w n d.cells v.cells.toList /\ ∀ x ∈ v.cells.toList,x.oneCell' = true:=by
 by_cases ha:∃ cs,d = .agg cs
 ·obtain ⟨cs,rfl⟩:=ha
  rw [VRel] at h;obtain ⟨vs,rfl,h2⟩:=h
  simp only [D.cells,Value.cells]
  exact ⟨by simpa using h2,by simpa using VRels_one h2 h1⟩
 ·have h1':d.one = true:=by cases d <;> simp_all [D.lies]
  obtain ⟨h3,h4⟩:=VRel_one h h1'
  rw [one_cells h1',h4]
  simp only [VRels]
  exact ⟨⟨v,[],rfl,h,rfl⟩,by simpa using h3⟩
def VRels_take:∀ {ds:List D} {vs:List Value} (m:Nat),VRels own U w n ds vs -> VRels own U w n (ds.take m) (vs.take m)
 | [],vs,m,h=>by simp [VRels] at h;subst h;simp [VRels]
 | d :: ds,vs,0,h=>by simp [VRels]
 | d :: ds,vs,m + 1,h=>by
  rw [VRels] at h;obtain ⟨x,xs,rfl,h2,h3⟩:=h
  simp only [yBV,VRels];exact ⟨x,_,rfl,h2,VRels_take m h3⟩
def VRels_drop:∀ {ds:List D} {vs:List Value} (m:Nat),VRels own U w n ds vs -> VRels own U w n (ds.drop m) (vs.drop m)
 | [],vs,m,h=>by simp [VRels] at h;subst h;simp [VRels]
 | d :: ds,vs,0,h=>by simpa using h
 | d :: ds,vs,m + 1,h=>by
  rw [VRels] at h;obtain ⟨x,xs,rfl,h2,h3⟩:=h
  simpa using VRels_drop m h3
def VRels_slice {ds:List D} {vs:List Value} (h:VRels own U w n ds vs) (o m:Nat):VRels own U w n ((ds.drop o).take m) ((vs.drop o).take m):=VRels_take m (VRels_drop o h)
def elem_load {P:Program} {t:TypeId} {tg:Bool} {sz k:Nat} {d d':D} {b off o:Nat} (htg:tag P t = some tg) (hsz:tsz P t = some sz)
  (he:Elem own U w n k d b off) (hp:zBV tg sz d o = some d'):∃ x,(∀ w':World,w'.heap[b]? = w.heap[b]? -> (loadVar t ⟨b,off + o,none⟩).run P w' = .ok x w') /\ VRel own U w n d' x:=by
 have same:∀ w':World,w'.heap[b]? = w.heap[b]? -> ∀ j,w'.cell? ⟨b,j,none⟩ = w.cell? ⟨b,j,none⟩:=fun w' hw' j=>by simp [World.cell?,hw']
 have hadd:∀ j,(⟨b,off + o,none⟩:Addr).add j = ⟨b,off + o + j,none⟩:=fun j=>by unfold Addr.add;split <;> simp_all
 rw [zCe] at he
 cases tg with
 | true =>
  cases d with
  | agg cs =>
   simp only [zBV] at hp
   split at hp
   ·rename_i hle
    simp at hp;subst hp
    have hcs:(if o = 0 /\ sz = cs.length then cs else (cs.drop o).take sz) = (cs.drop o).take sz:=by
     split
     ·rename_i h;obtain ⟨rfl,rfl⟩:=h;simp
     ·rfl
    rw [hcs]
    obtain ⟨_,vs,h1,h2⟩:=Flat_values.1 he.2
    have hl:=zAi h1
    simp only [D.cells] at h1 hl
    have h3:=VRels_slice h1 o sz
    have hlen:((vs.drop o).take sz).length = sz:=by simp;omega
    refine ⟨.agg ((vs.drop o).take sz).toArray,fun w' hw'=>?_,by rw [VRel];exact ⟨_,rfl,h3⟩⟩
    have:=run_loadCells_list (P:=P) w' ⟨b,off + o,none⟩ ((vs.drop o).take sz) (fun j v hj=>by
     have hjl:j < sz:=by have:=(yBW.1 hj).1;omega
     have h4:=h2 (o + j) (by omega)
     rw [hadd,show off + o + j = off + (o + j) by omega,same w' hw',h4,<- hj,List.getElem?_take,if_pos hjl,List.getElem?_drop])
    rw [hlen] at this
    simp [loadVar,run_isAgg' htg,zAn hsz,this]
   ·simp at hp
  | _=>simp [zBV] at hp
 | false =>
  have hj:d.cells[o]? = some d':=by
   cases d <;> simp only [zBV] at hp
   case agg cs=>exact hp
   all_goals (split at hp <;> simp at hp;subst hp;rename_i h0;subst h0;rfl)
  obtain ⟨x,h1,h2⟩:=Flat_get he.2 hj
  exact ⟨x,fun w' hw'=>by simp [loadVar,run_isAgg' htg,same w' hw',h1],h2⟩
end parts
def ldD (P:Program) (t:TypeId) (H:Heap) (a:D):Option D :=
 match tag P t,tsz P t with
 | some tg,some sz=>match a with
  | .pt r i o=>match H.get r with
   | some (.cells _ xs)=>(xs[i]?).bind (zBV tg sz · o)
   | _=>none
  | .fp _ xs i o=>(xs[i]?).bind (zBV tg sz · o)
  | _=>none
 | _,_=>none
def load_sound {P:Program} {t:TypeId} {H:Heap} {own X w} {a d:D} {v:Value} (hs:Sim own H X w) (ha:Rel own H X w a v) (h:ldD P t H a = some d) :
  ∃ x,(∀ w':World,(∀ b,b < w.heap.size -> w'.heap[b]? = w.heap[b]?) -> (Instr.loadAt t v).run P w' = .ok x w') /\ Rel own H X w d x:=by
 unfold ldD at h
 split at h
 ·rename_i tg sz htg hsz
  split at h
  ·rename_i r i o
   split at h
   ·rename_i k xs hg
    cases hx:xs[i]? with
    | none=>simp [hx] at h
    | some e =>
     simp [hx] at h
     rw [Rel,VRel] at ha;obtain ⟨h1,rfl⟩:=ha
     obtain ⟨⟨rfl,c,ty,h3,h4,h5,h6⟩,h7⟩:=hs.live r _ hg
     have he:=Cells_get h6 hx
     obtain ⟨x,h8,h9⟩:=elem_load htg hsz he h
     exact ⟨x,fun w' hw'=>by simpa [Instr.loadAt,Instr.sureAddr] using h8 w' (hw' _ (hs.live r _ hg).1.lt),h9⟩
   ·simp at h
  ·rename_i k xs i o
   cases hx:xs[i]? with
   | none=>simp [hx] at h
   | some e =>
    simp [hx] at h
    rw [Rel,VRel] at ha;obtain ⟨b,off,rfl,h1,h2⟩:=ha
    have he:=Cells_get h2 hx
    obtain ⟨x,h8,h9⟩:=elem_load htg hsz he h
    exact ⟨x,fun w' hw'=>by simpa [Instr.loadAt,Instr.sureAddr] using h8 w' (hw' _ h1.1),VRel_zero h9⟩
  ·simp at h
 ·simp at h
end Go.Ab
namespace Go.Ab
variable [Go.Ab.DM]
def lies_cells {x:D} (h:x.lies = true):x.cells.all D.one = true:=by
 cases x <;> simp_all [D.lies,D.cells]
def setRow_eq {w:World} {g:Nat} {old cs:Array Value} {t:TypeId} {fr:Nat × Nat} (hg:w.heap[g]? = some (.cells old t fr)):(w.setRow g cs).heap = w.heap.setIfInBounds g (.cells cs t fr):=by
 have hlt:g < w.heap.size:=(Array.getElem?_eq_some_iff.1 hg).1
 apply Array.ext_getElem?
 intro i
 by_cases hi:i = g
 ·subst hi;rw [setRow_heap w i old cs t fr hg];simp [hlt]
 ·simp only [World.setRow,Array.getElem?_setIfInBounds,Array.getElem?_modify,Ne.symm hi,if_false]
def putRow (xs:List D) (i:Nat) (e:D):List D:=xs.set i e
def stD (P:Program) (t:TypeId) (H:Heap) (a x:D):Option Heap :=
 match tag P t,tsz P t with
 | some tg,some sz=>match a with
  | .pt r i o=>match H.get r with
   | some (.cells k xs)=>((xs[i]?).bind fun e=>putD tg sz e o x).map fun e'=>H.set r (some (.cells k (xs.set i e')))
   | _=>none
  | _=>none
 | _,_=>none
def putD_cells {tg:Bool} {sz o:Nat} {e x e':D} (h:putD tg sz e o x = some e') :
  x.cells.length = sz /\ x.lies = true /\ o + x.cells.length <= e.cells.length /\ e'.cells = e.cells.take o ++ x.cells ++ e.cells.drop (o + x.cells.length):=by
 cases tg with
 | true =>
  cases e with
  | agg cs =>
   cases x with
   | agg ds =>
    simp only [putD] at h
    split at h
    ·rename_i hc
     obtain ⟨h1,h2,h3⟩:=hc
     simp at h;subst h
     simp only [D.cells,D.lies]
     refine ⟨h2,h3,by omega,?_⟩
     split
     ·rename_i h4;obtain ⟨rfl,rfl⟩:=h4;simp [h2]
     ·simp [h2]
    ·simp at h
   | _=>simp [putD] at h
  | _=>simp [putD] at h
 | false =>
  have key:∀ (cs:List D),x.one = true -> o < cs.length -> cs.set o x = cs.take o ++ x.cells ++ cs.drop (o + x.cells.length):=fun cs h1 h2=>by
   rw [one_cells h1];simp only [yAC,yAQ,List.singleton_append]
   rw [List.set_eq_take_append_cons_drop];simp [h2]
  have lies:x.one = true -> x.lies = true:=fun h1=>by cases x <;> simp_all [D.one,D.lies]
  cases e with
  | agg cs =>
   simp only [putD] at h
   split at h
   ·rename_i hc
    simp at h;subst h
    have h1:=one_cells hc.2.1
    exact ⟨by simp [h1,hc.2.2],lies hc.2.1,by simp only [h1,yAC];exact hc.1,key cs hc.2.1 hc.1⟩
   ·simp at h
  | _ =>
   simp only [putD] at h
   split at h
   ·rename_i hc
    simp at h;subst h
    obtain ⟨rfl,h1,rfl⟩:=hc
    have h2:=one_cells h1
    exact ⟨by rw [h2];rfl,lies h1,by rw [h2];simp [D.cells],by rw [h2];simp [D.cells]⟩
   ·simp at h
def flatMap_set {xs:List D} {i k:Nat} {e e':D} (hx:xs[i]? = some e) (hw:∀ d ∈ xs,d.width = k) :
  xs.flatMap D.cells = (xs.take i).flatMap D.cells ++ e.cells ++ (xs.drop (i + 1)).flatMap D.cells /\ (xs.set i e').flatMap D.cells = (xs.take i).flatMap D.cells ++ e'.cells ++ (xs.drop (i + 1)).flatMap D.cells /\ ((xs.take i).flatMap D.cells).length = i * k:=by
 have hi:i < xs.length:=(yBW.1 hx).1
 have he:xs[i] = e:=(yBW.1 hx).2
 refine ⟨?_,?_,?_⟩
 ·conv=>lhs;rw [<- yAk i xs,yAX hi,he]
  simp [List.flatMap_append,yAj]
 ·rw [List.set_eq_take_append_cons_drop];simp [hi,List.flatMap_append,yAj]
 ·have:∀ (ys:List D),(∀ d ∈ ys,d.width = k) -> (ys.flatMap D.cells).length = ys.length * k:=by
   intro ys
   induction ys with
   | nil=>simp
   | cons y ys ih =>
    intro h
    have h1:=h y (by simp)
    rw [D.width_eq] at h1
    simp [yAj,ih (fun d hd=>h d (by simp [hd])),h1,yAv];omega
  rw [this _ fun d hd=>hw d (yBJ hd),yAU,Nat.min_eq_left (Nat.le_of_lt hi)]
section
variable {own:Nat -> Own} {U:Nat -> Prop} {w:World} {n:Nat} {own':Nat -> Own} {U':Nat -> Prop} {w':World} {n':Nat}
def Flat_keep (hk:Keeps own n U w own' n' U' w') {ds:List D} {b off:Nat} (h:Flat own U w n ds b off) (hc:∀ j,off <= j -> j < off + ds.length -> w'.cell? ⟨b,j,none⟩ = w.cell? ⟨b,j,none⟩):Flat own' U' w' n' ds b off:=by
 rw [Flat_values] at h ⊢
 obtain ⟨h0,vs,h1,h2⟩:=h
 have hl:=zAi h1
 exact ⟨h0,vs,VRels.mono hk _ _ h1,fun i hi=>by rw [hc (off + i) (by omega) (by omega)];exact h2 i hi⟩
end
def zCk {w:World} {b off:Nat} {c:Array Value} {t:TypeId} {fr:Nat × Nat} (h:w.heap[b]? = some (.cells c t fr)):w.cell? ⟨b,off,none⟩ = c[off]?:=by
 simp [World.cell?,h]
def store_sound {P:Program} {t:TypeId} {H H':Heap} {own X w} {a x:D} {v u:Value} (hs:Sim own H X w) (ha:Rel own H X w a v) (hx:Rel own H X w x u) (h:stD P t H a x = some H') :
  ∃ w',(Instr.storeAt t v u).run P w = .ok () w' /\ Sim own H' X w' /\ Ext X own H w own H' w':=by
 unfold stD at h
 split at h
 rotate_left
 ·simp at h
 rename_i tg sz htg hsz
 split at h
 rotate_left
 ·simp at h
 rename_i r i o
 split at h
 rotate_left
 ·simp at h
 rename_i k xs hg
 cases hxi:xs[i]? with
 | none=>simp [hxi] at h
 | some e =>
  simp only [hxi,yBP,yAb] at h
  obtain ⟨e',hp,rfl⟩:=h
  rw [Rel,VRel] at ha;obtain ⟨h1,rfl⟩:=ha
  obtain ⟨⟨rfl,c,ty,h3,h4,h5,h6⟩,h7⟩:=hs.live r _ hg
  obtain ⟨g1,g2,g3,g4⟩:=putD_cells hp
  obtain ⟨hx1,hx2⟩:=VRel_lies hx g2
  have hlen:=zAi hx1
  obtain ⟨hw,hfl⟩:=Cells_flat.1 h6
  obtain ⟨f1,f2,f3⟩:=flatMap_set (e':=e') hxi hw
  have hek:e.cells.length = (own r).k:=by rw [<- D.width_eq];exact hw e (yAt hxi)
  have hi:i < xs.length:=(yBW.1 hxi).1
  have hik:i * (own r).k + (own r).k <= xs.length * (own r).k:=by
   have:=yBY (own r).k (show i + 1 <= xs.length from hi);rw [yAv,Nat.one_mul] at this;exact this
  have hst:=run_storeCells_at P (own r).b ((own r).base + i * (own r).k + o) ty u.cells.toList 0 c w h3 (by rw [hlen];omega) (by simpa using hx2)
  simp only [Nat.add_zero,hlen] at hst
  generalize hp0:(own r).base + i * (own r).k + o = p at *
  generalize hc':(c.toList.take p ++ u.cells.toList ++ c.toList.drop (p + x.cells.length)).toArray = c' at *
  have hcl:c'.size = c.size:=by subst hc';simp [hlen];omega
  have hcell:∀ j,c'[j]? = if p <= j /\ j < p + x.cells.length then u.cells.toList[j - p]? else c[j]?:=by
   intro j;subst hc'
   have hul:u.cells.toList.length = x.cells.length:=hlen
   have htl:(c.toList.take p).length = p:=by simp;omega
   simp only [yBA,yAQ]
   by_cases h8:j < p
   ·rw [yAe (by omega),List.getElem?_take,if_pos h8,if_neg (by omega)];simp
   ·rw [yAa (by omega),htl]
    by_cases h9:j < p + x.cells.length
    ·rw [yAe (by omega),if_pos ⟨by omega,h9⟩]
    ·rw [yAa (by omega),if_neg (by omega),List.getElem?_drop,hul]
     simp only [Array.getElem?_toList];congr 1;omega
  have hw':=setRow_eq (cs:=c') h3
  have hstep:=step_set hs hg (row':=.cells (own r).k (xs.set i e')) (.cells c' ty (0,0)) hw' (by
   intro hext hnew
   refine ⟨rfl,c',ty,hnew,by rw [hcl,h4],by simpa using h5,?_⟩
   have hkeep:=hext.keeps
   rw [yBK] at hkeep
   refine Cells_flat.2 ⟨fun d hd=>?_,?_⟩
   ·rcases List.mem_or_eq_of_mem_set hd with hd | rfl
    ·exact hw d hd
    ·rw [D.width_eq,g4];simp;omega
   ·rw [f2,g4,<- yAQ,<- yAQ]
    rw [f1] at hfl
    have hsplit:e.cells = e.cells.take o ++ (e.cells.drop o).take x.cells.length ++ e.cells.drop (o + x.cells.length):=by
     rw [yAQ,<- List.drop_drop,yAk,yAk]
    rw [hsplit] at hfl
    simp only [<- yAQ] at hfl
    simp only [Flat_append,yAD] at hfl ⊢
    obtain ⟨⟨⟨⟨q1,q2⟩,q3⟩,q4⟩,q5⟩:=hfl
    have hto:(e.cells.take o).length = o:=by simp;omega
    have hmid:((e.cells.drop o).take x.cells.length).length = x.cells.length:=by simp;omega
    have hdr:(e.cells.drop (o + x.cells.length)).length = (own r).k - (o + x.cells.length):=by simp;omega
    simp only [hto,f3,hmid,hdr] at q1 q2 q3 q4 q5 ⊢
    have cellw:∀ j,w.cell? ⟨(own r).b,j,none⟩ = c[j]?:=fun j=>zCk h3
    have cellw':∀ j,(w.setRow (own r).b c').cell? ⟨(own r).b,j,none⟩ = c'[j]?:=fun j=>zCk hnew
    refine ⟨⟨⟨⟨Flat_keep hkeep q1 ?_,Flat_keep hkeep q2 ?_⟩,?_⟩,Flat_keep hkeep q4 ?_⟩,Flat_keep hkeep q5 ?_⟩
    ·intro j ha hb;rw [cellw',cellw,hcell,if_neg];omega
    ·intro j ha hb;rw [cellw',cellw,hcell,if_neg];omega
    ·refine Flat_values.2 ⟨lies_cells g2,u.cells.toList,VRels.mono hkeep _ _ hx1,fun j hj=>?_⟩
     rw [cellw',hcell,if_pos (by omega)];congr 1;omega
    ·intro j ha hb;rw [cellw',cellw,hcell,if_neg];omega
    ·intro j ha hb;rw [cellw',cellw,hcell,if_neg];omega)
  refine ⟨w.setRow (own r).b c',?_,hstep⟩
  have hsize:u.cells.size = sz:=by
   have:u.cells.size = x.cells.length:=by simpa using hlen
   rw [this]
   exact g1
  simp [Instr.storeAt,Instr.sureAddr,storeVar,zAn hsz,hsize,hst]
end Go.Ab
namespace Go.Ab
variable [Go.Ab.DM]
section
variable {P:Program} {X:Nat -> Prop} {own:Nat -> Own} {H:Heap} {w:World} {C:D -> Heap -> Prop}
def out_same {v:Value} {d:D} (hs:Sim own H X w) (hr:Rel own H X w d v) (hc:C d H):OpOut P X own H w C (.ok (.value v) w) :=
 ⟨own,d,H,hs,hr,.refl _ _ _,hc⟩
def PureOut (P:Program) (own:Nat -> Own) (H:Heap) (X:Nat -> Prop) (w:World) (C:D -> Prop) (m:Sem Next):Prop:=∃ v d,(∀ w':World,m.run P w' = .ok (.value v) w') /\ Rel own H X w d v /\ C d
def PureOut.out {m:Sem Next} (h:PureOut P own H X w (fun d=>C d H) m) (hs:Sim own H X w):OpOut P X own H w C (m.run P w):=by
 obtain ⟨v,d,h1,h2,h3⟩:=h
 rw [h1];exact out_same hs h2 h3
def row_sound (hs:Sim own H X w) (t:TypeId) (k:Nat) (xs:List D) (vs:List Value) (extra:List Value) (hw:∀ d ∈ xs,d.width = k) (ho:(xs.flatMap D.cells).all D.one = true) (hv:zCL own H X w (xs.flatMap D.cells) vs) :
  let w':World:={ w with heap:=w.heap.push (.cells (vs ++ extra).toArray t) }
  let own':=zBO own H.length ⟨w.heap.size,0,k,vs.length + extra.length⟩
  Sim own' (H ++ [some (.cells k xs)]) X w' /\ Ext X own H w own' (H ++ [some (.cells k xs)]) w':=by
 intro w' own'
 have hl:=zAi hv
 have hlen:∀ (ys:List D),(∀ d ∈ ys,d.width = k) -> (ys.flatMap D.cells).length = ys.length * k:=by
  intro ys
  induction ys with
  | nil=>simp
  | cons y ys ih =>
   intro h
   have h1:=h y (by simp)
   rw [D.width_eq] at h1
   simp [yAj,ih (fun d hd=>h d (by simp [hd])),h1,yAv];omega
 refine step_push hs (.cells (vs ++ extra).toArray t) (.cells k xs) ⟨w.heap.size,0,k,vs.length + extra.length⟩ rfl rfl fun own₁ H₁ hext hnew=>?_
 refine ⟨rfl,_,t,hnew,by simp,by have h1:=hlen xs hw;rw [<- hl] at h1;show 0 + xs.length * k <= vs.length + extra.length;omega,Cells_flat.2 ⟨hw,Flat_values.2 ⟨ho,vs,VRels.mono hext.keeps _ _ hv,fun i hi=>?_⟩⟩⟩
 rw [zCk hnew];simp [yAe hi]
def var_sound (hs:Sim own H X w) (t:TypeId) {d:D} {v:Value} (hd:d.lies = true) (hv:Rel own H X w d v) (hc:C (.pt H.length 0 0) (H ++ [some (.cells d.width [d])])) :
  ∃ w',(newVar t v).run P w = .ok ⟨w.heap.size,0,none⟩ w' /\ OpOut P X own H w C (.ok (.value (.pointer (some ⟨w.heap.size,0,none⟩))) w'):=by
 obtain ⟨h1,h2⟩:=VRel_lies hv hd
 have:=row_sound hs t d.width [d] v.cells.toList [] (by simp) (by simpa using lies_cells hd) (by simpa using h1)
 simp only [yAS,Array.toArray_toList] at this
 refine ⟨_,by simp [newVar,newRow],_,.pt H.length 0 0,_,this.1,?_,this.2,hc⟩
 simp [Rel,VRel,zBO]
def aAlloc (P:Program) (t:TypeId) (H:Heap) (C:D -> Heap -> Prop):Prop:=∃ d,zCy P t = some d /\ d.lies = true /\ C (.pt H.length 0 0) (H ++ [some (.cells d.width [d])])
def aBox (x:D) (H:Heap) (C:D -> Heap -> Prop):Prop:=x.lies = true /\ C (.pt H.length 0 0) (H ++ [some (.cells x.width [x])])
def Rel_zero (v:Value) (h:∀ cs,v = .agg cs -> ∀ c ∈ cs.toList,True):Rel own H X w (zeroOfV v) v:=by
 have key:∀ l:List Value,VRels own (zAQ own H X w) w H.length (l.map D.v) l:=by
  intro l
  induction l with
  | nil=>simp [VRels]
  | cons x l ih=>simp only [yAL,VRels];exact ⟨x,l,rfl,by simp [VRel],ih⟩
 cases v <;> simp [zeroOfV,Rel,VRel]
 rename_i cs
 exact ⟨cs.toList,by simp,key _⟩
def alloc_sound {t:TypeId} (hs:Sim own H X w) (h:aAlloc P t H C):OpOut P X own H w C ((do pure (Next.value (<- Instr.alloc t true (.tuple #[]))):Sem Next).run P w):=by
 obtain ⟨d,hz,hd,hc⟩:=h
 obtain ⟨v,h1,rfl⟩:=run_zeroValue' (w:=w) hz
 obtain ⟨w',h2,h3⟩:=var_sound (P:=P) hs t hd (Rel_zero v fun _ _ _ _=>trivial) hc
 simp [Instr.alloc,h1,h2];exact h3
def box_sound {t:TypeId} {x:D} {v:Value} (hs:Sim own H X w) (hv:Rel own H X w x v) (h:aBox x H C):OpOut P X own H w C ((do pure (Next.value (<- Instr.box t v)):Sem Next).run P w):=by
 obtain ⟨hd,hc⟩:=h
 obtain ⟨w',h2,h3⟩:=var_sound (P:=P) hs t hd hv hc
 simp [Instr.box,h2];exact h3
def zAh (P:Program) (s:TypeId) (x:D) (f:Nat) (C:D -> Prop):Prop :=
 match tfld P s f with
 | some (off,ft)=>match tsz P ft with
  | some (_ + 1)=>match x with
   | .pt r i o=>C (.pt r i (o + off))
   | .fp k xs i o=>C (.fp k xs i (o + off))
   | _=>False
  | _=>False
 | _=>False
def zCf (b off j:Nat):(⟨b,off,none⟩:Addr).add j = ⟨b,off + j,none⟩:=by unfold Addr.add;split <;> simp_all
def fieldAddr_sound {s:TypeId} {x:D} {v:Value} {f:Nat} (hs:Sim own H X w) (hv:Rel own H X w x v) (h:zAh P s x f fun d=>C d H) :
  PureOut P own H X w (fun d=>C d H) (do pure (Next.value (<- Instr.fieldAt s v f))):=by
 unfold zAh at h
 split at h
 rotate_left
 ·exact h.elim
 rename_i off ft hf
 split at h
 rotate_left
 ·exact h.elim
 rename_i m hz
 unfold tfld at hf
 split at hf
 rotate_left
 ·simp at hf
 rename_i fs hu
 simp only [yAb,yBX] at hf
 obtain ⟨fd,hfd,rfl,rfl⟩:=hf
 have hz':=fun w:World=>zAn (w:=w) hz
 split at h
 ·rename_i r i o
  rw [Rel,VRel] at hv;obtain ⟨h1,rfl⟩:=hv
  have:∀ w':World,(Instr.fieldAt s (.pointer (some ⟨(own r).b,(own r).base + i * (own r).k + o,none⟩)) f).run P w' = .ok (.pointer (some ⟨(own r).b,(own r).base + i * (own r).k + (o + fd.offset),none⟩)) w':=fun w'=>by
   simp [Instr.fieldAt,zAC hu,hfd,Instr.sureAddr,fieldPlace,hz',zCf,Nat.add_assoc]
  exact ⟨_,_,fun w'=>by simp only [Sem.run_bind,this,Result.andThen_ok,Sem.run_pure] <;> rfl,(by rw [Rel,VRel];exact ⟨h1,rfl⟩),h⟩
 ·rename_i k xs i o
  rw [Rel,VRel] at hv;obtain ⟨b,off,rfl,h1,h2⟩:=hv
  have:∀ w':World,(Instr.fieldAt s (.pointer (some ⟨b,off + i * k + o,none⟩)) f).run P w' = .ok (.pointer (some ⟨b,off + i * k + (o + fd.offset),none⟩)) w':=fun w'=>by
   simp [Instr.fieldAt,zAC hu,hfd,Instr.sureAddr,fieldPlace,hz',zCf,Nat.add_assoc]
  exact ⟨_,_,fun w'=>by simp only [Sem.run_bind,this,Result.andThen_ok,Sem.run_pure] <;> rfl,(by rw [Rel,VRel];exact ⟨b,off,rfl,h1,h2⟩),h⟩
 ·exact h.elim
def zBC (P:Program) (t:TypeId) (H:Heap) (x ix:D) (C:D -> Prop):Prop :=
 match zBI P t with
 | some e=>match ix with
  | .v (.int _ j)=>match x with
   | .sl r i m=>(0 <= j /\ j < m) /\ (∃ k xs,H.get r = some (.cells k xs) /\ tsz P e = some k) /\ C (.pt r (i + j.toNat) 0)
   | .fz k xs=>(0 <= j /\ j < xs.length) /\ tsz P e = some k /\ C (.fp k xs j.toNat 0)
   | _=>False
  | _=>False
 | none=>match P.underlying t with
  | some (.array len e)=>match ix with
   | .v (.int _ j)=>match x with
    | .pt r i o=>(0 <= j /\ j < len) /\ ∃ k,tsz P e = some k /\ C (.pt r i (o + j.toNat * k))
    | _=>False
   | _=>False
  | _=>False
def indexAddr_sound {t:TypeId} {x ix:D} {v u:Value} (hs:Sim own H X w) (hv:Rel own H X w x v) (hu:Rel own H X w ix u) (h:zBC P t H x ix fun d=>C d H) :
  PureOut P own H X w (fun d=>C d H) (do pure (Next.value (<- Instr.indexAt t v u))):=by
 unfold zBC at h
 split at h
 ·rename_i e he
  unfold zBI at he
  split at he
  rotate_left
  ·simp at he
  rename_i e' hund
  simp at he;subst he
  split at h
  rotate_left
  ·exact h.elim
  rename_i ik j
  rw [zCE] at hu;subst hu
  split at h
  ·rename_i r i m
   obtain ⟨⟨h0,h1⟩,⟨k,xs,hg,hz⟩,hc⟩:=h
   rw [Rel,VRel] at hv;obtain ⟨hr,off,c,rfl,h2,h3⟩:=hv
   have hk:k = (own r).k:=(hs.live r _ hg).1.1
   obtain ⟨h4,h5⟩:=h3 (by omega)
   have:∀ w':World,(Instr.indexAt t (.slice (some ⟨(own r).b,off,none⟩) m c) (.int ik j)).run P w' = .ok (.pointer (some ⟨(own r).b,(own r).base + (i + j.toNat) * (own r).k + 0,none⟩)) w':=fun w'=>by
    simp [Instr.indexAt,asIntOf,zAC hund,h0,h1,zAn hz,zCf,h4,hk,yAv,Nat.add_assoc]
   exact ⟨_,_,fun w'=>by simp only [Sem.run_bind,this,Result.andThen_ok,Sem.run_pure] <;> rfl,(by rw [Rel,VRel];exact ⟨hr,rfl⟩),hc⟩
  ·rename_i k xs
   obtain ⟨⟨h0,h1⟩,hz,hc⟩:=h
   rw [Rel,VRel] at hv;obtain ⟨a,c,rfl,h2,h3⟩:=hv
   obtain ⟨b,off,rfl,h4,h5⟩:=h3 (by omega)
   have:∀ w':World,(Instr.indexAt t (.slice (some ⟨b,off,none⟩) xs.length c) (.int ik j)).run P w' = .ok (.pointer (some ⟨b,off + j.toNat * k + 0,none⟩)) w':=fun w'=>by
    simp [Instr.indexAt,asIntOf,zAC hund,h0,h1,zAn hz,zCf]
   exact ⟨_,_,fun w'=>by simp only [Sem.run_bind,this,Result.andThen_ok,Sem.run_pure] <;> rfl,(by rw [Rel,VRel];exact ⟨b,off,rfl,h4,h5⟩),hc⟩
  ·exact h.elim
 ·split at h
  rotate_left
  ·exact h.elim
  rename_i len e hund
  split at h
  rotate_left
  ·exact h.elim
  rename_i ik j
  rw [zCE] at hu;subst hu
  split at h
  rotate_left
  ·exact h.elim
  rename_i r i o
  obtain ⟨⟨h0,h1⟩,k,hz,hc⟩:=h
  rw [Rel,VRel] at hv;obtain ⟨hr,rfl⟩:=hv
  have:∀ w':World,(Instr.indexAt t (.pointer (some ⟨(own r).b,(own r).base + i * (own r).k + o,none⟩)) (.int ik j)).run P w' = .ok (.pointer (some ⟨(own r).b,(own r).base + i * (own r).k + (o + j.toNat * k),none⟩)) w':=fun w'=>by
   simp [Instr.indexAt,asIntOf,zAC hund,h0,h1,zAn hz,zCf,Instr.sureAddr,Nat.add_assoc]
  exact ⟨_,_,fun w'=>by simp only [Sem.run_bind,this,Result.andThen_ok,Sem.run_pure] <;> rfl,(by rw [Rel,VRel];exact ⟨hr,rfl⟩),hc⟩
def aField (P:Program) (t:TypeId) (x:D) (f:Nat) (C:D -> Prop):Prop :=
 match tfld P t f with
 | some (off,ft)=>match tag P ft,tsz P ft,x with
  | some tg,some sz,.agg cs=>∃ d,zBV tg sz (.agg cs) off = some d /\ C d
  | _,_,_=>False
 | _=>False
def part_sound {t:TypeId} {tg:Bool} {sz off:Nat} {cs:List D} {vs:List Value} {d:D} (htg:tag P t = some tg) (hsz:tsz P t = some sz) (hv:zCL own H X w cs vs) (hp:zBV tg sz (.agg cs) off = some d) :
  ∃ x,(∀ w':World,(part t vs.toArray off).run P w' = .ok x w') /\ Rel own H X w d x:=by
 have hl:=zAi hv
 cases tg with
 | true =>
  simp only [zBV] at hp
  split at hp
  ·rename_i hle
   have hcs:(if off = 0 /\ sz = cs.length then cs else (cs.drop off).take sz) = (cs.drop off).take sz:=by
    split
    ·rename_i h;obtain ⟨rfl,rfl⟩:=h;simp
    ·rfl
   rw [hcs] at hp
   simp at hp;subst hp
   refine ⟨.agg ((vs.drop off).take sz).toArray,fun w'=>?_,by rw [Rel,VRel];exact ⟨_,rfl,VRels_slice hv off sz⟩⟩
   simp [part,run_isAgg' htg,zAn hsz,List.take_drop,Nat.add_comm]
  ·simp at hp
 | false =>
  simp only [zBV] at hp
  obtain ⟨x,h1,h2⟩:=VRels_get hv hp
  exact ⟨x,fun w'=>by simp [part,run_isAgg' htg,h1],h2⟩
def field_sound {t:TypeId} {x:D} {v:Value} {f:Nat} (hs:Sim own H X w) (hv:Rel own H X w x v) (h:aField P t x f fun d=>C d H) :
  PureOut P own H X w (fun d=>C d H) (do pure (Next.value (<- Instr.field t v f))):=by
 unfold aField at h
 split at h
 rotate_left
 ·exact h.elim
 rename_i off ft hf
 split at h
 rotate_left
 ·exact h.elim
 rename_i tg sz cs htg hsz
 obtain ⟨d,hp,hc⟩:=h
 unfold tfld at hf
 split at hf
 rotate_left
 ·simp at hf
 rename_i fs hu
 simp only [yAb,yBX] at hf
 obtain ⟨fd,hfd,rfl,rfl⟩:=hf
 rw [Rel,VRel] at hv;obtain ⟨vs,rfl,h2⟩:=hv
 obtain ⟨y,h3,h4⟩:=part_sound (own:=own) (H:=H) (X:=X) htg hsz h2 hp
 exact ⟨_,_,fun w'=>by simp [Instr.field,zAC hu,hfd,asAgg,h3] <;> rfl,h4,hc⟩
def aExtract (x:D) (i:Nat) (C:D -> Prop):Prop:=match x with | .tup cs=>∃ d,cs[i]? = some d /\ C d | _=>False
def extract_sound {x:D} {v:Value} {i:Nat} (hs:Sim own H X w) (hv:Rel own H X w x v) (h:aExtract x i fun d=>C d H) :
  PureOut P own H X w (fun d=>C d H) (do pure (Next.value (<- Instr.extract v i))):=by
 unfold aExtract at h
 split at h
 rotate_left
 ·exact h.elim
 obtain ⟨d,h1,hc⟩:=h
 rw [Rel,VRel] at hv;obtain ⟨vs,rfl,h2⟩:=hv
 obtain ⟨y,h3,h4⟩:=VRels_get h2 h1
 exact ⟨_,_,fun w'=>by simp [Instr.extract,h3] <;> rfl,h4,hc⟩
def fillD (place:Nat -> Option (Nat × Nat)) (cs:List D):List (Nat × D) -> Option (List D)
 | []=>some cs
 | (i,x) :: rest=>match place i with
  | some (off,sz)=>if x.width = sz /\ off + sz <= cs.length /\ x.lies = true then fillD place (cs.take off ++ x.cells ++ cs.drop (off + sz)) rest else none
  | none=>none
def seg_step {α:Type} (A B:List α) (v:α) (vs:List α) (p:Nat) (hA:A.length = p):(A ++ v :: B).take (p + 1) ++ vs ++ (A ++ v :: B).drop (p + 1 + vs.length) = A ++ (v :: vs) ++ B.drop vs.length:=by
 subst hA
 rw [List.take_append,List.drop_append,yAW (by omega),List.drop_of_length_le (by omega)]
 rw [show A.length + 1 - A.length = 1 by omega,show A.length + 1 + vs.length - A.length = vs.length + 1 by omega]
 simp
def foldl_set (vs:List Value):∀ (off:Nat) (cs:Array Value),off + vs.length <= cs.size -> (vs.toArray.zipIdx.foldl (fun cs (c,j)=>cs.setIfInBounds (off + j) c) cs) = (cs.toList.take off ++ vs ++ cs.toList.drop (off + vs.length)).toArray:=by
 intro off cs h
 have key:∀ (vs:List Value) (n:Nat) (cs:Array Value),off + n + vs.length <= cs.size -> ((vs.zipIdx n).foldl (fun cs (c,j)=>cs.setIfInBounds (off + j) c) cs) = (cs.toList.take (off + n) ++ vs ++ cs.toList.drop (off + n + vs.length)).toArray:=by
  intro vs
  induction vs with
  | nil=>intro n cs h;simp
  | cons v vs ih =>
   intro n cs h
   simp only [List.zipIdx_cons,List.foldl_cons]
   rw [ih (n + 1) _ (by simp at h ⊢;omega)]
   simp only [Array.toList_setIfInBounds]
   congr 1
   have hlt:off + n < cs.toList.length:=by simp at h ⊢;omega
   rw [List.set_eq_take_append_cons_drop]
   simp only [hlt,if_true]
   have htl:(cs.toList.take (off + n)).length = off + n:=by simp at h ⊢;omega
   have hs:=seg_step (cs.toList.take (off + n)) (cs.toList.drop (off + n + 1)) v vs (off + n) htl
   rw [show off + (n + 1) = off + n + 1 by omega,hs,List.drop_drop]
   congr 2;simp;omega
 have:=key vs 0 cs (by simpa using h)
 simpa [Array.foldl_toList,<- Array.foldl_toList] using this
def fill_sound {place:Nat -> Option (Nat × Nat)}:∀ (ps:List (Nat × D)) (us:List (Nat × Value)) (cs cs':List D) (vs:List Value),us.map (·.1) = ps.map (·.1) -> zCL own H X w (ps.map (·.2)) (us.map (·.2)) -> zCL own H X w cs vs ->
  fillD place cs ps = some cs' -> ∃ vs',Instr.fill place vs.toArray us = some vs'.toArray /\ zCL own H X w cs' vs'
 | [],us,cs,cs',vs,he,hp,hc,h=>by
  simp at he;subst he
  simp [fillD] at h;subst h
  exact ⟨vs,by simp [Instr.fill],hc⟩
 | (i,x) :: ps,us,cs,cs',vs,he,hp,hc,h=>by
  cases us with
  | nil=>simp at he
  | cons u us =>
   obtain ⟨i',y⟩:=u
   simp at he
   obtain ⟨rfl,he⟩:=he
   simp only [yAL,VRels,zCL] at hp
   obtain ⟨y',ys,e,h1,h2⟩:=hp
   simp only [yAq] at e
   obtain ⟨rfl,rfl⟩:=e
   simp only [fillD] at h
   split at h
   ·rename_i off sz hpl
    split at h
    ·rename_i hcond
     obtain ⟨hwid,hle,hlies⟩:=hcond
     obtain ⟨h3,h4⟩:=VRel_lies h1 hlies
     have hyl:=zAi h3
     have hvl:=zAi hc
     rw [D.width_eq] at hwid
     have hsz:y.cells.size = sz:=by have:y.cells.toList.length = y.cells.size:=by simp
                                    omega
     have hnew:zCL own H X w (cs.take off ++ x.cells ++ cs.drop (off + sz)) (vs.take off ++ y.cells.toList ++ vs.drop (off + sz)) :=
      zBF (zBF (VRels_take off hc) h3) (VRels_drop (off + sz) hc)
     obtain ⟨vs',h5,h6⟩:=fill_sound ps us _ cs' _ he h2 hnew h
     refine ⟨vs',?_,h6⟩
     have hfold:=foldl_set y.cells.toList off vs.toArray (by simp at hyl ⊢;omega)
     simp only [Array.toArray_toList] at hfold
     simp only [Instr.fill,hpl]
     rw [if_neg (by simp [hsz];omega),hfold]
     have hsz':y.cells.toList.length = sz:=by simp [hsz]
     rw [hsz'];exact h5
    ·simp at h
   ·simp at h
def fieldsOf (P:Program) (t:TypeId):Option (List (Nat × Nat)) :=
 match P.underlying t with
 | some (.struct fs)=>fs.toList.mapM fun f=>(tsz P f.type).map fun s=>(f.offset,s)
 | _=>none
def aBuild (P:Program) (t:TypeId) (ps:List (Nat × D)) (C:D -> Prop):Prop :=
 match zCy P t,fieldsOf P t with
 | some (.agg zs),some fl=>∃ cs,fillD (fl[·]?) zs ps = some cs /\ C (.agg cs)
 | _,_=>False
def mapM_sizes:∀ (fs:List Go.Field) (fl:List (Nat × Nat)),(fs.mapM fun f=>(tsz P f.type).map fun s=>(f.offset,s)) = some fl ->
  (fs.mapM (m:=Sem) fun f=>do pure (f.offset,<- sizeOf f.type)).run P w = .ok fl w
 | [],fl,h=>by simp at h;subst h;simp
 | f :: fs,fl,h=>by
  simp only [List.mapM_cons,Option.bind_eq_bind,yAn,yAb] at h
  obtain ⟨p,⟨s,h1,rfl⟩,l,h2,h3⟩:=h
  simp at h3;subst h3
  have:=mapM_sizes fs l h2
  simp only [List.mapM_cons,Sem.run_bind,zAn h1,Result.andThen_ok,Sem.run_pure,this]
def build_sound {t:TypeId} {ps:List (Nat × D)} {us:Array (Nat × Value)} (hs:Sim own H X w) (he:us.toList.map (·.1) = ps.map (·.1)) (hv:zCL own H X w (ps.map (·.2)) (us.toList.map (·.2)))
  (h:aBuild P t ps fun d=>C d H):PureOut P own H X w (fun d=>C d H) (do pure (Next.value (<- Instr.build t us))):=by
 unfold aBuild at h
 split at h
 rotate_left
 ·exact h.elim
 rename_i zs fl hz hfl
 obtain ⟨cs,hf,hc⟩:=h
 obtain ⟨z,hz1,hz2⟩:=run_zeroValue'' hz
 have hzr:=Rel_zero (own:=own) (H:=H) (X:=X) (w:=w) z fun _ _ _ _=>trivial
 rw [<- hz2,Rel,VRel] at hzr
 obtain ⟨vs,rfl,h2⟩:=hzr
 unfold fieldsOf at hfl
 split at hfl
 rotate_left
 ·simp at hfl
 rename_i fs hund
 have hm:=fun w:World=>mapM_sizes (w:=w) _ _ hfl
 obtain ⟨vs',h3,h4⟩:=fill_sound ps us.toList zs cs vs he hv h2 hf
 have hfa:∀ w:World,(fs.mapM (m:=Sem) fun f=>do pure (f.offset,<- sizeOf f.type)).run P w = .ok fl.toArray w:=fun w=>by
  rw [Array.mapM_eq_mapM_toList]
  simp only [Sem.run_map,hm,Result.andThen_ok]
 have:∀ w':World,(Instr.build t us).run P w' = .ok (.agg vs'.toArray) w':=fun w'=>by
  simp only [Instr.build,Sem.run_bind,hz1,Result.andThen_ok,zAC hund,hfa,Value.cells]
  have e:(fun (x:Nat)=>fl.toArray[x]?) = (fun x=>fl[x]?):=by funext x;simp
  simp [e,h3]
 exact ⟨_,_,fun w'=>by simp only [Sem.run_bind,this,Result.andThen_ok,Sem.run_pure] <;> rfl,(by rw [Rel,VRel];exact ⟨_,rfl,h4⟩),hc⟩
end
end Go.Ab
namespace Go.Ab
variable [Go.Ab.DM]
section
variable {P:Program} {X:Nat -> Prop} {own:Nat -> Own} {H:Heap} {w:World} {C:D -> Heap -> Prop}
def aInt (op:BinOp) (k:IntKind) (a b:Int) (C:Value -> Prop):Prop :=
 match op with
 | .add=>C (.int k (k.wrap (a + b)))
 | .sub=>C (.int k (k.wrap (a - b)))
 | .mul=>C (.int k (k.wrap (a * b)))
 | .quo=>b ≠ 0 /\ C (.int k (k.wrap (a.tdiv b)))
 | .rem=>b ≠ 0 /\ C (.int k (a.tmod b))
 | .and=>C (.int k (k.wrap (BitVec.ofInt k.bits a &&& BitVec.ofInt k.bits b).toNat))
 | .or=>C (.int k (k.wrap (BitVec.ofInt k.bits a ||| BitVec.ofInt k.bits b).toNat))
 | .xor=>C (.int k (k.wrap (BitVec.ofInt k.bits a ^^^ BitVec.ofInt k.bits b).toNat))
 | .eql=>C (.bool (a == b))
 | .neq=>C (.bool (a != b))
 | .lss=>C (.bool (decide (a < b)))
 | .leq=>C (.bool (decide (a <= b)))
 | .gtr=>C (.bool (decide (a > b)))
 | .geq=>C (.bool (decide (a >= b)))
 | _=>False
def aStr (op:BinOp) (x y:ByteArray) (C:Value -> Prop):Prop :=
 match op with
 | .add=>x.size + y.size <= 9223372036854775807 /\ C (.string (x ++ y))
 | .eql=>C (.bool (x.toList == y.toList))
 | .neq=>C (.bool !(x.toList == y.toList))
 | .lss=>C (.bool (Op.bytesLess x.toList y.toList))
 | .leq=>C (.bool (Op.bytesLess x.toList y.toList || x.toList == y.toList))
 | .gtr=>C (.bool !(Op.bytesLess x.toList y.toList || x.toList == y.toList))
 | .geq=>C (.bool !(Op.bytesLess x.toList y.toList))
 | _=>False
def aBin (P:Program) (op:BinOp) (t:TypeId) (x y:D) (C:D -> Prop):Prop :=
 match x,y with
 | .v (.int k a),.v (.int k' b)=>match op with
  | .shl=>0 <= b /\ C (.v (.int k (k.wrap (a * 2 ^ min b.toNat k.bits))))
  | .shr=>0 <= b /\ C (.v (.int k (a.fdiv (2 ^ min b.toNat k.bits))))
  | op=>k = k' /\ aInt op k a b fun v=>C (.v v)
 | .v (.string a),.v (.string b)=>aStr op a b fun v=>C (.v v)
 | .v (.bool a),.v (.bool b)=>P.underlying t = some .bool /\ match op with
  | .eql=>C (.v (.bool (a == b)))
  | .neq=>C (.v (.bool !(a == b)))
  | _=>False
 | _,_=>False
def run_bool_eq {t:TypeId} {a b:Bool} (ht:P.underlying t = some .bool):(Op.equal t (.bool a) (.bool b)).run P w = .ok (a == b) w:=by
 have key:∀ d,(Op.equalIn (d + 1) t (.bool a) (.bool b)).run P w = .ok (a == b) w:=fun d=>by simp [Op.equalIn,zAC ht]
 exact key 9999
def zBE {m:Sem Next} (r:Value) (h1:∀ w':World,m.run P w' = .ok (.value r) w') (h2:C (.v r) H):PureOut P own H X w (fun d=>C d H) m:=⟨r,.v r,h1,by simp [Rel,VRel],h2⟩
def bin_sound {op:BinOp} {t:TypeId} {ox oy:Operand} {x y:D} {v u:Value} (hs:Sim own H X w) (hv:Rel own H X w x v) (hu:Rel own H X w y u) (h:aBin P op t x y fun d=>C d H) :
  PureOut P own H X w (fun d=>C d H) (do pure (Next.value (<- (do eqGuard op t ox oy v u;binOp op t v u)))):=by
 unfold aBin at h
 split at h
 ·rename_i k a k' b
  rw [zCE] at hv hu;subst hv;subst hu
  have hg:∀ op (w':World),(eqGuard op t ox oy (.int k a) (.int k' b)).run P w' = .ok () w':=fun op w'=>by unfold eqGuard;cases op <;> simp
  split at h
  ·obtain ⟨h0,hc⟩:=h
   exact zBE _ (fun w'=>by simp [hg,binOp,Op.shift,Int.not_lt.2 h0]) hc
  ·obtain ⟨h0,hc⟩:=h
   exact zBE _ (fun w'=>by simp [hg,binOp,Op.shift,Int.not_lt.2 h0]) hc
  ·obtain ⟨rfl,h⟩:=h
   cases op <;> simp only [aInt] at h
   all_goals first
    | exact zBE _ (fun w'=>by simp [hg,binOp,Op.intArith,Op.intBits,Op.intCmp]) h
    | exact zBE _ (fun w'=>by simp [hg,binOp,Op.intDiv,h.1]) h.2
    | (exact h.elim)
    | (rename_i h1 h2;first | exact (h1 rfl).elim | exact (h2 rfl).elim)
 ·rename_i a b
  rw [zCE] at hv hu;subst hv;subst hu
  have hg:∀ op (w':World),(eqGuard op t ox oy (.string a) (.string b)).run P w' = .ok () w':=fun op w'=>by unfold eqGuard;cases op <;> simp
  cases op <;> simp only [aStr] at h
  all_goals first
   | exact zBE _ (fun w'=>by simp only [Sem.run_bind,hg,Result.andThen_ok,binOp,Op.stringOp,Sem.run_pure]) h
   | (exact h.elim)
   | (obtain ⟨h1,h2⟩:=h
      refine zBE _ (fun w'=>?_) h2
      simp only [Sem.run_bind,hg,Result.andThen_ok,binOp,Op.stringOp,IntKind.max,IntKind.signed,IntKind.bits]
      rw [if_neg (by simp;omega)]
      simp)
 ·rename_i a b
  obtain ⟨ht,h⟩:=h
  rw [zCE] at hv hu;subst hv;subst hu
  have hg:∀ op (w':World),(eqGuard op t ox oy (.bool a) (.bool b)).run P w' = .ok () w':=fun op w'=>by unfold eqGuard;cases op <;> simp
  split at h
  ·exact zBE _ (fun w'=>by simp [hg,binOp,run_bool_eq ht]) h
  ·exact zBE _ (fun w'=>by simp [hg,binOp,run_bool_eq ht]) h
  ·exact h.elim
 ·exact h.elim
def aUn (op:UnOp) (x:D) (C:D -> Prop):Prop :=
 match op,x with
 | .neg,.v (.int k n)=>C (.v (.int k (k.wrap (0 - n))))
 | .not,.v (.bool b)=>C (.v (.bool !b))
 | _,_=>False
def un_sound {op:UnOp} {x:D} {v:Value} (hs:Sim own H X w) (hv:Rel own H X w x v) (h:aUn op x fun d=>C d H) :
  PureOut P own H X w (fun d=>C d H) (do pure (Next.value (<- Op.unary op v))):=by
 unfold aUn at h
 split at h
 ·rw [zCE] at hv;subst hv;exact zBE _ (fun w'=>by simp only [Op.unary,Op.intArith,Sem.run_bind,Sem.run_pure,Result.andThen_ok]) h
 ·rw [zCE] at hv;subst hv;exact zBE _ (fun w'=>by simp [Op.unary]) h
 ·exact h.elim
def aConv (P:Program) (s t:TypeId) (x:D) (C:D -> Prop):Prop :=
 match x with
 | .v (.int _ n)=>match P.underlying t with
  | some (.int k)=>(P.underlying s).isSome = true /\ C (.v (.int k (k.wrap n)))
  | _=>False
 | .v (.string b)=>match P.underlying s,P.underlying t with
  | some .string,some .string=>C (.v (.string b))
  | _,_=>False
 | _=>False
def aLen (P:Program) (t:TypeId) (H:Heap) (x:D) (C:D -> Prop):Prop :=
 match P.underlying t,x with
 | some .string,.v (.string s)=>C (.v (.int .i64 s.size))
 | some (.slice _),.fz _ xs=>C (.v (.int .i64 xs.length))
 | some (.slice _),.sl _ _ m=>C (.v (.int .i64 m))
 | some (.slice _),.slc _ _ m _=>C (.v (.int .i64 m))
 | some (.slice _),.v (.slice none 0 0)=>C (.v (.int .i64 0))
 | _,_=>False
def len_sound {t ty:TypeId} {ts:Array TypeId} {x:D} {v:Value} (ht:ts[0]? = some t) (hs:Sim own H X w) (hv:Rel own H X w x v) (h:aLen P t H x fun d=>C d H) :
  PureOut P own H X w (fun d=>C d H) (do pure (Next.value (<- Builtin.len_ ts ty #[v]))):=by
 unfold aLen at h
 split at h
 ·rename_i hu;rw [zCE] at hv;subst hv;exact zBE _ (fun w'=>by simp [Builtin.len_,ht,zAC hu,goInt]) h
 ·rename_i hu;rw [Rel,VRel] at hv;obtain ⟨a,c,rfl,_⟩:=hv;exact zBE _ (fun w'=>by simp [Builtin.len_,ht,zAC hu,goInt]) h
 ·rename_i hu;rw [Rel,VRel] at hv;obtain ⟨_,off,c,rfl,_⟩:=hv;exact zBE _ (fun w'=>by simp [Builtin.len_,ht,zAC hu,goInt]) h
 ·rename_i hu;rw [Rel,VRel] at hv;obtain ⟨_,off,rfl,_⟩:=hv;exact zBE _ (fun w'=>by simp [Builtin.len_,ht,zAC hu,goInt]) h
 ·rename_i hu;rw [zCE] at hv;subst hv;exact zBE _ (fun w'=>by simp [Builtin.len_,ht,zAC hu,goInt]) h
 ·exact h.elim
def zAc (d:D) (o:Option D):Option Int:=match o with | none=>(match d with | .v (.int _ n)=>some n | _=>none) | some (.v (.int _ n))=>some n | _=>none
def zAx (P:Program) (t:TypeId) (x:D) (lo hi mx:Option D) (C:D -> Prop):Prop :=
 match mx,zAc (.v (.int .i64 0)) lo with
 | none,some l=>match P.underlying t,x with
  | some (.slice e),.sl r i m=>match zAc (.v (.int .i64 m)) hi with
   | some h=>(0 <= l /\ l <= h /\ h <= m) /\ C (.sl r (i + l.toNat) (h.toNat - l.toNat))
   | none=>False
  | some (.slice e),.fz k xs=>match zAc (.v (.int .i64 xs.length)) hi with
   | some h=>(0 <= l /\ l <= h /\ h <= xs.length) /\ tsz P e = some k /\ C (.fz k ((xs.drop l.toNat).take (h.toNat - l.toNat)))
   | none=>False
  | some (.slice e),.v (.slice none 0 0)=>match zAc (.v (.int .i64 0)) hi with
   | some h=>l = 0 /\ h = 0 /\ C (.v (.slice none 0 0))
   | none=>False
  | some .string,.v (.string s)=>match zAc (.v (.int .i64 s.size)) hi with
   | some h=>(0 <= l /\ l <= h /\ h <= s.size) /\ C (.v (.string (s.extract l.toNat h.toNat)))
   | none=>False
  | _,_=>False
 | _,_=>False
end
end Go.Ab
namespace Go.Ab
variable [Go.Ab.DM]
section
variable {P:Program} {X:Nat -> Prop} {own:Nat -> Own} {H:Heap} {w:World} {C:D -> Heap -> Prop}
def zCA {k:IntKind} {i:Int} {y:Nat} {c:BoundsCode} (h0:0 <= i) (h1:i <= y):(Instr.sliceBound (.int k i) y c).run P w = .ok i.toNat w:=by
 simp [Instr.sliceBound,asIntOf,h0,h1]
def boundOf_rel {n:Nat} {o:Option D} {ov:Option Value} {i:Int} (h:zAc (.v (.int .i64 n)) o = some i) (hv:∀ d,o = some d -> ∃ v,ov = some v /\ Rel own H X w d v) (hn:o = none -> ov = none) :
  (o = none /\ ov = none /\ i = n) \/ ∃ k,ov = some (.int k i):=by
 unfold zAc at h
 split at h
 ·simp at h;exact .inl ⟨rfl,hn rfl,h.symm⟩
 ·rename_i k m;simp at h;subst h
  obtain ⟨v,h1,h2⟩:=hv _ rfl
  rw [zCE] at h2;subst h2;exact .inr ⟨k,h1⟩
 ·simp at h
def sliceBounds_ok {isS:Bool} {len cap:Nat} {lo hi:Option D} {lv hv:Option Value} {l h:Int} (hl:zAc (.v (.int .i64 (0:Nat))) lo = some l) (hh:zAc (.v (.int .i64 len)) hi = some h)
  (rl:∀ d,lo = some d -> ∃ v,lv = some v /\ Rel own H X w d v) (nl:lo = none -> lv = none) (rh:∀ d,hi = some d -> ∃ v,hv = some v /\ Rel own H X w d v) (nh:hi = none -> hv = none)
  (h0:0 <= l) (h1:l <= h) (h2:h <= len) (h3:len <= cap) {w':World}:(Instr.sliceBounds isS len cap lv hv none).run P w' = .ok (l.toNat,h.toNat,cap) w':=by
 rcases boundOf_rel hl rl nl with ⟨_,rfl,rfl⟩ | ⟨k,rfl⟩ <;> rcases boundOf_rel hh rh nh with ⟨_,rfl,rfl⟩ | ⟨k',rfl⟩
 ·simp [Instr.sliceBounds]
 ·simp [Instr.sliceBounds,zCA (P:=P) (w:=w') (k:=k') (c:=if isS then .sliceAcap else .sliceAlen) (show 0 <= h by omega) (show h <= cap by omega)]
 ·simp [Instr.sliceBounds,zCA (P:=P) (w:=w') (k:=k) (c:=.sliceB) h0 (show l <= (len:Nat) by omega)]
 ·simp [Instr.sliceBounds,zCA (P:=P) (w:=w') (k:=k') (c:=if isS then .sliceAcap else .sliceAlen) (show 0 <= h by omega) (show h <= cap by omega),zCA (P:=P) (w:=w') (k:=k) (c:=.sliceB) h0 (show l <= (h.toNat:Nat) by omega)]
def slice_sound {t:TypeId} {x:D} {v:Value} {lo hi mx:Option D} {lv hv mv:Option Value} (hs:Sim own H X w) (hx:Rel own H X w x v)
  (rl:∀ d,lo = some d -> ∃ v,lv = some v /\ Rel own H X w d v) (nl:lo = none -> lv = none) (rh:∀ d,hi = some d -> ∃ v,hv = some v /\ Rel own H X w d v) (nh:hi = none -> hv = none) (nm:mx = none -> mv = none)
  (tsize:∀ e,zBI P t = some e -> ∃ k,tsz P e = some k /\ ∀ r kk xs i m,x = .sl r i m -> H.get r = some (.cells kk xs) -> k = (own r).k) (tk:∀ r i m,x = .sl r i m -> ∃ kk xs,H.get r = some (.cells kk xs))
  (h:zAx P t x lo hi mx fun d=>C d H):PureOut P own H X w (fun d=>C d H) (do pure (Next.value (<- Instr.sliceAt t v lv hv mv))):=by
 unfold zAx at h
 split at h
 rotate_left
 ·exact h.elim
 rename_i l hl
 have hmv:=nm rfl
 subst hmv
 split at h
 ·rename_i e r i m hu
  split at h
  rotate_left
  ·exact h.elim
  rename_i hh hb
  obtain ⟨⟨h0,h1,h2⟩,hc⟩:=h
  rw [Rel,VRel] at hx;obtain ⟨hr,off,c,rfl,h3,h4⟩:=hx
  obtain ⟨k,hk,hkk⟩:=tsize e (by simp [zBI,hu])
  obtain ⟨kk,xs,hg⟩:=tk _ _ _ rfl
  have hk':=hkk _ _ _ _ _ rfl hg
  subst hk'
  have hsb:=fun w':World=>sliceBounds_ok (P:=P) (w:=w) (w':=w') (isS:=true) hl hb rl nl rh nh h0 h1 h2 h3
  have:∀ w':World,(Instr.sliceAt t (.slice (some ⟨(own r).b,off,none⟩) m c) lv hv none).run P w' = .ok (.slice (some (if c = l.toNat then ⟨(own r).b,off,none⟩ else ⟨(own r).b,off + l.toNat * (own r).k,none⟩)) (hh.toNat - l.toNat) (c - l.toNat)) w':=fun w'=>by
   simp only [Instr.sliceAt,Sem.run_bind,zAC hu,Result.andThen_ok,Instr.slice,hsb,zAn hk,Sem.run_pure]
   split <;> simp [zCf]
  refine ⟨_,_,fun w'=>by simp only [Sem.run_bind,this,Result.andThen_ok,Sem.run_pure] <;> rfl,?_,hc⟩
  rw [Rel,VRel]
  by_cases hcl:c = l.toNat
  ·rw [if_pos hcl];exact ⟨hr,off,_,rfl,by omega,fun h=>by omega⟩
  ·rw [if_neg hcl]
   refine ⟨hr,off + l.toNat * (own r).k,_,rfl,by omega,fun h5=>?_⟩
   obtain ⟨h6,h7⟩:=h4 (by omega)
   refine ⟨by rw [h6,yAv];omega,?_⟩
   rw [show i + l.toNat + (c - l.toNat) = i + c by omega];exact h7
 ·rename_i e k xs hu
  split at h
  rotate_left
  ·exact h.elim
  rename_i hh hb
  obtain ⟨⟨h0,h1,h2⟩,hz,hc⟩:=h
  rw [Rel,VRel] at hx;obtain ⟨a,c,rfl,h3,h4⟩:=hx
  have hsb:=fun w':World=>sliceBounds_ok (P:=P) (w:=w) (w':=w') (isS:=true) hl hb rl nl rh nh h0 h1 h2 h3
  have:∀ w':World,(Instr.sliceAt t (.slice a xs.length c) lv hv none).run P w' = .ok (.slice (if c = l.toNat then a else a.map (·.add (l.toNat * k))) (hh.toNat - l.toNat) (c - l.toNat)) w':=fun w'=>by
   simp only [Instr.sliceAt,Sem.run_bind,zAC hu,Result.andThen_ok,Instr.slice,hsb,zAn hz,Sem.run_pure]
  refine ⟨_,_,fun w'=>by simp only [Sem.run_bind,this,Result.andThen_ok,Sem.run_pure] <;> rfl,?_,hc⟩
  rw [Rel,VRel]
  have hlen:((xs.drop l.toNat).take (hh.toNat - l.toNat)).length = hh.toNat - l.toNat:=by simp;omega
  refine ⟨_,_,by rw [hlen],by rw [hlen];omega,fun h5=>?_⟩
  rw [hlen] at h5
  obtain ⟨b,off,rfl,h6,h7⟩:=h4 (by omega)
  rw [if_neg (by omega)]
  refine ⟨b,off + l.toNat * k,by simp [zCf],h6,?_⟩
  have e1:xs = xs.take l.toNat ++ ((xs.drop l.toNat).take (hh.toNat - l.toNat) ++ (xs.drop l.toNat).drop (hh.toNat - l.toNat)):=by rw [yAk,yAk]
  rw [e1,zBf,zBf] at h7
  have hlt:(xs.take l.toNat).length = l.toNat:=by simp;omega
  rw [hlt] at h7;exact h7.2.1
 ·rename_i e hu
  split at h
  rotate_left
  ·exact h.elim
  rename_i hh hb
  obtain ⟨rfl,rfl,hc⟩:=h
  rw [zCE] at hx;subst hx
  obtain ⟨k,hk,_⟩:=tsize e (by simp [zBI,hu])
  have hsb:=fun w':World=>sliceBounds_ok (P:=P) (w:=w) (w':=w') (isS:=true) (len:=0) (cap:=0) hl hb rl nl rh nh (by omega) (by omega) (by omega) (by omega)
  have:∀ w':World,(Instr.sliceAt t (.slice none 0 0) lv hv none).run P w' = .ok (.slice none 0 0) w':=fun w'=>by
   simp only [Instr.sliceAt,Sem.run_bind,zAC hu,Result.andThen_ok,Instr.slice,hsb,zAn hk,Sem.run_pure];rfl
  exact zBE _ (fun w'=>by simp only [Sem.run_bind,this,Result.andThen_ok,Sem.run_pure]) hc
 ·rename_i s hu
  split at h
  rotate_left
  ·exact h.elim
  rename_i hh hb
  obtain ⟨⟨h0,h1,h2⟩,hc⟩:=h
  rw [zCE] at hx;subst hx
  have hsb:=fun w':World=>sliceBounds_ok (P:=P) (w:=w) (w':=w') (isS:=false) hl hb rl nl rh nh h0 h1 h2 (yAJ _)
  have:∀ w':World,(Instr.sliceAt t (.string s) lv hv none).run P w' = .ok (.string (s.extract l.toNat hh.toNat)) w':=fun w'=>by
   simp [Instr.sliceAt,zAC hu,Instr.slice,hsb]
  exact zBE _ (fun w'=>by simp only [Sem.run_bind,this,Result.andThen_ok,Sem.run_pure]) hc
 ·exact h.elim
def zBn (P:Program) (t:TypeId) (n:Nat) (ps:List (Nat × D)) (H:Heap) (C:D -> Heap -> Prop):Prop :=
 match zBI P t with
 | some e=>match tsz P e with
  | some k=>(ps.map (·.1) = List.range n) /\ n * k <= 16777216 /\ (n * k ≠ 0 -> ((P.info? e).bind (·.zero)).isSome = true) /\ (ps.all fun p=>p.2.width == k && p.2.lies) = true /\ C (.sl H.length 0 n) (H ++ [some (.cells k (ps.map (·.2)))])
  | none=>False
 | none=>False
def fill_slots {k:Nat}:∀ (us:List (Nat × Value)) (m:Nat) (cs:Array Value),us.map (·.1) = List.range' m us.length -> (∀ u ∈ us,u.2.cells.size = k) -> cs.size = (m + us.length) * k ->
  Instr.fill (fun i=>some (i * k,k)) cs us = some (cs.toList.take (m * k) ++ us.flatMap (·.2.cells.toList)).toArray
 | [],m,cs,_,_,h=>by simp at h;simp [Instr.fill,yAW (show cs.toList.length <= m * k by simp [h])]
 | (i,v) :: us,m,cs,he,hk,h=>by
  simp only [yAL,yAY,List.range'_succ,yAq] at he
  obtain ⟨rfl,he⟩:=he
  have hv:v.cells.size = k:=hk (i,v) (by simp)
  have hmul:(i + (us.length + 1)) * k = i * k + k + us.length * k:=by rw [yAv,yAv];omega
  simp only [yAY] at h
  have hfold:=foldl_set v.cells.toList (i * k) cs (by simp [hv];omega)
  simp only [Array.toArray_toList] at hfold
  simp only [Instr.fill]
  rw [if_neg (by simp [hv];omega),hfold]
  have hmul2:(i + 1) * k = i * k + k:=by rw [yAv,Nat.one_mul]
  rw [fill_slots us (i + 1) _ he (fun u hu=>hk u (by simp [hu])) (by simp [hv];rw [show (i + 1 + us.length) * k = i * k + k + us.length * k by rw [yAv,yAv];omega];omega)]
  simp only [yAj]
  rw [hmul2,List.take_append,yAW (by simp [hv];omega)]
  have:i * k + k - (cs.toList.take (i * k) ++ v.cells.toList).length = 0:=by simp [hv];omega
  rw [this];simp
def buildSlice_sound {t:TypeId} {n:Nat} {ps:List (Nat × D)} {us:Array (Nat × Value)} (hs:Sim own H X w) (he:us.toList.map (·.1) = ps.map (·.1)) (hv:zCL own H X w (ps.map (·.2)) (us.toList.map (·.2)))
  (h:zBn P t n ps H C):∃ o:Obj,(do pure (Next.value (<- Instr.buildSlice t n us)):Sem Next).run P w = .ok (.value (.slice (some ⟨w.heap.size,0,none⟩) n n)) { w with heap:=w.heap.push o } /\ OpOut P X own H w C (.ok (.value (.slice (some ⟨w.heap.size,0,none⟩) n n)) { w with heap:=w.heap.push o }):=by
 unfold zBn at h
 split at h
 rotate_left
 ·exact h.elim
 rename_i e hte
 split at h
 rotate_left
 ·exact h.elim
 rename_i k hk
 obtain ⟨h1,h2,h3,h4,hc⟩:=h
 unfold zBI at hte
 split at hte
 rotate_left
 ·simp at hte
 rename_i e' hu
 simp at hte;subst hte
 have hlen:us.toList.length = n:=by have:=congrArg List.length (he.trans h1);simpa using this
 have key:∀ (ps:List (Nat × D)) (us:List (Nat × Value)),zCL own H X w (ps.map (·.2)) (us.map (·.2)) -> (ps.all fun p=>p.2.width == k && p.2.lies) = true ->
     zCL own H X w ((ps.map (·.2)).flatMap D.cells) (us.flatMap (·.2.cells.toList)) /\ (∀ u ∈ us,u.2.cells.size = k):=by
  intro ps
  induction ps with
  | nil=>intro us h _;simp [zCL,VRels] at h;subst h;simp [zCL,VRels]
  | cons p ps ih =>
   intro us h hall
   cases us with
   | nil=>simp [zCL,VRels] at h
   | cons u us =>
    simp only [yAL,zCL,VRels] at h
    obtain ⟨x,xs,e1,h5,h6⟩:=h
    simp only [yAq] at e1
    obtain ⟨rfl,rfl⟩:=e1
    simp only [yBZ,yAB,beq_iff_eq] at hall
    obtain ⟨⟨hw1,hl1⟩,hall⟩:=hall
    obtain ⟨h7,h8⟩:=VRel_lies h5 hl1
    obtain ⟨h9,h10⟩:=ih us h6 hall
    refine ⟨?_,?_⟩
    ·simp only [yAL,yAj];exact zBF h7 h9
    ·intro y hy
     rcases yAE.1 hy with rfl | hy
     ·have:=zAi h7;rw [<- D.width_eq,hw1] at this;simpa using this
     ·exact h10 y hy
 obtain ⟨hfl,hsz⟩:=key ps us.toList hv h4
 have hfill:∀ z:Array Value,Instr.fill (fun i=>some (i * k,k)) ((Array.range (n * k)).map fun i=>z[i % z.size]!) us.toList = some (us.toList.flatMap (·.2.cells.toList)).toArray:=fun z=>by
  have:=fill_slots us.toList 0 ((Array.range (n * k)).map fun i=>z[i % z.size]!) (by rw [he,h1,List.range_eq_range',hlen]) hsz (by simp [hlen] at hlen ⊢)
  simpa only [Nat.zero_mul,List.take_zero,yBI] using this
 have hfl':=zAi hfl
 have hones:((ps.map (·.2)).flatMap D.cells).all D.one = true:=by
  rw [yAR];intro c hc
  obtain ⟨d,hd,hcd⟩:=List.mem_flatMap.1 hc
  obtain ⟨p,hp,rfl⟩:=yBC.1 hd
  have:=(yAR.1 h4) _ hp
  simp at this
  exact (yAR.1 (lies_cells this.2)) c hcd
 have hrow:=row_sound hs e' k (ps.map (·.2)) _ [] (by intro d hd;simp at hd;obtain ⟨a,hd⟩:=hd;have:=(yAR.1 h4) _ hd;simp at this;exact this.1) hones hfl
 simp only [yAS] at hrow
 have:(Instr.buildSlice t n us).run P w = .ok (.slice (some ⟨w.heap.size,0,none⟩) n n) { w with heap:=w.heap.push (.cells (us.toList.flatMap (·.2.cells.toList)).toArray e') }:=by
  simp only [Instr.buildSlice,Sem.run_bind,zAC hu,Result.andThen_ok,zAn hk]
  rw [if_neg (by omega)]
  by_cases hnk0:n * k = 0
  ·rw [if_pos hnk0]
   simp only [Sem.run_bind,Sem.run_pure,Result.andThen_ok,hfill,newRow,run_newObj]
  ·rw [if_neg hnk0]
   have h3':=h3 hnk0
   cases hi:P.info? e' with
   | none=>simp [hi] at h3'
   | some i =>
    cases hz:i.zero with
    | none=>simp [hi,hz] at h3'
    | some z =>
     have hzv:(zeroValue e').run P w = .ok z w:=by simp [zeroValue,zCB hi,hz]
     simp only [Sem.run_bind,hzv,Sem.run_pure,Result.andThen_ok,hfill,newRow,run_newObj]
 simp only [Sem.run_bind,this,Result.andThen_ok,Sem.run_pure]
 refine ⟨_,rfl,_,.sl H.length 0 n,_,hrow.1,?_,hrow.2,hc⟩
 rw [Rel,VRel]
 have hnk:(us.toList.flatMap (·.2.cells.toList)).length = n * k:=by
  rw [hfl']
  have:∀ (ys:List D),(∀ d ∈ ys,d.width = k) -> (ys.flatMap D.cells).length = ys.length * k:=by
   intro ys
   induction ys with
   | nil=>simp
   | cons y ys ih =>
    intro h
    have h1:=h y (by simp)
    rw [D.width_eq] at h1
    simp [yAj,ih (fun d hd=>h d (by simp [hd])),h1,yAv];omega
  rw [this _ (by intro d hd;simp at hd;obtain ⟨a,hd⟩:=hd;have:=(yAR.1 h4) _ hd;simp at this;exact this.1)]
  have:=congrArg List.length h1;simp at this;simp [this]
 refine ⟨by simp,0,n,by simp [zBO],yAJ _,fun _=>?_⟩
 simp only [zBO,if_true]
 exact ⟨by simp,by rw [hnk];simp⟩
end
end Go.Ab
namespace Go.Ab
variable [Go.Ab.DM]
section
variable {P:Program} {X:Nat -> Prop} {own:Nat -> Own} {H:Heap} {w:World} {C:D -> Heap -> Prop}
def step_move (hs:Sim own H X w) {r:Nat} {row row':Row} (hr:H.get r = some row) (obj:Obj) (o:Own) (hob:o.b = (own r).b)
  {w':World} (hw':w'.heap = w.heap.setIfInBounds (own r).b obj)
  (hrow:∀ (own':Nat -> Own) (H':Heap),Ext X own H w own' H' w' -> w'.heap[(own r).b]? = some obj -> RowOk own' H'.length (zAQ own' H' X w') w' o row') (st:SameW w w':=by first | exact ⟨rfl,rfl,rfl,fun _=>yAJ _⟩ | exact ⟨rfl,rfl,rfl,fun _=>yBG _⟩) :
  Sim (zBO own H.length o) (H.set r none ++ [some row']) X w' /\ Ext X own H w (zBO own H.length o) (H.set r none ++ [some row']) w':=by
 have hrl:=Heap.get_lt hr
 have hlt:=(hs.live r row hr).1.lt
 have hnew:w'.heap[(own r).b]? = some obj:=by rw [hw'];simp [hlt]
 have hold:∀ b,b ≠ (own r).b -> w'.heap[b]? = w.heap[b]?:=fun b hb=>by rw [hw'];simp [Array.getElem?_setIfInBounds,Ne.symm hb]
 have hlen:(H.set r none).length = H.length:=by simp
 have hget:∀ r' row₁,Heap.get (H.set r none ++ [some row']) r' = some row₁ -> (r' = H.length /\ row₁ = row') \/ (r' ≠ H.length /\ r' ≠ r /\ H.get r' = some row₁):=fun r' row₁ h=>by
  rw [Heap.get_push,hlen] at h
  by_cases h1:r' = H.length
  ·left;simp [h1] at h;exact ⟨h1,h.symm⟩
  ·right;rw [if_neg h1,Heap.get_set H hrl] at h
   by_cases h2:r' = r
   ·simp [h2] at h
   ·exact ⟨h1,h2,by simpa [h2] using h⟩
 have hoe:∀ r',r' ≠ H.length -> zBO own H.length o r' = own r':=fun r' h=>by simp [zBO,h]
 have hon:zBO own H.length o H.length = o:=by simp [zBO]
 have hext:Ext X own H w (zBO own H.length o) (H.set r none ++ [some row']) w':=by
  refine ⟨by rw [hw'];simp,by simp,fun r' hr'=>hoe r' (by omega),fun b hb=>⟨⟨by rw [hw'];simpa using hb.1,hb.2.1,fun r' row₁ h=>?_⟩,hold b (Ne.symm (hb.2.2 r row hr))⟩,fun b hb=>hold b fun h=>(hs.live r row hr).2 (h ▸ hb),st⟩
  rcases hget r' row₁ h with ⟨rfl,rfl⟩ | ⟨h1,h2,h3⟩
  ·rw [hon,hob];exact hb.2.2 r row hr
  ·rw [hoe r' h1];exact hb.2.2 r' row₁ h3
 refine ⟨⟨fun r' row₁ h=>?_,fun r₁ r₂ row₁ row₂ h₁ h₂ hne=>?_,fun b hb=>by rw [hw'];simpa using hs.hid b hb⟩,hext⟩
 ·rcases hget r' row₁ h with ⟨rfl,rfl⟩ | ⟨h1,h2,h3⟩
  ·rw [hon];exact ⟨hrow _ _ hext hnew,by rw [hob];exact (hs.live r row hr).2⟩
  ·rw [hoe r' h1];exact ⟨RowOk.mono hext.keeps (hold _ (hs.excl _ _ _ _ h3 hr h2)) (hs.live r' row₁ h3).1,(hs.live r' row₁ h3).2⟩
 ·rcases hget r₁ row₁ h₁ with ⟨e1,_⟩ | ⟨a1,a2,a3⟩ <;> rcases hget r₂ row₂ h₂ with ⟨e2,_⟩ | ⟨b1,b2,b3⟩
  ·omega
  ·subst e1;rw [hon,hoe r₂ b1,hob];exact fun h=>hs.excl _ _ _ _ b3 hr b2 h.symm
  ·subst e2;rw [hon,hoe r₁ a1,hob];exact hs.excl _ _ _ _ a3 hr a2
  ·rw [hoe r₁ a1,hoe r₂ b1];exact hs.excl _ _ _ _ a3 b3 hne
def zBY (H:Heap) (k:Nat) (x:D):Option (List D) :=
 match x with
 | .v (.slice none 0 0)=>some []
 | .fz k' xs=>if k' = k then some xs else none
 | .sl r i m=>match H.get r with
  | some (.cells k' xs)=>if k' = k /\ i + m <= xs.length then some ((xs.drop i).take m) else none
  | _=>none
 | _=>none
def Cells_mid {own:Nat -> Own} {U:Nat -> Prop} {n k:Nat} {xs:List D} {b off:Nat} (h:Cells own U w n k xs b off) {i m:Nat} (hi:i + m <= xs.length):Cells own U w n k ((xs.drop i).take m) b (off + i * k):=by
 have e1:xs = xs.take i ++ ((xs.drop i).take m ++ (xs.drop i).drop m):=by rw [yAk,yAk]
 rw [e1,zBf,zBf] at h
 have hlt:(xs.take i).length = i:=by simp;omega
 rw [hlt] at h;exact h.2.1
def flat_len {k:Nat}:∀ (ys:List D),(∀ d ∈ ys,d.width = k) -> (ys.flatMap D.cells).length = ys.length * k:=by
 intro ys
 induction ys with
 | nil=>simp
 | cons y ys ih =>
  intro h
  have h1:=h y (by simp)
  rw [D.width_eq] at h1
  simp [yAj,ih (fun d hd=>h d (by simp [hd])),h1,yAv];omega
def flat_run {own:Nat -> Own} {U:Nat -> Prop} {n:Nat} {ds:List D} {b off:Nat} (h:Flat own U w n ds b off):ds.all D.one = true /\ ∃ vs,VRels own U w n ds vs /\ vs.length = ds.length /\ ∀ w':World,w'.heap = w.heap -> (loadCells ⟨b,off,none⟩ ds.length).run P w' = .ok vs.toArray w':=by
 obtain ⟨h0,vs,h1,h2⟩:=Flat_values.1 h
 have hl:=zAi h1
 refine ⟨h0,vs,h1,hl,fun w' hw'=>?_⟩
 rw [<- hl]
 exact run_loadCells_list (P:=P) w' _ vs fun j v hj=>by
  rw [zCf,zCD (w:=w) (w':=w') (by rw [hw']),h2 j (yBW.1 hj).1,hj]
def elems_sound {k:Nat} {x:D} {v:Value} {ys:List D} (hs:Sim own H X w) (hx:Rel own H X w x v) (h:zBY H k x = some ys) :
  (Builtin.lenOf v).run P w = .ok ys.length w /\ (∀ d ∈ ys,d.width = k) /\ (ys.flatMap D.cells).all D.one = true /\ ∃ vs,zCL own H X w (ys.flatMap D.cells) vs /\ vs.length = ys.length * k /\ ∀ w':World,w'.heap = w.heap -> (Builtin.firstCells k ys.length v).run P w' = .ok vs.toArray w':=by
 unfold zBY at h
 split at h
 ·simp at h;subst h
  rw [zCE] at hx;subst hx
  exact ⟨rfl,by simp,by simp,[],by simp [zCL,VRels],by simp,fun _ _=>rfl⟩
 ·rename_i k' xs
  split at h
  ·rename_i hk;subst hk;simp at h;subst h
   rw [Rel,VRel] at hx;obtain ⟨a,c,rfl,h1,h2⟩:=hx
   refine ⟨rfl,?_⟩
   by_cases h0:xs.length = 0
   ·have:xs = []:=yAx h0
    subst this
    exact ⟨by simp,by simp,[],by simp [zCL,VRels],by simp,fun _ _=>by cases a <;> simp [Builtin.firstCells,loadCells,loadCellsFrom]⟩
   ·obtain ⟨b,off,rfl,h3,h4⟩:=h2 h0
    obtain ⟨hw,hf⟩:=Cells_flat.1 h4
    obtain ⟨g0,vs,g1,g2,g3⟩:=flat_run (P:=P) hf
    rw [flat_len _ hw] at g2 g3
    exact ⟨hw,g0,vs,VRels_zero g1,g2,fun w' hw'=>by simpa [Builtin.firstCells] using g3 w' hw'⟩
  ·simp at h
 ·rename_i r i m
  split at h
  ·rename_i k' xs hg
   split at h
   ·rename_i hk;obtain ⟨rfl,hle⟩:=hk;simp at h;subst h
    rw [Rel,VRel] at hx;obtain ⟨hr,off,c,rfl,h1,h2⟩:=hx
    obtain ⟨⟨rfl,cc,ty,h3,h4,h5,h6⟩,h7⟩:=hs.live r _ hg
    have hlen:((xs.drop i).take m).length = m:=by simp;omega
    refine ⟨by rw [hlen];rfl,?_⟩
    have h8:=Cells_mid h6 hle
    obtain ⟨hw,hf⟩:=Cells_flat.1 h8
    obtain ⟨g0,vs,g1,g2,g3⟩:=flat_run (P:=P) hf
    rw [flat_len _ hw,hlen] at g2 g3
    rw [hlen]
    refine ⟨hw,g0,vs,g1,g2,fun w' hw'=>?_⟩
    by_cases h0:c = 0
    ·have hm:m = 0:=by omega
     subst hm
     have:vs = []:=yAx (by simpa using g2)
     subst this
     simp [Builtin.firstCells,loadCells,loadCellsFrom]
    ·obtain ⟨e1,_⟩:=h2 h0
     subst e1;simpa [Builtin.firstCells] using g3 w' hw'
   ·simp at h
  ·simp at h
 ·simp at h
def isIntT (P:Program) (t:TypeId):Option Bool:=(P.underlying t).map fun d=>d matches .int _
def aAppend (P:Program) (ts:Array TypeId) (s x:D) (H:Heap) (C:D -> Heap -> Prop):Prop :=
 match ts[0]?,ts[1]? with
 | some t,some t1=>match zBI P t with
  | some e=>match tsz P e,tby P e,zCy P e with
   | some k,some by_,some z=>z.width = k /\ by_ ≠ 0 /\ isIntT P t1 = some false /\ ∃ ys,zBY H k x = some ys /\ (match s with
    | .v (.slice none 0 0)=>ys.length * by_ <= 140737488355328 /\ (ys.length = 0 -> C (.v (.slice none 0 0)) H) /\ (ys.length ≠ 0 -> C (.sl H.length 0 ys.length) (H ++ [some (.cells k ys)]))
    | .sl r i m=>∃ xs,H.get r = some (.cells k xs) /\ i + m = xs.length /\ (m + ys.length) * by_ <= 140737488355328 /\ C (.sl H.length 0 (m + ys.length)) (H.set r none ++ [some (.cells k (xs.drop i ++ ys))])
    | _=>False)
   | _,_,_=>False
  | none=>False
 | _,_=>False
def set_push {H:Heap} {r:Nat} (hr:r < H.length) (x y:Option Row):(H ++ [x]).set r y = H.set r y ++ [x]:=by
 rw [List.set_append_left _ _ hr]
def app_room {ts:Array TypeId} {ty t t1 e:TypeId} {dd:TypeDesc} {k n sLen sCap:Nat} {u:Value} {vs:List Value} {base:Option Addr} (ht:ts[0]? = some t) (ht1:ts[1]? = some t1) (hund:P.underlying t = some (.slice e)) (hdd:P.underlying t1 = some dd)
  (hnot:∀ kk,dd ≠ .int kk) (hk:tsz P e = some k) (hlen:(Builtin.lenOf u).run P w = .ok n w) (hfc:(Builtin.firstCells k n u).run P w = .ok vs.toArray w) (hroom:sLen + n <= sCap) :
  (Builtin.append_ ts ty #[.slice base sLen sCap,u]).run P w = match base with
   | some a=>((storeCells (a.add (sLen * k)) vs).run P w).andThen fun _ w'=>.ok (.slice (some a) (sLen + n) sCap) w'
   | none=>.ok (.slice none (sLen + n) sCap) w:=by
 cases dd with
 | int kk=>exact absurd rfl (hnot kk)
 | _ =>
  simp only [Builtin.append_,ht,ht1,yBA,List.getElem?_cons_zero,yBH,Sem.run_bind,zAC hund,zAC hdd,Result.andThen_ok,zAn hk,Sem.run_pure,hlen,yBS,if_false,hroom,if_true,Bool.not_false,hfc]
  cases base <;> simp
def app_grow {ts:Array TypeId} {ty t t1 e:TypeId} {dd:TypeDesc} {i:TypeInfo} {z:Value} {k n sLen sCap:Nat} {u:Value} {vs old:List Value} {base:Option Addr} (ht:ts[0]? = some t) (ht1:ts[1]? = some t1) (hund:P.underlying t = some (.slice e)) (hdd:P.underlying t1 = some dd)
  (hnot:∀ kk,dd ≠ .int kk) (hk:tsz P e = some k) (hi:P.info? e = some i) (hz:i.zero = some z) (hlen:(Builtin.lenOf u).run P w = .ok n w) (hgrow:¬ sLen + n <= sCap) (hb:(sLen + n) * i.bytes <= 140737488355328)
  (hold:∀ w':World,w'.heap = w.heap -> (Builtin.firstCells k sLen (.slice base sLen sCap)).run P w' = .ok old.toArray w') (hfc:∀ w':World,w'.heap = w.heap -> (Builtin.firstCells k n u).run P w' = .ok vs.toArray w') (hby:i.bytes = 0 -> (sLen + n:Nat) <= 9223372036854775807) :
  ∃ (newCap d:Nat) (rest:List Value),w.drawn <= d /\ sLen + n <= newCap /\ rest.length = (newCap - (sLen + n)) * z.cells.size /\ (Builtin.append_ ts ty #[.slice base sLen sCap,u]).run P w = .ok (.slice (some ⟨w.heap.size,0,none⟩) (sLen + n) newCap) { w with drawn:=d,heap:=w.heap.push (.cells (old ++ vs ++ rest).toArray e) }:=by
 have hcap:¬ Builtin.nextslicecap (sLen + n) sCap * i.bytes > 2 ^ 48:=by
  have h1:=Room.nextslicecap_le' (need:=sLen + n) (old:=sCap) (by omega)
  have h2:=yBY i.bytes h1
  rw [Nat.mul_assoc] at h2;omega
 have hpan:¬ (((sLen + n:Nat):Int) > IntKind.i64.max /\ (false = true \/ i.bytes = 0)):=by
  rintro ⟨h1,h2⟩
  rcases h2 with h2 | h2
  ·simp at h2
  ·have:=hby h2;simp [IntKind.max,IntKind.signed,IntKind.bits] at h1;omega
 refine ⟨(Question.appendCap (sLen + n) sCap e).cut (w.tape w.drawn (.appendCap (sLen + n) sCap e)),w.drawn + 1,(Builtin.zeroCells z.cells ((Question.appendCap (sLen + n) sCap e).cut (w.tape w.drawn (.appendCap (sLen + n) sCap e)) - (sLen + n))).toList,yBG _,by simp [Question.cut],by simp [Builtin.zeroCells],?_⟩
 have hty:∀ w':World,(typeInfo e).run P w' = .ok i w':=fun w'=>zCB hi
 have hzv:∀ w':World,(zeroValue e).run P w' = .ok z w':=fun w'=>by simp [zeroValue,hty,hz]
 have ho:=hold { w with drawn:=w.drawn + 1 } rfl
 have hf:=hfc { w with drawn:=w.drawn + 1 } rfl
 cases dd with
 | int kk=>exact absurd rfl (hnot kk)
 | _ =>
  simp only [Builtin.append_,ht,ht1,yBA,List.getElem?_cons_zero,yBH,Sem.run_bind,zAC hund,zAC hdd,Result.andThen_ok,zAn hk,Sem.run_pure,hlen,yBS,if_false,hgrow,Bool.not_false,hty]
  rw [if_neg (by simpa using hpan)]
  simp only [Sem.run_bind,hty,Result.andThen_ok,if_neg hcap,run_choose,Question.forced,yBS,if_false,run_askRoom,ho,hf,hzv,if_true,newRow,run_newObj,Sem.run_pure]
  simp
  congr 2
  apply Array.ext'
  simp
def zeroOfV_width (v:Value):(zeroOfV v).width = v.cells.size:=by cases v <;> simp [zeroOfV,D.width,Value.cells]
def append_sound {ts:Array TypeId} {ty:TypeId} {s x:D} {v u:Value} (hs:Sim own H X w) (hv:Rel own H X w s v) (hu:Rel own H X w x u) (h:aAppend P ts s x H C) :
  OpOut P X own H w C ((do pure (Next.value (<- Builtin.append_ ts ty #[v,u])):Sem Next).run P w):=by
 unfold aAppend at h
 split at h
 rotate_left
 ·exact h.elim
 rename_i t t1 ht ht1
 split at h
 rotate_left
 ·exact h.elim
 rename_i e hte
 split at h
 rotate_left
 ·exact h.elim
 rename_i k by_ z hk hb hz
 obtain ⟨hzk,hby0,hnz,ys,hys,h⟩:=h
 unfold zBI at hte
 split at hte
 rotate_left
 ·simp at hte
 rename_i e' hund
 simp at hte;subst hte
 obtain ⟨i0,z',hi,hib,hiz,hzw⟩:∃ i z',P.info? e' = some i /\ i.bytes = by_ /\ i.zero = some z' /\ z'.cells.size = k:=by
  unfold tby at hb
  unfold zCy at hz
  cases hi:P.info? e' with
  | none=>simp [hi] at hb
  | some i =>
   cases hz':i.zero with
   | none=>simp [hi,hz'] at hz
   | some z'=>exact ⟨i,z',rfl,by simpa [hi] using hb,hz',by simp [hi,hz'] at hz;rw [<- hzk,<- hz,zeroOfV_width]⟩
 subst hib
 obtain ⟨dd,hdd,hnot⟩:∃ dd,P.underlying t1 = some dd /\ ∀ kk,dd ≠ .int kk:=by
  unfold isIntT at hnz
  cases hd:P.underlying t1 with
  | none=>simp [hd] at hnz
  | some d=>exact ⟨d,rfl,fun kk hkk=>by subst hkk;simp [hd] at hnz⟩
 obtain ⟨hlen,hwy,hoy,vs,hvs,hvl,hfc'⟩:=elems_sound (P:=P) hs hu hys
 have hfc:=hfc' w rfl
 split at h
 ·obtain ⟨h1,h2,h3⟩:=h
  rw [zCE] at hv;subst hv
  by_cases h0:ys.length = 0
  ·have:=app_room (ty:=ty) (sLen:=0) (sCap:=0) (base:=none) ht ht1 hund hdd hnot hk hlen hfc (by omega)
   simp only [Sem.run_bind,this,Result.andThen_ok,Sem.run_pure]
   rw [h0];exact out_same hs (by simp [Rel,VRel]) (h2 h0)
  ·obtain ⟨newCap,d,rest,g0,g1,g2,g3⟩:=app_grow (ty:=ty) (sLen:=0) (sCap:=0) (base:=none) (old:=[]) ht ht1 hund hdd hnot hk hi hiz hlen (by omega) (by simpa using h1) (fun _ _=>rfl) hfc' (fun h=>absurd h hby0)
   simp only [Sem.run_bind,g3,Result.andThen_ok,Sem.run_pure]
   have hs1:Sim own H X { w with drawn:=d }:=sim_drawn (w:=w) rfl hs
   have hx1:=zDa (X:=X) own H w { w with drawn:=d } rfl ⟨rfl,rfl,rfl,fun _=>g0⟩
   have hrow:=row_sound hs1 e' k ys vs rest hwy hoy (ExtN.rels hx1 hvs)
   simp only [yAT,yBI] at g1 g2 ⊢
   refine ⟨_,.sl H.length 0 ys.length,_,hrow.1,?_,Ext.trans hx1 hrow.2,h3 h0⟩
   rw [Rel,VRel]
   refine ⟨by simp,0,newCap,by simp [zBO],g1,fun _=>?_⟩
   simp only [zBO,if_true,Nat.zero_mul,yAT,true_and]
   rw [hvl,g2,hzw,<- yAv]
   exact yBY _ (by omega)
 ·rename_i r i m
  obtain ⟨xs,hg,him,hbd,hc⟩:=h
  rw [Rel,VRel] at hv;obtain ⟨hr,off,c,rfl,hmc,hoff⟩:=hv
  obtain ⟨⟨hkk,cc,ty',h3,h4,h5,h6⟩,h7⟩:=hs.live r _ hg
  obtain ⟨hwx,hfx⟩:=Cells_flat.1 h6
  have hwd:∀ d ∈ xs.drop i,d.width = k:=fun d hd=>hwx d (List.mem_of_mem_drop hd)
  by_cases hroom:m + ys.length <= c
  ·have:=app_room (ty:=ty) (sLen:=m) (sCap:=c) (base:=some ⟨(own r).b,off,none⟩) ht ht1 hund hdd hnot hk hlen hfc hroom
   by_cases hc0:c = 0
   ·have hm0:m = 0:=by omega
    have hy0:ys.length = 0:=by omega
    have hv0:vs = []:=yAx (by rw [hvl,hy0,Nat.zero_mul])
    have hy:ys = []:=yAx hy0
    subst hv0;subst hy;subst hm0;subst hc0
    simp only [storeCells,Sem.run_pure,Result.andThen_ok] at this
    simp only [Sem.run_bind,this,Result.andThen_ok,Sem.run_pure]
    have hself:w.heap = w.heap.setIfInBounds (own r).b (.cells cc ty' (0,0)):=by
     apply Array.ext_getElem?;intro j
     rw [Array.getElem?_setIfInBounds]
     by_cases hj:(own r).b = j
     ·subst hj;have:=(Array.getElem?_eq_some_iff.1 h3).1;simp only [if_true,this];exact h3
     ·simp [hj]
    have hle:i <= xs.length:=by omega
    have hki:i * k + (xs.length - i) * k = xs.length * k:=by rw [<- yAv];congr 1;omega
    have hstep:=step_move hs hg (.cells cc ty' (0,0)) ⟨(own r).b,(own r).base + i * k,k,(own r).tot⟩ rfl (row':=.cells k (xs.drop i ++ [])) (w':=w)
     hself (fun own' H' hext hnew=>by
      refine ⟨rfl,cc,ty',hnew,h4,by simp;omega,?_⟩
      have h8:=Cells_mid h6 (show i + (xs.length - i) <= xs.length by omega)
      rw [yAW (by simp)] at h8
      simpa using Cells.mono hext.keeps k _ _ _ (fun _=>rfl) h8)
    refine ⟨_,.sl H.length 0 (0 + 0),_,hstep.1,?_,hstep.2,by simpa using hc⟩
    rw [Rel,VRel]
    exact ⟨by simp,off,0,by simp [zBO],by simp,fun h=>absurd rfl h⟩
   ·obtain ⟨ho1,ho2⟩:=hoff hc0
    rw [<- hkk] at ho1 ho2
    subst ho1
    have hik:i * k + m * k = xs.length * k:=by rw [<- yAv,him]
    have hck:i * k + c * k = (i + c) * k:=by rw [yAv]
    have hmn:m * k + ys.length * k <= c * k:=by rw [<- yAv];exact yBY _ hroom
    have hst:=run_storeCells_at P (own r).b ((own r).base + i * k + m * k) ty' vs 0 cc w h3 (by rw [hvl];omega) (VRels_one hvs hoy)
    simp only [Nat.add_zero] at hst
    simp only [zCf,hst,Result.andThen_ok] at this
    simp only [Sem.run_bind,this,Result.andThen_ok,Sem.run_pure]
    generalize hp0:(own r).base + i * k + m * k = p at *
    generalize hc':(cc.toList.take p ++ vs ++ cc.toList.drop (p + vs.length)).toArray = c' at *
    have hcl:c'.size = cc.size:=by subst hc';simp [hvl];omega
    have hcell:∀ j,c'[j]? = if p <= j /\ j < p + vs.length then vs[j - p]? else cc[j]?:=by
     intro j;subst hc'
     have htl:(cc.toList.take p).length = p:=by simp;omega
     simp only [yBA,yAQ]
     by_cases h8:j < p
     ·rw [yAe (by omega),List.getElem?_take,if_pos h8,if_neg (by omega)];simp
     ·rw [yAa (by omega),htl]
      by_cases h9:j < p + vs.length
      ·rw [yAe (by omega),if_pos ⟨by omega,h9⟩]
      ·rw [yAa (by omega),if_neg (by omega),List.getElem?_drop]
       simp only [Array.getElem?_toList];congr 1;omega
    have hxd:(xs.drop i).length = m:=by simp;omega
    have hstep:=step_move hs hg (.cells c' ty' (0,0)) ⟨(own r).b,(own r).base + i * k,k,(own r).tot⟩ rfl (row':=.cells k (xs.drop i ++ ys)) (setRow_eq (cs:=c') h3) (fun own' H' hext hnew=>by
        refine ⟨rfl,c',ty',hnew,by rw [hcl,h4],?_,?_⟩
        ·simp only [yAD,hxd]
         rw [yAv];omega
        ·have h8:=Cells_mid h6 (show i + (xs.length - i) <= xs.length by omega)
         rw [yAW (by simp)] at h8
         obtain ⟨h9,h10⟩:=Cells_flat.1 h8
         have hfl:=flat_len _ h9
         rw [zBf]
         refine ⟨Cells_flat.2 ⟨h9,Flat_keep hext.keeps h10 fun j hj1 hj2=>?_⟩,Cells_flat.2 ⟨hwy,Flat_values.2 ⟨hoy,vs,VRels.mono hext.keeps _ _ hvs,fun j hj=>?_⟩⟩⟩
         ·rw [hfl,hxd] at hj2
          have hj3:j < (own r).base + i * k + m * k:=hj2
          rw [zCk hnew,zCk h3,hcell,if_neg];omega
         ·rw [hxd,hp0,zCk hnew,hcell,if_pos (by omega)];congr 1;omega)
    refine ⟨_,.sl H.length 0 (m + ys.length),_,hstep.1,?_,hstep.2,hc⟩
    rw [Rel,VRel]
    refine ⟨by simp,(own r).base + i * k,c,by simp [zBO],hroom,fun _=>?_⟩
    simp only [zBO,if_true,Nat.zero_mul,Nat.add_zero,yAT,true_and]
    omega
  ·have hek:zBY H k (.sl r i m) = some (xs.drop i):=by
    have hxd:(xs.drop i).length = m:=by simp;omega
    simp only [zBY,hg]
    rw [if_pos ⟨trivial,by omega⟩,yAW (by omega)]
   have hv':Rel own H X w (.sl r i m) (.slice (some ⟨(own r).b,off,none⟩) m c):=by rw [Rel,VRel];exact ⟨hr,off,c,rfl,hmc,hoff⟩
   have hxd:(xs.drop i).length = m:=by simp;omega
   obtain ⟨_,hwo,hoo,os,hos,hol,hfo⟩:=elems_sound (P:=P) hs hv' hek
   rw [hxd] at hol hfo
   obtain ⟨newCap,d,rest,g0,g1,g2,g3⟩:=app_grow (ty:=ty) (sLen:=m) (sCap:=c) (base:=some ⟨(own r).b,off,none⟩) (old:=os) ht ht1 hund hdd hnot hk hi hiz hlen hroom hbd hfo hfc' (fun h=>absurd h hby0)
   simp only [Sem.run_bind,g3,Result.andThen_ok,Sem.run_pure]
   have hs1:Sim own H X { w with drawn:=d }:=sim_drawn (w:=w) rfl hs
   have hx1:=zDa (X:=X) own H w { w with drawn:=d } rfl ⟨rfl,rfl,rfl,fun _=>g0⟩
   have hrow:=row_sound hs1 e' k (xs.drop i ++ ys) (os ++ vs) rest (by intro d hd;rcases yAO.1 hd with hd | hd;exact hwo d hd;exact hwy d hd) (by rw [List.flatMap_append,List.all_append,hoo,hoy];rfl) (by rw [List.flatMap_append];exact zBF (ExtN.rels hx1 hos) (ExtN.rels hx1 hvs))
   have hdrop:=step_drop (H':=(H ++ [some (Row.cells k (xs.drop i ++ ys))]).set r none) hrow.1 (by simp) (fun r' row' h=>by
    rw [Heap.get_set _ (by simp;omega)] at h
    by_cases hrr:r' = r
    ·simp [hrr] at h
    ·simpa [hrr] using h)
   rw [set_push hr] at hdrop
   refine ⟨_,.sl H.length 0 (m + ys.length),_,hdrop.1,?_,Ext.trans hx1 (Ext.trans hrow.2 hdrop.2),hc⟩
   rw [Rel,VRel]
   refine ⟨by simp,0,newCap,by simp [zBO],g1,fun _=>?_⟩
   simp only [zBO,if_true,Nat.zero_mul,yAT,true_and,yAD]
   rw [hvl,hol,g2,hzw,<- yAv,<- yAv]
   exact yBY _ (by omega)
 ·exact h.elim
end
end Go.Ab
namespace Go.Ab
variable [Go.Ab.DM]
def D.wk:D -> D
 | .slc r i m _=>.sl r i m
 | d=>d
section
variable {P:Program} {X:Nat -> Prop} {own:Nat -> Own} {H:Heap} {w:World} {C:D -> Heap -> Prop}
def Rel_wk {x:D} {v:Value} (h:Rel own H X w x v):Rel own H X w x.wk v:=by
 cases x <;> try exact h
 rename_i r i m c
 simp only [D.wk,Rel,VRel] at h ⊢
 obtain ⟨h1,off,h2,h3,h4⟩:=h
 exact ⟨h1,off,c,h2,h3,h4⟩
def splice (xs:List D) (p:Nat) (ys:List D):List D:=xs.take p ++ ys ++ xs.drop (p + ys.length)
def splice_len {xs ys:List D} {p:Nat} (h:p + ys.length <= xs.length):(splice xs p ys).length = xs.length:=by
 simp [splice];omega
def splice_nil (xs:List D) (p:Nat):splice xs p [] = xs:=by simp [splice]
def splice_sound (hs:Sim own H X w) {r k p:Nat} {xs ys:List D} {vs:List Value} (hg:H.get r = some (.cells k xs)) (hp:p + ys.length <= xs.length) (hwy:∀ d ∈ ys,d.width = k) (hoy:(ys.flatMap D.cells).all D.one = true) (hvs:zCL own H X w (ys.flatMap D.cells) vs) :
  ∃ w',(storeCells ⟨(own r).b,(own r).base + p * (own r).k,none⟩ vs).run P w = .ok () w' /\ Sim own (H.set r (some (.cells k (splice xs p ys)))) X w' /\ Ext X own H w own (H.set r (some (.cells k (splice xs p ys)))) w':=by
 obtain ⟨⟨hkk,cc,ty',h3,h4,h5,h6⟩,h7⟩:=hs.live r _ hg
 obtain ⟨hwx,hfx⟩:=Cells_flat.1 h6
 have hvl:vs.length = ys.length * k:=by rw [zAi hvs,flat_len _ hwy]
 rw [<- hkk]
 have hpk:p * k + ys.length * k <= xs.length * k:=by rw [<- yAv];exact yBY _ hp
 have hst:=run_storeCells_at P (own r).b ((own r).base + p * k) ty' vs 0 cc w h3 (by rw [hvl];omega) (VRels_one hvs hoy)
 simp only [Nat.add_zero] at hst
 generalize hp0:(own r).base + p * k = q at *
 generalize hc':(cc.toList.take q ++ vs ++ cc.toList.drop (q + vs.length)).toArray = c' at *
 have hcl:c'.size = cc.size:=by subst hc';simp [hvl];omega
 have hcell:∀ j,c'[j]? = if q <= j /\ j < q + vs.length then vs[j - q]? else cc[j]?:=by
  intro j;subst hc'
  have htl:(cc.toList.take q).length = q:=by simp;omega
  simp only [yBA,yAQ]
  by_cases h8:j < q
  ·rw [yAe (by omega),List.getElem?_take,if_pos h8,if_neg (by omega)];simp
  ·rw [yAa (by omega),htl]
   by_cases h9:j < q + vs.length
   ·rw [yAe (by omega),if_pos ⟨by omega,h9⟩]
   ·rw [yAa (by omega),if_neg (by omega),List.getElem?_drop]
    simp only [Array.getElem?_toList];congr 1;omega
 have hstep:=step_set hs hg (row':=.cells k (splice xs p ys)) (.cells c' ty' (0,0)) (setRow_eq (cs:=c') h3) (fun hext hnew=>by
  have hkeep:=hext.keeps
  rw [yBK] at hkeep
  refine ⟨hkk,c',ty',hnew,by rw [hcl,h4],by rw [splice_len hp];exact h5,?_⟩
  have e1:xs = xs.take p ++ (xs.drop p).take ys.length ++ xs.drop (p + ys.length):=by
   rw [yAQ,<- List.drop_drop,yAk,yAk]
  have h8:=h6
  rw [e1] at h8
  simp only [zBf,yAD] at h8
  obtain ⟨⟨g1,g2⟩,g3⟩:=h8
  have l1:(xs.take p).length = p:=by simp;omega
  have l2:((xs.drop p).take ys.length).length = ys.length:=by simp;omega
  have l3:(xs.drop (p + ys.length)).length = xs.length - (p + ys.length):=by simp
  rw [l1,l2] at g3
  unfold splice
  simp only [zBf,yAD,l1]
  obtain ⟨a1,a2⟩:=Cells_flat.1 g1
  obtain ⟨b1,b2⟩:=Cells_flat.1 g3
  have al:=flat_len _ a1
  rw [l1] at al
  have cellw:∀ j,w.cell? ⟨(own r).b,j,none⟩ = cc[j]?:=fun j=>zCk h3
  have cellw':∀ j,(w.setRow (own r).b c').cell? ⟨(own r).b,j,none⟩ = c'[j]?:=fun j=>zCk hnew
  refine ⟨⟨Cells_flat.2 ⟨a1,Flat_keep hkeep a2 fun j hj1 hj2=>?_⟩,Cells_flat.2 ⟨hwy,Flat_values.2 ⟨hoy,vs,VRels.mono hkeep _ _ hvs,fun j hj=>?_⟩⟩⟩,Cells_flat.2 ⟨b1,Flat_keep hkeep b2 fun j hj1 hj2=>?_⟩⟩
  ·rw [al] at hj2;rw [cellw',cellw,hcell,if_neg];omega
  ·rw [hp0,cellw',hcell,if_pos (by omega)];congr 1;omega
  ·rw [yAv] at hj1;rw [cellw',cellw,hcell,if_neg];omega)
 exact ⟨_,hst,hstep⟩
def set_get_self {r:Nat} {row:Row} (hg:H.get r = some row):H.set r (some row) = H:=by
 apply List.ext_getElem?
 intro j
 rw [List.getElem?_set]
 have hl:=Heap.get_lt hg
 by_cases hj:r = j
 ·subst hj
  unfold Heap.get at hg
  rw [yAK hl] at hg ⊢
  simp at hg;simp [hl,hg]
 ·simp [hj]
def elems_take {k n:Nat} {x:D} {v:Value} {ys:List D} (hs:Sim own H X w) (hx:Rel own H X w x v) (h:zBY H k x = some ys) (hn:n <= ys.length) :
  (∀ d ∈ ys.take n,d.width = k) /\ ((ys.take n).flatMap D.cells).all D.one = true /\ ∃ vs,zCL own H X w ((ys.take n).flatMap D.cells) vs /\ vs.length = n * k /\ ∀ w':World,w'.heap = w.heap -> (Builtin.firstCells k n v).run P w' = .ok vs.toArray w':=by
 unfold zBY at h
 split at h
 ·simp at h;subst h
  simp at hn;subst hn
  rw [zCE] at hx;subst hx
  exact ⟨by simp,by simp,[],by simp [zCL,VRels],by simp,fun _ _=>rfl⟩
 ·rename_i k' xs
  split at h
  ·rename_i hk;subst hk;simp at h;subst h
   rw [Rel,VRel] at hx;obtain ⟨a,c,rfl,h1,h2⟩:=hx
   have hl:(xs.take n).length = n:=by simp;omega
   have hx':Rel own H X w (.fz k' (xs.take n)) (.slice a n c):=by
    rw [Rel,VRel]
    refine ⟨a,c,by rw [hl],by omega,fun h0=>?_⟩
    obtain ⟨b,off,h3,h4,h5⟩:=h2 (by omega)
    refine ⟨b,off,h3,h4,?_⟩
    rw [<- yAk n xs,zBf] at h5;exact h5.1
   have:=elems_sound (P:=P) (k:=k') (ys:=xs.take n) hs hx' (by simp [zBY])
   rw [hl] at this
   obtain ⟨q1,q2,vs,q3,q4,q5⟩:=this.2
   exact ⟨q1,q2,vs,q3,q4,fun w' hw'=>by have:=q5 w' hw';cases a <;> exact this⟩
  ·simp at h
 ·rename_i r i m
  split at h
  ·rename_i k' xs hg
   split at h
   ·rename_i hk;obtain ⟨rfl,hle⟩:=hk;simp at h;subst h
    rw [Rel,VRel] at hx;obtain ⟨hr,off,c,rfl,h1,h2⟩:=hx
    have hlen:((xs.drop i).take m).length = m:=by simp;omega
    rw [hlen] at hn
    have hx':Rel own H X w (.sl r i n) (.slice (some ⟨(own r).b,off,none⟩) n c):=by
     rw [Rel,VRel];exact ⟨hr,off,c,rfl,by omega,h2⟩
    have e1:((xs.drop i).take m).take n = (xs.drop i).take n:=by rw [List.take_take,Nat.min_eq_left hn]
    have:=elems_sound (P:=P) (k:=k') (ys:=(xs.drop i).take n) hs hx' (by simp only [zBY,hg];rw [if_pos ⟨trivial,by omega⟩])
    have hl2:((xs.drop i).take n).length = n:=by simp;omega
    rw [hl2] at this
    rw [e1];exact this.2
   ·simp at h
  ·simp at h
 ·simp at h
def aCopy (P:Program) (ts:Array TypeId) (dst src:D) (H:Heap) (C:D -> Heap -> Prop):Prop :=
 match ts[0]? with
 | some t=>match zBI P t with
  | some e=>match tsz P e with
   | some k=>∃ ys,zBY H k src.wk = some ys /\ (match dst.wk with
    | .v (.slice none 0 0)=>C (.v (.int .i64 0)) H
    | .sl r i m=>∃ xs,H.get r = some (.cells k xs) /\ i + m <= xs.length /\ C (.v (.int .i64 (min ys.length m:Nat))) (H.set r (some (.cells k (splice xs i (ys.take (min ys.length m))))))
    | _=>False)
   | none=>False
  | none=>False
 | none=>False
def copy_sound {ts:Array TypeId} {ty:TypeId} {dst src:D} {v u:Value} (hs:Sim own H X w) (hv:Rel own H X w dst v) (hu:Rel own H X w src u) (h:aCopy P ts dst src H C) :
  OpOut P X own H w C ((do pure (Next.value (<- Builtin.copy_ ts ty #[v,u])):Sem Next).run P w):=by
 unfold aCopy at h
 split at h
 rotate_left
 ·exact h.elim
 rename_i t ht
 split at h
 rotate_left
 ·exact h.elim
 rename_i e hte
 split at h
 rotate_left
 ·exact h.elim
 rename_i k hk
 obtain ⟨ys,hys,h⟩:=h
 have hund:P.underlying t = some (.slice e):=by
  unfold zBI at hte
  split at hte
  ·simp at hte;subst hte;assumption
  ·simp at hte
 have hu':=Rel_wk hu
 have hv':=Rel_wk hv
 obtain ⟨hlen,_⟩:=elems_sound (P:=P) hs hu' hys
 generalize dst.wk = d at h hv'
 split at h
 ·rw [zCE] at hv';subst hv'
  obtain ⟨_,_,vs,_,_,h3⟩:=elems_take (P:=P) (n:=0) hs hu' hys (Nat.zero_le _)
  have:(Builtin.copy_ ts ty #[.slice none 0 0,u]).run P w = .ok (.int .i64 0) w:=by
   have h4:=h3 w rfl
   simp [Builtin.copy_,ht,zAC hund,hlen,zAn hk,h4,goInt]
  simp only [Sem.run_bind,this,Result.andThen_ok,Sem.run_pure]
  exact out_same hs (by simp [Rel,VRel]) h
 ·rename_i r i m
  obtain ⟨xs,hg,him,hc⟩:=h
  rw [Rel,VRel] at hv';obtain ⟨hr,off,c,rfl,hmc,hoff⟩:=hv'
  generalize hn:min ys.length m = n at hc
  have hny:n <= ys.length:=by omega
  obtain ⟨hw,ho,vs,hvs,hvl,h3⟩:=elems_take (P:=P) (n:=n) hs hu' hys hny
  have hl:(ys.take n).length = n:=by simp;omega
  have h4:=h3 w rfl
  have hn':Nat.min ys.length m = n:=hn
  have fin:∀ w',(storeCells ⟨(own r).b,off,none⟩ vs).run P w = .ok () w' -> (Builtin.copy_ ts ty #[.slice (some ⟨(own r).b,off,none⟩) m c,u]).run P w = .ok (.int .i64 (n:Nat)) w':=fun w' hst=>by
   simp [Builtin.copy_,ht,zAC hund,hlen,zAn hk,hn',h4,goInt,hst]
  by_cases h0:n = 0
  ·subst h0
   have hv0:vs = []:=yAx (by simpa using hvl)
   subst hv0
   have:=fin w (by simp [storeCells])
   simp only [Sem.run_bind,this,Result.andThen_ok,Sem.run_pure]
   rw [show ys.take 0 = [] from rfl,splice_nil,set_get_self hg] at hc
   exact out_same hs (by simp [Rel,VRel]) hc
  ·obtain ⟨e1,_⟩:=hoff (by omega)
   subst e1
   obtain ⟨w',g1,g2,g3⟩:=splice_sound (P:=P) hs hg (p:=i) (ys:=ys.take n) (by rw [hl];omega) hw ho hvs
   simp only [Sem.run_bind,fin w' g1,Result.andThen_ok,Sem.run_pure]
   exact ⟨own,.v (.int .i64 n),_,g2,by simp [Rel,VRel],g3,hc⟩
 ·exact h.elim
def aAppendC (P:Program) (ts:Array TypeId) (r i m c:Nat) (x:D) (H:Heap) (C:D -> Heap -> Prop):Prop :=
 match ts[0]?,ts[1]? with
 | some t,some t1=>match zBI P t with
  | some e=>match tsz P e with
   | some k=>isIntT P t1 = some false /\ ∃ ys xs,zBY H k x.wk = some ys /\ H.get r = some (.cells k xs) /\ m + ys.length <= c /\ i + c <= xs.length /\ C (.slc r i (m + ys.length) c) (H.set r (some (.cells k (splice xs (i + m) ys))))
   | none=>False
  | none=>False
 | _,_=>False
def appendC_sound {ts:Array TypeId} {ty:TypeId} {r i m c:Nat} {x:D} {v u:Value} (hs:Sim own H X w) (hv:Rel own H X w (.slc r i m c) v) (hu:Rel own H X w x u) (h:aAppendC P ts r i m c x H C) :
  OpOut P X own H w C ((do pure (Next.value (<- Builtin.append_ ts ty #[v,u])):Sem Next).run P w):=by
 unfold aAppendC at h
 split at h
 rotate_left
 ·exact h.elim
 rename_i t t1 ht ht1
 split at h
 rotate_left
 ·exact h.elim
 rename_i e hte
 split at h
 rotate_left
 ·exact h.elim
 rename_i k hk
 obtain ⟨hnz,ys,xs,hys,hg,hroom,hic,hc⟩:=h
 have hund:P.underlying t = some (.slice e):=by
  unfold zBI at hte
  split at hte
  ·simp at hte;subst hte;assumption
  ·simp at hte
 obtain ⟨dd,hdd,hnot⟩:∃ dd,P.underlying t1 = some dd /\ ∀ kk,dd ≠ .int kk:=by
  unfold isIntT at hnz
  cases hd:P.underlying t1 with
  | none=>simp [hd] at hnz
  | some d=>exact ⟨d,rfl,fun kk hkk=>by subst hkk;simp [hd] at hnz⟩
 obtain ⟨hlen,hwy,hoy,vs,hvs,hvl,hfc'⟩:=elems_sound (P:=P) hs (Rel_wk hu) hys
 have hfc:=hfc' w rfl
 rw [Rel,VRel] at hv;obtain ⟨hr,off,rfl,hmc,hoff⟩:=hv
 have hkk:=(hs.live r _ hg).1.1
 have:=app_room (ty:=ty) (sLen:=m) (sCap:=c) (base:=some ⟨(own r).b,off,none⟩) ht ht1 hund hdd hnot hk hlen hfc hroom
 by_cases hy0:ys.length = 0
 ·have hv0:vs = []:=yAx (by rw [hvl,hy0,Nat.zero_mul])
  have hy:ys = []:=yAx hy0
  subst hv0;subst hy
  simp only [storeCells,Sem.run_pure,Result.andThen_ok] at this
  simp only [Sem.run_bind,this,Result.andThen_ok,Sem.run_pure]
  rw [splice_nil,set_get_self hg] at hc
  exact out_same hs (by rw [Rel,VRel];exact ⟨hr,off,rfl,hroom,hoff⟩) hc
 ·obtain ⟨e1,e2⟩:=hoff (by omega)
  have e3:off + m * k = (own r).base + (i + m) * (own r).k:=by rw [e1,<- hkk,yAv];omega
  obtain ⟨w',g1,g2,g3⟩:=splice_sound (P:=P) hs hg (p:=i + m) (ys:=ys) (by omega) hwy hoy hvs
  simp only [zCf,e3,g1,Result.andThen_ok] at this
  simp only [Sem.run_bind,this,Result.andThen_ok,Sem.run_pure]
  refine ⟨own,.slc r i (m + ys.length) c,_,g2,?_,g3,hc⟩
  rw [Rel,VRel,yBK];exact ⟨hr,off,rfl,hroom,hoff⟩
def aSliceC (P:Program) (t:TypeId) (H:Heap) (r i m c:Nat) (lo hi:Option D) (C:D -> Prop):Prop :=
 match zBI P t with
 | some e=>match tsz P e with
  | some k=>(∃ xs,H.get r = some (.cells k xs)) /\ ∃ l h,zAc (.v (.int .i64 0)) lo = some l /\ zAc (.v (.int .i64 m)) hi = some h /\ (0 <= l /\ l <= h /\ h <= c) /\ C (.slc r (i + l.toNat) (h.toNat - l.toNat) (c - l.toNat))
  | none=>False
 | none=>False
def sliceBounds_cap {isS:Bool} {len cap:Nat} {lo hi:Option D} {lv hv:Option Value} {l h:Int} (hl:zAc (.v (.int .i64 (0:Nat))) lo = some l) (hh:zAc (.v (.int .i64 len)) hi = some h)
  (rl:∀ d,lo = some d -> ∃ v,lv = some v /\ Rel own H X w d v) (nl:lo = none -> lv = none) (rh:∀ d,hi = some d -> ∃ v,hv = some v /\ Rel own H X w d v) (nh:hi = none -> hv = none)
  (h0:0 <= l) (h1:l <= h) (h2:h <= cap) {w':World}:(Instr.sliceBounds isS len cap lv hv none).run P w' = .ok (l.toNat,h.toNat,cap) w':=by
 rcases boundOf_rel hl rl nl with ⟨_,rfl,rfl⟩ | ⟨k,rfl⟩ <;> rcases boundOf_rel hh rh nh with ⟨_,rfl,rfl⟩ | ⟨k',rfl⟩
 ·simp [Instr.sliceBounds]
 ·simp [Instr.sliceBounds,zCA (P:=P) (w:=w') (k:=k') (c:=if isS then .sliceAcap else .sliceAlen) (show 0 <= h by omega) (show h <= cap by omega)]
 ·simp [Instr.sliceBounds,zCA (P:=P) (w:=w') (k:=k) (c:=.sliceB) h0 (show l <= (len:Nat) by omega)]
 ·simp [Instr.sliceBounds,zCA (P:=P) (w:=w') (k:=k') (c:=if isS then .sliceAcap else .sliceAlen) (show 0 <= h by omega) (show h <= cap by omega),zCA (P:=P) (w:=w') (k:=k) (c:=.sliceB) h0 (show l <= (h.toNat:Nat) by omega)]
def sliceC_sound {t:TypeId} {r i m c:Nat} {v:Value} {lo hi:Option D} {lv hv:Option Value} {D1:D -> Prop} (hs:Sim own H X w) (hx:Rel own H X w (.slc r i m c) v)
  (rl:∀ d,lo = some d -> ∃ v,lv = some v /\ Rel own H X w d v) (nl:lo = none -> lv = none) (rh:∀ d,hi = some d -> ∃ v,hv = some v /\ Rel own H X w d v) (nh:hi = none -> hv = none)
  (h:aSliceC P t H r i m c lo hi D1):PureOut P own H X w D1 (do pure (Next.value (<- Instr.sliceAt t v lv hv none))):=by
 unfold aSliceC at h
 split at h
 rotate_left
 ·exact h.elim
 rename_i e hte
 split at h
 rotate_left
 ·exact h.elim
 rename_i k hk
 obtain ⟨⟨xs,hg⟩,l,hh,hl,hb,⟨h0,h1,h2⟩,hc⟩:=h
 have hu:P.underlying t = some (.slice e):=by
  unfold zBI at hte
  split at hte
  ·simp at hte;subst hte;assumption
  ·simp at hte
 have hkk:=(hs.live r _ hg).1.1
 subst hkk
 rw [Rel,VRel] at hx;obtain ⟨hr,off,rfl,h3,h4⟩:=hx
 have hsb:=fun w':World=>sliceBounds_cap (P:=P) (w:=w) (w':=w') (isS:=true) hl hb rl nl rh nh h0 h1 h2
 have:∀ w':World,(Instr.sliceAt t (.slice (some ⟨(own r).b,off,none⟩) m c) lv hv none).run P w' = .ok (.slice (some (if c = l.toNat then ⟨(own r).b,off,none⟩ else ⟨(own r).b,off + l.toNat * (own r).k,none⟩)) (hh.toNat - l.toNat) (c - l.toNat)) w':=fun w'=>by
  simp only [Instr.sliceAt,Sem.run_bind,zAC hu,Result.andThen_ok,Instr.slice,hsb,zAn hk,Sem.run_pure]
  split <;> simp [zCf]
 refine ⟨_,_,fun w'=>by simp only [Sem.run_bind,this,Result.andThen_ok,Sem.run_pure] <;> rfl,?_,hc⟩
 rw [Rel,VRel]
 by_cases hcl:c = l.toNat
 ·rw [if_pos hcl];exact ⟨hr,off,rfl,by omega,fun h=>by omega⟩
 ·rw [if_neg hcl]
  refine ⟨hr,off + l.toNat * (own r).k,rfl,by omega,fun h5=>?_⟩
  obtain ⟨h6,h7⟩:=h4 (by omega)
  refine ⟨by rw [h6,yAv];omega,?_⟩
  rw [show i + l.toNat + (c - l.toNat) = i + c by omega];exact h7
def aCap (P:Program) (t:TypeId) (x:D) (C:D -> Prop):Prop :=
 match P.underlying t,x with
 | some (.slice _),.slc _ _ _ c=>C (.v (.int .i64 c))
 | _,_=>False
def cap_sound {t ty:TypeId} {ts:Array TypeId} {x:D} {v:Value} (ht:ts[0]? = some t) (hs:Sim own H X w) (hv:Rel own H X w x v) (h:aCap P t x fun d=>C d H) :
  PureOut P own H X w (fun d=>C d H) (do pure (Next.value (<- Builtin.cap_ ts ty #[v]))):=by
 unfold aCap at h
 split at h
 ·rename_i hu;rw [Rel,VRel] at hv;obtain ⟨_,off,rfl,_⟩:=hv;exact zBE _ (fun w'=>by simp [Builtin.cap_,ht,zAC hu,goInt]) h
 ·exact h.elim
def tile {zs:List Value} {k:Nat} (hk:zs.length = k):∀ c:Nat,(List.range (c * k)).map (fun i=>zs.toArray[i % zs.toArray.size]!) = (List.replicate c zs).flatten
 | 0=>by simp
 | c + 1=>by
  rw [yAv,Nat.one_mul,List.range_add,yAV,tile hk c,List.replicate_succ',List.flatten_append]
  congr 1
  simp only [yBO,List.flatten_cons,List.flatten_nil,yAS]
  apply List.ext_getElem
  ·simp [hk]
  ·intro i h1 h2
   have hi:i < k:=by simpa using h1
   simp [hk,Nat.mod_eq_of_lt hi,Nat.add_mod,h2,yAK h2]
def zCs (P:Program) (t:TypeId) (ln cp:D) (H:Heap) (C:D -> Heap -> Prop):Prop :=
 match ln,cp with
 | .v (.int _ l),.v (.int _ c)=>match zBI P t with
  | some e=>match tsz P e,tby P e,zCy P e with
   | some k,some b,some z=>(z.width = k /\ z.lies = true /\ (0 <= l /\ l <= c /\ c * b <= 281474976710656 /\ c <= 281474976710656)) /\ (C (.slc H.length 0 l.toNat c.toNat) (H ++ [some (.cells k (List.replicate c.toNat z))]) \/ C (.sl H.length 0 l.toNat) (H ++ [some (.cells k (List.replicate l.toNat z))]))
   | _,_,_=>False
  | none=>False
 | _,_=>False
def makeSlice_sound {t:TypeId} {ln cp:D} {v u:Value} (hs:Sim own H X w) (hv:Rel own H X w ln v) (hu:Rel own H X w cp u) (h:zCs P t ln cp H C) :
  ∃ (o:Obj) (x:Value),(do pure (Next.value (<- Instr.makeSlice t v u)):Sem Next).run P w = .ok (.value x) { w with heap:=w.heap.push o } /\ OpOut P X own H w C (.ok (.value x) { w with heap:=w.heap.push o }):=by
 unfold zCs at h
 split at h
 rotate_left
 ·exact h.elim
 rename_i k1 l k2 c
 split at h
 rotate_left
 ·exact h.elim
 rename_i e hte
 split at h
 rotate_left
 ·exact h.elim
 rename_i k b z hk hb hz
 obtain ⟨⟨hzk,hzl,h0,h1,h2,h2'⟩,hc⟩:=h
 rw [zCE] at hv hu;subst hv;subst hu
 have hund:P.underlying t = some (.slice e):=by
  unfold zBI at hte
  split at hte
  ·simp at hte;subst hte;assumption
  ·simp at hte
 obtain ⟨i0,z',hi,hib,hiz,hzz⟩:∃ i z',P.info? e = some i /\ i.bytes = b /\ i.zero = some z' /\ z = zeroOfV z':=by
  unfold tby at hb
  unfold zCy at hz
  cases hi:P.info? e with
  | none=>simp [hi] at hb
  | some i =>
   cases hz':i.zero with
   | none=>simp [hi,hz'] at hz
   | some z'=>exact ⟨i,z',rfl,by simpa [hi] using hb,hz',by simp [hi,hz'] at hz;exact hz.symm⟩
 subst hib
 have hzr:Rel own H X w z z':=by rw [hzz];exact Rel_zero z' fun _ _ _ _=>trivial
 obtain ⟨g1,g2⟩:=VRel_lies hzr hzl
 have gl:=zAi g1
 have hzs:z'.cells.toList.length = k:=by rw [gl,<- D.width_eq,hzk]
 have hcells:∀ (n:Nat),zCL own H X w ((List.replicate n z).flatMap D.cells) (List.replicate n z'.cells.toList).flatten:=by
  intro n
  induction n with
  | zero=>simp [zCL,VRels]
  | succ n ih=>simp only [List.replicate_succ,yAj,List.flatten_cons];exact zBF g1 ih
 have hones:∀ n,((List.replicate n z).flatMap D.cells).all D.one = true:=by
  intro n
  rw [yAR];intro d hd
  obtain ⟨d',hd',hdd⟩:=List.mem_flatMap.1 hd
  obtain ⟨_,rfl⟩:=List.mem_replicate.1 hd'
  exact (yAR.1 (lies_cells hzl)) d hdd
 have hwid:∀ n,∀ d ∈ List.replicate n z,d.width = k:=fun n d hd=>by obtain ⟨_,rfl⟩:=List.mem_replicate.1 hd;exact hzk
 have hwl:IntKind.i64.wrap l = l:=by simp [IntKind.wrap,IntKind.signed,IntKind.bits];omega
 have hwc:IntKind.i64.wrap c = c:=by simp [IntKind.wrap,IntKind.signed,IntKind.bits];omega
 have hn0:((Array.range (c.toNat * k)).map fun i=>z'.cells[i % z'.cells.size]!).toList = (List.replicate c.toNat z'.cells.toList).flatten:=by
  have:=tile hzs c.toNat
  simpa using this
 have hrun:(Instr.makeSlice t (.int k1 l) (.int k2 c)).run P w = .ok (.slice (some ⟨w.heap.size,0,none⟩) l.toNat c.toNat) { w with heap:=w.heap.push (.cells (List.replicate c.toNat z'.cells.toList).flatten.toArray e) }:=by
  have hbc:(i0.bytes:Int) * c <= 2 ^ 48:=by rw [Int.mul_comm];simpa using h2
  simp only [Instr.makeSlice,Sem.run_bind,zAC hund,Result.andThen_ok,asInt,asIntOf,Sem.run_pure,zCB hi,hwl,hwc]
  rw [if_neg (by simp;omega)]
  simp only [Sem.run_bind,run_askRoom,Result.andThen_ok,zAn hk]
  by_cases hnk:c.toNat * k = 0
  ·rw [if_pos hnk]
   simp only [Sem.run_pure,Result.andThen_ok,newRow,Sem.run_bind,run_newObj,hnk]
   have:(List.replicate c.toNat z'.cells.toList).flatten = []:=by
    apply yAx
    rw [<- hn0];simp [hnk]
   simp [this,show Array.range 0 = #[] from rfl]
  ·rw [if_neg hnk]
   have hzv:(zeroValue e).run P w = .ok z' w:=by simp [zeroValue,zCB hi,hiz]
   simp only [Sem.run_bind,hzv,Sem.run_pure,Result.andThen_ok,newRow,run_newObj]
   rw [<- hn0]
 refine ⟨_,_,by simp only [Sem.run_bind,hrun,Result.andThen_ok,Sem.run_pure] <;> rfl,?_⟩
 have hlen:∀ n,(List.replicate n z'.cells.toList).flatten.length = n * k:=fun n=>by simp [hzs]
 rcases hc with hc | hc
 ·have hrow:=row_sound hs e k (List.replicate c.toNat z) _ [] (hwid _) (hones _) (hcells _)
  simp only [yAS] at hrow
  refine ⟨_,.slc H.length 0 l.toNat c.toNat,_,hrow.1,?_,hrow.2,hc⟩
  rw [Rel,VRel]
  refine ⟨by simp,0,by simp [zBO],by omega,fun _=>?_⟩
  simp only [zBO,if_true,hlen]
  simp
 ·have hsplit:(List.replicate c.toNat z'.cells.toList).flatten = (List.replicate l.toNat z'.cells.toList).flatten ++ (List.replicate (c.toNat - l.toNat) z'.cells.toList).flatten:=by
   rw [<- List.flatten_append,List.replicate_append_replicate];congr 2;omega
  have hrow:=row_sound hs e k (List.replicate l.toNat z) _ (List.replicate (c.toNat - l.toNat) z'.cells.toList).flatten (hwid _) (hones _) (hcells _)
  rw [<- hsplit] at hrow
  refine ⟨_,.sl H.length 0 l.toNat,_,hrow.1,?_,hrow.2,hc⟩
  rw [Rel,VRel]
  refine ⟨by simp,0,c.toNat,by simp [zBO],by omega,fun _=>?_⟩
  simp only [zBO,if_true,hlen,<- yAv]
  simp
  apply yBY;omega
def aNilEq (P:Program) (op:BinOp) (t:TypeId) (x:D) (C:D -> Prop):Prop :=
 (∃ e,zBI P t = some e) /\ match op with
 | .eql=>(match x with
  | .fz _ xs=>C (.v (.bool false)) /\ (xs = [] -> C (.v (.bool true)))
  | .sl _ _ _=>C (.v (.bool false))
  | .slc _ _ _ _=>C (.v (.bool false))
  | .v (.slice none _ _)=>C (.v (.bool true))
  | _=>False)
 | .neq=>(match x with
  | .fz _ xs=>C (.v (.bool true)) /\ (xs = [] -> C (.v (.bool false)))
  | .sl _ _ _=>C (.v (.bool true))
  | .slc _ _ _ _=>C (.v (.bool true))
  | .v (.slice none _ _)=>C (.v (.bool false))
  | _=>False)
 | _=>False
def run_nil_eq {t e:TypeId} (ht:P.underlying t = some (.slice e)) (a:Option Addr) (m c:Nat):(Op.equal t (.slice a m c) (.slice none 0 0)).run P w = .ok a.isNone w:=by
 have key:∀ d,(Op.equalIn (d + 1) t (.slice a m c) (.slice none 0 0)).run P w = .ok a.isNone w:=fun d=>by cases a <;> simp [Op.equalIn,zAC ht]
 exact key 9999
def nilEq_sound {op:BinOp} {t:TypeId} {ox oy:Operand} {x:D} {v:Value} (hs:Sim own H X w) (hv:Rel own H X w x v) (h:aNilEq P op t x fun d=>C d H) :
  PureOut P own H X w (fun d=>C d H) (do pure (Next.value (<- (do eqGuard op t ox oy v (.slice none 0 0);binOp op t v (.slice none 0 0))))):=by
 obtain ⟨⟨e,hte⟩,h⟩:=h
 have hund:P.underlying t = some (.slice e):=by
  unfold zBI at hte
  split at hte
  ·simp at hte;subst hte;assumption
  ·simp at hte
 have go:∀ a m c,v = .slice a m c -> ∀ b,b = (if op = .neq then !a.isNone else a.isNone) -> (op = .eql \/ op = .neq) -> C (.v (.bool b)) H -> PureOut P own H X w (fun d=>C d H) (do pure (Next.value (<- (do eqGuard op t ox oy v (.slice none 0 0);binOp op t v (.slice none 0 0))))):=by
  rintro a m c rfl b rfl ho hc
  rcases ho with rfl | rfl
  ·exact zBE _ (fun w'=>by simp [eqGuard,binOp,run_nil_eq hund]) hc
  ·exact zBE _ (fun w'=>by simp [eqGuard,binOp,run_nil_eq hund]) hc
 split at h
 ·split at h
  ·rename_i k xs
   rw [Rel,VRel] at hv;obtain ⟨a,c,rfl,h1,h2⟩:=hv
   by_cases hx:xs = []
   ·cases a with
    | none=>exact go _ _ _ rfl true (by simp) (.inl rfl) (h.2 hx)
    | some a=>exact go _ _ _ rfl false (by simp) (.inl rfl) h.1
   ·obtain ⟨b,off,rfl,_⟩:=h2 (by simpa using hx)
    exact go _ _ _ rfl false (by simp) (.inl rfl) h.1
  ·rw [Rel,VRel] at hv;obtain ⟨_,off,c,rfl,_⟩:=hv;exact go _ _ _ rfl false (by simp) (.inl rfl) h
  ·rw [Rel,VRel] at hv;obtain ⟨_,off,rfl,_⟩:=hv;exact go _ _ _ rfl false (by simp) (.inl rfl) h
  ·rw [zCE] at hv;exact go _ _ _ hv true (by simp) (.inl rfl) h
  ·exact h.elim
 ·split at h
  ·rename_i k xs
   rw [Rel,VRel] at hv;obtain ⟨a,c,rfl,h1,h2⟩:=hv
   by_cases hx:xs = []
   ·cases a with
    | none=>exact go _ _ _ rfl false (by simp) (.inr rfl) (h.2 hx)
    | some a=>exact go _ _ _ rfl true (by simp) (.inr rfl) h.1
   ·obtain ⟨b,off,rfl,_⟩:=h2 (by simpa using hx)
    exact go _ _ _ rfl true (by simp) (.inr rfl) h.1
  ·rw [Rel,VRel] at hv;obtain ⟨_,off,c,rfl,_⟩:=hv;exact go _ _ _ rfl true (by simp) (.inr rfl) h
  ·rw [Rel,VRel] at hv;obtain ⟨_,off,rfl,_⟩:=hv;exact go _ _ _ rfl true (by simp) (.inr rfl) h
  ·rw [zCE] at hv;exact go _ _ _ hv false (by simp) (.inr rfl) h
  ·exact h.elim
 ·exact h.elim
end
end Go.Ab
namespace Go.Ab
variable [Go.Ab.DM]
abbrev MapD:=List (Nat × Value × D)
def findD (kind:TypeDesc) (k:Value):MapD -> Nat -> Option (Option Nat)
 | [],_=>some none
 | p :: es,i=>match Instr.sameNow kind k p.2.1 with
  | some true=>some (some i)
  | some false=>findD kind k es (i + 1)
  | none=>none
def keyKind:TypeDesc -> Bool
 | .int _=>true
 | .string=>true
 | .bool=>true
 | _=>false
section
variable {P:Program} {X:Nat -> Prop} {own:Nat -> Own} {H:Heap} {w:World} {C:D -> Heap -> Prop}
def zCJ {r:Nat} {o:Obj} (h:w.heap[r]? = some o) (hn:∀ c t f,o ≠ .cells c t f):(getObj r).run P w = .ok o w:=by
 cases o <;> simp_all [getObj,Sem.run]
def setObj_run {r:Nat} {o o':Obj} (h:w.heap[r]? = some o) (hn:∀ c t f,o ≠ .cells c t f):(setObj r o').run P w = .ok () { w with heap:=w.heap.setIfInBounds r o' }:=by
 cases o <;> simp_all [setObj,Sem.run]
def findNow_eq {kind:TypeDesc} {k:Value}:∀ (en:List MapEntry) (es:MapD) (i:Nat),en.map (fun e=>(e.born,e.key)) = es.map (fun p=>(p.1,p.2.1)) ->
  ∀ q,findD kind k es i = some q -> ∃ z,Instr.findNow kind k en i = some z /\ (match q with | none=>z = none | some j=>i <= j /\ ∃ e,en[j - i]? = some e /\ z = some (j,e.val) /\ ∃ p,es[j - i]? = some p /\ Instr.sameNow kind k p.2.1 = some true)
 | [],es,i,h,q,hq=>by
  simp at h;subst h
  simp [findD] at hq;subst hq
  exact ⟨none,rfl,rfl⟩
 | e :: en,es,i,h,q,hq=>by
  cases es with
  | nil=>simp at h
  | cons p es =>
   simp only [yAL,yAq,yBX] at h
   obtain ⟨⟨h1,h2⟩,h3⟩:=h
   simp only [findD] at hq
   simp only [Instr.findNow,h2]
   split at hq
   ·rename_i hs
    simp at hq;subst hq
    rw [hs]
    exact ⟨_,rfl,yAJ _,e,by simp,rfl,p,by simp,hs⟩
   ·rename_i hs
    rw [hs]
    obtain ⟨z,h4,h5⟩:=findNow_eq en es (i + 1) h3 q hq
    refine ⟨z,h4,?_⟩
    cases q with
    | none=>exact h5
    | some j =>
     obtain ⟨h6,e',h7,h8,p',h9,h10⟩:=h5
     refine ⟨by omega,e',?_,h8,p',?_,h10⟩
     ·rw [show j - i = (j - (i + 1)) + 1 by omega,yBH];exact h7
     ·rw [show j - i = (j - (i + 1)) + 1 by omega,yBH];exact h9
   ·simp at hq
def zCO {kt:TypeId} {kind:TypeDesc} {key:Value} {b:Bool} (hk:P.underlying kt = some kind) (hs:keyKind kind = true):(Instr.checkKey b 10000 kt key).run P w = .ok () w:=by
 have:∀ d,(Instr.checkKey b (d + 1) kt key).run P w = .ok () w:=fun d=>by
  simp only [Instr.checkKey,Sem.run_bind,zAC hk,Result.andThen_ok]
  cases kind <;> simp [keyKind] at hs <;> rfl
 exact this 9999
def zCj {kt:TypeId} {kind:TypeDesc} {key:Value} {en:List MapEntry} {z:Option (Nat × Value)} (hk:P.underlying kt = some kind) (h:Instr.findNow kind key en 0 = some z):(Instr.findKey kt key en).run P w = .ok z w:=by
 simp [Instr.findKey,zAC hk,h]
def bytes_beq (a b:ByteArray):(a == b) = (a.data == b.data):=by cases a;cases b;rfl
def same_bits {kind:TypeDesc} {a b:Value} (h:Instr.sameNow kind a b = some true):Instr.sameBits 10000 b a = true:=by
 have:∀ n,Instr.sameBits (n + 1) b a = true:=fun n=>by
  cases kind <;> cases a <;> cases b <;> simp_all [Instr.sameNow,Instr.sameBits,bytes_beq]
 exact this 9999
def tmap (P:Program) (t:TypeId):Option (TypeId × TypeId × TypeDesc) :=
 match P.underlying t with
 | some (.map k e)=>(P.underlying k).bind fun d=>if keyKind d then some (k,e,d) else none
 | _=>none
def tmap_some {t k e:TypeId} {d:TypeDesc} (h:tmap P t = some (k,e,d)):P.underlying t = some (.map k e) /\ P.underlying k = some d /\ keyKind d = true:=by
 unfold tmap at h
 split at h
 ·rename_i k' e' hu
  simp only [yAn] at h
  obtain ⟨d',h1,h2⟩:=h
  split at h2
  ·rename_i hk;simp at h2;obtain ⟨rfl,rfl,rfl⟩:=h2;exact ⟨hu,h1,hk⟩
  ·simp at h2
 ·simp at h
def lkD (P:Program) (t:TypeId) (H:Heap) (m key:D) (ok:Bool):Option D :=
 match tmap P t,key with
 | some (_,e,kd),.v kv =>
  match (match m with | .mp r=>(match H.get r with | some (.mp es _)=>(findD kd kv es 0).map fun q=>q.bind fun i=>(es[i]?).map (·.2.2) | _=>none) | .v (.map none)=>some none | _=>none) with
  | some (some d)=>some (if ok then .tup [d,.v (.bool true)] else d)
  | some none=>(zCy P e).map fun d=>if ok then .tup [d,.v (.bool false)] else d
  | none=>none
 | _,_=>none
def lookup_sound {t:TypeId} {m key d:D} {ok:Bool} {v u:Value} (hs:Sim own H X w) (hv:Rel own H X w m v) (hu:Rel own H X w key u) (h:lkD P t H m key ok = some d) :
  ∃ x,(∀ w':World,(∀ b,b < w.heap.size -> w'.heap[b]? = w.heap[b]?) -> (Instr.lookup t v u ok).run P w' = .ok x w') /\ Rel own H X w d x:=by
 unfold lkD at h
 split at h
 rotate_left
 ·simp at h
 rename_i kt e kd kv hm
 obtain ⟨h1,h2,h3⟩:=tmap_some hm
 rw [zCE] at hu;subst hu
 have tup:∀ (d0:D) (x0:Value) (b:Bool),Rel own H X w d0 x0 -> Rel own H X w (if ok then .tup [d0,.v (.bool b)] else d0) (if ok then .tuple #[x0,.bool b] else x0):=fun d0 x0 b hr=>by
  cases ok
  ·simpa using hr
  ·simp only [if_true];rw [Rel,VRel];exact ⟨[x0,.bool b],rfl,by simp only [VRels];exact ⟨_,_,rfl,hr,_,_,rfl,by simp [VRel],rfl⟩⟩
 have none':∀ es:Array MapEntry,((v = .map none /\ es = #[]) \/ ∃ b cl,v = .map (some b) /\ b < w.heap.size /\ w.heap[b]? = some (.map es cl)) ->
     ∀ z,Instr.findNow kd u es.toList 0 = some z -> ∀ d',(∀ i x,z = some (i,x) -> Rel own H X w d' (if ok then .tuple #[x,.bool true] else x)) -> (z = none -> (zCy P e).map (fun d0=>if ok then .tup [d0,.v (.bool false)] else d0) = some d') ->
     ∃ x,(∀ w':World,(∀ b,b < w.heap.size -> w'.heap[b]? = w.heap[b]?) -> (Instr.lookup t v u ok).run P w' = .ok x w') /\ Rel own H X w d' x:=by
  intro es hes z hz d' hd1 hd2
  cases z with
  | none =>
   have hd':=hd2 rfl
   simp only [yAb] at hd'
   obtain ⟨d0,h4,rfl⟩:=hd'
   obtain ⟨x0,h5,rfl⟩:=run_zeroValue'' h4
   refine ⟨_,fun w' hw'=>?_,tup _ _ false (Rel_zero x0 fun _ _ _ _=>trivial)⟩
   rcases hes with ⟨rfl,rfl⟩ | ⟨b,cl,rfl,hb,hg⟩
   ·simp only [Instr.lookup,Sem.run_bind,zAC h1,Result.andThen_ok,zCO h2 h3,zCj h2 hz,h5,Sem.run_pure]
   ·have:=zCJ (P:=P) (w:=w') ((hw' _ hb).trans hg) (by simp)
    simp only [Instr.lookup,Sem.run_bind,zAC h1,Result.andThen_ok,this,zCO h2 h3,zCj h2 hz,h5,Sem.run_pure]
  | some z =>
   obtain ⟨i,x⟩:=z
   refine ⟨_,fun w' hw'=>?_,hd1 _ _ rfl⟩
   rcases hes with ⟨rfl,rfl⟩ | ⟨b,cl,rfl,hb,hg⟩
   ·simp only [Instr.lookup,Sem.run_bind,zAC h1,Result.andThen_ok,zCO h2 h3,zCj h2 hz,Sem.run_pure]
   ·have:=zCJ (P:=P) (w:=w') ((hw' _ hb).trans hg) (by simp)
    simp only [Instr.lookup,Sem.run_bind,zAC h1,Result.andThen_ok,this,zCO h2 h3,zCj h2 hz,Sem.run_pure]
 split at h
 ·rename_i d0 hd0
  simp at h;subst h
  split at hd0
  ·rename_i r
   split at hd0
   rotate_left
   ·simp at hd0
   rename_i es cl hg
   simp only [yAb,yAn] at hd0
   obtain ⟨q,h4,j,rfl,p,h5,rfl⟩:=hd0
   rw [Rel,VRel] at hv;obtain ⟨hr,rfl⟩:=hv
   obtain ⟨⟨en,h6,h7,h8⟩,h9⟩:=hs.live r _ hg
   obtain ⟨z,g1,g2,e',g3,rfl,p',g4,g5⟩:=findNow_eq en.toList es 0 h7 _ h4
   simp only [Nat.sub_zero] at g3 g4
   obtain ⟨y,k1,k2⟩:=VRels_get h8 (i:=j) (d:=p.2.2) (by simp [h5])
   have:y = e'.val:=by rw [yAy,g3] at k1;simp at k1;exact k1.symm
   subst this
   exact none' en (.inr ⟨_,cl,rfl,(hs.live r _ hg).1.lt,h6⟩) _ g1 _ (fun i x hx=>by simp only [yAH,yBX] at hx;obtain ⟨rfl,rfl⟩:=hx;exact tup _ _ true k2) (by simp)
  ·simp at hd0
  ·simp at hd0
 ·rename_i hd0
  split at hd0
  ·rename_i r
   split at hd0
   rotate_left
   ·simp at hd0
   rename_i es cl hg
   simp only [yAb] at hd0
   obtain ⟨q,h4,h5⟩:=hd0
   rw [Rel,VRel] at hv;obtain ⟨hr,rfl⟩:=hv
   obtain ⟨⟨en,h6,h7,h8⟩,h9⟩:=hs.live r _ hg
   obtain ⟨z,g1,g2⟩:=findNow_eq en.toList es 0 h7 _ h4
   have hq:q = none:=by
    cases q with
    | none=>rfl
    | some j =>
     obtain ⟨_,e',g3,_,p',g4,_⟩:=g2
     simp only [Nat.sub_zero] at g4
     simp [g4] at h5
   subst hq
   simp only at g2;subst g2
   exact none' en (.inr ⟨_,cl,rfl,(hs.live r _ hg).1.lt,h6⟩) _ g1 _ (by simp) fun _=>h
  ·rw [zCE] at hv;subst hv
   exact none' #[] (.inl ⟨rfl,rfl⟩) none rfl _ (by simp) fun _=>h
  ·simp at hd0
 ·simp at h
def entD (H:Heap) (x:D):Option D :=
 match x with
 | .pt r 0 0=>match H.get r with
  | some (.it m _ seen last)=>match H.get m with
   | some (.mp es cl)=>if cl = last then (seen.getLast?).bind fun st=>(es.find? fun p=>p.1 == st).map fun p=>.tup [.v p.2.1,p.2.2] else none
   | _=>none
  | _=>none
 | _=>none
def find_born:∀ (en:List MapEntry) (es:MapD),en.map (fun e=>(e.born,e.key)) = es.map (fun p=>(p.1,p.2.1)) -> ∀ {st:Nat} {p},es.find? (fun p=>p.1 == st) = some p -> ∃ (i:Nat) (e:MapEntry),en.find? (fun e=>e.born == st) = some e /\ en[i]? = some e /\ es[i]? = some p /\ e.key = p.2.1
 | [],es,h,st,p,hp=>by simp at h;subst h;simp at hp
 | e :: en,es,h,st,p,hp=>by
  cases es with
  | nil=>simp at h
  | cons p' es =>
   simp only [yAL,yAq,yBX] at h
   obtain ⟨⟨h1,h2⟩,h3⟩:=h
   simp only [List.find?_cons,h1] at hp ⊢
   cases hc:p'.1 == st with
   | true=>simp only [hc] at hp;simp at hp;subst hp;exact ⟨0,e,rfl,rfl,rfl,h2⟩
   | false =>
    simp only [hc] at hp
    obtain ⟨i,e',h4,h5,h6,h7⟩:=find_born en es h3 hp
    exact ⟨i + 1,e',h4,by simpa using h5,by simpa using h6,h7⟩
def entry_sound {x d:D} {v:Value} (hs:Sim own H X w) (hv:Rel own H X w x v) (h:entD H x = some d) :
  ∃ y,(∀ w':World,(∀ b,b < w.heap.size -> w'.heap[b]? = w.heap[b]?) -> (Instr.entry v).run P w' = .ok y w') /\ Rel own H X w d y:=by
 unfold entD at h
 split at h
 rotate_left
 ·simp at h
 rename_i r
 split at h
 rotate_left
 ·simp at h
 rename_i m since seen last hg
 split at h
 rotate_left
 ·simp at h
 rename_i es cl hm
 split at h
 rotate_left
 ·simp at h
 rename_i hcl
 subst hcl
 simp only [yAn,yAb] at h
 obtain ⟨st,h1,p,h2,rfl⟩:=h
 rw [Rel,VRel] at hv;obtain ⟨hr,rfl⟩:=hv
 obtain ⟨⟨g1,g2,g3⟩,g4⟩:=hs.live r _ hg
 obtain ⟨⟨en,k1,k2,k3⟩,k4⟩:=hs.live m _ hm
 obtain ⟨i,e,f1,f2,f3,f4⟩:=find_born en.toList es k2 h2
 obtain ⟨y,q1,q2⟩:=VRels_get k3 (i:=i) (d:=p.2.2) (by simp [f3])
 have:y = e.val:=by rw [yAy,f2] at q1;simp at q1;exact q1.symm
 subst this
 refine ⟨.tuple #[e.key,e.val],fun w' hw'=>?_,by rw [Rel,VRel];exact ⟨[e.key,e.val],rfl,by simp only [VRels];exact ⟨_,_,rfl,by simp [VRel,f4],_,_,rfl,q2,rfl⟩⟩⟩
 have e1:=zCJ (P:=P) (w:=w') ((hw' _ (hs.live r _ hg).1.lt).trans g3) (by simp)
 have e2:=zCJ (P:=P) (w:=w') ((hw' _ (hs.live m _ hm).1.lt).trans k1) (by simp)
 have f1':en.find? (fun e=>e.born == st) = some e:=by rw [<- Array.find?_toList];exact f1
 have hb:seen.toArray.back? = some st:=by simpa using h1
 simp only [g2,Nat.zero_mul,Nat.add_zero,Instr.entry,Sem.run_bind,e1,Result.andThen_ok,hb,e2]
 simp [f1']
def updM (es:MapD) (cl:Nat) (key:Value) (x:D):Option Nat -> MapD × Nat
 | some i=>(es.modify i fun p=>(p.1,key,x),cl)
 | none=>(es ++ [(cl,key,x)],cl + 1)
def zBx (P:Program) (t:TypeId) (m key x:D) (H:Heap) (C:D -> Heap -> Prop):Prop :=
 match tmap P t,key,m with
 | some (_,_,kd),.v kv,.mp r=>match H.get r with
  | some (.mp es cl)=>match findD kd kv es 0 with
   | some q=>C (.v undef) (H.set r (some (.mp (updM es cl kv x q).1 (updM es cl kv x q).2)))
   | none=>False
  | _=>False
 | _,_,_=>False
def modify_map {α β:Type} (f:α -> β) (g:α -> α) (g':β -> β) (h:∀ a,f (g a) = g' (f a)) (l:List α) (i:Nat):(l.modify i g).map f = (l.map f).modify i g':=by
 apply List.ext_getElem?
 intro j
 simp only [yAy,List.getElem?_modify]
 cases l[j]? <;> simp;split <;> simp [h]
def VRels_modify {ds:List D} {vs:List Value} {n:Nat} {U:Nat -> Prop} {d:D} {v:Value} (h:VRels own U w n ds vs) (hv:VRel own U w n d v):∀ i,VRels own U w n (ds.modify i fun _=>d) (vs.modify i fun _=>v):=by
 induction ds generalizing vs with
 | nil=>intro i;simp [VRels] at h;subst h;simp [VRels]
 | cons x ds ih =>
  intro i
  rw [VRels] at h;obtain ⟨y,ys,rfl,h1,h2⟩:=h
  cases i with
  | zero=>simp only [List.modify_zero_cons,VRels];exact ⟨_,_,rfl,hv,h2⟩
  | succ i=>simp only [List.modify_succ_cons,VRels];exact ⟨_,_,rfl,h1,ih h2 i⟩
def mapUpdate_sound {t:TypeId} {m key x:D} {v u z:Value} (hs:Sim own H X w) (hv:Rel own H X w m v) (hu:Rel own H X w key u) (hz:Rel own H X w x z) (h:zBx P t m key x H C) :
  OpOut P X own H w C ((do Instr.mapUpdate t v u z;pure Next.skip:Sem Next).run P w):=by
 unfold zBx at h
 split at h
 rotate_left
 ·exact h.elim
 rename_i kt e kd kv r hm
 obtain ⟨h1,h2,h3⟩:=tmap_some hm
 rw [zCE] at hu;subst hu
 split at h
 rotate_left
 ·exact h.elim
 rename_i es cl hg
 split at h
 rotate_left
 ·exact h.elim
 rename_i q hq
 rw [Rel,VRel] at hv;obtain ⟨hr,rfl⟩:=hv
 obtain ⟨⟨en,h6,h7,h8⟩,h9⟩:=hs.live r _ hg
 obtain ⟨zz,g1,g2⟩:=findNow_eq en.toList es 0 h7 _ hq
 have e1:=zCJ (P:=P) (w:=w) h6 (by simp)
 have e2:=fun o'=>setObj_run (P:=P) (w:=w) (o':=o') h6 (by simp)
 have fin:∀ (en':Array MapEntry) (es':MapD) (cl':Nat),en'.toList.map (fun e=>(e.born,e.key)) = es'.map (fun p=>(p.1,p.2.1)) ->
     (∀ own' H' w',Ext X own H w own' H' w' -> VRels own' (zAQ own' H' X w') w' H'.length (es'.map (·.2.2)) (en'.toList.map (·.val))) -> C (.v undef) (H.set r (some (.mp es' cl'))) ->
     OpOut P X own H w C (.ok .skip { w with heap:=w.heap.setIfInBounds (own r).b (.map en' cl') }):=by
  intro en' es' cl' k1 k2 k3
  have:=step_set hs hg (row':=.mp es' cl') (.map en' cl') (w':={ w with heap:=w.heap.setIfInBounds (own r).b (.map en' cl') }) rfl (fun hext hnew=>⟨en',hnew,k1,by have:=k2 _ _ _ hext;rw [yBK] at this;exact this⟩)
  exact ⟨own,_,this.1,this.2,k3⟩
 cases q with
 | none =>
  simp only at g2;subst g2
  have:(Instr.mapUpdate t (.map (some (own r).b)) u z).run P w = .ok () { w with heap:=w.heap.setIfInBounds (own r).b (.map (en.push { key:=u,val:=z,born:=cl }) (cl + 1)) }:=by
   simp only [Instr.mapUpdate,Sem.run_bind,zAC h1,Result.andThen_ok,e1,zCO h2 h3,zCj h2 g1,e2]
  simp only [Sem.run_bind,this,Result.andThen_ok,Sem.run_pure]
  refine fin _ _ _ (by simp [h7,updM]) (fun own' H' w' hext=>?_) h
  simp only [updM,yAV,Array.toList_push]
  refine zBF (VRels.mono hext.keeps _ _ h8) ?_
  simp only [yAL,yBM,VRels];exact ⟨_,_,rfl,VRel.mono hext.keeps _ _ hz,rfl⟩
 | some j =>
  obtain ⟨_,e',g3,rfl,p',g4,g5⟩:=g2
  simp only [Nat.sub_zero] at g3 g4
  have hkey:e'.key = p'.2.1:=by
   have:=congrArg (fun l=>l[j]?) h7
   simp only [yAy,g3,g4] at this
   simp at this;exact this.2
  have g3':en[j]? = some e':=by simpa using g3
  have hst:(Instr.keyThatStays (((en[j]?).map (·.key)).getD u) u).run P w = .ok u w:=by
   rw [g3']
   simp only [yBU,Option.getD_some,Instr.keyThatStays,hkey,same_bits g5,if_true,Sem.run_pure]
  have:(Instr.mapUpdate t (.map (some (own r).b)) u z).run P w = .ok () { w with heap:=w.heap.setIfInBounds (own r).b (.map (en.modify j fun e=>{ e with key:=u,val:=z }) cl) }:=by
   simp only [Instr.mapUpdate,Sem.run_bind,zAC h1,Result.andThen_ok,e1,zCO h2 h3,zCj h2 g1,hst,e2]
  simp only [Sem.run_bind,this,Result.andThen_ok,Sem.run_pure]
  have tl:(en.modify j fun e=>{ e with key:=u,val:=z }).toList = en.toList.modify j fun e=>{ e with key:=u,val:=z }:=by simp
  refine fin _ _ _ ?_ (fun own' H' w' hext=>?_) h
  ·rw [tl,modify_map (fun e:MapEntry=>(e.born,e.key)) _ (fun q=>(q.1,u)) (fun _=>rfl)]
   simp only [updM]
   rw [modify_map (fun p:Nat × Value × D=>(p.1,p.2.1)) _ (fun q=>(q.1,u)) (fun _=>rfl),h7]
  ·rw [tl,modify_map (fun e:MapEntry=>e.val) _ (fun _=>z) (fun _=>rfl)]
   simp only [updM]
   rw [modify_map (fun p:Nat × Value × D=>p.2.2) _ (fun _=>x) (fun _=>rfl)]
   exact VRels_modify (VRels.mono hext.keeps _ _ h8) (VRel.mono hext.keeps _ _ hz) j
def aDelete (P:Program) (ts:Array TypeId) (m key:D) (H:Heap) (C:D -> Heap -> Prop):Prop :=
 match (ts[0]?).bind (tmap P),key,m with
 | some (_,_,kd),.v kv,.mp r=>match H.get r with
  | some (.mp es cl)=>match findD kd kv es 0 with
   | some q=>C (.tup []) (H.set r (some (.mp (match q with | some i=>es.eraseIdx i | none=>es) cl)))
   | none=>False
  | _=>False
 | _,_,_=>False
def VRels_erase {ds:List D} {vs:List Value} {n:Nat} {U:Nat -> Prop} (h:VRels own U w n ds vs):∀ i,VRels own U w n (ds.eraseIdx i) (vs.eraseIdx i):=by
 induction ds generalizing vs with
 | nil=>intro i;simp [VRels] at h;subst h;simp [VRels]
 | cons x ds ih =>
  intro i
  rw [VRels] at h;obtain ⟨y,ys,rfl,h1,h2⟩:=h
  cases i with
  | zero=>simpa using h2
  | succ i=>simp only [List.eraseIdx_cons_succ,VRels];exact ⟨_,_,rfl,h1,ih h2 i⟩
def zDE {α β:Type} (f:α -> β):∀ (l:List α) (i:Nat),(l.eraseIdx i).map f = (l.map f).eraseIdx i
 | [],i=>by simp
 | x :: l,0=>by simp
 | x :: l,i + 1=>by simp [zDE f l i]
def delete_sound {ts:Array TypeId} {ty:TypeId} {m key:D} {v u:Value} (hs:Sim own H X w) (hv:Rel own H X w m v) (hu:Rel own H X w key u) (h:aDelete P ts m key H C) :
  OpOut P X own H w C ((do pure (Next.value (<- Builtin.delete_ ts ty #[v,u])):Sem Next).run P w):=by
 unfold aDelete at h
 split at h
 rotate_left
 ·exact h.elim
 rename_i kt e kd kv r hm0
 simp only [yAn] at hm0
 obtain ⟨t,ht,hm⟩:=hm0
 obtain ⟨h1,h2,h3⟩:=tmap_some hm
 rw [zCE] at hu;subst hu
 split at h
 rotate_left
 ·exact h.elim
 rename_i es cl hg
 split at h
 rotate_left
 ·exact h.elim
 rename_i q hq
 rw [Rel,VRel] at hv;obtain ⟨hr,rfl⟩:=hv
 obtain ⟨⟨en,h6,h7,h8⟩,h9⟩:=hs.live r _ hg
 obtain ⟨zz,g1,g2⟩:=findNow_eq en.toList es 0 h7 _ hq
 have e1:=zCJ (P:=P) (w:=w) h6 (by simp)
 have e2:=fun o'=>setObj_run (P:=P) (w:=w) (o':=o') h6 (by simp)
 have fin:∀ (en':Array MapEntry) (es':MapD),en'.toList.map (fun e=>(e.born,e.key)) = es'.map (fun p=>(p.1,p.2.1)) ->
     (∀ own' H' w',Ext X own H w own' H' w' -> VRels own' (zAQ own' H' X w') w' H'.length (es'.map (·.2.2)) (en'.toList.map (·.val))) -> C (.tup []) (H.set r (some (.mp es' cl))) ->
     OpOut P X own H w C (.ok (.value (.tuple #[])) { w with heap:=w.heap.setIfInBounds (own r).b (.map en' cl) }):=by
  intro en' es' k1 k2 k3
  have:=step_set hs hg (row':=.mp es' cl) (.map en' cl) (w':={ w with heap:=w.heap.setIfInBounds (own r).b (.map en' cl) }) rfl (fun hext hnew=>⟨en',hnew,k1,by have:=k2 _ _ _ hext;rw [yBK] at this;exact this⟩)
  exact ⟨own,.tup [],_,this.1,by rw [Rel,VRel];exact ⟨[],rfl,by simp [VRels]⟩,this.2,k3⟩
 cases q with
 | none =>
  simp only at g2;subst g2
  have:(Builtin.delete_ ts ty #[.map (some (own r).b),u]).run P w = .ok (.tuple #[]) { w with heap:=w.heap.setIfInBounds (own r).b (.map en cl) }:=by
   simp [Builtin.delete_,ht,zAC h1,e1,zCO h2 h3,zCj h2 g1,e2]
  simp only [Sem.run_bind,this,Result.andThen_ok,Sem.run_pure]
  exact fin _ _ h7 (fun own' H' w' hext=>VRels.mono hext.keeps _ _ h8) h
 | some j =>
  obtain ⟨_,e',g3,rfl,p',g4,g5⟩:=g2
  have:(Builtin.delete_ ts ty #[.map (some (own r).b),u]).run P w = .ok (.tuple #[]) { w with heap:=w.heap.setIfInBounds (own r).b (.map (en.eraseIdxIfInBounds j) cl) }:=by
   simp [Builtin.delete_,ht,zAC h1,e1,zCO h2 h3,zCj h2 g1,e2]
  simp only [Sem.run_bind,this,Result.andThen_ok,Sem.run_pure]
  have tl:(en.eraseIdxIfInBounds j).toList = en.toList.eraseIdx j:=by simp
  refine fin _ _ ?_ (fun own' H' w' hext=>?_) h
  ·rw [tl,zDE,zDE,h7]
  ·rw [tl,zDE,zDE];exact VRels_erase (VRels.mono hext.keeps _ _ h8) j
def makeMap_sound {t:TypeId} {o:Option Value} (hs:Sim own H X w) (ho:o = none \/ ((∃ k e,P.underlying t = some (.map k e)) /\ ∃ kk n,o = some (.int kk n))) (h:C (.mp H.length) (H ++ [some (.mp [] 0)])) :
  (do pure (Next.value (<- Instr.makeMap t o)):Sem Next).run P w = .ok (.value (.map (some w.heap.size))) { w with heap:=w.heap.push (.map #[] 0) } /\ OpOut P X own H w C (.ok (.value (.map (some w.heap.size))) { w with heap:=w.heap.push (.map #[] 0) }):=by
 constructor
 ·rcases ho with rfl | ⟨⟨k,e,hu⟩,kk,n,rfl⟩
  ·simp [Instr.makeMap]
  ·simp [Instr.makeMap,zAC hu,asInt,asIntOf]
 ·have:=step_push hs (.map #[] 0) (.mp [] 0) ⟨w.heap.size,0,1,0⟩ rfl (w':={ w with heap:=w.heap.push (.map #[] 0) }) rfl (fun own' H' hext hnew=>⟨#[],hnew,by simp,by simp [VRels]⟩)
  exact ⟨_,.mp H.length,_,this.1,by rw [Rel,VRel];exact ⟨by simp,by simp [zBO]⟩,this.2,h⟩
def aRange (P:Program) (t:TypeId) (x:D) (H:Heap) (C:D -> Heap -> Prop):Prop :=
 match P.underlying t,x with
 | some .string,.v (.string s)=>C (.pt H.length 0 0) (H ++ [some (.sit s 0)])
 | some (.map _ _),.mp r=>match H.get r with
  | some (.mp es cl)=>C (.pt H.length 0 0) (H ++ [some (.it r cl [] cl)])
  | _=>False
 | _,_=>False
def range_sound {t:TypeId} {x:D} {v:Value} (hs:Sim own H X w) (hv:Rel own H X w x v) (h:aRange P t x H C) :
  ∃ o:Obj,(do pure (Next.value (<- Instr.range t v)):Sem Next).run P w = .ok (.value (.pointer (some ⟨w.heap.size,0,none⟩))) { w with heap:=w.heap.push o } /\ OpOut P X own H w C (.ok (.value (.pointer (some ⟨w.heap.size,0,none⟩))) { w with heap:=w.heap.push o }):=by
 unfold aRange at h
 split at h
 ·rename_i s hu
  rw [zCE] at hv;subst hv
  refine ⟨.stringIter s 0,by simp [Instr.range,zAC hu],?_⟩
  have:=step_push hs (.stringIter s 0) (.sit s 0) ⟨w.heap.size,0,1,0⟩ rfl (w':={ w with heap:=w.heap.push (.stringIter s 0) }) rfl (fun own' H' hext hnew=>⟨rfl,hnew⟩)
  exact ⟨_,.pt H.length 0 0,_,this.1,by rw [Rel,VRel];exact ⟨by simp,by simp [zBO]⟩,this.2,h⟩
 ·rename_i k e r hu
  split at h
  rotate_left
  ·exact h.elim
  rename_i es cl hg
  rw [Rel,VRel] at hv;obtain ⟨hr,rfl⟩:=hv
  obtain ⟨⟨en,h6,h7,h8⟩,h9⟩:=hs.live r _ hg
  have e1:=zCJ (P:=P) (w:=w) h6 (by simp)
  refine ⟨.mapIter (some (own r).b) cl #[] cl,by simp [Instr.range,zAC hu,e1],?_⟩
  have:=step_push hs (.mapIter (some (own r).b) cl #[] cl) (.it r cl [] cl) ⟨w.heap.size,0,1,0⟩ rfl (w':={ w with heap:=w.heap.push (.mapIter (some (own r).b) cl #[] cl) }) rfl
   (fun own' H' hext hnew=>⟨yAd hr hext.hn,rfl,by rw [hext.ho r hr];exact hnew⟩)
  exact ⟨_,.pt H.length 0 0,_,this.1,by rw [Rel,VRel];exact ⟨by simp,by simp [zBO]⟩,this.2,h⟩
 ·exact h.elim
def leftM (es:MapD) (seen:List Nat):MapD:=es.filter fun p=>!seen.contains p.1
def aNext (isString:Bool) (x:D) (H:Heap) (C:D -> Heap -> Prop):Prop :=
 match x with
 | .pt r 0 0=>match H.get r,isString with
  | some (.sit s pos),true=>(pos < s.size -> C (.tup [.v (.bool true),.v (.int .i64 pos),.v (.int .i32 (Utf8.decode s pos).1)]) (H.set r (some (.sit s (pos + (Utf8.decode s pos).2))))) /\ (¬ pos < s.size -> C (.tup [.v (.bool false)]) H)
  | some (.it m since seen last),false=>match H.get m with
   | some (.mp es cl)=>((seen.isEmpty || es.isEmpty || es.any fun p=>decide (p.1 < last)) = true /\ ((leftM es seen).all fun p=>decide (p.1 < since)) = true) /\
    (leftM es seen = [] -> C (.tup [.v (.bool false)]) H) /\ ∀ p ∈ leftM es seen,C (.tup [.v (.bool true),.v p.2.1,p.2.2]) (H.set r (some (.it m since (seen ++ [p.1]) cl)))
   | _=>False
  | _,_=>False
 | _=>False
def VRels_filter {n:Nat} {U:Nat -> Prop}:∀ (en:List MapEntry) (es:MapD),en.map (fun e=>(e.born,e.key)) = es.map (fun p=>(p.1,p.2.1)) -> VRels own U w n (es.map (·.2.2)) (en.map (·.val)) -> ∀ (f:Nat -> Bool),
  (en.filter fun e=>f e.born).map (fun e=>(e.born,e.key)) = (es.filter fun p=>f p.1).map (fun p=>(p.1,p.2.1)) /\ VRels own U w n ((es.filter fun p=>f p.1).map (·.2.2)) ((en.filter fun e=>f e.born).map (·.val))
 | [],es,h,hv,f=>by simp at h;subst h;simp [VRels]
 | e :: en,es,h,hv,f=>by
  cases es with
  | nil=>simp at h
  | cons p es =>
   simp only [yAL,yAq,yBX] at h
   obtain ⟨⟨h1,h2⟩,h3⟩:=h
   simp only [yAL,VRels] at hv
   obtain ⟨x,xs,e1,h4,h5⟩:=hv
   simp only [yAq] at e1;obtain ⟨rfl,rfl⟩:=e1
   obtain ⟨h6,h7⟩:=VRels_filter en es h3 h5 f
   simp only [List.filter_cons,h1]
   cases f p.1
   ·exact ⟨h6,h7⟩
   ·simp only [if_true,yAL,VRels,h6,h1,h2];exact ⟨trivial,_,_,rfl,h4,h7⟩
def run_choose_lt {n:Nat} (hn:0 < n):∃ c w',(choose (.mapNext n)).run P w = .ok c w' /\ c < n /\ w'.heap = w.heap /\ SameW w w':=by
 rw [run_choose]
 split
 ·exact ⟨0,w,rfl,hn,rfl,.refl _⟩
 ·exact ⟨_,_,rfl,Nat.mod_lt _ hn,rfl,⟨rfl,rfl,rfl,fun _=>yBG _⟩⟩
def next_sound {x:D} {v:Value} {b:Bool} {ty:TypeId} (hs:Sim own H X w) (hv:Rel own H X w x v) (h:aNext b x H C) :
  OpOut P X own H w C ((do pure (Next.value (<- Instr.next v b ty)):Sem Next).run P w):=by
 have tupR:∀ {own' H' w'} (ds:List D) (vs:List Value),zCL own' H' X w' ds vs -> Rel own' H' X w' (.tup ds) (.tuple vs.toArray):=fun ds vs hr=>by rw [Rel,VRel];exact ⟨vs,rfl,hr⟩
 unfold aNext at h
 split at h
 rotate_left
 ·exact h.elim
 rename_i r
 split at h
 ·rename_i s pos hg
  rw [Rel,VRel] at hv;obtain ⟨hr,rfl⟩:=hv
  obtain ⟨⟨g2,g3⟩,g4⟩:=hs.live r _ hg
  have e1:=zCJ (P:=P) (w:=w) g3 (by simp)
  have e2:=fun o'=>setObj_run (P:=P) (w:=w) (o':=o') g3 (by simp)
  simp only [g2,Nat.zero_mul,Nat.add_zero]
  by_cases hp:pos < s.size
  ·have hd:Utf8.decode s pos = ((Utf8.decode s pos).1,(Utf8.decode s pos).2):=rfl
   have:(Instr.next (.pointer (some ⟨(own r).b,0,none⟩)) true ty).run P w = .ok (.tuple #[.bool true,.int .i64 pos,.int .i32 (Utf8.decode s pos).1]) { w with heap:=w.heap.setIfInBounds (own r).b (.stringIter s (pos + (Utf8.decode s pos).2)) }:=by
    simp only [Instr.next,Sem.run_bind,e1,Result.andThen_ok,if_pos hp]
    rw [hd]
    simp only [Sem.run_bind,e2,Result.andThen_ok,Sem.run_pure,goInt]
   simp only [Sem.run_bind,this,Result.andThen_ok,Sem.run_pure]
   have st:=step_set hs hg (row':=.sit s (pos + (Utf8.decode s pos).2)) (.stringIter s (pos + (Utf8.decode s pos).2)) (w':={ w with heap:=w.heap.setIfInBounds (own r).b (.stringIter s (pos + (Utf8.decode s pos).2)) }) rfl (fun hext hnew=>⟨g2,hnew⟩)
   exact ⟨own,_,_,st.1,tupR _ [_,_,_] (by simp only [zCL,VRels];exact ⟨_,_,rfl,by simp [VRel],_,_,rfl,by simp [VRel],_,_,rfl,by simp [VRel],rfl⟩),st.2,h.1 hp⟩
  ·have:(Instr.next (.pointer (some ⟨(own r).b,0,none⟩)) true ty).run P w = .ok (.tuple #[.bool false]) w:=by
    simp only [Instr.next,Sem.run_bind,e1,Result.andThen_ok,if_neg hp,Sem.run_pure]
   simp only [Sem.run_bind,this,Result.andThen_ok,Sem.run_pure]
   exact out_same hs (tupR _ [_] (by simp only [zCL,VRels];exact ⟨_,_,rfl,by simp [VRel],rfl⟩)) (h.2 hp)
 ·rename_i m since seen last hg
  split at h
  rotate_left
  ·exact h.elim
  rename_i es cl hm
  obtain ⟨⟨c1,c2⟩,c3,c4⟩:=h
  rw [Rel,VRel] at hv;obtain ⟨hr,rfl⟩:=hv
  obtain ⟨⟨g1,g2,g3⟩,g4⟩:=hs.live r _ hg
  obtain ⟨⟨en,k1,k2,k3⟩,k4⟩:=hs.live m _ hm
  have e1:=zCJ (P:=P) (w:=w) g3 (by simp)
  have e2:=zCJ (P:=P) (w:=w) k1 (by simp)
  simp only [g2,Nat.zero_mul,Nat.add_zero]
  obtain ⟨f1,f2⟩:=VRels_filter en.toList es k2 k3 fun b=>!seen.contains b
  have hguard:(!(seen.toArray.isEmpty) && !en.isEmpty && en.all (·.born >= last)) = false:=by
   cases hse:seen.isEmpty with
   | true=>simp_all
   | false =>
    have hlen:en.size = es.length:=by have:=congrArg List.length k2;simpa using this
    simp only [hse,Bool.false_or,Bool.or_eq_true,List.isEmpty_iff,yBQ,decide_eq_true_eq] at c1
    rcases c1 with rfl | ⟨p,hp,hlt⟩
    ·have:en = #[]:=by apply Array.eq_empty_of_size_eq_zero;simpa using hlen
     simp [this]
    ·obtain ⟨i,hi,rfl⟩:=List.getElem_of_mem hp
     have hb:=congrArg (fun l=>l[i]?) k2
     have hi':i < en.size:=by omega
     simp only [yAy,Array.getElem?_toList,yAK hi,Array.getElem?_eq_getElem hi',yBU,yAH,yBX] at hb
     have:en.all (fun e=>decide (e.born >= last)) = false:=by
      rw [Bool.eq_false_iff]
      intro hall
      rw [Array.all_eq_true] at hall
      have:=hall i hi'
      simp at this
      omega
     rw [this];simp
  have hnew:((en.filter fun e=>!seen.toArray.contains e.born).filter fun e=>decide (e.born >= since)) = #[]:=by
   rw [Array.filter_eq_empty_iff]
   intro e he
   have he':e ∈ en.toList.filter fun e=>!seen.contains e.born:=by simpa using he
   have:(e.born,e.key) ∈ (leftM es seen).map fun p=>(p.1,p.2.1):=by unfold leftM;rw [<- f1];exact yBC.2 ⟨e,he',rfl⟩
   obtain ⟨p,hp,hpe⟩:=yBC.1 this
   have:=yAR.1 c2 p hp
   simp only [yBX] at hpe
   simp at this
   simp;omega
  have hold:((en.filter fun e=>!seen.toArray.contains e.born).filter fun e=>decide (e.born < since)) = en.filter fun e=>!seen.toArray.contains e.born:=by
   rw [Array.filter_eq_self]
   intro e he
   have he':e ∈ en.toList.filter fun e=>!seen.contains e.born:=by simpa using he
   have:(e.born,e.key) ∈ (leftM es seen).map fun p=>(p.1,p.2.1):=by unfold leftM;rw [<- f1];exact yBC.2 ⟨e,he',rfl⟩
   obtain ⟨p,hp,hpe⟩:=yBC.1 this
   have:=yAR.1 c2 p hp
   simp only [yBX] at hpe
   simp at this
   simp;omega
  generalize hL:(en.filter fun e=>!seen.toArray.contains e.born) = L at hnew hold
  have hLl:L.toList = en.toList.filter fun e=>!seen.contains e.born:=by rw [<- hL];simp
  rw [<- hLl] at f1 f2
  by_cases hLe:L = #[]
  ·have hleft:leftM es seen = []:=by
    unfold leftM
    have:=congrArg List.length f1
    rw [hLe,yAG,yAG] at this
    exact yAx this.symm
   have hf:Question.forced (.mapNext 1) = true:=rfl
   have:(Instr.next (.pointer (some ⟨(own r).b,0,none⟩)) false ty).run P w = .ok (.tuple #[.bool false]) w:=by
    simp only [Instr.next,Sem.run_bind,e1,Result.andThen_ok,e2]
    rw [if_neg (by rw [hguard];simp)]
    simp only [hL,hnew,hold,hLe]
    simp [Question.forced]
   simp only [Sem.run_bind,this,Result.andThen_ok,Sem.run_pure]
   exact out_same hs (tupR _ [_] (by simp only [zCL,VRels];exact ⟨_,_,rfl,by simp [VRel],rfl⟩)) (c3 hleft)
  ·have hne:L.isEmpty = false:=by simpa using hLe
   have hpos:0 < L.size:=Array.size_pos_iff.2 hLe
   obtain ⟨c,w1,q1,q2,q3,q4⟩:=run_choose_lt (P:=P) (w:=w) hpos
   have hget:(L.map some)[c]? = some (some L[c]):=by simp [q2]
   have g3':w1.heap[(own r).b]? = some (.mapIter (some (own m).b) since seen.toArray last):=by rw [q3];exact g3
   have e3:=fun o'=>setObj_run (P:=P) (w:=w1) (o':=o') g3' (by simp)
   have:(Instr.next (.pointer (some ⟨(own r).b,0,none⟩)) false ty).run P w = .ok (.tuple #[.bool true,L[c].key,L[c].val]) { w1 with heap:=w1.heap.setIfInBounds (own r).b (.mapIter (some (own m).b) since (seen.toArray.push L[c].born) cl) }:=by
    simp only [Instr.next,Sem.run_bind,e1,Result.andThen_ok,e2]
    rw [if_neg (by rw [hguard];simp)]
    simp only [hL,hnew,hold,hne,yBS,if_false,Array.append_empty,Array.empty_append,Array.size_map,Sem.run_bind,q1,Result.andThen_ok,hget,e3,Sem.run_pure]
   simp only [Sem.run_bind,this,Result.andThen_ok,Sem.run_pure]
   have hs1:Sim own H X w1:=sim_drawn q3 hs
   have hx1:=zDa (X:=X) own H w w1 q3 q4
   have hcl:c < (leftM es seen).length:=by
    have:=congrArg List.length f1
    rw [yAG,yAG,Array.length_toList] at this
    unfold leftM;omega
   have hp:(L[c].born,L[c].key) = ((leftM es seen)[c].1,(leftM es seen)[c].2.1):=by
    have:=congrArg (fun l=>l[c]?) f1
    have hcl':c < (es.filter fun p=>!seen.contains p.1).length:=hcl
    simp only [yAy,Array.getElem?_toList,Array.getElem?_eq_getElem q2,yAK hcl',yBU,yAH] at this
    exact this
   obtain ⟨y,y1,y2⟩:=VRels_get f2 (i:=c) (d:=(leftM es seen)[c].2.2) (by
    have hcl':c < (es.filter fun p=>!seen.contains p.1).length:=hcl
    rw [yAy,yAK hcl'];rfl)
   have hy:y = L[c].val:=by
    rw [yAy,Array.getElem?_toList,Array.getElem?_eq_getElem q2] at y1;simp at y1;exact y1.symm
   subst hy
   have st:=step_set hs1 hg (row':=.it m since (seen ++ [L[c].born]) cl) (.mapIter (some (own m).b) since (seen.toArray.push L[c].born) cl) (w':={ w1 with heap:=w1.heap.setIfInBounds (own r).b (.mapIter (some (own m).b) since (seen.toArray.push L[c].born) cl) }) rfl
    (fun hext hnew'=>⟨g1,g2,by simpa using hnew'⟩)
   simp only [yBX] at hp
   have:=c4 _ (yAs hcl)
   rw [<- hp.1,<- hp.2] at this
   refine ⟨own,_,_,st.1,tupR _ [_,_,_] ?_,Ext.trans hx1 st.2,this⟩
   simp only [zCL,VRels]
   exact ⟨_,_,rfl,by simp [VRel],_,_,rfl,by simp [VRel],_,_,rfl,VRel.mono (Ext.trans hx1 st.2).keeps _ _ y2,rfl⟩
 ·exact h.elim
end
end Go.Ab
namespace Go.Ab
variable [Go.Ab.DM]
section
variable {P:Program} {X:Nat -> Prop} {own:Nat -> Own} {H:Heap} {w:World} {C:D -> Heap -> Prop}
def basicEq:TypeDesc -> Value -> Value -> Option Bool
 | .int _,.int k a,.int k' b=>if k = k' then some (a == b) else none
 | .string,.string a,.string b=>some (a == b)
 | .bool,.bool a,.bool b=>some (a == b)
 | _,_,_=>none
mutual
def eqD (P:Program):Nat -> TypeId -> D -> D -> Option Bool
 | 0,_,_,_=>none
 | n + 1,t,x,y=>match P.underlying t with
  | some (.struct fs)=>match x,y with
   | .agg xs,.agg ys=>if P.stoodInHeld t = false then eqFs P n fs.toList xs ys else none
   | _,_=>none
  | some d=>match x,y with
   | .v a,.v b=>basicEq d a b
   | _,_=>none
  | none=>none
def eqFs (P:Program):Nat -> List Field -> List D -> List D -> Option Bool
 | 0,_,_,_=>none
 | _ + 1,[],_,_=>some true
 | n + 1,f :: fs,xs,ys=>if f.name = "_" then none else
  match tag P f.type,tsz P f.type with
  | some tg,some sz=>(zBV tg sz (.agg xs) f.offset).bind fun x=>(zBV tg sz (.agg ys) f.offset).bind fun y=>(eqD P n f.type x y).bind fun b=>(eqFs P n fs xs ys).map fun c=>b && c
  | _,_=>none
end
mutual
def eqD_run:∀ (n:Nat) (t:TypeId) (x y:D) (v u:Value) (b:Bool),Rel own H X w x v -> Rel own H X w y u -> eqD P n t x y = some b -> ∀ m w',(Op.equalIn (n + m) t v u).run P w' = .ok b w'
 | 0,_,_,_,_,_,_,_,_,h=>by simp [eqD] at h
 | n + 1,t,x,y,v,u,b,hv,hu,h=>by
  intro m w'
  rw [eqD] at h
  rw [show n + 1 + m = n + m + 1 by omega]
  split at h
  ·rename_i fs ht
   split at h
   rotate_left
   ·simp at h
   rename_i xs ys
   split at h
   rotate_left
   ·simp at h
   rename_i hst
   rw [Rel,VRel] at hv hu
   obtain ⟨vs,rfl,h1⟩:=hv
   obtain ⟨us,rfl,h2⟩:=hu
   have:=eqFs_run n fs.toList xs ys vs us b h1 h2 h m w'
   simp only [Op.equalIn,Sem.run_bind,zAC ht,Result.andThen_ok,run_program,hst,yBS,if_false]
   rw [<- Array.forIn_toList]
   rw [this]
   cases b <;> rfl
  ·rename_i d hd ht
   split at h
   rotate_left
   ·simp at h
   rename_i a c
   rw [zCE] at hv hu;subst hv;subst hu
   unfold basicEq at h
   split at h
   ·split at h
    ·simp at h;subst h;rename_i hk;subst hk;simp [Op.equalIn,zAC ht]
    ·simp at h
   ·simp at h;subst h;simp [Op.equalIn,zAC ht]
   ·simp at h;subst h;simp [Op.equalIn,zAC ht]
   ·simp at h
  ·simp at h
def eqFs_run:∀ (n:Nat) (fs:List Field) (xs ys:List D) (vs us:List Value) (b:Bool),zCL own H X w xs vs -> zCL own H X w ys us -> eqFs P n fs xs ys = some b -> ∀ m w',
  (forIn (m:=Sem) fs ((none,()):Option Bool × Unit) fun f r=>do
   if f.name ≠ "_" then
    if (!(<- Op.equalIn (n + m) f.type (<- part f.type vs.toArray f.offset) (<- part f.type us.toArray f.offset))) = true then pure (ForInStep.done (some false,())) else pure (ForInStep.yield (none,()))
   else pure (ForInStep.yield (none,()))).run P w' = .ok (if b then (none,()) else (some false,())) w'
 | 0,_,_,_,_,_,_,_,_,h=>by simp [eqFs] at h
 | n + 1,[],xs,ys,vs,us,b,hv,hu,h=>by
  intro m w'
  simp [eqFs] at h;subst h;simp
 | n + 1,f :: fs,xs,ys,vs,us,b,hv,hu,h=>by
  intro m w'
  rw [eqFs] at h
  split at h
  ·simp at h
  rename_i hn
  split at h
  rotate_left
  ·simp at h
  rename_i tg sz htg hsz
  simp only [yAn,yAb] at h
  obtain ⟨x,h1,y,h2,b1,h3,b2,h4,rfl⟩:=h
  obtain ⟨x',g1,g2⟩:=part_sound (own:=own) (H:=H) (X:=X) htg hsz hv h1
  obtain ⟨y',g3,g4⟩:=part_sound (own:=own) (H:=H) (X:=X) htg hsz hu h2
  have e1:=eqD_run n f.type x y x' y' b1 g2 g4 h3 (m + 1) w'
  have e2:=eqFs_run n fs xs ys vs us b2 hv hu h4 (m + 1) w'
  rw [show n + (m + 1) = n + 1 + m by omega] at e1 e2
  rw [List.forIn_cons]
  simp only [hn,ne_eq,not_false_eq_true,if_true,Sem.run_bind,g1,g3,e1,Result.andThen_ok]
  cases b1
  ·simp
  ·simp only [Bool.not_true,yBS,if_false,Sem.run_pure,Result.andThen_ok,yBT]
   exact e2
end
def aEqAgg (P:Program) (op:BinOp) (t:TypeId) (xs ys:List D) (C:D -> Prop):Prop :=
 P.eqGuardType P.depth t = false /\ ∃ b,eqD P 12 t (.agg xs) (.agg ys) = some b /\ match op with
  | .eql=>C (.v (.bool b))
  | .neq=>C (.v (.bool !b))
  | _=>False
def eqAgg_sound {op:BinOp} {t:TypeId} {ox oy:Operand} {xs ys:List D} {v u:Value} (hs:Sim own H X w) (hv:Rel own H X w (.agg xs) v) (hu:Rel own H X w (.agg ys) u) (h:aEqAgg P op t xs ys fun d=>C d H) :
  PureOut P own H X w (fun d=>C d H) (do pure (Next.value (<- (do eqGuard op t ox oy v u;binOp op t v u)))):=by
 obtain ⟨hg,b,hb,h⟩:=h
 have he:=fun w'=>eqD_run (own:=own) (H:=H) (X:=X) (w:=w) 12 t _ _ v u b hv hu hb 9988 w'
 have he':∀ w':World,(Op.equal t v u).run P w' = .ok b w':=he
 rw [Rel,VRel] at hv hu
 obtain ⟨vs,rfl,_⟩:=hv
 obtain ⟨us,rfl,_⟩:=hu
 split at h
 ·exact zBE _ (fun w'=>by simp [eqGuard,binOp,he',hg]) h
 ·exact zBE _ (fun w'=>by simp [eqGuard,binOp,he',hg]) h
 ·exact h.elim
def isIface (P:Program) (t:TypeId):Option Bool:=(P.underlying t).map fun d=>d matches .interface _
def aAssert (P:Program) (x:D) (t:TypeId) (ok:Bool) (C:D -> Prop):Prop :=
 isIface P t = some false /\ match x with
  | .ifc s d=>if s = t then C (if ok then .tup [d,.v (.bool true)] else d) else (ok = true /\ ∃ z,zCy P t = some z /\ C (.tup [z,.v (.bool false)]))
  | .v .nilIface=>ok = true /\ ∃ z,zCy P t = some z /\ C (.tup [z,.v (.bool false)])
  | _=>False
def assert_sound {x:D} {v:Value} {xt t:TypeId} {ok:Bool} (hs:Sim own H X w) (hv:Rel own H X w x v) (h:aAssert P x t ok fun d=>C d H) :
  PureOut P own H X w (fun d=>C d H) (do pure (Next.value (<- Instr.typeAssert v xt t ok))):=by
 obtain ⟨hi,h⟩:=h
 obtain ⟨dd,hu,hni⟩:∃ dd,P.underlying t = some dd /\ ∀ ms,dd ≠ .interface ms:=by
  unfold isIface at hi
  cases hd:P.underlying t with
  | none=>simp [hd] at hi
  | some d=>exact ⟨d,rfl,fun ms hms=>by subst hms;simp [hd] at hi⟩
 have tup:∀ (ds:List D) (vs:List Value),zCL own H X w ds vs -> Rel own H X w (.tup ds) (.tuple vs.toArray):=fun ds vs hr=>by rw [Rel,VRel];exact ⟨vs,rfl,hr⟩
 have zero:∀ z,zCy P t = some z -> ∃ z',(∀ w':World,(zeroValue t).run P w' = .ok z' w') /\ Rel own H X w (.tup [z,.v (.bool false)]) (.tuple #[z',.bool false]):=fun z hz=>by
  obtain ⟨z',h1,rfl⟩:=run_zeroValue'' hz
  exact ⟨z',h1,tup _ [_,_] (by simp only [zCL,VRels];exact ⟨_,_,rfl,Rel_zero z' fun _ _ _ _=>trivial,_,_,rfl,by simp [VRel],rfl⟩)⟩
 split at h
 ·rename_i s d
  rw [Rel,VRel] at hv;obtain ⟨y,rfl,hy⟩:=hv
  split at h
  ·rename_i hst;subst hst
   refine ⟨if ok then .tuple #[y,.bool true] else y,_,fun w'=>?_,?_,h⟩
   ·cases dd <;> first | exact absurd rfl (hni _) | (cases ok <;> simp [Instr.typeAssert,zAC hu])
   ·cases ok
    ·simpa using hy
    ·exact tup _ [_,_] (by simp only [zCL,VRels];exact ⟨_,_,rfl,hy,_,_,rfl,by simp [VRel],rfl⟩)
  ·rename_i hst
   obtain ⟨rfl,z,hz,hc⟩:=h
   obtain ⟨z',h1,h2⟩:=zero z hz
   exact ⟨_,_,fun w'=>by cases dd <;> first | exact absurd rfl (hni _) | (simp [Instr.typeAssert,zAC hu,hst,h1] <;> rfl),h2,hc⟩
 ·obtain ⟨rfl,z,hz,hc⟩:=h
  rw [zCE] at hv;subst hv
  obtain ⟨z',h1,h2⟩:=zero z hz
  exact ⟨_,_,fun w'=>by cases dd <;> first | exact absurd rfl (hni _) | (simp [Instr.typeAssert,zAC hu,h1] <;> rfl),h2,hc⟩
 ·exact h.elim
def methOf (P:Program) (t:TypeId) (name:String):Option (FuncId × Option TypeId) :=
 (P.info? t).bind fun i=>(i.methods.find? (·.name == name)).bind fun m=>if m.path.toList = [] then m.func.bind fun fp =>
  match P.underlying t,fp.2 with
  | some (.pointer _),true=>some (fp.1,none)
  | some (.pointer el),false=>some (fp.1,some el)
  | some _,false=>some (fp.1,none)
  | _,_=>none else none
def recvOf (P:Program) (H:Heap) (x:D) (name:String):Option (FuncId × D) :=
 match x with
 | .ifc t d=>(methOf P t name).bind fun fp=>match fp.2 with | none=>some (fp.1,d) | some el=>(ldD P el H d).map fun y=>(fp.1,y)
 | _=>none
def recv_run {x:D} {v:Value} {name:String} {g:FuncId} {d:D} (hs:Sim own H X w) (hv:Rel own H X w x v) (h:recvOf P H x name = some (g,d)) (args:Array Value) :
  ∃ y,Rel own H X w d y /\ (callMethod v name args).run P w = (callFunc g (#[y] ++ args)).run P w:=by
 unfold recvOf at h
 split at h
 rotate_left
 ·simp at h
 rename_i t x
 simp only [yAn] at h
 obtain ⟨⟨f,el⟩,h1,h2⟩:=h
 unfold methOf at h1
 simp only [yAn] at h1
 obtain ⟨i,hi,m,hm,h1⟩:=h1
 split at h1
 rotate_left
 ·simp at h1
 rename_i hpath
 simp only [yAn] at h1
 obtain ⟨⟨f',ptr⟩,hf,h1⟩:=h1
 rw [Rel,VRel] at hv;obtain ⟨y,rfl,hy⟩:=hv
 have hmeth:∀ r,(receiverAt t (.val y) ptr (if m.path.isEmpty then some ((name.splitOn ".").getLastD name) else none)).run P w = .ok r w -> (callMethod (.iface t y) name args).run P w = (callFunc f' (#[r] ++ args)).run P w:=fun r hr=>by
  have:∀ n,(method (n + 1) t y name).run P w = .ok (f',r) w:=fun n=>by
   simp only [method,Sem.run_bind,zCB hi,Result.andThen_ok,hm,hpath,follow,Sem.run_pure,hf,hr]
  have hd:∃ n,P.types.size + Made.depth = n + 1:=⟨P.types.size + Made.depth - 1,by simp [Made.depth]⟩
  obtain ⟨n,hn⟩:=hd
  simp only [callMethod,Sem.run_bind,run_program,Result.andThen_ok,hn,this]
 split at h1
 ·rename_i el' hu hp
  simp only [yAH,yBX] at h1;obtain ⟨rfl,rfl⟩:=h1
  simp only [yAH,yBX] at h2;obtain ⟨rfl,rfl⟩:=h2
  simp only at hp;subst hp
  exact ⟨y,hy,hmeth y (by simp [receiverAt,zAC hu,Place.get])⟩
 ·rename_i el' hu hp
  simp only [yAH,yBX] at h1;obtain ⟨rfl,rfl⟩:=h1
  simp only [yAb,yBX] at h2
  obtain ⟨d',h3,rfl,rfl⟩:=h2
  simp only at hp;subst hp
  obtain ⟨z,h4,h5⟩:=load_sound (P:=P) hs hy h3
  have h4':=h4 w (fun _ _=>rfl)
  refine ⟨z,h5,hmeth z ?_⟩
  have hpt:∃ a,y = .pointer (some a) /\ (loadVar el' a).run P w = .ok z w:=by
   unfold Instr.loadAt Instr.sureAddr at h4'
   cases y with
   | pointer o=>cases o with
    | none=>simp at h4'
    | some a=>exact ⟨a,rfl,by simpa using h4'⟩
   | _=>simp at h4'
  obtain ⟨a,rfl,h6⟩:=hpt
  simp only [receiverAt,Sem.run_bind,zAC hu,Result.andThen_ok,Place.get,Sem.run_pure]
  have hw:∀ nm:String,(Builtin.ssaWrapNilChk_ #[t] t #[.pointer (some a),strVal "",strVal nm]).run P w = .ok (.pointer (some a)) w:=fun nm=>rfl
  split
  ·simp only [Sem.run_bind,hw,Result.andThen_ok,asAddr,Sem.run_pure,h6]
  ·simp only [Sem.run_bind,Result.andThen_ok,asAddr,Sem.run_pure,h6]
 ·rename_i dd hne hu hp
  simp only [yAH,yBX] at h1;obtain ⟨rfl,rfl⟩:=h1
  simp only [yAH,yBX] at h2;obtain ⟨rfl,rfl⟩:=h2
  simp only at hp;subst hp
  refine ⟨y,hy,hmeth y ?_⟩
  simp only [receiverAt,Sem.run_bind,zAC hu,Result.andThen_ok]
  cases dd <;> first | (simp [Place.get];done) | exact absurd rfl (by simpa using hne _)
 ·simp at h1
def ExtS (P:Program) (g:FuncId) (ds:List D) (H:Heap) (C:D -> Heap -> Prop):Prop :=
 ∀ own X w vs,Sim own H X w -> zCL own H X w ds vs -> ∃ v d,(callFunc g vs.toArray).run P w = .ok (.value v) w /\ Rel own H X w d v /\ C d H
end
end Go.Ab
namespace Go.Ab
variable [Go.Ab.DM]
def zDM:List D -> Option (List UInt8)
 | []=>some []
 | d :: r=>match d with
  | .v (.int .u8 n)=>(zDM r).map (UInt8.ofNat n.toNat :: ·)
  | _=>none
def bytesV:List Value -> Option (List UInt8)
 | []=>some []
 | v :: r=>match v with
  | .int .u8 n=>(bytesV r).map (UInt8.ofNat n.toNat :: ·)
  | _=>none
def bytesOf_cons {d:D} {r:List D} {bs:List UInt8} (h:zDM (d :: r) = some bs):∃ n cs,d = .v (.int .u8 n) /\ zDM r = some cs /\ bs = UInt8.ofNat n.toNat :: cs:=by
 unfold zDM at h
 split at h
 ·rename_i n
  cases hb:zDM r with
  | none=>rw [hb] at h;cases h
  | some cs=>rw [hb] at h;exact ⟨n,cs,rfl,rfl,(yAA h).symm⟩
 ·cases h
section
variable {P:Program} {X:Nat -> Prop} {own:Nat -> Own} {H:Heap} {w:World}
def bytes_vals {n:Nat} {U:Nat -> Prop}:∀ {ds:List D} {vs:List Value} {bs:List UInt8},zDM ds = some bs -> VRels own U w n ds vs -> bytesV vs = some bs
 | [],vs,bs,h,hv=>by simp [VRels] at hv;subst hv;simpa [zDM,bytesV] using h
 | d :: ds,vs,bs,h,hv=>by
  rw [VRels] at hv;obtain ⟨x,xs,rfl,h1,h2⟩:=hv
  obtain ⟨k,cs,rfl,h3,rfl⟩:=bytesOf_cons h
  rw [VRel] at h1
  subst h1
  simp only [bytesV,bytes_vals h3 h2,yBU]
def push_go (f:Value -> ByteArray -> Sem (ForInStep ByteArray)) (hf:∀ n acc (w:World),(f (.int .u8 n) acc).run P w = .ok (.yield (acc.push (UInt8.ofNat n.toNat))) w) :
  ∀ (vs:List Value) (bs:List UInt8) (acc:ByteArray) (w':World),bytesV vs = some bs -> (forIn vs acc f).run P w' = .ok ⟨acc.data ++ bs.toArray⟩ w'
 | [],bs,acc,w',h=>by simp [bytesV] at h;subst h;simp
 | v :: vs,bs,acc,w',h=>by
  unfold bytesV at h
  split at h
  ·rename_i n
   cases hb:bytesV vs with
   | none=>rw [hb] at h;cases h
   | some cs =>
    rw [hb] at h
    have:=yAA h;subst this
    rw [List.forIn_cons]
    simp only [Sem.run_bind,hf,Result.andThen_ok]
    rw [push_go f hf vs cs _ w' hb]
    simp [ByteArray.push]
  ·cases h
def bytes_cells:∀ {ds:List D} {bs:List UInt8},zDM ds = some bs -> ds.flatMap D.cells = ds
 | [],bs,h=>rfl
 | d :: ds,bs,h=>by
  obtain ⟨k,cs,rfl,h3,rfl⟩:=bytesOf_cons h
  rw [yAj,bytes_cells h3];rfl
def bytes_run {x:D} {v:Value} {ys:List D} {bs:List UInt8} (hs:Sim own H X w) (hx:Rel own H X w x v) (h:zBY H 1 x = some ys) (hb:zDM ys = some bs) :
  ∀ w':World,(∀ b,b < w.heap.size -> w'.heap[b]? = w.heap[b]?) -> (Conv.bytesToString v).run P w' = .ok (.string ⟨bs.toArray⟩) w':=by
 have go:∀ (b off c:Nat) (ds:List D) (U:Nat -> Prop) (n:Nat),b < w.heap.size -> Cells own U w n 1 ds b off -> zDM ds = some bs -> ∀ w':World,(∀ b,b < w.heap.size -> w'.heap[b]? = w.heap[b]?) -> (Conv.bytesToString (.slice (some ⟨b,off,none⟩) ds.length c)).run P w' = .ok (.string ⟨bs.toArray⟩) w':=by
  intro b off c ds U n hbl hc hbs w' hw'
  obtain ⟨hwd,hf⟩:=Cells_flat.1 hc
  rw [bytes_cells hbs] at hf
  obtain ⟨h0,vs,h1,h2⟩:=Flat_values.1 hf
  have hl:=zAi h1
  have hload:=run_loadCells_list (P:=P) (w:=w') ⟨b,off,none⟩ vs fun j v hj=>by
   rw [zCf,zCD (w:=w) (w':=w') (hw' b hbl),h2 j (yBW.1 hj).1,hj]
  rw [hl] at hload
  simp only [Conv.bytesToString,Sem.run_bind,hload,Result.andThen_ok,Sem.run_pure]
  rw [List.forIn_toArray,push_go (P:=P) _ (fun n acc w=>by simp) vs bs ByteArray.empty w' (bytes_vals hbs h1)]
  simp
 have nil:zDM [] = some bs -> bs = []:=fun h=>by simpa [zDM] using h
 intro w' hw'
 unfold zBY at h
 split at h
 ·have:=yAA h;subst this
  rw [nil hb]
  rw [zCE] at hx;subst hx
  simp [Conv.bytesToString];rfl
 ·rename_i k' xs
  split at h
  ·rename_i hk;subst hk
   have:=yAA h;subst this
   rw [Rel,VRel] at hx;obtain ⟨a,c,rfl,h1,h2⟩:=hx
   by_cases h0:xs.length = 0
   ·have:xs = []:=yAx h0
    subst this
    rw [nil hb]
    cases a <;> simp [Conv.bytesToString,loadCells,loadCellsFrom] <;> rfl
   ·obtain ⟨b,off,rfl,h3,h4⟩:=h2 h0
    exact go b off c xs _ _ h3.1 h4 hb w' hw'
  ·cases h
 ·rename_i r i m
  split at h
  ·rename_i k' xs hg
   split at h
   ·rename_i hk;obtain ⟨rfl,hle⟩:=hk
    have:=yAA h;subst this
    rw [Rel,VRel] at hx;obtain ⟨hr,off,c,rfl,h1,h2⟩:=hx
    have hrow:=(hs.live r _ hg).1
    have hlt:=hrow.lt
    obtain ⟨hk1,cc,ty,h3,h4,h5,h6⟩:=hrow
    have hlen:((xs.drop i).take m).length = m:=by simp;omega
    have h8:=Cells_mid h6 hle
    by_cases h0:c = 0
    ·have hm:m = 0:=by omega
     subst hm
     rw [List.take_zero] at hb
     rw [nil hb]
     simp [Conv.bytesToString,loadCells,loadCellsFrom];rfl
    ·obtain ⟨e1,_⟩:=h2 h0
     rw [<- hk1] at e1
     subst e1
     have:=go _ _ c _ _ _ hlt h8 hb w' hw'
     rw [hlen] at this;exact this
   ·cases h
  ·cases h
 ·cases h
def aConvB (P:Program) (s t:TypeId) (H:Heap) (x:D) (C:D -> Prop):Prop :=
 match P.underlying s,P.underlying t with
 | some (.slice e),some .string=>P.underlying e = some (.int .u8) /\ ∃ ys bs,zBY H 1 x.wk = some ys /\ zDM ys = some bs /\ C (.v (.string ⟨bs.toArray⟩))
 | _,_=>False
def aConvL (P:Program) (s t:TypeId) (H:Heap) (x:D) (C:D -> Prop):Prop :=
 match x with
 | .v (.slice none 0 0)=>aConvB P s t H x C
 | .v _=>aConv P s t x C
 | x=>aConvB P s t H x C
def convB_sound {s t:TypeId} {x:D} {v:Value} {D1:D -> Prop} (hs:Sim own H X w) (hv:Rel own H X w x v) (h:aConvB P s t H x D1) :
  ∃ y d,(∀ w':World,(∀ b,b < w.heap.size -> w'.heap[b]? = w.heap[b]?) -> (convert s t v).run P w' = .ok y w') /\ Rel own H X w d y /\ D1 d:=by
 unfold aConvB at h
 split at h
 ·rename_i e hu1 hu2
  obtain ⟨h1,ys,bs,h2,h3,h4⟩:=h
  have hr:=bytes_run (P:=P) hs (Rel_wk hv) h2 h3
  refine ⟨.string ⟨bs.toArray⟩,_,fun w' hw'=>?_,by rw [Rel,VRel],h4⟩
  have hsl:∃ a l c,v = .slice a l c:=by
   have hw:=Rel_wk hv
   unfold zBY at h2
   split at h2
   ·rename_i he;rw [he,zCE] at hw;exact ⟨_,_,_,hw⟩
   ·rename_i he;rw [he,Rel,VRel] at hw;obtain ⟨a,c,hw,_⟩:=hw;exact ⟨_,_,_,hw⟩
   ·rename_i he;rw [he,Rel,VRel] at hw;obtain ⟨_,off,c,hw,_⟩:=hw;exact ⟨_,_,_,hw⟩
   ·cases h2
  obtain ⟨a,l,c,rfl⟩:=hsl
  have hr:=hr w' hw'
  cases a with
  | none=>simp only [convert,Sem.run_bind,zAC hu1,zAC hu2,Result.andThen_ok,zAC h1];exact hr
  | some a=>simp only [convert,Sem.run_bind,zAC hu1,zAC hu2,Result.andThen_ok,zAC h1];exact hr
 ·exact h.elim
def convL_sound {s t:TypeId} {x:D} {v:Value} {D1:D -> Prop} (hs:Sim own H X w) (hv:Rel own H X w x v) (h:aConvL P s t H x D1) :
  ∃ y d,(∀ w':World,(∀ b,b < w.heap.size -> w'.heap[b]? = w.heap[b]?) -> (convert s t v).run P w' = .ok y w') /\ Rel own H X w d y /\ D1 d:=by
 unfold aConvL at h
 split at h
 ·exact convB_sound hs hv h
 ·rename_i y _
  unfold aConv at h
  split at h
  ·rename_i k0 n0 he
   cases he
   split at h
   ·rename_i k ht
    obtain ⟨hs',hc⟩:=h
    rw [zCE] at hv;subst hv
    obtain ⟨d,hd⟩:=Option.isSome_iff_exists.1 hs'
    exact ⟨.int k (k.wrap n0),_,fun w' _=>by simp [convert,zAC hd,zAC ht,Conv.intToInt],by rw [Rel,VRel],hc⟩
   ·exact h.elim
  ·rename_i b0 he
   cases he
   split at h
   ·rename_i h1 h2
    rw [zCE] at hv;subst hv
    exact ⟨.string b0,_,fun w' _=>by simp [convert,zAC h1,zAC h2],by rw [Rel,VRel],h⟩
   ·exact h.elim
  ·exact h.elim
 ·exact convB_sound hs hv h
end
end Go.Ab
namespace Go.Ab
variable [Go.Ab.DM]
def aPick (c a b:D) (C:D -> Prop):Prop:=match c with | .v (.bool t)=>C (if t then a else b) | _=>False
def zCl (x:D) (C:D -> Prop):Prop:=match x with
 | .pt r i o=>C (.pt r i o)
 | .fp k xs i o=>C (.fp k xs i o)
 | .fn (.func g) fs cs=>C (.fn (.func g) fs cs)
 | _=>False
def zBd (P:Program) (t:TypeId) (H:Heap) (x:D):Prop :=
 match zBI P t with
 | some e=>∃ k,tsz P e = some k /\ (match x with | .sl r _ _=>∃ xs,H.get r = some (.cells k xs) | _=>True)
 | none=>(match x with | .sl _ _ _=>False | _=>True)
def aIndex (P:Program) (t:TypeId) (x ix:D) (C:D -> Prop):Prop :=
 match P.underlying t,x,ix with
 | some .string,.v (.string s),.v (.int _ j)=>(0 <= j /\ j < s.size) /\ C (.v (.int .u8 (s.get! j.toNat).toNat))
 | some (.array len e),.agg cs,.v (.int _ j)=>(0 <= j /\ j < len) /\ ∃ tg sz d,tag P e = some tg /\ tsz P e = some sz /\ zBV tg sz (.agg cs) (j.toNat * sz) = some d /\ C d
 | _,_,_=>False
def aMakeIface (P:Program) (t:TypeId) (x:D) (C:D -> Prop):Prop :=
 match P.underlying t with
 | some (.interface _)=>False
 | some _=>C (.ifc t x)
 | none=>False
def aMinMax (isMax:Bool):List D -> (D -> Prop) -> Prop
 | [.v (.int k a),.v (.int _ b)],C=>C (.v (.int k (if (if isMax then decide (b > a) else decide (b < a)) then b else a)))
 | _,_=>False
def zAk (P:Program) (b:Builtin) (ts:Array TypeId) (args:List D) (C:D -> Prop):Prop :=
 match b,args with
 | .len,[x]=>∃ t,ts[0]? = some t /\ aLen P t [] x C
 | .cap,[x]=>∃ t,ts[0]? = some t /\ aCap P t x C
 | .max,l=>aMinMax true l C
 | .min,l=>aMinMax false l C
 | _,_=>False
def mapNil:D -> Option Bool | .mp _=>some false | .v (.map none)=>some true | _=>none
def ptrNil:D -> Option Bool | .pt _ _ _=>some false | .fp _ _ _ _=>some false | .v (.pointer none)=>some true | _=>none
def aRefNil (ok:Prop) (op:BinOp) (b:Option Bool) (C:D -> Prop):Prop:=ok /\ ∃ c,b = some c /\ match op with | .eql=>C (.v (.bool c)) | .neq=>C (.v (.bool !c)) | _=>False
def zCx (P:Program) (op:BinOp) (t:TypeId) (x y:D) (C:D -> Prop):Prop :=
 match y with
 | .v (.slice none 0 0)=>aNilEq P op t x C
 | .v (.map none)=>aRefNil (∃ k e,P.underlying t = some (.map k e)) op (mapNil x) C
 | .v (.pointer none)=>aRefNil (∃ e,P.underlying t = some (.pointer e)) op (ptrNil x) C
 | .agg ys=>(match x with | .agg xs=>aEqAgg P op t xs ys C | _=>False)
 | y=>aBin P op t x y C
def apure (P:Program) (o:Oper) (e:Env) (C:D -> Prop):Prop :=
 match o.op with
 | .move x=>C (ev e x)
 | .assign x=>C (ev e x)
 | .pick c a b=>aPick (ev e c) (ev e a) (ev e b) C
 | .build t ps=>aBuild P t (ps.toList.map fun p=>(p.1,ev e p.2)) C
 | .nilCheck x=>zCl (ev e x) C
 | .binOp op t x y _=>zCx P op t (ev e x) (ev e y) C
 | .unOp op _ x=>aUn op (ev e x) C
 | .makeFunc fn f c=>C (.fn fn (f.toList.map (ev e)) (c.toList.map (ev e)))
 | .makeInterface t x=>aMakeIface P t (ev e x) C
 | .typeAssert x _ t ok=>aAssert P (ev e x) t ok C
 | .fieldAddr s x f=>zAh P s (ev e x) f C
 | .field t x f=>aField P t (ev e x) f C
 | .index t x i=>aIndex P t (ev e x) (ev e i) C
 | .extract x i=>aExtract (ev e x) i C
 | .call ⟨.builtin b,args,ts⟩=>zAk P b ts (args.toList.map (ev e)) C
 | _=>False
def zCw (P:Program) (t:TypeId) (H:Heap) (x:D) (lo hi mx:Option D) (C:D -> Prop):Prop :=
 match x with
 | .slc r i m c=>mx = none /\ aSliceC P t H r i m c lo hi C
 | x=>zBd P t H x /\ zAx P t x lo hi mx C
def apureH (P:Program) (o:Oper) (e:Env) (H:Heap) (C:D -> Prop):Prop :=
 match o.op with
 | .slice t x lo hi mx=>zCw P t H (ev e x) (lo.map (ev e)) (hi.map (ev e)) (mx.map (ev e)) C
 | .indexAddr t x i=>zBC P t H (ev e x).wk (ev e i) C
 | _=>apure P o e C
def aMakeMap (P:Program) (t:TypeId) (r:Option D) (H:Heap) (C:D -> Heap -> Prop):Prop :=
 (match r with
 | none=>True
 | some (.v (.int _ _))=>(tmap P t).isSome = true
 | _=>False) /\ C (.mp H.length) (H ++ [some (.mp [] 0)])
def aKeep (P:Program) (o:Oper) (e:Env) (H:Heap) (C:D -> Heap -> Prop):Prop :=
 match o.op with
 | .alloc t=>aAlloc P t H C
 | .box _ x=>aBox (ev e x) H C
 | .buildSlice t n ps=>zBn P t n (ps.toList.map fun p=>(p.1,ev e p.2)) H C
 | .makeSlice t l c=>zCs P t (ev e l) (ev e c) H C
 | .makeMap t r=>aMakeMap P t (r.map (ev e)) H C
 | .range t x=>aRange P t (ev e x) H C
 | .call ⟨.value f,args,_⟩=>(match ev e f with
  | .fn (.func g) fs cs=>SoundK P g (fs ++ args.toList.map (ev e) ++ cs) H C \/ ExtS P g (fs ++ args.toList.map (ev e) ++ cs) H C
  | _=>False)
 | .call ⟨.invoke x name,args,_⟩=>∃ gd,recvOf P H (ev e x) name = some gd /\ SoundK P gd.1 (gd.2 :: args.toList.map (ev e)) H C
 | _=>False
def zBD (P:Program) (ts:Array TypeId) (args:List D) (H:Heap) (C:D -> Heap -> Prop):Prop :=
 match args with
 | [.slc r i m c,x]=>aAppendC P ts r i m c x H C
 | [s,x]=>aAppend P ts s x.wk H C
 | _=>False
def aMut (P:Program) (o:Oper) (e:Env) (H:Heap) (C:D -> Heap -> Prop):Prop :=
 match o.op with
 | .store t a x=>∃ H',stD P t H (ev e a) (ev e x) = some H' /\ C (.v undef) H'
 | .call ⟨.builtin .append,args,ts⟩=>zBD P ts (args.toList.map (ev e)) H C
 | .call ⟨.builtin .copy,args,ts⟩=>(match args.toList.map (ev e) with | [s,x]=>aCopy P ts s x H C | _=>False)
 | .call ⟨.builtin .delete,args,ts⟩=>(match args.toList.map (ev e) with | [s,x]=>aDelete P ts s x H C | _=>False)
 | .mapUpdate t m k x=>zBx P t (ev e m) (ev e k) (ev e x) H C
 | .next it b=>aNext b (ev e it) H C
 | .call ⟨.value f,args,_⟩=>(match ev e f with
  | .fn (.func g) fs cs=>Sound P g (fs ++ args.toList.map (ev e) ++ cs) H C \/ ExtS P g (fs ++ args.toList.map (ev e) ++ cs) H C
  | _=>False)
 | .call ⟨.invoke x name,args,_⟩=>∃ gd,recvOf P H (ev e x) name = some gd /\ Sound P gd.1 (gd.2 :: args.toList.map (ev e)) H C
 | _=>False
inductive OpKind where
 | pure | load | keep | wr
 deriving DecidableEq
def zAF (o:Oper):OpKind :=
 match o.op with
 | .load .. | .lookup .. | .entry .. | .convert ..=>.load
 | .alloc .. | .box .. | .buildSlice .. | .makeSlice .. | .makeMap .. | .range ..=>.keep
 | .store .. | .mapUpdate .. | .next ..=>.wr
 | .call ⟨.builtin .append,_,_⟩=>.wr
 | .call ⟨.builtin .copy,_,_⟩=>.wr
 | .call ⟨.builtin .delete,_,_⟩=>.wr
 | .call ⟨.builtin .len,_,_⟩=>.load
 | .call ⟨.value _,_,_⟩=>.wr
 | .call ⟨.invoke _ _,_,_⟩=>.wr
 | _=>.pure
def lenD (P:Program) (ts:Array TypeId) (H:Heap) (x:D):Option D :=
 (ts[0]?).bind fun t=>(P.underlying t).bind fun d=>match d,x with
  | .string,.v (.string s)=>some (.v (.int .i64 s.size))
  | .slice _,.fz _ xs=>some (.v (.int .i64 xs.length))
  | .slice _,.sl _ _ m=>some (.v (.int .i64 m))
  | .slice _,.slc _ _ m _=>some (.v (.int .i64 m))
  | .slice _,.v (.slice none 0 0)=>some (.v (.int .i64 0))
  | .map _ _,.mp r=>(match H.get r with | some (.mp es _)=>some (.v (.int .i64 es.length)) | _=>none)
  | _,_=>none
def aLoad (P:Program) (o:Oper) (e:Env) (H:Heap) (C:D -> Prop):Prop :=
 match o.op with
 | .load t a=>∃ d,ldD P t H (ev e a) = some d /\ C d
 | .lookup t m k ok=>∃ d,lkD P t H (ev e m) (ev e k) ok = some d /\ C d
 | .entry it=>∃ d,entD H (ev e it) = some d /\ C d
 | .convert s t x=>aConvL P s t H (ev e x) C
 | .call ⟨.builtin .len,args,ts⟩=>(match args.toList.map (ev e) with | [x]=>∃ d,lenD P ts H x = some d /\ C d | _=>False)
 | _=>False
def zDI (P:Program) (k:OpKind) (o:Oper) (e:Env) (H:Heap) (C:D -> Heap -> Prop):Prop :=
 match k with
 | .pure=>apureH P o e H fun d=>C d H
 | .load=>aLoad P o e H fun d=>C d H
 | .keep=>aKeep P o e H C
 | .wr=>aMut P o e H C
def aop (P:Program) (o:Oper) (e:Env) (H:Heap) (C:D -> Heap -> Prop):Prop:=zDI P (zAF o) o e H C
section
variable {P:Program} {X:Nat -> Prop} {own:Nat -> Own} {H:Heap} {w:World} {C:D -> Heap -> Prop} {e:Env}
def zDJ {ρ:Operand -> Value} (hρ:∀ x,Rel own H X w (ev e x) (ρ x)):∀ l:List Operand,zCL own H X w (l.map (ev e)) (l.map ρ)
 | []=>by simp [zCL,VRels]
 | x :: l=>by simp only [yAL,zCL,VRels];exact ⟨_,_,rfl,hρ x,zDJ hρ l⟩
def Rels_parts {ρ:Operand -> Value} (hρ:∀ x,Rel own H X w (ev e x) (ρ x)) (ps:Array (Nat × Operand)) :
  (ps.map fun (i,x)=>(i,ρ x)).toList.map (·.1) = (ps.toList.map fun p=>(p.1,ev e p.2)).map (·.1) /\ zCL own H X w ((ps.toList.map fun p=>(p.1,ev e p.2)).map (·.2)) ((ps.map fun (i,x)=>(i,ρ x)).toList.map (·.2)):=by
 constructor
 ·simp
 ·have:=zDJ hρ (ps.toList.map (·.2))
  simpa [Function.comp_def] using this
def index_sound {t:TypeId} {x ix:D} {v u:Value} (hs:Sim own H X w) (hv:Rel own H X w x v) (hu:Rel own H X w ix u) (h:aIndex P t x ix fun d=>C d H) :
  PureOut P own H X w (fun d=>C d H) (do pure (Next.value (<- Instr.index t v u))):=by
 unfold aIndex at h
 split at h
 ·rename_i s k j ht
  obtain ⟨⟨h0,h1⟩,hc⟩:=h
  rw [zCE] at hv hu;subst hv;subst hu
  have hlt:j.toNat < s.size:=by omega
  have hg:s[j.toNat]? = some (s.get! j.toNat):=by
   rw [getElem?_pos s j.toNat hlt];simp [ByteArray.get!,ByteArray.getElem_eq_getElem_data]
   rw [getElem!_pos s.data j.toNat hlt]
  exact zBE _ (fun w'=>by simp [Instr.index,asIntOf,zAC ht,h0,hg]) hc
 ·rename_i len e' cs k j ht
  obtain ⟨⟨h0,h1⟩,tg,sz,d,htg,hsz,hp,hc⟩:=h
  rw [zCE] at hu;subst hu
  rw [Rel,VRel] at hv;obtain ⟨vs,rfl,h2⟩:=hv
  obtain ⟨y,h3,h4⟩:=part_sound (own:=own) (H:=H) (X:=X) htg hsz h2 hp
  exact ⟨_,_,fun w'=>by simp [Instr.index,asIntOf,zAC ht,h0,h1,zAn hsz,h3] <;> rfl,h4,hc⟩
 ·exact h.elim
def minmax_sound {isMax:Bool} {ts:Array TypeId} {ty:TypeId} {l:List D} {vs:List Value} (hs:Sim own H X w) (hv:zCL own H X w l vs) (h:aMinMax isMax l fun d=>C d H) :
  PureOut P own H X w (fun d=>C d H) (do pure (Next.value (<- if isMax then Builtin.max_ ts ty vs.toArray else Builtin.min_ ts ty vs.toArray))):=by
 unfold aMinMax at h
 split at h
 ·rename_i k a k' b _ _
  simp only [zCL,VRels,VRel] at hv
  obtain ⟨_,_,rfl,rfl,_,_,rfl,rfl,rfl⟩:=hv
  refine zBE _ (fun w'=>?_) h
  cases isMax <;> simp [Builtin.max_,Builtin.min_,Builtin.max2,Builtin.min2]
 ·exact h.elim
def builtinP_sound {b:Builtin} {ts:Array TypeId} {ty:TypeId} {cs:Array Bool} {l:List D} {vs:List Value} (hs:Sim own H X w) (hv:zCL own H X w l vs) (h:zAk P b ts l fun d=>C d H) :
  PureOut P own H X w (fun d=>C d H) (builtin b ts ty cs vs.toArray):=by
 unfold zAk at h
 split at h
 ·obtain ⟨t,ht,h⟩:=h
  simp only [zCL,VRels] at hv
  obtain ⟨v,_,rfl,hv,rfl⟩:=hv
  exact len_sound ht hs hv h
 ·obtain ⟨t,ht,h⟩:=h
  simp only [zCL,VRels] at hv
  obtain ⟨v,_,rfl,hv,rfl⟩:=hv
  exact cap_sound ht hs hv h
 ·exact minmax_sound (isMax:=true) hs hv h
 ·exact minmax_sound (isMax:=false) hs hv h
 ·exact h.elim
def apure_sound {o:Oper} {C:D -> Prop} {ρ:Operand -> Value} (hs:Sim own H X w) (hρ:∀ x,Rel own H X w (ev e x) (ρ x)) (h:apureH P o e H C):PureOut P own H X w C (execOp ρ o):=by
 unfold apureH at h
 split at h
 ·rename_i t x lo hi mx ho
  simp only [execOp,ho]
  have some_of:∀ (q:Option Operand) (d:D),q.map (ev e) = some d -> ∃ v,q.map ρ = some v /\ Rel own H X w d v:=fun q d hq=>by
   cases q with
   | none=>simp at hq
   | some y=>simp at hq;subst hq;exact ⟨ρ y,rfl,hρ y⟩
  have none_of:∀ (q:Option Operand),q.map (ev e) = none -> q.map ρ = none:=fun q hq=>by cases q <;> simp at hq ⊢
  unfold zCw at h
  split at h
  ·rename_i r i m c hx
   obtain ⟨hm,h⟩:=h
   have hmx:=none_of mx hm
   rw [hmx]
   have hrx:=hρ x
   rw [hx] at hrx
   exact sliceC_sound hs hrx (some_of lo) (none_of lo) (some_of hi) (none_of hi) h
  obtain ⟨hok,h⟩:=h
  refine slice_sound (C:=fun d _=>C d) hs (hρ x) (some_of lo) (none_of lo) (some_of hi) (none_of hi) (none_of mx) ?_ ?_ h
  ·intro e' he'
   unfold zBd at hok
   rw [he'] at hok
   obtain ⟨k,hk,hm⟩:=hok
   refine ⟨k,hk,fun r kk xs i m hx hg=>?_⟩
   rw [hx] at hm
   obtain ⟨xs',hg'⟩:=hm
   exact (hs.live r _ hg').1.1
  ·intro r i m hx
   unfold zBd at hok
   rw [hx] at hok
   split at hok
   ·obtain ⟨k,hk,xs,hg⟩:=hok;exact ⟨k,xs,hg⟩
   ·exact hok.elim
 ·rename_i t x i ho;simp only [execOp,ho];exact indexAddr_sound (C:=fun d _=>C d) hs (Rel_wk (hρ x)) (hρ i) h
 unfold apure at h
 split at h
 ·rename_i x ho;exact ⟨ρ x,_,fun w'=>by simp [execOp,ho],hρ x,h⟩
 ·rename_i x ho;exact ⟨ρ x,_,fun w'=>by simp [execOp,ho],hρ x,h⟩
 ·rename_i c a b ho
  unfold aPick at h
  split at h
  ·rename_i t ht
   have hc:=hρ c
   rw [ht,zCE] at hc
   cases t
   ·exact ⟨ρ b,_,fun w'=>by simp [execOp,ho,hc,asBool],hρ b,h⟩
   ·exact ⟨ρ a,_,fun w'=>by simp [execOp,ho,hc,asBool],hρ a,h⟩
  ·exact h.elim
 ·rename_i t ps ho
  simp only [execOp,ho]
  obtain ⟨h1,h2⟩:=Rels_parts hρ ps
  exact build_sound (C:=fun d _=>C d) hs h1 h2 h
 ·rename_i x ho
  have hx:=hρ x
  unfold zCl at h
  split at h
  ·rename_i r i o' he;rw [he,Rel,VRel] at hx;obtain ⟨h1,h2⟩:=hx;exact ⟨_,_,fun w'=>by simp only [execOp,ho,h2] <;> rfl,by rw [Rel,VRel];exact ⟨h1,rfl⟩,h⟩
  ·rename_i k xs i o' he;rw [he,Rel,VRel] at hx;obtain ⟨b,off,h2,h3,h4⟩:=hx;exact ⟨_,_,fun w'=>by simp only [execOp,ho,h2] <;> rfl,by rw [Rel,VRel];exact ⟨b,off,rfl,h3,h4⟩,h⟩
  ·rename_i g fs cs he;rw [he,Rel,VRel] at hx;obtain ⟨vs,us,h2,h3,h4⟩:=hx;exact ⟨_,_,fun w'=>by simp only [execOp,ho,h2] <;> rfl,by rw [Rel,VRel];exact ⟨vs,us,rfl,h3,h4⟩,h⟩
  ·exact h.elim
 ·rename_i op t x y yt ho
  simp only [execOp,ho]
  have hx:=hρ x
  have hy:=hρ y
  unfold zCx at h
  split at h
  ·rename_i hyd
   rw [hyd,zCE] at hy;rw [hy]
   exact nilEq_sound (C:=fun d _=>C d) hs hx h
  ·rename_i hyd
   rw [hyd,zCE] at hy;rw [hy]
   obtain ⟨⟨kt,el,hu⟩,b,hb,h⟩:=h
   have hv:∃ m:Option Nat,ρ x = .map m /\ b = m.isNone:=by
    generalize ev e x = dx at hb hx
    unfold mapNil at hb
    split at hb
    ·rw [Rel,VRel] at hx;exact ⟨_,hx.2,(yAA hb).symm⟩
    ·rw [zCE] at hx;exact ⟨none,hx,(yAA hb).symm⟩
    ·cases hb
   obtain ⟨m,hm,rfl⟩:=hv
   have key:∀ (w':World) d,(Op.equalIn (d + 1) t (.map m) (.map none)).run P w' = .ok m.isNone w':=fun w' d=>by cases m <;> simp [Op.equalIn,zAC hu]
   have he:∀ w':World,(Op.equal t (.map m) (.map none)).run P w' = .ok m.isNone w':=fun w'=>key w' 9999
   rw [hm]
   cases op <;> first | exact h.elim | exact zBE (C:=fun d _=>C d) _ (fun w'=>by simp [eqGuard,binOp,he]) h
  ·rename_i hyd
   rw [hyd,zCE] at hy;rw [hy]
   obtain ⟨⟨el,hu⟩,b,hb,h⟩:=h
   have hv:∃ m:Option Addr,ρ x = .pointer m /\ b = m.isNone:=by
    generalize ev e x = dx at hb hx
    unfold ptrNil at hb
    split at hb
    ·rw [Rel,VRel] at hx;exact ⟨_,hx.2,(yAA hb).symm⟩
    ·rw [Rel,VRel] at hx;obtain ⟨_,_,h1,_⟩:=hx;exact ⟨_,h1,(yAA hb).symm⟩
    ·rw [zCE] at hx;exact ⟨none,hx,(yAA hb).symm⟩
    ·cases hb
   obtain ⟨m,hm,rfl⟩:=hv
   have key:∀ (w':World) d,(Op.equalIn (d + 1) t (.pointer m) (.pointer none)).run P w' = .ok m.isNone w':=fun w' d=>by cases m <;> simp [Op.equalIn,zAC hu]
   have he:∀ w':World,(Op.equal t (.pointer m) (.pointer none)).run P w' = .ok m.isNone w':=fun w'=>key w' 9999
   rw [hm]
   cases op <;> first | exact h.elim | exact zBE (C:=fun d _=>C d) _ (fun w'=>by simp [eqGuard,binOp,he]) h
  ·rename_i ys hyd
   split at h
   ·rename_i xs hxd
    rw [hyd] at hy;rw [hxd] at hx
    exact eqAgg_sound (C:=fun d _=>C d) hs hx hy h
   ·exact h.elim
  ·exact bin_sound (C:=fun d _=>C d) hs hx hy h
 ·rename_i op t x ho;simp only [execOp,ho];exact un_sound (C:=fun d _=>C d) hs (hρ x) h
 ·rename_i fn f c ho
  refine ⟨.func fn (f.map ρ) (c.map ρ),_,fun w'=>by simp [execOp,ho,Instr.makeFunc],?_,h⟩
  rw [Rel,VRel]
  exact ⟨f.toList.map ρ,c.toList.map ρ,by congr 1 <;> (apply Array.ext';simp),zDJ hρ _,zDJ hρ _⟩
 ·rename_i t x ho
  unfold aMakeIface at h
  split at h
  ·exact h.elim
  ·rename_i d hd hu
   have:∀ w':World,(Instr.makeInterface t (ρ x)).run P w' = .ok (.iface t (ρ x)) w':=fun w'=>by
    simp only [Instr.makeInterface,Sem.run_bind,zAC hu,Result.andThen_ok]
    cases d <;> first | rfl | exact absurd rfl (hd _)
   exact ⟨_,_,fun w'=>by simp only [execOp,ho,Sem.run_bind,this,Result.andThen_ok,Sem.run_pure] <;> rfl,by rw [Rel,VRel];exact ⟨_,rfl,hρ x⟩,h⟩
  ·exact h.elim
 ·rename_i x xt t ok ho;simp only [execOp,ho];exact assert_sound (C:=fun d _=>C d) hs (hρ x) h
 ·rename_i s x f ho;simp only [execOp,ho];exact fieldAddr_sound (C:=fun d _=>C d) hs (hρ x) h
 ·rename_i t x f ho;simp only [execOp,ho];exact field_sound (C:=fun d _=>C d) hs (hρ x) h
 ·rename_i t x i ho;simp only [execOp,ho];exact index_sound (C:=fun d _=>C d) hs (hρ x) (hρ i) h
 ·rename_i x i ho;simp only [execOp,ho];exact extract_sound (C:=fun d _=>C d) hs (hρ x) h
 ·rename_i b args ts ho
  have hargs:=zDJ hρ args.toList
  have e1:(args.toList.map ρ).toArray = args.map ρ:=by apply Array.ext';simp
  obtain ⟨v,d,h1,h2,h3⟩:=builtinP_sound (C:=fun d _=>C d) (ty:=o.type) (cs:=args.map fun | .const _=>true | _=>false) hs hargs h
  refine ⟨v,d,fun w'=>?_,h2,h3⟩
  rw [e1] at h1
  simp only [execOp,ho,resolve,Sem.run_bind,Sem.run_pure,Result.andThen_ok,invoke]
  exact h1 w'
 ·exact h.elim
def OpOutK (P:Program) (X:Nat -> Prop) (own:Nat -> Own) (H:Heap) (w:World) (C:D -> Heap -> Prop):Result Next -> Prop
 | .ok (.value v) w1=>∃ own1 d H1,Sim own1 H1 X w1 /\ Rel own1 H1 X w1 d v /\ (Ext X own H w own1 H1 w1 /\ ∀ b,b < w.heap.size -> w1.heap[b]? = w.heap[b]?) /\ C d H1
 | .ok (.enter f args) w1=>Calls P f args w1 fun e w'=>∃ own1 d H1 v,e = .returned v /\ Sim own1 H1 X w' /\ Rel own1 H1 X w' d v /\ (Ext X own H w own1 H1 w' /\ ∀ b,b < w.heap.size -> w'.heap[b]? = w.heap[b]?) /\ C d H1
 | _=>False
def OpOutK.out {C:D -> Heap -> Prop} {r:Result Next} (h:OpOutK P X own H w C r):OpOut P X own H w C r:=by
 unfold OpOutK at h
 split at h
 ·obtain ⟨a,b,c,h1,h2,h3,h4⟩:=h;exact ⟨a,b,c,h1,h2,h3.1,h4⟩
 ·exact Calls.mono h fun e w' ⟨a,b,c,v,h0,h1,h2,h3,h4⟩=>⟨a,b,c,v,h0,h1,h2,h3.1,h4⟩
 ·exact h.elim
def zDQ {C:D -> Heap -> Prop} {v:Value} {o:Obj} (h:OpOut P X own H w C (.ok (.value v) { w with heap:=w.heap.push o })):OpOutK P X own H w C (.ok (.value v) { w with heap:=w.heap.push o }):=by
 obtain ⟨a,b,c,h1,h2,h3,h4⟩:=h
 exact ⟨a,b,c,h1,h2,⟨h3,fun b hb=>by simp [Array.getElem?_push,Nat.ne_of_lt hb]⟩,h4⟩
def invoke_run {f:Operand} {args:Array Operand} {ts:Array TypeId} {g:FuncId} {fs cs:List D} {o:Oper} {ρ:Operand -> Value} (ho:o.op = .call ⟨.value f,args,ts⟩) (hρ:∀ x,Rel own H X w (ev e x) (ρ x)) (hf:ev e f = .fn (.func g) fs cs) (hc:callable P g) :
  ∃ vs,zCL own H X w (fs ++ args.toList.map (ev e) ++ cs) vs /\ (execOp ρ o).run P w = .ok (.enter g vs.toArray) w:=by
 obtain ⟨fn,h1,h2,h3⟩:=hc
 have hr:=hρ f
 rw [hf,Rel,VRel] at hr
 obtain ⟨vs,us,hfv,h4,h5⟩:=hr
 have hargs:=zDJ hρ args.toList
 refine ⟨vs ++ args.toList.map ρ ++ us,zBF (zBF h4 hargs) h5,?_⟩
 have e1:(vs.toArray ++ args.map ρ ++ us.toArray) = (vs ++ args.toList.map ρ ++ us).toArray:=by
  apply Array.ext';simp
 cases hb:fn.body with
 | none=>simp [hb] at h3
 | some b =>
  have h2':¬ fn.name = "runtime.NumGoroutine":=by simpa using h2
  rw [<- e1]
  simp [execOp,ho,resolve,Deferred.ofValue,hfv,invoke,callFunc,h1,h2',hb,Array.append_assoc]
def invoke_ext {f:Operand} {args:Array Operand} {ts:Array TypeId} {g:FuncId} {fs cs:List D} {o:Oper} {ρ:Operand -> Value} (ho:o.op = .call ⟨.value f,args,ts⟩) (hρ:∀ x,Rel own H X w (ev e x) (ρ x)) (hf:ev e f = .fn (.func g) fs cs) :
  ∃ vs,zCL own H X w (fs ++ args.toList.map (ev e) ++ cs) vs /\ (execOp ρ o).run P w = (callFunc g vs.toArray).run P w:=by
 have hr:=hρ f
 rw [hf,Rel,VRel] at hr
 obtain ⟨vs,us,hfv,h4,h5⟩:=hr
 have hargs:=zDJ hρ args.toList
 refine ⟨vs ++ args.toList.map ρ ++ us,zBF (zBF h4 hargs) h5,?_⟩
 have e1:(vs.toArray ++ args.map ρ ++ us.toArray) = (vs ++ args.toList.map ρ ++ us).toArray:=by
  apply Array.ext';simp
 rw [<- e1]
 simp [execOp,ho,resolve,Deferred.ofValue,hfv,invoke,Array.append_assoc]
def callFunc_run {g:FuncId} (hc:callable P g) (args:Array Value):(callFunc g args).run P w = .ok (.enter g args) w:=by
 obtain ⟨fn,h1,h2,h3⟩:=hc
 cases hb:fn.body with
 | none=>simp [hb] at h3
 | some b =>
  have h2':¬ fn.name = "runtime.NumGoroutine":=by simpa using h2
  simp [callFunc,h1,h2',hb]
def invoke_meth {x:Operand} {name:String} {args:Array Operand} {ts:Array TypeId} {g:FuncId} {d:D} {o:Oper} {ρ:Operand -> Value} (ho:o.op = .call ⟨.invoke x name,args,ts⟩) (hs:Sim own H X w) (hρ:∀ x,Rel own H X w (ev e x) (ρ x)) (hx:recvOf P H (ev e x) name = some (g,d)) (hc:callable P g) :
  ∃ vs,zCL own H X w (d :: args.toList.map (ev e)) vs /\ (execOp ρ o).run P w = .ok (.enter g vs.toArray) w:=by
 have hargs:=zDJ hρ args.toList
 obtain ⟨y,h1,h2⟩:=recv_run (P:=P) hs (hρ x) hx (args.map ρ)
 refine ⟨y :: args.toList.map ρ,by rw [zCL,VRels];exact ⟨_,_,rfl,h1,hargs⟩,?_⟩
 have e1:(#[y] ++ args.map ρ) = (y :: args.toList.map ρ).toArray:=by apply Array.ext';simp
 have e2:(#[ρ x] ++ args.map ρ).extract 1 (#[ρ x] ++ args.map ρ).size = args.map ρ:=by
  apply Array.ext'
  simp
  rw [yAW (by simp)]
 have e3:(#[ρ x] ++ args.map ρ)[0]? = some (ρ x):=by rw [Array.getElem?_append_left (by simp)];rfl
 rw [callFunc_run hc,e1] at h2
 simp only [execOp,ho,resolve,Sem.run_bind,Sem.run_pure,Result.andThen_ok,invoke,e2,e3,h2]
def lenD_sound {ts:Array TypeId} {ty:TypeId} {x d:D} {v:Value} (hs:Sim own H X w) (hv:Rel own H X w x v) (h:lenD P ts H x = some d) :
  ∃ y,(∀ w':World,(∀ b,b < w.heap.size -> w'.heap[b]? = w.heap[b]?) -> (Builtin.len_ ts ty #[v]).run P w' = .ok y w') /\ Rel own H X w d y:=by
 unfold lenD at h
 simp only [yAn] at h
 obtain ⟨t,ht,dd,hu,h⟩:=h
 have fin:∀ n:Nat,d = .v (.int .i64 n) -> (∀ w':World,(∀ b,b < w.heap.size -> w'.heap[b]? = w.heap[b]?) -> (Builtin.len_ ts ty #[v]).run P w' = .ok (.int .i64 n) w') -> ∃ y,(∀ w':World,(∀ b,b < w.heap.size -> w'.heap[b]? = w.heap[b]?) -> (Builtin.len_ ts ty #[v]).run P w' = .ok y w') /\ Rel own H X w d y :=
  fun n hd hn=>⟨_,hn,by subst hd;simp [Rel,VRel]⟩
 split at h
 ·simp at h;rw [zCE] at hv;subst hv;exact fin _ h.symm fun w' _=>by simp [Builtin.len_,ht,zAC hu,goInt]
 ·simp at h;rw [Rel,VRel] at hv;obtain ⟨a,c,rfl,_⟩:=hv;exact fin _ h.symm fun w' _=>by simp [Builtin.len_,ht,zAC hu,goInt]
 ·simp at h;rw [Rel,VRel] at hv;obtain ⟨_,off,c,rfl,_⟩:=hv;exact fin _ h.symm fun w' _=>by simp [Builtin.len_,ht,zAC hu,goInt]
 ·simp at h;rw [Rel,VRel] at hv;obtain ⟨_,off,rfl,_⟩:=hv;exact fin _ h.symm fun w' _=>by simp [Builtin.len_,ht,zAC hu,goInt]
 ·simp at h;rw [zCE] at hv;subst hv;exact fin 0 h.symm fun w' _=>by simp [Builtin.len_,ht,zAC hu,goInt]
 ·rename_i r
  split at h
  ·rename_i es cl hg
   simp at h
   rw [Rel,VRel] at hv;obtain ⟨hr,rfl⟩:=hv
   obtain ⟨⟨en,h1,h2,h3⟩,h5⟩:=hs.live r _ hg
   have hl:en.size = es.length:=by have:=congrArg List.length h2;simpa using this
   refine fin _ h.symm fun w' hw'=>?_
   have:=zCJ (P:=P) (w:=w') ((hw' _ (hs.live r _ hg).1.lt).trans h1) (by simp)
   simp [Builtin.len_,ht,zAC hu,goInt,this,hl]
  ·simp at h
 ·simp at h
def aLoad_sound {o:Oper} {D1:D -> Prop} {ρ:Operand -> Value} (hs:Sim own H X w) (hρ:∀ x,Rel own H X w (ev e x) (ρ x)) (h:aLoad P o e H D1) :
  ∃ x d,(∀ w':World,(∀ b,b < w.heap.size -> w'.heap[b]? = w.heap[b]?) -> (execOp ρ o).run P w' = .ok (.value x) w') /\ Rel own H X w d x /\ D1 d:=by
 unfold aLoad at h
 split at h
 ·rename_i t a ho
  obtain ⟨d,h1,h2⟩:=h
  obtain ⟨x,h3,h4⟩:=load_sound (P:=P) hs (hρ a) h1
  exact ⟨x,d,fun w' hw'=>by simp only [execOp,ho,Sem.run_bind,h3 w' hw',Result.andThen_ok,Sem.run_pure],h4,h2⟩
 ·rename_i t m k ok ho
  obtain ⟨d,h1,h2⟩:=h
  obtain ⟨x,h3,h4⟩:=lookup_sound (P:=P) hs (hρ m) (hρ k) h1
  exact ⟨x,d,fun w' hw'=>by simp only [execOp,ho,Sem.run_bind,h3 w' hw',Result.andThen_ok,Sem.run_pure],h4,h2⟩
 ·rename_i it ho
  obtain ⟨d,h1,h2⟩:=h
  obtain ⟨x,h3,h4⟩:=entry_sound (P:=P) hs (hρ it) h1
  exact ⟨x,d,fun w' hw'=>by simp only [execOp,ho,Sem.run_bind,h3 w' hw',Result.andThen_ok,Sem.run_pure],h4,h2⟩
 ·rename_i s t x ho
  obtain ⟨y,d,h3,h4,h2⟩:=convL_sound (P:=P) hs (hρ x) h
  exact ⟨y,d,fun w' hw'=>by simp only [execOp,ho,Sem.run_bind,h3 w' hw',Result.andThen_ok,Sem.run_pure],h4,h2⟩
 ·rename_i args ts ho
  split at h
  ·rename_i x hargs
   obtain ⟨d,h1,h2⟩:=h
   have hr:=zDJ hρ args.toList
   have e1:(args.toList.map ρ).toArray = args.map ρ:=by apply Array.ext';simp
   rw [hargs] at hr
   simp only [zCL,VRels] at hr
   obtain ⟨v,_,hv1,hv,rfl⟩:=hr
   obtain ⟨y,h3,h4⟩:=lenD_sound (P:=P) (ty:=o.type) hs hv h1
   refine ⟨y,d,fun w' hw'=>?_,h4,h2⟩
   simp only [execOp,ho,resolve,Sem.run_bind,Sem.run_pure,Result.andThen_ok,invoke]
   rw [<- e1,hv1]
   simp only [builtin,Sem.run_bind,h3 w' hw',Result.andThen_ok,Sem.run_pure]
  ·exact h.elim
 ·exact h.elim
def aKeep_sound {o:Oper} {ρ:Operand -> Value} (hs:Sim own H X w) (hρ:∀ x,Rel own H X w (ev e x) (ρ x)) (h:aKeep P o e H C):OpOutK P X own H w C ((execOp ρ o).run P w):=by
 unfold aKeep at h
 split at h
 ·rename_i t ho
  have hh:=alloc_sound hs h
  obtain ⟨d,hz,hd,hc⟩:=h
  obtain ⟨v,h1,rfl⟩:=run_zeroValue' (w:=w) hz
  have e1:(execOp ρ o).run P w = .ok (.value (.pointer (some ⟨w.heap.size,0,none⟩))) { w with heap:=w.heap.push (.cells v.cells t) }:=by
   simp [execOp,ho,Instr.alloc,h1,newVar,newRow]
  have e2:(execOp ρ o).run P w = ((do pure (Next.value (<- Instr.alloc t true (.tuple #[]))):Sem Next).run P w):=by simp only [execOp,ho]
  rw [<- e2,e1] at hh;rw [e1];exact zDQ hh
 ·rename_i t x ho
  have hh:=box_sound (P:=P) (t:=t) hs (hρ x) h
  have e1:(execOp ρ o).run P w = .ok (.value (.pointer (some ⟨w.heap.size,0,none⟩))) { w with heap:=w.heap.push (.cells (ρ x).cells t) }:=by
   simp [execOp,ho,Instr.box,newVar,newRow]
  have e2:(execOp ρ o).run P w = ((do pure (Next.value (<- Instr.box t (ρ x))):Sem Next).run P w):=by simp only [execOp,ho]
  rw [<- e2,e1] at hh;rw [e1];exact zDQ hh
 ·rename_i t n ps ho
  obtain ⟨h1,h2⟩:=Rels_parts hρ ps
  simp only [execOp,ho]
  obtain ⟨o',h3,h4⟩:=buildSlice_sound hs h1 h2 h
  rw [h3];exact zDQ h4
 ·rename_i t l c ho
  simp only [execOp,ho]
  obtain ⟨o',x,h3,h4⟩:=makeSlice_sound hs (hρ l) (hρ c) h
  rw [h3];exact zDQ h4
 ·rename_i t r ho
  simp only [execOp,ho]
  obtain ⟨h1,h2⟩:=h
  have hr:r.map ρ = none \/ ((∃ k e,P.underlying t = some (.map k e)) /\ ∃ kk n,r.map ρ = some (.int kk n)):=by
   cases r with
   | none=>exact .inl rfl
   | some x =>
    right
    simp only [yBU] at h1
    split at h1
    ·rename_i heq;simp at heq
    ·rename_i kk n heq
     simp only [yAH] at heq
     obtain ⟨q,hq⟩:=Option.isSome_iff_exists.1 h1
     obtain ⟨k1,e1,d1⟩:=q
     have hx:=hρ x
     rw [heq,zCE] at hx
     exact ⟨⟨_,_,(tmap_some hq).1⟩,kk,n,by simp [hx]⟩
    ·exact h1.elim
  obtain ⟨h3,h4⟩:=makeMap_sound (P:=P) (t:=t) hs hr h2
  rw [h3];exact zDQ h4
 ·rename_i t x ho
  simp only [execOp,ho]
  obtain ⟨o',h3,h4⟩:=range_sound hs (hρ x) h
  rw [h3];exact zDQ h4
 ·rename_i f args ts ho
  split at h
  ·rename_i g fs cs hf
   rcases h with h | h
   ·obtain ⟨vs,h1,h2⟩:=invoke_run (P:=P) ho hρ hf h.1
    rw [h2]
    exact h.2 own X w vs hs h1
   ·obtain ⟨vs,h1,h2⟩:=invoke_ext (P:=P) ho hρ hf
    obtain ⟨v,d,h3,h4,h5⟩:=h own X w vs hs h1
    rw [h2,h3]
    exact ⟨own,d,H,hs,h4,⟨.refl _ _ _,fun _ _=>rfl⟩,h5⟩
  ·exact h.elim
 ·rename_i x name args ts ho
  obtain ⟨⟨g,d⟩,h1,h2⟩:=h
  obtain ⟨vs,h3,h4⟩:=invoke_meth (P:=P) ho hs hρ h1 h2.1
  rw [h4]
  exact h2.2 own X w vs hs h3
 ·exact h.elim
def aMut_sound {o:Oper} {ρ:Operand -> Value} (hs:Sim own H X w) (hρ:∀ x,Rel own H X w (ev e x) (ρ x)) (h:aMut P o e H C):OpOut P X own H w C ((execOp ρ o).run P w):=by
 unfold aMut at h
 split at h
 ·rename_i t a x ho
  obtain ⟨H',h1,h2⟩:=h
  obtain ⟨w',h3,h4,h5⟩:=store_sound (P:=P) hs (hρ a) (hρ x) h1
  simp only [execOp,ho,Sem.run_bind,h3,Result.andThen_ok,Sem.run_pure]
  exact ⟨own,H',h4,h5,h2⟩
 ·rename_i args ts ho
  have hr:=zDJ hρ args.toList
  have e1:(args.toList.map ρ).toArray = args.map ρ:=by apply Array.ext';simp
  simp only [execOp,ho,resolve,Sem.run_bind,Sem.run_pure,Result.andThen_ok,invoke]
  rw [<- e1]
  unfold zBD at h
  split at h
  ·rename_i r i m c x hargs
   rw [hargs] at hr
   simp only [zCL,VRels] at hr
   obtain ⟨v,_,hv1,hv,u,_,rfl,hu,rfl⟩:=hr
   rw [hv1]
   exact appendC_sound hs hv hu h
  ·rename_i s x _ hargs
   rw [hargs] at hr
   simp only [zCL,VRels] at hr
   obtain ⟨v,_,hv1,hv,u,_,rfl,hu,rfl⟩:=hr
   rw [hv1]
   exact append_sound hs hv (Rel_wk hu) h
  ·exact h.elim
 ·rename_i args ts ho
  have hr:=zDJ hρ args.toList
  have e1:(args.toList.map ρ).toArray = args.map ρ:=by apply Array.ext';simp
  simp only [execOp,ho,resolve,Sem.run_bind,Sem.run_pure,Result.andThen_ok,invoke]
  rw [<- e1]
  split at h
  ·rename_i s x hargs
   rw [hargs] at hr
   simp only [zCL,VRels] at hr
   obtain ⟨v,_,hv1,hv,u,_,rfl,hu,rfl⟩:=hr
   rw [hv1]
   exact copy_sound hs hv hu h
  ·exact h.elim
 ·rename_i args ts ho
  have hr:=zDJ hρ args.toList
  have e1:(args.toList.map ρ).toArray = args.map ρ:=by apply Array.ext';simp
  simp only [execOp,ho,resolve,Sem.run_bind,Sem.run_pure,Result.andThen_ok,invoke]
  rw [<- e1]
  split at h
  ·rename_i s x hargs
   rw [hargs] at hr
   simp only [zCL,VRels] at hr
   obtain ⟨v,_,hv1,hv,u,_,rfl,hu,rfl⟩:=hr
   rw [hv1]
   exact delete_sound hs hv hu h
  ·exact h.elim
 ·rename_i t m k x ho
  simp only [execOp,ho]
  exact mapUpdate_sound hs (hρ m) (hρ k) (hρ x) h
 ·rename_i it b ho
  simp only [execOp,ho]
  exact next_sound hs (hρ it) h
 ·rename_i f args ts ho
  split at h
  ·rename_i g fs cs hf
   rcases h with h | h
   ·obtain ⟨vs,h1,h2⟩:=invoke_run (P:=P) ho hρ hf h.1
    rw [h2]
    exact h.2 own X w vs hs h1
   ·obtain ⟨vs,h1,h2⟩:=invoke_ext (P:=P) ho hρ hf
    obtain ⟨v,d,h3,h4,h5⟩:=h own X w vs hs h1
    rw [h2,h3]
    exact out_same hs h4 h5
  ·exact h.elim
 ·rename_i x name args ts ho
  obtain ⟨⟨g,d⟩,h1,h2⟩:=h
  obtain ⟨vs,h3,h4⟩:=invoke_meth (P:=P) ho hs hρ h1 h2.1
  rw [h4]
  exact h2.2 own X w vs hs h3
 ·exact h.elim
def aop_sound {o:Oper} (h:aop P o e H C):OpSem P o e H C:=by
 intro own X w ρ hs hρ
 unfold aop zDI at h
 split at h
 ·exact (apure_sound hs hρ h).out hs
 ·obtain ⟨x,d,h1,h2,h3⟩:=aLoad_sound hs hρ h
  rw [h1 w fun _ _=>rfl]
  exact out_same hs h2 h3
 ·exact (aKeep_sound hs hρ h).out
 ·exact aMut_sound hs hρ h
end
def aops (P:Program) (N:Nat) (ops:Array Oper):List (OpKind × Oper) -> Env -> Heap -> (Env -> Heap -> Prop) -> Prop
 | [],e,H,Q=>Q e H
 | (k,o) :: rest,e,H,Q=>dstOk N o.dst /\ match o.guard with
  | none=>zDI P k o e H fun d H'=>aops P N ops rest (updO e o.dst d) H' Q
  | some (j,want)=>∃ s b,gslot ops j = some s /\ s < N /\ e s = .v (.bool b) /\
      (b = want -> zDI P k o e H fun d H'=>aops P N ops rest (updO e o.dst d) H' Q) /\ (b ≠ want -> aops P N ops rest (updO e o.dst (.v undef)) H Q)
section
variable {P:Program} {f:FuncId} {N n0:Nat} {R:D -> Heap -> Prop} {K:List Item} {ops:Array Oper}
def OpSem.mono {o:Oper} {e:Env} {H:Heap} {C C':D -> Heap -> Prop} (h:OpSem P o e H C) (hc:∀ d H,C d H -> C' d H):OpSem P o e H C' :=
 fun own X w ρ hs hρ=>OpOut.mono (h own X w ρ hs hρ) hc
def runOps_of_aops:∀ (l:List Oper) (e:Env) (H:Heap),aops P N ops (l.map fun o=>(zAF o,o)) e H (fun e' H'=>Run P f N n0 R K e' H') -> RunOps P f N n0 R K ops l e H
 | [],e,H,h=>runOps_nil h
 | o :: rest,e,H,h=>by
  simp only [yAL,aops] at h
  obtain ⟨hd,h⟩:=h
  split at h
  ·rename_i hg
   exact runOps_cons hd (fun _ _ _ _ _ _=>by simp [Region.wanted,hg]) ((aop_sound h).mono fun d H' h'=>runOps_of_aops rest _ _ h')
  ·rename_i j want hg
   obtain ⟨s,b,h1,h2,h3,h4,h5⟩:=h
   by_cases hbw:b = want
   ·exact runOps_cons hd (fun own X w tmps hN henv=>by simp [Region.wanted,hg,zCZ h1 h2 hN henv h3,hbw]) ((aop_sound (h4 hbw)).mono fun d H' h'=>runOps_of_aops rest _ _ h')
   ·exact runOps_skip hd (fun own X w tmps hN henv=>by simp [Region.wanted,hg,zCZ h1 h2 hN henv h3,hbw]) (runOps_of_aops rest _ _ (h5 hbw))
def zAJ {id:Nat} {l:List Oper} {e:Env} {H:Heap} (h:aops P N l.toArray (l.map fun o=>(zAF o,o)) e H fun e' H'=>Run P f N n0 R K e' H'):Run P f N n0 R (.code (.region id l.toArray false) :: K) e H :=
 run_region (runOps_of_aops l e H h)
end
end Go.Ab
