/- Part 4 of what the claim leans on: TJoin, TJoin2, TCall, TCall2, TCall3, TCall4, TCall5, TOp, TOp2, TOp3, TOp4, TOp5, TDrawH, TWalk, TRange, TWalk2, TEnd, TShift, TCon, TRead, TLaw, TArgs, TSpec. -/
import Derived.Test.YtbhcfbnkdbioaaaGreatM3
import Derived.Calls
import Derived.KernelRfl
import Derived.Orders
import Derived.Laws.Sem
import Derived.Laws.CopyRow
import Derived.Laws.Cells
import Derived.Room.Entries
import Derived.Lib.Overlaps
import GoSem.Conv.BytesToString
import Derived.OrdersHeld
import Derived.ProofKit
import Derived.OpenShut
import Derived.Carry
set_option linter.defProp false
noncomputable section
set_option linter.unusedVariables false
set_option linter.unusedSectionVars false
set_option linter.unusedSimpArgs false
namespace Go.T
open Go.Ab
variable [Go.Ab.DM]
section
variable {ρ:List (Nat × Nat)} {rows:Rows}
def getN_app {a b:List (Nat × Nat)} {z:Nat}:zCK (a ++ b) z = match zCK a z with | some q=>some q | none=>zCK b z:=by
 induction a with
 | nil=>rfl
 | cons p a ih =>
  simp only [yAl,zCK]
  cases Nat.beq p.1 z <;> simp [ih]
def getN_id {a b:List (Nat × Nat)} (h:∀ p ∈ a,p.1 = p.2) {z:Nat} (hz:∃ p ∈ a,p.1 = z):zCK (a ++ b) z = some z:=by
 rw [getN_app]
 have:zCK a z = some z:=by
  induction a with
  | nil=>obtain ⟨p,hp,_⟩:=hz;cases hp
  | cons p a ih =>
   simp only [zCK]
   cases hb:Nat.beq p.1 z with
   | true =>
    rw [yAP] at hb
    rw [cond_true,<- h p (by simp),hb]
   | false =>
    rw [cond_false]
    refine ih (fun q hq=>h q (yAF _ hq)) ?_
    obtain ⟨q,hq,hqz⟩:=hz
    rcases yAE.1 hq with rfl | hq
    ·rw [hqz,Nat.beq_refl] at hb;cases hb
    ·exact ⟨q,hq,hqz⟩
 rw [this]
def getN_mem {a:List (Nat × Nat)} {r q:Nat} (h:zCK a r = some q):(r,q) ∈ a:=by
 induction a with
 | nil=>cases h
 | cons p a ih =>
  simp only [zCK] at h
  cases hb:Nat.beq p.1 r with
  | true =>
   rw [hb,cond_true] at h
   have:=yAA h
   rw [yAP] at hb
   rw [<- hb,<- this];exact yAN ..
  | false=>rw [hb] at h;exact yAF _ (ih h)
def uniRows_app:∀ (l:List (Nat × RTy)) (ρ:List (Nat × Nat)),∃ x,uniRows rows ρ l = ρ ++ x
 | [],ρ=>⟨[],by simp [uniRows]⟩
 | (r,e) :: l,ρ=>by
  simp only [uniRows]
  split
  ·obtain ⟨x,h⟩:=uniRows_app l (ρ ++ uni _ _)
   exact ⟨_,by rw [h,yAQ]⟩
  ·exact uniRows_app l ρ
def idRefs_mem {l:List Nat}:(∀ p ∈ idRefs l,p.1 = p.2) /\ ∀ z ∈ l,∃ p ∈ idRefs l,p.1 = z:=by
 induction l with
 | nil=>exact ⟨fun p h=>by simp [idRefs] at h,fun z h=>by simp at h⟩
 | cons q l ih =>
  refine ⟨fun p h=>?_,fun z h=>?_⟩
  ·rcases yAE.1 h with rfl | h
   ·rfl
   ·exact ih.1 p h
  ·rcases yAE.1 h with rfl | h
   ·exact ⟨(z,z),yAN ..,rfl⟩
   ·obtain ⟨p,h1,h2⟩:=ih.2 z h;exact ⟨p,yAF _ h1,h2⟩
def uniKeep_id (env:List Ent):∀ l:List Nat,(∀ p ∈ uniKeep env l,p.1 = p.2) /\ ∀ n ∈ l,∀ e,zAm env n = some e -> ∀ z ∈ e.v.t.refs,∃ p ∈ uniKeep env l,p.1 = z
 | []=>⟨fun p h=>by simp [uniKeep] at h,fun n h=>by simp at h⟩
 | n :: l=>by
  obtain ⟨h1,h2⟩:=uniKeep_id env l
  cases hf:zAm env n with
  | none =>
   simp only [uniKeep,hf]
   refine ⟨h1,fun m hm e he z hz=>?_⟩
   rcases yAE.1 hm with rfl | hm
   ·rw [hf] at he;cases he
   ·exact h2 m hm e he z hz
  | some e0 =>
   simp only [uniKeep,hf]
   refine ⟨fun p hp=>?_,fun m hm e he z hz=>?_⟩
   ·rcases yAO.1 hp with hp | hp
    ·exact idRefs_mem.1 p hp
    ·exact h1 p hp
   ·rcases yAE.1 hm with rfl | hm
    ·rw [hf] at he
     have:=yAA he;subst this
     obtain ⟨p,hp,hpz⟩:=idRefs_mem.2 z hz
     exact ⟨p,yAu _ hp,hpz⟩
    ·obtain ⟨p,hp,hpz⟩:=h2 m hm e he z hz
     exact ⟨p,yAh _ hp,hpz⟩
def uniKeepR_id (l:List (Nat × RTy)) (rows:Rows):∀ n:Nat,(∀ p ∈ uniKeepR l rows n,p.1 = p.2) /\ ∀ r,r < n -> zBR l r = none -> ∀ t x,zAA rows r = .one t x -> ∀ z ∈ t.refs,∃ p ∈ uniKeepR l rows n,p.1 = z
 | 0=>⟨fun p h=>by simp [uniKeepR] at h,fun r h=>absurd h (yAr _)⟩
 | n + 1=>by
  obtain ⟨h1,h2⟩:=uniKeepR_id l rows n
  simp only [uniKeepR]
  refine ⟨fun p hp=>?_,fun r hr hl t x hrow z hz=>?_⟩
  ·rcases yAO.1 hp with hp | hp
   ·split at hp
    ·exact idRefs_mem.1 p hp
    ·simp at hp
   ·exact h1 p hp
  ·by_cases h:r = n
   ·subst h
    obtain ⟨p,hp,hpz⟩:=idRefs_mem.2 z hz
    exact ⟨p,yAu _ (by rw [hl,hrow];exact hp),hpz⟩
   ·obtain ⟨p,hp,hpz⟩:=h2 r (by omega) hl t x hrow z hz
    exact ⟨p,yAh _ hp,hpz⟩
def refsBelow_at {n:Nat} {l:List Nat} (h:refsBelow n l = true):∀ z ∈ l,z < n:=fun z hz=>by
 unfold refsBelow at h
 rw [yAR] at h
 have:=h z hz
 exact yAc this
def keepOk_at {d:Nat} {env:List Ent}:∀ {l:List Nat},keepOk d env l = true -> ∀ n ∈ l,∃ e,zAm env n = some e /\ e.lv <= d /\ e.c = []
 | [],_,n,h=>by simp at h
 | m :: l,h,n,hn=>by
  simp only [keepOk,yAB] at h
  rcases yAE.1 hn with rfl | hn
  ·have h1:=h.1
   split at h1
   ·rename_i e he
    rw [yAB,List.isEmpty_iff] at h1
    exact ⟨e,he,yAc h1.1,h1.2⟩
   ·cases h1
  ·exact keepOk_at h.2 n hn
def keepBelow_at {N:Nat} {env:List Ent}:∀ {l:List Nat},keepBelow N env l = true -> ∀ n ∈ l,∀ e,zAm env n = some e -> ∀ z ∈ e.v.t.refs,z < N
 | [],_,n,h=>by simp at h
 | m :: l,h,n,hn=>by
  simp only [keepBelow,yAB] at h
  rcases yAE.1 hn with rfl | hn
  ·intro e he
   have h1:=h.1
   rw [he] at h1
   exact refsBelow_at h1
  ·exact keepBelow_at h.2 n hn
def slotsBelow_at {N:Nat}:∀ {l:List Ty},slotsBelow N l = true -> ∀ t ∈ l,∀ z ∈ t.refs,z < N
 | [],_,t,h=>by simp at h
 | u :: l,h,t,ht=>by
  simp only [slotsBelow,yAB] at h
  rcases yAE.1 ht with rfl | ht
  ·exact refsBelow_at h.1
  ·exact slotsBelow_at h.2 t ht
def lookR_mem:∀ {l:List (Nat × RTy)} {r:Nat} {e:RTy},zBR l r = some e -> (r,e) ∈ l
 | [],r,e,h=>by cases h
 | p :: l,r,e,h=>by
  simp only [zBR] at h
  cases hb:Nat.beq p.1 r with
  | true =>
   rw [hb,cond_true] at h
   have:=yAA h
   rw [yAP] at hb
   rw [<- hb,<- this];exact yAN ..
  | false=>rw [hb] at h;exact yAF _ (lookR_mem h)
def rowsBelow_at {N:Nat}:∀ {l:List (Nat × RTy)},rowsBelowT N l = true -> ∀ r t,(r,RTy.one t) ∈ l -> ∀ z ∈ t.refs,z < N
 | [],_,r,t,h=>by simp at h
 | (q,e) :: l,h,r,t,ht=>by
  simp only [rowsBelowT,yAB] at h
  rcases yAE.1 ht with ht | ht
  ·injection ht with h1 h2;subst h1;subst h2;exact refsBelow_at h.1
  ·exact rowsBelow_at h.2 r t ht
def below_at {N:Nat}:∀ {l:List (Nat × RTy)} {used:List Nat},below N l used = true -> ∀ r e,(r,e) ∈ l -> r < N
 | [],_,_,r,e,h=>by simp at h
 | (q,e') :: l,used,h,r,e,hr=>by
  simp only [below,yAB] at h
  rcases yAE.1 hr with hr | hr
  ·injection hr with h1 h2;subst h1;exact yAc h.1.1
  ·exact below_at h.2 r e hr
def rowsOk_at {d:Nat} {l:List (Nat × RTy)}:∀ {n:Nat},rowsOk d l rows n = true -> ∀ r,r < n -> zBR l r = none -> ∃ lv,zAU rows r = some lv /\ lv <= d
 | 0,_,r,h,_=>absurd h (yAr _)
 | n + 1,h,r,hr,hl=>by
  simp only [rowsOk,yAB] at h
  by_cases hrn:r = n
  ·subst hrn
   have h1:=h.1
   rw [hl] at h1
   dsimp only at h1
   split at h1
   ·rename_i lv hs;exact ⟨lv,hs,yAc h1⟩
   ·cases h1
  ·exact rowsOk_at h.2 r (by omega) hl
def keptBelow_at {N:Nat} {l:List (Nat × RTy)}:∀ {n:Nat},keptBelow N l rows n = true -> ∀ r,r < n -> zBR l r = none -> ∀ q ∈ rowRefs (zAA rows r),q < N /\ ((∃ t x,zAA rows r = .one t x) \/ zBR l q = none)
 | 0,_,r,h,_=>absurd h (yAr _)
 | n + 1,h,r,hr,hl=>by
  simp only [keptBelow,yAB] at h
  by_cases hrn:r = n
  ·subst hrn
   have h1:=h.1
   rw [hl] at h1
   dsimp only at h1
   rw [yAR] at h1
   intro q hq
   have h2:=h1 q hq
   rw [yAB] at h2
   refine ⟨yAc h2.1,?_⟩
   have h3:=h2.2
   cases hlq:zBR l q with
   | none=>exact .inr rfl
   | some e =>
    rw [hlq] at h3
    cases hrow:zAA rows r <;> rw [hrow] at h3 <;> first | (cases h3;done) | exact .inl ⟨_,_,rfl⟩
  ·exact keptBelow_at h.2 r (by omega) hl
def rhoOk_at {l:List (Nat × RTy)} (h:rhoOk l ρ = true) {r q:Nat} (hg:zCK ρ r = some q) (hl:zBR l r = none):q = r:=by
 unfold rhoOk at h
 rw [yAR] at h
 have:=h (r,q) (getN_mem hg)
 dsimp only at this
 rw [hl] at this
 dsimp only at this
 rw [yAP] at this
 exact this.symm
structure InjAt (k:Nat) (l0:List (Nat × RTy)) (n:Nat) (ρ:List (Nat × Nat)) (l:List (Nat × RTy)) (used:List Nat):Prop where
 one:∀ r e,zBR l r = some e -> e ≠ .gone -> (∀ q,zCK ρ r = some q -> ((r < k /\ q = r) \/ (k <= r /\ k <= q)) /\ q ∉ used /\ (zBR l0 q = none -> n <= q)) /\ (zCK ρ r = none -> k <= r)
 two:∀ r z e e' q q',zBR l r = some e -> zBR l z = some e' -> e ≠ .gone -> e' ≠ .gone -> r ≠ z -> zCK ρ r = some q -> zCK ρ z = some q' -> q ≠ q'
def not_used {q:Nat} {used:List Nat} (h:(!(used.any (Nat.beq q))) = true):q ∉ used:=fun hq=>by
 have:used.any (Nat.beq q) = true:=by rw [yBQ];exact ⟨q,hq,by simp⟩
 rw [this] at h;cases h
def injOk_at {k n:Nat} {l0:List (Nat × RTy)}:∀ {l:List (Nat × RTy)} {used:List Nat},injOk k l0 n ρ l used = true -> InjAt k l0 n ρ l used
 | [],used,_=>⟨fun r e h=>(by cases h),fun r z e e' q q' h=>(by cases h)⟩
 | (r0,e0) :: l,used,h=>by
  by_cases he0:e0 = .gone
  ·subst he0
   have h:injOk k l0 n ρ l used = true:=h
   obtain ⟨h1,h2⟩:=injOk_at h
   refine ⟨fun r e hl he=>?_,fun r z e e' q q' hl hl' he he' hne=>?_⟩
   ·simp only [zBR] at hl
    cases hb:Nat.beq r0 r <;> rw [hb] at hl
    ·exact h1 r e hl he
    ·exact absurd (yAA hl).symm he
   ·simp only [zBR] at hl hl'
    cases hb:Nat.beq r0 r <;> rw [hb] at hl
    ·cases hb':Nat.beq r0 z <;> rw [hb'] at hl'
     ·exact h2 r z e e' q q' hl hl' he he' hne
     ·exact absurd (yAA hl').symm he'
    ·exact absurd (yAA hl).symm he
  ·have h:(match zCK ρ r0 with
    | some q=>(Nat.blt r0 k && Nat.beq q r0 || Nat.ble k r0 && Nat.ble k q) && !(used.any (Nat.beq q)) && (match zBR l0 q with | some _=>true | none=>Nat.ble n q) && injOk k l0 n ρ l (q :: used)
    | none=>Nat.ble k r0 && injOk k l0 n ρ l used) = true:=by
    cases e0 <;> first | (exact absurd rfl he0;done) | (simp only [injOk] at h;exact h)
   cases hg0:zCK ρ r0 with
   | none =>
    rw [hg0] at h
    dsimp only at h
    rw [yAB] at h
    obtain ⟨h1,h2⟩:=injOk_at h.2
    refine ⟨fun r e hl he=>?_,fun r z e e' q q' hl hl' he he' hne g g'=>?_⟩
    ·simp only [zBR] at hl
     cases hb:Nat.beq r0 r <;> rw [hb] at hl
     ·exact h1 r e hl he
     ·rw [yAP] at hb;subst hb
      exact ⟨fun q hq=>(by rw [hg0] at hq;cases hq),fun _=>yAc h.1⟩
    ·simp only [zBR] at hl hl'
     cases hb:Nat.beq r0 r <;> rw [hb] at hl
     ·cases hb':Nat.beq r0 z <;> rw [hb'] at hl'
      ·exact h2 r z e e' q q' hl hl' he he' hne g g'
      ·rw [yAP] at hb';subst hb';rw [hg0] at g';cases g'
     ·rw [yAP] at hb;subst hb;rw [hg0] at g;cases g
   | some q0 =>
    rw [hg0] at h
    simp only [yAB,Bool.or_eq_true,yAP] at h
    obtain ⟨⟨⟨ha,hu⟩,hl0⟩,hi⟩:=h
    obtain ⟨h1,h2⟩:=injOk_at hi
    refine ⟨fun r e hl he=>?_,fun r z e e' q q' hl hl' he he' hne g g'=>?_⟩
    ·simp only [zBR] at hl
     cases hb:Nat.beq r0 r <;> rw [hb] at hl
     ·obtain ⟨g1,g2⟩:=h1 r e hl he
      refine ⟨fun q hq=>?_,g2⟩
      obtain ⟨g3,g4,g5⟩:=g1 q hq
      exact ⟨g3,fun hm=>g4 (yAF _ hm),g5⟩
     ·rw [yAP] at hb;subst hb
      refine ⟨fun q hq=>?_,fun hq=>by rw [hg0] at hq;cases hq⟩
      rw [hg0] at hq
      have:=yAA hq;subst this
      refine ⟨?_,not_used hu,fun hn=>?_⟩
      ·rcases ha with ⟨h3,h4⟩ | ⟨h3,h4⟩
       ·exact .inl ⟨yAc h3,h4⟩
       ·exact .inr ⟨yAc h3,yAc h4⟩
      ·rw [hn] at hl0;exact yAc hl0
    ·simp only [zBR] at hl hl'
     cases hb:Nat.beq r0 r <;> rw [hb] at hl
     ·cases hb':Nat.beq r0 z <;> rw [hb'] at hl'
      ·exact h2 r z e e' q q' hl hl' he he' hne g g'
      ·rw [yAP] at hb';subst hb'
       rw [hg0] at g'
       have:=yAA g';subst this
       obtain ⟨g3,g4,g5⟩:=(h1 r e hl he).1 q g
       intro hqq;subst hqq;exact g4 (yAN ..)
     ·rw [yAP] at hb;subst hb
      rw [hg0] at g
      have:=yAA g;subst this
      cases hb':Nat.beq r0 z <;> rw [hb'] at hl'
      ·obtain ⟨g3,g4,g5⟩:=(h1 z e' hl' he').1 q' g'
       intro hqq;subst hqq;exact g4 (yAN ..)
      ·rw [yAP] at hb';exact absurd hb' hne
end
end Go.T
namespace Go.T
open Go.Ab
variable [Go.Ab.DM]
section
variable {ρ:List (Nat × Nat)} {isL:Nat -> Bool} {rows rf:Rows} {env:List Ent}
def findE_s:∀ {env:List Ent} {n:Nat} {e:Ent},zAm env n = some e -> e.s = n
 | [],n,e,h=>by cases h
 | a :: l,n,e,h=>by
  simp only [zAm] at h
  cases hb:Nat.beq a.s n with
  | true=>rw [hb,cond_true] at h;have:=yAA h;subst this;rw [yAP] at hb;exact hb
  | false=>rw [hb] at h;exact findE_s h
def findE_app {a b:List Ent} {n:Nat}:zAm (a ++ b) n = match zAm a n with | some e=>some e | none=>zAm b n:=by
 induction a with
 | nil=>rfl
 | cons p a ih =>
  simp only [yAl,zAm]
  cases Nat.beq p.s n <;> simp [ih]
def keepE_at:∀ {l:List Nat} {n:Nat} {e:Ent},zAm (keepE env l) n = some e -> zAm env n = some e /\ n ∈ l
 | [],n,e,h=>by cases h
 | m :: l,n,e,h=>by
  simp only [keepE] at h
  cases hf:zAm env m with
  | none=>rw [hf] at h;obtain ⟨h1,h2⟩:=keepE_at h;exact ⟨h1,yAF _ h2⟩
  | some e0 =>
   rw [hf] at h
   simp only [zAm] at h
   have hs:=findE_s hf
   cases hb:Nat.beq e0.s n with
   | true =>
    rw [hb,cond_true] at h
    have:=yAA h;subst this
    rw [yAP,hs] at hb
    subst hb
    exact ⟨hf,yAN ..⟩
   | false=>rw [hb] at h;obtain ⟨h1,h2⟩:=keepE_at h;exact ⟨h1,yAF _ h2⟩
def slotE_at {dl:Nat}:∀ {l:List (Nat × Ty)} {vs us:List TV},findVs env l = some vs -> Packed ρ isL rf (l.map (·.2)) vs us -> ∀ {n:Nat} {ent:Ent},zAm (slotE dl l us) n = some ent ->
  ∃ e t,∃ y:t.I,zAm env n = some e /\ e.c = [] /\ packV ρ isL rf t e.v = some y /\ ent = ⟨n,dl,[],⟨t,y⟩⟩ /\ t ∈ l.map (·.2)
 | [],_,_,_,_,n,ent,h=>by cases h
 | (m,t) :: l,vs,us,hf,hp,n,ent,h=>by
  simp only [findVs] at hf
  split at hf
  ·rename_i e vs' h1 h2
   obtain ⟨hc,hx⟩:=zAa hf
   have:=yAA hx;subst this
   cases hp with
   | cons h3 h4 =>
    simp only [slotE,zAm] at h
    cases hb:Nat.beq m n with
    | true =>
     rw [hb,cond_true] at h
     have:=yAA h;subst this
     rw [yAP] at hb;subst hb
     exact ⟨e,t,_,h1,List.isEmpty_iff.1 hc,h3,rfl,by simp⟩
    | false =>
     rw [hb] at h
     obtain ⟨e',t',y',g1,g2,g3,g4,g5⟩:=slotE_at h2 h4 h
     exact ⟨e',t',y',g1,g2,g3,g4,by simp only [yAL,yAE];exact .inr g5⟩
  ·cases hf
def newRows_at {dl:Nat} {m:List (Nat × TRow)} {base:Rows}:∀ (n i r:Nat),(r < n -> zAA (zBs dl m base i n) r = (match rowIn m (i + r) with | some row=>row | none=>match zAU base (i + r) with | some lv=>zAA base (i + r) | none=>.gone)) /\
     (∀ lv,zAU (zBs dl m base i n) r = some lv -> (lv = dl /\ ∃ row,rowIn m (i + r) = some row) \/ (lv = dl /\ zAU base (i + r) = none) \/ (rowIn m (i + r) = none /\ zAU base (i + r) = some lv))
 | 0,i,r=>⟨fun h=>absurd h (yAr _),fun lv h=>by cases h⟩
 | n + 1,i,0=>by
  refine ⟨fun _=>?_,fun lv h=>?_⟩
  ·simp only [zBs,zAA,Nat.add_zero]
   cases rowIn m i with
   | some row=>rfl
   | none=>cases zAU base i <;> rfl
  ·simp only [zBs,zAU,Nat.add_zero] at h ⊢
   cases h1:rowIn m i with
   | some row=>rw [h1] at h;exact .inl ⟨(yAA h).symm,row,rfl⟩
   | none =>
    rw [h1] at h
    cases h2:zAU base i with
    | some lv'=>rw [h2] at h;exact .inr (.inr ⟨rfl,h⟩)
    | none=>rw [h2] at h;exact .inr (.inl ⟨(yAA h).symm,rfl⟩)
 | n + 1,i,r + 1=>by
  obtain ⟨h1,h2⟩:=newRows_at (dl:=dl) (m:=m) (base:=base) n (i + 1) r
  rw [show i + 1 + r = i + (r + 1) by omega] at h1 h2
  exact ⟨fun h=>h1 (Nat.lt_of_succ_lt_succ h),h2⟩
def newRows_len {dl:Nat} {m:List (Nat × TRow)} {base:Rows}:∀ (n i:Nat),(zBs dl m base i n).length = n
 | 0,i=>rfl
 | n + 1,i=>by simp [zBs,newRows_len n (i + 1)]
def fr_one' {d:Nat} {f:List Nat} {r:Nat} {t:Ty} {x:t.I} (h:zAA (zAz d f 0 rows) r = .one t x):zAA rows r = .one t x:=fr_one (zBt d f rows) h
end
section
variable {B:Base} {ζ ζ0:Nat -> Row} {num num0:Nat -> Nat} {s s0:St} {e:Env} {H:Heap}
def ids_same:∀ (k:Nat),∀ p ∈ ids k,p.1 = p.2
 | 0,p,h=>by simp [ids] at h
 | n + 1,p,h=>by
  rw [ids,yAE] at h
  rcases h with rfl | h
  ·rfl
  ·exact ids_same n p h
def unpack_sound {k d dl:Nat} {σ:Sig} {x:σ.I} (hk:B.k = k) (hd:d <= dl) (ha:Abs B ζ num s e H) (hle:Le (d + 1) ζ0 num0 s0 ζ num s) (h:pack k d σ s = some x) :
  ∃ ζ' num' H',WeakS e H (zCn num' (zAp dl σ x s0)) H' /\ Abs B ζ' num' (zAp dl σ x s0) (zCn num' (zAp dl σ x s0)) H' /\ Le dl ζ0 num0 s0 ζ' num' (zAp dl σ x s0):=by
 unfold pack at h
 split at h
 rotate_left
 ·cases h
 rename_i vs hvs
 dsimp only at h
 obtain ⟨hb,h⟩:=zAa h
 simp only [yAB] at hb
 obtain ⟨⟨⟨⟨⟨⟨⟨⟨⟨hkeep,hrows⟩,hinj⟩,hbelow⟩,hkb⟩,hsb⟩,hrb⟩,hkr⟩,hkn⟩,hrho⟩:=hb
 split at h
 rotate_left
 ·cases h
 rename_i la lb hla hlb
 have hx:=packAll_leaves h
 obtain ⟨tail,htail⟩:=uniRows_app (rows:=s.rows) σ.rows (uniKeep s.env σ.keep ++ (uniKeepR σ.rows s.rows σ.n ++ ids k) ++ uniL (σ.slots.map (·.2)) vs)
 have hself:∀ z,((∃ p ∈ uniKeep s.env σ.keep,p.1 = z) \/ ∃ p ∈ uniKeepR σ.rows s.rows σ.n,p.1 = z) -> zCK (uniRows s.rows (uniKeep s.env σ.keep ++ (uniKeepR σ.rows s.rows σ.n ++ ids k) ++ uniL (σ.slots.map (·.2)) vs) σ.rows) z = some z:=fun z hz=>by
  rw [htail,yAQ]
  refine getN_id (fun p hp=>?_) ?_
  ·rcases yAO.1 hp with hp | hp
   ·exact (uniKeep_id _ _).1 p hp
   ·rcases yAO.1 hp with hp | hp
    ·exact (uniKeepR_id _ _ _).1 p hp
    ·exact ids_same k p hp
  ·rcases hz with ⟨p,hp,hpz⟩ | ⟨p,hp,hpz⟩
   ·exact ⟨p,yAu _ hp,hpz⟩
   ·exact ⟨p,yAh _ (yAu _ hp),hpz⟩
 generalize hρ:uniRows s.rows (uniKeep s.env σ.keep ++ (uniKeepR σ.rows s.rows σ.n ++ ids k) ++ uniL (σ.slots.map (·.2)) vs) σ.rows = ρ at *
 generalize hfz:fzL (σ.slots.map (·.2)) vs ++ fzRows s.rows ρ σ.rows = fz at *
 obtain ⟨ha1,hw1⟩:=fr_abs ha (zBt (d + 1) fz s.rows)
 have hle1:=hle.trans (fr_Le (ζ:=ζ) (num:=num) (s:=s) (d + 1) fz)
 have hone:∀ r t x,zAA (zAz (d + 1) fz 0 s.rows) r = .one t x -> zAA s.rows r = .one t x:=fun r t x h=>fr_one' h
 have hst:∀ r lv,zAU (zAz (d + 1) fz 0 s.rows) r = some lv -> lv <= d -> zAA (zAz (d + 1) fz 0 s.rows) r = zAA s.rows r:=fun r lv h1 h2=>by
  rcases stampAt_freeze (d + 1) fz s.rows 0 r lv h1 with h3 | h3
  ·omega
  ·exact h3.2
 generalize zAz (d + 1) fz 0 s.rows = rf at *
 obtain ⟨us,hus,hun⟩:=packVals_un hla
 obtain ⟨m,hm,hum⟩:=packRows_un hlb
 have hu:zAp dl σ x s0 = ⟨slotE dl σ.slots us ++ keepE s0.env σ.keep,zBs dl m s0.rows 0 σ.n,[]⟩:=by
  unfold zAp
  rw [hx,hun lb]
  dsimp only
  rw [hum]
 have hkept:∀ r,r < σ.n -> zBR σ.rows r = none -> ∃ lv,zAU rf r = some lv /\ lv <= d /\ zAU s0.rows r = some lv /\ zAA rf r = zAA s0.rows r /\ num r = num0 r /\ ζ r = ζ0 r /\ zAA rf r = zAA s.rows r:=fun r hr hl=>by
  obtain ⟨lv,h1,h2⟩:=rowsOk_at hrows r hr hl
  obtain ⟨h3,h4,h5,h6⟩:=hle1.rows r lv h1 (by omega)
  exact ⟨lv,h1,h2,h3,h4,h5,h6,hst r lv h1 h2⟩
 have hia:=injOk_at hinj
 have hsrc:∀ r,zBR σ.rows r = none -> src ρ r = r:=fun r hl=>by
  unfold src
  cases hg:zCK ρ r with
  | none=>rfl
  | some q=>exact rhoOk_at hrho hg hl
 rw [hu]
 have hlook:=hm.look
 have hlt:∀ r e,zBR σ.rows r = some e -> r < σ.n:=fun r e h=>below_at hbelow r e (lookR_mem h)
 have hat:∀ r,r < σ.n -> zAA (zBs dl m s0.rows 0 σ.n) r = (match rowIn m r with | some row=>row | none=>zAA rf r):=fun r hr=>by
  have h1:=(newRows_at (dl:=dl) (m:=m) (base:=s0.rows) σ.n 0 r).1 hr
  rw [yAT] at h1
  rw [h1]
  have h2:=hlook r
  cases hl:zBR σ.rows r with
  | some e=>rw [hl] at h2;obtain ⟨row,h3,_⟩:=h2;rw [h3]
  | none =>
   rw [hl] at h2
   obtain ⟨lv,g1,g2,g3,g4,_⟩:=hkept r hr hl
   rw [h2,g3,g4]
 have hge:∀ r,σ.n <= r -> zAA (zBs dl m s0.rows 0 σ.n) r = .gone:=fun r hr=>rowAt_ge _ _ (by rw [newRows_len];exact hr)
 have hlen:=newRows_len (dl:=dl) (m:=m) (base:=s0.rows) σ.n 0
 have hstamp:=fun r=>(newRows_at (dl:=dl) (m:=m) (base:=s0.rows) σ.n 0 r).2
 generalize zBs dl m s0.rows 0 σ.n = rows' at *
 have hT:∀ r,Tgt ρ (isLst σ.rows) rf rows' r (zAA rows' r):=fun r=>by
  by_cases hr:r < σ.n
  ·rw [hat r hr]
   have h2:=hlook r
   cases hl:zBR σ.rows r with
   | some e=>rw [hl] at h2;obtain ⟨row,h3,h4⟩:=h2;rw [h3];exact .pk h4
   | none =>
    rw [hl] at h2
    rw [h2]
    obtain ⟨lv,g1,g2,g3,g4,g5,g6,g7⟩:=hkept r hr hl
    refine .keep (hsrc r hl) (fun t x hrow z hz=>hself z (.inr ((uniKeepR_id _ _ _).2 r hr hl t x (hone r t x hrow) z hz))) fun mm hmm=>?_
    have hmem:mm ∈ rowRefs (zAA s.rows r):=by rw [<- g7];rcases hmm with h | ⟨_,_,_,_,h⟩ <;> rw [h] <;> simp [rowRefs]
    obtain ⟨k1,k2⟩:=keptBelow_at hkr r hr hl mm hmem
    have hlm:zBR σ.rows mm = none:=by
     rcases k2 with ⟨t,x,k2⟩ | k2
     ·rw [<- g7] at k2;rcases hmm with h | ⟨_,_,_,_,h⟩ <;> rw [h] at k2 <;> cases k2
     ·exact k2
    have h3:=hlook mm
    rw [hlm] at h3
    exact ⟨hsrc mm hlm,by rw [hat mm k1,h3]⟩
  ·rw [hge r (by omega)];exact .gone
 have hnul:∀ r,zCK ρ r = none -> isLst σ.rows r = true -> ∃ t,zAA rows' r = .lst t []:=fun r hg hl=>by
  unfold isLst at hl
  have h2:=hlook r
  cases hlr:zBR σ.rows r with
  | none=>rw [hlr] at hl;cases hl
  | some e =>
   rw [hlr] at hl h2
   cases e <;> first | (cases hl;done) | skip
   obtain ⟨row,h3,h4⟩:=h2
   rw [hat r (hlt r _ hlr),h3]
   cases h4 with
   | lst h5 _=>rw [hg] at h5;cases h5
   | nil=>exact ⟨_,rfl⟩
 have hcls:∀ r,zAW (zAA rows' r) = true -> r < σ.n /\ ((zBR σ.rows r = none) \/ ∃ e q,zBR σ.rows r = some e /\ e ≠ .gone /\ zCK ρ r = some q):=fun r hl=>by
  have hr:r < σ.n:=by
   rcases yAZ r σ.n with h | h
   ·exact h
   ·rw [hge r h] at hl;simp [zAW] at hl
  refine ⟨hr,?_⟩
  have h2:=hlook r
  cases hlr:zBR σ.rows r with
  | none=>exact .inl rfl
  | some e =>
   rw [hlr] at h2
   obtain ⟨row,h3,h4⟩:=h2
   rw [hat r hr,h3] at hl
   refine .inr ⟨e,?_⟩
   cases h4 with
   | gone=>simp [zAW] at hl
   | nil=>simp [zAW] at hl
   | one h5=>exact ⟨_,rfl,by simp,h5⟩
   | many h5=>exact ⟨_,rfl,by simp,h5⟩
   | lst h5=>exact ⟨_,rfl,by simp,h5⟩
   | fro h5=>exact ⟨_,rfl,by simp,h5⟩
   | fr1 h5=>exact ⟨_,rfl,by simp,h5⟩
   | mp h5=>exact ⟨_,rfl,by simp,h5⟩
   | sit h5=>exact ⟨_,rfl,by simp,h5⟩
 have hinj':∀ r z,zAW (zAA rows' r) = true -> zAW (zAA rows' z) = true -> r ≠ z -> src ρ r ≠ src ρ z:=fun r z h1 h2 hne=>by
  obtain ⟨hr,h3⟩:=hcls r h1
  obtain ⟨hz,h4⟩:=hcls z h2
  rcases h3 with h3 | ⟨e1,q1,h3,h3g,h3q⟩ <;> rcases h4 with h4 | ⟨e2,q2,h4,h4g,h4q⟩
  ·rw [hsrc r h3,hsrc z h4];exact hne
  ·rw [hsrc r h3,zAb h4q]
   intro hq
   have:=((hia.one z e2 h4 h4g).1 q2 h4q).2.2 (hq ▸ h3)
   omega
  ·rw [hsrc z h4,zAb h3q]
   intro hq
   have:=((hia.one r e1 h3 h3g).1 q1 h3q).2.2 (hq ▸ h4)
   omega
  ·rw [zAb h3q,zAb h4q];exact hia.two r z e1 e2 q1 q2 h3 h4 h3g h4g hne h3q h4q
 have hrefs:∀ r t y,zAA rows' r = .one t y -> ∀ z ∈ t.refs,z < rows'.length:=fun r t y hrow z hz=>by
  rw [hlen]
  have hr:r < σ.n:=by
   rcases yAZ r σ.n with h | h
   ·exact h
   ·rw [hge r h] at hrow;cases hrow
  have h2:=hlook r
  rw [hat r hr] at hrow
  cases hlr:zBR σ.rows r with
  | none =>
   rw [hlr] at h2
   rw [h2] at hrow
   obtain ⟨lv,g1,g2,g3,g4,g5,g6,g7⟩:=hkept r hr hlr
   exact (keptBelow_at hkr r hr hlr z (by rw [hone r t y hrow];exact hz)).1
  | some e =>
   rw [hlr] at h2
   obtain ⟨row,h3,h4⟩:=h2
   rw [h3] at hrow
   dsimp only at hrow
   subst hrow
   cases h4
   exact rowsBelow_at hrb r _ (lookR_mem hlr) z hz
 have hp:=tgt_prel (num:=num) hT hnul
 have hR:=tgt_hrel ha1.hrel hT hnul hrefs hinj'
 have hent:∀ n ent,zAm (slotE dl σ.slots us ++ keepE s0.env σ.keep) n = some ent -> ent.c = [] /\ okV rows' ent.v /\ (ent.lv < dl -> zAm s0.env n = some ent) /\ ∃ e0,zAm s.env n = some e0 /\ e0.c = [] /\ Tl (enc (zAB num rf) e0.v) (enc (zAB (fun r=>num (src ρ r)) rows') ent.v):=fun n ent hf=>by
  rw [findE_app] at hf
  cases hs:zAm (slotE dl σ.slots us) n with
  | some e1 =>
   rw [hs] at hf
   have:=yAA hf;subst this
   obtain ⟨e0,t,y,g1,g2,g3,g4,g5⟩:=slotE_at hvs hus hs
   subst g4
   have hok:=ha1.ok n e0 g1 (by rw [g2];rfl)
   have ht:=packV_told hp t e0.v y hok g3
   refine ⟨rfl,ht.ok fun z hz=>by rw [hlen];exact slotsBelow_at hsb t g5 z hz,fun hlv=>absurd hlv (Nat.lt_irrefl _),e0,g1,g2,ht.one⟩
  | none =>
   rw [hs] at hf
   obtain ⟨g1,g2⟩:=keepE_at hf
   obtain ⟨e0,g3,g4,g5⟩:=keepOk_at hkeep n g2
   have g6:=hle.env n e0 g3 (by omega)
   rw [g1] at g6
   have:=yAA g6;subst this
   have hz:∀ z ∈ ent.v.t.refs,zCK ρ z = some z:=fun z hz=>hself z (.inl ((uniKeep_id _ _).2 n g2 ent g3 z hz))
   have hok:=ha1.ok n ent g3 (by rw [g5];rfl)
   have hs:=enc_self hp ent.v.t ent.v.x hz hok
   exact ⟨g5,hs.2 fun z hz'=>by rw [hlen];exact keepBelow_at hkb n g2 ent g3 z hz',fun _=>g1,ent,g3,g5,hs.1.1⟩
 refine ⟨fun r=>ζ (src ρ r),fun r=>num (src ρ r),_,hw1.trans (WeakS.env fun i=>?_),⟨rfl,hR,fun n ent hf _=>(hent n ent hf).2.1,fun n b h=>(by cases h),fun r hl=>?_,ha1.hlen,?_,fun r hr hi=>?_⟩,⟨fun n ent hf hlv=>(hent n ent hf).2.2.1 hlv,fun r lv h1 h2=>?_⟩⟩
 ·unfold zCn
  dsimp only
  cases hf:zAm (slotE dl σ.slots us ++ keepE s0.env σ.keep) i with
  | none=>exact Tl.any _
  | some ent =>
   obtain ⟨g1,g2,g3,e0,g4,g5,g6⟩:=hent i ent hf
   rw [g4]
   have hh:∀ gs:List (Nat × Bool),zBB gs [] = true:=fun gs=>rfl
   simp only [entD,g1,g5,hh,if_true]
   exact g6
 ·obtain ⟨h1,h2⟩:=hcls r hl
  have hb:=ha1.base (src ρ r) (tgt_live (hT r) hl)
  rcases h2 with h2 | ⟨e1,q1,h2,h2g,h2q⟩
  ·rw [hsrc r h2] at hb ⊢;exact hb
  ·have h3:=((hia.one r e1 h2 h2g).1 q1 h2q).1
   rw [zAb h2q] at hb ⊢
   rcases h3 with ⟨h3,h4⟩ | ⟨h3,h4⟩
   ·subst h4;exact hb
   ·exact ⟨fun h=>by omega,fun _=>hb.2 (by omega)⟩
 ·show B.k <= rows'.length
  rw [hlen,hk];exact yAc hkn
 ·have hr':r < σ.n:=yAd hr (by rw [hk];exact yAc hkn)
  have h2:=hlook r
  cases hlr:zBR σ.rows r with
  | none =>
   rw [hlr] at h2
   exact tgt_lens (B:=B) hT ha1.lens hr (hsrc r hlr) (.inr (.inl (by rw [hat r hr',h2]))) hi
  | some e =>
   by_cases hg:e = .gone
   ·subst hg
    rw [hlr] at h2
    obtain ⟨row,h3,h4⟩:=h2
    cases h4
    have hi:zAS (zAA rows' r) = true:=hi
    rw [hat r hr',h3] at hi;simp [zAS] at hi
   ·cases hq:zCK ρ r with
    | none=>have:=(hia.one r e hlr hg).2 hq;omega
    | some q =>
     have h3:=((hia.one r e hlr hg).1 q hq).1
     have hqr:q = r:=by rcases h3 with ⟨_,h4⟩ | ⟨h4,_⟩;exact h4;omega
     subst hqr
     exact tgt_lens (B:=B) hT ha1.lens hr (zAb hq) (.inl hq) hi
 ·have h1:zAU rows' r = some lv:=h1
  have h3:=hstamp r lv h1
  rw [yAT] at h3
  rcases h3 with ⟨h3,_⟩ | ⟨h3,_⟩ | ⟨h3,h4⟩
  ·omega
  ·omega
  ·have h2':=hlook r
   have hr:r < σ.n:=by
    rcases yAZ r σ.n with h | h
    ·exact h
    ·rw [stampAt_ge _ _ (by rw [hlen];exact h)] at h1;cases h1
   cases hlr:zBR σ.rows r with
   | some e=>rw [hlr] at h2';obtain ⟨row,h5,_⟩:=h2';rw [h3] at h5;cases h5
   | none =>
    obtain ⟨lv',g1,g2,g3,g4,g5,g6,g7⟩:=hkept r hr hlr
    refine ⟨h4,?_,?_,?_⟩
    ·show zAA rows' r = _
     rw [hat r hr,h3];exact g4
    ·show num (src ρ r) = _
     rw [hsrc r hlr];exact g5
    ·show ζ (src ρ r) = _
     rw [hsrc r hlr];exact g6
end
end Go.T
namespace Go.T
open Go.Ab
variable [Go.Ab.DM]
def zBH (c:Con) (x:(zAY c.inT).I):List TV:=(zBz c.as (zAK (zAY c.inT) x)).1
def zBm (c:Con) (x:(zAY c.inT).I):Rows:=zAo (zBc (numb 0 c.ins) (zBz c.as (zAK (zAY c.inT) x)).2)
def zBT (c:Con) (y:(zAY c.outT).I):TV:=match (zBz [c.res] (zAK (zAY c.outT) y)).1 with | [v]=>v | _=>⟨.any,()⟩
def zAT (c:Con) (y:(zAY c.outT).I):Rows:=zAo (zBc (numb 0 c.outs) (zBz [c.res] (zAK (zAY c.outT) y)).2)
def zAl (P:Program) (c:Con):Prop:=∀ x,(∃ y,c.Q x y) -> ∀ (ζ:Nat -> Row) (num:Nat -> Nat) (H:Heap),HRel ζ num (zBm c x) H -> (∀ v ∈ zBH c x,okV (zBm c x) v) ->
 Sound P c.f ((zBH c x).map (enc (zAB num (zBm c x)))) H fun dd H'=>∃ y,c.Q x y /\ ∃ ζ' num',HRel ζ' num' (zAT c y) H' /\ dd = enc (zAB num' (zAT c y)) (zBT c y) /\ okV (zAT c y) (zBT c y) /\
  (∀ r,zAW (zAA (zAT c y) r) = true -> (r < c.ins.length -> num' r = num r) /\ (c.ins.length <= r -> H.length <= num' r)) /\ ∀ r,r < c.ins.length -> zAS (zAA (zAT c y) r) = true -> zCg (zAA (zAT c y) r) = zCg (zAA (zBm c x) r)
section
variable {ζ ζ':Nat -> Row} {num num':Nat -> Nat} {rows rows' rf:Rows} {H H':Heap}
def rowAt_stRows:∀ (l:List (Nat × TRow)) (i:Nat),zAA (zAo l) i = match l[i]? with | some p=>p.2 | none=>.gone
 | [],i=>by simp [zAo,zAA]
 | (_,row) :: l,0=>rfl
 | (_,row) :: l,i + 1=>by simp only [zAo,zAA,yBH];exact rowAt_stRows l i
def len_stRows:∀ (l:List (Nat × TRow)),(zAo l).length = l.length
 | []=>rfl
 | (_,row) :: l=>by simp [zAo,len_stRows l]
def numb_len {α:Type}:∀ (l:List α) (n:Nat),(numb n l).length = l.length
 | [],n=>rfl
 | _ :: l,n=>by simp [numb,numb_len l (n + 1)]
def PkRows.len {ρ:List (Nat × Nat)} {isL:Nat -> Bool} {l:List (Nat × RTy)} {m:List (Nat × TRow)} (h:PkRows ρ isL rows l m):m.length = l.length:=by
 induction h with
 | nil=>rfl
 | cons _ _ ih=>simp [ih]
def PkRows.at {ρ:List (Nat × Nat)} {isL:Nat -> Bool}:∀ {l:List RTy} {n:Nat} {m:List (Nat × TRow)},PkRows ρ isL rows (numb n l) m -> ∀ i,(match l[i]? with | some e=>∃ row,zAA (zAo m) i = row /\ m[i]? = some (n + i,row) /\ PkRow ρ isL rows (n + i) e row | none=>zAA (zAo m) i = .gone)
 | [],n,m,h,i=>by cases h;rfl
 | e :: l,n,m,h,0=>by cases h with | cons h1 h2=>exact ⟨_,rfl,rfl,h1⟩
 | e :: l,n,m,h,i + 1=>by
  cases h with
  | cons h1 h2 =>
   have ih:=PkRows.at h2 i
   simp only [yBH,zAo,zAA]
   rw [show n + (i + 1) = n + 1 + i by omega]
   exact ih
def hrel_get (hr:HRel ζ num rows H) (h:∀ r,zAW (zAA rows r) = true -> H'.get (num r) = H.get (num r)):HRel ζ num rows H' :=
 ⟨fun r=>row_keep (hr.row r) (fun t x=>hr.ok r t x) rfl rfl rfl (h r) (fun m a b l hm _=>⟨hm,rfl,h m (by rw [hm];rfl)⟩) fun _ _=>RefTl.refl _ _,hr.inj,hr.ok⟩
def zBu:TRow -> Nat
 | .one _ _=>0 | .many _ _=>1 | .lst _ _=>2 | .mp _ _ _=>3 | .sit _ _=>4 | .fro _ _=>5 | .fr1 _ _=>6 | .itb _=>7 | .ite _ _ _ _ _=>8 | .gone=>9
def kind_ref {n:Nat} {a b:TRow} (h:zBu b = zBu a) (hk:zBu a < 5) (hl:zAS b = true -> zCg b = zCg a):RefTl n a n b:=by
 cases a <;> cases b <;> simp [zBu] at h hk <;> first | exact ref_one _ | exact ref_many _ (hl rfl) | exact ref_lst _ (hl rfl) | exact ref_mp _ | exact ⟨Tl.refl _,fun _=>Tl.refl _,fun _=>Tl.refl _,fun _ _=>Tl.refl _,Tl.refl _⟩
def kind_live {a b:TRow} (h:zBu b = zBu a) (hl:zAS b = true -> zCg b = zCg a) (hb:zAW b = true):zAW a = true:=by
 cases a <;> cases b <;> simp [zBu] at h <;> first | rfl | (simp [zAW] at hb;done) | skip
 rename_i t l t' l'
 have:=hl rfl
 simp only [zCg] at this
 simp only [zAW] at hb ⊢
 cases l <;> cases l' <;> simp at this hb ⊢
def kind_list {a b:TRow} (h:zBu b = zBu a) (hb:zAS b = true):zAS a = true:=by
 cases a <;> cases b <;> simp [zBu] at h <;> first | rfl | (simp [zAS] at hb;done)
def rowOf_kind (e:RTy) (v:TV):rowOf e v = .gone \/ (match e with | .one _=>zBu (rowOf e v) = 0 | .many _=>zBu (rowOf e v) = 1 | .lst _=>zBu (rowOf e v) = 2 | .mp _ _=>zBu (rowOf e v) = 3 | .sit=>zBu (rowOf e v) = 4 | .fro _=>zBu (rowOf e v) = 5 | .fr1 _=>zBu (rowOf e v) = 6 | .gone=>False):=by
 unfold rowOf
 split <;> first | exact .inr rfl | exact .inl rfl
def ren_row_kind (τ:Nat -> Nat) (row:TRow):zBu (renRow τ row) = zBu row /\ zAS (renRow τ row) = zAS row /\ zCg (renRow τ row) = zCg row /\ zAW (renRow τ row) = zAW row:=by
 cases row <;> exact ⟨rfl,rfl,rfl,rfl⟩
structure SameRef (n:Nat) (row:TRow) (n':Nat) (row':TRow):Prop where
 own:ownD n' row' = ownD n row
 sub:∀ q,subD n' q row' = subD n q row
 p0:∀ o,p0D n' o row' = p0D n o row
 pt:∀ o i,(zAS row = true -> Nat.lt i (zCg row)) -> ptD n' o i row' = ptD n o i row
 mp:mpD n' row' = mpD n row
def ren_same (τ:Nat -> Nat) {n n':Nat} (row:TRow) (h:zAW row = true -> n' = n):SameRef n row n' (renRow τ row):=by
 cases row with
 | one t x=>have:=h rfl;subst this;exact ⟨rfl,fun _=>rfl,fun _=>rfl,fun _ _ _=>rfl,rfl⟩
 | many t l=>have:=h rfl;subst this;exact ⟨rfl,fun _=>rfl,fun _=>rfl,fun _ _ _=>rfl,rfl⟩
 | lst t l=>cases l with
  | nil=>exact ⟨rfl,fun _=>rfl,fun _=>rfl,fun _ i hi=>absurd (hi rfl) (yAr i),rfl⟩
  | cons y l=>have:=h rfl;subst this;exact ⟨rfl,fun _=>rfl,fun _=>rfl,fun _ _ _=>rfl,rfl⟩
 | mp k v l=>have:=h rfl;subst this;exact ⟨rfl,fun _=>rfl,fun _=>rfl,fun _ _ _=>rfl,rfl⟩
 | itb m=>have:=h rfl;subst this;exact ⟨rfl,fun _=>rfl,fun _=>rfl,fun _ _ _=>rfl,rfl⟩
 | ite m k v x y=>have:=h rfl;subst this;exact ⟨rfl,fun _=>rfl,fun _=>rfl,fun _ _ _=>rfl,rfl⟩
 | sit b p=>have:=h rfl;subst this;exact ⟨rfl,fun _=>rfl,fun _=>rfl,fun _ _ _=>rfl,rfl⟩
 | _=>exact ⟨rfl,fun _=>rfl,fun _=>rfl,fun _ _ _=>rfl,rfl⟩
structure RenOk (num:Nat -> Nat) (rows:Rows) (num':Nat -> Nat) (rows':Rows) (v:TV) (t:Ty) (x:t.I):Prop where
 one:enc (zAB num' rows') v = (E t (zAB num rows) x).1
 all:encs (zAB num' rows') v = (E t (zAB num rows) x).2
 ok:okV rows' v
def ren_pure {t:Ty} (h:t.pure = true) (x:t.I):RenOk num rows num' rows' ⟨t,x⟩ t x :=
 ⟨congrArg Prod.fst (E_pure t h _ _ x),congrArg Prod.snd (E_pure t h _ _ x),zCR t x h⟩
def ren_leaf {v:TV} {t:Ty} {x:t.I} (hv:v.t.sp = false) (ht:t.sp = false) (h:enc (zAB num' rows') v = (E t (zAB num rows) x).1) (hok:okV rows' v):RenOk num rows num' rows' v t x :=
 ⟨h,by unfold encs;rw [E_one hv,E_one ht];exact congrArg (fun d=>[d]) h,hok⟩
def renV_pr (τ:Nat -> Nat) (a b:Ty) (x:(Ty.pr a b).I):renV τ (.pr a b) x = ⟨.pr (renV τ a x.1).t (renV τ b x.2).t,((renV τ a x.1).x,(renV τ b x.2).x)⟩:=rfl
def renV_agg (τ:Nat -> Nat) (s:Ty) (x:(Ty.agg s).I):renV τ (.agg s) x = bif s.pure then ⟨.agg s,x⟩ else ⟨.agg (renV τ s x).t,(renV τ s x).x⟩:=rfl
def renV_tup (τ:Nat -> Nat) (s:Ty) (x:(Ty.tup s).I):renV τ (.tup s) x = bif s.pure then ⟨.tup s,x⟩ else ⟨.tup (renV τ s x).t,(renV τ s x).x⟩:=rfl
def ren_ok (τ:Nat -> Nat) (h:∀ r,r < rows.length -> SameRef (num r) (zAA rows r) (num' (τ r)) (zAA rows' (τ r))) (hlen:∀ r,r < rows.length -> τ r < rows'.length) (hlens:∀ r,r < rows.length -> zAS (zAA rows' (τ r)) = true -> zAS (zAA rows r) = true /\ zCg (zAA rows' (τ r)) = zCg (zAA rows r)) :
  ∀ (t:Ty) (x:t.I),okT rows t x -> RenOk num rows num' rows' (renV τ t x) t x:=by
 intro t
 induction t with
 | pr a b iha ihb =>
  intro x hx
  rw [renV_pr]
  have ga:=iha x.1 hx.1
  have gb:=ihb x.2 hx.2
  exact ⟨rfl,by show enc _ (renV τ a x.1) :: encs _ (renV τ b x.2) = _;rw [ga.one,gb.all];rfl,⟨ga.ok,gb.ok⟩⟩
 | unit=>intro x hx;exact ⟨rfl,rfl,trivial⟩
 | agg s ih =>
  intro x hx
  rw [renV_agg]
  cases hp:s.pure with
  | true=>exact ren_pure (t:=.agg s) hp x
  | false =>
   have g:=ih x hx
   exact ren_leaf rfl rfl (congrArg D.agg g.all) g.ok
 | tup s ih =>
  intro x hx
  rw [renV_tup]
  cases hp:s.pure with
  | true=>exact ren_pure (t:=.tup s) hp x
  | false =>
   have g:=ih x hx
   exact ren_leaf rfl rfl (congrArg D.tup g.all) g.ok
 | fn f a c iha ihc =>
  intro x hx
  have ga:=iha x.1 hx.1
  have gc:=ihc x.2 hx.2
  refine ren_leaf rfl rfl ?_ ⟨ga.ok,gc.ok⟩
  show D.fn (.func f) (encs _ (renV τ a x.1)) (encs _ (renV τ c x.2)) = _
  rw [ga.all,gc.all];rfl
 | ifc id t ih =>
  intro x hx
  have g:=ih x hx
  exact ren_leaf rfl rfl (congrArg (D.ifc id) g.one) g.ok
 | own r=>intro x hx;exact ren_leaf rfl rfl (h r hx).own (hlen r hx)
 | sub r =>
  intro x hx
  exact ren_leaf rfl rfl ((h r hx.1).sub x) ⟨hlen r hx.1,fun hl=>by obtain ⟨h1,h2⟩:=hlens r hx.1 hl;rw [h2];exact hx.2 h1⟩
 | p0 r o=>intro x hx;exact ren_leaf rfl rfl ((h r hx).p0 o) (hlen r hx)
 | pt r o =>
  intro x hx
  exact ren_leaf rfl rfl ((h r hx.1).pt o x hx.2) ⟨hlen r hx.1,fun hl=>by obtain ⟨h1,h2⟩:=hlens r hx.1 hl;rw [h2];exact hx.2 h1⟩
 | mp r=>intro x hx;exact ren_leaf rfl rfl (h r hx).mp (hlen r hx)
 | _=>intro x hx;exact ⟨rfl,rfl,trivial⟩
def ren_shape (τ:Nat -> Nat) (t:Ty) (x:t.I):zBr (renV τ t x).t = zBr t /\ (t.lay = true -> (renV τ t x).t.lay = true):=by
 have ones:∀ (s:Ty) (y:s.I),s.ones = true -> (renV τ s y).t.ones = true:=by
  intro s
  induction s with
  | pr a b iha ihb =>
   intro y h
   simp only [Ty.ones,yAB] at h
   rw [renV_pr]
   simp only [Ty.ones,yAB]
   exact ⟨oneT a y.1 h.1,ihb y.2 h.2⟩
  | unit=>intro y h;rfl
  | agg s ih=>intro y h;simp [Ty.ones,Ty.one] at h
  | tup s ih=>intro y h;simp [Ty.ones,Ty.one] at h
  | _=>intro y h;exact oneT _ y h
 cases t with
 | agg s =>
  rw [renV_agg]
  cases s.pure
  ·exact ⟨rfl,fun h=>ones s x h⟩
  ·exact ⟨rfl,id⟩
 | pr a b=>exact ⟨rfl,fun h=>by simp [Ty.lay,Ty.one] at h⟩
 | tup s=>rw [renV_tup];cases s.pure <;> exact ⟨rfl,fun h=>by simp [Ty.lay,Ty.one] at h⟩
 | _=>exact ⟨rfl,fun h=>h⟩
where
 oneT (t:Ty) (x:t.I) (h:t.one = true):(renV τ t x).t.one = true:=by
  cases t with
  | pr a b=>simp [Ty.one] at h
  | agg s=>simp [Ty.one] at h
  | tup s=>simp [Ty.one] at h
  | _=>exact h
end
end Go.T
namespace Go.T
open Go.Ab
variable [Go.Ab.DM]
def leaves_types:∀ (ts:List Ty),(∀ t ∈ ts,t.sp = false) -> ∀ y:(zAY ts).I,(zAK (zAY ts) y).map (·.t) = ts
 | [],_,y=>rfl
 | [t],h,y=>congrArg (List.map (·.t)) (leaves_one (h t (by simp)) y)
 | t :: u :: r,h,y=>by
  show t :: (zAK (zAY (u :: r)) y.2).map (·.t) = _
  rw [leaves_types (u :: r) (fun v hv=>h v (yAF _ hv)) y.2]
def noTriv_cons (t:Ty) (l:List Ty):zCd (t :: l) = if t.triv = true then zCd l else t :: zCd l:=by
 unfold zCd
 cases h:t.triv <;> simp [h]
def unRows_full:∀ (l:List (Nat × RTy)) (vs:List TV),vs.map (·.t) = zCd (l.map (·.2.dat)) -> (zBc l vs).length = l.length
 | [],vs,_=>rfl
 | (r,e) :: l,vs,h=>by
  rw [yAL,noTriv_cons] at h
  simp only [zBc]
  cases ht:e.dat.triv with
  | true=>rw [if_pos ht] at h;simp only [cond_true,yAY,unRows_full l vs h]
  | false =>
   rw [if_neg (by rw [ht];simp)] at h
   simp only [cond_false]
   cases vs with
   | nil=>cases h
   | cons v vs =>
    simp only [yAL,yAq] at h
    simp only [yAY,unRows_full l vs h.2]
def unRows_types:∀ (l:List RTy) (n:Nat) (vs:List TV),vs.map (·.t) = zCd (l.map RTy.dat) -> ∀ i p,(zBc (numb n l) vs)[i]? = some p -> ∃ e v,l[i]? = some e /\ p = (n + i,rowOf e v) /\ v.t = e.dat
 | [],n,vs,_,i,p,h=>by simp [numb,zBc] at h
 | e :: l,n,vs,hvs,i,p,h=>by
  rw [yAL,noTriv_cons] at hvs
  simp only [numb,zBc] at h
  have step:∀ v vs',v.t = e.dat -> vs'.map (·.t) = zCd (l.map RTy.dat) -> ((n,rowOf e v) :: zBc (numb (n + 1) l) vs')[i]? = some p -> ∃ e' v,(e :: l)[i]? = some e' /\ p = (n + i,rowOf e' v) /\ v.t = e'.dat:=fun v vs' hv hvs' h=>by
   cases i with
   | zero=>exact ⟨e,v,rfl,(yAA h).symm,hv⟩
   | succ i =>
    obtain ⟨e',v',h1,h2,h3⟩:=unRows_types l (n + 1) vs' hvs' i p h
    exact ⟨e',v',h1,by rw [h2,show n + 1 + i = n + (i + 1) by omega],h3⟩
  cases ht:e.dat.triv with
  | true=>rw [ht,cond_true] at h;rw [if_pos ht] at hvs;exact step _ _ rfl hvs h
  | false =>
   rw [ht,cond_false] at h
   rw [if_neg (by rw [ht];simp)] at hvs
   cases vs with
   | nil=>simp at h
   | cons v vs=>simp only [yAL,yAq] at hvs;exact step v vs hvs.1 hvs.2 h
def out_types {c:Con} (h:(c.outT.all fun t=>!t.sp) = true) (y:(zAY c.outT).I):(zBz [c.res] (zAK (zAY c.outT) y)).2.map (·.t) = zCd (c.outs.map RTy.dat) /\ ∃ v,(zBz [c.res] (zAK (zAY c.outT) y)).1 = [v] /\ v.t = c.res:=by
 have h1:=leaves_types c.outT (fun t ht=>by rw [yAR] at h;simpa using h t ht) y
 have h3:c.outT = zCd (c.res :: c.outs.map RTy.dat):=rfl
 have h1:(zAK (zAY c.outT) y).map (·.t) = zCd (c.res :: c.outs.map RTy.dat):=h1.trans h3
 rw [noTriv_cons] at h1
 simp only [zBz]
 cases ht:c.res.triv with
 | true=>rw [if_pos ht] at h1;exact ⟨h1,_,rfl,rfl⟩
 | false =>
  rw [if_neg (by rw [ht];simp)] at h1
  simp only [cond_false]
  generalize zAK (zAY c.outT) y = vs at *
  cases vs with
  | nil=>cases h1
  | cons v vs=>simp only [yAL,yAq] at h1;exact ⟨h1.2,v,rfl,h1.1⟩
def conOuts_len {c:Con} (h:(c.outT.all fun t=>!t.sp) = true) (y:(zAY c.outT).I):(zAT c y).length = c.outs.length:=by
 have h1:=leaves_types c.outT (fun t ht=>by rw [yAR] at h;simpa using h t ht) y
 unfold zAT
 rw [len_stRows,unRows_full,numb_len]
 have h2:(numb 0 c.outs).map (·.2.dat) = c.outs.map RTy.dat:=by
  have:∀ (l:List RTy) (n:Nat),(numb n l).map (·.2.dat) = l.map RTy.dat:=by
   intro l
   induction l with
   | nil=>intro n;rfl
   | cons e l ih=>intro n;simp [numb,ih]
  exact this _ _
 rw [h2]
 have h3:c.outT = zCd (c.res :: c.outs.map RTy.dat):=rfl
 have h1:(zAK (zAY c.outT) y).map (·.t) = zCd (c.res :: c.outs.map RTy.dat):=h1.trans h3
 rw [noTriv_cons] at h1
 simp only [zBz]
 cases ht:c.res.triv with
 | true=>rw [if_pos ht] at h1;exact h1
 | false =>
  rw [if_neg (by rw [ht];simp)] at h1
  simp only [cond_false]
  generalize zAK (zAY c.outT) y = vs at *
  cases vs with
  | nil=>cases h1
  | cons v vs=>simp only [yAL,yAq] at h1;exact h1.2
section
variable {d k base:Nat} {τ:Nat -> Nat} {ρ:List (Nat × Nat)}
def loc_lt {i:Nat} (h:i < k):locR ρ k base i = (zCK ρ i).getD 0:=by
 unfold locR
 have:Nat.blt i k = true:=Nat.ble_eq_true_of_le h
 rw [this];rfl
def loc_ge {i:Nat} (h:k <= i):locR ρ k base i = base + (i - k):=by
 unfold locR
 cases hb:Nat.blt i k with
 | true=>have:i < k:=yAc hb;omega
 | false=>rfl
def loc_inj (hρ:∀ i,i < k -> ∃ q,zCK ρ i = some q /\ q < base) (hinj:∀ i j,i < k -> j < k -> i ≠ j -> src ρ i ≠ src ρ j) {i j:Nat} (h:i ≠ j):locR ρ k base i ≠ locR ρ k base j:=by
 have hs:∀ i,i < k -> locR ρ k base i = src ρ i /\ src ρ i < base:=fun i hi=>by
  obtain ⟨q,h1,h2⟩:=hρ i hi
  rw [loc_lt hi,h1,zAb h1];exact ⟨rfl,h2⟩
 rcases yAZ i k with hi | hi <;> rcases yAZ j k with hj | hj
 ·rw [(hs i hi).1,(hs j hj).1];exact hinj i j hi hj h
 ·rw [(hs i hi).1,loc_ge hj];have:=(hs i hi).2;omega
 ·rw [(hs j hj).1,loc_ge hi];have:=(hs j hj).2;omega
 ·rw [loc_ge hi,loc_ge hj];omega
def back_at (hρ:∀ i,i < k -> ∃ q,zCK ρ i = some q /\ q < base) (hinj:∀ i j,i < k -> j < k -> i ≠ j -> src ρ i ≠ src ρ j) :
  ∀ (m:List (Nat × TRow)) (n:Nat) (rows:Rows),(∀ i p,m[i]? = some p -> p.1 = n + i) -> rows.length = base + (n - k) ->
   (zBa d τ ρ k rows m).length = base + (n + m.length - k) /\
   (∀ i p,m[i]? = some p -> zAA (zBa d τ ρ k rows m) (locR ρ k base (n + i)) = renRow τ p.2 /\ zAU (zBa d τ ρ k rows m) (locR ρ k base (n + i)) = some d) /\
   ∀ r,(∀ i,i < m.length -> locR ρ k base (n + i) ≠ r) -> zAA (zBa d τ ρ k rows m) r = zAA rows r /\ zAU (zBa d τ ρ k rows m) r = zAU rows r
 | [],n,rows,_,hl=>⟨by simpa [zBa] using hl,fun i p h=>by simp at h,fun r _=>⟨rfl,rfl⟩⟩
 | p :: m,n,rows,hm,hl=>by
  have hp:p.1 = n:=by have:=hm 0 p rfl;simpa using this
  have hm':∀ i q,m[i]? = some q -> q.1 = n + 1 + i:=fun i q h=>by have:=hm (i + 1) q h;omega
  obtain ⟨pi,prow⟩:=p
  dsimp only at hp;subst hp
  have one:∃ rows1,zBa d τ ρ k rows ((pi,prow) :: m) = zBa d τ ρ k rows1 m /\ rows1.length = base + (pi + 1 - k) /\ zAA rows1 (locR ρ k base pi) = renRow τ prow /\ zAU rows1 (locR ρ k base pi) = some d /\ ∀ r,locR ρ k base pi ≠ r -> zAA rows1 r = zAA rows r /\ zAU rows1 r = zAU rows r:=by
   rcases yAZ pi k with h | h
   ·obtain ⟨q,h1,h2⟩:=hρ pi h
    have hb:Nat.blt pi k = true:=Nat.ble_eq_true_of_le h
    have hql:q < rows.length:=by omega
    refine ⟨setRow rows q d (renRow τ prow),by simp only [zBa,hb,cond_true,h1],by rw [zBv,hl];omega,?_,?_,fun r hr=>?_⟩
    ·rw [loc_lt h,h1];exact rowAt_seteq hql
    ·rw [loc_lt h,h1,zBX];show (if q = q /\ q < rows.length then some d else _) = _;rw [if_pos ⟨rfl,hql⟩]
    ·rw [loc_lt h,h1] at hr
     have hr:q ≠ r:=hr
     exact ⟨zCi (Ne.symm hr),by rw [zBX,if_neg (fun h=>hr h.1.symm)]⟩
   ·have hb:Nat.blt pi k = false:=by
     cases hb:Nat.blt pi k with
     | false=>rfl
     | true=>have:pi < k:=yAc hb;omega
    have hlen:locR ρ k base pi = rows.length:=by rw [loc_ge h,hl]
    refine ⟨rows ++ [(d,renRow τ prow)],by simp only [zBa,hb,cond_false],by simp [hl];omega,?_,?_,fun r hr=>?_⟩
    ·rw [hlen,zBP]
    ·rw [hlen,stampAt_app_len]
    ·rw [hlen] at hr
     rcases Nat.lt_trichotomy r rows.length with h' | h' | h'
     ·exact ⟨rowAt_app_lt _ _ _ h',stampAt_app_lt _ _ _ h'⟩
     ·exact absurd h'.symm hr
     ·exact ⟨by rw [rowAt_app_gt _ _ _ h',rowAt_ge _ _ (by omega)],by rw [stampAt_ge _ _ (by simp;omega),stampAt_ge _ _ (by omega)]⟩
  obtain ⟨rows1,e1,e2,e3,e4,e5⟩:=one
  obtain ⟨g1,g2,g3⟩:=back_at hρ hinj m (pi + 1) rows1 hm' e2
  rw [e1]
  have hne:∀ i,locR ρ k base (pi + 1 + i) ≠ locR ρ k base pi:=fun i=>loc_inj hρ hinj (by omega)
  refine ⟨by rw [g1,yAY];congr 1;omega,fun i p h=>?_,fun r hr=>?_⟩
  ·cases i with
   | zero =>
    have:=yAA h;subst this
    obtain ⟨h1,h2⟩:=g3 (locR ρ k base pi) fun i _=>hne i
    exact ⟨by rw [show pi + 0 = pi from rfl,h1,e3],by rw [show pi + 0 = pi from rfl,h2,e4]⟩
   | succ i =>
    have:=g2 i p h
    rw [show pi + (i + 1) = pi + 1 + i by omega];exact this
  ·obtain ⟨h1,h2⟩:=g3 r fun i hi=>by rw [show pi + 1 + i = pi + (i + 1) by omega];exact hr (i + 1) (by rw [yAY];omega)
   obtain ⟨h3,h4⟩:=e5 r (hr 0 (by rw [yAY];omega))
   exact ⟨h1.trans h3,h2.trans h4⟩
end
end Go.T
namespace Go.T
open Go.Ab
variable [Go.Ab.DM]
def kindE:RTy -> Nat
 | .one _=>0 | .many _=>1 | .lst _=>2 | .mp _ _=>3 | .sit=>4 | .fro _=>5 | .fr1 _=>6 | .gone=>9
def okIO_kind {a b:RTy} (h:okIO a b = true):kindE a < 5 /\ (b = .gone \/ kindE b = kindE a):=by
 cases a <;> cases b <;> simp [okIO] at h <;> simp [kindE]
def okIOs_at:∀ {l m:List RTy},okIOs l m = true -> ∀ (i:Nat) (e:RTy),l[i]? = some e -> ∃ e',m[i]? = some e' /\ okIO e e' = true
 | [],m,_,i,e,h=>by simp at h
 | a :: l,[],h,_,_,_=>by cases h
 | a :: l,b :: m,h,i,e,hi=>by
  simp only [okIOs,yAB] at h
  cases i with
  | zero=>have:=yAA hi;subst this;exact ⟨b,rfl,h.1⟩
  | succ i=>exact okIOs_at h.2 i e hi
def okIOs_len:∀ {l m:List RTy},okIOs l m = true -> l.length <= m.length
 | [],m,_=>by simp
 | a :: l,[],h=>by cases h
 | a :: l,b :: m,h=>by
  simp only [okIOs,yAB] at h
  have:=okIOs_len h.2
  simp only [yAY];omega
def noIters_at {rows:Rows} {ρ:List (Nat × Nat)}:∀ {l:List RTy} {n:Nat},noIters rows ρ (numb n l) = true -> ∀ (i:Nat) (a b:Ty),l[i]? = some (.mp a b) -> ∃ q,zCK ρ (n + i) = some q /\ zDD q rows = true
 | [],n,_,i,a,b,h=>by simp at h
 | e :: l,n,h,i,a,b,hi=>by
  have tl:noIters rows ρ (numb (n + 1) l) = true:=by
   simp only [numb] at h
   cases e <;> first | exact h | (simp only [noIters,yAB] at h;exact h.2)
  cases i with
  | zero =>
   have:=yAA hi;subst this
   simp only [numb,noIters,yAB] at h
   have h1:=h.1
   split at h1
   ·rename_i q hq;exact ⟨q,hq,h1⟩
   ·cases h1
  | succ i =>
   obtain ⟨q,h1,h2⟩:=noIters_at tl i a b hi
   exact ⟨q,by rw [show n + (i + 1) = n + 1 + i by omega];exact h1,h2⟩
section
variable {ρ:List (Nat × Nat)} {isL:Nat -> Bool} {rows rf:Rows}
def pk_kind {r q:Nat} {e:RTy} {row:TRow} (h:PkRow ρ isL rf r e row) (hg:zCK ρ r = some q) (he:kindE e < 5):zBu row = kindE e /\ zBu (zAA rf q) = kindE e /\ zCg row = zCg (zAA rf q) /\ zAW row = zAW (zAA rf q):=by
 have eq:∀ {q'},zCK ρ r = some q' -> q' = q:=fun h=>by rw [hg] at h;exact (yAA h).symm
 cases h with
 | gone=>simp [kindE] at he
 | one h1 h2 h3 h4 h5=>have:=eq h1;subst this;rw [h2];exact ⟨rfl,rfl,rfl,rfl⟩
 | many h1 h2=>have:=eq h1;subst this;rw [h2];exact ⟨rfl,rfl,rfl,rfl⟩
 | lst h1 h2=>have:=eq h1;subst this;rw [h2];exact ⟨rfl,rfl,rfl,rfl⟩
 | fro h1 h2=>simp [kindE] at he
 | fr1 h1 h2=>simp [kindE] at he
 | mp h1 h2=>have:=eq h1;subst this;rw [h2];exact ⟨rfl,rfl,rfl,rfl⟩
 | sit h1 h2=>have:=eq h1;subst this;rw [h2];exact ⟨rfl,rfl,rfl,rfl⟩
 | nil h1 _=>rw [hg] at h1;cases h1
def fr_kind (hf:FrStep rows rf) {q:Nat} (h:zBu (zAA rf q) < 5):zAA rf q = zAA rows q:=by
 rcases hf.2 q with e | e
 ·exact e
 ·rw [e] at h ⊢
  cases hr:zAA rows q with
  | one t x=>rw [hr] at h;simp only [zCH] at h ⊢;cases hp:t.pure <;> rw [hp] at h <;> first | rfl | (simp [zBu] at h)
  | many t l=>rw [hr] at h;simp [zCH,zBu] at h
  | lst t l=>rw [hr] at h;simp [zCH,zBu] at h
  | _=>rfl
def kind_gone {row:TRow} (h:zBu row = 9):row = .gone:=by cases row <;> simp [zBu] at h;rfl
def enc_nomem {num:Nat -> Nat} (hrows:∀ r,zBu (zAA rows r) = 1 \/ zBu (zAA rows r) = 2 \/ zBu (zAA rows r) = 9):∀ (t:Ty) (x:t.I),t.mem = false -> (E t (zAB num rows) x).1.nomem = true /\ zCc (E t (zAB num rows) x).2 = true:=by
 have one:∀ (t:Ty) (x:t.I),t.sp = false -> (E t (zAB num rows) x).1.nomem = true -> (E t (zAB num rows) x).1.nomem = true /\ zCc (E t (zAB num rows) x).2 = true:=fun t x hs h=>⟨h,by rw [E_one hs];simp [zCc,h]⟩
 intro t
 induction t with
 | pr a b iha ihb =>
  intro x h
  simp only [Ty.mem,Bool.or_eq_false_iff] at h
  exact ⟨rfl,by show zCc ((E a _ x.1).1 :: (E b _ x.2).2) = true;simp only [zCc,(iha x.1 h.1).1,(ihb x.2 h.2).2,Bool.and_self]⟩
 | unit=>intro x h;exact ⟨rfl,rfl⟩
 | agg s ih=>intro x h;exact one _ x rfl (ih x h).2
 | tup s ih=>intro x h;exact one _ x rfl (ih x h).2
 | fn f a c iha ihc =>
  intro x h
  simp only [Ty.mem,Bool.or_eq_false_iff] at h
  exact one _ x rfl (by show (zCc (E a _ x.1).2 && zCc (E c _ x.2).2) = true;rw [(iha x.1 h.1).2,(ihc x.2 h.2).2];rfl)
 | ifc id t ih=>intro x h;exact one _ x rfl (ih x h).1
 | own r =>
  intro x _
  refine one _ x rfl ?_
  show (ownD (num r) (zAA rows r)).nomem = true
  rcases hrows r with h | h | h <;> cases hr:zAA rows r <;> rw [hr] at h <;> simp [zBu] at h <;> first | rfl | (rename_i t l;cases l <;> rfl)
 | sub r =>
  intro x _
  refine one _ x rfl ?_
  show (subD (num r) x (zAA rows r)).nomem = true
  rcases hrows r with h | h | h <;> cases hr:zAA rows r <;> rw [hr] at h <;> simp [zBu] at h <;> first | rfl | (rename_i t l;cases l <;> rfl)
 | p0 r o =>
  intro x _
  refine one _ x rfl ?_
  show (p0D (num r) o (zAA rows r)).nomem = true
  rcases hrows r with h | h | h <;> cases hr:zAA rows r <;> rw [hr] at h <;> simp [zBu] at h <;> rfl
 | pt r o =>
  intro x _
  refine one _ x rfl ?_
  show (ptD (num r) o x (zAA rows r)).nomem = true
  rcases hrows r with h | h | h <;> cases hr:zAA rows r <;> rw [hr] at h <;> simp [zBu] at h <;> rfl
 | mp r =>
  intro x _
  refine one _ x rfl ?_
  show (mpD (num r) (zAA rows r)).nomem = true
  rcases hrows r with h | h | h <;> cases hr:zAA rows r <;> rw [hr] at h <;> simp [zBu] at h <;> rfl
 | sl t _=>intro x h;simp [Ty.mem] at h
 | fp t o _=>intro x h;simp [Ty.mem] at h
 | _=>intro x h;exact one _ x rfl rfl
def e0_nomem {t:Ty} (hp:t.pure = true) (h:t.mem = false) (l:List t.I):zCc (l.map (e0 t)) = true:=by
 induction l with
 | nil=>rfl
 | cons x l ih =>
  have e:e0 t x = (E t (zAB (fun _=>0) []) x).1:=congrArg Prod.fst (E_pure t hp _ _ x)
  have:=(enc_nomem (rows:=[]) (num:=fun _=>0) (fun r=>.inr (.inr rfl)) t x h).1
  simp only [yAL,zCc,ih,Bool.and_true]
  rw [e];exact this
def mk_get (n:Nat) (f:Nat -> Option Row) (q:Nat):Heap.get ((List.range n).map f) q = if q < n then f q else none:=by
 unfold Heap.get
 rcases yAZ q n with h | h
 ·simp [h]
 ·rw [yAw (by simp;exact h),if_neg (by omega)];rfl
end
end Go.T
namespace Go.T
open Go.Ab
variable [Go.Ab.DM]
section
variable {B:Base} {ζ ζ':Nat -> Row} {num num':Nat -> Nat} {s:St} {e:Env} {H H1:Heap} {ρ:List (Nat × Nat)} {isL:Nat -> Bool} {rf crows:Rows}
def seen (num:Nat -> Nat) (ρ:List (Nat × Nat)) (k:Nat) (crows:Rows) (q:Nat):Bool:=(List.range k).any fun i=>zAW (zAA crows i) && Nat.beq (num (src ρ i)) q
def seen_iff {k q:Nat}:seen num ρ k crows q = true ↔ ∃ i,i < k /\ zAW (zAA crows i) = true /\ num (src ρ i) = q:=by
 unfold seen
 rw [yBQ]
 constructor
 ·rintro ⟨i,h1,h2⟩
  simp only [List.mem_range,yAB,yAP] at h1 h2
  exact ⟨i,h1,h2.1,h2.2⟩
 ·rintro ⟨i,h1,h2,h3⟩
  exact ⟨i,by simpa using h1,by simp [h2,h3]⟩
def left (num':Nat -> Nat) (couts:Rows) (q:Nat):Bool:=(List.range couts.length).any fun i=>zAW (zAA couts i) && Nat.beq (num' i) q
def left_iff {couts:Rows} {q:Nat}:left num' couts q = true ↔ ∃ i,zAW (zAA couts i) = true /\ num' i = q:=by
 unfold left
 rw [yBQ]
 constructor
 ·rintro ⟨i,h1,h2⟩
  simp only [yAB,yAP] at h2
  exact ⟨i,h2.1,h2.2⟩
 ·rintro ⟨i,h2,h3⟩
  have:i < couts.length:=zAw (by intro h;rw [h] at h2;simp [zAW] at h2)
  exact ⟨i,by simpa using this,by simp [h2,h3]⟩
def behind (H H1:Heap) (S T:Nat -> Bool):Heap:=(List.range H1.length).map fun q=>if q < H.length /\ S q = false then H.get q else if T q = true then H1.get q else none
def behind_get (S T:Nat -> Bool) (hl:H.length <= H1.length) (q:Nat):(behind H H1 S T).get q = if q < H.length /\ S q = false then H.get q else if T q = true then H1.get q else none:=by
 unfold behind
 rw [mk_get]
 split
 ·rfl
 ·rename_i h
  rw [if_neg (fun h'=>h (yAd h'.1 hl))]
  split
  ·unfold Heap.get;rw [yAw (by omega)];rfl
  ·rfl
def call_rows {d:Nat} {c:Con} {y:(zAY c.outT).I} {m:List (Nat × TRow)} (ha:Abs B ζ num s e H) (hf:FrStep s.rows rf)
  (hm:PkRows ρ isL rf (numb 0 c.ins) m) (hρ:∀ i,i < c.ins.length -> ∃ q,zCK ρ i = some q) (hinj:∀ i j,i < c.ins.length -> j < c.ins.length -> i ≠ j -> src ρ i ≠ src ρ j)
  (hio:okIOs c.ins c.outs = true) (hno:noIters s.rows ρ (numb 0 c.ins) = true) (hsp:(c.outT.all fun t=>!t.sp) = true)
  (hR:HRel ζ' num' (zAT c y) H1) (hres:okV (zAT c y) (zBT c y)) (hnum:∀ r,zAW (zAA (zAT c y) r) = true -> (r < c.ins.length -> num' r = num (src ρ r)) /\ (c.ins.length <= r -> H.length <= num' r))
  (hlens:∀ r,r < c.ins.length -> zAS (zAA (zAT c y) r) = true -> zCg (zAA (zAT c y) r) = zCg (zAA (zAo m) r)) (hH:H.length <= H1.length) (hfull:c.mem = true -> rf = s.rows) :
  ∃ H2 ζ2 num2,Over H (frH num s.rows rf H) H1 (seen num ρ c.ins.length (zAo m)) (enc (zAB num' (zAT c y)) (zBT c y)) H2 /\
   Step B d ζ num s e (enc (zAB num' (zAT c y)) (zBT c y)) H2 (renV (locR ρ c.ins.length s.rows.length) (zBT c y).t (zBT c y).x)
    { s with rows:=zBa d (locR ρ c.ins.length s.rows.length) ρ c.ins.length s.rows (zBc (numb 0 c.outs) (zBz [c.res] (zAK (zAY c.outT) y)).2) } ζ2 num2 H2:=by
 have hr:=ha.hrel
 have hlen:=conOuts_len hsp y
 obtain ⟨htys,vres,hv1,hv2⟩:=out_types hsp y
 have hkl:=okIOs_len hio
 have hin:∀ i,i < c.ins.length -> ∃ ei eo,c.ins[i]? = some ei /\ c.outs[i]? = some eo /\ okIO ei eo = true /\ zCK ρ i = some (src ρ i) /\ src ρ i < s.rows.length /\ kindE ei < 5 /\ zBu (zAA (zAo m) i) = kindE ei /\ zBu (zAA s.rows (src ρ i)) = kindE ei /\ zCg (zAA (zAo m) i) = zCg (zAA s.rows (src ρ i)) /\ zAW (zAA (zAo m) i) = zAW (zAA s.rows (src ρ i)):=fun i hi=>by
  obtain ⟨q,hq⟩:=hρ i hi
  have hs:=zAb hq
  rw [hs]
  have hat:=hm.at i
  rw [yAK hi] at hat
  obtain ⟨row,h1,_,h2⟩:=hat
  rw [yAT] at h2
  obtain ⟨eo,h3,h4⟩:=okIOs_at hio i _ (yAK hi)
  obtain ⟨h5,h6⟩:=okIO_kind h4
  obtain ⟨g1,g2,g3,g4⟩:=pk_kind h2 hq h5
  have g5:=fr_kind hf (q:=q) (by rw [g2];exact h5)
  rw [g5] at g2 g3 g4
  refine ⟨_,eo,yAK hi,h3,h4,hq,zAw (fun hg=>?_),h5,by rw [h1];exact g1,g2,by rw [h1];exact g3,by rw [h1];exact g4⟩
  rw [hg] at g2
  have:(9:Nat) = kindE c.ins[i]:=g2
  omega
 have hout:∀ i,i < c.outs.length -> ∃ eo v,c.outs[i]? = some eo /\ (zBc (numb 0 c.outs) (zBz [c.res] (zAK (zAY c.outT) y)).2)[i]? = some (i,zAA (zAT c y) i) /\ zAA (zAT c y) i = rowOf eo v /\ v.t = eo.dat:=fun i hi=>by
  have h1:i < (zBc (numb 0 c.outs) (zBz [c.res] (zAK (zAY c.outT) y)).2).length:=by rw [<- len_stRows];show i < (zAT c y).length;rw [hlen];exact hi
  obtain ⟨eo,v,h2,h3,h4⟩:=unRows_types c.outs 0 _ htys i _ (yAK h1)
  have h5:zAA (zAT c y) i = rowOf eo v:=by
   unfold zAT
   rw [rowAt_stRows,yAK h1,h3]
  refine ⟨eo,v,h2,?_,h5,h4⟩
  rw [yAK h1,h3,h5,yAT]
 have hkind:∀ i,i < c.outs.length -> zAA (zAT c y) i = .gone \/ ∃ eo,c.outs[i]? = some eo /\ zBu (zAA (zAT c y) i) = kindE eo:=fun i hi=>by
  obtain ⟨eo,v,h1,h2,h3,h4⟩:=hout i hi
  rw [h3]
  rcases rowOf_kind eo v with h | h
  ·exact .inl h
  ·refine .inr ⟨eo,h1,?_⟩
   cases eo <;> first | exact h | exact h.elim
 have hpass:∀ i,i < c.ins.length -> zAA (zAT c y) i = .gone \/ zBu (zAA (zAT c y) i) = zBu (zAA s.rows (src ρ i)):=fun i hi=>by
  obtain ⟨ei,eo,h1,h2,h3,h4,h5,h6,h7,h8,h9,h10⟩:=hin i hi
  rcases hkind i (by omega) with h | ⟨eo',h11,h12⟩
  ·exact .inl h
  ·rw [h2] at h11
   have:=yAA h11;subst this
   rcases (okIO_kind h3).2 with h13 | h13
   ·subst h13;exact .inl (kind_gone h12)
   ·exact .inr (by rw [h12,h13,h8])
 have hpl:∀ i,i < c.ins.length -> zAS (zAA (zAT c y) i) = true -> zCg (zAA (zAT c y) i) = zCg (zAA s.rows (src ρ i)):=fun i hi hl=>by
  obtain ⟨ei,eo,h1,h2,h3,h4,h5,h6,h7,h8,h9,h10⟩:=hin i hi
  rw [hlens i hi hl,h9]
 have hplive:∀ i,i < c.ins.length -> zAW (zAA (zAT c y) i) = true -> zAW (zAA s.rows (src ρ i)) = true:=fun i hi hl=>by
  rcases hpass i hi with h | h
  ·rw [h] at hl;simp [zAW] at hl
  ·exact kind_live h (hpl i hi) hl
 have hρ':∀ i,i < c.ins.length -> ∃ q,zCK ρ i = some q /\ q < s.rows.length:=fun i hi=>by
  obtain ⟨ei,eo,h1,h2,h3,h4,h5,_⟩:=hin i hi
  exact ⟨_,h4,h5⟩
 have hmo:∀ (i:Nat) (p:Nat × TRow),(zBc (numb 0 c.outs) (zBz [c.res] (zAK (zAY c.outT) y)).2)[i]? = some p -> p.1 = 0 + i:=fun i p h=>by
  obtain ⟨eo,v,h2,h3,h4⟩:=unRows_types c.outs 0 _ htys i _ h
  rw [h3]
 have hlmo:(zBc (numb 0 c.outs) (zBz [c.res] (zAK (zAY c.outT) y)).2).length = c.outs.length:=by rw [<- len_stRows];exact hlen
 obtain ⟨hbl,hba,hbo⟩:=back_at (d:=d) (τ:=locR ρ c.ins.length s.rows.length) hρ' hinj _ 0 s.rows hmo (by omega)
 rw [hlmo] at hbl hbo
 have hba:∀ i,i < c.outs.length -> zAA (zBa d (locR ρ c.ins.length s.rows.length) ρ c.ins.length s.rows (zBc (numb 0 c.outs) (zBz [c.res] (zAK (zAY c.outT) y)).2)) (locR ρ c.ins.length s.rows.length i) = renRow (locR ρ c.ins.length s.rows.length) (zAA (zAT c y) i) /\ zAU (zBa d (locR ρ c.ins.length s.rows.length) ρ c.ins.length s.rows (zBc (numb 0 c.outs) (zBz [c.res] (zAK (zAY c.outT) y)).2)) (locR ρ c.ins.length s.rows.length i) = some d:=fun i hi=>by
  obtain ⟨eo,v,h1,h2,h3,h4⟩:=hout i hi
  have:=hba i _ h2
  rw [yAT] at this
  exact this
 simp only [yAT] at hbo hbl
 have hlocI:∀ i,i < c.ins.length -> locR ρ c.ins.length s.rows.length i = src ρ i:=fun i hi=>by
  obtain ⟨q,h1,_⟩:=hρ' i hi
  rw [loc_lt hi,zAb h1,h1];rfl
 have hlocO:∀ i,c.ins.length <= i -> locR ρ c.ins.length s.rows.length i = s.rows.length + (i - c.ins.length):=fun i hi=>loc_ge hi
 have hlocinj:∀ {i j:Nat},i ≠ j -> locR ρ c.ins.length s.rows.length i ≠ locR ρ c.ins.length s.rows.length j:=fun h=>loc_inj hρ' hinj h
 generalize hτ:locR ρ c.ins.length s.rows.length = τ at *
 generalize hRb:zBa d τ ρ c.ins.length s.rows (zBc (numb 0 c.outs) (zBz [c.res] (zAK (zAY c.outT) y)).2) = Rb at *
 generalize hco:zAT c y = co at *
 let num2:Nat -> Nat:=fun r=>if r < s.rows.length then num r else num' (r - s.rows.length + c.ins.length)
 obtain ⟨ζ2,hz2,hz3⟩:∃ ζ2:Nat -> Row,(∀ r,(∀ i,i < c.outs.length -> τ i ≠ r) -> ζ2 r = ζ r) /\ ∀ i,i < c.outs.length -> ζ2 (τ i) = ζ' i:=by
  classical
  refine ⟨fun r=>if h:∃ i,i < c.outs.length /\ τ i = r then ζ' (Classical.choose h) else ζ r,fun r h=>?_,fun i hi=>?_⟩
  ·show dite _ _ _ = _;rw [dif_neg];rintro ⟨i,h1,h2⟩;exact h i h1 h2
  ·have hx:∃ j,j < c.outs.length /\ τ j = τ i:=⟨i,hi,rfl⟩
   show dite _ _ _ = _;rw [dif_pos hx]
   have h2:=(yBB hx).2
   congr 1
   by_cases he:Classical.choose hx = i
   ·exact he
   ·exact absurd h2 (hlocinj he)
 have hn2:∀ r,r < s.rows.length -> num2 r = num r:=fun r h=>if_pos h
 have hsrcl:∀ i,i < c.ins.length -> src ρ i < s.rows.length:=fun i hi=>by
  obtain ⟨q,h1,h2⟩:=hρ' i hi
  rw [zAb h1];exact h2
 have hnl:∀ i,zAW (zAA co i) = true -> num2 (τ i) = num' i:=fun i hl=>by
  rcases yAZ i c.ins.length with h | h
  ·rw [hlocI i h,hn2 _ (hsrcl i h),(hnum i hl).1 h]
  ·rw [hlocO i h]
   show (if s.rows.length + (i - c.ins.length) < s.rows.length then _ else _) = _
   rw [if_neg (by omega)]
   congr 1;omega
 have hcol:∀ i,zAA co i ≠ .gone -> i < c.outs.length:=fun i h=>by rw [<- hlen];exact zAw h
 have hcase:∀ r,(∃ i,i < c.outs.length /\ r = τ i) \/ (zAA Rb r = zAA s.rows r /\ zAU Rb r = zAU s.rows r /\ ∀ i,i < c.outs.length -> τ i ≠ r):=fun r=>by
  by_cases h:∃ i,i < c.outs.length /\ r = τ i
  ·exact .inl h
  ·have h':∀ i,i < c.outs.length -> τ i ≠ r:=fun i hi he=>h ⟨i,hi,he.symm⟩
   obtain ⟨h1,h2⟩:=hbo r h'
   exact .inr ⟨h1,h2,h'⟩
 have hle:RowsLe s.rows Rb:=⟨by rw [hbl];omega,fun r hrl hl=>by
  rcases hcase r with ⟨i,hi,rfl⟩ | ⟨h1,_⟩
  ·rcases yAZ i c.ins.length with h | h
   ·rw [(hba i hi).1] at hl ⊢
    obtain ⟨k1,k2,k3,k4⟩:=ren_row_kind τ (zAA co i)
    rw [k2] at hl
    rw [k3,hlocI i h]
    rcases hpass i h with hg | hg
    ·rw [hg] at hl;simp [zAS] at hl
    ·exact ⟨kind_list hg hl,hpl i h hl⟩
   ·rw [hlocO i h] at hrl;omega
  ·rw [h1] at hl ⊢;exact ⟨hl,rfl⟩⟩
 have hchg:∀ r,r < s.rows.length -> RefTl (num r) (zAA s.rows r) (num2 r) (zAA Rb r):=fun r hrl=>by
  rw [hn2 r hrl]
  rcases hcase r with ⟨i,hi,rfl⟩ | ⟨h1,_⟩
  ·rcases yAZ i c.ins.length with h | h
   ·rw [(hba i hi).1]
    obtain ⟨k1,k2,k3,k4⟩:=ren_row_kind τ (zAA co i)
    obtain ⟨ei,eo,h1,h2,h3,h4,h5,h6,h7,h8,h9,h10⟩:=hin i h
    rw [hlocI i h]
    rcases hpass i h with hg | hg
    ·rw [hg];exact RefTl.gone _ _ _
    ·exact kind_ref (by rw [k1];exact hg) (by rw [h8];exact h6) (fun hl=>by rw [k3];exact hpl i h (by rw [<- k2];exact hl))
   ·rw [hlocO i h] at hrl;omega
  ·rw [h1];exact RefTl.refl _ _
 have hlocl:∀ i,i < c.outs.length -> τ i < Rb.length:=fun i hi=>by
  rw [hbl]
  rcases yAZ i c.ins.length with h | h
  ·rw [hlocI i h];have:=hsrcl i h;omega
  ·rw [hlocO i h];omega
 have hren:=ren_ok (num:=num') (rows:=co) (num':=num2) (rows':=Rb) τ (fun r hrl=>by
     rw [(hba r (by rw [<- hlen];exact hrl)).1]
     exact ren_same τ _ (hnl r)) (fun r hrl=>hlocl r (by rw [<- hlen];exact hrl)) (fun r hrl hl=>by
     rw [(hba r (by rw [<- hlen];exact hrl)).1] at hl ⊢
     obtain ⟨k1,k2,k3,k4⟩:=ren_row_kind τ (zAA co r)
     rw [k2] at hl;exact ⟨hl,k3⟩)
 have hseen:∀ r,zAW (zAA s.rows r) = true -> (∀ i,i < c.outs.length -> τ i ≠ r) -> seen num ρ c.ins.length (zAo m) (num r) = false:=fun r hl hne=>by
  cases hs:seen num ρ c.ins.length (zAo m) (num r) with
  | false=>rfl
  | true =>
   obtain ⟨i,h1,h2,h3⟩:=seen_iff.1 hs
   obtain ⟨ei,eo,g1,g2,g3,g4,g5,g6,g7,g8,g9,g10⟩:=hin i h1
   have hi:src ρ i ≠ r:=by rw [<- hlocI i h1];exact hne i (by omega)
   exact absurd h3 (hr.inj _ _ (by rw [<- g10];exact h2) hl hi)
 have hgetO:∀ r,zAW (zAA s.rows r) = true -> (∀ i,i < c.outs.length -> τ i ≠ r) -> (behind H H1 (seen num ρ c.ins.length (zAo m)) (left num' co)).get (num r) = H.get (num r):=fun r hl hne=>by
  rw [behind_get _ _ hH,if_pos ⟨live_lt hr hl,hseen r hl hne⟩]
 have hgetI:∀ i,zAW (zAA co i) = true -> (behind H H1 (seen num ρ c.ins.length (zAo m)) (left num' co)).get (num' i) = H1.get (num' i):=fun i hl=>by
  rw [behind_get _ _ hH,if_neg,if_pos (left_iff.2 ⟨i,hl,rfl⟩)]
  rintro ⟨h1,h2⟩
  rcases yAZ i c.ins.length with h | h
  ·obtain ⟨ei,eo,g1,g2,g3,g4,g5,g6,g7,g8,g9,g10⟩:=hin i h
   have:seen num ρ c.ins.length (zAo m) (num' i) = true:=seen_iff.2 ⟨i,h,by rw [g10];exact hplive i h hl,((hnum i hl).1 h).symm⟩
   rw [this] at h2;cases h2
  ·have:=(hnum i hl).2 h;omega
 have hfulld:c.mem = true -> ∀ r row,H.get r = some row -> ∃ row',(frH num s.rows rf H).get r = some row':=fun hcm r row hg=>by
  have:=hfull hcm;subst this
  by_cases hx:∃ q,zAW (zAA s.rows q) = true /\ num q = r
  ·obtain ⟨q,h1,rfl⟩:=hx
   rw [frH_live hr h1,if_pos h1,hg]
   split
   ·exact ⟨_,rfl⟩
   ·exact ⟨row,rfl⟩
  ·rw [frH_other hr (fun q h1 h2=>hx ⟨q,h1,h2⟩)];exact ⟨row,hg⟩
 have hnm:c.mem = false -> c.res.mem = false /\ ∀ e ∈ c.outs,e.mem = false:=fun h=>by
  unfold Con.mem at h
  simp only [Bool.or_eq_false_iff,List.any_eq_false] at h
  exact ⟨h.1,fun e he=>by have:=h.2 e he;simpa using this⟩
 have hrowk:c.mem = false -> ∀ r,zBu (zAA co r) = 1 \/ zBu (zAA co r) = 2 \/ zBu (zAA co r) = 9:=fun h r=>by
  rcases yAZ r c.outs.length with hrl | hrl
  ·rcases hkind r hrl with hg | ⟨eo,h1,h2⟩
   ·rw [hg];exact .inr (.inr rfl)
   ·have:=(hnm h).2 eo (yAt h1)
    rw [h2]
    cases eo <;> first | exact .inl rfl | exact .inr (.inl rfl) | exact .inr (.inr rfl) | cases this
  ·rw [rowAt_ge _ _ (by rw [hlen];exact hrl)];exact .inr (.inr rfl)
 have hcres:zBT c y = vres:=by unfold zBT;rw [hv1]
 have hovr:Over H (frH num s.rows rf H) H1 (seen num ρ c.ins.length (zAo m)) (enc (zAB num' co) (zBT c y)) (behind H H1 (seen num ρ c.ins.length (zAo m)) (left num' co)):=by
  refine ⟨by simp [behind],fun q row hg=>?_,?_⟩
  ·rw [behind_get _ _ hH] at hg
   split at hg
   ·rename_i h;exact .inl ⟨h.1,h.2,hg⟩
   ·split at hg
    ·rename_i h
     refine .inr ⟨hg,?_⟩
     cases hcm:c.mem with
     | true=>exact .inr (hfulld hcm)
     | false =>
      refine .inl ?_
      obtain ⟨i,h1,h2⟩:=left_iff.1 h
      have hil:=hcol i (by intro hgn;rw [hgn] at h1;simp [zAW] at h1)
      obtain ⟨eo,v,g1,g2,g3,g4⟩:=hout i hil
      have g5:=(hnm hcm).2 eo (yAt g1)
      have hRi:=hR.row i
      rw [g3] at hRi h1
      obtain ⟨tv,xv⟩:=v
      cases eo <;> first | (cases g5;done) | skip
      ·rename_i t
       have g4:tv = .sl t:=g4
       subst g4
       obtain ⟨k1,k2⟩:=hRi
       rw [h2,hg] at k2
       have:=yAA k2;subst this
       exact e0_nomem (zCY k1) g5 _
      ·rename_i t
       have g4:tv = .sl t:=g4
       subst g4
       obtain ⟨k1,k2⟩:=hRi
       have k3:xv ≠ []:=by
        intro hx
        have h1:zAW (.lst t xv) = true:=h1
        rw [hx] at h1;simp [zAW] at h1
       have k2:=k2 k3
       rw [h2,hg] at k2
       have:=yAA k2;subst this
       exact e0_nomem (zCY k1) g5 _
      ·simp [rowOf,zAW] at h1
    ·cases hg
  ·cases hcm:c.mem with
   | true=>exact .inr (hfulld hcm)
   | false =>
    refine .inl ?_
    rw [hcres]
    exact (enc_nomem (hrowk hcm) vres.t vres.x (by rw [hv2];exact (hnm hcm).1)).1
 have hrb0:=hren (zBT c y).t (zBT c y).x hres
 refine ⟨behind H H1 (seen num ρ c.ins.length (zAo m)) (left num' co),ζ2,num2,hovr,step_of ha hchg hle ⟨fun r=>?_,fun r z h1 h2 hrz=>?_,fun r t x h=>?_⟩ (fun r hl=>?_) (by simp only [behind,yAG,List.length_range];exact hH) (fun r lv h1 h2=>?_) (Tl.of_eq hrb0.one.symm) hrb0.ok⟩
 ·rcases hcase r with ⟨i,hi,rfl⟩ | ⟨h1,_,hne⟩
  ·have hRi:=hR.row i
   rw [(hba i hi).1]
   have hgi:=hgetI i
   have hni:=hnl i
   have hki:=hkind i hi
   cases hrow:zAA co i with
   | one t x =>
    rw [hrow] at hRi hgi hni
    obtain ⟨g1,k,dd,g2,g3,g4⟩:=hRi
    have hx:=hren t x (hR.ok i t x hrow)
    obtain ⟨s1,s2⟩:=ren_shape τ t x
    refine ⟨s2 g1,k,dd,by rw [hni rfl,hgi rfl];exact g2,by rw [g3];exact s1.symm,?_⟩
    have e1:(zAs ⟨t,x⟩).map (enc (zAB num' co)) = (enc (zAB num' co) ⟨t,x⟩).cells:=(zBW _ _ _).symm
    have e2:(zAs ⟨(renV τ t x).t,(renV τ t x).x⟩).map (enc (zAB num2 Rb)) = (enc (zAB num2 Rb) (renV τ t x)).cells:=(zBW _ _ _).symm
    rw [e2,hx.one]
    rw [e1] at g4
    exact g4
   | many t l=>rw [hrow] at hRi hgi hni;exact ⟨hRi.1,by rw [hni rfl,hgi rfl];exact hRi.2⟩
   | lst t l =>
    rw [hrow] at hRi hgi hni
    refine ⟨hRi.1,fun hne=>?_⟩
    have hlv:zAW (.lst t l) = true:=by cases l <;> simp at hne ⊢ <;> rfl
    rw [hni hlv,hgi hlv];exact hRi.2 hne
   | fro t l=>rw [hrow] at hRi;exact hRi
   | fr1 t x=>rw [hrow] at hRi;exact hRi
   | mp a b l=>rw [hrow] at hRi hgi hni;simp only [renRow,zCC] at hRi ⊢;rw [hni rfl,hgi rfl,hz3 i hi];exact hRi
   | sit b p=>rw [hrow] at hRi hgi hni;simp only [renRow,zCC] at hRi ⊢;rw [hni rfl,hgi rfl];exact hRi
   | itb mm =>
    rcases hki with hg | ⟨eo,g1,g2⟩
    ·rw [hrow] at hg;cases hg
    ·rw [hrow] at g2;cases eo <;> simp [zBu,kindE] at g2
   | ite mm a b x y =>
    rcases hki with hg | ⟨eo,g1,g2⟩
    ·rw [hrow] at hg;cases hg
    ·rw [hrow] at g2;cases eo <;> simp [zBu,kindE] at g2
   | gone=>trivial
  ·rcases yAZ r s.rows.length with hrl | hrl
   ·refine row_keep (hr.row r) (fun t x hx=>hr.ok r t x hx) h1 (hn2 r hrl) (hz2 r hne) (fun hl=>hgetO r hl hne) (fun mm a b l hmm hit=>?_) hchg
    have hml:mm < s.rows.length:=zAw (by rw [hmm];simp)
    have hmne:∀ i,i < c.outs.length -> τ i ≠ mm:=fun i hi he=>by
     rcases yAZ i c.ins.length with h | h
     ·obtain ⟨ei,eo,g1,g2,g3,g4,g5,g6,g7,g8,g9,g10⟩:=hin i h
      rw [hlocI i h] at he
      rw [he,hmm] at g8
      have hk:kindE ei = 3:=g8.symm
      cases ei <;> simp [kindE] at hk
      obtain ⟨q,k1,k2⟩:=noIters_at hno i _ _ g1
      rw [yAT,g4] at k1
      have:=yAA k1
      obtain ⟨z,hz⟩:=hit
      exact set_stepZ.iter_absurd s.rows mm z (by rw [<- he,this];exact k2) hz
     ·rw [hlocO i h] at he;omega
    exact ⟨by rw [(hbo mm hmne).1];exact hmm,hn2 mm hml,hgetO mm (by rw [hmm];rfl) hmne⟩
   ·rw [h1,rowAt_ge _ _ hrl];trivial
 ·have cls:∀ r,zAW (zAA Rb r) = true -> (∃ i,i < c.outs.length /\ r = τ i /\ zAW (zAA co i) = true /\ num2 r = num' i /\ (i < c.ins.length -> zAW (zAA s.rows r) = true /\ num2 r = num r)) \/ (zAW (zAA s.rows r) = true /\ num2 r = num r /\ ∀ i,i < c.outs.length -> τ i ≠ r):=fun r hl=>by
   rcases hcase r with ⟨i,hi,rfl⟩ | ⟨h1,_,hne⟩
   ·rw [(hba i hi).1,(ren_row_kind τ (zAA co i)).2.2.2] at hl
    refine .inl ⟨i,hi,rfl,hl,hnl i hl,fun h=>⟨by rw [hlocI i h];exact hplive i h hl,by rw [hlocI i h];exact hn2 _ (hsrcl i h)⟩⟩
   ·rw [h1] at hl
    exact .inr ⟨hl,hn2 r (zAw (live_row hl)),hne⟩
  rcases cls r h1 with ⟨i,a1,a2,a3,a4,a5⟩ | ⟨a1,a2,a3⟩ <;> rcases cls z h2 with ⟨j,b1,b2,b3,b4,b5⟩ | ⟨b1,b2,b3⟩
  ·rw [a4,b4]
   exact hR.inj i j a3 b3 (by intro hij;subst hij;rw [a2,b2] at hrz;exact hrz rfl)
  ·rcases yAZ i c.ins.length with h | h
   ·obtain ⟨a6,a7⟩:=a5 h
    rw [a7,b2];exact hr.inj r z a6 b1 hrz
   ·rw [a4,b2]
    have:=(hnum i a3).2 h
    have:=live_lt hr b1
    omega
  ·rcases yAZ j c.ins.length with h | h
   ·obtain ⟨b6,b7⟩:=b5 h
    rw [a2,b7];exact hr.inj r z a1 b6 hrz
   ·rw [a2,b4]
    have:=(hnum j b3).2 h
    have:=live_lt hr a1
    omega
  ·rw [a2,b2];exact hr.inj r z a1 b1 hrz
 ·rcases hcase r with ⟨i,hi,rfl⟩ | ⟨h1,_,hne⟩
  ·rw [(hba i hi).1] at h
   cases hrow:zAA co i <;> rw [hrow] at h <;> first | (cases h;done) | skip
   rename_i t0 x0
   have hx:=(hren t0 x0 (hR.ok i t0 x0 hrow)).ok
   cases h
   exact hx
  ·rw [h1] at h;exact zCv hle t x (hr.ok r t x h)
 ·rcases hcase r with ⟨i,hi,rfl⟩ | ⟨h1,_,hne⟩
  ·rw [(hba i hi).1,(ren_row_kind τ (zAA co i)).2.2.2] at hl
   rcases yAZ i c.ins.length with h | h
   ·rw [hlocI i h,hn2 _ (hsrcl i h)];exact ha.base _ (hplive i h hl)
   ·rw [hnl i hl,hlocO i h]
    have:=ha.klen
    have:=(hnum i hl).2 h
    have:=ha.hlen
    exact ⟨fun h'=>by omega,fun _=>by omega⟩
  ·rw [h1] at hl
   rw [hn2 r (zAw (live_row hl))];exact ha.base r hl
 ·rcases hcase r with ⟨i,hi,rfl⟩ | ⟨h3,h4,hne⟩
  ·rw [(hba i hi).2] at h1;have:=yAA h1;omega
  ·rw [h4] at h1
   have hrl:r < s.rows.length:=by
    rcases yAZ r s.rows.length with h | h
    ·exact h
    ·rw [stampAt_ge _ _ h] at h1;cases h1
   exact ⟨h1,h3,hn2 r hrl,hz2 r hne⟩
end
end Go.T
namespace Go.T
open Go.Ab
variable [Go.Ab.DM]
section
variable {P:Program} {Γ:List Con} {B:Base} {ζ ζ':Nat -> Row} {num num':Nat -> Nat} {s:St} {e:Env} {H H1:Heap} {ρ:List (Nat × Nat)} {isL:Nat -> Bool} {rf crows:Rows}
def FrStep.refl (rows:Rows):FrStep rows rows:=⟨rfl,fun _=>.inl rfl⟩
def args_told (hp:PRel ρ isL num rf num' crows) {ts:List Ty} {vs us:List TV} (h:Packed ρ isL rf ts vs us) (hok:∀ v ∈ vs,okV rf v):Tls (vs.map (enc (zAB num rf))) (us.map (enc (zAB num' crows))) /\ ((∀ t ∈ ts,∀ z ∈ t.refs,z < crows.length) -> ∀ u ∈ us,okV crows u):=by
 induction h with
 | nil=>exact ⟨.nil,fun _ u hu=>by simp at hu⟩
 | cons h1 h2 ih =>
  obtain ⟨g1,g2⟩:=ih fun v hv=>hok v (yAF _ hv)
  have g:=packV_told hp _ _ _ (hok _ (yAN ..)) h1
  refine ⟨.cons g.one g1,fun hr u hu=>?_⟩
  rcases yAE.1 hu with rfl | hu
  ·exact g.ok (hr _ (yAN ..))
  ·exact g2 (fun t ht=>hr t (yAF _ ht)) u hu
def fr_rels {own:Nat -> Own} {X:Nat -> Prop} {w:World} (hs:Sim own H X w) (hr:HRel ζ num s.rows H) (hf:FrStep s.rows rf):∀ {vs:List TV},(∀ v ∈ vs,okV s.rows v) -> ∀ {l:List Value},zCL own H X w (vs.map (enc (zAB num s.rows))) l -> zCL own (frH num s.rows rf H) X w (vs.map (enc (zAB num rf))) l
 | [],_,l,h=>by simpa [zCL,VRels] using h
 | v :: vs,hok,l,h=>by
  simp only [yAL,zCL,VRels] at h ⊢
  obtain ⟨x,xs,h1,h2,h3⟩:=h
  exact ⟨x,xs,h1,fr_rel hs hr hf (t:=v.t) (x:=v.x) (hok v (yAN ..)) h2,fr_rels hs hr hf (fun u hu=>hok u (yAF _ hu)) h3⟩
structure Fit (c:Con) (rows rf:Rows) (ρ:List (Nat × Nat)) (x:(zAY c.inT).I) (args:List TV):Prop where
 hargs:∃ us,Packed ρ (fun _=>false) rf c.as args us /\ zBH c x = us
 hrows:∃ m,PkRows ρ (fun _=>false) rf (numb 0 c.ins) m /\ zBm c x = zAo m
 some:∀ i,i < c.ins.length -> ∃ q,zCK ρ i = some q
 inj:∀ i j,i < c.ins.length -> j < c.ins.length -> i ≠ j -> src ρ i ≠ src ρ j
 slots:slotsBelow c.ins.length c.as = true
 below:rowsBelowT c.ins.length (numb 0 c.ins) = true
 io:okIOs c.ins c.outs = true
 noit:noIters rows ρ (numb 0 c.ins) = true
 sp:(c.outT.all fun t=>!t.sp) = true
def call_core {d:Nat} {c:Con} {x:(zAY c.inT).I} {args:List TV} (ha:Abs B ζ num s e H) (hf:FrStep s.rows rf) (hok:zAl P c) (hargs:∀ v ∈ args,okV s.rows v)
  (ft:Fit c s.rows rf ρ x args) (hy:∃ y,c.Q x y) (hfull:c.mem = true -> rf = s.rows) {C:D -> Heap -> Prop}
  (hC:∀ y,c.Q x y -> ∀ dd H' ζ2 num2,Step B d ζ num s e dd H' (renV (locR ρ c.ins.length s.rows.length) (zBT c y).t (zBT c y).x)
   { s with rows:=zBa d (locR ρ c.ins.length s.rows.length) ρ c.ins.length s.rows (zBc (numb 0 c.outs) (zBz [c.res] (zAK (zAY c.outT) y)).2) } ζ2 num2 H' -> C dd H') :
  Sound P c.f (args.map (enc (zAB num s.rows))) H C /\ (c.ins = [] -> SoundK P c.f (args.map (enc (zAB num s.rows))) H C):=by
 have hr:=ha.hrel
 obtain ⟨us,hus,hx1⟩:=ft.hargs
 obtain ⟨m,hm,hx2⟩:=ft.hrows
 have hml:(zAo m).length = c.ins.length:=by rw [len_stRows,hm.len,numb_len]
 have hT:∀ r,Tgt ρ (fun _=>false) rf (zAo m) r (zAA (zAo m) r):=fun r=>by
  have h:=hm.at r
  split at h
  ·obtain ⟨row,h1,_,h2⟩:=h
   rw [yAT] at h2
   rw [h1];exact .pk h2
  ·rw [h];exact .gone
 have hnul:∀ r,zCK ρ r = none -> (fun _:Nat=>false) r = true -> ∃ t,zAA (zAo m) r = .lst t []:=fun r _ h=>by cases h
 have hrefs:∀ r t y,zAA (zAo m) r = .one t y -> ∀ z ∈ t.refs,z < (zAo m).length:=fun r t y hrow z hz=>by
  rw [hml]
  have h:=hm.at r
  split at h
  ·rename_i ei hei
   obtain ⟨row,h1,_,h2⟩:=h
   rw [h1] at hrow
   subst hrow
   cases h2
   refine rowsBelow_at ft.below r _ ?_ z hz
   have:∀ (l:List RTy) (n i:Nat) (e:RTy),l[i]? = some e -> (n + i,e) ∈ numb n l:=by
    intro l
    induction l with
    | nil=>intro n i e h;simp at h
    | cons a l ih =>
     intro n i e h
     cases i with
     | zero=>have:=yAA h;subst this;exact yAN ..
     | succ i=>have:=ih (n + 1) i e h;rw [show n + 1 + i = n + (i + 1) by omega] at this;exact yAF _ this
   have h3:=this c.ins 0 r _ hei
   rw [yAT] at h3;exact h3
  ·rw [h] at hrow;cases hrow
 have hlt:∀ r,zAW (zAA (zAo m) r) = true -> r < c.ins.length:=fun r hl=>by rw [<- hml];exact zAw (live_row hl)
 have hfr:=fr_hrel hr hf
 have hp:=tgt_prel (num:=num) hT hnul
 have hR:=tgt_hrel hfr hT hnul hrefs fun r z h1 h2 hne=>ft.inj r z (hlt r h1) (hlt z h2) hne
 have hR':HRel (fun r=>ζ (src ρ r)) (fun r=>num (src ρ r)) (zAo m) (maskH (seen num ρ c.ins.length (zAo m)) (frH num s.rows rf H)):=hrel_get hR fun r hl=>by
  rw [mask_get,if_pos (seen_iff.2 ⟨r,hlt r hl,hl,rfl⟩)]
 have hargsf:∀ v ∈ args,okV rf v:=fun v hv=>zCv (fr_le hf) _ _ (hargs v hv)
 obtain ⟨ht,hto⟩:=args_told hp hus hargsf
 have hokA:=hto fun t ht z hz=>by rw [hml];exact slotsBelow_at ft.slots t ht z hz
 have hS:=hok x hy _ _ (maskH (seen num ρ c.ins.length (zAo m)) (frH num s.rows rf H)) (by rw [hx2];exact hR') (by rw [hx1,hx2];exact hokA)
 rw [hx1,hx2] at hS
 have hrel:∀ own X w,Sim own H X w -> Sim own (frH num s.rows rf H) X w /\ ∀ vs,zCL own H X w (args.map (enc (zAB num s.rows))) vs -> zCL own (frH num s.rows rf H) X w (us.map (enc (zAB (fun r=>num (src ρ r)) (zAo m)))) vs :=
  fun own X w hs=>⟨fr_sim hs hr hf,fun vs hv=>ht.vrels (fr_rels hs hr hf hargs hv)⟩
 have hpost:∀ dd H1,(maskH (seen num ρ c.ins.length (zAo m)) (frH num s.rows rf H)).length <= H1.length -> (∃ y,c.Q x y /\ ∃ ζ' num',HRel ζ' num' (zAT c y) H1 /\ dd = enc (zAB num' (zAT c y)) (zBT c y) /\ okV (zAT c y) (zBT c y) /\
     (∀ r,zAW (zAA (zAT c y) r) = true -> (r < c.ins.length -> num' r = num (src ρ r)) /\ (c.ins.length <= r -> (maskH (seen num ρ c.ins.length (zAo m)) (frH num s.rows rf H)).length <= num' r)) /\ ∀ r,r < c.ins.length -> zAS (zAA (zAT c y) r) = true -> zCg (zAA (zAT c y) r) = zCg (zAA (zAo m) r)) ->
     ∃ H2,Over H (frH num s.rows rf H) H1 (seen num ρ c.ins.length (zAo m)) dd H2 /\ C dd H2:=by
  rintro dd H1 hl ⟨y,hQ,ζ',num',g1,rfl,g2,g3,g4⟩
  rw [mask_len,frH_len] at hl g3
  obtain ⟨H2,ζ2,num2,k1,k2⟩:=call_rows (d:=d) ha hf hm ft.some ft.inj ft.io ft.noit ft.sp g1 g2 g3 g4 hl hfull
  exact ⟨H2,k1,hC y hQ _ _ _ _ k2⟩
 refine ⟨Sound.hide hS (frH_len _ _ _ _) (fun r row h=>frH_sub hr h) hrel hpost,fun hins=>Sound.hideK (fun r=>?_) hS (frH_len _ _ _ _) (fun r row h=>frH_sub hr h) hrel hpost⟩
 cases hs:seen num ρ c.ins.length (zAo m) r with
 | false=>rfl
 | true =>
  obtain ⟨i,h1,_⟩:=seen_iff.1 hs
  rw [hins] at h1;exact absurd h1 (yAr _)
def getNs_spec:∀ (n i:Nat),(getNs ρ i n).length <= n /\ ((getNs ρ i n).length = n -> ∀ j,j < n -> ∃ q,zCK ρ (i + j) = some q /\ (getNs ρ i n)[j]? = some q)
 | 0,i=>⟨by simp [getNs],fun _ j h=>absurd h (yAr _)⟩
 | n + 1,i=>by
  obtain ⟨h1,h2⟩:=getNs_spec n (i + 1)
  simp only [getNs]
  cases hg:zCK ρ i with
  | none=>exact ⟨by simp;omega,fun h=>by simp at h;omega⟩
  | some q =>
   refine ⟨by simp;omega,fun h j hj=>?_⟩
   simp at h
   cases j with
   | zero=>exact ⟨q,hg,rfl⟩
   | succ j =>
    obtain ⟨q',h3,h4⟩:=h2 h j (by omega)
    exact ⟨q',by rw [show i + (j + 1) = i + 1 + j by omega];exact h3,h4⟩
def distinct_at:∀ {l:List Nat},distinct l = true -> ∀ (i j:Nat) (a b:Nat),l[i]? = some a -> l[j]? = some b -> i ≠ j -> a ≠ b
 | [],_,i,j,a,b,h,_,_=>by simp at h
 | z :: l,hd,i,j,a,b,hi,hj,hne=>by
  simp only [distinct,yAB] at hd
  have hz:=not_used hd.1
  cases i with
  | zero =>
   cases j with
   | zero=>exact absurd rfl hne
   | succ j =>
    have:=yAA hi;subst this
    intro hab;subst hab
    exact hz (yAt (l:=l) hj)
  | succ i =>
   cases j with
   | zero =>
    have:=yAA hj;subst this
    intro hab;subst hab
    exact hz (yAt (l:=l) hi)
   | succ j=>exact distinct_at hd.2 i j a b hi hj (by omega)
def fitCon_fit {d:Nat} {c:Con} {args:List TV} {rows:Rows} {q:Got c} (h:fitCon d c rows args = some q):Fit c rows (zAz d q.fz 0 rows) q.ρ q.x args:=by
 unfold fitCon at h
 obtain ⟨hb,h⟩:=zAa h
 simp only [yAB,yAP] at hb
 obtain ⟨⟨⟨⟨⟨⟨h1,h2⟩,h3⟩,h4⟩,h5⟩,h6⟩,h7⟩:=hb
 split at h
 rotate_left
 ·cases h
 rename_i a b hpa hpb
 split at h
 rotate_left
 ·cases h
 rename_i x hx
 have:=yAA h;subst this
 dsimp only
 have hl:=packAll_leaves hx
 obtain ⟨us,hu1,hu2⟩:=packVals_un hpa
 obtain ⟨m,hm1,hm2⟩:=packRows_un hpb
 have hsome:=(getNs_spec (ρ:=uniRows rows (uniL c.as args) (numb 0 c.ins)) c.ins.length 0).2 h2
 refine ⟨⟨us,hu1,?_⟩,⟨m,hm1,?_⟩,fun i hi=>?_,fun i j hi hj hne=>?_,h3,h4,h5,h6,h7⟩
 ·unfold zBH;rw [hl,hu2]
 ·unfold zBm;rw [hl,hu2];dsimp only;rw [hm2]
 ·obtain ⟨q,g1,_⟩:=hsome i hi
  rw [yAT] at g1;exact ⟨q,g1⟩
 ·obtain ⟨q,g1,g2⟩:=hsome i hi
  obtain ⟨q',g3,g4⟩:=hsome j hj
  rw [yAT] at g1 g3
  rw [zAb g1,zAb g3]
  exact distinct_at h1 i j q q' g2 g4 hne
def findCon_mem {d:Nat} {f:FuncId} {rows:Rows} {args:List TV}:∀ {Γ:List Con} {c:Con} {q:Got c},findCon d f rows args Γ = some ⟨c,q⟩ -> c ∈ Γ /\ c.f = f /\ fitCon d c rows args = some q
 | [],c,q,h=>by cases h
 | a :: Γ,c,q,h=>by
  simp only [findCon] at h
  cases hb:Nat.beq a.f f with
  | false =>
   rw [hb,cond_false] at h
   obtain ⟨h1,h2,h3⟩:=findCon_mem h
   exact ⟨yAF _ h1,h2,h3⟩
  | true =>
   rw [hb,cond_true] at h
   rw [yAP] at hb
   split at h
   ·rename_i x hx
    have:=yAA h
    cases this
    exact ⟨yAN ..,hb,hx⟩
   ·obtain ⟨h1,h2,h3⟩:=findCon_mem h
    exact ⟨yAF _ h1,h2,h3⟩
end
end Go.T
namespace Go.T
open Go.Ab
variable [Go.Ab.DM]
section
variable {P:Program} {Γ:List Con} {B:Base} {ζ ζ':Nat -> Row} {num num':Nat -> Nat} {s:St} {e:Env} {H H1:Heap} {R:Type} {r:R}
def kd (dr:Bool) (o:Oper):OpKind:=bif dr && isCall o then .keep else zAF o
def fit_fr {c:Con} {rows rf:Rows} {ρ:List (Nat × Nat)} {x:(zAY c.inT).I} {args:List TV} (h:Fit c rows rf ρ x args) (hf:FrStep rows rf):Fit c rf rf ρ x args:=by
 obtain ⟨h1,h2,h3,h4,h5,h6,h7,h8,h9⟩:=h
 refine ⟨h1,h2,h3,h4,h5,h6,h7,?_,h9⟩
 have:∀ (l:List RTy) (n:Nat),noIters rows ρ (numb n l) = true -> noIters rf ρ (numb n l) = true:=by
  intro l
  induction l with
  | nil=>intro n h;exact h
  | cons e l ih =>
   intro n h
   cases e with
   | mp a b =>
    simp only [numb,noIters,yAB] at h ⊢
    refine ⟨?_,ih _ h.2⟩
    have h1:=h.1
    split at h1
    ·exact noIter_fr hf h1
    ·cases h1
   | _=>exact ih _ (by simpa only [numb,noIters] using h)
 exact this _ _ h8
def callQ_some {A:Type} {p:A -> Prop} {k:A -> Option R} (h:callQ p k = some r):(∃ a,p a) /\ ∀ a,p a -> k a = some r:=by
 unfold callQ at h
 split at h
 ·rename_i hx
  have h2:=yBB hx.2
  rw [yAA h] at h2
  exact ⟨hx.1,h2⟩
 ·cases h
def leaves_ok {rows:Rows} (t:Ty) (x:t.I) (h:okT rows t x):∀ v ∈ zAK t x,okV rows v:=(ok_leaves t x).1 h
def backT_eq {d:Nat} {c:Con} {q:Got c} {s:St} {y:(zAY c.outT).I} (hsp:(c.outT.all fun t=>!t.sp) = true):backT d c q s y = (renV (locR q.ρ c.ins.length s.rows.length) (zBT c y).t (zBT c y).x,
  { s with rows:=zBa d (locR q.ρ c.ins.length s.rows.length) q.ρ c.ins.length (bif c.mem then zAz d q.fz 0 s.rows else s.rows) (zBc (numb 0 c.outs) (zBz [c.res] (zAK (zAY c.outT) y)).2) }):=by
 obtain ⟨_,vres,hv1,_⟩:=out_types hsp y
 unfold backT zBT
 dsimp only
 rw [hv1]
def callT_sound {dr:Bool} {d:Nat} {g:Option Bool} (hΓ:∀ c ∈ Γ,zAl P c) (ha:Abs B ζ num s e H) {c:List (Nat × Bool)} (hh:zBB s.gs c = true) (hg:g = none \/ g = some true) {o:Oper} (hcall:isCall o = true) {k:TV -> St -> Option R} (h:heapT P Γ dr d g c s o k = some r) {C:Env -> D -> Heap -> Prop}
  (hC:∀ e1 v s' ζ' num' dd H' H'',k v s' = some r -> Step B d ζ num s e1 dd H' v s' ζ' num' H'' -> C e1 dd H'):∃ e1 H1,(WeakS e H e1 H1 /\ ∃ rf,e1 = zCn num { s with rows:=rf }) /\ zDI P (kd dr o) o e1 H1 (C e1):=by
 obtain ⟨dst,op,ty,pos,after,guard⟩:=o
 cases op <;> first | (cases hcall;done) | skip
 rename_i cl
 obtain ⟨f,args,ts⟩:=cl
 cases f <;> first | (cases hcall;done) | skip
 rename_i f
 simp only [heapT] at h
 have hng:∀ {x:Option R},notG g x = some r -> False:=fun h=>by rcases hg with rfl | rfl <;> cases h
 split at h
 rotate_left
 ·exact (hng h).elim
 rename_i q ta tb yv l hfv hl
 split at h
 rotate_left
 ·exact (hng h).elim
 rename_i con x hfind
 obtain ⟨hb,h⟩:=zAa h
 have h:(∃ y:(zAY con.outT).I,con.Q x.x y) /\ ∀ y,con.Q x.x y -> k (backT d con x s y).1 (backT d con x s y).2 = some r:=by
  unfold Con.Q
  cases hq:con.q with
  | none =>
   rw [hq] at h
   dsimp only at h ⊢
   have h':call (con.F x.x) (fun y=>k (backT d con x s y).1 (backT d con x s y).2) = some r:=by rcases hg with rfl | rfl <;> exact h
   unfold call at h'
   cases hF:con.F x.x with
   | none=>rw [hF] at h';cases h'
   | some y=>rw [hF] at h';exact ⟨⟨y,rfl⟩,fun y' hy'=>by cases hy';exact h'⟩
  | some q =>
   rw [hq] at h
   dsimp only at h ⊢
   rcases hg with rfl | rfl
   ·exact callQ_some h
   ·cases h
 obtain ⟨hy,hk⟩:=h
 have hdr:dr = true -> con.ins = []:=fun hdr=>by
  subst hdr
  rcases hg with rfl | rfl
  ·simpa using hb
  ·simp only [yAB] at hb;exact List.isEmpty_iff.1 hb.1
 obtain ⟨hmem,hf,hfit⟩:=findCon_mem hfind
 have hfit:=fitCon_fit hfit
 have hok:=hΓ con hmem
 have core:∀ (s1:St) (e1:Env) (H1:Heap) (rf:Rows),s1.env = s.env -> s1.gs = s.gs -> Abs B ζ num s1 e1 H1 -> FrStep s1.rows rf -> Fit con s1.rows rf x.ρ x.x (zAK ta yv.1 ++ l ++ zAK tb yv.2) -> (con.mem = true -> rf = s1.rows) ->
     (∀ y,con.Q x.x y -> ∀ dd H' ζ2 num2,Step B d ζ num s1 e1 dd H' (renV (locR x.ρ con.ins.length s1.rows.length) (zBT con y).t (zBT con y).x)
      { s1 with rows:=zBa d (locR x.ρ con.ins.length s1.rows.length) x.ρ con.ins.length s1.rows (zBc (numb 0 con.outs) (zBz [con.res] (zAK (zAY con.outT) y)).2) } ζ2 num2 H' -> C e1 dd H') ->
     zDI P (kd dr ⟨dst,.call ⟨.value f,args,ts⟩,ty,pos,after,guard⟩) ⟨dst,.call ⟨.value f,args,ts⟩,ty,pos,after,guard⟩ e1 H1 (C e1):=fun s1 e1 H1 rf h1 h2 ha1 hf1 ft hfull hstep=>by
  have hh1:zBB s1.gs c = true:=by rw [h2];exact hh
  obtain ⟨g1,g2⟩:=zAP ha1 hh1 (by rw [h1];exact hfv)
  obtain ⟨g3,g4⟩:=zCa ha1 hh1 (by rw [h1];exact hl)
  have hargs:∀ v ∈ zAK ta yv.1 ++ l ++ zAK tb yv.2,okV s1.rows v:=fun v hv=>by
   rcases yAO.1 hv with hv | hv
   ·rcases yAO.1 hv with hv | hv
    ·exact leaves_ok ta yv.1 g2.1 v hv
    ·exact g4 v hv
   ·exact leaves_ok tb yv.2 g2.2 v hv
  obtain ⟨k1,k2⟩:=call_core (d:=d) ha1 hf1 hok hargs ft hy hfull hstep
  have he:ev e1 f = .fn (.func q) ((zAK ta yv.1).map (enc (zAB num s1.rows))) ((zAK tb yv.2).map (enc (zAB num s1.rows))):=by
   rw [g1]
   show D.fn (.func q) (E ta _ yv.1).2 (E tb _ yv.2).2 = _
   rw [E_leaves,E_leaves]
  rw [hf,yAV,yAV,<- g3] at k1 k2
  cases hdrv:dr with
  | true =>
   show aCallK P (ev e1 f) (args.toList.map (ev e1)) H1 (C e1)
   rw [he]
   exact .inl (k2 (hdr hdrv))
  | false =>
   show aCallW P (ev e1 f) (args.toList.map (ev e1)) H1 (C e1)
   rw [he]
   exact .inl k1
 cases hcm:con.mem with
 | false =>
  refine ⟨e,H,⟨WeakS.refl _ _,s.rows,ha.env⟩,core s e H _ rfl rfl ha (zBt d x.fz s.rows) hfit (fun h=>by rw [hcm] at h;cases h) fun y hQ dd H' ζ2 num2 st=>hC _ _ _ ζ2 num2 dd H' H' (hk y hQ) ?_⟩
  rw [backT_eq hfit.sp,hcm]
  exact st
 | true =>
  obtain ⟨ha1,hw1⟩:=fr_abs ha (zBt d x.fz s.rows)
  have hle1:=fr_Le (ζ:=ζ) (num:=num) (s:=s) d x.fz
  refine ⟨_,_,⟨hw1,_,rfl⟩,core { s with rows:=zAz d x.fz 0 s.rows } _ _ (zAz d x.fz 0 s.rows) rfl rfl ha1 (FrStep.refl _) (fit_fr hfit (zBt d x.fz s.rows)) (fun _=>rfl) fun y hQ dd H' ζ2 num2 st=>hC _ _ _ ζ2 num2 dd H' H' (hk y hQ) ?_⟩
  have st:=st.pre (ζ:=ζ) (num:=num) (s:=s) (fun _=>Tl.refl _) hle1 rfl rfl
  dsimp only at st
  rw [freeze_len] at st
  rw [backT_eq hfit.sp,hcm]
  exact st
end
end Go.T
namespace Go.T
open Go.Ab
variable [Go.Ab.DM]
section
variable {P:Program} {Γ:List Con} {B:Base} {ζ ζ':Nat -> Row} {num num':Nat -> Nat} {s:St} {e:Env} {H H1:Heap} {R:Type} {r:R}
def band_eq (a b:Bool):band a b = (a && b):=by cases a <;> cases b <;> rfl
def bnot_eq (a:Bool):zCr a = !a:=by cases a <;> rfl
def gB_spec (gs:List (Nat × Bool)):∀ (c:List (Nat × Bool)),(gB gs c = none /\ c = []) \/ gB gs c = some (zBB gs c)
 | []=>.inl ⟨rfl,rfl⟩
 | (n,w) :: l=>by
  refine .inr ?_
  simp only [gB]
  cases hg:getG gs n with
  | none =>
   have:zBB gs ((n,w) :: l) = false:=by
    unfold zBB
    rw [yBZ]
    dsimp only
    rw [hg];rfl
   rw [this]
  | some b =>
   have hc:zBB gs ((n,w) :: l) = ((b == w) && zBB gs l):=by
    unfold zBB
    rw [yBZ]
    dsimp only
    rw [hg]
   rw [hc]
   rcases gB_spec gs l with ⟨h1,h2⟩ | h1
   ·subst h2;rw [h1]
    have:zBB gs [] = true:=rfl
    rw [this]
    cases w <;> cases b <;> rfl
   ·rw [h1]
    dsimp only
    rw [band_eq]
    cases w <;> cases b <;> simp [bnot_eq]
structure GOk (d:Nat) (s:St):Prop where
 c:∀ n ent,zAm s.env n = some ent -> ∀ p ∈ ent.c,∃ b,getG s.gs p.1 = some b
 lv:∀ n ent,zAm s.env n = some ent -> ent.c ≠ [] -> d <= ent.lv
structure Plain (s:St):Prop where
 gs:s.gs = []
 c:∀ n ent,zAm s.env n = some ent -> ent.c = []
def Plain.gok (h:Plain s) (d:Nat):GOk d s:=⟨fun n ent hf p hp=>(by rw [h.c n ent hf] at hp;cases hp),fun n ent hf hc=>absurd (h.c n ent hf) hc⟩
def holds_cons {gs:List (Nat × Bool)} {n:Nat} {b:Bool} (hn:getG gs n = none) {c:List (Nat × Bool)} (hc:∀ p ∈ c,∃ b,getG gs p.1 = some b):zBB ((n,b) :: gs) c = zBB gs c:=by
 unfold zBB
 rw [Bool.eq_iff_iff,yAR,yAR]
 have:∀ p ∈ c,getG ((n,b) :: gs) p.1 = getG gs p.1:=fun p hp=>by
  obtain ⟨b',hb⟩:=hc p hp
  simp only [getG]
  cases he:Nat.beq n p.1 with
  | false=>rfl
  | true=>rw [yAP] at he;rw [he] at hn;rw [hn] at hb;cases hb
 exact ⟨fun h p hp=>by rw [<- this p hp];exact h p hp,fun h p hp=>by rw [this p hp];exact h p hp⟩
def regG_sound {d:Nat} (ha:Abs B ζ num s e H) (hgo:GOk d s) {n:Nat} {s1:St} {c:List (Nat × Bool)} (h:regG s n = some (s1,c)) :
  Abs B ζ num s1 e H /\ GOk d s1 /\ Le d ζ num s ζ num s1 /\ s1.rows = s.rows /\ s1.env = s.env /\ ∃ b a lv,getG s1.gs n = some b /\ zAm s.env n = some ⟨a,lv,c,⟨.bool,b⟩⟩ /\ (∀ p ∈ c,∃ b,getG s1.gs p.1 = some b) /\ ∀ c',(∀ p ∈ c',∃ b,getG s.gs p.1 = some b) -> zBB s1.gs c' = zBB s.gs c':=by
 unfold regG at h
 split at h
 rotate_left
 ·cases h
 rename_i a lv c0 b hf
 split at h
 ·rename_i b' hg
  have h:=yAA h
  obtain ⟨h1,h2⟩:=Prod.mk.inj h
  subst h1;subst h2
  obtain ⟨a2,lv2,c2,hf2⟩:=ha.gs n b' hg
  rw [hf] at hf2
  have hf2:=yAA hf2
  have hbb:(⟨.bool,b⟩:TV) = ⟨.bool,b'⟩:=by injection hf2
  have hbb:b = b':=by injection hbb with _ hx
  subst hbb
  exact ⟨ha,hgo,Le.refl _ _ _ _,rfl,rfl,b,a,lv,hg,hf,fun p hp=>hgo.c n _ hf p hp,fun _ _=>rfl⟩
 ·rename_i hg
  have h:=yAA h
  obtain ⟨h1,h2⟩:=Prod.mk.inj h
  subst h1;subst h2
  have hhold:∀ c',(∀ p ∈ c',∃ b,getG s.gs p.1 = some b) -> zBB ((n,b) :: s.gs) c' = zBB s.gs c':=fun c' hc=>holds_cons hg hc
  have hreg:∀ p,(∃ b,getG s.gs p = some b) -> ∃ b',getG ((n,b) :: s.gs) p = some b':=fun p ⟨b',hb⟩=>by
   simp only [getG]
   cases Nat.beq n p with
   | true=>exact ⟨b,rfl⟩
   | false=>exact ⟨b',hb⟩
  refine ⟨⟨?_,ha.hrel,fun m ent hf' hh=>?_,fun m b' hg'=>?_,ha.base,ha.hlen,ha.klen,ha.lens⟩,⟨fun m ent hf' p hp=>hreg _ (hgo.c m ent hf' p hp),hgo.lv⟩,⟨fun _ _ h _=>h,fun _ _ h _=>⟨h,rfl,rfl,rfl⟩⟩,rfl,rfl,b,a,lv,?_,hf,fun p hp=>hreg _ (hgo.c n _ hf p hp),hhold⟩
  ·rw [ha.env]
   funext i
   unfold zCn
   dsimp only
   cases hf':zAm s.env i with
   | none=>rfl
   | some ent =>
    simp only [entD]
    rw [hhold _ (hgo.c i ent hf')]
  ·exact ha.ok m ent hf' (by rw [<- hhold _ (hgo.c m ent hf')];exact hh)
  ·have hg':getG ((n,b) :: s.gs) m = some b':=hg'
   simp only [getG] at hg'
   cases he:Nat.beq n m with
   | true =>
    rw [he,cond_true] at hg'
    have:=yAA hg';subst this
    rw [yAP] at he;subst he
    exact ⟨a,lv,c0,hf⟩
   | false=>rw [he] at hg';exact ha.gs m b' hg'
  ·simp only [getG,Nat.beq_refl];rfl
def guard_at (ha:Abs B ζ num s e H) {n a lv:Nat} {c:List (Nat × Bool)} {b:Bool} (hf:zAm s.env n = some ⟨a,lv,c,⟨.bool,b⟩⟩):e n = if zBB s.gs c = true then .v (.bool b) else .v undef:=by
 rw [ha.env]
 unfold zCn
 rw [hf]
 rfl
def put_sound {d:Nat} {dst:Option Tmp} {c:List (Nat × Bool)} {v:TV} {s':St} {e1:Env} {dd:D} {H':Heap} (ha:Abs B ζ num s (zCn num s) H1) (hgo:GOk d s) (h:put d dst c v s = some s') (hv:zBB s.gs c = true -> okV s.rows v) (hc:∀ p ∈ c,∃ b,getG s.gs p.1 = some b)
  (hw:∀ own X w,Sim own H' X w -> Sim own H1 X w /\ Ext X own H' w own H1 w /\ (∀ i x,Rel own H' X w (e1 i) x -> Rel own H1 X w (zCn num s i) x) /\ (∀ x,Rel own H' X w dd x -> Rel own H1 X w (if zBB s.gs c = true then enc (zAB num s.rows) v else .v undef) x)) :
  WeakS (updO e1 dst dd) H' (zCn num s') H1 /\ Abs B ζ num s' (zCn num s') H1 /\ GOk d s' /\ Le d ζ num s ζ num s':=by
 cases dst with
 | none =>
  have:=yAA h;subst this
  refine ⟨fun own X w hs=>?_,ha,hgo,Le.refl _ _ _ _⟩
  obtain ⟨h1,h2,h3,_⟩:=hw own X w hs
  exact ⟨h1,h2,h3⟩
 | some n =>
  simp only [put] at h
  split at h
  rotate_left
  ·cases h
  rename_i hg
  have:=yAA h;subst this
  have hfn:∀ i,zAm (⟨n,d,c,v⟩ :: s.env) i = if i = n then some ⟨n,d,c,v⟩ else zAm s.env i:=fun i=>by
   simp only [zAm]
   by_cases hi:i = n
   ·subst hi;simp
   ·rw [if_neg hi]
    cases hb:Nat.beq n i with
    | true=>rw [yAP] at hb;exact absurd hb.symm hi
    | false=>rfl
  have henv:∀ i,zCn num ⟨⟨n,d,c,v⟩ :: s.env,s.rows,s.gs⟩ i = if i = n then (if zBB s.gs c = true then enc (zAB num s.rows) v else .v undef) else zCn num s i:=fun i=>by
   unfold zCn
   dsimp only
   rw [hfn]
   by_cases hi:i = n
   ·simp only [hi,if_true];rfl
   ·rw [if_neg hi,if_neg hi];rfl
  refine ⟨fun own X w hs=>?_,⟨rfl,ha.hrel,fun m ent hf hh=>?_,fun m b hb=>?_,ha.base,ha.hlen,ha.klen,ha.lens⟩,⟨fun m ent hf p hp=>?_,fun m ent hf hcn=>?_⟩,⟨fun m ent hf hlt=>?_,fun r lv h1 h2=>⟨h1,rfl,rfl,rfl⟩⟩⟩
  ·obtain ⟨h1,h2,h3,h4⟩:=hw own X w hs
   refine ⟨h1,h2,fun i x hx=>?_⟩
   rw [henv]
   have hx:Rel own H' X w (if i = n then dd else e1 i) x:=hx
   by_cases hi:i = n
   ·rw [if_pos hi] at hx ⊢;exact h4 x hx
   ·rw [if_neg hi] at hx ⊢;exact h3 i x hx
  ·have hf:zAm (⟨n,d,c,v⟩ :: s.env) m = some ent:=hf
   rw [hfn] at hf
   by_cases hi:m = n
   ·rw [if_pos hi] at hf;have:=yAA hf;subst this;exact hv hh
   ·rw [if_neg hi] at hf;exact ha.ok m ent hf hh
  ·have hb:getG s.gs m = some b:=hb
   obtain ⟨a,lv,c',hf⟩:=ha.gs m b hb
   have hi:m ≠ n:=by intro hi;subst hi;rw [hg] at hb;cases hb
   exact ⟨a,lv,c',by show zAm (⟨n,d,c,v⟩ :: s.env) m = _;rw [hfn,if_neg hi];exact hf⟩
  ·have hf:zAm (⟨n,d,c,v⟩ :: s.env) m = some ent:=hf
   rw [hfn] at hf
   by_cases hi:m = n
   ·rw [if_pos hi] at hf;have:=yAA hf;subst this;exact hc p hp
   ·rw [if_neg hi] at hf;exact hgo.c m ent hf p hp
  ·have hf:zAm (⟨n,d,c,v⟩ :: s.env) m = some ent:=hf
   rw [hfn] at hf
   by_cases hi:m = n
   ·rw [if_pos hi] at hf;have:=yAA hf;subst this;exact yAJ _
   ·rw [if_neg hi] at hf;exact hgo.lv m ent hf hcn
  ·have hf:zAm (⟨n,d,c,v⟩ :: s.env) m = some ent:=hf
   rw [hfn] at hf
   by_cases hi:m = n
   ·rw [if_pos hi] at hf;have:=yAA hf;subst this;exact absurd hlt (Nat.lt_irrefl _)
   ·rw [if_neg hi] at hf;exact hf
def dropC_at:∀ (env:List Ent) (n:Nat),zAm (dropC env) n = (zAm env n).map fun e=>bif e.c.isEmpty then e else ⟨e.s,e.lv,[],⟨.any,()⟩⟩
 | [],n=>rfl
 | a :: l,n=>by
  simp only [dropC,zAm]
  have hs:(bif a.c.isEmpty then a else ⟨a.s,a.lv,[],⟨.any,()⟩⟩:Ent).s = a.s:=by cases a.c.isEmpty <;> rfl
  rw [hs]
  cases Nat.beq a.s n with
  | true=>rfl
  | false=>exact dropC_at l n
def endG_sound {d:Nat} (ha:Abs B ζ num s e H) (hgo:GOk d s):Abs B ζ num (endG s) (zCn num (endG s)) H /\ Plain (endG s) /\ Le d ζ num s ζ num (endG s) /\ WeakS e H (zCn num (endG s)) H:=by
 obtain ⟨env,rows,gs⟩:=s
 cases gs with
 | nil =>
  have he:=ha.env
  refine ⟨by rw [he] at ha;exact ha,⟨rfl,fun n ent hf=>?_⟩,Le.refl _ _ _ _,by rw [he];exact WeakS.refl _ _⟩
  cases hc:ent.c with
  | nil=>rfl
  | cons p l =>
   obtain ⟨b,hb⟩:=hgo.c n ent hf p (by rw [hc];exact yAN ..)
   cases hb
 | cons g gs =>
  have hfd:∀ n ent,zAm (dropC env) n = some ent -> ent.c = [] /\ ((zAm env n = some ent) \/ (d <= ent.lv /\ ent.v = ⟨.any,()⟩)):=fun n ent hf=>by
   rw [dropC_at] at hf
   cases h0:zAm env n with
   | none=>rw [h0] at hf;cases hf
   | some e0 =>
    rw [h0] at hf
    have this:=yAA hf
    dsimp only at this
    cases hc:e0.c.isEmpty with
    | true =>
     rw [hc] at this
     have this:e0 = ent:=this
     subst this
     exact ⟨List.isEmpty_iff.1 hc,.inl rfl⟩
    | false =>
     rw [hc] at this
     have this:(⟨e0.s,e0.lv,[],⟨.any,()⟩⟩:Ent) = ent:=this
     subst this
     exact ⟨rfl,.inr ⟨hgo.lv n e0 h0 (fun hx=>by rw [hx] at hc;cases hc),rfl⟩⟩
  refine ⟨⟨rfl,ha.hrel,fun n ent hf _=>?_,fun n b h=>(by cases h),ha.base,ha.hlen,ha.klen,ha.lens⟩,⟨rfl,fun n ent hf=>(hfd n ent hf).1⟩,⟨fun n ent hf hlt=>?_,fun r lv h1 h2=>⟨h1,rfl,rfl,rfl⟩⟩,WeakS.env fun i=>?_⟩
  ·obtain ⟨h1,h2 | ⟨h2,h3⟩⟩:=hfd n ent hf
   ·exact ha.ok n ent h2 (by rw [h1];rfl)
   ·show okV rows ent.v
    rw [h3];trivial
  ·obtain ⟨h1,h2 | ⟨h2,h3⟩⟩:=hfd n ent hf
   ·exact h2
   ·omega
  ·unfold zCn endG
   dsimp only
   cases hf:zAm (dropC env) i with
   | none=>exact Tl.any _
   | some ent =>
    have hh:∀ gs:List (Nat × Bool),zBB gs [] = true:=fun _=>rfl
    obtain ⟨h1,h2 | ⟨h2,h3⟩⟩:=hfd i ent hf
    ·simp only [entD,h1,hh,if_true]
     rw [ha.at h2 (by rw [h1];rfl)]
     exact Tl.refl _
    ·simp only [entD,h1,hh,if_true,h3]
     exact Tl.any _
def needG_skip {b:Bool} {k:Option R} (h:needG (some false) b k = some r):k = some r:=by
 have h:need (impl false b) k = some r:=h
 have hi:impl false b = true:=by cases b <;> rfl
 rw [hi] at h;exact h
end
end Go.T
namespace Go.T
open Go.Ab
variable [Go.Ab.DM]
section
variable {P:Program} {Γ:List Con} {B:Base} {ζ ζ':Nat -> Row} {num num':Nat -> Nat} {s:St} {e:Env} {H H1:Heap} {R:Type} {r:R}
def binT_skip {op:BinOp} {t:TypeId} {rows:Rows} {x y:TV} {k:TV -> Option R} (h:binT P (some false) op t rows x y k = some r):∃ v,k v = some r:=by
 unfold binT at h
 repeat' split at h
 all_goals first | (cases h;done) | exact ⟨_,h⟩ | exact ⟨_,needG_skip h⟩
def indexAddrT_skip {rows:Rows} {t:TypeId} {x i:TV} {ic:Option Nat} {k:TV -> Option R} (h:zDR P (some false) rows t x i ic k = some r):∃ v,k v = some r:=by
 unfold zDR at h
 repeat' split at h
 all_goals first
  | (cases h;done)
  | (obtain ⟨_,h⟩:=zAa h;first | exact ⟨_,h⟩ | exact ⟨_,needG_skip h⟩)
def sliceT_skip {rows:Rows} {t:TypeId} {x:TV} {lo hi:Option TV} {k:TV -> Option R} (h:sliceT P (some false) rows t x lo hi k = some r):∃ v,k v = some r:=by
 unfold sliceT at h
 repeat' split at h
 all_goals first
  | (cases h;done)
  | exact ⟨_,needG_skip h⟩
  | (obtain ⟨_,h⟩:=zAa h;exact ⟨_,needG_skip h⟩)
def bif_two {b:Bool} {x y:TV} {k:TV -> Option R} (h:(bif b then k x else k y) = some r):∃ v,k v = some r:=by
 cases b <;> exact ⟨_,h⟩
def pureT_skip {d:Nat} {c:List (Nat × Bool)} {o:Oper} {k:TV -> Option R} (h:zDW P d (some false) c s o k = some r):∃ v,k v = some r:=by
 obtain ⟨dst,op,ty,pos,after,guard⟩:=o
 cases op <;> simp only [zDW] at h <;> (try (cases h;done))
 case call cl =>
  obtain ⟨f,args,ts⟩:=cl
  cases f <;> (try simp only [zDW] at h) <;> (try (cases h;done))
  rename_i b
  cases b <;> (try simp only [zDW] at h) <;> (repeat' split at h) <;> first | (cases h;done) | exact ⟨_,h⟩
 all_goals (repeat' split at h)
 all_goals first
  | (cases h;done)
  | exact ⟨_,h⟩
  | exact ⟨_,needG_skip h⟩
  | exact binT_skip h
  | exact indexAddrT_skip h
  | exact sliceT_skip h
  | (obtain ⟨_,h⟩:=zAa h;exact ⟨_,h⟩)
  | (obtain ⟨_,h⟩:=zAa h;exact bif_two h)
def Next (B:Base) (d:Nat) (ζ:Nat -> Row) (num:Nat -> Nat) (s:St) (k:St -> Option R) (r:R) (T:Env -> Heap -> Prop):Prop :=
 (∀ e H e' H',WeakS e H e' H' -> T e' H' -> T e H) /\ ∀ ζ' num' s' H',k s' = some r -> Abs B ζ' num' s' (zCn num' s') H' -> GOk d s' -> Le d ζ num s ζ' num' s' -> T (zCn num' s') H'
def put_next {d:Nat} {dst:Option Tmp} {c:List (Nat × Bool)} {v:TV} {s1 s':St} {e1:Env} {dd:D} {H' H'':Heap} {k:St -> Option R} {T:Env -> Heap -> Prop} (hN:Next B d ζ num s k r T) (hst:Step B d ζ num s1 e1 dd H' v s' ζ' num' H'') (hle:Le d ζ num s ζ num s1) (hgo:GOk d s1)
  (hh:zBB s1.gs c = true) (hc:∀ p ∈ c,∃ b,getG s1.gs p.1 = some b) (h:(match put d dst c v s' with | some s''=>k s'' | none=>none) = some r):T (updO e1 dst dd) H':=by
 split at h
 rotate_left
 ·cases h
 rename_i s'' hp
 have hgo':GOk d s':=⟨fun n ent hf p hp=>by rw [hst.gs];exact hgo.c n ent (by rw [<- hst.env];exact hf) p hp,fun n ent hf hcn=>hgo.lv n ent (by rw [<- hst.env];exact hf) hcn⟩
 obtain ⟨g1,g2,g3,g4⟩:=put_sound (e1:=e1) (dd:=dd) (H':=H') hst.abs hgo' hp (fun _=>hst.ok) (by rw [hst.gs];exact hc) fun own X w hs=>by
  obtain ⟨k1,k2,k3,k4⟩:=hst.weak own X w hs
  rw [hst.gs,if_pos hh]
  exact ⟨k1,k2,k3,k4⟩
 exact hN.1 _ _ _ _ g1 (hN.2 _ _ _ _ h g2 g3 ((hle.trans hst.le).trans g4))
def put_skip {d:Nat} {dst:Option Tmp} {c:List (Nat × Bool)} {v:TV} {s1:St} {k:St -> Option R} {T:Env -> Heap -> Prop} (hN:Next B d ζ num s k r T) (ha:Abs B ζ num s1 (zCn num s1) H1) (hle:Le d ζ num s ζ num s1) (hgo:GOk d s1)
  (hh:zBB s1.gs c = false) (hc:∀ p ∈ c,∃ b,getG s1.gs p.1 = some b) (h:(match put d dst c v s1 with | some s''=>k s'' | none=>none) = some r):T (updO (zCn num s1) dst (.v undef)) H1:=by
 split at h
 rotate_left
 ·cases h
 rename_i s'' hp
 obtain ⟨g1,g2,g3,g4⟩:=put_sound (e1:=zCn num s1) (dd:=.v undef) (H':=H1) ha hgo hp (fun h=>by rw [hh] at h;cases h) hc fun own X w hs=>by
  rw [hh]
  exact ⟨hs,.refl _ _ _,fun _ _ h=>h,fun _ h=>h⟩
 exact hN.1 _ _ _ _ g1 (hN.2 _ _ _ _ h g2 g3 (hle.trans g4))
end
end Go.T
namespace Go.T
open Go.Ab
variable [Go.Ab.DM]
section
variable {P:Program} {Γ:List Con} {B:Base} {ζ ζ':Nat -> Row} {num num':Nat -> Nat} {s:St} {e:Env} {H H1:Heap} {R:Type} {r:R}
def pick_kind {o:Oper} {x a b:Operand} (h:isPick o = some (x,a,b)):o.op = .pick x a b:=by
 unfold isPick at h
 split at h
 ·rename_i c a' b' ho
  have h:=yAA h
  obtain ⟨h1,h2⟩:=Prod.mk.inj h
  obtain ⟨h2,h3⟩:=Prod.mk.inj h2
  subst h1;subst h2;subst h3;exact ho
 ·cases h
def call_heap {o:Oper} (h:isCall o = true):isHeapOp o = true:=by
 unfold isCall at h
 split at h
 ·rename_i ho;unfold isHeapOp;rw [ho]
 ·cases h
def execT_on {dr:Bool} {d:Nat} {c:List (Nat × Bool)} {o:Oper} {k:St -> Option R} {T:Env -> Heap -> Prop} (hΓ:∀ c ∈ Γ,zAl P c) (ha:Abs B ζ num s e H) (hgo:GOk d s) (hh:zBB s.gs c = true) (hc:∀ p ∈ c,∃ b,getG s.gs p.1 = some b) (hN:Next B d ζ num s k r T) (h:execT P Γ dr d c o s k = some r) :
  ∃ e1 H1,(WeakS e H e1 H1 /\ ∃ rf,e1 = zCn num { s with rows:=rf }) /\ zDI P (kd dr o) o e1 H1 fun dd H'=>T (updO e1 o.dst dd) H':=by
 have hg:∀ g,gB s.gs c = g -> g = none \/ g = some true:=fun g hg=>by
  rcases gB_spec s.gs c with ⟨h1,_⟩ | h1
  ·rw [h1] at hg;exact .inl hg.symm
  ·rw [h1,hh] at hg;exact .inr hg.symm
 have hgo1:=hgo
 unfold execT at h
 split at h
 ·-- pick
  rename_i sc a b hp
  split at h
  rotate_left
  ·cases h
  rename_i s' cc hreg
  obtain ⟨hsub,h⟩:=zAa h
  obtain ⟨ha',hgo',hle',hrows',henv',q,a0,lv0,hgq,hfq,hcc,hsame⟩:=regG_sound (d:=d) ha hgo hreg
  have hhc:zBB s'.gs c = true:=by rw [hsame c hc];exact hh
  have hqe:e sc = .v (.bool q):=by
   rw [guard_at ha hfq,if_pos (holds_sub hsub hh)]
  unfold pickT at h
  rw [hgq] at h
  split at h <;> first | (cases h;done) | skip
  rename_i q' va vb hq' hva hvb
  have:=yAA hq';subst this
  split at h
  rotate_left
  ·cases h
  rename_i ht
  have hop:=pick_kind hp
  obtain ⟨dst,op,ty,pos,after,guard⟩:=o
  dsimp only at hop;subst hop
  have hkd:kd dr ⟨dst,.pick (.tmp sc) a b,ty,pos,after,guard⟩ = .pure:=by cases dr <;> rfl
  rw [hkd]
  refine ⟨e,H,⟨WeakS.refl _ _,s.rows,ha.env⟩,?_⟩
  show aPick (e sc) (ev e a) (ev e b) fun dd=>T (updO e dst dd) H
  rw [hqe]
  have hcr:∀ p ∈ c,∃ b,getG s'.gs p.1 = some b:=fun p hp=>by
   obtain ⟨b,hb⟩:=hc p hp
   have:zBB s'.gs [(p.1,b)] = zBB s.gs [(p.1,b)]:=hsame _ (fun p' hp'=>by simp only [yAE,yAf,or_false] at hp';subst hp';exact ⟨b,hb⟩)
   have h1:zBB s.gs [(p.1,b)] = true:=by simp [zBB,hb]
   rw [h1] at this
   simp only [zBB,yBZ,List.all_nil,Bool.and_true] at this
   cases hgp:getG s'.gs p.1 with
   | none=>rw [hgp] at this;cases this
   | some b'=>exact ⟨b',rfl⟩
  cases q with
  | true =>
   obtain ⟨g1,g2⟩:=zAP ha' (c:=(sc,true) :: c) (by unfold zBB;rw [yBZ];dsimp only;rw [hgq];exact hhc) hva
   show T (updO e dst (ev e a)) H
   refine put_next hN (same_step (d:=d) ha' (v:=va) (Tl.of_eq g1) g2) hle' hgo' hhc hcr ?_
   exact h
  | false =>
   obtain ⟨g1,g2⟩:=zAP ha' (c:=(sc,false) :: c) (by unfold zBB;rw [yBZ];dsimp only;rw [hgq];exact hhc) hvb
   show T (updO e dst (ev e b)) H
   refine put_next hN (same_step (d:=d) ha' (v:=vb) (Tl.of_eq g1) g2) hle' hgo' hhc hcr ?_
   have:(⟨va.t,zAL false va.x (castI ht vb.x)⟩:TV) = vb:=by
    obtain ⟨tb,xb⟩:=vb
    obtain ⟨ta,xa⟩:=va
    have ht:tb = ta:=ht
    subst ht
    rfl
   rw [this] at h
   exact h
 ·cases h
 ·cases hheap:isHeapOp o with
  | true =>
   rw [hheap,cond_true] at h
   split at h
   ·rename_i g hcall
    exact callT_sound hΓ ha hh (hg _ rfl) hcall h fun e1 v s' ζ' num' dd H' H'' hk hst=>put_next hN hst (Le.refl _ _ _ _) hgo hh hc hk
   ·rename_i hcall hgn
    have hkd:kd dr o = zAF o:=by unfold kd;rw [hcall];cases dr <;> rfl
    rw [hkd]
    exact heapT_sound ha hh hcall h fun e1 v s' ζ' num' dd H' H'' hk hst=>put_next hN hst (Le.refl _ _ _ _) hgo hh hc hk
   ·rename_i g hcall hgn
    have hkd:kd dr o = zAF o:=by unfold kd;rw [hcall];cases dr <;> rfl
    rw [hkd]
    rcases hg _ hgn with hx | hx
    ·cases hx
    ·have:=yAA hx;subst this
     have h:heapT P Γ dr d none c s o (fun v s'=>match put d o.dst c v s' with | some s''=>k s'' | none=>none) = some r:=h
     exact heapT_sound ha hh hcall h fun e1 v s' ζ' num' dd H' H'' hk hst=>put_next hN hst (Le.refl _ _ _ _) hgo hh hc hk
  | false =>
   rw [hheap,cond_false] at h
   have hkd:kd dr o = zAF o:=by
    unfold kd
    cases hcall:isCall o with
    | true=>rw [call_heap hcall] at hheap;cases hheap
    | false=>cases dr <;> rfl
   rw [hkd]
   exact ⟨e,H,⟨WeakS.refl _ _,s.rows,ha.env⟩,pureT_sound ha (hg _ rfl) hh h fun v hk hv dd hd=>put_next hN (same_step (d:=d) ha hd hv) (Le.refl _ _ _ _) hgo hh hc hk⟩
def same_reg {s':St} (hsame:∀ c',(∀ p ∈ c',∃ b,getG s.gs p.1 = some b) -> zBB s'.gs c' = zBB s.gs c') {c:List (Nat × Bool)} (hc:∀ p ∈ c,∃ b,getG s.gs p.1 = some b):∀ p ∈ c,∃ b,getG s'.gs p.1 = some b:=fun p hp=>by
 obtain ⟨b,hb⟩:=hc p hp
 have:zBB s'.gs [(p.1,b)] = zBB s.gs [(p.1,b)]:=hsame _ (fun p' hp'=>by simp only [yAE,yAf,or_false] at hp';subst hp';exact ⟨b,hb⟩)
 have h1:zBB s.gs [(p.1,b)] = true:=by simp [zBB,hb]
 rw [h1] at this
 simp only [zBB,yBZ,List.all_nil,Bool.and_true] at this
 cases hgp:getG s'.gs p.1 with
 | none=>rw [hgp] at this;cases this
 | some b'=>exact ⟨b',rfl⟩
def execT_off {dr:Bool} {d:Nat} {c:List (Nat × Bool)} {o:Oper} {k:St -> Option R} {T:Env -> Heap -> Prop} (ha:Abs B ζ num s e H) (hgo:GOk d s) (hh:zBB s.gs c = false) (hc:∀ p ∈ c,∃ b,getG s.gs p.1 = some b) (hN:Next B d ζ num s k r T) (h:execT P Γ dr d c o s k = some r) :
  ∃ e1 H1,(WeakS e H e1 H1 /\ ∃ rf,e1 = zCn num { s with rows:=rf }) /\ T (updO e1 o.dst (.v undef)) H1:=by
 have hg:gB s.gs c = some false:=by
  rcases gB_spec s.gs c with ⟨_,h2⟩ | h1
  ·subst h2;cases hh
  ·rw [h1,hh]
 have ha0:Abs B ζ num s (zCn num s) H:=by have:=ha;rw [ha.env] at this;exact this
 have skip:∀ v,(match put d o.dst c v s with | some s''=>k s'' | none=>none) = some r -> ∃ e1 H1,(WeakS e H e1 H1 /\ ∃ rf,e1 = zCn num { s with rows:=rf }) /\ T (updO e1 o.dst (.v undef)) H1:=fun v hv =>
  ⟨e,H,⟨WeakS.refl _ _,s.rows,ha.env⟩,by rw [ha.env];exact put_skip hN ha0 (Le.refl _ _ _ _) hgo hh hc hv⟩
 unfold execT at h
 split at h
 ·rename_i sc a b hp
  split at h
  rotate_left
  ·cases h
  rename_i s' cc hreg
  obtain ⟨hsub,h⟩:=zAa h
  obtain ⟨ha',hgo',hle',hrows',henv',q,a0,lv0,hgq,hfq,hcc,hsame⟩:=regG_sound (d:=d) ha hgo hreg
  unfold pickT at h
  split at h <;> first | (cases h;done) | skip
  split at h
  rotate_left
  ·cases h
  have ha'':Abs B ζ num s' (zCn num s') H:=by have:=ha';rw [ha'.env] at this;exact this
  refine ⟨e,H,⟨WeakS.refl _ _,s.rows,ha.env⟩,?_⟩
  rw [ha'.env]
  exact put_skip hN ha'' hle' hgo' (by rw [hsame c hc];exact hh) (same_reg hsame hc) h
 ·cases h
 ·cases hheap:isHeapOp o with
  | false =>
   rw [hheap,cond_false,hg] at h
   obtain ⟨v,hv⟩:=pureT_skip h
   exact skip v hv
  | true =>
   rw [hheap,cond_true,hg] at h
   cases hcall:isCall o with
   | false =>
    rw [hcall] at h
    exact skip ⟨.any,()⟩ h
   | true =>
    rw [hcall] at h
    dsimp only at h
    obtain ⟨dst,op,ty,pos,after,guard⟩:=o
    cases op <;> first | (cases hcall;done) | skip
    rename Call=>cl
    obtain ⟨f,args,ts⟩:=cl
    cases f <;> first | (cases hcall;done) | skip
    rename Operand=>f
    simp only [heapT] at h
    split at h
    rotate_left
    ·exact skip _ h
    rename_i q ta tb yv l hfv hl
    split at h
    rotate_left
    ·exact skip _ h
    rename_i con x hfind
    obtain ⟨hb,h⟩:=zAa h
    rw [yAB,List.isEmpty_iff,List.isEmpty_iff] at hb
    have h:(match put d dst c (backT d con x s (zAY con.outT).dv).1 (backT d con x s (zAY con.outT).dv).2 with | some s''=>k s'' | none=>none) = some r:=by
     cases hcq:con.q with
     | none=>rw [hcq] at h;exact h
     | some q=>rw [hcq] at h;cases h
    have hb2:(backT d con x s (zAY con.outT).dv).2 = { s with rows:=bif con.mem then zAz d x.fz 0 s.rows else s.rows }:=by
     unfold backT
     dsimp only
     rw [hb.2]
     rfl
    rw [hb2] at h
    cases hcm:con.mem with
    | false=>rw [hcm] at h;exact skip _ h
    | true =>
     rw [hcm] at h
     obtain ⟨ha1,hw1⟩:=fr_abs ha (zBt d x.fz s.rows)
     exact ⟨_,_,⟨hw1,_,rfl⟩,put_skip hN ha1 (fr_Le d x.fz) ⟨hgo.c,hgo.lv⟩ hh hc h⟩
end
end Go.T
namespace Go.T
open Go.Ab
variable [Go.Ab.DM]
section
variable {P:Program} {Γ:List Con} {B:Base} {R:Type} {r:R}
def dstB (N:Nat):Option Tmp -> Bool | some n=>Nat.blt n N | none=>true
def okOp (N:Nat) (full:List Oper) (o:Oper):Bool:=dstB N o.dst && (match o.guard with | none=>true | some (j,_)=>match slotOf full j with | some s=>Nat.blt s N | none=>false)
def dstB_ok {N:Nat} {o:Option Tmp} (h:dstB N o = true):dstOk N o:=by
 cases o with
 | none=>trivial
 | some n=>exact yAc h
def bops_weak {N:Nat} {ops:Array Oper} {Q:Env -> Heap -> Prop} (hQ:∀ e H e' H',WeakS e H e' H' -> Q e' H' -> Q e H) {l:List (OpKind × Oper)} {e e':Env} {H H':Heap} (hw:WeakS e H e' H') (h:bops P N ops l e' H' Q):bops P N ops l e H Q:=by
 cases l with
 | nil=>exact hQ _ _ _ _ hw h
 | cons p l =>
  obtain ⟨k,o⟩:=p
  simp only [bops] at h ⊢
  obtain ⟨e1,H1,h1,h2⟩:=h
  exact ⟨e1,H1,hw.trans h1,h2⟩
def gslot_slot (full:List Oper) (j:Nat):gslot full.toArray j = slotOf full j:=by
 unfold gslot slotOf
 rw [yBA]
 cases full[j]? <;> rfl
def opT1_sound (hΓ:∀ c ∈ Γ,zAl P c) {dr:Bool} {d N:Nat} {full:List Oper} {o:Oper} {k1:St -> Option R} {T:Env -> Heap -> Prop} (hTw:∀ e H e' H',WeakS e H e' H' -> T e' H' -> T e H)
  {ζ:Nat -> Row} {num:Nat -> Nat} {s:St} {e:Env} {H:Heap} (ha:Abs B ζ num s e H) (hgo:GOk d s) (ho:okOp N full o = true) (h:opT1 P Γ dr d full o s k1 = some r)
  (hC:∀ ζ' num' s' H',k1 s' = some r -> Abs B ζ' num' s' (zCn num' s') H' -> GOk d s' -> Le d ζ num s ζ' num' s' -> T (zCn num' s') H'):bops P N full.toArray [(kd dr o,o)] e H T:=by
 simp only [okOp,yAB] at ho
 have hdst:=dstB_ok ho.1
 have next:∀ s1,Le d ζ num s ζ num s1 -> Next B d ζ num s1 k1 r T:=fun s1 hle1 =>
  ⟨hTw,fun ζ' num' s' H' h' ha' hgo' hle'=>hC ζ' num' s' H' h' ha' hgo' (hle1.trans hle')⟩
 simp only [bops]
 unfold opT1 at h
 cases hg:o.guard with
 | none =>
  rw [hg] at h
  obtain ⟨e1,H1,⟨hw,_⟩,hA⟩:=execT_on hΓ ha hgo (c:=[]) rfl (fun p hp=>by cases hp) (next s (Le.refl _ _ _ _)) h
  exact ⟨e1,H1,hw,hdst,hA⟩
 | some p =>
  obtain ⟨j,w⟩:=p
  rw [hg] at h ho
  dsimp only at h ho
  split at h
  rotate_left
  ·cases h
  rename_i sj hsj
  rw [hsj] at ho
  have hsN:sj < N:=yAc ho.2
  split at h
  rotate_left
  ·cases h
  rename_i s1 cj hreg
  obtain ⟨ha',hgo',hle',hrows',henv',b,a0,lv0,hgq,hfq,hcc,hsame⟩:=regG_sound (d:=d) ha hgo hreg
  have hcr:∀ p ∈ (sj,w) :: cj,∃ b,getG s1.gs p.1 = some b:=fun p hp=>by
   rcases yAE.1 hp with rfl | hp
   ·exact ⟨b,hgq⟩
   ·exact hcc p hp
  have hhc:zBB s1.gs ((sj,w) :: cj) = ((b == w) && zBB s1.gs cj):=by
   unfold zBB
   rw [yBZ]
   dsimp only
   rw [hgq]
  have hat:∀ rf,zCn num { s1 with rows:=rf } sj = if zBB s1.gs cj = true then .v (.bool b) else .v undef:=fun rf=>by
   unfold zCn
   dsimp only
   rw [henv',hfq]
   rfl
  cases hcj:zBB s1.gs cj with
  | false =>
   obtain ⟨e1,H1,⟨hw,rf,hrf⟩,hA⟩:=execT_off ha' hgo' (by rw [hhc,hcj];simp) hcr (next s1 hle') h
   refine ⟨e1,H1,hw,hdst,sj,by rw [gslot_slot];exact hsj,hsN,.inr ⟨by rw [hrf,hat,hcj];rfl,hA⟩⟩
  | true =>
   by_cases hbw:b = w
   ·obtain ⟨e1,H1,⟨hw,rf,hrf⟩,hA⟩:=execT_on hΓ ha' hgo' (by rw [hhc,hcj,hbw];simp) hcr (next s1 hle') h
    exact ⟨e1,H1,hw,hdst,sj,by rw [gslot_slot];exact hsj,hsN,.inl ⟨b,by rw [hrf,hat,hcj];rfl,fun _=>hA,fun hn=>absurd hbw hn⟩⟩
   ·obtain ⟨e1,H1,⟨hw,rf,hrf⟩,hA⟩:=execT_off ha' hgo' (by rw [hhc,hcj];simp [hbw]) hcr (next s1 hle') h
    exact ⟨e1,H1,hw,hdst,sj,by rw [gslot_slot];exact hsj,hsN,.inl ⟨b,by rw [hrf,hat,hcj];rfl,fun hn=>absurd hn hbw,fun _=>hA⟩⟩
def bops_cons {N:Nat} {ops:Array Oper} {x:OpKind × Oper} {l:List (OpKind × Oper)} {e:Env} {H:Heap} {Q:Env -> Heap -> Prop} (h:bops P N ops [x] e H fun e H=>bops P N ops l e H Q):bops P N ops (x :: l) e H Q:=h
def opsT_sound (hΓ:∀ c ∈ Γ,zAl P c) {dr:Bool} {d N:Nat} {full:List Oper} {k:St -> Option R} {Q:Env -> Heap -> Prop} (hQw:∀ e H e' H',WeakS e H e' H' -> Q e' H' -> Q e H) :
  ∀ (l:List Oper) (ζ:Nat -> Row) (num:Nat -> Nat) (s:St) (e:Env) (H:Heap),Abs B ζ num s e H -> GOk d s -> (∀ o ∈ l,okOp N full o = true) -> opsT P Γ dr d full l s k = some r ->
   (∀ ζ' num' s' H',k s' = some r -> Abs B ζ' num' s' (zCn num' s') H' -> Plain s' -> Le d ζ num s ζ' num' s' -> Q (zCn num' s') H') -> bops P N full.toArray (l.map fun o=>(kd dr o,o)) e H Q
 | [],ζ,num,s,e,H,ha,hgo,_,h,hQ=>by
  obtain ⟨g1,g2,g3,g4⟩:=endG_sound (d:=d) ha hgo
  exact hQw _ _ _ _ g4 (hQ _ _ _ _ h g1 g2 g3)
 | o :: l,ζ,num,s,e,H,ha,hgo,hok,h,hQ =>
  bops_cons (opT1_sound hΓ (fun e H e' H' hw h=>bops_weak hQw hw h) ha hgo (hok o (yAN ..)) h fun ζ' num' s' H' h' ha' hgo' hle' =>
   opsT_sound hΓ hQw l ζ' num' s' _ H' ha' hgo' (fun o ho=>hok o (yAF _ ho)) h' fun ζ2 num2 s2 H2 k1 k2 k3 k4=>hQ ζ2 num2 s2 H2 k1 k2 k3 (hle'.trans k4))
def both_some {x y:Option R} {r:R} (h:both x y = some r):x = some r /\ y = some r:=by
 unfold both at h
 split at h
 ·rename_i e;exact ⟨h,e ▸ h⟩
 ·cases h
def kindAt (ops:Array Oper) (i:Nat):OpKind:=match ops[i]? with | some o=>kd true o | none=>.pure
def fst (k:OpKind) (i:Nat) (r:PT):PT:=match k with | .pure=>.f .pure i r | .load=>.f .load i r | .keep=>.a .keep i r | .wr=>.a .wr i r
def PN.kinds (ops:Array Oper):PN -> PT
 | .e=>.e
 | .o i r=>fst (kindAt ops i) i (r.kinds ops)
 | .b i r j q=>.b (kindAt ops i) i (r.kinds ops) (kindAt ops j) j (q.kinds ops)
def btree_fst {N:Nat} {ops:Array Oper} {k:OpKind} {i:Nat} {t:PT} {e:Env} {H:Heap} {Q:Env -> Heap -> Prop} (h:bone P N ops k i e H fun e H=>btree P N ops t e H Q):btree P N ops (fst k i t) e H Q:=by
 cases k <;> exact h
def bone_weak {N:Nat} {ops:Array Oper} {k:OpKind} {i:Nat} {C:Env -> Heap -> Prop} {e e':Env} {H H':Heap} (hw:WeakS e H e' H') (h:bone P N ops k i e' H' C):bone P N ops k i e H C:=by
 obtain ⟨o,ho,h⟩:=h
 simp only [bops] at h
 obtain ⟨e1,H1,h1,h2⟩:=h
 exact ⟨o,ho,e1,H1,hw.trans h1,h2⟩
def btree_weak {N:Nat} {ops:Array Oper} {Q:Env -> Heap -> Prop} (hQ:∀ e H e' H',WeakS e H e' H' -> Q e' H' -> Q e H) {t:PT} {e e':Env} {H H':Heap} (hw:WeakS e H e' H') (h:btree P N ops t e' H' Q):btree P N ops t e H Q:=by
 cases t with
 | e=>exact hQ _ _ _ _ hw h
 | f k i r=>exact bone_weak hw h
 | a k i r=>exact bone_weak hw h
 | b k i r k' j q=>exact ⟨bone_weak hw h.1,bone_weak hw h.2⟩
def treeT_sound (hΓ:∀ c ∈ Γ,zAl P c) {d N:Nat} {full:List Oper} {k:St -> Option R} {Q:Env -> Heap -> Prop} (hQw:∀ e H e' H',WeakS e H e' H' -> Q e' H' -> Q e H) (hok:∀ o ∈ full,okOp N full o = true) :
  ∀ (t:PN) (ζ:Nat -> Row) (num:Nat -> Nat) (s:St) (e:Env) (H:Heap),Abs B ζ num s e H -> GOk d s -> treeT P Γ d full t s k = some r ->
   (∀ ζ' num' s' H',k s' = some r -> Abs B ζ' num' s' (zCn num' s') H' -> Plain s' -> Le d ζ num s ζ' num' s' -> Q (zCn num' s') H') -> btree P N full.toArray (t.kinds full.toArray) e H Q
 | .e,ζ,num,s,e,H,ha,hgo,h,hQ=>by
  obtain ⟨g1,g2,g3,g4⟩:=endG_sound (d:=d) ha hgo
  exact hQw _ _ _ _ g4 (hQ _ _ _ _ h g1 g2 g3)
 | .o i t,ζ,num,s,e,H,ha,hgo,h,hQ=>by
  simp only [treeT] at h
  split at h
  rotate_left
  ·cases h
  rename_i o hi
  have hk:kindAt full.toArray i = kd true o:=by unfold kindAt;rw [yBA,hi]
  rw [PN.kinds,hk]
  exact btree_fst ⟨o,by rw [yBA];exact hi,opT1_sound hΓ (fun e H e' H' hw h=>btree_weak hQw hw h) ha hgo (hok o (yAt hi)) h fun ζ' num' s' H' h' ha' hgo' hle' =>
   treeT_sound hΓ hQw hok t ζ' num' s' _ H' ha' hgo' h' fun ζ2 num2 s2 H2 k1 k2 k3 k4=>hQ ζ2 num2 s2 H2 k1 k2 k3 (hle'.trans k4)⟩
 | .b i t j u,ζ,num,s,e,H,ha,hgo,h,hQ=>by
  simp only [treeT] at h
  split at h
  rotate_left
  ·cases h
  rename_i o o' hi hj
  obtain ⟨h1,h2⟩:=both_some h
  have hk:kindAt full.toArray i = kd true o:=by unfold kindAt;rw [yBA,hi]
  have hk':kindAt full.toArray j = kd true o':=by unfold kindAt;rw [yBA,hj]
  rw [PN.kinds,hk,hk']
  exact ⟨⟨o,by rw [yBA];exact hi,opT1_sound hΓ (fun e H e' H' hw h=>btree_weak hQw hw h) ha hgo (hok o (yAt hi)) h1 fun ζ' num' s' H' h' ha' hgo' hle' =>
   treeT_sound hΓ hQw hok t ζ' num' s' _ H' ha' hgo' h' fun ζ2 num2 s2 H2 k1 k2 k3 k4=>hQ ζ2 num2 s2 H2 k1 k2 k3 (hle'.trans k4)⟩,o',by rw [yBA];exact hj,opT1_sound hΓ (fun e H e' H' hw h=>btree_weak hQw hw h) ha hgo (hok o' (yAt hj)) h2 fun ζ' num' s' H' h' ha' hgo' hle' =>
   treeT_sound hΓ hQw hok u ζ' num' s' _ H' ha' hgo' h' fun ζ2 num2 s2 H2 k1 k2 k3 k4=>hQ ζ2 num2 s2 H2 k1 k2 k3 (hle'.trans k4)⟩
end
end Go.T
namespace Go.Ab
variable [Go.Ab.DM]
section
variable {P:Program} {f:FuncId} {N n0:Nat} {R:D -> Heap -> Prop} {K:List Item} {ops:Array Oper}
end
end Go.Ab
namespace Go.T
open Go.Ab
variable [Go.Ab.DM]
def wf (N:Nat):Code -> Hint -> Bool
 | .seq a b,h=>(match h with
  | .j _ ha hb=>wf N a ha && wf N b hb
  | .n ha hb=>wf N a ha && wf N b hb
  | _=>wf N a .o && wf N b .o)
 | .cond _ x y,h=>(match h with
  | .n hx hy=>wf N x hx && wf N y hy
  | _=>wf N x .o && wf N y .o)
 | .block _ b,h=>(match h with
  | .jb _ hb=>wf N b hb
  | .b hb=>wf N b hb
  | _=>wf N b .o)
 | .loop b,h=>(match h with
  | .l _ hb=>wf N b hb
  | .u _ hb=>wf N b hb
  | .lm _ _ hb=>(match b with
   | .seq (.region _ ops false) rest=>ops.toList.all (okOp N ops.toList) && wf N rest hb
   | _=>false)
  | _=>true)
 | .region _ ops draw,h=>(match draw,h with
  | false,_=>ops.toList.all (okOp N ops.toList)
  | true,.r plan=>ops.toList.all (okOp N ops.toList) && goodTree ops ((PN.of plan).kinds ops)
  | true,.rt t=>ops.toList.all (okOp N ops.toList) && goodTree ops (t.kinds ops)
  | true,_=>true)
 | _,_=>true
omit [Go.Ab.DM] in
def iter_some {S E:Type} {body:S -> Option (S ⊕ E)} {x:S} {r:E} (h:zBh body x = some r):∃ n,iterN body n x = some r:=by
 unfold zBh at h
 split at h
 ·rename_i hx
  have h2:=yBB (yBB hx)
  rw [yAA h] at h2
  exact ⟨_,h2⟩
 ·cases h
section
variable {P:Program} {Γ:List Con} {B:Base} {f:FuncId} {N n0:Nat} {Rp:D -> Heap -> Prop}
def Cont (P:Program) (f:FuncId) (N n0:Nat) (Rp:D -> Heap -> Prop) (B:Base) (d:Nat) (ζ:Nat -> Row) (num:Nat -> Nat) (s:St) {R:Type} (k:St -> Option R) (r:R) (K:List Item):Prop :=
 ∀ ζ' num' s' e' H',k s' = some r -> Abs B ζ' num' s' e' H' -> Plain s' -> Le d ζ num s ζ' num' s' -> Run P f N n0 Rp K e' H'
def Le.mono {d d':Nat} {ζ num s ζ' num' s'} (h:Le d' ζ num s ζ' num' s') (hd:d <= d'):Le d ζ num s ζ' num' s' :=
 ⟨fun n ent h1 h2=>h.env n ent h1 (yAd h2 hd),fun r lv h1 h2=>h.rows r lv h1 (yAd h2 hd)⟩
def Cont.from {d d':Nat} {ζ num s ζ1 num1 s1} {R:Type} {k:St -> Option R} {r:R} {K:List Item} (h:Cont P f N n0 Rp B d ζ num s k r K) (hle:Le d ζ num s ζ1 num1 s1) (hd:d <= d'):Cont P f N n0 Rp B d' ζ1 num1 s1 k r K :=
 fun ζ' num' s' e' H' h1 h2 h3 h4=>h ζ' num' s' e' H' h1 h2 h3 (hle.trans (h4.mono hd))
def unpack_plain {d:Nat} {σ:Sig} {x:σ.I} {s:St} (h:Plain s):Plain (zAp d σ x s):=by
 refine ⟨rfl,fun n ent hf=>?_⟩
 have hf:zAm (slotE d σ.slots (zBz (σ.slots.map (·.2)) (zAK (zAY σ.tys) x)).1 ++ keepE s.env σ.keep) n = some ent:=hf
 rw [findE_app] at hf
 split at hf
 ·rename_i e he
  have:=yAA hf;subst this
  have:∀ (l:List (Nat × Ty)) (us:List TV) (e:Ent),zAm (slotE d l us) n = some e -> e.c = []:=by
   intro l
   induction l with
   | nil=>intro us e h;cases h
   | cons p l ih =>
    intro us e h
    cases us with
    | nil=>cases h
    | cons u us =>
     simp only [slotE,zAm] at h
     cases hb:Nat.beq p.1 n with
     | true=>rw [hb,cond_true] at h;have:=yAA h;subst this;rfl
     | false=>rw [hb] at h;exact ih us e h
  exact this _ _ _ he
 ·exact h.c n ent (keepE_at hf).1
def getX_map {R R':Type} {g:(St -> Option R) -> St -> Option R'}:∀ {ex:List (Nat × (St -> Option R))} {i:Nat} {k':St -> Option R'},getX (mapX g ex) i = some k' -> ∃ k,getX ex i = some k /\ k' = g k
 | [],i,k',h=>by cases h
 | p :: ex,i,k',h=>by
  simp only [mapX,getX] at h ⊢
  cases hb:Nat.beq p.1 i with
  | true=>rw [hb,cond_true] at h;exact ⟨p.2,rfl,(yAA h).symm⟩
  | false=>rw [hb] at h;exact getX_map h
structure Outs (P:Program) (f:FuncId) (N n0:Nat) (Rp:D -> Heap -> Prop) (B:Base) (ζ:Nat -> Row) (num:Nat -> Nat) (s:St) {R:Type} (cx:Cx R) (r:R) (K:List Item):Prop where
 ex:∀ i k',getX cx.ex i = some k' -> ∃ K',exitTo i K = some K' /\ Cont P f N n0 Rp B cx.d ζ num s k' r K'
 ret:∀ K',Cont P f N n0 Rp B cx.d ζ num s cx.ret r (.code .ret :: K')
def Outs.from {ζ num s ζ1 num1 s1} {R:Type} {cx:Cx R} {r:R} {K:List Item} (h:Outs P f N n0 Rp B ζ num s cx r K) (hle:Le cx.d ζ num s ζ1 num1 s1):Outs P f N n0 Rp B ζ1 num1 s1 cx r K :=
 ⟨fun i k' hk=>by obtain ⟨K',h1,h2⟩:=h.ex i k' hk;exact ⟨K',h1,h2.from hle (yAJ _)⟩,fun K'=>(h.ret K').from hle (yAJ _)⟩
def upR_inr {R S:Type} {k:St -> Option R} {s:St} {r:R} (h:upR S k s = some (.inr r)):k s = some r:=by
 unfold upR at h
 cases hk:k s with
 | none=>rw [hk] at h;cases h
 | some r'=>rw [hk] at h;cases h;rfl
def upR_inl {R S:Type} {k:St -> Option R} {s:St} {x:S} (h:upR S k s = some (.inl x)):False:=by
 unfold upR at h
 cases hk:k s with
 | none=>rw [hk] at h;cases h
 | some r'=>rw [hk] at h;cases h
def Outs.innerR {ζ num s ζ1 num1 s1} {R S:Type} {cx:Cx R} {r:R} {K:List Item} (h:Outs P f N n0 Rp B ζ num s cx r K) (hle:Le (cx.d + 1) ζ num s ζ1 num1 s1):Outs P f N n0 Rp B ζ1 num1 s1 (cx.inner S) (.inr r) K :=
 ⟨fun i k' hk=>by
   obtain ⟨k0,h1,h2⟩:=getX_map hk
   obtain ⟨K',h3,h4⟩:=h.ex i k0 h1
   refine ⟨K',h3,fun ζ' num' s' e' H' h5 h6 h7 h8=>?_⟩
   subst h2
   exact h4 ζ' num' s' e' H' (upR_inr h5) h6 h7 ((hle.mono (yBG _)).trans (h8.mono (yBG _))),
  fun K' ζ' num' s' e' H' h5 h6 h7 h8=>h.ret K' ζ' num' s' e' H' (upR_inr h5) h6 h7 ((hle.mono (yBG _)).trans (h8.mono (yBG _)))⟩
def Outs.innerL {ζ num s ζ1 num1 s1} {R S:Type} {cx:Cx R} {r:R} {x:S} {K:List Item} (h:Outs P f N n0 Rp B ζ num s cx r K):Outs P f N n0 Rp B ζ1 num1 s1 (cx.inner S) (.inl x) K :=
 ⟨fun i k' hk=>by
   obtain ⟨k0,h1,h2⟩:=getX_map hk
   obtain ⟨K',h3,h4⟩:=h.ex i k0 h1
   refine ⟨K',h3,fun ζ' num' s' e' H' h5 h6 h7 h8=>?_⟩
   subst h2
   exact (upR_inl h5).elim,
  fun K' ζ' num' s' e' H' h5 h6 h7 h8=>(upR_inl h5).elim⟩
def map_inl {R S:Type} {o:Option S} {x:S} (h:(o.map Sum.inl:Option (S ⊕ R)) = some (.inl x)):o = some x:=by
 cases o with
 | none=>cases h
 | some y=>cases h;rfl
def map_inl_r {R S:Type} {o:Option S} {r:R} (h:(o.map Sum.inl:Option (S ⊕ R)) = some (.inr r)):False:=by
 cases o <;> cases h
def join_some {S R:Type} {o:Option (S ⊕ R)} {k:S -> Option R} {r:R} (h:join o k = some r):(∃ x,o = some (.inl x) /\ k x = some r) \/ o = some (.inr r):=by
 unfold join at h
 cases o with
 | none=>cases h
 | some v =>
  cases v with
  | inl x=>exact .inl ⟨x,rfl,h⟩
  | inr r'=>have:=yAA (show some r' = some r from h);subst this;exact .inr rfl
def cont_join {R:Type} {d:Nat} {ζ num s} {σ:Sig} {k2:St -> Option R} {r:R} {K:List Item} {k:Nat} (hk:B.k = k) (hp:Plain s) (x:σ.I) (h:k2 (zAp d σ x s) = some r)
  (hC:Cont P f N n0 Rp B d ζ num s k2 r K):Cont P f N n0 Rp B (d + 1) ζ num s (fun s'=>((pack k d σ s').map .inl:Option (σ.I ⊕ R))) (.inl x) K:=fun ζ' num' s' e' H' h1 h2 h3 h4=>by
 obtain ⟨ζ2,num2,H2,g1,g2,g3⟩:=unpack_sound hk (yAJ d) h2 h4 (map_inl h1)
 exact run_weak g1 (hC ζ2 num2 _ _ H2 h g2 (unpack_plain hp) g3)
end
end Go.T
namespace Go.T
open Go.Ab
variable [Go.Ab.DM]
section
variable {B:Base} {ζ ζ':Nat -> Row} {num num':Nat -> Nat} {s:St} {e:Env} {H H':Heap}
def gone_abs {d q:Nat} (ha:Abs B ζ num s e H) (hql:q < s.rows.length) (hmp:∀ a b l,zAA s.rows q ≠ .mp a b l) :
  Abs B ζ num (zCh q d .gone s) (zCn num (zCh q d .gone s)) H /\ Le d ζ num s ζ num (zCh q d .gone s) /\ WeakS e H (zCn num (zCh q d .gone s)) H:=by
 unfold zCh
 have hat:∀ r,zAA (setRow s.rows q d .gone) r = if r = q then .gone else zAA s.rows r:=fun r=>by rw [zDC];simp [hql]
 have hne:∀ r,r ≠ q -> zAA (setRow s.rows q d .gone) r = zAA s.rows r:=fun r h=>by rw [hat,if_neg h]
 have heq:zAA (setRow s.rows q d .gone) q = .gone:=by rw [hat,if_pos rfl]
 have hchg:∀ r,r < s.rows.length -> RefTl (num r) (zAA s.rows r) (num r) (zAA (setRow s.rows q d .gone) r):=fun r hr=>by
  by_cases h:r = q
  ·subst h;rw [heq];exact RefTl.gone _ _ _
  ·exact RefTl.of_eq rfl (hne r h)
 have hle:RowsLe s.rows (setRow s.rows q d .gone):=⟨by rw [zBv];exact yAJ _,fun r hr hl=>by
  by_cases h:r = q
  ·subst h;rw [heq] at hl;simp [zAS] at hl
  ·rw [hne r h] at hl ⊢;exact ⟨hl,rfl⟩⟩
 have cls:∀ r,zAW (zAA (setRow s.rows q d .gone) r) = true -> r ≠ q /\ zAW (zAA s.rows r) = true:=fun r hl=>by
  by_cases h:r = q
  ·subst h;rw [heq] at hl;simp [zAW] at hl
  ·rw [hne r h] at hl;exact ⟨h,hl⟩
 refine ⟨⟨rfl,⟨fun r=>?_,fun r z h1 h2 hrz=>ha.hrel.inj r z (cls r h1).2 (cls z h2).2 hrz,fun r t x h=>?_⟩,fun n ent h1 h2=>zCv hle _ _ (ha.ok n ent h1 h2),ha.gs,fun r hl=>ha.base r (cls r hl).2,ha.hlen,by show B.k <= (setRow _ _ _ _).length;rw [zBv];exact ha.klen,lens_le ha.lens ha.klen hle⟩,⟨fun n ent h _=>h,fun r lv h1 h2=>?_⟩,WeakS.env fun i=>?_⟩
 ·by_cases h:r = q
  ·subst h;show zCC _ _ _ _ _ (zAA (setRow _ _ _ _) _);rw [heq];trivial
  ·refine row_keep (ha.hrel.row r) (fun t x hx=>ha.hrel.ok r t x hx) (hne r h) rfl rfl (fun _=>rfl) (fun m a b l hm _=>?_) hchg
   have hmq:m ≠ q:=by intro hmq;subst hmq;exact hmp a b l hm
   exact ⟨by rw [hne m hmq];exact hm,rfl,rfl⟩
 ·have h:zAA (setRow s.rows q d .gone) r = .one t x:=h
  by_cases h':r = q
  ·subst h';rw [heq] at h;cases h
  ·rw [hne r h'] at h;exact zCv hle t x (ha.hrel.ok r t x h)
 ·have h1:zAU (setRow s.rows q d .gone) r = some lv:=h1
  rw [zBX] at h1
  by_cases h:r = q
  ·subst h;rw [if_pos ⟨rfl,hql⟩] at h1;have:=yAA h1;omega
  ·rw [if_neg (fun h'=>h h'.1)] at h1;exact ⟨h1,hne r h,rfl,rfl⟩
 ·rw [ha.env]
  unfold zCn
  dsimp only
  cases hf:zAm s.env i with
  | none=>exact Tl.any _
  | some ent =>
   simp only [entD]
   cases hh:zBB s.gs ent.c with
   | false=>exact Tl.refl _
   | true=>simp only [if_true];exact encV_chg hchg (ha.ok i ent hf hh)
def it_step {d q m:Nat} (ha:Abs B ζ num s e H) (hq:zAA s.rows q = .itb m \/ ∃ k v x y,zAA s.rows q = .ite m k v x y) {k v:Ty} {l:List (k.I × v.I)} {x:k.I} {y:v.I} {since:Nat} {seen:List Nat} {b:Nat} {es:MapD} {cl:Nat} {dv:D}
  (hm:zAA s.rows m = .mp k v l) (hes:H.get (num m) = some (.mp es cl)) (hfind:es.find? (fun p=>p.1 == b) = some (b,keyV k x,dv)) (he0:e0 k x = .v (keyV k x)) (hkp:k.pure = true) (htl:Tl dv (e0 v y)) :
  Step B d ζ num s e (.tup [.v (.bool true),.v (keyV k x),dv]) (H.set (num q) (some (.it (num m) since (seen ++ [b]) cl))) (tupV [⟨.tt,()⟩,⟨k,x⟩,⟨v,y⟩]) (zCh q d (.ite m k v x y) s) (updN ζ q (.it (num m) since (seen ++ [b]) cl)) num (H.set (num q) (some (.it (num m) since (seen ++ [b]) cl))):=by
 have hql:q < s.rows.length:=zAw (by rcases hq with h | ⟨_,_,_,_,h⟩ <;> rw [h] <;> simp)
 have hl0:zAW (zAA s.rows q) = true:=by rcases hq with h | ⟨_,_,_,_,h⟩ <;> rw [h] <;> rfl
 have hlm:zAW (zAA s.rows m) = true:=by rw [hm];rfl
 have hqm:m ≠ q:=by intro h;subst h;rcases hq with h | ⟨_,_,_,_,h⟩ <;> rw [hm] at h <;> cases h
 have hvp:v.pure = true:=by have:=ha.hrel.row m;rw [hm] at this;exact this.2.1
 have hgl:=live_lt ha.hrel hl0
 refine set_stepZ ha hql (SameRel.refl _) hl0 ⟨by rw [Heap.get_set H hgl,if_pos rfl,zBj],⟨k,v,l,by rw [zCi hqm];exact hm⟩,hkp,hvp,since,seen,b,es,cl,dv,?_,zBj _ _ _,hfind,he0,htl⟩ ?_ (fun h=>by simp [zAS] at h) (fun t x h=>by cases h)
  (fun a b l h=>by rcases hq with h' | ⟨_,_,_,_,h'⟩ <;> rw [h] at h' <;> cases h') ?_ ?_
 ·rw [Heap.get_set H hgl,if_neg (ha.hrel.inj m q hlm hl0 hqm)];exact hes
 ·rcases hq with h | ⟨_,_,_,_,h⟩ <;> rw [h] <;> exact ⟨Tl.refl _,fun _=>Tl.refl _,fun _=>Tl.refl _,fun _ _=>Tl.refl _,Tl.refl _⟩
 ·rw [enc_tup]
  refine Tl.tup (.cons (Tl.refl _) (.cons (Tl.of_eq ?_) (.cons ?_ .nil)))
  ·rw [<- he0];show (E k _ x).1 = (E k _ x).1;rw [E_pure k hkp]
  ·have:enc (zAB num (setRow s.rows q d (.ite m k v x y))) ⟨v,y⟩ = e0 v y:=by show (E v _ y).1 = (E v _ y).1;rw [E_pure v hvp]
   rw [this];exact htl
 ·exact ok_tup _ fun u hu=>by
   simp only [yAE,yAf,or_false] at hu
   rcases hu with rfl | rfl | rfl
   ·trivial
   ·exact zCR k x hkp
   ·exact zCR v y hvp
def rowIn_none:∀ {l:List (Nat × RTy)} {r:Nat} (vs:List TV),zBR l r = none -> rowIn (zBc l vs) r = none
 | [],r,vs,h=>rfl
 | (q,e) :: l,r,vs,h=>by
  simp only [zBR] at h
  cases hb:Nat.beq q r with
  | true=>rw [hb] at h;cases h
  | false =>
   rw [hb,cond_false] at h
   simp only [zBc]
   cases e.dat.triv with
   | true=>simp only [cond_true,rowIn,hb,cond_false];exact rowIn_none vs h
   | false =>
    simp only [cond_false]
    cases vs with
    | nil=>rfl
    | cons v vs=>simp only [rowIn,hb,cond_false];exact rowIn_none vs h
def newRows_ne {dl d r:Nat} {x:TRow} {l:List (Nat × TRow)} {base:Rows}:∀ (n i:Nat),r < i -> zBs dl l (setRow base r d x) i n = zBs dl l base i n
 | 0,i,h=>rfl
 | n + 1,i,h=>by
  simp only [zBs]
  rw [newRows_ne n (i + 1) (by omega),zBX,zDC,if_neg (by omega),if_neg (by omega)]
def newRows_set {dl d r:Nat} {x:TRow} {l:List (Nat × TRow)} {base:Rows} (hb:r < base.length) (hl:rowIn l r = none):∀ (n i:Nat),i <= r -> r < i + n -> zBs dl l (setRow base r d x) i n = setRow (zBs dl l base i n) (r - i) d x
 | 0,i,h,h'=>by omega
 | n + 1,i,h,h'=>by
  by_cases hri:r = i
  ·subst hri
   rw [Nat.sub_self]
   simp only [zBs,setRow]
   rw [newRows_ne n (r + 1) (Nat.lt_succ_self r),hl,zBX,zDC,if_pos ⟨rfl,hb⟩,if_pos ⟨rfl,hb⟩]
  ·obtain ⟨k,hk⟩:∃ k,r - i = k + 1:=⟨r - i - 1,by omega⟩
   rw [hk]
   simp only [zBs,setRow]
   rw [newRows_set hb hl n (i + 1) (by omega) (by omega),show r - (i + 1) = k by omega,zBX,zDC,if_neg (by omega),if_neg (by omega)]
def unpack_set {dl d r:Nat} {row:TRow} {σ:Sig} {x:σ.I} (hl:zBR σ.rows r = none) (hr:r < σ.n) (hb:r < s.rows.length):zAp dl σ x (zCh r d row s) = zCh r d row (zAp dl σ x s):=by
 unfold zAp zCh
 dsimp only
 rw [newRows_set hb (rowIn_none _ hl) σ.n 0 (Nat.zero_le _) (by omega),Nat.sub_zero]
def stamp_lt:∀ (rows:Rows) (r:Nat),r < rows.length -> ∃ lv,zAU rows r = some lv
 | [],r,h=>absurd h (yAr _)
 | p :: rows,0,h=>⟨_,rfl⟩
 | p :: rows,r + 1,h=>stamp_lt rows r (Nat.lt_of_succ_lt_succ h)
def unpack_keep {dl r:Nat} {σ:Sig} {x:σ.I} (hl:zBR σ.rows r = none) (hr:r < σ.n) (hb:r < s.rows.length):zAA (zAp dl σ x s).rows r = zAA s.rows r /\ zAU (zAp dl σ x s).rows r = zAU s.rows r:=by
 have key:∀ (n i:Nat) (l:List (Nat × TRow)),rowIn l r = none -> i <= r -> r < i + n -> zAA (zBs dl l s.rows i n) (r - i) = zAA s.rows r /\ zAU (zBs dl l s.rows i n) (r - i) = zAU s.rows r:=by
  intro n
  induction n with
  | zero=>intro i l _ h h';omega
  | succ n ih =>
   intro i l hl h h'
   by_cases hri:r = i
   ·subst hri
    rw [Nat.sub_self]
    simp only [zBs,hl]
    obtain ⟨lv,h1⟩:=stamp_lt s.rows r hb
    rw [h1]
    exact ⟨rfl,rfl⟩
   ·obtain ⟨k,hk⟩:∃ k,r - i = k + 1:=⟨r - i - 1,by omega⟩
    rw [hk]
    simp only [zBs,zAA,zAU]
    have:=ih (i + 1) l hl (by omega) (by omega)
    rw [show r - (i + 1) = k by omega] at this
    exact this
 have:=key σ.n 0 (zBc σ.rows (zBz (σ.slots.map (·.2)) (zAK (zAY σ.tys) x)).2) (rowIn_none _ hl) (Nat.zero_le _) (by omega)
 rw [Nat.sub_zero] at this
 exact this
def pack_kept {k d:Nat} {σ:Sig} {x:σ.I} (h:pack k d σ s = some x) {r:Nat} (hr:r < σ.n) (hl:zBR σ.rows r = none):∃ lv,zAU s.rows r = some lv /\ lv <= d:=by
 unfold pack at h
 split at h
 rotate_left
 ·cases h
 dsimp only at h
 obtain ⟨hb,h⟩:=zAa h
 simp only [yAB] at hb
 obtain ⟨⟨⟨⟨⟨⟨⟨⟨⟨hkeep,hrows⟩,hinj⟩,hbelow⟩,hkb⟩,hsb⟩,hrb⟩,hkr⟩,hkn⟩,hrho⟩:=hb
 obtain ⟨lv,h1,h2⟩:=rowsOk_at hrows r hr hl
 rcases stampAt_freeze _ _ s.rows 0 r lv h1 with h3 | h3
 ·omega
 ·exact ⟨lv,h3.1,h2⟩
def keepE_find {env:List Ent} {n:Nat} {ent:Ent} (hf:zAm env n = some ent):∀ {l:List Nat},n ∈ l -> zAm (keepE env l) n = some ent
 | m :: l,h=>by
  simp only [keepE]
  by_cases hmn:m = n
  ·subst hmn
   rw [hf]
   simp only [zAm]
   rw [findE_s hf,Nat.beq_refl];rfl
  ·have hl:n ∈ l:=by rcases yAE.1 h with h | h;exact absurd h.symm hmn;exact h
   cases hm:zAm env m with
   | none=>exact keepE_find hf hl
   | some e0 =>
    simp only [zAm]
    have:Nat.beq e0.s n = false:=by
     rw [findE_s hm]
     cases hb:Nat.beq m n with
     | true=>rw [yAP] at hb;exact absurd hb hmn
     | false=>rfl
    rw [this,cond_false];exact keepE_find hf hl
def slotE_none {dl n:Nat}:∀ {l:List (Nat × Ty)} (us:List TV),(∀ p ∈ l,p.1 ≠ n) -> zAm (slotE dl l us) n = none
 | [],us,h=>rfl
 | (m,t) :: l,us,h=>by
  cases us with
  | nil=>rfl
  | cons u us =>
   simp only [slotE,zAm]
   have:Nat.beq m n = false:=by
    cases hb:Nat.beq m n with
    | true=>rw [yAP] at hb;exact absurd hb (h (m,t) (yAN ..))
    | false=>rfl
   rw [this,cond_false];exact slotE_none us fun p hp=>h p (yAF _ hp)
def unpack_find {dl n:Nat} {σ:Sig} {x:σ.I} {ent:Ent} (hf:zAm s.env n = some ent) (hk:n ∈ σ.keep) (hs:∀ p ∈ σ.slots,p.1 ≠ n):zAm (zAp dl σ x s).env n = some ent:=by
 show zAm (slotE _ _ _ ++ keepE _ _) n = _
 rw [findE_app,slotE_none _ hs]
 exact keepE_find hf hk
end
def perm_pick {α:Type} (f:α -> Nat):∀ (A:List α),(A.map f).Nodup -> ∀ a ∈ A,(a :: A.filter fun x=>!(f x == f a)).Perm A
 | [],_,a,h=>by cases h
 | b :: A,hn,a,h=>by
  simp only [yAL,List.nodup_cons] at hn
  rcases yAE.1 h with rfl | h
  ·have:(a :: A).filter (fun x=>!(f x == f a)) = A:=by
    rw [yAp (by simp)]
    refine List.filter_eq_self.2 fun x hx=>?_
    have:f x ≠ f a:=fun h=>hn.1 (h ▸ yAg hx)
    simp [this]
   rw [this]
  ·have hba:f b ≠ f a:=fun h'=>hn.1 (h' ▸ yAg h)
   rw [yAo (by simp [hba])]
   exact (List.Perm.swap b a _).trans ((perm_pick f A hn.2 a h).cons b)
def find_born:∀ {es:MapD} {p:Nat × Value × D},(es.map (·.1)).Nodup -> p ∈ es -> es.find? (fun q=>q.1 == p.1) = some p
 | [],p,_,h=>by cases h
 | q :: es,p,hn,h=>by
  simp only [yAL,List.nodup_cons] at hn
  rcases yAE.1 h with rfl | h
  ·simp
  ·have:q.1 ≠ p.1:=fun h'=>hn.1 (h' ▸ yAg h)
   rw [List.find?_cons_of_neg (by simp [this])]
   exact find_born hn.2 h
def mrange_some {A S E:Type} {l:List A} {Bd:A -> S -> Option (S ⊕ E)} {Nd:S -> Option (S ⊕ E)} {s:S} {r:E} (h:mrange l Bd Nd s = some r):∀ l',l'.Perm l -> foldM Bd Nd l' s = some r:=by
 unfold mrange at h
 split at h
 ·rename_i hx
  have h2:=yBB hx
  rw [yAA h] at h2
  exact h2
 ·cases h
def key_e0 {k:Ty} (h:(keq k).isSome = true) (x:k.I):e0 k x = .v (keyV k x):=by
 cases k <;> first | (simp [keq] at h;done) | rfl
def key_pure {k:Ty} (h:(keq k).isSome = true):k.pure = true:=by
 cases k <;> first | (simp [keq] at h;done) | rfl
section
variable {P:Program} {Γ:List Con} {B:Base} {f:FuncId} {N n0:Nat} {Rp:D -> Heap -> Prop}
def SoundAt (P:Program) (Γ:List Con) (B:Base) (f:FuncId) (N n0:Nat) (Rp:D -> Heap -> Prop) (c:Code):Prop :=
 ∀ {R:Type} (h:Hint) (cx:Cx R) (k:St -> Option R) (s:St) (r:R) (ζ:Nat -> Row) (num:Nat -> Nat) (e:Env) (H:Heap) (K:List Item),wf N c h = true -> B.k = cx.k -> Abs B ζ num s e H -> Plain s -> trun P Γ c h cx k s = some r ->
  Cont P f N n0 Rp B cx.d ζ num s k r K -> Outs P f N n0 Rp B ζ num s cx r K -> Run P f N n0 Rp (.code c :: K) e H
def Outs.innerMR {ζ num s ζ1 num1 s1} {R S:Type} {q:Nat} {cx:Cx R} {r:R} {K:List Item} (h:Outs P f N n0 Rp B ζ num s cx r K) (hle:Le cx.d ζ num s ζ1 num1 s1):Outs P f N n0 Rp B ζ1 num1 s1 (cx.innerM S q) (.inr r) K:=by
 have go:∀ (k0:St -> Option R) (K':List Item),Cont P f N n0 Rp B cx.d ζ num s k0 r K' -> Cont P f N n0 Rp B (cx.d + 1) ζ1 num1 s1 (fun s'=>upR S (dropK q (cx.d + 1) k0) s') (.inr r) K':=fun k0 K' hC ζ' num' s' e' H' h5 h6 h7 h8=>by
  have h9:=upR_inr h5
  obtain ⟨h9,hmp⟩:k0 (zCh q (cx.d + 1) .gone s') = some r /\ ∀ a b l,zAA s'.rows q ≠ .mp a b l:=by
   unfold dropK at h9
   split at h9
   ·cases h9
   ·rename_i hne;exact ⟨h9,fun a b l h=>hne a b l h⟩
  have hle':Le cx.d ζ num s ζ' num' s':=hle.trans (h8.mono (yBG _))
  by_cases hql:q < s'.rows.length
  ·obtain ⟨g1,g2,g3⟩:=gone_abs (d:=cx.d + 1) h6 hql hmp
   exact run_weak g3 (hC ζ' num' _ _ H' h9 g1 ⟨h7.gs,h7.c⟩ (hle'.trans (g2.mono (yBG _))))
  ·have hs:zCh q (cx.d + 1) .gone s' = s':=by
    unfold zCh
    have:∀ (rows:Rows) (q:Nat),¬ q < rows.length -> setRow rows q (cx.d + 1) .gone = rows:=by
     intro rows
     induction rows with
     | nil=>intro q _;rfl
     | cons p rows ih=>intro q h;cases q with
      | zero=>simp at h
      | succ q=>simp only [setRow];rw [ih q (by simpa using h)]
    rw [this _ _ hql]
   rw [hs] at h9
   exact hC ζ' num' s' e' H' h9 h6 h7 hle'
 exact ⟨fun i k' hk=>by
  obtain ⟨k0,h1,h2⟩:=getX_map hk
  obtain ⟨K',h3,h4⟩:=h.ex i k0 h1
  subst h2
  exact ⟨K',h3,go k0 K' h4⟩,fun K'=>go cx.ret _ (h.ret K')⟩
def Outs.innerML {ζ num s ζ1 num1 s1} {R S:Type} {q:Nat} {cx:Cx R} {r:R} {x:S} {K:List Item} (h:Outs P f N n0 Rp B ζ num s cx r K):Outs P f N n0 Rp B ζ1 num1 s1 (cx.innerM S q) (.inl x) K :=
 ⟨fun i k' hk=>by
   obtain ⟨k0,h1,h2⟩:=getX_map hk
   obtain ⟨K',h3,h4⟩:=h.ex i k0 h1
   refine ⟨K',h3,fun ζ' num' s' e' H' h5 h6 h7 h8=>?_⟩
   subst h2
   exact (upR_inl h5).elim,
  fun K' ζ' num' s' e' H' h5 h6 h7 h8=>(upR_inl h5).elim⟩
def run_breg' {id:Nat} {ops:Array Oper} {l:List Oper} {e:Env} {H:Heap} {K:List Item} (hl:ops.toList = l) (h:bops P N l.toArray (l.map fun o=>(zAF o,o)) e H fun e' H'=>Run P f N n0 Rp K e' H'):Run P f N n0 Rp (.code (.region id ops false) :: K) e H:=by
 have:ops = l.toArray:=by rw [<- hl]
 subst this
 exact run_breg h
def lm_sound (hΓ:∀ c ∈ Γ,zAl P c) {σ:Sig} {r m:Nat} {kt vt:Ty} {l:List (kt.I × vt.I)} {id:Nat} {ops:Array Oper} {rest:Code} {o:Oper} {os:List Oper} {hb:Hint} {R:Type} {cx:Cx R} {s:St} {res:R} {ζ:Nat -> Row} {num:Nat -> Nat} {e:Env} {H:Heap} {K:List Item} {x0:σ.I}
  (hrest:SoundAt P Γ B f N n0 Rp rest) (hw1:ops.toList.all (okOp N ops.toList) = true) (hw2:wf N rest hb = true) (hk:B.k = cx.k) (ha:Abs B ζ num s e H) (hp:Plain s)
  (hr:zAA s.rows r = .itb m) (hm:zAA s.rows m = .mp kt vt l) (hl:zBR σ.rows r = none) (hlm:zBR σ.rows m = none) (hops:ops.toList = o :: os) (hrn:r < σ.n) (hmn:m < σ.n) (hnext:isNext s.env σ r o = true) (hx0:pack cx.k cx.d σ s = some x0)
  (hmr:mrange l
          (fun p x=>match put (cx.d + 1) o.dst [] (tupV [⟨.tt,()⟩,⟨kt,p.1⟩,⟨vt,p.2⟩]) (zCh r cx.d (.ite m kt vt p.1 p.2) (zAp (cx.d + 1) σ x s)) with
           | some u=>opsT P Γ false (cx.d + 1) (o :: os) os u fun s1=>trun P Γ rest hb (cx.innerM σ.I r) (fun s'=>(pack cx.k cx.d σ s').map .inl) s1
           | none=>none)
          (fun x=>match put (cx.d + 1) o.dst [] (tupV [⟨.ff,()⟩]) (zCh r cx.d .gone (zAp (cx.d + 1) σ x s)) with
           | some u=>opsT P Γ false (cx.d + 1) (o :: os) os u fun s1=>trun P Γ rest hb (cx.innerM σ.I r) (fun _=>none) s1
           | none=>none) x0 = some res)
  (hO:Outs P f N n0 Rp B ζ num s cx res K):Run P f N n0 Rp (.code (.seq (.region id ops false) rest) :: .inLoop (.seq (.region id ops false) rest) :: K) e H:=by
 have hrl:r < s.rows.length:=zAw (by rw [hr];simp)
 have hml:m < s.rows.length:=zAw (by rw [hm];simp)
 obtain ⟨lvr,hsr,hsrd⟩:=pack_kept hx0 hrn hl
 obtain ⟨lvm,hsm,hsmd⟩:=pack_kept hx0 hmn hlm
 have hRm:=ha.hrel.row m
 rw [hm] at hRm
 obtain ⟨hke,hvp,es',cl',⟨hes',hζm⟩,hk1,hv1,hlt,hnd⟩:=hRm
 have hkp:=key_pure hke
 have hRr:=ha.hrel.row r
 rw [hr] at hRr
 obtain ⟨hgr,_,es,cl,hes,hζr⟩:=hRr
 rw [hes] at hes'
 obtain ⟨rfl,rfl⟩:es = es' /\ cl = cl':=by have:=yAA hes';simp only [Row.mp.injEq] at this;exact this
 clear hes'
 obtain ⟨dst,op,oty,pos,after,guard⟩:=o
 unfold isNext at hnext
 split at hnext
 rotate_left
 ·cases hnext
 rename_i t hop hgu
 have hop:op = .next (.tmp t) false:=hop
 have hgu:guard = none:=hgu
 subst hop hgu
 split at hnext
 rotate_left
 ·cases hnext
 rename_i e1s e1l q yq hft
 simp only [yAB,yAP] at hnext
 obtain ⟨⟨rfl,hkt⟩,hst⟩:=hnext
 have hkt:t ∈ σ.keep:=by
  obtain ⟨z,h1,h2⟩:=yBQ.1 hkt
  rw [yAP] at h2;exact h2 ▸ h1
 have hst:∀ p ∈ σ.slots,p.1 ≠ t:=fun p hp hpt=>by
  have:(σ.slots.any fun p=>Nat.beq p.1 t) = true:=yBQ.2 ⟨p,hp,by rw [hpt];exact Nat.beq_refl t⟩
  rw [this] at hst;cases hst
 have hw1':∀ o' ∈ ops.toList,okOp N ops.toList o' = true:=yAR.1 hw1
 have hdst:dstOk N dst:=by
  have:=hw1' _ (by rw [hops];exact yAN ..)
  simp only [okOp,yAB] at this
  exact dstB_ok this.1
 have hfold:=mrange_some hmr
 generalize hBd:(fun (p:kt.I × vt.I) (x:σ.I)=>(match put (cx.d + 1) dst [] (tupV [⟨.tt,()⟩,⟨kt,p.1⟩,⟨vt,p.2⟩]) (zCh q cx.d (.ite m kt vt p.1 p.2) (zAp (cx.d + 1) σ x s)) with
               | some u=>opsT P Γ false (cx.d + 1) (⟨dst,.next (.tmp t) false,oty,pos,after,none⟩ :: os) os u fun s1=>trun P Γ rest hb (cx.innerM σ.I q) (fun s'=>(pack cx.k cx.d σ s').map .inl) s1
               | none=>none:Option (σ.I ⊕ R))) = Bd at hfold
 generalize hNd:(fun (x:σ.I)=>(match put (cx.d + 1) dst [] (tupV [⟨.ff,()⟩]) (zCh q cx.d .gone (zAp (cx.d + 1) σ x s)) with
               | some u=>opsT P Γ false (cx.d + 1) (⟨dst,.next (.tmp t) false,oty,pos,after,none⟩ :: os) os u fun s1=>trun P Γ rest hb (cx.innerM σ.I q) (fun _=>none) s1
               | none=>none:Option (σ.I ⊕ R))) = Nd at hfold
 have hlen:es.length = l.length:=by have:=congrArg List.length hk1;simpa using this
 let left:List Nat -> List ((Nat × Value × D) × (kt.I × vt.I)):=fun seen=>(es.zip l).filter fun z=>!seen.contains z.1.1
 have hleft:∀ seen,leftM es seen = (left seen).map (·.1):=fun seen=>by
  show es.filter _ = ((es.zip l).filter _).map _
  have:∀ (es:MapD) (l:List (kt.I × vt.I)),es.length = l.length -> (es.filter fun p=>!seen.contains p.1) = ((es.zip l).filter fun z=>!seen.contains z.1.1).map (·.1):=by
   intro es
   induction es with
   | nil=>intro l _;simp
   | cons a es ih =>
    intro l hl
    cases l with
    | nil=>simp at hl
    | cons b l =>
     simp only [List.zip_cons_cons,List.filter_cons]
     rw [ih l (by simpa using hl)]
     split <;> rfl
  exact this es l hlen
 have hnodup:((es.zip l).map (fun z=>z.1.1)).Nodup:=by
  have:(es.zip l).map (fun z=>z.1.1) = es.map (·.1):=by
   have h:((es.zip l).map (·.1)) = es:=by rw [List.map_fst_zip];omega
   rw [<- h,yBO,h];rfl
  rw [this];exact hnd
 have hzip:∀ z ∈ es.zip l,z.1 ∈ es /\ z.1.2.1 = keyV kt z.2.1 /\ Tl z.1.2.2 (e0 vt z.2.2):=fun z hz=>by
  refine ⟨(List.of_mem_zip hz).1,?_,?_⟩
  ·have:∀ (es:MapD) (l:List (kt.I × vt.I)),es.map (·.2.1) = l.map (fun p=>keyV kt p.1) -> ∀ z ∈ es.zip l,z.1.2.1 = keyV kt z.2.1:=by
    intro es
    induction es with
    | nil=>intro l _ z hz;simp at hz
    | cons a es ih =>
     intro l h z hz
     cases l with
     | nil=>simp at hz
     | cons b l =>
      simp only [yAL,yAq] at h
      rcases yAE.1 (by simpa using hz) with rfl | hz
      ·exact h.1
      ·exact ih l h.2 z hz
   exact this es l hk1 z hz
  ·have:∀ (es:MapD) (l:List (kt.I × vt.I)),Tls (es.map (·.2.2)) (l.map fun p=>e0 vt p.2) -> ∀ z ∈ es.zip l,Tl z.1.2.2 (e0 vt z.2.2):=by
    intro es
    induction es with
    | nil=>intro l _ z hz;simp at hz
    | cons a es ih =>
     intro l h z hz
     cases l with
     | nil=>simp at hz
     | cons b l =>
      simp only [yAL] at h
      cases h with
      | cons h1 h2 =>
       rcases yAE.1 (by simpa using hz) with rfl | hz
       ·exact h1
       ·exact ih l h2 z hz
   exact this es l hv1 z hz
 have main:∀ (n:Nat) (seen:List Nat) (sb:St) (ζb:Nat -> Row) (x:σ.I) (ζ1:Nat -> Row) (num1:Nat -> Nat) (H1:Heap),(left seen).length = n -> sb.gs = s.gs -> sb.env = s.env -> sb.rows.length = s.rows.length -> (∀ row,zCh q cx.d row sb = zCh q cx.d row s) -> zAA sb.rows m = .mp kt vt l -> zAU sb.rows m = some lvm ->
     (zAA sb.rows q = .itb m \/ ∃ k v x y,zAA sb.rows q = .ite m k v x y) -> (∃ lv,zAU sb.rows q = some lv /\ lv <= cx.d) -> ζb m = .mp es cl -> ζb q = .it (num m) cl seen cl -> Le cx.d ζ num s ζb num sb ->
     Abs B ζ1 num1 (zAp (cx.d + 1) σ x sb) (zCn num1 (zAp (cx.d + 1) σ x sb)) H1 -> Le (cx.d + 1) ζb num sb ζ1 num1 (zAp (cx.d + 1) σ x sb) -> (∀ L,L.Perm ((left seen).map (·.2)) -> foldM Bd Nd L x = some res) ->
     Run P f N n0 Rp (.code (.seq (.region id ops false) rest) :: .inLoop (.seq (.region id ops false) rest) :: K) (zCn num1 (zAp (cx.d + 1) σ x sb)) H1:=by
  intro n
  induction n using Nat.strongRecOn with
  | _ n ihn =>
  intro seen sb ζb x ζ1 num1 H1 hn hgsb henv hlenb hset hmb hsmb hqb hsqb hζbm hζbq hLeb hab hle1 hperm
  obtain ⟨lvq,hsq1,hsq2⟩:=hsqb
  have hqlb:q < sb.rows.length:=by rw [hlenb];exact hrl
  have hmlb:m < sb.rows.length:=by rw [hlenb];exact hml
  obtain ⟨hq1,hq2⟩:=unpack_keep (dl:=cx.d + 1) (x:=x) hl hrn hqlb
  obtain ⟨hm1,hm2⟩:=unpack_keep (dl:=cx.d + 1) (x:=x) hlm hmn hmlb
  obtain ⟨_,hq3,hq4,hq5⟩:=hle1.rows q lvq (by rw [hq2];exact hsq1) (by omega)
  obtain ⟨_,hm3,hm4,hm5⟩:=hle1.rows m lvm (by rw [hm2];exact hsmb) (by omega)
  have hqx:zAA (zAp (cx.d + 1) σ x sb).rows q = .itb m \/ ∃ k v x' y,zAA (zAp (cx.d + 1) σ x sb).rows q = .ite m k v x' y:=by rw [hq1];exact hqb
  have hmx:zAA (zAp (cx.d + 1) σ x sb).rows m = .mp kt vt l:=by rw [hm1];exact hmb
  have hqlx:q < (zAp (cx.d + 1) σ x sb).rows.length:=zAw (by rcases hqx with h | ⟨_,_,_,_,h⟩ <;> rw [h] <;> simp)
  have hg1m:H1.get (num1 m) = some (.mp es cl):=by
   have h:=hab.hrel.row m
   rw [hmx] at h
   obtain ⟨_,_,es2,cl2,⟨g1,g2⟩,_⟩:=h
   rw [hm5,hζbm] at g2
   rw [g1,<- g2]
  have hg1q:H1.get (num1 q) = some (.it (num m) cl seen cl):=by
   have h:=hab.hrel.row q
   rcases hqx with h' | ⟨_,_,_,_,h'⟩ <;> rw [h'] at h <;> rw [h.1,hq5,hζbq]
  have hnm:num1 m = num m:=hm4
  have hnq:num1 q = num q:=hq4
  have hplain:Plain (zAp (cx.d + 1) σ x sb):=unpack_plain ⟨by rw [hgsb];exact hp.gs,fun n ent hf=>hp.c n ent (by rw [<- henv];exact hf)⟩
  have hset':∀ row,zCh q cx.d row (zAp (cx.d + 1) σ x s) = zCh q cx.d row (zAp (cx.d + 1) σ x sb):=fun row=>by
   rw [<- unpack_set hl hrn hrl,<- hset row,unpack_set hl hrn hqlb]
  have hev:zCn num1 (zAp (cx.d + 1) σ x sb) t = .pt (num q) 0 0:=by
   unfold zCn
   rw [unpack_find (by rw [henv];exact hft) hkt hst]
   show p0D (num1 q) 0 (zAA (zAp (cx.d + 1) σ x sb).rows q) = _
   rw [hnq]
   rcases hqx with h' | ⟨_,_,_,_,h'⟩ <;> rw [h'] <;> rfl
  have hqm:m ≠ q:=by intro h;rw [h] at hmb;rcases hqb with h' | ⟨_,_,_,_,h'⟩ <;> rw [hmb] at h' <;> cases h'
  have hQw:∀ e H e' H',WeakS e H e' H' -> Run P f N n0 Rp (.code rest :: .inLoop (.seq (.region id ops false) rest) :: K) e' H' -> Run P f N n0 Rp (.code rest :: .inLoop (.seq (.region id ops false) rest) :: K) e H:=fun e H e' H' hw h=>run_weak hw h
  have hOl:∀ {R':Type} {cx':Cx R'} {r':R'} {ζ1 num1 s1},Outs P f N n0 Rp B ζ1 num1 s1 cx' r' K -> Outs P f N n0 Rp B ζ1 num1 s1 cx' r' (.inLoop (.seq (.region id ops false) rest) :: K):=fun h=>⟨fun i k' hk'=>h.ex i k' hk',h.ret⟩
  have hos:∀ o' ∈ os,okOp N (⟨dst,.next (.tmp t) false,oty,pos,after,none⟩ :: os) o' = true:=fun o' ho=>by
   have:=hw1' o' (by rw [hops];exact yAF _ ho)
   rw [hops] at this;exact this
  have hmpx:∀ a b l',zAA (zAp (cx.d + 1) σ x sb).rows q ≠ .mp a b l':=fun a b l' h=>by
   rcases hqx with h' | ⟨_,_,_,_,h'⟩ <;> rw [h] at h' <;> cases h'
  refine run_seq (run_breg' hops ?_)
  simp only [yAL,bops]
  refine ⟨zCn num1 (zAp (cx.d + 1) σ x sb),H1,WeakS.refl _ _,hdst,?_⟩
  suffices hN:aNext false (ev (zCn num1 (zAp (cx.d + 1) σ x sb)) (.tmp t)) H1 (fun d H'=>bops P N (⟨dst,.next (.tmp t) false,oty,pos,after,none⟩ :: os).toArray (os.map fun o=>(zAF o,o)) (updO (zCn num1 (zAp (cx.d + 1) σ x sb)) dst d) H' fun e' H'=>Run P f N n0 Rp (.code rest :: .inLoop (.seq (.region id ops false) rest) :: K) e' H') from hN
  rw [show ev (zCn num1 (zAp (cx.d + 1) σ x sb)) (.tmp t) = .pt (num q) 0 0 from hev]
  rw [hnq] at hg1q
  rw [hnm] at hg1m
  unfold aNext
  simp only [hg1q,hg1m]
  have hlts:∀ p ∈ es,decide (p.1 < cl) = true:=fun p hp=>decide_eq_true (hlt p hp)
  refine ⟨⟨?_,yAR.2 fun p hp=>hlts p (List.mem_filter.1 hp).1⟩,fun hnil=>?_,fun p hpl=>?_⟩
  ·cases hes0:es with
   | nil=>simp
   | cons p es=>have:=hlts p (by rw [hes0];exact yAN ..);simp at this;simp [this]
  ·-- no entry is left
   rw [hleft] at hnil
   have hnil:left seen = []:=List.map_eq_nil_iff.1 hnil
   have hfo:=hperm [] (by rw [hnil];exact .refl _)
   simp only [foldM] at hfo
   split at hfo
   rotate_left
   ·cases hfo
   rename_i r' hN
   have:=yAA hfo;subst this
   rw [<- hNd] at hN
   dsimp only at hN
   rw [hset'] at hN
   split at hN
   rotate_left
   ·cases hN
   rename_i u hput
   obtain ⟨g1,g2,g3⟩:=gone_abs (d:=cx.d) hab hqlx hmpx
   have hgok:GOk (cx.d + 1) (zCh q cx.d .gone (zAp (cx.d + 1) σ x sb)):=(show Plain (zCh _ _ _ (zAp (cx.d + 1) σ x sb)) from ⟨hplain.gs,hplain.c⟩).gok _
   obtain ⟨k1,k2,k3,k4⟩:=put_sound (d:=cx.d + 1) (e1:=zCn num1 (zAp (cx.d + 1) σ x sb)) (dd:=.tup [.v (.bool false)]) (H':=H1) g1 hgok hput (fun _=>ok_tup _ fun u hu=>by
       simp only [yAE,yAf,or_false] at hu
       subst hu;trivial) (fun p hp=>by cases hp) fun own X w hs=>by
    obtain ⟨j1,j2,j3⟩:=g3 own X w hs
    refine ⟨j1,j2,j3,fun y hy=>?_⟩
    rw [if_pos (show zBB _ [] = true from rfl),enc_tup]
    exact hy
   refine bops_weak hQw k1 (opsT_sound (d:=cx.d + 1) hΓ hQw os ζ1 num1 u _ H1 k2 k3 hos hN fun ζ' num' s' H' h1 h2 h3 h4=>?_)
   have hle':Le cx.d ζ num s ζ' num' s':=(hLeb.trans (hle1.mono (yBG _))).trans (g2.trans ((k4.mono (yBG _)).trans (h4.mono (yBG _))))
   exact hrest hb (cx.innerM σ.I q) _ s' _ ζ' num' _ H' _ hw2 hk h2 h3 h1 (fun ζ'' num'' s'' e'' H'' j1 _ _ _=>by cases j1) (hOl (hO.innerMR hle'))
  ·-- an entry
   rw [hleft] at hpl
   obtain ⟨z,hz,rfl⟩:=yBC.1 hpl
   have hz':z ∈ es.zip l:=(List.mem_filter.1 hz).1
   obtain ⟨hz1,hz2,hz3⟩:=hzip z hz'
   have hfind:es.find? (fun p=>p.1 == z.1.1) = some (z.1.1,keyV kt z.2.1,z.1.2.2):=by
    rw [find_born hnd hz1,<- hz2]
   have hst1:=it_step (d:=cx.d) (since:=cl) (seen:=seen) hab hqx hmx (by rw [hnm];exact hg1m) hfind (key_e0 hke z.2.1) hkp hz3
   rw [hnq,hnm] at hst1
   have hstamp:∀ row,zAU (zCh q cx.d row sb).rows q = some cx.d:=fun row=>by show zAU (setRow _ _ _ _) _ = _;rw [zBX,if_pos ⟨rfl,hqlb⟩]
   have hrowq:∀ row,zAA (zCh q cx.d row sb).rows q = row:=fun row=>rowAt_seteq hqlb
   have hrowne:∀ row r',r' ≠ q -> zAA (zCh q cx.d row sb).rows r' = zAA sb.rows r' /\ zAU (zCh q cx.d row sb).rows r' = zAU sb.rows r':=fun row r' h=>⟨zCi h,by show zAU (setRow _ _ _ _) _ = _;rw [zBX,if_neg (fun h'=>h h'.1)]⟩
   have hLep:Le cx.d ζ num s (updN ζb q (.it (num m) cl (seen ++ [z.1.1]) cl)) num (zCh q cx.d (.ite m kt vt z.2.1 z.2.2) sb):=hLeb.trans ⟨fun n ent h _=>h,fun r' lv h1 h2=>by
    by_cases hr':r' = q
    ·subst hr';rw [hstamp] at h1;have:=yAA h1;omega
    ·obtain ⟨j1,j2⟩:=hrowne (.ite m kt vt z.2.1 z.2.2) r' hr'
     rw [j2] at h1
     exact ⟨h1,j1,rfl,updN_ne hr'⟩⟩
   have hLe1:Le (cx.d + 1) (updN ζb q (.it (num m) cl (seen ++ [z.1.1]) cl)) num (zCh q cx.d (.ite m kt vt z.2.1 z.2.2) sb) (updN ζ1 q (.it (num m) cl (seen ++ [z.1.1]) cl)) num1 (zCh q cx.d (.ite m kt vt z.2.1 z.2.2) (zAp (cx.d + 1) σ x sb)):=⟨fun n ent h1 h2=>hle1.env n ent h1 h2,fun r' lv h1 h2=>by
    have h1:zAU (setRow (zAp (cx.d + 1) σ x sb).rows q cx.d (.ite m kt vt z.2.1 z.2.2)) r' = some lv:=h1
    by_cases hr':r' = q
    ·subst hr'
     rw [zBX,if_pos ⟨rfl,hqlx⟩] at h1
     refine ⟨by rw [hstamp];exact h1,?_,hnq,by rw [zBj,zBj]⟩
     rw [hrowq];exact rowAt_seteq hqlx
    ·rw [zBX,if_neg (fun h'=>hr' h'.1)] at h1
     obtain ⟨j1,j2,j3,j4⟩:=hle1.rows r' lv h1 h2
     obtain ⟨j5,j6⟩:=hrowne (.ite m kt vt z.2.1 z.2.2) r' hr'
     refine ⟨by rw [j6];exact j1,?_,j3,by rw [updN_ne hr',updN_ne hr'];exact j4⟩
     rw [j5,<- j2];exact zCi hr'⟩
   have hperm':∀ L,L.Perm ((left (seen ++ [z.1.1])).map (·.2)) -> foldM Bd Nd (z.2 :: L) x = some res:=fun L hL=>by
    refine hperm _ ?_
    have h1:=perm_pick (fun z:(Nat × Value × D) × (kt.I × vt.I)=>z.1.1) (left seen) (hnodup.sublist ((List.filter_sublist (l:=es.zip l) (p:=fun z=>!seen.contains z.1.1)).map _)) z hz
    have h2:left (seen ++ [z.1.1]) = (left seen).filter fun y=>!(y.1.1 == z.1.1):=by
     show List.filter _ _ = List.filter _ (List.filter _ _)
     rw [List.filter_filter]
     refine List.filter_congr fun y _=>?_
     rw [Bool.eq_iff_iff]
     simp [not_or,and_comm]
    rw [h2] at hL
    have h3:=(h1.map (·.2))
    rw [yAL] at h3
    exact (hL.cons z.2).trans h3
   have hlt':(left (seen ++ [z.1.1])).length < n:=by
    rw [<- hn]
    have h1:=perm_pick (fun z:(Nat × Value × D) × (kt.I × vt.I)=>z.1.1) (left seen) (hnodup.sublist ((List.filter_sublist (l:=es.zip l) (p:=fun z=>!seen.contains z.1.1)).map _)) z hz
    have h2:left (seen ++ [z.1.1]) = (left seen).filter fun y=>!(y.1.1 == z.1.1):=by
     show List.filter _ _ = List.filter _ (List.filter _ _)
     rw [List.filter_filter]
     refine List.filter_congr fun y _=>?_
     rw [Bool.eq_iff_iff]
     simp [not_or,and_comm]
    have:=h1.length_eq
    rw [h2,<- this,yAY];exact Nat.lt_succ_self _
   have hv:∃ v,Bd z.2 x = some v /\ ((∃ x',v = .inl x' /\ ∀ L,L.Perm ((left (seen ++ [z.1.1])).map (·.2)) -> foldM Bd Nd L x' = some res) \/ v = .inr res):=by
    have h1:=hperm' _ (.refl _)
    simp only [foldM] at h1
    cases hB:Bd z.2 x with
    | none=>rw [hB] at h1;cases h1
    | some v =>
     refine ⟨v,rfl,?_⟩
     cases v with
     | inl x'=>exact .inl ⟨x',rfl,fun L hL=>by have h2:=hperm' L hL;simp only [foldM,hB] at h2;exact h2⟩
     | inr e'=>rw [hB] at h1;have:=yAA h1;subst this;exact .inr rfl
   obtain ⟨v,hBv,hvc⟩:=hv
   rw [<- hBd] at hBv
   dsimp only at hBv
   rw [hset'] at hBv
   split at hBv
   rotate_left
   ·cases hBv
   rename_i u hput
   have hgok:GOk (cx.d + 1) (zCh q cx.d (.ite m kt vt z.2.1 z.2.2) (zAp (cx.d + 1) σ x sb)):=(show Plain (zCh _ _ _ (zAp (cx.d + 1) σ x sb)) from ⟨hplain.gs,hplain.c⟩).gok _
   obtain ⟨k1,k2,k3,k4⟩:=put_sound (d:=cx.d + 1) hst1.abs hgok hput (fun _=>hst1.ok) (fun p hp=>by cases hp) fun own X w hs=>by
    obtain ⟨j1,j2,j3,j4⟩:=hst1.weak own X w hs
    exact ⟨j1,j2,j3,fun y hy=>by rw [if_pos (show zBB _ [] = true from rfl)];exact j4 y hy⟩
   rw [<- hz2] at k1
   refine bops_weak hQw k1 (opsT_sound (d:=cx.d + 1) hΓ hQw os _ num1 u _ _ k2 k3 hos hBv fun ζ' num' s' H' h1 h2 h3 h4=>?_)
   have hLe2:=hLe1.trans (k4.trans h4)
   have hle':Le cx.d ζ num s ζ' num' s':=hLep.trans (hLe2.mono (yBG _))
   rcases hvc with ⟨x',rfl,hf'⟩ | rfl
   ·refine hrest hb (cx.innerM σ.I q) _ s' _ ζ' num' _ H' _ hw2 hk h2 h3 h1 (fun ζ'' num'' s'' e'' H'' j1 j2 j3 j4=>?_) (hOl (Outs.innerML hO))
    obtain ⟨ζ2,num2,H2,w1,w2,w3⟩:=unpack_sound hk (yBG cx.d) j2 (hLe2.trans j4) (map_inl j1)
    obtain ⟨m1,m2⟩:=hrowne (.ite m kt vt z.2.1 z.2.2) m hqm
    refine run_weak w1 (run_inLoop (ihn _ hlt' (seen ++ [z.1.1]) (zCh q cx.d (.ite m kt vt z.2.1 z.2.2) sb) (updN ζb q (.it (num m) cl (seen ++ [z.1.1]) cl)) x' ζ2 num2 H2 rfl hgsb henv (by show (setRow _ _ _ _).length = _;rw [zBv];exact hlenb) (fun row=>?_) (by rw [m1];exact hmb) (by rw [m2];exact hsmb) (.inr ⟨_,_,_,_,hrowq _⟩) ⟨cx.d,hstamp _,yAJ _⟩ (by rw [updN_ne hqm];exact hζbm) (zBj _ _ _) hLep w2 w3 hf'))
    rw [<- hset row]
    unfold zCh
    congr 1
    have:∀ (rows:Rows) (q d d':Nat) (a b:TRow),setRow (setRow rows q d a) q d' b = setRow rows q d' b:=by
     intro rows
     induction rows with
     | nil=>intro q d d' a b;rfl
     | cons p rows ih=>intro q d d' a b;cases q with
      | zero=>rfl
      | succ q=>simp only [setRow];rw [ih]
    exact this _ _ _ _ _ _
   ·exact hrest hb (cx.innerM σ.I q) _ s' _ ζ' num' _ H' _ hw2 hk h2 h3 h1 (fun ζ'' num'' s'' e'' H'' j1 _ _ _=>(map_inl_r j1).elim) (hOl (hO.innerMR hle'))
 obtain ⟨ζ2,num2,H2,w1,w2,w3⟩:=unpack_sound hk (yBG cx.d) ha (Le.refl _ _ _ _) hx0
 refine run_weak w1 (main (left []).length [] s ζ x0 ζ2 num2 H2 rfl rfl rfl rfl (fun _=>rfl) hm hsm (.inl hr) ⟨lvr,hsr,hsrd⟩ hζm hζr (Le.refl _ _ _ _) w2 w3 fun L hL=>hfold L ?_)
 refine hL.trans (List.Perm.of_eq ?_)
 show ((es.zip l).filter fun z=>!([]:List Nat).contains z.1.1).map (·.2) = l
 rw [List.filter_eq_self.2 (fun z _=>by simp),List.map_snd_zip]
 omega
end
end Go.T
namespace Go.T
open Go.Ab
variable [Go.Ab.DM]
section
variable {P:Program} {Γ:List Con} {B:Base} {f:FuncId} {N n0:Nat} {Rp:D -> Heap -> Prop}
def trun_sound2 (hΓ:∀ c ∈ Γ,zAl P c) (zCm:P.follows .mixedOrders = true):∀ (c:Code),SoundAt P Γ B f N n0 Rp c /\ ∀ a b,c = .seq a b -> SoundAt P Γ B f N n0 Rp b:=by
 intro c
 induction c with
 | skip =>
  refine ⟨?_,fun _ _ h=>by cases h⟩
  intro R h cx k s r ζ num e H K hw hk ha hp ht hC hO
  exact zBZ (hC ζ num s e H ht ha hp (Le.refl _ _ _ _))
 | seq a b iha ihb =>
  refine ⟨?_,fun _ _ h=>by cases h;exact ihb.1⟩
  have iha:SoundAt P Γ B f N n0 Rp a:=iha.1
  have ihb:SoundAt P Γ B f N n0 Rp b:=ihb.1
  intro R h cx k s r ζ num e H K hw hk ha hp ht hC hO
  refine run_seq ?_
  have hO':∀ {R':Type} {cx':Cx R'} {r':R'} {ζ1 num1 s1},Outs P f N n0 Rp B ζ1 num1 s1 cx' r' K -> Outs P f N n0 Rp B ζ1 num1 s1 cx' r' (.code b :: K):=fun h=>⟨fun i k' hk'=>h.ex i k' hk',h.ret⟩
  have plain:∀ ha' hb',wf N a ha' = true -> wf N b hb' = true -> trun P Γ a ha' cx (fun s'=>trun P Γ b hb' cx k s') s = some r -> Run P f N n0 Rp (.code a :: .code b :: K) e H:=fun ha' hb' hwa hwb ht =>
   iha ha' cx _ s r ζ num e H _ hwa hk ha hp ht (fun ζ' num' s' e' H' h1 h2 h3 h4=>ihb hb' cx k s' r ζ' num' e' H' K hwb hk h2 h3 h1 (hC.from h4 (yAJ _)) (hO.from h4)) (hO' hO)
  cases h with
  | j σ h1 h2 =>
   simp only [wf,yAB] at hw
   simp only [trun] at ht
   rcases join_some ht with ⟨x,hx,hk2⟩ | hr
   ·refine iha h1 (cx.inner σ.I) _ s (.inl x) ζ num e H _ hw.1 hk ha hp hx (cont_join hk hp x hk2 fun ζ' num' s' e' H' g1 g2 g3 g4=>ihb h2 cx k s' r ζ' num' e' H' K hw.2 hk g2 g3 g1 (hC.from g4 (yAJ _)) (hO.from g4)) (hO' (Outs.innerL hO))
   ·exact iha h1 (cx.inner σ.I) _ s (.inr r) ζ num e H _ hw.1 hk ha hp hr (fun ζ' num' s' e' H' g1 _ _ _=>(map_inl_r g1).elim) (hO' (hO.innerR (Le.refl _ _ _ _)))
  | n h1 h2=>simp only [wf,yAB] at hw;exact plain h1 h2 hw.1 hw.2 ht
  | _=>simp only [wf,yAB] at hw;exact plain .o .o hw.1 hw.2 ht
 | cond q x y ihx ihy =>
  refine ⟨?_,fun _ _ h=>by cases h⟩
  have ihx:SoundAt P Γ B f N n0 Rp x:=ihx.1
  have ihy:SoundAt P Γ B f N n0 Rp y:=ihy.1
  intro R h cx k s r ζ num e H K hw hk ha hp ht hC hO
  have hh:zBB s.gs [] = true:=rfl
  have go:∀ hx hy,wf N x hx = true -> wf N y hy = true -> (match evT s.env [] q with
      | some ⟨.bool,b⟩=>sel b (trun P Γ x hx cx k s) (trun P Γ y hy cx k s)
      | some ⟨.tt,_⟩=>trun P Γ x hx cx k s
      | some ⟨.ff,_⟩=>trun P Γ y hy cx k s
      | _=>none) = some r -> Run P f N n0 Rp (.code (.cond q x y) :: K) e H:=fun hx hy hwx hwy ht=>by
   have vx:trun P Γ x hx cx k s = some r -> Run P f N n0 Rp (.code x :: K) e H:=fun h=>ihx hx cx k s r ζ num e H K hwx hk ha hp h hC hO
   have vy:trun P Γ y hy cx k s = some r -> Run P f N n0 Rp (.code y :: K) e H:=fun h=>ihy hy cx k s r ζ num e H K hwy hk ha hp h hC hO
   split at ht
   ·rename_i b hq
    obtain ⟨h1,_⟩:=zAP ha hh hq
    refine run_cond (t:=b) h1 (fun hb=>vx ?_) (fun hb=>vy ?_)
    ·subst hb;exact ht
    ·subst hb;exact ht
   ·rename_i u hq
    obtain ⟨h1,_⟩:=zAP ha hh hq
    exact run_cond (t:=true) h1 (fun _=>vx ht) (fun hb=>by cases hb)
   ·rename_i u hq
    obtain ⟨h1,_⟩:=zAP ha hh hq
    exact run_cond (t:=false) h1 (fun hb=>by cases hb) (fun _=>vy ht)
   ·cases ht
  cases h with
  | n hx hy=>simp only [wf,yAB] at hw;exact go hx hy hw.1 hw.2 ht
  | _=>simp only [wf,yAB] at hw;exact go .o .o hw.1 hw.2 ht
 | exit i =>
  refine ⟨?_,fun _ _ h=>by cases h⟩
  intro R h cx k s r ζ num e H K hw hk ha hp ht hC hO
  simp only [trun] at ht
  split at ht
  ·rename_i k' hk'
   obtain ⟨K',h1,h2⟩:=hO.ex i k' hk'
   exact run_exit h1 (h2 ζ num s e H ht ha hp (Le.refl _ _ _ _))
  ·cases ht
 | ret =>
  refine ⟨?_,fun _ _ h=>by cases h⟩
  intro R h cx k s r ζ num e H K hw hk ha hp ht hC hO
  exact hO.ret K ζ num s e H ht ha hp (Le.refl _ _ _ _)
 | block i b ih =>
  refine ⟨?_,fun _ _ h=>by cases h⟩
  have ih:SoundAt P Γ B f N n0 Rp b:=ih.1
  intro R h cx k s r ζ num e H K hw hk ha hp ht hC hO
  refine zDA ?_
  have plain:∀ hb,wf N b hb = true -> trun P Γ b hb { cx with ex:=(i,k) :: cx.ex } k s = some r -> Run P f N n0 Rp (.code b :: .inBlock i :: K) e H:=fun hb hwb ht=>by
   refine ih hb { cx with ex:=(i,k) :: cx.ex } k s r ζ num e H _ hwb hk ha hp ht (fun ζ' num' s' e' H' h1 h2 h3 h4=>zAr (hC ζ' num' s' e' H' h1 h2 h3 h4)) ⟨fun j k' hj=>?_,hO.ret⟩
   simp only [getX] at hj
   by_cases hij:i = j
   ·subst hij
    rw [Nat.beq_refl,cond_true] at hj
    have:=yAA hj;subst this
    exact ⟨K,by simp [exitTo],hC⟩
   ·have hb1:Nat.beq i j = false:=by
     cases hb:Nat.beq i j with
     | true=>rw [yAP] at hb;exact absurd hb hij
     | false=>rfl
    rw [hb1,cond_false] at hj
    obtain ⟨K',h1,h2⟩:=hO.ex j k' hj
    exact ⟨K',by simp [exitTo,hij,h1],h2⟩
  cases h with
  | b hb=>exact plain hb hw ht
  | jb σ hb =>
   simp only [trun] at ht
   have exits:∀ (v:σ.I ⊕ R),Cont P f N n0 Rp B (cx.d + 1) ζ num s (fun s'=>((pack cx.k cx.d σ s').map .inl:Option (σ.I ⊕ R))) v K -> Outs P f N n0 Rp B ζ num s (cx.inner σ.I) v K -> Outs P f N n0 Rp B ζ num s { cx.inner σ.I with ex:=(i,fun s'=>((pack cx.k cx.d σ s').map .inl:Option (σ.I ⊕ R))) :: (cx.inner σ.I).ex } v (.inBlock i :: K):=fun v hCv hOv=>by
    refine ⟨fun j k' hj=>?_,hOv.ret⟩
    simp only [getX] at hj
    by_cases hij:i = j
    ·subst hij
     rw [Nat.beq_refl,cond_true] at hj
     have:=yAA hj;subst this
     exact ⟨K,by simp [exitTo],hCv⟩
    ·have hb1:Nat.beq i j = false:=by
      cases hb:Nat.beq i j with
      | true=>rw [yAP] at hb;exact absurd hb hij
      | false=>rfl
     rw [hb1,cond_false] at hj
     obtain ⟨K',h1,h2⟩:=hOv.ex j k' hj
     exact ⟨K',by simp [exitTo,hij,h1],h2⟩
   have body:∀ (v:σ.I ⊕ R),trun P Γ b hb { cx.inner σ.I with ex:=(i,fun s'=>(pack cx.k cx.d σ s').map .inl) :: (cx.inner σ.I).ex } (fun s'=>(pack cx.k cx.d σ s').map .inl) s = some v -> Cont P f N n0 Rp B (cx.d + 1) ζ num s (fun s'=>((pack cx.k cx.d σ s').map .inl:Option (σ.I ⊕ R))) v K -> Outs P f N n0 Rp B ζ num s (cx.inner σ.I) v K -> Run P f N n0 Rp (.code b :: .inBlock i :: K) e H:=fun v hv hCv hOv =>
    ih hb { cx.inner σ.I with ex:=(i,fun s'=>(pack cx.k cx.d σ s').map .inl) :: (cx.inner σ.I).ex } _ s v ζ num e H _ hw hk ha hp hv (fun ζ' num' s' e' H' h1 h2 h3 h4=>zAr (hCv ζ' num' s' e' H' h1 h2 h3 h4)) (exits v hCv hOv)
   rcases join_some ht with ⟨x,hx,hk2⟩ | hr
   ·exact body (.inl x) hx (cont_join hk hp x hk2 hC) (Outs.innerL hO)
   ·exact body (.inr r) hr (fun ζ' num' s' e' H' g1 _ _ _=>(map_inl_r g1).elim) (hO.innerR (Le.refl _ _ _ _))
  | _=>exact plain .o hw ht
 | region id ops draw =>
  refine ⟨?_,fun _ _ h=>by cases h⟩
  intro R h cx k s r ζ num e H K hw hk ha hp ht hC hO
  have hQw:∀ e H e' H',WeakS e H e' H' -> Run P f N n0 Rp K e' H' -> Run P f N n0 Rp K e H:=fun e H e' H' hw h=>run_weak hw h
  cases draw with
  | false =>
   have hw:ops.toList.all (okOp N ops.toList) = true:=by simpa only [wf] using hw
   rw [yAR] at hw
   have ht:opsT P Γ false cx.d ops.toList ops.toList s k = some r:=by simpa only [trun] using ht
   have hb:=opsT_sound (N:=N) hΓ hQw ops.toList ζ num s e H ha (hp.gok _) hw ht fun ζ' num' s' H' h1 h2 h3 h4=>hC ζ' num' s' _ H' h1 h2 h3 h4
   exact run_breg (l:=ops.toList) hb
  | true =>
   cases h <;> first | (simp only [trun] at ht;cases ht;done) | skip
   ·rename_i plan
    have hw:(ops.toList.all (okOp N ops.toList) && goodTree ops ((PN.of plan).kinds ops)) = true:=by simpa only [wf] using hw
    have ht:treeT P Γ cx.d ops.toList (PN.of plan) s k = some r:=by simpa only [trun] using ht
    rw [yAB,yAR] at hw
    have hb:=treeT_sound (N:=N) (full:=ops.toList) hΓ hQw hw.1 _ ζ num s e H ha (hp.gok _) ht fun ζ' num' s' H' h1 h2 h3 h4=>hC ζ' num' s' _ H' h1 h2 h3 h4
    exact run_bdraw (l:=ops.toList) _ zCm hw.2 hb
   ·rename_i t
    have hw:(ops.toList.all (okOp N ops.toList) && goodTree ops (t.kinds ops)) = true:=by simpa only [wf] using hw
    have ht:treeT P Γ cx.d ops.toList t s k = some r:=by simpa only [trun] using ht
    rw [yAB,yAR] at hw
    have hb:=treeT_sound (N:=N) (full:=ops.toList) hΓ hQw hw.1 _ ζ num s e H ha (hp.gok _) ht fun ζ' num' s' H' h1 h2 h3 h4=>hC ζ' num' s' _ H' h1 h2 h3 h4
    exact run_bdraw (l:=ops.toList) _ zCm hw.2 hb
 | loop b ih2 =>
  refine ⟨?_,fun _ _ h=>by cases h⟩
  have ih:SoundAt P Γ B f N n0 Rp b:=ih2.1
  intro R h cx k s r ζ num e H K hw hk ha hp ht hC hO
  refine run_loop ?_
  by_cases hu:∃ n hb,h = .u n hb
  ·obtain ⟨n,hb,rfl⟩:=hu
   simp only [trun] at ht
   have hOl:∀ {ζ1 num1 s1},Outs P f N n0 Rp B ζ1 num1 s1 cx r K -> Outs P f N n0 Rp B ζ1 num1 s1 cx r (.inLoop b :: K):=fun h=>⟨fun i k' hk'=>h.ex i k' hk',h.ret⟩
   have main:∀ (n:Nat) (s:St) (ζ:Nat -> Row) (num:Nat -> Nat) (e:Env) (H:Heap),Abs B ζ num s e H -> Plain s -> unrN n (fun k' s'=>trun P Γ b hb cx k' s') s = some r -> Outs P f N n0 Rp B ζ num s cx r K -> Run P f N n0 Rp (.code b :: .inLoop b :: K) e H:=by
    intro n
    induction n with
    | zero=>intro s ζ num e H _ _ h _;cases h
    | succ n ihn =>
     intro s ζ num e H ha hp h hO
     exact ih hb cx _ s r ζ num e H _ hw hk ha hp h (fun ζ' num' s' e' H' g1 g2 g3 g4=>run_inLoop (ihn s' ζ' num' e' H' g2 g3 g1 (hO.from g4))) (hOl hO)
   exact main n s ζ num e H ha hp ht hO
  cases h <;> first | (exact absurd ⟨_,_,rfl⟩ hu;done) | skip
  all_goals clear hu
  all_goals first | (simp only [trun] at ht;cases ht;done) | (cases hw;done) | skip
  rotate_left
  ·rename_i σ r0 hb
   cases b <;> first | (simp [wf] at hw;done) | skip
   rename_i b1 rest
   cases b1 <;> first | (simp [wf] at hw;done) | skip
   rename_i id ops draw
   cases draw <;> first | (simp [wf] at hw;done) | skip
   rw [trun.eq_def] at ht;dsimp only at ht
   split at ht
   rotate_left
   ·cases ht
   rename_i hr hbb
   cases hbb
   split at ht
   rotate_left
   ·cases ht
   rename_i kt vt l o os hm hl hops
   obtain ⟨hb1,ht⟩:=zAa ht
   simp only [yAB,Option.isNone_iff_eq_none] at hb1
   obtain ⟨⟨⟨hmn,hlm⟩,hrn⟩,hnext⟩:=hb1
   split at ht
   rotate_left
   ·cases ht
   rename_i x0 hx0
   have hw:(ops.toList.all (okOp N ops.toList) && wf N rest hb) = true:=by simpa only [wf] using hw
   rw [yAB] at hw
   exact lm_sound hΓ (ih2.2 _ _ rfl) hw.1 hw.2 hk ha hp hr hm hl hlm hops (yAc hrn) (yAc hmn) hnext hx0 ht hO
  rename_i σ hb
  simp only [trun] at ht
  split at ht
  rotate_left
  ·cases ht
  rename_i x0 hx0
  obtain ⟨n,hn⟩:=iter_some ht
  have hOl:∀ {R':Type} {cx':Cx R'} {r':R'} {ζ1 num1 s1},Outs P f N n0 Rp B ζ1 num1 s1 cx' r' K -> Outs P f N n0 Rp B ζ1 num1 s1 cx' r' (.inLoop b :: K):=fun h=>⟨fun i k' hk'=>h.ex i k' hk',h.ret⟩
  have main:∀ (n:Nat) (x:σ.I) (ζ1:Nat -> Row) (num1:Nat -> Nat) (H1:Heap),Abs B ζ1 num1 (zAp (cx.d + 1) σ x s) (zCn num1 (zAp (cx.d + 1) σ x s)) H1 -> Le (cx.d + 1) ζ num s ζ1 num1 (zAp (cx.d + 1) σ x s) ->
      iterN (fun x=>trun P Γ b hb (cx.inner σ.I) (fun s'=>(pack cx.k cx.d σ s').map .inl) (zAp (cx.d + 1) σ x s)) n x = some r -> Run P f N n0 Rp (.code b :: .inLoop b :: K) (zCn num1 (zAp (cx.d + 1) σ x s)) H1:=by
   intro n
   induction n with
   | zero=>intro x ζ1 num1 H1 _ _ h;cases h
   | succ n ihn =>
    intro x ζ1 num1 H1 ha1 hle1 h
    simp only [iterN] at h
    split at h
    ·cases h
    ·rename_i x' hx'
     refine ih hb (cx.inner σ.I) _ _ (.inl x') ζ1 num1 _ H1 _ hw hk ha1 (unpack_plain hp) hx' (fun ζ' num' s' e' H' g1 g2 g3 g4=>?_) (hOl (Outs.innerL hO))
     obtain ⟨ζ2,num2,H2,w1,w2,w3⟩:=unpack_sound hk (yBG cx.d) g2 (hle1.trans g4) (map_inl g1)
     exact run_weak w1 (run_inLoop (ihn x' ζ2 num2 H2 w2 w3 h))
    ·rename_i r' hr'
     have:=yAA h;subst this
     exact ih hb (cx.inner σ.I) _ _ (.inr r') ζ1 num1 _ H1 _ hw hk ha1 (unpack_plain hp) hr' (fun ζ' num' s' e' H' g1 _ _ _=>(map_inl_r g1).elim) (hOl (hO.innerR hle1))
  obtain ⟨ζ2,num2,H2,w1,w2,w3⟩:=unpack_sound hk (yBG cx.d) ha (Le.refl _ _ _ _) hx0
  exact run_weak w1 (main n x0 ζ2 num2 H2 w2 w3 hn)
 | _ =>
  refine ⟨?_,fun _ _ h=>by cases h⟩
  intro R h cx k s r ζ num e H K hw hk ha hp ht hC hO
  simp only [trun] at ht
  cases ht
def trun_sound (hΓ:∀ c ∈ Γ,zAl P c) (zCm:P.follows .mixedOrders = true) (c:Code):SoundAt P Γ B f N n0 Rp c:=(trun_sound2 hΓ zCm c).1
end
end Go.T
namespace Go.T
open Go.Ab
variable [Go.Ab.DM]
section
variable {P:Program} {Γ:List Con} {B:Base} {ζ:Nat -> Row} {num:Nat -> Nat} {s:St} {e:Env} {H:Heap}
def resT_sound (ha:Abs B ζ num s e H):∀ {rs:List ResultVar} {l:List TV},resT P s rs = some l -> ∃ ds,aRes P e H rs = some ds /\ Tls ds (l.map (enc (zAB num s.rows))) /\ ∀ v ∈ l,okV s.rows v
 | [],l,h=>by have:=yAA h;subst this;exact ⟨[],rfl,.nil,by simp⟩
 | .tmp t :: rs,l,h=>by
  simp only [resT] at h
  split at h
  ·rename_i en l' h1 h2
   obtain ⟨hc,hx⟩:=zAa h
   have:=yAA hx;subst this
   obtain ⟨ds,g1,g2,g3⟩:=resT_sound ha h2
   have hc:=List.isEmpty_iff.1 hc
   have hh:zBB s.gs en.c = true:=by rw [hc];rfl
   refine ⟨e t :: ds,by simp only [aRes,g1,yBU],.cons (Tl.of_eq (ha.at h1 hh)) g2,fun v hv=>?_⟩
   rcases yAE.1 hv with rfl | hv
   ·exact ha.ok t en h1 hh
   ·exact g3 v hv
  ·cases h
 | .cell a t :: rs,l,h=>by
  simp only [resT] at h
  split at h
  ·rename_i en l' h1 h2
   obtain ⟨hc,hx⟩:=zAa h
   split at hx
   ·rename_i v hv
    have:=yAA hx;subst this
    obtain ⟨ds,g1,g2,g3⟩:=resT_sound ha h2
    have hc:=List.isEmpty_iff.1 hc
    have hh:zBB s.gs en.c = true:=by rw [hc];rfl
    obtain ⟨d,k1,k2,k3⟩:=loadT_sound ha.hrel (ha.ok a en h1 hh) hv
    rw [<- ha.at h1 hh] at k1
    refine ⟨d :: ds,by simp only [aRes,k1,g1,yBP,yBU],.cons k2 g2,fun v hv=>?_⟩
    rcases yAE.1 hv with rfl | hv
    ·exact k3
    ·exact g3 v hv
   ·cases hx
  ·cases h
def retT_sound {ds:List D} {l:List TV} {ρ:Refs} (h:Tls ds (l.map (enc ρ))):Tl (retD ds) (enc ρ (retT l)):=by
 match l,ds,h with
 | [],_,.nil=>exact Tl.of_eq (by rw [show retT [] = tupV [] from rfl,enc_tup];rfl)
 | [v],_,.cons h .nil=>exact h
 | v :: u :: l,_,.cons h1 (.cons h2 h3) =>
  rw [show retT (v :: u :: l) = tupV (v :: u :: l) from rfl,enc_tup]
  exact Tl.tup (.cons h1 (.cons h2 h3))
def retT_ok {rows:Rows} {l:List TV} (h:∀ v ∈ l,okV rows v):okV rows (retT l):=by
 match l with
 | []=>exact ok_tup _ h
 | [v]=>exact h v (by simp)
 | v :: u :: l=>exact ok_tup _ h
def lookR_numb:∀ (l:List RTy) (n r:Nat),zBR (numb n l) (n + r) = l[r]?
 | [],n,r=>by simp [numb,zBR]
 | e :: l,n,0=>by simp [numb,zBR]
 | e :: l,n,r + 1=>by
  have:=lookR_numb l (n + 1) r
  rw [show n + 1 + r = n + (r + 1) by omega] at this
  simp only [numb,zBR,yBH]
  cases hb:Nat.beq n (n + (r + 1)) with
  | true=>rw [yAP] at hb;omega
  | false=>exact this
def end_sound {c:Con} {k:Nat} {n0:Nat} (hn0:n0 <= H.length) {rs:List ResultVar} {y:(zAY c.outT).I} (ha:Abs B ζ num s e H) (hk:B.k = k) (h:endT P rs k c.res c.outs s = some y) :
  ∃ ds,aRes P e H rs = some ds /\ ∃ ζ' num' H',Weak n0 H (retD ds) H' (enc (zAB num' (zAT c y)) (zBT c y)) /\ HRel ζ' num' (zAT c y) H' /\ okV (zAT c y) (zBT c y) /\
   (∀ r,zAW (zAA (zAT c y) r) = true -> (r < k -> num' r = B.num0 r) /\ (k <= r -> B.n0 <= num' r)) /\ ∀ r,r < k -> zAS (zAA (zAT c y) r) = true -> zCg (zAA (zAT c y) r) = B.len0 r:=by
 unfold endT at h
 split at h
 rotate_left
 ·cases h
 rename_i l hl
 dsimp only at h
 obtain ⟨hb,h⟩:=zAa h
 simp only [yAB] at hb
 obtain ⟨⟨hinj,hsb⟩,hrb⟩:=hb
 split at h
 rotate_left
 ·cases h
 rename_i a b hpa hpb
 have hlv:zAK (zAY c.outT) y = a ++ b:=packAll_leaves h
 obtain ⟨ds,hds1,hds2,hds3⟩:=resT_sound ha hl
 generalize hρ:uniRows s.rows (ids k ++ uni c.res (retT l).t) (numb 0 c.outs) = ρ at *
 generalize hfz:fzT c.res (retT l).t ++ fzRows s.rows ρ (numb 0 c.outs) = fz at *
 have hf:=zBt 1 fz s.rows
 generalize zAz 1 fz 0 s.rows = rf at *
 obtain ⟨us,hu1,hu2⟩:=packVals_un hpa
 obtain ⟨m,hm1,hm2⟩:=packRows_un hpb
 have hco:zAT c y = zAo m:=by
  unfold zAT
  rw [hlv,hu2];dsimp only;rw [hm2]
 obtain ⟨w,hw,hus⟩:∃ w:c.res.I,packV ρ (isLst (numb 0 c.outs)) rf c.res (retT l) = some w /\ us = [⟨c.res,w⟩]:=by
  cases hu1 with
  | cons h1 h2=>cases h2;exact ⟨_,h1,rfl⟩
 have hcr:zBT c y = ⟨c.res,w⟩:=by
  unfold zBT
  rw [hlv,hu2,hus]
 rw [hco,hcr]
 have hr:=ha.hrel
 have hml:(zAo m).length = c.outs.length:=by rw [len_stRows,hm1.len,numb_len]
 have hia:=injOk_at hinj
 have hlk:∀ r,zBR (numb 0 c.outs) r = c.outs[r]?:=fun r=>by have:=lookR_numb c.outs 0 r;rw [yAT] at this;exact this
 have hat:=fun r=>hm1.at r
 have hT:∀ r,Tgt ρ (isLst (numb 0 c.outs)) rf (zAo m) r (zAA (zAo m) r):=fun r=>by
  have h:=hat r
  split at h
  ·obtain ⟨row,h1,_,h2⟩:=h
   rw [yAT] at h2
   rw [h1];exact .pk h2
  ·rw [h];exact .gone
 have hpk:∀ r,zAW (zAA (zAo m) r) = true \/ zAS (zAA (zAo m) r) = true -> ∃ ee,zBR (numb 0 c.outs) r = some ee /\ ee ≠ .gone /\ PkRow ρ (isLst (numb 0 c.outs)) rf r ee (zAA (zAo m) r):=fun r hl=>by
  have h:=hat r
  split at h
  ·rename_i ei hei
   obtain ⟨row,h1,_,h2⟩:=h
   rw [yAT] at h2
   rw [h1] at hl ⊢
   refine ⟨ei,by rw [hlk];exact hei,fun hg=>?_,h2⟩
   subst hg
   cases h2
   rcases hl with hl | hl <;> simp [zAW,zAS] at hl
  ·rw [h] at hl;rcases hl with hl | hl <;> simp [zAW,zAS] at hl
 have hsrc:∀ r,zAW (zAA (zAo m) r) = true -> ∃ ee,zBR (numb 0 c.outs) r = some ee /\ ee ≠ .gone /\ zCK ρ r = some (src ρ r):=fun r hl=>by
  obtain ⟨ee,h1,h2,h3⟩:=hpk r (.inl hl)
  refine ⟨ee,h1,h2,?_⟩
  generalize zAA (zAo m) r = row at *
  cases h3 with
  | gone=>exact absurd rfl h2
  | one h5=>rw [zAb h5];exact h5
  | many h5=>rw [zAb h5];exact h5
  | lst h5=>rw [zAb h5];exact h5
  | fro h5=>rw [zAb h5];exact h5
  | fr1 h5=>rw [zAb h5];exact h5
  | mp h5=>rw [zAb h5];exact h5
  | sit h5=>rw [zAb h5];exact h5
  | nil=>simp [zAW] at hl
 have hnul:∀ r,zCK ρ r = none -> isLst (numb 0 c.outs) r = true -> ∃ t,zAA (zAo m) r = .lst t []:=fun r hg hl=>by
  unfold isLst at hl
  have h:=hat r
  rw [hlk] at hl
  split at hl <;> first | (cases hl;done) | skip
  rename_i t ht
  rw [ht] at h
  obtain ⟨row,h1,_,h2⟩:=h
  rw [yAT] at h2
  rw [h1]
  cases h2 with
  | lst h5 _=>rw [hg] at h5;cases h5
  | nil=>exact ⟨_,rfl⟩
 have hrefs:∀ r t y,zAA (zAo m) r = .one t y -> ∀ z ∈ t.refs,z < (zAo m).length:=fun r t y hrow z hz=>by
  rw [hml]
  obtain ⟨ee,h1,h2,h3⟩:=hpk r (.inl (by rw [hrow];rfl))
  rw [hrow] at h3
  cases h3
  exact rowsBelow_at hrb r _ (lookR_mem h1) z hz
 have hR:=tgt_hrel (fr_hrel hr hf) hT hnul hrefs fun r z h1 h2 hne=>by
  obtain ⟨e1,g1,g2,g3⟩:=hsrc r h1
  obtain ⟨e2,k1,k2,k3⟩:=hsrc z h2
  exact hia.two r z e1 e2 _ _ g1 k1 g2 k2 hne g3 k3
 have hpr:=tgt_prel (num:=num) hT hnul
 have hokr:=retT_ok hds3
 have hokf:okV rf (retT l):=zCv (fr_le hf) _ _ hokr
 have htold:=packV_told hpr c.res (retT l) w hokf hw
 refine ⟨ds,hds1,fun r=>ζ (src ρ r),fun r=>num (src ρ r),frH num s.rows rf H,fun own X wd v hn hs hv=>⟨own,fr_sim hs hr hf,?_,.of_ext hn (fr_ext hs hr)⟩,hR,htold.ok fun z hz=>by rw [hml];exact slotsBelow_at hsb c.res (by simp) z hz,fun r hl=>?_,fun r hrl hi=>?_⟩
 ·exact htold.one _ _ _ _ _ (fr_rel hs hr hf (t:=(retT l).t) (x:=(retT l).x) hokr (retT_sound hds2 _ _ _ _ _ hv))
 ·obtain ⟨e1,g1,g2,g3⟩:=hsrc r hl
  have h1:=((hia.one r e1 g1 g2).1 _ g3).1
  have hlr:=tgt_live (hT r) hl
  have hb:=ha.base (src ρ r) (by rw [<- zBL hf hlr];exact hlr)
  rw [hk] at hb
  rcases h1 with ⟨h2,h3⟩ | ⟨h2,h3⟩
  ·rw [h3] at hb
   dsimp only
   rw [h3]
   exact ⟨fun _=>hb.1 h2,fun h=>by omega⟩
  ·exact ⟨fun h=>by omega,fun _=>hb.2 h3⟩
 ·obtain ⟨e1,g1,g2,g3⟩:=hpk r (.inr hi)
  cases hq:zCK ρ r with
  | none=>have:=(hia.one r e1 g1 g2).2 hq;omega
  | some q =>
   have h3:=((hia.one r e1 g1 g2).1 q hq).1
   have hqr:q = r:=by rcases h3 with ⟨_,h4⟩ | ⟨h4,_⟩;exact h4;omega
   subst hqr
   exact tgt_lens (B:=B) hT (lens_le ha.lens ha.klen (fr_le hf)) (by rw [hk];exact hrl) (zAb hq) (.inl hq) hi
end
end Go.T
namespace Go.Ab
variable [Go.Ab.DM]
mutual
def D.sh (n:Nat):D -> D
 | .agg cs=>.agg (shs n cs)
 | .tup cs=>.tup (shs n cs)
 | .sl r i m=>.sl (n + r) i m
 | .slc r i m c=>.slc (n + r) i m c
 | .pt r i o=>.pt (n + r) i o
 | .mp r=>.mp (n + r)
 | .fn f fs cs=>.fn f (shs n fs) (shs n cs)
 | .ifc t d=>.ifc t (d.sh n)
 | .v x=>.v x
 | .fz k xs=>.fz k xs
 | .fp k xs i o=>.fp k xs i o
 | .any=>.any
termination_by d=>SizeOf.sizeOf d
def shs (n:Nat):List D -> List D
 | []=>[]
 | d :: ds=>d.sh n :: shs n ds
termination_by ds=>SizeOf.sizeOf ds
end
def shs_map (n:Nat):∀ ds:List D,shs n ds = ds.map (D.sh n)
 | []=>by simp [shs]
 | d :: ds=>by rw [shs,shs_map n ds];rfl
section
variable {own:Nat -> Own} {U:Nat -> Prop} {w:World}
def Cells_own {own own':Nat -> Own} {k:Nat} {xs:List D} {b off:Nat} (h:Cells own U w 0 k xs b off):Cells own' U w 0 k xs b off :=
 Cells.mono (n:=0) (n':=0) ⟨yAJ _,fun r hr=>absurd hr (yAr _),fun _ h=>h,fun _ _ _=>rfl⟩ k xs b off (fun _=>rfl) h
mutual
def VRel_sh (n N:Nat):∀ (d:D) (v:Value),VRel own U w N (d.sh n) v ↔ VRel (fun r=>own (n + r)) U w (N - n) d v
 | .v x,v=>by rw [D.sh,VRel,VRel]
 | .agg cs,v=>by
  rw [D.sh,VRel,VRel]
  exact ⟨fun ⟨vs,h1,h2⟩=>⟨vs,h1,(zDb n N cs vs).1 h2⟩,fun ⟨vs,h1,h2⟩=>⟨vs,h1,(zDb n N cs vs).2 h2⟩⟩
 | .tup cs,v=>by
  rw [D.sh,VRel,VRel]
  exact ⟨fun ⟨vs,h1,h2⟩=>⟨vs,h1,(zDb n N cs vs).1 h2⟩,fun ⟨vs,h1,h2⟩=>⟨vs,h1,(zDb n N cs vs).2 h2⟩⟩
 | .fz k xs,v=>by
  rw [D.sh,VRel,VRel]
  exact ⟨fun ⟨a,c,h1,h2,h3⟩=>⟨a,c,h1,h2,fun h=>by obtain ⟨b,off,h4,h5,h6⟩:=h3 h;exact ⟨b,off,h4,h5,Cells_own h6⟩⟩,
   fun ⟨a,c,h1,h2,h3⟩=>⟨a,c,h1,h2,fun h=>by obtain ⟨b,off,h4,h5,h6⟩:=h3 h;exact ⟨b,off,h4,h5,Cells_own h6⟩⟩⟩
 | .fp k xs i o,v=>by
  rw [D.sh,VRel,VRel]
  exact ⟨fun ⟨b,off,h4,h5,h6⟩=>⟨b,off,h4,h5,Cells_own h6⟩,fun ⟨b,off,h4,h5,h6⟩=>⟨b,off,h4,h5,Cells_own h6⟩⟩
 | .sl r i m,v=>by rw [D.sh,VRel,VRel,show n + r < N ↔ r < N - n by omega]
 | .slc r i m c,v=>by rw [D.sh,VRel,VRel,show n + r < N ↔ r < N - n by omega]
 | .pt r i o,v=>by rw [D.sh,VRel,VRel,show n + r < N ↔ r < N - n by omega]
 | .mp r,v=>by rw [D.sh,VRel,VRel,show n + r < N ↔ r < N - n by omega]
 | .fn f fs cs,v=>by
  rw [D.sh,VRel,VRel]
  exact ⟨fun ⟨vs,us,h1,h2,h3⟩=>⟨vs,us,h1,(zDb n N fs vs).1 h2,(zDb n N cs us).1 h3⟩,fun ⟨vs,us,h1,h2,h3⟩=>⟨vs,us,h1,(zDb n N fs vs).2 h2,(zDb n N cs us).2 h3⟩⟩
 | .ifc t d,v=>by
  rw [D.sh,VRel,VRel]
  exact ⟨fun ⟨x,h1,h2⟩=>⟨x,h1,(VRel_sh n N d x).1 h2⟩,fun ⟨x,h1,h2⟩=>⟨x,h1,(VRel_sh n N d x).2 h2⟩⟩
 | .any,v=>by rw [D.sh,VRel,VRel]
termination_by d=>SizeOf.sizeOf d
def zDb (n N:Nat):∀ (ds:List D) (vs:List Value),VRels own U w N (shs n ds) vs ↔ VRels (fun r=>own (n + r)) U w (N - n) ds vs
 | [],vs=>by rw [shs,VRels,VRels]
 | d :: ds,vs=>by
  rw [shs,VRels,VRels]
  exact ⟨fun ⟨x,xs,h1,h2,h3⟩=>⟨x,xs,h1,(VRel_sh n N d x).1 h2,(zDb n N ds xs).1 h3⟩,fun ⟨x,xs,h1,h2,h3⟩=>⟨x,xs,h1,(VRel_sh n N d x).2 h2,(zDb n N ds xs).2 h3⟩⟩
termination_by ds=>SizeOf.sizeOf ds
end
def sh_one (n:Nat) (d:D):(d.sh n).one = d.one:=by cases d <;> simp [D.sh,D.one]
def sh_cells (n:Nat) (d:D):(d.sh n).cells = shs n d.cells:=by cases d <;> simp [D.sh,D.cells,shs]
def Flat_sh (n N:Nat):∀ (ds:List D) (b off:Nat),Flat own U w N (shs n ds) b off ↔ Flat (fun r=>own (n + r)) U w (N - n) ds b off
 | [],b,off=>by rw [shs,Flat,Flat]
 | d :: ds,b,off=>by
  rw [shs,Flat,Flat,sh_one,Flat_sh n N ds]
  exact ⟨fun ⟨h1,⟨x,h2,h3⟩,h4⟩=>⟨h1,⟨x,h2,(VRel_sh n N d x).1 h3⟩,h4⟩,fun ⟨h1,⟨x,h2,h3⟩,h4⟩=>⟨h1,⟨x,h2,(VRel_sh n N d x).2 h3⟩,h4⟩⟩
def shs_len (n:Nat) (ds:List D):(shs n ds).length = ds.length:=by rw [shs_map,yAG]
def CellsL_sh (n N k:Nat):∀ (ds:List D) (b off:Nat),Cells own U w N k (shs n ds) b off ↔ Cells (fun r=>own (n + r)) U w (N - n) k ds b off
 | [],b,off=>by rw [shs,Cells,Cells]
 | d :: ds,b,off=>by
  rw [shs,Cells,Cells,CellsL_sh n N k ds,zCe,zCe,sh_cells,shs_len,Flat_sh]
end
def shRow (n:Nat):Row -> Row
 | .cells k xs=>.cells k (shs n xs)
 | .mp es cl=>.mp (es.map fun p=>(p.1,p.2.1,p.2.2.sh n)) cl
 | .it m since seen last=>.it (n + m) since seen last
 | .sit s p=>.sit s p
 | .bx d=>.bx (d.sh n)
def shH (n:Nat) (H:Heap):Heap:=List.replicate n none ++ H.map (Option.map (shRow n))
def shOwn (n:Nat) (own:Nat -> Own):Nat -> Own:=fun r=>if r < n then own r else own (r - n)
def shH_len (n:Nat) (H:Heap):(shH n H).length = n + H.length:=by simp [shH]
def shH_get (n:Nat) (H:Heap) (r:Nat):(shH n H).get r = if r < n then none else (H.get (r - n)).map (shRow n):=by
 unfold shH Heap.get
 split
 ·rename_i h;rw [yAe (by simpa using h)];simp [h]
 ·rename_i h
  rw [yAa (by simp;omega)]
  simp only [List.length_replicate,yAy]
  cases H[r - n]? with
  | none=>rfl
  | some x=>cases x <;> rfl
def shOwn_at (n:Nat) (own:Nat -> Own):(fun r=>shOwn n own (n + r)) = own:=by
 funext r
 unfold shOwn
 rw [if_neg (by omega)]
 congr 1;omega
def shift_sim {own:Nat -> Own} {H:Heap} {X:Nat -> Prop} {w:World} (hs:Sim own H X w) :
  Sim (shOwn H.length own) (shH H.length H) X w /\ Ext X own H w (shOwn H.length own) (shH H.length H) w /\ ∀ d v,Rel own H X w d v -> Rel (shOwn H.length own) (shH H.length H) X w (d.sh H.length) v:=by
 generalize hn:H.length = n
 have hget:∀ r row,(shH n H).get r = some row -> ∃ row0,n <= r /\ H.get (r - n) = some row0 /\ row = shRow n row0:=fun r row h=>by
  rw [shH_get] at h
  split at h
  ·cases h
  ·rename_i hr
   cases h0:H.get (r - n) with
   | none=>rw [h0] at h;cases h
   | some row0=>rw [h0] at h;exact ⟨row0,by omega,rfl,(yAA h).symm⟩
 have hown:∀ r,n <= r -> shOwn n own r = own (r - n):=fun r h=>by unfold shOwn;rw [if_neg (by omega)]
 have hU:∀ b,zAQ own H X w b ↔ zAQ (shOwn n own) (shH n H) X w b:=fun b=>by
  constructor
  ·rintro ⟨h1,h2,h3⟩
   refine ⟨h1,h2,fun r row h=>?_⟩
   obtain ⟨row0,h4,h5,_⟩:=hget r row h
   rw [hown r h4];exact h3 _ _ h5
  ·rintro ⟨h1,h2,h3⟩
   refine ⟨h1,h2,fun r row h=>?_⟩
   have:=h3 (n + r) (shRow n row) (by rw [shH_get,if_neg (by omega),Nat.add_sub_cancel_left,h];rfl)
   rw [hown _ (by omega),Nat.add_sub_cancel_left] at this
   exact this
 have hUeq:zAQ (shOwn n own) (shH n H) X w = zAQ own H X w:=funext fun b=>propext (hU b).symm
 have hlen:(shH n H).length - n = H.length:=by rw [shH_len];omega
 have hrel:∀ d v,Rel own H X w d v -> Rel (shOwn n own) (shH n H) X w (d.sh n) v:=fun d v h=>by
  rw [Rel,VRel_sh,shOwn_at,hUeq,hlen];exact h
 refine ⟨⟨fun r row h=>?_,fun r r' row row' h h' hne=>?_,hs.hid⟩,⟨yAJ _,by rw [shH_len];omega,fun r hr=>by unfold shOwn;rw [if_pos (by omega)],fun b hb=>⟨(hU b).1 hb,rfl⟩,fun _ _=>rfl,.refl _⟩,hrel⟩
 ·obtain ⟨row0,h1,h2,rfl⟩:=hget r row h
  obtain ⟨h3,h4⟩:=hs.live _ _ h2
  rw [hown r h1]
  refine ⟨?_,h4⟩
  cases row0 with
  | cells k xs =>
   obtain ⟨g1,c,t,g2,g3,g4,g5⟩:=h3
   exact ⟨g1,c,t,g2,g3,by rw [shs_len];exact g4,by rw [CellsL_sh,shOwn_at,hUeq,hlen];exact g5⟩
  | mp es cl =>
   obtain ⟨en,g1,g2,g3⟩:=h3
   refine ⟨en,g1,by rw [g2,yBO];rfl,?_⟩
   have:(es.map fun p=>(p.1,p.2.1,p.2.2.sh n)).map (·.2.2) = shs n (es.map (·.2.2)):=by rw [shs_map,yBO,yBO];rfl
   rw [this,zDb,shOwn_at,hUeq,hlen];exact g3
  | it m since seen last =>
   obtain ⟨g1,g2,g3⟩:=h3
   exact ⟨by rw [shH_len];omega,g2,by rw [hown _ (by omega),Nat.add_sub_cancel_left];exact g3⟩
  | sit s pos=>exact h3
  | bx d =>
   obtain ⟨g1,x,t,g2,g3⟩:=h3
   exact ⟨g1,x,t,g2,by rw [VRel_sh,shOwn_at,hUeq,hlen];exact g3⟩
 ·obtain ⟨row0,h1,h2,_⟩:=hget r row h
  obtain ⟨row0',h1',h2',_⟩:=hget r' row' h'
  rw [hown r h1,hown r' h1']
  exact hs.excl _ _ _ _ h2 h2' (by omega)
def Sound.shift {P:Program} {f:FuncId} {ds:List D} {H:Heap} {R R':D -> Heap -> Prop} (h:Sound P f ds H R) (hr:∀ d H',H.length <= H'.length -> R d H' -> R' (d.sh H'.length) (shH H'.length H')):Sound P f ds H R':=⟨h.1,fun own X w vs hs hv =>
 Calls.mono (h.2 own X w vs hs hv) fun e w' ⟨own',d,H',v,h1,h2,h3,h4,h5⟩=>by
  obtain ⟨g1,g2,g3⟩:=shift_sim h2
  exact ⟨_,_,_,v,h1,g1,g3 _ _ h3,Ext.trans h4 g2,hr _ _ h4.hn h5⟩⟩
mutual
def sh_noref (n:Nat):∀ d:D,d.noref = true -> d.sh n = d
 | .v x,_=>by rw [D.sh]
 | .fz k xs,_=>by rw [D.sh]
 | .fp k xs i o,_=>by rw [D.sh]
 | .any,_=>by rw [D.sh]
 | .agg cs,h=>by rw [D.noref] at h;rw [D.sh,shs_noref n cs h]
 | .tup cs,h=>by rw [D.noref] at h;rw [D.sh,shs_noref n cs h]
 | .fn f fs cs,h=>by rw [D.noref,yAB] at h;rw [D.sh,shs_noref n fs h.1,shs_noref n cs h.2]
 | .ifc t d,h=>by rw [D.noref] at h;rw [D.sh,sh_noref n d h]
 | .sl r i m,h=>by simp [D.noref] at h
 | .slc r i m c,h=>by simp [D.noref] at h
 | .pt r i o,h=>by simp [D.noref] at h
 | .mp r,h=>by simp [D.noref] at h
termination_by d=>SizeOf.sizeOf d
def shs_noref (n:Nat):∀ ds:List D,zAg ds = true -> shs n ds = ds
 | [],_=>by rw [shs]
 | d :: ds,h=>by rw [zAg,yAB] at h;rw [shs,sh_noref n d h.1,shs_noref n ds h.2]
termination_by ds=>SizeOf.sizeOf ds
end
end Go.Ab
namespace Go.T
open Go.Ab
variable [Go.Ab.DM]
section
variable {ζ:Nat -> Row} {num:Nat -> Nat} {rows:Rows} {H:Heap}
end
end Go.T
namespace Go.T
open Go.Ab
variable [Go.Ab.DM]
def argsE_at:∀ (l:List TV) (n i:Nat),zAm (argsE n l) (n + i) = (l[i]?).map fun v=>⟨n + i,0,[],v⟩
 | [],n,i=>rfl
 | v :: l,n,0=>by simp [argsE,zAm]
 | v :: l,n,i + 1=>by
  have:=argsE_at l (n + 1) i
  rw [show n + 1 + i = n + (i + 1) by omega] at this
  simp only [argsE,zAm,yBH]
  cases hb:Nat.beq n (n + (i + 1)) with
  | true=>rw [yAP] at hb;omega
  | false=>exact this
def conOk_of {P:Program} {Γ:List Con} (hΓ:∀ c ∈ Γ,zAl P c) (zCm:P.follows .mixedOrders = true) (c:Con) {fn:Func} {body:Code} {hint:Hint} (hf:P.funcs[c.f]? = some fn) (hb:fn.body = some body) (hnm:(fn.name == "runtime.NumGoroutine") = false)
  (hN:c.as.length <= fn.ntmps) (hw:wf fn.ntmps body hint = true) (hq:c.q = none) (hF:∀ x,trunF P Γ fn hint c.as c.ins c.res c.outs x = c.F x) (hlen:∀ x,(zBH c x).length = c.as.length /\ (zBm c x).length = c.ins.length):zAl P c:=by
 intro x hy ζ num H hR hok
 obtain ⟨y,hy⟩:=hy
 have hQ:∀ {z},c.Q x z ↔ c.F x = some z:=fun {z}=>by unfold Con.Q;rw [hq]
 rw [hQ] at hy
 have ht:=hF x
 rw [hy] at ht
 unfold trunF trunFk at ht
 rw [hb] at ht
 dsimp only at ht
 refine Sound.mono (R:=fun dd H'=>∃ ζ' num',HRel ζ' num' (zAT c y) H' /\ dd = enc (zAB num' (zAT c y)) (zBT c y) /\ okV (zAT c y) (zBT c y) /\
  (∀ r,zAW (zAA (zAT c y) r) = true -> (r < c.ins.length -> num' r = num r) /\ (c.ins.length <= r -> H.length <= num' r)) /\ ∀ r,r < c.ins.length -> zAS (zAA (zAT c y) r) = true -> zCg (zAA (zAT c y) r) = zCg (zAA (zBm c x) r)) ?_ fun dd H' h=>⟨y,hQ.2 hy,h⟩
 refine zBq hf hb hnm rfl (by rw [yAG,(hlen x).1];exact hN) ?_
 let B:Base:=⟨c.ins.length,H.length,num,fun r=>zCg (zAA (zBm c x) r)⟩
 let s:St:=⟨argsE 0 (zBH c x),zBm c x,[]⟩
 have hfe:∀ n,zAm (argsE 0 (zBH c x)) n = ((zBH c x)[n]?).map fun v=>⟨n,0,[],v⟩:=fun n=>by
  have:=argsE_at (zBH c x) 0 n
  simp only [yAT] at this
  exact this
 have hplain:Plain s:=⟨rfl,fun n ent hf=>by
  have hf:zAm (argsE 0 (zBH c x)) n = some ent:=hf
  rw [hfe] at hf
  cases hv:(zBH c x)[n]? with
  | none=>rw [hv] at hf;cases hf
  | some v=>rw [hv] at hf;have:=yAA hf;subst this;rfl⟩
 have hlive:∀ r,zAW (zAA (zBm c x) r) = true -> r < c.ins.length:=fun r hl=>by rw [<- (hlen x).2];exact zAw (live_row hl)
 have ha:Abs B ζ num s (zCn num s) H:=⟨rfl,hR,fun n ent hf _=>by
     have hf:zAm (argsE 0 (zBH c x)) n = some ent:=hf
     rw [hfe] at hf
     cases hv:(zBH c x)[n]? with
     | none=>rw [hv] at hf;cases hf
     | some v=>rw [hv] at hf;have:=yAA hf;subst this;exact hok v (yAt hv),
  fun n b h=>(by cases h),fun r hl=>⟨fun _=>rfl,fun h=>absurd (hlive r hl) (Nat.not_lt.2 h)⟩,yAJ _,Nat.le_of_eq (hlen x).2.symm,fun r _ _=>rfl⟩
 have hw0:WeakS (envOf ((zBH c x).map (enc (zAB num (zBm c x))))) H (zCn num s) H:=WeakS.env fun i=>by
  unfold zCn
  show Tl _ (match zAm (argsE 0 (zBH c x)) i with | some e=>entD num s e | none=>.any)
  rw [hfe]
  cases hv:(zBH c x)[i]? with
  | none=>exact Tl.any _
  | some v =>
   refine Tl.of_eq ?_
   unfold envOf
   rw [yAI,yAy,hv]
   rfl
 have hret:∀ {rs:List ResultVar},rs = fn.results.toList -> ∀ {ζ' num' s' e' H'},endT P rs c.ins.length c.res c.outs s' = some y -> Abs B ζ' num' s' e' H' -> (∀ K,Run P c.f fn.ntmps H.length (fun dd H'=>∃ ζ' num',HRel ζ' num' (zAT c y) H' /\ dd = enc (zAB num' (zAT c y)) (zBT c y) /\ okV (zAT c y) (zBT c y) /\
  (∀ r,zAW (zAA (zAT c y) r) = true -> (r < c.ins.length -> num' r = num r) /\ (c.ins.length <= r -> H.length <= num' r)) /\ ∀ r,r < c.ins.length -> zAS (zAA (zAT c y) r) = true -> zCg (zAA (zAT c y) r) = zCg (zAA (zBm c x) r)) (.code .ret :: K) e' H') /\ Run P c.f fn.ntmps H.length (fun dd H'=>∃ ζ' num',HRel ζ' num' (zAT c y) H' /\ dd = enc (zAB num' (zAT c y)) (zBT c y) /\ okV (zAT c y) (zBT c y) /\
  (∀ r,zAW (zAA (zAT c y) r) = true -> (r < c.ins.length -> num' r = num r) /\ (c.ins.length <= r -> H.length <= num' r)) /\ ∀ r,r < c.ins.length -> zAS (zAA (zAT c y) r) = true -> zCg (zAA (zAT c y) r) = zCg (zAA (zBm c x) r)) [] e' H':=fun hrs ζ' num' s' e' H' he ha'=>by
  have hr:fn.results = _:=(show fn.results = (fn.results.toList).toArray from by simp)
  rw [<- hrs] at hr
  refine ⟨fun K hn=>?_,fun hn=>?_⟩
  ·obtain ⟨ds,h1,ζ2,num2,H2,h2,h3,h4,h5,h6⟩:=end_sound hn ha' (B:=B) rfl he
   exact zBk hf hr h1 h2 ⟨ζ2,num2,h3,rfl,h4,h5,h6⟩ hn
  ·obtain ⟨ds,h1,ζ2,num2,H2,h2,h3,h4,h5,h6⟩:=end_sound hn ha' (B:=B) rfl he
   exact run_end hf hr h1 h2 ⟨ζ2,num2,h3,rfl,h4,h5,h6⟩ hn
 exact run_weak hw0 (trun_sound (B:=B) hΓ zCm body hint ⟨c.ins.length,0,[],endT P fn.results.toList c.ins.length c.res c.outs⟩ _ s y ζ num _ H [] hw rfl ha hplain ht
  (fun ζ' num' s' e' H' h1 h2 _ _=>(hret rfl h1 h2).2) ⟨fun i k' hk=>(by cases hk),fun K' ζ' num' s' e' H' h1 h2 _ _=>(hret rfl h1 h2).1 K'⟩)
def zBN {P:Program}:∀ c ∈ ([]:List Con),zAl P c:=fun _ h=>by cases h
def zAO {P:Program} {c:Con} {l:List Con} (h:zAl P c) (hs:∀ c ∈ l,zAl P c):∀ c' ∈ c :: l,zAl P c':=fun c' hc=>by
 rcases yAE.1 hc with rfl | hc
 ·exact h
 ·exact hs c' hc
def zBM {P:Program} (zCm:P.follows .mixedOrders = true) (Γ:List Con) (hΓ:∀ c ∈ Γ,zAl P c) (c:Con) (fn:Func) (hint:Hint) (hf:P.funcs[c.f]? = some fn) (hnm:(fn.name == "runtime.NumGoroutine") = false:=by kernel_rfl)
  (hN:Nat.ble c.as.length fn.ntmps = true:=by kernel_rfl) (hw:(match fn.body with | some b=>wf fn.ntmps b hint | none=>false) = true:=by kernel_rfl) (hq:c.q = none:=by rfl) (hF:∀ x,trunF P Γ fn hint c.as c.ins c.res c.outs x = c.F x:=by intro x;kernel_rfl) (hlen:∀ x,(zBH c x).length = c.as.length /\ (zBm c x).length = c.ins.length:=by intro x;exact ⟨by kernel_rfl,by kernel_rfl⟩):zAl P c:=by
 cases hb:fn.body with
 | none=>rw [hb] at hw;cases hw
 | some b=>rw [hb] at hw;exact conOk_of hΓ zCm c hf hb hnm (yAc hN) hw hq hF hlen
end Go.T
namespace Go.T
open Go.Ab
variable [Go.Ab.DM]
def InR:(t:Ty) -> t.I -> Prop
 | .int k,n=>(Lit.int k n).wf = true
 | .str,s=>ByteArray.size s <= maxLen
 | .pr a b,x=>InR a x.1 /\ InR b x.2
 | .agg s,x=>InR s x
 | .sl t,l=>List.length (α:=t.I) l <= maxLen /\ ∀ x:t.I,List.Mem x l -> InR t x
 | _,_=>True
def InV (v:TV):Prop:=InR v.t v.x
def in_leaves:∀ (s:Ty) (x:s.I),InR s x ↔ ∀ v ∈ zAK s x,InV v:=by
 intro s
 induction s with
 | pr a b iha ihb =>
  intro x
  show InR a x.1 /\ InR b x.2 ↔ _
  simp only [zAK,List.forall_mem_cons]
  rw [<- ihb x.2];rfl
 | unit=>intro x;simp [zAK,InR]
 | _=>intro x;simp [zAK,InV]
def in_lf (v:TV) (h:InV v):InV v.lf:=by
 obtain ⟨t,x⟩:=v
 cases t <;> first | exact h | trivial
def in_spine:∀ l:List TV,(∀ v ∈ l,InV v) -> InV (zDV l)
 | [],_=>trivial
 | [v],h=>in_lf v (h v (by simp))
 | v :: w :: r,h=>⟨h v (by simp),in_spine (w :: r) fun u hu=>h u (yAF _ hu)⟩
def spine_t:∀ l:List TV,(∀ v ∈ l,v.t.sp = false) -> (zDV l).t = zAY (l.map (·.t))
 | [],_=>rfl
 | [v],h=>by
  have:=h v (by simp)
  obtain ⟨t,x⟩:=v
  cases t <;> first | rfl | (simp [Ty.sp] at this;done)
 | v :: w :: r,h=>by
  have:=spine_t (w :: r) fun u hu=>h u (yAF _ hu)
  show Ty.pr v.t (zDV (w :: r)).t = _
  rw [this];rfl
def Ty.fl:Ty -> List Ty | .agg s=>s.flat | T=>[T]
def fldT (P:Program) (go:TypeId -> Option Ty):List Field -> Nat -> Option (List Ty)
 | [],_=>some []
 | f :: fs,off=>bif Nat.beq f.offset off then (match go f.type,fldT P go fs (off + P.cellsOf f.type) with
  | some (.agg s),some l=>bif Nat.beq (P.cellsOf f.type) s.flat.length then some (s.flat ++ l) else none
  | some u,some l=>bif Nat.beq (P.cellsOf f.type) 1 then some (u :: l) else none
  | _,_=>none) else none
def arrT:Nat -> List Ty -> List Ty
 | 0,_=>[]
 | n + 1,l=>l ++ arrT n l
def rdT (P:Program):Nat -> TypeId -> Option Ty
 | 0,_=>none
 | n + 1,t=>match P.underlying t with
  | some (.int k)=>some (.int k)
  | some .bool=>some .bool
  | some .string=>some .str
  | some (.slice e)=>(match rdT P n e with
   | some u=>bif u.elem && Nat.beq (P.cellsOf e) u.w && !(Nat.beq u.w 0) then some (.sl u) else none
   | none=>none)
  | some (.struct fs)=>(match fldT P (rdT P n) fs.toList 0 with
   | some l=>bif Nat.beq l.length (P.cellsOf t) && l.all (fun u=>!u.sp) then some (.agg (zAY l)) else none
   | none=>none)
  | some (.array k e)=>(match rdT P n e with
   | some (.agg s)=>bif Nat.beq (P.cellsOf e) s.flat.length && Nat.beq (P.cellsOf t) (k * P.cellsOf e) && s.flat.all (fun u=>!u.sp) then some (.agg (zAY (arrT k s.flat))) else none
   | some u=>bif Nat.beq (P.cellsOf e) 1 && Nat.beq (P.cellsOf t) k && !u.sp then some (.agg (zAY (arrT k [u]))) else none
   | none=>none)
  | _=>none
def flat_leaves:∀ (s:Ty) (x:s.I),(zAK s x).map (·.t) = s.flat:=by
 intro s
 induction s with
 | pr a b iha ihb=>intro x;simp only [zAK,Ty.flat,yAL,ihb]
 | _=>intro x;rfl
section
variable {P:Program} {w:World} {own:Nat -> Own} {H:Type} {enc':TypeId × Value -> H} {spare:Nat -> Bool} {held:Bool}
def ToldC (w:World) (own:Nat -> Own) (T:Ty) (cs:List Value):Prop:=∃ v:TV,v.t = T /\ InV v /\ VRels own (fun b=>b < w.heap.size) w 0 (enc zDH v).cells cs
def kids_cells (v:TV):(enc zDH v).cells = (zAs v).map (enc zDH):=by
 obtain ⟨t,x⟩:=v
 cases t <;> first | rfl | skip
 rename_i s
 exact E_leaves s zDH x
def told_agg {l:List Ty} {cs:List Value} (hsp:∀ u ∈ l,u.sp = false) (h:∃ vs:List TV,vs.map (·.t) = l /\ (∀ v ∈ vs,InV v) /\ VRels own (fun b=>b < w.heap.size) w 0 (vs.map (enc zDH)) cs):ToldC w own (.agg (zAY l)) cs:=by
 obtain ⟨vs,h1,h2,h3⟩:=h
 refine ⟨aggV vs,?_,in_spine vs h2,?_⟩
 ·show Ty.agg (zDV vs).t = _
  rw [spine_t vs fun v hv=>hsp _ (by rw [<- h1];exact yAg hv),h1]
 ·rw [enc_agg];exact h3
def told_leaves {T:Ty} {cs:List Value} (h:ToldC w own T cs):∃ vs:List TV,vs.map (·.t) = T.fl /\ (∀ v ∈ vs,InV v) /\ VRels own (fun b=>b < w.heap.size) w 0 (vs.map (enc zDH)) cs:=by
 obtain ⟨⟨t,x⟩,rfl,h2,h3⟩:=h
 rw [kids_cells] at h3
 have lf:∀ {v:TV},zAs v = [v] -> v.t.fl = [v.t] -> InV v -> VRels own (fun b=>b < w.heap.size) w 0 ((zAs v).map (enc zDH)) cs -> ∃ vs:List TV,vs.map (·.t) = v.t.fl /\ (∀ v ∈ vs,InV v) /\ VRels own (fun b=>b < w.heap.size) w 0 (vs.map (enc zDH)) cs:=fun {v} g1 g2 g3 g4=>⟨[v],g2.symm,by simpa using g3,by rw [g1] at g4;exact g4⟩
 cases t with
 | agg s=>exact ⟨zAK s x,flat_leaves s x,(in_leaves s x).1 h2,h3⟩
 | _=>exact lf rfl rfl h2 h3
def reads:∀ (n:Nat) (t:TypeId) (T:Ty),rdT P n t = some T -> ∀ (fuel:Nat) (cs:List Value) (x:DataW H × List MemPlace),DataW.trod enc' P w 0 spare held fuel t cs = some x -> ToldC w own T cs
 | 0,t,T,h=>by cases h
 | n + 1,t,T,h=>by
  intro fuel cs x hx
  simp only [rdT] at h
  split at h
  ·rename_i k hu
   have:=yAA h;subst this
   obtain ⟨m,rfl,_,hw⟩:=DataW.trod_int hu hx
   exact ⟨⟨.int k,m⟩,rfl,hw,by simp [enc,E,D.cells,VRels,VRel]⟩
  ·rename_i hu
   have:=yAA h;subst this
   obtain ⟨b,rfl,_⟩:=DataW.trod_bool hu hx
   exact ⟨⟨.bool,b⟩,rfl,trivial,by simp [enc,E,D.cells,VRels,VRel]⟩
  ·rename_i hu
   have:=yAA h;subst this
   obtain ⟨s,rfl,_,hs⟩:=DataW.trod_string hu hx
   exact ⟨⟨.str,s⟩,rfl,hs,by simp [enc,E,D.cells,VRels,VRel]⟩
  ·rename_i e hu
   split at h
   rotate_left
   ·cases h
   rename_i u he
   obtain ⟨hb,h⟩:=zAa h
   have:=yAA h;subst this
   simp only [yAB,yAP,yBR] at hb
   obtain ⟨⟨hel,hcl⟩,hw0⟩:=hb
   have hw0:u.w ≠ 0:=fun h0=>by rw [h0] at hw0;cases hw0
   rcases DataW.trod_slice hu hx with ⟨rfl,_⟩ | ⟨a,len,cap,elems,rest,m,_,rfl,_,_,hlc,hcm,hlen,hels,_,_⟩
   ·refine ⟨⟨.sl u,([]:List u.I)⟩,rfl,⟨Nat.zero_le _,fun x hx=>(by cases hx)⟩,?_⟩
    show VRels own _ w 0 [.fz u.w []] _
    simp only [VRels]
    refine ⟨_,[],rfl,?_,rfl⟩
    rw [VRel]
    exact ⟨none,0,rfl,yAJ _,fun h=>absurd rfl h⟩
   ·-- the elements
    have hall:∀ i,i < len -> ∃ (y:u.I) (cs':List Value),InR u y /\ w.cells? 0 (a.add (i * u.w)) u.w = some cs' /\ VRels own (fun b=>b < w.heap.size) w 0 (e0 u y).cells cs':=fun i hi=>by
     have h1:=hels i hi
     have h2:∃ z,elems[i]? = some z:=⟨elems[i],by simp [hlen ▸ hi]⟩
     obtain ⟨z,hz⟩:=h2
     rw [hz,yAn] at h1
     obtain ⟨cs',h3,h4⟩:=h1
     obtain ⟨⟨t',y⟩,rfl,h5,h6⟩:=reads n e u he m cs' z h4
     rw [hcl] at h3
     exact ⟨y,cs',h5,h3,h6⟩
    have hlist:∀ k,k <= len -> ∃ l:List u.I,l.length = k /\ (∀ y ∈ l,InR u y) /\ ∀ i (hi:i < l.length),∃ cs',w.cells? 0 (a.add (i * u.w)) u.w = some cs' /\ VRels own (fun b=>b < w.heap.size) w 0 (e0 u l[i]).cells cs':=by
     intro k
     induction k with
     | zero=>intro _;exact ⟨[],rfl,by simp,by simp⟩
     | succ k ih =>
      intro hk
      obtain ⟨l,h1,h2,h3⟩:=ih (by omega)
      obtain ⟨y,cs',h4,h5,h6⟩:=hall k (by omega)
      refine ⟨l ++ [y],by simp [h1],fun z hz=>?_,fun i hi=>?_⟩
      ·rcases yAO.1 hz with hz | hz
       ·exact h2 z hz
       ·rw [yAm] at hz;subst hz;exact h4
      ·by_cases hil:i < l.length
       ·rw [List.getElem_append_left hil];exact h3 i hil
       ·have hik:i = k:=by simp at hi;omega
        subst hik
        refine ⟨cs',h5,?_⟩
        rw [List.getElem_append_right (by omega)]
        simpa using h6
    obtain ⟨l,h1,h2,h3⟩:=hlist len (yAJ _)
    refine ⟨⟨.sl u,l⟩,rfl,⟨by show List.length l <= _;omega,h2⟩,?_⟩
    show VRels own _ w 0 [.fz u.w (l.map (e0 u))] _
    simp only [VRels]
    refine ⟨_,[],rfl,?_,rfl⟩
    rw [VRel,yAG,h1]
    refine ⟨some a,cap,rfl,hlc,fun h0=>?_⟩
    obtain ⟨b,off,spot⟩:=a
    obtain ⟨cs0,h4,_⟩:=h3 0 (by omega)
    obtain ⟨_,hl4,hc4⟩:=World.cells?_some h4
    have hc5:=hc4 0 (by omega)
    have hcs0:cs0[0]? = some cs0[0]:=by simp
    rw [hcs0] at hc5
    have hspot:spot = none /\ b < w.heap.size:=by
     have e0:((⟨b,off,spot⟩:Addr).add (0 * u.w)).add 0 = ⟨b,off,spot⟩:=by simp [Addr.add]
     rw [e0] at hc5
     unfold World.cell? at hc5
     cases hb:w.heap[b]? with
     | none=>simp only [hb] at hc5;cases hc5
     | some o =>
      have hlt:b < w.heap.size:=by
       rcases yAZ b w.heap.size with h | h
       ·exact h
       ·rw [yAz h] at hb;cases hb
      refine ⟨?_,hlt⟩
      simp only [hb] at hc5
      cases spot with
      | none=>rfl
      | some z=>cases o <;> simp at hc5
    obtain ⟨rfl,hbl⟩:=hspot
    refine ⟨b,off,rfl,hbl,?_⟩
    have hcells:∀ (l':List u.I) (j:Nat),(∀ i (hi:i < l'.length),∃ cs',w.cells? 0 ⟨b,off + (j + i) * u.w,none⟩ u.w = some cs' /\ VRels own (fun b=>b < w.heap.size) w 0 (e0 u l'[i]).cells cs') -> Cells own (fun b=>b < w.heap.size) w 0 u.w (l'.map (e0 u)) b (off + j * u.w):=by
     intro l'
     induction l' with
     | nil=>intro j _;simp [Cells]
     | cons y l' ih =>
      intro j hh
      rw [yAL,Cells,zCe]
      refine ⟨⟨?_,?_⟩,?_⟩
      ·rw [<- D.width_eq];exact elem_width hel zDH y
      ·obtain ⟨cs',k1,k2⟩:=hh 0 (by simp)
       obtain ⟨_,k3,k4⟩:=World.cells?_some k1
       rw [Flat_values]
       refine ⟨elem_cells hel zDH y,cs',by simpa using k2,fun i hi=>?_⟩
       have:=k4 i (by omega)
       rw [zCf] at this
       simpa using this
      ·have:=ih (j + 1) fun i hi=>by
        obtain ⟨cs',k1,k2⟩:=hh (i + 1) (by simpa using hi)
        refine ⟨cs',by rw [show j + 1 + i = j + (i + 1) by omega];exact k1,by simpa using k2⟩
       rw [yAv,Nat.one_mul,<- Nat.add_assoc] at this
       exact this
    have:=hcells l 0 fun i hi=>by
     obtain ⟨cs',k1,k2⟩:=h3 i hi
     exact ⟨cs',by rw [yAT,<- zCf];exact k1,k2⟩
    simpa using this
  ·rename_i fs hu
   split at h
   rotate_left
   ·cases h
   rename_i l hl
   obtain ⟨hb,h⟩:=zAa h
   have:=yAA h;subst this
   simp only [yAB,yAP,yAR,yBR] at hb
   obtain ⟨xs,m,_,_,hcl,hxl,hf⟩:=DataW.trod_struct hu hx
   refine told_agg hb.2 ?_
   have key:∀ (fl:List Field) (i off:Nat) (l:List Ty),fldT P (rdT P n) fl off = some l -> (∀ j f,fl[j]? = some f -> fs[i + j]? = some f) -> cs.length = off + l.length ->
       ∃ vs:List TV,vs.map (·.t) = l /\ (∀ v ∈ vs,InV v) /\ VRels own (fun b=>b < w.heap.size) w 0 (vs.map (enc zDH)) (cs.drop off):=by
    intro fl
    induction fl with
    | nil =>
     intro i off l h1 _ h3
     have:=yAA h1;subst this
     exact ⟨[],rfl,by simp,by rw [List.drop_eq_nil_of_le (by simp at h3;omega)];simp [VRels]⟩
    | cons f fl ih =>
     intro i off l h1 h2 h3
     simp only [fldT] at h1
     obtain ⟨ho,h1⟩:=zAa h1
     rw [yAP] at ho
     have hfi:=h2 0 f rfl
     rw [Nat.add_zero] at hfi
     have hread:=hf i f hfi
     have hx2:∃ z,xs[i]? = some z:=by
      have:i < xs.length:=by
       rw [hxl]
       rcases yAZ i fs.size with h | h
       ·exact h
       ·rw [yAz h] at hfi;cases hfi
      exact ⟨xs[i],by simp [this]⟩
     obtain ⟨z,hz⟩:=hx2
     rw [hz,ho] at hread
     have step:∀ (T:Ty) (lt lr:List Ty),rdT P n f.type = some T -> T.fl = lt -> fldT P (rdT P n) fl (off + P.cellsOf f.type) = some lr -> P.cellsOf f.type = lt.length -> l = lt ++ lr ->
         ∃ vs:List TV,vs.map (·.t) = l /\ (∀ v ∈ vs,InV v) /\ VRels own (fun b=>b < w.heap.size) w 0 (vs.map (enc zDH)) (cs.drop off):=fun T lt lr g1 g2 g3 g4 g5=>by
      obtain ⟨vs,k1,k2,k3⟩:=told_leaves (reads n f.type T g1 m _ z hread)
      obtain ⟨us,k4,k5,k6⟩:=ih (i + 1) (off + P.cellsOf f.type) lr g3 (fun j f' hj=>by rw [show i + 1 + j = i + (j + 1) by omega];exact h2 (j + 1) f' (by simpa using hj)) (by rw [h3,g5,yAD,g4];omega)
      refine ⟨vs ++ us,by rw [yAV,k1,k4,g2,g5],fun v hv=>?_,?_⟩
      ·rcases yAO.1 hv with hv | hv
       ·exact k2 v hv
       ·exact k5 v hv
      ·rw [yAV,<- yAk (P.cellsOf f.type) (cs.drop off),List.drop_drop]
       exact zBF k3 k6
     split at h1
     ·rename_i s lr g1 g2
      obtain ⟨g3,h1⟩:=zAa h1
      rw [yAP] at g3
      exact step _ _ lr g1 rfl g2 g3 (yAA h1).symm
     ·rename_i u lr hne g1 g2
      obtain ⟨g3,h1⟩:=zAa h1
      rw [yAP] at g3
      refine step u [u] lr g1 ?_ g2 (by simpa using g3) (yAA h1).symm
      cases u <;> first | rfl | exact (hne _ rfl).elim
     ·cases h1
   have:=key fs.toList 0 0 l hl (fun j f hj=>by rw [yAT];simpa using hj) (by rw [yAT];omega)
   simpa using this
  ·rename_i k e hu
   have arr:∀ (T:Ty) (lt:List Ty),rdT P n e = some T -> T.fl = lt -> P.cellsOf e = lt.length -> P.cellsOf t = k * P.cellsOf e -> (∀ u ∈ lt,u.sp = false) -> ToldC w own (.agg (zAY (arrT k lt))) cs:=fun T lt g1 g2 g3 g4 g5=>by
    obtain ⟨xs,m,_,_,hcl,hxl,hf⟩:=DataW.trod_array hu hx
    refine told_agg (fun u hu'=>?_) ?_
    ·have:∀ k,∀ u ∈ arrT k lt,u ∈ lt:=by
      intro k
      induction k with
      | zero=>intro u h;cases h
      | succ k ih=>intro u h;rcases yAO.1 h with h | h;exact h;exact ih u h
     exact g5 u (this k u hu')
    ·have key:∀ j,j <= k -> ∃ vs:List TV,vs.map (·.t) = arrT j lt /\ (∀ v ∈ vs,InV v) /\ VRels own (fun b=>b < w.heap.size) w 0 (vs.map (enc zDH)) (cs.drop ((k - j) * P.cellsOf e)):=by
      intro j
      induction j with
      | zero=>intro _;exact ⟨[],rfl,by simp,by rw [List.drop_eq_nil_of_le (by rw [hcl,g4];exact yAJ _)];simp [VRels]⟩
      | succ j ih =>
       intro hj
       obtain ⟨us,k4,k5,k6⟩:=ih (by omega)
       have hread:=hf (k - (j + 1)) (by omega)
       have hz:xs[k - (j + 1)]? = some xs[k - (j + 1)]:=by simp
       rw [hz] at hread
       obtain ⟨vs,k1,k2,k3⟩:=told_leaves (reads n e T g1 m _ _ hread)
       refine ⟨vs ++ us,by rw [yAV,k1,k4,g2];rfl,fun v hv=>?_,?_⟩
       ·rcases yAO.1 hv with hv | hv
        ·exact k2 v hv
        ·exact k5 v hv
       ·rw [yAV,<- yAk (P.cellsOf e) (cs.drop _),List.drop_drop]
        have e1:(k - (j + 1)) * P.cellsOf e + P.cellsOf e = (k - j) * P.cellsOf e:=by rw [<- Nat.succ_mul];congr 1;omega
        rw [e1]
        exact zBF k3 k6
     have:=key k (yAJ _)
     simpa using this
   split at h
   ·rename_i s he
    obtain ⟨hb,h⟩:=zAa h
    have:=yAA h;subst this
    simp only [yAB,yAP,yAR,yBR] at hb
    exact arr _ _ he rfl hb.1.1 hb.1.2 hb.2
   ·rename_i u hne he
    obtain ⟨hb,h⟩:=zAa h
    have:=yAA h;subst this
    simp only [yAB,yAP,yBR] at hb
    refine arr u [u] he ?_ (by simpa using hb.1.1) (by rw [hb.1.1,hb.1.2,Nat.mul_one]) (fun v hv=>by rw [yAm] at hv;subst hv;exact hb.2)
    cases u <;> first | rfl | exact (hne _ rfl).elim
   ·cases h
  ·cases h
end
end Go.T
namespace Go.T
open Go.Ab Go.ChangeShapes Go.RowKit
variable [Go.Ab.DM]
section
variable {H:Type} {enc':TypeId × Value -> H} {P:Program}
def arg_told {n:Nat} {t:TypeId} {T:Ty} {w:World} {own:Nat -> Own} {base:Nat} {v:Value} {d:DataW H} {ps:List MemPlace} {spare:Nat -> Bool} {held:Bool} (hT:rdT P n t = some T) (hok:Value.okWide P w .any base t v) (h:DataW.Trod enc' P w 0 spare held t v d ps) :
  ∃ u:TV,u.t = T /\ InV u /\ VRel own (fun b=>b < w.heap.size) w 0 (enc zDH u) v:=by
 obtain ⟨fuel,hf⟩:=h
 obtain ⟨u,h1,h2,h3⟩:=reads (own:=own) n t T hT fuel _ _ hf
 refine ⟨u,h1,h2,?_⟩
 have hsh:(∃ s,T = .agg s /\ ∃ cs,v = .agg cs) \/ ((∀ s,T ≠ .agg s) /\ ∀ cs,v ≠ .agg cs):=by
  cases n with
  | zero=>cases hT
  | succ n =>
   simp only [rdT] at hT
   unfold Value.okWide at hok
   split at hT
   ·rename_i k hu
    have:=yAA hT;subst this
    rw [hu] at hok
    refine .inr ⟨fun s h=>(by cases h),fun cs hc=>?_⟩
    subst hc;simp [Cell.okWide,hu,Cell.ok] at hok
   ·rename_i hu
    have:=yAA hT;subst this
    rw [hu] at hok
    refine .inr ⟨fun s h=>(by cases h),fun cs hc=>?_⟩
    subst hc;simp [Cell.okWide,hu,Cell.ok] at hok
   ·rename_i hu
    have:=yAA hT;subst this
    rw [hu] at hok
    refine .inr ⟨fun s h=>(by cases h),fun cs hc=>?_⟩
    subst hc;simp [Cell.okWide,hu,Cell.ok] at hok
   ·rename_i e hu
    split at hT
    ·obtain ⟨_,hT⟩:=zAa hT
     have:=yAA hT;subst this
     rw [hu] at hok
     refine .inr ⟨fun s h=>(by cases h),fun cs hc=>?_⟩
     subst hc;simp [Cell.okWide,hu,Cell.ok] at hok
    ·cases hT
   ·rename_i fs hu
    rw [hu] at hok
    obtain ⟨cs,hc,_⟩:=hok
    split at hT
    ·obtain ⟨_,hT⟩:=zAa hT
     exact .inl ⟨_,(yAA hT).symm,cs,hc⟩
    ·cases hT
   ·rename_i k e hu
    rw [hu] at hok
    obtain ⟨cs,hc,_⟩:=hok
    split at hT
    ·obtain ⟨_,hT⟩:=zAa hT
     exact .inl ⟨_,(yAA hT).symm,cs,hc⟩
    ·obtain ⟨_,hT⟩:=zAa hT
     exact .inl ⟨_,(yAA hT).symm,cs,hc⟩
    ·cases hT
   ·cases hT
 rcases hsh with ⟨s,hs,cs,rfl⟩ | ⟨hs,hv⟩
 ·obtain ⟨t',x⟩:=u
  have h1:t' = .agg s:=h1.trans hs
  subst h1
  have e1:enc zDH ⟨.agg s,x⟩ = .agg (E s zDH x).2:=rfl
  rw [e1] at h3 ⊢
  rw [VRel]
  exact ⟨cs.toList,by simp,by simpa [D.cells,Value.cells] using h3⟩
 ·have hne:∀ s,u.t ≠ .agg s:=fun s h=>hs s (h1.symm.trans h)
  have hc:(enc zDH u).cells = [enc zDH u]:=by
   obtain ⟨t',x⟩:=u
   cases t' <;> first | rfl | exact (hne _ rfl).elim
  have hvc:v.cells.toList = [v]:=by
   cases v <;> first | rfl | exact (hv _ rfl).elim
  rw [hc,hvc] at h3
  rw [VRels] at h3
  obtain ⟨y,ys,h4,h5,h6⟩:=h3
  cases h4;exact h5
def args_read {w:World} {own:Nat -> Own} {base:Nat} {spare:Nat -> Bool} {held:Bool}:∀ {ts:List TypeId} {as0:List Ty} {args:List Value} {ds:List (DataW H)} {ps:List MemPlace},ts.map (rdT P 8) = as0.map some -> (∀ (j:Nat) t v,ts[j]? = some t -> args[j]? = some v -> Value.okWide P w .any base t v) ->
  DataW.TrodAll enc' P w 0 spare held ts args ds ps -> ∃ vs:List TV,vs.map (·.t) = as0 /\ (∀ v ∈ vs,InV v) /\ VRels own (fun b=>b < w.heap.size) w 0 (vs.map (enc zDH)) args
 | [],as0,args,ds,ps,hT,hok,h=>by
  obtain ⟨rfl,rfl,rfl⟩:=trodAll_nil h
  have:as0 = []:=by simpa using hT
  subst this
  exact ⟨[],rfl,by simp,by simp [VRels]⟩
 | t :: ts,as0,args,ds,ps,hT,hok,h=>by
  obtain ⟨v,vs1,d,ds1,a,b,rfl,rfl,rfl,h1,h2⟩:=trodAll_cons h
  cases as0 with
  | nil=>simp at hT
  | cons T as0 =>
   simp only [yAL,yAq] at hT
   obtain ⟨u,g1,g2,g3⟩:=arg_told (own:=own) hT.1 (hok 0 t v rfl rfl) h1
   obtain ⟨us,g4,g5,g6⟩:=args_read (own:=own) hT.2 (fun j t v ht hv=>hok (j + 1) t v (by simpa using ht) (by simpa using hv)) h2
   refine ⟨u :: us,by simp [g1,g4],fun v hv=>?_,?_⟩
   ·rcases yAE.1 hv with rfl | hv
    ·exact g2
    ·exact g5 v hv
   ·rw [yAL,VRels];exact ⟨v,vs1,rfl,g3,g6⟩
def all_stay {W W':World} (hl:laidOutB P = true) (hb:∀ b,b < W.heap.size -> W'.heap[b]? = W.heap[b]?) {sp:Nat -> Bool}:∀ {ts:List TypeId} {args:List Value} {ds:List (DataW H)} {ps:List MemPlace},(∀ t ∈ ts,P.readableRec t = true /\ t < P.types.size) ->
  DataW.TrodAll enc' P W 0 (fun _=>true) true ts args ds ps -> (∀ p ∈ ps,p.block < W.heap.size) -> (∀ p ∈ ps,sp p.block = true) -> DataW.TrodAll enc' P W' 0 sp true ts args ds ps
 | [],args,ds,ps,_,h,_,_=>by
  obtain ⟨rfl,rfl,rfl⟩:=trodAll_nil h
  rfl
 | t :: ts,args,ds,ps,hr,h,hlt,hs=>by
  obtain ⟨v,vs1,d,ds1,a,b,rfl,rfl,rfl,h1,h2⟩:=trodAll_cons h
  have same:∀ p:MemPlace,p.block < W.heap.size -> W.sameAt W' p:=fun p hp=>by
   cases p with
   | cell b o=>exact World.cell?_of_block (w:=W) (hb b hp)
   | map b=>exact hb b hp
  refine ⟨a,b,?_,all_stay hl hb (fun t ht=>hr t (yAF _ ht)) h2 (fun p hp=>hlt p (yAh _ hp)) (fun p hp=>hs p (yAh _ hp)),rfl⟩
  exact WideElems.Trod_stays hl (hr t (by simp)).1 (hr t (by simp)).2 h1 (fun p hp=>same p (hlt p (yAu _ hp))) (fun p hp=>hs p (yAu _ hp))
def kept_of_blocks {W W':World} {may:MemPlace -> Prop} (ho:W'.os = W.os) (hu:W'.output = W.output) (hb:∀ b,b < W.heap.size -> W'.heap[b]? = W.heap[b]?):W.keptBut W' may:=by
 refine ⟨ho,hu,fun i hi=>?_⟩
 rw [hb i hi]
 have:=(World.keptBut_refl W may).2.2 i hi
 exact this
def law_post {s:ChangeSpec} {fn:Func} {c:Con} {tb:TypeId} {apart fresh handsOn again:Bool} (hl:laidOutB P = true) (ok:zAl P c) (hins:c.ins = []) (houts:c.outs = []) (hq:c.q = none)
  (hpar:fn.params.toList.map (rdT P 8) = c.as.map some) (hpure:c.as.all Ty.pure = true) (hr:∀ t ∈ fn.params.toList,P.readableRec t = true /\ t < P.types.size) (hres:fn.resultTypes = #[tb]) (htb:P.underlying tb = some .bool)
  (hF:∀ vs:List TV,vs.map (·.t) = c.as -> (∀ v ∈ vs,InV v) -> ∃ x,zBH c x = vs /\ ∃ y,c.F x = some y /\ zBT c y = ⟨.bool,true⟩)
  (hsv:s.vars = []) (hsf:∀ ds:List (DataW H),ds.length = fn.params.toList.length -> (s.fn H (ds ++ [])).results = [.lit (.bool true)] /\ (s.fn H (ds ++ [])).args = ds /\ (s.fn H (ds ++ [])).vars = [])
  {W:World} {base:Nat} {args:Array Value} {ds gs:List (DataW H)} {before:List MemPlace} (hval:∀ (j:Nat) t v,fn.params[j]? = some t -> args[j]? = some v -> Value.okWide P W .any base t v)
  (hW:DataW.Whole enc' P fn.params.toList s.vars apart W args.toList ds gs before) :
  Calls P c.f args W fun e W'=>∃ v,e = .returned v /\ s.post enc' P fn apart fresh handsOn again W args v W':=by
 have hW':=hW
 rw [hsv] at hW
 obtain ⟨p,q,hA,hV,rfl,hfz,hnd⟩:=hW
 obtain ⟨rfl,rfl⟩:=trodVars_none hV
 have hds:ds.length = fn.params.toList.length:=by
  have:∀ {ts:List TypeId} {vs:List Value} {ds:List (DataW H)} {ps:List MemPlace},DataW.TrodAll enc' P W 0 (fun _=>true) true ts vs ds ps -> ds.length = ts.length:=by
   intro ts
   induction ts with
   | nil=>intro vs ds ps h;obtain ⟨rfl,rfl,rfl⟩:=trodAll_nil h;rfl
   | cons t ts ih=>intro vs ds ps h;obtain ⟨v,vs1,d,ds1,a,b,rfl,rfl,rfl,h1,h2⟩:=trodAll_cons h;simp [ih h2]
  exact this hA
 let own:Nat -> Own:=fun _=>⟨0,0,0,0⟩
 obtain ⟨vs,h1,h2,h3⟩:=args_read (own:=own) hpar (fun j t v ht hv=>hval j t v (by simpa using ht) (by simpa using hv)) hA
 obtain ⟨x,hx,y,hy,hyr⟩:=hF vs h1 h2
 have hrows:zBm c x = []:=by unfold zBm;rw [hins];rfl
 have hQ:∃ y,c.Q x y:=⟨y,by unfold Con.Q;rw [hq];exact hy⟩
 have hpv:∀ v ∈ vs,v.t.pure = true:=fun v hv=>yAR.1 hpure _ (by rw [<- h1];exact yAg hv)
 have hS:=ok x hQ (fun _=>.sit ByteArray.empty 0) (fun _=>0) [] (by rw [hrows];exact ⟨fun r=>trivial,fun r q h=>(by cases h),fun r t x h=>(by cases h)⟩) (by rw [hx,hrows];exact fun v hv=>zCR _ _ (hpv v hv))
 rw [hx,hrows] at hS
 have hsim:Sim own [] (fun _=>False) W:=⟨fun r row h=>(by cases h),fun r r' row row' h=>(by cases h),fun b h=>h.elim⟩
 have hU:zAQ own [] (fun _=>False) W = fun b=>b < W.heap.size:=funext fun b=>propext (by rw [unowned_nil];simp)
 have hrel:zCL own [] (fun _=>False) W (vs.map (enc (zAB (fun _=>0) []))) args.toList:=by
  have e1:vs.map (enc (zAB (fun _=>0) [])) = vs.map (enc zDH):=List.map_congr_left fun v hv=>enc_pure (hpv v hv) _ _
  rw [e1,zCL,hU];exact h3
 have hC:=hS.2 own (fun _=>False) W args.toList hsim hrel
 have ea:args.toList.toArray = args:=by simp
 rw [ea] at hC
 refine hC.mono fun e W' hh=>?_
 obtain ⟨own',d,H',v,rfl,_,g2,g3,y',gQ,ζ',num',_,rfl,_⟩:=hh
 have hyy:y' = y:=by
  unfold Con.Q at gQ;rw [hq] at gQ
  exact yAA (gQ.symm.trans hy)
 subst hyy
 rw [hyr] at g2
 have hv:v = .bool true:=by
  rw [Rel] at g2
  have e:enc (zAB num' (zAT c y')) ⟨.bool,true⟩ = .v (.bool true):=rfl
  rw [e,VRel] at g2;exact g2
 subst hv
 have hblk:∀ b,b < W.heap.size -> W'.heap[b]? = W.heap[b]?:=fun b hb=>(g3.hb b (by rw [hU];exact hb)).2
 obtain ⟨hs1,hs2,hs3⟩:=hsf ds hds
 have hlt:∀ p' ∈ p,p'.block < W.heap.size:=fun p' hp'=>by
  have:=DataW.TrodAll.lt hA p' hp';exact this
 have hargs:∀ sp:Nat -> Bool,(∀ p' ∈ p,sp p'.block = true) -> DataW.TrodAll enc' P W' 0 sp true fn.params.toList args.toList (s.fn H (ds ++ [])).args p:=fun sp hsp=>by
  rw [hs2];exact all_stay hl hblk hr hA hlt hsp
 have hresT:∀ (b:Nat) (sp:Nat -> Bool) (hd:Bool),DataW.TrodAll enc' P W' b sp hd fn.resultTypes.toList ((Value.bool true).resultList fn.resultTypes.size) (s.fn H (ds ++ [])).results []:=fun b sp hd=>by
  rw [hs1,hres]
  exact trodAll_mk1 (shut_bool htb true)
 have hfr:∀ b off,b < W.heap.size -> W'.frozen? ⟨b,off,none⟩ = W.frozen? ⟨b,off,none⟩:=fun b off hb=>by
  unfold World.frozen?
  rw [hblk b hb]
 refine ⟨_,rfl,ds,[],p ++ [],[],p,[],hW',hresT _ _ _,hargs _ fun p' hp'=>by simpa using hlt p' hp',?_,?_,fun _=>⟨?_,_,[],([] ++ p) ++ [],⟨[] ++ p,[],trodAll_append (hargs (fun _=>true) (fun _ _=>rfl)) (hresT _ _ _),?_,rfl,?_,?_⟩,?_⟩⟩
 ·rw [hs3,hsv];rfl
 ·refine World.keptBut_mono (fun p' hp'=>⟨hp',?_⟩) (kept_of_blocks (may:=(· ∈ p ++ [])) g3.st.os g3.st.out hblk)
  exact .inr (.inl (by simpa using hp'))
 ·exact ok_one hres rfl (okWide_bool_mk htb true)
 ·rw [hsv];rfl
 ·intro b off hp'
  have hp':MemPlace.cell b off ∈ p:=by simpa using hp'
  rw [hfr b off (hlt _ hp')]
  exact hfz b off (by simpa using hp')
 ·intro ha
  have:=hnd ha
  simpa using this
 ·intro p' hp' _
  simpa using hp'
end
end Go.T
namespace Go.T
open Go
def one_of {a:Ty}:∀ {vs:List TV},vs.map (·.t) = [a] -> ∃ x,vs = [⟨a,x⟩]
 | [⟨t,x⟩],h=>by
  simp only [yAL,yBM,yAq,and_true] at h
  subst h;exact ⟨x,rfl⟩
 | [],h=>by cases h
 | _ :: _ :: _,h=>by cases h
def more_of {a:Ty} {l:List Ty}:∀ {vs:List TV},vs.map (·.t) = a :: l -> ∃ x ws,vs = ⟨a,x⟩ :: ws /\ ws.map (·.t) = l
 | ⟨t,x⟩ :: ws,h=>by
  simp only [yAL,yAq] at h
  obtain ⟨rfl,h⟩:=h
  exact ⟨x,ws,rfl,h⟩
 | [],h=>by cases h
def two_of {a b:Ty} {vs:List TV} (h:vs.map (·.t) = [a,b]):∃ x y,vs = [⟨a,x⟩,⟨b,y⟩]:=by
 obtain ⟨x,ws,rfl,g⟩:=more_of h
 obtain ⟨y,rfl⟩:=one_of g
 exact ⟨x,y,rfl⟩
def three_of {a b c:Ty} {vs:List TV} (h:vs.map (·.t) = [a,b,c]):∃ x y z,vs = [⟨a,x⟩,⟨b,y⟩,⟨c,z⟩]:=by
 obtain ⟨x,ws,rfl,g⟩:=more_of h
 obtain ⟨y,z,rfl⟩:=two_of g
 exact ⟨x,y,z,rfl⟩
end Go.T
namespace Go.Ab
variable [Go.Ab.DM]
section
variable {P:Program} {f:FuncId} {ds:List D} {H:Heap}
def mvH (H:Heap) (a b k m:Nat) (xs:List D):Heap:=((H.set b none).set a (some (.cells 1 [.sl H.length 0 m]))) ++ [some (.cells k xs)]
def mvH_get {H:Heap} {a b k m:Nat} {xs:List D} (ha:a < H.length) (hb:b < H.length) (r:Nat):(mvH H a b k m xs).get r = if r = H.length then some (.cells k xs) else if r = a then some (.cells 1 [.sl H.length 0 m]) else if r = b then none else H.get r:=by
 unfold mvH
 rw [Heap.get_push]
 simp only [yBK]
 split
 ·rfl
 ·rw [Heap.get_set _ (by simpa using ha),Heap.get_set _ hb]
def mv_sim {own:Nat -> Own} {X:Nat -> Prop} {w:World} (hs:Sim own H X w) {a b k m:Nat} {xs:List D} (hab:a ≠ b) (hga:H.get a = some (.cells 1 [.sl b 0 m])) (hgb:H.get b = some (.cells k xs)) :
  ∃ own',Sim own' (mvH H a b k m xs) X w /\ Ext X own H w own' (mvH H a b k m xs) w /\ ∀ d v,Rel own H X w d v -> Rel own' (mvH H a b k m xs) X w d v:=by
 have ha:=Heap.get_lt hga
 have hb:=Heap.get_lt hgb
 have hget:=fun r=>mvH_get (m:=m) (k:=k) (xs:=xs) ha hb r
 have hlen:(mvH H a b k m xs).length = H.length + 1:=by simp [mvH]
 refine ⟨fun r=>if r = H.length then own b else own r,?_⟩
 generalize hown:(fun r=>if r = H.length then own b else own r) = own'
 have hN:own' H.length = own b:=by rw [<- hown];simp
 have hO:∀ r,r ≠ H.length -> own' r = own r:=fun r h=>by rw [<- hown];simp [h]
 have back:∀ r row,(mvH H a b k m xs).get r = some row -> ∃ q row0,H.get q = some row0 /\ own' r = own q /\ ((r = H.length /\ q = b) \/ (r ≠ H.length /\ r ≠ b /\ q = r)):=fun r row h=>by
  rw [hget] at h
  split at h
  ·rename_i e;subst e;exact ⟨b,_,hgb,hN,.inl ⟨rfl,rfl⟩⟩
  ·rename_i e
   split at h
   ·rename_i e2;subst e2;exact ⟨r,_,hga,hO _ e,.inr ⟨e,hab,rfl⟩⟩
   ·split at h
    ·cases h
    ·rename_i e3;exact ⟨r,_,h,hO _ e,.inr ⟨e,e3,rfl⟩⟩
 have hU:zAQ own' (mvH H a b k m xs) X w = zAQ own H X w:=funext fun q=>propext (by
  constructor
  ·rintro ⟨h1,h2,h3⟩
   refine ⟨h1,h2,fun r row hr=>?_⟩
   have hrl:r ≠ H.length:=Nat.ne_of_lt (Heap.get_lt hr)
   by_cases e:r = b
   ·subst e;rw [<- hN];exact h3 H.length _ (by rw [hget,if_pos rfl])
   ·by_cases e2:r = a
    ·subst e2;rw [<- hO _ hrl];exact h3 r _ (by rw [hget,if_neg hrl,if_pos rfl])
    ·rw [<- hO _ hrl];exact h3 r row (by rw [hget,if_neg hrl,if_neg e2,if_neg e];exact hr)
  ·rintro ⟨h1,h2,h3⟩
   refine ⟨h1,h2,fun r row hr=>?_⟩
   obtain ⟨q',row0,h4,h5,_⟩:=back r row hr
   rw [h5];exact h3 q' row0 h4)
 have keeps:Keeps own H.length (zAQ own H X w) w own' (mvH H a b k m xs).length (zAQ own' (mvH H a b k m xs) X w) w :=
  ⟨by omega,fun r hr=>hO r (by omega),fun b hb=>by rw [hU];exact hb,fun _ _ _=>rfl⟩
 refine ⟨⟨fun r row hr=>?_,fun r r' row row' hr hr' hne=>?_,hs.hid⟩,⟨yAJ _,by omega,fun r hr=>hO r (by omega),fun b hb=>⟨by rw [hU];exact hb,rfl⟩,fun _ _=>rfl,.refl _⟩,fun d v h=>VRel.mono keeps d v h⟩
 ·obtain ⟨q,row0,h1,h2,h3⟩:=back r row hr
  rw [h2]
  refine ⟨?_,(hs.live _ _ h1).2⟩
  rw [hget] at hr
  split at hr
  ·rename_i e
   have:=yAA hr;subst this
   rcases h3 with ⟨_,rfl⟩ | ⟨h,_⟩
   ·exact RowOk.mono keeps rfl (hs.live _ _ hgb).1
   ·exact absurd e h
  ·rename_i e
   rcases h3 with ⟨h,_⟩ | ⟨_,h3,rfl⟩
   ·exact absurd h e
   split at hr
   ·rename_i e2;subst e2
    have:=yAA hr;subst this
    obtain ⟨g1,c,t,g2,g3,g4,g5⟩:=RowOk.mono keeps rfl (hs.live _ _ hga).1
    refine ⟨g1,c,t,g2,g3,by simpa using g4,?_⟩
    have g6:=Cells_get (i:=0) g5 rfl
    rw [zCe] at g6
    rw [Cells]
    refine ⟨?_,by rw [Cells];trivial⟩
    rw [zCe]
    obtain ⟨g8,g6⟩:=g6
    refine ⟨g8,?_⟩
    simp only [D.cells,Flat] at g6 ⊢
    obtain ⟨g9,⟨v,hv,g7⟩,_⟩:=g6
    refine ⟨rfl,⟨v,by simpa using hv,?_⟩,trivial⟩
    rw [VRel] at g7 ⊢
    obtain ⟨h7,h8⟩:=g7
    rw [hN]
    rw [hO b (Nat.ne_of_lt hb)] at h8
    exact ⟨by omega,h8⟩
   ·exact RowOk.mono keeps rfl (hs.live _ _ hr).1
 ·obtain ⟨q,row0,h1,h2,h3⟩:=back r row hr
  obtain ⟨q',row0',h1',h2',h3'⟩:=back r' row' hr'
  rw [h2,h2']
  refine hs.excl _ _ _ _ h1 h1' ?_
  rcases h3 with ⟨e1,e2⟩ | ⟨e1,e2,e3⟩ <;> rcases h3' with ⟨e1',e2'⟩ | ⟨e1',e2',e3'⟩
  ·exact absurd (e1.trans e1'.symm) hne
  ·rw [e2,e3'];exact fun h=>e2' h.symm
  ·rw [e3,e2'];exact e2
  ·rw [e3,e3'];exact hne
def Sound.mv {R R':D -> Heap -> Prop} (h:Sound P f ds H R) (hr:∀ d H',H.length <= H'.length -> R d H' -> ∃ a b k m xs,a ≠ b /\ H'.get a = some (.cells 1 [.sl b 0 m]) /\ H'.get b = some (.cells k xs) /\ R' d (mvH H' a b k m xs)):Sound P f ds H R':=⟨h.1,fun own X w vs hs hv =>
 Calls.mono (h.2 own X w vs hs hv) fun e w' ⟨own',d,H',v,h1,h2,h3,h4,h5⟩=>by
  obtain ⟨a,b,k,m,xs,g1,g2,g3,g4⟩:=hr d H' h4.hn h5
  obtain ⟨own'',g5,g6,g7⟩:=mv_sim h2 g1 g2 g3
  exact ⟨own'',d,_,v,h1,g5,g7 _ _ h3,Ext.trans h4 g6,g4⟩⟩
end
end Go.Ab
namespace Go.T
open Go.Ab
variable [Go.Ab.DM]
def hrel_nil {ζ:Nat -> Row} {num:Nat -> Nat} {H:Heap}:HRel ζ num [] H:=⟨fun r=>trivial,fun r q h=>(by cases h),fun r t x h=>(by cases h)⟩
def norefs_enc {l:List TV} (h:∀ v ∈ l,v.t.pure = true):zAg (l.map (enc zDH)) = true:=by
 induction l with
 | nil=>simp [zAg]
 | cons v l ih =>
  rw [yAL,zAg,yAB]
  exact ⟨(e0_noref v.t v.x (h v (by simp))).1,ih fun u hu=>h u (by simp [hu])⟩
def con_pure {P:Program} {c:Con} (hins:c.ins = []) (houts:c.outs = []) (hpa:∀ x,∀ v ∈ zBH c x,v.t.pure = true) (hpr:∀ y,(zBT c y).t.pure = true)
  (h:∀ x,(∃ y,c.Q x y) -> Pure P c.f ((zBH c x).map (enc zDH)) fun d=>∃ y,c.Q x y /\ d = enc zDH (zBT c y)):zAl P c:=fun x hx ζ num H hH hok=>by
 have hrows:zBm c x = []:=by unfold zBm;rw [hins];rfl
 have houtR:∀ y,zAT c y = []:=fun y=>by unfold zAT;rw [houts];rfl
 have e1:∀ ρ,(zBH c x).map (enc ρ) = (zBH c x).map (enc zDH):=fun ρ=>List.map_congr_left fun v hv=>enc_pure (hpa x v hv) _ _
 rw [e1]
 refine ((h x hx).frame (norefs_enc (hpa x)) H).sound.mono fun d H' hd=>?_
 obtain ⟨rfl,y,hy,rfl⟩:=hd
 refine ⟨y,hy,ζ,num,by rw [houtR];exact hrel_nil,by rw [houtR];exact enc_pure (hpr y) _ _,by rw [houtR];exact zCR _ _ (hpr y),?_,?_⟩
 ·intro r hr;rw [houtR] at hr;cases hr
 ·intro r hr;rw [hins] at hr;cases hr
def pure_of {P:Program} {c:Con} (ok:zAl P c) (hins:c.ins = []) (hq:c.q = none) {x:(zAY c.inT).I} {y:(zAY c.outT).I} (hpa:∀ v ∈ zBH c x,v.t.pure = true) (hpr:(zBT c y).t.pure = true) (h:c.F x = some y):Pure P c.f ((zBH c x).map (enc zDH)) fun d=>d = enc zDH (zBT c y):=by
 have hrows:zBm c x = []:=by unfold zBm;rw [hins];rfl
 have hQ:c.Q x y:=by unfold Con.Q;rw [hq];exact h
 have hS:=ok x ⟨y,hQ⟩ (fun _=>.sit ByteArray.empty 0) (fun _=>0) [] (by rw [hrows];exact hrel_nil) (fun v hv=>zCR _ _ (hpa v hv))
 have e1:∀ ρ,(zBH c x).map (enc ρ) = (zBH c x).map (enc zDH):=fun ρ=>List.map_congr_left fun v hv=>enc_pure (hpa v hv) _ _
 rw [e1] at hS
 refine ⟨hS.1,fun own X w vs hs hv=>(hS.2 own X w vs hs hv).mono fun e w' hh=>?_⟩
 obtain ⟨own',d,H',v,h1,h2,h3,h4,y',gQ,ζ',num',_,hd,_⟩:=hh
 have hy:y' = y:=by
  unfold Con.Q at gQ;rw [hq] at gQ
  exact yAA (gQ.symm.trans h)
 subst hy
 have hU:∀ b,zAQ own' H' X w' b -> zAQ own' [] X w' b:=fun b hb=>unowned_nil.2 ⟨hb.1,hb.2.1⟩
 refine ⟨own',_,[],v,h1,Sim.nil h2.hid,?_,⟨h4.size,yAJ _,fun r hr=>absurd hr (yAr _),fun b hb=>⟨hU b (h4.hb b hb).1,(h4.hb b hb).2⟩,h4.hx,h4.st⟩,rfl,rfl⟩
 rw [hd,enc_pure hpr _ zDH] at h3
 exact VRel.mono ⟨yAJ _,fun r hr=>absurd hr (yAr _),hU,fun _ _ _=>rfl⟩ _ _ (VRel_noref _ _ (e0_noref _ _ hpr).1 h3)
end Go.T
