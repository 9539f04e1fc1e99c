/- Part 5 of what the claim leans on: TCon, TRead, TLaw, TArgs, TSpec, TSort, TSortS, TPlain, TIter, TAssoc, QMix, QT, QCheckS, QF0, QChk, QHeap, QHeapS, QHeap2. -/
import Derived.Test.YtfibkbmlgigemaaM4
import Derived.Calls
import Derived.KernelRfl
import Derived.Orders
import Derived.Laws.Sem
import Derived.Laws.CopyRow
import Derived.Laws.Cells
import Derived.Room.Entries
import Derived.Lib.Overlaps
import GoSem.Conv.BytesToString
import Derived.OrdersHeld
import Derived.ProofKit
import Derived.OpenShut
import Derived.Carry
import Derived.Shelf.SlSortCmp.InsertionK
import Derived.Shelf.Sort.Plain
import Derived.Test.YtfibkbmlgigemaaProg
set_option linter.unusedVariables false
set_option linter.unusedSectionVars false
set_option linter.unusedSimpArgs false
namespace Go.T
open Go.Ab
variable [Go.Ab.DM]
theorem argsE_at:∀ (l:List TV) (n i:Nat),zAn (argsE n l) (n + i) = (l[i]?).map fun v=>⟨n + i,0,[],v⟩
 | [],n,i=>rfl
 | v :: l,n,0=>by simp [argsE,zAn]
 | v :: l,n,i + 1=>by
   have:=argsE_at l (n + 1) i
   rw [show n + 1 + i = n + (i + 1) by omega] at this
   simp only [argsE,zAn,List.getElem?_cons_succ]
   cases hb:Nat.beq n (n + (i + 1)) with
   | true=>rw [Nat.beq_eq] at hb;omega
   | false=>exact this
theorem conOk_of {P:Program} {Γ:List Con} (hΓ:∀ c ∈ Γ,zAo P c) (zDB:P.follows .mixedOrders = true) (c:Con) {fn:Func} {body:Code} {hint:Hint} (hf:P.funcs[c.f]? = some fn) (hb:fn.body = some body) (hnm:(fn.name == "runtime.NumGoroutine") = false)
   (hN:c.as.length ≤ fn.ntmps) (hw:wf fn.ntmps body hint = true) (hq:c.q = none) (hF:∀ x,trunF P Γ fn hint c.as c.ins c.res c.outs x = c.F x) (hlen:∀ x,(zAg c x).length = c.as.length ∧ (zBK c x).length = c.ins.length):zAo P c:=by
 intro x hy ζ num H hR hok
 obtain ⟨y,hy⟩:=hy
 have hQ:∀ {z},c.Q x z ↔ c.F x = some z:=fun {z}=>by unfold Con.Q;rw [hq]
 rw [hQ] at hy
 have ht:=hF x
 rw [hy] at ht
 unfold trunF trunFk at ht
 rw [hb] at ht
 dsimp only at ht
 refine Sound.mono (R:=fun dd H'=>∃ ζ' num',HRel ζ' num' (zAK c y) H' ∧ dd = enc (zAB num' (zAK c y)) (zBB c y) ∧ okV (zAK c y) (zBB c y) ∧
   (∀ r,zAT (zAA (zAK c y) r) = true → (r < c.ins.length → num' r = num r) ∧ (c.ins.length ≤ r → H.length ≤ num' r)) ∧ ∀ r,r < c.ins.length → zAP (zAA (zAK c y) r) = true → zCZ (zAA (zAK c y) r) = zCZ (zAA (zBK c x) r)) ?_ fun dd H' h=>⟨y,hQ.2 hy,h⟩
 refine zAc hf hb hnm rfl (by rw [List.length_map,(hlen x).1];exact hN) ?_
 let B:Base:=⟨c.ins.length,H.length,num,fun r=>zCZ (zAA (zBK c x) r)⟩
 let s:St:=⟨argsE 0 (zAg c x),zBK c x,[]⟩
 have hfe:∀ n,zAn (argsE 0 (zAg c x)) n = ((zAg c x)[n]?).map fun v=>⟨n,0,[],v⟩:=fun n=>by
   have:=argsE_at (zAg c x) 0 n
   simp only [Nat.zero_add] at this
   exact this
 have hplain:Plain s:=⟨rfl,fun n ent hf=>by
   have hf:zAn (argsE 0 (zAg c x)) n = some ent:=hf
   rw [hfe] at hf
   cases hv:(zAg c x)[n]? with
   | none=>rw [hv] at hf;cases hf
   | some v=>rw [hv] at hf;have:=Option.some.inj hf;subst this;rfl⟩
 have hlive:∀ r,zAT (zAA (zBK c x) r) = true → r < c.ins.length:=fun r hl=>by rw [← (hlen x).2];exact zAx (live_row hl)
 have ha:Abs B ζ num s (zCx num s) H:=⟨rfl,hR,fun n ent hf _=>by
     have hf:zAn (argsE 0 (zAg c x)) n = some ent:=hf
     rw [hfe] at hf
     cases hv:(zAg c x)[n]? with
     | none=>rw [hv] at hf;cases hf
     | some v=>rw [hv] at hf;have:=Option.some.inj hf;subst this;exact hok v (List.mem_of_getElem? hv),
   fun n b h=>(by cases h),fun r hl=>⟨fun _=>rfl,fun h=>absurd (hlive r hl) (Nat.not_lt.2 h)⟩,Nat.le_refl _,Nat.le_of_eq (hlen x).2.symm,fun r _ _=>rfl⟩
 have hw0:WeakS (envOf ((zAg c x).map (enc (zAB num (zBK c x))))) H (zCx num s) H:=WeakS.env fun i=>by
   unfold zCx
   show Tl _ (match zAn (argsE 0 (zAg c x)) i with | some e=>entD num s e | none=>.any)
   rw [hfe]
   cases hv:(zAg c x)[i]? with
   | none=>exact Tl.any _
   | some v =>
     refine Tl.of_eq ?_
     unfold envOf
     rw [List.getD_eq_getElem?_getD,List.getElem?_map,hv]
     rfl
 have hret:∀ {rs:List ResultVar},rs = fn.results.toList → ∀ {ζ' num' s' e' H'},endT P rs c.ins.length c.res c.outs s' = some y → Abs B ζ' num' s' e' H' → (∀ K,Run P c.f fn.ntmps H.length (fun dd H'=>∃ ζ' num',HRel ζ' num' (zAK c y) H' ∧ dd = enc (zAB num' (zAK c y)) (zBB c y) ∧ okV (zAK c y) (zBB c y) ∧
   (∀ r,zAT (zAA (zAK c y) r) = true → (r < c.ins.length → num' r = num r) ∧ (c.ins.length ≤ r → H.length ≤ num' r)) ∧ ∀ r,r < c.ins.length → zAP (zAA (zAK c y) r) = true → zCZ (zAA (zAK c y) r) = zCZ (zAA (zBK c x) r)) (.code .ret :: K) e' H') ∧ Run P c.f fn.ntmps H.length (fun dd H'=>∃ ζ' num',HRel ζ' num' (zAK c y) H' ∧ dd = enc (zAB num' (zAK c y)) (zBB c y) ∧ okV (zAK c y) (zBB c y) ∧
   (∀ r,zAT (zAA (zAK c y) r) = true → (r < c.ins.length → num' r = num r) ∧ (c.ins.length ≤ r → H.length ≤ num' r)) ∧ ∀ r,r < c.ins.length → zAP (zAA (zAK c y) r) = true → zCZ (zAA (zAK c y) r) = zCZ (zAA (zBK c x) r)) [] e' H':=fun hrs ζ' num' s' e' H' he ha'=>by
   have hr:fn.results = _:=(show fn.results = (fn.results.toList).toArray from by simp)
   rw [← hrs] at hr
   refine ⟨fun K hn=>?_,fun hn=>?_⟩
   · obtain ⟨ds,h1,ζ2,num2,H2,h2,h3,h4,h5,h6⟩:=end_sound hn ha' (B:=B) rfl he
     exact zCq hf hr h1 h2 ⟨ζ2,num2,h3,rfl,h4,h5,h6⟩ hn
   · obtain ⟨ds,h1,ζ2,num2,H2,h2,h3,h4,h5,h6⟩:=end_sound hn ha' (B:=B) rfl he
     exact run_end hf hr h1 h2 ⟨ζ2,num2,h3,rfl,h4,h5,h6⟩ hn
 exact zDh hw0 (trun_sound (B:=B) hΓ zDB body hint ⟨c.ins.length,0,[],endT P fn.results.toList c.ins.length c.res c.outs⟩ _ s y ζ num _ H [] hw rfl ha hplain ht
   (fun ζ' num' s' e' H' h1 h2 _ _=>(hret rfl h1 h2).2) ⟨fun i k' hk=>(by cases hk),fun K' ζ' num' s' e' H' h1 h2 _ _=>(hret rfl h1 h2).1 K'⟩)
def allGone:Nat → Rows → Bool
 | 0,_=>true
 | _ + 1,[]=>true
 | n + 1,(_,row) :: r=>(match row with | .gone=>true | _=>false) && allGone n r
theorem allGone_at:∀ {n:Nat} {rows:Rows},allGone n rows = true → ∀ {r:Nat},r < n → zAA rows r = .gone
 | 0,_,_,r,hr=>absurd hr (Nat.not_lt_zero _)
 | _ + 1,[],_,r,_=>rfl
 | n + 1,(_,row) :: rows,h,0,_=>by
   simp only [allGone,Bool.and_eq_true] at h
   show row = .gone
   cases row <;> first | rfl | (simp at h;done)
 | n + 1,(_,row) :: rows,h,r + 1,hr=>by
   simp only [allGone,Bool.and_eq_true] at h
   exact allGone_at h.2 (Nat.lt_of_succ_lt_succ hr)
theorem conMv_of {P:Program} {Γ:List Con} (hΓ:∀ c ∈ Γ,zAo P c) (zDB:P.follows .mixedOrders = true) (c:Con) {fn:Func} {body:Code} {hint:Hint} (hf:P.funcs[c.f]? = some fn) (hb:fn.body = some body) (hnm:(fn.name == "runtime.NumGoroutine") = false)
   (hN:c.as.length ≤ fn.ntmps) (hw:wf fn.ntmps body hint = true) (hq:c.q = none) (hgone:∀ y,allGone c.ins.length (zAK c y) = true) (hF:∀ x,trunM P Γ fn hint c.as c.ins c.res c.outs x = c.F x) (hlen:∀ x,(zAg c x).length = c.as.length ∧ (zBK c x).length = c.ins.length):zAo P c:=by
 intro x hy ζ num H hR hok
 obtain ⟨y,hy⟩:=hy
 have hQ:∀ {z},c.Q x z ↔ c.F x = some z:=fun {z}=>by unfold Con.Q;rw [hq]
 rw [hQ] at hy
 have ht:=hF x
 rw [hy] at ht
 unfold trunM trunFk at ht
 rw [hb] at ht
 dsimp only at ht
 refine Sound.mono (R:=fun dd H'=>∃ ζ' num',HRel ζ' num' (zAK c y) H' ∧ dd = enc (zAB num' (zAK c y)) (zBB c y) ∧ okV (zAK c y) (zBB c y) ∧
   (∀ r,zAT (zAA (zAK c y) r) = true → (r < c.ins.length → num' r = num r) ∧ (c.ins.length ≤ r → H.length ≤ num' r)) ∧ ∀ r,r < c.ins.length → zAP (zAA (zAK c y) r) = true → zCZ (zAA (zAK c y) r) = zCZ (zAA (zBK c x) r)) (Sound.shift (?_:Sound P c.f ((zAg c x).map (enc (zAB num (zBK c x)))) H fun dd H'=>∃ ζ' num',HRel ζ' num' (zAK c y) H' ∧ dd = enc (zAB num' (zAK c y)) (zBB c y) ∧ okV (zAK c y) (zBB c y)) (R':=fun dd H'=>∃ ζ' num',HRel ζ' num' (zAK c y) H' ∧ dd = enc (zAB num' (zAK c y)) (zBB c y) ∧ okV (zAK c y) (zBB c y) ∧
   (∀ r,zAT (zAA (zAK c y) r) = true → (r < c.ins.length → num' r = num r) ∧ (c.ins.length ≤ r → H.length ≤ num' r)) ∧ ∀ r,r < c.ins.length → zAP (zAA (zAK c y) r) = true → zCZ (zAA (zAK c y) r) = zCZ (zAA (zBK c x) r)) fun dd H' hlen' h=>by
   obtain ⟨ζ',num',g1,rfl,g3⟩:=h
   refine ⟨_,_,hrel_sh H'.length g1,(encV_sh _ _).symm,g3,fun r hl=>⟨fun hr=>?_,fun _=>by omega⟩,fun r hr hi=>?_⟩
   · rw [allGone_at (hgone y) hr] at hl;simp [zAT] at hl
   · rw [allGone_at (hgone y) hr] at hi;simp [zAP] at hi) fun dd H' h=>⟨y,hQ.2 hy,h⟩
 refine zAc hf hb hnm rfl (by rw [List.length_map,(hlen x).1];exact hN) ?_
 let B:Base:=⟨0,0,num,fun r=>zCZ (zAA (zBK c x) r)⟩
 let s:St:=⟨argsE 0 (zAg c x),zBK c x,[]⟩
 have hfe:∀ n,zAn (argsE 0 (zAg c x)) n = ((zAg c x)[n]?).map fun v=>⟨n,0,[],v⟩:=fun n=>by
   have:=argsE_at (zAg c x) 0 n
   simp only [Nat.zero_add] at this
   exact this
 have hplain:Plain s:=⟨rfl,fun n ent hf=>by
   have hf:zAn (argsE 0 (zAg c x)) n = some ent:=hf
   rw [hfe] at hf
   cases hv:(zAg c x)[n]? with
   | none=>rw [hv] at hf;cases hf
   | some v=>rw [hv] at hf;have:=Option.some.inj hf;subst this;rfl⟩
 have hlive:∀ r,zAT (zAA (zBK c x) r) = true → r < c.ins.length:=fun r hl=>by rw [← (hlen x).2];exact zAx (live_row hl)
 have ha:Abs B ζ num s (zCx num s) H:=⟨rfl,hR,fun n ent hf _=>by
     have hf:zAn (argsE 0 (zAg c x)) n = some ent:=hf
     rw [hfe] at hf
     cases hv:(zAg c x)[n]? with
     | none=>rw [hv] at hf;cases hf
     | some v=>rw [hv] at hf;have:=Option.some.inj hf;subst this;exact hok v (List.mem_of_getElem? hv),
   fun n b h=>(by cases h),fun r hl=>⟨fun h=>absurd h (Nat.not_lt_zero _),fun _=>Nat.zero_le _⟩,Nat.zero_le _,Nat.zero_le _,fun r h _=>absurd h (Nat.not_lt_zero _)⟩
 have hw0:WeakS (envOf ((zAg c x).map (enc (zAB num (zBK c x))))) H (zCx num s) H:=WeakS.env fun i=>by
   unfold zCx
   show Tl _ (match zAn (argsE 0 (zAg c x)) i with | some e=>entD num s e | none=>.any)
   rw [hfe]
   cases hv:(zAg c x)[i]? with
   | none=>exact Tl.any _
   | some v =>
     refine Tl.of_eq ?_
     unfold envOf
     rw [List.getD_eq_getElem?_getD,List.getElem?_map,hv]
     rfl
 have hret:∀ {rs:List ResultVar},rs = fn.results.toList → ∀ {ζ' num' s' e' H'},endT P rs 0 c.res c.outs s' = some y → Abs B ζ' num' s' e' H' → (∀ K,Run P c.f fn.ntmps H.length (fun dd H'=>∃ ζ' num',HRel ζ' num' (zAK c y) H' ∧ dd = enc (zAB num' (zAK c y)) (zBB c y) ∧ okV (zAK c y) (zBB c y)) (.code .ret :: K) e' H') ∧ Run P c.f fn.ntmps H.length (fun dd H'=>∃ ζ' num',HRel ζ' num' (zAK c y) H' ∧ dd = enc (zAB num' (zAK c y)) (zBB c y) ∧ okV (zAK c y) (zBB c y)) [] e' H':=fun hrs ζ' num' s' e' H' he ha'=>by
   have hr:fn.results = _:=(show fn.results = (fn.results.toList).toArray from by simp)
   rw [← hrs] at hr
   refine ⟨fun K hn=>?_,fun hn=>?_⟩
   · obtain ⟨ds,h1,ζ2,num2,H2,h2,h3,h4,h5,h6⟩:=end_sound hn ha' (B:=B) rfl he
     exact zCq hf hr h1 h2 ⟨ζ2,num2,h3,rfl,h4⟩ hn
   · obtain ⟨ds,h1,ζ2,num2,H2,h2,h3,h4,h5,h6⟩:=end_sound hn ha' (B:=B) rfl he
     exact run_end hf hr h1 h2 ⟨ζ2,num2,h3,rfl,h4⟩ hn
 exact zDh hw0 (trun_sound (B:=B) hΓ zDB body hint ⟨0,0,[],endT P fn.results.toList 0 c.res c.outs⟩ _ s y ζ num _ H [] hw rfl ha hplain ht
   (fun ζ' num' s' e' H' h1 h2 _ _=>(hret rfl h1 h2).2) ⟨fun i k' hk=>(by cases hk),fun K' ζ' num' s' e' H' h1 h2 _ _=>(hret rfl h1 h2).1 K'⟩)
theorem zBd {P:Program}:∀ c ∈ ([]:List Con),zAo P c:=fun _ h=>by cases h
theorem zAQ {P:Program} {c:Con} {l:List Con} (h:zAo P c) (hs:∀ c ∈ l,zAo P c):∀ c' ∈ c :: l,zAo P c':=fun c' hc=>by
 rcases List.mem_cons.1 hc with rfl | hc
 · exact h
 · exact hs c' hc
theorem zBe {P:Program} (zDB:P.follows .mixedOrders = true) (Γ:List Con) (hΓ:∀ c ∈ Γ,zAo P c) (c:Con) (fn:Func) (hint:Hint) (hf:P.funcs[c.f]? = some fn) (hnm:(fn.name == "runtime.NumGoroutine") = false)
   (hN:Nat.ble c.as.length fn.ntmps = true) (hw:(match fn.body with | some b=>wf fn.ntmps b hint | none=>false) = true) (hq:c.q = none) (hF:∀ x,trunF P Γ fn hint c.as c.ins c.res c.outs x = c.F x) (hlen:∀ x,(zAg c x).length = c.as.length ∧ (zBK c x).length = c.ins.length):zAo P c:=by
 cases hb:fn.body with
 | none=>rw [hb] at hw;cases hw
 | some b=>rw [hb] at hw;exact conOk_of hΓ zDB c hf hb hnm (Nat.le_of_ble_eq_true hN) hw hq hF hlen
theorem okM_of {P:Program} (zDB:P.follows .mixedOrders = true) (Γ:List Con) (hΓ:∀ c ∈ Γ,zAo P c) (c:Con) (fn:Func) (hint:Hint) (hf:P.funcs[c.f]? = some fn) (hnm:(fn.name == "runtime.NumGoroutine") = false)
   (hN:Nat.ble c.as.length fn.ntmps = true) (hw:(match fn.body with | some b=>wf fn.ntmps b hint | none=>false) = true) (hq:c.q = none) (hgone:∀ y,allGone c.ins.length (zAK c y) = true) (hF:∀ x,trunM P Γ fn hint c.as c.ins c.res c.outs x = c.F x) (hlen:∀ x,(zAg c x).length = c.as.length ∧ (zBK c x).length = c.ins.length):zAo P c:=by
 cases hb:fn.body with
 | none=>rw [hb] at hw;cases hw
 | some b=>rw [hb] at hw;exact conMv_of hΓ zDB c hf hb hnm (Nat.le_of_ble_eq_true hN) hw hq hgone hF hlen
end Go.T
namespace Go.T
open Go.Ab
variable [Go.Ab.DM]
def InR:(t:Ty) → t.I → Prop
 | .int k,n=>(Lit.int k n).wf = true
 | .str,s=>ByteArray.size s ≤ maxLen
 | .pr a b,x=>InR a x.1 ∧ InR b x.2
 | .agg s,x=>InR s x
 | .sl t,l=>List.length (α:=t.I) l ≤ maxLen ∧ ∀ x:t.I,List.Mem x l → InR t x
 | _,_=>True
def InV (v:TV):Prop:=InR v.t v.x
theorem in_leaves:∀ (s:Ty) (x:s.I),InR s x ↔ ∀ v ∈ zAI s x,InV v:=by
 intro s
 induction s with
 | pr a b iha ihb =>
   intro x
   show InR a x.1 ∧ InR b x.2 ↔ _
   simp only [zAI,List.forall_mem_cons]
   rw [← ihb x.2];rfl
 | unit=>intro x;simp [zAI,InR]
 | _=>intro x;simp [zAI,InV]
theorem in_lf (v:TV) (h:InV v):InV v.lf:=by
 obtain ⟨t,x⟩:=v
 cases t <;> first | exact h | trivial
theorem in_spine:∀ l:List TV,(∀ v ∈ l,InV v) → InV (spine l)
 | [],_=>trivial
 | [v],h=>in_lf v (h v (by simp))
 | v :: w :: r,h=>⟨h v (by simp),in_spine (w :: r) fun u hu=>h u (List.mem_cons_of_mem _ hu)⟩
theorem spine_t:∀ l:List TV,(∀ v ∈ l,v.t.sp = false) → (spine l).t = zAX (l.map (·.t))
 | [],_=>rfl
 | [v],h=>by
   have:=h v (by simp)
   obtain ⟨t,x⟩:=v
   cases t <;> first | rfl | (simp [Ty.sp] at this;done)
 | v :: w :: r,h=>by
   have:=spine_t (w :: r) fun u hu=>h u (List.mem_cons_of_mem _ hu)
   show Ty.pr v.t (spine (w :: r)).t = _
   rw [this];rfl
def Ty.fl:Ty → List Ty | .agg s=>s.flat | T=>[T]
def fldT (P:Program) (go:TypeId → Option Ty):List Field → Nat → Option (List Ty)
 | [],_=>some []
 | f :: fs,off=>bif Nat.beq f.offset off then (match go f.type,fldT P go fs (off + P.cellsOf f.type) with
   | some (.agg s),some l=>bif Nat.beq (P.cellsOf f.type) s.flat.length then some (s.flat ++ l) else none
   | some u,some l=>bif Nat.beq (P.cellsOf f.type) 1 then some (u :: l) else none
   | _,_=>none) else none
def arrT:Nat → List Ty → List Ty
 | 0,_=>[]
 | n + 1,l=>l ++ arrT n l
def rdT (P:Program):Nat → TypeId → Option Ty
 | 0,_=>none
 | n + 1,t=>match P.underlying t with
   | some (.int k)=>some (.int k)
   | some .bool=>some .bool
   | some .string=>some .str
   | some (.slice e)=>(match rdT P n e with
     | some u=>bif u.elem && Nat.beq (P.cellsOf e) u.w && !(Nat.beq u.w 0) then some (.sl u) else none
     | none=>none)
   | some (.struct fs)=>(match fldT P (rdT P n) fs.toList 0 with
     | some l=>bif Nat.beq l.length (P.cellsOf t) && l.all (fun u=>!u.sp) then some (.agg (zAX l)) else none
     | none=>none)
   | some (.array k e)=>(match rdT P n e with
     | some (.agg s)=>bif Nat.beq (P.cellsOf e) s.flat.length && Nat.beq (P.cellsOf t) (k * P.cellsOf e) && s.flat.all (fun u=>!u.sp) then some (.agg (zAX (arrT k s.flat))) else none
     | some u=>bif Nat.beq (P.cellsOf e) 1 && Nat.beq (P.cellsOf t) k && !u.sp then some (.agg (zAX (arrT k [u]))) else none
     | none=>none)
   | _=>none
theorem flat_leaves:∀ (s:Ty) (x:s.I),(zAI s x).map (·.t) = s.flat:=by
 intro s
 induction s with
 | pr a b iha ihb=>intro x;simp only [zAI,Ty.flat,List.map_cons,ihb]
 | _=>intro x;rfl
section
variable {P:Program} {w:World} {own:Nat → Own} {H:Type} {enc':TypeId × Value → H} {spare:Nat → Bool} {held:Bool}
def ToldC (w:World) (own:Nat → Own) (T:Ty) (cs:List Value):Prop:=∃ v:TV,v.t = T ∧ InV v ∧ VRels own (fun b=>b < w.heap.size) w 0 (enc zDD v).cells cs
theorem kids_cells (v:TV):(enc zDD v).cells = (zAy v).map (enc zDD):=by
 obtain ⟨t,x⟩:=v
 cases t <;> first | rfl | skip
 rename_i s
 exact E_leaves s zDD x
theorem told_agg {l:List Ty} {cs:List Value} (hsp:∀ u ∈ l,u.sp = false) (h:∃ vs:List TV,vs.map (·.t) = l ∧ (∀ v ∈ vs,InV v) ∧ VRels own (fun b=>b < w.heap.size) w 0 (vs.map (enc zDD)) cs):ToldC w own (.agg (zAX l)) cs:=by
 obtain ⟨vs,h1,h2,h3⟩:=h
 refine ⟨aggV vs,?_,in_spine vs h2,?_⟩
 · show Ty.agg (spine vs).t = _
   rw [spine_t vs fun v hv=>hsp _ (by rw [← h1];exact List.mem_map_of_mem hv),h1]
 · rw [enc_agg];exact h3
theorem told_leaves {T:Ty} {cs:List Value} (h:ToldC w own T cs):∃ vs:List TV,vs.map (·.t) = T.fl ∧ (∀ v ∈ vs,InV v) ∧ VRels own (fun b=>b < w.heap.size) w 0 (vs.map (enc zDD)) cs:=by
 obtain ⟨⟨t,x⟩,rfl,h2,h3⟩:=h
 rw [kids_cells] at h3
 have lf:∀ {v:TV},zAy v = [v] → v.t.fl = [v.t] → InV v → VRels own (fun b=>b < w.heap.size) w 0 ((zAy v).map (enc zDD)) cs → ∃ vs:List TV,vs.map (·.t) = v.t.fl ∧ (∀ v ∈ vs,InV v) ∧ VRels own (fun b=>b < w.heap.size) w 0 (vs.map (enc zDD)) cs:=fun {v} g1 g2 g3 g4=>⟨[v],g2.symm,by simpa using g3,by rw [g1] at g4;exact g4⟩
 cases t with
 | agg s=>exact ⟨zAI s x,flat_leaves s x,(in_leaves s x).1 h2,h3⟩
 | _=>exact lf rfl rfl h2 h3
theorem reads:∀ (n:Nat) (t:TypeId) (T:Ty),rdT P n t = some T → ∀ (fuel:Nat) (cs:List Value) (x:DataW H × List MemPlace),DataW.trod enc' P w 0 spare held fuel t cs = some x → ToldC w own T cs
 | 0,t,T,h=>by cases h
 | n + 1,t,T,h=>by
   intro fuel cs x hx
   simp only [rdT] at h
   split at h
   · rename_i k hu
     have:=Option.some.inj h;subst this
     obtain ⟨m,rfl,_,hw⟩:=DataW.trod_int hu hx
     exact ⟨⟨.int k,m⟩,rfl,hw,by simp [enc,E,D.cells,VRels,VRel]⟩
   · rename_i hu
     have:=Option.some.inj h;subst this
     obtain ⟨b,rfl,_⟩:=DataW.trod_bool hu hx
     exact ⟨⟨.bool,b⟩,rfl,trivial,by simp [enc,E,D.cells,VRels,VRel]⟩
   · rename_i hu
     have:=Option.some.inj h;subst this
     obtain ⟨s,rfl,_,hs⟩:=DataW.trod_string hu hx
     exact ⟨⟨.str,s⟩,rfl,hs,by simp [enc,E,D.cells,VRels,VRel]⟩
   · rename_i e hu
     split at h
     rotate_left
     · cases h
     rename_i u he
     obtain ⟨hb,h⟩:=zAZ h
     have:=Option.some.inj h;subst this
     simp only [Bool.and_eq_true,Nat.beq_eq,Bool.not_eq_true'] at hb
     obtain ⟨⟨hel,hcl⟩,hw0⟩:=hb
     have hw0:u.w ≠ 0:=fun h0=>by rw [h0] at hw0;cases hw0
     rcases DataW.trod_slice hu hx with ⟨rfl,_⟩ | ⟨a,len,cap,elems,rest,m,_,rfl,_,_,hlc,hcm,hlen,hels,_,_⟩
     · refine ⟨⟨.sl u,([]:List u.I)⟩,rfl,⟨Nat.zero_le _,fun x hx=>(by cases hx)⟩,?_⟩
       show VRels own _ w 0 [.fz u.w []] _
       simp only [VRels]
       refine ⟨_,[],rfl,?_,rfl⟩
       rw [VRel]
       exact ⟨none,0,rfl,Nat.le_refl _,fun h=>absurd rfl h⟩
     · -- the elements
       have hall:∀ i,i < len → ∃ (y:u.I) (cs':List Value),InR u y ∧ w.cells? 0 (a.add (i * u.w)) u.w = some cs' ∧ VRels own (fun b=>b < w.heap.size) w 0 (e0 u y).cells cs':=fun i hi=>by
         have h1:=hels i hi
         have h2:∃ z,elems[i]? = some z:=⟨elems[i],by simp [hlen ▸ hi]⟩
         obtain ⟨z,hz⟩:=h2
         rw [hz,Option.bind_eq_some_iff] at h1
         obtain ⟨cs',h3,h4⟩:=h1
         obtain ⟨⟨t',y⟩,rfl,h5,h6⟩:=reads n e u he m cs' z h4
         rw [hcl] at h3
         exact ⟨y,cs',h5,h3,h6⟩
       have hlist:∀ k,k ≤ len → ∃ l:List u.I,l.length = k ∧ (∀ y ∈ l,InR u y) ∧ ∀ i (hi:i < l.length),∃ cs',w.cells? 0 (a.add (i * u.w)) u.w = some cs' ∧ VRels own (fun b=>b < w.heap.size) w 0 (e0 u l[i]).cells cs':=by
         intro k
         induction k with
         | zero=>intro _;exact ⟨[],rfl,by simp,by simp⟩
         | succ k ih =>
           intro hk
           obtain ⟨l,h1,h2,h3⟩:=ih (by omega)
           obtain ⟨y,cs',h4,h5,h6⟩:=hall k (by omega)
           refine ⟨l ++ [y],by simp [h1],fun z hz=>?_,fun i hi=>?_⟩
           · rcases List.mem_append.1 hz with hz | hz
             · exact h2 z hz
             · rw [List.mem_singleton] at hz;subst hz;exact h4
           · by_cases hil:i < l.length
             · rw [List.getElem_append_left hil];exact h3 i hil
             · have hik:i = k:=by simp at hi;omega
               subst hik
               refine ⟨cs',h5,?_⟩
               rw [List.getElem_append_right (by omega)]
               simpa using h6
       obtain ⟨l,h1,h2,h3⟩:=hlist len (Nat.le_refl _)
       refine ⟨⟨.sl u,l⟩,rfl,⟨by show List.length l ≤ _;omega,h2⟩,?_⟩
       show VRels own _ w 0 [.fz u.w (l.map (e0 u))] _
       simp only [VRels]
       refine ⟨_,[],rfl,?_,rfl⟩
       rw [VRel,List.length_map,h1]
       refine ⟨some a,cap,rfl,hlc,fun h0=>?_⟩
       obtain ⟨b,off,spot⟩:=a
       obtain ⟨cs0,h4,_⟩:=h3 0 (by omega)
       obtain ⟨_,hl4,hc4⟩:=World.cells?_some h4
       have hc5:=hc4 0 (by omega)
       have hcs0:cs0[0]? = some cs0[0]:=by simp
       rw [hcs0] at hc5
       have hspot:spot = none ∧ b < w.heap.size:=by
         have e0:((⟨b,off,spot⟩:Addr).add (0 * u.w)).add 0 = ⟨b,off,spot⟩:=by simp [Addr.add]
         rw [e0] at hc5
         unfold World.cell? at hc5
         cases hb:w.heap[b]? with
         | none=>simp only [hb] at hc5;cases hc5
         | some o =>
           have hlt:b < w.heap.size:=by
             rcases Nat.lt_or_ge b w.heap.size with h | h
             · exact h
             · rw [Array.getElem?_eq_none h] at hb;cases hb
           refine ⟨?_,hlt⟩
           simp only [hb] at hc5
           cases spot with
           | none=>rfl
           | some z=>cases o <;> simp at hc5
       obtain ⟨rfl,hbl⟩:=hspot
       refine ⟨b,off,rfl,hbl,?_⟩
       have hcells:∀ (l':List u.I) (j:Nat),(∀ i (hi:i < l'.length),∃ cs',w.cells? 0 ⟨b,off + (j + i) * u.w,none⟩ u.w = some cs' ∧ VRels own (fun b=>b < w.heap.size) w 0 (e0 u l'[i]).cells cs') → Cells own (fun b=>b < w.heap.size) w 0 u.w (l'.map (e0 u)) b (off + j * u.w):=by
         intro l'
         induction l' with
         | nil=>intro j _;simp [Cells]
         | cons y l' ih =>
           intro j hh
           rw [List.map_cons,Cells,zCd]
           refine ⟨⟨?_,?_⟩,?_⟩
           · rw [← D.width_eq];exact elem_width hel zDD y
           · obtain ⟨cs',k1,k2⟩:=hh 0 (by simp)
             obtain ⟨_,k3,k4⟩:=World.cells?_some k1
             rw [Flat_values]
             refine ⟨elem_cells hel zDD y,cs',by simpa using k2,fun i hi=>?_⟩
             have:=k4 i (by omega)
             rw [zCo] at this
             simpa using this
           · have:=ih (j + 1) fun i hi=>by
               obtain ⟨cs',k1,k2⟩:=hh (i + 1) (by simpa using hi)
               refine ⟨cs',by rw [show j + 1 + i = j + (i + 1) by omega];exact k1,by simpa using k2⟩
             rw [Nat.add_mul,Nat.one_mul,← Nat.add_assoc] at this
             exact this
       have:=hcells l 0 fun i hi=>by
         obtain ⟨cs',k1,k2⟩:=h3 i hi
         exact ⟨cs',by rw [Nat.zero_add,← zCo];exact k1,k2⟩
       simpa using this
   · rename_i fs hu
     split at h
     rotate_left
     · cases h
     rename_i l hl
     obtain ⟨hb,h⟩:=zAZ h
     have:=Option.some.inj h;subst this
     simp only [Bool.and_eq_true,Nat.beq_eq,List.all_eq_true,Bool.not_eq_true'] at hb
     obtain ⟨xs,m,_,_,hcl,hxl,hf⟩:=DataW.trod_struct hu hx
     refine told_agg hb.2 ?_
     have key:∀ (fl:List Field) (i off:Nat) (l:List Ty),fldT P (rdT P n) fl off = some l → (∀ j f,fl[j]? = some f → fs[i + j]? = some f) → cs.length = off + l.length →
         ∃ vs:List TV,vs.map (·.t) = l ∧ (∀ v ∈ vs,InV v) ∧ VRels own (fun b=>b < w.heap.size) w 0 (vs.map (enc zDD)) (cs.drop off):=by
       intro fl
       induction fl with
       | nil =>
         intro i off l h1 _ h3
         have:=Option.some.inj h1;subst this
         exact ⟨[],rfl,by simp,by rw [List.drop_eq_nil_of_le (by simp at h3;omega)];simp [VRels]⟩
       | cons f fl ih =>
         intro i off l h1 h2 h3
         simp only [fldT] at h1
         obtain ⟨ho,h1⟩:=zAZ h1
         rw [Nat.beq_eq] at ho
         have hfi:=h2 0 f rfl
         rw [Nat.add_zero] at hfi
         have hread:=hf i f hfi
         have hx2:∃ z,xs[i]? = some z:=by
           have:i < xs.length:=by
             rw [hxl]
             rcases Nat.lt_or_ge i fs.size with h | h
             · exact h
             · rw [Array.getElem?_eq_none h] at hfi;cases hfi
           exact ⟨xs[i],by simp [this]⟩
         obtain ⟨z,hz⟩:=hx2
         rw [hz,ho] at hread
         have step:∀ (T:Ty) (lt lr:List Ty),rdT P n f.type = some T → T.fl = lt → fldT P (rdT P n) fl (off + P.cellsOf f.type) = some lr → P.cellsOf f.type = lt.length → l = lt ++ lr →
             ∃ vs:List TV,vs.map (·.t) = l ∧ (∀ v ∈ vs,InV v) ∧ VRels own (fun b=>b < w.heap.size) w 0 (vs.map (enc zDD)) (cs.drop off):=fun T lt lr g1 g2 g3 g4 g5=>by
           obtain ⟨vs,k1,k2,k3⟩:=told_leaves (reads n f.type T g1 m _ z hread)
           obtain ⟨us,k4,k5,k6⟩:=ih (i + 1) (off + P.cellsOf f.type) lr g3 (fun j f' hj=>by rw [show i + 1 + j = i + (j + 1) by omega];exact h2 (j + 1) f' (by simpa using hj)) (by rw [h3,g5,List.length_append,g4];omega)
           refine ⟨vs ++ us,by rw [List.map_append,k1,k4,g2,g5],fun v hv=>?_,?_⟩
           · rcases List.mem_append.1 hv with hv | hv
             · exact k2 v hv
             · exact k5 v hv
           · rw [List.map_append,← List.take_append_drop (P.cellsOf f.type) (cs.drop off),List.drop_drop]
             exact zBI k3 k6
         split at h1
         · rename_i s lr g1 g2
           obtain ⟨g3,h1⟩:=zAZ h1
           rw [Nat.beq_eq] at g3
           exact step _ _ lr g1 rfl g2 g3 (Option.some.inj h1).symm
         · rename_i u lr hne g1 g2
           obtain ⟨g3,h1⟩:=zAZ h1
           rw [Nat.beq_eq] at g3
           refine step u [u] lr g1 ?_ g2 (by simpa using g3) (Option.some.inj h1).symm
           cases u <;> first | rfl | exact (hne _ rfl).elim
         · cases h1
     have:=key fs.toList 0 0 l hl (fun j f hj=>by rw [Nat.zero_add];simpa using hj) (by rw [Nat.zero_add];omega)
     simpa using this
   · rename_i k e hu
     have arr:∀ (T:Ty) (lt:List Ty),rdT P n e = some T → T.fl = lt → P.cellsOf e = lt.length → P.cellsOf t = k * P.cellsOf e → (∀ u ∈ lt,u.sp = false) → ToldC w own (.agg (zAX (arrT k lt))) cs:=fun T lt g1 g2 g3 g4 g5=>by
       obtain ⟨xs,m,_,_,hcl,hxl,hf⟩:=DataW.trod_array hu hx
       refine told_agg (fun u hu'=>?_) ?_
       · have:∀ k,∀ u ∈ arrT k lt,u ∈ lt:=by
           intro k
           induction k with
           | zero=>intro u h;cases h
           | succ k ih=>intro u h;rcases List.mem_append.1 h with h | h;exact h;exact ih u h
         exact g5 u (this k u hu')
       · have key:∀ j,j ≤ k → ∃ vs:List TV,vs.map (·.t) = arrT j lt ∧ (∀ v ∈ vs,InV v) ∧ VRels own (fun b=>b < w.heap.size) w 0 (vs.map (enc zDD)) (cs.drop ((k - j) * P.cellsOf e)):=by
           intro j
           induction j with
           | zero=>intro _;exact ⟨[],rfl,by simp,by rw [List.drop_eq_nil_of_le (by rw [hcl,g4];exact Nat.le_refl _)];simp [VRels]⟩
           | succ j ih =>
             intro hj
             obtain ⟨us,k4,k5,k6⟩:=ih (by omega)
             have hread:=hf (k - (j + 1)) (by omega)
             have hz:xs[k - (j + 1)]? = some xs[k - (j + 1)]:=by simp
             rw [hz] at hread
             obtain ⟨vs,k1,k2,k3⟩:=told_leaves (reads n e T g1 m _ _ hread)
             refine ⟨vs ++ us,by rw [List.map_append,k1,k4,g2];rfl,fun v hv=>?_,?_⟩
             · rcases List.mem_append.1 hv with hv | hv
               · exact k2 v hv
               · exact k5 v hv
             · rw [List.map_append,← List.take_append_drop (P.cellsOf e) (cs.drop _),List.drop_drop]
               have e1:(k - (j + 1)) * P.cellsOf e + P.cellsOf e = (k - j) * P.cellsOf e:=by rw [← Nat.succ_mul];congr 1;omega
               rw [e1]
               exact zBI k3 k6
         have:=key k (Nat.le_refl _)
         simpa using this
     split at h
     · rename_i s he
       obtain ⟨hb,h⟩:=zAZ h
       have:=Option.some.inj h;subst this
       simp only [Bool.and_eq_true,Nat.beq_eq,List.all_eq_true,Bool.not_eq_true'] at hb
       exact arr _ _ he rfl hb.1.1 hb.1.2 hb.2
     · rename_i u hne he
       obtain ⟨hb,h⟩:=zAZ h
       have:=Option.some.inj h;subst this
       simp only [Bool.and_eq_true,Nat.beq_eq,Bool.not_eq_true'] at hb
       refine arr u [u] he ?_ (by simpa using hb.1.1) (by rw [hb.1.1,hb.1.2,Nat.mul_one]) (fun v hv=>by rw [List.mem_singleton] at hv;subst hv;exact hb.2)
       cases u <;> first | rfl | exact (hne _ rfl).elim
     · cases h
   · cases h
end
end Go.T
namespace Go.T
open Go.Ab Go.ChangeShapes Go.RowKit
variable [Go.Ab.DM]
section
variable {H:Type} {enc':TypeId × Value → H} {P:Program}
theorem arg_told {n:Nat} {t:TypeId} {T:Ty} {w:World} {own:Nat → Own} {base:Nat} {v:Value} {d:DataW H} {ps:List MemPlace} {spare:Nat → Bool} {held:Bool} (hT:rdT P n t = some T) (hok:Value.okWide P w .any base t v) (h:DataW.Trod enc' P w 0 spare held t v d ps) :
   ∃ u:TV,u.t = T ∧ InV u ∧ VRel own (fun b=>b < w.heap.size) w 0 (enc zDD u) v:=by
 obtain ⟨fuel,hf⟩:=h
 obtain ⟨u,h1,h2,h3⟩:=reads (own:=own) n t T hT fuel _ _ hf
 refine ⟨u,h1,h2,?_⟩
 have hsh:(∃ s,T = .agg s ∧ ∃ cs,v = .agg cs) ∨ ((∀ s,T ≠ .agg s) ∧ ∀ cs,v ≠ .agg cs):=by
   cases n with
   | zero=>cases hT
   | succ n =>
     simp only [rdT] at hT
     unfold Value.okWide at hok
     split at hT
     · rename_i k hu
       have:=Option.some.inj hT;subst this
       rw [hu] at hok
       refine .inr ⟨fun s h=>(by cases h),fun cs hc=>?_⟩
       subst hc;simp [Cell.okWide,hu,Cell.ok] at hok
     · rename_i hu
       have:=Option.some.inj hT;subst this
       rw [hu] at hok
       refine .inr ⟨fun s h=>(by cases h),fun cs hc=>?_⟩
       subst hc;simp [Cell.okWide,hu,Cell.ok] at hok
     · rename_i hu
       have:=Option.some.inj hT;subst this
       rw [hu] at hok
       refine .inr ⟨fun s h=>(by cases h),fun cs hc=>?_⟩
       subst hc;simp [Cell.okWide,hu,Cell.ok] at hok
     · rename_i e hu
       split at hT
       · obtain ⟨_,hT⟩:=zAZ hT
         have:=Option.some.inj hT;subst this
         rw [hu] at hok
         refine .inr ⟨fun s h=>(by cases h),fun cs hc=>?_⟩
         subst hc;simp [Cell.okWide,hu,Cell.ok] at hok
       · cases hT
     · rename_i fs hu
       rw [hu] at hok
       obtain ⟨cs,hc,_⟩:=hok
       split at hT
       · obtain ⟨_,hT⟩:=zAZ hT
         exact .inl ⟨_,(Option.some.inj hT).symm,cs,hc⟩
       · cases hT
     · rename_i k e hu
       rw [hu] at hok
       obtain ⟨cs,hc,_⟩:=hok
       split at hT
       · obtain ⟨_,hT⟩:=zAZ hT
         exact .inl ⟨_,(Option.some.inj hT).symm,cs,hc⟩
       · obtain ⟨_,hT⟩:=zAZ hT
         exact .inl ⟨_,(Option.some.inj hT).symm,cs,hc⟩
       · cases hT
     · cases hT
 rcases hsh with ⟨s,hs,cs,rfl⟩ | ⟨hs,hv⟩
 · obtain ⟨t',x⟩:=u
   have h1:t' = .agg s:=h1.trans hs
   subst h1
   have e1:enc zDD ⟨.agg s,x⟩ = .agg (E s zDD x).2:=rfl
   rw [e1] at h3 ⊢
   rw [VRel]
   exact ⟨cs.toList,by simp,by simpa [D.cells,Value.cells] using h3⟩
 · have hne:∀ s,u.t ≠ .agg s:=fun s h=>hs s (h1.symm.trans h)
   have hc:(enc zDD u).cells = [enc zDD u]:=by
     obtain ⟨t',x⟩:=u
     cases t' <;> first | rfl | exact (hne _ rfl).elim
   have hvc:v.cells.toList = [v]:=by
     cases v <;> first | rfl | exact (hv _ rfl).elim
   rw [hc,hvc] at h3
   rw [VRels] at h3
   obtain ⟨y,ys,h4,h5,h6⟩:=h3
   cases h4;exact h5
theorem args_read {w:World} {own:Nat → Own} {base:Nat} {spare:Nat → Bool} {held:Bool}:∀ {ts:List TypeId} {as0:List Ty} {args:List Value} {ds:List (DataW H)} {ps:List MemPlace},ts.map (rdT P 8) = as0.map some → (∀ (j:Nat) t v,ts[j]? = some t → args[j]? = some v → Value.okWide P w .any base t v) →
   DataW.TrodAll enc' P w 0 spare held ts args ds ps → ∃ vs:List TV,vs.map (·.t) = as0 ∧ (∀ v ∈ vs,InV v) ∧ VRels own (fun b=>b < w.heap.size) w 0 (vs.map (enc zDD)) args
 | [],as0,args,ds,ps,hT,hok,h=>by
   obtain ⟨rfl,rfl,rfl⟩:=trodAll_nil h
   have:as0 = []:=by simpa using hT
   subst this
   exact ⟨[],rfl,by simp,by simp [VRels]⟩
 | t :: ts,as0,args,ds,ps,hT,hok,h=>by
   obtain ⟨v,vs1,d,ds1,a,b,rfl,rfl,rfl,h1,h2⟩:=trodAll_cons h
   cases as0 with
   | nil=>simp at hT
   | cons T as0 =>
     simp only [List.map_cons,List.cons.injEq] at hT
     obtain ⟨u,g1,g2,g3⟩:=arg_told (own:=own) hT.1 (hok 0 t v rfl rfl) h1
     obtain ⟨us,g4,g5,g6⟩:=args_read (own:=own) hT.2 (fun j t v ht hv=>hok (j + 1) t v (by simpa using ht) (by simpa using hv)) h2
     refine ⟨u :: us,by simp [g1,g4],fun v hv=>?_,?_⟩
     · rcases List.mem_cons.1 hv with rfl | hv
       · exact g2
       · exact g5 v hv
     · rw [List.map_cons,VRels];exact ⟨v,vs1,rfl,g3,g6⟩
theorem all_stay {W W':World} (hl:laidOutB P = true) (hb:∀ b,b < W.heap.size → W'.heap[b]? = W.heap[b]?) {sp:Nat → Bool}:∀ {ts:List TypeId} {args:List Value} {ds:List (DataW H)} {ps:List MemPlace},(∀ t ∈ ts,P.readableRec t = true ∧ t < P.types.size) →
   DataW.TrodAll enc' P W 0 (fun _=>true) true ts args ds ps → (∀ p ∈ ps,p.block < W.heap.size) → (∀ p ∈ ps,sp p.block = true) → DataW.TrodAll enc' P W' 0 sp true ts args ds ps
 | [],args,ds,ps,_,h,_,_=>by
   obtain ⟨rfl,rfl,rfl⟩:=trodAll_nil h
   rfl
 | t :: ts,args,ds,ps,hr,h,hlt,hs=>by
   obtain ⟨v,vs1,d,ds1,a,b,rfl,rfl,rfl,h1,h2⟩:=trodAll_cons h
   have same:∀ p:MemPlace,p.block < W.heap.size → W.sameAt W' p:=fun p hp=>by
     cases p with
     | cell b o=>exact World.cell?_of_block (w:=W) (hb b hp)
     | map b=>exact hb b hp
   refine ⟨a,b,?_,all_stay hl hb (fun t ht=>hr t (List.mem_cons_of_mem _ ht)) h2 (fun p hp=>hlt p (List.mem_append_right _ hp)) (fun p hp=>hs p (List.mem_append_right _ hp)),rfl⟩
   exact WideElems.Trod_stays hl (hr t (by simp)).1 (hr t (by simp)).2 h1 (fun p hp=>same p (hlt p (List.mem_append_left _ hp))) (fun p hp=>hs p (List.mem_append_left _ hp))
theorem kept_of_blocks {W W':World} {may:MemPlace → Prop} (ho:W'.os = W.os) (hu:W'.output = W.output) (hb:∀ b,b < W.heap.size → W'.heap[b]? = W.heap[b]?):W.keptBut W' may:=by
 refine ⟨ho,hu,fun i hi=>?_⟩
 rw [hb i hi]
 have:=(World.keptBut_refl W may).2.2 i hi
 exact this
theorem law_post {s:ChangeSpec} {fn:Func} {c:Con} {tb:TypeId} {apart fresh handsOn again:Bool} (hl:laidOutB P = true) (ok:zAo P c) (hins:c.ins = []) (houts:c.outs = []) (hq:c.q = none)
   (hpar:fn.params.toList.map (rdT P 8) = c.as.map some) (hpure:c.as.all Ty.pure = true) (hr:∀ t ∈ fn.params.toList,P.readableRec t = true ∧ t < P.types.size) (hres:fn.resultTypes = #[tb]) (htb:P.underlying tb = some .bool)
   (hF:∀ vs:List TV,vs.map (·.t) = c.as → (∀ v ∈ vs,InV v) → ∃ x,zAg c x = vs ∧ ∃ y,c.F x = some y ∧ zBB c y = ⟨.bool,true⟩)
   (hsv:s.vars = []) (hsf:∀ ds:List (DataW H),ds.length = fn.params.toList.length → (s.fn H (ds ++ [])).results = [.lit (.bool true)] ∧ (s.fn H (ds ++ [])).args = ds ∧ (s.fn H (ds ++ [])).vars = [])
   {W:World} {base:Nat} {args:Array Value} {ds gs:List (DataW H)} {before:List MemPlace} (hval:∀ (j:Nat) t v,fn.params[j]? = some t → args[j]? = some v → Value.okWide P W .any base t v)
   (hW:DataW.Whole enc' P fn.params.toList s.vars apart W args.toList ds gs before) :
   Calls P c.f args W fun e W'=>∃ v,e = .returned v ∧ s.post enc' P fn apart fresh handsOn again W args v W':=by
 have hW':=hW
 rw [hsv] at hW
 obtain ⟨p,q,hA,hV,rfl,hfz,hnd⟩:=hW
 obtain ⟨rfl,rfl⟩:=trodVars_none hV
 have hds:ds.length = fn.params.toList.length:=by
   have:∀ {ts:List TypeId} {vs:List Value} {ds:List (DataW H)} {ps:List MemPlace},DataW.TrodAll enc' P W 0 (fun _=>true) true ts vs ds ps → ds.length = ts.length:=by
     intro ts
     induction ts with
     | nil=>intro vs ds ps h;obtain ⟨rfl,rfl,rfl⟩:=trodAll_nil h;rfl
     | cons t ts ih=>intro vs ds ps h;obtain ⟨v,vs1,d,ds1,a,b,rfl,rfl,rfl,h1,h2⟩:=trodAll_cons h;simp [ih h2]
   exact this hA
 let own:Nat → Own:=fun _=>⟨0,0,0,0⟩
 obtain ⟨vs,h1,h2,h3⟩:=args_read (own:=own) hpar (fun j t v ht hv=>hval j t v (by simpa using ht) (by simpa using hv)) hA
 obtain ⟨x,hx,y,hy,hyr⟩:=hF vs h1 h2
 have hrows:zBK c x = []:=by unfold zBK;rw [hins];rfl
 have hQ:∃ y,c.Q x y:=⟨y,by unfold Con.Q;rw [hq];exact hy⟩
 have hpv:∀ v ∈ vs,v.t.pure = true:=fun v hv=>List.all_eq_true.1 hpure _ (by rw [← h1];exact List.mem_map_of_mem hv)
 have hS:=ok x hQ (fun _=>.sit ByteArray.empty 0) (fun _=>0) [] (by rw [hrows];exact ⟨fun r=>trivial,fun r q h=>(by cases h),fun r t x h=>(by cases h)⟩) (by rw [hx,hrows];exact fun v hv=>zCl _ _ (hpv v hv))
 rw [hx,hrows] at hS
 have hsim:Sim own [] (fun _=>False) W:=⟨fun r row h=>(by cases h),fun r r' row row' h=>(by cases h),fun b h=>h.elim⟩
 have hU:zAM own [] (fun _=>False) W = fun b=>b < W.heap.size:=funext fun b=>propext (by rw [unowned_nil];simp)
 have hrel:zCN own [] (fun _=>False) W (vs.map (enc (zAB (fun _=>0) []))) args.toList:=by
   have e1:vs.map (enc (zAB (fun _=>0) [])) = vs.map (enc zDD):=List.map_congr_left fun v hv=>enc_pure (hpv v hv) _ _
   rw [e1,zCN,hU];exact h3
 have hC:=hS.2 own (fun _=>False) W args.toList hsim hrel
 have ea:args.toList.toArray = args:=by simp
 rw [ea] at hC
 refine hC.mono fun e W' hh=>?_
 obtain ⟨own',d,H',v,rfl,_,g2,g3,y',gQ,ζ',num',_,rfl,_⟩:=hh
 have hyy:y' = y:=by
   unfold Con.Q at gQ;rw [hq] at gQ
   exact Option.some.inj (gQ.symm.trans hy)
 subst hyy
 rw [hyr] at g2
 have hv:v = .bool true:=by
   rw [Rel] at g2
   have e:enc (zAB num' (zAK c y')) ⟨.bool,true⟩ = .v (.bool true):=rfl
   rw [e,VRel] at g2;exact g2
 subst hv
 have hblk:∀ b,b < W.heap.size → W'.heap[b]? = W.heap[b]?:=fun b hb=>(g3.hb b (by rw [hU];exact hb)).2
 obtain ⟨hs1,hs2,hs3⟩:=hsf ds hds
 have hlt:∀ p' ∈ p,p'.block < W.heap.size:=fun p' hp'=>by
   have:=DataW.TrodAll.lt hA p' hp';exact this
 have hargs:∀ sp:Nat → Bool,(∀ p' ∈ p,sp p'.block = true) → DataW.TrodAll enc' P W' 0 sp true fn.params.toList args.toList (s.fn H (ds ++ [])).args p:=fun sp hsp=>by
   rw [hs2];exact all_stay hl hblk hr hA hlt hsp
 have hresT:∀ (b:Nat) (sp:Nat → Bool) (hd:Bool),DataW.TrodAll enc' P W' b sp hd fn.resultTypes.toList ((Value.bool true).resultList fn.resultTypes.size) (s.fn H (ds ++ [])).results []:=fun b sp hd=>by
   rw [hs1,hres]
   exact trodAll_mk1 (shut_bool htb true)
 have hfr:∀ b off,b < W.heap.size → W'.frozen? ⟨b,off,none⟩ = W.frozen? ⟨b,off,none⟩:=fun b off hb=>by
   unfold World.frozen?
   rw [hblk b hb]
 refine ⟨_,rfl,ds,[],p ++ [],[],p,[],hW',hresT _ _ _,hargs _ fun p' hp'=>by simpa using hlt p' hp',?_,?_,fun _=>⟨?_,_,[],([] ++ p) ++ [],⟨[] ++ p,[],trodAll_append (hargs (fun _=>true) (fun _ _=>rfl)) (hresT _ _ _),?_,rfl,?_,?_⟩,?_⟩⟩
 · rw [hs3,hsv];rfl
 · refine World.keptBut_mono (fun p' hp'=>⟨hp',?_⟩) (kept_of_blocks (may:=(· ∈ p ++ [])) g3.st.os g3.st.out hblk)
   exact .inr (.inl (by simpa using hp'))
 · exact ok_one hres rfl (okWide_bool_mk htb true)
 · rw [hsv];rfl
 · intro b off hp'
   have hp':MemPlace.cell b off ∈ p:=by simpa using hp'
   rw [hfr b off (hlt _ hp')]
   exact hfz b off (by simpa using hp')
 · intro ha
   have:=hnd ha
   simpa using this
 · intro p' hp' _
   simpa using hp'
end
end Go.T
namespace Go.T
open Go
theorem one_of {a:Ty}:∀ {vs:List TV},vs.map (·.t) = [a] → ∃ x,vs = [⟨a,x⟩]
 | [⟨t,x⟩],h=>by
   simp only [List.map_cons,List.map_nil,List.cons.injEq,and_true] at h
   subst h;exact ⟨x,rfl⟩
 | [],h=>by cases h
 | _ :: _ :: _,h=>by cases h
theorem more_of {a:Ty} {l:List Ty}:∀ {vs:List TV},vs.map (·.t) = a :: l → ∃ x ws,vs = ⟨a,x⟩ :: ws ∧ ws.map (·.t) = l
 | ⟨t,x⟩ :: ws,h=>by
   simp only [List.map_cons,List.cons.injEq] at h
   obtain ⟨rfl,h⟩:=h
   exact ⟨x,ws,rfl,h⟩
 | [],h=>by cases h
theorem two_of {a b:Ty} {vs:List TV} (h:vs.map (·.t) = [a,b]):∃ x y,vs = [⟨a,x⟩,⟨b,y⟩]:=by
 obtain ⟨x,ws,rfl,g⟩:=more_of h
 obtain ⟨y,rfl⟩:=one_of g
 exact ⟨x,y,rfl⟩
theorem three_of {a b c:Ty} {vs:List TV} (h:vs.map (·.t) = [a,b,c]):∃ x y z,vs = [⟨a,x⟩,⟨b,y⟩,⟨c,z⟩]:=by
 obtain ⟨x,ws,rfl,g⟩:=more_of h
 obtain ⟨y,z,rfl⟩:=two_of g
 exact ⟨x,y,z,rfl⟩
end Go.T
namespace Go.Ab
variable [Go.Ab.DM]
section
variable {P:Program} {f:FuncId} {ds:List D} {H:Heap}
theorem Sound.retell {R:D → Heap → Prop} {a k:Nat} {d d':D} (hg:H.get a = some (.cells k [d])) (ht:Go.T.Te d d') (h:Sound P f ds (H.set a (some (.cells d.cells.length [d']))) R):Sound P f ds H R:=by
 refine ⟨h.1,fun own X w vs hs hv=>?_⟩
 have hk:d.cells.length = k:=by
   obtain ⟨⟨_,c,t,_,_,_,h5⟩,_⟩:=hs.live _ _ hg
   rw [Cells,zCd] at h5
   exact h5.1.1
 subst hk
 have ha:=Heap.get_lt hg
 have hlen:(H.set a (some (Row.cells d.cells.length [d']))).length = H.length:=by simp
 have hget:=Heap.get_set H ha (some (Row.cells d.cells.length [d']))
 have hU:zAM own (H.set a (some (Row.cells d.cells.length [d']))) X w = zAM own H X w:=funext fun b=>propext (by
   constructor
   · rintro ⟨h1,h2,h3⟩
     refine ⟨h1,h2,fun r row hr=>?_⟩
     by_cases e:r = a
     · subst e;exact h3 r _ (by rw [hget,if_pos rfl])
     · exact h3 r row (by rw [hget,if_neg e];exact hr)
   · rintro ⟨h1,h2,h3⟩
     refine ⟨h1,h2,fun r row hr=>?_⟩
     rw [hget] at hr
     split at hr
     · rename_i e;subst e;exact h3 r _ hg
     · exact h3 r row hr)
 have hsim:Sim own (H.set a (some (Row.cells d.cells.length [d']))) X w:=by
   refine ⟨fun r row hr=>?_,fun r r' row row' hr hr' hne=>?_,hs.hid⟩
   · rw [hU,hlen]
     rw [hget] at hr
     split at hr
     · rename_i e;subst e
       have:=Option.some.inj hr;subst this
       obtain ⟨⟨h1,c,t,h2,h3,h4,h5⟩,h6⟩:=hs.live _ _ hg
       exact ⟨⟨h1,c,t,h2,h3,by simpa using h4,Go.T.Cells_te (.cons ht .nil) h5⟩,h6⟩
     · exact hs.live r row hr
   · have low:∀ q row,Heap.get (H.set a (some (Row.cells d.cells.length [d']))) q = some row → ∃ row0,H.get q = some row0:=fun q row hq=>by
       rw [hget] at hq
       split at hq
       · rename_i e;subst e;exact ⟨_,hg⟩
       · exact ⟨_,hq⟩
     obtain ⟨_,h1⟩:=low _ _ hr
     obtain ⟨_,h2⟩:=low _ _ hr'
     exact hs.excl _ _ _ _ h1 h2 hne
 refine (h.2 own X w vs hsim (by rw [zCN,hlen,hU];exact hv)).mono fun e w' hh=>?_
 obtain ⟨own',d2,H',v,h1,h2,h3,h4,h5⟩:=hh
 exact ⟨own',d2,H',v,h1,h2,h3,⟨h4.size,hlen ▸ h4.hn,fun r hr=>h4.ho r (by rw [hlen];exact hr),fun b hb=>h4.hb b (by rw [hU];exact hb),h4.hx,h4.st⟩,h5⟩
def mvH (H:Heap) (a b k m:Nat) (xs:List D):Heap:=((H.set b none).set a (some (.cells 1 [.sl H.length 0 m]))) ++ [some (.cells k xs)]
theorem mvH_get {H:Heap} {a b k m:Nat} {xs:List D} (ha:a < H.length) (hb:b < H.length) (r:Nat):(mvH H a b k m xs).get r = if r = H.length then some (.cells k xs) else if r = a then some (.cells 1 [.sl H.length 0 m]) else if r = b then none else H.get r:=by
 unfold mvH
 rw [Heap.get_push]
 simp only [List.length_set]
 split
 · rfl
 · rw [Heap.get_set _ (by simpa using ha),Heap.get_set _ hb]
theorem mv_sim {own:Nat → Own} {X:Nat → Prop} {w:World} (hs:Sim own H X w) {a b k m:Nat} {xs:List D} (hab:a ≠ b) (hga:H.get a = some (.cells 1 [.sl b 0 m])) (hgb:H.get b = some (.cells k xs)) :
   ∃ own',Sim own' (mvH H a b k m xs) X w ∧ Ext X own H w own' (mvH H a b k m xs) w ∧ ∀ d v,Rel own H X w d v → Rel own' (mvH H a b k m xs) X w d v:=by
 have ha:=Heap.get_lt hga
 have hb:=Heap.get_lt hgb
 have hget:=fun r=>mvH_get (m:=m) (k:=k) (xs:=xs) ha hb r
 have hlen:(mvH H a b k m xs).length = H.length + 1:=by simp [mvH]
 refine ⟨fun r=>if r = H.length then own b else own r,?_⟩
 generalize hown:(fun r=>if r = H.length then own b else own r) = own'
 have hN:own' H.length = own b:=by rw [← hown];simp
 have hO:∀ r,r ≠ H.length → own' r = own r:=fun r h=>by rw [← hown];simp [h]
 have back:∀ r row,(mvH H a b k m xs).get r = some row → ∃ q row0,H.get q = some row0 ∧ own' r = own q ∧ ((r = H.length ∧ q = b) ∨ (r ≠ H.length ∧ r ≠ b ∧ q = r)):=fun r row h=>by
   rw [hget] at h
   split at h
   · rename_i e;subst e;exact ⟨b,_,hgb,hN,.inl ⟨rfl,rfl⟩⟩
   · rename_i e
     split at h
     · rename_i e2;subst e2;exact ⟨r,_,hga,hO _ e,.inr ⟨e,hab,rfl⟩⟩
     · split at h
       · cases h
       · rename_i e3;exact ⟨r,_,h,hO _ e,.inr ⟨e,e3,rfl⟩⟩
 have hU:zAM own' (mvH H a b k m xs) X w = zAM own H X w:=funext fun q=>propext (by
   constructor
   · rintro ⟨h1,h2,h3⟩
     refine ⟨h1,h2,fun r row hr=>?_⟩
     have hrl:r ≠ H.length:=Nat.ne_of_lt (Heap.get_lt hr)
     by_cases e:r = b
     · subst e;rw [← hN];exact h3 H.length _ (by rw [hget,if_pos rfl])
     · by_cases e2:r = a
       · subst e2;rw [← hO _ hrl];exact h3 r _ (by rw [hget,if_neg hrl,if_pos rfl])
       · rw [← hO _ hrl];exact h3 r row (by rw [hget,if_neg hrl,if_neg e2,if_neg e];exact hr)
   · rintro ⟨h1,h2,h3⟩
     refine ⟨h1,h2,fun r row hr=>?_⟩
     obtain ⟨q',row0,h4,h5,_⟩:=back r row hr
     rw [h5];exact h3 q' row0 h4)
 have keeps:Keeps own H.length (zAM own H X w) w own' (mvH H a b k m xs).length (zAM own' (mvH H a b k m xs) X w) w :=
   ⟨by omega,fun r hr=>hO r (by omega),fun b hb=>by rw [hU];exact hb,fun _ _ _=>rfl⟩
 refine ⟨⟨fun r row hr=>?_,fun r r' row row' hr hr' hne=>?_,hs.hid⟩,⟨Nat.le_refl _,by omega,fun r hr=>hO r (by omega),fun b hb=>⟨by rw [hU];exact hb,rfl⟩,fun _ _=>rfl,.refl _⟩,fun d v h=>VRel.mono keeps d v h⟩
 · obtain ⟨q,row0,h1,h2,h3⟩:=back r row hr
   rw [h2]
   refine ⟨?_,(hs.live _ _ h1).2⟩
   rw [hget] at hr
   split at hr
   · rename_i e
     have:=Option.some.inj hr;subst this
     rcases h3 with ⟨_,rfl⟩ | ⟨h,_⟩
     · exact RowOk.mono keeps rfl (hs.live _ _ hgb).1
     · exact absurd e h
   · rename_i e
     rcases h3 with ⟨h,_⟩ | ⟨_,h3,rfl⟩
     · exact absurd h e
     split at hr
     · rename_i e2;subst e2
       have:=Option.some.inj hr;subst this
       obtain ⟨g1,c,t,g2,g3,g4,g5⟩:=RowOk.mono keeps rfl (hs.live _ _ hga).1
       refine ⟨g1,c,t,g2,g3,by simpa using g4,?_⟩
       have g6:=Cells_get (i:=0) g5 rfl
       rw [zCd] at g6
       rw [Cells]
       refine ⟨?_,by rw [Cells];trivial⟩
       rw [zCd]
       obtain ⟨g8,g6⟩:=g6
       refine ⟨g8,?_⟩
       simp only [D.cells,Flat] at g6 ⊢
       obtain ⟨g9,⟨v,hv,g7⟩,_⟩:=g6
       refine ⟨rfl,⟨v,by simpa using hv,?_⟩,trivial⟩
       rw [VRel] at g7 ⊢
       obtain ⟨h7,h8⟩:=g7
       rw [hN]
       rw [hO b (Nat.ne_of_lt hb)] at h8
       exact ⟨by omega,h8⟩
     · exact RowOk.mono keeps rfl (hs.live _ _ hr).1
 · obtain ⟨q,row0,h1,h2,h3⟩:=back r row hr
   obtain ⟨q',row0',h1',h2',h3'⟩:=back r' row' hr'
   rw [h2,h2']
   refine hs.excl _ _ _ _ h1 h1' ?_
   rcases h3 with ⟨e1,e2⟩ | ⟨e1,e2,e3⟩ <;> rcases h3' with ⟨e1',e2'⟩ | ⟨e1',e2',e3'⟩
   · exact absurd (e1.trans e1'.symm) hne
   · rw [e2,e3'];exact fun h=>e2' h.symm
   · rw [e3,e2'];exact e2
   · rw [e3,e3'];exact hne
theorem Sound.mv {R R':D → Heap → Prop} (h:Sound P f ds H R) (hr:∀ d H',H.length ≤ H'.length → R d H' → ∃ a b k m xs,a ≠ b ∧ H'.get a = some (.cells 1 [.sl b 0 m]) ∧ H'.get b = some (.cells k xs) ∧ R' d (mvH H' a b k m xs)):Sound P f ds H R':=⟨h.1,fun own X w vs hs hv =>
 Calls.mono (h.2 own X w vs hs hv) fun e w' ⟨own',d,H',v,h1,h2,h3,h4,h5⟩=>by
   obtain ⟨a,b,k,m,xs,g1,g2,g3,g4⟩:=hr d H' h4.hn h5
   obtain ⟨own'',g5,g6,g7⟩:=mv_sim h2 g1 g2 g3
   exact ⟨own'',d,_,v,h1,g5,g7 _ _ h3,Ext.trans h4 g6,g4⟩⟩
end
end Go.Ab
namespace Go.T
open Go.Ab
variable [Go.Ab.DM]
theorem hrel_nil {ζ:Nat → Row} {num:Nat → Nat} {H:Heap}:HRel ζ num [] H:=⟨fun r=>trivial,fun r q h=>(by cases h),fun r t x h=>(by cases h)⟩
theorem norefs_enc {l:List TV} (h:∀ v ∈ l,v.t.pure = true):zAb (l.map (enc zDD)) = true:=by
 induction l with
 | nil=>simp [zAb]
 | cons v l ih =>
   rw [List.map_cons,zAb,Bool.and_eq_true]
   exact ⟨(e0_noref v.t v.x (h v (by simp))).1,ih fun u hu=>h u (by simp [hu])⟩
theorem con_pure {P:Program} {c:Con} (hins:c.ins = []) (houts:c.outs = []) (hpa:∀ x,∀ v ∈ zAg c x,v.t.pure = true) (hpr:∀ y,(zBB c y).t.pure = true)
   (h:∀ x,(∃ y,c.Q x y) → Pure P c.f ((zAg c x).map (enc zDD)) fun d=>∃ y,c.Q x y ∧ d = enc zDD (zBB c y)):zAo P c:=fun x hx ζ num H hH hok=>by
 have hrows:zBK c x = []:=by unfold zBK;rw [hins];rfl
 have houtR:∀ y,zAK c y = []:=fun y=>by unfold zAK;rw [houts];rfl
 have e1:∀ ρ,(zAg c x).map (enc ρ) = (zAg c x).map (enc zDD):=fun ρ=>List.map_congr_left fun v hv=>enc_pure (hpa x v hv) _ _
 rw [e1]
 refine ((h x hx).frame (norefs_enc (hpa x)) H).sound.mono fun d H' hd=>?_
 obtain ⟨rfl,y,hy,rfl⟩:=hd
 refine ⟨y,hy,ζ,num,by rw [houtR];exact hrel_nil,by rw [houtR];exact enc_pure (hpr y) _ _,by rw [houtR];exact zCl _ _ (hpr y),?_,?_⟩
 · intro r hr;rw [houtR] at hr;cases hr
 · intro r hr;rw [hins] at hr;cases hr
theorem pure_of {P:Program} {c:Con} (ok:zAo P c) (hins:c.ins = []) (hq:c.q = none) {x:(zAX c.inT).I} {y:(zAX c.outT).I} (hpa:∀ v ∈ zAg c x,v.t.pure = true) (hpr:(zBB c y).t.pure = true) (h:c.F x = some y):Pure P c.f ((zAg c x).map (enc zDD)) fun d=>d = enc zDD (zBB c y):=by
 have hrows:zBK c x = []:=by unfold zBK;rw [hins];rfl
 have hQ:c.Q x y:=by unfold Con.Q;rw [hq];exact h
 have hS:=ok x ⟨y,hQ⟩ (fun _=>.sit ByteArray.empty 0) (fun _=>0) [] (by rw [hrows];exact hrel_nil) (fun v hv=>zCl _ _ (hpa v hv))
 have e1:∀ ρ,(zAg c x).map (enc ρ) = (zAg c x).map (enc zDD):=fun ρ=>List.map_congr_left fun v hv=>enc_pure (hpa v hv) _ _
 rw [e1] at hS
 refine ⟨hS.1,fun own X w vs hs hv=>(hS.2 own X w vs hs hv).mono fun e w' hh=>?_⟩
 obtain ⟨own',d,H',v,h1,h2,h3,h4,y',gQ,ζ',num',_,hd,_⟩:=hh
 have hy:y' = y:=by
   unfold Con.Q at gQ;rw [hq] at gQ
   exact Option.some.inj (gQ.symm.trans h)
 subst hy
 have hU:∀ b,zAM own' H' X w' b → zAM own' [] X w' b:=fun b hb=>unowned_nil.2 ⟨hb.1,hb.2.1⟩
 refine ⟨own',_,[],v,h1,Sim.nil h2.hid,?_,⟨h4.size,Nat.le_refl _,fun r hr=>absurd hr (Nat.not_lt_zero _),fun b hb=>⟨hU b (h4.hb b hb).1,(h4.hb b hb).2⟩,h4.hx,h4.st⟩,rfl,rfl⟩
 rw [hd,enc_pure hpr _ zDD] at h3
 exact VRel.mono ⟨Nat.le_refl _,fun r hr=>absurd hr (Nat.not_lt_zero _),hU,fun _ _ _=>rfl⟩ _ _ (VRel_noref _ _ (e0_noref _ _ hpr).1 h3)
end Go.T
namespace Go.T
open Go.Ab Go.Sort Go.Proofs
variable [Go.Ab.DM]
section
variable {own:Nat → Own} {U:Nat → Prop} {w:World}
theorem blk_flat {α:Type} [Inhabited α] (e:α → List Value) {k:Nat} (hk:∀ x,(e x).length = k):∀ (ps:List α) (t:Nat),t < ps.length * k → (ps.flatMap e)[t]? = some (e ps.toArray[t / k]!)[t % k]!
 | [],t,h=>by simp at h
 | p :: ps,t,h=>by
   have hk0:0 < k:=by rcases Nat.eq_zero_or_pos k with h' | h';· subst h';simp at h
                      · exact h'
   rw [List.flatMap_cons]
   rcases Nat.lt_or_ge t k with ht | ht
   · rw [List.getElem?_append_left (by rw [hk];exact ht),Nat.div_eq_of_lt ht,Nat.mod_eq_of_lt ht]
     have:t < (e p).length:=by rw [hk];exact ht
     simp [this]
   · rw [List.getElem?_append_right (by rw [hk];exact ht),hk]
     have h1:t - k < ps.length * k:=by simp [Nat.add_mul] at h;omega
     rw [blk_flat e hk ps (t - k) h1]
     have e1:t / k = (t - k) / k + 1:=by rw [Nat.div_eq_sub_div hk0 ht]
     have e2:t % k = (t - k) % k:=Nat.mod_eq_sub_mod ht
     rw [e1,e2]
     simp
theorem flatK_list {α:Type} [Inhabited α] (e:α → List Value) {k:Nat} (hk:∀ x,(e x).length = k) (ps:List α):flatK e k ps.toArray = (ps.flatMap e).toArray:=by
 have hl:(ps.flatMap e).length = ps.length * k:=by
   induction ps with
   | nil=>simp
   | cons p ps ih=>rw [List.flatMap_cons,List.length_append,ih,hk,List.length_cons,Nat.add_mul];omega
 refine ext_get! (by simp [hl]) fun t ht=>?_
 have ht:t < ps.length * k:=by simpa using ht
 rw [get_flatK _ _ _ _ (by simpa using ht)]
 have:=blk_flat e hk ps t ht
 have h2:t < (ps.flatMap e).length:=by rw [hl];exact ht
 rw [List.getElem?_eq_getElem h2] at this
 rw [getElem!_pos _ t (by simpa using h2)]
 simpa using (Option.some.inj this).symm
theorem cut_row {T:Ty} (hT:T.elem = true):∀ (l:List T.I) (vs:List Value),VRels own U w 0 ((l.map (e0 T)).flatMap D.cells) vs → ∃ ps:List (T.I × List Value),ps.map (·.1) = l ∧ ps.flatMap (·.2) = vs ∧ ∀ p ∈ ps,p.2.length = T.w ∧ VRels own U w 0 (e0 T p.1).cells p.2
 | [],vs,h=>by
   rw [List.map_nil,List.flatMap_nil,VRels] at h
   exact ⟨[],rfl,by simp [h],by simp⟩
 | x :: l,vs,h=>by
   rw [List.map_cons,List.flatMap_cons] at h
   obtain ⟨us,ws,rfl,h1,h2⟩:=VRels_split h
   obtain ⟨ps,g1,g2,g3⟩:=cut_row hT l ws h2
   refine ⟨(x,us) :: ps,by simp [g1],by simp [g2],fun p hp=>?_⟩
   rcases List.mem_cons.1 hp with rfl | hp
   · exact ⟨by rw [zAr h1,← D.width_eq,elem_width hT],h1⟩
   · exact g3 p hp
theorem join_row {T:Ty}:∀ (ps:List (T.I × List Value)),(∀ p ∈ ps,VRels own U w 0 (e0 T p.1).cells p.2) → VRels own U w 0 ((ps.map fun p=>e0 T p.1).flatMap D.cells) (ps.flatMap (·.2))
 | [],_=>by simp [VRels]
 | p :: ps,h=>by
   rw [List.map_cons,List.flatMap_cons,List.flatMap_cons]
   exact zBI (h p (by simp)) (join_row ps fun q hq=>h q (by simp [hq]))
end
def SE (T:Ty) (D0:T.I → Prop) (own:Nat → Own) (U:Nat → Prop) (w:World):Type:={p:T.I × List Value // D0 p.1 ∧ p.2.length = T.w ∧ VRels own U w 0 (e0 T p.1).cells p.2}
def SE.e {T:Ty} {D0:T.I → Prop} {own:Nat → Own} {U:Nat → Prop} {w:World} (p:SE T D0 own U w):List Value:=p.1.2
def SE.c {T:Ty} {D0:T.I → Prop} (cf:T.I → T.I → Int) {own:Nat → Own} {U:Nat → Prop} {w:World} (p q:SE T D0 own U w):Int:=cf p.1.1 q.1.1
structure CmpOk (P:Program) (cc:Con) (T:Ty) (cap:List TV) (D0:T.I → Prop) (cf:T.I → T.I → Int):Prop where
 ok:@zAo ⟨True⟩ P cc
 ins:cc.ins = []
 outs:cc.outs = []
 pure:∀ v ∈ cap,v.t.pure = true
 enters:∀ args w,(callFunc cc.f args).run P w = .ok (.enter cc.f args) w
 gives:∀ x y,D0 x → D0 y → ∃ z,zAg cc z = ⟨T,x⟩ :: ⟨T,y⟩ :: cap ∧ (∃ r,cc.Q z r) ∧ ∀ r,cc.Q z r → zBB cc r = ⟨.int .i64,cf x y⟩
 irrefl:∀ x,D0 x → ltOf cf x x = false
 trans:∀ x y z,D0 x → D0 y → D0 z → ltOf cf x y = true → ltOf cf y z = true → ltOf cf x z = true
 ntrans:∀ x y z,D0 x → D0 y → D0 z → ltOf cf x y = false → ltOf cf y z = false → ltOf cf x z = false
section
variable {P:Program} {cc:Con} {T:Ty} {cap:List TV} {D0:T.I → Prop} {cf:T.I → T.I → Int} {own:Nat → Own} {U:Nat → Prop} {w:World}
theorem CmpOk.swo (c:CmpOk P cc T cap D0 cf):SWO (ltOf (SE.c (D0:=D0) cf (own:=own) (U:=U) (w:=w))) :=
 ⟨fun x=>c.irrefl _ x.2.1,fun x y z=>c.trans _ _ _ x.2.1 y.2.1 z.2.1,fun x y z=>c.ntrans _ _ _ x.2.1 y.2.1 z.2.1⟩
theorem world_ext {w w':World} (h1:w'.heap = w.heap) (h2:w'.tape = w.tape) (h3:w'.drawn = w.drawn) (h4:w'.os = w.os) (h5:w'.output = w.output):w' = w:=by
 cases w;cases w';simp at h1 h2 h3 h4 h5;subst h1 h2 h3 h4 h5;rfl
omit [Go.Ab.DM] in
theorem grown {W w':World} (hsz:W.heap.size ≤ w'.heap.size) (hb:∀ b,b < W.heap.size → w'.heap[b]? = W.heap[b]?) (st:@SameW ⟨True⟩ W w'):∃ q os',w' = grow (W.drewN q) os':=by
 letI:Go.Ab.DM:=⟨True⟩
 refine ⟨w'.drawn - W.drawn,w'.heap.extract W.heap.size w'.heap.size,world_ext ?_ st.tape ?_ st.os st.out⟩
 · show w'.heap = W.heap ++ _
   apply Array.ext_getElem?
   intro i
   rcases Nat.lt_or_ge i W.heap.size with h | h
   · rw [hb i h,Array.getElem?_append_left h]
   · rw [Array.getElem?_append_right h]
     rcases Nat.lt_or_ge i w'.heap.size with h' | h'
     · rw [Array.getElem?_eq_getElem h',Array.getElem?_eq_getElem (by simp;omega)]
       simp [Nat.add_sub_cancel' h]
     · rw [Array.getElem?_eq_none h',Array.getElem?_eq_none (by simp;omega)]
 · show w'.drawn = W.drawn + _
   have:=st.drawn trivial;omega
omit [Go.Ab.DM] in
theorem cmp_lays [Inhabited (SE T D0 own U w)] (c:CmpOk P cc T cap D0 cf) (hTp:T.pure = true) (hagg:zBo T = true) {blk off size:Nat} {us:List Value} (hU:∀ b,U b → b < w.heap.size ∧ b ≠ blk) (hcap:VRels own U w 0 (cap.map (enc zDD)) us) :
   CmpLays P cc.f us.toArray (SE.e (D0:=D0) (own:=own) (U:=U) (w:=w)) T.w (SE.c cf) blk off size w:=by
 letI:Go.Ab.DM:=⟨True⟩
 intro m os dk hdk x y
 generalize hWdef:sortWorldK (SE.e (D0:=D0) (own:=own) (U:=U) (w:=w)) T.w w blk off m dk os = W
 have hW:∀ b,U b → b < W.heap.size ∧ W.heap[b]? = w.heap[b]?:=fun b hb=>by
   obtain ⟨h1,h2⟩:=hU b hb
   subst hWdef
   unfold sortWorldK grow putRowK Go.Sort.putRow mapBlock Sort.ahead
   simp only
   refine ⟨by simp;omega,?_⟩
   rw [Array.getElem?_append_left (by simpa using h1),Array.getElem?_modify,if_neg (Ne.symm h2)]
 obtain ⟨z,hz,hq,hres⟩:=c.gives _ _ x.2.1 y.2.1
 have hrows:zBK cc z = []:=by unfold zBK;rw [c.ins];rfl
 have hpv:∀ v ∈ zAg cc z,v.t.pure = true:=fun v hv=>by
   rw [hz] at hv
   rcases List.mem_cons.1 hv with rfl | hv
   · exact hTp
   rcases List.mem_cons.1 hv with rfl | hv
   · exact hTp
   · exact c.pure v hv
 have hS:=c.ok z hq (fun _=>.sit ByteArray.empty 0) (fun _=>0) [] (by rw [hrows];exact hrel_nil) (fun v hv=>zCl _ _ (hpv v hv))
 have e1:∀ ρ,(zAg cc z).map (enc ρ) = (zAg cc z).map (enc zDD):=fun ρ=>List.map_congr_left fun v hv=>enc_pure (hpv v hv) _ _
 rw [e1,hz] at hS
 have hsim:Sim own [] (fun _=>False) W:=⟨fun r row h=>(by cases h),fun r r' row row' h=>(by cases h),fun b h=>h.elim⟩
 have hUn:zAM own [] (fun _=>False) W = fun b=>b < W.heap.size:=funext fun b=>propext (by rw [unowned_nil];simp)
 have keeps:Keeps own 0 U w own 0 (fun b=>b < W.heap.size) W:=⟨Nat.le_refl _,fun _ _=>rfl,fun b hb=>(hW b hb).1,fun b hb=>zCH (hW b hb).2⟩
 have elt:∀ p:SE T D0 own U w,VRel own (fun b=>b < W.heap.size) W 0 (enc zDD ⟨T,p.1.1⟩) (.agg p.e.toArray):=fun p=>by
   have h:=VRels.mono keeps _ _ p.2.2.2
   obtain ⟨⟨x,vs⟩,h1,h2,h3⟩:=p
   cases T with
   | agg s =>
     show VRel _ _ _ _ (D.agg _) _
     rw [VRel];exact ⟨_,rfl,h⟩
   | _=>simp [zBo] at hagg
 have hrel:zCN own [] (fun _=>False) W ((⟨T,x.1.1⟩ :: ⟨T,y.1.1⟩ :: cap).map (enc zDD)) (.agg x.e.toArray :: .agg y.e.toArray :: us):=by
   rw [zCN,hUn]
   show VRels _ _ _ 0 _ _
   rw [List.map_cons,List.map_cons,VRels]
   refine ⟨_,_,rfl,elt x,?_⟩
   rw [VRels]
   exact ⟨_,_,rfl,elt y,VRels.mono keeps _ _ hcap⟩
 have hC:=hS.2 own (fun _=>False) W _ hsim hrel
 have ea:(Value.agg x.e.toArray :: Value.agg y.e.toArray :: us).toArray = #[.agg x.e.toArray,.agg y.e.toArray] ++ us.toArray:=by simp
 rw [ea] at hC
 refine hC.mono fun e W' hh=>?_
 obtain ⟨own',d,H',v,rfl,_,g2,g3,r,gQ,ζ',num',_,rfl,_⟩:=hh
 rw [hres r gQ] at g2
 have hv:v = .int .i64 (cf x.1.1 y.1.1):=by
   rw [Rel] at g2
   have e:enc (zAB num' (zAK cc r)) ⟨.int .i64,cf x.1.1 y.1.1⟩ = .v (.int .i64 (cf x.1.1 y.1.1)):=rfl
   rw [e,VRel] at g2;exact g2
 subst hv
 refine ⟨rfl,grown g3.size (fun b hb=>(g3.hb b (by rw [hUn];exact hb)).2) g3.st⟩
def SortsAt (P:Program) (f k:Nat):Prop:=∀ {α:Type} [Inhabited α] (enc:α → List Value) (hk:∀ x,(enc x).length = k) (h1:∀ x,∀ v ∈ enc x,v.oneCell' = true) (cf:α → α → Int) (hO:SWO (ltOf cf)) (g:Nat) (cb:Array Value) (blk off cap:Nat) (d:Array α) (w:World)
 (eg:∀ args w,(callFunc g args).run P w = .ok (.enter g args) w) (hcmp:CmpLays P g cb enc k cf blk off d.size w) (hH:HoldsK enc k w blk off d) (hblk:blk < w.heap.size) (hsz:d.size < 4611686018427387904),
 Calls P f #[.slice (some ⟨blk,off,none⟩) d.size cap,.func (.func g) #[] cb] w fun e w' =>
   e = .returned (.tuple #[]) ∧ ∃ d' n os,PermIn 0 d.size d d' ∧ SortedIn (ltOf cf) 0 d.size d' ∧ w' = sortWorldK enc k w blk off n d' os
theorem norefs_app:∀ (a b:List D),zAb a = true → zAb b = true → zAb (a ++ b) = true
 | [],b,_,h=>h
 | d :: a,b,h,h'=>by
   rw [zAb,Bool.and_eq_true] at h
   rw [List.cons_append,zAb,Bool.and_eq_true]
   exact ⟨h.1,norefs_app a b h.2 h'⟩
theorem norefs_flat {T:Ty} (hp:T.pure = true):∀ l:List T.I,zAb ((l.map (e0 T)).flatMap D.cells) = true
 | []=>by simp [zAb]
 | x :: l=>by
   rw [List.map_cons,List.flatMap_cons]
   exact norefs_app _ _ (noref_cells (e0_noref T x hp).1) (norefs_flat hp l)
theorem ones_flat {T:Ty} (hT:T.elem = true):∀ l:List T.I,((l.map (e0 T)).flatMap D.cells).all D.one = true
 | []=>rfl
 | x :: l=>by
   rw [List.map_cons,List.flatMap_cons,List.all_append,Bool.and_eq_true]
   exact ⟨elem_cells hT zDD x,ones_flat hT l⟩
theorem sub_list {α:Type} {p:α → Prop}:∀ ps:List α,(∀ x ∈ ps,p x) → ∃ qs:List {x // p x},qs.map (·.1) = ps
 | [],_=>⟨[],rfl⟩
 | x :: ps,h=>by
   obtain ⟨qs,hq⟩:=sub_list ps fun y hy=>h y (by simp [hy])
   exact ⟨⟨x,h x (by simp)⟩ :: qs,by simp [hq]⟩
theorem sort_sound {f:Nat} (L:SortsAt P f T.w) (c:CmpOk P cc T cap D0 cf) (hT:T.elem = true) (hagg:zBo T = true) (hcall:callable P f) (x0:T.I) (h0:D0 x0) (hx0:∀ own U w,∃ vs,VRels own U w 0 (e0 T x0).cells vs)
   {H:Heap} {r:Nat} {l:List T.I} (hg:H.get r = some (.cells T.w (l.map (e0 T)))) (hl:∀ x ∈ l,D0 x) (hn:l.length < 4611686018427387904) :
   Sound P f [.sl r 0 l.length,.fn (.func cc.f) [] (cap.map (enc zDD))] H fun d H'=>d = .tup [] ∧ ∃ l':List T.I,l'.Perm l ∧ l'.Pairwise (fun a b=>ltOf cf b a = false) ∧ H' = H.set r (some (.cells T.w (l'.map (e0 T)))):=by
 refine ⟨hcall,fun own X w vs hs hv=>?_⟩
 have hTp:=zCG hT
 rw [zCN,VRels] at hv
 obtain ⟨v1,vs1,rfl,hv1,hv⟩:=hv
 rw [VRels] at hv
 obtain ⟨v2,vs2,rfl,hv2,hv⟩:=hv
 rw [VRels] at hv
 subst hv
 rw [VRel] at hv1
 rw [VRel] at hv2
 obtain ⟨_,off,cp,rfl,hm,hoff⟩:=hv1
 obtain ⟨fs0,us,rfl,hfs0,hcap⟩:=hv2
 rw [VRels] at hfs0
 subst hfs0
 obtain ⟨⟨hk,cs,t,hb,hsz,hfit,hcells⟩,hX⟩:=hs.live r _ hg
 generalize hUd:zAM own H X w = U at *
 have hUb:∀ b,U b → b < w.heap.size ∧ b ≠ (own r).b:=fun b h=>by
   rw [← hUd] at h
   exact ⟨h.1,fun e=>h.2.2 r _ hg e.symm⟩
 have hcap':VRels own U w 0 (cap.map (enc zDD)) us:=zCc _ _ (norefs_enc c.pure) hcap
 obtain ⟨hw,hflat⟩:=Cells_flat.1 hcells
 obtain ⟨hone,fs,hfv,hfc⟩:=Flat_values.1 hflat
 obtain ⟨ps,hp1,hp2,hp3⟩:=cut_row hT l fs (zCc _ _ (norefs_flat hTp l) hfv)
 obtain ⟨qs,hqs⟩:∃ qs:List (SE T D0 own U w),qs.map (·.1) = ps:=by
   exact sub_list ps fun p hp=>⟨hl _ (by rw [← hp1];exact List.mem_map_of_mem hp),hp3 p hp⟩
 obtain ⟨vs0,hvs0⟩:=hx0 own U w
 have inst:Inhabited (SE T D0 own U w):=⟨⟨(x0,vs0),h0,by rw [zAr hvs0,← D.width_eq,elem_width hT],hvs0⟩⟩
 have hek:∀ p:SE T D0 own U w,p.e.length = T.w:=fun p=>p.2.2.1
 have hfe:qs.flatMap SE.e = fs:=by rw [← hp2,← hqs,List.flatMap_map];rfl
 have hql:qs.map (fun p=>p.1.1) = l:=by rw [← hp1,← hqs,List.map_map];rfl
 have hqn:qs.length = l.length:=by rw [← hql,List.length_map]
 have hflen:fs.length = l.length * T.w:=by
   rw [← hfe,← hqn]
   clear hfe hql hqn hqs
   induction qs with
   | nil=>simp
   | cons p qs ih=>rw [List.flatMap_cons,List.length_append,ih,hek,List.length_cons,Nat.add_mul];omega
 have hoff':l.length ≠ 0 → off = (own r).base:=fun h=>by
   obtain ⟨h1,_⟩:=hoff (by omega)
   simpa using h1
 have hH:HoldsK (SE.e (D0:=D0) (own:=own) (U:=U) (w:=w)) T.w w (own r).b off qs.toArray:=by
   unfold HoldsK
   rw [flatK_list _ hek,hfe]
   intro j hj
   have hj:j < fs.length:=by simpa using hj
   have hl0:l.length ≠ 0:=fun h=>by rw [h] at hflen;omega
   rw [hoff' hl0]
   refine ⟨?_,?_⟩
   · rw [hfc j hj,List.getElem?_eq_getElem hj,getElem!_pos _ j (by simpa using hj)];simp
   · unfold World.frozen?
     rw [hb];simp
 have hblk:(own r).b < w.heap.size:=by
   rcases Nat.lt_or_ge (own r).b w.heap.size with h | h
   · exact h
   · rw [Array.getElem?_eq_none h] at hb;cases hb
 have h1c:∀ x:SE T D0 own U w,∀ v ∈ x.e,v.oneCell' = true:=fun x=>VRels_one x.2.2.2 (elem_cells hT zDD x.1.1)
 have hC:=L SE.e hek h1c (SE.c cf) c.swo cc.f us.toArray (own r).b off cp qs.toArray w c.enters (cmp_lays c hTp hagg hUb hcap') hH hblk (by simpa [hqn] using hn)
 have ea:(#[]:Array Value) = [].toArray:=rfl
 have en:qs.toArray.size = l.length:=by simp [hqn]
 rw [en] at hC
 refine hC.mono fun e w' hh=>?_
 obtain ⟨rfl,d',n,os,hperm,hsorted,rfl⟩:=hh
 obtain ⟨hds,_,hp⟩:=hperm
 have hds:d'.size = l.length:=by rw [hds,en]
 have hp:d'.toList.Perm qs:=by
   have e1:(d'.extract 0 l.length).toList = d'.toList:=by rw [← hds];simp
   have e2:(qs.toArray.extract 0 l.length).toList = qs:=by rw [← hqn];simp
   rw [e1,e2] at hp;exact hp
 have hw1:(putRowK SE.e T.w (Sort.ahead w n) (own r).b off d').heap = w.heap.setIfInBounds (own r).b (.cells (putCells id off (flatK SE.e T.w d') cs) t (0,0)):=by
   unfold putRowK Go.Sort.putRow mapBlock Sort.ahead
   apply Array.ext_getElem?
   intro i
   simp only
   rw [Array.getElem?_modify,Array.getElem?_setIfInBounds]
   by_cases e:(own r).b = i
   · subst e
     rw [if_pos rfl,if_pos rfl,hb,if_pos hblk];rfl
   · rw [if_neg e,if_neg e]
 have hH':HoldsK SE.e T.w (putRowK SE.e T.w (Sort.ahead w n) (own r).b off d') (own r).b off d' :=
   holdsK_putRowK SE.e T.w (Sort.ahead w n) (own r).b off qs.toArray d' (holdsK_ahead SE.e T.w w n (own r).b off _ hH) (by rw [hds,en])
 have hfl:flatK SE.e T.w d' = (d'.toList.flatMap SE.e).toArray:=by
   have:=flatK_list SE.e hek d'.toList
   simpa using this
 have hlen':d'.toList.length = l.length:=by simpa using hds
 have hdl:(d'.toList.flatMap SE.e).length = l.length * T.w:=by
   rw [← hlen']
   generalize d'.toList = q
   induction q with
   | nil=>simp
   | cons p q ih=>rw [List.flatMap_cons,List.length_append,ih,hek,List.length_cons,Nat.add_mul];omega
 obtain ⟨hs1,hx1⟩:=step_set (row':=.cells T.w ((d'.toList.map fun p=>p.1.1).map (e0 T))) hs hg _ hw1 (fun hext hobj=>by
   have hcellsz:(putCells id off (flatK SE.e T.w d') cs).size = cs.size:=by simp [putCells]
   refine ⟨hk,_,t,hobj,by rw [hcellsz];exact hsz,by simpa [hlen'] using hfit,Cells_flat.2 ⟨fun d hd=>?_,Flat_values.2 ⟨ones_flat hT _,d'.toList.flatMap SE.e,?_,fun i hi=>?_⟩⟩⟩
   · obtain ⟨x,_,rfl⟩:=List.mem_map.1 hd
     exact elem_width hT zDD x
   · have hj:=join_row (own:=own) (U:=U) (w:=w) (d'.toList.map (·.1)) (fun p hp'=>by
       obtain ⟨q,_,rfl⟩:=List.mem_map.1 hp'
       exact q.2.2.2)
     have h2:(d'.toList.map (·.1)).flatMap (·.2) = d'.toList.flatMap SE.e:=by rw [List.flatMap_map];rfl
     have h3:((d'.toList.map (·.1)).map fun p=>e0 T p.1) = (d'.toList.map fun p=>p.1.1).map (e0 T):=by rw [List.map_map,List.map_map];rfl
     rw [h2,h3] at hj
     refine VRels.mono (own:=own) (U:=U) (w:=w) (n:=0) ⟨Nat.zero_le _,fun r h=>absurd h (Nat.not_lt_zero _),fun b hb'=>?_,fun b hb'=>?_⟩ _ _ hj
     · exact (hext.hb b (by rw [hUd];exact hb')).1
     · exact zCH (hext.hb b (by rw [hUd];exact hb')).2
   · have hl0:l.length ≠ 0:=fun h=>by rw [h] at hdl;omega
     have:=(hH' i (by rw [hfl];simpa using hi)).1
     rw [hfl] at this
     rw [← hoff' hl0,this,List.getElem?_eq_getElem hi,getElem!_pos _ i (by simpa using hi)];simp) ⟨rfl,rfl,rfl,fun _=>Nat.le_add_right _ _⟩
 obtain ⟨hs2,hx2⟩:=Sim.outlives (own':=own) (X':=X) (w':=sortWorldK SE.e T.w w (own r).b off n d' os) hs1 (fun _ h=>h) (fun b hb'=>by
   unfold sortWorldK grow
   simp only
   rw [Array.getElem?_append_left hb']) (by unfold sortWorldK grow;simp) ⟨rfl,rfl,rfl,fun _=>Nat.le_refl _⟩
 refine ⟨own,.tup [],_,_,rfl,hs2,?_,Ext.trans hx1 hx2,rfl,d'.toList.map fun p=>p.1.1,?_,?_,rfl⟩
 · rw [Rel,VRel];exact ⟨[],rfl,by rw [VRels]⟩
 · rw [← hql];exact hp.map _
 · rw [List.pairwise_map]
   rw [List.pairwise_iff_getElem]
   intro i j hi hj hij
   have hi':i < d'.size:=by simpa using hi
   have hj':j < d'.size:=by simpa using hj
   have:=hsorted i j (Nat.zero_le _) hij (by omega)
   rw [getElem!_pos _ i hi',getElem!_pos _ j hj'] at this
   simp only [List.getElem_map,Array.getElem_toList]
   exact this
end
end Go.T
namespace Go.T
open Go.Ab Go.Sort Go.Proofs
variable [Go.Ab.DM]
section
variable {own:Nat → Own} {U:Nat → Prop} {w:World}
theorem vrels_v {n:Nat}:∀ (l:List Value) {fs:List Value},VRels own U w n (l.map D.v) fs ↔ fs = l
 | [],fs=>by simp [VRels]
 | x :: l,fs=>by
   rw [List.map_cons,VRels]
   constructor
   · rintro ⟨v,vs,rfl,h1,h2⟩
     rw [VRel] at h1
     rw [(vrels_v l).1 h2,h1]
   · rintro rfl
     exact ⟨x,l,rfl,by rw [VRel],(vrels_v l).2 rfl⟩
theorem cells_v:∀ l:List Value,(l.map D.v).flatMap D.cells = l.map D.v
 | []=>rfl
 | x :: l=>by rw [List.map_cons,List.flatMap_cons,cells_v l];rfl
theorem row_sound {P:Program} {f:FuncId} {H:Heap} {r:Nat} {vx vy:List Value} (hcall:callable P f) (hlen:vy.length = vx.length) (hone:(vy.map D.v).all D.one = true)
   (hC:∀ blk off cap w,Holds id w blk off vx.toArray → blk < w.heap.size → Calls P f #[.slice (some ⟨blk,off,none⟩) vx.length cap] w fun e w'=>e = .returned (.tuple #[]) ∧ ∃ n os,w' = grow (Go.Sort.putRow id (Sort.ahead w n) blk off vy.toArray) os)
   (hg:H.get r = some (.cells 1 (vx.map D.v))) :
   Sound P f [.sl r 0 vx.length] H fun d H'=>d = .tup [] ∧ H' = H.set r (some (.cells 1 (vy.map D.v))):=by
 refine ⟨hcall,fun own X w vs hs hv=>?_⟩
 rw [zCN,VRels] at hv
 obtain ⟨v1,vs1,rfl,hv1,hv⟩:=hv
 rw [VRels] at hv
 subst hv
 rw [VRel] at hv1
 obtain ⟨_,off,cp,rfl,hm,hoff⟩:=hv1
 obtain ⟨⟨hk,cs,t,hb,hsz,hfit,hcells⟩,hX⟩:=hs.live r _ hg
 obtain ⟨hw,hflat⟩:=Cells_flat.1 hcells
 rw [cells_v] at hflat
 obtain ⟨_,fs,hfv,hfc⟩:=Flat_values.1 hflat
 have hfs:=(vrels_v vx).1 hfv
 subst hfs
 have hoff':fs.length ≠ 0 → off = (own r).base:=fun h=>by
   obtain ⟨h1,_⟩:=hoff (by omega)
   simpa using h1
 have hH:Holds id w (own r).b off fs.toArray:=by
   intro j hj
   have hj:j < fs.length:=by simpa using hj
   rw [hoff' (by omega)]
   refine ⟨?_,?_⟩
   · rw [hfc j hj,List.getElem?_eq_getElem hj,getElem!_pos _ j (by simpa using hj)];simp
   · unfold World.frozen?
     rw [hb];simp
 have hblk:(own r).b < w.heap.size:=by
   rcases Nat.lt_or_ge (own r).b w.heap.size with h | h
   · exact h
   · rw [Array.getElem?_eq_none h] at hb;cases hb
 refine (hC (own r).b off cp w hH hblk).mono fun e w' hh=>?_
 obtain ⟨rfl,n,os,rfl⟩:=hh
 have hw1:(Go.Sort.putRow id (Sort.ahead w n) (own r).b off vy.toArray).heap = w.heap.setIfInBounds (own r).b (.cells (putCells id off vy.toArray cs) t (0,0)):=by
   unfold Go.Sort.putRow mapBlock Sort.ahead
   apply Array.ext_getElem?
   intro i
   simp only
   rw [Array.getElem?_modify,Array.getElem?_setIfInBounds]
   by_cases e:(own r).b = i
   · subst e
     rw [if_pos rfl,if_pos rfl,hb,if_pos hblk];rfl
   · rw [if_neg e,if_neg e]
 have hHK:HoldsK (fun v:Value=>[v]) 1 w (own r).b off fs.toArray:=by
   unfold HoldsK
   rw [flatK_list (fun v:Value=>[v]) (fun _=>rfl)]
   simpa using hH
 have hK:putRowK (fun v:Value=>[v]) 1 (Sort.ahead w n) (own r).b off vy.toArray = Go.Sort.putRow id (Sort.ahead w n) (own r).b off vy.toArray:=by
   unfold putRowK
   rw [flatK_list (fun v:Value=>[v]) (fun _=>rfl)]
   congr 1
   simp
 have hH':=holdsK_putRowK (fun v:Value=>[v]) 1 (Sort.ahead w n) (own r).b off fs.toArray vy.toArray (holdsK_ahead _ 1 w n (own r).b off _ hHK) (by simp [hlen])
 rw [hK] at hH'
 have hH2:Holds id (Go.Sort.putRow id (Sort.ahead w n) (own r).b off vy.toArray) (own r).b off vy.toArray:=by
   unfold HoldsK at hH'
   rw [flatK_list (fun v:Value=>[v]) (fun _=>rfl)] at hH'
   simpa using hH'
 obtain ⟨hs1,hx1⟩:=step_set (row':=.cells 1 (vy.map D.v)) hs hg _ hw1 (fun hext hobj=>by
   have hcellsz:(putCells id off vy.toArray cs).size = cs.size:=by simp [putCells]
   refine ⟨hk,_,t,hobj,by rw [hcellsz];exact hsz,by simpa [hlen] using hfit,Cells_flat.2 ⟨fun d hd=>?_,?_⟩⟩
   · obtain ⟨x,_,rfl⟩:=List.mem_map.1 hd
     rfl
   · rw [cells_v]
     refine Flat_values.2 ⟨hone,vy,(vrels_v vy).2 rfl,fun i hi=>?_⟩
     have:=(hH2 i (by simpa using hi)).1
     rw [← hoff' (by omega),this,List.getElem?_eq_getElem hi,getElem!_pos _ i (by simpa using hi)];simp) ⟨rfl,rfl,rfl,fun _=>Nat.le_add_right _ _⟩
 obtain ⟨hs2,hx2⟩:=Sim.outlives (own':=own) (X':=X) (w':=grow (Go.Sort.putRow id (Sort.ahead w n) (own r).b off vy.toArray) os) hs1 (fun _ h=>h) (fun b hb'=>by
   unfold grow
   simp only
   rw [Array.getElem?_append_left hb']) (by unfold grow;simp) ⟨rfl,rfl,rfl,fun _=>Nat.le_refl _⟩
 refine ⟨own,.tup [],_,_,rfl,hs2,?_,Ext.trans hx1 hx2,rfl,rfl⟩
 rw [Rel,VRel];exact ⟨[],rfl,by rw [VRels]⟩
end
end Go.T
namespace Go.Pl
open Go.T
section
variable {R S E A α σ:Type}
theorem sel_t {x y:Option R} {b:Bool} (h:b = true):sel b x y = x:=by subst h;rfl
theorem zDc {x y:Option R} {b:Bool} (h:b = false):sel b x y = y:=by subst h;rfl
theorem zAL {x:Option R} {b:Bool} (h:b = true):need b x = x:=by subst h;rfl
theorem zAe {x:Option A} {a:A} {k:A → Option R} (h:x = some a):call x k = k a:=by subst h;rfl
theorem call_b (a:A) (k:A → Option R):call (some a) k = k a:=rfl
theorem join_l {x:Option (S ⊕ R)} {s:S} {k:S → Option R} (h:x = some (.inl s)):join x k = k s:=by subst h;rfl
theorem join_bl (s:S) (k:S → Option R):join (some (.inl s)) k = k s:=rfl
theorem zCY (a b:Bool):zAJ a true b = (a || b):=by cases a <;> rfl
theorem pick_and (a b:Bool):zAJ a b false = (a && b):=by cases a <;> rfl
theorem zCb (a b:Int):ilt a b = decide (a < b):=rfl
theorem ile_d (a b:Int):ile a b = decide (a ≤ b):=rfl
theorem ieq_d (a b:Int):ieq a b = decide (a = b):=by unfold ieq;by_cases h:a = b <;> simp [h]
theorem ine_d (a b:Int):ine a b = decide (a ≠ b):=by unfold ine;by_cases h:a = b <;> simp [h]
theorem n2i_c (n:Nat):n2i n = (n:Int):=rfl
theorem i2n_c (n:Nat):i2n (n:Int) = n:=rfl
theorem zCs (l:List α):zAW l = l.length:=rfl
theorem inL_d (j:Int) (n:Nat):inL j n = (decide (0 ≤ j) && decide (j < n)):=rfl
theorem zCa {i n:Nat} (h:i < n):inL (i:Int) n = true:=by rw [inL_d];simp;omega
theorem lget_t {d:α} {l:List α} {n:Nat} (h:n < l.length):zAq d l n = l[n]:=by simp [zAq,h]
theorem zBm (p:Prop) [Decidable p] (x y:Option R):sel (decide p) x y = if p then x else y:=by unfold sel;by_cases h:p <;> simp [h]
theorem need_i (p:Prop) [Decidable p] (x:Option R):need (decide p) x = if p then x else none:=by unfold need;by_cases h:p <;> simp [h]
theorem zCh {a b:Bool} (h:a = true → b = true):impl a b = true:=by cases a <;> simp_all [impl]
theorem bnot_d (b:Bool):zDa b = !b:=rfl
theorem band_d (a b:Bool):band a b = (a && b):=rfl
theorem iterN_succ {body:S → Option (S ⊕ E)}:∀ {n s e},iterN body n s = some e → iterN body (n + 1) s = some e
 | 0,s,e,h=>by cases h
 | n + 1,s,e,h=>by
   rw [iterN] at h ⊢
   cases hb:body s with
   | none=>rw [hb] at h;cases h
   | some o =>
     rw [hb] at h
     cases o with
     | inl s'=>exact iterN_succ h
     | inr e'=>exact h
theorem iterN_le {body:S → Option (S ⊕ E)} {n m s e} (hm:n ≤ m) (h:iterN body n s = some e):iterN body m s = some e:=by
 induction hm with
 | refl=>exact h
 | step _ ih=>exact iterN_succ ih
theorem iter_of {body:S → Option (S ⊕ E)} {n s e} (h:iterN body n s = some e):iter body s = some e:=by
 have hx:∃ n e,iterN body n s = some e:=⟨n,e,h⟩
 unfold iter
 rw [dif_pos hx]
 have h2:=Classical.choose_spec (Classical.choose_spec hx)
 have a:=iterN_le (Nat.le_max_left n (Classical.choose hx)) h
 have b:=iterN_le (Nat.le_max_right n (Classical.choose hx)) h2
 rw [a] at b;exact b.symm
theorem iter_r {body:S → Option (S ⊕ E)} {s e} (h:body s = some (.inr e)):iter body s = some e:=iter_of (n:=1) (by rw [iterN,h])
theorem iter_l {body:S → Option (S ⊕ E)} {s s' e} (h:body s = some (.inl s')) (h':iter body s' = some e):iter body s = some e:=by
 obtain ⟨n,hn⟩:=iter_some h'
 exact iter_of (n:=n + 1) (by rw [iterN,h];exact hn)
def foldE (g:σ → α → σ ⊕ E) (fin:σ → E):List α → σ → E
 | [],s=>fin s
 | a :: l,s=>match g s a with | .inl s'=>foldE g fin l s' | .inr e=>e
theorem iter_for_go (l:List α) (body:S → Option (S ⊕ E)) (en:σ → Int → S) (g:σ → α → σ ⊕ E) (fin:σ → E) (Inv:Nat → σ → Prop)
   (hstep:∀ (i:Nat) st (h:i < l.length),Inv i st → body (en st i) = some ((g st l[i]).map (fun st'=>en st' (i + 1:Nat)) id) ∧ ∀ st',g st l[i] = .inl st' → Inv (i + 1) st')
   (hend:∀ st,Inv l.length st → body (en st (l.length:Nat)) = some (.inr (fin st))) :
   ∀ (m i:Nat) st,i + m = l.length → Inv i st → iter body (en st i) = some (foldE g fin (l.drop i) st)
 | 0,i,st,hm,hI=>by
   have:i = l.length:=by omega
   subst this
   rw [List.drop_length]
   exact iter_r (hend st hI)
 | m + 1,i,st,hm,hI=>by
   have hi:i < l.length:=by omega
   obtain ⟨h1,h2⟩:=hstep i st hi hI
   rw [List.drop_eq_getElem_cons hi,foldE]
   cases hg:g st l[i] with
   | inl st' =>
     rw [hg] at h1
     exact iter_l h1 (iter_for_go l body en g fin Inv hstep hend m (i + 1) st' (by omega) (h2 st' hg))
   | inr e =>
     rw [hg] at h1
     exact iter_r h1
theorem iter_for (l:List α) {body:S → Option (S ⊕ E)} (en:σ → Int → S) (g:σ → α → σ ⊕ E) (fin:σ → E) (Inv:Nat → σ → Prop) (st:σ) (h0:Inv 0 st)
   (hstep:∀ (i:Nat) st (h:i < l.length),Inv i st → body (en st i) = some ((g st l[i]).map (fun st'=>en st' (i + 1:Nat)) id) ∧ ∀ st',g st l[i] = .inl st' → Inv (i + 1) st')
   (hend:∀ st,Inv l.length st → body (en st (l.length:Nat)) = some (.inr (fin st))):iter body (en st 0) = some (foldE g fin l st) :=
 iter_for_go l body en g fin Inv hstep hend l.length 0 st (by omega) h0
theorem join_of {x:Option (S ⊕ R)} {o:S ⊕ R} (k:S → Option R) (h:x = some o):join x k = Sum.elim k some o:=by subst h;cases o <;> rfl
end
section
variable {R S S' E:Type}
theorem iter_wf {body:S → Option (S ⊕ E)} (P:S → Prop) (μ:S → Nat) (Q:E → Prop)
   (h:∀ s,P s → (∃ s',body s = some (.inl s') ∧ P s' ∧ μ s' < μ s) ∨ (∃ e,body s = some (.inr e) ∧ Q e)) :
   ∀ s,P s → ∃ e,iter body s = some e ∧ Q e:=by
 intro s
 induction hn:μ s using Nat.strongRecOn generalizing s with
 | _ n ih =>
   intro hP
   rcases h s hP with ⟨s',h1,h2,h3⟩ | ⟨e,h1,h2⟩
   · obtain ⟨e,e1,e2⟩:=ih (μ s') (by omega) s' rfl h2
     exact ⟨e,iter_l h1 e1,e2⟩
   · exact ⟨e,iter_r h1,h2⟩
theorem join_wf {body:S → Option (S ⊕ (S' ⊕ R))} {k:S' → Option R} {G:R → Prop} {s:S} (P:S → Prop) (μ:S → Nat) (Q:S' ⊕ R → Prop) (h0:P s)
   (h:∀ s,P s → (∃ s',body s = some (.inl s') ∧ P s' ∧ μ s' < μ s) ∨ (∃ e,body s = some (.inr e) ∧ Q e))
   (hk:∀ e,Q e → ∃ y,Sum.elim k some e = some y ∧ G y):∃ y,join (iter body s) k = some y ∧ G y:=by
 obtain ⟨e,e1,e2⟩:=iter_wf P μ Q h s h0
 obtain ⟨y,y1,y2⟩:=hk e e2
 exact ⟨y,(join_of k e1).trans y1,y2⟩
theorem join_to {body:S → Option (S ⊕ (S' ⊕ R))} {k:S' → Option R} {G:R → Prop} {s:S} (n:Nat) (P:Nat → S → Prop) (h0:P 0 s)
   (h:∀ i s,i < n → P i s → ∃ s',body s = some (.inl s') ∧ P (i + 1) s')
   (hk:∀ s,P n s → ∃ s',body s = some (.inr (.inl s')) ∧ ∃ y,k s' = some y ∧ G y):∃ y,join (iter body s) k = some y ∧ G y:=by
 have key:∀ m i s,i + m = n → P i s → ∃ e,iter body s = some e ∧ ∃ s',e = .inl s' ∧ ∃ y,k s' = some y ∧ G y:=by
   intro m
   induction m with
   | zero =>
     intro i s hi hP
     obtain ⟨s',h1,h2⟩:=hk s (by have:i = n:=by omega
                                 subst this;exact hP)
     exact ⟨_,iter_r h1,s',rfl,h2⟩
   | succ m ih =>
     intro i s hi hP
     obtain ⟨s',h1,h2⟩:=h i s (by omega) hP
     obtain ⟨e,h3,h4⟩:=ih (i + 1) s' (by omega) h2
     exact ⟨e,iter_l h1 h3,h4⟩
 obtain ⟨e,h1,s',rfl,y,h2,h3⟩:=key n 0 s (by omega) h0
 exact ⟨y,(join_l h1).trans h2,h3⟩
end
section
variable {V:Type}
abbrev KV (V:Type):=List (Int × V)
def zBu (M:KV V):List Int:=M.map (·.1)
theorem ieq_t (a:Int):ieq a a = true:=by simp [ieq]
theorem ieq_n {a b:Int} (h:a ≠ b):ieq a b = false:=by simp [ieq,h]
theorem put_nil (k:Int) (v:V):mput ieq [] k v = [(k,v)]:=rfl
theorem put_eq (k:Int) (v x:V) (M:KV V):mput ieq ((k,x) :: M) k v = (k,v) :: M:=by simp [mput,mputGo,ieq_t]
theorem put_ne {k j:Int} (h:k ≠ j) (v x:V) (M:KV V):mput ieq ((j,x) :: M) k v = (j,x) :: mput ieq M k v:=by simp [mput,mputGo,ieq_n h]
theorem del_nil (k:Int):mdel ieq ([]:KV V) k = []:=rfl
theorem del_eq (k:Int) (x:V) (M:KV V):mdel ieq ((k,x) :: M) k = M:=by simp [mdel,ieq_t]
theorem del_ne {k j:Int} (h:k ≠ j) (x:V) (M:KV V):mdel ieq ((j,x) :: M) k = (j,x) :: mdel ieq M k:=by simp [mdel,ieq_n h]
theorem get_nil (d:V) (k:Int):mget ieq d ([]:KV V) k = d:=rfl
theorem zCi (d:V) (k:Int) (x:V) (M:KV V):mget ieq d ((k,x) :: M) k = x:=by simp [mget,ieq_t]
theorem zCF (d:V) {k j:Int} (h:k ≠ j) (x:V) (M:KV V):mget ieq d ((j,x) :: M) k = mget ieq d M k:=by simp [mget,ieq_n h]
theorem zAu (p:Int × V) (M:KV V):zBu (p :: M) = p.1 :: zBu M:=rfl
theorem keys_put:∀ (M:KV V) (k:Int) (v:V),zBu (mput ieq M k v) = if k ∈ zBu M then zBu M else zBu M ++ [k]
 | [],k,v=>by simp [put_nil,zBu]
 | (j,x) :: M,k,v=>by
   by_cases h:k = j
   · subst h;rw [put_eq];simp [zBu]
   · rw [put_ne h,zAu,keys_put M k v,zAu]
     by_cases h2:k ∈ zBu M <;> simp [h,h2]
theorem keys_del:∀ (M:KV V) (k:Int),zBu (mdel ieq M k) = (zBu M).erase k
 | [],k=>rfl
 | (j,x) :: M,k=>by
   by_cases h:k = j
   · subst h;rw [del_eq,zAu,List.erase_cons_head]
   · rw [del_ne h,zAu,keys_del M k,zAu,List.erase_cons_tail (by simpa using Ne.symm h)]
theorem nodup_put {M:KV V} (h:(zBu M).Nodup) (k:Int) (v:V):(zBu (mput ieq M k v)).Nodup:=by
 rw [keys_put]
 split
 · exact h
 · rename_i h2
   rw [List.nodup_append]
   exact ⟨h,by simp,fun a ha b hb=>by simp at hb;subst hb;exact fun e=>h2 (e ▸ ha)⟩
theorem nodup_del {M:KV V} (h:(zBu M).Nodup) (k:Int):(zBu (mdel ieq M k)).Nodup:=by rw [keys_del];exact h.erase k
theorem mem_del {M:KV V} (h:(zBu M).Nodup) (k j:Int):j ∈ zBu (mdel ieq M k) ↔ j ≠ k ∧ j ∈ zBu M:=by rw [keys_del];exact h.mem_erase_iff
theorem mem_put (M:KV V) (k j:Int) (v:V):j ∈ zBu (mput ieq M k v) ↔ j = k ∨ j ∈ zBu M:=by
 rw [keys_put]
 split
 · rename_i h;exact ⟨.inr,fun h'=>by rcases h' with rfl | h' <;> assumption⟩
 · simp [or_comm]
theorem get_out (d:V):∀ {M:KV V} {k:Int},k ∉ zBu M → mget ieq d M k = d
 | [],k,_=>rfl
 | (j,x) :: M,k,h=>by
   rw [zAu,List.mem_cons,not_or] at h
   rw [zCF d h.1];exact get_out d h.2
theorem get_put (d:V):∀ (M:KV V) (k j:Int) (v:V),mget ieq d (mput ieq M k v) j = if j = k then v else mget ieq d M j
 | [],k,j,v=>by
   rw [put_nil]
   by_cases h:j = k
   · subst h;rw [zCi,if_pos rfl]
   · rw [zCF d h,if_neg h]
 | (i,x) :: M,k,j,v=>by
   by_cases h:k = i
   · subst h;rw [put_eq]
     by_cases h2:j = k
     · subst h2;rw [zCi,if_pos rfl]
     · rw [zCF d h2,zCF d h2,if_neg h2]
   · rw [put_ne h]
     by_cases h2:j = i
     · subst h2;rw [zCi,zCi,if_neg (Ne.symm h)]
     · rw [zCF d h2,zCF d h2];exact get_put d M k j v
theorem get_del (d:V):∀ {M:KV V},(zBu M).Nodup → ∀ (k j:Int),mget ieq d (mdel ieq M k) j = if j = k then d else mget ieq d M j
 | [],_,k,j=>by rw [del_nil,get_nil];simp
 | (i,x) :: M,hn,k,j=>by
   rw [zAu,List.nodup_cons] at hn
   by_cases h:k = i
   · subst h;rw [del_eq]
     by_cases h2:j = k
     · subst h2;rw [if_pos rfl];exact get_out d hn.1
     · rw [if_neg h2,zCF d h2]
   · rw [del_ne h]
     by_cases h2:j = i
     · subst h2;rw [zCi,zCi,if_neg (Ne.symm h)]
     · rw [zCF d h2,zCF d h2];exact get_del d hn.2 k j
theorem mem_get (d:V):∀ {M:KV V},(zBu M).Nodup → ∀ (j:Int) (c:V),(j,c) ∈ M ↔ j ∈ zBu M ∧ mget ieq d M j = c
 | [],_,j,c=>by simp [zBu]
 | (i,x) :: M,hn,j,c=>by
   rw [zAu,List.nodup_cons] at hn
   rw [zAu,List.mem_cons,List.mem_cons]
   by_cases h:j = i
   · subst h
     rw [zCi]
     constructor
     · rintro (h | h)
       · exact ⟨.inl rfl,(Prod.mk.inj h).2.symm⟩
       · exact absurd (List.mem_map_of_mem (f:=(·.1)) h) hn.1
     · rintro ⟨_,rfl⟩;exact .inl rfl
   · rw [zCF d h,mem_get d hn.2 j c]
     constructor
     · rintro (h' | ⟨h1,h2⟩)
       · exact absurd (Prod.mk.inj h').1 h
       · exact ⟨.inr h1,h2⟩
     · rintro ⟨h1 | h1,h2⟩
       · exact absurd h1 h
       · exact .inr ⟨h1,h2⟩
def wsum (g:Int → Int) (M:KV Int):Int:=(M.map fun p=>p.2 * g p.1).sum
theorem wsum_nil (g:Int → Int):wsum g [] = 0:=rfl
theorem zBA (g:Int → Int) (p:Int × Int) (M:KV Int):wsum g (p :: M) = p.2 * g p.1 + wsum g M:=by simp [wsum]
theorem wsum_put (g:Int → Int):∀ (M:KV Int) (k v:Int),wsum g (mput ieq M k v) = wsum g M + (v - mget ieq 0 M k) * g k
 | [],k,v=>by rw [put_nil,zBA,wsum_nil,get_nil];simp
 | (j,x) :: M,k,v=>by
   by_cases h:k = j
   · subst h;rw [put_eq,zBA,zBA,zCi,Int.sub_mul];dsimp only;omega
   · rw [put_ne h,zBA,wsum_put g M k v,zBA,zCF 0 h];omega
theorem wsum_del (g:Int → Int):∀ (M:KV Int) (k:Int),wsum g (mdel ieq M k) = wsum g M - mget ieq 0 M k * g k
 | [],k=>by rw [del_nil,wsum_nil,get_nil];simp
 | (j,x) :: M,k=>by
   by_cases h:k = j
   · subst h;rw [del_eq,zBA,zCi];dsimp only;omega
   · rw [del_ne h,zBA,wsum_del g M k,zBA,zCF 0 h];omega
def ksum (f:Int → Nat) (M:KV V):Nat:=((zBu M).map f).sum
theorem ksum_put (f:Int → Nat) (M:KV V) (k:Int) (v:V):ksum f (mput ieq M k v) = ksum f M + if k ∈ zBu M then 0 else f k:=by
 unfold ksum;rw [keys_put]
 split
 · rfl
 · simp
theorem ksum_del (f:Int → Nat) (M:KV V) (k:Int):ksum f (mdel ieq M k) + (if k ∈ zBu M then f k else 0) = ksum f M:=by
 unfold ksum;rw [keys_del]
 split
 · rename_i h
   have:=((List.perm_cons_erase h).map f).sum_nat
   rw [this,List.map_cons,List.sum_cons];omega
 · rename_i h;rw [List.erase_of_not_mem h];rfl
end
end Go.Pl
namespace Go.Q
open Go Go.T Go.Ab Go.Proofs
theorem zDB:Try.prog.follows .mixedOrders = true:=by kernel_rfl
end Go.Q
namespace Go.Proofs.Ytfibkbmlgigemaa.AbT
open Go Go.Ab
variable [Go.Ab.DM]
set_option linter.defProp false
theorem ze24:tzero Try.prog 24 = some (.agg [(.v (.int .i64 0)),(.v (.int .i64 0)),(.v (.int .i64 0)),(.v (.slice none 0 0))]):=by kernel_rfl
theorem al24 {H:Heap} {C:D → Heap → Prop}:aAlloc Try.prog 24 H C = zAk (D.lies (.agg [(.v (.int .i64 0)),(.v (.int .i64 0)),(.v (.int .i64 0)),(.v (.slice none 0 0))]) = true) (C (.pt H.length 0 0) (H ++ [some (.cells (D.width (.agg [(.v (.int .i64 0)),(.v (.int .i64 0)),(.v (.int .i64 0)),(.v (.slice none 0 0))])) [(.agg [(.v (.int .i64 0)),(.v (.int .i64 0)),(.v (.int .i64 0)),(.v (.slice none 0 0))])])])) .mk:=alloc_z ze24
theorem ag24:tag Try.prog 24 = some true:=by kernel_rfl
theorem sz24:tsz Try.prog 24 = some 4:=by kernel_rfl
theorem ldp24 {H:Heap} {r j o:Nat}:ldD Try.prog 24 H (.pt r j o) = ((rowXs (H.get r)).bind fun xs=>xs[j]?).bind (zBv true 4 · o):=ld_pt ag24 sz24
theorem ldf24 {H:Heap} {k j o:Nat} {xs:List D}:ldD Try.prog 24 H (.fp k xs j o) = (xs[j]?).bind (zBv true 4 · o):=ldD_fp ag24 sz24
theorem fs24:fieldsOf Try.prog 24 = some [(0,1),(1,1),(2,1),(3,1)]:=by kernel_rfl
theorem bd24 {ps:List (Nat × D)} {D1:D → Prop}:aBuild Try.prog 24 ps D1 = okK ((fillD (([(0,1),(1,1),(2,1),(3,1)]:List (Nat × Nat))[·]?) [(.v (.int .i64 0)),(.v (.int .i64 0)),(.v (.int .i64 0)),(.v (.slice none 0 0))] ps).map .agg) D1:=build_z ze24 fs24
theorem stp24 {H:Heap} {r j o:Nat} {x:D}:stD Try.prog 24 H (.pt r j o) x = stRow H r j true 4 o x (H.get r):=st_pt ag24 sz24
theorem fl24_0:tfld Try.prog 24 0 = some (0,3):=by kernel_rfl
theorem sz3:tsz Try.prog 3 = some 1:=by kernel_rfl
theorem fap24_0 {r i o:Nat} {D1:D → Prop}:zAj Try.prog 24 (.pt r i o) 0 D1 = D1 (.pt r i (o + 0)):=zDX fl24_0 sz3
theorem faf24_0 {k i o:Nat} {xs:List D} {D1:D → Prop}:zAj Try.prog 24 (.fp k xs i o) 0 D1 = D1 (.fp k xs i (o + 0)):=zDY fl24_0 sz3
theorem ag3:tag Try.prog 3 = some false:=by kernel_rfl
theorem ldp3 {H:Heap} {r j o:Nat}:ldD Try.prog 3 H (.pt r j o) = ((rowXs (H.get r)).bind fun xs=>xs[j]?).bind (zBv false 1 · o):=ld_pt ag3 sz3
theorem ldf3 {H:Heap} {k j o:Nat} {xs:List D}:ldD Try.prog 3 H (.fp k xs j o) = (xs[j]?).bind (zBv false 1 · o):=ldD_fp ag3 sz3
theorem fl24_2:tfld Try.prog 24 2 = some (2,3):=by kernel_rfl
theorem fap24_2 {r i o:Nat} {D1:D → Prop}:zAj Try.prog 24 (.pt r i o) 2 D1 = D1 (.pt r i (o + 2)):=zDX fl24_2 sz3
theorem faf24_2 {k i o:Nat} {xs:List D} {D1:D → Prop}:zAj Try.prog 24 (.fp k xs i o) 2 D1 = D1 (.fp k xs i (o + 2)):=zDY fl24_2 sz3
theorem fl24_3:tfld Try.prog 24 3 = some (3,22):=by kernel_rfl
theorem sz22:tsz Try.prog 22 = some 1:=by kernel_rfl
theorem fap24_3 {r i o:Nat} {D1:D → Prop}:zAj Try.prog 24 (.pt r i o) 3 D1 = D1 (.pt r i (o + 3)):=zDX fl24_3 sz22
theorem faf24_3 {k i o:Nat} {xs:List D} {D1:D → Prop}:zAj Try.prog 24 (.fp k xs i o) 3 D1 = D1 (.fp k xs i (o + 3)):=zDY fl24_3 sz22
theorem ag22:tag Try.prog 22 = some false:=by kernel_rfl
theorem ldp22 {H:Heap} {r j o:Nat}:ldD Try.prog 22 H (.pt r j o) = ((rowXs (H.get r)).bind fun xs=>xs[j]?).bind (zBv false 1 · o):=ld_pt ag22 sz22
theorem ldf22 {H:Heap} {k j o:Nat} {xs:List D}:ldD Try.prog 22 H (.fp k xs j o) = (xs[j]?).bind (zBv false 1 · o):=ldD_fp ag22 sz22
theorem un22:Try.prog.underlying 22 = some (.slice 71):=by kernel_rfl
theorem lef22 {k:Nat} {xs:List D} {D1:D → Prop}:zAz Try.prog .len #[22] [.fz k xs] D1 = D1 (.v (.int .i64 xs.length)):=len_fz rfl un22
theorem les22 {r j len:Nat} {D1:D → Prop}:zAz Try.prog .len #[22] [.sl r j len] D1 = D1 (.v (.int .i64 len)):=len_sl rfl un22
theorem len22 {D1:D → Prop}:zAz Try.prog .len #[22] [.v (.slice none 0 0)] D1 = D1 (.v (.int .i64 0)):=len_nil rfl un22
theorem ldf_22 {H:Heap} {k:Nat} {xs:List D}:lenD Try.prog #[22] H (.fz k xs) = some (.v (.int .i64 xs.length)):=lend_fz un22
theorem lds_22 {H:Heap} {r i m:Nat}:lenD Try.prog #[22] H (.sl r i m) = some (.v (.int .i64 m)):=lend_sl un22
theorem ldc_22 {H:Heap} {r i m c:Nat}:lenD Try.prog #[22] H (.slc r i m c) = some (.v (.int .i64 m)):=lend_slc un22
theorem ldn_22 {H:Heap}:lenD Try.prog #[22] H (.v (.slice none 0 0)) = some (.v (.int .i64 0)):=lend_nil un22
theorem el22:zBJ Try.prog 22 = some 71:=by kernel_rfl
theorem sz71:tsz Try.prog 71 = some 2:=by kernel_rfl
theorem by71:tby Try.prog 71 = some 16:=by kernel_rfl
theorem ze71:tzero Try.prog 71 = some (.agg [(.v (.int .i64 0)),(.v (.int .i64 0))]):=by kernel_rfl
theorem mk22 {k1 k2:IntKind} {l c:Int} {H:Heap} {C:D → Heap → Prop}:zBq Try.prog 22 (.v (.int k1 l)) (.v (.int k2 c)) H C = zAk (0 ≤ l ∧ l ≤ c ∧ c * (16:Nat) ≤ 281474976710656 ∧ c ≤ 281474976710656) (orK (C (.slc H.length 0 l.toNat c.toNat) (H ++ [some (.cells 2 (List.replicate c.toNat (.agg [(.v (.int .i64 0)),(.v (.int .i64 0))])))])) (C (.sl H.length 0 l.toNat) (H ++ [some (.cells 2 (List.replicate l.toNat (.agg [(.v (.int .i64 0)),(.v (.int .i64 0))])))])) .mk) .mk:=make_z el22 sz71 by71 ze71 rfl rfl
theorem ii22:isIntT Try.prog 22 = some false:=by kernel_rfl
theorem aps22_22 {H:Heap} {r i m:Nat} {x:D} {C:D → Heap → Prop}:zBH Try.prog #[22,22] [.sl r i m,x] H C = okL (zBV H 2 x.wk) fun ys=>okR (H.get r) 2 fun xs=>zAk (i + m = xs.length ∧ (m + ys.length) * 16 ≤ 140737488355328) (C (.sl H.length 0 (m + ys.length)) (H.set r none ++ [some (.cells 2 (xs.drop i ++ ys))])) .mk:=append_sl rfl rfl el22 sz71 by71 ze71 rfl ii22
theorem apn22_22 {H:Heap} {x:D} {C:D → Heap → Prop}:zBH Try.prog #[22,22] [.v (.slice none 0 0),x] H C = okL (zBV H 2 x.wk) fun ys=>zAk (ys.length * 16 ≤ 140737488355328) (nilK ys (C (.v (.slice none 0 0)) H) (C (.sl H.length 0 ys.length) (H ++ [some (.cells 2 ys)])) .mk) .mk:=append_nil rfl rfl el22 sz71 by71 ze71 rfl ii22
theorem apc22_22 {H:Heap} {r i m c:Nat} {x:D} {C:D → Heap → Prop}:zBH Try.prog #[22,22] [.slc r i m c,x] H C = okL (zBV H 2 x.wk) fun ys=>okR (H.get r) 2 fun xs=>zAk (m + ys.length ≤ c ∧ i + c ≤ xs.length) (C (.slc r i (m + ys.length) c) (H.set r (some (.cells 2 (zCK xs (i + m) ys))))) .mk:=append_slc rfl rfl el22 sz71 ii22
theorem ixs22 {H:Heap} {r j len:Nat} {n:Int} {jk:IntKind} {D1:D → Prop}:zBP Try.prog 22 H (.sl r j len) (.v (.int jk n)) D1 = zAk (rowK (H.get r) = some 2) (zAk (0 ≤ n ∧ n < len) (D1 (.pt r (j + n.toNat) 0)) .mk) .mk:=ix_sl el22 sz71
theorem ixf22 {H:Heap} {xs:List D} {n:Int} {jk:IntKind} {D1:D → Prop}:zBP Try.prog 22 H (.fz 2 xs) (.v (.int jk n)) D1 = zAk (0 ≤ n ∧ n < xs.length) (D1 (.fp 2 xs n.toNat 0)) .mk:=indexAddr_fz el22 sz71
theorem fl71_1:tfld Try.prog 71 1 = some (1,3):=by kernel_rfl
theorem fap71_1 {r i o:Nat} {D1:D → Prop}:zAj Try.prog 71 (.pt r i o) 1 D1 = D1 (.pt r i (o + 1)):=zDX fl71_1 sz3
theorem faf71_1 {k i o:Nat} {xs:List D} {D1:D → Prop}:zAj Try.prog 71 (.fp k xs i o) 1 D1 = D1 (.fp k xs i (o + 1)):=zDY fl71_1 sz3
theorem stp3 {H:Heap} {r j o:Nat} {x:D}:stD Try.prog 3 H (.pt r j o) x = stRow H r j false 1 o x (H.get r):=st_pt ag3 sz3
theorem fs71:fieldsOf Try.prog 71 = some [(0,1),(1,1)]:=by kernel_rfl
theorem bd71 {ps:List (Nat × D)} {D1:D → Prop}:aBuild Try.prog 71 ps D1 = okK ((fillD (([(0,1),(1,1)]:List (Nat × Nat))[·]?) [(.v (.int .i64 0)),(.v (.int .i64 0))] ps).map .agg) D1:=build_z ze71 fs71
theorem zs22:((Try.prog.info? 71).bind (·.zero)).isSome = true:=by kernel_rfl
theorem bs22 {n:Nat} {ps:List (Nat × D)} {H:Heap} {C:D → Heap → Prop}:zBl Try.prog 22 n ps H C = zAk ((ps.map (·.1) = List.range n) ∧ n * 2 ≤ 16777216 ∧ (ps.all fun p=>p.2.width == 2 && p.2.lies) = true) (C (.sl H.length 0 n) (H ++ [some (.cells 2 (ps.map (·.2)))])) .mk:=buildSlice_z el22 sz71 zs22
theorem fl24_1:tfld Try.prog 24 1 = some (1,3):=by kernel_rfl
theorem fap24_1 {r i o:Nat} {D1:D → Prop}:zAj Try.prog 24 (.pt r i o) 1 D1 = D1 (.pt r i (o + 1)):=zDX fl24_1 sz3
theorem faf24_1 {k i o:Nat} {xs:List D} {D1:D → Prop}:zAj Try.prog 24 (.fp k xs i o) 1 D1 = D1 (.fp k xs i (o + 1)):=zDY fl24_1 sz3
theorem tm77:tmap Try.prog 77 = some (3,3,(.int .i64)):=by kernel_rfl
theorem mm77 {k:IntKind} {n:Int} {H:Heap} {C:D → Heap → Prop}:aMakeMap Try.prog 77 (some (.v (.int k n))) H C = C (.mp H.length) (H ++ [some (.mp [] 0)]):=makeMap_z (by rw [tm77];rfl)
theorem el78:zBJ Try.prog 78 = some 3:=by kernel_rfl
theorem by3:tby Try.prog 3 = some 8:=by kernel_rfl
theorem ze3:tzero Try.prog 3 = some (.v (.int .i64 0)):=by kernel_rfl
theorem mk78 {k1 k2:IntKind} {l c:Int} {H:Heap} {C:D → Heap → Prop}:zBq Try.prog 78 (.v (.int k1 l)) (.v (.int k2 c)) H C = zAk (0 ≤ l ∧ l ≤ c ∧ c * (8:Nat) ≤ 281474976710656 ∧ c ≤ 281474976710656) (orK (C (.slc H.length 0 l.toNat c.toNat) (H ++ [some (.cells 1 (List.replicate c.toNat (.v (.int .i64 0))))])) (C (.sl H.length 0 l.toNat) (H ++ [some (.cells 1 (List.replicate l.toNat (.v (.int .i64 0))))])) .mk) .mk:=make_z el78 sz3 by3 ze3 rfl rfl
theorem ze78:tzero Try.prog 78 = some (.v (.slice none 0 0)):=by kernel_rfl
theorem al78 {H:Heap} {C:D → Heap → Prop}:aAlloc Try.prog 78 H C = zAk (D.lies (.v (.slice none 0 0)) = true) (C (.pt H.length 0 0) (H ++ [some (.cells (D.width (.v (.slice none 0 0))) [(.v (.slice none 0 0))])])) .mk:=alloc_z ze78
theorem ag78:tag Try.prog 78 = some false:=by kernel_rfl
theorem sz78:tsz Try.prog 78 = some 1:=by kernel_rfl
theorem stp78 {H:Heap} {r j o:Nat} {x:D}:stD Try.prog 78 H (.pt r j o) x = stRow H r j false 1 o x (H.get r):=st_pt ag78 sz78
theorem ag71:tag Try.prog 71 = some true:=by kernel_rfl
theorem ldp71 {H:Heap} {r j o:Nat}:ldD Try.prog 71 H (.pt r j o) = ((rowXs (H.get r)).bind fun xs=>xs[j]?).bind (zBv true 2 · o):=ld_pt ag71 sz71
theorem ldf71 {H:Heap} {k j o:Nat} {xs:List D}:ldD Try.prog 71 H (.fp k xs j o) = (xs[j]?).bind (zBv true 2 · o):=ldD_fp ag71 sz71
theorem al71 {H:Heap} {C:D → Heap → Prop}:aAlloc Try.prog 71 H C = zAk (D.lies (.agg [(.v (.int .i64 0)),(.v (.int .i64 0))]) = true) (C (.pt H.length 0 0) (H ++ [some (.cells (D.width (.agg [(.v (.int .i64 0)),(.v (.int .i64 0))])) [(.agg [(.v (.int .i64 0)),(.v (.int .i64 0))])])])) .mk:=alloc_z ze71
theorem stp71 {H:Heap} {r j o:Nat} {x:D}:stD Try.prog 71 H (.pt r j o) x = stRow H r j true 2 o x (H.get r):=st_pt ag71 sz71
theorem fl71_0:tfld Try.prog 71 0 = some (0,3):=by kernel_rfl
theorem fap71_0 {r i o:Nat} {D1:D → Prop}:zAj Try.prog 71 (.pt r i o) 0 D1 = D1 (.pt r i (o + 0)):=zDX fl71_0 sz3
theorem faf71_0 {k i o:Nat} {xs:List D} {D1:D → Prop}:zAj Try.prog 71 (.fp k xs i o) 0 D1 = D1 (.fp k xs i (o + 0)):=zDY fl71_0 sz3
theorem mu77 {r:Nat} {kv:Value} {x:D} {H:Heap} {C:D → Heap → Prop}:zCA Try.prog 77 (.mp r) (.v kv) x H C = okM (H.get r) fun es cl=>okQ (findD (.int .i64) kv es 0) fun q=>C (.v undef) (H.set r (some (.mp (updM es cl kv x q).1 (updM es cl kv x q).2))):=mapUpdate_mp tm77
theorem ldp78 {H:Heap} {r j o:Nat}:ldD Try.prog 78 H (.pt r j o) = ((rowXs (H.get r)).bind fun xs=>xs[j]?).bind (zBv false 1 · o):=ld_pt ag78 sz78
theorem ldf78 {H:Heap} {k j o:Nat} {xs:List D}:ldD Try.prog 78 H (.fp k xs j o) = (xs[j]?).bind (zBv false 1 · o):=ldD_fp ag78 sz78
theorem zs78:((Try.prog.info? 3).bind (·.zero)).isSome = true:=by kernel_rfl
theorem bs78 {n:Nat} {ps:List (Nat × D)} {H:Heap} {C:D → Heap → Prop}:zBl Try.prog 78 n ps H C = zAk ((ps.map (·.1) = List.range n) ∧ n * 1 ≤ 16777216 ∧ (ps.all fun p=>p.2.width == 1 && p.2.lies) = true) (C (.sl H.length 0 n) (H ++ [some (.cells 1 (ps.map (·.2)))])) .mk:=buildSlice_z el78 sz3 zs78
theorem ii78:isIntT Try.prog 78 = some false:=by kernel_rfl
theorem aps78_78 {H:Heap} {r i m:Nat} {x:D} {C:D → Heap → Prop}:zBH Try.prog #[78,78] [.sl r i m,x] H C = okL (zBV H 1 x.wk) fun ys=>okR (H.get r) 1 fun xs=>zAk (i + m = xs.length ∧ (m + ys.length) * 8 ≤ 140737488355328) (C (.sl H.length 0 (m + ys.length)) (H.set r none ++ [some (.cells 1 (xs.drop i ++ ys))])) .mk:=append_sl rfl rfl el78 sz3 by3 ze3 rfl ii78
theorem apn78_78 {H:Heap} {x:D} {C:D → Heap → Prop}:zBH Try.prog #[78,78] [.v (.slice none 0 0),x] H C = okL (zBV H 1 x.wk) fun ys=>zAk (ys.length * 8 ≤ 140737488355328) (nilK ys (C (.v (.slice none 0 0)) H) (C (.sl H.length 0 ys.length) (H ++ [some (.cells 1 ys)])) .mk) .mk:=append_nil rfl rfl el78 sz3 by3 ze3 rfl ii78
theorem apc78_78 {H:Heap} {r i m c:Nat} {x:D} {C:D → Heap → Prop}:zBH Try.prog #[78,78] [.slc r i m c,x] H C = okL (zBV H 1 x.wk) fun ys=>okR (H.get r) 1 fun xs=>zAk (m + ys.length ≤ c ∧ i + c ≤ xs.length) (C (.slc r i (m + ys.length) c) (H.set r (some (.cells 1 (zCK xs (i + m) ys))))) .mk:=append_slc rfl rfl el78 sz3 ii78
theorem if80:isIface Try.prog 80 = some false:=by kernel_rfl
theorem mi80 {x:D} {D1:D → Prop}:zCS Try.prog 80 x D1 = D1 (.ifc 80 x):=by have h:=if80;unfold isIface at h;unfold zCS;split <;> simp_all
theorem if3:isIface Try.prog 3 = some false:=by kernel_rfl
theorem as3 {ok:Bool} {d:D} {D1:D → Prop}:aAssert Try.prog (.ifc 3 d) 3 ok D1 = okK (some (if ok then .tup [d,.v (.bool true)] else d)) D1:=assert_hit if3
theorem lk77 {r:Nat} {kv:Value} {ok:Bool} {H:Heap} {D1:D → Prop}:okK (lkD Try.prog 77 H (.mp r) (.v kv) ok) D1 = okM (H.get r) fun es _=>okQ (findD (.int .i64) kv es 0) fun q=>okK (getM es q (.v (.int .i64 0)) ok) D1:=lk_mp tm77 ze3
theorem dl77 {H:Heap} {r:Nat} {kv:Value} {C:D → Heap → Prop}:aDeleteL Try.prog #[77,3] [.mp r,.v kv] H C = okM (H.get r) fun es cl=>okQ (findD (.int .i64) kv es 0) fun q=>C (.tup []) (H.set r (some (.mp (delM es q) cl))):=delete_mp rfl tm77
theorem mi3 {x:D} {D1:D → Prop}:zCS Try.prog 3 x D1 = D1 (.ifc 3 x):=by have h:=if3;unfold isIface at h;unfold zCS;split <;> simp_all
theorem un77:Try.prog.underlying 77 = some (.map 3 3):=by kernel_rfl
theorem ldm_77 {H:Heap} {r:Nat}:lenD Try.prog #[77] H (.mp r) = lenRow (H.get r):=lend_mp un77
theorem rg77 {r:Nat} {H:Heap} {C:D → Heap → Prop}:aRange Try.prog 77 (.mp r) H C = okM (H.get r) fun es cl=>C (.pt H.length 0 0) (H ++ [some (.it r cl [] cl)]):=range_mp un77
theorem un3:Try.prog.underlying 3 = some (.int .i64):=by kernel_rfl
theorem un102:Try.prog.underlying 102 = some (.int .u64):=by kernel_rfl
theorem cv3_102 {H:Heap} {m:Int} {D1:D → Prop}:aConvL Try.prog 3 102 H (.v (.int .i64 m)) D1 = D1 (.v (.int .u64 (IntKind.wrap .u64 m))):=conv_int un3 un102
theorem cv102_3 {H:Heap} {m:Int} {D1:D → Prop}:aConvL Try.prog 102 3 H (.v (.int .u64 m)) D1 = D1 (.v (.int .i64 (IntKind.wrap .i64 m))):=conv_int un102 un3
theorem sls22 {H:Heap} {r j len:Nat} {lo hi:Option D} {D1:D → Prop} {tg:Tag (zAm Try.prog 22 (.sl r j len) lo hi none D1) (zAm Try.prog 22 (.sl r j len) lo hi none D1)}:zAk (zBT Try.prog 22 H (.sl r j len)) (zAm Try.prog 22 (.sl r j len) lo hi none D1) tg = zAk (rowK (H.get r) = some 2) (okZ (zAV (.v (.int .i64 0)) lo) fun l=>okZ (zAV (.v (.int .i64 len)) hi) fun h=>zAk (0 ≤ l ∧ l ≤ h ∧ h ≤ len) (D1 (.sl r (j + l.toNat) (h.toNat - l.toNat))) .mk) .mk:=slice_sl un22 sz71
theorem slf22 {H:Heap} {xs:List D} {lo hi:Option D} {D1:D → Prop} {tg:Tag (zAm Try.prog 22 (.fz 2 xs) lo hi none D1) (zAm Try.prog 22 (.fz 2 xs) lo hi none D1)}:zAk (zBT Try.prog 22 H (.fz 2 xs)) (zAm Try.prog 22 (.fz 2 xs) lo hi none D1) tg = okZ (zAV (.v (.int .i64 0)) lo) fun l=>okZ (zAV (.v (.int .i64 xs.length)) hi) fun h=>zAk (0 ≤ l ∧ l ≤ h ∧ h ≤ xs.length) (D1 (.fz 2 ((xs.drop l.toNat).take (h.toNat - l.toNat)))) .mk:=slice_fz un22 sz71
theorem sln22 {H:Heap}  {lo hi:Option D} {D1:D → Prop} {tg:Tag (zAm Try.prog 22 (.v (.slice none 0 0)) lo hi none D1) (zAm Try.prog 22 (.v (.slice none 0 0)) lo hi none D1)}:zAk (zBT Try.prog 22 H (.v (.slice none 0 0))) (zAm Try.prog 22 (.v (.slice none 0 0)) lo hi none D1) tg = okZ (zAV (.v (.int .i64 0)) lo) fun l=>okZ (zAV (.v (.int .i64 0)) hi) fun h=>zAk (l = 0 ∧ h = 0) (D1 (.v (.slice none 0 0))) .mk:=slice_nil un22 sz71
theorem slc22 {H:Heap} {r i m c:Nat} {lo hi:Option D} {D1:D → Prop}:zCv Try.prog 22 H (.slc r i m c) lo hi none D1 = zAk (rowK (H.get r) = some 2) (okZ (zAV (.v (.int .i64 0)) lo) fun l=>okZ (zAV (.v (.int .i64 m)) hi) fun h=>zAk (0 ≤ l ∧ l ≤ h ∧ h ≤ c) (D1 (.slc r (i + l.toNat) (h.toNat - l.toNat) (c - l.toNat))) .mk) .mk:=slice_slc el22 sz71
theorem cp22 {r i m c:Nat} {D1:D → Prop}:zAz Try.prog .cap #[22] [.slc r i m c] D1 = D1 (.v (.int .i64 c)):=cap_slc rfl un22
theorem cys22_22 {H:Heap} {r i m:Nat} {x:D} {C:D → Heap → Prop}:aCopyL Try.prog #[22,22] [.sl r i m,x] H C = okL (zBV H 2 x.wk) fun ys=>okR (H.get r) 2 fun xs=>zAk (i + m ≤ xs.length) (C (.v (.int .i64 (min ys.length m:Nat))) (H.set r (some (.cells 2 (zCK xs i (ys.take (min ys.length m))))))) .mk:=copy_sl rfl el22 sz71 rfl
theorem cyc22_22 {H:Heap} {r i m c:Nat} {x:D} {C:D → Heap → Prop}:aCopyL Try.prog #[22,22] [.slc r i m c,x] H C = okL (zBV H 2 x.wk) fun ys=>okR (H.get r) 2 fun xs=>zAk (i + m ≤ xs.length) (C (.v (.int .i64 (min ys.length m:Nat))) (H.set r (some (.cells 2 (zCK xs i (ys.take (min ys.length m))))))) .mk:=copy_sl rfl el22 sz71 rfl
theorem un78:Try.prog.underlying 78 = some (.slice 3):=by kernel_rfl
theorem lef78 {k:Nat} {xs:List D} {D1:D → Prop}:zAz Try.prog .len #[78] [.fz k xs] D1 = D1 (.v (.int .i64 xs.length)):=len_fz rfl un78
theorem les78 {r j len:Nat} {D1:D → Prop}:zAz Try.prog .len #[78] [.sl r j len] D1 = D1 (.v (.int .i64 len)):=len_sl rfl un78
theorem len78 {D1:D → Prop}:zAz Try.prog .len #[78] [.v (.slice none 0 0)] D1 = D1 (.v (.int .i64 0)):=len_nil rfl un78
theorem ldf_78 {H:Heap} {k:Nat} {xs:List D}:lenD Try.prog #[78] H (.fz k xs) = some (.v (.int .i64 xs.length)):=lend_fz un78
theorem lds_78 {H:Heap} {r i m:Nat}:lenD Try.prog #[78] H (.sl r i m) = some (.v (.int .i64 m)):=lend_sl un78
theorem ldc_78 {H:Heap} {r i m c:Nat}:lenD Try.prog #[78] H (.slc r i m c) = some (.v (.int .i64 m)):=lend_slc un78
theorem ldn_78 {H:Heap}:lenD Try.prog #[78] H (.v (.slice none 0 0)) = some (.v (.int .i64 0)):=lend_nil un78
theorem nils22 {r i m:Nat} {D1:D → Prop}:aBinE Try.prog .eql 22 (.sl r i m) (.v (.slice none 0 0)) D1 = D1 (.v (.bool false)):=nil_sl el22
theorem nilc22 {r i m c:Nat} {D1:D → Prop}:aBinE Try.prog .eql 22 (.slc r i m c) (.v (.slice none 0 0)) D1 = D1 (.v (.bool false)):=nil_slc el22
theorem niln22 {D1:D → Prop}:aBinE Try.prog .eql 22 (.v (.slice none 0 0)) (.v (.slice none 0 0)) D1 = D1 (.v (.bool true)):=nil_nil el22
theorem nilf22 {k:Nat} {xs:List D} {D1:D → Prop}:aBinE Try.prog .eql 22 (.fz k xs) (.v (.slice none 0 0)) D1 = allK (fun b=>b = true → xs = []) (fun b=>D1 (.v (.bool b))) .mk:=nil_fz el22
theorem ixs78 {H:Heap} {r j len:Nat} {n:Int} {jk:IntKind} {D1:D → Prop}:zBP Try.prog 78 H (.sl r j len) (.v (.int jk n)) D1 = zAk (rowK (H.get r) = some 1) (zAk (0 ≤ n ∧ n < len) (D1 (.pt r (j + n.toNat) 0)) .mk) .mk:=ix_sl el78 sz3
theorem ixf78 {H:Heap} {xs:List D} {n:Int} {jk:IntKind} {D1:D → Prop}:zBP Try.prog 78 H (.fz 1 xs) (.v (.int jk n)) D1 = zAk (0 ≤ n ∧ n < xs.length) (D1 (.fp 1 xs n.toNat 0)) .mk:=indexAddr_fz el78 sz3
theorem sls78 {H:Heap} {r j len:Nat} {lo hi:Option D} {D1:D → Prop} {tg:Tag (zAm Try.prog 78 (.sl r j len) lo hi none D1) (zAm Try.prog 78 (.sl r j len) lo hi none D1)}:zAk (zBT Try.prog 78 H (.sl r j len)) (zAm Try.prog 78 (.sl r j len) lo hi none D1) tg = zAk (rowK (H.get r) = some 1) (okZ (zAV (.v (.int .i64 0)) lo) fun l=>okZ (zAV (.v (.int .i64 len)) hi) fun h=>zAk (0 ≤ l ∧ l ≤ h ∧ h ≤ len) (D1 (.sl r (j + l.toNat) (h.toNat - l.toNat))) .mk) .mk:=slice_sl un78 sz3
theorem slf78 {H:Heap} {xs:List D} {lo hi:Option D} {D1:D → Prop} {tg:Tag (zAm Try.prog 78 (.fz 1 xs) lo hi none D1) (zAm Try.prog 78 (.fz 1 xs) lo hi none D1)}:zAk (zBT Try.prog 78 H (.fz 1 xs)) (zAm Try.prog 78 (.fz 1 xs) lo hi none D1) tg = okZ (zAV (.v (.int .i64 0)) lo) fun l=>okZ (zAV (.v (.int .i64 xs.length)) hi) fun h=>zAk (0 ≤ l ∧ l ≤ h ∧ h ≤ xs.length) (D1 (.fz 1 ((xs.drop l.toNat).take (h.toNat - l.toNat)))) .mk:=slice_fz un78 sz3
theorem sln78 {H:Heap}  {lo hi:Option D} {D1:D → Prop} {tg:Tag (zAm Try.prog 78 (.v (.slice none 0 0)) lo hi none D1) (zAm Try.prog 78 (.v (.slice none 0 0)) lo hi none D1)}:zAk (zBT Try.prog 78 H (.v (.slice none 0 0))) (zAm Try.prog 78 (.v (.slice none 0 0)) lo hi none D1) tg = okZ (zAV (.v (.int .i64 0)) lo) fun l=>okZ (zAV (.v (.int .i64 0)) hi) fun h=>zAk (l = 0 ∧ h = 0) (D1 (.v (.slice none 0 0))) .mk:=slice_nil un78 sz3
theorem slc78 {H:Heap} {r i m c:Nat} {lo hi:Option D} {D1:D → Prop}:zCv Try.prog 78 H (.slc r i m c) lo hi none D1 = zAk (rowK (H.get r) = some 1) (okZ (zAV (.v (.int .i64 0)) lo) fun l=>okZ (zAV (.v (.int .i64 m)) hi) fun h=>zAk (0 ≤ l ∧ l ≤ h ∧ h ≤ c) (D1 (.slc r (i + l.toNat) (h.toNat - l.toNat) (c - l.toNat))) .mk) .mk:=slice_slc el78 sz3
theorem me80_Len:methOf Try.prog 80 "Len" = some (47,(some 78)):=by kernel_rfl
theorem inW80_Len {d:D} {args:List D} {H:Heap} {C:D → Heap → Prop}:aInvW Try.prog (.ifc 80 d) "Len" args H C = okK (ldD Try.prog 78 H d) fun y=>invS Try.prog 47 (y :: args) H C:=invW_v me80_Len
theorem inK80_Len {d:D} {args:List D} {H:Heap} {C:D → Heap → Prop}:aInvK Try.prog (.ifc 80 d) "Len" args H C = okK (ldD Try.prog 78 H d) fun y=>invSK Try.prog 47 (y :: args) H C:=invK_v me80_Len
theorem me80_Less:methOf Try.prog 80 "Less" = some (151,(some 78)):=by kernel_rfl
theorem inW80_Less {d:D} {args:List D} {H:Heap} {C:D → Heap → Prop}:aInvW Try.prog (.ifc 80 d) "Less" args H C = okK (ldD Try.prog 78 H d) fun y=>invS Try.prog 151 (y :: args) H C:=invW_v me80_Less
theorem inK80_Less {d:D} {args:List D} {H:Heap} {C:D → Heap → Prop}:aInvK Try.prog (.ifc 80 d) "Less" args H C = okK (ldD Try.prog 78 H d) fun y=>invSK Try.prog 151 (y :: args) H C:=invK_v me80_Less
theorem me80_Pop:methOf Try.prog 80 "Pop" = some (153,none):=by kernel_rfl
theorem inW80_Pop {d:D} {args:List D} {H:Heap} {C:D → Heap → Prop}:aInvW Try.prog (.ifc 80 d) "Pop" args H C = invS Try.prog 153 (d :: args) H C:=invW_p me80_Pop
theorem inK80_Pop {d:D} {args:List D} {H:Heap} {C:D → Heap → Prop}:aInvK Try.prog (.ifc 80 d) "Pop" args H C = invSK Try.prog 153 (d :: args) H C:=invK_p me80_Pop
theorem me80_Push:methOf Try.prog 80 "Push" = some (154,none):=by kernel_rfl
theorem inW80_Push {d:D} {args:List D} {H:Heap} {C:D → Heap → Prop}:aInvW Try.prog (.ifc 80 d) "Push" args H C = invS Try.prog 154 (d :: args) H C:=invW_p me80_Push
theorem inK80_Push {d:D} {args:List D} {H:Heap} {C:D → Heap → Prop}:aInvK Try.prog (.ifc 80 d) "Push" args H C = invSK Try.prog 154 (d :: args) H C:=invK_p me80_Push
theorem me80_Swap:methOf Try.prog 80 "Swap" = some (152,(some 78)):=by kernel_rfl
theorem inW80_Swap {d:D} {args:List D} {H:Heap} {C:D → Heap → Prop}:aInvW Try.prog (.ifc 80 d) "Swap" args H C = okK (ldD Try.prog 78 H d) fun y=>invS Try.prog 152 (y :: args) H C:=invW_v me80_Swap
theorem inK80_Swap {d:D} {args:List D} {H:Heap} {C:D → Heap → Prop}:aInvK Try.prog (.ifc 80 d) "Swap" args H C = okK (ldD Try.prog 78 H d) fun y=>invSK Try.prog 152 (y :: args) H C:=invK_v me80_Swap
def TY0:=(And.intro (And.intro (And.intro (And.intro (And.intro @al24 @ldp24) (And.intro @ldf24 (And.intro @bd24 @stp24))) (And.intro (And.intro @fap24_0 @faf24_0) (And.intro @ldp3 (And.intro @ldf3 @fap24_2)))) (And.intro (And.intro (And.intro @faf24_2 @fap24_3) (And.intro @faf24_3 (And.intro @ldp22 @ldf22))) (And.intro (And.intro @lef22 @les22) (And.intro @len22 (And.intro @ldf_22 @lds_22))))) (And.intro (And.intro (And.intro (And.intro @ldc_22 @ldn_22) (And.intro @mk22 (And.intro @aps22_22 @apn22_22))) (And.intro (And.intro @apc22_22 @ixs22) (And.intro @ixf22 (And.intro @fap71_1 @faf71_1)))) (And.intro (And.intro (And.intro @stp3 @bd71) (And.intro @bs22 (And.intro @fap24_1 @faf24_1))) (And.intro (And.intro @mm77 @mk78) (And.intro @al78 (And.intro @stp78 @ldp71))))))
def TY1:=(And.intro (And.intro (And.intro (And.intro (And.intro @ldf71 @al71) (And.intro @stp71 (And.intro @fap71_0 @faf71_0))) (And.intro (And.intro @mu77 @ldp78) (And.intro @ldf78 (And.intro @bs78 @aps78_78)))) (And.intro (And.intro (And.intro @apn78_78 @apc78_78) (And.intro @mi80 (And.intro @as3 @lk77))) (And.intro (And.intro @dl77 @mi3) (And.intro @ldm_77 (And.intro @rg77 @cv3_102))))) (And.intro (And.intro (And.intro (And.intro @cv102_3 @sls22) (And.intro @slf22 (And.intro @sln22 @slc22))) (And.intro (And.intro @cp22 @cys22_22) (And.intro @cyc22_22 (And.intro @lef78 @les78)))) (And.intro (And.intro (And.intro @len78 @ldf_78) (And.intro @lds_78 (And.intro @ldc_78 @ldn_78))) (And.intro (And.intro @nils22 @nilc22) (And.intro @niln22 (And.intro @nilf22 @ixs78))))))
def TY2:=(And.intro (And.intro (And.intro @ixf78 (And.intro @sls78 @slf78)) (And.intro (And.intro @sln78 @slc78) (And.intro @inW80_Len @inK80_Len))) (And.intro (And.intro (And.intro @inW80_Less @inK80_Less) (And.intro @inW80_Pop @inK80_Pop)) (And.intro (And.intro @inW80_Push @inK80_Push) (And.intro @inW80_Swap @inK80_Swap))))
def TY:=(And.intro TY0 (And.intro TY1 TY2))
theorem mixed:Try.prog.follows .mixedOrders = true:=by kernel_rfl
end Go.Proofs.Ytfibkbmlgigemaa.AbT
namespace Go.Proofs.Qd
open Go Go.Ab
abbrev iD (n:Int):D:=.v (.int .i64 n)
def zBL (n:Int × Int):D:=.agg [iD n.1,iD n.2]
theorem zAf {x:Int} (h1:-9223372036854775808 ≤ x) (h2:x < 9223372036854775808):IntKind.i64.wrap x = x:=by
 have e:IntKind.i64.wrap x = (if x % 18446744073709551616 ≥ 9223372036854775808 then x % 18446744073709551616 - 18446744073709551616 else x % 18446744073709551616):=by
   simp [IntKind.wrap,IntKind.bits,IntKind.signed]
 rw [e]
 split
 · rename_i h;omega
 · rename_i h;omega
def shl (a bits:Int):Int:=IntKind.i64.wrap (a * 2 ^ min bits.toNat IntKind.i64.bits)
def thr (count k:Int):Int:=IntKind.i64.wrap (count.tdiv k)
def chk (bits count th:Int):List (Int × Int) → Int → Int → Option Int
 | [],_,sum=>some sum
 | n :: r,before,sum =>
   if n.1 ≤ before ∨ shl 2 bits ≤ n.1 ∨ n.2 < 1 ∨ count < n.2 then none
   else if n.1 < shl 1 bits ∧ th < n.2 then none
   else chk bits count th r n.1 (sum + n.2)
def zBC (bits k count:Int) (nodes:List (Int × Int)):Int :=
 if bits < 1 ∨ 20 < bits ∨ k < 1 ∨ 10000 < k then 1
 else if count < 0 ∨ 1099511627776 < count ∨ (2000:Int) < nodes.length then 1
 else match chk bits count (thr count k) nodes 0 0 with
   | some s=>if s ≠ count then 1 else 0
   | none=>1
theorem map_get {l:List (Int × Int)} {i:Nat} (h:i < l.length):(l.map zBL)[((i:Nat):Int).toNat]? = some (.agg [iD l[i].1,iD l[i].2]):=by
 simp [zBL,h]
end Go.Proofs.Qd
set_option maxRecDepth 100000
namespace Go.Q
open Go Go.T Go.Ab Go.Proofs
variable [Go.Ab.DM]
noncomputable def F11 (x:(Int × (Int × (Int × (List (Int × Int)))))):(Option Bool) :=
some (ilt 24 (n2i (zAW x.2.2.2)))
noncomputable def c11:Con:=⟨11,[.agg (.pr (.int .i64) (.pr (.int .i64) (.pr (.int .i64) (.sl (.agg (.pr (.int .i64) (.int .i64)))))))],[],.bool,[],F11,none⟩
theorem ok11:zAo Try.prog c11:=zBe zDB [] (zBd) c11 Try.f11 (.o) Try.func11 (by kernel_rfl) (by kernel_rfl) (by kernel_rfl) rfl (fun x=>by kernel_rfl) (fun x=>⟨by kernel_rfl,by kernel_rfl⟩)
noncomputable def F13 (x:(Int × Int)):(Option ((Int × (Int × (Int × (List (Int × Int))))) × Int)) :=
sel (zAJ (zAJ (zAJ (ilt x.1 1) true (ilt 20 x.1)) true (ilt x.2 1)) true (ilt 10000 x.2)) (some ((0,0,0,([]:List (Int × Int))),2)) <|
some ((x.1,x.2,0,([]:List (Int × Int))),0)
noncomputable def c13:Con:=⟨13,[.int .i64,.int .i64],[],.tup (.pr (.agg (.pr (.int .i64) (.pr (.int .i64) (.pr (.int .i64) (.sl (.agg (.pr (.int .i64) (.int .i64)))))))) (.int .i64)),[],F13,none⟩
theorem ok13:zAo Try.prog c13:=zBe zDB [] (zBd) c13 Try.f13 (.o) Try.func13 (by kernel_rfl) (by kernel_rfl) (by kernel_rfl) rfl (fun x=>by kernel_rfl) (fun x=>⟨by kernel_rfl,by kernel_rfl⟩)
noncomputable def F14 (x:(Int × Int)):(Option ((Int × (Int × (Int × (List (Int × Int))))) × Int)) :=
sel (zAJ (zAJ (zAJ (ilt x.1 1) true (ilt 20 x.1)) true (ilt x.2 1)) true (ilt 10000 x.2)) (some ((0,0,0,([]:List (Int × Int))),2)) <|
some ((x.1,x.2,0,([]:List (Int × Int))),0)
noncomputable def F15 (x:((Int × (Int × (Int × (List (Int × Int))))) × (Int × (Int × (Int × (List (Int × Int))))))):(Option Bool) :=
sel (zAJ (zAJ (zAJ (ine x.1.1 x.2.1) true (ine x.1.2.1 x.2.2.1)) true (ine x.1.2.2.1 x.2.2.2.1)) true (ine (n2i (zAW x.1.2.2.2)) (n2i (zAW x.2.2.2.2)))) (some false) <|
join (iter (fun (s0:Int) =>
sel (ilt s0 (n2i (zAW x.1.2.2.2))) (need (inL s0 (zAW x.1.2.2.2)) <|
need (inL s0 (zAW x.2.2.2.2)) <|
sel (zDa (band (ieq ((zAq (0,0) x.1.2.2.2 (i2n s0)).1) ((zAq (0,0) x.2.2.2.2 (i2n s0)).1)) (band (ieq ((zAq (0,0) x.1.2.2.2 (i2n s0)).2) ((zAq (0,0) x.2.2.2.2 (i2n s0)).2)) true))) (some (.inr (.inr false))) <|
some (.inl (zAi .i64 s0 1))) <|
some (.inr (.inl ()))) 0) fun (j1:PUnit) =>
some true
noncomputable def c15:Con:=⟨15,[.agg (.pr (.int .i64) (.pr (.int .i64) (.pr (.int .i64) (.sl (.agg (.pr (.int .i64) (.int .i64))))))),.agg (.pr (.int .i64) (.pr (.int .i64) (.pr (.int .i64) (.sl (.agg (.pr (.int .i64) (.int .i64)))))))],[],.bool,[],F15,none⟩
theorem ok15:zAo Try.prog c15:=zBe zDB [] (zBd) c15 Try.f15 (.n .o (.n .o (.n (.n .o (.jb ⟨[],[],[],0,0⟩ (.l ⟨[2,3],[(5,.int .i64)],[],2,1⟩ (.n .o (.n (.b (.n (.r [0,1,2,3,4,5,6,7,8,9,10]) .o)) .o))))) .o))) Try.func15 (by kernel_rfl) (by kernel_rfl) (by kernel_rfl) rfl (fun x=>by kernel_rfl) (fun x=>⟨by kernel_rfl,by kernel_rfl⟩)
noncomputable def F20 (x:(Int × (Int × (Int × (List (Int × Int)))))):(Option Int) :=
sel (zAJ (zAJ (zAJ (ilt x.1 1) true (ilt 20 x.1)) true (ilt x.2.1 1)) true (ilt 10000 x.2.1)) (some 1) <|
sel (zAJ (zAJ (ilt x.2.2.1 0) true (ilt 1099511627776 x.2.2.1)) true (ilt 2000 (n2i (zAW x.2.2.2)))) (some 1) <|
need (ine x.2.1 0) <|
join (iter (fun (s0:(Int × (Int × Int))) =>
sel (ilt s0.2.2 (n2i (zAW x.2.2.2))) (need (inL s0.2.2 (zAW x.2.2.2)) <|
need (impl (zDa (ile ((zAq (0,0) x.2.2.2 (i2n s0.2.2)).1) s0.2.1)) (ile 0 x.1)) <|
sel (zAJ (zAJ (zAJ (ile ((zAq (0,0) x.2.2.2 (i2n s0.2.2)).1) s0.2.1) true (ile (zCz .i64 2 x.1) ((zAq (0,0) x.2.2.2 (i2n s0.2.2)).1))) true (ilt ((zAq (0,0) x.2.2.2 (i2n s0.2.2)).2) 1)) true (ilt x.2.2.1 ((zAq (0,0) x.2.2.2 (i2n s0.2.2)).2))) (some (.inr (.inr 1))) <|
need (ile 0 x.1) <|
sel (zAJ (ilt ((zAq (0,0) x.2.2.2 (i2n s0.2.2)).1) (zCz .i64 1 x.1)) (ilt (iquo .i64 x.2.2.1 x.2.1) ((zAq (0,0) x.2.2.2 (i2n s0.2.2)).2)) false) (some (.inr (.inr 1))) <|
some (.inl (zAi .i64 s0.1 ((zAq (0,0) x.2.2.2 (i2n s0.2.2)).2),(zAq (0,0) x.2.2.2 (i2n s0.2.2)).1,zAi .i64 s0.2.2 1))) <|
some (.inr (.inl s0.1))) (0,0,0)) fun (j1:Int) =>
sel (ine j1 x.2.2.1) (some 1) <|
some 0
noncomputable def c20:Con:=⟨20,[.agg (.pr (.int .i64) (.pr (.int .i64) (.pr (.int .i64) (.sl (.agg (.pr (.int .i64) (.int .i64)))))))],[],.int .i64,[],F20,none⟩
theorem ok20:zAo Try.prog c20:=zBe zDB [] (zBd) c20 Try.f20 (.n .o (.n .o (.n .o (.n .o (.n .o (.n (.n .o (.jb ⟨[1],[(4,.int .i64)],[],1,0⟩ (.l ⟨[1,3,46,47],[(4,.int .i64),(5,.int .i64),(48,.int .i64)],[],1,1⟩ (.n .o (.n .o (.n (.b (.n .o (.n (.n (.r [0,1,2,3,4,5,6,7,8,9,10,11,12,13,14,15,16,17,18,19,20,21,22,23]) .o) (.n (.n (.r [0,1,2,3,4,5,6,7,8,9,10,11]) .o) .o)))) .o)))))) .o)))))) Try.func20 (by kernel_rfl) (by kernel_rfl) (by kernel_rfl) rfl (fun x=>by kernel_rfl) (fun x=>⟨by kernel_rfl,by kernel_rfl⟩)
noncomputable def F21 (x:(Int × (Int × (Int × (List (Int × Int)))))):(Option Int) :=
sel (zAJ (zAJ (zAJ (zAJ (zAJ (zAJ (ilt x.1 1) true (ilt 20 x.1)) true (ilt x.2.1 1)) true (ilt 10000 x.2.1)) true (ilt x.2.2.1 0)) true (ilt 1099511627776 x.2.2.1)) true (ilt 2000 (n2i (zAW x.2.2.2)))) (some 1) <|
join (iter (fun (s0:(Int × Int)) =>
sel (ilt s0.2 (n2i (zAW x.2.2.2))) (need (inL s0.2 (zAW x.2.2.2)) <|
need (impl (zDa (ilt ((zAq (0,0) x.2.2.2 (i2n s0.2)).1) 1)) (ile 0 x.1)) <|
need (impl (band (zDa (zAJ (ilt ((zAq (0,0) x.2.2.2 (i2n s0.2)).1) 1) true (ile (zCz .i64 2 x.1) ((zAq (0,0) x.2.2.2 (i2n s0.2)).1)))) (ilt 0 s0.2)) (inL (zDG .i64 s0.2 1) (zAW x.2.2.2))) <|
need (impl (zDa (zAJ (zAJ (zAJ (zAJ (ilt ((zAq (0,0) x.2.2.2 (i2n s0.2)).1) 1) true (ile (zCz .i64 2 x.1) ((zAq (0,0) x.2.2.2 (i2n s0.2)).1))) true (zAJ (ilt 0 s0.2) (ile ((zAq (0,0) x.2.2.2 (i2n s0.2)).1) ((zAq (0,0) x.2.2.2 (i2n (zDG .i64 s0.2 1))).1)) false)) true (ilt ((zAq (0,0) x.2.2.2 (i2n s0.2)).2) 1)) true (ilt x.2.2.1 ((zAq (0,0) x.2.2.2 (i2n s0.2)).2)))) (ile 0 x.1)) <|
need (impl (band (zDa (zAJ (zAJ (zAJ (zAJ (ilt ((zAq (0,0) x.2.2.2 (i2n s0.2)).1) 1) true (ile (zCz .i64 2 x.1) ((zAq (0,0) x.2.2.2 (i2n s0.2)).1))) true (zAJ (ilt 0 s0.2) (ile ((zAq (0,0) x.2.2.2 (i2n s0.2)).1) ((zAq (0,0) x.2.2.2 (i2n (zDG .i64 s0.2 1))).1)) false)) true (ilt ((zAq (0,0) x.2.2.2 (i2n s0.2)).2) 1)) true (ilt x.2.2.1 ((zAq (0,0) x.2.2.2 (i2n s0.2)).2)))) (ilt ((zAq (0,0) x.2.2.2 (i2n s0.2)).1) (zCz .i64 1 x.1))) (ine x.2.1 0)) <|
sel (zAJ (zAJ (zAJ (zAJ (zAJ (ilt ((zAq (0,0) x.2.2.2 (i2n s0.2)).1) 1) true (ile (zCz .i64 2 x.1) ((zAq (0,0) x.2.2.2 (i2n s0.2)).1))) true (zAJ (ilt 0 s0.2) (ile ((zAq (0,0) x.2.2.2 (i2n s0.2)).1) ((zAq (0,0) x.2.2.2 (i2n (zDG .i64 s0.2 1))).1)) false)) true (ilt ((zAq (0,0) x.2.2.2 (i2n s0.2)).2) 1)) true (ilt x.2.2.1 ((zAq (0,0) x.2.2.2 (i2n s0.2)).2))) true (zAJ (ilt ((zAq (0,0) x.2.2.2 (i2n s0.2)).1) (zCz .i64 1 x.1)) (ilt (iquo .i64 x.2.2.1 x.2.1) ((zAq (0,0) x.2.2.2 (i2n s0.2)).2)) false)) (some (.inr (.inr 1))) <|
some (.inl (zAi .i64 s0.1 ((zAq (0,0) x.2.2.2 (i2n s0.2)).2),zAi .i64 s0.2 1))) <|
some (.inr (.inl s0.1))) (0,0)) fun (j1:Int) =>
sel (ine j1 x.2.2.1) (some 1) <|
some 0
noncomputable def c21:Con:=⟨21,[.agg (.pr (.int .i64) (.pr (.int .i64) (.pr (.int .i64) (.sl (.agg (.pr (.int .i64) (.int .i64)))))))],[],.int .i64,[],F21,none⟩
theorem ok21:zAo Try.prog c21:=zBe zDB [] (zBd) c21 Try.f21 (.n .o (.n .o (.n .o (.n (.n .o (.jb ⟨[1],[(3,.int .i64)],[],1,0⟩ (.l ⟨[1],[(3,.int .i64),(4,.int .i64)],[],1,1⟩ (.n .o (.n (.b (.n .o (.n (.n (.r [0,1,2,3,4,5,6,7,8,9,10,11,12,13,14,15,16,17,18,19,20,21,22,23,24,25,26,27,28,29,30,31,32,33,34,35,36,37,38,39,40,41,42,43,44,45,46,47,48,49,50,51,52,53,54,55,56]) .o) .o))) .o))))) .o)))) Try.func21 (by kernel_rfl) (by kernel_rfl) (by kernel_rfl) rfl (fun x=>by kernel_rfl) (fun x=>⟨by kernel_rfl,by kernel_rfl⟩)
noncomputable def F40 (x:((List (Int × Int)) × (List (Int × Int)))):(Option Bool) :=
sel (ine (n2i (zAW x.1)) (n2i (zAW x.2))) (some false) <|
join (iter (fun (s0:Int) =>
sel (ilt s0 (n2i (zAW x.1))) (need (inL s0 (zAW x.1)) <|
need (inL s0 (zAW x.2)) <|
sel (zDa (band (ieq ((zAq (0,0) x.1 (i2n s0)).1) ((zAq (0,0) x.2 (i2n s0)).1)) (band (ieq ((zAq (0,0) x.1 (i2n s0)).2) ((zAq (0,0) x.2 (i2n s0)).2)) true))) (some (.inr (.inr false))) <|
some (.inl (zAi .i64 s0 1))) <|
some (.inr (.inl ()))) 0) fun (j1:PUnit) =>
some true
noncomputable def c40:Con:=⟨40,[.sl (.agg (.pr (.int .i64) (.int .i64))),.sl (.agg (.pr (.int .i64) (.int .i64)))],[],.bool,[],F40,none⟩
theorem ok40:zAo Try.prog c40:=zBe zDB [] (zBd) c40 Try.f40 (.n .o (.n .o (.n (.n .o (.jb ⟨[],[],[],0,0⟩ (.l ⟨[0,1,12],[(13,.int .i64)],[],0,1⟩ (.n .o (.n .o (.n (.b (.n .o (.n (.r [0,1,2,3,4,5,6,7,8]) .o))) .o)))))) .o))) Try.func40 (by kernel_rfl) (by kernel_rfl) (by kernel_rfl) rfl (fun x=>by kernel_rfl) (fun x=>⟨by kernel_rfl,by kernel_rfl⟩)
noncomputable def F44 (x:(Int × (Int × (Int × (List (Int × Int)))))):(Option ((Int × (Int × (Int × (List (Int × Int))))) × Int)) :=
sel (zAJ (ilt 1099511627776 x.2.2.1) true (ilt 2000 (n2i (zAW x.2.2.2)))) (some ((0,0,0,([]:List (Int × Int))),4)) <|
some (x,0)
noncomputable def c44:Con:=⟨44,[.agg (.pr (.int .i64) (.pr (.int .i64) (.pr (.int .i64) (.sl (.agg (.pr (.int .i64) (.int .i64)))))))],[],.tup (.pr (.agg (.pr (.int .i64) (.pr (.int .i64) (.pr (.int .i64) (.sl (.agg (.pr (.int .i64) (.int .i64)))))))) (.int .i64)),[],F44,none⟩
theorem ok44:zAo Try.prog c44:=zBe zDB [] (zBd) c44 Try.f44 (.o) Try.func44 (by kernel_rfl) (by kernel_rfl) (by kernel_rfl) rfl (fun x=>by kernel_rfl) (fun x=>⟨by kernel_rfl,by kernel_rfl⟩)
noncomputable def F45 (x:((List (Int × Int)) × (Int × Int))):(Option (List (Int × Int))) :=
join (iter (fun (s0:Int) =>
need (impl (ilt s0 (n2i (zAW x.1))) (inL s0 (zAW x.1))) <|
sel (zAJ (ilt s0 (n2i (zAW x.1))) (ilt ((zAq (0,0) x.1 (i2n s0)).1) x.2.1) false) (some (.inl (zAi .i64 s0 1))) <|
some (.inr (.inl s0))) 0) fun (j1:Int) =>
need (inS 0 j1 (zAW x.1)) <|
need (room (zDN (zAW ([]:List (Int × Int))) (zAW (lsub x.1 (i2n 0) (nsub (i2n j1) (i2n 0))))) 16) <|
need (impl (ilt j1 (n2i (zAW x.1))) (inL j1 (zAW x.1))) <|
sel (zAJ (ilt j1 (n2i (zAW x.1))) (ieq ((zAq (0,0) x.1 (i2n j1)).1) x.2.1) false) (need (inL j1 (zAW x.1)) <|
need (room (zDN (zAW (zDQ ([]:List (Int × Int)) (lsub x.1 (i2n 0) (nsub (i2n j1) (i2n 0))))) (zAW ((x.2.1,zAi .i64 ((zAq (0,0) x.1 (i2n j1)).2) x.2.2) :: ([]:List (Int × Int))))) 16) <|
need (inS (zAi .i64 j1 1) (n2i (zAW x.1)) (zAW x.1)) <|
need (room (zDN (zAW (zDQ (zDQ ([]:List (Int × Int)) (lsub x.1 (i2n 0) (nsub (i2n j1) (i2n 0)))) ((x.2.1,zAi .i64 ((zAq (0,0) x.1 (i2n j1)).2) x.2.2) :: ([]:List (Int × Int))))) (zAW (lsub x.1 (i2n (zAi .i64 j1 1)) (nsub (i2n (n2i (zAW x.1))) (i2n (zAi .i64 j1 1)))))) 16) <|
some (zDQ (zDQ (zDQ ([]:List (Int × Int)) (lsub x.1 (i2n 0) (nsub (i2n j1) (i2n 0)))) ((x.2.1,zAi .i64 ((zAq (0,0) x.1 (i2n j1)).2) x.2.2) :: ([]:List (Int × Int)))) (lsub x.1 (i2n (zAi .i64 j1 1)) (nsub (i2n (n2i (zAW x.1))) (i2n (zAi .i64 j1 1)))))) <|
need (room (zDN (zAW (zDQ ([]:List (Int × Int)) (lsub x.1 (i2n 0) (nsub (i2n j1) (i2n 0))))) (zAW ((x.2.1,x.2.2) :: ([]:List (Int × Int))))) 16) <|
need (inS j1 (n2i (zAW x.1)) (zAW x.1)) <|
need (room (zDN (zAW (zDQ (zDQ ([]:List (Int × Int)) (lsub x.1 (i2n 0) (nsub (i2n j1) (i2n 0)))) ((x.2.1,x.2.2) :: ([]:List (Int × Int))))) (zAW (lsub x.1 (i2n j1) (nsub (i2n (n2i (zAW x.1))) (i2n j1))))) 16) <|
some (zDQ (zDQ (zDQ ([]:List (Int × Int)) (lsub x.1 (i2n 0) (nsub (i2n j1) (i2n 0)))) ((x.2.1,x.2.2) :: ([]:List (Int × Int)))) (lsub x.1 (i2n j1) (nsub (i2n (n2i (zAW x.1))) (i2n j1))))
noncomputable def c45:Con:=⟨45,[.sl (.agg (.pr (.int .i64) (.int .i64))),.int .i64,.int .i64],[],.sl (.agg (.pr (.int .i64) (.int .i64))),[],F45,none⟩
theorem ok45:zAo Try.prog c45:=zBe zDB [] (zBd) c45 Try.f45 (.n .o (.n .o (.n (.jb ⟨[0,1,2],[(7,.int .i64)],[],0,0⟩ (.l ⟨[0,1,2],[(7,.int .i64)],[],0,1⟩ .o)) .o))) Try.func45 (by kernel_rfl) (by kernel_rfl) (by kernel_rfl) rfl (fun x=>by kernel_rfl) (fun x=>⟨by kernel_rfl,by kernel_rfl⟩)
noncomputable def F47 (x:(List Int)):(Option Int) :=
some (n2i (zAW x))
noncomputable def c47:Con:=⟨47,[.sl (.int .i64)],[],.int .i64,[],F47,none⟩
theorem ok47:zAo Try.prog c47:=zBe zDB [] (zBd) c47 Try.f47 (.o) Try.func47 (by kernel_rfl) (by kernel_rfl) (by kernel_rfl) rfl (fun x=>by kernel_rfl) (fun x=>⟨by kernel_rfl,by kernel_rfl⟩)
noncomputable def F51 (x:((Int × Int) × (Int × Int))):(Option Int) :=
some (zDG .i64 x.1.1 x.2.1)
noncomputable def c51:Con:=⟨51,[.agg (.pr (.int .i64) (.int .i64)),.agg (.pr (.int .i64) (.int .i64))],[],.int .i64,[],F51,none⟩
theorem ok51:zAo Try.prog c51:=zBe zDB [] (zBd) c51 Try.f51 (.o) Try.func51 (by kernel_rfl) (by kernel_rfl) (by kernel_rfl) rfl (fun x=>by kernel_rfl) (fun x=>⟨by kernel_rfl,by kernel_rfl⟩)
noncomputable def F52 (x:((List (Int × Int)) × Int)):(Option Int) :=
join (iter (fun (s0:Int) =>
sel (ilt s0 (n2i (zAW x.1))) (need (inL s0 (zAW x.1)) <|
sel (ieq ((zAq (0,0) x.1 (i2n s0)).1) x.2) (need (inL s0 (zAW x.1)) <|
some (.inr (.inr ((zAq (0,0) x.1 (i2n s0)).2)))) <|
some (.inl (zAi .i64 s0 1))) <|
some (.inr (.inl ()))) 0) fun (j1:PUnit) =>
some 0
noncomputable def F53 (x:((List (Int × Int)) × Int)):(Option (List (Int × Int))) :=
join (iter (fun (s0:(Int × (List (Int × Int)))) =>
sel (ilt s0.1 (n2i (zAW x.1))) (join (need (inL s0.1 (zAW x.1)) <|
need (ine 2 0) <|
sel (ine (iquo .i64 ((zAq (0,0) x.1 (i2n s0.1)).1) 2) x.2) (need (inL s0.1 (zAW x.1)) <|
need (room (zDN (zAW s0.2) (zAW (zAq (0,0) x.1 (i2n s0.1) :: ([]:List (Int × Int))))) 16) <|
some (.inl (zDQ s0.2 (zAq (0,0) x.1 (i2n s0.1) :: ([]:List (Int × Int)))))) <|
some (.inl s0.2)) fun (j1:(List (Int × Int))) =>
some (.inl (zAi .i64 s0.1 1,j1))) <|
some (.inr (.inl s0.2))) (0,([]:List (Int × Int)))) fun (j2:(List (Int × Int))) =>
some j2
noncomputable def F55 (x:(Int × Int)):(Option Int) :=
join (iter (fun (s0:Int) =>
need (ile 0 x.1) <|
sel (ilt s0 (zCz .i64 1 x.1)) (some (.inl (zAi .i64 (zBx .i64 2 s0) 1))) <|
some (.inr (.inl s0))) x.2) fun (j1:Int) =>
need (ile 0 x.1) <|
some (zDG .i64 j1 (zCz .i64 1 x.1))
noncomputable def F56 (x:(Int × Int)):(Option Int) :=
join (iter (fun (s0:Int) =>
need (ile 0 x.1) <|
sel (ilt s0 (zCz .i64 1 x.1)) (some (.inl (zBx .i64 2 s0))) <|
some (.inr (.inl s0))) x.2) fun (j1:Int) =>
need (ile 0 x.1) <|
some (zDG .i64 j1 (zCz .i64 1 x.1))
noncomputable def F68 (x:(Int × Int)):(Option Int) :=
join (iter (fun (s0:(Int × Int)) =>
sel (ilt 0 s0.2) (need (ine s0.2 0) <|
some (.inl (s0.2,irem s0.1 s0.2))) <|
some (.inr (.inl s0.1))) (x.1,x.2)) fun (j1:Int) =>
some j1
noncomputable def F69 (x:Int):(Option Int) :=
sel (ilt x 0) (some (ineg .i64 x)) <|
some x
noncomputable def F72 (x:Int):(Option Int) :=
sel (ilt x 0) (some (zAi .u64 (zAR .u64 (ineg .i64 (zAi .i64 x 1))) 1)) <|
some (zAR .u64 x)
noncomputable def F81 (x:(Int × Int)):(Option Int) :=
join (iter (fun (s0:(Int × Int)) =>
sel (ine s0.2 0) (need (ine s0.2 0) <|
some (.inl (s0.2,irem s0.1 s0.2))) <|
some (.inr (.inl s0.1))) (x.1,x.2)) fun (j1:Int) =>
some j1
noncomputable def c81:Con:=⟨81,[.int .u64,.int .u64],[],.int .u64,[],F81,none⟩
theorem ok81:zAo Try.prog c81:=zBe zDB [] (zBd) c81 Try.f81 (.n .o (.n (.jb ⟨[],[(0,.int .u64)],[],0,0⟩ (.l ⟨[],[(0,.int .u64),(1,.int .u64)],[],0,1⟩ (.n .o (.b (.r [0,1,2,3,4,5]))))) .o)) Try.func81 (by kernel_rfl) (by kernel_rfl) (by kernel_rfl) rfl (fun x=>by kernel_rfl) (fun x=>⟨by kernel_rfl,by kernel_rfl⟩)
noncomputable def F82 (x:Int):(Option Int) :=
sel (ilt x 0) (some (ineg .u64 (zAR .u64 x))) <|
some (zAR .u64 x)
noncomputable def c82:Con:=⟨82,[.int .i64],[],.int .u64,[],F82,none⟩
theorem ok82:zAo Try.prog c82:=zBe zDB [] (zBd) c82 Try.f82 (.o) Try.func82 (by kernel_rfl) (by kernel_rfl) (by kernel_rfl) rfl (fun x=>by kernel_rfl) (fun x=>⟨by kernel_rfl,by kernel_rfl⟩)
noncomputable def F83 (x:(Int × Int)):(Option (Int × Int)) :=
need (ile 0 32) <|
need (ile 0 32) <|
need (ile 0 32) <|
need (ile 0 32) <|
need (ile 0 32) <|
some (zAi .u64 (zAi .u64 (zBx .u64 (ishr .u64 x.1 32) (ishr .u64 x.2 32)) (ishr .u64 (zAi .u64 (zBx .u64 (ishr .u64 x.1 32) (iand .u64 x.2 4294967295)) (ishr .u64 (zBx .u64 (iand .u64 x.1 4294967295) (iand .u64 x.2 4294967295)) 32)) 32)) (ishr .u64 (zAi .u64 (iand .u64 (zAi .u64 (zBx .u64 (ishr .u64 x.1 32) (iand .u64 x.2 4294967295)) (ishr .u64 (zBx .u64 (iand .u64 x.1 4294967295) (iand .u64 x.2 4294967295)) 32)) 4294967295) (zBx .u64 (iand .u64 x.1 4294967295) (ishr .u64 x.2 32))) 32),zBx .u64 x.1 x.2)
noncomputable def c83:Con:=⟨83,[.int .u64,.int .u64],[],.tup (.pr (.int .u64) (.int .u64)),[],F83,none⟩
theorem ok83:zAo Try.prog c83:=zBe zDB [] (zBd) c83 Try.f83 (.o) Try.func83 (by kernel_rfl) (by kernel_rfl) (by kernel_rfl) rfl (fun x=>by kernel_rfl) (fun x=>⟨by kernel_rfl,by kernel_rfl⟩)
noncomputable def F86n (x:Int):(Option (List Int)) :=
join (iter (fun (s0:(Int × (List Int))) =>
sel (ile 128 s0.1) (need (room (zDN (zAW s0.2) (zAW (ior .u8 (zAR .u8 (iand .u64 s0.1 127)) 128 :: ([]:List Int)))) 1) <|
need (ile 0 7) <|
some (.inl (ishr .u64 s0.1 7,zDQ s0.2 (ior .u8 (zAR .u8 (iand .u64 s0.1 127)) 128 :: ([]:List Int))))) <|
some (.inr (.inl (s0.1,s0.2)))) (x,([]:List Int))) fun (j1:(Int × (List Int))) =>
need (room (zDN (zAW j1.2) (zAW (zAR .u8 j1.1 :: ([]:List Int)))) 1) <|
some (zDQ j1.2 (zAR .u8 j1.1 :: ([]:List Int)))
noncomputable def c86n:Con:=⟨86,[.nul 0,.int .u64],[],.own 0,[.lst (.int .u8)],F86n,none⟩
theorem ok86n:zAo Try.prog c86n:=zBe zDB [] (zBd) c86n Try.f86 (.n .o (.n (.jb ⟨[],[(0,.own 0),(1,.int .u64)],[(0,.lst (.int .u8))],1,0⟩ (.l ⟨[],[(0,.own 0),(1,.int .u64)],[(0,.lst (.int .u8))],1,1⟩ .o)) .o)) Try.func86 (by kernel_rfl) (by kernel_rfl) (by kernel_rfl) rfl (fun x=>by kernel_rfl) (fun x=>⟨by kernel_rfl,by kernel_rfl⟩)
noncomputable def F86 (x:(Int × (List Int))):(Option (List Int)) :=
join (iter (fun (s0:(Int × (List Int))) =>
sel (ile 128 s0.1) (need (room (zDN (zAW s0.2) (zAW (ior .u8 (zAR .u8 (iand .u64 s0.1 127)) 128 :: ([]:List Int)))) 1) <|
need (ile 0 7) <|
some (.inl (ishr .u64 s0.1 7,zDQ s0.2 (ior .u8 (zAR .u8 (iand .u64 s0.1 127)) 128 :: ([]:List Int))))) <|
some (.inr (.inl (s0.1,s0.2)))) (x.1,x.2)) fun (j1:(Int × (List Int))) =>
need (room (zDN (zAW j1.2) (zAW (zAR .u8 j1.1 :: ([]:List Int)))) 1) <|
some (zDQ j1.2 (zAR .u8 j1.1 :: ([]:List Int)))
noncomputable def c86:Con:=⟨86,[.own 0,.int .u64],[.lst (.int .u8)],.own 1,[.gone,.lst (.int .u8)],F86,none⟩
theorem ok86:zAo Try.prog c86:=okM_of zDB [] (zBd) c86 Try.f86 (.n .o (.n (.jb ⟨[],[(0,.own 0),(1,.int .u64)],[(0,.lst (.int .u8))],1,0⟩ (.l ⟨[],[(0,.own 0),(1,.int .u64)],[(0,.lst (.int .u8))],1,1⟩ .o)) .o)) Try.func86 (by kernel_rfl) (by kernel_rfl) (by kernel_rfl) rfl (fun y=>by kernel_rfl) (fun x=>by kernel_rfl) (fun x=>⟨by kernel_rfl,by kernel_rfl⟩)
noncomputable def F87 (x:Int):(Option Bool) :=
some (zAJ (ile (-1152921504606846976) x) (ile x 1152921504606846976) false)
noncomputable def c87:Con:=⟨87,[.int .i64],[],.bool,[],F87,none⟩
theorem ok87:zAo Try.prog c87:=zBe zDB [] (zBd) c87 Try.f87 (.o) Try.func87 (by kernel_rfl) (by kernel_rfl) (by kernel_rfl) rfl (fun x=>by kernel_rfl) (fun x=>⟨by kernel_rfl,by kernel_rfl⟩)
noncomputable def F88 (x:Int):(Option Int) :=
sel (ile 0 x) (some (zBx .u64 2 (zAR .u64 x))) <|
some (zDG .u64 (zBx .u64 2 (zAR .u64 (ineg .i64 x))) 1)
noncomputable def c88:Con:=⟨88,[.int .i64],[],.int .u64,[],F88,none⟩
theorem ok88:zAo Try.prog c88:=zBe zDB [] (zBd) c88 Try.f88 (.o) Try.func88 (by kernel_rfl) (by kernel_rfl) (by kernel_rfl) rfl (fun x=>by kernel_rfl) (fun x=>⟨by kernel_rfl,by kernel_rfl⟩)
noncomputable def F93 (x:Int):(Option ByteArray) :=
join (iter (fun (s0:(Int × (List Int))) =>
sel (ile 128 s0.1) (need (ine 128 0) <|
need (room (zDN (zAW s0.2) (zAW (zAR .u8 (zAi .i64 (irem s0.1 128) 128) :: ([]:List Int)))) 1) <|
need (ine 128 0) <|
some (.inl (iquo .i64 s0.1 128,zDQ s0.2 (zAR .u8 (zAi .i64 (irem s0.1 128) 128) :: ([]:List Int))))) <|
some (.inr (.inl (s0.1,s0.2)))) (x,([]:List Int))) fun (j1:(Int × (List Int))) =>
need (room (zDN (zAW j1.2) (zAW (zAR .u8 j1.1 :: ([]:List Int)))) 1) <|
some (sofb (zDQ j1.2 (zAR .u8 j1.1 :: ([]:List Int))))
noncomputable def c93:Con:=⟨93,[.int .i64],[],.str,[],F93,none⟩
theorem ok93:zAo Try.prog c93:=zBe zDB [] (zBd) c93 Try.f93 (.n .o (.n .o (.n (.jb ⟨[],[(0,.int .i64),(3,.own 0)],[(0,.many (.int .u8))],1,0⟩ (.l ⟨[],[(0,.int .i64),(3,.own 0)],[(0,.many (.int .u8))],1,1⟩ .o)) .o))) Try.func93 (by kernel_rfl) (by kernel_rfl) (by kernel_rfl) rfl (fun x=>by kernel_rfl) (fun x=>⟨by kernel_rfl,by kernel_rfl⟩)
noncomputable def F104 (x:Int):(Option Int) :=
join (sel (ile 65536 x) (need (ile 0 16) <|
some (.inl (ishr .u32 x 16,16))) <|
some (.inl (x,0))) fun (j0:(Int × Int)) =>
join (sel (ile 256 j0.1) (need (ile 0 8) <|
some (.inl (ishr .u32 j0.1 8,zAi .i64 j0.2 8))) <|
some (.inl (j0.1,j0.2))) fun (j1:(Int × Int)) =>
need (inL (zAR .u8 j1.1) (zBr (⟨#[0,1,2,2,3,3,3,3,4,4,4,4,4,4,4,4,5,5,5,5,5,5,5,5,5,5,5,5,5,5,5,5,6,6,6,6,6,6,6,6,6,6,6,6,6,6,6,6,6,6,6,6,6,6,6,6,6,6,6,6,6,6,6,6,7,7,7,7,7,7,7,7,7,7,7,7,7,7,7,7,7,7,7,7,7,7,7,7,7,7,7,7,7,7,7,7,7,7,7,7,7,7,7,7,7,7,7,7,7,7,7,7,7,7,7,7,7,7,7,7,7,7,7,7,7,7,7,7,8,8,8,8,8,8,8,8,8,8,8,8,8,8,8,8,8,8,8,8,8,8,8,8,8,8,8,8,8,8,8,8,8,8,8,8,8,8,8,8,8,8,8,8,8,8,8,8,8,8,8,8,8,8,8,8,8,8,8,8,8,8,8,8,8,8,8,8,8,8,8,8,8,8,8,8,8,8,8,8,8,8,8,8,8,8,8,8,8,8,8,8,8,8,8,8,8,8,8,8,8,8,8,8,8,8,8,8,8,8,8,8,8,8,8,8,8,8,8,8,8,8,8,8,8,8,8,8]⟩:ByteArray))) <|
some (zAi .i64 j1.2 (zAR .i64 (sget (⟨#[0,1,2,2,3,3,3,3,4,4,4,4,4,4,4,4,5,5,5,5,5,5,5,5,5,5,5,5,5,5,5,5,6,6,6,6,6,6,6,6,6,6,6,6,6,6,6,6,6,6,6,6,6,6,6,6,6,6,6,6,6,6,6,6,7,7,7,7,7,7,7,7,7,7,7,7,7,7,7,7,7,7,7,7,7,7,7,7,7,7,7,7,7,7,7,7,7,7,7,7,7,7,7,7,7,7,7,7,7,7,7,7,7,7,7,7,7,7,7,7,7,7,7,7,7,7,7,7,8,8,8,8,8,8,8,8,8,8,8,8,8,8,8,8,8,8,8,8,8,8,8,8,8,8,8,8,8,8,8,8,8,8,8,8,8,8,8,8,8,8,8,8,8,8,8,8,8,8,8,8,8,8,8,8,8,8,8,8,8,8,8,8,8,8,8,8,8,8,8,8,8,8,8,8,8,8,8,8,8,8,8,8,8,8,8,8,8,8,8,8,8,8,8,8,8,8,8,8,8,8,8,8,8,8,8,8,8,8,8,8,8,8,8,8,8,8,8,8,8,8,8,8,8,8,8,8]⟩:ByteArray) (zAR .u8 j1.1))))
noncomputable def c104:Con:=⟨104,[.int .u32],[],.int .i64,[],F104,none⟩
theorem ok104:zAo Try.prog c104:=zBe zDB [] (zBd) c104 Try.f104 (.n .o (.j ⟨[],[(0,.int .u32),(2,.int .i64)],[],0,0⟩ .o (.j ⟨[],[(0,.int .u32),(2,.int .i64)],[],0,1⟩ .o .o))) Try.func104 (by kernel_rfl) (by kernel_rfl) (by kernel_rfl) rfl (fun x=>by kernel_rfl) (fun x=>⟨by kernel_rfl,by kernel_rfl⟩)
noncomputable def F105 (x:Int):(Option Int) :=
join (sel (ile 4294967296 x) (need (ile 0 32) <|
some (.inl (ishr .u64 x 32,32))) <|
some (.inl (x,0))) fun (j0:(Int × Int)) =>
join (sel (ile 65536 j0.1) (need (ile 0 16) <|
some (.inl (ishr .u64 j0.1 16,zAi .i64 j0.2 16))) <|
some (.inl (j0.1,j0.2))) fun (j1:(Int × Int)) =>
join (sel (ile 256 j1.1) (need (ile 0 8) <|
some (.inl (ishr .u64 j1.1 8,zAi .i64 j1.2 8))) <|
some (.inl (j1.1,j1.2))) fun (j2:(Int × Int)) =>
need (inL (zAR .u8 j2.1) (zBr (⟨#[0,1,2,2,3,3,3,3,4,4,4,4,4,4,4,4,5,5,5,5,5,5,5,5,5,5,5,5,5,5,5,5,6,6,6,6,6,6,6,6,6,6,6,6,6,6,6,6,6,6,6,6,6,6,6,6,6,6,6,6,6,6,6,6,7,7,7,7,7,7,7,7,7,7,7,7,7,7,7,7,7,7,7,7,7,7,7,7,7,7,7,7,7,7,7,7,7,7,7,7,7,7,7,7,7,7,7,7,7,7,7,7,7,7,7,7,7,7,7,7,7,7,7,7,7,7,7,7,8,8,8,8,8,8,8,8,8,8,8,8,8,8,8,8,8,8,8,8,8,8,8,8,8,8,8,8,8,8,8,8,8,8,8,8,8,8,8,8,8,8,8,8,8,8,8,8,8,8,8,8,8,8,8,8,8,8,8,8,8,8,8,8,8,8,8,8,8,8,8,8,8,8,8,8,8,8,8,8,8,8,8,8,8,8,8,8,8,8,8,8,8,8,8,8,8,8,8,8,8,8,8,8,8,8,8,8,8,8,8,8,8,8,8,8,8,8,8,8,8,8,8,8,8,8,8,8]⟩:ByteArray))) <|
some (zAi .i64 j2.2 (zAR .i64 (sget (⟨#[0,1,2,2,3,3,3,3,4,4,4,4,4,4,4,4,5,5,5,5,5,5,5,5,5,5,5,5,5,5,5,5,6,6,6,6,6,6,6,6,6,6,6,6,6,6,6,6,6,6,6,6,6,6,6,6,6,6,6,6,6,6,6,6,7,7,7,7,7,7,7,7,7,7,7,7,7,7,7,7,7,7,7,7,7,7,7,7,7,7,7,7,7,7,7,7,7,7,7,7,7,7,7,7,7,7,7,7,7,7,7,7,7,7,7,7,7,7,7,7,7,7,7,7,7,7,7,7,8,8,8,8,8,8,8,8,8,8,8,8,8,8,8,8,8,8,8,8,8,8,8,8,8,8,8,8,8,8,8,8,8,8,8,8,8,8,8,8,8,8,8,8,8,8,8,8,8,8,8,8,8,8,8,8,8,8,8,8,8,8,8,8,8,8,8,8,8,8,8,8,8,8,8,8,8,8,8,8,8,8,8,8,8,8,8,8,8,8,8,8,8,8,8,8,8,8,8,8,8,8,8,8,8,8,8,8,8,8,8,8,8,8,8,8,8,8,8,8,8,8,8,8,8,8,8,8]⟩:ByteArray) (zAR .u8 j2.1))))
noncomputable def c105:Con:=⟨105,[.int .u64],[],.int .i64,[],F105,none⟩
theorem ok105:zAo Try.prog c105:=zBe zDB [] (zBd) c105 Try.f105 (.n .o (.j ⟨[],[(0,.int .u64),(2,.int .i64)],[],0,0⟩ .o (.j ⟨[],[(0,.int .u64),(2,.int .i64)],[],0,1⟩ .o (.j ⟨[],[(0,.int .u64),(2,.int .i64)],[],0,2⟩ .o .o)))) Try.func105 (by kernel_rfl) (by kernel_rfl) (by kernel_rfl) rfl (fun x=>by kernel_rfl) (fun x=>⟨by kernel_rfl,by kernel_rfl⟩)
noncomputable def F106 (x:((Int × (Int × Int)) × (Int × (Int × Int)))):(Option Bool) :=
some (zAJ (ilt x.1.2.1 x.2.2.1) true (zAJ (ieq x.1.2.1 x.2.2.1) (ilt x.1.2.2 x.2.2.2) false))
noncomputable def F111 (x:Int):(Option Int) :=
need (ine 2 0) <|
sel (ieq (irem x 2) 0) (need (ine 2 0) <|
some (zAR .i64 (iquo .u64 x 2))) <|
need (ine 2 0) <|
some (zDG .i64 (ineg .i64 (zAR .i64 (iquo .u64 x 2))) 1)
noncomputable def c111:Con:=⟨111,[.int .u64],[],.int .i64,[],F111,none⟩
theorem ok111:zAo Try.prog c111:=zBe zDB [] (zBd) c111 Try.f111 (.o) Try.func111 (by kernel_rfl) (by kernel_rfl) (by kernel_rfl) rfl (fun x=>by kernel_rfl) (fun x=>⟨by kernel_rfl,by kernel_rfl⟩)
noncomputable def F112 (x:ByteArray):(Option (Int × (Int × Int))) :=
iter (fun (s0:(Int × Int)) =>
sel (ile (n2i (zBr x)) s0.2) (some (.inr (0,0,11))) <|
need (inL s0.2 (zBr x)) <|
sel (zAJ (ieq s0.2 8) (ile 128 (zAR .i64 (sget x s0.2))) false) (some (.inr (0,0,12))) <|
need (ine 128 0) <|
need (ile 0 (zBx .i64 7 s0.2)) <|
sel (ile 128 (zAR .i64 (sget x s0.2))) (some (.inl (zAi .i64 s0.1 (zCz .i64 (irem (zAR .i64 (sget x s0.2)) 128) (zBx .i64 7 s0.2)),zAi .i64 s0.2 1))) <|
sel (zAJ (zAJ (ilt 0 s0.2) (ieq (zAR .i64 (sget x s0.2)) 0) false) true (ilt 2305843009213693952 (zAi .i64 s0.1 (zCz .i64 (irem (zAR .i64 (sget x s0.2)) 128) (zBx .i64 7 s0.2))))) (some (.inr (0,0,12))) <|
some (.inr (zAi .i64 s0.1 (zCz .i64 (irem (zAR .i64 (sget x s0.2)) 128) (zBx .i64 7 s0.2)),zAi .i64 s0.2 1,0))) (0,0)
noncomputable def c112:Con:=⟨112,[.str],[],.tup (.pr (.int .i64) (.pr (.int .i64) (.int .i64))),[],F112,none⟩
theorem ok112:zAo Try.prog c112:=zBe zDB [] (zBd) c112 Try.f112 (.n .o (.n .o (.n .o (.b (.l ⟨[0],[(5,.int .i64),(6,.int .i64)],[],0,0⟩ .o))))) Try.func112 (by kernel_rfl) (by kernel_rfl) (by kernel_rfl) rfl (fun x=>by kernel_rfl) (fun x=>⟨by kernel_rfl,by kernel_rfl⟩)
noncomputable def F17 (x:((Int × (Int × (Int × (List (Int × Int))))) × (Int × Int))):(Option ((Int × (Int × (Int × (List (Int × Int))))) × Int)) :=
call (F21 x.1) fun (r0:Int) =>
sel (ine r0 0) (some ((0,0,0,([]:List (Int × Int))),1)) <|
need (impl (zDa (ilt x.2.1 0)) (ile 0 x.1.1)) <|
sel (zAJ (zAJ (ilt x.2.1 0) true (ile (zCz .i64 1 x.1.1) x.2.1)) true (ilt x.2.2 1)) (some ((0,0,0,([]:List (Int × Int))),2)) <|
sel (ilt 1099511627776 x.2.2) (some ((0,0,0,([]:List (Int × Int))),4)) <|
need (ile 0 x.1.1) <|
call (F45 (x.1.2.2.2,zAi .i64 (zCz .i64 1 x.1.1) x.2.1,x.2.2)) fun (r1:(List (Int × Int))) =>
call (F44 (x.1.1,x.1.2.1,zAi .i64 x.1.2.2.1 x.2.2,r1)) fun (r2:((Int × (Int × (Int × (List (Int × Int))))) × Int)) =>
some (r2.1,r2.2)
noncomputable def F19 (x:(Int × (Int × (Int × (List (Int × Int)))))):(Option ((Int × (Int × (Int × (List (Int × Int))))) × Int)) :=
call (F21 x) fun (r0:Int) =>
sel (ine r0 0) (some ((0,0,0,([]:List (Int × Int))),1)) <|
need (room (zDN (zAW ([]:List (Int × Int))) (zAW x.2.2.2)) 16) <|
join (iter (fun (s1:((List (Int × Int)) × Int)) =>
sel (ile 0 s1.2) (join (need (inL s1.2 (zAW s1.1)) <|
need (ine 2 0) <|
call (F52 (s1.1,zBx .i64 2 (iquo .i64 ((zAq (0,0) s1.1 (i2n s1.2)).1) 2))) fun (r2:Int) =>
call (F52 (s1.1,zAi .i64 (zBx .i64 2 (iquo .i64 ((zAq (0,0) s1.1 (i2n s1.2)).1) 2)) 1)) fun (r3:Int) =>
need (impl (zDa (ieq (iquo .i64 ((zAq (0,0) s1.1 (i2n s1.2)).1) 2) 0)) (ine x.2.1 0)) <|
call (sel (zDa (ieq (iquo .i64 ((zAq (0,0) s1.1 (i2n s1.2)).1) 2) 0)) (F52 (s1.1,iquo .i64 ((zAq (0,0) s1.1 (i2n s1.2)).1) 2)) <|
some 0) fun (r4:Int) =>
sel (zAJ (ieq (iquo .i64 ((zAq (0,0) s1.1 (i2n s1.2)).1) 2) 0) true (ilt (iquo .i64 x.2.2.1 x.2.1) (zAi .i64 (zAi .i64 r2 r3) r4))) (some (.inl (s1.1,zDG .i64 s1.2 1))) <|
call (F53 (s1.1,iquo .i64 ((zAq (0,0) s1.1 (i2n s1.2)).1) 2)) fun (r5:(List (Int × Int))) =>
call (F45 (r5,iquo .i64 ((zAq (0,0) s1.1 (i2n s1.2)).1) 2,zAi .i64 r2 r3)) fun (r6:(List (Int × Int))) =>
some (.inl (r6,zDG .i64 (n2i (zAW r6)) 1))) fun (j7:((List (Int × Int)) × Int)) =>
some (.inl (j7.1,j7.2))) <|
some (.inr (.inl s1.1))) (zDQ ([]:List (Int × Int)) x.2.2.2,zDG .i64 (n2i (zAW (zDQ ([]:List (Int × Int)) x.2.2.2))) 1)) fun (j8:(List (Int × Int))) =>
some ((x.1,x.2.1,x.2.2.1,j8),0)
noncomputable def F23 (x:((Int × (Int × (Int × (List (Int × Int))))) × Int)):(Option (Int × (Int × Int))) :=
call (F21 x.1) fun (r0:Int) =>
sel (ine r0 0) (some (0,0,1)) <|
need (impl (zDa (ilt x.2 0)) (ile 0 x.1.1)) <|
sel (zAJ (ilt x.2 0) true (ile (zCz .i64 1 x.1.1) x.2)) (some (0,0,2)) <|
join (iter (fun (s1:(Int × (Int × Int))) =>
sel (ilt s1.2.2 (n2i (zAW x.1.2.2.2))) (join (need (inL s1.2.2 (zAW x.1.2.2.2)) <|
join (call (F55 (x.1.1,(zAq (0,0) x.1.2.2.2 (i2n s1.2.2)).1)) fun (r2:Int) =>
sel (ile r2 x.2) (some (.inl (zAi .i64 s1.1 ((zAq (0,0) x.1.2.2.2 (i2n s1.2.2)).2)))) <|
some (.inl s1.1)) fun (j3:Int) =>
call (F56 (x.1.1,(zAq (0,0) x.1.2.2.2 (i2n s1.2.2)).1)) fun (r4:Int) =>
sel (ile r4 x.2) (some (.inl (j3,zAi .i64 s1.2.1 ((zAq (0,0) x.1.2.2.2 (i2n s1.2.2)).2)))) <|
some (.inl (j3,s1.2.1))) fun (j5:(Int × Int)) =>
some (.inl (j5.1,j5.2,zAi .i64 s1.2.2 1))) <|
some (.inr (.inl (s1.1,s1.2.1)))) (0,0,0)) fun (j6:(Int × Int)) =>
some (j6.1,j6.2,0)
noncomputable def F29 (x:((Int × (Int × (Int × (List (Int × Int))))) × (Int × (Int × (Int × (List (Int × Int))))))):(Option ((Int × (Int × (Int × (List (Int × Int))))) × Int)) :=
call (F20 x.1) fun (r0:Int) =>
call (sel (zDa (ine r0 0)) (F20 x.2) <|
some 0) fun (r1:Int) =>
sel (zAJ (ine r0 0) true (ine r1 0)) (some ((0,0,0,([]:List (Int × Int))),1)) <|
sel (zAJ (ine x.1.1 x.2.1) true (ine x.1.2.1 x.2.2.1)) (some ((0,0,0,([]:List (Int × Int))),10)) <|
sel (ilt (zDG .i64 1099511627776 x.2.2.2.1) x.1.2.2.1) (some ((0,0,0,([]:List (Int × Int))),4)) <|
need (mk 0 (zAi .i64 (n2i (zAW x.1.2.2.2)) (n2i (zAW x.2.2.2.2))) 16) <|
join (iter (fun (s2:(Int × (Int × (List (Int × Int))))) =>
sel (zAJ (ilt s2.1 (n2i (zAW x.1.2.2.2))) true (ilt s2.2.1 (n2i (zAW x.2.2.2.2)))) (join (join (need (impl (band (zDa (ieq s2.2.1 (n2i (zAW x.2.2.2.2)))) (ilt s2.1 (n2i (zAW x.1.2.2.2)))) (inL s2.1 (zAW x.1.2.2.2))) <|
need (impl (band (zDa (ieq s2.2.1 (n2i (zAW x.2.2.2.2)))) (ilt s2.1 (n2i (zAW x.1.2.2.2)))) (inL s2.2.1 (zAW x.2.2.2.2))) <|
sel (zAJ (ieq s2.2.1 (n2i (zAW x.2.2.2.2))) true (zAJ (ilt s2.1 (n2i (zAW x.1.2.2.2))) (ilt ((zAq (0,0) x.1.2.2.2 (i2n s2.1)).1) ((zAq (0,0) x.2.2.2.2 (i2n s2.2.1)).1)) false)) (need (inL s2.1 (zAW x.1.2.2.2)) <|
need (room (zDN (zAW s2.2.2) (zAW (zAq (0,0) x.1.2.2.2 (i2n s2.1) :: ([]:List (Int × Int))))) 16) <|
some (.inl (zAi .i64 s2.1 1,s2.2.1,zDQ s2.2.2 (zAq (0,0) x.1.2.2.2 (i2n s2.1) :: ([]:List (Int × Int)))))) <|
need (impl (zDa (ieq s2.1 (n2i (zAW x.1.2.2.2)))) (inL s2.2.1 (zAW x.2.2.2.2))) <|
need (impl (zDa (ieq s2.1 (n2i (zAW x.1.2.2.2)))) (inL s2.1 (zAW x.1.2.2.2))) <|
sel (zAJ (ieq s2.1 (n2i (zAW x.1.2.2.2))) true (ilt ((zAq (0,0) x.2.2.2.2 (i2n s2.2.1)).1) ((zAq (0,0) x.1.2.2.2 (i2n s2.1)).1))) (need (inL s2.2.1 (zAW x.2.2.2.2)) <|
need (room (zDN (zAW s2.2.2) (zAW (zAq (0,0) x.2.2.2.2 (i2n s2.2.1) :: ([]:List (Int × Int))))) 16) <|
some (.inl (s2.1,zAi .i64 s2.2.1 1,zDQ s2.2.2 (zAq (0,0) x.2.2.2.2 (i2n s2.2.1) :: ([]:List (Int × Int)))))) <|
need (inL s2.1 (zAW x.1.2.2.2)) <|
need (inL s2.1 (zAW x.1.2.2.2)) <|
need (inL s2.2.1 (zAW x.2.2.2.2)) <|
need (room (zDN (zAW s2.2.2) (zAW (((zAq (0,0) x.1.2.2.2 (i2n s2.1)).1,zAi .i64 ((zAq (0,0) x.1.2.2.2 (i2n s2.1)).2) ((zAq (0,0) x.2.2.2.2 (i2n s2.2.1)).2)) :: ([]:List (Int × Int))))) 16) <|
some (.inl (zAi .i64 s2.1 1,zAi .i64 s2.2.1 1,zDQ s2.2.2 (((zAq (0,0) x.1.2.2.2 (i2n s2.1)).1,zAi .i64 ((zAq (0,0) x.1.2.2.2 (i2n s2.1)).2) ((zAq (0,0) x.2.2.2.2 (i2n s2.2.1)).2)) :: ([]:List (Int × Int)))))) fun (j3:(Int × (Int × (List (Int × Int))))) =>
some (.inl (j3.1,j3.2.1,j3.2.2))) fun (j4:(Int × (Int × (List (Int × Int))))) =>
some (.inl (j4.1,j4.2.1,j4.2.2))) <|
some (.inr (.inl s2.2.2))) (0,0,lrep 0 (0,0))) fun (j5:(List (Int × Int))) =>
sel (ilt 2000 (n2i (zAW j5))) (some ((0,0,0,([]:List (Int × Int))),4)) <|
some ((x.1.1,x.1.2.1,zAi .i64 x.1.2.2.1 x.2.2.2.1,j5),0)
noncomputable def c29:Con:=⟨29,[.agg (.pr (.int .i64) (.pr (.int .i64) (.pr (.int .i64) (.sl (.agg (.pr (.int .i64) (.int .i64))))))),.agg (.pr (.int .i64) (.pr (.int .i64) (.pr (.int .i64) (.sl (.agg (.pr (.int .i64) (.int .i64)))))))],[],.tup (.pr (.agg (.pr (.int .i64) (.pr (.int .i64) (.pr (.int .i64) (.sl (.agg (.pr (.int .i64) (.int .i64)))))))) (.int .i64)),[],F29,none⟩
theorem ok29:zAo Try.prog c29:=zBe zDB [c20] (zAQ ok20 (zBd)) c29 Try.f29 (.n .o (.n .o (.n .o (.n .o (.n .o (.n .o (.n (.jb ⟨[2,3,4],[(6,.own 3)],[(3,.many (.agg (.pr (.int .i64) (.int .i64))))],4,0⟩ (.l ⟨[2,3,4],[(6,.own 3),(7,.int .i64),(8,.int .i64)],[(3,.many (.agg (.pr (.int .i64) (.int .i64))))],4,1⟩ (.n .o (.jb ⟨[2,3,4],[(6,.own 3),(7,.int .i64),(8,.int .i64)],[(3,.many (.agg (.pr (.int .i64) (.int .i64))))],4,2⟩ (.jb ⟨[2,3,4],[(6,.own 3),(7,.int .i64),(8,.int .i64)],[(3,.many (.agg (.pr (.int .i64) (.int .i64))))],4,3⟩ (.n (.r [0,1,2,3,4,5,6,7,8,9,10,11,12,13,14,15,16,17,18,19,20,21,22,23,24,25,26,27]) (.n .o (.n (.r [0,1,2,3,4,5,6,7,8,9,10,11,12,13,14,15,16,17,18,19,20]) (.n .o (.n (.r [0,1,2,3,4,5,6,7,8,9,10,11,12,13,14,15,16,17,18,19,20,21,22,23]) .o)))))))))) .o))))))) Try.func29 (by kernel_rfl) (by kernel_rfl) (by kernel_rfl) rfl (fun x=>by kernel_rfl) (fun x=>⟨by kernel_rfl,by kernel_rfl⟩)
noncomputable def F32 (x:((Int × (Int × (Int × (List (Int × Int))))) × (Int × (Int × (Int × (List (Int × Int))))))):(Option ((Int × (Int × (Int × (List (Int × Int))))) × Int)) :=
call (F21 x.1) fun (r0:Int) =>
call (sel (zDa (ine r0 0)) (F21 x.2) <|
some 0) fun (r1:Int) =>
sel (zAJ (ine r0 0) true (ine r1 0)) (some ((0,0,0,([]:List (Int × Int))),1)) <|
sel (zAJ (ine x.1.1 x.2.1) true (ine x.1.2.1 x.2.2.1)) (some ((0,0,0,([]:List (Int × Int))),10)) <|
need (room (zDN (zAW ([]:List (Int × Int))) (zAW x.1.2.2.2)) 16) <|
join (iter (fun (s2:((List (Int × Int)) × Int)) =>
sel (ilt s2.2 (n2i (zAW x.2.2.2.2))) (need (inL s2.2 (zAW x.2.2.2.2)) <|
need (inL s2.2 (zAW x.2.2.2.2)) <|
call (F45 (s2.1,(zAq (0,0) x.2.2.2.2 (i2n s2.2)).1,(zAq (0,0) x.2.2.2.2 (i2n s2.2)).2)) fun (r3:(List (Int × Int))) =>
some (.inl (r3,zAi .i64 s2.2 1))) <|
some (.inr (.inl s2.1))) (zDQ ([]:List (Int × Int)) x.1.2.2.2,0)) fun (j4:(List (Int × Int))) =>
call (F44 (x.1.1,x.1.2.1,zAi .i64 x.1.2.2.1 x.2.2.2.1,j4)) fun (r5:((Int × (Int × (Int × (List (Int × Int))))) × Int)) =>
some (r5.1,r5.2)
noncomputable def c32:Con:=⟨32,[.agg (.pr (.int .i64) (.pr (.int .i64) (.pr (.int .i64) (.sl (.agg (.pr (.int .i64) (.int .i64))))))),.agg (.pr (.int .i64) (.pr (.int .i64) (.pr (.int .i64) (.sl (.agg (.pr (.int .i64) (.int .i64)))))))],[],.tup (.pr (.agg (.pr (.int .i64) (.pr (.int .i64) (.pr (.int .i64) (.sl (.agg (.pr (.int .i64) (.int .i64)))))))) (.int .i64)),[],F32,none⟩
theorem ok32:zAo Try.prog c32:=zBe zDB [c21,c45,c44] (zAQ ok21 (zAQ ok45 (zAQ ok44 (zBd)))) c32 Try.f32 (.n .o (.n .o (.n .o (.n .o (.n (.n .o (.jb ⟨[2,3,4],[(6,.sl (.agg (.pr (.int .i64) (.int .i64))))],[],3,0⟩ (.l ⟨[2,3,4],[(6,.sl (.agg (.pr (.int .i64) (.int .i64)))),(7,.int .i64)],[(3,.gone),(4,.gone)],5,1⟩ (.n .o (.n (.b (.r [0,1,2,3,4,5,6,7,8,9,10,11,12,13,14])) .o))))) .o))))) Try.func32 (by kernel_rfl) (by kernel_rfl) (by kernel_rfl) rfl (fun x=>by kernel_rfl) (fun x=>⟨by kernel_rfl,by kernel_rfl⟩)
noncomputable def F35 (x:(Int × Int)):(Option Int) :=
call (sel (zDa (zAJ (zAJ (zAJ (ilt x.2 1) true (ilt 1152921504606846976 x.2)) true (ilt x.1 (-1152921504606846976))) true (ilt 1152921504606846976 x.1))) (F69 x.1) <|
some 0) fun (r0:Int) =>
call (sel (zDa (zAJ (zAJ (zAJ (ilt x.2 1) true (ilt 1152921504606846976 x.2)) true (ilt x.1 (-1152921504606846976))) true (ilt 1152921504606846976 x.1))) (F68 (r0,x.2)) <|
some 0) fun (r1:Int) =>
sel (zAJ (zAJ (zAJ (zAJ (ilt x.2 1) true (ilt 1152921504606846976 x.2)) true (ilt x.1 (-1152921504606846976))) true (ilt 1152921504606846976 x.1)) true (ine r1 1)) (some 1) <|
some 0
noncomputable def F37 (x:(Int × Int)):(Option ((Int × Int) × Int)) :=
sel (ieq x.2 0) (some ((0,0),26)) <|
call (F72 x.1) fun (r0:Int) =>
call (F72 x.2) fun (r1:Int) =>
join (iter (fun (s2:(Int × Int)) =>
sel (ilt 0 s2.2) (need (ine s2.2 0) <|
some (.inl (s2.2,irem s2.1 s2.2))) <|
some (.inr (.inl s2.1))) (r0,r1)) fun (j3:Int) =>
need (ine j3 0) <|
need (ine j3 0) <|
sel (zAJ (ilt 1152921504606846976 (iquo .u64 r0 j3)) true (ilt 1152921504606846976 (iquo .u64 r1 j3))) (some ((0,0),14)) <|
sel (zDa (beq (ilt x.1 0) (ilt x.2 0))) (some ((ineg .i64 (zAR .i64 (iquo .u64 r0 j3)),zAR .i64 (iquo .u64 r1 j3)),0)) <|
some ((zAR .i64 (iquo .u64 r0 j3),zAR .i64 (iquo .u64 r1 j3)),0)
noncomputable def F57 (x:(Int × Int)):(Option Int) :=
sel (zAJ (ilt x.2 1) true (ilt 1152921504606846976 x.2)) (some 1) <|
sel (zAJ (ilt x.1 (-1152921504606846976)) true (ilt 1152921504606846976 x.1)) (some 1) <|
call (F82 x.1) fun (r0:Int) =>
call (F81 (r0,zAR .u64 x.2)) fun (r1:Int) =>
sel (ine r1 1) (some 1) <|
some 0
noncomputable def c57:Con:=⟨57,[.agg (.pr (.int .i64) (.int .i64))],[],.int .i64,[],F57,none⟩
theorem ok57:zAo Try.prog c57:=zBe zDB [c82,c81] (zAQ ok82 (zAQ ok81 (zBd))) c57 Try.f57 (.n .o (.n (.b (.n .o (.n .o (.n .o (.n .o (.n (.r [0,1,3,4,5,2,6,7,8]) .o)))))) .o)) Try.func57 (by kernel_rfl) (by kernel_rfl) (by kernel_rfl) rfl (fun x=>by kernel_rfl) (fun x=>⟨by kernel_rfl,by kernel_rfl⟩)
noncomputable def F64 (x:(List Int)):(Option (ByteArray × Int)) :=
sel (ilt 20000 (n2i (zAW x))) (some ((⟨#[]⟩:ByteArray),4)) <|
call (F86n (zAR .u64 (n2i (zAW x)))) fun (r0:(List Int)) =>
join (iter (fun (s1:(Int × (List Int))) =>
sel (ilt s1.1 (n2i (zAW x))) (need (inL s1.1 (zAW x)) <|
call (F87 (zAq 0 x (i2n s1.1))) fun (r2:Bool) =>
sel (zDa r2) (some (.inr (.inr ((⟨#[]⟩:ByteArray),2)))) <|
call (F88 (zAq 0 x (i2n s1.1))) fun (r3:Int) =>
call (F86 (r3,s1.2)) fun (r4:(List Int)) =>
some (.inl (zAi .i64 s1.1 1,r4))) <|
some (.inr (.inl s1.2))) (0,r0)) fun (j5:(List Int)) =>
some (sofb j5,0)
noncomputable def c64:Con:=⟨64,[.sl (.int .i64)],[],.tup (.pr .str (.int .i64)),[],F64,none⟩
theorem ok64:zAo Try.prog c64:=zBe zDB [c86n,c86,c87,c88] (zAQ ok86n (zAQ ok86 (zAQ ok87 (zAQ ok88 (zBd))))) c64 Try.f64 (.n .o (.n .o (.n .o (.n (.n .o (.jb ⟨[],[(4,.own 0)],[(0,.lst (.int .u8))],1,0⟩ (.l ⟨[14,15],[(4,.own 0),(16,.int .i64)],[(0,.lst (.int .u8))],1,1⟩ .o))) .o)))) Try.func64 (by kernel_rfl) (by kernel_rfl) (by kernel_rfl) rfl (fun x=>by kernel_rfl) (fun x=>⟨by kernel_rfl,by kernel_rfl⟩)
noncomputable def F71 (x:Int):(Option Int) :=
sel false (call (F104 (zAR .u32 x)) fun (r0:Int) =>
some r0) <|
call (F105 x) fun (r1:Int) =>
some r1
noncomputable def c71:Con:=⟨71,[.int .u64],[],.int .i64,[],F71,none⟩
theorem ok71:zAo Try.prog c71:=zBe zDB [c104,c105] (zAQ ok104 (zAQ ok105 (zBd))) c71 Try.f71 (.o) Try.func71 (by kernel_rfl) (by kernel_rfl) (by kernel_rfl) rfl (fun x=>by kernel_rfl) (fun x=>⟨by kernel_rfl,by kernel_rfl⟩)
noncomputable def F73 (x:((Int × (Int × Int)) × (Int × (Int × Int)))):(Option (Int × (Int × Int))) :=
sel (ieq x.1.1 0) (some x.2) <|
sel (ieq x.2.1 0) (some x.1) <|
sel (ieq x.1.1 x.2.1) (need (ine 1152921504606846976 0) <|
need (ine 1152921504606846976 0) <|
some (x.1.1,zAi .i64 (zAi .i64 x.1.2.1 x.2.2.1) (iquo .i64 (zAi .i64 x.1.2.2 x.2.2.2) 1152921504606846976),irem (zAi .i64 x.1.2.2 x.2.2.2) 1152921504606846976)) <|
join (call (F106 (x.1,x.2)) fun (r0:Bool) =>
sel r0 (some (.inl (x.2,x.1))) <|
some (.inl (x.1,x.2))) fun (j1:((Int × (Int × Int)) × (Int × (Int × Int)))) =>
join (sel (ilt (zDG .i64 j1.1.2.2 j1.2.2.2) 0) (some (.inl (zDG .i64 (zDG .i64 j1.1.2.1 j1.2.2.1) 1,zAi .i64 (zDG .i64 j1.1.2.2 j1.2.2.2) 1152921504606846976))) <|
some (.inl (zDG .i64 j1.1.2.1 j1.2.2.1,zDG .i64 j1.1.2.2 j1.2.2.2))) fun (j2:(Int × Int)) =>
sel (zAJ (ieq j2.1 0) (ieq j2.2 0) false) (some (0,0,0)) <|
some (j1.1.1,j2.1,j2.2)
noncomputable def F74 (x:(Int × Int)):(Option (Int × (Int × Int))) :=
sel (zAJ (ieq x.1 0) true (ieq x.2 0)) (some (0,0,0)) <|
join (sel (zDa (beq (ilt x.1 0) (ilt x.2 0))) (some (.inl (-1))) <|
some (.inl 1)) fun (j0:Int) =>
call (F69 x.1) fun (r1:Int) =>
call (F69 x.2) fun (r2:Int) =>
need (ine 1073741824 0) <|
need (ine 1073741824 0) <|
need (ine 1073741824 0) <|
need (ine 1073741824 0) <|
need (ine 1073741824 0) <|
need (ine 1073741824 0) <|
need (ine 1152921504606846976 0) <|
need (ine 1152921504606846976 0) <|
some (j0,zAi .i64 (zAi .i64 (zBx .i64 (iquo .i64 r1 1073741824) (iquo .i64 r2 1073741824)) (iquo .i64 (zAi .i64 (zBx .i64 (iquo .i64 r1 1073741824) (irem r2 1073741824)) (zBx .i64 (irem r1 1073741824) (iquo .i64 r2 1073741824))) 1073741824)) (iquo .i64 (zAi .i64 (zBx .i64 (irem r1 1073741824) (irem r2 1073741824)) (zBx .i64 (irem (zAi .i64 (zBx .i64 (iquo .i64 r1 1073741824) (irem r2 1073741824)) (zBx .i64 (irem r1 1073741824) (iquo .i64 r2 1073741824))) 1073741824) 1073741824)) 1152921504606846976),irem (zAi .i64 (zBx .i64 (irem r1 1073741824) (irem r2 1073741824)) (zBx .i64 (irem (zAi .i64 (zBx .i64 (iquo .i64 r1 1073741824) (irem r2 1073741824)) (zBx .i64 (irem r1 1073741824) (iquo .i64 r2 1073741824))) 1073741824) 1073741824)) 1152921504606846976)
noncomputable def F91 (x:ByteArray):(Option (Int × (Int × Int))) :=
call (F112 x) fun (r0:(Int × (Int × Int))) =>
sel (zAJ (ieq r0.2.2 0) (ilt 1152921504606846976 r0.1) false) (some (0,0,12)) <|
some (r0.1,r0.2.1,r0.2.2)
noncomputable def c91:Con:=⟨91,[.str],[],.tup (.pr (.int .i64) (.pr (.int .i64) (.int .i64))),[],F91,none⟩
theorem ok91:zAo Try.prog c91:=zBe zDB [c112] (zAQ ok112 (zBd)) c91 Try.f91 (.o) Try.func91 (by kernel_rfl) (by kernel_rfl) (by kernel_rfl) rfl (fun x=>by kernel_rfl) (fun x=>⟨by kernel_rfl,by kernel_rfl⟩)
noncomputable def F92 (x:ByteArray):(Option (Int × (Int × Int))) :=
call (F112 x) fun (r0:(Int × (Int × Int))) =>
sel (ine r0.2.2 0) (some (0,0,r0.2.2)) <|
need (ine 2 0) <|
sel (ieq (irem r0.1 2) 1) (need (ine 2 0) <|
some (zDG .i64 (ineg .i64 (iquo .i64 r0.1 2)) 1,r0.2.1,0)) <|
need (ine 2 0) <|
some (iquo .i64 r0.1 2,r0.2.1,0)
noncomputable def c92:Con:=⟨92,[.str],[],.tup (.pr (.int .i64) (.pr (.int .i64) (.int .i64))),[],F92,none⟩
theorem ok92:zAo Try.prog c92:=zBe zDB [c112] (zAQ ok112 (zBd)) c92 Try.f92 (.o) Try.func92 (by kernel_rfl) (by kernel_rfl) (by kernel_rfl) rfl (fun x=>by kernel_rfl) (fun x=>⟨by kernel_rfl,by kernel_rfl⟩)
noncomputable def F94 (x:(ByteArray × Int)):(Option (ByteArray × Int)) :=
sel (zAJ (ilt x.2 (-1152921504606846976)) true (ilt 1152921504606846976 x.2)) (some ((⟨#[]⟩:ByteArray),2)) <|
sel (ilt x.2 0) (call (F93 (zDG .i64 (zBx .i64 (-2) x.2) 1)) fun (r0:ByteArray) =>
need (sroom x.1 r0) <|
some (scat x.1 r0,0)) <|
call (F93 (zBx .i64 2 x.2)) fun (r1:ByteArray) =>
need (sroom x.1 r1) <|
some (scat x.1 r1,0)
noncomputable def c94:Con:=⟨94,[.str,.int .i64],[],.tup (.pr .str (.int .i64)),[],F94,none⟩
theorem ok94:zAo Try.prog c94:=zBe zDB [c93] (zAQ ok93 (zBd)) c94 Try.f94 (.o) Try.func94 (by kernel_rfl) (by kernel_rfl) (by kernel_rfl) rfl (fun x=>by kernel_rfl) (fun x=>⟨by kernel_rfl,by kernel_rfl⟩)
noncomputable def F109 (x:Int):(Option Int) :=
call (F105 x) fun (r0:Int) =>
some (zDG .i64 64 r0)
noncomputable def c109:Con:=⟨109,[.int .u64],[],.int .i64,[],F109,none⟩
theorem ok109:zAo Try.prog c109:=zBe zDB [c105] (zAQ ok105 (zBd)) c109 Try.f109 (.o) Try.func109 (by kernel_rfl) (by kernel_rfl) (by kernel_rfl) rfl (fun x=>by kernel_rfl) (fun x=>⟨by kernel_rfl,by kernel_rfl⟩)
noncomputable def F30 (x:(Int × (Int × (Int × (List (Int × Int)))))):(Option (ByteArray × Int)) :=
call (F20 x) fun (r0:Int) =>
sel (ine r0 0) (some ((⟨#[]⟩:ByteArray),1)) <|
need (mk 0 (zAi .i64 2 (zBx .i64 2 (n2i (zAW x.2.2.2)))) 8) <|
need (room (zDN (zAW (lrep 0 0)) (zAW (x.1 :: (x.2.1 :: ([]:List Int))))) 8) <|
join (iter (fun (s1:(Int × (List Int))) =>
sel (ilt s1.1 (n2i (zAW x.2.2.2))) (need (inL s1.1 (zAW x.2.2.2)) <|
need (room (zDN (zAW s1.2) (zAW ((zAq (0,0) x.2.2.2 (i2n s1.1)).1 :: ((zAq (0,0) x.2.2.2 (i2n s1.1)).2 :: ([]:List Int))))) 8) <|
some (.inl (zAi .i64 s1.1 1,zDQ s1.2 ((zAq (0,0) x.2.2.2 (i2n s1.1)).1 :: ((zAq (0,0) x.2.2.2 (i2n s1.1)).2 :: ([]:List Int)))))) <|
some (.inr (.inl s1.2))) (0,zDQ (lrep 0 0) (x.1 :: (x.2.1 :: ([]:List Int))))) fun (j2:(List Int)) =>
call (F64 j2) fun (r3:(ByteArray × Int)) =>
sel (ine r3.2 0) (some ((⟨#[]⟩:ByteArray),1)) <|
some (r3.1,0)
noncomputable def c30:Con:=⟨30,[.agg (.pr (.int .i64) (.pr (.int .i64) (.pr (.int .i64) (.sl (.agg (.pr (.int .i64) (.int .i64)))))))],[],.tup (.pr .str (.int .i64)),[],F30,none⟩
theorem ok30:zAo Try.prog c30:=zBe zDB [c20,c64] (zAQ ok20 (zAQ ok64 (zBd))) c30 Try.f30 (.n .o (.n .o (.n .o (.n .o (.n (.n .o (.jb ⟨[],[(4,.own 1)],[(1,.many (.int .i64))],2,0⟩ (.l ⟨[26,27],[(4,.own 3),(28,.int .i64)],[(1,.gone),(3,.many (.int .i64))],4,1⟩ .o))) .o))))) Try.func30 (by kernel_rfl) (by kernel_rfl) (by kernel_rfl) rfl (fun x=>by kernel_rfl) (fun x=>⟨by kernel_rfl,by kernel_rfl⟩)
noncomputable def F38 (x:((Int × Int) × (Int × Int))):(Option Int) :=
call (F35 x.1) fun (r0:Int) =>
call (sel (zDa (ine r0 0)) (F35 x.2) <|
some 0) fun (r1:Int) =>
sel (zAJ (ine r0 0) true (ine r1 0)) (some 0) <|
call (F74 (x.1.1,x.2.2)) fun (r2:(Int × (Int × Int))) =>
call (F74 (ineg .i64 x.2.1,x.1.2)) fun (r3:(Int × (Int × Int))) =>
call (F73 (r2,r3)) fun (r4:(Int × (Int × Int))) =>
some r4.1
noncomputable def F54 (x:(Int × Int)):(Option (Int × Int)) :=
call (F71 (zAR .u64 x.2)) fun (r0:Int) =>
need (ile 0 (zDG .i64 (zAi .i64 x.1 1) r0)) <|
need (ile 0 x.1) <|
need (ile 0 (zDG .i64 (zAi .i64 x.1 1) r0)) <|
need (ile 0 x.1) <|
some (zDG .i64 (zCz .i64 x.2 (zDG .i64 (zAi .i64 x.1 1) r0)) (zCz .i64 1 x.1),zDG .i64 (zDG .i64 (zCz .i64 (zAi .i64 x.2 1) (zDG .i64 (zAi .i64 x.1 1) r0)) (zCz .i64 1 x.1)) 1)
noncomputable def c54:Con:=⟨54,[.int .i64,.int .i64],[],.tup (.pr (.int .i64) (.int .i64)),[],F54,none⟩
theorem ok54:zAo Try.prog c54:=zBe zDB [c71] (zAQ ok71 (zBd)) c54 Try.f54 (.n .o (.n .o (.n (.r [0,1,2,3,4,5,6,7,8,9,10,11,12,13,14,15]) .o))) Try.func54 (by kernel_rfl) (by kernel_rfl) (by kernel_rfl) rfl (fun x=>by kernel_rfl) (fun x=>⟨by kernel_rfl,by kernel_rfl⟩)
noncomputable def F66 (x:ByteArray):(Option ((List Int) × Int)) :=
call (F91 x) fun (r0:(Int × (Int × Int))) =>
sel (ine r0.2.2 0) (some (([]:List Int),r0.2.2)) <|
sel (ilt 20000 r0.1) (some (([]:List Int),4)) <|
need (inS r0.2.1 (n2i (zBr x)) (zBr x)) <|
join (iter (fun (s1:(ByteArray × (Int × (List Int)))) =>
sel (ilt s1.2.1 r0.1) (call (F92 s1.1) fun (r2:(Int × (Int × Int))) =>
sel (ine r2.2.2 0) (some (.inr (.inr (([]:List Int),r2.2.2)))) <|
need (room (zDN (zAW s1.2.2) (zAW (r2.1 :: ([]:List Int)))) 8) <|
need (inS r2.2.1 (n2i (zBr s1.1)) (zBr s1.1)) <|
some (.inl (ssub s1.1 r2.2.1 (n2i (zBr s1.1)),zAi .i64 s1.2.1 1,zDQ s1.2.2 (r2.1 :: ([]:List Int))))) <|
some (.inr (.inl (s1.1,s1.2.2)))) (ssub x r0.2.1 (n2i (zBr x)),0,([]:List Int))) fun (j3:(ByteArray × (List Int))) =>
sel (ilt 0 (n2i (zBr j3.1))) (some (([]:List Int),12)) <|
some (j3.2,0)
noncomputable def c66:Con:=⟨66,[.str],[],.tup (.pr (.sl (.int .i64)) (.int .i64)),[],F66,none⟩
theorem ok66:zAo Try.prog c66:=zBe zDB [c91,c92] (zAQ ok91 (zAQ ok92 (zBd))) c66 Try.f66 (.n .o (.n .o (.n .o (.n .o (.n .o (.n .o (.n (.n .o (.jb ⟨[],[(0,.str),(7,.own 0)],[(0,.many (.int .i64))],1,0⟩ (.l ⟨[4],[(0,.str),(7,.own 0),(8,.int .i64)],[(0,.many (.int .i64))],1,1⟩ .o))) .o))))))) Try.func66 (by kernel_rfl) (by kernel_rfl) (by kernel_rfl) rfl (fun x=>by kernel_rfl) (fun x=>⟨by kernel_rfl,by kernel_rfl⟩)
noncomputable def F67 (x:(List Int)):(Option (ByteArray × Int)) :=
sel (ilt 20000 (n2i (zAW x))) (some ((⟨#[]⟩:ByteArray),4)) <|
call (F93 (n2i (zAW x))) fun (r0:ByteArray) =>
join (iter (fun (s1:(ByteArray × Int)) =>
sel (ilt s1.2 (n2i (zAW x))) (need (inL s1.2 (zAW x)) <|
call (F94 (s1.1,zAq 0 x (i2n s1.2))) fun (r2:(ByteArray × Int)) =>
sel (ine r2.2 0) (some (.inr (.inr ((⟨#[]⟩:ByteArray),r2.2)))) <|
some (.inl (r2.1,zAi .i64 s1.2 1))) <|
some (.inr (.inl s1.1))) (r0,0)) fun (j3:ByteArray) =>
some (j3,0)
noncomputable def c67:Con:=⟨67,[.sl (.int .i64)],[],.tup (.pr .str (.int .i64)),[],F67,none⟩
theorem ok67:zAo Try.prog c67:=zBe zDB [c93,c94] (zAQ ok93 (zAQ ok94 (zBd))) c67 Try.f67 (.n .o (.n .o (.n .o (.n (.n .o (.jb ⟨[],[(4,.str)],[],0,0⟩ (.l ⟨[0],[(4,.str),(5,.int .i64)],[],0,1⟩ .o))) .o)))) Try.func67 (by kernel_rfl) (by kernel_rfl) (by kernel_rfl) rfl (fun x=>by kernel_rfl) (fun x=>⟨by kernel_rfl,by kernel_rfl⟩)
noncomputable def F84 (x:(Int × (Int × Int))):(Option (Int × Int)) :=
join (sel (ieq x.2.2 0) (none) <|
some (.inl ())) fun (j0:PUnit) =>
join (sel (ile x.2.2 x.1) (none) <|
some (.inl ())) fun (j1:PUnit) =>
sel (ieq x.1 0) (need (ine x.2.2 0) <|
need (ine x.2.2 0) <|
some (iquo .u64 x.2.1 x.2.2,irem x.2.1 x.2.2)) <|
call (F109 x.2.2) fun (r2:Int) =>
need (ile 0 (zAR .u64 r2)) <|
need (ile 0 32) <|
need (ile 0 (zAR .u64 r2)) <|
need (ile 0 (zDG .u64 64 (zAR .u64 r2))) <|
need (ile 0 (zAR .u64 r2)) <|
need (ile 0 32) <|
need (ine (ishr .u64 (zCz .u64 x.2.2 (zAR .u64 r2)) 32) 0) <|
join (iter (fun (s3:(Int × Int)) =>
sel (zAJ (ile 4294967296 s3.1) true (ilt (zAi .u64 (zBx .u64 4294967296 s3.2) (ishr .u64 (zCz .u64 x.2.1 (zAR .u64 r2)) 32)) (zBx .u64 s3.1 (iand .u64 (zCz .u64 x.2.2 (zAR .u64 r2)) 4294967295)))) (sel (ile 4294967296 (zAi .u64 s3.2 (ishr .u64 (zCz .u64 x.2.2 (zAR .u64 r2)) 32))) (some (.inr (.inl (zDG .u64 s3.1 1)))) <|
some (.inl (zDG .u64 s3.1 1,zAi .u64 s3.2 (ishr .u64 (zCz .u64 x.2.2 (zAR .u64 r2)) 32)))) <|
some (.inr (.inl s3.1))) (iquo .u64 (ior .u64 (zCz .u64 x.1 (zAR .u64 r2)) (ishr .u64 x.2.1 (zDG .u64 64 (zAR .u64 r2)))) (ishr .u64 (zCz .u64 x.2.2 (zAR .u64 r2)) 32),zDG .u64 (ior .u64 (zCz .u64 x.1 (zAR .u64 r2)) (ishr .u64 x.2.1 (zDG .u64 64 (zAR .u64 r2)))) (zBx .u64 (iquo .u64 (ior .u64 (zCz .u64 x.1 (zAR .u64 r2)) (ishr .u64 x.2.1 (zDG .u64 64 (zAR .u64 r2)))) (ishr .u64 (zCz .u64 x.2.2 (zAR .u64 r2)) 32)) (ishr .u64 (zCz .u64 x.2.2 (zAR .u64 r2)) 32)))) fun (j4:Int) =>
need (ine (ishr .u64 (zCz .u64 x.2.2 (zAR .u64 r2)) 32) 0) <|
join (iter (fun (s5:(Int × Int)) =>
sel (zAJ (ile 4294967296 s5.2) true (ilt (zAi .u64 (zBx .u64 4294967296 s5.1) (iand .u64 (zCz .u64 x.2.1 (zAR .u64 r2)) 4294967295)) (zBx .u64 s5.2 (iand .u64 (zCz .u64 x.2.2 (zAR .u64 r2)) 4294967295)))) (sel (ile 4294967296 (zAi .u64 s5.1 (ishr .u64 (zCz .u64 x.2.2 (zAR .u64 r2)) 32))) (some (.inr (.inl (zDG .u64 s5.2 1)))) <|
some (.inl (zAi .u64 s5.1 (ishr .u64 (zCz .u64 x.2.2 (zAR .u64 r2)) 32),zDG .u64 s5.2 1))) <|
some (.inr (.inl s5.2))) (zDG .u64 (zDG .u64 (zAi .u64 (zBx .u64 (ior .u64 (zCz .u64 x.1 (zAR .u64 r2)) (ishr .u64 x.2.1 (zDG .u64 64 (zAR .u64 r2)))) 4294967296) (ishr .u64 (zCz .u64 x.2.1 (zAR .u64 r2)) 32)) (zBx .u64 j4 (zCz .u64 x.2.2 (zAR .u64 r2)))) (zBx .u64 (iquo .u64 (zDG .u64 (zAi .u64 (zBx .u64 (ior .u64 (zCz .u64 x.1 (zAR .u64 r2)) (ishr .u64 x.2.1 (zDG .u64 64 (zAR .u64 r2)))) 4294967296) (ishr .u64 (zCz .u64 x.2.1 (zAR .u64 r2)) 32)) (zBx .u64 j4 (zCz .u64 x.2.2 (zAR .u64 r2)))) (ishr .u64 (zCz .u64 x.2.2 (zAR .u64 r2)) 32)) (ishr .u64 (zCz .u64 x.2.2 (zAR .u64 r2)) 32)),iquo .u64 (zDG .u64 (zAi .u64 (zBx .u64 (ior .u64 (zCz .u64 x.1 (zAR .u64 r2)) (ishr .u64 x.2.1 (zDG .u64 64 (zAR .u64 r2)))) 4294967296) (ishr .u64 (zCz .u64 x.2.1 (zAR .u64 r2)) 32)) (zBx .u64 j4 (zCz .u64 x.2.2 (zAR .u64 r2)))) (ishr .u64 (zCz .u64 x.2.2 (zAR .u64 r2)) 32))) fun (j6:Int) =>
need (ile 0 (zAR .u64 r2)) <|
some (zAi .u64 (zBx .u64 j4 4294967296) j6,ishr .u64 (zDG .u64 (zAi .u64 (zBx .u64 (zDG .u64 (zAi .u64 (zBx .u64 (ior .u64 (zCz .u64 x.1 (zAR .u64 r2)) (ishr .u64 x.2.1 (zDG .u64 64 (zAR .u64 r2)))) 4294967296) (ishr .u64 (zCz .u64 x.2.1 (zAR .u64 r2)) 32)) (zBx .u64 j4 (zCz .u64 x.2.2 (zAR .u64 r2)))) 4294967296) (iand .u64 (zCz .u64 x.2.1 (zAR .u64 r2)) 4294967295)) (zBx .u64 j6 (zCz .u64 x.2.2 (zAR .u64 r2)))) (zAR .u64 r2))
noncomputable def c84:Con:=⟨84,[.int .u64,.int .u64,.int .u64],[],.tup (.pr (.int .u64) (.int .u64)),[],F84,none⟩
theorem ok84:zAo Try.prog c84:=zBe zDB [c109] (zAQ ok109 (zBd)) c84 Try.f84 (.n .o (.j ⟨[0,1,2],[],[],0,0⟩ .o (.j ⟨[0,1,2],[],[],0,1⟩ .o (.n (.n .o (.n (.n (.r [0,1,2,3,4,5,6,7]) .o) .o)) (.n .o (.n .o (.n .o (.n .o (.n .o (.n .o (.n .o (.n .o (.n .o (.n .o (.n (.jb ⟨[2,8,9,10,11,13,14],[(15,.int .u64)],[],0,2⟩ (.l ⟨[2,8,9,10,11,13,14],[(15,.int .u64),(16,.int .u64)],[],0,3⟩ .o)) (.n .o (.n .o (.n .o (.n (.jb ⟨[2,8,14,15,17],[(18,.int .u64)],[],0,4⟩ (.l ⟨[2,8,9,10,14,15,17],[(16,.int .u64),(18,.int .u64)],[],0,5⟩ .o)) .o))))))))))))))))))) Try.func84 (by kernel_rfl) (by kernel_rfl) (by kernel_rfl) rfl (fun x=>by kernel_rfl) (fun x=>⟨by kernel_rfl,by kernel_rfl⟩)
noncomputable def F22 (x:((Int × (Int × (Int × (List (Int × Int))))) × Int)):(Option (Int × (Int × Int))) :=
call (F20 x.1) fun (r0:Int) =>
sel (ine r0 0) (some (0,0,1)) <|
need (impl (zDa (ilt x.2 0)) (ile 0 x.1.1)) <|
sel (zAJ (ilt x.2 0) true (ile (zCz .i64 1 x.1.1) x.2)) (some (0,0,2)) <|
join (iter (fun (s1:(Int × (Int × Int))) =>
sel (ilt s1.2.2 (n2i (zAW x.1.2.2.2))) (join (need (inL s1.2.2 (zAW x.1.2.2.2)) <|
call (F54 (x.1.1,(zAq (0,0) x.1.2.2.2 (i2n s1.2.2)).1)) fun (r2:(Int × Int)) =>
join (sel (ile r2.2 x.2) (some (.inl (zAi .i64 s1.1 ((zAq (0,0) x.1.2.2.2 (i2n s1.2.2)).2)))) <|
some (.inl s1.1)) fun (j3:Int) =>
sel (ile r2.1 x.2) (some (.inl (j3,zAi .i64 s1.2.1 ((zAq (0,0) x.1.2.2.2 (i2n s1.2.2)).2)))) <|
some (.inl (j3,s1.2.1))) fun (j4:(Int × Int)) =>
some (.inl (j4.1,j4.2,zAi .i64 s1.2.2 1))) <|
some (.inr (.inl (s1.1,s1.2.1)))) (0,0,0)) fun (j5:(Int × Int)) =>
some (j5.1,j5.2,0)
noncomputable def c22:Con:=⟨22,[.agg (.pr (.int .i64) (.pr (.int .i64) (.pr (.int .i64) (.sl (.agg (.pr (.int .i64) (.int .i64))))))),.int .i64],[],.tup (.pr (.int .i64) (.pr (.int .i64) (.int .i64))),[],F22,none⟩
theorem ok22:zAo Try.prog c22:=zBe zDB [c20,c54] (zAQ ok20 (zAQ ok54 (zBd))) c22 Try.f22 (.n .o (.n .o (.n .o (.n .o (.n (.n .o (.jb ⟨[],[(7,.int .i64),(8,.int .i64)],[],0,0⟩ (.l ⟨[1,2,26,27],[(7,.int .i64),(8,.int .i64),(28,.int .i64)],[],1,1⟩ (.n .o (.n .o (.n (.jb ⟨[1,2,26,27,28],[(7,.int .i64),(8,.int .i64)],[],1,2⟩ (.n .o (.n .o (.j ⟨[1,2,8,10,11,26,27,28],[(7,.int .i64)],[],2,3⟩ .o .o)))) .o)))))) .o))))) Try.func22 (by kernel_rfl) (by kernel_rfl) (by kernel_rfl) rfl (fun x=>by kernel_rfl) (fun x=>⟨by kernel_rfl,by kernel_rfl⟩)
noncomputable def F33 (x:ByteArray):(Option ((Int × (Int × (Int × (List (Int × Int))))) × Int)) :=
call (F66 x) fun (r0:((List Int) × Int)) =>
need (impl (zDa (zAJ (ine r0.2 0) true (ilt (n2i (zAW r0.1)) 2))) (ine 2 0)) <|
sel (zAJ (zAJ (ine r0.2 0) true (ilt (n2i (zAW r0.1)) 2)) true (ieq (irem (n2i (zAW r0.1)) 2) 1)) (some ((0,0,0,([]:List (Int × Int))),12)) <|
need (inL 0 (zAW r0.1)) <|
need (inL 1 (zAW r0.1)) <|
join (iter (fun (s1:(Int × ((Int × (Int × (Int × PUnit))) × (List (Int × Int))))) =>
sel (ilt s1.1 (n2i (zAW r0.1))) (need (inL (zAi .i64 s1.1 1) (zAW r0.1)) <|
need (impl (zDa (ilt (zAq 0 r0.1 (i2n (zAi .i64 s1.1 1))) 1)) (inL (zAi .i64 s1.1 1) (zAW r0.1))) <|
sel (zAJ (zAJ (ilt (zAq 0 r0.1 (i2n (zAi .i64 s1.1 1))) 1) true (ilt 1099511627776 (zAq 0 r0.1 (i2n (zAi .i64 s1.1 1))))) true (ilt 1099511627776 s1.2.1.2.2.1)) (some (.inr (.inr ((0,0,0,([]:List (Int × Int))),12)))) <|
need (inL s1.1 (zAW r0.1)) <|
need (inL (zAi .i64 s1.1 1) (zAW r0.1)) <|
need (room (zDN (zAW s1.2.2) (zAW ((zAq 0 r0.1 (i2n s1.1),zAq 0 r0.1 (i2n (zAi .i64 s1.1 1))) :: ([]:List (Int × Int))))) 16) <|
need (inL (zAi .i64 s1.1 1) (zAW r0.1)) <|
some (.inl (zAi .i64 s1.1 2,(s1.2.1.1,s1.2.1.2.1,zAi .i64 s1.2.1.2.2.1 (zAq 0 r0.1 (i2n (zAi .i64 s1.1 1))),()),zDQ s1.2.2 ((zAq 0 r0.1 (i2n s1.1),zAq 0 r0.1 (i2n (zAi .i64 s1.1 1))) :: ([]:List (Int × Int)))))) <|
some (.inr (.inl ((s1.2.1.1,s1.2.1.2.1,s1.2.1.2.2.1,()),s1.2.2)))) (2,(zAq 0 r0.1 (i2n 0),zAq 0 r0.1 (i2n 1),0,()),([]:List (Int × Int)))) fun (j2:((Int × (Int × (Int × PUnit))) × (List (Int × Int)))) =>
call (F21 (j2.1.1,j2.1.2.1,j2.1.2.2.1,j2.2)) fun (r3:Int) =>
sel (ine r3 0) (some ((0,0,0,([]:List (Int × Int))),12)) <|
some ((j2.1.1,j2.1.2.1,j2.1.2.2.1,j2.2),0)
noncomputable def c33:Con:=⟨33,[.str],[],.tup (.pr (.agg (.pr (.int .i64) (.pr (.int .i64) (.pr (.int .i64) (.sl (.agg (.pr (.int .i64) (.int .i64)))))))) (.int .i64)),[],F33,none⟩
theorem ok33:zAo Try.prog c33:=zBe zDB [c66,c21] (zAQ ok66 (zAQ ok21 (zBd))) c33 Try.f33 (.n .o (.n .o (.n .o (.n (.r [0,1,2,3,4,5,6,7,8]) (.n (.n .o (.jb ⟨[2,6],[],[(1,.one (.agg (.pr (.int .i64) (.pr (.int .i64) (.pr (.int .i64) (.own 2)))))),(2,.lst (.agg (.pr (.int .i64) (.int .i64))))],3,0⟩ (.l ⟨[2,4,6],[(7,.int .i64)],[(1,.one (.agg (.pr (.int .i64) (.pr (.int .i64) (.pr (.int .i64) (.own 2)))))),(2,.lst (.agg (.pr (.int .i64) (.int .i64))))],3,1⟩ (.n .o (.n (.b (.n .o (.n (.r [0,1,2,3,4,5,6,7,8,9,10,11,12,13,14,15]) (.r [0,1,2,3,4,5,6,7,8,9])))) .o))))) .o))))) Try.func33 (by kernel_rfl) (by kernel_rfl) (by kernel_rfl) rfl (fun x=>by kernel_rfl) (fun x=>⟨by kernel_rfl,by kernel_rfl⟩)
noncomputable def F34 (x:(Int × (Int × (Int × (List (Int × Int)))))):(Option (ByteArray × Int)) :=
call (F21 x) fun (r0:Int) =>
sel (ine r0 0) (some ((⟨#[]⟩:ByteArray),1)) <|
join (iter (fun (s1:(Int × (List Int))) =>
sel (ilt s1.1 (n2i (zAW x.2.2.2))) (need (inL s1.1 (zAW x.2.2.2)) <|
need (inL s1.1 (zAW x.2.2.2)) <|
need (room (zDN (zAW s1.2) (zAW ((zAq (0,0) x.2.2.2 (i2n s1.1)).1 :: ((zAq (0,0) x.2.2.2 (i2n s1.1)).2 :: ([]:List Int))))) 8) <|
some (.inl (zAi .i64 s1.1 1,zDQ s1.2 ((zAq (0,0) x.2.2.2 (i2n s1.1)).1 :: ((zAq (0,0) x.2.2.2 (i2n s1.1)).2 :: ([]:List Int)))))) <|
some (.inr (.inl s1.2))) (0,(x.1 :: (x.2.1 :: ([]:List Int))))) fun (j2:(List Int)) =>
call (F67 j2) fun (r3:(ByteArray × Int)) =>
some (r3.1,r3.2)
noncomputable def c34:Con:=⟨34,[.agg (.pr (.int .i64) (.pr (.int .i64) (.pr (.int .i64) (.sl (.agg (.pr (.int .i64) (.int .i64)))))))],[],.tup (.pr .str (.int .i64)),[],F34,none⟩
theorem ok34:zAo Try.prog c34:=zBe zDB [c21,c67] (zAQ ok21 (zAQ ok67 (zBd))) c34 Try.f34 (.n .o (.n .o (.n .o (.n (.n .o (.jb ⟨[],[(4,.own 1)],[(1,.many (.int .i64))],2,0⟩ (.l ⟨[1],[(4,.own 1),(5,.int .i64)],[(1,.many (.int .i64))],2,1⟩ (.n .o (.n (.b (.r [0,1,2,3,4,5,6,7,8,9,10,11,12,13,14,15])) .o))))) .o)))) Try.func34 (by kernel_rfl) (by kernel_rfl) (by kernel_rfl) rfl (fun x=>by kernel_rfl) (fun x=>⟨by kernel_rfl,by kernel_rfl⟩)
noncomputable def F58 (x:((Int × Int) × Int)):(Option Int) :=
call (F83 (zAR .u64 x.1.1,zAR .u64 x.2)) fun (r0:(Int × Int)) =>
call (F84 (r0.1,r0.2,zAR .u64 x.1.2)) fun (r1:(Int × Int)) =>
sel (ilt 0 r1.2) (some (imax 1 (zAR .i64 (zAi .u64 r1.1 1)))) <|
some (imax 1 (zAR .i64 r1.1))
noncomputable def c58:Con:=⟨58,[.agg (.pr (.int .i64) (.int .i64)),.int .i64],[],.int .i64,[],F58,none⟩
theorem ok58:zAo Try.prog c58:=zBe zDB [c83,c84] (zAQ ok83 (zAQ ok84 (zBd))) c58 Try.f58 (.o) Try.func58 (by kernel_rfl) (by kernel_rfl) (by kernel_rfl) rfl (fun x=>by kernel_rfl) (fun x=>⟨by kernel_rfl,by kernel_rfl⟩)
noncomputable def F59 (x:((Int × Int) × (Int × (Int × (Int × (List (Int × Int))))))):(Option Int) :=
call (F54 (x.2.1,x.1.1)) fun (r0:(Int × Int)) =>
some r0.1
noncomputable def c59:Con:=⟨59,[.agg (.pr (.int .i64) (.int .i64)),.fp (.agg (.pr (.int .i64) (.pr (.int .i64) (.pr (.int .i64) (.sl (.agg (.pr (.int .i64) (.int .i64)))))))) 0],[],.int .i64,[],F59,none⟩
theorem ok59:zAo Try.prog c59:=zBe zDB [c54] (zAQ ok54 (zBd)) c59 Try.f59 (.o) Try.func59 (by kernel_rfl) (by kernel_rfl) (by kernel_rfl) rfl (fun x=>by kernel_rfl) (fun x=>⟨by kernel_rfl,by kernel_rfl⟩)
noncomputable def F60 (x:((Int × Int) × (Int × (Int × (Int × (List (Int × Int))))))):(Option Int) :=
call (F54 (x.2.1,x.1.1)) fun (r0:(Int × Int)) =>
some r0.2
noncomputable def c60:Con:=⟨60,[.agg (.pr (.int .i64) (.int .i64)),.fp (.agg (.pr (.int .i64) (.pr (.int .i64) (.pr (.int .i64) (.sl (.agg (.pr (.int .i64) (.int .i64)))))))) 0],[],.int .i64,[],F60,none⟩
theorem ok60:zAo Try.prog c60:=zBe zDB [c54] (zAQ ok54 (zBd)) c60 Try.f60 (.o) Try.func60 (by kernel_rfl) (by kernel_rfl) (by kernel_rfl) rfl (fun x=>by kernel_rfl) (fun x=>⟨by kernel_rfl,by kernel_rfl⟩)
noncomputable def F62 (x:((Int × Int) × Int)):(Option Int) :=
join (iter (fun (s0:(Int × Int)) =>
sel (ilt s0.1 s0.2) (join (need (ine 2 0) <|
call (F37 (iquo .i64 (zAi .i64 s0.1 s0.2) 2,x.2)) fun (r1:((Int × Int) × Int)) =>
call (sel (ieq r1.2 0) (F38 (r1.1,x.1)) <|
some 0) fun (r2:Int) =>
sel (zAJ (ieq r1.2 0) (ile 0 r2) false) (some (.inl (s0.1,iquo .i64 (zAi .i64 s0.1 s0.2) 2))) <|
some (.inl (zAi .i64 (iquo .i64 (zAi .i64 s0.1 s0.2) 2) 1,s0.2))) fun (j3:(Int × Int)) =>
some (.inl (j3.1,j3.2))) <|
some (.inr (.inl s0.1))) (0,x.2)) fun (j4:Int) =>
sel (ilt j4 1) (some 1) <|
some j4
noncomputable def F25 (x:((Int × (Int × (Int × (List (Int × Int))))) × (Int × Int))):(Option (Int × (Int × Int))) :=
call (F21 x.1) fun (r0:Int) =>
call (sel (zDa (ine r0 0)) (F35 x.2) <|
some 0) fun (r1:Int) =>
sel (zAJ (ine r0 0) true (ine r1 0)) (some (0,0,1)) <|
sel (zAJ (ilt x.2.1 0) true (ilt x.2.2 x.2.1)) (some (0,0,2)) <|
sel (ieq x.1.2.2.1 0) (some (0,0,28)) <|
call (F62 (x.2,x.1.2.2.1)) fun (r2:Int) =>
need (ile 0 x.1.1) <|
need (ile 0 x.1.1) <|
join (iter (fun (s3:(Int × (Int × Int))) =>
sel (ilt s3.2.2 (n2i (zAW x.1.2.2.2))) (join (need (inL s3.2.2 (zAW x.1.2.2.2)) <|
need (inL s3.2.2 (zAW x.1.2.2.2)) <|
call (F56 (x.1.1,(zAq (0,0) x.1.2.2.2 (i2n s3.2.2)).1)) fun (r4:Int) =>
call (F55 (x.1.1,(zAq (0,0) x.1.2.2.2 (i2n s3.2.2)).1)) fun (r5:Int) =>
call (F23 (x.1,r4)) fun (r6:(Int × (Int × Int))) =>
join (sel (zAJ (ile r2 r6.2.1) (ilt r4 s3.1) false) (some (.inl r4)) <|
some (.inl s3.1)) fun (j7:Int) =>
call (F23 (x.1,r5)) fun (r8:(Int × (Int × Int))) =>
sel (zAJ (ile r2 r8.1) (ilt r5 s3.2.1) false) (some (.inl (j7,r5))) <|
some (.inl (j7,s3.2.1))) fun (j9:(Int × Int)) =>
some (.inl (j9.1,j9.2,zAi .i64 s3.2.2 1))) <|
some (.inr (.inl (s3.1,s3.2.1)))) (zCz .i64 1 x.1.1,zCz .i64 1 x.1.1,0)) fun (j10:(Int × Int)) =>
some (j10.1,j10.2,0)
noncomputable def F85a (x:((Int × Int) × ((Int × Int) × (PUnit × (Int × (Int × (Int × (List (Int × Int))))))))):(Option Int) :=
call (F59 (x.1,x.2.2.2)) fun (r0:Int) =>
call (F59 (x.2.1,x.2.2.2)) fun (r1:Int) =>
some (zDG .i64 r0 r1)
noncomputable def c85a:Con:=⟨85,[.agg (.pr (.int .i64) (.int .i64)),.agg (.pr (.int .i64) (.int .i64)),.fp (.fn 59 .unit (.fp (.agg (.pr (.int .i64) (.pr (.int .i64) (.pr (.int .i64) (.sl (.agg (.pr (.int .i64) (.int .i64)))))))) 0)) 0],[],.int .i64,[],F85a,none⟩
theorem ok85a:zAo Try.prog c85a:=zBe zDB [c59] (zAQ ok59 (zBd)) c85a Try.f85 (.n .o (.n (.r [0,1,3,4,2,5,6,7]) .o)) Try.func85 (by kernel_rfl) (by kernel_rfl) (by kernel_rfl) rfl (fun x=>by kernel_rfl) (fun x=>⟨by kernel_rfl,by kernel_rfl⟩)
noncomputable def F85b (x:((Int × Int) × ((Int × Int) × (PUnit × (Int × (Int × (Int × (List (Int × Int))))))))):(Option Int) :=
call (F60 (x.1,x.2.2.2)) fun (r0:Int) =>
call (F60 (x.2.1,x.2.2.2)) fun (r1:Int) =>
some (zDG .i64 r0 r1)
noncomputable def c85b:Con:=⟨85,[.agg (.pr (.int .i64) (.int .i64)),.agg (.pr (.int .i64) (.int .i64)),.fp (.fn 60 .unit (.fp (.agg (.pr (.int .i64) (.pr (.int .i64) (.pr (.int .i64) (.sl (.agg (.pr (.int .i64) (.int .i64)))))))) 0)) 0],[],.int .i64,[],F85b,none⟩
theorem ok85b:zAo Try.prog c85b:=zBe zDB [c60] (zAQ ok60 (zBd)) c85b Try.f85 (.n .o (.n (.r [0,1,3,4,2,5,6,7]) .o)) Try.func85 (by kernel_rfl) (by kernel_rfl) (by kernel_rfl) rfl (fun x=>by kernel_rfl) (fun x=>⟨by kernel_rfl,by kernel_rfl⟩)
end Go.Q
namespace Go.Q
variable [Go.Ab.DM]
abbrev Nd:=Int × Int
open Go Go.T Go.Pl Go.Proofs Go.Proofs.Qd
theorem ishl_shl (a b:Int):zCz .i64 a b = shl a b:=rfl
theorem iquo_thr (a b:Int):iquo .i64 a b = thr a b:=rfl
theorem zAl {a b:Int} (h1:-9223372036854775808 ≤ a + b) (h2:a + b < 9223372036854775808):zAi .i64 a b = a + b:=zAf h1 h2
def gChk (bits count th:Int) (st:Int × Int) (n:Nd):(Int × Int) ⊕ (Int ⊕ Int) :=
 if n.1 ≤ st.2 ∨ shl 2 bits ≤ n.1 ∨ n.2 < 1 ∨ count < n.2 then .inr (.inr 1)
 else if n.1 < shl 1 bits ∧ th < n.2 then .inr (.inr 1)
 else .inl (st.1 + n.2,n.1)
theorem fold_chk (bits count th:Int):∀ (l:List Nd) (sum before:Int),foldE (gChk bits count th) (fun st=>.inl st.1) l (sum,before) = match chk bits count th l before sum with | some s=>.inl s | none=>.inr 1
 | [],sum,before=>rfl
 | n :: r,sum,before=>by
   rw [foldE,chk,gChk]
   by_cases c1:n.1 ≤ before ∨ shl 2 bits ≤ n.1 ∨ n.2 < 1 ∨ count < n.2
   · rw [if_pos c1,if_pos c1]
   rw [if_neg c1,if_neg c1]
   by_cases c2:n.1 < shl 1 bits ∧ th < n.2
   · rw [if_pos c2,if_pos c2]
   rw [if_neg c2,if_neg c2]
   exact fold_chk bits count th r _ _
theorem isub_one {i:Nat} (h:i < 4611686018427387904) (h0:0 < i):zDG .i64 (i:Int) 1 = ((i - 1:Nat):Int):=by
 rw [show ((i - 1:Nat):Int) = (i:Int) - 1 by omega];exact zAf (by omega) (by omega)
theorem F20_eq (bits k count:Int) (nodes:List Nd):F20 (bits,k,count,nodes) = some (zBC bits k count nodes):=by
 unfold F20 zBC
 simp only [zCY,pick_and,zCb,ile_d,ieq_d,ine_d,n2i_c,zCs,← Bool.decide_or,← Bool.decide_and,zBm,need_i,ishl_shl,iquo_thr]
 have e1:(((bits < 1 ∨ 20 < bits) ∨ k < 1) ∨ 10000 < k) ↔ (bits < 1 ∨ 20 < bits ∨ k < 1 ∨ 10000 < k):=by simp only [or_assoc]
 have e2:((count < 0 ∨ 1099511627776 < count) ∨ (2000:Int) < nodes.length) ↔ (count < 0 ∨ 1099511627776 < count ∨ (2000:Int) < nodes.length):=by simp only [or_assoc]
 simp only [e1,e2]
 split
 · rfl
 split
 · rfl
 rename_i h1 h2
 rw [if_pos (by omega)]
 refine Eq.trans (join_of _ (iter_for nodes (fun st i=>(st.1,st.2,i)) (gChk bits count (thr count k)) (fun st=>.inl st.1) (fun i st=>0 ≤ st.1 ∧ st.1 ≤ i * 1099511627776) (0,0) (by simp) ?_ ?_)) ?_
 · rintro i ⟨a,b⟩ hi hI
   have hlt:(i:Int) < nodes.length:=by omega
   have hin:inL (i:Int) nodes.length = true:=zCa hi
   have hg:zAq (0,0) nodes i = nodes[i]:=lget_t hi
   dsimp only at hI ⊢
   simp only [i2n_c,hg,hin,zAL,hlt,if_true]
   generalize nodes[i] = n
   unfold gChk
   dsimp only
   rw [zAL (zCh fun _=>by simp;omega),if_pos (show 0 ≤ bits by omega)]
   by_cases c1:n.1 ≤ b ∨ shl 2 bits ≤ n.1 ∨ n.2 < 1 ∨ count < n.2
   · rw [if_pos c1,if_pos (by simpa only [or_assoc] using c1)]
     exact ⟨rfl,fun st' h=>by cases h⟩
   rw [if_neg c1,if_neg (fun h=>c1 (by simpa only [or_assoc] using h))]
   by_cases c2:n.1 < shl 1 bits ∧ thr count k < n.2
   · rw [if_pos c2,if_pos c2]
     exact ⟨rfl,fun st' h=>by cases h⟩
   rw [if_neg c2,if_neg c2,zAl (by omega) (by omega),zAl (by omega) (by omega)]
   refine ⟨rfl,fun st' h=>?_⟩
   have:=Sum.inl.inj h;subst this
   dsimp only;omega
 · intro st hI
   simp
 · rw [fold_chk]
   cases chk bits count (thr count k) nodes 0 0 with
   | none=>rfl
   | some s=>simp only [Sum.elim_inl];split <;> rfl
theorem F21_eq (bits k count:Int) (nodes:List Nd):F21 (bits,k,count,nodes) = some (zBC bits k count nodes):=by
 unfold F21 zBC
 simp only [zCY,pick_and,zCb,ile_d,ieq_d,ine_d,n2i_c,zCs,← Bool.decide_or,← Bool.decide_and,zBm,need_i,ishl_shl,iquo_thr]
 by_cases h1:bits < 1 ∨ 20 < bits ∨ k < 1 ∨ 10000 < k
 · rw [if_pos (by omega),if_pos h1]
 rw [if_neg h1]
 by_cases h2:count < 0 ∨ 1099511627776 < count ∨ (2000:Int) < nodes.length
 · rw [if_pos (by omega),if_pos h2]
 rw [if_neg h2,if_neg (by omega)]
 refine Eq.trans (join_of _ (iter_for nodes (fun st i=>(st.1,i)) (gChk bits count (thr count k)) (fun st=>.inl st.1) (fun i st=>(0 ≤ st.1 ∧ st.1 ≤ i * 1099511627776) ∧ (i = 0 → st.2 = 0) ∧ (0 < i → 1 ≤ st.2 ∧ ∀ h:i - 1 < nodes.length,st.2 = (nodes[i - 1]'h).1)) (0,0) (by simp) ?_ ?_)) ?_
 · rintro i ⟨a,b⟩ hi ⟨hI,hb0,hb1⟩
   have hlt:(i:Int) < nodes.length:=by omega
   have hin:inL (i:Int) nodes.length = true:=zCa hi
   have hg:zAq (0,0) nodes i = nodes[i]:=lget_t hi
   dsimp only at hI hb0 hb1 ⊢
   have hprev:0 < i → zDG .i64 (i:Int) 1 = ((i - 1:Nat):Int) ∧ zAq (0,0) nodes (i2n (zDG .i64 (i:Int) 1)) = nodes[i - 1] ∧ b = (nodes[i - 1]).1:=fun h=>by
     have e:=isub_one (i:=i) (by omega) h
     exact ⟨e,by rw [e,i2n_c];exact lget_t _,(hb1 h).2 (by omega)⟩
   simp only [i2n_c,hg,hin,zAL,hlt,if_true]
   generalize hpr:zAq (0,0) nodes (i2n (zDG .i64 (i:Int) 1)) = pr at *
   have hc:∀ n:Nd,(n.1 < 1 ∨ (0 < (i:Int) ∧ n.1 ≤ pr.1)) ↔ n.1 ≤ b:=fun n=>by
     rcases Nat.eq_zero_or_pos i with h | h
     · rw [hb0 h];constructor
       · rintro (h | h) <;> omega
       · intro h;omega
     · obtain ⟨_,h3,h4⟩:=hprev h
       have h5:=(hb1 h).1
       rw [h3,← h4];omega
   have hsb:zDG .i64 (i:Int) 1 = ((i - 1:Nat):Int) ∨ ¬ 0 < (i:Int):=by
     rcases Nat.eq_zero_or_pos i with h | h
     · exact .inr (by omega)
     · exact .inl (hprev h).1
   generalize hn:nodes[i] = n at *
   have hc:=hc n
   rw [zAL (zCh fun _=>by simp;omega),zAL (zCh fun h=>?_),zAL (zCh fun _=>by simp;omega),zAL (zCh fun _=>by simp;omega)]
   · unfold gChk
     dsimp only
     by_cases c1:n.1 ≤ b ∨ shl 2 bits ≤ n.1 ∨ n.2 < 1 ∨ count < n.2
     · rw [if_pos c1,if_pos (by omega)]
       exact ⟨rfl,fun st' h=>by cases h⟩
     rw [if_neg c1]
     by_cases c2:n.1 < shl 1 bits ∧ thr count k < n.2
     · rw [if_pos c2,if_pos (by omega)]
       exact ⟨rfl,fun st' h=>by cases h⟩
     rw [if_neg c2,if_neg (by omega),zAl (by omega) (by omega),zAl (by omega) (by omega)]
     refine ⟨rfl,fun st' h=>?_⟩
     have:=Sum.inl.inj h;subst this
     dsimp only
     refine ⟨by omega,by omega,fun _=>⟨by omega,fun h=>?_⟩⟩
     simp only [Nat.add_sub_cancel,hn]
   · simp only [band_d,bnot_d,Bool.and_eq_true,decide_eq_true_eq] at h
     rcases hsb with e | e
     · rw [e];exact zCa (by omega)
     · exact absurd h.2 e
 · intro st hI
   simp
 · rw [fold_chk]
   cases chk bits count (thr count k) nodes 0 0 with
   | none=>rfl
   | some s=>simp only [Sum.elim_inl];split <;> rfl
theorem q_check (bits k count:Int) (nodes:List Nd) (hn:nodes.length ≤ 100000000):Go.Ab.Pure Try.prog 20 [.agg [iD bits,iD k,iD count,.fz 2 (nodes.map zBL)]] (fun d=>d = iD (zBC bits k count nodes)) :=
 pure_of (c:=c20) ok20 rfl rfl (x:=(bits,k,count,nodes)) (y:=zBC bits k count nodes) (fun v hv=>by
   have hv:v ∈ [(⟨.agg (.pr (.int .i64) (.pr (.int .i64) (.pr (.int .i64) (.sl (.agg (.pr (.int .i64) (.int .i64))))))),(bits,k,count,nodes)⟩:TV)]:=hv
   simp only [List.mem_cons,List.not_mem_nil,or_false] at hv
   subst hv;rfl) rfl (F20_eq bits k count nodes)
theorem q_len0:Go.Ab.Pure Try.prog 71 [.v (.int .u64 0)] (fun d=>d = iD 0) :=
 pure_of (c:=c71) ok71 rfl rfl (x:=(0:Int)) (y:=(0:Int)) (fun v hv=>by
   have hv:v ∈ [(⟨.int .u64,(0:Int)⟩:TV)]:=hv
   simp only [List.mem_cons,List.not_mem_nil,or_false] at hv
   subst hv;rfl) rfl (by kernel_rfl)
end Go.Q
namespace Go.Proofs.Qd
open Go Go.Ab Go.Proofs.Ytfibkbmlgigemaa.AbT
variable [Go.Ab.DM]
theorem mapI_get {l:List Int} {i:Nat} (h:i < l.length):(l.map iD)[i]? = some (iD l[i]):=by simp [h]
theorem zBp {H:Heap} {b:Nat} (hb:b < H.length) (x:Option Row):Heap.get (H.set b x) b = x:=by rw [Heap.get_set H hb,if_pos rfl]
theorem zCQ {H:Heap} {a b:Nat} (hb:b < H.length) (h:a ≠ b) (x:Option Row):Heap.get (H.set b x) a = H.get a:=by rw [Heap.get_set H hb,if_neg h]
theorem get_push_lt {H:Heap} {a:Nat} (h:a < H.length) (x:Option Row):Heap.get (H ++ [x]) a = H.get a:=by rw [Heap.get_push,if_neg (by omega)]
theorem get_push_self (H:Heap) (x:Option Row):Heap.get (H ++ [x]) H.length = x:=by rw [Heap.get_push,if_pos rfl]
def Hp (a:Nat) (l:List Int) (F:Nat → Prop) (H:Heap):Prop:=∃ b,a ≠ b ∧ ¬ F a ∧ ¬ F b ∧ H.get a = some (.cells 1 [.sl b 0 l.length]) ∧ H.get b = some (.cells 1 (l.map iD))
def Fr (F:Nat → Prop) (H H':Heap):Prop:=H.length ≤ H'.length ∧ ∀ r,F r → H'.get r = H.get r
set_option maxHeartbeats 1000000 in
theorem g_len (H:Heap) (b m:Nat):Sound Try.prog 47 [.sl b 0 m] H (fun d H'=>H' = H ∧ d = iD m):=by
 refine zAc Try.func47 rfl (by kernel_rfl) Try.ntmps47 (by simp) ?_
 refine zAF fun Y0 hY0=>?_
 refine zAG ?_
 try simp only [↓zAH,EVq,TY,zAE,↓reduceIte,Nat.reduceLT,Nat.reduceLeDiff,Nat.reduceEqDiff,Nat.reduceAdd,Nat.reduceMul,Int.reduceLE,eq_self]
 refine zAD [0] ?_
 simp only [KQ,↓KP,↓reduceIte,Nat.reduceEqDiff]
 subst hY0
 refine zAF fun Y1 hY1=>?_
 refine zAG ?_
 try simp only [↓zAH,EVq,TY,zAE,↓reduceIte,Nat.reduceLT,Nat.reduceLeDiff,Nat.reduceEqDiff,Nat.reduceAdd,Nat.reduceMul,Int.reduceLE,eq_self]
 refine zAD [2] ?_
 simp only [KQ,↓KP,↓reduceIte,Nat.reduceEqDiff]
 subst hY1
 refine zCq Try.func47 Try.results47 (by simp only [aRes,↓zAU,↓KP,KQ,↓reduceIte,Nat.reduceEqDiff,zBh,TY] <;> rfl) (Weak.refl _ _ _) ?_
 exact ⟨rfl,rfl⟩
set_option maxHeartbeats 1000000 in
theorem g_less (H:Heap) (b i j:Nat) (l:List Int) (hg:H.get b = some (.cells 1 (l.map iD))) (hi:i < l.length) (hj:j < l.length):Sound Try.prog 151 [.sl b 0 l.length,iD i,iD j] H (fun d H'=>H' = H ∧ d = .v (.bool (decide (l[j] < l[i])))):=by
 refine zAc Try.func151 rfl (by kernel_rfl) Try.ntmps151 (by simp) ?_
 have e1:=mapI_get hi
 have e2:=mapI_get hj
 refine zAF fun Y0 hY0=>?_
 refine zAG ?_
 try simp only [↓zAH,EVq,TY,zAE,↓reduceIte,Nat.reduceLT,Nat.reduceLeDiff,Nat.reduceEqDiff,Nat.reduceAdd,Nat.reduceMul,Int.reduceLE,eq_self]
 refine zAD [0,1,2] ?_
 simp only [KQ,↓KP,↓reduceIte,Nat.reduceEqDiff]
 subst hY0
 refine zAF fun Y1 hY1=>?_
 refine run_draw [(.pure,0),(.pure,1),(.pure,2),(.load,3),(.pure,4),(.pure,5),(.pure,6),(.load,7),(.pure,8),(.pure,9)] mixed (by kernel_rfl) ?_
 try simp only [hg,Int.toNat_natCast,Nat.zero_add,e1,e2,zBN,zBc,zCy,↓zAH,EVq,TY,zAE,↓reduceIte,Nat.reduceLT,Nat.reduceLeDiff,Nat.reduceEqDiff,Nat.reduceAdd,Nat.reduceMul,Int.reduceLE,eq_self]
 refine zAs (by omega) ?_
 try simp only [hg,Int.toNat_natCast,Nat.zero_add,e1,e2,zBN,zBc,zCy,↓zAH,EVq,TY,zAE,↓reduceIte,Nat.reduceLT,Nat.reduceLeDiff,Nat.reduceEqDiff,Nat.reduceAdd,Nat.reduceMul,Int.reduceLE,eq_self]
 refine zAs (by omega) ?_
 try simp only [hg,Int.toNat_natCast,Nat.zero_add,e1,e2,zBN,zBc,zCy,↓zAH,EVq,TY,zAE,↓reduceIte,Nat.reduceLT,Nat.reduceLeDiff,Nat.reduceEqDiff,Nat.reduceAdd,Nat.reduceMul,Int.reduceLE,eq_self]
 refine zAD [6] ?_
 simp only [KQ,↓KP,↓reduceIte,Nat.reduceEqDiff]
 subst hY1
 refine zCq Try.func151 Try.results151 (by simp only [aRes,↓zAU,↓KP,KQ,↓reduceIte,Nat.reduceEqDiff,zBh,TY] <;> rfl) (Weak.refl _ _ _) ?_
 exact ⟨rfl,rfl⟩
set_option maxHeartbeats 1000000 in
theorem g_swap (H:Heap) (b i j:Nat) (l:List Int) (hg:H.get b = some (.cells 1 (l.map iD))) (hi:i < l.length) (hj:j < l.length):Sound Try.prog 152 [.sl b 0 l.length,iD i,iD j] H (fun d H'=>H' = H.set b (some (.cells 1 (((l.set i l[j]).set j l[i]).map iD))) ∧ d = .tup []):=by
 refine zAc Try.func152 rfl (by kernel_rfl) Try.ntmps152 (by simp) ?_
 have e1:=mapI_get hi
 have e2:=mapI_get hj
 have hb:=Heap.get_lt hg
 obtain ⟨y,e3⟩:∃ y,((l.map iD).set i (iD l[j]))[j]? = some (iD y):=⟨_,by rw [← List.map_set];exact mapI_get (by simpa using hj)⟩
 refine run_draw [(.pure,0),(.pure,1),(.pure,2),(.pure,3),(.pure,4),(.pure,5),(.pure,6),(.load,7),(.pure,8),(.pure,9),(.pure,10),(.load,11),(.pure,12),(.wr,13),(.pure,14),(.wr,15)] mixed (by kernel_rfl) ?_
 try simp only [hg,Int.toNat_natCast,Nat.zero_add,e1,e2,e3,zBp hb,zBN,zBc,zCy,↓zAH,EVq,TY,zAE,↓reduceIte,Nat.reduceLT,Nat.reduceLeDiff,Nat.reduceEqDiff,Nat.reduceAdd,Nat.reduceMul,Int.reduceLE,eq_self]
 refine zAs (by omega) ?_
 try simp only [hg,Int.toNat_natCast,Nat.zero_add,e1,e2,e3,zBp hb,zBN,zBc,zCy,↓zAH,EVq,TY,zAE,↓reduceIte,Nat.reduceLT,Nat.reduceLeDiff,Nat.reduceEqDiff,Nat.reduceAdd,Nat.reduceMul,Int.reduceLE,eq_self]
 refine zAs (by omega) ?_
 try simp only [hg,Int.toNat_natCast,Nat.zero_add,e1,e2,e3,zBp hb,zBN,zBc,zCy,↓zAH,EVq,TY,zAE,↓reduceIte,Nat.reduceLT,Nat.reduceLeDiff,Nat.reduceEqDiff,Nat.reduceAdd,Nat.reduceMul,Int.reduceLE,eq_self]
 refine zAs (by omega) ?_
 try simp only [hg,Int.toNat_natCast,Nat.zero_add,e1,e2,e3,zBp hb,zBN,zBc,zCy,↓zAH,EVq,TY,zAE,↓reduceIte,Nat.reduceLT,Nat.reduceLeDiff,Nat.reduceEqDiff,Nat.reduceAdd,Nat.reduceMul,Int.reduceLE,eq_self]
 refine zAs (by omega) ?_
 try simp only [hg,Int.toNat_natCast,Nat.zero_add,e1,e2,e3,zBp hb,zBN,zBc,zCy,↓zAH,EVq,TY,zAE,↓reduceIte,Nat.reduceLT,Nat.reduceLeDiff,Nat.reduceEqDiff,Nat.reduceAdd,Nat.reduceMul,Int.reduceLE,eq_self]
 refine zAD [] ?_
 simp only [KQ,↓KP,↓reduceIte,Nat.reduceEqDiff]
 refine run_end Try.func152 Try.results152 (by simp only [aRes,↓zAU,↓KP,KQ,↓reduceIte,Nat.reduceEqDiff,zBh,TY] <;> rfl) (Weak.refl _ _ _) ?_
 exact ⟨by simp only [List.set_set,List.map_set],rfl⟩
set_option maxHeartbeats 1000000 in
theorem g_pop (H:Heap) (a:Nat) (l:List Int) (F:Nat → Prop) (hF:∀ r,F r → r < H.length) (h:Hp a l F H) (hl:l ≠ []) (hN:l.length ≤ 1000000):Sound Try.prog 153 [.pt a 0 0] H (fun d H'=>Hp a l.dropLast F H' ∧ Fr F H H' ∧ d = .ifc 3 (iD (l.getLast hl))):=by
 refine zAc Try.func153 rfl (by kernel_rfl) Try.ntmps153 (by simp) ?_
 obtain ⟨b,hab,hFa,hFb,ha,hb⟩:=h
 have hal:=Heap.get_lt ha
 have hbl:=Heap.get_lt hb
 have hpos:0 < l.length:=List.length_pos_iff.2 hl
 have e1:(l.map iD)[l.length - 1]? = some (iD (l.getLast hl)):=by rw [mapI_get (by omega),List.getLast_eq_getElem]
 have ew:IntKind.i64.wrap ((l.length:Int) - 1) = ((l.length - 1:Nat):Int):=by rw [zAf (by omega) (by omega)];omega
 refine zAF fun Y0 hY0=>?_
 refine zAG ?_
 try simp only [↓zAH,EVq,TY,zAE,↓reduceIte,Nat.reduceLT,Nat.reduceLeDiff,Nat.reduceEqDiff,Nat.reduceAdd,Nat.reduceMul,Int.reduceLE,eq_self]
 refine zAD [0] ?_
 simp only [KQ,↓KP,↓reduceIte,Nat.reduceEqDiff]
 subst hY0
 refine zAF fun Y1 hY1=>?_
 refine zAG ?_
 try simp only [ha,↓zAH,EVq,TY,zAE,↓reduceIte,Nat.reduceLT,Nat.reduceLeDiff,Nat.reduceEqDiff,Nat.reduceAdd,Nat.reduceMul,Int.reduceLE,eq_self]
 refine zAD [0,3] ?_
 simp only [KQ,↓KP,↓reduceIte,Nat.reduceEqDiff]
 subst hY1
 refine zAF fun Y2 hY2=>?_
 refine zAG ?_
 try simp only [hb,e1,ew,Int.toNat_natCast,Nat.zero_add,↓zAH,EVq,TY,zAE,↓reduceIte,Nat.reduceLT,Nat.reduceLeDiff,Nat.reduceEqDiff,Nat.reduceAdd,Nat.reduceMul,Int.reduceLE,eq_self]
 refine zAs (by omega) ?_
 try simp only [hb,e1,ew,Int.toNat_natCast,Nat.zero_add,↓zAH,EVq,TY,zAE,↓reduceIte,Nat.reduceLT,Nat.reduceLeDiff,Nat.reduceEqDiff,Nat.reduceAdd,Nat.reduceMul,Int.reduceLE,eq_self]
 refine zAD [0,3,4] ?_
 simp only [KQ,↓KP,↓reduceIte,Nat.reduceEqDiff]
 subst hY2
 refine zAF fun Y3 hY3=>?_
 refine zAG ?_
 try simp only [ha,hb,ew,Int.toNat_natCast,Nat.zero_add,Int.toNat_zero,Nat.sub_zero,↓zAH,EVq,TY,zAE,↓reduceIte,Nat.reduceLT,Nat.reduceLeDiff,Nat.reduceEqDiff,Nat.reduceAdd,Nat.reduceMul,Int.reduceLE,eq_self]
 refine zAs (by omega) ?_
 try simp only [ha,hb,ew,Int.toNat_natCast,Nat.zero_add,Int.toNat_zero,Nat.sub_zero,↓zAH,EVq,TY,zAE,↓reduceIte,Nat.reduceLT,Nat.reduceLeDiff,Nat.reduceEqDiff,Nat.reduceAdd,Nat.reduceMul,Int.reduceLE,eq_self]
 refine zAD [4] ?_
 simp only [KQ,↓KP,↓reduceIte,Nat.reduceEqDiff]
 subst hY3
 refine zAF fun Y4 hY4=>?_
 refine zAG ?_
 try simp only [↓zAH,EVq,TY,zAE,↓reduceIte,Nat.reduceLT,Nat.reduceLeDiff,Nat.reduceEqDiff,Nat.reduceAdd,Nat.reduceMul,Int.reduceLE,eq_self]
 refine zAD [2] ?_
 simp only [KQ,↓KP,↓reduceIte,Nat.reduceEqDiff]
 subst hY4
 refine run_cut (r:=b) (j:=l.length - 1) ((zCQ hal (Ne.symm hab) _).trans hb) (by simp) ?_
 refine zCq Try.func153 Try.results153 (by simp only [aRes,↓zAU,↓KP,KQ,↓reduceIte,Nat.reduceEqDiff,zBh,TY] <;> rfl) (Weak.refl _ _ _) ?_
 have hbl':b < (H.set a (some (Row.cells 1 [D.sl b 0 (l.length - 1)]))).length:=by simpa using hbl
 refine ⟨⟨b,hab,hFa,hFb,?_,?_⟩,⟨by simp,fun r hr=>?_⟩,rfl⟩
 · rw [zCQ hbl' hab,zBp hal,List.length_dropLast]
 · rw [zBp hbl',← List.map_take,List.dropLast_eq_take]
 · rw [zCQ hbl' (fun h=>hFb (h ▸ hr)),zCQ hal (fun h=>hFa (h ▸ hr))]
set_option maxHeartbeats 1000000 in
theorem g_push (H:Heap) (a:Nat) (x:Int) (l:List Int) (F:Nat → Prop) (hF:∀ r,F r → r < H.length) (h:Hp a l F H) (hN:l.length ≤ 1000000):Sound Try.prog 154 [.pt a 0 0,.ifc 3 (iD x)] H (fun d H'=>Hp a (l ++ [x]) F H' ∧ Fr F H H' ∧ d = .tup []):=by
 refine zAc Try.func154 rfl (by kernel_rfl) Try.ntmps154 (by simp) ?_
 obtain ⟨b,hab,hFa,hFb,ha,hb⟩:=h
 have hal:=Heap.get_lt ha
 have hbl:=Heap.get_lt hb
 have hl0:(l.map iD).length = l.length:=List.length_map ..
 have q1:∀ X,Heap.get (H ++ [X]) H.length = X:=fun X=>get_push_self H X
 have q2:∀ X,Heap.get (H ++ [X]) b = some (.cells 1 (l.map iD)):=fun X=>(get_push_lt hbl X).trans hb
 have q3:∀ X Y,Heap.get ((H ++ [X]).set b none ++ [Y]) a = some (.cells 1 [.sl b 0 l.length]):=fun X Y=>by rw [get_push_lt (by simp;omega),zCQ (by simp;omega) hab,get_push_lt hal];exact ha
 refine zAF fun Y0 hY0=>?_
 refine zAG ?_
 try simp only [↓zAH,EVq,TY,zAE,↓reduceIte,Nat.reduceLT,Nat.reduceLeDiff,Nat.reduceEqDiff,Nat.reduceAdd,Nat.reduceMul,Int.reduceLE,eq_self]
 refine zAD [0,4,5] ?_
 simp only [KQ,↓KP,↓reduceIte,Nat.reduceEqDiff]
 subst hY0
 refine zAF fun Y1 hY1=>?_
 refine zAG ?_
 try simp only [↓zAH,EVq,TY,zAE,↓reduceIte,Nat.reduceLT,Nat.reduceLeDiff,Nat.reduceEqDiff,Nat.reduceAdd,Nat.reduceMul,Int.reduceLE,eq_self]
 refine zAD [0,4,11] ?_
 simp only [KQ,↓KP,↓reduceIte,Nat.reduceEqDiff]
 subst hY1
 refine run_if_t (by simp only [↓zAU,↓zAY,↓zAh,↓zAO,↓reduceIte,Nat.reduceEqDiff] <;> rfl) ?_
 refine zAG ?_
 try simp only [ha,q1,q2,q3,List.drop_zero,List.take_succ_cons,List.take_zero,Nat.zero_add,List.length_append,List.length_singleton,List.length_cons,List.length_nil,↓zAH,EVq,TY,zAE,↓reduceIte,Nat.reduceLT,Nat.reduceLeDiff,Nat.reduceEqDiff,Nat.reduceAdd,Nat.reduceMul,Int.reduceLE,eq_self]
 try refine zAs (by first | rfl | decide | exact ⟨rfl,by decide,rfl⟩) ?_
 try simp only [ha,q1,q2,q3,List.drop_zero,List.take_succ_cons,List.take_zero,Nat.zero_add,List.length_append,List.length_singleton,List.length_cons,List.length_nil,↓zAH,EVq,TY,zAE,↓reduceIte,Nat.reduceLT,Nat.reduceLeDiff,Nat.reduceEqDiff,Nat.reduceAdd,Nat.reduceMul,Int.reduceLE,eq_self]
 refine zAs ⟨by omega,by omega⟩ ?_
 try simp only [ha,q1,q2,q3,List.drop_zero,List.take_succ_cons,List.take_zero,Nat.zero_add,List.length_append,List.length_singleton,List.length_cons,List.length_nil,↓zAH,EVq,TY,zAE,↓reduceIte,Nat.reduceLT,Nat.reduceLeDiff,Nat.reduceEqDiff,Nat.reduceAdd,Nat.reduceMul,Int.reduceLE,eq_self]
 refine zAD [] ?_
 simp only [KQ,↓KP,↓reduceIte,Nat.reduceEqDiff]
 refine run_end Try.func154 Try.results154 (by simp only [aRes,↓zAU,↓KP,KQ,↓reduceIte,Nat.reduceEqDiff,zBh,TY] <;> rfl) (Weak.refl _ _ _) ?_
 refine ⟨⟨H.length + 1,by omega,hFa,fun h=>by have:=hF _ h;omega,?_,?_⟩,⟨by simp;omega,fun r hr=>?_⟩,rfl⟩
 · rw [zBp (by simp;omega)];simp
 · rw [zCQ (by simp;omega) (by omega)];simp [Heap.get]
 · have hrl:=hF _ hr
   have hra:r ≠ a:=fun h=>hFa (h ▸ hr)
   have hrb:r ≠ b:=fun h=>hFb (h ▸ hr)
   have n1:∀ X Y:Option Row,a < ((H ++ [X]).set b none ++ [Y]).length:=fun X Y=>by simp;omega
   have n2:∀ X:Option Row,r < ((H ++ [X]).set b none).length:=fun X=>by simp;omega
   have n3:∀ X:Option Row,b < (H ++ [X]).length:=fun X=>by simp;omega
   rw [zCQ (n1 _ _) hra,get_push_lt (n2 _),zCQ (n3 _) hrb,get_push_lt hrl]
end Go.Proofs.Qd
namespace Go.Proofs.Qd
open Go Go.Ab
variable [Go.Ab.DM]
def zDf (l:List Int) (i j:Nat):List Int:=(l.set i (l.getD j 0)).set j (l.getD i 0)
theorem zCO (l:List Int) (i j:Nat):(zDf l i j).length = l.length:=by simp [zDf]
def down (n:Nat) (l:List Int) (i:Nat):List Int :=
 if h:2 * i + 1 < n then
   let j:=if 2 * i + 2 < n ∧ l.getD (2 * i + 1) 0 < l.getD (2 * i + 2) 0 then 2 * i + 2 else 2 * i + 1
   if l.getD i 0 < l.getD j 0 then down n (zDf l i j) j else l
 else l
termination_by n - i
decreasing_by all_goals (simp_wf;try simp only [j]);split <;> omega
def up (l:List Int) (j:Nat):List Int :=
 if h:j = 0 then l else
   if l.getD ((j - 1) / 2) 0 < l.getD j 0 then up (zDf l ((j - 1) / 2) j) ((j - 1) / 2) else l
termination_by j
decreasing_by omega
theorem down_end {n i:Nat} {l:List Int} (h:¬ 2 * i + 1 < n):down n l i = l:=by rw [down,dif_neg h]
theorem down_l {n i:Nat} {l:List Int} (h:2 * i + 1 < n) (h1:¬ (2 * i + 2 < n ∧ l.getD (2 * i + 1) 0 < l.getD (2 * i + 2) 0)):down n l i = if l.getD i 0 < l.getD (2 * i + 1) 0 then down n (zDf l i (2 * i + 1)) (2 * i + 1) else l:=by rw [down,dif_pos h];simp only [if_neg h1]
theorem down_r {n i:Nat} {l:List Int} (h:2 * i + 1 < n) (h1:2 * i + 2 < n ∧ l.getD (2 * i + 1) 0 < l.getD (2 * i + 2) 0):down n l i = if l.getD i 0 < l.getD (2 * i + 2) 0 then down n (zDf l i (2 * i + 2)) (2 * i + 2) else l:=by rw [down,dif_pos h];simp only [if_pos h1]
theorem up_end {l:List Int}:up l 0 = l:=by rw [up,dif_pos rfl]
theorem up_go {l:List Int} {j:Nat} (h:j ≠ 0):up l j = if l.getD ((j - 1) / 2) 0 < l.getD j 0 then up (zDf l ((j - 1) / 2) j) ((j - 1) / 2) else l:=by rw [up,dif_neg h]
theorem zBZ {l:List Int} {i:Nat} (h:i < l.length):l.getD i 0 = l[i]:=by simp [List.getD,h]
section
variable {n i:Nat} {l:List Int}
theorem down_step_l (hn:n ≤ l.length) (h:2 * i + 1 < n) (h1:∀ h2:2 * i + 2 < n,¬ l[2 * i + 1] < l[2 * i + 2]) (h3:l[i] < l[2 * i + 1]):down n (zDf l i (2 * i + 1)) (2 * i + 1) = down n l i:=by
 rw [down_l h (fun ⟨a,b⟩=>h1 a (by rwa [zBZ (by omega),zBZ (by omega)] at b)),if_pos (by rwa [zBZ (by omega),zBZ (by omega)])]
theorem down_step_r (hn:n ≤ l.length) (h:2 * i + 2 < n) (h1:l[2 * i + 1] < l[2 * i + 2]) (h3:l[i] < l[2 * i + 2]):down n (zDf l i (2 * i + 2)) (2 * i + 2) = down n l i:=by
 rw [down_r (by omega) ⟨h,by rwa [zBZ (by omega),zBZ (by omega)]⟩,if_pos (by rwa [zBZ (by omega),zBZ (by omega)])]
theorem zCI (hn:n ≤ l.length) (h:2 * i + 1 < n) (h1:∀ h2:2 * i + 2 < n,¬ l[2 * i + 1] < l[2 * i + 2]) (h3:¬ l[i] < l[2 * i + 1]):down n l i = l:=by
 rw [down_l h (fun ⟨a,b⟩=>h1 a (by rwa [zBZ (by omega),zBZ (by omega)] at b)),if_neg (by rwa [zBZ (by omega),zBZ (by omega)])]
theorem down_stop_r (hn:n ≤ l.length) (h:2 * i + 2 < n) (h1:l[2 * i + 1] < l[2 * i + 2]) (h3:¬ l[i] < l[2 * i + 2]):down n l i = l:=by
 rw [down_r (by omega) ⟨h,by rwa [zBZ (by omega),zBZ (by omega)]⟩,if_neg (by rwa [zBZ (by omega),zBZ (by omega)])]
end
def initGo (n:Nat):List Int → Nat → List Int
 | l,0=>l
 | l,i + 1=>initGo n (down n l i) i
theorem down_len (n:Nat) (l:List Int) (i:Nat):(down n l i).length = l.length:=by
 fun_induction down n l i with
 | case1 l i h j h1 ih=>rw [ih,zCO]
 | case2 l i h j h1=>rfl
 | case3 l i h=>rfl
theorem up_step {l:List Int} {j:Nat} (hj:j < l.length) (h:j ≠ 0) (h3:l[(j - 1) / 2] < l[j]):up (zDf l ((j - 1) / 2) j) ((j - 1) / 2) = up l j:=by
 rw [up_go h,if_pos (by rwa [zBZ (by omega),zBZ (by omega)])]
theorem up_stop {l:List Int} {j:Nat} (hj:j < l.length) (h:j ≠ 0) (h3:¬ l[(j - 1) / 2] < l[j]):up l j = l:=by
 rw [up_go h,if_neg (by rwa [zBZ (by omega),zBZ (by omega)])]
theorem dec_f {p:Prop} [Decidable p] (h:(!decide p) = false):p:=by simpa using h
theorem dec_t {p:Prop} [Decidable p] (h:(!decide p) = true):¬ p:=by simpa using h
theorem hp_swap {a b:Nat} {l:List Int} {F:Nat → Prop} {H:Heap} {i j:Nat} (hab:a ≠ b) (hFa:¬ F a) (hFb:¬ F b) (ha:H.get a = some (.cells 1 [.sl b 0 l.length])) (hb:H.get b = some (.cells 1 (l.map iD))) (hi:i < l.length) (hj:j < l.length) :
   Hp a (zDf l i j) F (H.set b (some (.cells 1 (((l.set i l[j]).set j l[i]).map iD)))):=by
 have hbl:=Heap.get_lt hb
 refine ⟨b,hab,hFa,hFb,?_,?_⟩
 · rw [zCQ hbl hab,ha,zCO]
 · rw [zBp hbl,zDf,zBZ hi,zBZ hj]
theorem fr_set {F:Nat → Prop} {H H1:Heap} {b:Nat} {x:Option Row} (hb:b < H1.length) (hFb:¬ F b) (h:Fr F H H1):Fr F H (H1.set b x):=⟨by simpa using h.1,fun r hr=>by rw [zCQ hb (fun e=>hFb (e ▸ hr))];exact h.2 r hr⟩
theorem fr_refl (F:Nat → Prop) (H:Heap):Fr F H H:=⟨Nat.le_refl _,fun _ _=>rfl⟩
theorem fr_trans {F:Nat → Prop} {H H1 H2:Heap} (h:Fr F H H1) (h':Fr F H1 H2):Fr F H H2:=⟨Nat.le_trans h.1 h'.1,fun r hr=>(h'.2 r hr).trans (h.2 r hr)⟩
end Go.Proofs.Qd
namespace Go.Proofs.Qd
open Go Go.Ab Go.Proofs.Ytfibkbmlgigemaa.AbT
variable [Go.Ab.DM]
set_option maxHeartbeats 2000000 in
theorem h_down (H:Heap) (a i n:Nat) (l:List Int) (F:Nat → Prop) (h:Hp a l F H) (hn:n ≤ l.length) (hi:i ≤ n) (hN:l.length ≤ 1000000):Sound Try.prog 77 [.ifc 80 (.pt a 0 0),iD i,iD n] H (fun d H'=>Hp a (down n l i) F H' ∧ Fr F H H' ∧ ∃ b,d = .v (.bool b)):=by
 refine zAc Try.func77 rfl (by kernel_rfl) Try.ntmps77 (by simp) ?_
 refine zAF fun Y0 hY0=>?_
 refine zAG ?_
 try simp only [↓zAH,EVq,TY,zAE,↓reduceIte,Nat.reduceLT,Nat.reduceLeDiff,Nat.reduceEqDiff,Nat.reduceAdd,Nat.reduceMul,Int.reduceLE,eq_self]
 refine zAD [0,1,2] ?_
 simp only [KQ,↓KP,↓reduceIte,Nat.reduceEqDiff]
 subst hY0
 refine zAF fun Y1 hY1=>?_
 refine zAG ?_
 try simp only [↓zAH,EVq,TY,zAE,↓reduceIte,Nat.reduceLT,Nat.reduceLeDiff,Nat.reduceEqDiff,Nat.reduceAdd,Nat.reduceMul,Int.reduceLE,eq_self]
 refine zAD [0,1,2,7] ?_
 simp only [KQ,↓KP,↓reduceIte,Nat.reduceEqDiff]
 subst hY1
 refine zAF fun Y2 hY2=>?_
 refine zCf ?_
 refine zAD [0,1,2,7] ?_
 simp only [KQ,↓KP,↓reduceIte,Nat.reduceEqDiff]
 refine run_loop' (fun m e H1=>∃ (i1:Nat) (l1:List Int),m = n - i1 ∧ i1 ≤ n ∧ l1.length = l.length ∧ Hp a l1 F H1 ∧ Fr F H H1 ∧ down n l1 i1 = down n l i ∧ e = envL [(0,.ifc 80 (.pt a 0 0)),(1,iD i),(2,iD n),(7,iD (i1:Nat))]) (n - i)
   ⟨i,l,rfl,hi,rfl,h,fr_refl F H,rfl,rfl⟩ ?_
 intro C hC m e H1 ih hI
 obtain ⟨i1,l1,rfl,hi1,hl1,hHp,hFr,hdn,rfl⟩:=hI
 obtain ⟨b,hab,hFa,hFb,ha,hb⟩:=id hHp
 have ew1:IntKind.i64.wrap (2 * (i1:Int)) = ((2 * i1:Nat):Int):=by rw [zAf (by omega) (by omega)];omega
 have ew2:IntKind.i64.wrap (((2 * i1:Nat):Int) + 1) = ((2 * i1 + 1:Nat):Int):=by rw [zAf (by omega) (by omega)];omega
 have ew3:IntKind.i64.wrap (((2 * i1 + 1:Nat):Int) + 1) = ((2 * i1 + 2:Nat):Int):=by rw [zAf (by omega) (by omega)];omega
 refine zCf ?_
 refine zAF fun Y3 hY3=>?_
 refine zAG ?_
 try simp only [ew1,ew2,↓zAH,EVq,TY,zAE,↓reduceIte,Nat.reduceLT,Nat.reduceLeDiff,Nat.reduceEqDiff,Nat.reduceAdd,Nat.reduceMul,Int.reduceLE,eq_self]
 refine zAD [0,1,2,7,8] ?_
 simp only [KQ,↓KP,↓reduceIte,Nat.reduceEqDiff]
 subst hY3
 refine zAF fun Y4 hY4=>?_
 refine zAF fun Y5 hY5=>?_
 refine zAG ?_
 try simp only [↓zAH,EVq,TY,zAE,↓reduceIte,Nat.reduceLT,Nat.reduceLeDiff,Nat.reduceEqDiff,Nat.reduceAdd,Nat.reduceMul,Int.reduceLE,eq_self]
 first | refine gK_n (fun h18 d18=>?_) fun h18 d18=>?_ | refine gK_b (fun h18 d18=>?_) fun h18 d18=>?_
 · try simp only [d18,↓zAH,EVq,TY,zAE,↓reduceIte,Nat.reduceLT,Nat.reduceLeDiff,Nat.reduceEqDiff,Nat.reduceAdd,Nat.reduceMul,Int.reduceLE,eq_self]
   refine zAD [0,1,2,7,8,21] ?_
   simp only [KQ,↓KP,↓reduceIte,Nat.reduceEqDiff]
   subst hY5
   first | refine run_if (by simp only [↓zAU,↓zAY,↓zAh,↓zAO,↓reduceIte,Nat.reduceEqDiff] <;> rfl) (fun h21=>?_) fun h21=>?_ | refine zCM (by simp only [↓zAU,↓zAY,↓zAh,↓zAO,↓reduceIte,Nat.reduceEqDiff] <;> rfl) (fun h21=>?_) fun h21=>?_
   · refine zDj (by rfl) ?_
     subst hY2
     refine zAF fun Y6 hY6=>?_
     refine zAG ?_
     try simp only [↓zAH,EVq,TY,zAE,↓reduceIte,Nat.reduceLT,Nat.reduceLeDiff,Nat.reduceEqDiff,Nat.reduceAdd,Nat.reduceMul,Int.reduceLE,eq_self]
     refine zAD [6] ?_
     simp only [KQ,↓KP,↓reduceIte,Nat.reduceEqDiff]
     subst hY6
     refine zCq Try.func77 Try.results77 (by simp only [aRes,↓zAU,↓KP,KQ,↓reduceIte,Nat.reduceEqDiff,zBh,TY] <;> rfl) (Weak.refl _ _ _) ?_
     refine ⟨?_,hFr,_,rfl⟩
     rw [← hdn]
     first
       | (rw [down_end (by omega)];exact hHp)
       | (rw [zCI (by omega) (by omega) (fun h2=>absurd h2 (by omega)) (dec_t h39)];exact hHp)
       | (rw [zCI (by omega) (by omega) (fun _=>h33) (dec_t h39)];exact hHp)
       | (rw [down_stop_r (by omega) (by omega) h33 (dec_t h39)];exact hHp)
   · refine zBt ?_
     subst hY4
     refine zAF fun Y7 hY7=>?_
     refine zAG ?_
     try simp only [↓zAH,EVq,TY,zAE,↓reduceIte,Nat.reduceLT,Nat.reduceLeDiff,Nat.reduceEqDiff,Nat.reduceAdd,Nat.reduceMul,Int.reduceLE,eq_self]
     refine zAD [0,1,2,7,8,9] ?_
     simp only [KQ,↓KP,↓reduceIte,Nat.reduceEqDiff]
     subst hY7
     refine zAF fun Y8 hY8=>?_
     refine zAF fun Y9 hY9=>?_
     refine zAG ?_
     try simp only [ew3,↓zAH,EVq,TY,zAE,↓reduceIte,Nat.reduceLT,Nat.reduceLeDiff,Nat.reduceEqDiff,Nat.reduceAdd,Nat.reduceMul,Int.reduceLE,eq_self]
     refine zAD [0,1,2,7,8,9,10] ?_
     simp only [KQ,↓KP,↓reduceIte,Nat.reduceEqDiff]
     subst hY9
     refine zAF fun Y10 hY10=>?_
     refine zAG ?_
     try simp only [ha,↓zAH,EVq,TY,zAE,↓reduceIte,Nat.reduceLT,Nat.reduceLeDiff,Nat.reduceEqDiff,Nat.reduceAdd,Nat.reduceMul,Int.reduceLE,eq_self]
     first | refine gK_p (fun h28 d28=>?_) fun h28 d28=>?_ | refine gK_b (fun h28 d28=>?_) fun h28 d28=>?_
     · try simp only [d28,ha,↓zAH,EVq,TY,zAE,↓reduceIte,Nat.reduceLT,Nat.reduceLeDiff,Nat.reduceEqDiff,Nat.reduceAdd,Nat.reduceMul,Int.reduceLE,eq_self]
       refine zDR (g_less _ b _ _ l1 hb (by omega) (by omega)) (fun d Hx hd=>?_)
       obtain ⟨hHx,rfl⟩:=hd
       subst Hx
       try simp only [d28,ha,↓zAH,EVq,TY,zAE,↓reduceIte,Nat.reduceLT,Nat.reduceLeDiff,Nat.reduceEqDiff,Nat.reduceAdd,Nat.reduceMul,Int.reduceLE,eq_self]
       refine zAD [0,1,2,7,9,10,33] ?_
       simp only [KQ,↓KP,↓reduceIte,Nat.reduceEqDiff]
       subst hY10
       first | refine run_if (by simp only [↓zAU,↓zAY,↓zAh,↓zAO,↓reduceIte,Nat.reduceEqDiff] <;> rfl) (fun h33=>?_) fun h33=>?_ | refine zCM (by simp only [↓zAU,↓zAY,↓zAh,↓zAO,↓reduceIte,Nat.reduceEqDiff] <;> rfl) (fun h33=>?_) fun h33=>?_
       · refine zAG ?_
         try simp only [↓zAH,EVq,TY,zAE,↓reduceIte,Nat.reduceLT,Nat.reduceLeDiff,Nat.reduceEqDiff,Nat.reduceAdd,Nat.reduceMul,Int.reduceLE,eq_self]
         refine zAD [0,1,2,7,9] ?_
         simp only [KQ,↓KP,↓reduceIte,Nat.reduceEqDiff]
         subst hY8
         refine zAF fun Y11 hY11=>?_
         refine zAF fun Y12 hY12=>?_
         refine zAG ?_
         try simp only [ha,↓zAH,EVq,TY,zAE,↓reduceIte,Nat.reduceLT,Nat.reduceLeDiff,Nat.reduceEqDiff,Nat.reduceAdd,Nat.reduceMul,Int.reduceLE,eq_self]
         refine zDR (g_less _ b _ _ l1 hb (by omega) (by omega)) (fun d Hx hd=>?_)
         obtain ⟨hHx,rfl⟩:=hd
         subst Hx
         try simp only [ha,↓zAH,EVq,TY,zAE,↓reduceIte,Nat.reduceLT,Nat.reduceLeDiff,Nat.reduceEqDiff,Nat.reduceAdd,Nat.reduceMul,Int.reduceLE,eq_self]
         refine zAD [0,1,2,7,9,39] ?_
         simp only [KQ,↓KP,↓reduceIte,Nat.reduceEqDiff]
         subst hY12
         first | refine run_if (by simp only [↓zAU,↓zAY,↓zAh,↓zAO,↓reduceIte,Nat.reduceEqDiff] <;> rfl) (fun h39=>?_) fun h39=>?_ | refine zCM (by simp only [↓zAU,↓zAY,↓zAh,↓zAO,↓reduceIte,Nat.reduceEqDiff] <;> rfl) (fun h39=>?_) fun h39=>?_
         · refine zDj (by rfl) ?_
           subst hY2
           refine zAF fun Y13 hY13=>?_
           refine zAG ?_
           try simp only [↓zAH,EVq,TY,zAE,↓reduceIte,Nat.reduceLT,Nat.reduceLeDiff,Nat.reduceEqDiff,Nat.reduceAdd,Nat.reduceMul,Int.reduceLE,eq_self]
           refine zAD [6] ?_
           simp only [KQ,↓KP,↓reduceIte,Nat.reduceEqDiff]
           subst hY13
           refine zCq Try.func77 Try.results77 (by simp only [aRes,↓zAU,↓KP,KQ,↓reduceIte,Nat.reduceEqDiff,zBh,TY] <;> rfl) (Weak.refl _ _ _) ?_
           refine ⟨?_,hFr,_,rfl⟩
           rw [← hdn]
           first
             | (rw [down_end (by omega)];exact hHp)
             | (rw [zCI (by omega) (by omega) (fun h2=>absurd h2 (by omega)) (dec_t h39)];exact hHp)
             | (rw [zCI (by omega) (by omega) (fun _=>h33) (dec_t h39)];exact hHp)
             | (rw [down_stop_r (by omega) (by omega) h33 (dec_t h39)];exact hHp)
         · refine zBt ?_
           subst hY11
           refine zAF fun Y14 hY14=>?_
           refine zAG ?_
           try simp only [ha,↓zAH,EVq,TY,zAE,↓reduceIte,Nat.reduceLT,Nat.reduceLeDiff,Nat.reduceEqDiff,Nat.reduceAdd,Nat.reduceMul,Int.reduceLE,eq_self]
           refine zDR (g_swap _ b _ _ l1 hb (by omega) (by omega)) (fun d Hx hd=>?_)
           obtain ⟨hHx,rfl⟩:=hd
           subst Hx
           try simp only [ha,↓zAH,EVq,TY,zAE,↓reduceIte,Nat.reduceLT,Nat.reduceLeDiff,Nat.reduceEqDiff,Nat.reduceAdd,Nat.reduceMul,Int.reduceLE,eq_self]
           refine zAD [0,1,2,9] ?_
           simp only [KQ,↓KP,↓reduceIte,Nat.reduceEqDiff]
           subst hY14
           refine zAG ?_
           try simp only [↓zAH,EVq,TY,zAE,↓reduceIte,Nat.reduceLT,Nat.reduceLeDiff,Nat.reduceEqDiff,Nat.reduceAdd,Nat.reduceMul,Int.reduceLE,eq_self]
           refine zAD [0,1,2,7] ?_
           simp only [KQ,↓KP,↓reduceIte,Nat.reduceEqDiff]
           refine zCX ?_
           refine zAD [0,1,2,7] ?_
           simp only [KQ,↓KP,↓reduceIte,Nat.reduceEqDiff]
           first
             | refine ih (n - (2 * i1 + 1)) _ _ (by omega) ⟨2 * i1 + 1,zDf l1 i1 (2 * i1 + 1),rfl,by omega,by rw [zCO];exact hl1,hp_swap hab hFa hFb ha hb (by omega) (by omega),fr_set (Heap.get_lt hb) hFb hFr,?_,rfl⟩
             | refine ih (n - (2 * i1 + 2)) _ _ (by omega) ⟨2 * i1 + 2,zDf l1 i1 (2 * i1 + 2),rfl,by omega,by rw [zCO];exact hl1,hp_swap hab hFa hFb ha hb (by omega) (by omega),fr_set (Heap.get_lt hb) hFb hFr,?_,rfl⟩
           first
             | exact (down_step_l (by omega) (by omega) (fun h2=>absurd h2 (by omega)) (dec_f h39)).trans hdn
             | exact (down_step_l (by omega) (by omega) (fun _=>h33) (dec_f h39)).trans hdn
             | exact (down_step_r (by omega) (by omega) h33 (dec_f h39)).trans hdn
       · refine zBt ?_
         subst hY8
         refine zAF fun Y15 hY15=>?_
         refine zAF fun Y16 hY16=>?_
         refine zAG ?_
         try simp only [ha,↓zAH,EVq,TY,zAE,↓reduceIte,Nat.reduceLT,Nat.reduceLeDiff,Nat.reduceEqDiff,Nat.reduceAdd,Nat.reduceMul,Int.reduceLE,eq_self]
         refine zDR (g_less _ b _ _ l1 hb (by omega) (by omega)) (fun d Hx hd=>?_)
         obtain ⟨hHx,rfl⟩:=hd
         subst Hx
         try simp only [ha,↓zAH,EVq,TY,zAE,↓reduceIte,Nat.reduceLT,Nat.reduceLeDiff,Nat.reduceEqDiff,Nat.reduceAdd,Nat.reduceMul,Int.reduceLE,eq_self]
         refine zAD [0,1,2,7,9,39] ?_
         simp only [KQ,↓KP,↓reduceIte,Nat.reduceEqDiff]
         subst hY16
         first | refine run_if (by simp only [↓zAU,↓zAY,↓zAh,↓zAO,↓reduceIte,Nat.reduceEqDiff] <;> rfl) (fun h39=>?_) fun h39=>?_ | refine zCM (by simp only [↓zAU,↓zAY,↓zAh,↓zAO,↓reduceIte,Nat.reduceEqDiff] <;> rfl) (fun h39=>?_) fun h39=>?_
         · refine zDj (by rfl) ?_
           subst hY2
           refine zAF fun Y17 hY17=>?_
           refine zAG ?_
           try simp only [↓zAH,EVq,TY,zAE,↓reduceIte,Nat.reduceLT,Nat.reduceLeDiff,Nat.reduceEqDiff,Nat.reduceAdd,Nat.reduceMul,Int.reduceLE,eq_self]
           refine zAD [6] ?_
           simp only [KQ,↓KP,↓reduceIte,Nat.reduceEqDiff]
           subst hY17
           refine zCq Try.func77 Try.results77 (by simp only [aRes,↓zAU,↓KP,KQ,↓reduceIte,Nat.reduceEqDiff,zBh,TY] <;> rfl) (Weak.refl _ _ _) ?_
           refine ⟨?_,hFr,_,rfl⟩
           rw [← hdn]
           first
             | (rw [down_end (by omega)];exact hHp)
             | (rw [zCI (by omega) (by omega) (fun h2=>absurd h2 (by omega)) (dec_t h39)];exact hHp)
             | (rw [zCI (by omega) (by omega) (fun _=>h33) (dec_t h39)];exact hHp)
             | (rw [down_stop_r (by omega) (by omega) h33 (dec_t h39)];exact hHp)
         · refine zBt ?_
           subst hY15
           refine zAF fun Y18 hY18=>?_
           refine zAG ?_
           try simp only [ha,↓zAH,EVq,TY,zAE,↓reduceIte,Nat.reduceLT,Nat.reduceLeDiff,Nat.reduceEqDiff,Nat.reduceAdd,Nat.reduceMul,Int.reduceLE,eq_self]
           refine zDR (g_swap _ b _ _ l1 hb (by omega) (by omega)) (fun d Hx hd=>?_)
           obtain ⟨hHx,rfl⟩:=hd
           subst Hx
           try simp only [ha,↓zAH,EVq,TY,zAE,↓reduceIte,Nat.reduceLT,Nat.reduceLeDiff,Nat.reduceEqDiff,Nat.reduceAdd,Nat.reduceMul,Int.reduceLE,eq_self]
           refine zAD [0,1,2,9] ?_
           simp only [KQ,↓KP,↓reduceIte,Nat.reduceEqDiff]
           subst hY18
           refine zAG ?_
           try simp only [↓zAH,EVq,TY,zAE,↓reduceIte,Nat.reduceLT,Nat.reduceLeDiff,Nat.reduceEqDiff,Nat.reduceAdd,Nat.reduceMul,Int.reduceLE,eq_self]
           refine zAD [0,1,2,7] ?_
           simp only [KQ,↓KP,↓reduceIte,Nat.reduceEqDiff]
           refine zCX ?_
           refine zAD [0,1,2,7] ?_
           simp only [KQ,↓KP,↓reduceIte,Nat.reduceEqDiff]
           first
             | refine ih (n - (2 * i1 + 1)) _ _ (by omega) ⟨2 * i1 + 1,zDf l1 i1 (2 * i1 + 1),rfl,by omega,by rw [zCO];exact hl1,hp_swap hab hFa hFb ha hb (by omega) (by omega),fr_set (Heap.get_lt hb) hFb hFr,?_,rfl⟩
             | refine ih (n - (2 * i1 + 2)) _ _ (by omega) ⟨2 * i1 + 2,zDf l1 i1 (2 * i1 + 2),rfl,by omega,by rw [zCO];exact hl1,hp_swap hab hFa hFb ha hb (by omega) (by omega),fr_set (Heap.get_lt hb) hFb hFr,?_,rfl⟩
           first
             | exact (down_step_l (by omega) (by omega) (fun h2=>absurd h2 (by omega)) (dec_f h39)).trans hdn
             | exact (down_step_l (by omega) (by omega) (fun _=>h33) (dec_f h39)).trans hdn
             | exact (down_step_r (by omega) (by omega) h33 (dec_f h39)).trans hdn
     · try simp only [d28,ha,↓zAH,EVq,TY,zAE,↓reduceIte,Nat.reduceLT,Nat.reduceLeDiff,Nat.reduceEqDiff,Nat.reduceAdd,Nat.reduceMul,Int.reduceLE,eq_self]
       refine zAD [0,1,2,7,9,10,33] ?_
       simp only [KQ,↓KP,↓reduceIte,Nat.reduceEqDiff]
       subst hY10
       refine run_if_f (by simp only [↓zAU,↓zAY,↓zAh,↓zAO,↓reduceIte,Nat.reduceEqDiff] <;> rfl) ?_
       refine zBt ?_
       subst hY8
       refine zAF fun Y19 hY19=>?_
       refine zAF fun Y20 hY20=>?_
       refine zAG ?_
       try simp only [ha,↓zAH,EVq,TY,zAE,↓reduceIte,Nat.reduceLT,Nat.reduceLeDiff,Nat.reduceEqDiff,Nat.reduceAdd,Nat.reduceMul,Int.reduceLE,eq_self]
       refine zDR (g_less _ b _ _ l1 hb (by omega) (by omega)) (fun d Hx hd=>?_)
       obtain ⟨hHx,rfl⟩:=hd
       subst Hx
       try simp only [ha,↓zAH,EVq,TY,zAE,↓reduceIte,Nat.reduceLT,Nat.reduceLeDiff,Nat.reduceEqDiff,Nat.reduceAdd,Nat.reduceMul,Int.reduceLE,eq_self]
       refine zAD [0,1,2,7,9,39] ?_
       simp only [KQ,↓KP,↓reduceIte,Nat.reduceEqDiff]
       subst hY20
       first | refine run_if (by simp only [↓zAU,↓zAY,↓zAh,↓zAO,↓reduceIte,Nat.reduceEqDiff] <;> rfl) (fun h39=>?_) fun h39=>?_ | refine zCM (by simp only [↓zAU,↓zAY,↓zAh,↓zAO,↓reduceIte,Nat.reduceEqDiff] <;> rfl) (fun h39=>?_) fun h39=>?_
       · refine zDj (by rfl) ?_
         subst hY2
         refine zAF fun Y21 hY21=>?_
         refine zAG ?_
         try simp only [↓zAH,EVq,TY,zAE,↓reduceIte,Nat.reduceLT,Nat.reduceLeDiff,Nat.reduceEqDiff,Nat.reduceAdd,Nat.reduceMul,Int.reduceLE,eq_self]
         refine zAD [6] ?_
         simp only [KQ,↓KP,↓reduceIte,Nat.reduceEqDiff]
         subst hY21
         refine zCq Try.func77 Try.results77 (by simp only [aRes,↓zAU,↓KP,KQ,↓reduceIte,Nat.reduceEqDiff,zBh,TY] <;> rfl) (Weak.refl _ _ _) ?_
         refine ⟨?_,hFr,_,rfl⟩
         rw [← hdn]
         first
           | (rw [down_end (by omega)];exact hHp)
           | (rw [zCI (by omega) (by omega) (fun h2=>absurd h2 (by omega)) (dec_t h39)];exact hHp)
           | (rw [zCI (by omega) (by omega) (fun _=>h33) (dec_t h39)];exact hHp)
           | (rw [down_stop_r (by omega) (by omega) h33 (dec_t h39)];exact hHp)
       · refine zBt ?_
         subst hY19
         refine zAF fun Y22 hY22=>?_
         refine zAG ?_
         try simp only [ha,↓zAH,EVq,TY,zAE,↓reduceIte,Nat.reduceLT,Nat.reduceLeDiff,Nat.reduceEqDiff,Nat.reduceAdd,Nat.reduceMul,Int.reduceLE,eq_self]
         refine zDR (g_swap _ b _ _ l1 hb (by omega) (by omega)) (fun d Hx hd=>?_)
         obtain ⟨hHx,rfl⟩:=hd
         subst Hx
         try simp only [ha,↓zAH,EVq,TY,zAE,↓reduceIte,Nat.reduceLT,Nat.reduceLeDiff,Nat.reduceEqDiff,Nat.reduceAdd,Nat.reduceMul,Int.reduceLE,eq_self]
         refine zAD [0,1,2,9] ?_
         simp only [KQ,↓KP,↓reduceIte,Nat.reduceEqDiff]
         subst hY22
         refine zAG ?_
         try simp only [↓zAH,EVq,TY,zAE,↓reduceIte,Nat.reduceLT,Nat.reduceLeDiff,Nat.reduceEqDiff,Nat.reduceAdd,Nat.reduceMul,Int.reduceLE,eq_self]
         refine zAD [0,1,2,7] ?_
         simp only [KQ,↓KP,↓reduceIte,Nat.reduceEqDiff]
         refine zCX ?_
         refine zAD [0,1,2,7] ?_
         simp only [KQ,↓KP,↓reduceIte,Nat.reduceEqDiff]
         first
           | refine ih (n - (2 * i1 + 1)) _ _ (by omega) ⟨2 * i1 + 1,zDf l1 i1 (2 * i1 + 1),rfl,by omega,by rw [zCO];exact hl1,hp_swap hab hFa hFb ha hb (by omega) (by omega),fr_set (Heap.get_lt hb) hFb hFr,?_,rfl⟩
           | refine ih (n - (2 * i1 + 2)) _ _ (by omega) ⟨2 * i1 + 2,zDf l1 i1 (2 * i1 + 2),rfl,by omega,by rw [zCO];exact hl1,hp_swap hab hFa hFb ha hb (by omega) (by omega),fr_set (Heap.get_lt hb) hFb hFr,?_,rfl⟩
         first
           | exact (down_step_l (by omega) (by omega) (fun h2=>absurd h2 (by omega)) (dec_f h39)).trans hdn
           | exact (down_step_l (by omega) (by omega) (fun _=>h33) (dec_f h39)).trans hdn
           | exact (down_step_r (by omega) (by omega) h33 (dec_f h39)).trans hdn
 · try simp only [d18,↓zAH,EVq,TY,zAE,↓reduceIte,Nat.reduceLT,Nat.reduceLeDiff,Nat.reduceEqDiff,Nat.reduceAdd,Nat.reduceMul,Int.reduceLE,eq_self]
   refine zAD [0,1,2,7,8,21] ?_
   simp only [KQ,↓KP,↓reduceIte,Nat.reduceEqDiff]
   subst hY5
   refine run_if_t (by simp only [↓zAU,↓zAY,↓zAh,↓zAO,↓reduceIte,Nat.reduceEqDiff] <;> rfl) ?_
   refine zDj (by rfl) ?_
   subst hY2
   refine zAF fun Y23 hY23=>?_
   refine zAG ?_
   try simp only [↓zAH,EVq,TY,zAE,↓reduceIte,Nat.reduceLT,Nat.reduceLeDiff,Nat.reduceEqDiff,Nat.reduceAdd,Nat.reduceMul,Int.reduceLE,eq_self]
   refine zAD [6] ?_
   simp only [KQ,↓KP,↓reduceIte,Nat.reduceEqDiff]
   subst hY23
   refine zCq Try.func77 Try.results77 (by simp only [aRes,↓zAU,↓KP,KQ,↓reduceIte,Nat.reduceEqDiff,zBh,TY] <;> rfl) (Weak.refl _ _ _) ?_
   refine ⟨?_,hFr,_,rfl⟩
   rw [← hdn]
   first
     | (rw [down_end (by omega)];exact hHp)
     | (rw [zCI (by omega) (by omega) (fun h2=>absurd h2 (by omega)) (dec_t h39)];exact hHp)
     | (rw [zCI (by omega) (by omega) (fun _=>h33) (dec_t h39)];exact hHp)
     | (rw [down_stop_r (by omega) (by omega) h33 (dec_t h39)];exact hHp)
set_option maxHeartbeats 2000000 in
theorem h_up (H:Heap) (a j:Nat) (l:List Int) (F:Nat → Prop) (h:Hp a l F H) (hj:j < l.length) (hN:l.length ≤ 1000000):Sound Try.prog 78 [.ifc 80 (.pt a 0 0),iD j] H (fun d H'=>Hp a (up l j) F H' ∧ Fr F H H' ∧ d = .tup []):=by
 refine zAc Try.func78 rfl (by kernel_rfl) Try.ntmps78 (by simp) ?_
 refine zCf ?_
 refine zAD [0,1] ?_
 simp only [KQ,↓KP,↓reduceIte,Nat.reduceEqDiff]
 refine run_loop' (fun m e H1=>∃ (j1:Nat) (l1:List Int),m = j1 ∧ j1 < l.length ∧ l1.length = l.length ∧ Hp a l1 F H1 ∧ Fr F H H1 ∧ up l1 j1 = up l j ∧ e = envL [(0,.ifc 80 (.pt a 0 0)),(1,iD (j1:Nat))]) j
   ⟨j,l,rfl,hj,rfl,h,fr_refl F H,rfl,rfl⟩ ?_
 intro C hC m e H1 ih hI
 obtain ⟨j1,l1,rfl,hj1,hl1,hHp,hFr,hup,rfl⟩:=hI
 obtain ⟨b,hab,hFa,hFb,ha,hb⟩:=id hHp
 have ew1:IntKind.i64.wrap ((m:Int) - 1) = (m:Int) - 1:=zAf (by omega) (by omega)
 have ew2:IntKind.i64.wrap (((m:Int) - 1).tdiv 2) = (((m - 1) / 2:Nat):Int):=by
   rcases Nat.eq_zero_or_pos m with h0 | h0
   · subst h0;rfl
   · rw [Int.tdiv_eq_ediv_of_nonneg (by omega),zAf (by omega) (by omega)];omega
 refine zCf ?_
 refine zAF fun Y0 hY0=>?_
 refine zAG ?_
 try simp only [ew1,ew2,↓zAH,EVq,TY,zAE,↓reduceIte,Nat.reduceLT,Nat.reduceLeDiff,Nat.reduceEqDiff,Nat.reduceAdd,Nat.reduceMul,Int.reduceLE,eq_self]
 refine zAs (by omega) ?_
 try simp only [ew1,ew2,↓zAH,EVq,TY,zAE,↓reduceIte,Nat.reduceLT,Nat.reduceLeDiff,Nat.reduceEqDiff,Nat.reduceAdd,Nat.reduceMul,Int.reduceLE,eq_self]
 refine zAD [0,1,4] ?_
 simp only [KQ,↓KP,↓reduceIte,Nat.reduceEqDiff]
 subst hY0
 refine zAF fun Y1 hY1=>?_
 refine zAF fun Y2 hY2=>?_
 refine zAG ?_
 try simp only [ha,↓zAH,EVq,TY,zAE,↓reduceIte,Nat.reduceLT,Nat.reduceLeDiff,Nat.reduceEqDiff,Nat.reduceAdd,Nat.reduceMul,Int.reduceLE,eq_self]
 first | refine gK_n (fun h11 d11=>?_) fun h11 d11=>?_ | refine gK_b (fun h11 d11=>?_) fun h11 d11=>?_
 · try simp only [d11,ha,↓zAH,EVq,TY,zAE,↓reduceIte,Nat.reduceLT,Nat.reduceLeDiff,Nat.reduceEqDiff,Nat.reduceAdd,Nat.reduceMul,Int.reduceLE,eq_self]
   refine zDR (g_less _ b _ _ l1 hb (by omega) (by omega)) (fun d Hx hd=>?_)
   obtain ⟨hHx,rfl⟩:=hd
   subst Hx
   try simp only [d11,ha,↓zAH,EVq,TY,zAE,↓reduceIte,Nat.reduceLT,Nat.reduceLeDiff,Nat.reduceEqDiff,Nat.reduceAdd,Nat.reduceMul,Int.reduceLE,eq_self]
   refine zAD [0,1,4,17] ?_
   simp only [KQ,↓KP,↓reduceIte,Nat.reduceEqDiff]
   subst hY2
   first | refine run_if (by simp only [↓zAU,↓zAY,↓zAh,↓zAO,↓reduceIte,Nat.reduceEqDiff] <;> rfl) (fun h17=>?_) fun h17=>?_ | refine zCM (by simp only [↓zAU,↓zAY,↓zAh,↓zAO,↓reduceIte,Nat.reduceEqDiff] <;> rfl) (fun h17=>?_) fun h17=>?_
   · refine zDj (by rfl) ?_
     refine run_end Try.func78 Try.results78 (by simp only [aRes,↓zAU,↓KP,KQ,↓reduceIte,Nat.reduceEqDiff,zBh,TY] <;> rfl) (Weak.refl _ _ _) ?_
     refine ⟨?_,hFr,rfl⟩
     rw [← hup]
     first
       | (have h0:m = 0:=by omega
          subst h0
          rw [up_end];exact hHp)
       | (rw [up_stop (by omega) (by omega) (dec_t h17)];exact hHp)
   · refine zBt ?_
     subst hY1
     refine zAF fun Y3 hY3=>?_
     refine zAG ?_
     try simp only [ha,↓zAH,EVq,TY,zAE,↓reduceIte,Nat.reduceLT,Nat.reduceLeDiff,Nat.reduceEqDiff,Nat.reduceAdd,Nat.reduceMul,Int.reduceLE,eq_self]
     refine zDR (g_swap _ b _ _ l1 hb (by omega) (by omega)) (fun d Hx hd=>?_)
     obtain ⟨hHx,rfl⟩:=hd
     subst Hx
     try simp only [ha,↓zAH,EVq,TY,zAE,↓reduceIte,Nat.reduceLT,Nat.reduceLeDiff,Nat.reduceEqDiff,Nat.reduceAdd,Nat.reduceMul,Int.reduceLE,eq_self]
     refine zAD [0,4] ?_
     simp only [KQ,↓KP,↓reduceIte,Nat.reduceEqDiff]
     subst hY3
     refine zAG ?_
     try simp only [↓zAH,EVq,TY,zAE,↓reduceIte,Nat.reduceLT,Nat.reduceLeDiff,Nat.reduceEqDiff,Nat.reduceAdd,Nat.reduceMul,Int.reduceLE,eq_self]
     refine zAD [0,1] ?_
     simp only [KQ,↓KP,↓reduceIte,Nat.reduceEqDiff]
     refine zCX ?_
     refine zAD [0,1] ?_
     simp only [KQ,↓KP,↓reduceIte,Nat.reduceEqDiff]
     refine ih ((m - 1) / 2) _ _ (by omega) ⟨(m - 1) / 2,zDf l1 ((m - 1) / 2) m,rfl,by omega,by rw [zCO];exact hl1,hp_swap hab hFa hFb ha hb (by omega) (by omega),fr_set (Heap.get_lt hb) hFb hFr,?_,rfl⟩
     exact (up_step (by omega) (by omega) (dec_f h17)).trans hup
 · try simp only [d11,ha,↓zAH,EVq,TY,zAE,↓reduceIte,Nat.reduceLT,Nat.reduceLeDiff,Nat.reduceEqDiff,Nat.reduceAdd,Nat.reduceMul,Int.reduceLE,eq_self]
   refine zAD [0,1,4,17] ?_
   simp only [KQ,↓KP,↓reduceIte,Nat.reduceEqDiff]
   subst hY2
   refine run_if_t (by simp only [↓zAU,↓zAY,↓zAh,↓zAO,↓reduceIte,Nat.reduceEqDiff] <;> rfl) ?_
   refine zDj (by rfl) ?_
   refine run_end Try.func78 Try.results78 (by simp only [aRes,↓zAU,↓KP,KQ,↓reduceIte,Nat.reduceEqDiff,zBh,TY] <;> rfl) (Weak.refl _ _ _) ?_
   refine ⟨?_,hFr,rfl⟩
   rw [← hup]
   first
     | (have h0:m = 0:=by omega
        subst h0
        rw [up_end];exact hHp)
     | (rw [up_stop (by omega) (by omega) (dec_t h17)];exact hHp)
set_option maxHeartbeats 2000000 in
theorem h_init (H:Heap) (a:Nat) (l:List Int) (F:Nat → Prop) (h:Hp a l F H) (hN:l.length ≤ 1000000):Sound Try.prog 46 [.ifc 80 (.pt a 0 0)] H (fun d H'=>Hp a (initGo l.length l (l.length / 2)) F H' ∧ Fr F H H' ∧ d = .tup []):=by
 refine zAc Try.func46 rfl (by kernel_rfl) Try.ntmps46 (by simp) ?_
 obtain ⟨b,hab,hFa,hFb,ha,hb⟩:=id h
 have ew0:IntKind.i64.wrap ((l.length:Int).tdiv 2) = ((l.length / 2:Nat):Int):=by rw [Int.tdiv_eq_ediv_of_nonneg (by omega),zAf (by omega) (by omega)];omega
 have ew1:IntKind.i64.wrap (((l.length / 2:Nat):Int) - 1) = ((l.length / 2:Nat):Int) - 1:=zAf (by omega) (by omega)
 refine zAF fun Y0 hY0=>?_
 refine zAG ?_
 try simp only [ha,↓zAH,EVq,TY,zAE,↓reduceIte,Nat.reduceLT,Nat.reduceLeDiff,Nat.reduceEqDiff,Nat.reduceAdd,Nat.reduceMul,Int.reduceLE,eq_self]
 refine zDR (g_len _ b _) (fun d Hx hd=>?_)
 obtain ⟨hHx,rfl⟩:=hd
 subst Hx
 try simp only [ha,↓zAH,EVq,TY,zAE,↓reduceIte,Nat.reduceLT,Nat.reduceLeDiff,Nat.reduceEqDiff,Nat.reduceAdd,Nat.reduceMul,Int.reduceLE,eq_self]
 refine zAD [0,2] ?_
 simp only [KQ,↓KP,↓reduceIte,Nat.reduceEqDiff]
 subst hY0
 refine zAF fun Y1 hY1=>?_
 refine zAG ?_
 try simp only [ew0,ew1,↓zAH,EVq,TY,zAE,↓reduceIte,Nat.reduceLT,Nat.reduceLeDiff,Nat.reduceEqDiff,Nat.reduceAdd,Nat.reduceMul,Int.reduceLE,eq_self]
 refine zAs (by omega) ?_
 try simp only [ew0,ew1,↓zAH,EVq,TY,zAE,↓reduceIte,Nat.reduceLT,Nat.reduceLeDiff,Nat.reduceEqDiff,Nat.reduceAdd,Nat.reduceMul,Int.reduceLE,eq_self]
 refine zAD [0,2,3] ?_
 simp only [KQ,↓KP,↓reduceIte,Nat.reduceEqDiff]
 subst hY1
 refine zCf ?_
 refine zAD [0,2,3] ?_
 simp only [KQ,↓KP,↓reduceIte,Nat.reduceEqDiff]
 refine run_loop' (fun m e H1=>∃ (k:Nat) (l1:List Int),m = k ∧ k ≤ l.length ∧ l1.length = l.length ∧ Hp a l1 F H1 ∧ Fr F H H1 ∧ initGo l.length l1 k = initGo l.length l (l.length / 2) ∧ e = envL [(0,.ifc 80 (.pt a 0 0)),(2,iD l.length),(3,iD ((k:Int) - 1))]) (l.length / 2)
   ⟨l.length / 2,l,rfl,by omega,rfl,h,fr_refl F H,rfl,rfl⟩ ?_
 intro C hC m e H1 ih hI
 obtain ⟨k,l1,rfl,hk,hl1,hHp,hFr,hini,rfl⟩:=hI
 refine zAF fun Y2 hY2=>?_
 refine zAF fun Y3 hY3=>?_
 refine zAG ?_
 try simp only [↓zAH,EVq,TY,zAE,↓reduceIte,Nat.reduceLT,Nat.reduceLeDiff,Nat.reduceEqDiff,Nat.reduceAdd,Nat.reduceMul,Int.reduceLE,eq_self]
 refine zAD [0,2,3,10] ?_
 simp only [KQ,↓KP,↓reduceIte,Nat.reduceEqDiff]
 subst hY3
 first | refine run_if (by simp only [↓zAU,↓zAY,↓zAh,↓zAO,↓reduceIte,Nat.reduceEqDiff] <;> rfl) (fun h10=>?_) fun h10=>?_ | refine zCM (by simp only [↓zAU,↓zAY,↓zAh,↓zAO,↓reduceIte,Nat.reduceEqDiff] <;> rfl) (fun h10=>?_) fun h10=>?_
 · refine zBt ?_
   subst hY2
   refine zAF fun Y4 hY4=>?_
   refine zCf ?_
   have ek:((m:Int) - 1) = ((m - 1:Nat):Int):=by omega
   refine zAG ?_
   try simp only [ek,↓zAH,EVq,TY,zAE,↓reduceIte,Nat.reduceLT,Nat.reduceLeDiff,Nat.reduceEqDiff,Nat.reduceAdd,Nat.reduceMul,Int.reduceLE,eq_self]
   refine zDA (h_down _ a (m - 1) l.length l1 F hHp (by omega) (by omega) (by omega)) (fun d H2 hd=>?_)
   obtain ⟨hHp2,hFr2,bb,rfl⟩:=hd
   try simp only [ek,↓zAH,EVq,TY,zAE,↓reduceIte,Nat.reduceLT,Nat.reduceLeDiff,Nat.reduceEqDiff,Nat.reduceAdd,Nat.reduceMul,Int.reduceLE,eq_self]
   refine zAD [0,2,3] ?_
   simp only [KQ,↓KP,↓reduceIte,Nat.reduceEqDiff]
   refine zCX ?_
   subst hY4
   refine zAG ?_
   try simp only [↓zAH,EVq,TY,zAE,↓reduceIte,Nat.reduceLT,Nat.reduceLeDiff,Nat.reduceEqDiff,Nat.reduceAdd,Nat.reduceMul,Int.reduceLE,eq_self]
   refine zAD [0,2,3] ?_
   simp only [KQ,↓KP,↓reduceIte,Nat.reduceEqDiff]
   refine zAD [0,2,3] ?_
   simp only [KQ,↓KP,↓reduceIte,Nat.reduceEqDiff]
   obtain ⟨k,rfl⟩:∃ k,m = k + 1:=⟨m - 1,by omega⟩
   refine ih k _ _ (by omega) ⟨k,down l.length l1 k,rfl,by omega,by rw [down_len];exact hl1,hHp2,fr_trans hFr hFr2,hini,?_⟩
   rw [zAf (by omega) (by omega)]
   simp only [Int.natCast_add,Int.cast_ofNat_Int,Int.add_sub_cancel,Nat.add_sub_cancel]
 · refine zDj (by rfl) ?_
   refine run_end Try.func46 Try.results46 (by simp only [aRes,↓zAU,↓KP,KQ,↓reduceIte,Nat.reduceEqDiff,zBh,TY] <;> rfl) (Weak.refl _ _ _) ?_
   have h0:m = 0:=by omega
   subst h0
   refine ⟨?_,hFr,rfl⟩
   rw [← hini];exact hHp
set_option maxHeartbeats 2000000 in
theorem h_push (H:Heap) (a:Nat) (x:Int) (l:List Int) (F:Nat → Prop) (hF:∀ r,F r → r < H.length) (h:Hp a l F H) (hN:l.length < 1000000):Sound Try.prog 49 [.ifc 80 (.pt a 0 0),.ifc 3 (iD x)] H (fun d H'=>Hp a (up (l ++ [x]) l.length) F H' ∧ Fr F H H' ∧ d = .tup []):=by
 refine zAc Try.func49 rfl (by kernel_rfl) Try.ntmps49 (by simp) ?_
 refine zAF fun Y0 hY0=>?_
 refine zAG ?_
 try simp only [↓zAH,EVq,TY,zAE,↓reduceIte,Nat.reduceLT,Nat.reduceLeDiff,Nat.reduceEqDiff,Nat.reduceAdd,Nat.reduceMul,Int.reduceLE,eq_self]
 refine zDR (g_push _ a x l F hF h (by omega)) (fun d H1 hd=>?_)
 obtain ⟨hHp,hFr,rfl⟩:=hd
 obtain ⟨b,hab,hFa,hFb,ha,hb⟩:=id hHp
 try simp only [↓zAH,EVq,TY,zAE,↓reduceIte,Nat.reduceLT,Nat.reduceLeDiff,Nat.reduceEqDiff,Nat.reduceAdd,Nat.reduceMul,Int.reduceLE,eq_self]
 refine zAD [0] ?_
 simp only [KQ,↓KP,↓reduceIte,Nat.reduceEqDiff]
 subst hY0
 have hla:(l ++ [x]).length = l.length + 1:=by simp
 have ew:IntKind.i64.wrap (((l ++ [x]).length:Int) - 1) = ((l.length:Nat):Int):=by rw [hla,zAf (by omega) (by omega)];omega
 refine zAG ?_
 try simp only [ha,ew,↓zAH,EVq,TY,zAE,↓reduceIte,Nat.reduceLT,Nat.reduceLeDiff,Nat.reduceEqDiff,Nat.reduceAdd,Nat.reduceMul,Int.reduceLE,eq_self]
 refine zDR (g_len _ b _) (fun d Hx hd=>?_)
 obtain ⟨hHx,rfl⟩:=hd
 subst Hx
 try simp only [ha,ew,↓zAH,EVq,TY,zAE,↓reduceIte,Nat.reduceLT,Nat.reduceLeDiff,Nat.reduceEqDiff,Nat.reduceAdd,Nat.reduceMul,Int.reduceLE,eq_self]
 refine zDA (h_up _ a l.length (l ++ [x]) F hHp (by omega) (by omega)) (fun d H2 hd=>?_)
 obtain ⟨hHp2,hFr2,rfl⟩:=hd
 try simp only [ha,ew,↓zAH,EVq,TY,zAE,↓reduceIte,Nat.reduceLT,Nat.reduceLeDiff,Nat.reduceEqDiff,Nat.reduceAdd,Nat.reduceMul,Int.reduceLE,eq_self]
 refine zAD [] ?_
 simp only [KQ,↓KP,↓reduceIte,Nat.reduceEqDiff]
 refine run_end Try.func49 Try.results49 (by simp only [aRes,↓zAU,↓KP,KQ,↓reduceIte,Nat.reduceEqDiff,zBh,TY] <;> rfl) (Weak.refl _ _ _) ?_
 exact ⟨hHp2,fr_trans hFr hFr2,rfl⟩
set_option maxHeartbeats 2000000 in
theorem h_pop (H:Heap) (a:Nat) (l l2:List Int) (F:Nat → Prop) (hF:∀ r,F r → r < H.length) (h:Hp a l F H) (hl:l ≠ []) (hl2:l2 = down (l.length - 1) (zDf l 0 (l.length - 1)) 0) (hne:l2 ≠ []) (hN:l.length ≤ 1000000):Sound Try.prog 48 [.ifc 80 (.pt a 0 0)] H (fun d H'=>Hp a l2.dropLast F H' ∧ Fr F H H' ∧ d = .ifc 3 (iD (l2.getLast hne))):=by
 refine zAc Try.func48 rfl (by kernel_rfl) Try.ntmps48 (by simp) ?_
 obtain ⟨b,hab,hFa,hFb,ha,hb⟩:=id h
 have hpos:0 < l.length:=List.length_pos_iff.2 hl
 have ew:IntKind.i64.wrap ((l.length:Int) - 1) = ((l.length - 1:Nat):Int):=by rw [zAf (by omega) (by omega)];omega
 have hlen2:l2.length = l.length:=by rw [hl2,down_len,zCO]
 have hz:iD 0 = iD ((0:Nat):Int):=rfl
 refine zAF fun Y0 hY0=>?_
 refine zAG ?_
 try simp only [↓zAH,EVq,TY,zAE,↓reduceIte,Nat.reduceLT,Nat.reduceLeDiff,Nat.reduceEqDiff,Nat.reduceAdd,Nat.reduceMul,Int.reduceLE,eq_self]
 refine zAD [0] ?_
 simp only [KQ,↓KP,↓reduceIte,Nat.reduceEqDiff]
 subst hY0
 refine zAF fun Y1 hY1=>?_
 refine zAG ?_
 try simp only [ha,ew,↓zAH,EVq,TY,zAE,↓reduceIte,Nat.reduceLT,Nat.reduceLeDiff,Nat.reduceEqDiff,Nat.reduceAdd,Nat.reduceMul,Int.reduceLE,eq_self]
 refine zDR (g_len _ b _) (fun d Hx hd=>?_)
 obtain ⟨hHx,rfl⟩:=hd
 subst Hx
 try simp only [ha,ew,↓zAH,EVq,TY,zAE,↓reduceIte,Nat.reduceLT,Nat.reduceLeDiff,Nat.reduceEqDiff,Nat.reduceAdd,Nat.reduceMul,Int.reduceLE,eq_self]
 refine zAD [0,3] ?_
 simp only [KQ,↓KP,↓reduceIte,Nat.reduceEqDiff]
 subst hY1
 refine zAF fun Y2 hY2=>?_
 refine zAG ?_
 try simp only [ha,↓zAH,EVq,TY,zAE,↓reduceIte,Nat.reduceLT,Nat.reduceLeDiff,Nat.reduceEqDiff,Nat.reduceAdd,Nat.reduceMul,Int.reduceLE,eq_self]
 refine zDR (g_swap _ b 0 (l.length - 1) l hb (by omega) (by omega)) (fun d Hx hd=>?_)
 obtain ⟨hHx,rfl⟩:=hd
 subst Hx
 have hHp1:=hp_swap hab hFa hFb ha hb (show 0 < l.length by omega) (show l.length - 1 < l.length by omega)
 have hFr1:=fr_set (F:=F) (H:=H) (x:=some (Row.cells 1 (List.map iD ((l.set 0 l[l.length - 1]).set (l.length - 1) l[0])))) (Heap.get_lt hb) hFb (fr_refl F H)
 try simp only [ha,↓zAH,EVq,TY,zAE,↓reduceIte,Nat.reduceLT,Nat.reduceLeDiff,Nat.reduceEqDiff,Nat.reduceAdd,Nat.reduceMul,Int.reduceLE,eq_self]
 refine zAD [0,3] ?_
 simp only [KQ,↓KP,↓reduceIte,Nat.reduceEqDiff]
 subst hY2
 refine zAF fun Y3 hY3=>?_
 refine zAG ?_
 try simp only [↓zAH,EVq,TY,zAE,↓reduceIte,Nat.reduceLT,Nat.reduceLeDiff,Nat.reduceEqDiff,Nat.reduceAdd,Nat.reduceMul,Int.reduceLE,eq_self]
 refine zDA (h_down _ a 0 (l.length - 1) _ F hHp1 (by rw [zCO];omega) (by omega) (by rw [zCO];omega)) (fun d H2 hd=>?_)
 obtain ⟨hHp2,hFr2,bb,rfl⟩:=hd
 rw [← hl2] at hHp2
 have hFr3:=fr_trans hFr1 hFr2
 try simp only [↓zAH,EVq,TY,zAE,↓reduceIte,Nat.reduceLT,Nat.reduceLeDiff,Nat.reduceEqDiff,Nat.reduceAdd,Nat.reduceMul,Int.reduceLE,eq_self]
 refine zAD [0] ?_
 simp only [KQ,↓KP,↓reduceIte,Nat.reduceEqDiff]
 subst hY3
 refine zAF fun Y4 hY4=>?_
 refine zAG ?_
 try simp only [↓zAH,EVq,TY,zAE,↓reduceIte,Nat.reduceLT,Nat.reduceLeDiff,Nat.reduceEqDiff,Nat.reduceAdd,Nat.reduceMul,Int.reduceLE,eq_self]
 refine zDR (g_pop _ a l2 F (fun r hr=>Nat.lt_of_lt_of_le (hF r hr) hFr3.1) hHp2 hne (by omega)) (fun d H3 hd=>?_)
 obtain ⟨hHp4,hFr4,rfl⟩:=hd
 try simp only [↓zAH,EVq,TY,zAE,↓reduceIte,Nat.reduceLT,Nat.reduceLeDiff,Nat.reduceEqDiff,Nat.reduceAdd,Nat.reduceMul,Int.reduceLE,eq_self]
 refine zAD [2] ?_
 simp only [KQ,↓KP,↓reduceIte,Nat.reduceEqDiff]
 subst hY4
 refine zCq Try.func48 Try.results48 (by simp only [aRes,↓zAU,↓KP,KQ,↓reduceIte,Nat.reduceEqDiff,zBh,TY] <;> rfl) (Weak.refl _ _ _) ?_
 exact ⟨hHp4,fr_trans hFr3 hFr4,rfl⟩
end Go.Proofs.Qd
