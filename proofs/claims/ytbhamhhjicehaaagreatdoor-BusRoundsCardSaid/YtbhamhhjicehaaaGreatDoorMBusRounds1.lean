/- Texts of mine, one behind another. -/
import Derived.WalkKit
import Derived.Deep.Quiet
set_option linter.unusedSimpArgs false
set_option linter.unusedVariables false
/- An abstract heap beside the model's world: what is known of the blocks of our own and of the world at the beginning; the model's operations run over it; it is sound. -/
namespace Go.AX
open Go Go.RowKit
def qC {α:Type}:Nat→List (Nat×α)→Option α
 |_,[]=>none
 |t,(k,v)::r=>if t=k then some v else qC t r
def pO {α:Type} (t:Nat) (x:α):List (Nat×α)→List (Nat×α)
 | []=>[(t,x)]
 |(k,v)::r=>if t=k then (k,x)::r else (k,v)::pO t x r
def BM {α:Type} (t:Nat):List (Nat×α)→List (Nat×α)
 | []=>[]
 |(k,v)::r=>if t=k then BM t r else (k,v)::BM t r
theorem nV {α:Type} (t k:Nat) (v:α) (r):qC t ((k,v)::r)=if t=k then some v else qC t r:=Eq.trans rfl rfl
theorem Il {α:Type} (t:Nat) (x:α) (b:Nat):∀ l,qC b (pO t x l)=if b=t then some x else qC b l
 | []=>by simp[pO,qC]
 |(k,v)::r=>by
  by_cases h:t=k
  ·subst h;by_cases hb:b=t<;>simp[pO,qC,hb]
  ·by_cases hb:b=k
   ·subst hb;simp[pO,qC,h,Ne.symm h]
   ·simp[pO,qC,h,hb,Il t x b r]
theorem xG {α:Type} (t:Nat) (b:Nat):∀ l:List (Nat×α),qC b (BM t l)=if b=t then none else qC b l
 | []=>by simp[BM,qC]
 |(k,v)::r=>by
  by_cases h:t=k
  ·subst h
   simp only[BM,if_true,xG t b r,qC]
   by_cases hb:b=t<;>simp[hb]
  ·by_cases hb:b=k
   ·subst hb;simp[BM,qC,h,Ne.symm h]
   ·simp[BM,qC,h,hb,xG t b r]
inductive iD where
 |cells (cs:List Value) (elem:TypeId) (size:Nat)
 |gW (es:List (Value×Value))
 |obj (o:Obj)
def isC:Obj→Bool
 |.cells _ _ _=>true
 |_=>false
def mJ (en:Array MapEntry) (cl:Nat):Prop:=(∀ e∈en.toList,e.born<cl)∧(en.toList.map (·.born)).Nodup
structure AH where
 w0:World
 own:List (Nat×iD)
def AH.find (H:AH) (b:Nat):Option iD:=qC b H.own
def AH.add (H:AH) (b:Nat) (k:iD):AH:={ H with own:=(b,k)::H.own }
def AH.set (H:AH) (b:Nat) (k:iD):AH:={ H with own:=pO b k H.own }
def AH.del (H:AH) (b:Nat):AH:={ H with own:=BM b H.own }
def aG (H:AH) (b:Nat):Prop:=H.w0.heap.size≤b∧H.find b=none
def AH.base (H:AH):Nat:=H.w0.heap.size
def iD.ok (w:World) (b:Nat):iD→Prop
 |.cells cs e sz=>∃ arr:Array Value,w.heap[b]?=some (.cells arr e (0,0))∧arr.size=sz∧cs <+: arr.toList
 |.gW es=>∃ (en:Array MapEntry) (cl:Nat),w.heap[b]?=some (.map en cl)∧en.toList.map (fun x=>(x.key,x.val))=es∧mJ en cl
 |.obj o=>w.heap[b]?=some o∧isC o=false
structure Sat (E:Nat→Option Obj) (H:AH) (w:World):Prop where
 below:Below H.w0.heap.size H.w0 w
 known:∀ b k,H.find b=some k→H.w0.heap.size≤b∧b<w.heap.size∧k.ok w b
 far:∀ b o,E b=some o→H.w0.heap.size≤b∧H.find b=none∧w.heap[b]?=some o
variable {E:Nat→Option Obj}
def AH.rd (H:AH) (a:Addr):Option Value:=
 match H.find a.block with
 |some (.cells cs _ _)=>if a.spot.isSome then none else cs[a.off]?
 |some (.gW _)=>none
 |some (.obj _)=>none
 |none=>if a.block<H.w0.heap.size then H.w0.cell? a else none
def AH.UR (H:AH) (r:Nat):Option (Option (TypeId×Nat)):=
 match H.find r with
 |some (.cells _ e sz)=>some (some (e,sz))
 |some (.gW _)=>some none
 |some (.obj _)=>none
 |none=>if r<H.w0.heap.size then some (H.w0.shape? r) else none
def AH.UG (H:AH) (a:Addr):Option Bool:=
 match H.find a.block with
 |some (.obj _)=>none
 |some _=>some false
 |none=>if a.block<H.w0.heap.size then some (H.w0.frozen? a) else none
def AH.le (H' H:AH):Prop:=H'.w0=H.w0∧∀ b k,H'.find b=some k→H.find b=some k
theorem AH.le_refl (H:AH):H.le H:=⟨rfl,fun _ _ h=>h⟩
theorem AH.le_trans {A B C:AH} (h:A.le B) (k:B.le C):A.le C:=⟨h.1.trans k.1,fun _ _ x=>k.2 _ _ (h.2 _ _ x)⟩
theorem AH.aK {A H:AH} {b:Nat} {k:iD} (h:A.le H) (hf:H.find b=none):A.le (H.add b k):=
 ⟨h.1,fun b' k' x=>by
  have:=h.2 _ _ x
  simp only[AH.find,AH.add,nV]
  by_cases e:b'=b
  ·subst e;rw[hf]at this;cases this
  ·simp[e];exact this⟩
theorem AH.KN {H:AH} {b:Nat}:(H.del b).le H:=
 ⟨rfl,fun b' k' x=>by
  simp only[AH.find,AH.del,xG]at x
  by_cases e:b'=b
  ·simp[e]at x
  ·rw[if_neg e]at x;exact x⟩
theorem Sat.mono {H H':AH} {w:World} (h:Sat E H w) (hl:H'.le H):Sat E H' w:=
 ⟨hl.1▸h.below,fun b k x=>hl.1▸h.known b k (hl.2 _ _ x),fun b o x=>by
  obtain⟨h1,h2,h3⟩:=h.far b o x
  refine⟨hl.1▸h1,?_,h3⟩
  cases hf:H'.find b with
  |none=>rfl
  |some k=>rw[hl.2 _ _ hf]at h2;cases h2⟩
theorem dh (H:AH) (b b':Nat) (k:iD):(H.add b k).find b'=if b'=b then some k else H.find b':=rfl
theorem dw (H:AH) (b b':Nat) (k:iD):(H.set b k).find b'=if b'=b then some k else H.find b':=Il _ _ _ _
theorem iL (H:AH) (b b':Nat):(H.del b).find b'=if b'=b then none else H.find b':=xG _ _ _
@[simp] theorem KO (H:AH) (b:Nat) (k:iD):(H.add b k).w0=H.w0:=rfl
@[simp] theorem afc (H:AH) (b:Nat) (k:iD):(H.set b k).w0=H.w0:=rfl
@[simp] theorem afd (H:AH) (b:Nat):(H.del b).w0=H.w0:=rfl
theorem Sat.start (w:World):Sat (fun _=>none) ⟨w,[]⟩ w:=⟨Below.refl _ _,fun b k h=>(by cases h),fun b o h=>(by cases h)⟩
theorem Sat.rd {H:AH} {w:World} (h:Sat E H w) {a:Addr} {v:Value} (hr:H.rd a=some v):w.cell? a=some v:=by
 unfold AH.rd at hr
 split at hr
 ·rename_i cs e sz hf
  obtain⟨_,_,arr,ha,_,hp⟩:=h.known _ _ hf
  split at hr
  ·cases hr
  ·rename_i hs
   simp only[World.cell?,ha,hs]
   obtain⟨t,ht⟩:=hp
   have h1:arr.toList[a.off]?=some v:=by
    rw[←ht,List.getElem?_append]
    have:a.off<cs.length:=by
     rcases Nat.lt_or_ge a.off cs.length with h | h
     ·exact h
     ·rw[List.getElem?_eq_none h]at hr;cases hr
    simp[this];simpa [this]using hr
   simpa using h1
 ·cases hr
 ·cases hr
 ·split at hr
  ·rename_i hlt;rw[h.below.cell hlt];exact hr
  ·cases hr
theorem Sat.UR {H:AH} {w:World} (h:Sat E H w) {r:Nat} {s:Option (TypeId×Nat)} (hr:H.UR r=some s):w.shape? r=s:=by
 unfold AH.UR at hr
 split at hr
 ·rename_i cs e sz hf
  obtain⟨_,_,arr,ha,hs,hp⟩:=h.known _ _ hf
  simp only[Option.some.injEq]at hr
  rw[←hr];simp[World.shape?,ha,hs]
 ·rename_i es hf
  obtain⟨_,_,en,cl,ha,_⟩:=h.known _ _ hf
  simp only[Option.some.injEq]at hr
  rw[←hr];simp[World.shape?,ha]
 ·cases hr
 ·split at hr
  ·rename_i hlt
   have:=h.below.block r hlt
   simp only[Option.some.injEq]at hr
   rw[←hr];simp[World.shape?,this]
  ·cases hr
theorem Sat.UG {H:AH} {w:World} (h:Sat E H w) {a:Addr} {s:Bool} (hr:H.UG a=some s):w.frozen? a=s:=by
 unfold AH.UG at hr
 split at hr
 ·cases hr
 ·rename_i k hno hf
  simp only[Option.some.injEq]at hr
  subst hr
  obtain⟨_,_,hk⟩:=h.known _ _ hf
  cases k with
  |obj o=>exact absurd rfl (hno o)
  |cells cs e sz=>
   obtain⟨arr,ha,hs,hp⟩:=hk
   simp[World.frozen?,ha]
  |gW es=>
   obtain⟨en,cl,ha,_⟩:=hk
   simp[World.frozen?,ha]
 ·split at hr
  ·rename_i hlt
   simp only[Option.some.injEq]at hr
   rw[←hr];exact h.below.frozen hlt
  ·cases hr
def wr (cs:List Value) (off:Nat) (v:Value):List Value:=if off<cs.length then cs.set off v else cs++[v]
theorem aa8 {cs:List Value} {off:Nat} {v:Value} (h:off<cs.length):wr cs off v=cs.set off v:=by simp[wr,h]
theorem KP {cs l:List Value} {off:Nat} {v:Value} (h:cs <+: l) (h1:off≤cs.length) (h2:off<l.length):wr cs off v <+: l.set off v:=by
 obtain⟨t,rfl⟩:=h
 unfold wr
 split
 ·rename_i hlt
  exact⟨t,by rw[List.set_append];simp[hlt]⟩
 ·rename_i hge
  have e:off=cs.length:=by omega
  subst e
  cases t with
  |nil=>simp at h2
  |cons x t=>exact⟨t,by rw[List.set_append];simp⟩
def iM:Value→Bool
 |.agg _ | .tuple _=>false
 |_=>true
def BN (es:List (Value×Value)) (en:Array MapEntry) (cl:Nat):Prop:=en.toList.map (fun x=>(x.key,x.val))=es∧mJ en cl
def dY (P:Program) {α:Type}:Sem α→AH→(α→AH→Prop)→Prop
 |.pure a,H,K=>K a H
 |.load _ a k,H,K=>match H.rd a with
  |some v=>dY P (k v) H K
  |none=>False
 |.store _ a v k,H,K=>iM v=true∧a.spot=none∧match H.find a.block with
  |some (.cells cs e sz)=>a.off<sz∧a.off≤cs.length∧dY P k (H.set a.block (.cells (wr cs a.off v) e sz)) K
  |_=>False
 |.new (.cells c e fr) k,H,K=>fr=(0,0)∧∀ b,aG H b→dY P (k b) (H.add b (.cells c.toList e c.size)) K
 |.new (.map en cl) k,H,K=>en=#[]∧∀ b,aG H b→dY P (k b) (H.add b (.gW [])) K
 |.new (.mapIter m s n l) k,H,K=>∀ b,aG H b→dY P (k b) (H.add b (.obj (.mapIter m s n l))) K
 |.new _ _,_,_=>False
 |.shape r k,H,K=>match H.UR r with
  |some s=>dY P (k s) H K
  |none=>False
 |.freeze _ _ _,_,_=>False
 |.frozen a k,H,K=>match H.UG a with
  |some s=>dY P (k s) H K
  |none=>False
 |.getObj r k,H,K=>
  match H.find r with
  |some (.gW es)=>∀ en cl,BN es en cl→dY P (k (.map en cl)) H K
  |some (.obj o)=>dY P (k o) H K
  |some (.cells _ _ _)=>False
  |none=>if r<H.w0.heap.size then match H.w0.heap[r]? with
    |some (.map en cl)=>dY P (k (.map en cl)) H K
    |_=>False
   else False
 |.setObj r o k,H,K=>match H.find r,o with
  |some (.gW _),.map en cl=>mJ en cl∧dY P k (H.set r (.gW (en.toList.map fun x=>(x.key,x.val)))) K
  |some (.obj _),o=>isC o=false∧dY P k (H.set r (.obj o)) K
  |_,_=>False
 |.choose q k,H,K=>if q.forced then dY P (k 0) H K else ∀ t,dY P (k (q.cut t)) H K
 |.sys _ _,_,_=>False
 |.program k,H,K=>dY P (k P) H K
 |.mark _ k,H,K=>dY P k H K
 |.halt _,_,_=>False
theorem Sat.setCells {H:AH} {w:World} (h:Sat E H w) {a:Addr} {v:Value} {cs:List Value} {e:TypeId} {sz:Nat} (hf:H.find a.block=some (.cells cs e sz))
  (hs:a.spot=none) (h1:a.off<sz) (h2:a.off≤cs.length):Sat E (H.set a.block (.cells (wr cs a.off v) e sz)) (w.setCell a v)∧(w.cell? a).isSome∧w.frozen? a=false:=by
 obtain⟨hb,hlt,arr,ha,hsz,hp⟩:=h.known _ _ hf
 refine⟨⟨h.below.setCell hb v,fun b k hk=>?_,fun b o ho=>?_⟩,?_,?_⟩
 case refine_2=>
  obtain⟨q1,q2,q3⟩:=h.far b o ho
  have hne:b≠a.block:=fun e=>by subst e;rw[hf]at q2;cases q2
  exact⟨q1,by rw[dw,if_neg hne];exact q2,by rw[Below.heap_setCell _ _ _ _ hne];exact q3⟩
 ·rw[dw]at hk
  split at hk
  ·rename_i e1
   subst e1
   cases hk
   refine⟨hb,by simpa using hlt,arr.set a.off v (by omega),?_,by simp[hsz],?_⟩
   ·simp[World.setCell,Array.getElem?_modify,ha,hs,Array.setIfInBounds,hsz,h1]
   ·simpa using KP (v:=v) hp h2 (by simp;omega)
  ·rename_i hne
   obtain⟨q1,q2,q3⟩:=h.known _ _ hk
   refine⟨q1,by simpa using q2,?_⟩
   have hbk:(w.setCell a v).heap[b]?=w.heap[b]?:=Below.heap_setCell _ _ _ _ hne
   cases k<;>simp only[iD.ok,hbk]at q3 ⊢<;>exact q3
 ·simp[World.cell?,ha,hs,hsz,h1]
 ·simp[World.frozen?,ha]
theorem Sat.alloc {H:AH} {w:World} (h:Sat E H w) {o:Obj} {k:iD} (hk:∀ w':World,w'.heap[w.heap.size]?=some o→k.ok w' w.heap.size):aG H w.heap.size∧Sat E (H.add w.heap.size k) (w.alloc o):=by
 have hfn:H.find w.heap.size=none:=by
  cases hf:H.find w.heap.size with
  |none=>rfl
  |some k=>have:=(h.known _ _ hf).2.1;omega
 refine⟨⟨h.below.size,hfn⟩,⟨h.below.alloc h.below.size o,fun b k' hk'=>?_,fun b o' ho=>?_⟩⟩
 case refine_2=>
  obtain⟨q1,q2,q3⟩:=h.far b o' ho
  have hlt:b<w.heap.size:=(Array.getElem?_eq_some_iff.1 q3).1
  exact⟨q1,by rw[dh,if_neg (by omega)];exact q2,by rw[Below.heap_alloc _ _ _ hlt];exact q3⟩
 rw[dh]at hk'
 split at hk'
 ·rename_i e1;subst e1;cases hk'
  exact⟨h.below.size,by simp,hk _ (by show(w.heap.push o)[w.heap.size]?=some o;simp)⟩
 ·rename_i hne
  obtain⟨q1,q2,q3⟩:=h.known _ _ hk'
  refine⟨q1,by simp;omega,?_⟩
  have hbk:(w.alloc o).heap[b]?=w.heap[b]?:=Below.heap_alloc _ _ _ q2
  cases k'<;>simp only[iD.ok,hbk]at q3 ⊢<;>exact q3
theorem Sat.YG {H:AH} {w:World} (h:Sat E H w) {r:Nat} {en:Array MapEntry} {cl:Nat} {es:List (Value×Value)} (hf:H.find r=some (.gW es)) (hb:mJ en cl) :
  Sat E (H.set r (.gW (en.toList.map fun x=>(x.key,x.val)))) { w with heap:=w.heap.setIfInBounds r (.map en cl) }:=by
 obtain⟨hr,hlt,en0,cl0,ha,_⟩:=h.known _ _ hf
 refine⟨⟨h.below.os,h.below.tape,h.below.output,by simpa using h.below.size,fun k hk=>?_⟩,fun b k hk=>?_,fun b o ho=>?_⟩
 case refine_3=>
  obtain⟨q1,q2,q3⟩:=h.far b o ho
  have hne:b≠r:=fun e=>by subst e;rw[hf]at q2;cases q2
  exact⟨q1,by rw[dw,if_neg hne];exact q2,by
   show(w.heap.setIfInBounds r _)[b]?=_
   rw[Array.getElem?_setIfInBounds_ne (Ne.symm hne)];exact q3⟩
 ·have hne:r≠k:=by have:k<H.w0.heap.size:=hk;omega
  show(w.heap.setIfInBounds r _)[k]?=_
  rw[Array.getElem?_setIfInBounds_ne hne]
  exact h.below.block k hk
 ·rw[dw]at hk
  split at hk
  ·rename_i e1;subst e1;cases hk
   exact⟨hr,by simpa using hlt,en,cl,by simp[hlt],rfl,hb⟩
  ·rename_i hne
   obtain⟨q1,q2,q3⟩:=h.known _ _ hk
   refine⟨q1,by simpa using q2,?_⟩
   have hbk:({ w with heap:=w.heap.setIfInBounds r (.map en cl) }:World).heap[b]?=w.heap[b]?:=Array.getElem?_setIfInBounds_ne (Ne.symm hne)
   cases k<;>simp only[iD.ok,hbk]at q3 ⊢<;>exact q3
theorem Sat.afe {H:AH} {w:World} (h:Sat E H w) {r:Nat} {o o':Obj} (hf:H.find r=some (.obj o)) (hb:isC o'=false) :
  Sat E (H.set r (.obj o')) { w with heap:=w.heap.setIfInBounds r o' }:=by
 obtain⟨hr,hlt,ha,_⟩:=h.known _ _ hf
 refine⟨⟨h.below.os,h.below.tape,h.below.output,by simpa using h.below.size,fun k hk=>?_⟩,fun b k hk=>?_,fun b o ho=>?_⟩
 case refine_3=>
  obtain⟨q1,q2,q3⟩:=h.far b o ho
  have hne:b≠r:=fun e=>by subst e;rw[hf]at q2;cases q2
  exact⟨q1,by rw[dw,if_neg hne];exact q2,by
   show(w.heap.setIfInBounds r _)[b]?=_
   rw[Array.getElem?_setIfInBounds_ne (Ne.symm hne)];exact q3⟩
 ·have hne:r≠k:=by have:k<H.w0.heap.size:=hk;omega
  show(w.heap.setIfInBounds r _)[k]?=_
  rw[Array.getElem?_setIfInBounds_ne hne]
  exact h.below.block k hk
 ·rw[dw]at hk
  split at hk
  ·rename_i e1;subst e1;cases hk
   exact⟨hr,by simpa using hlt,by simp[hlt],hb⟩
  ·rename_i hne
   obtain⟨q1,q2,q3⟩:=h.known _ _ hk
   refine⟨q1,by simpa using q2,?_⟩
   have hbk:({ w with heap:=w.heap.setIfInBounds r o' }:World).heap[b]?=w.heap[b]?:=Array.getElem?_setIfInBounds_ne (Ne.symm hne)
   cases k<;>simp only[iD.ok,hbk]at q3 ⊢<;>exact q3
theorem Sat.drew {H:AH} {w:World} (h:Sat E H w):Sat E H { w with drawn:=w.drawn+1 }:=
 ⟨h.below.drew,fun b k hk=>(by obtain⟨a,b,c⟩:=h.known _ _ hk;exact⟨a,b,by cases k<;>exact c⟩),fun b o ho=>h.far b o ho⟩
theorem lT (P:Program) {α:Type} (s:Sem α):∀ (H:AH) (K:α→AH→Prop) (w:World),dY P s H K→Sat E H w→∃ a w' H',s.run P w=.ok a w'∧Sat E H' w'∧K a H':=by
 induction s with
 |pure a=>intro H K w h hs;exact⟨a,w,H,rfl,hs,h⟩
 |load m a k ih=>
  intro H K w h hs
  simp only[dY]at h
  split at h
  ·rename_i v hv
   obtain⟨x,w',H',h1,h2⟩:=ih v H K w h hs
   exact⟨x,w',H',by simp only[Sem.run,hs.rd hv];exact h1,h2⟩
  ·exact h.elim
 |store m a v k ih=>
  intro H K w h hs
  simp only[dY]at h
  obtain⟨hv,hsp,h⟩:=h
  split at h
  ·rename_i cs e sz hf
   obtain⟨h1,h2,h3⟩:=h
   obtain⟨q1,q2,q3⟩:=hs.setCells (v:=v) hf hsp h1 h2
   obtain⟨x,w',H',h4,h5⟩:=ih _ K _ h3 q1
   obtain⟨u,hu⟩:=Option.isSome_iff_exists.1 q2
   refine⟨x,w',H',?_,h5⟩
   cases v<;>first | (simp[iM]at hv;done) | (simp only[Sem.run,hu,q3];exact h4)
  ·exact h.elim
 |new o k ih=>
  intro H K w h hs
  cases o with
  |cells c e fr=>
   simp only[dY]at h
   obtain⟨rfl,h⟩:=h
   obtain⟨q1,q2⟩:=hs.alloc (o:=.cells c e (0,0)) (k:=.cells c.toList e c.size) (fun w' hw'=>⟨c,hw',rfl,List.prefix_refl _⟩)
   obtain⟨x,w',H',h4,h5⟩:=ih _ _ K _ (h _ q1) q2
   exact⟨x,w',H',by simp only[Sem.run];exact h4,h5⟩
  |map en cl=>
   simp only[dY]at h
   obtain⟨rfl,h⟩:=h
   obtain⟨q1,q2⟩:=hs.alloc (o:=.map #[] cl) (k:=.gW []) (fun w' hw'=>⟨#[],cl,hw',rfl,by simp[mJ]⟩)
   obtain⟨x,w',H',h4,h5⟩:=ih _ _ K _ (h _ q1) q2
   exact⟨x,w',H',by simp only[Sem.run];exact h4,h5⟩
  |mapIter m s n l=>
   simp only[dY]at h
   obtain⟨q1,q2⟩:=hs.alloc (o:=.mapIter m s n l) (k:=.obj (.mapIter m s n l)) (fun w' hw'=>⟨hw',rfl⟩)
   obtain⟨x,w',H',h4,h5⟩:=ih _ _ K _ (h _ q1) q2
   exact⟨x,w',H',by simp only[Sem.run];exact h4,h5⟩
  |_=>simp only[dY]at h
 |shape r k ih=>
  intro H K w h hs
  simp only[dY]at h
  split at h
  ·rename_i s he
   obtain⟨x,w',H',h4,h5⟩:=ih _ _ K _ h hs
   exact⟨x,w',H',by simp only[Sem.run,hs.UR he];exact h4,h5⟩
  ·exact h.elim
 |freeze a n k ih=>intro H K w h hs;simp only[dY]at h
 |frozen a k ih=>
  intro H K w h hs
  simp only[dY]at h
  split at h
  ·rename_i s he
   obtain⟨x,w',H',h4,h5⟩:=ih _ _ K _ h hs
   exact⟨x,w',H',by simp only[Sem.run,hs.UG he];exact h4,h5⟩
  ·exact h.elim
 |getObj r k ih=>
  intro H K w h hs
  simp only[dY]at h
  split at h
  ·rename_i es he
   obtain⟨_,_,en,cl,ha,h1,h2⟩:=hs.known _ _ he
   obtain⟨x,w',H',h4,h5⟩:=ih _ _ K _ (h en cl ⟨h1,h2⟩) hs
   exact⟨x,w',H',by simp only[Sem.run,ha];exact h4,h5⟩
  ·rename_i o he
   obtain⟨_,_,ha,hc⟩:=hs.known _ _ he
   obtain⟨x,w',H',h4,h5⟩:=ih _ _ K _ h hs
   exact⟨x,w',H',by simp only[Sem.run,ha];cases o<;>first | (simp[isC]at hc;done) | exact h4,h5⟩
  ·exact h.elim
  ·split at h
   ·rename_i hlt
    split at h
    ·rename_i en cl he
     obtain⟨x,w',H',h4,h5⟩:=ih _ _ K _ h hs
     exact⟨x,w',H',by simp only[Sem.run,hs.below.block r hlt,he];exact h4,h5⟩
    ·exact h.elim
   ·exact h.elim
 |setObj r o k ih=>
  intro H K w h hs
  simp only[dY]at h
  split at h
  ·rename_i es en cl hf
   obtain⟨_,_,en0,cl0,ha,_⟩:=hs.known _ _ hf
   obtain⟨x,w',H',h4,h5⟩:=ih _ K _ h.2 (hs.YG hf h.1)
   exact⟨x,w',H',by simp only[Sem.run,ha];exact h4,h5⟩
  ·rename_i o1 hf
   obtain⟨_,_,ha,hc⟩:=hs.known _ _ hf
   obtain⟨x,w',H',h4,h5⟩:=ih _ K _ h.2 (hs.afe hf h.1)
   exact⟨x,w',H',by simp only[Sem.run,ha];cases o1<;>first | (simp[isC]at hc;done) | exact h4,h5⟩
  ·exact h.elim
 |choose q k ih=>
  intro H K w h hs
  simp only[dY]at h
  split at h
  ·rename_i hq
   obtain⟨x,w',H',h4,h5⟩:=ih _ _ K _ h hs
   exact⟨x,w',H',by simp only[Sem.run,hq,if_true];exact h4,h5⟩
  ·rename_i hq
   obtain⟨x,w',H',h4,h5⟩:=ih _ _ K _ (h (w.tape w.drawn q)) hs.drew
   exact⟨x,w',H',by simp only[Sem.run,hq];exact h4,h5⟩
 |sys c k ih=>intro H K w h hs;simp only[dY]at h
 |program k ih=>
  intro H K w h hs
  simp only[dY]at h
  obtain⟨x,w',H',h4,h5⟩:=ih _ _ K _ h hs
  exact⟨x,w',H',by simp only[Sem.run];exact h4,h5⟩
 |mark m k ih=>
  intro H K w h hs
  simp only[dY]at h
  obtain⟨x,w',H',h4,h5⟩:=ih _ K _ h hs
  exact⟨x,w',H',by simp only[Sem.run];exact h4,h5⟩
 |halt x=>intro H K w h hs;simp only[dY]at h
theorem dO (P:Program) {α β:Type} (x:Sem α) (f:α→Sem β):∀ (H:AH) (K:β→AH→Prop),dY P (x >>= f) H K=dY P x H (fun a H'=>dY P (f a) H' K):=by
 show ∀ (H:AH) (K:β→AH→Prop),dY P (x.bind f) H K=_
 induction x with
 |pure a=>intro H K;rfl
 |load m a k ih=>intro H K;simp only[Sem.bind,dY,ih]
 |store m a v k ih=>intro H K;simp only[Sem.bind,dY,ih]
 |new o k ih=>intro H K;cases o<;>simp only[Sem.bind,dY,ih]
 |shape r k ih=>intro H K;simp only[Sem.bind,dY,ih]
 |freeze a n k ih=>intro H K;simp only[Sem.bind,dY]
 |frozen a k ih=>intro H K;simp only[Sem.bind,dY,ih]
 |getObj r k ih=>intro H K;simp only[Sem.bind,dY,ih]
 |setObj r o k ih=>intro H K;simp only[Sem.bind,dY,ih]
 |choose q k ih=>intro H K;simp only[Sem.bind,dY,ih]
 |sys c k ih=>intro H K;simp only[Sem.bind,dY]
 |program k ih=>intro H K;simp only[Sem.bind,dY,ih]
 |mark m k ih=>intro H K;simp only[Sem.bind,dY,ih]
 |halt h=>intro H K;simp only[Sem.bind,dY]
theorem OO (P:Program) {α:Type} (s:Sem α):∀ (H:AH) (K K':α→AH→Prop),(∀ a H,K a H→K' a H)→dY P s H K→dY P s H K':=by
 induction s with
 |pure a=>intro H K K' hk h;exact hk _ _ h
 |load m a k ih=>intro H K K' hk h;simp only[dY]at h ⊢;split<;>simp_all only;exact ih _ _ _ _ hk h
 |store m a v k ih=>
  intro H K K' hk h;simp only[dY]at h ⊢
  obtain⟨a1,a2,h⟩:=h
  refine⟨a1,a2,?_⟩
  split at h
  ·rename_i cs e sz hf;exact⟨h.1,h.2.1,ih _ _ _ hk h.2.2⟩
  ·exact h.elim
 |new o k ih=>
  intro H K K' hk h
  cases o<;>simp only[dY]at h ⊢
  ·exact⟨h.1,fun b hb=>ih _ _ _ _ hk (h.2 b hb)⟩
  ·exact⟨h.1,fun b hb=>ih _ _ _ _ hk (h.2 b hb)⟩
  ·exact fun b hb=>ih _ _ _ _ hk (h b hb)
 |shape r k ih=>intro H K K' hk h;simp only[dY]at h ⊢;split<;>simp_all only;exact ih _ _ _ _ hk h
 |freeze a n k ih=>intro H K K' hk h;exact h
 |frozen a k ih=>intro H K K' hk h;simp only[dY]at h ⊢;split<;>simp_all only;exact ih _ _ _ _ hk h
 |getObj r k ih=>
  intro H K K' hk h;simp only[dY]at h ⊢
  split at h
  ·rename_i es he;exact fun en cl hm=>ih _ _ _ _ hk (h en cl hm)
  ·exact ih _ _ _ _ hk h
  ·exact h.elim
  ·split at h
   ·rename_i hlt
    simp only[hlt,if_true]
    split at h
    ·exact ih _ _ _ _ hk h
    ·exact h.elim
   ·exact h.elim
 |setObj r o k ih=>
  intro H K K' hk h;simp only[dY]at h ⊢
  split at h
  ·rename_i es en cl hf;exact⟨h.1,ih _ _ _ hk h.2⟩
  ·exact⟨h.1,ih _ _ _ hk h.2⟩
  ·exact h.elim
 |choose q k ih=>
  intro H K K' hk h;simp only[dY]at h ⊢
  split at h
  ·rename_i hq;simp only[hq,if_true];exact ih _ _ _ _ hk h
  ·rename_i hq;simp only[hq];exact fun t=>ih _ _ _ _ hk (h t)
 |sys c k ih=>intro H K K' hk h;exact h
 |program k ih=>intro H K K' hk h;exact ih _ _ _ _ hk h
 |mark m k ih=>intro H K K' hk h;exact ih _ _ _ hk h
 |halt x=>intro H K K' hk h;exact h
def dZ (P:Program) {α:Type}:Sem α→AH→Option α
 |.pure a,_=>some a
 |.load _ a k,H=>match H.rd a with
  |some v=>dZ P (k v) H
  |none=>none
 |.shape r k,H=>match H.UR r with
  |some s=>dZ P (k s) H
  |none=>none
 |.frozen a k,H=>match H.UG a with
  |some s=>dZ P (k s) H
  |none=>none
 |.program k,H=>dZ P (k P) H
 |.mark _ k,H=>dZ P k H
 |_,_=>none
theorem pU (P:Program) {α:Type} (s:Sem α):∀ (H:AH) (a:α) (w:World),dZ P s H=some a→Sat E H w→s.run P w=.ok a w:=by
 induction s with
 |pure a=>intro H x w h hs;simp only[dZ,Option.some.injEq]at h;subst h;rfl
 |load m a k ih=>
  intro H x w h hs
  simp only[dZ]at h
  split at h
  ·rename_i v hv;simp only[Sem.run,hs.rd hv];exact ih _ _ _ _ h hs
  ·cases h
 |shape r k ih=>
  intro H x w h hs
  simp only[dZ]at h
  split at h
  ·rename_i v hv;simp only[Sem.run,hs.UR hv];exact ih _ _ _ _ h hs
  ·cases h
 |frozen r k ih=>
  intro H x w h hs
  simp only[dZ]at h
  split at h
  ·rename_i v hv;simp only[Sem.run,hs.UG hv];exact ih _ _ _ _ h hs
  ·cases h
 |program k ih=>intro H x w h hs;simp only[dZ]at h;simp only[Sem.run];exact ih _ _ _ _ h hs
 |mark m k ih=>intro H x w h hs;simp only[dZ]at h;simp only[Sem.run];exact ih _ _ _ h hs
 |_=>intro H x w h hs;simp only[dZ]at h;cases h
theorem bW (P:Program) {α β:Type} (x:Sem α) (f:α→Sem β):∀ (H:AH),dZ P (x >>= f) H=(dZ P x H).bind fun a=>dZ P (f a) H:=by
 show ∀ (H:AH),dZ P (x.bind f) H=_
 induction x with
 |pure a=>intro H;rfl
 |load m a k ih=>intro H;simp only[Sem.bind,dZ];split<;>simp[ih]
 |shape m k ih=>intro H;simp only[Sem.bind,dZ];split<;>simp[ih]
 |frozen m k ih=>intro H;simp only[Sem.bind,dZ];split<;>simp[ih]
 |program k ih=>intro H;simp only[Sem.bind,dZ,ih]
 |mark m k ih=>intro H;simp only[Sem.bind,dZ,ih]
 |_=>intro H;simp[Sem.bind,dZ]
end Go.AX
/- Frames, regions, code and calls over the abstract heap: a condition that is computed from the code, and is sound. -/
namespace Go.AX
open Go Go.RowKit
structure Lk {α:Type} (k:α):Type where
 mk ::
abbrev Fr:=List (Nat×Value)
structure kU (n:Nat) (fr:Fr) (a:Act):Prop where
 defers:a.defers=[]
 size:a.tmps.size=n
 vals:∀ t v,qC t fr=some v→a.tmps[t]?=some v
def kC (fr:Fr):Operand→Value
 |.tmp t=>(qC t fr).getD undef
 |.const v=>v
 |.global g=>.pointer (some ⟨g,0,none⟩)
 |.func f=>.func (.func f) #[] #[]
def wU (dst:Option Tmp) (v:Value) (fr:Fr):Fr:=
 match dst with
 |some d=>(d,v)::fr
 |none=>fr
def BO (fr:Fr):Operand→Bool
 |.tmp t=>(qC t fr).isSome
 |_=>true
def Io:Op→Bool
 |.select _ _=>true
 |_=>false
def EO (n:Nat):Option Tmp→Bool
 |some d=>decide (d<n)
 |none=>true
def wV (n:Nat) (fr:Fr) (o:Oper):Bool:=o.op.operands.toList.all (BO fr)&&!Io o.op&&EO n o.dst
theorem kU.put {n:Nat} {fr:Fr} {a:Act} (h:kU n fr a) {dst:Option Tmp} (hd:EO n dst=true) (v:Value):kU n (wU dst v fr) (a.put dst v):=by
 cases dst with
 |none=>exact h
 |some d=>
  have hd':d<n:=by simpa [EO]using hd
  refine⟨h.defers,by simp[Act.put,h.size],fun t u hu=>?_⟩
  simp only[wU,nV]at hu
  split at hu
  ·rename_i e;subst e;cases hu
   simp[Act.put,h.size,hd']
  ·rename_i hne
   simp only[Act.put]
   rw[Array.getElem?_setIfInBounds_ne (Ne.symm hne)]
   exact h.vals t u hu
theorem kU.eval {n:Nat} {fr:Fr} {a:Act} (h:kU n fr a) {x:Operand} (hx:BO fr x=true):a.eval x=kC fr x:=by
 cases x with
 |tmp t=>
  simp only[BO]at hx
  obtain⟨v,hv⟩:=Option.isSome_iff_exists.1 hx
  simp only[Act.eval,kC,hv,Option.getD_some]
  have:=h.vals t v hv
  simp[Array.getD_eq_getD_getElem?,this]
 |_=>rfl
theorem kU.exec {n:Nat} {fr:Fr} {a:Act} (h:kU n fr a) {o:Oper} (ho:wV n fr o=true):execOp a.eval o=execOp (kC fr) o:=by
 simp only[wV,Bool.and_eq_true,List.all_eq_true]at ho
 refine execOp_congr o (fun cs b e=>?_) (fun x hx=>h.eval (ho.1.1 x (by simpa using hx)))
 have:=ho.1.2
 simp[e,Io]at this
def aO (P:Program) (f:FuncId) (args:Array Value) (H:AH) (K:Value→AH→Prop) (_t:Lk (K,H,f):=.mk):Prop:=
 ∀ E w,Sat E H w→Calls P f args w (fun e w'=>∃ v H',e=.returned v∧Sat E H' w'∧K v H')
def BP (P:Program) (f:FuncId) (args:Array Value) (H:AH) (K:Value→Prop) (_t:Lk (K,H,f):=.mk):Prop:=∃ v,aO P f args H (fun v' H'=>v'=v∧H.le H')∧K v
def AC (q:Bool) (P:Program) (f:FuncId) (args:Array Value) (H:AH) (K:Value→AH→Prop) (_t:Lk (K,H,f):=.mk):Prop:=
 match q with
 |true=>BP P f args H (fun v=>K v H)
 |false=>aO P f args H K
def oJ (q:Bool) (P:Program) (K:Value→AH→Prop):Next→AH→Prop
 |.value v,H=>K v H
 |.skip,H=>K undef H
 |.enter f args,H=>AC q P f args H K
 |_,_=>False
def nH (P:Program) (s:Sem Next) (H:AH) (K:Value→AH→Prop) (_t:Lk (K,H):=.mk):Prop:=
 ∀ E w,Sat E H w→∃ nx w' H',s.run P w=.ok nx w'∧Sat E H' w'∧oJ false P K nx H'
theorem nH.oP {P:Program} {s:Sem Next} {H:AH} {K:Value→AH→Prop} (h:dY P s H (oJ false P K)):nH P s H K:=
 fun _ w hs=>lT P s H _ w h hs
theorem aO.mono {P:Program} {f:FuncId} {args:Array Value} {H:AH} {K K':Value→AH→Prop} (h:aO P f args H K) (hk:∀ v H',K v H'→K' v H'):aO P f args H K':=
 fun E w hs=>(h E w hs).mono fun e w' ⟨v,H',h1,h2,h3⟩=>⟨v,H',h1,h2,hk _ _ h3⟩
theorem aO.weak {P:Program} {f:FuncId} {args:Array Value} {H H1:AH} {K:Value→AH→Prop} (hl:H1.le H) (h:aO P f args H1 K):aO P f args H K:=
 fun E w hs=>h E w (hs.mono hl)
inductive Cls where
 |read | write | other
 deriving DecidableEq
def UU:Builtin→Cls
 |.len | .cap | .min | .max=>.read
 |_=>.other
def cls:Op→Cls
 |.alloc _ | .box .. | .buildSlice .. | .store .. | .makeSlice .. | .makeMap ..=>.write
 |.call { callee:=.builtin b,.. }=>UU b
 |.lookup .. | .mapUpdate .. | .mapEntry .. | .entryStore .. | .insert .. | .range .. | .next .. | .entry _=>.other
 |_=>.read
def zu (q:Bool) (P:Program) (fr:Fr) (H:AH) (o:Oper) (K:Value→AH→Prop):Prop:=
 match cls o.op with
 |.read=>match dZ P (execOp (kC fr) o) H with
  |some nx=>oJ q P K nx H
  |none=>False
 |.write=>q=false∧dY P (execOp (kC fr) o) H (oJ false P K)
 |.other=>q=false∧nH P (execOp (kC fr) o) H K
theorem Gs {P:Program} {fr:Fr} {H:AH} {o:Oper} {K:Value→AH→Prop} (h:zu false P fr H o K):nH P (execOp (kC fr) o) H K:=by
 unfold zu at h
 split at h
 ·split at h
  ·rename_i nx hn;exact fun _ w hs=>⟨nx,w,H,pU P _ H nx w hn hs,hs,h⟩
  ·exact h.elim
 ·exact .oP h.2
 ·exact h.2
theorem nH.wp {P:Program} {n:Nat} {fr:Fr} {H:AH} {o:Oper} {K:Value→AH→Prop} {a:Act} {w:World} {next:Act→World→Prop} {Q:Exit→Act→World→Prop} {E:Nat→Option Obj}
  (h:nH P (execOp (kC fr) o) H K) (hf:kU n fr a) (ho:wV n fr o=true) (hs:Sat E H w)
  (hk:∀ v H' w',K v H'→Sat E H' w'→next (a.put o.dst v) w'):o.wp P a w next Q:=by
 obtain⟨nx,w',H',hr,hs',hn⟩:=h E w hs
 unfold Oper.wp
 rw[hf.exec ho,hr]
 cases nx<;>simp only[oJ]at hn<;>try exact hn.elim
 ·exact hk _ _ _ hn hs'
 ·exact hk _ _ _ hn hs'
 ·refine(hn E w' hs').mono ?_
  rintro e w'' ⟨v,H2,rfl,h2,h3⟩
  exact hk _ _ _ h3 h2
def mM (ds:List (Option Tmp)) (fr:Fr) (o:Oper):Option Bool:=
 match o.guard with
 |none=>some true
 |some (j,want)=>match ds[j]?.bind id with
  |none=>some false
  |some d=>match qC d fr with
   |none=>none
   |some (.bool b)=>some (b==want)
   |some _=>some false
theorem mO {n:Nat} {fr:Fr} {a:Act} {ops:Array Oper} {o:Oper} {g:Bool} (hf:kU n fr a) (h:mM (ops.toList.map (·.dst)) fr o=some g):Region.wanted o (yielded ops a.tmps)=g:=by
 unfold mM at h
 unfold Region.wanted
 split at h
 ·rename_i hg;rw[hg];simpa using h
 ·rename_i j want hg
  rw[hg]
  simp only[List.getElem?_map]at h
  have e:((ops[j]?).bind (·.dst))=((ops.toList[j]?.map (·.dst)).bind id):=by
   cases hj:ops[j]?<;>simp[hj]
  simp only[yielded,e]
  split at h
  ·rename_i hd;rw[hd];simpa using h
  ·rename_i d hd
   rw[hd]
   split at h
   ·cases h
   ·rename_i b hb
    have:=hf.vals _ _ hb
    simp only[Option.bind_some,this,Option.some.injEq]at h ⊢
    rw[←h];cases b<;>cases want<;>rfl
   ·rename_i v hv hb
    have:=hf.vals _ _ hb
    simp only[Option.bind_some,this]
    simp only[Option.some.injEq]at h
    subst h
    cases v<;>first | rfl | (rename_i b;exact absurd rfl (hv b))
def xH (ds:List (Option Tmp)) (fr:Fr) (o:Oper) (g:Bool):Fr:=
 match o.guard with
 |none=>fr
 |some (j,want)=>match ds[j]?.bind id with
  |none=>fr
  |some d=>match qC d fr with
   |some (.bool _)=>(d,.bool (if g=true then want else !want))::fr
   |_=>fr
theorem QB {ds:List (Option Tmp)} {fr:Fr} {o:Oper} {g:Bool} (h:mM ds fr o=some g) (t:Nat):qC t (xH ds fr o g)=qC t fr:=by
 unfold mM at h
 unfold xH
 cases hg:o.guard with
 |none=>rfl
 |some jw=>
  obtain⟨j,want⟩:=jw
  simp only[hg]at h ⊢
  cases hd:ds[j]?.bind id with
  |none=>rfl
  |some d=>
   simp only[hd]at h ⊢
   cases hb:qC d fr with
   |none=>rfl
   |some b=>
    simp only[hb]at h ⊢
    cases b<;>try rfl
    rename_i b
    simp only[Option.some.injEq]at h
    simp only[nV]
    split
    ·rename_i e;subst e
     rw[hb]
     subst h
     cases b<;>cases want<;>rfl
    ·rfl
def xI (q:Bool) (P:Program) (n:Nat) (ds:List (Option Tmp)):List Oper→Fr→AH→(Fr→AH→Prop)→Prop
 | [],fr,H,K=>K fr H
 |o::rest,fr,H,K=>
  match mM ds fr o with
  |none=>False
  |some g=>(g=true→wV n (xH ds fr o true) o=true∧zu q P (xH ds fr o true) H o (fun v H'=>xI q P n ds rest (wU o.dst v (xH ds fr o true)) H' K))∧
   (g=false→EO n o.dst=true∧xI q P n ds rest (wU o.dst undef (xH ds fr o false)) H K)
theorem kU.xH {n:Nat} {fr:Fr} {a:Act} {ds:List (Option Tmp)} {o:Oper} {g:Bool} (hf:kU n fr a) (h:mM ds fr o=some g):kU n (xH ds fr o g) a:=
 ⟨hf.defers,hf.size,fun t v hv=>hf.vals t v (by rw[QB h]at hv;exact hv)⟩
theorem rX {E:Nat→Option Obj} {P:Program} {n:Nat} {ops:Array Oper} {Q:Exit→Act→World→Prop} {K:Fr→AH→Prop}
  (hQ:∀ fr H a w,kU n fr a→Sat E H w→K fr H→Q .normal a w):∀ (l:List Oper) (fr:Fr) (H:AH) (a:Act) (w:World),xI false P n (ops.toList.map (·.dst)) l fr H K→kU n fr a→Sat E H w→wpList P ops Q l a w
 | [],fr,H,a,w,h,hf,hs=>hQ _ _ _ _ hf hs h
 |o::rest,fr,H,a,w,h,hf,hs=>by
  simp only[xI]at h
  split at h
  ·exact h.elim
  ·rename_i g hg
   have hw:=mO hf hg
   simp only[wpList,hw]
   cases g with
   |true=>
    obtain⟨ho,h1⟩:=h.1 rfl
    have hd:EO n o.dst=true:=by simp only[wV,Bool.and_eq_true]at ho;exact ho.2
    simp only[if_true]
    exact .inl ((Gs h1).wp (hf.xH hg) ho hs fun v H' w' hk hs'=>rX hQ rest _ _ _ _ hk ((hf.xH hg).put hd v) hs')
   |false=>
    obtain⟨hd,h1⟩:=h.2 rfl
    simp only[Bool.false_eq_true,if_false]
    exact rX hQ rest _ _ _ _ h1 ((hf.xH hg).put hd _) hs
end Go.AX
/- The engine: equations by which 'simp only' computes what the code of a function comes to over the abstract heap. -/
namespace Go.AX
open Go Go.RowKit
def wo {α:Type} (o:Option α) (k:α→Prop) (_t:Lk k:=.mk):Prop:=
 match o with
 |some v=>k v
 |none=>False
theorem mP {α:Type} (v:α) (k:α→Prop):wo (some v) k=k v:=Eq.trans rfl rfl
theorem UW {α:Type} (k:α→Prop):wo none k=False:=Eq.trans rfl rfl
def wv (fr:Fr) (x:Operand) (k:Value→Prop) (_t:Lk (k,fr):=.mk):Prop:=BO fr x=true∧k (kC fr x)
theorem YH (fr:Fr) (t:Nat) (k:Value→Prop):wv fr (.tmp t) k=wo (qC t fr) k:=by
 cases h:qC t fr<;>simp[wv,BO,kC,h,wo]
theorem QC (fr:Fr) (v:Value) (k:Value→Prop):wv fr (.const v) k=k v:=by simp[wv,BO,kC]
theorem UY (fr:Fr) (f:Nat) (k:Value→Prop):wv fr (.func f) k=k (.func (.func f) #[] #[]):=by simp[wv,BO,kC]
def Bl (fr:Fr) (xs:List Operand) (k:List Value→Prop) (_t:Lk (k,fr):=.mk):Prop:=xs.all (BO fr)=true∧k (xs.map (kC fr))
theorem UZ (fr:Fr) (k:List Value→Prop):Bl fr [] k=k []:=by simp[Bl]
theorem QD (fr:Fr) (x:Operand) (xs:List Operand) (k:List Value→Prop):Bl fr (x::xs) k=wv fr x fun v=>Bl fr xs fun vs=>k (v::vs):=by
 simp[Bl,wv,and_assoc]
def nv (v:Value) (k:Value→Prop) (_t:Lk k:=.mk):Prop:=k v
theorem aa9 (v:Value) (k:Value→Prop):nv v k=k v:=Eq.trans rfl rfl
def imp (p:Prop) (A:Prop) (_t:Lk A:=.mk):Prop:=p→A
theorem YI (A:Prop):imp True A=A:=by simp[imp]
theorem YJ (A:Prop):imp False A=True:=by simp[imp]
theorem imp.mk {p A:Prop} (h:p→A):imp p A:=h
def bY (H:AH) (k:Nat→Prop) (_t:Lk (k,H):=.mk):Prop:=∀ b,aG H b→k b
theorem bY.mk {H:AH} {k:Nat→Prop} (h:∀ b,aG H b→k b):bY H k:=h
def lN (w:World) (b:Nat) (off:Nat):Nat→Option (List Value)
 |0=>some []
 |n+1=>(w.cell? ⟨b,off,none⟩).bind fun v=>(lN w b (off+1) n).map (v::·)
def AH.row (H:AH) (b off n:Nat):Option (List Value):=
 match H.find b with
 |some (.cells cs _ _)=>if off+n≤cs.length then some ((cs.drop off).take n) else none
 |some (.gW _)=>none
 |some (.obj _)=>none
 |none=>if b<H.w0.heap.size then lN H.w0 b off n else none
def iO (cs:List Value) (off:Nat):List Value→List Value
 | []=>cs
 |v::vs=>iO (cs.set off v) (off+1) vs
def AH.uH (H:AH) (b off:Nat) (vs:List Value):Option AH:=
 match H.find b with
 |some (.cells cs e sz)=>if off+vs.length≤cs.length∧cs.length≤sz∧vs.all iM=true then some (H.set b (.cells (iO cs off vs) e sz)) else none
 |_=>none
theorem gZ (H:AH) (b off:Nat) (cs:List Value) (e sz:Nat):(H.add b (.cells cs e sz)).rd ⟨b,off,none⟩=cs[off]?:=by
 simp[AH.rd,dh]
theorem rE (H:AH) {b b':Nat} (h:b≠b') (off:Nat) (k:iD):(H.add b k).rd ⟨b',off,none⟩=H.rd ⟨b',off,none⟩:=by
 unfold AH.rd;rw[dh,if_neg (Ne.symm h)];rfl
theorem fO (H:AH) (b off n:Nat) (cs:List Value) (e sz:Nat):(H.add b (.cells cs e sz)).row b off n=if off+n≤cs.length then some ((cs.drop off).take n) else none:=by
 simp[AH.row,dh]
theorem BQ (H:AH) {b b':Nat} (h:b≠b') (off n:Nat) (k:iD):(H.add b k).row b' off n=H.row b' off n:=by
 unfold AH.row;rw[dh,if_neg (Ne.symm h)];rfl
theorem xJ (H:AH) (b off:Nat) (vs cs:List Value) (e sz:Nat):(H.add b (.cells cs e sz)).uH b off vs=if off+vs.length≤cs.length∧cs.length≤sz∧vs.all iM=true then some (H.add b (.cells (iO cs off vs) e sz)) else none:=by
 unfold AH.uH;rw[dh,if_pos rfl];simp[AH.set,AH.add,pO]
theorem KQ (H:AH) {b b':Nat} (h:b≠b') (off:Nat) (vs:List Value) (k:iD):(H.add b k).uH b' off vs=(H.uH b' off vs).map (·.add b k):=by
 unfold AH.uH
 rw[dh,if_neg (Ne.symm h)]
 split
 ·split
  ·simp[AH.set,AH.add,pO,Ne.symm h]
  ·rfl
 ·rfl
theorem ah (H:AH) (b b':Nat) (k:iD):aG (H.add b' k) b=(b≠b'∧aG H b):=by
 unfold aG
 rw[dh]
 by_cases h:b=b'<;>simp[h]
theorem aj (H:AH) (b b':Nat) (k:iD):aG (H.set b' k) b=(b≠b'∧aG H b):=by
 unfold aG
 rw[dw]
 by_cases h:b=b'<;>simp[h]
theorem aH (H:AH) (b:Nat) (k:iD):(H.add b k).find b=some k:=by simp[dh]
theorem aN (H:AH) {b b':Nat} (h:b≠b') (k:iD):(H.add b k).find b'=H.find b':=by simp[dh,Ne.symm h]
theorem aG.cO {H:AH} {b a:Nat} {k:iD} (h:aG H b) (ha:H.find a=some k):b≠a:=by
 rintro rfl;rw[h.2]at ha;cases ha
theorem aG.jq {H:AH} {b:Nat} {a:Addr} {v:Value} (h:aG H b) (ha:H.rd a=some v):b≠a.block:=by
 rintro rfl
 unfold AH.rd at ha
 rw[h.2]at ha
 simp only at ha
 rw[if_neg (Nat.not_lt.2 h.1)]at ha
 cases ha
theorem cZ (P:Program) {α:Type} (a:α) (H:AH):dZ P (pure a:Sem α) H=some a:=rfl
theorem mQ (P:Program) {α β:Type} (x:Sem α) (f:α→β) (H:AH):dZ P (f <$> x) H=(dZ P x H).map f:=by
 show dZ P (x >>= fun a=>pure (f a)) H=_
 rw[bW];cases dZ P x H<;>rfl
theorem EP (P:Program) (H:AH) (a:Addr) (m:Mode):dZ P (load a m) H=H.rd a:=by
 simp only[load,dZ];cases H.rd a<;>rfl
theorem add_plain (b off i:Nat):(⟨b,off,none⟩:Addr).add i=⟨b,off+i,none⟩:=by
 unfold Addr.add;split
 ·rename_i h;subst h;rfl
 ·rfl
theorem pV (P:Program) (H:AH) (b off:Nat):∀ (n i:Nat) (acc:Array Value),n≠0→dZ P (loadCellsFrom ⟨b,off,none⟩ i n acc) H=(H.row b (off+i) n).map (fun l=>acc++l.toArray)
 |0,i,acc,h=>absurd rfl h
 |n+1,i,acc,_=>by
  simp only[loadCellsFrom,bW,add_plain,EP]
  have ih:=fun v=>pV P H b off n (i+1) (acc.push v)
  cases hf:H.find b with
  |none=>
   simp only[AH.rd,AH.row,hf]at ih ⊢
   by_cases hlt:b<H.w0.heap.size
   ·simp only[hlt,if_true]at ih ⊢
    cases hc:H.w0.cell? ⟨b,off+i,none⟩ with
    |none=>simp[lN,hc]
    |some v=>
     simp only[Option.bind_some,lN,hc]
     cases n with
     |zero=>simp[loadCellsFrom,cZ,lN]
     |succ n=>
      rw[ih v (by simp),show off+(i+1)=off+i+1 from by omega]
      cases lN H.w0 b (off+i+1) (n+1)<;>simp
   ·simp[hlt]
  |some k=>
   cases k with
   |gW es=>simp[AH.rd,AH.row,hf]
   |obj o=>simp[AH.rd,AH.row,hf]
   |cells cs e sz=>
    simp only[AH.rd,AH.row,hf]at ih ⊢
    simp only[Option.isSome_none,Bool.false_eq_true,if_false]
    by_cases hlt:off+i<cs.length
    ·have h1:cs[off+i]?=some cs[off+i]:=List.getElem?_eq_getElem hlt
     have h3:cs.drop (off+i)=cs[off+i]::cs.drop (off+i+1):=List.drop_eq_getElem_cons hlt
     rw[h1,h3]
     simp only[Option.bind_some]
     cases n with
     |zero=>
      rw[if_pos (by omega)]
      simp only[loadCellsFrom,cZ,Option.map_some,Nat.zero_add,List.take_succ_cons,List.take_zero,Option.some.injEq]
      generalize cs[off+i]=x
      simp
     |succ n=>
      rw[ih _ (by simp)]
      by_cases hle:off+(i+1)+(n+1)≤cs.length
      ·rw[if_pos hle,if_pos (by omega),show off+(i+1)=off+i+1 from by omega]
       generalize cs[off+i]=x
       generalize List.drop (off+i+1) cs=l
       simp[List.take_succ_cons]
      ·rw[if_neg hle,if_neg (by omega)];rfl
    ·have h1:cs[off+i]?=none:=List.getElem?_eq_none (by omega)
     rw[h1,if_neg (by omega)];rfl
theorem uI (P:Program) (H:AH) (b off n:Nat) (hn:n≠0):dZ P (loadCells ⟨b,off,none⟩ n) H=(H.row b off n).map List.toArray:=by
 unfold loadCells
 rw[pV P H b off n 0 #[] hn]
 cases H.row b (off+0) n<;>simp
theorem oD (P:Program) (b:Nat) (K:Unit→AH→Prop):∀ (vs:List Value) (off i:Nat) (H:AH) (cs:List Value) (e sz:Nat),H.find b=some (.cells cs e sz)→off+i+vs.length≤cs.length→cs.length≤sz→vs.all iM=true→
  K () (if vs=[] then H else H.set b (.cells (iO cs (off+i) vs) e sz))→dY P (storeCells ⟨b,off,none⟩ vs i) H K
 | [],off,i,H,cs,e,sz,hf,h1,h2,h3,hk=>by simp only[if_true]at hk;exact hk
 |v::vs,off,i,H,cs,e,sz,hf,h1,h2,h3,hk=>by
  have ea:=add_plain b off i
  simp only[List.length_cons]at h1
  simp only[List.all_cons,Bool.and_eq_true]at h3
  simp only[storeCells,dO,store,dY,ea,hf,h3.1,true_and]
  refine⟨by omega,by omega,?_⟩
  rw[aa8 (by omega)]
  have hf':(H.set b (.cells (cs.set (off+i) v) e sz)).find b=some (.cells (cs.set (off+i) v) e sz):=by simp[dw]
  refine oD P b K vs off (i+1) _ _ e sz hf' (by simp;omega) (by simpa using h2) h3.2 ?_
  simp only[List.cons_ne_nil,if_false,iO]at hk
  split
  ·rename_i hv;subst hv;simpa [iO]using hk
  ·have e3:(H.set b (.cells (cs.set (off+i) v) e sz)).set b (.cells (iO (cs.set (off+i) v) (off+(i+1)) vs) e sz)=H.set b (.cells (iO (cs.set (off+i) v) (off+(i+1)) vs) e sz):=by
    have:∀ l:List (Nat×iD),∀ x y,pO b y (pO b x l)=pO b y l:=by
     intro l x y
     induction l with
     |nil=>simp[pO]
     |cons p l ih=>obtain⟨k,v⟩:=p;by_cases hb:b=k<;>simp[pO,hb,ih]
    simp only[AH.set,this]
   rw[e3];exact hk
end Go.AX
/- The engine, continued: an equation for each kind of operation. -/
namespace Go.AX
open Go Go.RowKit
def qE (P:Program) (t:TypeId):Option (List Value):=((P.info? t).bind (·.zero)).map (·.cells.toList)
def lq (P:Program) (s:TypeId) (i:Nat):Option Nat:=
 match P.underlying s with
 |some (.struct fs)=>(fs[i]?).bind fun f=>if P.cellsOf f.type=0 then none else some f.offset
 |_=>none
def gJ:Option TypeDesc→Option Bool
 |some (.struct _) | some (.array _ _)=>some true
 |some _=>some false
 |none=>none
def ny (P:Program) (t:TypeId):Nat:=
 match P.underlying t with
 |some (.array _ e) | some (.slice e)=>P.cellsOf e
 |_=>0
def fA (P:Program) (f:FuncId):Bool:=
 match P.funcs[f]? with
 |some fn=>fn.name != "runtime.NumGoroutine"&&fn.body.isSome
 |none=>false
def lI (P:Program) (t:TypeId) (i:Nat):Option (Nat×Nat):=
 match P.underlying t with
 |some (.struct fs)=>(fs[i]?).map fun f=>(f.offset,P.cellsOf f.type)
 |some (.array _ e)=>some (i*P.cellsOf e,P.cellsOf e)
 |_=>none
def U0 (P:Program) (t:TypeId) (i:Nat):Option (Nat×Nat×Bool):=
 match P.underlying t with
 |some (.struct fs)=>(fs[i]?).bind fun f=>(gJ (P.underlying f.type)).map fun a=>(f.offset,P.cellsOf f.type,a)
 |_=>none
section
variable {q:Bool} {P:Program} {n:Nat} {ds:List (Option Tmp)} {rest:List Oper} {fr:Fr} {H:AH} {K:Fr→AH→Prop} {d:Option Tmp} {ty:TypeId} {pos:String} {af:Array Edge}
theorem bT (t:TypeId):dZ P (underlying t) H=P.underlying t:=by
 simp only[underlying,program,bW,dZ,Option.bind_some]
 cases P.underlying t<;>rfl
theorem gU (t:TypeId):dZ P (sizeOf t) H=(P.info? t).map (·.size):=by
 simp only[sizeOf,typeInfo,program,bW,dZ,Option.bind_some]
 cases P.info? t<;>rfl
theorem rY:dZ P program H=some P:=rfl
theorem fH {d:Nat}:(EO n (some d)=true)=(d<n):=by simp[EO]
theorem Ip:(EO n none=true)=True:=by simp[EO]
def ag (b:Value) (want:Bool) (A B C:Prop) (_t:Lk (A,B,C):=.mk):Prop:=
 match b with
 |.bool b=>(b=want→A)∧(b≠want→B)
 |_=>C
theorem QE {w:Bool} {A B C:Prop}:ag undef w A B C=C:=Eq.trans rfl rfl
theorem aff {b:Bool} {A B C:Prop}:ag (.bool b) true A B C=(imp (b=true) A∧imp (b=false) B):=by cases b<;>simp[ag,imp]
theorem afg {b:Bool} {A B C:Prop}:ag (.bool b) false A B C=(imp (b=false) A∧imp (b=true) B):=by cases b<;>simp[ag,imp]
def pck (c a b:Value) (k:Value→Prop) (_t:Lk k:=.mk):Prop:=
 match c with
 |.bool t=>nv (if t=true then a else b) k
 |_=>False
theorem QF {t:Bool} {a b:Value} {k:Value→Prop}:pck (.bool t) a b k=nv (if t=true then a else b) k:=Eq.trans rfl rfl
def bin (u:Option TypeDesc) (P:Program) (H:AH) (op:BinOp) (t:TypeId) (x y:Operand) (a b:Value) (k:Value→Prop) (_t:Lk (k,H):=.mk):Prop:=u=P.underlying t∧wo (dZ P (do eqGuard op t x y a b;binOp op t a b) H) (fun v=>nv v k)
section ints
variable {u:TypeDesc} {t:TypeId} {x y:Operand} {k:IntKind} {a b:Int} {kk:Value→Prop}
theorem U1:bin (some u) P H .add t x y (.int k a) (.int k b) kk=(some u=P.underlying t∧nv (.int k (k.wrap (a+b))) kk):=by simp[bin,eqGuard,binOp,Op.intArith,bW,cZ,wo]
theorem U2:bin (some u) P H .sub t x y (.int k a) (.int k b) kk=(some u=P.underlying t∧nv (.int k (k.wrap (a - b))) kk):=by simp[bin,eqGuard,binOp,Op.intArith,bW,cZ,wo]
theorem U3:bin (some u) P H .mul t x y (.int k a) (.int k b) kk=(some u=P.underlying t∧nv (.int k (k.wrap (a*b))) kk):=by simp[bin,eqGuard,binOp,Op.intArith,bW,cZ,wo]
theorem U4:bin (some u) P H .eql t x y (.int k a) (.int k b) kk=(some u=P.underlying t∧nv (.bool (a==b)) kk):=by simp[bin,eqGuard,binOp,Op.intCmp,bW,cZ,wo]
theorem U5:bin (some u) P H .neq t x y (.int k a) (.int k b) kk=(some u=P.underlying t∧nv (.bool (a != b)) kk):=by simp[bin,eqGuard,binOp,Op.intCmp,bW,cZ,wo]
theorem U6:bin (some u) P H .lss t x y (.int k a) (.int k b) kk=(some u=P.underlying t∧nv (.bool (decide (a<b))) kk):=by simp[bin,eqGuard,binOp,Op.intCmp,bW,cZ,wo]
theorem U7:bin (some u) P H .leq t x y (.int k a) (.int k b) kk=(some u=P.underlying t∧nv (.bool (decide (a≤b))) kk):=by simp[bin,eqGuard,binOp,Op.intCmp,bW,cZ,wo]
theorem U8:bin (some u) P H .gtr t x y (.int k a) (.int k b) kk=(some u=P.underlying t∧nv (.bool (decide (b<a))) kk):=by simp[bin,eqGuard,binOp,Op.intCmp,bW,cZ,wo]
theorem U9:bin (some u) P H .geq t x y (.int k a) (.int k b) kk=(some u=P.underlying t∧nv (.bool (decide (b≤a))) kk):=by simp[bin,eqGuard,binOp,Op.intCmp,bW,cZ,wo]
theorem Va:bin (some u) P H .quo t x y (.int k a) (.int k b) kk=(some u=P.underlying t∧b≠0∧nv (.int k (k.wrap (a.tdiv b))) kk):=by
 by_cases h:b=0<;>simp[bin,eqGuard,binOp,Op.intDiv,bW,cZ,wo,h,runtimePanic,program,dZ,goPanic]
theorem Vb:bin (some u) P H .rem t x y (.int k a) (.int k b) kk=(some u=P.underlying t∧b≠0∧nv (.int k (a.tmod b)) kk):=by
 by_cases h:b=0<;>simp[bin,eqGuard,binOp,Op.intDiv,bW,cZ,wo,h,runtimePanic,program,dZ,goPanic]
theorem Vd {k':IntKind}:bin (some u) P H .shl t x y (.int k a) (.int k' b) kk=(some u=P.underlying t∧0≤b∧nv (.int k (k.wrap (a*2 ^ (min b.toNat k.bits)))) kk):=by
 by_cases h:b<0<;>simp[bin,eqGuard,binOp,Op.shift,bW,cZ,wo,h,runtimePanic,program,dZ,goPanic]<;>omega
theorem Ve {k':IntKind}:bin (some u) P H .shr t x y (.int k a) (.int k' b) kk=(some u=P.underlying t∧0≤b∧nv (.int k (a.fdiv (2 ^ (min b.toNat k.bits)))) kk):=by
 by_cases h:b<0<;>simp[bin,eqGuard,binOp,Op.shift,bW,cZ,wo,h,runtimePanic,program,dZ,goPanic]<;>omega
def jf (op:BinOp) (k:IntKind) (x y:Int):Int:=
 let a:=BitVec.ofInt k.bits x
 let b:=BitVec.ofInt k.bits y
 match op with
 |.and=>k.wrap (a &&& b).toNat
 |.or=>k.wrap (a ||| b).toNat
 |.xor=>k.wrap (a ^^^ b).toNat
 |_=>k.wrap (a &&& ~~~b).toNat
theorem Vf:bin (some u) P H .and t x y (.int k a) (.int k b) kk=(some u=P.underlying t∧nv (.int k (jf .and k a b)) kk):=by simp[bin,eqGuard,binOp,Op.intBits,bW,cZ,wo,jf]
theorem YK:bin (some u) P H .or t x y (.int k a) (.int k b) kk=(some u=P.underlying t∧nv (.int k (jf .or k a b)) kk):=by simp[bin,eqGuard,binOp,Op.intBits,bW,cZ,wo,jf]
theorem Vg:bin (some u) P H .xor t x y (.int k a) (.int k b) kk=(some u=P.underlying t∧nv (.int k (jf .xor k a b)) kk):=by simp[bin,eqGuard,binOp,Op.intBits,bW,cZ,wo,jf]
end ints
theorem OT {t:TypeId} {m:Nat} {a b:Bool} (h:P.underlying t=some .bool):dZ P (Op.equalIn (m+1) t (.bool a) (.bool b)) H=some (a==b):=by
 simp only[Op.equalIn,bW,bT,h,Option.bind_some,cZ]
theorem jD {t:TypeId} {m:Nat} {k k':IntKind} {a b:Int} (h:P.underlying t=some (.int k')):dZ P (Op.equalIn (m+1) t (.int k a) (.int k b)) H=some (a==b):=by
 simp only[Op.equalIn,bW,bT,h,Option.bind_some,if_true,cZ]
theorem Gt {t e:TypeId} {m:Nat} {a:Option Addr} (h:P.underlying t=some (.pointer e)):dZ P (Op.equalIn (m+1) t (.pointer a) (.pointer none)) H=some a.isNone:=by
 cases a<;>simp only[Op.equalIn,bW,bT,h,Option.bind_some,cZ]<;>rfl
theorem BR {t e:TypeId} {m:Nat} {a:Option Addr} {l c:Nat} (h:P.underlying t=some (.slice e)):dZ P (Op.equalIn (m+1) t (.slice a l c) (.slice none 0 0)) H=some a.isNone:=by
 cases a<;>simp only[Op.equalIn,bW,bT,h,Option.bind_some,cZ]<;>rfl
theorem nI {u:Option TypeDesc} {t:TypeId} {x y:Operand} {a b:Value} {r:Bool} {kk:Value→Prop} (hg:dZ P (eqGuard .eql t x y a b) H=some ()) (hb:binOp .eql t a b=(do pure (.bool (←Op.equal t a b))))
  (h:u=P.underlying t→dZ P (Op.equalIn (9999+1) t a b) H=some r):bin u P H .eql t x y a b kk=(u=P.underlying t∧nv (.bool r) kk):=by
 unfold bin
 by_cases hu:u=P.underlying t
 ·have h':dZ P (Op.equal t a b) H=some r:=h hu
  simp only[bW,hg,hb,Option.bind_some,h',cZ,mP]
 ·simp[hu]
theorem wW {u:Option TypeDesc} {t:TypeId} {x y:Operand} {a b:Value} {r:Bool} {kk:Value→Prop} (hg:dZ P (eqGuard .neq t x y a b) H=some ()) (hb:binOp .neq t a b=(do pure (.bool (!(←Op.equal t a b)))))
  (h:u=P.underlying t→dZ P (Op.equalIn (9999+1) t a b) H=some r):bin u P H .neq t x y a b kk=(u=P.underlying t∧nv (.bool !r) kk):=by
 unfold bin
 by_cases hu:u=P.underlying t
 ·have h':dZ P (Op.equal t a b) H=some r:=h hu
  simp only[bW,hg,hb,Option.bind_some,h',cZ,mP]
 ·simp[hu]
section
variable {t e:TypeId} {x y:Operand} {kk:Value→Prop}
theorem Gu {a b:Bool}:bin (some .bool) P H .neq t x y (.bool a) (.bool b) kk=(some .bool=P.underlying t∧nv (.bool (!(a==b))) kk):=wW rfl rfl fun h=>OT h.symm
theorem AZ {a:Option Addr}:bin (some (.pointer e)) P H .eql t x y (.pointer a) (.pointer none) kk=(some (.pointer e)=P.underlying t∧nv (.bool a.isNone) kk):=nI rfl rfl fun h=>Gt h.symm
theorem xM {a:Option Addr} {l c:Nat}:bin (some (.slice e)) P H .eql t x y (.slice a l c) (.slice none 0 0) kk=(some (.slice e)=P.underlying t∧nv (.bool a.isNone) kk):=nI rfl rfl fun h=>BR h.symm
end
def unv (P:Program) (H:AH) (op:UnOp) (v:Value) (k:Value→Prop) (_t:Lk (k,H):=.mk):Prop:=wo (dZ P (Op.unary op v) H) fun v=>nv v k
theorem Vh {b:Bool} {k:Value→Prop}:unv P H .not (.bool b) k=nv (.bool !b) k:=Eq.trans rfl rfl
theorem Vj {kd:IntKind} {a:Int} {k:Value→Prop}:unv P H .neg (.int kd a) k=nv (.int kd (kd.wrap (0 - a))) k:=Eq.trans rfl rfl
def Vk (P:Program) (H:AH) (v:Value) (i:Nat) (k:Value→Prop) (_t:Lk (k,H):=.mk):Prop:=wo (dZ P (Instr.extract v i) H) k
theorem KR {vs:Array Value} {i:Nat} {k:Value→Prop}:Vk P H (.tuple vs) i k=wo (vs[i]?) k:=by
 simp only[Vk,Instr.extract]
 cases vs[i]?<;>rfl
def cnv (us ud:Option TypeDesc) (P:Program) (H:AH) (s t:TypeId) (v:Value) (k:Value→Prop) (_t:Lk (k,H):=.mk):Prop:=
 us=P.underlying s∧ud=P.underlying t∧wo (dZ P (convert s t v) H) fun v=>nv v k
theorem Vl {s t:TypeId} {k0 kd:IntKind} {a:Int} {us:TypeDesc} {k:Value→Prop}:cnv (some us) (some (.int kd)) P H s t (.int k0 a) k=(some us=P.underlying s∧some (.int kd)=P.underlying t∧nv (.int kd (kd.wrap a)) k):=by
 unfold cnv
 by_cases hs:some us=P.underlying s
 ·by_cases ht:some (.int kd)=P.underlying t
  ·have:dZ P (convert s t (.int k0 a)) H=some (.int kd (kd.wrap a)):=by
    simp only[convert,bW,bT,←hs,←ht,Option.bind_some]
    cases us<;>rfl
   simp only[this,mP]
  ·simp[ht]
 ·simp[hs]
theorem rZ {t:TypeId}:dZ P (isAgg t) H=gJ (P.underlying t):=by
 simp only[isAgg,bW,bT]
 cases P.underlying t with
 |none=>rfl
 |some u=>cases u<;>rfl
def XQ (g:Option Bool) (sz:Nat) (v:Value) (H:AH) (k:Value→Prop) (_t:Lk (k,H):=.mk):Prop:=
 match g,v with
 |some false,.pointer (some ⟨b,off,none⟩)=>wo (H.rd ⟨b,off,none⟩) fun v=>nv v k
 |some true,.pointer (some ⟨b,off,none⟩)=>sz≠0∧wo (H.row b off sz) fun l=>nv (.agg l.toArray) k
 |_,_=>False
theorem xO {sz b off:Nat} {k:Value→Prop}:XQ (some false) sz (.pointer (some ⟨b,off,none⟩)) H k=wo (H.rd ⟨b,off,none⟩) fun v=>nv v k:=Eq.trans rfl rfl
theorem Bo {sz b off:Nat} {k:Value→Prop}:XQ (some true) sz (.pointer (some ⟨b,off,none⟩)) H k=(sz≠0∧wo (H.row b off sz) fun l=>nv (.agg l.toArray) k):=Eq.trans rfl rfl
theorem nJ {t:TypeId} (h:P.cellsOf t≠0):(P.info? t).map (·.size)=some (P.cellsOf t):=by
 unfold Program.cellsOf at h ⊢
 cases hi:P.info? t with
 |none=>rw[hi]at h;simp at h
 |some i=>rfl
theorem su {t:TypeId} {b off:Nat} {v:Value} (h:XQ (gJ (P.underlying t)) (P.cellsOf t) (.pointer (some ⟨b,off,none⟩)) H (fun u=>u=v)):dZ P (loadVar t ⟨b,off,none⟩) H=some v:=by
 simp only[loadVar,bW,rZ]
 cases hg:gJ (P.underlying t) with
 |none=>rw[hg]at h;exact h.elim
 |some g=>
  rw[hg]at h
  cases g with
  |false=>
   simp only[xO]at h
   cases hr:H.rd ⟨b,off,none⟩ with
   |none=>rw[hr]at h;exact h.elim
   |some u=>rw[hr]at h;have:u=v:=h;subst this;simp[EP,hr]
  |true=>
   simp only[Bo]at h
   obtain⟨hz,h⟩:=h
   cases hr:H.row b off (P.cellsOf t) with
   |none=>rw[hr]at h;exact h.elim
   |some l=>
    rw[hr]at h;have:(Value.agg l.toArray)=v:=h;subst this
    simp[bW,mQ,gU,nJ hz,uI P H b off _ hz,hr,cZ]
theorem Nk {t:TypeId} {v:Value} {k:Value→Prop} (h:XQ (gJ (P.underlying t)) (P.cellsOf t) v H k):wo (dZ P (Instr.loadAt t v) H) k:=by
 have hv:∃ b off,v=.pointer (some ⟨b,off,none⟩):=by
  unfold XQ at h
  split at h
  ·exact⟨_,_,rfl⟩
  ·exact⟨_,_,rfl⟩
  ·exact h.elim
 obtain⟨b,off,rfl⟩:=hv
 have:∃ u,XQ (gJ (P.underlying t)) (P.cellsOf t) (.pointer (some ⟨b,off,none⟩)) H (fun x=>x=u)∧k u:=by
  cases hg:gJ (P.underlying t) with
  |none=>rw[hg]at h;exact h.elim
  |some g=>
   rw[hg]at h
   cases g with
   |false=>
    simp only[xO]at h ⊢
    cases hr:H.rd ⟨b,off,none⟩ with
    |none=>rw[hr]at h;exact h.elim
    |some u=>rw[hr]at h;exact⟨u,rfl,h⟩
   |true=>
    simp only[Bo]at h ⊢
    cases hr:H.row b off (P.cellsOf t) with
    |none=>rw[hr]at h;exact h.2.elim
    |some l=>rw[hr]at h;exact⟨_,⟨h.1,rfl⟩,h.2⟩
 obtain⟨u,h1,h2⟩:=this
 simp only[Instr.loadAt,Instr.sureAddr,bW,cZ,Option.bind_some,su h1]
 exact h2
def iq (v:Value):List Value:=v.cells.toList
theorem KT {cs:List Value}:iq (.agg cs.toArray)=cs:=by simp[iq,Value.cells]
def stv (P:Program) (t:TypeId) (p v:Value) (H:AH) (k:AH→Prop) (_t:Lk (k,H):=.mk):Prop:=
 match p with
 |.pointer (some ⟨b,off,none⟩)=>(iq v).length=P.cellsOf t∧wo (H.uH b off (iq v)) k
 |_=>False
theorem Vm {t:TypeId} {p v:Value} {k:Value→AH→Prop} (h:stv P t p v H (k undef)) (hz:P.cellsOf t≠0):dY P (Instr.storeAt t p v) H (fun _ H'=>k undef H'):=by
 unfold stv at h
 split at h
 ·rename_i b off
  obtain⟨h1,h2⟩:=h
  unfold AH.uH at h2
  split at h2
  ·rename_i cs e sz hf
   split at h2
   ·rename_i hc
    have hi:∃ i,P.info? t=some i∧i.size=P.cellsOf t:=by
     unfold Program.cellsOf at hz ⊢
     cases hi:P.info? t with
     |none=>simp[hi]at hz
     |some i=>exact⟨i,rfl,by simp⟩
    obtain⟨i,hi,hs⟩:=hi
    simp only[Instr.storeAt,Instr.sureAddr,dO,dY,storeVar,sizeOf,typeInfo,program,hi]
    show dY P (if v.cells.size≠i.size then _ else _) H _
    have h3:v.cells.size=i.size:=by rw[hs,←h1];simp[iq]
    simp only[h3,ne_eq,not_true_eq_false,if_false]
    refine oD P b _ (iq v) off 0 H cs e sz hf (by simpa using hc.1) hc.2.1 hc.2.2 ?_
    have hne:iq v≠[]:=by intro h;rw[h]at h1;simp at h1;exact hz h1.symm
    simp only[hne,if_false,Nat.add_zero]
    exact h2
   ·exact h2.elim
  ·exact h2.elim
 ·exact h.elim
theorem qY {t:TypeId} {cs:List Value} (h:qE P t=some cs):∃ z,dZ P (zeroValue t) H=some z∧z.cells.toList=cs:=by
 unfold qE at h
 obtain⟨z,hz,hc⟩:=Option.map_eq_some_iff.1 h
 obtain⟨i,hi,hz2⟩:=Option.bind_eq_some_iff.1 hz
 exact⟨z,by simp only[zeroValue,typeInfo,program,bW,dZ,Option.bind_some,hi,cZ,hz2],hc⟩
theorem kV {α:Type} (s:Sem α):∀ (a:α) (K:α→AH→Prop),dZ P s H=some a→K a H→dY P s H K:=by
 induction s with
 |pure x=>intro a K h hk;simp only[dZ,Option.some.injEq]at h;subst h;exact hk
 |load m ad k ih=>
  intro a K h hk
  simp only[dZ]at h
  simp only[dY]
  split at h
  ·rename_i v hv;exact ih _ _ _ h hk
  ·cases h
 |shape r k ih=>
  intro a K h hk
  simp only[dZ]at h
  simp only[dY]
  split at h
  ·rename_i v hv;exact ih _ _ _ h hk
  ·cases h
 |frozen r k ih=>
  intro a K h hk
  simp only[dZ]at h
  simp only[dY]
  split at h
  ·rename_i v hv;exact ih _ _ _ h hk
  ·cases h
 |program k ih=>intro a K h hk;simp only[dZ]at h;exact ih _ _ _ h hk
 |mark m k ih=>intro a K h hk;simp only[dZ]at h;exact ih _ _ h hk
 |_=>intro a K h hk;simp only[dZ]at h;cases h
def KU (t:TypeId) (cs:List Value) (H:AH) (k:Value→AH→Prop) (_t:Lk (k,H):=.mk):Prop:=bY H fun b=>k (.pointer (some ⟨b,0,none⟩)) (H.add b (.cells cs t cs.length))
theorem qK {t:TypeId} {v:Value} {k:Addr→AH→Prop} (h:bY H fun b=>k ⟨b,0,none⟩ (H.add b (.cells (iq v) t (iq v).length))):dY P (newVar t v) H k:=by
 simp only[newVar,newRow,newObj,dO,dY,true_and]
 intro b hb
 have:=h b hb
 simp only[iq,Array.length_toList]at this
 exact this
def fap (P:Program) (s:TypeId) (i:Nat) (v:Value) (k:Value→Prop) (_t:Lk k:=.mk):Prop:=
 match v with
 |.pointer (some ⟨b,o,none⟩)=>wo (lq P s i) fun off=>nv (.pointer (some ⟨b,o+off,none⟩)) k
 |_=>False
theorem Vo {s:TypeId} {i:Nat} {b o:Nat} {k:Value→Prop}:fap P s i (.pointer (some ⟨b,o,none⟩)) k=wo (lq P s i) fun off=>nv (.pointer (some ⟨b,o+off,none⟩)) k:=Eq.trans rfl rfl
theorem Nl {s:TypeId} {i:Nat} {v:Value} {k:Value→Prop} (h:fap P s i v k):wo (dZ P (Instr.fieldAt s v i) H) k:=by
 unfold fap at h
 split at h
 ·rename_i b o
  unfold lq at h
  split at h
  ·rename_i fs hu
   cases hf:fs[i]? with
   |none=>rw[hf]at h;exact h.elim
   |some f=>
    rw[hf]at h
    simp only[Option.bind_some]at h
    split at h
    ·exact h.elim
    ·rename_i hz
     have hi:(P.info? f.type).map (·.size)=some (P.cellsOf f.type):=by
      unfold Program.cellsOf at hz ⊢
      cases hi:P.info? f.type with
      |none=>rw[hi]at hz;simp at hz
      |some i=>rfl
     simp only[Instr.fieldAt,bW,bT,hu,Option.bind_some,hf,Instr.sureAddr,cZ,fieldPlace,gU,hi]
     simp only[hz,if_false,cZ,Option.bind_some,add_plain]
     exact h
  ·exact h.elim
 ·exact h.elim
def ixp (u:Option TypeDesc) (sz:Nat) (v i:Value) (k:Value→Prop) (_t:Lk k:=.mk):Prop:=
 match u,v,i with
 |some (.array len _),.pointer (some ⟨b,o,none⟩),.int _ i=>0≤i∧i<len∧nv (.pointer (some ⟨b,o+i.toNat*sz,none⟩)) k
 |some (.slice _),.slice (some ⟨b,o,none⟩) len _,.int _ i=>0≤i∧i<len∧nv (.pointer (some ⟨b,o+i.toNat*sz,none⟩)) k
 |_,_,_=>False
theorem OU {len e sz b o:Nat} {kd:IntKind} {i:Int} {k:Value→Prop}:ixp (some (.array len e)) sz (.pointer (some ⟨b,o,none⟩)) (.int kd i) k=(0≤i∧i<len∧nv (.pointer (some ⟨b,o+i.toNat*sz,none⟩)) k):=Eq.trans rfl rfl
theorem OV {len e sz b o c:Nat} {kd:IntKind} {i:Int} {k:Value→Prop}:ixp (some (.slice e)) sz (.slice (some ⟨b,o,none⟩) len c) (.int kd i) k=(0≤i∧i<len∧nv (.pointer (some ⟨b,o+i.toNat*sz,none⟩)) k):=Eq.trans rfl rfl
theorem Np {t:TypeId} {v i:Value} {k:Value→Prop} (hz:ny P t≠0) (h:ixp (P.underlying t) (ny P t) v i k):wo (dZ P (Instr.indexAt t v i) H) k:=by
 unfold ixp at h
 have hsz:∀ e,(P.underlying t=some (.slice e)∨∃ l,P.underlying t=some (.array l e))→(P.info? e).map (·.size)=some (ny P t):=fun e he=>by
  have:ny P t=P.cellsOf e:=by
   unfold ny
   rcases he with he | ⟨l,he⟩<;>rw[he]
  rw[this]at hz ⊢
  unfold Program.cellsOf at hz ⊢
  cases hi:P.info? e with
  |none=>rw[hi]at hz;simp at hz
  |some i=>rfl
 split at h
 ·rename_i len e b o kd i hu
  obtain⟨h1,h2,h3⟩:=h
  have hs:=hsz e (.inr ⟨len,hu⟩)
  simp only[Instr.indexAt,bW,asIntOf,cZ,Option.bind_some,bT,hu,Instr.sureAddr]
  simp only[h1,h2,and_self,if_true,bW,gU,hs,Option.bind_some,cZ,add_plain]
  exact h3
 ·rename_i e b o len c kd i hu
  obtain⟨h1,h2,h3⟩:=h
  have hs:=hsz e (.inl hu)
  simp only[Instr.indexAt,bW,asIntOf,cZ,Option.bind_some,bT,hu]
  simp only[h1,h2,and_self,if_true,bW,gU,hs,Option.bind_some,cZ,add_plain]
  exact h3
 ·exact h.elim
def oK (P:Program) (t:TypeId):Bool:=
 match P.underlying t with
 |some (.struct fs)=>fs.toList.all fun f=>(P.info? f.type).isSome
 |some (.array _ e)=>(P.info? e).isSome
 |_=>false
def EF (pl:Nat→Option (Nat×Nat)) (cs:List Value):List (Nat×Value)→Option (List Value)
 | []=>some cs
 |(i,v)::r=>match pl i with
  |some (off,sz)=>if (iq v).length=sz∧off+sz≤cs.length then EF pl (iO cs off (iq v)) r else none
  |none=>none
theorem Ag:∀ (vs cs:List Value) (off:Nat),(iO cs off vs).length=cs.length
 | [],_,_=>rfl
 |v::vs,cs,off=>by simp[iO,Ag vs]
theorem ER:∀ (vs:List Value) (cells:Array Value) (off k:Nat),((vs.zipIdx k).foldl (fun(cs:Array Value) (x:Value×Nat)=>cs.setIfInBounds (off+x.2) x.1) cells).toList=iO cells.toList (off+k) vs
 | [],_,_,_=>rfl
 |v::vs,cells,off,k=>by
  simp only[List.zipIdx_cons,List.foldl_cons,iO]
  rw[ER vs _ off (k+1)]
  simp[Nat.add_assoc]
theorem sD (pl:Nat→Option (Nat×Nat)):∀ (ps:List (Nat×Value)) (cells:Array Value) (cs:List Value),EF pl cells.toList ps=some cs→Instr.fill pl cells ps=some cs.toArray
 | [],cells,cs,h=>by simp only[EF,Option.some.injEq]at h;subst h;simp[Instr.fill]
 |(i,v)::r,cells,cs,h=>by
  simp only[EF]at h
  simp only[Instr.fill]
  split at h
  ·rename_i off sz hp
   split at h
   ·rename_i hc
    simp only[hp]
    have h1:v.cells.size=sz:=by rw[←hc.1];simp[iq]
    have h2:¬ (v.cells.size≠sz∨off+v.cells.size>cells.size):=by
     have:=hc.2;simp at this;omega
    simp only[ne_eq,gt_iff_lt,not_or,Decidable.not_not,Nat.not_lt]at h2
    simp only[ne_eq,h2.1,not_true_eq_false,gt_iff_lt,Bool.or_eq_true,decide_eq_true_eq,false_or]
    rw[if_neg (by rw[h1]at h2;omega)]
    refine sD pl r _ cs ?_
    rw[←h]
    congr 1
    rw[←Array.foldl_toList,Array.toList_zipIdx]
    have:=ER v.cells.toList cells off 0
    simpa [iq]using this
   ·cases h
  ·cases h
theorem rF (P:Program) (H:AH):∀ (fs:List Field),(fs.all fun f=>(P.info? f.type).isSome)=true→dZ P (fs.mapM fun f=>(do pure (f.offset,←sizeOf f.type):Sem (Nat×Nat))) H=some (fs.map fun f=>(f.offset,P.cellsOf f.type))
 | [],_=>rfl
 |f::fs,h=>by
  simp only[List.all_cons,Bool.and_eq_true]at h
  obtain⟨i,hi⟩:=Option.isSome_iff_exists.1 h.1
  simp only[List.mapM_cons,bW,gU,hi,Option.map_some,Option.bind_some,cZ,rF P H fs h.2,List.map_cons,Program.cellsOf,Option.getD_some]
def bld (P:Program) (t:TypeId) (ps:List (Nat×Value)) (k:Value→Prop) (_t:Lk k:=.mk):Prop:=oK P t=true∧wo (qE P t) fun z=>wo (EF (lI P t) z ps) fun cs=>nv (.agg cs.toArray) k
theorem Nq {t:TypeId} {ps:List (Nat×Value)} {k:Value→Prop} (h:bld P t ps k):wo (dZ P (Instr.build t ps.toArray) H) k:=by
 obtain⟨h1,h⟩:=h
 unfold wo at h
 split at h
 ·rename_i z hz
  split at h
  ·rename_i cs hcs
   obtain⟨zv,hz1,hz2⟩:=qY (H:=H) hz
   have key:∀ pl:Nat→Option (Nat×Nat),pl=lI P t→Instr.fill pl zv.cells ps=some cs.toArray:=fun pl hp=>by
    subst hp
    exact sD _ _ _ _ (by rw[hz2];exact hcs)
   unfold oK at h1
   simp only[Instr.build,bW,hz1,Option.bind_some,bT]
   split at h1
   ·rename_i fs hu
    have hm:dZ P (fs.mapM fun f=>(do pure (f.offset,←sizeOf f.type):Sem (Nat×Nat))) H=some (fs.toList.map fun f=>(f.offset,P.cellsOf f.type)).toArray:=by
     have e2:fs.mapM (fun f=>(do pure (f.offset,←sizeOf f.type):Sem (Nat×Nat)))=List.toArray <$> fs.toList.mapM (fun f=>(do pure (f.offset,←sizeOf f.type):Sem (Nat×Nat))):=by
      rw[←List.mapM_toArray]
     rw[e2,mQ,rF P H _ h1];rfl
    simp only[hu,Option.bind_some,bW,hm]
    rw[key _ (by
     funext i
     simp[lI,hu])]
    exact h
   ·rename_i l e hu
    obtain⟨i,hi⟩:=Option.isSome_iff_exists.1 h1
    simp only[hu,Option.bind_some,bW,gU,hi,Option.map_some]
    rw[key _ (by funext j;simp[lI,hu,Program.cellsOf,hi])]
    exact h
   ·cases h1
  ·exact h.elim
 ·exact h.elim
def acl (q:Bool) (P:Program) (H:AH) (f:Value) (as_:List Value) (K:Value→AH→Prop) (_t:Lk (K,H):=.mk):Prop:=
 match f with
 |.func (.func g) first cap=>fA P g=true∧AC q P g (first.toList++as_++cap.toList).toArray H K
 |_=>False
theorem QG {g:Nat} {first cap:List Value} {as_:List Value} {K:Value→AH→Prop}:acl q P H (.func (.func g) first.toArray cap.toArray) as_ K=(fA P g=true∧AC q P g (first++as_++cap).toArray H K):=by simp[acl]
theorem QH {f:FuncId} {as_:Array Value} {K:Value→AH→Prop}:AC false P f as_ H K=aO P f as_ H K:=Eq.trans rfl rfl
theorem Vp {f:FuncId} {as_:Array Value} {K:Value→AH→Prop}:AC true P f as_ H K=BP P f as_ H (fun v=>K v H):=Eq.trans rfl rfl
theorem Vq {f:Value} {as_:List Value} {K:Value→AH→Prop} {tys:Array TypeId} (o:Oper) {xs:Array Operand} {y:Operand} {fr:Fr}
  (ho:o.op=.call { callee:=.value y,args:=xs,argTypes:=tys }) (hf:kC fr y=f) (has:xs.toList.map (kC fr)=as_) (h:acl q P H f as_ K):zu q P fr H o K:=by
 unfold acl at h
 split at h
 ·rename_i g first cap
  obtain⟨h1,h2⟩:=h
  unfold fA at h1
  split at h1
  ·rename_i fn hfn
   simp only[Bool.and_eq_true,bne_iff_ne,ne_eq]at h1
   have hbody:fn.body.isNone=false:=by cases hb:fn.body with
    |none=>rw[hb]at h1;simp at h1
    |some c=>rfl
   have hname:(fn.name=="runtime.NumGoroutine")=false:=by simpa using h1.1
   have hq:dZ P (execOp (kC fr) o) H=some (.enter g (first.toList++as_++cap.toList).toArray):=by
    simp only[execOp,ho,resolve,hf,Deferred.ofValue,bW,cZ,Option.bind_some,invoke,callFunc,rY,hfn]
    simp only[hname,hbody,Bool.false_eq_true,if_false,cZ]
    simp[←has]
   simp only[zu,ho,cls,hq,oJ]
   exact h2
  ·cases h1
 ·exact h.elim
def nck (v:Value) (k:Value→Prop) (_t:Lk k:=.mk):Prop:=
 match v with
 |.pointer (some _)=>k v
 |.func (.func _) _ _=>k v
 |.iface _ _=>k v
 |_=>False
theorem Vr {a:Addr} {k:Value→Prop}:nck (.pointer (some a)) k=k (.pointer (some a)):=Eq.trans rfl rfl
def jC (P:Program) (H:AH) (s:Sem Value) (k:Value→Prop) (_t:Lk (k,H):=.mk):Prop:=wo (dZ P s H) fun v=>nv v k
def wL (fr:Fr) (o:Option Operand) (k:Option Value→Prop) (_t:Lk (k,fr):=.mk):Prop:=
 match o with
 |some x=>wv fr x fun v=>k (some v)
 |none=>k none
theorem KW {x:Operand} {k:Option Value→Prop}:wL fr (some x) k=wv fr x fun v=>k (some v):=Eq.trans rfl rfl
theorem KX {k:Option Value→Prop}:wL fr none k=k none:=Eq.trans rfl rfl
def rdv (u:Option TypeDesc):Builtin→List Value→Option Value
 |.len,[.string s]=>match u with | some .string=>some (.int .i64 s.size) | _=>none
 |.len,[.slice _ n _]=>match u with | some (.slice _)=>some (.int .i64 n) | _=>none
 |.cap,[.slice _ _ n]=>match u with | some (.slice _)=>some (.int .i64 n) | _=>none
 |.min,[.int k a,.int _ b]=>some (.int k (if b<a then b else a))
 |.max,[.int k a,.int _ b]=>some (.int k (if b>a then b else a))
 |_,_=>none
def Qw (u:Option TypeDesc) (b:Builtin) (as_:List Value) (k:Value→Prop) (_t:Lk k:=.mk):Prop:=wo (rdv u b as_) fun v=>nv v k
theorem EG {e:TypeId} {a:Option Addr} {n c:Nat} {k:Value→Prop}:Qw (some (.slice e)) .len [.slice a n c] k=nv (.int .i64 n) k:=Eq.trans rfl rfl
theorem EH {e:TypeId} {a:Option Addr} {n c:Nat} {k:Value→Prop}:Qw (some (.slice e)) .cap [.slice a n c] k=nv (.int .i64 c) k:=Eq.trans rfl rfl
theorem Vs {u:Option TypeDesc} {kd:IntKind} {a b:Int} {k:Value→Prop}:Qw u .min [.int kd a,.int kd b] k=nv (.int kd (if b<a then b else a)) k:=Eq.trans rfl rfl
theorem Vt {u:Option TypeDesc} {kd:IntKind} {a b:Int} {k:Value→Prop}:Qw u .max [.int kd a,.int kd b] k=nv (.int kd (if b>a then b else a)) k:=Eq.trans rfl rfl
theorem Nr {b:Builtin} {ts:Array TypeId} {as_:List Value} {v:Value} {cs:Array Bool} (h:rdv (ts[0]?.bind P.underlying) b as_=some v):dZ P (builtin b ts ty cs as_.toArray) H=some (.value v):=by
 cases ht:ts[0]? with
 |none=>
  rw[ht]at h
  unfold rdv at h
  split at h<;>simp at h
  ·subst h;simp[builtin,Builtin.min_,Builtin.min2,cZ,mQ]
  ·subst h;simp[builtin,Builtin.max_,Builtin.max2,cZ,mQ]
 |some t=>
  rw[ht]at h
  simp only[Option.bind_some]at h
  unfold rdv at h
  split at h
  ·split at h
   ·rename_i hu;cases h;simp[builtin,Builtin.len_,bW,mQ,bT,ht,hu,cZ,goInt]
   ·cases h
  ·split at h
   ·rename_i hu;cases h;simp[builtin,Builtin.len_,bW,mQ,bT,ht,hu,cZ,goInt]
   ·cases h
  ·split at h
   ·rename_i hu;cases h;simp[builtin,Builtin.cap_,bW,mQ,bT,ht,hu,cZ,goInt]
   ·cases h
  ·cases h;simp[builtin,Builtin.min_,Builtin.min2,cZ,mQ]
  ·cases h;simp[builtin,Builtin.max_,Builtin.max2,cZ,mQ]
  ·cases h
def uG (P:Program) (t:TypeId):Option (TypeId×Nat×List Value×Nat):=
 match P.underlying t with
 |some (.slice e)=>(P.info? e).bind fun i=>i.zero.map fun z=>(e,i.size,z.cells.toList,i.bytes)
 |_=>none
theorem pW {t e sz bt:Nat} {zs:List Value} (h:uG P t=some (e,sz,zs,bt)):P.underlying t=some (.slice e)∧∃ i z,P.info? e=some i∧i.zero=some z∧i.size=sz∧z.cells.toList=zs∧i.bytes=bt:=by
 unfold uG at h
 split at h
 ·rename_i e' hu
  obtain⟨i,hi,h⟩:=Option.bind_eq_some_iff.1 h
  obtain⟨z,hz,h⟩:=Option.map_eq_some_iff.1 h
  simp only[Prod.mk.injEq]at h
  obtain⟨rfl,h1,h2,h3⟩:=h
  exact⟨hu,i,z,hi,hz,h1,h2,h3⟩
 ·cases h
def YL (n:Nat) (k:Nat→Prop) (_t:Lk k:=.mk):Prop:=∀ c,n≤c→k c
theorem YL.mk {n:Nat} {k:Nat→Prop} (h:∀ c,n≤c→k c):YL n k:=h
def afi (e:TypeId) (cs:List Value) (len:Nat) (H:AH) (k:Value→AH→Prop) (_t:Lk (k,H):=.mk):Prop:=
 bY H fun b=>k (.slice (some ⟨b,0,none⟩) len len) (H.add b (.cells cs e cs.length))
theorem qL {e:TypeId} {cs:Array Value} {k:Addr→AH→Prop} (h:bY H fun b=>k ⟨b,0,none⟩ (H.add b (.cells cs.toList e cs.size))):dY P (newRow e cs) H k:=by
 simp only[newRow,newObj,dO,dY,true_and]
 exact h
theorem vS:∀ (vs cs:List Value) (off:Nat),off+vs.length≤cs.length→iO cs off vs=cs.take off++vs++cs.drop (off+vs.length)
 | [],cs,off,_=>by simp[iO]
 |v::vs,cs,off,h=>by
  simp only[List.length_cons]at h
  rw[iO,vS vs _ _ (by simp;omega),List.take_add_one,List.drop_set]
  have e:(List.take off cs).set off v=List.take off cs:=List.set_eq_of_length_le (by simp;omega)
  simp[List.getElem?_set,show off<cs.length from by omega,List.take_set,e,show off<off+1+vs.length from by omega,show off+1+vs.length=off+(vs.length+1) from by omega]
theorem bP {α β:Type} {x:Sem α} {f:α→Sem β} {a:α} {K:β→AH→Prop} (h:dZ P x H=some a) (hk:dY P (f a) H K):dY P (x >>= f) H K:=by
 rw[dO];exact kV _ _ _ h hk
def xP (sz:Nat):Nat→List (Nat×Value)→Option (List Value)
 |_,[]=>some []
 |i,(j,v)::r=>if j=i∧(iq v).length=sz then (xP sz (i+1) r).map (iq v++·) else none
theorem ES (sz:Nat):∀ (ps:List (Nat×Value)) (i:Nat) (cs r:List Value),xP sz i ps=some r→cs.length=(i+ps.length)*sz→EF (fun j=>some (j*sz,sz)) cs ps=some (cs.take (i*sz)++r)
 | [],i,cs,r,h,hl=>by
  simp only[xP,Option.some.injEq]at h;subst h
  simp only[EF,List.append_nil,Option.some.injEq]
  rw[List.take_of_length_le];simp at hl;omega
 |(j,v)::ps,i,cs,r,h,hl=>by
  simp only[xP]at h
  split at h
  ·rename_i hc
   obtain⟨rfl,hv⟩:=hc
   obtain⟨r',hr,rfl⟩:=Option.map_eq_some_iff.1 h
   have e1:(j+(ps.length+1))*sz=j*sz+sz+ps.length*sz:=by rw[Nat.add_mul,Nat.succ_mul];omega
   have hle:j*sz+sz≤cs.length:=by simp only[List.length_cons]at hl;rw[hl,e1];omega
   simp only[EF]
   rw[if_pos ⟨hv,hle⟩,ES sz ps (j+1) _ r' hr (by rw[Ag,hl];simp only[List.length_cons];rw[show j+1+ps.length=j+(ps.length+1) from by omega])]
   rw[vS _ _ _ (by omega),show(j+1)*sz=j*sz+sz from Nat.succ_mul _ _]
   congr 1
   rw[←List.append_assoc]
   congr 1
   have hL:(List.take (j*sz) cs++iq v).length=j*sz+sz:=by simp[hv];omega
   rw[List.take_append_of_le_length (by omega),List.take_of_length_le (by omega)]
  ·cases h
def Vu (P:Program) (t:TypeId) (len:Nat) (ps:List (Nat×Value)) (H:AH) (k:Value→AH→Prop) (_t:Lk (k,H):=.mk):Prop:=
 wo (uG P t) fun s=>len=ps.length∧len*s.2.1≤16777216∧wo (xP s.2.1 0 ps) fun cs=>afi s.1 cs len H k
theorem iH {e:TypeId} {i:TypeInfo} {z:Value} (hi:P.info? e=some i) (hz:i.zero=some z):dZ P (zeroValue e) H=some z:=by
 simp only[zeroValue,typeInfo,program,bW,dZ,Option.bind_some,hi,cZ,hz]
theorem Ns {t:TypeId} {len:Nat} {ps:List (Nat×Value)} {k:Value→AH→Prop} (h:Vu P t len ps H k):dY P (Instr.buildSlice t len ps.toArray) H k:=by
 unfold Vu wo at h
 split at h
 ·rename_i s hs
  obtain⟨e,sz,zs,bt⟩:=s
  obtain⟨hu,i,z,hi,hz,h1,h2,h3⟩:=pW hs
  obtain⟨hl,hle,h⟩:=h
  simp only at hl hle h
  split at h
  ·rename_i cs hcs
   simp only[Instr.buildSlice,dO]
   refine kV _ _ _ (bT t |>.trans hu) ?_
   simp only
   have hs1:dZ P (sizeOf e) H=some sz:=by rw[gU,hi,Option.map_some,h1]
   rw[dO]
   refine kV _ _ _ hs1 ?_
   rw[if_neg (by omega)]
   have key:∀ zc:Array Value,Instr.fill (fun j=>some (j*sz,sz)) ((Array.range (len*sz)).map (zc[· % zc.size]!)) ps=some cs.toArray:=fun zc=>
    sD _ _ _ cs (by rw[ES sz ps 0 _ cs hcs (by simp[hl])];simp)
   have fin:dY P (do pure (.slice (some (←newRow e cs.toArray)) len len):Sem Value) H k:=by
    rw[dO]
    refine qL fun b hb=>?_
    have h1:=h b hb
    show k _ (H.add b (.cells cs.toArray.toList e cs.toArray.size))
    simpa using h1
   by_cases h0:len*sz=0
   ·simp only[h0,if_true]
    refine bP (a:=#[]) rfl ?_
    have:=key #[]
    rw[h0]at this
    rw[this]
    exact fin
   ·simp only[h0,if_false]
    refine bP (iH hi hz) ?_
    refine bP (a:=z.cells) rfl ?_
    rw[key]
    exact fin
  ·exact h.elim
 ·exact h.elim
def Gv:Option TypeDesc→Bool
 |some (.int _)=>false
 |some _=>true
 |none=>false
def nC (H:AH) (sz:Nat):Value→Option (List Value)
 |.slice (some ⟨b,o,none⟩) n _=>H.row b o (n*sz)
 |.slice none n _=>if n=0 then some [] else none
 |.string s=>if sz=1 then some (s.data.toList.map fun b=>.int .u8 b.toNat) else none
 |_=>none
def slen:Value→Option Nat
 |.slice _ n _=>some n
 |.string s=>some s.size
 |_=>none
def AH.app (H:AH) (b off:Nat) (vs:List Value):Option AH:=
 match H.find b with
 |some (.cells cs e sz)=>if off≤cs.length∧off+vs.length≤sz∧vs.all iM=true then some (H.set b (.cells (cs.take off++vs++cs.drop (off+vs.length)) e sz)) else none
 |_=>none
theorem wX {b o n:Nat} {l:List Value} (h:H.row b o n=some l):l.length=n:=by
 unfold AH.row at h
 split at h
 ·split at h
  ·cases h;simp;omega
  ·cases h
 ·cases h
 ·cases h
 ·split at h
  ·have:∀ (n o:Nat) (l:List Value),lN H.w0 b o n=some l→l.length=n:=by
    intro n
    induction n with
    |zero=>intro o l h;cases h;rfl
    |succ n ih=>
     intro o l h
     simp only[lN]at h
     obtain⟨v,_,h⟩:=Option.bind_eq_some_iff.1 h
     obtain⟨l',h',rfl⟩:=Option.map_eq_some_iff.1 h
     simp[ih _ _ h']
   exact this _ _ _ h
  ·cases h
theorem lQ {sz n:Nat} {x:Value} {l:List Value} (h:nC H sz x=some l) (hn:slen x=some n):dZ P (Builtin.firstCells sz n x) H=some l.toArray∧l.length=n*sz:=by
 unfold nC at h
 split at h
 ·rename_i b o m c
  simp only[slen,Option.some.injEq]at hn
  subst hn
  refine⟨?_,wX h⟩
  simp only[Builtin.firstCells]
  by_cases h0:m*sz=0
  ·rw[h0]at h ⊢
   have:=wX h
   rw[List.eq_nil_of_length_eq_zero this]
   rfl
  ·rw[uI P H b o _ h0,h];rfl
 ·rename_i m c
  simp only[slen,Option.some.injEq]at hn
  subst hn
  split at h
  ·rename_i h0;cases h;subst h0;simp[Builtin.firstCells,cZ]
  ·cases h
 ·rename_i s
  simp only[slen,Option.some.injEq]at hn
  subst hn
  split at h
  ·rename_i h0;cases h;subst h0
   refine⟨?_,by simp⟩
   simp only[Builtin.firstCells,cZ,Option.some.injEq]
   have:s.extract 0 s.size=s:=by
    apply ByteArray.ext
    rw[ByteArray.data_extract]
    exact Array.extract_size
   rw[this]
   apply Array.ext'
   simp
  ·cases h
 ·cases h
def apd (P:Program) (t t2:Option TypeId) (s x:Value) (H:AH) (k:Value→AH→Prop) (_t:Lk (k,H):=.mk):Prop:=
 match s with
 |.slice base n cap=>wo t fun t=>wo t2 fun t2=>Gv (P.underlying t2)=true∧wo (uG P t) fun E=>E.2.2.1.length=E.2.1∧E.2.2.2≠0∧
  wo (slen x) fun m=>wo (nC H E.2.1 (.slice base n cap)) fun old=>wo (nC H E.2.1 x) fun new=>
   imp (m=0∧n≤cap) (k (.slice base n cap) H)∧
   imp (m≠0∧n+m≤cap) (match base with
    |some ⟨b,o,none⟩=>wo (H.app b (o+n*E.2.1) new) fun H'=>k (.slice base (n+m) cap) H'
    |_=>False)∧
   imp (cap<n+m) ((2*(n+m)+192)*E.2.2.2≤281474976710656∧bY H fun b=>YL (n+m) fun c=>k (.slice (some ⟨b,0,none⟩) (n+m) c) (H.add b (.cells (old++new) E.1 (c*E.2.1))))
 |_=>False
theorem ET (need:Nat):∀ (r c:Nat),c≤2*need+192→Builtin.growBy need r c≤2*need+192
 |0,c,h=>h
 |r+1,c,h=>by
  simp only[Builtin.growBy]
  split
  ·exact h
  ·exact ET need r _ (by omega)
theorem BU {need old:Nat} (h:old<need):Builtin.nextslicecap need old≤2*need+192:=by
 unfold Builtin.nextslicecap
 split
 ·omega
 ·split
  ·omega
  ·exact ET _ _ _ (by omega)
theorem BX {x:Value} {n:Nat} (h:slen x=some n):dZ P (Builtin.lenOf x) H=some n:=by
 cases x<;>simp only[slen]at h<;>first | (cases h;done) | (cases h;rfl)
theorem uJ (b:Nat) (K:Unit→AH→Prop):∀ (vs:List Value) (off i:Nat) (H:AH) (cs:List Value) (e sz:Nat),H.find b=some (.cells cs e sz)→off+i≤cs.length→off+i+vs.length≤sz→vs.all iM=true→
  (∀ H',H'.w0=H.w0→(∀ b',H'.find b'=if b'=b then some (.cells (cs.take (off+i)++vs++cs.drop (off+i+vs.length)) e sz) else H.find b')→K () H')→dY P (storeCells ⟨b,off,none⟩ vs i) H K
 | [],off,i,H,cs,e,sz,hf,h1,h2,h3,hk=>by
  refine hk H rfl fun b'=>?_
  by_cases hb:b'=b
  ·subst hb;simp[hf]
  ·simp[hb]
 |v::vs,off,i,H,cs,e,sz,hf,h1,h2,h3,hk=>by
  have ea:=add_plain b off i
  simp only[List.length_cons]at h2
  simp only[List.all_cons,Bool.and_eq_true]at h3
  have es:storeCells ⟨b,off,none⟩ (v::vs) i=(store ((⟨b,off,none⟩:Addr).add i) v >>= fun _=>storeCells ⟨b,off,none⟩ vs (i+1)):=rfl
  rw[es,dO]
  rw[ea]
  unfold store dY
  rw[hf]
  refine⟨h3.1,rfl,by simp only;omega,by simp only;omega,?_⟩
  show dY P (storeCells ⟨b,off,none⟩ vs (i+1)) _ K
  have hw:wr cs (off+i) v=cs.take (off+i)++[v]++cs.drop (off+i+1):=by
   unfold wr
   split
   ·rename_i hlt;rw[List.set_eq_take_append_cons_drop];simp[hlt]
   ·rw[List.take_of_length_le (by omega),List.drop_eq_nil_of_le (by omega)];simp
  have hf':(H.set b (.cells (wr cs (off+i) v) e sz)).find b=some (.cells (wr cs (off+i) v) e sz):=by simp[dw]
  have hlen:off+i+1≤(wr cs (off+i) v).length:=by rw[hw];simp;omega
  refine uJ b K vs off (i+1) _ _ e sz hf' (by omega) (by omega) h3.2 fun H' hw0 hH'=>hk H' (by rw[hw0];rfl) fun b'=>?_
  rw[hH' b']
  by_cases hb:b'=b
  ·subst hb
   simp only[if_true]
   rw[hw]
   have t1:(List.take (off+i) cs).length=off+i:=by simp;omega
   congr 2
   rw[show off+(i+1)=off+i+1 from by omega]
   have e1:List.take (off+i+1) (List.take (off+i) cs++[v]++List.drop (off+i+1) cs)=List.take (off+i) cs++[v]:=by
    rw[List.take_append_of_le_length (by simp;omega),List.take_of_length_le (by simp;omega)]
   have e2:List.drop (off+i+1+vs.length) (List.take (off+i) cs++[v]++List.drop (off+i+1) cs)=List.drop (off+i+(vs.length+1)) cs:=by
    rw[List.drop_append,List.drop_eq_nil_of_le (by simp;omega)]
    simp only[List.nil_append,List.length_append,t1,List.length_singleton,List.drop_drop]
    congr 1;omega
   rw[e1,e2];simp
  ·simp only[hb,if_false,dw]
theorem Sat.pre {E:Nat→Option Obj} {H:AH} {w:World} {b e sz:Nat} {cs rest:List Value} (h:Sat E (H.add b (.cells (cs++rest) e sz)) w):Sat E (H.add b (.cells cs e sz)) w:=
 ⟨h.below,fun b' k hk=>by
  rw[dh]at hk
  split at hk
  ·rename_i hb
   subst hb;cases hk
   obtain⟨h1,h2,arr,h3,h4,h5⟩:=h.known b' _ (aH _ _ _)
   exact⟨h1,h2,arr,h3,h4,(List.prefix_append cs rest).trans h5⟩
  ·rename_i hb
   exact h.known b' k (by rw[dh,if_neg hb];exact hk),fun b' o ho=>by
  obtain⟨h1,h2,h3⟩:=h.far b' o ho
  refine⟨h1,?_,h3⟩
  rw[dh]at h2 ⊢
  split at h2
  ·cases h2
  ·rename_i hb;rw[if_neg hb];exact h2⟩
theorem Sat.iU {E:Nat→Option Obj} {H H':AH} {w:World} (h:Sat E H w) (h0:H'.w0=H.w0) (hf:∀ b,H'.find b=H.find b):Sat E H' w:=h.mono ⟨h0,fun b k x=>by rw[←hf];exact x⟩
theorem Gw {ts:Array TypeId} {ty:TypeId} {s x:Value} {k:Value→AH→Prop} (h:apd P ts[0]? ts[1]? s x H k):nH P (do pure (.value (←Builtin.append_ ts ty #[s,x]))) H k:=by
 unfold apd at h
 split at h
 ·rename_i base n cap
  unfold wo at h
  split at h
  ·rename_i t ht
   split at h
   ·rename_i t2 ht2
    obtain⟨hni,h⟩:=h
    split at h
    ·rename_i E hE
     obtain⟨e,sz,zs,bt⟩:=E
     obtain⟨hu,i,z,hi,hz,h1,h2,h3⟩:=pW hE
     obtain⟨hzl,hbt,h⟩:=h
     simp only at hzl hbt h
     split at h
     ·rename_i m hm
      split at h
      ·rename_i old hold
       split at h
       ·rename_i new hnew
        obtain⟨c1,c2,c3⟩:=h
        obtain⟨q1,l1⟩:=lQ (P:=P) hold (n:=n) rfl
        obtain⟨q2,l2⟩:=lQ (P:=P) hnew hm
        have hbytes:dZ P (typeInfo e) H=some i:=by simp only[typeInfo,program,bW,dZ,Option.bind_some,hi,cZ]
        obtain⟨u2,hu2⟩:∃ u,P.underlying t2=some u:=by cases hh:P.underlying t2 with
         |none=>rw[hh]at hni;cases hni
         |some u=>exact⟨u,rfl⟩
        have hz0:∀ {α:Type} (A B:α),(match u2 with | .int _=>A | _=>B)=B:=fun A B=>by
         rw[hu2]at hni;cases u2<;>first | rfl | cases hni
        suffices hm:dY P (Builtin.append_ ts ty #[.slice base n cap,x]) H (fun v H'=>∃ H1,(∀ E w,Sat E H' w→Sat E H1 w)∧k v H1) by
         intro E w hs
         obtain⟨v,w',H',r1,r2,H1,r3,r5⟩:=lT P _ _ _ w hm hs
         refine⟨.value v,w',H1,?_,r3 _ _ r2,r5⟩
         show(Builtin.append_ ts ty #[.slice base n cap,x] >>= fun v=>pure (Next.value v)).run P w=_
         simp only[Sem.run_bind,r1,Result.andThen_ok,Sem.run_pure]
        have same:∀ v H1,k v H1→∃ H2:AH,(∀ E w,Sat E H1 w→Sat E H2 w)∧k v H2:=fun v H1 h=>⟨H1,fun _ _ h=>h,h⟩
        unfold Builtin.append_
        simp only[ht,ht2]
        refine bP ((bT t).trans hu) ?_
        refine bP (a:=sz) (by rw[gU,hi,Option.map_some,h1]) ?_
        refine bP ((bT t2).trans hu2) ?_
        refine bP (a:=false) (by cases u2<;>first | rfl | (rw[hu2]at hni;cases hni)) ?_
        simp only[Bool.false_eq_true,if_false,Bool.not_false,if_true]
        refine bP (BX hm) ?_
        by_cases hc:n+m≤cap
        ·rw[if_pos hc]
         refine bP q2 ?_
         by_cases hm0:m=0
         ·have hn0:new=[]:=List.eq_nil_of_length_eq_zero (by rw[l2,hm0,Nat.zero_mul])
          subst hm0;subst hn0
          have hk:=c1 ⟨rfl,by omega⟩
          cases base with
          |none=>exact same _ _ hk
          |some a=>exact same _ _ hk
         ·have hk:=c2 ⟨hm0,hc⟩
          cases base with
          |none=>exact hk.elim
          |some a=>
           obtain⟨b,o,spot⟩:=a
           cases spot with
           |some v=>exact hk.elim
           |none=>
            simp only at hk
            rw[dO]
            simp only[add_plain]
            unfold AH.app at hk
            cases hf:H.find b with
            |none=>rw[hf]at hk;exact hk.elim
            |some kb=>
             cases kb with
             |gW es=>rw[hf]at hk;exact hk.elim
             |obj o=>rw[hf]at hk;exact hk.elim
             |cells cs e' bs=>
              rw[hf]at hk
              simp only at hk
              split at hk
              ·rename_i v hv
               split at hv
               ·rename_i hcond
                cases hv
                refine uJ b _ _ _ 0 H cs e' bs hf (by omega) (by simpa using hcond.2.1) (by simpa using hcond.2.2) fun H' h0 hH'=>?_
                refine⟨_,fun _ w hs=>hs.iU ?_ ?_,hk⟩
                ·rw[h0];rfl
                ·intro b';rw[hH' b',dw];simp
               ·cases hv
              ·exact hk.elim
        ·rw[if_neg hc]
         obtain⟨hroom,hk⟩:=c3 (by omega)
         have hnx:=BU (need:=n+m) (old:=cap) (by omega)
         refine bP hbytes ?_
         rw[if_neg (by rw[h3];simp[hbt])]
         refine bP hbytes ?_
         rw[if_neg (by
          rw[h3]
          have:=Nat.mul_le_mul_right bt hnx
          omega)]
         rw[dO]
         simp only[choose,dY,Question.forced,Bool.false_eq_true,if_false]
         intro tt
         have hcut:n+m≤(Question.appendCap (n+m) cap e).cut tt:=by simp[Question.cut]
         generalize (Question.appendCap (n+m) cap e).cut tt=c at hcut
         refine bP hbytes ?_
         have KY:∀ (x:Nat) (s2:Sem Value) (K:Value→AH→Prop),dY P s2 H K→dY P (askRoom x >>= fun _=>s2) H K:=fun x s2 K h=>by
          unfold askRoom
          split
          ·exact h
          ·exact h
         refine KY _ _ _ ?_
         refine bP q1 ?_
         refine bP q2 ?_
         refine bP (iH hi hz) ?_
         rw[dO]
         refine qL fun b hb=>?_
         have hk:=hk b hb c hcut
         have hsize:(old.toArray++new.toArray++Builtin.zeroCells z.cells (c - (n+m))).size=c*sz:=by
          simp only[Builtin.zeroCells,Array.size_append,List.size_toArray,Array.size_map,Array.size_range,l1,l2]
          have:z.cells.size=sz:=by rw[←hzl,←h2];simp
          rw[this,←Nat.add_mul,←Nat.add_mul,show n+m+(c - (n+m))=c from by omega]
         refine⟨_,fun _ w hs=>Sat.pre (rest:=(Builtin.zeroCells z.cells (c - (n+m))).toList) ?_,hk⟩
         rw[←hsize]
         simpa using hs
       ·exact h.elim
      ·exact h.elim
     ·exact h.elim
    ·exact h.elim
   ·exact h.elim
  ·exact h.elim
 ·exact h.elim
def zf (zs:List Value) (m:Nat):List Value:=(List.range m).map fun i=>zs[i % zs.length]!
def mks (P:Program) (t:TypeId) (l c:Value) (H:AH) (k:Value→AH→Prop) (_t:Lk (k,H):=.mk):Prop:=
 match l,c with
 |.int _ a,.int _ b=>wo (uG P t) fun E=>E.2.1≠0∧0≤a∧a≤b∧E.2.2.2*b≤281474976710656∧b<9223372036854775808∧
   bY H fun bl=>k (.slice (some ⟨bl,0,none⟩) a.toNat b.toNat) (H.add bl (.cells (zf E.2.2.1 (b.toNat*E.2.1)) E.1 (b.toNat*E.2.1)))
 |_,_=>False
theorem Vw {t:TypeId} {l c:Value} {k:Value→AH→Prop} (h:mks P t l c H k):dY P (Instr.makeSlice t l c) H k:=by
 unfold mks at h
 split at h
 ·rename_i k1 a k2 b
  unfold wo at h
  split at h
  ·rename_i E hE
   obtain⟨e,sz,zs,bt⟩:=E
   obtain⟨hu,i,z,hi,hz,h1,h2,h3⟩:=pW hE
   obtain⟨hsz,ha,hab,hbb,hb,h⟩:=h
   simp only at hsz hbb h
   have hbytes:dZ P (typeInfo e) H=some i:=by simp only[typeInfo,program,bW,dZ,Option.bind_some,hi,cZ]
   have wa:IntKind.i64.wrap a=a:=by rw[IntKind.wrap_i64];omega
   have wb:IntKind.i64.wrap b=b:=by rw[IntKind.wrap_i64];omega
   have room:∀ (x:Nat) (s2:Sem Value) (K:Value→AH→Prop),dY P s2 H K→dY P (askRoom x >>= fun _=>s2) H K:=fun x s2 K h=>by
    unfold askRoom
    split<;>exact h
   unfold Instr.makeSlice
   refine bP ((bT t).trans hu) ?_
   refine bP (a:=a) rfl ?_
   refine bP (a:=b) rfl ?_
   refine bP hbytes ?_
   simp only[wa,wb,h3]
   have hnot:¬ ((decide (b<0) || decide ((bt:Int)*b>2 ^ 48) || decide (a<0) || decide (a>b))=true):=by
    simp only[Bool.or_eq_true,decide_eq_true_eq,not_or]
    refine⟨⟨⟨by omega,?_⟩,by omega⟩,by omega⟩
    have:(2:Int) ^ 48=281474976710656:=by decide
    omega
   rw[if_neg (by simpa using hnot)]
   refine room _ _ _ ?_
   refine bP (a:=sz) (by rw[gU,hi,Option.map_some,h1]) ?_
   have fin:∀ zc:Array Value,(b.toNat*sz≠0→zc=z.cells)→dY P (do pure (.slice (some (←newRow e ((Array.range (b.toNat*sz)).map (zc[· % zc.size]!)))) a.toNat b.toNat):Sem Value) H k:=fun zc hzc=>by
    rw[dO]
    refine qL fun bl hbl=>?_
    have h':=h bl hbl
    have e1:((Array.range (b.toNat*sz)).map (zc[· % zc.size]!)).toList=zf zs (b.toNat*sz):=by
     by_cases h0:b.toNat*sz=0
     ·rw[h0];simp[zf]
     ·rw[hzc h0,←h2]
      simp[zf]
      intro j _
      rw[getElem!_def]
      cases z.cells[j % z.cells.size]?<;>rfl
    show k _ (H.add bl (.cells ((Array.range (b.toNat*sz)).map (zc[· % zc.size]!)).toList e ((Array.range (b.toNat*sz)).map (zc[· % zc.size]!)).size))
    rw[e1]
    simpa using h'
   by_cases h0:b.toNat*sz=0
   ·rw[if_pos h0]
    refine bP (a:=#[]) rfl ?_
    exact fin #[] (fun h=>absurd h0 h)
   ·rw[if_neg h0]
    refine bP (iH hi hz) ?_
    refine bP (a:=z.cells) rfl ?_
    exact fin _ (fun _=>rfl)
  ·exact h.elim
 ·exact h.elim
def plainKey:TypeDesc→Bool
 |.int _ | .string | .bool=>true
 |_=>false
def KZ (P:Program) (t:TypeId):Option (TypeDesc×Value):=
 match P.underlying t with
 |some (.map kt e)=>(P.underlying kt).bind fun d=>if plainKey d then (P.info? e).bind fun i=>i.zero.map fun z=>(d,z) else none
 |_=>none
theorem BZ {t:TypeId} {d:TypeDesc} {z:Value} (h:KZ P t=some (d,z)):∃ kt e i,P.underlying t=some (.map kt e)∧P.underlying kt=some d∧plainKey d=true∧P.info? e=some i∧i.zero=some z:=by
 unfold KZ at h
 split at h
 ·rename_i kt e hu
  obtain⟨d',hd,h⟩:=Option.bind_eq_some_iff.1 h
  split at h
  ·rename_i hp
   obtain⟨i,hi,h⟩:=Option.bind_eq_some_iff.1 h
   obtain⟨z',hz,h⟩:=Option.map_eq_some_iff.1 h
   simp only[Prod.mk.injEq]at h
   obtain⟨rfl,rfl⟩:=h
   exact⟨kt,e,i,hu,hd,hp,hi,hz⟩
  ·cases h
 ·cases h
def zx (d:TypeDesc) (key:Value):List (Value×Value)→Nat→Option (Option (Nat×Value))
 | [],_=>some none
 |(k,v)::es,i=>match Instr.sameNow d key k with
  |some true=>some (some (i,v))
  |some false=>zx d key es (i+1)
  |none=>none
theorem Ah (d:TypeDesc) (key:Value):∀ (es:List MapEntry) (i:Nat),Instr.findNow d key es i=zx d key (es.map fun x=>(x.key,x.val)) i
 | [],_=>rfl
 |e::es,i=>by
  simp only[Instr.findNow,List.map_cons,zx,Ah d key es]
  rfl
theorem Iq {d:TypeDesc} {key v:Value}:∀ {es:List (Value×Value)} {i j:Nat},zx d key es i=some (some (j,v))→∃ m k,j=i+m∧es[m]?=some (k,v)∧Instr.sameNow d key k=some true
 | [],i,j,h=>by cases h
 |(k,v')::es,i,j,h=>by
  simp only[zx]at h
  split at h
  ·rename_i hs;cases h;exact⟨0,k,rfl,rfl,hs⟩
  ·obtain⟨m,k',h1,h2,h3⟩:=Iq h
   exact⟨m+1,k',by omega,by simpa using h2,h3⟩
  ·cases h
theorem Lc {d:TypeDesc} {a b:Value} (h:Instr.sameNow d a b=some true):b=a∧Instr.sameBits 10000 b a=true:=by
 unfold Instr.sameNow at h
 split at h
 ·split at h
  ·rename_i hk
   subst hk
   simp only[Option.some.injEq,beq_iff_eq]at h
   subst h;exact⟨rfl,by simp[Instr.sameBits]⟩
  ·cases h
 ·simp only[Option.some.injEq]at h
  have h':=h
  rename_i x y
  have e:x=y:=by
   cases x;cases y
   exact congrArg ByteArray.mk (eq_of_beq h)
  subst e;exact⟨rfl,by simp only[Instr.sameBits];exact h'⟩
 ·simp only[Option.some.injEq,beq_iff_eq]at h
  subst h;exact⟨rfl,by simp[Instr.sameBits]⟩
 ·cases h
def AH.mp (H:AH) (r:Nat):Option (List (Value×Value)):=
 match H.find r with
 |some (.gW es)=>some es
 |_=>none
def AH.xQ (H:AH) (r:Nat) (es:List (Value×Value)):Option AH:=
 match H.find r with
 |some (.gW _)=>some (H.set r (.gW es))
 |_=>none
theorem Ir (H:AH) (b:Nat) (es:List (Value×Value)):(H.add b (.gW es)).mp b=some es:=by simp[AH.mp,dh]
theorem OW (H:AH) {b b':Nat} (h:b≠b') (k:iD):(H.add b k).mp b'=H.mp b':=by
 unfold AH.mp;rw[dh,if_neg (Ne.symm h)]
theorem EI (H:AH) (b:Nat) (es es':List (Value×Value)):(H.add b (.gW es)).xQ b es'=some (H.add b (.gW es')):=by
 unfold AH.xQ;rw[dh,if_pos rfl];simp[AH.set,AH.add,pO]
theorem Iu (H:AH) {b b':Nat} (h:b≠b') (k:iD) (es:List (Value×Value)):(H.add b k).xQ b' es=(H.xQ b' es).map (·.add b k):=by
 unfold AH.xQ
 rw[dh,if_neg (Ne.symm h)]
 split<;>simp[AH.set,AH.add,pO,Ne.symm h]
def Ba (ok:Bool) (z:Value):Option (Nat×Value)→Value
 |some (_,v)=>if ok=true then .tuple #[v,.bool true] else v
 |none=>if ok=true then .tuple #[z,.bool false] else z
def Vx (P:Program) (t:TypeId) (m key:Value) (ok:Bool) (H:AH) (k:Value→AH→Prop) (_t:Lk (k,H):=.mk):Prop:=
 match m with
 |.map (some r)=>wo (KZ P t) fun E=>wo (H.mp r) fun es=>wo (zx E.1 key es 0) fun o=>nv (Ba ok E.2 o) fun v=>k v H
 |.map none=>wo (KZ P t) fun E=>wo (zx E.1 key [] 0) fun o=>nv (Ba ok E.2 o) fun v=>k v H
 |_=>False
theorem wY {kt:TypeId} {d:TypeDesc} {key:Value} {em:Bool} {m:Nat} (hd:P.underlying kt=some d) (hp:plainKey d=true):dZ P (Instr.checkKey em (m+1) kt key) H=some ():=by
 simp only[Instr.checkKey,bW,bT,hd,Option.bind_some]
 cases d<;>first | rfl | cases hp
theorem wM {kt:TypeId} {d:TypeDesc} {key:Value} {em:Bool} (hd:P.underlying kt=some d) (hp:plainKey d=true):dZ P (Instr.checkKey em 10000 kt key) H=some ():=wY (m:=9999) hd hp
theorem xR {kt:TypeId} {d:TypeDesc} {key:Value} {es:List MapEntry} {o:Option (Nat×Value)} (hd:P.underlying kt=some d) (h:zx d key (es.map fun x=>(x.key,x.val)) 0=some o):dZ P (Instr.findKey kt key es) H=some o:=by
 simp only[Instr.findKey,bW,bT,hd,Option.bind_some,Ah,h,cZ]
theorem Vy {t:TypeId} {m key:Value} {ok:Bool} {k:Value→AH→Prop} (h:Vx P t m key ok H k):dY P (Instr.lookup t m key ok) H k:=by
 have tail:∀ (d:TypeDesc) (z:Value) (kt e:TypeId) (i:TypeInfo) (es:Array MapEntry) (o:Option (Nat×Value)),P.underlying kt=some d→plainKey d=true→P.info? e=some i→i.zero=some z→
   zx d key (es.toList.map fun x=>(x.key,x.val)) 0=some o→k (Ba ok z o) H→
   dY P (do
    Instr.checkKey es.isEmpty 10000 kt key
    let (v,ok')←match←Instr.findKey kt key es.toList with
     |some (_,v)=>pure (v,true)
     |none=>pure (←zeroValue e,false)
    pure (if ok then .tuple #[v,.bool ok'] else v):Sem Value) H k:=fun d z kt e i es o hd hp hi hz ho hk=>by
  refine bP (wM hd hp) ?_
  refine bP (xR hd ho) ?_
  cases o with
  |some p=>
   obtain⟨j,v⟩:=p
   refine bP (a:=(v,true)) rfl ?_
   exact hk
  |none=>
   refine bP (iH hi hz) ?_
   refine bP (a:=(z,false)) rfl ?_
   exact hk
 unfold Vx at h
 split at h
 ·rename_i r
  unfold wo at h
  split at h
  ·rename_i E hE
   obtain⟨d,z⟩:=E
   obtain⟨kt,e,i,hu,hd,hp,hi,hz⟩:=BZ hE
   split at h
   ·rename_i es hes
    split at h
    ·rename_i o ho
     unfold Instr.lookup
     refine bP ((bT t).trans hu) ?_
     rw[dO]
     unfold AH.mp at hes
     split at hes
     ·rename_i es' hf
      cases hes
      simp only[getObj,dY,hf]
      intro en cl hm
      have hm1:=hm.1
      refine bP (a:=en) rfl ?_
      exact tail d z kt e i en o hd hp hi hz (by rw[hm1];exact ho) h
     ·cases hes
    ·exact h.elim
   ·exact h.elim
  ·exact h.elim
 ·unfold wo at h
  split at h
  ·rename_i E hE
   obtain⟨d,z⟩:=E
   obtain⟨kt,e,i,hu,hd,hp,hi,hz⟩:=BZ hE
   split at h
   ·rename_i o ho
    unfold Instr.lookup
    refine bP ((bT t).trans hu) ?_
    refine bP (a:=#[]) rfl ?_
    exact tail d z kt e i #[] o hd hp hi hz ho h
   ·exact h.elim
  ·exact h.elim
 ·exact h.elim
def EJ (es:List (Value×Value)) (key v:Value):Option (Nat×Value)→List (Value×Value)
 |some (i,_)=>es.set i (key,v)
 |none=>es++[(key,v)]
def mup (P:Program) (t:TypeId) (m key v:Value) (H:AH) (k:AH→Prop) (_t:Lk (k,H):=.mk):Prop:=
 match m with
 |.map (some r)=>wo (KZ P t) fun E=>wo (H.mp r) fun es=>wo (zx E.1 key es 0) fun o=>wo (H.xQ r (EJ es key v o)) k
 |_=>False
theorem Nu {t:TypeId} {m key v:Value} {k:AH→Prop} (h:mup P t m key v H k):dY P (Instr.mapUpdate t m key v) H (fun _ H'=>k H'):=by
 unfold mup at h
 split at h
 ·rename_i r
  unfold wo at h
  split at h
  ·rename_i E hE
   obtain⟨d,z⟩:=E
   obtain⟨kt,e,i,hu,hd,hp,hi,hz⟩:=BZ hE
   split at h
   ·rename_i es hes
    split at h
    ·rename_i o ho
     split at h
     ·rename_i H' hH'
      unfold AH.mp at hes
      split at hes
      ·rename_i es' hf
       cases hes
       unfold AH.xQ at hH'
       rw[hf]at hH'
       cases hH'
       unfold Instr.mapUpdate
       refine bP ((bT t).trans hu) ?_
       rw[dO]
       simp only[getObj,dY,hf]
       intro en cl hm
       have hm1:=hm.1
       refine bP (wM hd hp) ?_
       refine bP (xR hd (by rw[hm1];exact ho)) ?_
       cases o with
       |none=>
        simp only[setObj,dY,hf]
        refine⟨⟨fun x hx=>?_,?_⟩,?_⟩
        rotate_left
        ·rw[Array.toList_push,List.map_append,List.nodup_append]
         refine⟨hm.2.2,by simp,fun a ha b hb=>?_⟩
         obtain⟨x,hx,rfl⟩:=List.mem_map.1 ha
         have:=hm.2.1 x hx
         simp at hb;omega
        rotate_right
        ·simp only[Array.toList_push,List.mem_append,List.mem_singleton]at hx
         rcases hx with hx | hx
         ·have:=hm.2.1 x hx;omega
         ·subst hx;simp
        ·have e1:(en.push { key:=key,val:=v,born:=cl }).toList.map (fun x=>(x.key,x.val))=EJ es key v none:=by
          simp[EJ,←hm1]
         rw[e1];exact h
       |some p=>
        obtain⟨j,v0⟩:=p
        obtain⟨m',k',hj,hget,hs⟩:=Iq ho
        obtain⟨hk',abf⟩:=Lc hs
        subst hk'
        have hj':j=m':=by omega
        subst hj'
        have hen:∃ x,en[j]?=some x∧x.key=k':=by
         rw[←hm1,List.getElem?_map]at hget
         obtain⟨x,hx,hx2⟩:=Option.map_eq_some_iff.1 hget
         simp only[Prod.mk.injEq]at hx2
         exact⟨x,by simpa using hx,hx2.1⟩
        obtain⟨x,hx,hxk⟩:=hen
        have hkey:((en[j]?).map (·.key)).getD k'=k':=by rw[hx];exact hxk
        refine bP (a:=k') (by simp only[hkey,Instr.keyThatStays,abf,if_true,cZ]) ?_
        simp only[setObj,dY,hf]
        have hmb:(en.modify j fun e=>{ e with key:=k',val:=v }).toList.map (·.born)=en.toList.map (·.born):=by
         apply List.ext_getElem?
         intro q
         simp only[List.getElem?_map,Array.getElem?_toList,Array.getElem?_modify]
         split
         ·rename_i e;subst e;cases en[j]?<;>rfl
         ·rfl
        have hmod:∀ y∈(en.modify j fun e=>{ e with key:=k',val:=v }).toList,y.born<cl:=fun y hy=>by
         obtain⟨q,hq⟩:=List.mem_iff_getElem?.1 hy
         rw[Array.getElem?_toList,Array.getElem?_modify]at hq
         split at hq
         ·obtain⟨y0,hy0,rfl⟩:=Option.map_eq_some_iff.1 hq
          have:=hm.2.1 y0 (List.mem_iff_getElem?.2 ⟨q,by simpa using hy0⟩)
          exact this
         ·exact hm.2.1 y (List.mem_iff_getElem?.2 ⟨q,by simpa using hq⟩)
        refine⟨⟨hmod,hmb▸hm.2.2⟩,?_⟩
        have e1:(en.modify j fun e=>{ e with key:=k',val:=v }).toList.map (fun x=>(x.key,x.val))=EJ es k' v (some (j,v0)):=by
         apply List.ext_getElem?
         intro q
         simp only[EJ,List.getElem?_map,Array.getElem?_toList,Array.getElem?_modify,List.getElem?_set,←hm1]
         by_cases hq:j=q
         ·subst hq
          have hlt:j<en.size:=by
           rcases Nat.lt_or_ge j en.size with h | h
           ·exact h
           ·rw[Array.getElem?_eq_none h]at hx;cases hx
          simp[hx,hlt]
         ·simp[hq]
        rw[e1];exact h
      ·cases hes
     ·exact h.elim
    ·exact h.elim
   ·exact h.elim
  ·exact h.elim
 ·exact h.elim
def YM (P:Program) (t:TypeId) (m key:Value) (ok:Bool) (H:AH) (k:Value→AH→Prop) (_t:Lk (k,H):=.mk):Prop:=dY P (Instr.lookup t m key ok) H k
def YN (P:Program) (t:TypeId) (m key v:Value) (H:AH) (k:AH→Prop) (_t:Lk (k,H):=.mk):Prop:=dY P (Instr.mapUpdate t m key v) H (fun _ H'=>k H')
theorem xU {t:TypeId} {k:Value→AH→Prop} (h:bY H fun b=>k (.map (some b)) (H.add b (.gW []))):dY P (Instr.makeMap t none) H k:=by
 simp only[Instr.makeMap,newObj,dO,dY,true_and]
 exact h
def lS (P:Program) (t t2:Option TypeId) (as_:List Value) (H:AH) (k:Value→AH→Prop) (_t:Lk (k,H):=.mk):Prop:=
 ∀ (ts:Array TypeId) (ty:TypeId),ts[0]?=t→ts[1]?=t2→nH P (do pure (.value (←Builtin.append_ ts ty as_.toArray))) H k
theorem lS.std {t t2:Option TypeId} {s x:Value} {k:Value→AH→Prop} (h:apd P t t2 s x H k):lS P t t2 [s,x] H k:=fun ts ty h0 h1=>by
 subst h0;subst h1
 exact Gw h
theorem nH.post {s:Sem Next} {H:AH} {k k':Value→AH→Prop} (h:nH P s H k) (hk:∀ v H',k v H'→∃ H2,(∀ E w,Sat E H' w→Sat E H2 w)∧k' v H2) (hv:∀ w nx w',s.run P w=.ok nx w'→∃ v,nx=.value v):nH P s H k':=fun E w hs=>by
 obtain⟨nx,w',H',h1,h2,h3⟩:=h E w hs
 obtain⟨v,rfl⟩:=hv w nx w' h1
 obtain⟨H2,h4,h5⟩:=hk v H' h3
 exact⟨_,w',H2,h1,h4 _ _ h2,h5⟩
theorem sF {α:Type} {s:Sem Value} {w:World} {nx:Next} {w':World} (h:(do pure (Next.value (←s)):Sem Next).run P w=.ok nx w'):∃ v,nx=.value v:=by
 have e:(do pure (Next.value (←s)):Sem Next)=(s >>= fun v=>pure (Next.value v)):=rfl
 rw[e,Sem.run_bind]at h
 cases hr:s.run P w with
 |ok v w2=>rw[hr]at h;simp only[Result.andThen_ok,Sem.run_pure,Result.ok.injEq]at h;exact⟨v,h.1.symm⟩
 |halt x w2=>rw[hr]at h;cases h
theorem lS.own {t t2 e sz bt b n cap m bs:Nat} {zs cs new:List Value} {x:Value} {k:Value→AH→Prop} (hE:uG P t=some (e,sz,zs,bt)) (hz:zs.length=sz) (hbt:bt≠0) (hni:Gv (P.underlying t2)=true)
  (hb:H.find b=some (.cells cs e bs)) (hcs:cs.length=n*sz) (hbs:bs=cap*sz) (hx:slen x=some m) (hnew:nC H sz x=some new) (hnc:n≤cap) (hsc:new.all iM=true) (hroom:(2*(n+m)+192)*bt≤281474976710656)
  (hk:∀ b' c' HH,(b'=b∨aG H b')→n+m≤c'→(H.del b).add b' (.cells (cs++new) e (c'*sz))=HH→k (.slice (some ⟨b',0,none⟩) (n+m) c') HH):lS P (some t) (some t2) [.slice (some ⟨b,0,none⟩) n cap,x] H k:=fun ts ty h0 h1=>by
 have hl:new.length=m*sz:=(lQ (P:=P) hnew hx).2
 have hrow:nC H sz (.slice (some ⟨b,0,none⟩) n cap)=some cs:=by
  show H.row b 0 (n*sz)=some cs
  unfold AH.row
  rw[hb]
  simp only
  rw[if_pos (by omega),List.drop_zero,List.take_of_length_le (by omega)]
 have base:=Gw (P:=P) (H:=H) (ts:=ts) (ty:=ty) (s:=.slice (some ⟨b,0,none⟩) n cap) (x:=x)
  (k:=fun v H'=>(v=.slice (some ⟨b,0,none⟩) (n+m) cap∧n+m≤cap∧H'=H.set b (.cells (cs++new) e bs))∨(∃ b' c',aG H b'∧n+m≤c'∧v=.slice (some ⟨b',0,none⟩) (n+m) c'∧H'=H.add b' (.cells (cs++new) e (c'*sz)))∨(m=0∧v=.slice (some ⟨b,0,none⟩) n cap∧H'=H)) (by
  rw[h0,h1]
  refine⟨hni,?_⟩
  show wo (uG P t) _
  rw[hE]
  refine⟨hz,hbt,?_⟩
  rw[hx]
  show wo (nC H sz (.slice (some ⟨b,0,none⟩) n cap)) _
  rw[hrow]
  show wo (nC H sz x) _
  rw[hnew]
  refine⟨fun h=>.inr (.inr ⟨h.1,rfl,rfl⟩),fun h=>?_,fun h=>⟨hroom,fun b' hb' c' hc'=>.inr (.inl ⟨b',c',hb',hc',rfl,rfl⟩)⟩⟩
  have happ:H.app b (0+n*sz) new=some (H.set b (.cells (cs++new) e bs)):=by
   unfold AH.app
   rw[hb]
   simp only
   rw[if_pos ⟨by omega,by rw[hl,hbs,Nat.zero_add,←Nat.add_mul];exact Nat.mul_le_mul_right _ h.2,hsc⟩,Nat.zero_add,List.take_of_length_le (by omega),List.drop_eq_nil_of_le (by omega),List.append_nil]
  show wo (H.app b (0+n*sz) new) _
  rw[happ]
  exact .inl ⟨rfl,h.2,rfl⟩)
 refine base.post (fun v H' h=>?_) (fun w nx w' h=>sF (α:=Unit) h)
 rcases h with ⟨rfl,hle,rfl⟩ | ⟨b',c',hf,hle,rfl,rfl⟩ | ⟨rfl,rfl,rfl⟩
 ·refine⟨_,fun _ w hs=>hs.iU (H':=(H.del b).add b (.cells (cs++new) e (cap*sz))) rfl fun b''=>?_,hk b cap _ (.inl rfl) hle rfl⟩
  rw[dh,dw,iL,hbs]
  by_cases h:b''=b<;>simp[h]
 ·refine⟨(H.del b).add b' (.cells (cs++new) e (c'*sz)),fun _ w hs=>hs.mono ⟨rfl,fun b'' k'' h=>?_⟩,hk b' c' _ (.inr hf) hle rfl⟩
  rw[dh]at h ⊢
  split at h
  ·rename_i e;rw[if_pos e];exact h
  ·rename_i e;rw[if_neg e]
   rw[iL]at h
   split at h
   ·cases h
   ·exact h
 ·have hn0:new=[]:=List.eq_nil_of_length_eq_zero (by rw[hl,Nat.zero_mul])
  refine⟨_,fun _ w hs=>hs.iU (H':=(H'.del b).add b (.cells (cs++new) e (cap*sz))) rfl fun b''=>?_,hk b cap _ (.inl rfl) (by omega) rfl⟩
  rw[dh,iL,hn0,List.append_nil,←hbs]
  by_cases h:b''=b<;>simp[h,hb]
def XR (q:Bool) (P:Program) (fr:Fr) (H:AH) (o:Oper) (k:Value→AH→Prop):Prop:=
 match o.op with
 |.move x | .assign x=>wv fr x fun v=>nv v fun v=>k v H
 |.pick c a b=>wv fr c fun c=>wv fr a fun a=>wv fr b fun b=>pck c a b fun v=>k v H
 |.binOp op t x y _=>wv fr x fun a=>wv fr y fun b=>bin (P.underlying t) P H op t x y a b fun v=>k v H
 |.unOp op _ x=>wv fr x fun a=>unv P H op a fun v=>k v H
 |.extract x i=>wv fr x fun a=>Vk P H a i fun v=>k v H
 |.convert s t x=>wv fr x fun a=>cnv (P.underlying s) (P.underlying t) P H s t a fun v=>k v H
 |.load t x=>wv fr x fun a=>XQ (gJ (P.underlying t)) (P.cellsOf t) a H fun v=>k v H
 |.fieldAddr s x i=>wv fr x fun a=>fap P s i a fun v=>k v H
 |.indexAddr t x i=>ny P t≠0∧wv fr x fun a=>wv fr i fun i=>ixp (P.underlying t) (ny P t) a i fun v=>k v H
 |.nilCheck x=>wv fr x fun a=>nck a fun v=>k v H
 |.makeFunc f a b=>Bl fr a.toList fun a=>Bl fr b.toList fun b=>k (.func f a.toArray b.toArray) H
 |.makeInterface t x=>wv fr x fun a=>jC P H (Instr.makeInterface t a) fun v=>k v H
 |.index t x i=>wv fr x fun a=>wv fr i fun i=>jC P H (Instr.index t a i) fun v=>k v H
 |.field t x i=>wv fr x fun a=>jC P H (Instr.field t a i) fun v=>k v H
 |.slice t x lo hi mx=>wv fr x fun a=>wL fr lo fun lo=>wL fr hi fun hi=>wL fr mx fun mx=>jC P H (Instr.sliceAt t a lo hi mx) fun v=>k v H
 |.build t ps=>Bl fr (ps.toList.map (·.2)) fun vs=>bld P t ((ps.toList.map (·.1)).zip vs) fun v=>k v H
 |.sliceToArrayPointer t x=>wv fr x fun a=>jC P H (Instr.arrayAt t a) fun v=>k v H
 |.typeAssert x t u ok=>wv fr x fun a=>jC P H (Instr.typeAssert a t u ok) fun v=>k v H
 |.store t x y=>q=false∧P.cellsOf t≠0∧wv fr x fun a=>wv fr y fun b=>stv P t a b H (k undef)
 |.alloc t=>q=false∧wo (qE P t) fun cs=>KU t cs H k
 |.box t x=>q=false∧wv fr x fun v=>KU t (iq v) H k
 |.call { callee:=.value f,args:=xs,.. }=>wv fr f fun f=>Bl fr xs.toList fun as_=>acl q P H f as_ k
 |.buildSlice t len ps=>q=false∧Bl fr (ps.toList.map (·.2)) fun vs=>Vu P t len ((ps.toList.map (·.1)).zip vs) H k
 |.makeSlice t l c=>q=false∧wv fr l fun l=>wv fr c fun c=>mks P t l c H k
 |.makeMap _ none=>q=false∧bY H fun b=>k (.map (some b)) (H.add b (.gW []))
 |.lookup t x i ok=>q=false∧wv fr x fun x=>wv fr i fun i=>(Vx P t x i ok H k∨(KZ P t=none∧YM P t x i ok H k))
 |.mapUpdate t m i x=>q=false∧wv fr m fun m=>wv fr i fun i=>wv fr x fun x=>(mup P t m i x H (k undef)∨(KZ P t=none∧YN P t m i x H (k undef)))
 |.insert t m i x=>q=false∧wv fr m fun m=>wv fr i fun i=>wv fr x fun x=>(mup P t m i x H (k undef)∨(KZ P t=none∧YN P t m i x H (k undef)))
 |.call { callee:=.builtin b,args:=xs,argTypes:=ts }=>
  match b with
  |.append=>q=false∧Bl fr xs.toList fun as_=>lS P ts[0]? ts[1]? as_ H k
  |_=>match UU b with
   |.read=>Bl fr xs.toList fun as_=>Qw (ts[0]?.bind P.underlying) b as_ fun v=>k v H
   |_=>o.op.operands.toList.all (BO fr)=true∧Io o.op=false∧zu q P fr H o k
 |_=>o.op.operands.toList.all (BO fr)=true∧Io o.op=false∧zu q P fr H o k
theorem jg {o:Oper} {s:Sem Value} (hc:cls o.op=.read) (he:execOp (kC fr) o=(do pure (.value (←s)))) {k:Value→AH→Prop} (h:wo (dZ P s H) fun v=>k v H):zu q P fr H o k:=by
 simp only[zu,hc,he,bW]
 cases hs:dZ P s H with
 |none=>rw[hs]at h;exact h
 |some v=>rw[hs]at h;exact h
theorem rG (g:Operand→Value):∀ l:List (Nat×Operand),(l.map fun(p:Nat×Operand)=>(p.1,g p.2))=(l.map (·.1)).zip ((l.map (·.2)).map g)
 | []=>rfl
 |p::l=>by simp only[List.map_cons,List.zip_cons_cons,rG g l]
set_option maxHeartbeats 2000000 in
theorem o9 {o:Oper} {k:Value→AH→Prop} (h:XR q P fr H o k):o.op.operands.toList.all (BO fr)=true∧Io o.op=false∧zu q P fr H o k:=by
 obtain⟨dst,op,ty,pos,af,g⟩:=o
 unfold XR at h
 cases op<;>simp only at h
 case move x=>exact⟨by simp[Op.operands,h.1],rfl,h.2⟩
 case assign x=>exact⟨by simp[Op.operands,h.1],rfl,h.2⟩
 case pick c a b=>
  obtain⟨h1,h2,h3,h4⟩:=h
  refine⟨by simp[Op.operands,h1,h2,h3],rfl,?_⟩
  simp only[zu,cls,execOp]
  revert h4
  generalize kC fr c=c
  cases c<;>exact id
 case binOp op t x y yt=>
  obtain⟨h1,h2,h3⟩:=h
  exact⟨by simp[Op.operands,h1,h2],rfl,jg rfl rfl h3.2⟩
 case unOp op t x=>exact⟨by simp[Op.operands,h.1],rfl,jg rfl rfl h.2⟩
 case extract x i=>exact⟨by simp[Op.operands,h.1],rfl,jg rfl rfl h.2⟩
 case convert s t x=>exact⟨by simp[Op.operands,h.1],rfl,jg rfl rfl h.2.2.2⟩
 case load t x=>exact⟨by simp[Op.operands,h.1],rfl,jg rfl rfl (Nk h.2)⟩
 case fieldAddr s x i=>exact⟨by simp[Op.operands,h.1],rfl,jg rfl rfl (Nl h.2)⟩
 case indexAddr t x i=>
  obtain⟨hz,h1,h2,h3⟩:=h
  exact⟨by simp[Op.operands,h1,h2],rfl,jg rfl rfl (Np hz h3)⟩
 case nilCheck x=>
  refine⟨by simp[Op.operands,h.1],rfl,?_⟩
  have h2:=h.2
  simp only[zu,cls,execOp]
  revert h2
  generalize kC fr x=v
  intro h2
  unfold nck at h2
  split at h2
  ·exact h2
  ·exact h2
  ·exact h2
  ·exact h2.elim
 case makeFunc f a b=>
  obtain⟨h1,h2,h3⟩:=h
  refine⟨by simp only[Op.operands,Array.toList_append,List.all_append,h1,h2,Bool.and_self],rfl,jg (s:=Instr.makeFunc f (a.map (kC fr)) (b.map (kC fr))) rfl rfl ?_⟩
  simp only[Instr.makeFunc,cZ,mP]
  have ea:a.map (kC fr)=(a.toList.map (kC fr)).toArray:=by rw[←Array.toList_map,Array.toArray_toList]
  have eb:b.map (kC fr)=(b.toList.map (kC fr)).toArray:=by rw[←Array.toList_map,Array.toArray_toList]
  rw[ea,eb];exact h3
 case makeInterface t x=>exact⟨by simp[Op.operands,h.1],rfl,jg rfl rfl h.2⟩
 case index t x i=>
  obtain⟨h1,h2,h3⟩:=h
  exact⟨by simp[Op.operands,h1,h2],rfl,jg rfl rfl h3⟩
 case field t x i=>exact⟨by simp[Op.operands,h.1],rfl,jg rfl rfl h.2⟩
 case slice t x lo hi mx=>
  obtain⟨h1,h⟩:=h
  have key:∀ (o:Option Operand) (k:Option Value→Prop),wL fr o k→o.toArray.toList.all (BO fr)=true∧k (o.map (kC fr)):=fun o k h=>by
   cases o with
   |none=>exact⟨rfl,h⟩
   |some x=>exact⟨by simpa using h.1,h.2⟩
  obtain⟨h2,h⟩:=key _ _ h
  obtain⟨h3,h⟩:=key _ _ h
  obtain⟨h4,h⟩:=key _ _ h
  exact⟨by simp only[Op.operands,Array.toList_append,List.all_append,h2,h3,h4];simp[h1],rfl,jg rfl rfl h⟩
 case build t ps=>
  obtain⟨h1,h2⟩:=h
  refine⟨by simpa [Op.operands]using h1,rfl,jg (s:=Instr.build t (ps.map fun(i,x)=>(i,kC fr x))) rfl rfl ?_⟩
  have e:(ps.map fun(i,x)=>(i,kC fr x))=((ps.toList.map (·.1)).zip ((ps.toList.map (·.2)).map (kC fr))).toArray:=by
   rw[←rG (kC fr) ps.toList,←Array.toList_map,Array.toArray_toList]
  rw[e];exact Nq h2
 case sliceToArrayPointer t x=>exact⟨by simp[Op.operands,h.1],rfl,jg rfl rfl h.2⟩
 case typeAssert x t u ok=>exact⟨by simp[Op.operands,h.1],rfl,jg rfl rfl h.2⟩
 case store t x y=>
  obtain⟨hq,hz,h1,h2,h3⟩:=h
  subst hq
  refine⟨by simp[Op.operands,h1,h2],rfl,?_⟩
  simp only[zu,cls,true_and]
  show dY P (Instr.storeAt t (kC fr x) (kC fr y) >>= fun _=>pure Next.skip) H _
  rw[dO]
  exact Vm h3 hz
 case alloc t=>
  obtain⟨hq,h⟩:=h
  subst hq
  refine⟨rfl,rfl,?_⟩
  simp only[zu,cls,true_and]
  show dY P (Instr.alloc t true (.tuple #[]) >>= fun v=>pure (Next.value v)) H _
  rw[dO]
  unfold wo at h
  split at h
  ·rename_i cs hz
   obtain⟨z,h1,h2⟩:=qY (H:=H) hz
   simp only[Instr.alloc,dO]
   refine kV _ _ _ h1 ?_
   refine qK ?_
   have e:iq z=cs:=h2
   rw[e]
   exact h
  ·exact h.elim
 case box t x=>
  obtain⟨hq,h1,h2⟩:=h
  subst hq
  refine⟨by simp[Op.operands,h1],rfl,?_⟩
  simp only[zu,cls,true_and]
  show dY P (Instr.box t (kC fr x) >>= fun v=>pure (Next.value v)) H _
  rw[dO]
  simp only[Instr.box,dO]
  exact qK h2
 case buildSlice t len ps=>
  obtain⟨hq,h1,h2⟩:=h
  subst hq
  refine⟨by simpa [Op.operands]using h1,rfl,?_⟩
  simp only[zu,cls,true_and]
  show dY P (Instr.buildSlice t len (ps.map fun(i,x)=>(i,kC fr x)) >>= fun v=>pure (Next.value v)) H _
  rw[dO]
  have e:(ps.map fun(i,x)=>(i,kC fr x))=((ps.toList.map (·.1)).zip ((ps.toList.map (·.2)).map (kC fr))).toArray:=by
   rw[←rG (kC fr) ps.toList,←Array.toList_map,Array.toArray_toList]
  rw[e];exact Ns h2
 case makeSlice t l c=>
  obtain⟨hq,h1,h2,h3⟩:=h
  subst hq
  refine⟨by simp[Op.operands,h1,h2],rfl,?_⟩
  simp only[zu,cls,true_and]
  show dY P (Instr.makeSlice t (kC fr l) (kC fr c) >>= fun v=>pure (Next.value v)) H _
  rw[dO]
  exact Vw h3
 case makeMap t r=>
  cases r with
  |some x=>exact h
  |none=>
   obtain⟨hq,h⟩:=h
   subst hq
   refine⟨rfl,rfl,?_⟩
   simp only[zu,cls,true_and]
   show dY P (Instr.makeMap t none >>= fun v=>pure (Next.value v)) H _
   rw[dO]
   exact xU h
 case lookup t x i ok=>
  obtain⟨hq,h1,h2,h3⟩:=h
  subst hq
  refine⟨by simp[Op.operands,h1,h2],rfl,?_⟩
  simp only[zu,cls,true_and]
  refine nH.oP ?_
  show dY P (Instr.lookup t (kC fr x) (kC fr i) ok >>= fun v=>pure (Next.value v)) H _
  rw[dO]
  exact h3.elim Vy fun h=>h.2
 case mapUpdate t m i x=>
  obtain⟨hq,h1,h2,h3,h4⟩:=h
  subst hq
  refine⟨by simp[Op.operands,h1,h2,h3],rfl,?_⟩
  simp only[zu,cls,true_and]
  refine nH.oP ?_
  show dY P (Instr.mapUpdate t (kC fr m) (kC fr i) (kC fr x) >>= fun _=>pure Next.skip) H _
  rw[dO]
  exact h4.elim Nu fun h=>h.2
 case insert t m i x=>
  obtain⟨hq,h1,h2,h3,h4⟩:=h
  subst hq
  refine⟨by simp[Op.operands,h1,h2,h3],rfl,?_⟩
  simp only[zu,cls,true_and]
  refine nH.oP ?_
  show dY P (Instr.mapUpdate t (kC fr m) (kC fr i) (kC fr x) >>= fun _=>pure Next.skip) H _
  rw[dO]
  exact h4.elim Nu fun h=>h.2
 case call c=>
  obtain⟨callee,args,tys⟩:=c
  cases callee<;>simp only at h
  case value f=>
   obtain⟨h1,h2,h3⟩:=h
   refine⟨by simp only[Op.operands,Call.operands,Array.toList_append,List.all_append,h2];simp[h1],rfl,?_⟩
   exact Vq _ rfl rfl rfl h3
  case builtin b=>
   split at h
   ·obtain⟨hq,h1,h2⟩:=h
    subst hq
    refine⟨by simp only[Op.operands,Call.operands,Array.toList_append,List.all_append,h1];rfl,rfl,?_⟩
    have e:(args.toList.map (kC fr)).toArray=args.map (kC fr):=by rw[←Array.toList_map,Array.toArray_toList]
    simp only[zu,cls,UU,true_and]
    show nH P (Builtin.append_ tys ty (args.map (kC fr)) >>= fun v=>pure (Next.value v)) H k
    rw[←e]
    exact h2 tys ty rfl rfl
   split at h
   ·rename_i hb
    obtain⟨h1,h2⟩:=h
    refine⟨by simp only[Op.operands,Call.operands,Array.toList_append,List.all_append,h1];rfl,rfl,?_⟩
    have e:(args.toList.map (kC fr)).toArray=args.map (kC fr):=by rw[←Array.toList_map,Array.toArray_toList]
    simp only[zu,cls,hb,execOp,resolve,bW,cZ,Option.bind_some,invoke]
    unfold Qw wo at h2
    split at h2
    ·rename_i v hv
     have hr:∀ cs,dZ P (builtin b tys ty cs (args.map (kC fr))) H=some (.value v):=fun cs=>by
      have:=Nr (P:=P) (H:=H) (ty:=ty) (cs:=cs) hv
      rwa [e]at this
     simp only[hr,oJ]
     exact h2
    ·exact h2.elim
   ·exact h
  case invoke r m=>exact h
 all_goals exact h
def vgo (q:Bool) (P:Program) (n:Nat) (_ds:List (Option Tmp)) (d:Option Tmp) (o:Oper) (fr:Fr) (H:AH) (K:Fr→AH→Prop):Prop:=EO n d=true∧XR q P fr H o (fun v H'=>K (wU d v fr) H')
def fG (q:Bool) (P:Program) (n:Nat) (ds:List (Option Tmp)):List Oper→Fr→AH→(Fr→AH→Prop)→Prop
 | [],fr,H,K=>K fr H
 |⟨d,op,ty,pos,af,none⟩::rest,fr,H,K=>vgo q P n ds d ⟨d,op,ty,pos,af,none⟩ fr H fun fr H=>fG q P n ds rest fr H K
 |⟨d,op,ty,pos,af,some (j,want)⟩::rest,fr,H,K=>wo (ds[j]?) fun t=>wo t fun t=>wo (qC t fr) fun b=>
   ag b want (vgo q P n ds d ⟨d,op,ty,pos,af,none⟩ ((t,.bool want)::fr) H fun fr H=>fG q P n ds rest fr H K)
    (EO n d=true∧fG q P n ds rest (wU d undef ((t,.bool !want)::fr)) H K) (EO n d=true∧fG q P n ds rest (wU d undef fr) H K)
theorem Iw {o:Oper} {k k':Value→AH→Prop} (hk:∀ v H,k v H→k' v H) (h:zu q P fr H o k):zu q P fr H o k':=by
 have hn:∀ q nx H,oJ q P k nx H→oJ q P k' nx H:=fun q nx H h=>by
  cases nx<;>simp only[oJ]at h ⊢<;>try first | exact hk _ _ h | exact h
  cases q with
  |true=>obtain⟨v,h1,h2⟩:=h;exact⟨v,h1,hk _ _ h2⟩
  |false=>exact h.mono hk
 unfold zu at h ⊢
 split at h
 ·split at h
  ·exact hn _ _ _ h
  ·exact h.elim
 ·exact⟨h.1,OO P _ _ _ _ (fun a H h=>hn _ _ _ h) h.2⟩
 ·refine⟨h.1,fun E w hs=>?_⟩
  obtain⟨nx,w',H',h1,h2,h3⟩:=h.2 E w hs
  exact⟨nx,w',H',h1,h2,hn _ _ _ h3⟩
theorem jK:∀ (l:List Oper) (fr:Fr) (H:AH),fG q P n ds l fr H K→xI q P n ds l fr H K
 | [],fr,H,h=>h
 |⟨d,op,ty,pos,af,none⟩::rest,fr,H,h=>by
  obtain⟨h1,h2⟩:=h
  obtain⟨a1,a2,a3⟩:=o9 h2
  simp only[xI,mM,xH]
  exact⟨fun _=>⟨by simp only[wV,a1,a2,h1];rfl,Iw (fun v H h=>jK rest _ _ h) a3⟩,fun e=>by cases e⟩
 |⟨d,op,ty,pos,af,some (j,want)⟩::rest,fr,H,h=>by
  simp only[fG]at h
  cases hj:ds[j]? with
  |none=>rw[hj]at h;exact h.elim
  |some t=>
   rw[hj]at h
   cases t with
   |none=>exact h.elim
   |some t=>
    simp only[mP]at h
    cases hb:qC t fr with
    |none=>rw[hb]at h;exact h.elim
    |some b=>
     rw[hb]at h
     simp only[mP]at h
     have yes:∀ fr',(EO n d=true∧XR q P fr' H ⟨d,op,ty,pos,af,none⟩ (fun v H'=>fG q P n ds rest (wU d v fr') H' K))→
       wV n fr' ⟨d,op,ty,pos,af,some (j,want)⟩=true∧zu q P fr' H ⟨d,op,ty,pos,af,some (j,want)⟩ (fun v H'=>xI q P n ds rest (wU d v fr') H' K):=fun fr' ⟨h1,h2⟩=>by
      obtain⟨a1,a2,a3⟩:=o9 h2
      exact⟨by simp only[wV,a1,a2,h1];rfl,Iw (fun v H h=>jK rest _ _ h) a3⟩
     have no:∀ fr',(EO n d=true∧fG q P n ds rest (wU d undef fr') H K)→EO n d=true∧xI q P n ds rest (wU d undef fr') H K:=fun fr' ⟨h1,h2⟩=>⟨h1,jK rest _ _ h2⟩
     cases b with
     |bool b=>
      have e1:mM ds fr ⟨d,op,ty,pos,af,some (j,want)⟩=some (b==want):=by simp only[mM,hj,Option.bind_some,id,hb]
      have e2:∀ g,xH ds fr ⟨d,op,ty,pos,af,some (j,want)⟩ g=(t,.bool (if g=true then want else !want))::fr:=fun g=>by simp only[xH,hj,Option.bind_some,id,hb]
      simp only[ag]at h
      simp only[xI,e1,e2,if_true,Bool.false_eq_true,if_false]
      exact⟨fun e=>yes _ (h.1 (by simpa using e)),fun e=>no _ (h.2 (by simpa using e))⟩
     |_=>
      have e1:mM ds fr ⟨d,op,ty,pos,af,some (j,want)⟩=some false:=by simp only[mM,hj,Option.bind_some,id,hb]
      have e2:∀ g,xH ds fr ⟨d,op,ty,pos,af,some (j,want)⟩ g=fr:=fun g=>by simp only[xH,hj,Option.bind_some,id,hb]
      simp only[ag]at h
      simp only[xI,e1,e2]
      exact⟨fun e=>by simp at e,fun _=>no _ h⟩
end
end Go.AX
/- Code and calls over the abstract heap: a condition that is computed from the code, and is sound. -/
namespace Go.AX
open Go Go.RowKit
def AQ (E:Nat→Option Obj) (n:Nat) (Q:Exit→Fr→AH→Prop) (e:Exit) (a:Act) (w:World):Prop:=∃ fr H,kU n fr a∧Sat E H w∧Q e fr H
def fZ (P:Program) (n:Nat) (c:Code) (Q:Exit→Fr→AH→Prop) (fr:Fr) (H:AH) (_t:Lk (c,Q,fr,H):=.mk):Prop:=∀ E a w,kU n fr a→Sat E H w→c.wp P (AQ E n Q) a w
def aseq (K:Fr→AH→Prop) (Q:Exit→Fr→AH→Prop):Exit→Fr→AH→Prop
 |.normal=>K
 |e=>Q e
def zB (id:Nat) (Q:Exit→Fr→AH→Prop):Exit→Fr→AH→Prop
 |.exit id'=>fun fr H=>if id'=id then Q .normal fr H else Q (.exit id') fr H
 |e=>Q e
def Nv (v:Value) (A B:Prop) (_t:Lk (A,B):=.mk):Prop:=
 match v with
 |.bool t=>(t=true→A)∧(t=false→B)
 |_=>False
def xW (P:Program) (n:Nat):Code→(Exit→Fr→AH→Prop)→Fr→AH→Prop
 |.skip,Q,fr,H=>Q .normal fr H
 |.label _,Q,fr,H=>Q .normal fr H
 |.exit id,Q,fr,H=>Q (.exit id) fr H
 |.ret,Q,fr,H=>Q .ret fr H
 |.seq a b,Q,fr,H=>xW P n a (aseq (xW P n b Q) Q) fr H
 |.cond c x y,Q,fr,H=>BO fr c=true∧Nv (kC fr c) (xW P n x Q fr H) (xW P n y Q fr H)
 |.block id c,Q,fr,H=>xW P n c (zB id Q) fr H
 |.region id ops draw,Q,fr,H=>if draw then fZ P n (.region id ops true) Q fr H else fG false P n (ops.toList.map (·.dst)) ops.toList fr H (Q .normal)
 |c,Q,fr,H=>fZ P n c Q fr H
theorem fZ.mono {P:Program} {n:Nat} {c:Code} {Q Q':Exit→Fr→AH→Prop} {fr:Fr} {H:AH} (h:fZ P n c Q fr H) (hq:∀ e fr H,Q e fr H→Q' e fr H):fZ P n c Q' fr H:=
 fun E a w hf hs=>wp_mono (h E a w hf hs) fun _ _ _ ⟨fr,H,h1,h2,h3⟩=>⟨fr,H,h1,h2,hq _ _ _ h3⟩
theorem EU (P:Program) (n:Nat) (c:Code):∀ (Q:Exit→Fr→AH→Prop) (fr:Fr) (H:AH),xW P n c Q fr H→fZ P n c Q fr H:=by
 induction c with
 |skip=>exact fun Q fr H h E a w hf hs=>wp_skip ⟨fr,H,hf,hs,h⟩
 |label l=>exact fun Q fr H h E a w hf hs=>wp_label ⟨fr,H,hf,hs,h⟩
 |exit id=>exact fun Q fr H h E a w hf hs=>wp_exit ⟨fr,H,hf,hs,h⟩
 |ret=>exact fun Q fr H h E a w hf hs=>wp_ret ⟨fr,H,hf,hs,h⟩
 |seq x y ihx ihy=>
  intro Q fr H h E a w hf hs
  refine wp_seq (wp_mono (ihx _ _ _ h E a w hf hs) ?_)
  rintro e a' w' ⟨fr',H',h1,h2,h3⟩
  cases e with
  |normal=>exact ihy _ _ _ h3 E a' w' h1 h2
  |_=>exact⟨fr',H',h1,h2,h3⟩
 |cond c x y ihx ihy=>
  intro Q fr H h E a w hf hs
  obtain⟨hk,h⟩:=h
  have he:=hf.eval hk
  unfold Nv at h
  split at h
  ·rename_i t ht
   rw[ht]at he
   exact wp_cond_split he (fun e=>ihx _ _ _ (h.1 e) E a w hf hs) (fun e=>ihy _ _ _ (h.2 e) E a w hf hs)
  ·exact h.elim
 |block id c ih=>
  intro Q fr H h E a w hf hs
  refine wp_block (wp_mono (ih _ _ _ h E a w hf hs) ?_)
  rintro e a' w' ⟨fr',H',h1,h2,h3⟩
  cases e with
  |exit id'=>
   simp only[zB]at h3
   simp only[Exit.inBlock]
   split at h3
   ·rename_i e;simp only[e,if_true];exact⟨fr',H',h1,h2,h3⟩
   ·rename_i e;simp only[e,if_false];exact⟨fr',H',h1,h2,h3⟩
  |_=>exact⟨fr',H',h1,h2,h3⟩
 |region id ops draw=>
  intro Q fr H h
  simp only[xW]at h
  cases draw with
  |true=>simpa using h
  |false=>
   simp only[Bool.false_eq_true,if_false]at h
   intro E a w hf hs
   exact wp_region_list (rX (Q:=AQ E n Q) (fun fr H a w h1 h2 h3=>⟨fr,H,h1,h2,h3⟩) _ _ _ _ _ (jK _ _ _ h) hf hs)
 |_=>exact fun Q fr H h=>h
def bZ (f' f:Fr):Prop:=∀ t v,qC t f'=some v→qC t f=some v
theorem bZ.refl (f:Fr):bZ f f:=fun _ _ h=>h
theorem kU.mono {n:Nat} {fr fr':Fr} {a:Act} (h:kU n fr a) (hl:bZ fr' fr):kU n fr' a:=⟨h.defers,h.size,fun t v x=>h.vals t v (hl t v x)⟩
def around {ι:Type} (I:ι→Fr→AH→Prop) (μ:ι→Nat) (i:ι) (Q:Exit→Fr→AH→Prop):Exit→Fr→AH→Prop
 |.normal=>fun fr H=>∃ i' fr' H',bZ fr' fr∧H'.le H∧I i' fr' H'∧μ i'<μ i
 |e=>Q e
theorem fZ.loop {P:Program} {n:Nat} {c:Code} {Q:Exit→Fr→AH→Prop} {fr:Fr} {H:AH} {ι:Type} (I:ι→Fr→AH→Prop) (μ:ι→Nat) (i0:ι)
  (h0:∃ fr' H',bZ fr' fr∧H'.le H∧I i0 fr' H') (round:∀ i fr H,I i fr H→xW P n c (around I μ i Q) fr H):fZ P n (.loop c) Q fr H:=by
 obtain⟨fr0,H0,hfl,hhl,hI0⟩:=h0
 intro E a w hf hs
 have key:∀ m i fr H a w,μ i=m→I i fr H→kU n fr a→Sat E H w→∀ (b:Frame) (k:List Item) (cs:List Frame),
   ∃ e a' w',AQ E n Q e a' w'∧Arrives P (lone (b.at a (.code c::.inLoop c::k)) cs w) b k cs e a' w':=by
  intro m
  induction m using Nat.strongRecOn with
  |_ m ih=>
   intro i fr H a w hm hI hf hs b k cs
   obtain⟨e,a₁,w₁,⟨fr1,H1,hf1,hs1,hq⟩,harr⟩:=EU P n c _ _ _ (round i fr H hI) E a w hf hs b (.inLoop c::k) cs
   cases e with
   |normal=>
    obtain⟨i',fr2,H2,hfl,hhl,hI2,hlt⟩:=hq
    obtain⟨e₂,a₂,w₂,hq₂,harr₂⟩:=ih (μ i') (hm▸hlt) i' fr2 H2 a₁ w₁ rfl hI2 (hf1.mono hfl) (hs1.mono hhl) b k cs
    exact⟨e₂,a₂,w₂,hq₂,.of_steps (Steps.trans harr (.one step_inLoop)) harr₂⟩
   |exit id=>exact⟨_,a₁,w₁,⟨fr1,H1,hf1,hs1,hq⟩,.pass (x:=.inLoop c) rfl (fun _ _=>.inl (by simp)) harr⟩
   |goto l=>exact⟨_,a₁,w₁,⟨fr1,H1,hf1,hs1,hq⟩,.pass (x:=.inLoop c) rfl (fun _ _=>.inl (by simp)) harr⟩
   |ret=>exact⟨_,a₁,w₁,⟨fr1,H1,hf1,hs1,hq⟩,.pass (x:=.inLoop c) rfl (fun _ _=>.inl (by simp)) harr⟩
   |panic ch=>exact⟨_,a₁,w₁,⟨fr1,H1,hf1,hs1,hq⟩,.pass (x:=.inLoop c) rfl (fun _ _=>.inl (by simp)) harr⟩
   |outgrown=>exact⟨_,a₁,w₁,⟨fr1,H1,hf1,hs1,hq⟩,.pass (x:=.inLoop c) rfl (fun _ _=>.inl (by simp)) harr⟩
 intro b k cs
 obtain⟨e,a',w',hq,harr⟩:=key _ i0 fr0 H0 a w rfl hI0 (hf.mono hfl) (hs.mono hhl) b k cs
 exact⟨e,a',w',hq,.of_steps (.one step_loop) harr⟩
theorem fZ.QI {P:Program} {n:Nat} {c:Code} {Q:Exit→Fr→AH→Prop} {fr:Fr} {H:AH} {ι:Type} (V:ι→Prop) (F:ι→Fr) (G:ι→AH) (μ:ι→Nat) (i0:ι)
  (hv:V i0) (hf:bZ (F i0) fr) (hh:(G i0).le H)
  (round:∀ i,V i→xW P n c (around (fun i fr H=>V i∧fr=F i∧H=G i) μ i Q) (F i) (G i)):fZ P n (.loop c) Q fr H:=
 fZ.loop (fun i fr H=>V i∧fr=F i∧H=G i) μ i0 ⟨_,_,hf,hh,hv,rfl,rfl⟩ fun i fr H ⟨h1,h2,h3⟩=>by subst h2;subst h3;exact round i h1
theorem sG {ι:Type} {V:ι→Prop} {F:ι→Fr} {G:ι→AH} {μ:ι→Nat} {i:ι} {Q:Exit→Fr→AH→Prop} {fr:Fr} {H:AH} (i':ι)
  (hv:V i') (hf:bZ (F i') fr) (hh:(G i').le H) (hm:μ i'<μ i):around (fun i fr H=>V i∧fr=F i∧H=G i) μ i Q .normal fr H:=
 ⟨i',_,_,hf,hh,⟨hv,rfl,rfl⟩,hm⟩
theorem fZ.weak {P:Program} {n:Nat} {c:Code} {Q:Exit→Fr→AH→Prop} {fr fr':Fr} {H H':AH} (hf:bZ fr' fr) (hh:H'.le H) (h:fZ P n c Q fr' H'):fZ P n c Q fr H:=
 fun E a w h1 h2=>h E a w (h1.mono hf) (h2.mono hh)
section
variable {P:Program} {H:AH}
def Iy (g:Option Bool) (sz:Nat) (P:Program) (ty:TypeId) (H:AH) (v:Option Value):Option Value:=
 match g,v with
 |some false,some (.pointer (some ⟨b,off,none⟩))=>H.rd ⟨b,off,none⟩
 |some true,some (.pointer (some ⟨b,off,none⟩))=>if sz=0 then none else (H.row b off sz).map fun l=>.agg l.toArray
 |_,_=>none
theorem OX {sz ty b off:Nat}:Iy (some true) sz P ty H (some (.pointer (some ⟨b,off,none⟩)))=if sz=0 then none else (H.row b off sz).map fun l=>.agg l.toArray:=Eq.trans rfl rfl
theorem OY {ty:TypeId} {v:Option Value} {u:Value} (h:Iy (gJ (P.underlying ty)) (P.cellsOf ty) P ty H v=some u):∃ ad,v=some (.pointer (some ad))∧dZ P (loadVar ty ad) H=some u:=by
 unfold Iy at h
 split at h
 ·rename_i b off hg
  exact⟨_,rfl,su (by rw[hg,xO,h];rfl)⟩
 ·rename_i b off hg
  split at h
  ·cases h
  ·rename_i hz
   obtain⟨l,hl,rfl⟩:=Option.map_eq_some_iff.1 h
   exact⟨_,rfl,su (by rw[hg,Bo,hl];exact⟨hz,rfl⟩)⟩
 ·cases h
end
def uK (P:Program) (fr:Fr) (H:AH):List ResultVar→Option (List Value)
 | []=>some []
 |.tmp t::rs=>(qC t fr).bind fun v=>(uK P fr H rs).map (v::·)
 |.cell t ty::rs=>(Iy (gJ (P.underlying ty)) (P.cellsOf ty) P ty H (qC t fr)).bind fun v=>(uK P fr H rs).map (v::·)
def retv:List Value→Value
 | [v]=>v
 |vs=>.tuple vs.toArray
def Ai (tmps:Array Value) (x:ResultVar):Sem Value:=
 match x with
 |.tmp t=>pure (tmps.getD t undef)
 |.cell a t=>do loadVar t (←asAddr (tmps.getD a undef))
theorem Cc {E:Nat→Option Obj} {P:Program} {n:Nat} {fr:Fr} {H:AH} {a:Act} {w:World} (hf:kU n fr a) (hs:Sat E H w):∀ (rs:List ResultVar) (vs:List Value),uK P fr H rs=some vs→
  (rs.mapM (Ai a.tmps)).run P w=Result.ok vs w
 | [],vs,h=>by simp only[uK,Option.some.injEq]at h;subst h;rfl
 |.tmp t::rs,vs,h=>by
  simp only[uK]at h
  obtain⟨v,hv,h⟩:=Option.bind_eq_some_iff.1 h
  obtain⟨us,hu,rfl⟩:=Option.map_eq_some_iff.1 h
  have:=hf.vals _ _ hv
  have e:(Ai a.tmps (.tmp t)).run P w=.ok v w:=by simp[Ai,Array.getD_eq_getD_getElem?,this]
  simp only[List.mapM_cons,Sem.run_bind,e,Result.andThen_ok,Cc hf hs rs us hu,Sem.run_pure]
 |.cell t ty::rs,vs,h=>by
  simp only[uK]at h
  obtain⟨v,hv,h⟩:=Option.bind_eq_some_iff.1 h
  obtain⟨us,hu,rfl⟩:=Option.map_eq_some_iff.1 h
  obtain⟨ad,ha,hq⟩:=OY hv
  have h1:=hf.vals _ _ ha
  have h2:=pU P _ H v w hq hs
  have e:(Ai a.tmps (.cell t ty)).run P w=.ok v w:=by simp[Ai,Array.getD_eq_getD_getElem?,h1,asAddr,h2]
  simp only[List.mapM_cons,Sem.run_bind,e,Result.andThen_ok,Cc hf hs rs us hu,Sem.run_pure]
theorem Iz {E:Nat→Option Obj} {P:Program} {n:Nat} {fr:Fr} {H:AH} {a:Act} {w:World} {fn:Func} (hf:kU n fr a) (hs:Sat E H w) {vs:List Value} (h:uK P fr H fn.results.toList=some vs) :
  (results fn a.tmps).run P w=.ok (retv vs) w:=by
 have h1:=Cc hf hs fn.results.toList vs h
 have e:results fn a.tmps=(fn.results.mapM (Ai a.tmps) >>= fun vs=>pure (if h:vs.size=1 then vs[0] else .tuple vs)):=rfl
 have e2:fn.results.mapM (Ai a.tmps)=List.toArray <$> fn.results.toList.mapM (Ai a.tmps):=by
  rw[←List.mapM_toArray]
 rw[e,e2]
 simp only[Sem.run_bind,Sem.run_map,h1,Result.andThen_ok]
 cases vs with
 |nil=>rfl
 |cons v vs=>cases vs<;>rfl
def vT:Nat→List Value→Fr
 |_,[]=>[]
 |k,v::vs=>(k,v)::vT (k+1) vs
theorem Aj:∀ (vs:List Value) (k t:Nat) (v:Value),qC t (vT k vs)=some v→k≤t∧vs[t - k]?=some v
 | [],_,_,_,h=>by cases h
 |x::vs,k,t,v,h=>by
  simp only[vT,nV]at h
  split at h
  ·rename_i e;subst e;cases h;simp
  ·rename_i hne
   obtain⟨h1,h2⟩:=Aj vs (k+1) t v h
   refine⟨by omega,?_⟩
   rw[show t - k=(t - (k+1))+1 from by omega]
   simpa using h2
def Vz (P:Program) (rs:List ResultVar) (K:Value→AH→Prop):Exit→Fr→AH→Prop
 |.normal=>fun fr H=>match uK P fr H rs with
  |some vs=>∃ H',H'.le H∧K (retv vs) H'
  |none=>False
 |.ret=>fun fr H=>match uK P fr H rs with
  |some vs=>∃ H',H'.le H∧K (retv vs) H'
  |none=>False
 |_=>fun _ _=>False
theorem aO.enter {P:Program} {f:FuncId} {fn:Func} {c:Code} {args:Array Value} {H:AH} {K:Value→AH→Prop} (hf:P.funcs[f]?=some fn) (hb:fn.body=some c) (hn:args.size≤fn.ntmps)
  (h:xW P fn.ntmps c (Vz P fn.results.toList K) (vT 0 args.toList) H):aO P f args H K:=by
 intro E w hs
 refine calls_of_wp hf hb (wp_mono (EU P _ c _ _ _ h E _ w ⟨rfl,by simp;omega,fun t v hv=>?_⟩ hs) ?_)
 ·obtain⟨_,h2⟩:=Aj _ _ _ _ hv
  have hlt:t<args.size:=by
   rcases Nat.lt_or_ge t args.size with h | h
   ·exact h
   ·simp[Array.getElem?_eq_none h]at h2
  rw[Array.getElem?_append_left hlt]
  simpa using h2
 ·rintro e a w ⟨fr,H1,h1,h2,h3⟩
  have fin:(match uK P fr H1 fn.results.toList with
    |some vs=>∃ H',H'.le H1∧K (retv vs) H'
    |none=>False)→a.defers=[]∧∃ v,(results fn a.tmps).run P w=.ok v w∧∃ v' H',Ending.returned v=.returned v'∧Sat E H' w∧K v' H':=fun h3=>by
   split at h3
   ·rename_i vs hv
    obtain⟨H',hl,hk⟩:=h3
    exact⟨h1.defers,retv vs,Iz h1 h2 hv,retv vs,H',rfl,h2.mono hl,hk⟩
   ·exact h3.elim
  cases e with
  |normal=>exact fin h3
  |ret=>exact fin h3
  |_=>exact h3.elim
theorem BP.mk {P:Program} {f:FuncId} {args:Array Value} {H:AH} {K:Value→Prop} {v:Value} (h:aO P f args H (fun v' H'=>v'=v∧H=H')) (hk:K v):BP P f args H K:=
 ⟨v,h.mono fun _ _ ⟨h1,h2⟩=>⟨h1,h2▸AH.le_refl _⟩,hk⟩
theorem lY {E:Nat→Option Obj} {P:Program} {n:Nat} {ops:Array Oper} {H:AH} {Q:Act→Prop} {K:Fr→AH→Prop}
  (hQ:∀ fr a,kU n fr a→K fr H→Q a):∀ (l:List Oper) (fr:Fr) (a:Act),xI true P n (ops.toList.map (·.dst)) l fr H K→kU n fr a→wpQuiet P ops (Sat E H) Q l a
 | [],fr,a,h,hf=>hQ _ _ hf h
 |o::rest,fr,a,h,hf=>by
  simp only[xI]at h
  split at h
  ·exact h.elim
  ·rename_i g hg
   have hw:=mO hf hg
   simp only[wpQuiet,hw]
   cases g with
   |false=>
    obtain⟨hd,h1⟩:=h.2 rfl
    simp only[Bool.false_eq_true,if_false]
    exact lY hQ rest _ _ h1 ((hf.xH hg).put hd _)
   |true=>
    obtain⟨ho,h1⟩:=h.1 rfl
    have hd:EO n o.dst=true:=by simp only[wV,Bool.and_eq_true]at ho;exact ho.2
    simp only[if_true]
    unfold zu at h1
    split at h1
    ·split at h1
     ·rename_i nx hn
      have hr:∀ w,Sat E H w→(execOp a.eval o).run P w=.ok nx w:=fun w hs=>by rw[(hf.xH hg).exec ho];exact pU P _ H nx w hn hs
      cases nx<;>simp only[oJ]at h1<;>try exact h1.elim
      ·rename_i v
       exact⟨v,fun w hs=>by simp only[Oper.quietAt,hr w hs,Oper.quietUpon,and_self],lY hQ rest _ _ h1 ((hf.xH hg).put hd v)⟩
      ·exact⟨undef,fun w hs=>by simp only[Oper.quietAt,hr w hs,Oper.quietUpon,and_self],lY hQ rest _ _ h1 ((hf.xH hg).put hd _)⟩
      ·rename_i f args
       obtain⟨v,hc,hk⟩:=h1
       refine⟨v,fun w hs=>?_,lY hQ rest _ _ hk ((hf.xH hg).put hd v)⟩
       simp only[Oper.quietAt,hr w hs,Oper.quietUpon,true_and]
       exact(hc E w hs).mono fun e w' ⟨v',H',h1,h2,h3,h4⟩=>⟨by rw[h1,h3],h2.mono h4⟩
     ·exact h1.elim
    ·exact absurd h1.1 (by simp)
    ·exact absurd h1.1 (by simp)
def nd (ds:List (Option Tmp)) (k:List (Option Tmp)→Prop) (_t:Lk k:=.mk):Prop:=k ds
theorem Nw (ds:List (Option Tmp)) (k:List (Option Tmp)→Prop):nd ds k=k ds:=Eq.trans rfl rfl
theorem fZ.quiet {P:Program} {n:Nat} {id:Nat} {l:List Oper} {Q:Exit→Fr→AH→Prop} {fr:Fr} {H:AH} (hm:P.follows .mixedOrders=true) (hB:Region.lexB .any l.toArray=true)
  (h:nd (l.map (·.dst)) fun ds=>fG true P n ds l fr H (Q .normal)):fZ P n (.region id l.toArray true) Q fr H:=
 fun E a w hf hs=>wp_region_quiet (C:=Sat E H) hm hB hs.drew (by
  have h':fG true P n (l.toArray.toList.map (·.dst)) l.toArray.toList fr H (Q .normal):=h
  exact lY (K:=Q .normal) (fun fr' _ h1 h2 w' hs'=>⟨fr',H,h1,hs',h2⟩) _ _ _ (jK _ _ _ h') hf)
section
variable {P:Program} {n:Nat} {Q:Exit→Fr→AH→Prop} {fr:Fr} {H:AH}
theorem YO:xW P n .skip Q fr H=Q .normal fr H:=Eq.trans rfl rfl
theorem YP {l:Nat}:xW P n (.exit l) Q fr H=Q (.exit l) fr H:=Eq.trans rfl rfl
theorem abh:xW P n .ret Q fr H=Q .ret fr H:=Eq.trans rfl rfl
theorem abj {a b:Code}:xW P n (.seq a b) Q fr H=xW P n a (aseq (xW P n b Q) Q) fr H:=Eq.trans rfl rfl
theorem VA {id:Nat} {a:Code}:xW P n (.block id a) Q fr H=xW P n a (zB id Q) fr H:=Eq.trans rfl rfl
theorem YQ {c:Operand} {x y:Code}:xW P n (.cond c x y) Q fr H=wv fr c fun v=>Nv v (xW P n x Q fr H) (xW P n y Q fr H):=Eq.trans rfl rfl
theorem QJ {id:Nat} {ops:List Oper}:xW P n (.region id ops.toArray false) Q fr H=nd (ops.map (·.dst)) fun ds=>fG false P n ds ops fr H (Q .normal):=by simp[xW,nd]
theorem YR {id:Nat} {ops:Array Oper}:xW P n (.region id ops true) Q fr H=fZ P n (.region id ops true) Q fr H:=by simp[xW]
theorem YS {a:Code}:xW P n (.loop a) Q fr H=fZ P n (.loop a) Q fr H:=Eq.trans rfl rfl
theorem Ld {b:Bool} {A B:Prop}:Nv (.bool b) A B=(imp (b=true) A∧imp (b=false) B):=Eq.trans rfl rfl
theorem IB {K:Fr→AH→Prop}:aseq K Q .normal fr H=K fr H:=Eq.trans rfl rfl
theorem OZ {K:Fr→AH→Prop} {i:Nat}:aseq K Q (.exit i) fr H=Q (.exit i) fr H:=Eq.trans rfl rfl
theorem QK {K:Fr→AH→Prop}:aseq K Q .ret fr H=Q .ret fr H:=Eq.trans rfl rfl
theorem EK {id:Nat}:zB id Q .normal fr H=Q .normal fr H:=Eq.trans rfl rfl
theorem Le {id:Nat}:zB id Q .ret fr H=Q .ret fr H:=Eq.trans rfl rfl
theorem IC {id i:Nat}:zB id Q (.exit i) fr H=if i=id then Q .normal fr H else Q (.exit i) fr H:=Eq.trans rfl rfl
theorem IE {ι:Type} {I:ι→Fr→AH→Prop} {μ:ι→Nat} {i:ι} {l:Nat}:around I μ i Q (.exit l) fr H=Q (.exit l) fr H:=Eq.trans rfl rfl
theorem QL {rs:List ResultVar} {K:Value→AH→Prop}:Vz P rs K .ret fr H=wo (uK P fr H rs) fun vs=>∃ H',H'.le H∧K (retv vs) H':=by
 simp only[Vz];cases uK P fr H rs<;>rfl
theorem QM:uK P fr H []=some []:=Eq.trans rfl rfl
theorem QN {t:Nat} {rs:List ResultVar}:uK P fr H (.tmp t::rs)=(qC t fr).bind fun v=>(uK P fr H rs).map (v::·):=Eq.trans rfl rfl
theorem O1 {t ty:Nat} {rs:List ResultVar}:uK P fr H (.cell t ty::rs)=(Iy (gJ (P.underlying ty)) (P.cellsOf ty) P ty H (qC t fr)).bind fun v=>(uK P fr H rs).map (v::·):=Eq.trans rfl rfl
theorem QO {v:Value}:retv [v]=v:=Eq.trans rfl rfl
theorem QS {v u:Value} {vs:List Value}:retv (v::u::vs)=.tuple (v::u::vs).toArray:=Eq.trans rfl rfl
end
end Go.AX
/- The engine's equations, as_ 'simp only' takes them. -/
namespace Go.AX
open Go Go.RowKit
section
variable {q:Bool} {P:Program} {n:Nat} {ds:List (Option Tmp)} {rest:List Oper} {fr:Fr} {H:AH} {K:Fr→AH→Prop} {d:Nat} {ty:TypeId} {pos:String} {af:Array Edge}
theorem abk:fG q P n ds [] fr H K=K fr H:=Eq.trans rfl rfl
theorem O4 {op:Op} {j:Nat}:fG q P n ds (⟨some d,op,ty,pos,af,some (j,true)⟩::rest) fr H K=wo (ds[j]?) fun t=>wo t fun t=>wo (qC t fr) fun b=>
   ag b true (fG q P n ds (⟨some d,op,ty,pos,af,none⟩::rest) ((t,.bool true)::fr) H K) (d<n∧fG q P n ds rest ((d,undef)::(t,.bool false)::fr) H K) (d<n∧fG q P n ds rest ((d,undef)::fr) H K):=by
 rw[←fH];rfl
theorem O5 {op:Op} {j:Nat}:fG q P n ds (⟨some d,op,ty,pos,af,some (j,false)⟩::rest) fr H K=wo (ds[j]?) fun t=>wo t fun t=>wo (qC t fr) fun b=>
   ag b false (fG q P n ds (⟨some d,op,ty,pos,af,none⟩::rest) ((t,.bool false)::fr) H K) (d<n∧fG q P n ds rest ((d,undef)::(t,.bool true)::fr) H K) (d<n∧fG q P n ds rest ((d,undef)::fr) H K):=by
 rw[←fH];rfl
theorem YT {x:Operand}:fG q P n ds (⟨(some d),.move x,ty,pos,af,none⟩::rest) fr H K=(d<n∧wv fr x fun v=>nv v fun v=>fG q P n ds rest ((d,v)::fr) H K):=by rw[←fH];rfl
theorem QT {x:Operand}:fG q P n ds (⟨(some d),.assign x,ty,pos,af,none⟩::rest) fr H K=(d<n∧wv fr x fun v=>nv v fun v=>fG q P n ds rest ((d,v)::fr) H K):=by rw[←fH];rfl
theorem YU {c a b:Operand}:fG q P n ds (⟨(some d),.pick c a b,ty,pos,af,none⟩::rest) fr H K=(d<n∧wv fr c fun c=>wv fr a fun a=>wv fr b fun b=>pck c a b fun v=>fG q P n ds rest ((d,v)::fr) H K):=by rw[←fH];rfl
theorem VB {op:BinOp} {t yt:TypeId} {x y:Operand}:fG q P n ds (⟨(some d),.binOp op t x y yt,ty,pos,af,none⟩::rest) fr H K=(d<n∧wv fr x fun a=>wv fr y fun b=>bin (P.underlying t) P H op t x y a b fun v=>fG q P n ds rest ((d,v)::fr) H K):=by rw[←fH];rfl
theorem YV {op:UnOp} {t:TypeId} {x:Operand}:fG q P n ds (⟨(some d),.unOp op t x,ty,pos,af,none⟩::rest) fr H K=(d<n∧wv fr x fun a=>unv P H op a fun v=>fG q P n ds rest ((d,v)::fr) H K):=by rw[←fH];rfl
theorem O6 {x:Operand} {i:Nat}:fG q P n ds (⟨(some d),.extract x i,ty,pos,af,none⟩::rest) fr H K=(d<n∧wv fr x fun a=>Vk P H a i fun v=>fG q P n ds rest ((d,v)::fr) H K):=by rw[←fH];rfl
theorem O7 {s t:TypeId} {x:Operand}:fG q P n ds (⟨(some d),.convert s t x,ty,pos,af,none⟩::rest) fr H K=(d<n∧wv fr x fun a=>cnv (P.underlying s) (P.underlying t) P H s t a fun v=>fG q P n ds rest ((d,v)::fr) H K):=by rw[←fH];rfl
theorem YW {t:TypeId} {x:Operand}:fG q P n ds (⟨(some d),.load t x,ty,pos,af,none⟩::rest) fr H K=(d<n∧wv fr x fun a=>XQ (gJ (P.underlying t)) (P.cellsOf t) a H fun v=>fG q P n ds rest ((d,v)::fr) H K):=by rw[←fH];rfl
theorem IG {s:TypeId} {x:Operand} {i:Nat}:fG q P n ds (⟨(some d),.fieldAddr s x i,ty,pos,af,none⟩::rest) fr H K=(d<n∧wv fr x fun a=>fap P s i a fun v=>fG q P n ds rest ((d,v)::fr) H K):=by rw[←fH];rfl
theorem IJ {t:TypeId} {x i:Operand}:fG q P n ds (⟨(some d),.indexAddr t x i,ty,pos,af,none⟩::rest) fr H K=(d<n∧ny P t≠0∧wv fr x fun a=>wv fr i fun i=>ixp (P.underlying t) (ny P t) a i fun v=>fG q P n ds rest ((d,v)::fr) H K):=by rw[←fH];rfl
theorem Lh {x:Operand}:fG q P n ds (⟨(some d),.nilCheck x,ty,pos,af,none⟩::rest) fr H K=(d<n∧wv fr x fun a=>nck a fun v=>fG q P n ds rest ((d,v)::fr) H K):=by rw[←fH];rfl
theorem Lj {f:Fn} {a b:Array Operand}:fG q P n ds (⟨(some d),.makeFunc f a b,ty,pos,af,none⟩::rest) fr H K=(d<n∧Bl fr a.toList fun a=>Bl fr b.toList fun b=>fG q P n ds rest ((d,.func f a.toArray b.toArray)::fr) H K):=by rw[←fH];rfl
theorem Bc {t:TypeId} {x:Operand}:fG q P n ds (⟨(some d),.makeInterface t x,ty,pos,af,none⟩::rest) fr H K=(d<n∧wv fr x fun a=>jC P H (Instr.makeInterface t a) fun v=>fG q P n ds rest ((d,v)::fr) H K):=by rw[←fH];rfl
theorem VD {t:TypeId} {x i:Operand}:fG q P n ds (⟨(some d),.index t x i,ty,pos,af,none⟩::rest) fr H K=(d<n∧wv fr x fun a=>wv fr i fun i=>jC P H (Instr.index t a i) fun v=>fG q P n ds rest ((d,v)::fr) H K):=by rw[←fH];rfl
theorem VE {t:TypeId} {x:Operand} {i:Nat}:fG q P n ds (⟨(some d),.field t x i,ty,pos,af,none⟩::rest) fr H K=(d<n∧wv fr x fun a=>jC P H (Instr.field t a i) fun v=>fG q P n ds rest ((d,v)::fr) H K):=by rw[←fH];rfl
theorem VF {t:TypeId} {x:Operand} {lo hi mx:Option Operand}:fG q P n ds (⟨(some d),.slice t x lo hi mx,ty,pos,af,none⟩::rest) fr H K=(d<n∧wv fr x fun a=>wL fr lo fun lo=>wL fr hi fun hi=>wL fr mx fun mx=>jC P H (Instr.sliceAt t a lo hi mx) fun v=>fG q P n ds rest ((d,v)::fr) H K):=by rw[←fH];rfl
theorem VG {t:TypeId} {ps:Array (Nat×Operand)}:fG q P n ds (⟨(some d),.build t ps,ty,pos,af,none⟩::rest) fr H K=(d<n∧Bl fr (ps.toList.map (·.2)) fun vs=>bld P t ((ps.toList.map (·.1)).zip vs) fun v=>fG q P n ds rest ((d,v)::fr) H K):=by rw[←fH];rfl
theorem VH {t:TypeId} {x y:Operand}:fG q P n ds (⟨none,.store t x y,ty,pos,af,none⟩::rest) fr H K=(q=false∧P.cellsOf t≠0∧wv fr x fun a=>wv fr y fun b=>stv P t a b H fun H'=>fG q P n ds rest fr H' K):=by simp only[fG,vgo,Ip,true_and];rfl
theorem VI {t:TypeId}:fG q P n ds (⟨(some d),.alloc t,ty,pos,af,none⟩::rest) fr H K=(d<n∧q=false∧wo (qE P t) fun cs=>KU t cs H fun v H'=>fG q P n ds rest ((d,v)::fr) H' K):=by rw[←fH];rfl
theorem abl {t:TypeId} {x:Operand}:fG q P n ds (⟨(some d),.box t x,ty,pos,af,none⟩::rest) fr H K=(d<n∧q=false∧wv fr x fun v=>KU t (iq v) H fun v H'=>fG q P n ds rest ((d,v)::fr) H' K):=by rw[←fH];rfl
theorem YX {f:Operand} {xs:Array Operand} {ts:Array TypeId}:fG q P n ds (⟨(some d),.call { callee:=.value f,args:=xs,argTypes:=ts },ty,pos,af,none⟩::rest) fr H K=(d<n∧wv fr f fun f=>Bl fr xs.toList fun as_=>acl q P H f as_ fun v H'=>fG q P n ds rest ((d,v)::fr) H' K):=by rw[←fH];rfl
theorem Gx {t:TypeId} {len:Nat} {ps:Array (Nat×Operand)}:fG q P n ds (⟨(some d),.buildSlice t len ps,ty,pos,af,none⟩::rest) fr H K=(d<n∧q=false∧Bl fr (ps.toList.map (·.2)) fun vs=>Vu P t len ((ps.toList.map (·.1)).zip vs) H fun v H'=>fG q P n ds rest ((d,v)::fr) H' K):=by rw[←fH];rfl
theorem IK {t:TypeId} {l c:Operand}:fG q P n ds (⟨(some d),.makeSlice t l c,ty,pos,af,none⟩::rest) fr H K=(d<n∧q=false∧wv fr l fun l=>wv fr c fun c=>mks P t l c H fun v H'=>fG q P n ds rest ((d,v)::fr) H' K):=by rw[←fH];rfl
theorem O8 {t:TypeId}:fG q P n ds (⟨(some d),.makeMap t none,ty,pos,af,none⟩::rest) fr H K=(d<n∧q=false∧bY H fun b=>fG q P n ds rest ((d,.map (some b))::fr) (H.add b (.gW [])) K):=by rw[←fH];rfl
theorem QU {t:TypeId} {x i:Operand} {ok:Bool}:fG q P n ds (⟨(some d),.lookup t x i ok,ty,pos,af,none⟩::rest) fr H K=(d<n∧q=false∧wv fr x fun x=>wv fr i fun i=>(Vx P t x i ok H (fun v H'=>fG q P n ds rest ((d,v)::fr) H' K)∨(KZ P t=none∧YM P t x i ok H fun v H'=>fG q P n ds rest ((d,v)::fr) H' K))):=by rw[←fH];rfl
theorem IL {t:TypeId} {m i x:Operand}:fG q P n ds (⟨none,.mapUpdate t m i x,ty,pos,af,none⟩::rest) fr H K=(q=false∧wv fr m fun m=>wv fr i fun i=>wv fr x fun x=>(mup P t m i x H (fun H'=>fG q P n ds rest fr H' K)∨(KZ P t=none∧YN P t m i x H fun H'=>fG q P n ds rest fr H' K))):=by simp only[fG,vgo,Ip,true_and];rfl
theorem QV {xs:Array Operand} {ts:Array TypeId}:fG q P n ds (⟨(some d),.call { callee:=.builtin .append,args:=xs,argTypes:=ts },ty,pos,af,none⟩::rest) fr H K=(d<n∧q=false∧Bl fr xs.toList fun as_=>lS P ts[0]? ts[1]? as_ H fun v H'=>fG q P n ds rest ((d,v)::fr) H' K):=by rw[←fH];rfl
theorem abm {xs:Array Operand} {ts:Array TypeId}:fG q P n ds (⟨(some d),.call { callee:=.builtin .len,args:=xs,argTypes:=ts },ty,pos,af,none⟩::rest) fr H K=(d<n∧Bl fr xs.toList fun as_=>Qw (ts[0]?.bind P.underlying) .len as_ fun v=>fG q P n ds rest ((d,v)::fr) H K):=by rw[←fH];rfl
theorem abn {xs:Array Operand} {ts:Array TypeId}:fG q P n ds (⟨(some d),.call { callee:=.builtin .cap,args:=xs,argTypes:=ts },ty,pos,af,none⟩::rest) fr H K=(d<n∧Bl fr xs.toList fun as_=>Qw (ts[0]?.bind P.underlying) .cap as_ fun v=>fG q P n ds rest ((d,v)::fr) H K):=by rw[←fH];rfl
theorem abo {xs:Array Operand} {ts:Array TypeId}:fG q P n ds (⟨(some d),.call { callee:=.builtin .min,args:=xs,argTypes:=ts },ty,pos,af,none⟩::rest) fr H K=(d<n∧Bl fr xs.toList fun as_=>Qw (ts[0]?.bind P.underlying) .min as_ fun v=>fG q P n ds rest ((d,v)::fr) H K):=by rw[←fH];rfl
theorem abp {xs:Array Operand} {ts:Array TypeId}:fG q P n ds (⟨(some d),.call { callee:=.builtin .max,args:=xs,argTypes:=ts },ty,pos,af,none⟩::rest) fr H K=(d<n∧Bl fr xs.toList fun as_=>Qw (ts[0]?.bind P.underlying) .max as_ fun v=>fG q P n ds rest ((d,v)::fr) H K):=by rw[←fH];rfl
def UH (v:List Value) (k:List Value→Prop) (_t:Lk k:=.mk):Prop:=k v
theorem YZ (v:List Value) (k:List Value→Prop):UH v k=k v:=Eq.trans rfl rfl
def nn (v:Nat) (k:Nat→Prop) (_t:Lk k:=.mk):Prop:=k v
theorem abq (v:Nat) (k:Nat→Prop):nn v k=k v:=Eq.trans rfl rfl
theorem VJ {t:TypeId} {cs:List Value} {k:Value→AH→Prop}:KU t cs H k=UH cs fun cs=>nn cs.length fun m=>bY H fun b=>k (.pointer (some ⟨b,0,none⟩)) (H.add b (.cells cs t m)):=Eq.trans rfl rfl
def QW (pl:Nat→Option (Nat×Nat)) (cs:List Value) (ps:List (Nat×Value)) (k:List Value→Prop) (_t:Lk k:=.mk):Prop:=wo (EF pl cs ps) k
theorem QX {pl:Nat→Option (Nat×Nat)} {cs:List Value} {k:List Value→Prop}:QW pl cs [] k=k cs:=Eq.trans rfl rfl
theorem O9 {pl:Nat→Option (Nat×Nat)} {cs:List Value} {i:Nat} {v:Value} {r:List (Nat×Value)} {k:List Value→Prop}:QW pl cs ((i,v)::r) k=wo (pl i) fun os=>UH (iq v) fun vs=>vs.length=os.2∧os.1+os.2≤cs.length∧UH (iO cs os.1 vs) fun cs'=>QW pl cs' r k:=by
 unfold QW
 simp only[EF]
 cases pl i with
 |none=>rfl
 |some os=>
  obtain⟨off,sz⟩:=os
  simp only[mP,UH]
  by_cases h1:(iq v).length=sz
  ·by_cases h2:off+sz≤cs.length
   ·simp[h1,h2]
   ·simp[h1,h2,wo]
  ·simp[h1,wo]
theorem Y0 {t:TypeId} {ps:List (Nat×Value)} {k:Value→Prop}:bld P t ps k=(oK P t=true∧wo (qE P t) fun z=>QW (lI P t) z ps fun cs=>nv (.agg cs.toArray) k):=Eq.trans rfl rfl
def bsk (sz i:Nat) (acc:List Value) (ps:List (Nat×Value)) (k:List Value→Prop) (_t:Lk k:=.mk):Prop:=wo ((xP sz i ps).map (acc++·)) k
theorem VK {sz i:Nat} {acc:List Value} {k:List Value→Prop}:bsk sz i acc [] k=k acc:=by simp[bsk,xP,wo]
theorem QY {sz i j:Nat} {v:Value} {acc:List Value} {r:List (Nat×Value)} {k:List Value→Prop}:bsk sz i acc ((j,v)::r) k=(j=i∧UH (iq v) fun vs=>vs.length=sz∧UH (acc++vs) fun acc'=>bsk sz (i+1) acc' r k):=by
 unfold bsk
 simp only[xP,UH]
 by_cases h1:j=i
 ·by_cases h2:(iq v).length=sz
  ·simp only[h1,h2,and_self,if_true,true_and]
   cases xP sz (i+1) r<;>simp[wo]
  ·simp[h1,h2,wo]
 ·simp[h1,wo]
theorem Y1 {t len:Nat} {ps:List (Nat×Value)} {k:Value→AH→Prop}:Vu P t len ps H k=wo (uG P t) fun s=>len=ps.length∧len*s.2.1≤16777216∧nn s.1 fun e=>bsk s.2.1 0 [] ps fun cs=>nn cs.length fun m=>bY H fun b=>k (.slice (some ⟨b,0,none⟩) len len) (H.add b (.cells cs e m)):=by
 unfold Vu
 refine congrArg (fun k=>wo (uG P t) k) (funext fun s=>?_)
 have e:(xP s.2.1 0 ps).map ([]++·)=xP s.2.1 0 ps:=by cases xP s.2.1 0 ps<;>rfl
 show _=(len=ps.length∧len*s.2.1≤16777216∧wo ((xP s.2.1 0 ps).map ([]++·)) fun cs=>nn cs.length fun m=>bY H fun b=>k (.slice (some ⟨b,0,none⟩) len len) (H.add b (.cells cs s.1 m)))
 rw[e]
 rfl
theorem VL {t:TypeId} {k1 k2:IntKind} {a b:Int} {k:Value→AH→Prop}:mks P t (.int k1 a) (.int k2 b) H k=wo (uG P t) fun E=>E.2.1≠0∧0≤a∧a≤b∧E.2.2.2*b≤281474976710656∧b<9223372036854775808∧
   nn E.1 fun e=>nn (b.toNat*E.2.1) fun m=>UH (zf E.2.2.1 m) fun cs=>nn a.toNat fun l=>nn b.toNat fun c=>bY H fun bl=>k (.slice (some ⟨bl,0,none⟩) l c) (H.add bl (.cells cs e m)):=Eq.trans rfl rfl
theorem QZ {t r:Nat} {key:Value} {ok:Bool} {k:Value→AH→Prop}:Vx P t (.map (some r)) key ok H k=wo (KZ P t) fun E=>wo (H.mp r) fun es=>wo (zx E.1 key es 0) fun o=>nv (Ba ok E.2 o) fun v=>k v H:=Eq.trans rfl rfl
theorem Q5 {t r:Nat} {key v:Value} {k:AH→Prop}:mup P t (.map (some r)) key v H k=wo (KZ P t) fun E=>wo (H.mp r) fun es=>wo (zx E.1 key es 0) fun o=>wo (H.xQ r (EJ es key v o)) k:=Eq.trans rfl rfl
theorem Pg {ok:Bool} {z v:Value} {i:Nat}:Ba ok z (some (i,v))=if ok=true then .tuple #[v,.bool true] else v:=Eq.trans rfl rfl
theorem Ph {ok:Bool} {z:Value}:Ba ok z none=if ok=true then .tuple #[z,.bool false] else z:=Eq.trans rfl rfl
theorem Pj {es:List (Value×Value)} {key v v0:Value} {i:Nat}:EJ es key v (some (i,v0))=es.set i (key,v):=Eq.trans rfl rfl
theorem Pm {es:List (Value×Value)} {key v:Value}:EJ es key v none=es++[(key,v)]:=Eq.trans rfl rfl
theorem iF {sz b o n c:Nat}:nC H sz (.slice (some ⟨b,o,none⟩) n c)=H.row b o (n*sz):=Eq.trans rfl rfl
theorem EW {sz n c:Nat}:nC H sz (.slice none n c)=if n=0 then some [] else none:=Eq.trans rfl rfl
theorem VN {t:TypeId} {b off:Nat} {v:Value} {k:AH→Prop}:stv P t (.pointer (some ⟨b,off,none⟩)) v H k=UH (iq v) fun vs=>vs.length=P.cellsOf t∧wo (H.uH b off vs) k:=Eq.trans rfl rfl
theorem IQ {b:Bool}:iq (.bool b)=[.bool b]:=Eq.trans rfl rfl
theorem Ll {k:IntKind} {x:Int}:iq (.int k x)=[.int k x]:=Eq.trans rfl rfl
theorem Lm {a:Option Addr}:iq (.pointer a)=[.pointer a]:=Eq.trans rfl rfl
theorem Gy {a:Option Addr} {l c:Nat}:iq (.slice a l c)=[.slice a l c]:=Eq.trans rfl rfl
theorem Lp {r:Option Nat}:iq (.map r)=[.map r]:=Eq.trans rfl rfl
theorem Gz {t:TypeId} {v:Value}:iq (.iface t v)=[.iface t v]:=Eq.trans rfl rfl
theorem Q7 {cs:List Value} {off:Nat}:iO cs off []=cs:=Eq.trans rfl rfl
theorem Pn {cs vs:List Value} {v:Value} {off:Nat}:iO cs off (v::vs)=iO (cs.set off v) (off+1) vs:=Eq.trans rfl rfl
theorem Po {b:Bool}:iM (.bool b)=true:=Eq.trans rfl rfl
theorem Q8 {k:IntKind} {x:Int}:iM (.int k x)=true:=Eq.trans rfl rfl
theorem Lr {a:Option Addr} {l c:Nat}:iM (.slice a l c)=true:=Eq.trans rfl rfl
end
end Go.AX
/- '==' of arrays and structs, over the abstract heap. -/
namespace Go.AX
open Go Go.RowKit
section
variable {P:Program} {H:AH}
theorem pX {β:Type} (g:β→(Option Bool×Unit)→Sem (ForInStep (Option Bool×Unit))) (t:β→Bool):∀ (l:List β),(∀ x∈l,∀ s,dZ P (g x s) H=some (if t x=true then .yield (none,()) else .done (some false,())))→
  dZ P (forIn l (none,()) g) H=some (if l.all t=true then (none,()) else (some false,()))
 | [],_=>rfl
 |x::l,hg=>by
  simp only[List.forIn_cons,bW,hg x (by simp),Option.bind_some,List.all_cons,Bool.and_eq_true]
  by_cases hx:t x=true
  ·simp only[hx,if_true,true_and]
   exact pX g t l (fun y hy=>hg y (by simp[hy]))
  ·simp[hx,cZ]
theorem Lu {t e len m sz:Nat} {xs ys:Array Value} {T:Nat→Bool} (hu:P.underlying t=some (.array len e)) (hs:(P.info? e).map (·.size)=some sz)
  (h:∀ i,i<len→∃ x y,dZ P (part e xs (i*sz)) H=some x∧dZ P (part e ys (i*sz)) H=some y∧dZ P (Op.equalIn m e x y) H=some (T i)) :
  dZ P (Op.equalIn (m+1) t (.agg xs) (.agg ys)) H=some ((List.range len).all T):=by
 simp only[Op.equalIn,bW,bT,hu,Option.bind_some,gU,hs]
 rw[Std.Legacy.Range.forIn_eq_forIn_range']
 rw[pX (t:=T)]
 ·have e:(List.range' [:len].start [:len].size [:len].step).all T=(List.range len).all T:=by simp[Std.Legacy.Range.size,List.range_eq_range']
  simp only[Option.bind_some,e]
  cases (List.range len).all T<;>rfl
 ·intro i hi s
  have hi':i<len:=by simpa [Std.Legacy.Range.size]using hi
  obtain⟨x,y,h1,h2,h3⟩:=h i hi'
  simp only[bW,h1,h2,h3,Option.bind_some]
  cases T i<;>rfl
theorem uM {t m:Nat} {fs:Array Field} {xs ys:Array Value} {T:Field→Bool} (hu:P.underlying t=some (.struct fs)) (hst:P.stoodInHeld t=false)
  (h:∀ f∈fs.toList,f.name≠"_"∧∃ x y,dZ P (part f.type xs f.offset) H=some x∧dZ P (part f.type ys f.offset) H=some y∧dZ P (Op.equalIn m f.type x y) H=some (T f)) :
  dZ P (Op.equalIn (m+1) t (.agg xs) (.agg ys)) H=some (fs.toList.all T):=by
 simp only[Op.equalIn,bW,bT,hu,Option.bind_some,rY,hst,Bool.false_eq_true,if_false]
 rw[←Array.forIn_toList]
 rw[pX (t:=T)]
 ·cases fs.toList.all T<;>rfl
 ·intro f hf s
  obtain⟨hn,x,y,h1,h2,h3⟩:=h f hf
  simp only[hn,if_true,ne_eq,not_false_eq_true,bW,h1,h2,h3,Option.bind_some]
  cases T f<;>rfl
theorem fU {e i:Nat} {cs:List Value} {v:Value} (ha:gJ (P.underlying e)=some false) (h:cs[i]?=some v):dZ P (part e cs.toArray i) H=some v:=by
 simp only[part,bW,rZ,ha,Option.bind_some,Bool.false_eq_true,if_false,List.getElem?_toArray,h,cZ]
theorem xX {op:BinOp} {t:TypeId} {x y:Operand} {xs ys:Array Value} (hg:P.eqGuardType P.depth t=false):dZ P (eqGuard op t x y (.agg xs) (.agg ys)) H=some ():=by
 cases op<;>simp[eqGuard,bW,cZ,rY,hg]
theorem VO {e:TypeId} {n:Nat} (h:P.cellsOf e=n) (hn:n≠0):(P.info? e).map (·.size)=some n:=by
 subst h;exact nJ hn
end
end Go.AX
/- The engine: an element, a field, a part of a slice, of an array, of a string; frames and rows at a loop's head. -/
namespace Go.AX
open Go Go.RowKit
section
variable {P:Program} {H:AH}
theorem qM {α:Type} (k:IntKind) (x y:Int) (c:BoundsCode):dZ P (boundsPanic k x y c:Sem α) H=none:=by
 unfold boundsPanic
 split<;>rfl
def bnd (d:Nat) (o:Option Value) (y:Nat) (k:Nat→Prop) (_t:Lk k:=.mk):Prop:=
 match o with
 |none=>k d
 |some (.int _ i)=>0≤i∧i≤y∧k i.toNat
 |_=>False
theorem Q9 {d y:Nat} {k:Nat→Prop}:bnd d none y k=k d:=Eq.trans rfl rfl
theorem Ny {d y:Nat} {kd:IntKind} {i:Int} {k:Nat→Prop}:bnd d (some (.int kd i)) y k=(0≤i∧i≤y∧k i.toNat):=Eq.trans rfl rfl
theorem Bf {kd:IntKind} {i:Int} {y:Nat} {c:BoundsCode}:dZ P (Instr.sliceBound (.int kd i) y c) H=if 0≤i∧i≤y then some i.toNat else none:=by
 simp only[Instr.sliceBound,asIntOf,bW,cZ,Option.bind_some]
 split
 ·rfl
 ·exact qM _ _ _ _
theorem lJ {v:Value} {y:Nat} {c:BoundsCode} {k:Nat→Prop} {d:Nat}:wo (dZ P (Instr.sliceBound v y c) H) k=bnd d (some v) y k:=by
 cases v
 case int kd i=>
  rw[Bf,Ny]
  by_cases hh:0≤i∧i≤y
  ·simp[hh,wo]
  ·simp only[hh,if_false,wo]
   simp only[←and_assoc,hh,false_and]
 case pointer a=>simp only[Instr.sliceBound,asIntOf,bW];cases a<;>rfl
 all_goals rfl
theorem qN {α β:Type} (o:Option α) (f:α→Option β) (k:β→Prop):wo (o.bind f) k=wo o fun a=>wo (f a) k:=by cases o<;>rfl
theorem pY {s:Bool} {len cap:Nat} {lo hi:Option Value} {k:Nat×Nat×Nat→Prop} :
  wo (dZ P (Instr.sliceBounds s len cap lo hi none) H) k=bnd len hi cap fun h=>bnd 0 lo h fun l=>k (l,h,cap):=by
 have e:∀ (x:Nat),wo (dZ P (do
   let l←match lo with
    |some v=>Instr.sliceBound v x (if (none:Option Value).isSome then .slice3C else .sliceB)
    |none=>pure 0
   pure (l,x,cap)) H) k=bnd 0 lo x fun l=>k (l,x,cap):=by
  intro x
  cases lo with
  |none=>rfl
  |some v=>simp only[bW,qN];exact lJ
 unfold Instr.sliceBounds
 cases hi with
 |none=>exact e len
 |some v=>
  simp only[bW,cZ,Option.bind_some,qN]
  have e':=fun x=>(by have:=e x;simp only[bW,qN]at this;exact this)
  refine Eq.trans ?_ (lJ (P:=P) (H:=H) (c:=if s then .sliceAcap else .sliceAlen))
  exact congrArg (fun k=>wo (dZ P (Instr.sliceBound v cap (if s then .sliceAcap else .sliceAlen)) H) k) (funext fun x=>e' x)
theorem Ci {t n e b o:Nat} {lo hi:Option Value} {K:Value→Prop} (hu:P.underlying t=some (.array n e)) (hz:P.cellsOf e≠0) :
  jC P H (Instr.sliceAt t (.pointer (some ⟨b,o,none⟩)) lo hi none) K=bnd n hi n fun h=>bnd 0 lo h fun l=>nv (.slice (some ⟨b,if n=l then o else o+l*P.cellsOf e,none⟩) (h - l) (n - l)) K:=by
 unfold jC
 simp only[Instr.sliceAt,bW,bT,hu,Option.bind_some,Instr.sureAddr,cZ,qN]
 rw[pY]
 exact congrArg (fun k=>bnd n hi n k) (funext fun h=>congrArg (fun k=>bnd 0 lo h k) (funext fun l=>by
  by_cases hh:n=l<;>simp[hh,gU,nJ hz,wo,add_plain]))
theorem jV {t e b o len cap:Nat} {lo hi:Option Value} {K:Value→Prop} (hu:P.underlying t=some (.slice e)) (hz:P.cellsOf e≠0) :
  jC P H (Instr.sliceAt t (.slice (some ⟨b,o,none⟩) len cap) lo hi none) K=bnd len hi cap fun h=>bnd 0 lo h fun l=>nv (.slice (some ⟨b,if cap=l then o else o+l*P.cellsOf e,none⟩) (h - l) (cap - l)) K:=by
 unfold jC
 simp only[Instr.sliceAt,Instr.slice,bW,bT,hu,Option.bind_some,Instr.sureAddr,cZ,qN]
 rw[pY]
 exact congrArg (fun k=>bnd len hi cap k) (funext fun h=>congrArg (fun k=>bnd 0 lo h k) (funext fun l=>by
  by_cases hh:cap=l<;>simp[hh,gU,nJ hz,wo,add_plain]))
theorem vU {t e len cap:Nat} {a:Option Addr} {hi mx:Value} {K:Value→Prop} (hu:P.underlying t=some (.slice e)) (hz:P.cellsOf e≠0) :
  jC P H (Instr.sliceAt t (.slice a len cap) none (some hi) (some mx)) K=bnd cap (some mx) cap fun m=>bnd len (some hi) m fun h=>nv (.slice a h m) K:=by
 unfold jC
 simp only[Instr.sliceAt,Instr.slice,bW,bT,hu,Option.bind_some,Instr.sliceBounds,qN,lJ]
 rw[lJ]
 refine congrArg (fun k=>bnd cap (some mx) cap k) (funext fun m=>?_)
 simp only[qN]
 rw[lJ]
 refine congrArg (fun k=>bnd len (some hi) m k) (funext fun h=>?_)
 have e0:∀ a:Addr,a.add 0=a:=fun a=>rfl
 by_cases hm:m=0<;>simp[hm,cZ,gU,nJ hz,wo,nv,e0]
theorem uN {t e len cap:Nat} {lo hi:Option Value} {K:Value→Prop} (hu:P.underlying t=some (.slice e)) (hz:P.cellsOf e≠0) :
  jC P H (Instr.sliceAt t (.slice none len cap) lo hi none) K=bnd len hi cap fun h=>bnd 0 lo h fun l=>nv (.slice none (h - l) (cap - l)) K:=by
 unfold jC
 simp only[Instr.sliceAt,Instr.slice,bW,bT,hu,Option.bind_some,Instr.sureAddr,cZ,qN]
 rw[pY]
 exact congrArg (fun k=>bnd len hi cap k) (funext fun h=>congrArg (fun k=>bnd 0 lo h k) (funext fun l=>by
  by_cases hh:cap=l<;>simp[hh,gU,nJ hz,wo,add_plain]))
theorem Cj {t:Nat} {s:ByteArray} {k:IntKind} {i:Int} {K:Value→Prop} (hu:P.underlying t=some .string) :
  jC P H (Instr.index t (.string s) (.int k i)) K=(0≤i∧wo s[i.toNat]? fun b=>nv (.int .u8 b.toNat) K):=by
 unfold jC
 simp only[Instr.index,asIntOf,bW,cZ,Option.bind_some,bT,hu]
 by_cases h:0≤i
 ·simp only[h,if_true,true_and]
  cases s[i.toNat]? with
  |none=>simp[wo,qM]
  |some b=>simp[wo,cZ]
 ·simp[h,wo,qM]
theorem Cm {t n e:Nat} {cs:Array Value} {k:IntKind} {i:Int} {K:Value→Prop} (hu:P.underlying t=some (.array n e)) (hz:P.cellsOf e≠0) (ha:gJ (P.underlying e)=some false) :
  jC P H (Instr.index t (.agg cs) (.int k i)) K=(0≤i∧i<n∧wo cs[i.toNat*P.cellsOf e]? fun v=>nv v K):=by
 unfold jC
 simp only[Instr.index,asIntOf,bW,cZ,Option.bind_some,bT,hu]
 by_cases h:0≤i∧i<n
 ·simp only[h,and_self,if_true,true_and,bW,gU,nJ hz,Option.map_some,Option.bind_some,part,rZ,ha,Bool.false_eq_true,if_false]
  cases cs[i.toNat*P.cellsOf e]?<;>rfl
 ·simp only[h,if_false,qM,wo]
  simp only[←and_assoc,h,false_and]
theorem LC {t i:Nat} {fs:Array Field} {f:Field} {cs:Array Value} {K:Value→Prop} (hu:P.underlying t=some (.struct fs)) (hf:fs[i]?=some f) (ha:gJ (P.underlying f.type)=some false) :
  jC P H (Instr.field t (.agg cs) i) K=wo cs[f.offset]? fun v=>nv v K:=by
 unfold jC
 simp only[Instr.field,bW,cZ,Option.bind_some,bT,hu,hf,asAgg,part,rZ,ha,Bool.false_eq_true,if_false]
 cases cs[f.offset]?<;>rfl
theorem Pq {t i off sz:Nat} {g:Bool} (h:U0 P t i=some (off,sz,g)):∃ fs f,P.underlying t=some (.struct fs)∧fs[i]?=some f∧gJ (P.underlying f.type)=some g∧f.offset=off∧P.cellsOf f.type=sz:=by
 unfold U0 at h
 split at h
 ·rename_i fs hu
  obtain⟨f,hf,h⟩:=Option.bind_eq_some_iff.1 h
  obtain⟨a,ha,h⟩:=Option.map_eq_some_iff.1 h
  simp only[Prod.mk.injEq]at h
  obtain⟨h1,h2,rfl⟩:=h
  exact⟨fs,f,hu,hf,ha,h1,h2⟩
 ·cases h
theorem IU {t i off sz:Nat} {cs:Array Value} {K:Value→Prop} (h:U0 P t i=some (off,sz,false)):jC P H (Instr.field t (.agg cs) i) K=wo cs[off]? fun v=>nv v K:=by
 obtain⟨fs,f,hu,hf,ha,h1,h2⟩:=Pq h
 rw[LC hu hf ha,h1]
end
theorem CB:∀ (vs cs:List Value) (o j:Nat),o+vs.length≤cs.length→(iO cs o vs)[j]?=if o≤j∧j<o+vs.length then vs[j - o]? else cs[j]?
 | [],cs,o,j,_=>by simp[iO];intro h1 h2;omega
 |v::vs,cs,o,j,h=>by
  simp only[List.length_cons]at h
  simp only[iO]
  rw[CB vs _ _ _ (by simp;omega)]
  by_cases h1:o+1≤j∧j<o+1+vs.length
  ·rw[if_pos h1,if_pos (by simp;omega),show j - o=(j - (o+1))+1 from by omega];rfl
  ·rw[if_neg h1]
   by_cases h2:j=o
   ·subst h2
    simp[List.getElem?_set,show j<cs.length from by omega]
   ·rw[List.getElem?_set_ne (Ne.symm h2),if_neg (by simp;omega)]
theorem Pv {vs cs:List Value} (h:vs.length=cs.length):iO cs 0 vs=vs:=by
 apply List.ext_getElem?
 intro j
 rw[CB vs cs 0 j (by omega)]
 by_cases h1:j<vs.length
 ·simp[h1]
 ·simp only[Nat.zero_le,true_and,Nat.zero_add,h1,if_false]
  rw[List.getElem?_eq_none (by omega),List.getElem?_eq_none (by omega)]
theorem LD (l:List Bool):(l.map Value.bool).all iM=true:=by simp[iM]
theorem bZ.nil (f:Fr):bZ [] f:=fun t v h=>by cases h
theorem bZ.cons {t:Nat} {v:Value} {r f:Fr} (h:qC t f=some v) (hr:bZ r f):bZ ((t,v)::r) f:=by
 intro t' v' h'
 rw[nV]at h'
 split at h'
 ·rename_i e;subst e;cases h';exact h
 ·exact hr t' v' h'
def lks (f:Fr):Fr→Prop
 | []=>True
 |(t,v)::r=>qC t f=some v∧lks f r
theorem VP {f:Fr}:lks f []=True:=Eq.trans rfl rfl
theorem Rf {f r:Fr} {t:Nat} {v:Value}:lks f ((t,v)::r)=(qC t f=some v∧lks f r):=Eq.trans rfl rfl
theorem bZ.aS {f:Fr}:∀ {r:Fr},lks f r→bZ r f
 | [],_=>bZ.nil f
 |(_,_)::_,h=>bZ.cons h.1 (bZ.aS h.2)
end Go.AX
