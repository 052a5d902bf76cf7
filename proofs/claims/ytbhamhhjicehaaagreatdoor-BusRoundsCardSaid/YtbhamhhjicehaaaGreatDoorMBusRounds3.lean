/- Texts of mine, one behind another. -/
import Derived.Test.YtbhamhhjicehaaaGreatDoorMBusRounds2
import Derived.RangeFuncNested
import Derived.RangeFuncBound
import Derived.RangeFuncCalls
import Derived.RangeFuncLeaves
import Derived.RangeFuncFrom
import Derived.Shelf.Abstract
import Derived.Shelf.RegionOpen
import Derived.WalkKit
import Derived.OwnWalkIn
import Derived.TacticsInMore
import Derived.LoopNIn
import Derived.LoopIn
import Derived.Test.YtbhamhhjicehaaaGreatDoorProg
import Derived.Deep.Slices
import Derived.ProofKit
import Derived.OpenShut
import Derived.SizedLaws
import Derived.Lib.SmallJoins
set_option linter.unusedSimpArgs false
set_option linter.unusedVariables false
set_option maxRecDepth 10000
/- file: Good, Same, and their references: what each comes to. -/
namespace Go.Proofs.YtbhamhhjicehaaaGreatDoor.File
open Go Go.AX Go.Proofs Ty
set_option maxHeartbeats 4000000
def iG (perm:Int) (R:List Rc):Bool:=match R with
 | []=>false
 |r::l=>decide (0≤perm)&&decide (perm≤7)&&decide (l.length<256)&&decide (r=hd perm l.length)
theorem Fh {perm:Int} {R:List Rc} (h:perm<0∨7<perm):iG perm R=false:=by
 unfold iG
 split
 ·rfl
 ·rcases h with h | h
  ·rw[decide_eq_false (p:=0≤perm) (by omega)];simp
  ·rw[decide_eq_false (p:=perm≤7) (by omega)];simp
theorem sQ (perm:Int) (R:List Rc) (base:Option Addr) (cap:Nat) (H:AH) (hs:bG H 4 base cap (R.map enc)) :
  aO Tryz.prog 55 #[fv perm base R.length cap] H (fun v H'=>v=.bool (iG perm R)∧H=H'):=by
 have hbig:=hs.big
 simp only[List.length_map]at hbig
 unfold fv
 refine aO.cu Tryz.func55 rfl Tryz.ntmps55 Tryz.results55 (by simp) ?_;simp -dsimp(maxSteps:=4000000) only[go_sem]
 refine bY.mk fun b1 iy=>?_;have aP:=iy;(try simp only[ah,aj,ne_eq]at aP);have aY:=aP;(try simp only[@eq_comm Nat b1]at aY);simp -dsimp(maxSteps:=4000000) only[aP,aY,go_sem]
 refine fZ.gen [.pu,.rd,.pu,.pu,.pu,.rd,.pu,.pu,.pu,.pu,.pu,.pu,.pu,.pu,.pu,.pu,.pu,.pu,.rd,.pu,.rd,.pu,.rd,.pu,.pu,.ch,.pu,.pu,.pu] [0,1,3,7,15,31,63,127,255,511,1023,2047,4095,8191,16383,32767,65535,131071,262143,524287,1048575,131071,2228223,131071,8519679,31588351,67108863,134217727,268435455] 26 (_) mixed (by kernel_rfl) (AH.le_refl _) ?_
 by_cases a:0≤perm
 ·by_cases b:perm≤7
  ·cases R with
   |nil=>
    simp -dsimp(maxSteps:=4000000) only[a,b,List.length_nil,Int.natCast_zero,aP,aY,go_sem]
    exact⟨H,(AH.aK (AH.le_refl _) ((by simp only[ah,aj,ne_eq,aP,not_false_eq_true,and_self]:aG _ b1).2)),(by first | exact⟨rfl,rfl⟩ | rfl)⟩
   |cons r l=>
    obtain⟨b_,o,rfl,hrow,_⟩:=hs.get (r:=enc r) (i:=0) rfl
    rw[Nat.zero_mul,Nat.add_zero]at hrow
    have n1:=iy.iP hrow
    simp only[List.length_cons]at hbig
    have c1:(1:Int)≤((l.length+1:Nat):Int):=by omega
    have c0:(0:Int)<((l.length+1:Nat):Int):=by omega
    have e1:IntKind.i64.wrap (((l.length+1:Nat):Int) - 1)=(l.length:Int):=by rw[eH (by omega) (by omega)];omega
    by_cases c:l.length<256
    ·have c':((l.length+1:Nat):Int)≤256:=by omega
     simp -dsimp(maxSteps:=4000000) only[a,b,List.length_cons,c1,c0,c',n1,hrow,e1,AH.le_refl,aP,aY,go_sem]
     refine(Df perm l.length _).mono ?_;rintro _ _ ⟨rfl,rfl⟩
     simp -dsimp(maxSteps:=4000000) only[a,b,c1,c',XY,AH.le_refl,aP,aY,go_sem]
     exact⟨H,(AH.aK (AH.le_refl _) ((by simp only[ah,aj,ne_eq,aP,not_false_eq_true,and_self]:aG _ b1).2)),(by first | exact⟨by simp[iG,a,b,c],rfl⟩ | rfl)⟩
    ·have c':¬ ((l.length+1:Nat):Int)≤256:=by omega
     simp -dsimp(maxSteps:=4000000) only[a,b,List.length_cons,c1,c',e1,AH.le_refl,aP,aY,go_sem]
     exact⟨H,(AH.aK (AH.le_refl _) ((by simp only[ah,aj,ne_eq,aP,not_false_eq_true,and_self]:aG _ b1).2)),(by first | exact⟨by simp[iG,c],rfl⟩ | rfl)⟩
  ·simp -dsimp(maxSteps:=4000000) only[a,b,aP,aY,go_sem]
   exact⟨H,(AH.aK (AH.le_refl _) ((by simp only[ah,aj,ne_eq,aP,not_false_eq_true,and_self]:aG _ b1).2)),(by first | exact⟨by unfold iG;split<;>simp[b],rfl⟩ | rfl)⟩
 ·simp -dsimp(maxSteps:=4000000) only[a,aP,aY,go_sem]
  exact⟨H,(AH.aK (AH.le_refl _) ((by simp only[ah,aj,ne_eq,aP,not_false_eq_true,and_self]:aG _ b1).2)),(by first | exact⟨by unfold iG;split<;>simp[a],rfl⟩ | rfl)⟩
theorem jX (perm:Int) (R:List Rc) (base:Option Addr) (cap:Nat) (H:AH) (hs:bG H 4 base cap (R.map enc)) :
  aO Tryz.prog 53 #[fv perm base R.length cap] H (fun v H'=>v=.bool (iG perm R)∧H=H'):=by
 have hbig:=hs.big
 simp only[List.length_map]at hbig
 unfold fv
 refine aO.cu Tryz.func53 rfl Tryz.ntmps53 Tryz.results53 (by simp) ?_;simp -dsimp(maxSteps:=4000000) only[go_sem]
 refine bY.mk fun b1 iy=>?_;have aP:=iy;(try simp only[ah,aj,ne_eq]at aP);have aY:=aP;(try simp only[@eq_comm Nat b1]at aY);simp -dsimp(maxSteps:=4000000) only[aP,aY,go_sem]
 by_cases a:perm<0
 ·simp -dsimp(maxSteps:=4000000) only[a,aP,aY,go_sem]
  exact⟨H,(AH.aK (AH.le_refl _) ((by simp only[ah,aj,ne_eq,aP,not_false_eq_true,and_self]:aG _ b1).2)),(by first | exact⟨by rw[Fh (.inl a)],rfl⟩ | rfl)⟩
 by_cases b:7<perm
 ·simp -dsimp(maxSteps:=4000000) only[a,b,aP,aY,go_sem]
  exact⟨H,(AH.aK (AH.le_refl _) ((by simp only[ah,aj,ne_eq,aP,not_false_eq_true,and_self]:aG _ b1).2)),(by first | exact⟨by rw[Fh (.inr b)],rfl⟩ | rfl)⟩
 cases R with
 |nil=>
  simp -dsimp(maxSteps:=4000000) only[a,b,List.length_nil,Int.natCast_zero,aP,aY,go_sem]
  exact⟨H,(AH.aK (AH.le_refl _) ((by simp only[ah,aj,ne_eq,aP,not_false_eq_true,and_self]:aG _ b1).2)),(by first | exact⟨rfl,rfl⟩ | rfl)⟩
 |cons r l=>
  obtain⟨b_,o,rfl,hrow,_⟩:=hs.get (r:=enc r) (i:=0) rfl
  rw[Nat.zero_mul,Nat.add_zero]at hrow
  have n1:=iy.iP hrow
  simp only[List.length_cons]at hbig
  have c1:¬ ((l.length+1:Nat):Int)=0:=by omega
  have c0:(0:Int)<((l.length+1:Nat):Int):=by omega
  have e1:IntKind.i64.wrap (((l.length+1:Nat):Int) - 1)=(l.length:Int):=by rw[eH (by omega) (by omega)];omega
  have a':0≤perm:=by omega
  have b':perm≤7:=by omega
  by_cases c:l.length<256
  ·have c':¬ (256:Int)<((l.length+1:Nat):Int):=by omega
   simp -dsimp(maxSteps:=4000000) only[a,b,List.length_cons,c1,c0,c',n1,hrow,e1,aP,aY,go_sem]
   refine fZ.gen [.pu,.rd,.pu,.rd,.pu,.rd,.pu,.rd,.pu,.pu,.ch,.pu,.pu] [0,1,3,7,0,16,0,64,192,448,1008,2047,4095] 11 (_) mixed (by kernel_rfl) (AH.le_refl _) ?_
   simp -dsimp(maxSteps:=4000000) only[List.length_cons,c0,n1,hrow,e1,aP,aY,go_sem]
   refine(I9 perm l.length _).mono ?_;rintro _ _ ⟨rfl,rfl⟩
   simp -dsimp(maxSteps:=4000000) only[XY,aP,aY,go_sem]
   exact⟨H,(AH.aK (AH.le_refl _) ((by simp only[ah,aj,ne_eq,aP,not_false_eq_true,and_self]:aG _ b1).2)),(by first | exact⟨by simp[iG,a',b',c],rfl⟩ | rfl)⟩
  ·have c':(256:Int)<((l.length+1:Nat):Int):=by omega
   simp -dsimp(maxSteps:=4000000) only[a,b,List.length_cons,c1,c',aP,aY,go_sem]
   exact⟨H,(AH.aK (AH.le_refl _) ((by simp only[ah,aj,ne_eq,aP,not_false_eq_true,and_self]:aG _ b1).2)),(by first | exact⟨by simp[iG,c],rfl⟩ | rfl)⟩
def yB (p q:Int) (R S:List Rc):Bool:=decide (p=q∧R=S)
theorem Zk {R S:List Rc} {i:Nat} (hl:R.length=S.length) (hi:R.length≤i) (h:∀ j,j<i→R[j]?=S[j]?):R=S:=by
 apply List.ext_getElem?
 intro j
 by_cases hj:j<i
 ·exact h j hj
 ·rw[List.getElem?_eq_none (by omega),List.getElem?_eq_none (by omega)]
theorem PG (p q:Int) (R S:List Rc) (b1 b2:Option Addr) (c1 c2:Nat) (H:AH) (hs:bG H 4 b1 c1 (R.map enc)) (ht:bG H 4 b2 c2 (S.map enc)) :
  aO Tryz.prog 43 #[fv p b1 R.length c1,fv q b2 S.length c2] H (fun v H'=>v=.bool (yB p q R S)∧H=H'):=by
 have hbig:=hs.big
 simp only[List.length_map]at hbig
 unfold fv
 refine aO.cu Tryz.func43 rfl Tryz.ntmps43 Tryz.results43 (by simp) ?_;simp -dsimp(maxSteps:=4000000) only[go_sem]
 refine bY.mk fun b3 lD=>?_;have eG:=lD;(try simp only[ah,aj,ne_eq]at eG);have fM:=eG;(try simp only[@eq_comm Nat b3]at fM);simp -dsimp(maxSteps:=4000000) only[eG,fM,go_sem]
 refine bY.mk fun b4 jr=>?_;have aT:=jr;(try simp only[ah,aj,ne_eq]at aT);have aX:=aT;(try simp only[@eq_comm Nat b4]at aX);simp -dsimp(maxSteps:=4000000) only[eG,fM,aT,aX,go_sem]
 by_cases a:p=q
 ·subst a
  by_cases hl:R.length=S.length
  ·have hl':(S.length:Int)=(R.length:Int):=by omega
   simp -dsimp(maxSteps:=4000000) only[hl',eG,fM,aT,aX,go_sem]
   refine fZ.gQ (ι:=Nat) (fun i=>i≤R.length∧∀ j,j<i→R[j]?=S[j]?) (fun i=>[(5,.int .i64 i),(2,.pointer (some ⟨b3,0,none⟩)),(3,.pointer (some ⟨b4,0,none⟩))])
    (fun _=>(H.add b3 (.cells [.int .i64 p,.slice b1 R.length c1] 65 2)).add b4 (.cells [.int .i64 p,.slice b2 S.length c2] 65 2)) (fun i=>R.length - i) 0 ⟨by omega,fun j hj=>by omega⟩ (bZ.aS ?_) (AH.le_refl _) fun i hi Q again out=>?_
   ·simp -dsimp(maxSteps:=4000000) only[eG,fM,aT,aX,go_sem]
   ·obtain⟨hi,hall⟩:=hi
    by_cases h:(i:Int)<R.length
    ·obtain⟨r,hr⟩:=get_some (l:=R) (i:=i) (by omega)
     obtain⟨s,hsi⟩:=get_some (l:=S) (i:=i) (by omega)
     obtain⟨b,o,rfl,hrow,_⟩:=hs.get (dn (f:=enc) hr)
     obtain⟨b',o',rfl,hrow',_⟩:=ht.get (dn (f:=enc) hsi)
     have e1:=dA (i:=i) (by omega)
     have n1:=lD.iP hrow
     have n2:=lD.iP hrow'
     have n3:=jr.iP (xZ lD hrow)
     have n4:=jr.iP (xZ lD hrow')
     have h2:(i:Int)<S.length:=by omega
     simp -dsimp(maxSteps:=4000000) only[h,eG,fM,aT,aX,go_sem]
     refine fZ.quiet mixed (by kernel_rfl) ?_
     by_cases e:r=s
     ·simp -dsimp(maxSteps:=4000000) only[h,h2,hrow,hrow',n1,n2,n3,n4,XZ,e,e1,eG,fM,aT,aX,go_sem]
      refine again (i+1) _ _ ⟨by omega,fun j hj=>?_⟩ (bZ.aS (by simp -dsimp(maxSteps:=4000000) only[eG,fM,aT,aX,go_sem])) (AH.le_refl _) (by omega)
      by_cases hji:j=i
      ·subst hji;rw[hr,hsi,e]
      ·exact hall j (by omega)
     ·simp -dsimp(maxSteps:=4000000) only[h,h2,hrow,hrow',n1,n2,n3,n4,XZ,e,eG,fM,aT,aX,go_sem]
      refine out _ _ _ (by simp) ?_
      simp -dsimp(maxSteps:=4000000) only[eG,fM,aT,aX,go_sem]
      exact⟨H,(AH.aK (AH.aK (AH.le_refl _) ((by simp only[ah,aj,ne_eq,eG,not_false_eq_true,and_self]:aG _ b3).2)) ((by simp only[ah,aj,ne_eq,aT,not_false_eq_true,and_self]:aG _ b4).2)),(by first | exact⟨by rw[yB,decide_eq_false];rintro⟨_,hx⟩;subst hx;rw[hr]at hsi;cases hsi;exact e rfl,rfl⟩ | rfl)⟩
    ·simp -dsimp(maxSteps:=4000000) only[h,eG,fM,aT,aX,go_sem]
     refine out _ _ _ (by simp) ?_
     simp -dsimp(maxSteps:=4000000) only[eG,fM,aT,aX,go_sem]
     exact⟨H,(AH.aK (AH.aK (AH.le_refl _) ((by simp only[ah,aj,ne_eq,eG,not_false_eq_true,and_self]:aG _ b3).2)) ((by simp only[ah,aj,ne_eq,aT,not_false_eq_true,and_self]:aG _ b4).2)),(by first | exact⟨by rw[yB,decide_eq_true ⟨rfl,Zk hl (by omega) hall⟩],rfl⟩ | rfl)⟩
  ·have hl':¬ (R.length:Int)=(S.length:Int):=by omega
   simp -dsimp(maxSteps:=4000000) only[hl',eG,fM,aT,aX,go_sem]
   exact⟨H,(AH.aK (AH.aK (AH.le_refl _) ((by simp only[ah,aj,ne_eq,eG,not_false_eq_true,and_self]:aG _ b3).2)) ((by simp only[ah,aj,ne_eq,aT,not_false_eq_true,and_self]:aG _ b4).2)),(by first | exact⟨by simp[yB];intro hx;subst hx;exact hl rfl,rfl⟩ | rfl)⟩
 ·simp -dsimp(maxSteps:=4000000) only[a,eG,fM,aT,aX,go_sem]
  exact⟨H,(AH.aK (AH.aK (AH.le_refl _) ((by simp only[ah,aj,ne_eq,eG,not_false_eq_true,and_self]:aG _ b3).2)) ((by simp only[ah,aj,ne_eq,aT,not_false_eq_true,and_self]:aG _ b4).2)),(by first | exact⟨by simp[yB,a],rfl⟩ | rfl)⟩
end Go.Proofs.YtbhamhhjicehaaaGreatDoor.File
/- An append to a fresh empty slice: a copy. -/
namespace Go.AX
open Go Go.RowKit
theorem PI {H:AH} {b sz:Nat} {k:iD} {x:Value} {new:List Value} (hf:aG H b) (h:nC H sz x=some new):nC (H.add b k) sz x=some new:=by
 unfold nC at h ⊢
 split at h
 ·exact xZ hf h
 ·exact h
 ·exact h
 ·cases h
theorem lS.clone {P:Program} {H:AH} {t t2 e sz bt b m:Nat} {zs new:List Value} {x:Value} {k:Value→AH→Prop} (hE:uG P t=some (e,sz,zs,bt)) (hz:zs.length=sz) (hbt:bt≠0) (hni:Gv (P.underlying t2)=true)
  (hf:aG H b) (hx:slen x=some m) (hnew:nC H sz x=some new) (hsc:new.all iM=true) (hroom:(2*m+192)*bt≤281474976710656)
  (hk:∀ b' c' bs',aG H b'→m≤c'→c'*sz≤bs'→k (.slice (some ⟨b',0,none⟩) m c') (H.add b' (.cells new e bs'))):lS P (some t) (some t2) [.slice (some ⟨b,0,none⟩) 0 0,x] (H.add b (.cells [] e 0)) k:=by
 have ach:nC (H.add b (.cells [] e 0)) sz x=some new:=PI hf hnew
 have:=lS.acf (P:=P) (H:=H.add b (.cells [] e 0)) (t:=t) (t2:=t2) (e:=e) (sz:=sz) (bt:=bt) (b:=b) (n:=0) (cap:=0) (m:=m) (bs:=0) (zs:=zs) (cs:=[]) (new:=new) (x:=x) (k:=k) hE hz hbt hni (aH _ _ _) (by simp) (by simp) hx ach (Nat.le_refl _) hsc (by rw[Nat.zero_add];exact hroom) fun b' c' bs' HH hb hc hbs hHH=>by
  rw[yg,EY hf,List.nil_append]at hHH
  subst hHH
  rw[Nat.zero_add]at hc ⊢
  refine hk b' c' bs' ?_ hc hbs
  rcases hb with rfl | h
  ·exact hf
  ·exact aG.of_le (AH.aK (AH.le_refl _) hf.2) h
 exact this
theorem lS.zero {P:Program} {H:AH} {t t2 e sz bt n cap c:Nat} {zs:List Value} {base a:Option Addr} {k:Value→AH→Prop} (hE:uG P t=some (e,sz,zs,bt)) (hni:Gv (P.underlying t2)=true) (hnc:n≤cap) (hk:k (.slice base n cap) H) :
  lS P (some t) (some t2) [.slice base n cap,.slice a 0 c] H k:=fun ts ty h0 h1=>by
 obtain⟨hu,i,z,hi,hz,h1',h2,h3⟩:=pW hE
 obtain⟨u2,hu2⟩:∃ u,P.underlying t2=some u:=by cases hh:P.underlying t2 with
  |none=>rw[hh]at hni;cases hni
  |some u=>exact⟨u,rfl⟩
 suffices hm:dY P (Builtin.append_ ts ty #[.slice base n cap,.slice a 0 c]) H k by
  intro E w hs
  obtain⟨v,w',H',r1,r2,r5⟩:=lT P _ _ _ w hm hs
  refine⟨.value v,w',H',?_,r2,r5⟩
  show(Builtin.append_ ts ty #[.slice base n cap,.slice a 0 c] >>= fun v=>pure (Next.value v)).run P w=_
  simp only[Sem.run_bind,r1,Result.andThen_ok,Sem.run_pure]
 unfold Builtin.append_
 simp only[h0,h1]
 refine bP ((bT t).trans hu) ?_
 refine bP (a:=sz) (by rw[gU,hi,Option.map_some,h1']) ?_
 refine bP ((bT t2).trans hu2) ?_
 refine bP (a:=false) (by cases u2<;>first | rfl | (rw[hu2]at hni;cases hni)) ?_
 simp only[Bool.false_eq_true,if_false,Bool.not_false,if_true]
 refine bP (BX (n:=0) rfl) ?_
 rw[if_pos (by omega)]
 refine bP (a:=#[]) ?_ ?_
 ·cases a with
  |none=>simp[Builtin.firstCells,cZ]
  |some a=>simp only[Builtin.firstCells,Nat.zero_mul];rfl
 cases base with
 |none=>exact hk
 |some a=>exact hk
end Go.AX
/- The engine: copy, clear and delete; bytes as_ a string; an append of zeros to nothing. -/
namespace Go.AX
open Go Go.RowKit
section
variable {P:Program} {H:AH} {n d:Nat} {ds:List (Option Tmp)} {fr:Fr} {K:Fr→AH→Prop} {q:Bool} {ty:TypeId} {pos:String} {af:Array Edge} {rest:List Oper}
def UJ (P:Program) (ts:Array TypeId) (ty:TypeId) (as_:List Value) (H:AH) (k:Value→AH→Prop) (_t:Lk (k,H):=.mk):Prop:=nH P (do pure (.value (←Builtin.clear_ ts ty as_.toArray))) H k
theorem yC (xs:Array Operand) (f:Operand→Value):(xs.toList.map f).toArray=xs.map f:=by rw[←Array.toList_map,Array.toArray_toList]
theorem RN {xs:Array Operand} {ts:Array TypeId}:fG q P n ds (⟨none,.call { callee:=.builtin .clear,args:=xs,argTypes:=ts },ty,pos,af,none⟩::rest) fr H K=(q=false∧Bl fr xs.toList fun as_=>UJ P ts ty as_ H fun _ H'=>fG q P n ds rest fr H' K):=by
 apply propext
 constructor
 ·rintro⟨_,h2,_,h3,h4⟩
  refine⟨h3,by simpa [Op.operands,Call.operands]using h2,?_⟩
  show UJ P ts ty (xs.toList.map (kC fr)) H _
  unfold UJ
  rw[yC];exact h4
 ·rintro⟨h2,h3,h4⟩
  refine⟨rfl,by simpa [Op.operands,Call.operands]using h3,rfl,h2,?_⟩
  have h4:UJ P ts ty (xs.toList.map (kC fr)) H _:=h4
  unfold UJ at h4
  rw[yC]at h4;exact h4
attribute [go_sem ↓] RN
end
theorem PK {P:Program} {H H':AH} {b o:Nat} {vs:List Value} {K:Unit→AH→Prop} (hw:H.uH b o vs=some H') (hk:K () H'):dY P (storeCells ⟨b,o,none⟩ vs) H fun u A=>∃ B:AH,(∀ E w,Sat E A w→Sat E B w)∧K u B:=by
 unfold AH.uH at hw
 split at hw
 ·rename_i cs e sz hf
  split at hw
  ·rename_i hc
   cases hw
   refine oD P b _ vs o 0 H cs e sz hf hc.1 hc.2.1 hc.2.2 ?_
   by_cases hv:vs=[]
   ·subst hv
    simp only[if_true]
    refine⟨_,fun _ w hs=>hs.iU (H':=H.set b (.cells (iO cs o []) e sz)) rfl fun b'=>?_,hk⟩
    rw[dw]
    split
    ·rename_i h;subst h;rw[hf];rfl
    ·rfl
   ·simp only[if_neg hv]
    exact⟨_,fun _ _ h=>h,hk⟩
  ·cases hw
 ·cases hw
theorem UJ.row {P:Program} {H H':AH} {ts:Array TypeId} {ty t e sz bt b o n c:Nat} {zs:List Value} {k:Value→AH→Prop} (h0:ts[0]?=some t) (hE:uG P t=some (e,sz,zs,bt)) (hn:n≠0)
  (hw:H.uH b o (zf zs (n*sz))=some H') (hzl:zs.length=sz) (hk:k (.tuple #[]) H'):UJ P ts ty [.slice (some ⟨b,o,none⟩) n c] H k:=by
 obtain⟨hu,i,z,hi,hz,h1,h2,h3⟩:=pW hE
 suffices hm:dY P (Builtin.clear_ ts ty #[.slice (some ⟨b,o,none⟩) n c]) H (fun v A=>∃ B:AH,(∀ E w,Sat E A w→Sat E B w)∧k v B) by
  intro E w hs
  obtain⟨v,w',A,r1,r2,B,r3,r5⟩:=lT P _ _ _ w hm hs
  refine⟨.value v,w',B,?_,r3 _ _ r2,r5⟩
  show(Builtin.clear_ ts ty #[.slice (some ⟨b,o,none⟩) n c] >>= fun v=>pure (Next.value v)).run P w=_
  simp only[Sem.run_bind,r1,Result.andThen_ok,Sem.run_pure]
 unfold Builtin.clear_
 simp only[h0]
 refine bP ((bT t).trans hu) ?_
 obtain⟨n,rfl⟩:∃ n',n=n'+1:=⟨n - 1,by omega⟩
 have ez:(Builtin.zeroCells z.cells (n+1)).toList=zf zs ((n+1)*sz):=by
  rw[←h2]at hzl
  have hs:z.cells.size=sz:=by simpa using hzl
  subst hs
  simp only[Builtin.zeroCells,zf,←h2,Array.toList_map,Array.toList_range,Array.length_toList]
  refine List.map_congr_left fun i hi=>?_
  have hpos:0<z.cells.size:=by
   rcases Nat.eq_zero_or_pos z.cells.size with h | h
   ·rw[h]at hi;simp at hi
   ·exact h
  have hlt:=Nat.mod_lt i hpos
  rw[getElem!_pos z.cells _ hlt,getElem!_pos z.cells.toList _ (by simpa using hlt)]
  simp
 show dY P (zeroValue e >>= fun z=>storeCells ⟨b,o,none⟩ (Builtin.zeroCells z.cells (n+1)).toList >>= fun _=>pure (Value.tuple #[])) H _
 refine bP (iH hi hz) ?_
 rw[dO,ez]
 exact PK (K:=fun _ A=>k (.tuple #[]) A) hw hk
theorem UJ.none {P:Program} {H:AH} {ts:Array TypeId} {ty t e sz bt c:Nat} {a:Option Addr} {zs:List Value} {k:Value→AH→Prop} (h0:ts[0]?=some t) (hE:uG P t=some (e,sz,zs,bt)) (hk:k (.tuple #[]) H):UJ P ts ty [.slice a 0 c] H k:=by
 obtain⟨hu,i,z,hi,hz,h1,h2,h3⟩:=pW hE
 suffices hm:dY P (Builtin.clear_ ts ty #[.slice a 0 c]) H k by
  intro E w hs
  obtain⟨v,w',A,r1,r2,r5⟩:=lT P _ _ _ w hm hs
  refine⟨.value v,w',A,?_,r2,r5⟩
  show(Builtin.clear_ ts ty #[.slice a 0 c] >>= fun v=>pure (Next.value v)).run P w=_
  simp only[Sem.run_bind,r1,Result.andThen_ok,Sem.run_pure]
 unfold Builtin.clear_
 simp only[h0]
 refine bP ((bT t).trans hu) ?_
 cases a<;>exact hk
theorem lS.make {P:Program} {H:AH} {t t2 e sz bt m:Nat} {kd:IntKind} {zs:List Value} {k:Value→AH→Prop} (hE:uG P t=some (e,sz,zs,bt)) (hzl:zs.length=sz) (hsz:sz≠0) (hni:P.underlying t2=some (.int kd))
  (hm:m≠0) (hroom:(2*m+192)*bt≤281474976710656) (hbt:bt≠0)
  (hk:∀ b c,aG H b→m≤c→k (.slice (some ⟨b,0,none⟩) m c) (H.add b (.cells [] e (c*sz)))):lS P (some t) (some t2) [.slice none 0 0,.int .i64 m] H k:=fun ts ty h0 h1=>by
 obtain⟨hu,i,z,hi,hz,h1',h2,h3⟩:=pW hE
 have hbytes:dZ P (typeInfo e) H=some i:=by simp only[typeInfo,program,bW,dZ,Option.bind_some,hi,cZ]
 have hm2:2*m+192≤281474976710656:=Nat.le_trans (Nat.le_mul_of_pos_right _ (by omega)) hroom
 have hmb:m*bt≤281474976710656:=Nat.le_trans (Nat.mul_le_mul_right bt (show m≤2*m+192 by omega)) hroom
 have hmw:IntKind.i64.wrap (m:Int)=m:=eH (by omega) (by omega)
 suffices hm:dY P (Builtin.append_ ts ty #[.slice none 0 0,.int .i64 m]) H (fun v H'=>∃ H1:AH,(∀ E w,Sat E H' w→Sat E H1 w)∧k v H1) by
  intro E w hs
  obtain⟨v,w',H',r1,r2,H1,r3,r5⟩:=lT P _ _ _ w hm hs
  refine⟨.value v,w',H1,?_,r3 _ _ r2,r5⟩
  show(Builtin.append_ ts ty #[.slice none 0 0,.int .i64 m] >>= fun v=>pure (Next.value v)).run P w=_
  simp only[Sem.run_bind,r1,Result.andThen_ok,Sem.run_pure]
 unfold Builtin.append_
 simp only[h0,h1]
 refine bP ((bT t).trans hu) ?_
 refine bP (a:=sz) (by rw[gU,hi,Option.map_some,h1']) ?_
 refine bP ((bT t2).trans hni) ?_
 refine bP (a:=true) rfl ?_
 simp only[if_true,Bool.not_true,Bool.false_eq_true,if_false]
 refine bP (a:=(m:Int)) rfl ?_
 rw[hmw,if_neg (by omega)]
 refine bP hbytes ?_
 rw[if_neg (by
  have h48:(2:Int) ^ 48=281474976710656:=by decide
  rw[h48,h3,←Int.natCast_mul]
  generalize m*bt=x at hmb
  omega)]
 refine bP (a:=m) (by rw[Int.toNat_natCast];rfl) ?_
 rw[Nat.zero_add,if_neg (by omega)]
 refine bP hbytes ?_
 rw[if_neg (by
  rintro⟨h4,_⟩
  have:IntKind.i64.max=9223372036854775807:=rfl
  omega)]
 refine bP hbytes ?_
 have hnx:=BU (need:=m) (old:=0) (by omega)
 rw[if_neg (by
  rw[h3]
  have:=Nat.mul_le_mul_right bt hnx
  omega)]
 rw[dO]
 simp only[choose,dY,Question.forced,Bool.false_eq_true,if_false]
 intro tt
 have hcut:m≤(Question.appendCap m 0 e).cut tt:=by simp[Question.cut]
 generalize (Question.appendCap m 0 e).cut tt=c at hcut
 refine bP hbytes ?_
 have KY:∀ (x:Nat) (s2:Sem Value) (K:Value→AH→Prop),dY P s2 H K→dY P (askRoom x >>= fun _=>s2) H K:=fun x s2 K h=>by
  unfold askRoom
  split
  ·exact h
  ·exact h
 refine KY _ _ _ ?_
 refine bP (a:=#[]) rfl ?_
 rw[if_neg (by rw[Nat.mul_eq_zero];omega)]
 have hzs:z.cells.size=sz:=by rw[←hzl,←h2];simp
 rw[dO,dO]
 refine kV _ _ _ (iH hi hz) ?_
 show dY P (zeroValue e >>= _) H _
 refine bP (iH hi hz) ?_
 rw[dO]
 refine qL fun b hb=>?_
 have hk:=hk b c hb hcut
 refine⟨_,fun _ w hs=>Sat.pre (rest:=(#[]++Builtin.zeroCells z.cells m++Builtin.zeroCells z.cells (c - m)).toList) ?_,hk⟩
 have hsize:(#[]++Builtin.zeroCells z.cells m++Builtin.zeroCells z.cells (c - m)).size=c*sz:=by
  simp only[Builtin.zeroCells,Array.size_append,Array.size_map,Array.size_range,hzs,List.size_toArray,List.length_nil,Nat.zero_add]
  rw[←Nat.add_mul,show m+(c - m)=c from by omega]
 rw[←hsize]
 simpa using hs
theorem lS.growS {H0 H:AH} {e sz cap n m c:Nat} {base a:Option Addr} {R:List (List Value)} {P:Program} {t t2 bt:Nat} {zs:List Value} {k:Value→AH→Prop} {R':List (List Value)} (hO:fJ H0 H e sz base cap R) (hl:H0.le H) (hE:uG P t=some (e,sz,zs,bt)) (hz:zs.length=sz) (hsz:sz≠0) (hbt:bt≠0) (hni:Gv (P.underlying t2)=true)
  (hn:n=R.length) (hm:m=R'.length) (hs:bG H sz a c R') (hR':∀ r∈R',r.length=sz) (hsc:R'.flatten.all iM=true) (hroom:(2*(n+m)+192)*bt≤281474976710656)
  (hk:∀ base' cap' H',fJ H0 H' e sz base' cap' (R++R')→Keep H H' (GI base)→(∀ a,base'=some a→(∃ a',base=some a'∧a.block=a'.block)∨aG H a.block)→∃ H2,H2.le H'∧k (.slice base' (n+m) cap') H2) :
  lS P (some t) (some t2) [.slice base n cap,.slice a m c] H k:=by
 by_cases h:R'=[]∧a≠none
 ·obtain⟨rfl,_⟩:=h
  subst hm
  obtain⟨H2,h2,h3⟩:=hk base cap H (by rw[List.append_nil];exact hO) Keep.refl (fun a ha=>.inl ⟨a,ha,rfl⟩)
  intro ts ty h0 h1
  exact((lS.zero (k:=fun v H'=>∃ H2:AH,H2.le H'∧k v H2) hE hni (hn▸hO.le) ⟨H2,h2,h3⟩) ts ty h0 h1).post (fun v H' ⟨H2,h2,h3⟩=>⟨H2,fun _ _ hs=>hs.mono h2,h3⟩) (fun w nx w' h=>sF (α:=Unit) h)
 ·have h1:R'≠[]∨a=none:=by
   by_cases h2:R'=[]
   ·exact .inr (Classical.byContradiction fun h3=>h ⟨h2,h3⟩)
   ·exact .inl h2
  exact lS.nD hO hl hE hz hbt hni hn hm rfl (hs.nC hR' hsz hm h1) hR' hsc hroom hk
theorem bG.empty {H:AH} {sz cap:Nat} {base:Option Addr}:bG H sz base cap [] where
 le:=by simp
 big:=by simp
 at_:=fun i hi=>by simp at hi
 rd:=fun b o _ i j r c h=>by simp at h
 row:=fun b o _ i r h=>by simp at h
theorem bG.X3 {H:AH} {sz cap cap':Nat} {base:Option Addr} {R:List (List Value)} (h:bG H sz base cap R) (hc:R.length≤cap'):bG H sz base cap' R:=⟨hc,h.big,h.at_,h.rd,h.row⟩
theorem bG.past {A B:AH} {sz cap:Nat} {base:Option Addr} {R:List (List Value)} {ex:Nat→Prop} (h:bG A sz base cap R) (hn:R=[]∨∀ a,base=some a→¬ ex a.block) (hk:Keep A B ex):bG B sz base cap R:=by
 rcases hn with rfl | hn
 ·exact bG.empty
 ·exact h.keep hk hn
theorem bG.apart {H:AH} {sz cap bm:Nat} {base:Option Addr} {R:List (List Value)} (h:bG H sz base cap R) (hf:aG H bm):R=[]∨∀ a,base=some a→¬ a.block=bm:=by
 cases R with
 |nil=>exact .inl rfl
 |cons r R=>
  refine .inr fun a ha=>?_
  obtain⟨b,o,hb⟩:=h.at_ 0 (by simp)
  rw[hb]at ha;cases ha
  have:=h.row b o hb 0 r rfl
  exact fun e=>hf.iP this e.symm
theorem dG {α:Type} {l:List α} {i:Nat} {s:α} (h:l[i]?=some s):i<l.length:=by
 rcases Nat.lt_or_ge i l.length with h' | h'
 ·exact h'
 ·rw[List.getElem?_eq_none h']at h;cases h
theorem dn {α:Type} {f:α→List Value} {L:List α} {i:Nat} {s:α} (h:L[i]?=some s):(L.map f)[i]?=some (f s):=by rw[List.getElem?_map,h];rfl
theorem Keep.VZ {A:AH} {b1 b2:Nat} {k1 k2:iD} (h1:A.find b1=some k1) (h2:A.find b2=some k2) (hne:b2≠b1):Keep A ((((A.del b1).del b2).add b1 k1).add b2 k2) fun _=>False:=⟨rfl,fun b _ _=>by
 rw[dh,dh,iL,iL]
 by_cases e2:b=b2
 ·subst e2;rw[if_pos rfl,h2]
 ·rw[if_neg e2]
  by_cases e1:b=b1
  ·subst e1;rw[if_pos rfl,h1]
  ·rw[if_neg e1,if_neg e2,if_neg e1]⟩
theorem Keep.VY {A:AH} {b1:Nat} {k1:iD} (h1:A.find b1=some k1):Keep A ((A.del b1).add b1 k1) fun _=>False:=⟨rfl,fun b _ _=>by
 rw[dh,iL]
 by_cases e1:b=b1
 ·subst e1;rw[if_pos rfl,h1]
 ·rw[if_neg e1,if_neg e1]⟩
end Go.AX
/- file: bit, may, Clone, Clip. -/
namespace Go.Proofs.YtbhamhhjicehaaaGreatDoor.File
open Go Go.AX Go.Proofs Ty
set_option maxHeartbeats 4000000
def qF (op:Int):Int:=if op=0 then 1 else if op=1 then 2 else if op=2 then 4 else 0
theorem RP (op:Int) (H:AH):aO Tryz.prog 174 #[.int .i64 op] H (fun v H'=>v=.int .i64 (qF op)∧H=H'):=by
 refine aO.cu Tryz.func174 rfl Tryz.ntmps174 Tryz.results174 (by simp) ?_;simp -dsimp(maxSteps:=4000000) only[go_sem]
 by_cases a:op=0
 ·subst a
  simp -dsimp(maxSteps:=4000000) only[go_sem]
  exact⟨H,(AH.le_refl _),(by first | exact⟨rfl,rfl⟩ | rfl)⟩
 by_cases b:op=1
 ·subst b
  simp -dsimp(maxSteps:=4000000) only[go_sem]
  exact⟨H,(AH.le_refl _),(by first | exact⟨rfl,rfl⟩ | rfl)⟩
 by_cases c:op=2
 ·subst c
  simp -dsimp(maxSteps:=4000000) only[go_sem]
  exact⟨H,(AH.le_refl _),(by first | exact⟨rfl,rfl⟩ | rfl)⟩
 simp -dsimp(maxSteps:=4000000) only[a,b,c,go_sem]
 exact⟨H,(AH.le_refl _),(by first | exact⟨by simp[qF,a,b,c],rfl⟩ | rfl)⟩
def jJ (p:Int) (R:List Rc) (op rec:Int):Int:=
 if iG p R=false then 2 else if op<0∨2<op then 1 else if rec<0∨(R.length:Int)≤rec then 4 else
 if rec=0 then (if op=0 then 0 else 5) else if p / qF op % 2=0 then 5 else 0
theorem Bv {p:Int} {R:List Rc} (h:iG p R=true):0≤p∧p≤7∧R.length≠0∧R.length≤256:=by
 cases R with
 |nil=>simp[iG]at h
 |cons r l=>
  simp only[iG,Bool.and_eq_true,decide_eq_true_eq]at h
  simp only[List.length_cons]
  omega
theorem V3 {p op:Int} (h0:0≤p) (h1:p≤7) (a0:0≤op) (a1:op≤2):(jf .and .i64 p (qF op)=0)=(p / qF op % 2=0):=by
 have:∀ p:Fin 8,∀ o:Fin 3,(jf .and .i64 ((p.1:Nat):Int) (qF ((o.1:Nat):Int))=0)=(((p.1:Nat):Int) / qF ((o.1:Nat):Int) % 2=0):=by
  intro p o
  rw[eq_iff_iff]
  revert p o
  decide
 have:=this ⟨p.toNat,by omega⟩ ⟨op.toNat,by omega⟩
 simpa [Int.toNat_of_nonneg h0,Int.toNat_of_nonneg a0]using this
theorem Jc {op:Int} (h:op<0∨2<op):qF op=0:=by
 unfold qF
 rw[if_neg (by omega),if_neg (by omega),if_neg (by omega)]
theorem RQ {op:Int} (h:¬ (op<0∨2<op)):¬ qF op=0:=by
 unfold qF
 split
 ·decide
 ·split
  ·decide
  ·split
   ·decide
   ·omega
theorem X4 (p op rec:Int) (R:List Rc) (base:Option Addr) (cap:Nat) (H:AH) (hs:bG H 4 base cap (R.map enc)) :
  aO Tryz.prog 159 #[fv p base R.length cap,.int .i64 op,.int .i64 rec] H (fun v H'=>v=.int .i64 (jJ p R op rec)∧H=H'):=by
 unfold fv
 have hg:=fun H1 (h1:bG H1 4 base cap (R.map enc))=>sQ p R base cap H1 h1
 unfold fv at hg
 by_cases c0:rec=0
 ·subst c0
  refine aO.cu Tryz.func159 rfl Tryz.ntmps159 Tryz.results159 (by simp) ?_;simp -dsimp(maxSteps:=4000000) only[go_sem]
  refine bY.mk fun b1 iy=>?_;have aP:=iy;(try simp only[ah,aj,ne_eq]at aP);have aY:=aP;(try simp only[@eq_comm Nat b1]at aY);simp -dsimp(maxSteps:=4000000) only[aP,aY,go_sem]
  refine(hg _ (hs.add iy)).mono ?_;rintro _ _ ⟨rfl,rfl⟩
  by_cases g:iG p R=true
  ·obtain⟨h0,h1,h2,h3⟩:=Bv g
   have h4:¬ (R.length:Int)≤0:=by omega
   simp -dsimp(maxSteps:=4000000) only[g,aP,aY,go_sem]
   refine(RP op _).mono ?_;rintro _ _ ⟨rfl,rfl⟩
   by_cases a:op<0∨2<op
   ·simp -dsimp(maxSteps:=4000000) only[Jc a,aP,aY,go_sem]
    exact⟨H,(AH.aK (AH.le_refl _) ((by simp only[ah,aj,ne_eq,aP,not_false_eq_true,and_self]:aG _ b1).2)),(by first | exact⟨by simp[jJ,g,a],rfl⟩ | rfl)⟩
   ·simp -dsimp(maxSteps:=4000000) only[RQ a,h4,aP,aY,go_sem]
    by_cases b:op=0
    ·subst b
     simp -dsimp(maxSteps:=4000000) only[aP,aY,go_sem]
     exact⟨H,(AH.aK (AH.le_refl _) ((by simp only[ah,aj,ne_eq,aP,not_false_eq_true,and_self]:aG _ b1).2)),(by first | exact⟨by simp[jJ,g,h2],rfl⟩ | rfl)⟩
    ·simp -dsimp(maxSteps:=4000000) only[b,aP,aY,go_sem]
     exact⟨H,(AH.aK (AH.le_refl _) ((by simp only[ah,aj,ne_eq,aP,not_false_eq_true,and_self]:aG _ b1).2)),(by first | exact⟨by simp only[jJ,g,a,h4];simp[b],rfl⟩ | rfl)⟩
  ·have g':iG p R=false:=by simpa using g
   simp -dsimp(maxSteps:=4000000) only[g',aP,aY,go_sem]
   exact⟨H,(AH.aK (AH.le_refl _) ((by simp only[ah,aj,ne_eq,aP,not_false_eq_true,and_self]:aG _ b1).2)),(by first | exact⟨by simp[jJ,g'],rfl⟩ | rfl)⟩
 ·refine aO.cu Tryz.func159 rfl Tryz.ntmps159 Tryz.results159 (by simp) ?_;simp -dsimp(maxSteps:=4000000) only[c0,go_sem]
  refine bY.mk fun b1 iy=>?_;have aP:=iy;(try simp only[ah,aj,ne_eq]at aP);have aY:=aP;(try simp only[@eq_comm Nat b1]at aY);simp -dsimp(maxSteps:=4000000) only[c0,aP,aY,go_sem]
  refine(hg _ (hs.add iy)).mono ?_;rintro _ _ ⟨rfl,rfl⟩
  by_cases g:iG p R=true
  ·obtain⟨h0,h1,h2,h3⟩:=Bv g
   simp -dsimp(maxSteps:=4000000) only[g,c0,aP,aY,go_sem]
   refine(RP op _).mono ?_;rintro _ _ ⟨rfl,rfl⟩
   by_cases a:op<0∨2<op
   ·simp -dsimp(maxSteps:=4000000) only[Jc a,c0,aP,aY,go_sem]
    exact⟨H,(AH.aK (AH.le_refl _) ((by simp only[c0,ah,aj,ne_eq,aP,not_false_eq_true,and_self]:aG _ b1).2)),(by first | exact⟨by simp[jJ,g,a],rfl⟩ | rfl)⟩
   ·simp -dsimp(maxSteps:=4000000) only[RQ a,c0,aP,aY,go_sem]
    by_cases X5:rec<0
    ·simp -dsimp(maxSteps:=4000000) only[X5,c0,aP,aY,go_sem]
     exact⟨H,(AH.aK (AH.le_refl _) ((by simp only[c0,ah,aj,ne_eq,aP,not_false_eq_true,and_self]:aG _ b1).2)),(by first | exact⟨by simp[jJ,g,a,X5],rfl⟩ | rfl)⟩
    by_cases Zl:(R.length:Int)≤rec
    ·simp -dsimp(maxSteps:=4000000) only[X5,Zl,c0,aP,aY,go_sem]
     exact⟨H,(AH.aK (AH.le_refl _) ((by simp only[c0,ah,aj,ne_eq,aP,not_false_eq_true,and_self]:aG _ b1).2)),(by first | exact⟨by simp[jJ,g,a,Zl],rfl⟩ | rfl)⟩
    simp -dsimp(maxSteps:=4000000) only[X5,Zl,c0,aP,aY,go_sem]
    refine fZ.gen [.pu,.rd,.pu,.ch,.pu,.pu,.pu] [0,1,0,4,15,31,63] 4 (_) mixed (by kernel_rfl) (AH.le_refl _) ?_
    simp -dsimp(maxSteps:=4000000) only[c0,aP,aY,go_sem]
    refine(RP op _).mono ?_;rintro _ _ ⟨rfl,rfl⟩
    have hab:=V3 (op:=op) h0 h1 (by omega) (by omega)
    by_cases d:p / qF op % 2=0
    ·have d':jf .and .i64 p (qF op)=0:=by rw[hab];exact d
     simp -dsimp(maxSteps:=4000000) only[d',c0,aP,aY,go_sem]
     exact⟨H,(AH.aK (AH.le_refl _) ((by simp only[c0,ah,aj,ne_eq,aP,not_false_eq_true,and_self]:aG _ b1).2)),(by first | exact⟨by simp[jJ,g,a,X5,Zl,c0,d],rfl⟩ | rfl)⟩
    ·have d':¬ jf .and .i64 p (qF op)=0:=by rw[hab];exact d
     simp -dsimp(maxSteps:=4000000) only[d',c0,aP,aY,go_sem]
     exact⟨H,(AH.aK (AH.le_refl _) ((by simp only[c0,ah,aj,ne_eq,aP,not_false_eq_true,and_self]:aG _ b1).2)),(by first | exact⟨by simp[jJ,g,a,X5,Zl,c0,d],rfl⟩ | rfl)⟩
  ·have g':iG p R=false:=by simpa using g
   simp -dsimp(maxSteps:=4000000) only[g',c0,aP,aY,go_sem]
   exact⟨H,(AH.aK (AH.le_refl _) ((by simp only[c0,ah,aj,ne_eq,aP,not_false_eq_true,and_self]:aG _ b1).2)),(by first | exact⟨by simp[jJ,g'],rfl⟩ | rfl)⟩
theorem GL (base:Option Addr) (n cap:Nat) (H:AH) (h:n≤cap) :
  aO Tryz.prog 90 #[.slice base n cap] H (fun v H'=>v=.slice base n n∧H=H'):=by
 refine aO.cu Tryz.func90 rfl Tryz.ntmps90 Tryz.results90 (by simp) ?_;simp -dsimp(maxSteps:=4000000) only[go_sem]
 have h':(n:Int)≤cap:=by omega
 simp -dsimp(maxSteps:=4000000) only[h',Int.le_refl,go_sem]
 exact⟨H,(AH.le_refl _),(by first | exact⟨rfl,rfl⟩ | rfl)⟩
theorem V4 (R:List Rc) (base:Option Addr) (cap:Nat) (H:AH) (hs:bG H 4 base cap (R.map enc)) (hR:R.length≤4096) :
  aO Tryz.prog 91 #[.slice base R.length cap] H (fun v H'=>∃ b' c',v=.slice b' R.length c'∧fJ H H' 76 4 b' c' (R.map enc)∧Keep H H' fun _=>False):=by
 refine aO.cu Tryz.func91 rfl Tryz.ntmps91 Tryz.results91 (by simp) ?_;simp -dsimp(maxSteps:=4000000) only[go_sem]
 cases base with
 |none=>
  have hnil:R=[]:=by
   cases R with
   |nil=>rfl
   |cons r l=>
    obtain⟨b,o,h,_⟩:=hs.get (r:=enc r) (i:=0) rfl
    cases h
  subst hnil
  simp -dsimp(maxSteps:=4000000) only[go_sem]
  exact⟨H,AH.le_refl _,none,0,rfl,fJ.nil,.refl⟩
 |some a=>
  simp -dsimp(maxSteps:=4000000) only[go_sem]
  refine bY.mk fun bl iR=>?_
  simp -dsimp(maxSteps:=4000000) only[go_sem]
  refine lS.growS (H0:=H) (a:=some a) (m:=R.length) (c:=cap) (R:=[]) (R':=R.map enc) (fJ.new iR (AH.le_refl _) rfl rfl rfl (by simp) (by simp)) (AH.aK (AH.le_refl _) iR.2) C9 rfl (by decide) (by decide) (by rw[Tryz.underlying63];rfl) rfl (by simp) (hs.add iR) (lg R) (Fg R) (by omega) fun base' cap' A' kJ hK' hN'=>?_
  refine⟨_,AH.le_refl _,?_⟩
  simp -dsimp(maxSteps:=4000000) only[go_sem]
  exact⟨A',AH.le_refl _,base',cap',rfl,kJ,(Keep.refl.nw iR).ow hK' fun b ⟨a,ha,e⟩=>by cases ha;exact e▸iR⟩
end Go.Proofs.YtbhamhhjicehaaaGreatDoor.File
/- file.next: what it comes to: a loop over slices.Backward. -/
namespace Go.Proofs.YtbhamhhjicehaaaGreatDoor.Dh
open Go Go.Proofs Go.RowKit Go.Shelf
attribute [local go_sem] Oper.semAt_some
abbrev Al:={ i:Nat // i<4 }×Int
def encs (x:Al):Array Value:=#[.int .i64 (x.1.1:Int),.int .u8 x.2]
def Kp (b Bs:Nat) (W W':World):Prop:=W'.cell? ⟨Bs,0,none⟩=W.cell? ⟨Bs,0,none⟩∧∀ j,j<4→(∃ x,W.cell? ⟨b,j,none⟩=some (.int .u8 x))→∃ x,W'.cell? ⟨b,j,none⟩=some (.int .u8 x)
def idxs (k:Nat):List Nat:=(List.range k).map (3 - ·)
theorem Fj (k:Nat):idxs (k+1)=idxs k++[3 - k]:=by simp[idxs,List.range_succ]
set_option maxRecDepth 100000 in
set_option maxHeartbeats 2000000 in
theorem RS (F:Fence) (n:Nat) (h7:F.fn 181) (hro:F.round=none) (hn:1≤n) (l Bs b:Nat) (J Jx:List Al→World→Prop)
  (hY:∀ pre x W,J pre W→pre.length<4→YieldAt F (n - 1) Tryz.prog l (encs x) W fun e W'=>
   (e=.returned (.bool true)∧J (pre++[x]) W'∧Kp b Bs W W')∨(e=.returned (.bool false)∧Jx (pre++[x]) W'))
  (W:World) (hBs:W.cell? ⟨Bs,0,none⟩=some (.slice (some ⟨b,0,none⟩) 4 4)) (hc:∀ j,j<4→∃ x,W.cell? ⟨b,j,none⟩=some (.int .u8 x)) (h0:J [] W) :
  CallsIn F n Tryz.prog 181 #[.func (.yield l) #[] #[],.pointer (some ⟨Bs,0,none⟩)] W fun e W'=>(∃ v,e=.returned v)∧
   ((∃ ys,ys.map (·.1.1)=idxs 4∧J ys W')∨(∃ pre,(∃ k,k≤4∧pre.map (·.1.1)=idxs k)∧Jx pre W')):=by
 refine callsIn_of_wp Tryz.func181 rfl h7 ?_ hro
 simp only[Tryz.ntmps181,List.size_toArray,List.length_cons,List.length_nil,Nat.reduceAdd,Nat.reduceSub,Array.replicate_succ,Array.replicate_zero,List.push_toArray,List.append_toArray,List.nil_append,List.cons_append]
 gi_wp2
 gi_loopw [3] (fun i wr=>∃ (k:Nat) (pre:List Al),k≤4∧i=.int .i64 (3 - (k:Int))∧pre.map (·.1.1)=idxs k∧J pre wr∧Kp b Bs W wr)
  (fun i _=>(intOf i+1).toNat)
 case atStart=>exact⟨0,[],Nat.zero_le _,rfl,rfl,h0,rfl,fun j hj h=>h⟩
 case round=>
  obtain⟨k,pre,hk,rfl,hp,hJs,hK1,hK2⟩:=hrel
  have aly:=hK1.trans hBs
  by_cases hlt:k<4
  ·obtain⟨x,hx⟩:=hK2 (3 - k) (by omega) (hc (3 - k) (by omega))
   have hi:((3 - k:Nat):Int)=3 - (k:Int):=by omega
   obtain⟨fn,tmps,assign,body,hy,hR⟩:=hY pre (⟨3 - k,by omega⟩,x) wr hJs (by have:=congrArg List.length hp;simp[idxs]at this;omega)
   dsimp only[encs]at hy
   rw[hi]at hy
   have hoff:(3 - (k:Int)).toNat=3 - k:=by omega
   have hge:0≤3 - (k:Int):=by omega
   have hlt4:3 - (k:Int)<4:=by omega
   gi_wp2
   refine hR.mono ?_
   rintro e W3 (⟨rfl,hJ3,hk3⟩ | ⟨rfl,hJx3⟩)
   ·gi_wp2
    go_roundw
    case rel=>
     refine⟨k+1,pre++[(⟨3 - k,by omega⟩,x)],by omega,by simp;omega,by rw[Fj,List.map_append,hp];rfl,hJ3,hk3.1.trans hK1,fun j hj h=>hk3.2 j hj (hK2 j hj h)⟩
    case measure=>simp[intOf];omega
   ·gi_wp2
    refine bodyPost_ret (results_none rfl _ _ _) rfl ?_
    exact⟨⟨_,rfl⟩,.inr ⟨_,⟨k+1,by omega,by rw[Fj,List.map_append,hp];rfl⟩,hJx3⟩⟩
  ·obtain rfl:k=4:=by omega
   gi_wp2
   go_end0
   exact⟨⟨_,rfl⟩,.inl ⟨pre,hp,hJs⟩⟩
set_option maxRecDepth 100000 in
set_option maxHeartbeats 2000000 in
theorem Jd (F:Fence) (n:Nat) (h5:F.fn 175) (hro:F.round=none) (a:Option Addr) (len cap:Nat) (w:World) :
  CallsIn F n Tryz.prog 175 #[.slice a len cap] w fun e w'=>e=.returned (.func (.func 181) #[] #[.pointer (some ⟨w.heap.size,0,none⟩)])∧w'=w.alloc (.cells #[.slice a len cap] 261):=by
 refine callsIn_of_wp Tryz.func175 rfl h5 ?_ hro
 simp only[Tryz.ntmps175,List.size_toArray,List.length_cons,List.length_nil,Nat.reduceAdd,Nat.reduceSub,Array.replicate_succ,Array.replicate_zero,List.push_toArray,List.append_toArray,List.nil_append,List.cons_append]
 gi_wp2
 go_ret
 exact⟨rfl,rfl⟩
theorem LM (F:Fence) (n:Nat) (h7:F.fn 181) (hro:F.round=none) (hn:1≤n) (Bs b:Nat) (w:World) (hBs:Bs<w.heap.size) (hb:b<w.heap.size)
  (hc:w.cell? ⟨Bs,0,none⟩=some (.slice (some ⟨b,0,none⟩) 4 4)) (hcs:∀ j,j<4→∃ x,w.cell? ⟨b,j,none⟩=some (.int .u8 x)) :
  SeqStopsK F n Tryz.prog 181 #[.pointer (some ⟨Bs,0,none⟩)] encs (Kp b Bs) (fun ys=>ys.map (·.1.1)=idxs 4) (fun pre=>∃ k,k≤4∧pre.map (·.1.1)=idxs k) 4 w:=fun l J Jx W hW _ _ hY h0=>by
 have hc':=(hW.cell (p:=⟨Bs,0,none⟩) hBs).trans hc
 have hcs':∀ j,j<4→∃ x,W.cell? ⟨b,j,none⟩=some (.int .u8 x):=fun j hj=>by
  obtain⟨x,hx⟩:=hcs j hj
  exact⟨x,(hW.cell (p:=⟨b,j,none⟩) hb).trans hx⟩
 refine(RS F n h7 hro hn l Bs b J Jx hY W hc' hcs' h0).mono ?_
 rintro e W' ⟨he,⟨ys,h1,hj⟩ | ⟨pre,h1,hj⟩⟩
 ·exact⟨he,.inl ⟨_,h1,hj⟩⟩
 ·exact⟨he,.inr ⟨_,h1,hj⟩⟩
abbrev Rc:=Int×Int×Int×Int
def at_ (r:Rc) (i:Nat):Int:=match i with | 0=>r.1 | 1=>r.2.1 | 2=>r.2.2.1 | _=>r.2.2.2
def inc (r:Rc) (i:Nat):Rc:=match i with
 |0=>(IntKind.u8.wrap (r.1+1),r.2)
 |1=>(r.1,IntKind.u8.wrap (r.2.1+1),r.2.2)
 |2=>(r.1,r.2.1,IntKind.u8.wrap (r.2.2.1+1),r.2.2.2)
 |_=>(r.1,r.2.1,r.2.2.1,IntKind.u8.wrap (r.2.2.2+1))
def gone (r:Rc):List Nat→Option Rc
 | []=>some r
 |i::l=>if at_ (inc r i) i=0 then gone (inc r i) l else none
theorem Fp (r:Rc):∀ (l:List Nat) (i:Nat),gone r (l++[i])=(gone r l).bind fun s=>if at_ (inc s i) i=0 then some (inc s i) else none
 | [],i=>by simp[gone]
 |j::l,i=>by
  simp only[List.cons_append,gone]
  split
  ·exact Fp _ l i
  ·rfl
def nextR (r:Rc):Rc:=
 if at_ (inc r 3) 3≠0 then inc r 3 else
 if at_ (inc (inc r 3) 2) 2≠0 then inc (inc r 3) 2 else
 if at_ (inc (inc (inc r 3) 2) 1) 1≠0 then inc (inc (inc r 3) 2) 1 else inc (inc (inc (inc r 3) 2) 1) 0
def bytes (r:Rc):Array Value:=#[.int .u8 r.1,.int .u8 r.2.1,.int .u8 r.2.2.1,.int .u8 r.2.2.2]
def Lies (W:World) (b:Nat) (r:Rc):Prop:=∀ j,j<4→W.cell? ⟨b,j,none⟩=some (.int .u8 (at_ r j))∧W.frozen? ⟨b,j,none⟩=false
theorem V5 {r:Rc} {k:Nat} {l:List Nat} {i:Nat} {s:Rc} (h:l++[i]=idxs k) (hk:k≤4) (hg:gone r l=some s) (hn:at_ (inc s i) i≠0):inc s i=nextR r:=by
 have hk':k=0∨k=1∨k=2∨k=3∨k=4:=by omega
 rcases hk' with rfl | rfl | rfl | rfl | rfl
 ·have:=congrArg List.length h;simp[idxs]at this
 all_goals
  have h1:=congrArg List.dropLast h
  have h2:=congrArg List.getLast? h
  simp[idxs,List.range_succ]at h1 h2
  subst h1;subst h2
  simp only[gone]at hg
  (repeat' split at hg)<;>first | (cases hg;done) | (cases hg;simp[nextR, *])
theorem RU {r s:Rc} (hg:gone r (idxs 4)=some s):s=nextR r:=by
 simp only[idxs,List.range_succ,List.range_zero,List.nil_append,List.cons_append,List.map_cons,List.map_nil,gone,Nat.reduceSub]at hg
 (repeat' split at hg)<;>first | (cases hg;done) | (cases hg;simp[nextR, *])
def Zed (W:World) (b:Nat):Prop:=Lies W b (0,0,0,0)
def II (w:World) (r:Rc) (pre:List Al) (W:World):Prop:=∃ s,gone r (pre.map (·.1.1))=some s∧Lies W w.heap.size s∧Zed W (w.heap.size+1)
def IX (w:World) (r:Rc) (c:Code) (pre:List Al) (W:World):Prop:=c=.exit 0∧∃ l i s,pre.map (·.1.1)=l++[i]∧gone r l=some s∧at_ (inc s i) i≠0∧Lies W w.heap.size (inc s i)∧Zed W (w.heap.size+1)
theorem PL {r:Rc} {i j:Nat} (hi:i<4) (hj:j<4) (h:i≠j):at_ (inc r i) j=at_ r j:=by
 have hi':i=0∨i=1∨i=2∨i=3:=by omega
 have hj':j=0∨j=1∨j=2∨j=3:=by omega
 rcases hi' with rfl | rfl | rfl | rfl<;>rcases hj' with rfl | rfl | rfl | rfl<;>first | rfl | exact absurd rfl h
theorem uS {r:Rc} {i:Nat} (hi:i<4):at_ (inc r i) i=IntKind.u8.wrap (at_ r i+1):=by
 have hi':i=0∨i=1∨i=2∨i=3:=by omega
 rcases hi' with rfl | rfl | rfl | rfl<;>rfl
theorem Lies.set {W:World} {b i:Nat} {r:Rc} (h:Lies W b r) (hi:i<4):Lies (W.setCell ⟨b,i,none⟩ (.int .u8 (IntKind.u8.wrap (at_ r i+1)))) b (inc r i):=fun j hj=>by
 rw[World.frozen?_setCell]
 refine⟨?_,(h j hj).2⟩
 by_cases e:i=j
 ·subst e
  rw[uS hi]
  exact World.cell?_setCell_same' _ _ _ (by rw[(h i hi).1];rfl)
 ·rw[PL hi hj e]
  exact(World.cell?_setCell_other W ⟨b,i,none⟩ ⟨b,j,none⟩ _ (by simp only[ne_eq,Addr.mk.injEq];omega)).trans (h j hj).1
theorem Lies.far {W:World} {b b' i:Nat} {r:Rc} {v:Value} (h:Lies W b r) (hb:b'≠b):Lies (W.setCell ⟨b',i,none⟩ v) b r:=fun j hj=>by
 rw[World.frozen?_setCell]
 exact⟨(World.cell?_setCell_other W ⟨b',i,none⟩ ⟨b,j,none⟩ _ (by simp only[ne_eq,Addr.mk.injEq];omega)).trans (h j hj).1,(h j hj).2⟩
theorem Je (w:World) (r:Rc) (t:TypeId):Lies (w.alloc (.cells (bytes r) t)) w.heap.size r:=fun j hj=>by
 have hj':j=0∨j=1∨j=2∨j=3:=by omega
 have hh:=World.alloc_heap_new w (.cells (bytes r) t)
 rcases hj' with rfl | rfl | rfl | rfl<;>simp only[World.cell?,World.frozen?,hh]<;>simp[bytes,at_]
theorem V6 (w:World) (v:Value) (t:TypeId):(w.alloc (.cells #[v] t)).cell? ⟨w.heap.size,0,none⟩=some v∧True:=by
 have hh:=World.alloc_heap_new w (.cells #[v] t)
 simp only[World.cell?,hh];simp
theorem Lies.kept {A B:World} {b:Nat} {r:Rc} {row:Option Nat} (h:Lies A b r) (hg:A.grownBy B row) (hr:∀ r,row=some r→∃ o:Obj,A.heap[r]?=some o∧o.isCells=false):Lies B b r:=fun j hj=>by
 obtain⟨h1,h2⟩:=h j hj
 exact⟨cell_kept h1 hg hr,(frozen_kept h1 hg hr).trans h2⟩
theorem Lies.alloc {W:World} {b:Nat} {r:Rc} (h:Lies W b r) (o:Obj):Lies (W.alloc o) b r:=h.kept (World.grownBy_alloc W o none) (fun r e=>by cases e)
theorem Lies.hs {W:World} {b:Nat} {r:Rc} (h:Lies W b r):(W.cell? ⟨b,0,none⟩=some (.int .u8 r.1)∧W.frozen? ⟨b,0,none⟩=false)∧(W.cell? ⟨b,1,none⟩=some (.int .u8 r.2.1)∧W.frozen? ⟨b,1,none⟩=false)∧(W.cell? ⟨b,2,none⟩=some (.int .u8 r.2.2.1)∧W.frozen? ⟨b,2,none⟩=false)∧(W.cell? ⟨b,3,none⟩=some (.int .u8 r.2.2.2)∧W.frozen? ⟨b,3,none⟩=false):=
 ⟨h 0 (by omega),h 1 (by omega),h 2 (by omega),h 3 (by omega)⟩
theorem agw {b Bs:Nat} {w:World} (hBs:Bs<w.heap.size) (W:World) (l:Nat) (o o':Obj) (hl:w.heap.size≤l) (h:W.heap[l]?=some o) (hc:o.isCells=false) (hw:o.isWalk=false):Kp b Bs W (W.putObj l o'):=by
 have hg:=grownBy_putObj' W l o'
 have hr:∀ r,some l=some r→∃ o:Obj,W.heap[r]?=some o∧o.isCells=false:=fun r e=>by cases e;exact⟨o,h,hc⟩
 exact⟨(belowK_b (w:=w) (Nat.le_refl _) W l o o' hl h hc hw).cell (p:=⟨Bs,0,none⟩) hBs,fun j hj ⟨x,hx⟩=>⟨x,cell_kept hx hg hr⟩⟩
def sets (W:World) (b:Nat) (r:Rc):World:=(((W.setCell ⟨b,0,none⟩ (.int .u8 r.1)).setCell ⟨b,1,none⟩ (.int .u8 r.2.1)).setCell ⟨b,2,none⟩ (.int .u8 r.2.2.1)).setCell ⟨b,3,none⟩ (.int .u8 r.2.2.2)
theorem Qx (W:World) (b i j:Nat) (v:Value) (h:i≠j):(W.setCell ⟨b,i,none⟩ v).cell? ⟨b,j,none⟩=W.cell? ⟨b,j,none⟩:=
 World.cell?_setCell_other W ⟨b,i,none⟩ ⟨b,j,none⟩ _ (by simp only[ne_eq,Addr.mk.injEq];omega)
theorem Fq {W:World} {b:Nat} {s r:Rc} (h:Lies W b s):Lies (sets W b r) b r:=by
 obtain⟨⟨c0,f0⟩,⟨c1,f1⟩,⟨c2,f2⟩,⟨c3,f3⟩⟩:=h.hs
 have fr:∀ j,(sets W b r).frozen? ⟨b,j,none⟩=W.frozen? ⟨b,j,none⟩:=fun j=>by
  unfold sets
  rw[World.frozen?_setCell,World.frozen?_setCell,World.frozen?_setCell,World.frozen?_setCell]
 have d0:(sets W b r).cell? ⟨b,0,none⟩=some (.int .u8 r.1):=by
  unfold sets
  rw[Qx _ b 3 0 _ (by omega),Qx _ b 2 0 _ (by omega),Qx _ b 1 0 _ (by omega)]
  exact World.cell?_setCell_same' _ _ _ (by rw[c0];rfl)
 have d1:(sets W b r).cell? ⟨b,1,none⟩=some (.int .u8 r.2.1):=by
  unfold sets
  rw[Qx _ b 3 1 _ (by omega),Qx _ b 2 1 _ (by omega)]
  exact World.cell?_setCell_same' _ _ _ (by rw[Qx _ b 0 1 _ (by omega),c1];rfl)
 have d2:(sets W b r).cell? ⟨b,2,none⟩=some (.int .u8 r.2.2.1):=by
  unfold sets
  rw[Qx _ b 3 2 _ (by omega)]
  exact World.cell?_setCell_same' _ _ _ (by rw[Qx _ b 1 2 _ (by omega),Qx _ b 0 2 _ (by omega),c2];rfl)
 have d3:(sets W b r).cell? ⟨b,3,none⟩=some (.int .u8 r.2.2.2):=by
  unfold sets
  exact World.cell?_setCell_same' _ _ _ (by rw[Qx _ b 2 3 _ (by omega),Qx _ b 1 3 _ (by omega),Qx _ b 0 3 _ (by omega),c3];rfl)
 intro j hj
 rw[fr]
 have hj':j=0∨j=1∨j=2∨j=3:=by omega
 rcases hj' with rfl | rfl | rfl | rfl
 ·exact⟨d0,f0⟩
 ·exact⟨d1,f1⟩
 ·exact⟨d2,f2⟩
 ·exact⟨d3,f3⟩
theorem Di {n:Nat} {w W:World} {b:Nat} (r:Rc) (h:Below n w W) (hb:n≤b):Below n w (sets W b r):=(((h.setCell (p:=⟨b,0,none⟩) hb _).setCell (p:=⟨b,1,none⟩) hb _).setCell (p:=⟨b,2,none⟩) hb _).setCell (p:=⟨b,3,none⟩) hb _
theorem Dj (W:World) (b:Nat) (r:Rc) {D:Nat} {o:Obj} (hK:W.heap[D]?=some o) (ho:o.isCells=false):(sets W b r).heap[D]?=some o:=
 (KeepsOthers.setCell _ _ _).same D _ ((KeepsOthers.setCell _ _ _).same D _ ((KeepsOthers.setCell _ _ _).same D _ ((KeepsOthers.setCell _ _ _).same D _ hK ho) ho) ho) ho
set_option maxRecDepth 100000 in
set_option maxHeartbeats 4000000 in
theorem V7 (F:Fence) (n:Nat) (h3:F.fn 160) (h5:F.fn 175) (h6:F.fn 181) (hro:F.round=none) (hn:3≤n) (r:Rc) (w:World) :
  CallsIn F n Tryz.prog 160 #[.agg (bytes r)] w fun e W'=>e=.returned (.agg (bytes (nextR r)))∧Below w.heap.size w W':=by
 have h1:1≤n:=by omega
 refine callsIn_of_wp_marks Tryz.func160 rfl h3 ?_ hro
 unfold bytes
 simp only[Tryz.ntmps160,List.size_toArray,List.length_cons,List.length_nil,Nat.reduceAdd,Nat.reduceSub,Array.replicate_succ,Array.replicate_zero,List.push_toArray,List.append_toArray,List.nil_append,List.cons_append]
 gi_wp2_with (gi_at_call 175;refine(Jd F (n - 1) h5 hro _ _ _ _).mono ?_;rintro e w' ⟨rfl,rfl⟩)
 have hB0:Below w.heap.size w (((w.alloc (.cells (bytes r) 76)).alloc (.cells (bytes (0,0,0,0)) 76)).alloc (.cells #[.slice (some ⟨w.heap.size,0,none⟩) 4 4] 261)):=(((Below.refl _ w).alloc (Nat.le_refl _) _).alloc (by simp) _).alloc (by simp;omega) _
 obtain⟨W0,hW0⟩:∃ W0,(((w.alloc (.cells (bytes r) 76)).alloc (.cells (bytes (0,0,0,0)) 76)).alloc (.cells #[.slice (some ⟨w.heap.size,0,none⟩) 4 4] 261))=W0:=⟨_,rfl⟩
 have hsz:W0.heap.size=w.heap.size+1+1+1:=by rw[←hW0];simp
 have hL:Lies W0 w.heap.size r:=by rw[←hW0];exact((Je w r _).alloc _).alloc _
 have hZ:Zed W0 (w.heap.size+1):=by
  rw[←hW0]
  have:=Je (w.alloc (.cells (bytes r) 76)) (0,0,0,0) 76
  rw[World.size_alloc]at this
  exact this.alloc _
 have hS:W0.cell? ⟨w.heap.size+1+1,0,none⟩=some (.slice (some ⟨w.heap.size,0,none⟩) 4 4):=by
  rw[←hW0]
  have:=(V6 ((w.alloc (.cells (bytes r) 76)).alloc (.cells (bytes (0,0,0,0)) 76)) (.slice (some ⟨w.heap.size,0,none⟩) 4 4) 261).1
  rw[World.size_alloc,World.size_alloc]at this
  exact this
 rw[hW0]at hB0
 unfold bytes at hW0
 simp only at hW0
 rw[hW0]
 refine wpIn_rangeFunc_ownF hro h1 (gf:=181) (lb:=#[.pointer (some ⟨w.heap.size+1+1,0,none⟩)]) rfl h6 (enters_of Tryz.func181 (by kernel_rfl) rfl)
  (LM F (n - 1) h6 hro (by omega) (w.heap.size+1+1) w.heap.size W0 (by omega) (by omega) hS (fun j hj=>⟨_,(hL j hj).1⟩))
  (fun h k=>⟨k.1.trans h.1,fun j hj hx=>k.2 j hj (h.2 j hj hx)⟩) (agw (by omega)) (Below.refl _ _) (fun _=>rfl)
  (fun pre W=>II w r pre W∧Below w.heap.size w W) (fun c pre W=>IX w r c pre W∧Below w.heap.size w W) 
  (OwnFrom.and (Own.from (fun s A B row ⟨x,h1,h2,h3⟩ hg hr=>⟨x,h1,h2.kept hg (fun r e=>(hr r e)),h3.kept hg (fun r e=>(hr r e))⟩) _) (ownFrom_below (Nat.le_refl _) (by omega)))
  (fun c=>OwnFrom.and (Own.from (fun s A B row ⟨e,l,i,x,h0,h1,h4,h2,h3⟩ hg hr=>⟨e,l,i,x,h0,h1,h4,h2.kept hg (fun r e=>(hr r e)),h3.kept hg (fun r e=>(hr r e))⟩) _) (ownFrom_below (Nat.le_refl _) (by omega)))
  ⟨⟨r,rfl,hL,hZ⟩,hB0⟩
  (fun x=>{ tmps:=#[.agg #[.int .u8 r.1,.int .u8 r.2.1,.int .u8 r.2.2.1,.int .u8 r.2.2.2],.pointer (some ⟨w.heap.size,0,none⟩),.pointer (some ⟨w.heap.size+1,0,none⟩),.int .i64 (x.1.1:Int),.slice (some ⟨w.heap.size,0,none⟩) 4 4,.func (.func 181) #[] #[.pointer (some ⟨w.heap.size+1+1,0,none⟩)],.int .i64 (x.1.1:Int),.int .u8 x.2,undef,undef,undef,undef,undef,undef,undef,undef,undef,undef],defers:=[] }) ?assign ?body ?done ?stop
 case assign=>
  intro l x W K hK
  unfold encs
  gi_wp2
  exact hK
 case body=>
  rintro l pre ⟨⟨i,hi⟩,y⟩ W ⟨⟨s,hg,X6,hZs⟩,hB⟩ _
  have hi':i=0∨i=1∨i=2∨i=3:=by omega
  obtain⟨⟨c0,f0⟩,⟨c1,f1⟩,⟨c2,f2⟩,⟨c3,f3⟩⟩:=X6.hs
  rcases hi' with rfl | rfl | rfl | rfl
  all_goals
   gi_wp2
   ·rename_i hne
    have hset:=X6.set hi
    rw[IntKind.wrap_u8]at hset
    refine⟨KeepsOthers.setCell _ _ _,⟨rfl,pre.map (·.1.1),_,s,by rw[List.map_append];rfl,hg,?_,hset,hZs.far (b':=w.heap.size) (by omega)⟩,hB.setCell (Nat.le_refl _) _⟩
    rw[uS hi,IntKind.wrap_u8]
    simpa [at_]using hne
   ·rename_i hne
    have hset:=X6.set hi
    rw[IntKind.wrap_u8]at hset
    refine⟨KeepsOthers.setCell _ _ _,⟨World.cell?_setCell_other _ _ _ _ (by simp only[ne_eq,Addr.mk.injEq];omega),fun j hj _=>⟨_,(hset j hj).1⟩⟩,⟨_,?_,hset,hZs.far (b':=w.heap.size) (by omega)⟩,hB.setCell (Nat.le_refl _) _⟩
    rw[List.map_append,List.map_cons,List.map_nil,Fp,hg]
    simp only[Option.bind_some]
    rw[if_pos]
    rw[uS hi,IntKind.wrap_u8]
    simpa [at_]using hne
 case done=>
  rintro D ys W hD hys ⟨⟨s,hg,X6,hZs⟩,hB⟩ hK
  rw[hys]at hg
  have hs:=RU hg
  subst hs
  obtain⟨⟨c0,f0⟩,⟨c1,f1⟩,⟨c2,f2⟩,⟨c3,f3⟩⟩:=X6.hs
  obtain⟨⟨d0,g0⟩,⟨d1,g1⟩,⟨d2,g2⟩,⟨d3,g3⟩⟩:=hZs.hs
  gi_wp2
  show bodyPostM _ _ _ _ _ _ _ (sets W (w.heap.size+1) (nextR r))
  have hK':=Dj W (w.heap.size+1) (nextR r) hK rfl
  have hB':=Di (nextR r) hB (show w.heap.size≤w.heap.size+1 by omega)
  refine⟨by simp,.inl ⟨_,_,rfl,run_takeDeferred hK',?_⟩⟩
  have hfin:=(Fq (r:=nextR r) hZs).kept (grownBy_putObj' _ D (.deferred none)) (fun r e=>by cases e;exact⟨_,hK',rfl⟩)
  obtain⟨⟨e0,_⟩,⟨e1,_⟩,⟨e2,_⟩,⟨e3,_⟩⟩:=hfin.hs
  refine⟨.agg (bytes (nextR r)),?_,rfl,hB'.trans (belowK_b (w:=w) (Nat.le_refl _) _ D _ _ (by omega) hK' rfl rfl)⟩
  simp[results,Tryz.f160,go_sem,e0,e1,e2,e3,bytes]
 case stop=>
  rintro D c pre W hD ⟨k,hk,hp⟩ ⟨⟨rfl,l,i,s,h0,hg,hne,X6,hZs⟩,hB⟩ hK
  rw[h0]at hp
  have hs:=V5 hp hk hg hne
  rw[hs]at X6
  obtain⟨⟨c0,f0⟩,⟨c1,f1⟩,⟨c2,f2⟩,⟨c3,f3⟩⟩:=X6.hs
  obtain⟨⟨d0,g0⟩,⟨d1,g1⟩,⟨d2,g2⟩,⟨d3,g3⟩⟩:=hZs.hs
  gi_wp2
  show bodyPostM _ _ _ _ _ _ _ (sets W (w.heap.size+1) (nextR r))
  have hK':=Dj W (w.heap.size+1) (nextR r) hK rfl
  have hB':=Di (nextR r) hB (show w.heap.size≤w.heap.size+1 by omega)
  refine⟨by simp,.inl ⟨_,_,rfl,run_takeDeferred hK',?_⟩⟩
  have hfin:=(Fq (r:=nextR r) hZs).kept (grownBy_putObj' _ D (.deferred none)) (fun r e=>by cases e;exact⟨_,hK',rfl⟩)
  obtain⟨⟨e0,_⟩,⟨e1,_⟩,⟨e2,_⟩,⟨e3,_⟩⟩:=hfin.hs
  refine⟨.agg (bytes (nextR r)),?_,rfl,hB'.trans (belowK_b (w:=w) (Nat.le_refl _) _ D _ _ (by omega) hK' rfl rfl)⟩
  simp[results,Tryz.f160,go_sem,e0,e1,e2,e3,bytes]
theorem LP (r:Rc) (w:World):Calls Tryz.prog 160 #[.agg (bytes r)] w fun e W'=>e=.returned (.agg (bytes (nextR r)))∧Below w.heap.size w W':=
 (callsIn_wide (n:=3)).1 (V7 Fence.wide 3 trivial trivial trivial rfl (by omega) r w)
end Go.Proofs.YtbhamhhjicehaaaGreatDoor.Dh
/- file.Do: what it comes to. -/
namespace Go.Proofs.YtbhamhhjicehaaaGreatDoor.File
open Go Go.AX Go.Proofs Ty
set_option maxHeartbeats 4000000
theorem Jf (R:List Rc) (base:Option Addr) (cap:Nat) (H:AH) (hs:bG H 4 base cap (R.map enc)) (hR:R.length≤4096) (h0:R.length≠0) :
  aO Tryz.prog 91 #[.slice base R.length cap] H (fun v H'=>∃ b c bs,aG H b∧v=.slice (some ⟨b,0,none⟩) R.length c∧R.length≤c∧R.length*4≤bs∧H'=H.add b (.cells (R.map enc).flatten 76 bs)):=
 (V4 R base cap H hs hR).XW fun v H' ⟨b',c',hv,hO,hK⟩=>by
  rcases hO.at_ with ⟨_,h,_⟩ | ⟨b,bs,rfl,h1,h2,h3⟩
  ·rw[List.map_eq_nil_iff]at h;subst h;exact absurd rfl h0
  ·have hle:=hO.le
   rw[List.length_map]at hle
   exact⟨_,AH.eU h1 (hK.all),b,c',bs,h3,hv,hle,Nat.le_trans (Nat.mul_le_mul_right _ hle) h2,rfl⟩
theorem Zm (r:Rc) (H:AH):aO Tryz.prog 160 #[.agg (enc r).toArray] H (fun v H'=>v=.agg (enc (Dh.nextR r)).toArray∧H=H'):=aO.RI (Dh.LP r)
def vX (R:List Rc) (op:Int) (rec:Nat) (v:Rc):List Rc:=if op=1 then R.set rec v else if op=2 then R.set rec (Dh.nextR (R.getD rec zr)) else R
def V8 (e:Int):Value:=.tuple #[.agg #[.int .i64 0,.slice none 0 0],.agg (enc zr).toArray,.int .i64 e]
theorem aW (r:Rc):(enc r).take 4=enc r:=rfl
theorem dD (r:Rc):iO [.int .u8 0,.int .u8 0,.int .u8 0,.int .u8 0] 0 (enc r)=enc r:=rfl
theorem rM (L:List Rc):(L.map enc).flatten.length=L.length*4:=by rw[jS (lg L),List.length_map]
theorem row4 {L:List Rc} {i:Nat} {r:Rc} (h:L[i]?=some r):((L.map enc).flatten.drop (i*4)).take 4=enc r:=CG (lg L) i _ (dn h)
theorem LQ {L:List Rc} {i:Nat} (r:Rc) (h:i<L.length):iO (L.map enc).flatten (i*4) (enc r)=((L.set i r).map enc).flatten:=by
 rw[jW (lg L) i (enc r) (by rw[List.length_map];exact h) rfl,List.map_set]
theorem yD {L:List Rc} {i:Nat} {r:Rc} (h:L[i]?=some r):L.getD i zr=r:=by rw[List.getD_eq_getElem?_getD,h];rfl
theorem GN {p op:Int} {rec:Int} {R:List Rc} (h:jJ p R op rec=0):iG p R=true∧0≤op∧op≤2∧0≤rec∧rec<R.length∧R.length≤256∧0≤p∧p≤7:=by
 unfold jJ at h
 split at h
 ·cases h
 ·rename_i g
  simp only[Bool.not_eq_false]at g
  obtain⟨h0,h1,h2,h3⟩:=Bv g
  split at h
  ·cases h
  ·split at h
   ·cases h
   ·exact⟨g,by omega,by omega,by omega,by omega,h3,h0,h1⟩
theorem Zn (p op rec:Int) (R:List Rc) (v:Rc) (base:Option Addr) (cap:Nat) (H:AH) (hs:bG H 4 base cap (R.map enc)) (hm:¬ jJ p R op rec=0) :
  aO Tryz.prog 130 #[fv p base R.length cap,.int .i64 op,.int .i64 rec,.agg (enc v).toArray] H (fun v H'=>v=V8 (jJ p R op rec)∧H=H'):=by
 unfold fv
 have hg:=fun H1 (h1:bG H1 4 base cap (R.map enc))=>X4 p op rec R base cap H1 h1
 unfold fv at hg
 refine aO.cu Tryz.func130 rfl Tryz.ntmps130 Tryz.results130 (by simp) ?_;simp -dsimp(maxSteps:=4000000) only[hm,go_sem]
 refine bY.mk fun b4 jr=>?_;have aT:=jr;(try simp only[ah,aj,ne_eq]at aT);have aX:=aT;(try simp only[@eq_comm Nat b4]at aX);simp -dsimp(maxSteps:=4000000) only[hm,aT,aX,go_sem]
 refine bY.mk fun b7 jM=>?_;have bI:=jM;(try simp only[ah,aj,ne_eq]at bI);have bU:=bI;(try simp only[@eq_comm Nat b7]at bU);simp -dsimp(maxSteps:=4000000) only[hm,aT,aX,bI,bU,go_sem]
 refine bY.mk fun b8 lF=>?_;have aQ:=lF;(try simp only[ah,aj,ne_eq]at aQ);have bF:=aQ;(try simp only[@eq_comm Nat b8]at bF);simp -dsimp(maxSteps:=4000000) only[hm,aT,aX,bI,bU,aQ,bF,go_sem]
 refine bY.mk fun b9 iI=>?_;have aU:=iI;(try simp only[ah,aj,ne_eq]at aU);have bH:=aU;(try simp only[@eq_comm Nat b9]at bH);simp -dsimp(maxSteps:=4000000) only[hm,aT,aX,bI,bU,aQ,bF,aU,bH,go_sem]
 refine(hg _ ((((hs.add jr).add jM).add lF).add iI)).mono ?_;rintro _ _ ⟨rfl,rfl⟩
 simp -dsimp(maxSteps:=4000000) only[hm,aT,aX,bI,bU,aQ,bF,aU,bH,go_sem]
 exact⟨H,(AH.aK (AH.aK (AH.aK (AH.aK (AH.le_refl _) ((by simp only[hm,ah,aj,ne_eq,aT,not_false_eq_true,and_self]:aG _ b4).2)) ((by simp only[hm,ah,aj,ne_eq,bI,not_false_eq_true,and_self]:aG _ b7).2)) ((by simp only[hm,ah,aj,ne_eq,aQ,not_false_eq_true,and_self]:aG _ b8).2)) ((by simp only[hm,ah,aj,ne_eq,aU,not_false_eq_true,and_self]:aG _ b9).2)),(by first | exact⟨rfl,rfl⟩ | rfl)⟩
theorem aci (p op:Int) (rec:Nat) (R:List Rc) (v:Rc) (base:Option Addr) (cap:Nat) (H:AH) (hs:bG H 4 base cap (R.map enc)) (hm:jJ p R op rec=0) :
  aO Tryz.prog 130 #[fv p base R.length cap,.int .i64 op,.int .i64 rec,.agg (enc v).toArray] H (fun x H'=>∃ b bs,aG H b∧x=.tuple #[fv p (some ⟨b,0,none⟩) R.length R.length,.agg (enc ((vX R op rec v).getD rec zr)).toArray,.int .i64 0]∧R.length*4≤bs∧H'=H.add b (.cells ((vX R op rec v).map enc).flatten 76 bs)):=by
 obtain⟨hgd,ho0,ho1,hr0,hr1,hR,hp0,hp1⟩:=GN hm
 obtain⟨r0,Bg⟩:=get_some (l:=R) (i:=rec) (by omega)
 have hl4:=rM R
 have c4:rec*4+4≤R.length*4:=by omega
 have c5:0+(rec*4)+4≤R.length*4:=by omega
 have c6:0+(R.length*4)≤R.length*4:=by omega
 have hbs:True:=trivial
 unfold fv
 have hg:=fun H1 (h1:bG H1 4 base cap (R.map enc))=>X4 p op rec R base cap H1 h1
 unfold fv at hg
 refine aO.cu Tryz.func130 rfl Tryz.ntmps130 Tryz.results130 (by simp) ?_;simp -dsimp(maxSteps:=4000000) only[hm,hr1,au,ak,aW,dD,hbs,hl4,c4,c5,c6,go_sem]
 refine bY.mk fun b4 jr=>?_;have aT:=jr;(try simp only[ah,aj,ne_eq]at aT);have aX:=aT;(try simp only[@eq_comm Nat b4]at aX);simp -dsimp(maxSteps:=4000000) only[hm,hr1,au,ak,aW,dD,hbs,hl4,c4,c5,c6,aT,aX,go_sem]
 refine bY.mk fun b7 jM=>?_;have bI:=jM;(try simp only[ah,aj,ne_eq]at bI);have bU:=bI;(try simp only[@eq_comm Nat b7]at bU);simp -dsimp(maxSteps:=4000000) only[hm,hr1,au,ak,aW,dD,hbs,hl4,c4,c5,c6,aT,aX,bI,bU,go_sem]
 refine bY.mk fun b8 lF=>?_;have aQ:=lF;(try simp only[ah,aj,ne_eq]at aQ);have bF:=aQ;(try simp only[@eq_comm Nat b8]at bF);simp -dsimp(maxSteps:=4000000) only[hm,hr1,au,ak,aW,dD,hbs,hl4,c4,c5,c6,aT,aX,bI,bU,aQ,bF,go_sem]
 refine bY.mk fun b9 iI=>?_;have aU:=iI;(try simp only[ah,aj,ne_eq]at aU);have bH:=aU;(try simp only[@eq_comm Nat b9]at bH);simp -dsimp(maxSteps:=4000000) only[hm,hr1,au,ak,aW,dD,hbs,hl4,c4,c5,c6,aT,aX,bI,bU,aQ,bF,aU,bH,go_sem]
 refine(hg _ ((((hs.add jr).add jM).add lF).add iI)).mono ?_;rintro _ _ ⟨rfl,rfl⟩
 simp -dsimp(maxSteps:=4000000) only[hm,hr1,au,ak,aW,dD,hbs,hl4,c4,c5,c6,aT,aX,bI,bU,aQ,bF,aU,bH,go_sem]
 refine(Jf R base cap _ ((((hs.add jr).add jM).add lF).add iI) (by omega) (by omega)).mono ?_;rintro _ _ ⟨bl,cl,bs,iR,rfl,hcl,hbs,rfl⟩
 have dH:=iR;(try simp only[ah,aj,ne_eq]at dH);have dP:=dH;(try simp only[@eq_comm Nat bl]at dP)
 simp -dsimp(maxSteps:=4000000) only[hm,hr1,au,ak,aW,dD,hbs,hl4,c4,c5,c6,aT,aX,bI,bU,aQ,bF,aU,bH,dH,dP,go_sem]
 refine(GL _ _ _ _ hcl).mono ?_;rintro _ _ ⟨rfl,rfl⟩
 simp -dsimp(maxSteps:=4000000) only[hm,hr1,au,ak,aW,dD,hbs,hl4,c4,c5,c6,aT,aX,bI,bU,aQ,bF,aU,bH,dH,dP,go_sem]
 by_cases a:op=1
 ·subst a
  have hp:=LQ v (L:=R) (i:=rec) (by omega)
  have hs_:(R.set rec v)[rec]?=some v:=by rw[List.getElem?_set_self (by omega)]
  have hrow:=row4 hs_
  simp -dsimp(maxSteps:=4000000) only[hp,hm,hr1,au,ak,aW,dD,hbs,hl4,c4,c5,c6,aT,aX,bI,bU,aQ,bF,aU,bH,dH,dP,go_sem]
  refine fZ.gen [.rd,.pu,.rd,.pu,.pu,.rd,.ch,.ch,.pu] [0,0,2,0,14,30,1,127,255] 7 ((H.add b4 (.cells [.int .i64 p,.slice (some ⟨bl,0,none⟩) R.length R.length] 65 2)).add bl (.cells ((R.set rec v).map enc).flatten 76 bs)) mixed (by kernel_rfl) (?_) ?_
  ·exact(by refine AH.eU ?_ ?_;(show AH.find _ _=_;simp only[aH,aN,aV,ah,aj,ne_eq,not_false_eq_true,true_and,and_true,and_self,hm,hr1,au,ak,aW,dD,hbs,hl4,c4,c5,c6,aT,aX,bI,bU,aQ,bF,aU,bH,dH,dP]);refine AH.eU ?_ ?_;(show AH.find _ _=_;simp only[aH,aN,aV,ah,aj,ne_eq,not_false_eq_true,true_and,and_true,and_self,hm,hr1,au,ak,aW,dD,hbs,hl4,c4,c5,c6,aT,aX,bI,bU,aQ,bF,aU,bH,dH,dP]);(repeat (first | exact AH.le_refl _ | refine AH.aK ?_ ?_));all_goals (first | exact AH.le_refl _ | (show AH.find _ _=_;simp only[aH,aN,aV,ah,aj,ne_eq,not_false_eq_true,true_and,and_true,and_self,hm,hr1,au,ak,aW,dD,hbs,hl4,c4,c5,c6,aT,aX,bI,bU,aQ,bF,aU,bH,dH,dP])))
  have uT:=rM (R.set rec v)
  rw[List.length_set]at uT
  simp -dsimp(maxSteps:=4000000) only[uT,hrow,hm,hr1,au,ak,aW,dD,hbs,hl4,c4,c5,c6,aT,aX,bI,bU,aQ,bF,aU,bH,dH,dP,go_sem]
  refine⟨(by refine AH.eU ?_ ?_;(show AH.find _ _=_;simp only[aH,aN,aV,ah,aj,ne_eq,not_false_eq_true,true_and,and_true,and_self,hm,hr1,au,ak,aW,dD,hbs,hl4,c4,c5,c6,aT,aX,bI,bU,aQ,bF,aU,bH,dH,dP]);refine AH.eU ?_ ?_;(show AH.find _ _=_;simp only[aH,aN,aV,ah,aj,ne_eq,not_false_eq_true,true_and,and_true,and_self,hm,hr1,au,ak,aW,dD,hbs,hl4,c4,c5,c6,aT,aX,bI,bU,aQ,bF,aU,bH,dH,dP]);(repeat (first | exact AH.le_refl _ | refine AH.aK ?_ ?_));all_goals (first | exact AH.le_refl _ | (show AH.find _ _=_;simp only[aH,aN,aV,ah,aj,ne_eq,not_false_eq_true,true_and,and_true,and_self,hm,hr1,au,ak,aW,dD,hbs,hl4,c4,c5,c6,aT,aX,bI,bU,aQ,bF,aU,bH,dH,dP]))),?_⟩
  have hd1:vX R 1 rec v=R.set rec v:=by simp[vX]
  rw[hd1]
  exact⟨_,(by refine AH.eU ?_ ?_;(show AH.find _ _=_;simp only[aH,aN,aV,ah,aj,ne_eq,not_false_eq_true,true_and,and_true,and_self,hm,hr1,au,ak,aW,dD,hbs,hl4,c4,c5,c6,aT,aX,bI,bU,aQ,bF,aU,bH,dH,dP]);(repeat (first | exact AH.le_refl _ | refine AH.aK ?_ ?_));all_goals (first | exact AH.le_refl _ | (show AH.find _ _=_;simp only[aH,aN,aV,ah,aj,ne_eq,not_false_eq_true,true_and,and_true,and_self,hm,hr1,au,ak,aW,dD,hbs,hl4,c4,c5,c6,aT,aX,bI,bU,aQ,bF,aU,bH,dH,dP]))),bl,bs,dH.2.2.2.2,by rw[yD hs_],hbs,rfl⟩
 by_cases b:op=2
 ·subst b
  have hp:=LQ (Dh.nextR r0) (L:=R) (i:=rec) (by omega)
  have hs_:(R.set rec (Dh.nextR r0))[rec]?=some (Dh.nextR r0):=by rw[List.getElem?_set_self (by omega)]
  have hrow0:=row4 Bg
  have hrow:=row4 hs_
  simp -dsimp(maxSteps:=4000000) only[hm,hr1,au,ak,aW,dD,hbs,hl4,c4,c5,c6,aT,aX,bI,bU,aQ,bF,aU,bH,dH,dP,go_sem]
  refine fZ.gen [.pu,.rd,.pu,.pu,.rd,.pu,.pu,.rd,.ch,.pu,.ch] [0,1,0,0,8,0,56,120,248,511,1023] 9 (_) mixed (by kernel_rfl) (AH.le_refl _) ?_
  simp -dsimp(maxSteps:=4000000) only[hrow0,hm,hr1,au,ak,aW,dD,hbs,hl4,c4,c5,c6,aT,aX,bI,bU,aQ,bF,aU,bH,dH,dP,go_sem]
  refine(Zm r0 _).mono ?_;rintro _ _ ⟨rfl,rfl⟩
  simp -dsimp(maxSteps:=4000000) only[hp,AH.le_refl,hm,hr1,au,ak,aW,dD,hbs,hl4,c4,c5,c6,aT,aX,bI,bU,aQ,bF,aU,bH,dH,dP,go_sem]
  refine fZ.gen [.rd,.pu,.rd,.pu,.pu,.rd,.ch,.ch,.pu] [0,0,2,0,14,30,1,127,255] 7 ((H.add b4 (.cells [.int .i64 p,.slice (some ⟨bl,0,none⟩) R.length R.length] 65 2)).add bl (.cells ((R.set rec (Dh.nextR r0)).map enc).flatten 76 bs)) mixed (by kernel_rfl) (?_) ?_
  ·exact(by refine AH.eU ?_ ?_;(show AH.find _ _=_;simp only[aH,aN,aV,ah,aj,ne_eq,not_false_eq_true,true_and,and_true,and_self,hm,hr1,au,ak,aW,dD,hbs,hl4,c4,c5,c6,aT,aX,bI,bU,aQ,bF,aU,bH,dH,dP]);refine AH.eU ?_ ?_;(show AH.find _ _=_;simp only[aH,aN,aV,ah,aj,ne_eq,not_false_eq_true,true_and,and_true,and_self,hm,hr1,au,ak,aW,dD,hbs,hl4,c4,c5,c6,aT,aX,bI,bU,aQ,bF,aU,bH,dH,dP]);(repeat (first | exact AH.le_refl _ | refine AH.aK ?_ ?_));all_goals (first | exact AH.le_refl _ | (show AH.find _ _=_;simp only[aH,aN,aV,ah,aj,ne_eq,not_false_eq_true,true_and,and_true,and_self,hm,hr1,au,ak,aW,dD,hbs,hl4,c4,c5,c6,aT,aX,bI,bU,aQ,bF,aU,bH,dH,dP])))
  have uT:=rM (R.set rec (Dh.nextR r0))
  rw[List.length_set]at uT
  simp -dsimp(maxSteps:=4000000) only[uT,hrow,hm,hr1,au,ak,aW,dD,hbs,hl4,c4,c5,c6,aT,aX,bI,bU,aQ,bF,aU,bH,dH,dP,go_sem]
  refine⟨(by refine AH.eU ?_ ?_;(show AH.find _ _=_;simp only[aH,aN,aV,ah,aj,ne_eq,not_false_eq_true,true_and,and_true,and_self,hm,hr1,au,ak,aW,dD,hbs,hl4,c4,c5,c6,aT,aX,bI,bU,aQ,bF,aU,bH,dH,dP]);refine AH.eU ?_ ?_;(show AH.find _ _=_;simp only[aH,aN,aV,ah,aj,ne_eq,not_false_eq_true,true_and,and_true,and_self,hm,hr1,au,ak,aW,dD,hbs,hl4,c4,c5,c6,aT,aX,bI,bU,aQ,bF,aU,bH,dH,dP]);(repeat (first | exact AH.le_refl _ | refine AH.aK ?_ ?_));all_goals (first | exact AH.le_refl _ | (show AH.find _ _=_;simp only[aH,aN,aV,ah,aj,ne_eq,not_false_eq_true,true_and,and_true,and_self,hm,hr1,au,ak,aW,dD,hbs,hl4,c4,c5,c6,aT,aX,bI,bU,aQ,bF,aU,bH,dH,dP]))),?_⟩
  have hd1:vX R 2 rec v=R.set rec (Dh.nextR r0):=by rw[vX,if_neg (by omega),if_pos rfl,yD Bg]
  rw[hd1]
  exact⟨_,(by refine AH.eU ?_ ?_;(show AH.find _ _=_;simp only[aH,aN,aV,ah,aj,ne_eq,not_false_eq_true,true_and,and_true,and_self,hm,hr1,au,ak,aW,dD,hbs,hl4,c4,c5,c6,aT,aX,bI,bU,aQ,bF,aU,bH,dH,dP]);(repeat (first | exact AH.le_refl _ | refine AH.aK ?_ ?_));all_goals (first | exact AH.le_refl _ | (show AH.find _ _=_;simp only[aH,aN,aV,ah,aj,ne_eq,not_false_eq_true,true_and,and_true,and_self,hm,hr1,au,ak,aW,dD,hbs,hl4,c4,c5,c6,aT,aX,bI,bU,aQ,bF,aU,bH,dH,dP]))),bl,bs,dH.2.2.2.2,by rw[yD hs_],hbs,rfl⟩
 have hrow:=row4 Bg
 simp -dsimp(maxSteps:=4000000) only[a,b,hm,hr1,au,ak,aW,dD,hbs,hl4,c4,c5,c6,aT,aX,bI,bU,aQ,bF,aU,bH,dH,dP,go_sem]
 refine fZ.gen [.rd,.pu,.rd,.pu,.pu,.rd,.ch,.ch,.pu] [0,0,2,0,14,30,1,127,255] 7 ((H.add b4 (.cells [.int .i64 p,.slice (some ⟨bl,0,none⟩) R.length R.length] 65 2)).add bl (.cells (R.map enc).flatten 76 bs)) mixed (by kernel_rfl) (?_) ?_
 ·exact(by refine AH.eU ?_ ?_;(show AH.find _ _=_;simp only[aH,aN,aV,ah,aj,ne_eq,not_false_eq_true,true_and,and_true,and_self,hm,hr1,au,ak,aW,dD,hbs,hl4,c4,c5,c6,aT,aX,bI,bU,aQ,bF,aU,bH,dH,dP]);refine AH.eU ?_ ?_;(show AH.find _ _=_;simp only[aH,aN,aV,ah,aj,ne_eq,not_false_eq_true,true_and,and_true,and_self,hm,hr1,au,ak,aW,dD,hbs,hl4,c4,c5,c6,aT,aX,bI,bU,aQ,bF,aU,bH,dH,dP]);(repeat (first | exact AH.le_refl _ | refine AH.aK ?_ ?_));all_goals (first | exact AH.le_refl _ | (show AH.find _ _=_;simp only[aH,aN,aV,ah,aj,ne_eq,not_false_eq_true,true_and,and_true,and_self,hm,hr1,au,ak,aW,dD,hbs,hl4,c4,c5,c6,aT,aX,bI,bU,aQ,bF,aU,bH,dH,dP])))
 simp -dsimp(maxSteps:=4000000) only[hrow,hm,hr1,au,ak,aW,dD,hbs,hl4,c4,c5,c6,aT,aX,bI,bU,aQ,bF,aU,bH,dH,dP,go_sem]
 refine⟨(by refine AH.eU ?_ ?_;(show AH.find _ _=_;simp only[aH,aN,aV,ah,aj,ne_eq,not_false_eq_true,true_and,and_true,and_self,hm,hr1,au,ak,aW,dD,hbs,hl4,c4,c5,c6,aT,aX,bI,bU,aQ,bF,aU,bH,dH,dP]);refine AH.eU ?_ ?_;(show AH.find _ _=_;simp only[aH,aN,aV,ah,aj,ne_eq,not_false_eq_true,true_and,and_true,and_self,hm,hr1,au,ak,aW,dD,hbs,hl4,c4,c5,c6,aT,aX,bI,bU,aQ,bF,aU,bH,dH,dP]);(repeat (first | exact AH.le_refl _ | refine AH.aK ?_ ?_));all_goals (first | exact AH.le_refl _ | (show AH.find _ _=_;simp only[aH,aN,aV,ah,aj,ne_eq,not_false_eq_true,true_and,and_true,and_self,hm,hr1,au,ak,aW,dD,hbs,hl4,c4,c5,c6,aT,aX,bI,bU,aQ,bF,aU,bH,dH,dP]))),?_⟩
 have hd1:vX R op rec v=R:=by simp[vX,a,b]
 rw[hd1]
 exact⟨_,(by refine AH.eU ?_ ?_;(show AH.find _ _=_;simp only[aH,aN,aV,ah,aj,ne_eq,not_false_eq_true,true_and,and_true,and_self,hm,hr1,au,ak,aW,dD,hbs,hl4,c4,c5,c6,aT,aX,bI,bU,aQ,bF,aU,bH,dH,dP]);(repeat (first | exact AH.le_refl _ | refine AH.aK ?_ ?_));all_goals (first | exact AH.le_refl _ | (show AH.find _ _=_;simp only[aH,aN,aV,ah,aj,ne_eq,not_false_eq_true,true_and,and_true,and_self,hm,hr1,au,ak,aW,dD,hbs,hl4,c4,c5,c6,aT,aX,bI,bU,aQ,bF,aU,bH,dH,dP]))),bl,bs,dH.2.2.2.2,by rw[yD Bg],hbs,rfl⟩
end Go.Proofs.YtbhamhhjicehaaaGreatDoor.File
/- file's reference, Do: what it comes to. -/
namespace Go.Proofs.YtbhamhhjicehaaaGreatDoor.File
open Go Go.AX Go.Proofs Ty
set_option maxHeartbeats 4000000
def nX (r:Rc):Prop:=(0≤r.1∧r.1≤255)∧(0≤r.2.1∧r.2.1≤255)∧(0≤r.2.2.1∧r.2.2.1≤255)∧(0≤r.2.2.2∧r.2.2.2≤255)
theorem acj (r:Rc):(enc r)[0]?=some (.int .u8 r.1):=rfl
theorem acn (r:Rc):(enc r)[1]?=some (.int .u8 r.2.1):=rfl
theorem aco (r:Rc):(enc r)[2]?=some (.int .u8 r.2.2.1):=rfl
theorem acp (r:Rc):(enc r)[3]?=some (.int .u8 r.2.2.2):=rfl
theorem V9 {p:Int} (n:Int) (h0:0≤p) (h1:p≤7) (hn:0<n):(IntKind.i64.wrap (p.tdiv n)).tmod 2=p / n % 2:=by
 have a:0≤p / n:=Int.ediv_nonneg h0 (by omega)
 have b:p / n≤p:=Int.ediv_le_self n h0
 rw[Int.tdiv_eq_ediv_of_nonneg h0,eH (by omega) (by omega),Int.tmod_eq_emod_of_nonneg a]
theorem u8w (x:Int):IntKind.u8.wrap x=x % 256:=rfl
theorem acr (x:Int):IntKind.u32.wrap x=x % 4294967296:=rfl
theorem X7 {r:Rc} (h:nX r):enc (Dh.nextR r)=[.int .u8 ((r.1*16777216+r.2.1*65536+r.2.2.1*256+r.2.2.2+1) % 4294967296 / 16777216),.int .u8 ((r.1*16777216+r.2.1*65536+r.2.2.1*256+r.2.2.2+1) / 65536 % 256),.int .u8 ((r.1*16777216+r.2.1*65536+r.2.2.1*256+r.2.2.2+1) / 256 % 256),.int .u8 ((r.1*16777216+r.2.1*65536+r.2.2.1*256+r.2.2.2+1) % 256)]:=by
 obtain⟨x0,x1,x2,x3⟩:=r
 obtain⟨⟨a0,a1⟩,⟨b0,b1⟩,⟨c0,c1⟩,⟨d0,d1⟩⟩:=h
 simp only at a0 a1 b0 b1 c0 c1 d0 d1
 unfold Dh.nextR
 simp only[Dh.inc,Dh.at_,u8w,ne_eq]
 split
 ·simp only[enc,List.cons.injEq,Value.int.injEq,true_and,and_true];omega
 ·split
  ·simp only[enc,List.cons.injEq,Value.int.injEq,true_and,and_true];omega
  ·split
   ·simp only[enc,List.cons.injEq,Value.int.injEq,true_and,and_true];omega
   ·simp only[enc,List.cons.injEq,Value.int.injEq,true_and,and_true];omega
theorem agy {r:Rc} (h:nX r):IntKind.u32.wrap (IntKind.u32.wrap (IntKind.u32.wrap (IntKind.u32.wrap (IntKind.u32.wrap (IntKind.u32.wrap r.1*16777216)+IntKind.u32.wrap (IntKind.u32.wrap r.2.1*65536))+IntKind.u32.wrap (IntKind.u32.wrap r.2.2.1*256))+IntKind.u32.wrap r.2.2.2)+1)=(r.1*16777216+r.2.1*65536+r.2.2.1*256+r.2.2.2+1) % 4294967296:=by
 obtain⟨x0,x1,x2,x3⟩:=r
 obtain⟨⟨a0,a1⟩,⟨b0,b1⟩,⟨c0,c1⟩,⟨d0,d1⟩⟩:=h
 simp only at a0 a1 b0 b1 c0 c1 d0 d1
 simp only[acr]
 omega
theorem RV {L:List Rc} {i:Nat} {r:Rc} (h:nX r) (hi:i<L.length):(((((L.map enc).flatten.set (i*4) (.int .u8 (IntKind.u8.wrap (IntKind.u32.wrap ((IntKind.u32.wrap (IntKind.u32.wrap (IntKind.u32.wrap (IntKind.u32.wrap (IntKind.u32.wrap (IntKind.u32.wrap r.1*16777216)+IntKind.u32.wrap (IntKind.u32.wrap r.2.1*65536))+IntKind.u32.wrap (IntKind.u32.wrap r.2.2.1*256))+IntKind.u32.wrap r.2.2.2)+1)).tdiv 16777216))))).set (i*4+1) (.int .u8 (IntKind.u8.wrap ((IntKind.u32.wrap ((IntKind.u32.wrap (IntKind.u32.wrap (IntKind.u32.wrap (IntKind.u32.wrap (IntKind.u32.wrap (IntKind.u32.wrap r.1*16777216)+IntKind.u32.wrap (IntKind.u32.wrap r.2.1*65536))+IntKind.u32.wrap (IntKind.u32.wrap r.2.2.1*256))+IntKind.u32.wrap r.2.2.2)+1)).tdiv 65536)).tmod 256)))).set (i*4+1+1) (.int .u8 (IntKind.u8.wrap ((IntKind.u32.wrap ((IntKind.u32.wrap (IntKind.u32.wrap (IntKind.u32.wrap (IntKind.u32.wrap (IntKind.u32.wrap (IntKind.u32.wrap r.1*16777216)+IntKind.u32.wrap (IntKind.u32.wrap r.2.1*65536))+IntKind.u32.wrap (IntKind.u32.wrap r.2.2.1*256))+IntKind.u32.wrap r.2.2.2)+1)).tdiv 256)).tmod 256)))).set (i*4+1+1+1) (.int .u8 (IntKind.u8.wrap ((IntKind.u32.wrap (IntKind.u32.wrap (IntKind.u32.wrap (IntKind.u32.wrap (IntKind.u32.wrap (IntKind.u32.wrap r.1*16777216)+IntKind.u32.wrap (IntKind.u32.wrap r.2.1*65536))+IntKind.u32.wrap (IntKind.u32.wrap r.2.2.1*256))+IntKind.u32.wrap r.2.2.2)+1)).tmod 256))))=((L.set i (Dh.nextR r)).map enc).flatten:=by
 rw[agy h,←LQ (Dh.nextR r) hi,X7 h]
 obtain⟨x0,x1,x2,x3⟩:=r
 obtain⟨⟨a0,a1⟩,⟨b0,b1⟩,⟨c0,c1⟩,⟨d0,d1⟩⟩:=h
 simp only at a0 a1 b0 b1 c0 c1 d0 d1
 have hn:0≤x0*16777216+x1*65536+x2*256+x3+1:=by omega
 generalize x0*16777216+x1*65536+x2*256+x3+1=N at hn ⊢
 have hm:0≤N % 4294967296:=by omega
 simp only[iO,u8w,acr]
 have e1:((N % 4294967296).tdiv 16777216 % 4294967296 % 256)=N % 4294967296 / 16777216:=by
  rw[Int.tdiv_eq_ediv_of_nonneg hm];omega
 have e2:(((N % 4294967296).tdiv 65536 % 4294967296).tmod 256) % 256=N / 65536 % 256:=by
  rw[Int.tdiv_eq_ediv_of_nonneg hm,Int.tmod_eq_emod_of_nonneg (by omega)];omega
 have e3:(((N % 4294967296).tdiv 256 % 4294967296).tmod 256) % 256=N / 256 % 256:=by
  rw[Int.tdiv_eq_ediv_of_nonneg hm,Int.tmod_eq_emod_of_nonneg (by omega)];omega
 have e4:((N % 4294967296).tmod 256) % 256=N % 256:=by
  rw[Int.tmod_eq_emod_of_nonneg hm];omega
 rw[e1,e2,e3,e4]
theorem nK {p op rec:Int} {R:List Rc} (g:iG p R=true) (a:¬ op<0) (a2:¬ 2<op) (b1:¬ rec<0) (b2:¬ (R.length:Int)≤rec) (c0:¬ rec=0):jJ p R op rec=if p / qF op % 2=0 then 5 else 0:=by
 unfold jJ
 rw[if_neg (by rw[g];decide),if_neg (by omega),if_neg (by omega),if_neg c0]
theorem Fv {p op:Int} {R:List Rc} (g:iG p R=true) (a:¬ op<0) (a2:¬ 2<op) (b2:R.length≠0):jJ p R op 0=if op=0 then 0 else 5:=by
 unfold jJ
 rw[if_neg (by rw[g];decide),if_neg (by omega),if_neg (by omega),if_pos rfl]
theorem PN (p op rec:Int) (R:List Rc) (v:Rc) (base:Option Addr) (cap:Nat) (H:AH) (hs:bG H 4 base cap (R.map enc)) (hm:¬ jJ p R op rec=0) :
  aO Tryz.prog 120 #[fv p base R.length cap,.int .i64 op,.int .i64 rec,.agg (enc v).toArray] H (fun v H'=>v=V8 (jJ p R op rec)∧H=H'):=by
 unfold fv
 have hg:=fun H1 (h1:bG H1 4 base cap (R.map enc))=>jX p R base cap H1 h1
 unfold fv at hg
 refine aO.cu Tryz.func120 rfl Tryz.ntmps120 Tryz.results120 (by simp) ?_;simp -dsimp(maxSteps:=4000000) only[go_sem]
 refine bY.mk fun b4 jr=>?_;have aT:=jr;(try simp only[ah,aj,ne_eq]at aT);have aX:=aT;(try simp only[@eq_comm Nat b4]at aX);simp -dsimp(maxSteps:=4000000) only[aT,aX,go_sem]
 refine bY.mk fun b7 jM=>?_;have bI:=jM;(try simp only[ah,aj,ne_eq]at bI);have bU:=bI;(try simp only[@eq_comm Nat b7]at bU);simp -dsimp(maxSteps:=4000000) only[aT,aX,bI,bU,go_sem]
 refine bY.mk fun b8 lF=>?_;have aQ:=lF;(try simp only[ah,aj,ne_eq]at aQ);have bF:=aQ;(try simp only[@eq_comm Nat b8]at bF);simp -dsimp(maxSteps:=4000000) only[aT,aX,bI,bU,aQ,bF,go_sem]
 refine bY.mk fun b9 iI=>?_;have aU:=iI;(try simp only[ah,aj,ne_eq]at aU);have bH:=aU;(try simp only[@eq_comm Nat b9]at bH);simp -dsimp(maxSteps:=4000000) only[aT,aX,bI,bU,aQ,bF,aU,bH,go_sem]
 refine bY.mk fun b11 jd=>?_;have aZ:=jd;(try simp only[ah,aj,ne_eq]at aZ);have bK:=aZ;(try simp only[@eq_comm Nat b11]at bK);simp -dsimp(maxSteps:=4000000) only[aT,aX,bI,bU,aQ,bF,aU,bH,aZ,bK,go_sem]
 refine(hg _ (((((hs.add (by simp only[ah,ne_eq,aT,not_false_eq_true,and_self]:aG _ b4)).add (by simp only[ah,ne_eq,bI,not_false_eq_true,and_self]:aG _ b7)).add (by simp only[ah,ne_eq,aQ,not_false_eq_true,and_self]:aG _ b8)).add (by simp only[ah,ne_eq,aU,not_false_eq_true,and_self]:aG _ b9)).add (by simp only[ah,ne_eq,aZ,not_false_eq_true,and_self]:aG _ b11))).mono ?_;rintro _ _ ⟨rfl,rfl⟩
 by_cases g:iG p R=true
 ·obtain⟨h0,h1,h2,h3⟩:=Bv g
  by_cases a:op<0
  ·simp -dsimp(maxSteps:=4000000) only[g,a,aT,aX,bI,bU,aQ,bF,aU,bH,aZ,bK,go_sem]
   exact⟨H,(AH.aK (AH.aK (AH.aK (AH.aK (AH.aK (AH.le_refl _) ((by simp only[ah,aj,ne_eq,aT,not_false_eq_true,and_self]:aG _ b4).2)) ((by simp only[ah,aj,ne_eq,bI,not_false_eq_true,and_self]:aG _ b7).2)) ((by simp only[ah,aj,ne_eq,aQ,not_false_eq_true,and_self]:aG _ b8).2)) ((by simp only[ah,aj,ne_eq,aU,not_false_eq_true,and_self]:aG _ b9).2)) ((by simp only[ah,aj,ne_eq,aZ,not_false_eq_true,and_self]:aG _ b11).2)),(by first | exact⟨by simp[jJ,g,a];rfl,rfl⟩ | rfl)⟩
  by_cases a2:2<op
  ·simp -dsimp(maxSteps:=4000000) only[g,a,a2,aT,aX,bI,bU,aQ,bF,aU,bH,aZ,bK,go_sem]
   exact⟨H,(AH.aK (AH.aK (AH.aK (AH.aK (AH.aK (AH.le_refl _) ((by simp only[ah,aj,ne_eq,aT,not_false_eq_true,and_self]:aG _ b4).2)) ((by simp only[ah,aj,ne_eq,bI,not_false_eq_true,and_self]:aG _ b7).2)) ((by simp only[ah,aj,ne_eq,aQ,not_false_eq_true,and_self]:aG _ b8).2)) ((by simp only[ah,aj,ne_eq,aU,not_false_eq_true,and_self]:aG _ b9).2)) ((by simp only[ah,aj,ne_eq,aZ,not_false_eq_true,and_self]:aG _ b11).2)),(by first | exact⟨by simp[jJ,g,a2];rfl,rfl⟩ | rfl)⟩
  have aa:¬ (op<0∨2<op):=by omega
  by_cases b1:rec<0
  ·simp -dsimp(maxSteps:=4000000) only[g,a,a2,b1,aT,aX,bI,bU,aQ,bF,aU,bH,aZ,bK,go_sem]
   exact⟨H,(AH.aK (AH.aK (AH.aK (AH.aK (AH.aK (AH.le_refl _) ((by simp only[ah,aj,ne_eq,aT,not_false_eq_true,and_self]:aG _ b4).2)) ((by simp only[ah,aj,ne_eq,bI,not_false_eq_true,and_self]:aG _ b7).2)) ((by simp only[ah,aj,ne_eq,aQ,not_false_eq_true,and_self]:aG _ b8).2)) ((by simp only[ah,aj,ne_eq,aU,not_false_eq_true,and_self]:aG _ b9).2)) ((by simp only[ah,aj,ne_eq,aZ,not_false_eq_true,and_self]:aG _ b11).2)),(by first | exact⟨by simp[jJ,g,a,a2,b1];rfl,rfl⟩ | rfl)⟩
  by_cases b2:(R.length:Int)≤rec
  ·simp -dsimp(maxSteps:=4000000) only[g,a,a2,b1,b2,aT,aX,bI,bU,aQ,bF,aU,bH,aZ,bK,go_sem]
   exact⟨H,(AH.aK (AH.aK (AH.aK (AH.aK (AH.aK (AH.le_refl _) ((by simp only[ah,aj,ne_eq,aT,not_false_eq_true,and_self]:aG _ b4).2)) ((by simp only[ah,aj,ne_eq,bI,not_false_eq_true,and_self]:aG _ b7).2)) ((by simp only[ah,aj,ne_eq,aQ,not_false_eq_true,and_self]:aG _ b8).2)) ((by simp only[ah,aj,ne_eq,aU,not_false_eq_true,and_self]:aG _ b9).2)) ((by simp only[ah,aj,ne_eq,aZ,not_false_eq_true,and_self]:aG _ b11).2)),(by first | exact⟨by simp[jJ,g,a,a2,b2];rfl,rfl⟩ | rfl)⟩
  simp -dsimp(maxSteps:=4000000) only[g,a,a2,b1,b2,aT,aX,bI,bU,aQ,bF,aU,bH,aZ,bK,go_sem]
  by_cases c0:rec=0
  ·subst c0
   rcases(by omega:op=0∨op=1∨op=2) with rfl | rfl | rfl
   ·exact absurd (by simp[jJ,g,h2]) hm
   ·
    refine bY.mk fun bn oG=>?_;have dL:=oG;(try simp only[ah,aj,ne_eq]at dL);have dR:=dL;(try simp only[@eq_comm Nat bn]at dR);simp -dsimp(maxSteps:=4000000) only[aT,aX,bI,bU,aQ,bF,aU,bH,aZ,bK,dL,dR,go_sem]
    exact⟨H,(AH.aK (AH.aK (AH.aK (AH.aK (AH.aK (AH.aK (AH.le_refl _) ((by simp only[ah,aj,ne_eq,aT,not_false_eq_true,and_self]:aG _ b4).2)) ((by simp only[ah,aj,ne_eq,bI,not_false_eq_true,and_self]:aG _ b7).2)) ((by simp only[ah,aj,ne_eq,aQ,not_false_eq_true,and_self]:aG _ b8).2)) ((by simp only[ah,aj,ne_eq,aU,not_false_eq_true,and_self]:aG _ b9).2)) ((by simp only[ah,aj,ne_eq,aZ,not_false_eq_true,and_self]:aG _ b11).2)) ((by simp only[ah,aj,ne_eq,dL,not_false_eq_true,and_self]:aG _ bn).2)),(by first | exact⟨by simp[jJ,g,h2];rfl,rfl⟩ | rfl)⟩
   ·
    refine bY.mk fun bn oG=>?_;have dL:=oG;(try simp only[ah,aj,ne_eq]at dL);have dR:=dL;(try simp only[@eq_comm Nat bn]at dR);simp -dsimp(maxSteps:=4000000) only[aT,aX,bI,bU,aQ,bF,aU,bH,aZ,bK,dL,dR,go_sem]
    exact⟨H,(AH.aK (AH.aK (AH.aK (AH.aK (AH.aK (AH.aK (AH.le_refl _) ((by simp only[ah,aj,ne_eq,aT,not_false_eq_true,and_self]:aG _ b4).2)) ((by simp only[ah,aj,ne_eq,bI,not_false_eq_true,and_self]:aG _ b7).2)) ((by simp only[ah,aj,ne_eq,aQ,not_false_eq_true,and_self]:aG _ b8).2)) ((by simp only[ah,aj,ne_eq,aU,not_false_eq_true,and_self]:aG _ b9).2)) ((by simp only[ah,aj,ne_eq,aZ,not_false_eq_true,and_self]:aG _ b11).2)) ((by simp only[ah,aj,ne_eq,dL,not_false_eq_true,and_self]:aG _ bn).2)),(by first | exact⟨by simp[jJ,g,h2];rfl,rfl⟩ | rfl)⟩
  have c1:0<rec:=by omega
  rcases(by omega:op=0∨op=1∨op=2) with rfl | rfl | rfl
  ·
   by_cases d:p / 1 % 2=0
   ·have d':p / qF 0 % 2=0:=d
    have hq:=V9 1 h0 h1 (by omega)
    refine bY.mk fun bn oG=>?_;have dL:=oG;(try simp only[ah,aj,ne_eq]at dL);have dR:=dL;(try simp only[@eq_comm Nat bn]at dR);simp -dsimp(maxSteps:=4000000) only[aT,aX,bI,bU,aQ,bF,aU,bH,aZ,bK,dL,dR,go_sem]
    simp -dsimp(maxSteps:=4000000) only[c0,c1,hq,d,aT,aX,bI,bU,aQ,bF,aU,bH,aZ,bK,dL,dR,go_sem]
    exact⟨H,(AH.aK (AH.aK (AH.aK (AH.aK (AH.aK (AH.aK (AH.le_refl _) ((by simp only[ah,aj,ne_eq,aT,not_false_eq_true,and_self]:aG _ b4).2)) ((by simp only[ah,aj,ne_eq,bI,not_false_eq_true,and_self]:aG _ b7).2)) ((by simp only[ah,aj,ne_eq,aQ,not_false_eq_true,and_self]:aG _ b8).2)) ((by simp only[ah,aj,ne_eq,aU,not_false_eq_true,and_self]:aG _ b9).2)) ((by simp only[ah,aj,ne_eq,aZ,not_false_eq_true,and_self]:aG _ b11).2)) ((by simp only[ah,aj,ne_eq,dL,not_false_eq_true,and_self]:aG _ bn).2)),(by first | exact⟨by rw[nK g a a2 b1 b2 c0,if_pos d'];rfl,rfl⟩ | rfl)⟩
   ·have d':¬ p / qF 0 % 2=0:=d
    exact absurd (by rw[nK g a a2 b1 b2 c0,if_neg d']) hm
  ·
   by_cases d:p / 2 % 2=0
   ·have d':p / qF 1 % 2=0:=d
    have hq:=V9 2 h0 h1 (by omega)
    refine bY.mk fun bn oG=>?_;have dL:=oG;(try simp only[ah,aj,ne_eq]at dL);have dR:=dL;(try simp only[@eq_comm Nat bn]at dR);simp -dsimp(maxSteps:=4000000) only[aT,aX,bI,bU,aQ,bF,aU,bH,aZ,bK,dL,dR,go_sem]
    simp -dsimp(maxSteps:=4000000) only[c0,c1,hq,d,aT,aX,bI,bU,aQ,bF,aU,bH,aZ,bK,dL,dR,go_sem]
    exact⟨H,(AH.aK (AH.aK (AH.aK (AH.aK (AH.aK (AH.aK (AH.le_refl _) ((by simp only[ah,aj,ne_eq,aT,not_false_eq_true,and_self]:aG _ b4).2)) ((by simp only[ah,aj,ne_eq,bI,not_false_eq_true,and_self]:aG _ b7).2)) ((by simp only[ah,aj,ne_eq,aQ,not_false_eq_true,and_self]:aG _ b8).2)) ((by simp only[ah,aj,ne_eq,aU,not_false_eq_true,and_self]:aG _ b9).2)) ((by simp only[ah,aj,ne_eq,aZ,not_false_eq_true,and_self]:aG _ b11).2)) ((by simp only[ah,aj,ne_eq,dL,not_false_eq_true,and_self]:aG _ bn).2)),(by first | exact⟨by rw[nK g a a2 b1 b2 c0,if_pos d'];rfl,rfl⟩ | rfl)⟩
   ·have d':¬ p / qF 1 % 2=0:=d
    exact absurd (by rw[nK g a a2 b1 b2 c0,if_neg d']) hm
  ·
   by_cases d:p / 4 % 2=0
   ·have d':p / qF 2 % 2=0:=d
    have hq:=V9 4 h0 h1 (by omega)
    refine bY.mk fun bn oG=>?_;have dL:=oG;(try simp only[ah,aj,ne_eq]at dL);have dR:=dL;(try simp only[@eq_comm Nat bn]at dR);simp -dsimp(maxSteps:=4000000) only[aT,aX,bI,bU,aQ,bF,aU,bH,aZ,bK,dL,dR,go_sem]
    simp -dsimp(maxSteps:=4000000) only[c0,c1,hq,d,aT,aX,bI,bU,aQ,bF,aU,bH,aZ,bK,dL,dR,go_sem]
    exact⟨H,(AH.aK (AH.aK (AH.aK (AH.aK (AH.aK (AH.aK (AH.le_refl _) ((by simp only[ah,aj,ne_eq,aT,not_false_eq_true,and_self]:aG _ b4).2)) ((by simp only[ah,aj,ne_eq,bI,not_false_eq_true,and_self]:aG _ b7).2)) ((by simp only[ah,aj,ne_eq,aQ,not_false_eq_true,and_self]:aG _ b8).2)) ((by simp only[ah,aj,ne_eq,aU,not_false_eq_true,and_self]:aG _ b9).2)) ((by simp only[ah,aj,ne_eq,aZ,not_false_eq_true,and_self]:aG _ b11).2)) ((by simp only[ah,aj,ne_eq,dL,not_false_eq_true,and_self]:aG _ bn).2)),(by first | exact⟨by rw[nK g a a2 b1 b2 c0,if_pos d'];rfl,rfl⟩ | rfl)⟩
   ·have d':¬ p / qF 2 % 2=0:=d
    exact absurd (by rw[nK g a a2 b1 b2 c0,if_neg d']) hm
 ·have g':iG p R=false:=by simpa using g
  simp -dsimp(maxSteps:=4000000) only[g',aT,aX,bI,bU,aQ,bF,aU,bH,aZ,bK,go_sem]
  exact⟨H,(AH.aK (AH.aK (AH.aK (AH.aK (AH.aK (AH.le_refl _) ((by simp only[ah,aj,ne_eq,aT,not_false_eq_true,and_self]:aG _ b4).2)) ((by simp only[ah,aj,ne_eq,bI,not_false_eq_true,and_self]:aG _ b7).2)) ((by simp only[ah,aj,ne_eq,aQ,not_false_eq_true,and_self]:aG _ b8).2)) ((by simp only[ah,aj,ne_eq,aU,not_false_eq_true,and_self]:aG _ b9).2)) ((by simp only[ah,aj,ne_eq,aZ,not_false_eq_true,and_self]:aG _ b11).2)),(by first | exact⟨by simp[jJ,g'];rfl,rfl⟩ | rfl)⟩
theorem RX (p op:Int) (rec:Nat) (R:List Rc) (v:Rc) (base:Option Addr) (cap:Nat) (H:AH) (hs:bG H 4 base cap (R.map enc)) (hw:∀ r∈R,nX r) (hm:jJ p R op rec=0) :
  aO Tryz.prog 120 #[fv p base R.length cap,.int .i64 op,.int .i64 rec,.agg (enc v).toArray] H (fun x H'=>∃ b c bs,aG H b∧x=.tuple #[fv p (some ⟨b,0,none⟩) R.length c,.agg (enc ((vX R op rec v).getD rec zr)).toArray,.int .i64 0]∧R.length≤c∧R.length*4≤bs∧H'=H.add b (.cells ((vX R op rec v).map enc).flatten 76 bs)):=by
 obtain⟨hgd,ho0,ho1,hr0,hr1,hR,hp0,hp1⟩:=GN hm
 obtain⟨r0,Bg⟩:=get_some (l:=R) (i:=rec) (by omega)
 have hl4:=rM R
 have c4:rec*4+4≤R.length*4:=by omega
 have c5:0+(rec*4)+4≤R.length*4:=by omega
 have c6:0+(R.length*4)≤R.length*4:=by omega
 have a1:¬ op<0:=by omega
 have a2:¬ 2<op:=by omega
 have b1:¬ (rec:Int)<0:=by omega
 have b2:¬ (R.length:Int)≤rec:=by omega
 unfold fv
 have hg:=fun H1 (h1:bG H1 4 base cap (R.map enc))=>jX p R base cap H1 h1
 unfold fv at hg
 refine aO.cu Tryz.func120 rfl Tryz.ntmps120 Tryz.results120 (by simp) ?_;simp -dsimp(maxSteps:=4000000) only[a1,a2,b1,b2,hgd,hr1,au,ak,aW,dD,hl4,c4,c5,c6,go_sem]
 refine bY.mk fun b4 jr=>?_;have aT:=jr;(try simp only[ah,aj,ne_eq]at aT);have aX:=aT;(try simp only[@eq_comm Nat b4]at aX);simp -dsimp(maxSteps:=4000000) only[a1,a2,b1,b2,hgd,hr1,au,ak,aW,dD,hl4,c4,c5,c6,aT,aX,go_sem]
 refine bY.mk fun b7 jM=>?_;have bI:=jM;(try simp only[ah,aj,ne_eq]at bI);have bU:=bI;(try simp only[@eq_comm Nat b7]at bU);simp -dsimp(maxSteps:=4000000) only[a1,a2,b1,b2,hgd,hr1,au,ak,aW,dD,hl4,c4,c5,c6,aT,aX,bI,bU,go_sem]
 refine bY.mk fun b8 lF=>?_;have aQ:=lF;(try simp only[ah,aj,ne_eq]at aQ);have bF:=aQ;(try simp only[@eq_comm Nat b8]at bF);simp -dsimp(maxSteps:=4000000) only[a1,a2,b1,b2,hgd,hr1,au,ak,aW,dD,hl4,c4,c5,c6,aT,aX,bI,bU,aQ,bF,go_sem]
 refine bY.mk fun b9 iI=>?_;have aU:=iI;(try simp only[ah,aj,ne_eq]at aU);have bH:=aU;(try simp only[@eq_comm Nat b9]at bH);simp -dsimp(maxSteps:=4000000) only[a1,a2,b1,b2,hgd,hr1,au,ak,aW,dD,hl4,c4,c5,c6,aT,aX,bI,bU,aQ,bF,aU,bH,go_sem]
 refine bY.mk fun b11 jd=>?_;have aZ:=jd;(try simp only[ah,aj,ne_eq]at aZ);have bK:=aZ;(try simp only[@eq_comm Nat b11]at bK);simp -dsimp(maxSteps:=4000000) only[a1,a2,b1,b2,hgd,hr1,au,ak,aW,dD,hl4,c4,c5,c6,aT,aX,bI,bU,aQ,bF,aU,bH,aZ,bK,go_sem]
 refine(hg _ (((((hs.add (by simp only[ah,ne_eq,aT,not_false_eq_true,and_self]:aG _ b4)).add (by simp only[ah,ne_eq,bI,not_false_eq_true,and_self]:aG _ b7)).add (by simp only[ah,ne_eq,aQ,not_false_eq_true,and_self]:aG _ b8)).add (by simp only[ah,ne_eq,aU,not_false_eq_true,and_self]:aG _ b9)).add (by simp only[ah,ne_eq,aZ,not_false_eq_true,and_self]:aG _ b11))).mono ?_;rintro _ _ ⟨rfl,rfl⟩
 simp -dsimp(maxSteps:=4000000) only[a1,a2,b1,b2,hgd,hr1,au,ak,aW,dD,hl4,c4,c5,c6,aT,aX,bI,bU,aQ,bF,aU,bH,aZ,bK,go_sem]
 have hq:=fun n hn=>V9 (p:=p) n hp0 hp1 hn
 have hmq:¬ (rec:Int)=0→¬ p / qF op % 2=0:=fun h0 hd=>by
  rw[nK hgd a1 a2 b1 b2 h0,if_pos hd]at hm;cases hm
 have hm0:(rec:Int)=0→op=0:=fun h0=>by
  rw[h0,Fv hgd a1 a2 (by omega)]at hm
  by_cases hz:op=0
  ·exact hz
  ·rw[if_neg hz]at hm;cases hm
 by_cases c0:(rec:Int)=0
 ·obtain rfl:=hm0 c0
  refine bY.mk fun bn oG=>?_;have dL:=oG;(try simp only[ah,aj,ne_eq]at dL);have dR:=dL;(try simp only[@eq_comm Nat bn]at dR);simp -dsimp(maxSteps:=4000000) only[a1,a2,b1,b2,hgd,hr1,au,ak,aW,dD,hl4,c4,c5,c6,aT,aX,bI,bU,aQ,bF,aU,bH,aZ,bK,dL,dR,go_sem]
  simp -dsimp(maxSteps:=4000000) only[c0,a1,a2,b1,b2,hgd,hr1,au,ak,aW,dD,hl4,c4,c5,c6,aT,aX,bI,bU,aQ,bF,aU,bH,aZ,bK,dL,dR,go_sem]
  refine fZ.gen [.pu,.rd,.al,.pu,.rd,.ch,.pu,.al,.ch] [0,1,0,0,8,28,63,0,255] 6 (_) mixed (by kernel_rfl) (AH.le_refl _) ?_
  simp -dsimp(maxSteps:=4000000) only[a1,a2,b1,b2,hgd,hr1,au,ak,aW,dD,hl4,c4,c5,c6,aT,aX,bI,bU,aQ,bF,aU,bH,aZ,bK,dL,dR,go_sem]
  refine bY.mk fun be Dk=>?_;have fV:=Dk;(try simp only[ah,aj,ne_eq]at fV);have gq:=fV;(try simp only[@eq_comm Nat be]at gq);simp -dsimp(maxSteps:=4000000) only[a1,a2,b1,b2,hgd,hr1,au,ak,aW,dD,hl4,c4,c5,c6,aT,aX,bI,bU,aQ,bF,aU,bH,aZ,bK,dL,dR,fV,gq,go_sem]
  refine lS.clone (new:=(R.map enc).flatten) (m:=R.length) C9 rfl (by decide) (by rw[Tryz.underlying63];rfl) Dk rfl (((((((hs.add (by simp only[ah,ne_eq,aT,not_false_eq_true,and_self]:aG _ b4)).add (by simp only[ah,ne_eq,bI,not_false_eq_true,and_self]:aG _ b7)).add (by simp only[ah,ne_eq,aQ,not_false_eq_true,and_self]:aG _ b8)).add (by simp only[ah,ne_eq,aU,not_false_eq_true,and_self]:aG _ b9)).add (by simp only[ah,ne_eq,aZ,not_false_eq_true,and_self]:aG _ b11)).add (by simp only[ah,ne_eq,dL,not_false_eq_true,and_self]:aG _ bn)).nC (lg R) (by decide) (by simp) (.inl (by intro e;rw[List.map_eq_nil_iff.1 e]at hr1;simp at hr1;omega))) (Fg R) (by omega) fun bl c_ bs iR hcl LU=>?_
  have hc4:R.length*4≤bs:=Nat.le_trans (Nat.mul_le_mul_right _ hcl) LU
  have dH:=iR;(try simp only[ah,aj,ne_eq]at dH);have dP:=dH;(try simp only[@eq_comm Nat bl]at dP)
  simp -dsimp(maxSteps:=4000000) only[a1,a2,b1,b2,hgd,hr1,au,ak,aW,dD,hl4,c4,c5,c6,aT,aX,bI,bU,aQ,bF,aU,bH,aZ,bK,dL,dR,fV,gq,dH,dP,go_sem]
  refine⟨AH.aK (AH.le_refl _) iR.2,?_⟩
  refine bY.mk fun b13 jF=>?_;have dM:=jF;(try simp only[ah,aj,ne_eq]at dM);have dQ:=dM;(try simp only[@eq_comm Nat b13]at dQ);simp -dsimp(maxSteps:=4000000) only[a1,a2,b1,b2,hgd,hr1,au,ak,aW,dD,hl4,c4,c5,c6,aT,aX,bI,bU,aQ,bF,aU,bH,aZ,bK,dL,dR,fV,gq,dH,dP,dM,dQ,go_sem]
  have hrow:=row4 Bg
  have hs_:=Bg
  have hd1:vX R 0 rec v=R:=rfl
  refine fZ.gen [.rd,.pu,.rd,.pu,.pu,.rd,.ch,.ch,.pu] [0,0,2,0,14,30,1,127,255] 7 ((H.add bl (.cells ((R).map enc).flatten 76 bs)).add b13 (.cells [.int .i64 p,.slice (some ⟨bl,0,none⟩) R.length c_] 65 2)) mixed (by kernel_rfl) (?_) ?_
  ·exact(by refine AH.eU ?_ ?_;(show AH.find _ _=_;simp only[aH,aN,aV,ah,aj,ne_eq,not_false_eq_true,true_and,and_true,and_self,a1,a2,b1,b2,hgd,hr1,au,ak,aW,dD,hl4,c4,c5,c6,aT,aX,bI,bU,aQ,bF,aU,bH,aZ,bK,dL,dR,fV,gq,dH,dP,dM,dQ]);refine AH.eU ?_ ?_;(show AH.find _ _=_;simp only[aH,aN,aV,ah,aj,ne_eq,not_false_eq_true,true_and,and_true,and_self,a1,a2,b1,b2,hgd,hr1,au,ak,aW,dD,hl4,c4,c5,c6,aT,aX,bI,bU,aQ,bF,aU,bH,aZ,bK,dL,dR,fV,gq,dH,dP,dM,dQ]);(repeat (first | exact AH.le_refl _ | refine AH.aK ?_ ?_));all_goals (first | exact AH.le_refl _ | (show AH.find _ _=_;simp only[aH,aN,aV,ah,aj,ne_eq,not_false_eq_true,true_and,and_true,and_self,a1,a2,b1,b2,hgd,hr1,au,ak,aW,dD,hl4,c4,c5,c6,aT,aX,bI,bU,aQ,bF,aU,bH,aZ,bK,dL,dR,fV,gq,dH,dP,dM,dQ])))
  have uT:=rM (R)
  try rw[List.length_set]at uT
  simp -dsimp(maxSteps:=4000000) only[uT,hrow,a1,a2,b1,b2,hgd,hr1,au,ak,aW,dD,hl4,c4,c5,c6,aT,aX,bI,bU,aQ,bF,aU,bH,aZ,bK,dL,dR,fV,gq,dH,dP,dM,dQ,go_sem]
  refine⟨(by refine AH.eU ?_ ?_;(show AH.find _ _=_;simp only[aH,aN,aV,ah,aj,ne_eq,not_false_eq_true,true_and,and_true,and_self,a1,a2,b1,b2,hgd,hr1,au,ak,aW,dD,hl4,c4,c5,c6,aT,aX,bI,bU,aQ,bF,aU,bH,aZ,bK,dL,dR,fV,gq,dH,dP,dM,dQ]);refine AH.eU ?_ ?_;(show AH.find _ _=_;simp only[aH,aN,aV,ah,aj,ne_eq,not_false_eq_true,true_and,and_true,and_self,a1,a2,b1,b2,hgd,hr1,au,ak,aW,dD,hl4,c4,c5,c6,aT,aX,bI,bU,aQ,bF,aU,bH,aZ,bK,dL,dR,fV,gq,dH,dP,dM,dQ]);(repeat (first | exact AH.le_refl _ | refine AH.aK ?_ ?_));all_goals (first | exact AH.le_refl _ | (show AH.find _ _=_;simp only[aH,aN,aV,ah,aj,ne_eq,not_false_eq_true,true_and,and_true,and_self,a1,a2,b1,b2,hgd,hr1,au,ak,aW,dD,hl4,c4,c5,c6,aT,aX,bI,bU,aQ,bF,aU,bH,aZ,bK,dL,dR,fV,gq,dH,dP,dM,dQ]))),?_⟩
  rw[hd1]
  exact⟨_,(by refine AH.eU ?_ ?_;(show AH.find _ _=_;simp only[aH,aN,aV,ah,aj,ne_eq,not_false_eq_true,true_and,and_true,and_self,a1,a2,b1,b2,hgd,hr1,au,ak,aW,dD,hl4,c4,c5,c6,aT,aX,bI,bU,aQ,bF,aU,bH,aZ,bK,dL,dR,fV,gq,dH,dP,dM,dQ]);(repeat (first | exact AH.le_refl _ | refine AH.aK ?_ ?_));all_goals (first | exact AH.le_refl _ | (show AH.find _ _=_;simp only[aH,aN,aV,ah,aj,ne_eq,not_false_eq_true,true_and,and_true,and_self,a1,a2,b1,b2,hgd,hr1,au,ak,aW,dD,hl4,c4,c5,c6,aT,aX,bI,bU,aQ,bF,aU,bH,aZ,bK,dL,dR,fV,gq,dH,dP,dM,dQ]))),bl,c_,bs,dH.2.2.2.2.2.2,by rw[yD hs_],hcl,hc4,rfl⟩
 have c1:0<(rec:Int):=by omega
 rcases(by omega:op=0∨op=1∨op=2) with rfl | rfl | rfl
 ·
  have hd:¬ p / 1 % 2=0:=hmq c0
  have hq':=hq 1 (by omega)
  refine bY.mk fun bn oG=>?_;have dL:=oG;(try simp only[ah,aj,ne_eq]at dL);have dR:=dL;(try simp only[@eq_comm Nat bn]at dR);simp -dsimp(maxSteps:=4000000) only[a1,a2,b1,b2,hgd,hr1,au,ak,aW,dD,hl4,c4,c5,c6,aT,aX,bI,bU,aQ,bF,aU,bH,aZ,bK,dL,dR,go_sem]
  simp -dsimp(maxSteps:=4000000) only[c0,c1,hq',hd,a1,a2,b1,b2,hgd,hr1,au,ak,aW,dD,hl4,c4,c5,c6,aT,aX,bI,bU,aQ,bF,aU,bH,aZ,bK,dL,dR,go_sem]
  refine fZ.gen [.pu,.rd,.al,.pu,.rd,.ch,.pu,.al,.ch] [0,1,0,0,8,28,63,0,255] 6 (_) mixed (by kernel_rfl) (AH.le_refl _) ?_
  simp -dsimp(maxSteps:=4000000) only[a1,a2,b1,b2,hgd,hr1,au,ak,aW,dD,hl4,c4,c5,c6,aT,aX,bI,bU,aQ,bF,aU,bH,aZ,bK,dL,dR,go_sem]
  refine bY.mk fun be Dk=>?_;have fV:=Dk;(try simp only[ah,aj,ne_eq]at fV);have gq:=fV;(try simp only[@eq_comm Nat be]at gq);simp -dsimp(maxSteps:=4000000) only[a1,a2,b1,b2,hgd,hr1,au,ak,aW,dD,hl4,c4,c5,c6,aT,aX,bI,bU,aQ,bF,aU,bH,aZ,bK,dL,dR,fV,gq,go_sem]
  refine lS.clone (new:=(R.map enc).flatten) (m:=R.length) C9 rfl (by decide) (by rw[Tryz.underlying63];rfl) Dk rfl (((((((hs.add (by simp only[ah,ne_eq,aT,not_false_eq_true,and_self]:aG _ b4)).add (by simp only[ah,ne_eq,bI,not_false_eq_true,and_self]:aG _ b7)).add (by simp only[ah,ne_eq,aQ,not_false_eq_true,and_self]:aG _ b8)).add (by simp only[ah,ne_eq,aU,not_false_eq_true,and_self]:aG _ b9)).add (by simp only[ah,ne_eq,aZ,not_false_eq_true,and_self]:aG _ b11)).add (by simp only[ah,ne_eq,dL,not_false_eq_true,and_self]:aG _ bn)).nC (lg R) (by decide) (by simp) (.inl (by intro e;rw[List.map_eq_nil_iff.1 e]at hr1;simp at hr1;omega))) (Fg R) (by omega) fun bl c_ bs iR hcl LU=>?_
  have hc4:R.length*4≤bs:=Nat.le_trans (Nat.mul_le_mul_right _ hcl) LU
  have dH:=iR;(try simp only[ah,aj,ne_eq]at dH);have dP:=dH;(try simp only[@eq_comm Nat bl]at dP)
  simp -dsimp(maxSteps:=4000000) only[a1,a2,b1,b2,hgd,hr1,au,ak,aW,dD,hl4,c4,c5,c6,aT,aX,bI,bU,aQ,bF,aU,bH,aZ,bK,dL,dR,fV,gq,dH,dP,go_sem]
  refine⟨AH.aK (AH.le_refl _) iR.2,?_⟩
  refine bY.mk fun b13 jF=>?_;have dM:=jF;(try simp only[ah,aj,ne_eq]at dM);have dQ:=dM;(try simp only[@eq_comm Nat b13]at dQ);simp -dsimp(maxSteps:=4000000) only[a1,a2,b1,b2,hgd,hr1,au,ak,aW,dD,hl4,c4,c5,c6,aT,aX,bI,bU,aQ,bF,aU,bH,aZ,bK,dL,dR,fV,gq,dH,dP,dM,dQ,go_sem]
  have hrow:=row4 Bg
  have hs_:=Bg
  have hd1:vX R 0 rec v=R:=rfl
  refine fZ.gen [.rd,.pu,.rd,.pu,.pu,.rd,.ch,.ch,.pu] [0,0,2,0,14,30,1,127,255] 7 ((H.add bl (.cells ((R).map enc).flatten 76 bs)).add b13 (.cells [.int .i64 p,.slice (some ⟨bl,0,none⟩) R.length c_] 65 2)) mixed (by kernel_rfl) (?_) ?_
  ·exact(by refine AH.eU ?_ ?_;(show AH.find _ _=_;simp only[aH,aN,aV,ah,aj,ne_eq,not_false_eq_true,true_and,and_true,and_self,a1,a2,b1,b2,hgd,hr1,au,ak,aW,dD,hl4,c4,c5,c6,aT,aX,bI,bU,aQ,bF,aU,bH,aZ,bK,dL,dR,fV,gq,dH,dP,dM,dQ]);refine AH.eU ?_ ?_;(show AH.find _ _=_;simp only[aH,aN,aV,ah,aj,ne_eq,not_false_eq_true,true_and,and_true,and_self,a1,a2,b1,b2,hgd,hr1,au,ak,aW,dD,hl4,c4,c5,c6,aT,aX,bI,bU,aQ,bF,aU,bH,aZ,bK,dL,dR,fV,gq,dH,dP,dM,dQ]);(repeat (first | exact AH.le_refl _ | refine AH.aK ?_ ?_));all_goals (first | exact AH.le_refl _ | (show AH.find _ _=_;simp only[aH,aN,aV,ah,aj,ne_eq,not_false_eq_true,true_and,and_true,and_self,a1,a2,b1,b2,hgd,hr1,au,ak,aW,dD,hl4,c4,c5,c6,aT,aX,bI,bU,aQ,bF,aU,bH,aZ,bK,dL,dR,fV,gq,dH,dP,dM,dQ])))
  have uT:=rM (R)
  try rw[List.length_set]at uT
  simp -dsimp(maxSteps:=4000000) only[uT,hrow,a1,a2,b1,b2,hgd,hr1,au,ak,aW,dD,hl4,c4,c5,c6,aT,aX,bI,bU,aQ,bF,aU,bH,aZ,bK,dL,dR,fV,gq,dH,dP,dM,dQ,go_sem]
  refine⟨(by refine AH.eU ?_ ?_;(show AH.find _ _=_;simp only[aH,aN,aV,ah,aj,ne_eq,not_false_eq_true,true_and,and_true,and_self,a1,a2,b1,b2,hgd,hr1,au,ak,aW,dD,hl4,c4,c5,c6,aT,aX,bI,bU,aQ,bF,aU,bH,aZ,bK,dL,dR,fV,gq,dH,dP,dM,dQ]);refine AH.eU ?_ ?_;(show AH.find _ _=_;simp only[aH,aN,aV,ah,aj,ne_eq,not_false_eq_true,true_and,and_true,and_self,a1,a2,b1,b2,hgd,hr1,au,ak,aW,dD,hl4,c4,c5,c6,aT,aX,bI,bU,aQ,bF,aU,bH,aZ,bK,dL,dR,fV,gq,dH,dP,dM,dQ]);(repeat (first | exact AH.le_refl _ | refine AH.aK ?_ ?_));all_goals (first | exact AH.le_refl _ | (show AH.find _ _=_;simp only[aH,aN,aV,ah,aj,ne_eq,not_false_eq_true,true_and,and_true,and_self,a1,a2,b1,b2,hgd,hr1,au,ak,aW,dD,hl4,c4,c5,c6,aT,aX,bI,bU,aQ,bF,aU,bH,aZ,bK,dL,dR,fV,gq,dH,dP,dM,dQ]))),?_⟩
  rw[hd1]
  exact⟨_,(by refine AH.eU ?_ ?_;(show AH.find _ _=_;simp only[aH,aN,aV,ah,aj,ne_eq,not_false_eq_true,true_and,and_true,and_self,a1,a2,b1,b2,hgd,hr1,au,ak,aW,dD,hl4,c4,c5,c6,aT,aX,bI,bU,aQ,bF,aU,bH,aZ,bK,dL,dR,fV,gq,dH,dP,dM,dQ]);(repeat (first | exact AH.le_refl _ | refine AH.aK ?_ ?_));all_goals (first | exact AH.le_refl _ | (show AH.find _ _=_;simp only[aH,aN,aV,ah,aj,ne_eq,not_false_eq_true,true_and,and_true,and_self,a1,a2,b1,b2,hgd,hr1,au,ak,aW,dD,hl4,c4,c5,c6,aT,aX,bI,bU,aQ,bF,aU,bH,aZ,bK,dL,dR,fV,gq,dH,dP,dM,dQ]))),bl,c_,bs,dH.2.2.2.2.2.2,by rw[yD hs_],hcl,hc4,rfl⟩
 ·
  have hd:¬ p / 2 % 2=0:=hmq c0
  have hq':=hq 2 (by omega)
  refine bY.mk fun bn oG=>?_;have dL:=oG;(try simp only[ah,aj,ne_eq]at dL);have dR:=dL;(try simp only[@eq_comm Nat bn]at dR);simp -dsimp(maxSteps:=4000000) only[a1,a2,b1,b2,hgd,hr1,au,ak,aW,dD,hl4,c4,c5,c6,aT,aX,bI,bU,aQ,bF,aU,bH,aZ,bK,dL,dR,go_sem]
  simp -dsimp(maxSteps:=4000000) only[c0,c1,hq',hd,a1,a2,b1,b2,hgd,hr1,au,ak,aW,dD,hl4,c4,c5,c6,aT,aX,bI,bU,aQ,bF,aU,bH,aZ,bK,dL,dR,go_sem]
  refine fZ.gen [.pu,.rd,.al,.pu,.rd,.ch,.pu,.al,.ch] [0,1,0,0,8,28,63,0,255] 6 (_) mixed (by kernel_rfl) (AH.le_refl _) ?_
  simp -dsimp(maxSteps:=4000000) only[a1,a2,b1,b2,hgd,hr1,au,ak,aW,dD,hl4,c4,c5,c6,aT,aX,bI,bU,aQ,bF,aU,bH,aZ,bK,dL,dR,go_sem]
  refine bY.mk fun be Dk=>?_;have fV:=Dk;(try simp only[ah,aj,ne_eq]at fV);have gq:=fV;(try simp only[@eq_comm Nat be]at gq);simp -dsimp(maxSteps:=4000000) only[a1,a2,b1,b2,hgd,hr1,au,ak,aW,dD,hl4,c4,c5,c6,aT,aX,bI,bU,aQ,bF,aU,bH,aZ,bK,dL,dR,fV,gq,go_sem]
  refine lS.clone (new:=(R.map enc).flatten) (m:=R.length) C9 rfl (by decide) (by rw[Tryz.underlying63];rfl) Dk rfl (((((((hs.add (by simp only[ah,ne_eq,aT,not_false_eq_true,and_self]:aG _ b4)).add (by simp only[ah,ne_eq,bI,not_false_eq_true,and_self]:aG _ b7)).add (by simp only[ah,ne_eq,aQ,not_false_eq_true,and_self]:aG _ b8)).add (by simp only[ah,ne_eq,aU,not_false_eq_true,and_self]:aG _ b9)).add (by simp only[ah,ne_eq,aZ,not_false_eq_true,and_self]:aG _ b11)).add (by simp only[ah,ne_eq,dL,not_false_eq_true,and_self]:aG _ bn)).nC (lg R) (by decide) (by simp) (.inl (by intro e;rw[List.map_eq_nil_iff.1 e]at hr1;simp at hr1;omega))) (Fg R) (by omega) fun bl c_ bs iR hcl LU=>?_
  have hc4:R.length*4≤bs:=Nat.le_trans (Nat.mul_le_mul_right _ hcl) LU
  have dH:=iR;(try simp only[ah,aj,ne_eq]at dH);have dP:=dH;(try simp only[@eq_comm Nat bl]at dP)
  simp -dsimp(maxSteps:=4000000) only[a1,a2,b1,b2,hgd,hr1,au,ak,aW,dD,hl4,c4,c5,c6,aT,aX,bI,bU,aQ,bF,aU,bH,aZ,bK,dL,dR,fV,gq,dH,dP,go_sem]
  refine⟨AH.aK (AH.le_refl _) iR.2,?_⟩
  refine bY.mk fun b13 jF=>?_;have dM:=jF;(try simp only[ah,aj,ne_eq]at dM);have dQ:=dM;(try simp only[@eq_comm Nat b13]at dQ);simp -dsimp(maxSteps:=4000000) only[a1,a2,b1,b2,hgd,hr1,au,ak,aW,dD,hl4,c4,c5,c6,aT,aX,bI,bU,aQ,bF,aU,bH,aZ,bK,dL,dR,fV,gq,dH,dP,dM,dQ,go_sem]
  have hp:=LQ v (L:=R) (i:=rec) (by omega)
  have hs_:(R.set rec v)[rec]?=some v:=by rw[List.getElem?_set_self (by omega)]
  have hrow:=row4 hs_
  have hd1:vX R 1 rec v=R.set rec v:=rfl
  simp -dsimp(maxSteps:=4000000) only[hp,hc4,a1,a2,b1,b2,hgd,hr1,au,ak,aW,dD,hl4,c4,c5,c6,aT,aX,bI,bU,aQ,bF,aU,bH,aZ,bK,dL,dR,fV,gq,dH,dP,dM,dQ,go_sem]
  refine fZ.gen [.rd,.pu,.rd,.pu,.pu,.rd,.ch,.ch,.pu] [0,0,2,0,14,30,1,127,255] 7 ((H.add bl (.cells ((R.set rec v).map enc).flatten 76 bs)).add b13 (.cells [.int .i64 p,.slice (some ⟨bl,0,none⟩) R.length c_] 65 2)) mixed (by kernel_rfl) (?_) ?_
  ·exact(by refine AH.eU ?_ ?_;(show AH.find _ _=_;simp only[aH,aN,aV,ah,aj,ne_eq,not_false_eq_true,true_and,and_true,and_self,a1,a2,b1,b2,hgd,hr1,au,ak,aW,dD,hl4,c4,c5,c6,aT,aX,bI,bU,aQ,bF,aU,bH,aZ,bK,dL,dR,fV,gq,dH,dP,dM,dQ]);refine AH.eU ?_ ?_;(show AH.find _ _=_;simp only[aH,aN,aV,ah,aj,ne_eq,not_false_eq_true,true_and,and_true,and_self,a1,a2,b1,b2,hgd,hr1,au,ak,aW,dD,hl4,c4,c5,c6,aT,aX,bI,bU,aQ,bF,aU,bH,aZ,bK,dL,dR,fV,gq,dH,dP,dM,dQ]);(repeat (first | exact AH.le_refl _ | refine AH.aK ?_ ?_));all_goals (first | exact AH.le_refl _ | (show AH.find _ _=_;simp only[aH,aN,aV,ah,aj,ne_eq,not_false_eq_true,true_and,and_true,and_self,a1,a2,b1,b2,hgd,hr1,au,ak,aW,dD,hl4,c4,c5,c6,aT,aX,bI,bU,aQ,bF,aU,bH,aZ,bK,dL,dR,fV,gq,dH,dP,dM,dQ])))
  have uT:=rM (R.set rec v)
  try rw[List.length_set]at uT
  simp -dsimp(maxSteps:=4000000) only[uT,hrow,a1,a2,b1,b2,hgd,hr1,au,ak,aW,dD,hl4,c4,c5,c6,aT,aX,bI,bU,aQ,bF,aU,bH,aZ,bK,dL,dR,fV,gq,dH,dP,dM,dQ,go_sem]
  refine⟨(by refine AH.eU ?_ ?_;(show AH.find _ _=_;simp only[aH,aN,aV,ah,aj,ne_eq,not_false_eq_true,true_and,and_true,and_self,a1,a2,b1,b2,hgd,hr1,au,ak,aW,dD,hl4,c4,c5,c6,aT,aX,bI,bU,aQ,bF,aU,bH,aZ,bK,dL,dR,fV,gq,dH,dP,dM,dQ]);refine AH.eU ?_ ?_;(show AH.find _ _=_;simp only[aH,aN,aV,ah,aj,ne_eq,not_false_eq_true,true_and,and_true,and_self,a1,a2,b1,b2,hgd,hr1,au,ak,aW,dD,hl4,c4,c5,c6,aT,aX,bI,bU,aQ,bF,aU,bH,aZ,bK,dL,dR,fV,gq,dH,dP,dM,dQ]);(repeat (first | exact AH.le_refl _ | refine AH.aK ?_ ?_));all_goals (first | exact AH.le_refl _ | (show AH.find _ _=_;simp only[aH,aN,aV,ah,aj,ne_eq,not_false_eq_true,true_and,and_true,and_self,a1,a2,b1,b2,hgd,hr1,au,ak,aW,dD,hl4,c4,c5,c6,aT,aX,bI,bU,aQ,bF,aU,bH,aZ,bK,dL,dR,fV,gq,dH,dP,dM,dQ]))),?_⟩
  rw[hd1]
  exact⟨_,(by refine AH.eU ?_ ?_;(show AH.find _ _=_;simp only[aH,aN,aV,ah,aj,ne_eq,not_false_eq_true,true_and,and_true,and_self,a1,a2,b1,b2,hgd,hr1,au,ak,aW,dD,hl4,c4,c5,c6,aT,aX,bI,bU,aQ,bF,aU,bH,aZ,bK,dL,dR,fV,gq,dH,dP,dM,dQ]);(repeat (first | exact AH.le_refl _ | refine AH.aK ?_ ?_));all_goals (first | exact AH.le_refl _ | (show AH.find _ _=_;simp only[aH,aN,aV,ah,aj,ne_eq,not_false_eq_true,true_and,and_true,and_self,a1,a2,b1,b2,hgd,hr1,au,ak,aW,dD,hl4,c4,c5,c6,aT,aX,bI,bU,aQ,bF,aU,bH,aZ,bK,dL,dR,fV,gq,dH,dP,dM,dQ]))),bl,c_,bs,dH.2.2.2.2.2.2,by rw[yD hs_],hcl,hc4,rfl⟩
 ·
  have hd:¬ p / 4 % 2=0:=hmq c0
  have hq':=hq 4 (by omega)
  refine bY.mk fun bn oG=>?_;have dL:=oG;(try simp only[ah,aj,ne_eq]at dL);have dR:=dL;(try simp only[@eq_comm Nat bn]at dR);simp -dsimp(maxSteps:=4000000) only[a1,a2,b1,b2,hgd,hr1,au,ak,aW,dD,hl4,c4,c5,c6,aT,aX,bI,bU,aQ,bF,aU,bH,aZ,bK,dL,dR,go_sem]
  simp -dsimp(maxSteps:=4000000) only[c0,c1,hq',hd,a1,a2,b1,b2,hgd,hr1,au,ak,aW,dD,hl4,c4,c5,c6,aT,aX,bI,bU,aQ,bF,aU,bH,aZ,bK,dL,dR,go_sem]
  refine fZ.gen [.pu,.rd,.al,.pu,.rd,.ch,.pu,.al,.ch] [0,1,0,0,8,28,63,0,255] 6 (_) mixed (by kernel_rfl) (AH.le_refl _) ?_
  simp -dsimp(maxSteps:=4000000) only[a1,a2,b1,b2,hgd,hr1,au,ak,aW,dD,hl4,c4,c5,c6,aT,aX,bI,bU,aQ,bF,aU,bH,aZ,bK,dL,dR,go_sem]
  refine bY.mk fun be Dk=>?_;have fV:=Dk;(try simp only[ah,aj,ne_eq]at fV);have gq:=fV;(try simp only[@eq_comm Nat be]at gq);simp -dsimp(maxSteps:=4000000) only[a1,a2,b1,b2,hgd,hr1,au,ak,aW,dD,hl4,c4,c5,c6,aT,aX,bI,bU,aQ,bF,aU,bH,aZ,bK,dL,dR,fV,gq,go_sem]
  refine lS.clone (new:=(R.map enc).flatten) (m:=R.length) C9 rfl (by decide) (by rw[Tryz.underlying63];rfl) Dk rfl (((((((hs.add (by simp only[ah,ne_eq,aT,not_false_eq_true,and_self]:aG _ b4)).add (by simp only[ah,ne_eq,bI,not_false_eq_true,and_self]:aG _ b7)).add (by simp only[ah,ne_eq,aQ,not_false_eq_true,and_self]:aG _ b8)).add (by simp only[ah,ne_eq,aU,not_false_eq_true,and_self]:aG _ b9)).add (by simp only[ah,ne_eq,aZ,not_false_eq_true,and_self]:aG _ b11)).add (by simp only[ah,ne_eq,dL,not_false_eq_true,and_self]:aG _ bn)).nC (lg R) (by decide) (by simp) (.inl (by intro e;rw[List.map_eq_nil_iff.1 e]at hr1;simp at hr1;omega))) (Fg R) (by omega) fun bl c_ bs iR hcl LU=>?_
  have hc4:R.length*4≤bs:=Nat.le_trans (Nat.mul_le_mul_right _ hcl) LU
  have dH:=iR;(try simp only[ah,aj,ne_eq]at dH);have dP:=dH;(try simp only[@eq_comm Nat bl]at dP)
  simp -dsimp(maxSteps:=4000000) only[a1,a2,b1,b2,hgd,hr1,au,ak,aW,dD,hl4,c4,c5,c6,aT,aX,bI,bU,aQ,bF,aU,bH,aZ,bK,dL,dR,fV,gq,dH,dP,go_sem]
  refine⟨AH.aK (AH.le_refl _) iR.2,?_⟩
  refine bY.mk fun b13 jF=>?_;have dM:=jF;(try simp only[ah,aj,ne_eq]at dM);have dQ:=dM;(try simp only[@eq_comm Nat b13]at dQ);simp -dsimp(maxSteps:=4000000) only[a1,a2,b1,b2,hgd,hr1,au,ak,aW,dD,hl4,c4,c5,c6,aT,aX,bI,bU,aQ,bF,aU,bH,aZ,bK,dL,dR,fV,gq,dH,dP,dM,dQ,go_sem]
  have hrow0:=row4 Bg
  refine bY.mk fun b14 yE=>?_;have dS:=yE;(try simp only[ah,aj,ne_eq]at dS);have fB:=dS;(try simp only[@eq_comm Nat b14]at fB);simp -dsimp(maxSteps:=4000000) only[a1,a2,b1,b2,hgd,hr1,au,ak,aW,dD,hl4,c4,c5,c6,aT,aX,bI,bU,aQ,bF,aU,bH,aZ,bK,dL,dR,fV,gq,dH,dP,dM,dQ,dS,fB,go_sem]
  have hp:=fun hi=>RV (L:=R) (i:=rec) (hw r0 (List.mem_of_getElem? Bg)) hi
  have hi_:rec<R.length:=by omega
  simp -dsimp(maxSteps:=4000000) only[hrow0,acj,acn,aco,acp,hp,hi_,hc4,a1,a2,b1,b2,hgd,hr1,au,ak,aW,dD,hl4,c4,c5,c6,aT,aX,bI,bU,aQ,bF,aU,bH,aZ,bK,dL,dR,fV,gq,dH,dP,dM,dQ,dS,fB,go_sem]
  have hs_:(R.set rec (Dh.nextR r0))[rec]?=some (Dh.nextR r0):=by rw[List.getElem?_set_self (by omega)]
  have hrow:=row4 hs_
  have hd1:vX R 2 rec v=R.set rec (Dh.nextR r0):=by rw[vX,if_neg (by decide),if_pos rfl,yD Bg]
  refine fZ.gen [.rd,.pu,.rd,.pu,.pu,.rd,.ch,.ch,.pu] [0,0,2,0,14,30,1,127,255] 7 ((H.add bl (.cells ((R.set rec (Dh.nextR r0)).map enc).flatten 76 bs)).add b13 (.cells [.int .i64 p,.slice (some ⟨bl,0,none⟩) R.length c_] 65 2)) mixed (by kernel_rfl) (?_) ?_
  ·exact(by refine AH.eU ?_ ?_;(show AH.find _ _=_;simp only[aH,aN,aV,ah,aj,ne_eq,not_false_eq_true,true_and,and_true,and_self,a1,a2,b1,b2,hgd,hr1,au,ak,aW,dD,hl4,c4,c5,c6,aT,aX,bI,bU,aQ,bF,aU,bH,aZ,bK,dL,dR,fV,gq,dH,dP,dM,dQ,dS,fB]);refine AH.eU ?_ ?_;(show AH.find _ _=_;simp only[aH,aN,aV,ah,aj,ne_eq,not_false_eq_true,true_and,and_true,and_self,a1,a2,b1,b2,hgd,hr1,au,ak,aW,dD,hl4,c4,c5,c6,aT,aX,bI,bU,aQ,bF,aU,bH,aZ,bK,dL,dR,fV,gq,dH,dP,dM,dQ,dS,fB]);(repeat (first | exact AH.le_refl _ | refine AH.aK ?_ ?_));all_goals (first | exact AH.le_refl _ | (show AH.find _ _=_;simp only[aH,aN,aV,ah,aj,ne_eq,not_false_eq_true,true_and,and_true,and_self,a1,a2,b1,b2,hgd,hr1,au,ak,aW,dD,hl4,c4,c5,c6,aT,aX,bI,bU,aQ,bF,aU,bH,aZ,bK,dL,dR,fV,gq,dH,dP,dM,dQ,dS,fB])))
  have uT:=rM (R.set rec (Dh.nextR r0))
  try rw[List.length_set]at uT
  simp -dsimp(maxSteps:=4000000) only[uT,hrow,a1,a2,b1,b2,hgd,hr1,au,ak,aW,dD,hl4,c4,c5,c6,aT,aX,bI,bU,aQ,bF,aU,bH,aZ,bK,dL,dR,fV,gq,dH,dP,dM,dQ,dS,fB,go_sem]
  refine⟨(by refine AH.eU ?_ ?_;(show AH.find _ _=_;simp only[aH,aN,aV,ah,aj,ne_eq,not_false_eq_true,true_and,and_true,and_self,a1,a2,b1,b2,hgd,hr1,au,ak,aW,dD,hl4,c4,c5,c6,aT,aX,bI,bU,aQ,bF,aU,bH,aZ,bK,dL,dR,fV,gq,dH,dP,dM,dQ,dS,fB]);refine AH.eU ?_ ?_;(show AH.find _ _=_;simp only[aH,aN,aV,ah,aj,ne_eq,not_false_eq_true,true_and,and_true,and_self,a1,a2,b1,b2,hgd,hr1,au,ak,aW,dD,hl4,c4,c5,c6,aT,aX,bI,bU,aQ,bF,aU,bH,aZ,bK,dL,dR,fV,gq,dH,dP,dM,dQ,dS,fB]);(repeat (first | exact AH.le_refl _ | refine AH.aK ?_ ?_));all_goals (first | exact AH.le_refl _ | (show AH.find _ _=_;simp only[aH,aN,aV,ah,aj,ne_eq,not_false_eq_true,true_and,and_true,and_self,a1,a2,b1,b2,hgd,hr1,au,ak,aW,dD,hl4,c4,c5,c6,aT,aX,bI,bU,aQ,bF,aU,bH,aZ,bK,dL,dR,fV,gq,dH,dP,dM,dQ,dS,fB]))),?_⟩
  rw[hd1]
  exact⟨_,(by refine AH.eU ?_ ?_;(show AH.find _ _=_;simp only[aH,aN,aV,ah,aj,ne_eq,not_false_eq_true,true_and,and_true,and_self,a1,a2,b1,b2,hgd,hr1,au,ak,aW,dD,hl4,c4,c5,c6,aT,aX,bI,bU,aQ,bF,aU,bH,aZ,bK,dL,dR,fV,gq,dH,dP,dM,dQ,dS,fB]);(repeat (first | exact AH.le_refl _ | refine AH.aK ?_ ?_));all_goals (first | exact AH.le_refl _ | (show AH.find _ _=_;simp only[aH,aN,aV,ah,aj,ne_eq,not_false_eq_true,true_and,and_true,and_self,a1,a2,b1,b2,hgd,hr1,au,ak,aW,dD,hl4,c4,c5,c6,aT,aX,bI,bU,aQ,bF,aU,bH,aZ,bK,dL,dR,fV,gq,dH,dP,dM,dQ,dS,fB]))),bl,c_,bs,dH.2.2.2.2.2.2,by rw[yD hs_],hcl,hc4,rfl⟩
end Go.Proofs.YtbhamhhjicehaaaGreatDoor.File
/- addr and its reference: what each function comes to. -/
namespace Go.Proofs.YtbhamhhjicehaaaGreatDoor
open Go Go.AX Go.Proofs Ty
set_option maxHeartbeats 2000000
theorem eH {c:Int} (h0 : -9223372036854775808≤c) (h1:c<9223372036854775808):IntKind.i64.wrap c=c:=by rw[IntKind.wrap_i64];omega
def yF (a b c:Int):Bool:=decide (0≤a∧a≤2∧0≤b∧b<64∧0≤c∧c<256)
theorem sQ (a b c:Int) (H:AH):aO Tryz.prog 129 #[.agg #[.int .i64 a,.int .i64 b,.int .i64 c]] H (fun v H'=>v=.bool (yF a b c)∧H=H'):=by
 refine aO.cu Tryz.func129 rfl Tryz.ntmps129 Tryz.results129 (by simp) ?_;simp -dsimp(maxSteps:=4000000) only[go_sem]
 refine bY.mk fun b1 iy=>?_;have aP:=iy;(try simp only[ah,aj,ne_eq]at aP);have aY:=aP;(try simp only[@eq_comm Nat b1]at aY);simp -dsimp(maxSteps:=4000000) only[aP,aY,go_sem]
 (repeat' first | refine And.intro ?_ ?_ | (refine imp.mk fun _=>?_;simp -dsimp(maxSteps:=4000000) only[aP,aY,go_sem]))<;>exact⟨H,(AH.aK (AH.le_refl _) ((by simp only[ah,aj,ne_eq,aP,not_false_eq_true,and_self]:aG _ b1).2)),(by first | exact⟨congrArg Value.bool (Bool.eq_iff_iff.2 (by simp only[yF,decide_eq_true_eq,Bool.false_eq_true,false_iff,true_iff];omega)),rfl⟩ | rfl)⟩
theorem jX (a b c:Int) (H:AH):aO Tryz.prog 119 #[.agg #[.int .i64 a,.int .i64 b,.int .i64 c]] H (fun v H'=>v=.bool (yF a b c)∧H=H'):=by
 refine aO.cu Tryz.func119 rfl Tryz.ntmps119 Tryz.results119 (by simp) ?_;simp -dsimp(maxSteps:=4000000) only[go_sem]
 refine bY.mk fun b1 iy=>?_;have aP:=iy;(try simp only[ah,aj,ne_eq]at aP);have aY:=aP;(try simp only[@eq_comm Nat b1]at aY);simp -dsimp(maxSteps:=4000000) only[aP,aY,go_sem]
 (repeat' first | refine And.intro ?_ ?_ | (refine imp.mk fun _=>?_;simp -dsimp(maxSteps:=4000000) only[aP,aY,go_sem]))<;>exact⟨H,(AH.aK (AH.le_refl _) ((by simp only[ah,aj,ne_eq,aP,not_false_eq_true,and_self]:aG _ b1).2)),(by first | exact⟨congrArg Value.bool (Bool.eq_iff_iff.2 (by simp only[yF,decide_eq_true_eq,Bool.false_eq_true,false_iff,true_iff];omega)),rfl⟩ | rfl)⟩
end Go.Proofs.YtbhamhhjicehaaaGreatDoor
/- ifs: files by their numbers, what a store comes to. -/
namespace Go.Proofs.YtbhamhhjicehaaaGreatDoor.mF
open Go Go.AX Go.Proofs Go.Proofs.YtbhamhhjicehaaaGreatDoor.File
abbrev Fl:=Int×List Rc
abbrev Nf:=Int×Fl
instance:DecidableEq Nf:=fun a b=>decidable_of_iff (a.1=b.1∧a.2.1=b.2.1∧a.2.2=b.2.2) ⟨fun h=>by
 obtain⟨x,y,z⟩:=a
 obtain⟨x',y',z'⟩:=b
 obtain⟨h1,h2,h3⟩:=h
 dsimp only at h1 h2 h3
 rw[h1,h2,h3],fun h=>by subst h;exact⟨rfl,rfl,rfl⟩⟩
def lk (n:Int):List Nf→Option Fl
 | []=>none
 |x::l=>if x.1=n then some x.2 else lk n l
def Kd (X:List Nf):Prop:=(X.map (·.1)).Nodup
theorem GR {n:Int} {f:Fl}:∀ {X:List Nf},lk n X=some f→(n,f)∈X
 |x::l,h=>by
  rw[lk]at h
  split at h
  ·rename_i e;cases h;subst e;exact List.mem_cons_self ..
  ·exact List.mem_cons_of_mem _ (GR h)
theorem nU {n:Int}:∀ {X:List Nf},lk n X=none↔∀ x∈X,x.1≠n
 | []=>by simp[lk]
 |x::l=>by
  rw[lk]
  split
  ·rename_i e;simp[e]
  ·rename_i e;simp[e,nU (X:=l)]
theorem Kd.cons {x:Nf} {X:List Nf} (h:Kd (x::X)):Kd X∧∀ y∈X,y.1≠x.1:=by
 simp only[Kd,List.map_cons,List.nodup_cons,List.mem_map,not_exists,not_and]at h
 exact⟨h.2,fun y hy e=>h.1 y hy e⟩
theorem LV {n:Int} {f:Fl}:∀ {X:List Nf},Kd X→(n,f)∈X→lk n X=some f
 |x::l,hk,h=>by
  obtain⟨h1,h2⟩:=hk.cons
  rw[lk]
  rcases List.mem_cons.1 h with h | h
  ·subst h;simp
  ·rw[if_neg (fun e=>h2 _ h e.symm)];exact LV h1 h
theorem Kd.perm {X Y:List Nf} (h:X.Perm Y) (hk:Kd X):Kd Y:=(h.map _).nodup_iff.1 hk
theorem Bz {X Y:List Nf} (h:X.Perm Y) (hk:Kd X) (n:Int):lk n X=lk n Y:=by
 cases hx:lk n X with
 |some f=>exact(LV (hk.perm h) (h.mem_iff.1 (GR hx))).symm
 |none=>exact(nU.2 fun y hy=>nU.1 hx y (h.mem_iff.2 hy)).symm
def rp (n:Int) (f:Fl) (X:List Nf):List Nf:=X.map fun x=>if x.1=n then (n,f) else x
theorem NI (n:Int) (f:Fl) (X:List Nf):(rp n f X).map (·.1)=X.map (·.1):=by
 rw[rp,List.map_map]
 apply List.map_congr_left
 intro x _
 simp only[Function.comp]
 split
 ·rename_i e;exact e.symm
 ·rfl
theorem Jg {n:Int} {f:Fl} {X:List Nf} (h:Kd X):Kd (rp n f X):=by unfold Kd;rw[NI];exact h
theorem NJ {n:Int} {f:Fl} {X Y:List Nf} (h:X.Perm Y):(rp n f X).Perm (rp n f Y):=h.map _
theorem RZ (m n:Int) (f:Fl):∀ X:List Nf,lk m (rp n f X)=if m=n then (lk n X).map (fun _=>f) else lk m X
 | []=>by simp[rp,lk]
 |x::l=>by
  have ih:=RZ m n f l
  simp only[rp,List.map_cons]at ih ⊢
  by_cases e:x.1=n
  ·rw[if_pos e]
   by_cases hm:m=n
   ·subst hm;simp[lk,e]
   ·rw[if_neg hm]at ih
    have e1:¬ n=m:=fun h=>hm h.symm
    have e2:¬ x.1=m:=fun h=>hm (h.symm.trans e)
    simp only[lk,if_neg hm,if_neg e1,if_neg e2,ih]
  ·rw[if_neg e]
   by_cases hm:m=n
   ·subst hm
    rw[if_pos rfl]at ih ⊢
    rw[lk,if_neg e,ih,lk,if_neg e]
   ·rw[if_neg hm]at ih ⊢
    rw[lk,ih,lk]
theorem Zo {n:Int} {f:Fl} {X:List Nf} {x:Nf} (h:x∈rp n f X):x=(n,f)∧(∃ g,(n,g)∈X)∨x∈X:=by
 obtain⟨y,hy,he⟩:=List.mem_map.1 h
 split at he
 ·rename_i e
  exact .inl ⟨he.symm,y.2,by rw[←e];exact hy⟩
 ·exact .inr (he▸hy)
def ins (n:Int) (f:Fl):List Nf→List Nf
 | []=>[(n,f)]
 |x::l=>if x.1<n then x::ins n f l else (n,f)::x::l
def kK (X:List Nf):Prop:=X.Pairwise fun a b=>a.1<b.1
theorem Dl (n:Int) (f:Fl):∀ X:List Nf,(ins n f X).Perm ((n,f)::X)
 | []=>.refl _
 |x::l=>by
  rw[ins]
  split
  ·exact((Dl n f l).cons x).trans (.swap ..)
  ·exact .refl _
theorem Wh {n:Int} {f:Fl} {X:List Nf} {x:Nf}:x∈ins n f X↔x=(n,f)∨x∈X:=by
 rw[(Dl n f X).mem_iff,List.mem_cons]
theorem NK {n:Int} {f:Fl}:∀ {X:List Nf},kK X→lk n X=none→kK (ins n f X)
 | [],_,_=>by simp[kK,ins]
 |x::l,h,hn=>by
  simp only[kK,List.pairwise_cons]at h
  have hl:=nU.1 hn
  rw[ins]
  split
  ·rename_i hlt
   have:=NK (n:=n) (f:=f) (X:=l) h.2 (nU.2 fun y hy=>hl y (List.mem_cons_of_mem _ hy))
   simp only[kK,List.pairwise_cons]
   refine⟨fun y hy=>?_,this⟩
   rcases Wh.1 hy with rfl | hy
   ·exact hlt
   ·exact h.1 y hy
  ·rename_i hge
   have hx:=hl x (List.mem_cons_self ..)
   simp only[kK,List.pairwise_cons]
   refine⟨fun y hy=>?_,h.1,h.2⟩
   rcases List.mem_cons.1 hy with rfl | hy
   ·show n<_;omega
   ·have:=h.1 y hy
    show n<_;omega
theorem kK.kd {X:List Nf} (h:kK X):Kd X:=by
 unfold Kd
 rw[List.Nodup,List.pairwise_map]
 exact h.imp fun hab e=>by omega
theorem kK.uniq:∀ {X Y:List Nf},X.Perm Y→kK X→kK Y→X=Y
 | [],Y,h,_,_=>(List.nil_perm.1 h).symm
 |x::X,[],h,_,_=>absurd h.symm (by simp)
 |x::X,y::Y,h,hx,hy=>by
  simp only[kK,List.pairwise_cons]at hx hy
  have e:x=y:=by
   rcases List.mem_cons.1 (h.mem_iff.1 (List.mem_cons_self ..)) with e | e
   ·exact e
   ·rcases List.mem_cons.1 (h.mem_iff.2 (List.mem_cons_self ..)) with e2 | e2
    ·exact e2.symm
    ·have:=hx.1 _ e2;have:=hy.1 _ e;omega
  subst e
  rw[kK.uniq (List.Perm.cons_inv h) hx.2 hy.2]
theorem Si {n:Int} {f:Fl} {X:List Nf} (h:kK X):kK (rp n f X):=by
 have:((rp n f X).map (·.1)).Pairwise (·<·):=by
  rw[NI,List.pairwise_map];exact h
 rw[List.pairwise_map]at this
 exact this
def mX (X:List Nf) (n:Int) (f:Fl):Int:=if n<0∨64≤n then 1 else if iG f.1 f.2=false then 2 else if (lk n X).isSome then 10 else 0
def yG (X:List Nf) (n:Int) (f:Fl):List Nf:=if mX X n f=0 then X++[(n,f)] else X
def Am (X:List Nf) (op fl rec:Int):Int:=if yF op fl rec=false then 1 else match lk fl X with | none=>3 | some f=>jJ f.1 f.2 op rec
def doF (f:Fl) (op rec:Int) (v:Rc):Fl:=(f.1,vX f.2 op rec.toNat v)
def Qy (X:List Nf) (op fl rec:Int) (v:Rc):Rc:=if Am X op fl rec=0 then match lk fl X with | none=>zr | some f=>(vX f.2 op rec.toNat v).getD rec.toNat zr else zr
def Dn (X:List Nf) (op fl rec:Int) (v:Rc):List Nf:=if Am X op fl rec=0 then match lk fl X with | none=>X | some f=>rp fl (doF f op rec v) X else X
def Ik (X:List Nf) (op fl rec:Int) (d:Int):Int:=if Am X op fl rec=5 then IntKind.i64.wrap (d+1) else d
def iJ (X:List Nf) (n rec:Int):Option Rc:=(lk n X).bind fun f=>if rec<0 then none else f.2[rec.toNat]?
def kQ (X:List Nf) (n rec:Int):Bool:=(iJ X n rec).isSome&&decide (rec≠0)
def jk (X:List Nf) (n rec:Int) (v:Rc):List Nf:=if kQ X n rec=true then match lk n X with | none=>X | some f=>rp n (f.1,f.2.set rec.toNat v) X else X
structure lG (X:List Nf):Prop where
 kd:Kd X
 ok:∀ x∈X,(0≤x.1∧x.1<64)∧iG x.2.1 x.2.2=true∧∀ r∈x.2.2,nX r
theorem lG.nil:lG []:=⟨by simp[Kd],by simp⟩
theorem lG.perm {X Y:List Nf} (h:lG X) (hp:X.Perm Y):lG Y:=⟨h.kd.perm hp,fun x hx=>h.ok x (hp.mem_iff.2 hx)⟩
theorem lG.lk {X:List Nf} (h:lG X) {n:Int} {f:Fl} (hf:lk n X=some f):(0≤n∧n<64)∧iG f.1 f.2=true∧∀ r∈f.2,nX r:=h.ok _ (GR hf)
theorem l9 {p:Int} {R:List Rc} (h:iG p R=true):1≤R.length∧R.length≤256:=by
 unfold iG at h
 split at h
 ·cases h
 ·simp only[Bool.and_eq_true,decide_eq_true_eq]at h
  simp only[List.length_cons];omega
theorem zI {p:Int} {R:List Rc} {i:Nat} {v:Rc} (h:iG p R=true) (hi:i≠0):iG p (R.set i v)=true:=by
 cases R with
 |nil=>exact h
 |cons r l=>
  cases i with
  |zero=>exact absurd rfl hi
  |succ i=>simpa [iG]using h
theorem lG.rp {X:List Nf} (h:lG X) {n:Int} {f g:Fl} (hf:mF.lk n X=some g) (hg:iG f.1 f.2=true) (hr:∀ r∈f.2,nX r):lG (rp n f X):=
 ⟨Jg h.kd,fun x hx=>by
  rcases Zo hx with ⟨rfl,_⟩ | hx
  ·exact⟨(h.lk hf).1,hg,hr⟩
  ·exact h.ok x hx⟩
theorem lG.app {X:List Nf} (h:lG X) {n:Int} {f:Fl} (hn:0≤n∧n<64) (hf:mF.lk n X=none) (hg:iG f.1 f.2=true) (hr:∀ r∈f.2,nX r):lG (X++[(n,f)]):=
 lG.perm (X:=(n,f)::X) ⟨by
  have:=nU.1 hf
  simp only[Kd,List.map_cons,List.nodup_cons,List.mem_map,not_exists,not_and]
  exact⟨fun x hx e=>this x hx e,h.kd⟩,fun x hx=>by
  rcases List.mem_cons.1 hx with rfl | hx
  ·exact⟨hn,hg,hr⟩
  ·exact h.ok x hx⟩ (List.perm_append_singleton (n,f) X).symm
theorem lG.add {X:List Nf} (h:lG X) (n:Int) (f:Fl) (hr:∀ r∈f.2,nX r):lG (yG X n f):=by
 unfold yG
 split
 ·rename_i e
  unfold mX at e
  split at e
  ·cases e
  split at e
  ·cases e
  split at e
  ·cases e
  rename_i h1 h2 h3
  exact h.app (by omega) (by simpa using h3) (by simpa using h2) hr
 ·exact h
theorem lG.set {X:List Nf} (h:lG X) (n rec:Int) {v:Rc} (hv:nX v):lG (jk X n rec v):=by
 unfold jk
 split
 ·rename_i e
  simp only[kQ,Bool.and_eq_true,decide_eq_true_eq]at e
  cases hl:mF.lk n X with
  |none=>exact h
  |some f=>
   obtain⟨_,h2,h3⟩:=h.lk hl
   have hr:rec.toNat≠0:=by
    have:=e.1
    simp only[iJ,hl,Option.bind_some]at this
    split at this
    ·cases this
    ·omega
   refine h.rp hl (zI h2 hr) fun r hr=>?_
   rcases List.mem_or_eq_of_mem_set hr with hr | hr
   ·exact h3 r hr
   ·subst hr;exact hv
 ·exact h
end Go.Proofs.YtbhamhhjicehaaaGreatDoor.mF
/- From a call over the abstract heap to what a statement asks: true is handed back, the arguments read as_ they did. -/
namespace Go.AX
open Go Go.RowKit Go.ChangeShapes Go.WideShapes Go.ChangeAt
section
variable {P:Program} {HT:Type} {enc:TypeId×Value→HT}
theorem wP (hl:laidOutB P=true) {W W':World} {sp:Nat→Bool} (hb:Below W.heap.size W W'):∀ (ts:List TypeId) (vs:List Value) (ds:List (DataW HT)) (ps:List MemPlace),
  (ts.all fun t=>P.readableRec t&&decide (t<P.types.size))=true→DataW.TrodAll enc P W 0 (fun _=>true) true ts vs ds ps→(∀ x∈ps,x.block<W.heap.size∧sp x.block=true)→
  DataW.TrodAll enc P W' 0 sp true ts vs ds ps
 | [],vs,ds,ps,_,h,_=>by
  obtain⟨rfl,rfl,rfl⟩:=trodAll_nil h
  rfl
 |t::ts,vs,ds,ps,hr,h,hp=>by
  simp only[List.all_cons,Bool.and_eq_true,decide_eq_true_eq]at hr
  obtain⟨v,vs',d,ds',p,q,rfl,rfl,rfl,h1,h2⟩:=trodAll_cons h
  refine⟨p,q,WideElems.Trod_stays hl hr.1.1 hr.1.2 h1 (fun x hx=>hb.same (hp x (by simp[hx])).1) (fun x hx=>(hp x (by simp[hx])).2),?_,rfl⟩
  exact wP hl hb ts vs' ds' q (by simpa using hr.2) h2 (fun x hx=>hp x (by simp[hx]))
theorem Sj {f:FuncId} {fn:Func} {s:ChangeSpec} {W:World} {args:Array Value} {ds gs:List (DataW HT)} {before:List MemPlace} {tb:TypeId}
  (hl:laidOutB P=true) (hps:(fn.params.toList.all fun t=>P.readableRec t&&decide (t<P.types.size))=true) (hvars:s.vars=[]) (hrt:fn.resultTypes=#[tb]) (hb:P.underlying tb=some .bool)
  (hW:DataW.Whole enc P fn.params.toList s.vars false W args.toList ds gs before)
  (hres:(s.fn HT (ds++gs)).results=[.lit (.bool true)]) (hargs:(s.fn HT (ds++gs)).args=ds) (hvs:(s.fn HT (ds++gs)).vars=[])
  (hc:aO P f args ⟨W,[]⟩ (fun v H'=>v=.bool true∧H'.w0=W)) :
  Calls P f args W fun e W'=>∃ v,e=.returned v∧s.post enc P fn false true false false W args v W':=by
 refine(hc _ W (Sat.start W)).mono ?_
 rintro e W' ⟨v,H',rfl,hs,rfl,hw⟩
 have hbel:Below W.heap.size W W':=hw▸hs.below
 refine⟨_,rfl,?_⟩
 have hW0:=hW
 obtain⟨p,q,hA,hV,rfl,_,_⟩:=hW
 have hq:q=[]:=by
  rw[hvars]at hV
  cases gs with
  |nil=>exact hV
  |cons g gs=>exact hV.elim
 subst hq
 refine⟨ds,gs,p++[],[],p,[],hW0,?_,?_,?_,hbel.frame _,fun h=>by cases h⟩
 ·rw[hres,hrt]
  exact trodAll_mk1 (shut_bool hb true)
 ·rw[hargs]
  exact wP hl hbel _ _ _ _ hps hA (fun x hx=>by
   have:=hW0.lt x (by simp[hx])
   exact⟨this,by simpa using this⟩)
 ·rw[hvars,hvs];rfl
theorem agB {W:World} {r:Reach} {b t0 t1:Nat} {v0 v1:Value} (h:∀ (j:Nat) t v,(#[t0,t1]:Array Nat)[j]?=some t→(#[v0,v1]:Array Value)[j]?=some v→Value.okWide P W r b t v) :
  Value.okWide P W r b t0 v0∧Value.okWide P W r b t1 v1:=⟨h 0 t0 v0 rfl rfl,h 1 t1 v1 rfl rfl⟩
def jO (P:Program):Nat→TypeId→Option (List TypeId)
 |0,_=>none
 |d+1,t=>match P.underlying t with
  |some (.struct fs)=>fs.toList.foldl (fun acc f=>acc.bind fun l=>if l.length=f.offset then (jO P d f.type).bind fun m=>if m.length=P.cellsOf f.type then some (l++m) else none else none) (some [])
  |some (.array n e)=>(jO P d e).bind fun m=>if m.length=P.cellsOf e then some (List.replicate n m).flatten else none
  |some _=>if P.cellsOf t=1 then some [t] else none
  |none=>none
def wQ (enc:TypeId×Value→HT) (P:Program) (w:World) (base:Nat) (sp:Nat→Bool) (held:Bool) (ts:List TypeId) (cs:List Value):Prop:=
 ∀ (i:Nat) (t:TypeId) (c:Value),ts[i]?=some t→cs[i]?=some c→∃ n y,DataW.trod enc P w base sp held n t [c]=some y
theorem yH {w:World} {base:Nat} {sp:Nat→Bool} {held:Bool} {d n:Nat} {cs:List Value}
  (ih:∀ t cs ts x,jO P d t=some ts→DataW.trod enc P w base sp held n t cs=some x→cs.length=P.cellsOf t→ts.length=P.cellsOf t→wQ enc P w base sp held ts cs) :
  ∀ (fs:List Field) (l ts:List TypeId),(∀ f∈fs,∃ x,DataW.trod enc P w base sp held n f.type ((cs.drop f.offset).take (P.cellsOf f.type))=some x)→
   wQ enc P w base sp held l cs→fs.foldl (fun acc f=>acc.bind fun l=>if l.length=f.offset then (jO P d f.type).bind fun m=>if m.length=P.cellsOf f.type then some (l++m) else none else none) (some l)=some ts→
   ts.length≤cs.length→wQ enc P w base sp held ts cs
 | [],l,ts,_,hl,h,_=>by
  simp only[List.foldl_nil,Option.some.injEq]at h;subst h;exact hl
 |f::fs,l,ts,hf,hl,h,hle=>by
  simp only[List.foldl_cons,Option.bind_some]at h
  have pq:∀ (fs:List Field),fs.foldl (fun acc f=>acc.bind fun l=>if l.length=f.offset then (jO P d f.type).bind fun m=>if m.length=P.cellsOf f.type then some (l++m) else none else none) (none:Option (List TypeId))=none:=by
   intro fs;induction fs with
   |nil=>rfl
   |cons f fs ih=>simpa using ih
  have Sm:∀ (fs:List Field) (l ts:List TypeId),fs.foldl (fun acc f=>acc.bind fun l=>if l.length=f.offset then (jO P d f.type).bind fun m=>if m.length=P.cellsOf f.type then some (l++m) else none else none) (some l)=some ts→l.length≤ts.length:=by
   intro fs;induction fs with
   |nil=>intro l ts h;simp only[List.foldl_nil,Option.some.injEq]at h;subst h;exact Nat.le_refl _
   |cons f fs ih=>
    intro l ts h
    simp only[List.foldl_cons,Option.bind_some]at h
    split at h
    ·cases hm:jO P d f.type with
     |none=>rw[hm]at h;simp only[Option.bind_none]at h;rw[pq]at h;cases h
     |some m=>
      rw[hm]at h
      simp only[Option.bind_some]at h
      split at h
      ·have:=ih _ _ h;simp at this;omega
      ·rw[pq]at h;cases h
    ·rw[pq]at h;cases h
  split at h
  ·rename_i ho
   cases hm:jO P d f.type with
   |none=>rw[hm]at h;simp only[Option.bind_none]at h;rw[pq]at h;cases h
   |some m=>
    rw[hm]at h
    simp only[Option.bind_some]at h
    split at h
    ·rename_i hml
     have hlen:=Sm _ _ _ h
     simp only[List.length_append]at hlen
     refine yH ih fs (l++m) ts (fun g hg=>hf g (by simp[hg])) ?_ h hle
     obtain⟨x,hx⟩:=hf f (by simp)
     have h1:=ih f.type _ m x hm hx (by simp;omega) hml
     intro i t c ht hc
     by_cases hi:i<l.length
     ·rw[List.getElem?_append_left hi]at ht;exact hl i t c ht hc
     ·rw[List.getElem?_append_right (by omega)]at ht
      have hi2:i - l.length<m.length:=by
       rcases Nat.lt_or_ge (i - l.length) m.length with h | h
       ·exact h
       ·rw[List.getElem?_eq_none h]at ht;cases ht
      refine h1 (i - l.length) t c ht ?_
      rw[List.getElem?_take,if_pos (by omega),List.getElem?_drop,show f.offset+(i - l.length)=i from by omega]
      exact hc
    ·rw[pq]at h;cases h
  ·rw[pq]at h;cases h
theorem NM {w:World} {base:Nat} {sp:Nat→Bool} {held:Bool}:∀ (n d:Nat) (t:TypeId) (cs:List Value) (ts:List TypeId) (x:DataW HT×List MemPlace),jO P d t=some ts→DataW.trod enc P w base sp held n t cs=some x→
  cs.length=P.cellsOf t→ts.length=P.cellsOf t→wQ enc P w base sp held ts cs
 |n,0,t,cs,ts,x,h,_,_,_=>by cases h
 |0,d+1,t,cs,ts,x,_,hx,_,_=>by simp[DataW.trod]at hx
 |n+1,d+1,t,cs,ts,x,h,hx,hl,hlt=>by
  simp only[jO]at h
  split at h
  ·rename_i fs hu
   obtain⟨xs,n',hn,_,_,hxl,hf⟩:=DataW.trod_struct hu hx
   have hn':n'=n:=by omega
   subst hn'
   refine yH (fun t cs ts x h1 h2 h3 h4=>NM n' d t cs ts x h1 h2 h3 h4) fs.toList [] ts (fun f hf'=>?_) (fun i t c h=>by simp at h) h (by omega)
   obtain⟨i,hi⟩:=List.mem_iff_getElem?.1 hf'
   have hi':fs[i]?=some f:=by simpa using hi
   have hlt:i<xs.length:=by
    rw[hxl]
    rcases Nat.lt_or_ge i fs.size with h | h
    ·exact h
    ·rw[Array.getElem?_eq_none h]at hi';cases hi'
   exact⟨xs[i],by rw[hf i f hi'];exact List.getElem?_eq_getElem hlt⟩
  ·rename_i m e hu
   obtain⟨l,hle,h⟩:=Option.bind_eq_some_iff.1 h
   split at h
   ·rename_i hll
    cases h
    unfold DataW.trod at hx
    simp only[hu]at hx
    rw[if_pos hl]at hx
    obtain⟨xs,hxs,_⟩:=Option.map_eq_some_iff.1 hx
    have hel:∀ j,j<m→∃ y,DataW.trod enc P w base sp held n e ((cs.drop (j*P.cellsOf e)).take (P.cellsOf e))=some y:=fun j hj=>by
     have hl':=mapM_some_length hxs
     have hg:=mapM_some_get hxs j j (by simp[hj])
     have hlt:j<xs.length:=by rw[hl'];simpa using hj
     exact⟨xs[j],by rw[hg];exact List.getElem?_eq_getElem hlt⟩
    intro i t c ht hc
    have acs:∀ (m i:Nat) (t:TypeId),(List.replicate m l).flatten[i]?=some t→∃ j k,j<m∧k<l.length∧i=j*l.length+k∧l[k]?=some t:=by
     intro m
     induction m with
     |zero=>intro i t h;simp at h
     |succ m ih=>
      intro i t h
      rw[List.replicate_succ,List.flatten_cons]at h
      by_cases hi:i<l.length
      ·rw[List.getElem?_append_left hi]at h;exact⟨0,i,by omega,hi,by simp,h⟩
      ·rw[List.getElem?_append_right (by omega)]at h
       obtain⟨j,k,h1,h2,h3,h4⟩:=ih _ _ h
       exact⟨j+1,k,by omega,h2,by rw[Nat.succ_mul];omega,h4⟩
    obtain⟨j,k,h1,h2,h3,h4⟩:=acs m i t ht
    obtain⟨y,hy⟩:=hel j h1
    have hlen:(List.replicate m l).flatten.length=m*l.length:=by simp
    have hle2:(j+1)*l.length≤m*l.length:=Nat.mul_le_mul_right _ (by omega)
    rw[Nat.succ_mul]at hle2
    have hcs:cs.length=m*l.length:=by rw[hl,←hlt,hlen]
    refine NM n d e _ l y hle hy (by rw[List.length_take,List.length_drop,←hll];omega) hll k t c h4 ?_
    rw[List.getElem?_take,if_pos (by omega),List.getElem?_drop,←hll,←h3];exact hc
   ·cases h
  ·rename_i u hns hna hu
   split at h
   ·rename_i h1
    cases h
    intro i t' c ht hc
    have hi:i=0:=by
     rcases i with _ | i
     ·rfl
     ·simp at ht
    subst hi
    simp at ht;subst ht
    rw[h1]at hl
    match cs,hl with
    | [c0],_=>simp at hc;subst hc;exact⟨_,_,hx⟩
   ·cases h
  ·cases h
theorem PO {w:World} {r:Reach} {b0 t e sz:Nat} {v:Value} {y:DataW HT×List MemPlace} {sp:Nat→Bool} {held:Bool} {ts:List TypeId} (hu:P.underlying t=some (.slice e)) (hz:P.cellsOf e=sz) (h0:sz≠0)
  (hl:jO P 20 e=some ts) (hts:ts.length=sz) (h1:Cell.okWide P w r b0 t v) (h:∃ fuel,DataW.trod enc P w 0 sp held fuel t [v]=some y) :
  ∃ base n cap R,v=.slice base n cap∧R.length=n∧bG ⟨w,[]⟩ sz base cap R∧∀ (i:Nat) (r:List Value),R[i]?=some r→r.length=sz∧wQ enc P w 0 sp held ts r:=by
 obtain⟨d,ps⟩:=y
 have hc:Cell.ok P w r b0 t v:=by
  unfold Cell.okWide at h1
  rw[hu]at h1
  exact h1
 have hform:v=.slice none 0 0∨∃ a len cap,v=.slice (some a) len cap∧a.spot=none∧(cap:Int)≤IntKind.i64.max∧∃ s,w.shape? a.block=some s:=by
  unfold Cell.ok at hc
  rw[hu]at hc
  split at hc<;>simp_all [World.has]
  obtain⟨q1,q2,q3,q4,row,cells,q5,q6⟩:=hc
  exact⟨_,_,_,⟨rfl,rfl,rfl⟩,q4,q2,_,_,q5⟩
 obtain⟨fuel,h⟩:=h
 rcases hform with rfl | ⟨a,len,cap,rfl,hsp,hcap,UR,alA⟩
 ·exact⟨none,0,0,[],rfl,rfl,⟨by simp,by simp,fun i hi=>by simp at hi,fun b o hb=>(by cases hb),fun b o hb=>(by cases hb)⟩,fun i r hr=>by simp at hr⟩
 ·rcases Go.Deep.open_slice hu h with ⟨h1,_⟩ | ⟨a',len',cap',m,n,D,Pl,h1,hb,hle,hm,hmm,_,hx⟩
  ·have h2:(Value.slice (some a) len cap)=.slice none 0 0:=by
    have:[Value.slice (some a) len cap]=[.slice none 0 0]:=h1
    simp at this
   cases h2
  ·have h2:(Value.slice (some a) len cap)=.slice (some a') len' cap':=by
    have:[Value.slice (some a) len cap]=[.slice (some a') len' cap']:=h1
    simpa using this
   cases h2
   obtain⟨b,o,spot⟩:=a
   simp only at hsp
   subst hsp
   have hlm:len≤m:=by rw[hmm];split<;>omega
   obtain⟨f,hf⟩:=Go.Deep.choose_lt (n:=len) (p:=fun i cs'=>w.cells? 0 ((⟨b,o,none⟩:Addr).add (i*P.cellsOf e)) (P.cellsOf e)=some cs'∧∃ x,DataW.trod enc P w 0 sp held n e cs'=some x)
    (fun i hi=>by obtain⟨cs',h3,h4⟩:=hx i (by omega);exact⟨cs',h3,_,h4⟩)
   have hcell:∀ i,i<len→(f i).length=sz∧∀ j,j<sz→w.cell? ⟨b,o+(i*sz+j),none⟩=(f i)[j]?:=fun i hi=>by
    obtain⟨h3,_⟩:=hf i hi
    rw[hz]at h3
    obtain⟨_,hlen,hcell⟩:=World.cells?_some h3
    refine⟨hlen,fun j hj=>?_⟩
    have:=hcell j hj
    rw[Go.Deep.add_add,Go.AX.add_plain]at this
    exact this
   have hrow:∀ (i:Nat) (r:List Value),((List.range len).map f)[i]?=some r→i<len∧r=f i:=fun i r hr=>by
    rw[List.getElem?_map]at hr
    obtain⟨j,hj,rfl⟩:=Option.map_eq_some_iff.1 hr
    have hi:i<len:=by
     rcases Nat.lt_or_ge i len with h | h
     ·exact h
     ·rw[List.getElem?_eq_none (by simpa using h)]at hj;cases hj
    rw[List.getElem?_range hi]at hj
    cases hj;exact⟨hi,rfl⟩
   have hlt:∀ {off:Nat} {c:Value},w.cell? ⟨b,off,none⟩=some c→b<w.heap.size:=fun {off c} hcc=>by
    unfold World.cell? at hcc
    rcases Nat.lt_or_ge b w.heap.size with h | h
    ·exact h
    ·simp only at hcc;rw[Array.getElem?_eq_none h]at hcc;cases hcc
   refine⟨some ⟨b,o,none⟩,len,cap,(List.range len).map f,rfl,by simp,⟨by simpa using hle,by simp[IntKind.max,IntKind.signed,IntKind.bits]at hcap ⊢;omega,fun _ _=>⟨b,o,rfl⟩,?_,?_⟩,?_⟩
   ·intro b' o' hb' i j r c hr hc
    cases hb'
    obtain⟨hi,rfl⟩:=hrow i r hr
    obtain⟨q1,q2⟩:=hcell i hi
    have hj:j<sz:=by
     rw[←q1]
     rcases Nat.lt_or_ge j (f i).length with h | h
     ·exact h
     ·rw[List.getElem?_eq_none h]at hc;cases hc
    have:=q2 j hj
    rw[hc]at this
    show(if b<w.heap.size then w.cell? ⟨b,o+(i*sz+j),none⟩ else none)=some c
    rw[if_pos (hlt this)];exact this
   ·intro b' o' hb' i r hr
    cases hb'
    obtain⟨hi,rfl⟩:=hrow i r hr
    obtain⟨q1,q2⟩:=hcell i hi
    have hbr:=sH (w:=w) (b:=b) (f i) (o+i*sz) (fun j hj=>by rw[show o+i*sz+j=o+(i*sz+j) from by omega];exact q2 j (by omega))
    have h00:=q2 0 (by omega)
    have hb2:b<w.heap.size:=hlt (h00.trans (List.getElem?_eq_getElem (by omega)))
    show(if b<w.heap.size then lN w b (o+i*sz) sz else none)=some (f i)
    rw[if_pos hb2]
    rw[q1]at hbr;exact hbr
   ·intro i r hr
    obtain⟨hi,rfl⟩:=hrow i r hr
    obtain⟨q1,q2⟩:=hcell i hi
    obtain⟨_,x,hx'⟩:=hf i hi
    exact⟨q1,NM n 20 e (f i) ts x hl hx' (by rw[q1,hz]) (by rw[hts,hz])⟩
theorem vY {w:World} {t e sz:Nat} {v:Value} {y:DataW HT×List MemPlace} {sp:Nat→Bool} {held:Bool} {ts:List TypeId} (hu:P.underlying t=some (.slice e)) (hz:P.cellsOf e=sz) (h0:sz≠0)
  (hl:jO P 20 e=some ts) (hts:ts.length=sz) (h:∃ fuel,DataW.trod enc P w 0 sp held fuel t [v]=some y) :
  ∃ base n cap R,v=.slice base n cap∧R.length=n∧bG ⟨w,[]⟩ sz base cap R∧∀ (i:Nat) (r:List Value),R[i]?=some r→r.length=sz∧wQ enc P w 0 sp held ts r:=by
 obtain⟨d,ps⟩:=y
 obtain⟨fuel,h⟩:=h
 rcases Go.Deep.open_slice hu h with ⟨h1,_⟩ | ⟨a,len,cap,m,n,D,Pl,h1,hb,hle,hm,hmm,_,hx⟩
 ·cases h1
  exact⟨none,0,0,[],rfl,rfl,⟨by simp,by simp,fun i hi=>by simp at hi,fun b o hb=>(by cases hb),fun b o hb=>(by cases hb)⟩,fun i r hr=>by simp at hr⟩
 ·cases h1
  have hcap:cap<9223372036854775808:=by
   have:maxLen<9223372036854775808:=by decide
   omega
  by_cases hlen:len=0
  ·subst hlen
   exact⟨some a,0,cap,[],rfl,rfl,⟨by simp,by simp,fun i hi=>by simp at hi,fun b o _ i j r c h1 _=>by simp at h1,fun b o _ i r h1=>by simp at h1⟩,fun i r hr=>by simp at hr⟩
  ·obtain⟨b,o,spot⟩:=a
   have hsp:spot=none:=by
    obtain⟨cs',h3,_⟩:=hx 0 (by rw[hmm];split<;>omega)
    rw[hz]at h3
    obtain⟨_,hlen',hcell⟩:=World.cells?_some h3
    have h4:=hcell 0 (by omega)
    cases spot with
    |none=>rfl
    |some q=>
     rw[List.getElem?_eq_getElem (by omega)]at h4
     simp only[Nat.zero_mul]at h4
     unfold World.cell? at h4
     split at h4
     ·have:((Addr.add (Addr.add ⟨b,o,some q⟩ 0) 0).spot.isSome)=true:=rfl
      rw[this]at h4;simp at h4
     ·cases h4
   subst hsp
   have hlm:len≤m:=by rw[hmm];split<;>omega
   obtain⟨f,hf⟩:=Go.Deep.choose_lt (n:=len) (p:=fun i cs'=>w.cells? 0 ((⟨b,o,none⟩:Addr).add (i*P.cellsOf e)) (P.cellsOf e)=some cs'∧∃ x,DataW.trod enc P w 0 sp held n e cs'=some x)
    (fun i hi=>by obtain⟨cs',h3,h4⟩:=hx i (by omega);exact⟨cs',h3,_,h4⟩)
   have hcell:∀ i,i<len→(f i).length=sz∧∀ j,j<sz→w.cell? ⟨b,o+(i*sz+j),none⟩=(f i)[j]?:=fun i hi=>by
    obtain⟨h3,_⟩:=hf i hi
    rw[hz]at h3
    obtain⟨_,hlen,hcell⟩:=World.cells?_some h3
    refine⟨hlen,fun j hj=>?_⟩
    have:=hcell j hj
    rw[Go.Deep.add_add,Go.AX.add_plain]at this
    exact this
   have hrow:∀ (i:Nat) (r:List Value),((List.range len).map f)[i]?=some r→i<len∧r=f i:=fun i r hr=>by
    rw[List.getElem?_map]at hr
    obtain⟨j,hj,rfl⟩:=Option.map_eq_some_iff.1 hr
    have hi:i<len:=by
     rcases Nat.lt_or_ge i len with h | h
     ·exact h
     ·rw[List.getElem?_eq_none (by simpa using h)]at hj;cases hj
    rw[List.getElem?_range hi]at hj
    cases hj;exact⟨hi,rfl⟩
   have hlt:∀ {off:Nat} {c:Value},w.cell? ⟨b,off,none⟩=some c→b<w.heap.size:=fun {off c} hcc=>by
    unfold World.cell? at hcc
    rcases Nat.lt_or_ge b w.heap.size with h | h
    ·exact h
    ·simp only at hcc;rw[Array.getElem?_eq_none h]at hcc;cases hcc
   refine⟨some ⟨b,o,none⟩,len,cap,(List.range len).map f,rfl,by simp,⟨by simpa using hle,by simp only[List.length_map,List.length_range];omega,fun _ _=>⟨b,o,rfl⟩,?_,?_⟩,?_⟩
   ·intro b' o' hb' i j r c hr hc
    cases hb'
    obtain⟨hi,rfl⟩:=hrow i r hr
    obtain⟨q1,q2⟩:=hcell i hi
    have hj:j<sz:=by
     rw[←q1]
     rcases Nat.lt_or_ge j (f i).length with h | h
     ·exact h
     ·rw[List.getElem?_eq_none h]at hc;cases hc
    have:=q2 j hj
    rw[hc]at this
    show(if b<w.heap.size then w.cell? ⟨b,o+(i*sz+j),none⟩ else none)=some c
    rw[if_pos (hlt this)];exact this
   ·intro b' o' hb' i r hr
    cases hb'
    obtain⟨hi,rfl⟩:=hrow i r hr
    obtain⟨q1,q2⟩:=hcell i hi
    have hbr:=sH (w:=w) (b:=b) (f i) (o+i*sz) (fun j hj=>by rw[show o+i*sz+j=o+(i*sz+j) from by omega];exact q2 j (by omega))
    have h00:=q2 0 (by omega)
    have hb2:b<w.heap.size:=hlt (h00.trans (List.getElem?_eq_getElem (by omega)))
    show(if b<w.heap.size then lN w b (o+i*sz) sz else none)=some (f i)
    rw[if_pos hb2]
    rw[q1]at hbr;exact hbr
   ·intro i r hr
    obtain⟨hi,rfl⟩:=hrow i r hr
    obtain⟨q1,q2⟩:=hcell i hi
    obtain⟨_,x,hx'⟩:=hf i hi
    exact⟨q1,NM n 20 e (f i) ts x hl hx' (by rw[q1,hz]) (by rw[hts,hz])⟩
theorem Jh {w:World} {r:Reach} {b0 t e:Nat} {v:Value} (hu:P.underlying t=some (.slice e)) (hv:Value.okWide P w r b0 t v):Cell.okWide P w r b0 t v:=by
 simp only[Value.okWide,hu]at hv
 exact hv
theorem PS {w:World} {r:Reach} {b0 t e:Nat} {v:Value} (hu:P.underlying t=some (.slice e)) (hv:Cell.okWide P w r b0 t v):v.cells.toList=[v]:=by
 unfold Cell.okWide at hv
 rw[hu]at hv
 unfold Cell.ok at hv
 rw[hu]at hv
 cases v<;>first | rfl | simp at hv
theorem Ji {w:World} {r:Reach} {b0 t e sz:Nat} {v:Value} {d:DataW HT} {ps:List MemPlace} {sp:Nat→Bool} {held:Bool} {ts:List TypeId} (hu:P.underlying t=some (.slice e)) (hz:P.cellsOf e=sz) (h0:sz≠0)
  (hl:jO P 20 e=some ts) (hts:ts.length=sz) (hv:Value.okWide P w r b0 t v) (h:DataW.Trod enc P w 0 sp held t v d ps) :
  ∃ base n cap R,v=.slice base n cap∧R.length=n∧bG ⟨w,[]⟩ sz base cap R∧∀ (i:Nat) (r:List Value),R[i]?=some r→r.length=sz∧wQ enc P w 0 sp held ts r:=by
 obtain⟨fuel,h⟩:=h
 rw[PS hu (Jh hu hv)]at h
 exact PO hu hz h0 hl hts (Jh hu hv) ⟨fuel,h⟩
theorem X8 {α:Type} {l:List α} (h:l.length=2):∃ x0 x1,l=[x0,x1]:=by
 match l,h with
 | [x0,x1],_=>exact⟨x0,x1,rfl⟩
theorem acu {α:Type} {l:List α} (h:l.length=3):∃ x0 x1 x2,l=[x0,x1,x2]:=by
 match l,h with
 | [x0,x1,x2],_=>exact⟨x0,x1,x2,rfl⟩
theorem list4 {α:Type} {l:List α} (h:l.length=4):∃ x0 x1 x2 x3,l=[x0,x1,x2,x3]:=by
 match l,h with
 | [x0,x1,x2,x3],_=>exact⟨x0,x1,x2,x3,rfl⟩
theorem acv {α:Type} {l:List α} (h:l.length=5):∃ x0 x1 x2 x3 x4,l=[x0,x1,x2,x3,x4]:=by
 match l,h with
 | [x0,x1,x2,x3,x4],_=>exact⟨x0,x1,x2,x3,x4,rfl⟩
end
end Go.AX
/- Slices among the arguments with the bound on their weights. -/
namespace Go.AX
open Go Go.Proofs Go.ChangeShapes Go.WideShapes Go.ChangeAt
variable {HT:Type} {enc:TypeId×Value→HT} {P:Program}
end Go.AX
/- The engine: ranges over maps of our own; what is known is made less behind a piece of code. -/
namespace Go.AX
open Go Go.RowKit
def NP (H H':AH):Prop:=∀ E w,Sat E H w→Sat E H' w
theorem NP.refl (H:AH):NP H H:=fun _ _ h=>h
theorem NP.trans {A B C:AH} (h:NP A B) (k:NP B C):NP A C:=fun E w hs=>k E w (h E w hs)
theorem NP.of_le {H H':AH} (h:H'.le H):NP H H':=fun _ _ hs=>hs.mono h
theorem fZ.imp {P:Program} {n:Nat} {c:Code} {Q:Exit→Fr→AH→Prop} {fr:Fr} {H:AH} (h:fZ P n c (fun e fr H=>∃ H',NP H H'∧Q e fr H') fr H):fZ P n c Q fr H:=
 fun E a w hf hs=>wp_mono (h E a w hf hs) fun _ _ _ ⟨fr,H,h1,h2,H',h3,h4⟩=>⟨fr,H',h1,h3 _ _ h2,h4⟩
theorem aO.imp {P:Program} {f:FuncId} {args:Array Value} {H:AH} {K:Value→AH→Prop} (h:aO P f args H (fun v H'=>∃ H2,NP H' H2∧K v H2)):aO P f args H K:=
 fun E w hs=>(h E w hs).mono fun e w' ⟨v,H',h1,h2,H2,h3,h4⟩=>⟨v,H2,h1,h3 _ _ h2,h4⟩
theorem Sat.exact {E:Nat→Option Obj} {H:AH} {w:World} {m:Nat} {es:List (Value×Value)} (h:Sat E H w) (hf:H.find m=some (.gW es)):∃ en cl,BN es en cl∧Sat E (H.set m (.obj (.map en cl))) w:=by
 obtain⟨h1,h2,en,cl,ha,h3,h4⟩:=h.known _ _ hf
 refine⟨en,cl,⟨h3,h4⟩,h.below,fun b k hk=>?_,fun b o ho=>?_⟩
 ·rw[dw]at hk
  split at hk
  ·rename_i e;subst e;cases hk;exact⟨h1,h2,ha,rfl⟩
  ·exact h.known _ _ hk
 ·obtain⟨q1,q2,q3⟩:=h.far b o ho
  refine⟨q1,?_,q3⟩
  rw[dw,if_neg (fun e=>by subst e;rw[hf]at q2;cases q2)];exact q2
theorem NP.gW {H H':AH} {m:Nat} {es:List (Value×Value)} {en:Array MapEntry} {cl:Nat} (hf:H.find m=some (.obj (.map en cl))) (hm:BN es en cl) (hw:H'.w0=H.w0)
  (ha:∀ b k,H'.find b=some k→b≠m→H.find b=some k) (hb:∀ k,H'.find m=some k→k=.gW es):NP H H':=fun E w h=>by
 refine⟨hw▸h.below,fun b k hk=>?_,fun b o ho=>?_⟩
 ·by_cases e:b=m
  ·subst e
   obtain rfl:=hb k hk
   obtain⟨h1,h2,h3,_⟩:=h.known _ _ hf
   exact⟨hw▸h1,h2,en,cl,h3,hm.1,hm.2⟩
  ·exact hw▸h.known b k (ha b k hk e)
 ·obtain⟨q1,q2,q3⟩:=h.far b o ho
  refine⟨hw▸q1,?_,q3⟩
  cases hk:H'.find b with
  |none=>rfl
  |some k=>
   by_cases e:b=m
   ·subst e;rw[hf]at q2;cases q2
   ·rw[ha b k hk e]at q2;cases q2
section
variable {P:Program} {H:AH} {n d:Nat} {ds:List (Option Tmp)} {fr:Fr} {K:Fr→AH→Prop} {q:Bool} {ty:TypeId} {pos:String} {af:Array Edge} {rest:List Oper}
def RNG (P:Program) (t:TypeId) (x:Value) (H:AH) (k:Value→AH→Prop) (_t:Lk (k,H):=.mk):Prop:=nH P (do pure (.value (←Instr.range t x))) H k
def NXT (P:Program) (it:Value) (b:Bool) (ty:TypeId) (H:AH) (k:Value→AH→Prop) (_t:Lk (k,H):=.mk):Prop:=nH P (do pure (.value (←Instr.next it b ty))) H k
theorem Wi {t:TypeId} {x:Operand}:fG q P n ds (⟨(some d),.range t x,ty,pos,af,none⟩::rest) fr H K=(d<n∧q=false∧wv fr x fun x=>RNG P t x H fun v H'=>fG q P n ds rest ((d,v)::fr) H' K):=by
 rw[←fH]
 apply propext
 constructor
 ·rintro⟨h1,h2,_,h3,h4⟩
  exact⟨h1,h3,by simpa [Op.operands]using h2,h4⟩
 ·rintro⟨h1,h2,h3,h4⟩
  exact⟨h1,by simpa [Op.operands]using h3,rfl,h2,h4⟩
theorem Zp {x:Operand} {b:Bool}:fG q P n ds (⟨(some d),.next x b,ty,pos,af,none⟩::rest) fr H K=(d<n∧q=false∧wv fr x fun x=>NXT P x b ty H fun v H'=>fG q P n ds rest ((d,v)::fr) H' K):=by
 rw[←fH]
 apply propext
 constructor
 ·rintro⟨h1,h2,_,h3,h4⟩
  exact⟨h1,h3,by simpa [Op.operands]using h2,h4⟩
 ·rintro⟨h1,h2,h3,h4⟩
  exact⟨h1,by simpa [Op.operands]using h3,rfl,h2,h4⟩
def ENT (P:Program) (it:Value) (H:AH) (k:Value→AH→Prop) (_t:Lk (k,H):=.mk):Prop:=nH P (do pure (.value (←Instr.entry it))) H k
theorem Wj {x:Operand}:fG q P n ds (⟨(some d),.entry x,ty,pos,af,none⟩::rest) fr H K=(d<n∧q=false∧wv fr x fun x=>ENT P x H fun v H'=>fG q P n ds rest ((d,v)::fr) H' K):=by
 rw[←fH]
 apply propext
 constructor
 ·rintro⟨h1,h2,_,h3,h4⟩
  exact⟨h1,h3,by simpa [Op.operands]using h2,h4⟩
 ·rintro⟨h1,h2,h3,h4⟩
  exact⟨h1,by simpa [Op.operands]using h3,rfl,h2,h4⟩
end
attribute [go_sem ↓] Wi Zp Wj
theorem RNG.map {P:Program} {H:AH} {t kt et m:Nat} {es:List (Value×Value)} {k:Value→AH→Prop} (hu:P.underlying t=some (.map kt et)) (hf:H.find m=some (.gW es))
  (hk:∀ en cl,BN es en cl→bY (H.set m (.obj (.map en cl))) fun b=>k (.pointer (some ⟨b,0,none⟩)) ((H.set m (.obj (.map en cl))).add b (.obj (.mapIter (some m) cl #[] cl)))):RNG P t (.map (some m)) H k:=
 fun E w hs=>by
  obtain⟨en,cl,hm,hs'⟩:=hs.exact hf
  have:=hk en cl hm
  refine nH.oP (H:=H.set m (.obj (.map en cl))) (K:=k) ?_ E w hs'
  rw[dO]
  unfold Instr.range
  refine bP ((bT t).trans hu) ?_
  simp only[getObj,dO,dY,dw,if_true,newObj]
  exact this
def left (en:Array MapEntry) (D:List MapEntry):List MapEntry:=en.toList.filter fun e=>!(D.map (·.born)).contains e.born
theorem Dp {l:List MapEntry} (h:(l.map (·.born)).Nodup) {a b:MapEntry} (ha:a∈l) (hb:b∈l) (e:a.born=b.born):a=b:=by
 induction l with
 |nil=>cases ha
 |cons x l ih=>
  simp only[List.map_cons,List.nodup_cons,List.mem_map,not_exists,not_and]at h
  rcases List.mem_cons.1 ha with ha1 | ha1
  ·rcases List.mem_cons.1 hb with hb1 | hb1
   ·rw[ha1,hb1]
   ·exact absurd (ha1▸e).symm (h.1 b hb1)
  ·rcases List.mem_cons.1 hb with hb1 | hb1
   ·exact absurd (hb1▸e) (h.1 a ha1)
   ·exact ih h.2 ha1 hb1
theorem NXT.map {P:Program} {H:AH} {ty i m cl:Nat} {en:Array MapEntry} {D:List MapEntry} {k:Value→AH→Prop} (hi:H.find i=some (.obj (.mapIter (some m) cl (D.map (·.born)).toArray cl))) (hm:H.find m=some (.obj (.map en cl)))
  (hb:mJ en cl) (h0:left en D=[]→k (.tuple #[.bool false]) H)
  (h1:∀ e∈left en D,k (.tuple #[.bool true,e.key,e.val]) (H.set i (.obj (.mapIter (some m) cl ((D++[e]).map (·.born)).toArray cl)))):NXT P (.pointer (some ⟨i,0,none⟩)) false ty H k:=by
 refine nH.oP ?_
 rw[dO]
 unfold Instr.next
 simp only[getObj,dO,dY,hi,hm]
 have c1:(!((D.map (·.born)).toArray).isEmpty&&!en.isEmpty&&en.all fun e=>decide (e.born≥cl))=false:=by
  cases hen:en.isEmpty with
  |true=>simp
  |false=>
   have hne:en.toList≠[]:=fun h=>by simp[Array.isEmpty,Array.toList_eq_nil_iff.1 h]at hen
   obtain⟨x,hx⟩:=List.exists_mem_of_ne_nil _ hne
   have:(en.all fun e=>decide (e.born≥cl))=false:=by
    rw[Array.all_eq_false]
    obtain⟨j,hj,he⟩:=List.mem_iff_getElem.1 hx
    refine⟨j,by simpa using hj,?_⟩
    have:=hb.1 x hx
    have he':en[j]'(by simpa using hj)=x:=by rw[←he];simp
    rw[he'];simp;omega
   rw[this];simp
 rw[if_neg (by rw[c1];decide)]
 have hl:(en.filter fun e=>!((D.map (·.born)).toArray).contains e.born)=(left en D).toArray:=by
  apply Array.ext'
  simp[left]
 have hold:((left en D).toArray.filter fun e=>decide (e.born<cl))=(left en D).toArray:=by
  rw[Array.filter_eq_self]
  intro x hx
  have:x∈left en D:=by simpa using hx
  simpa using hb.1 x ((List.mem_filter.1 this).1)
 have hnew:((left en D).toArray.filter fun e=>decide (e.born≥cl))=#[]:=by
  rw[Array.filter_eq_empty_iff]
  intro x hx
  have:x∈left en D:=by simpa using hx
  have:=hb.1 x ((List.mem_filter.1 this).1)
  simp;omega
 simp only[hl,hold,hnew,Array.append_empty]
 cases hL:left en D with
 |nil=>
  simp only[Array.isEmpty,List.size_toArray,List.length_nil,decide_true,if_true,List.map_toArray,List.map_nil,Array.append_empty]
  simp only[choose,dY,Question.forced]
  exact h0 hL
 |cons x L=>
  have hne:(x::L).toArray.isEmpty=false:=by simp
  simp only[hne,Bool.false_eq_true,if_false,List.map_toArray,Array.empty_append]
  have fin:∀ j,j<(x::L).length→dY P (match ((x::L).map some).toArray[j]? with
    |some (some e)=>do
     setObj i (.mapIter (some m) cl ((D.map (·.born)).toArray.push e.born) cl)
     pure (Value.tuple #[.bool true,e.key,e.val])
    |some none=>pure (Value.tuple #[.bool false])
    |none=>stuck "Next: no such candidate") H fun a H'=>dY P (pure (Next.value a)) H' (oJ false P k):=fun j hj=>by
   have hg:((x::L).map some).toArray[j]?=some (some (x::L)[j]):=by
    rw[List.getElem?_toArray,List.getElem?_map,List.getElem?_eq_getElem hj];rfl
   rw[hg]
   have hmem:(x::L)[j]∈left en D:=by rw[hL];exact List.getElem_mem _
   have:=h1 _ hmem
   simp only[setObj,dO,dY,hi,isC,true_and]
   have e1:(D.map (·.born)).toArray.push (x::L)[j].born=((D++[(x::L)[j]]).map (·.born)).toArray:=by simp
   rw[e1]
   exact this
  simp only[choose,dO,dY]
  split
  ·exact fin 0 (by simp)
  ·intro t
   exact fin (t % _) (by rw[List.size_toArray,List.length_map];exact Nat.mod_lt _ (by simp))
theorem ENT.map {P:Program} {H:AH} {i m cl:Nat} {en:Array MapEntry} {D:List MapEntry} {e:MapEntry} {k:Value→AH→Prop} (hi:H.find i=some (.obj (.mapIter (some m) cl ((D++[e]).map (·.born)).toArray cl))) (hm:H.find m=some (.obj (.map en cl)))
  (hb:mJ en cl) (he:e∈en.toList) (hk:k (.tuple #[e.key,e.val]) H):ENT P (.pointer (some ⟨i,0,none⟩)) H k:=by
 refine nH.oP ?_
 rw[dO]
 unfold Instr.entry
 have hback:((D++[e]).map (·.born)).toArray.back?=some e.born:=by simp
 have hfind:en.find? (fun x=>x.born==e.born)=some e:=by
  cases hf:en.find? (fun x=>x.born==e.born) with
  |none=>
   have:=Array.find?_eq_none.1 hf e (by simpa using he)
   simp at this
  |some x=>
   have h1:=Array.find?_some hf
   have h2:=Array.mem_of_find?_eq_some hf
   have h3:x=e:=Dp hb.2 (by simpa using h2) he (by simpa using h1)
   rw[h3]
 simp only[getObj,dO,dY,hi,hm,hback,bne_self_eq_false,Bool.false_eq_true,if_false,hfind]
 exact hk
structure Rnd (en:Array MapEntry) (cl:Nat) (D:List MapEntry):Prop where
 ok:mJ en cl
 sub:∀ e∈D,e∈en.toList
 nd:(D.map (·.born)).Nodup
theorem Rnd.nil {en:Array MapEntry} {cl:Nat} (h:mJ en cl):Rnd en cl []:=⟨h,by simp,by simp⟩
theorem Rnd.GU {en:Array MapEntry} {cl:Nat} {D:List MapEntry} {e:MapEntry} (he:e∈left en D):e∈en.toList∧e.born∉D.map (·.born):=by
 obtain⟨h1,h2⟩:=List.mem_filter.1 he
 exact⟨h1,by simpa using h2⟩
theorem Rnd.step {en:Array MapEntry} {cl:Nat} {D:List MapEntry} {e:MapEntry} (h:Rnd en cl D) (he:e∈left en D):Rnd en cl (D++[e]):=by
 obtain⟨h1,h2⟩:=Rnd.GU (cl:=cl) he
 refine⟨h.ok,fun x hx=>?_,?_⟩
 ·rcases List.mem_append.1 hx with hx | hx
  ·exact h.sub x hx
  ·rw[List.mem_singleton.1 hx];exact h1
 ·rw[List.map_append,List.nodup_append]
  exact⟨h.nd,by simp,fun a ha b hb=>by
   simp at hb;subst hb
   intro e';exact h2 (e'▸ha)⟩
theorem sS {α β:Type} {f:α→β}:∀ {l:List α},(l.map f).Nodup→l.Nodup
 | [],_=>by simp
 |x::l,h=>by
  simp only[List.map_cons,List.nodup_cons,List.mem_map,not_exists,not_and]at h
  exact List.nodup_cons.2 ⟨fun hx=>h.1 x hx rfl,sS h.2⟩
theorem Rnd.less {en:Array MapEntry} {D:List MapEntry} {e:MapEntry} (he:e∈left en D):(left en (D++[e])).length<(left en D).length:=by
 have h:left en (D++[e])=(left en D).filter fun x=>!(x.born==e.born):=by
  unfold left
  rw[List.filter_filter]
  apply List.filter_congr
  intro x _
  simp only[List.map_append,List.map_cons,List.map_nil,List.contains_append]
  by_cases hx:x.born=e.born
  ·simp[hx]
  ·have:(x.born==e.born)=false:=by simpa using hx
   simp[hx]
 rw[h]
 exact List.length_filter_lt_length_iff_exists.2 ⟨e,he,by simp⟩
theorem Rnd.done {en:Array MapEntry} {cl:Nat} {D:List MapEntry} (h:Rnd en cl D) (hl:left en D=[]):D.Perm en.toList:=by
 rw[List.perm_ext_iff_of_nodup (sS h.nd) (sS h.ok.2)]
 intro e
 refine⟨h.sub e,fun he=>?_⟩
 have:e∉left en D:=by rw[hl];simp
 have hb:e.born∈D.map (·.born):=by
  rcases Classical.em (e.born∈D.map (·.born)) with h' | h'
  ·exact h'
  ·exact absurd (List.mem_filter.2 ⟨he,by simpa using h'⟩) this
 obtain⟨x,hx,hxe⟩:=List.mem_map.1 hb
 rw[Dp h.ok.2 he (h.sub x hx) hxe.symm];exact hx
end Go.AX
