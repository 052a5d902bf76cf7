/- Texts of mine, one behind another. -/
import Derived.Test.YtbhamhhjicehaaaGreatDoorMBusRounds6
import Derived.Shelf.SlSortCmp.WholeK
import Derived.Shelf.SlSortCmp.NoneTotal
import Derived.Shelf.SlicesG.Cmp
import Derived.Shelf.Small.Bits
import Derived.Shelf.Lay
import Derived.Ground.SlsfProg
import Derived.Ground.SlgcProg
import Derived.Ground.NamesProg
set_option linter.unusedSimpArgs false
set_option linter.unusedVariables false
set_option maxHeartbeats 4000000
/- part: the reference's Apply. -/
namespace Go.Proofs.YtbhamhhjicehaaaGreatDoor.jh
open Go Go.AX Go.Proofs Ty Go.Proofs.YtbhamhhjicehaaaGreatDoor.File Go.Proofs.YtbhamhhjicehaaaGreatDoor.mF Go.Proofs.YtbhamhhjicehaaaGreatDoor.Err
open Go.Proofs.YtbhamhhjicehaaaGreatDoor.pF (gG aA ay aJ aI)
set_option maxRecDepth 10000
theorem Qh (T0 T:List En) (x:En) (hd:Hd) (X:List Nf):(recvs (T++[x])).foldl (gu T0 hd) X=if x.1=2 then gu T0 hd ((recvs T).foldl (gu T0 hd) X) (pl x) else (recvs T).foldl (gu T0 hd) X:=by
 rw[recvs,List.filter_append,List.map_append,List.foldl_append,←recvs]
 by_cases h:x.1=2
 ·rw[if_pos h];simp[h]
 ·rw[if_neg h];simp[h]
theorem Xg (hd:Hd) (l l':List En):BG hd (l++l')=(BG hd l&&BG hd l'):=by rw[BG,BG,BG,List.all_append]
theorem zX {H:AH} {b:Nat} {Z:List RF} {den:Int} {rd:Nat→Prop} (h:jU H b Z den rd):∃ k,H.find b=some k:=by
 obtain⟨_,_,h,_⟩:=h
 exact⟨_,h⟩
theorem yU {H:AH} {b:Nat} {Z:List RF} {den:Int} {rd:Nat→Prop} (h:jU H b Z den rd):TA H rd:=by
 obtain⟨_,_,_,_,_,_,h⟩:=h
 exact h
theorem Xh (o:Option Rc):∃ v ok,uV o=.tuple #[.agg (enc v).toArray,.bool ok]∧(o=none→ok=false)∧∀ w,o=some w→v=w∧ok=true:=by
 cases o with
 |none=>exact⟨zr,false,rfl,fun _=>rfl,fun _ h=>by cases h⟩
 |some w=>exact⟨w,true,rfl,(fun h=>by cases h),fun _ h=>⟨Option.some.inj h,rfl⟩⟩
theorem TP (T:List En) {m:Nat} {y:En} (hy:T[m]?=some y) (p:Pl):got (T.take (m+1)) p=got (T.take m) p++if Au p y=true then [y] else []:=by
 rw[List.take_add_one,hy];exact qp _ _ _
def hdG (bv:Int→Int):Hd:=fun s=>some (bv s)
theorem Yq {a b:Hd}:∀ {l:List En} {v:Rc},(∀ y∈l,a y.2.1=b y.2.1)→l.foldl (lH a) v=l.foldl (lH b) v
 | [],_,_=>rfl
 |y::l,v,h=>by
  rw[List.foldl_cons,List.foldl_cons,Yq fun z hz=>h z (List.mem_cons_of_mem _ hz),lH,lH,h y (List.mem_cons_self ..)]
def qI (hd:Hd) (bv:Int→Int) (i:Nat):List Value:=((List.range 17).map fun j=>Value.int .u8 (if j<i then bv j else 0))++((List.range 17).map fun j=>Value.bool (decide (j<i)&&(hd j).isSome))
theorem yV (hd:Hd) (bv:Int→Int) (i:Nat):(qI hd bv i).length=34:=by simp[qI]
theorem zY (hd:Hd) (bv:Int→Int) (i:Nat):(qI hd bv i).all iM=true:=by
 rw[qI,List.all_append,Bool.and_eq_true,List.all_map,List.all_map,List.all_eq_true,List.all_eq_true]
 exact⟨fun _ _=>rfl,fun _ _=>rfl⟩
theorem yX (hd:Hd) (bv:Int→Int) (i q:Nat):(qI hd bv i)[q]?=if q<17 then some (Value.int .u8 (if q<i then bv q else 0)) else if q<34 then some (Value.bool (decide (q - 17<i)&&(hd ((q - 17:Nat):Int)).isSome)) else none:=by
 unfold qI
 rw[List.getElem?_append]
 simp only[List.length_map,List.length_range,List.getElem?_map]
 by_cases h1:q<17
 ·rw[if_pos h1,if_pos h1,List.getElem?_range h1];rfl
 ·rw[if_neg h1,if_neg h1]
  by_cases h2:q<34
  ·rw[if_pos h2,List.getElem?_range (by omega)];rfl
  ·rw[if_neg h2,List.getElem?_eq_none (by simp;omega)];rfl
theorem DX {hd:Hd} {bv:Int→Int} {i:Nat} (hi:i<17):((qI hd bv i).set i (.int .u8 (bv i))).set (17+i) (.bool (hd i).isSome)=qI hd bv (i+1):=by
 apply List.ext_getElem?
 intro q
 rw[List.getElem?_set,List.getElem?_set,List.length_set,yV,yX,yX]
 by_cases h1:q<17
 ·rw[if_neg (by omega),if_pos h1,if_pos h1]
  by_cases e:i=q
  ·subst e;rw[if_pos rfl,if_pos (by omega)];simp
  ·rw[if_neg e]
   have:(q<i+1)=(q<i):=by apply propext;omega
   simp only[this]
 ·by_cases e:17+i=q
  ·rw[if_pos e,if_pos (by omega),if_neg h1,if_pos (by omega),show q - 17=i by omega];simp
  ·rw[if_neg e,if_neg (by omega),if_neg h1,if_neg h1]
   by_cases h2:q<34
   ·rw[if_pos h2,if_pos h2]
    have:decide (q - 17<i+1)=decide (q - 17<i):=by rw[Bool.eq_iff_iff];simp;omega
    rw[this]
   ·rw[if_neg h2,if_neg h2]
theorem vG {H:AH} {b:Nat} {Z:List RF} {den:Int} {rd:Nat→Prop} (h:jU H b Z den rd) (hX:lG (Z.map RF.nf)) (T:List En) (bt:Option Addr) (ct:Nat) (hT:bG H 5 bt ct (T.map gG)) (hd:Hd) (bv:Int→Int) (hbv:∀ s y,hd s=some y→bv s=y)
  (hr:∀ s y,hd s=some y→0≤y∧y≤255) (hB:∀ x∈T,x.1=2→(1≤x.2.1∧x.2.1≤16)∧0≤x.2.2.2.2∧x.2.2.2.2≤3) :
  aO Tryz.prog 42 #[.pointer (some ⟨b,0,none⟩),.slice bt T.length ct,.agg (qI hd bv 17).toArray] H (fun u H'=>∃ b' Z' rd',u=.pointer (some ⟨b',0,none⟩)∧Z'.map RF.nf=(app T hd (Z.map RF.nf) den).1∧lG (Z'.map RF.nf)∧jU H' b' Z' (app T hd (Z.map RF.nf) den).2 rd'∧(Keep H H' fun _=>False)∧aG H b'∧∀ x,rd' x→rd x∨aG H x):=by
 have eF:=yV hd bv 17
 have iw:=zY hd bv 17
 have adl:=hT.big
 simp only[List.length_map]at adl
 refine aO.cu Tryz.func42 rfl Tryz.ntmps42 Tryz.results42 (by simp) ?_;simp -dsimp(maxSteps:=4000000) only[aA,ay,aJ,aI,au,ak,aB,aC,eF,iw,go_sem]
 refine bY.mk fun b5 iW=>?_;have bQ:=iW;(try simp only[ah,aj,ne_eq]at bQ);have dB:=bQ;(try simp only[@eq_comm Nat b5]at dB);simp -dsimp(maxSteps:=4000000) only[aA,ay,aJ,aI,au,ak,aB,aC,eF,iw,bQ,dB,go_sem]
 have f5:aG H b5:=iW
 have k5:Keep H (H.add b5 (.cells (qI hd bv 17) 100 34)) fun _=>False:=Keep.add iW
 refine(wC (h.keep k5 (fun _ _ h=>h) fun h=>h) hX).mono ?_
 rintro _ A0 ⟨bo,UM,rfl,hS0,hK0,hfo,hr0⟩
 have f50:=hK0.find (fun h=>h) (aH _ _ _)
 have kH0:=k5.trans hK0
 have ZY:aG H bo:=k5.fr hfo
 have adn:∀ x,UM x→rd x∨aG H x:=fun x hx=>(hr0 x hx).imp id fun h=>k5.fr h
 have n5o:b5≠bo:=fun e=>hfo.cO (aH _ _ _) e.symm
 rw[show(some (iD.cells (qI hd bv 17) 100 34))=some (.cells (qI hd bv 17) 100 34) from rfl]at f50
 clear iW bQ dB hK0 hr0 hfo k5
 simp -dsimp(maxSteps:=4000000) only[aA,ay,aJ,aI,au,ak,aB,aC,eF,iw,go_sem]
 obtain⟨X0,hX0⟩:∃ X0,Z.map RF.nf=X0:=⟨_,rfl⟩
 refine fZ.jE (ι:=Nat×List RF×(Nat→Prop)) (fun s A=>s.1≤T.length∧jU A bo s.2.1 den s.2.2∧s.2.1.map RF.nf=(recvs (T.take s.1)).foldl (gu T hd) X0∧lG (s.2.1.map RF.nf)∧(Keep H A fun _=>False)∧(∀ x,s.2.2 x→rd x∨aG H x)∧A.find b5=some (.cells (qI hd bv 17) 100 34))
  (fun s=>[(8,.int .i64 s.1),(1,.slice bt T.length ct),(7,.pointer (some ⟨bo,0,none⟩)),(5,.pointer (some ⟨b5,0,none⟩))]) (fun s=>T.length - s.1) (0,Z,UM) A0
  ⟨by simp,hS0,hX0,hX,kH0,adn,f50⟩ (bZ.aS ?_) (AH.le_refl _) fun s A hV Q again out=>?_
 ·simp -dsimp(maxSteps:=4000000) only[aA,ay,aJ,aI,au,ak,aB,aC,eF,iw,go_sem]
 clear hS0 kH0 adn f50
 obtain⟨i,Zi,rdi⟩:=s
 obtain⟨hi,hS,hZi,Oo,hK,hrd,hf5⟩:=hV
 dsimp only at hi hS hZi Oo hK hrd hf5 ⊢
 by_cases hlt:(i:Int)<T.length
 ·obtain⟨x,hx⟩:=get_some (l:=T) (i:=i) (by omega)
  have hTA:=hT.keep hK fun _ _ h=>h
  obtain⟨q,o,rfl,hrow,_⟩:=hTA.get (Go.AX.dn (f:=gG) hx)
  have ee:=dA (i:=i) (by omega)
  have hi0:(0:Int)≤(i:Int):=by omega
  have et:T.take (i+1)=T.take i++[x]:=by rw[List.take_add_one,hx];rfl
  have hxT:=List.mem_of_getElem? hx
  have hsn:=Qh T (T.take i) x hd X0
  rw[←et,←hZi]at hsn
  obtain⟨k,sl,fl,rc,qH⟩:=x
  have eE:gG (k,sl,fl,rc,qH)=[.int .i64 k,.int .i64 sl,.int .i64 fl,.int .i64 rc,.int .i64 qH]:=rfl
  rw[eE]at hrow
  simp -dsimp(maxSteps:=4000000) only[hlt,hi0,hrow,aA,ay,aJ,aI,au,ak,aB,aC,eF,iw,go_sem]
  refine bY.mk fun b9 iI=>?_;have aU:=iI;(try simp only[ah,aj,ne_eq]at aU);have bH:=aU;(try simp only[@eq_comm Nat b9]at bH);simp -dsimp(maxSteps:=4000000) only[aA,ay,aJ,aI,au,ak,aB,aC,eF,iw,aU,bH,go_sem]
  by_cases hk2:k=2
  case' neg=>
   rw[if_neg hk2]at hsn
   simp -dsimp(maxSteps:=4000000) only[hk2,ee,aA,ay,aJ,aI,au,ak,aB,aC,eF,iw,aU,bH,go_sem]
   exact again (i+1,Zi,rdi) _ A _ ⟨by dsimp only;omega,hS,hsn.symm,Oo,hK,hrd,hf5⟩ (bZ.aS (by simp -dsimp(maxSteps:=4000000) only[aA,ay,aJ,aI,au,ak,aB,aC,eF,iw,aU,bH,go_sem])) (AH.aK (AH.le_refl _) iI.2) (by dsimp only;omega)
  rw[if_pos hk2]at hsn
  have k9:Keep A (A.add b9 (.cells [.int .i64 k,.int .i64 sl,.int .i64 fl,.int .i64 rc,.int .i64 qH] 78 5)) fun _=>False:=Keep.add iI
  simp -dsimp(maxSteps:=4000000) only[hk2,aA,ay,aJ,aI,au,ak,aB,aC,eF,iw,aU,bH,go_sem]
  refine(Du (hS.keep k9 (fun _ _ h=>h) fun h=>h).at fl rc).mono ?_;rintro _ _ ⟨rfl,rfl⟩
  obtain⟨v0,ok0,hgv,hg1,hg2⟩:=Xh (iJ (Zi.map RF.nf) fl rc)
  rw[hgv]
  simp -dsimp(maxSteps:=4000000) only[aA,ay,aJ,aI,au,ak,aB,aC,eF,iw,aU,bH,go_sem]
  refine bY.mk fun b10 qg=>?_;have dW:=qg;(try simp only[ah,aj,ne_eq]at dW);have fF:=dW;(try simp only[@eq_comm Nat b10]at fF);simp -dsimp(maxSteps:=4000000) only[aA,ay,aJ,aI,au,ak,aB,aC,eF,iw,aU,bH,dW,fF,go_sem]
  have n59:¬ b9=b5:=iI.cO hf5
  have Z4:¬ b10=b5:=dW.2.cO hf5
  have hsR:∀ n:Nat,n<17→A.rd ⟨b5,n,none⟩=some (.int .u8 (bv n)):=fun n hn=>by
   rw[gB hf5]
   show(qI hd bv 17)[n]?=_
   rw[yX,if_pos hn,if_pos hn]
  have hsI:∀ n:Nat,n<17→A.rd ⟨b5,17+n,none⟩=some (.bool (hd n).isSome):=fun n hn=>by
   rw[gB hf5]
   show(qI hd bv 17)[17+n]?=_
   rw[yX,if_neg (by omega),if_pos (by omega),show 17+n - 17=n by omega,decide_eq_true hn,Bool.true_and]
  refine fZ.gQ (ι:=Nat) (fun m=>m≤T.length) (fun m=>[(12,.int .i64 m),(11,.bool (ok0&&BG hd (got (T.take m) (fl,rc)))),(8,.int .i64 i),(1,.slice (some ⟨q,o,none⟩) T.length ct),(7,.pointer (some ⟨bo,0,none⟩)),(5,.pointer (some ⟨b5,0,none⟩)),(9,.pointer (some ⟨b9,0,none⟩)),(10,.pointer (some ⟨b10,0,none⟩))])
   (fun m=>(A.add b9 (.cells [.int .i64 k,.int .i64 sl,.int .i64 fl,.int .i64 rc,.int .i64 qH] 78 5)).add b10 (.cells (enc ((got (T.take m) (fl,rc)).foldl (lH (hdG bv)) v0)) 76 4)) (fun m=>T.length - m) 0 (by omega) (bZ.aS ?_) (AH.le_refl _) fun m hm Q2 gI mG=>?_
  ·have:BG hd (got [] (fl,rc))=true:=rfl
   simp -dsimp(maxSteps:=4000000) only[List.take_zero,this,Bool.and_true,aA,ay,aJ,aI,au,ak,aB,aC,eF,iw,aU,bH,dW,fF,go_sem]
  by_cases hml:(m:Int)<T.length
  ·obtain⟨y,hy⟩:=get_some (l:=T) (i:=m) (by omega)
   obtain⟨q',o',hqq,hry,_⟩:=hTA.get (Go.AX.dn (f:=gG) hy)
   cases hqq
   have Xi:=dA (i:=m) (by omega)
   have hm0:(0:Int)≤(m:Int):=by omega
   have hyT:=List.mem_of_getElem? hy
   have hgs:=TP T hy (fl,rc)
   have m9:¬ b9=q:=iI.iP hry
   have m10:¬ b10=q:=dW.2.iP hry
   obtain⟨w,hw⟩:∃ w,(got (T.take m) (fl,rc)).foldl (lH (hdG bv)) v0=w:=⟨_,rfl⟩
   obtain⟨UN,MI⟩:∃ UN,(ok0&&BG hd (got (T.take m) (fl,rc)))=UN:=⟨_,rfl⟩
   obtain⟨y0,y1,y2,y3,y4⟩:=y
   have eY:gG (y0,y1,y2,y3,y4)=[.int .i64 y0,.int .i64 y1,.int .i64 y2,.int .i64 y3,.int .i64 y4]:=rfl
   rw[eY]at hry
   rw[hw,MI]
   simp -dsimp(maxSteps:=4000000) only[hml,hm0,hry,m9,m10,aA,ay,aJ,aI,au,ak,aB,aC,eF,iw,aU,bH,dW,fF,go_sem]
   refine bY.mk fun b13 jF=>?_;have dM:=jF;(try simp only[ah,aj,ne_eq]at dM);have dQ:=dM;(try simp only[@eq_comm Nat b13]at dQ);simp -dsimp(maxSteps:=4000000) only[aA,ay,aJ,aI,au,ak,aB,aC,eF,iw,aU,bH,dW,fF,dM,dQ,go_sem]
   have no:Au (fl,rc) (y0,y1,y2,y3,y4)=false→(ok0&&BG hd (got (T.take (m+1)) (fl,rc)))=UN∧(got (T.take (m+1)) (fl,rc)).foldl (lH (hdG bv)) v0=w:=fun h=>by
    rw[hgs,h,if_neg (by simp),List.append_nil];exact⟨MI,hw⟩
   by_cases c0:y0=2
   case' neg=>
    obtain⟨e1,e2⟩:=no (by simp[Au,c0])
    simp -dsimp(maxSteps:=4000000) only[c0,Xi,aA,ay,aJ,aI,au,ak,aB,aC,eF,iw,aU,bH,dW,fF,dM,dQ,go_sem]
    exact gI (m+1) _ _ (by omega) (bZ.aS (by simp -dsimp(maxSteps:=4000000) only[e1,aA,ay,aJ,aI,au,ak,aB,aC,eF,iw,aU,bH,dW,fF,dM,dQ,go_sem])) (by rw[e2];exact AH.aK (AH.le_refl _) jF.2) (by omega)
   by_cases c1:y2=fl
   case' neg=>
    obtain⟨e1,e2⟩:=no (by simp[Au,pl,c1])
    simp -dsimp(maxSteps:=4000000) only[c0,c1,Xi,aA,ay,aJ,aI,au,ak,aB,aC,eF,iw,aU,bH,dW,fF,dM,dQ,go_sem]
    exact gI (m+1) _ _ (by omega) (bZ.aS (by simp -dsimp(maxSteps:=4000000) only[e1,aA,ay,aJ,aI,au,ak,aB,aC,eF,iw,aU,bH,dW,fF,dM,dQ,go_sem])) (by rw[e2];exact AH.aK (AH.le_refl _) jF.2) (by omega)
   by_cases c2:y3=rc
   case' neg=>
    obtain⟨e1,e2⟩:=no (by simp[Au,pl,c2])
    simp -dsimp(maxSteps:=4000000) only[c0,c1,c2,Xi,aA,ay,aJ,aI,au,ak,aB,aC,eF,iw,aU,bH,dW,fF,dM,dQ,go_sem]
    exact gI (m+1) _ _ (by omega) (bZ.aS (by simp -dsimp(maxSteps:=4000000) only[e1,aA,ay,aJ,aI,au,ak,aB,aC,eF,iw,aU,bH,dW,fF,dM,dQ,go_sem])) (by rw[e2];exact AH.aK (AH.le_refl _) jF.2) (by omega)
   have hyes:Au (fl,rc) (y0,y1,y2,y3,y4)=true:=by simp[Au,pl,c0,c1,c2]
   obtain⟨⟨hs1,hs2⟩,hb1,hb2⟩:=hB _ hyT c0
   dsimp only at hs1 hs2 hb1 hb2
   obtain⟨n,rfl⟩:∃ n:Nat,y1=n:=⟨y1.toNat,by omega⟩
   obtain⟨j,rfl⟩:∃ j:Nat,y4=j:=⟨y4.toNat,by omega⟩
   have n135:¬ b13=b5:=dM.2.2.cO hf5
   have rI:=hsI n (by omega)
   have rR:=hsR n (by omega)
   have e1:(ok0&&BG hd (got (T.take (m+1)) (fl,rc)))=(UN&&(hd n).isSome):=by
    rw[hgs,if_pos hyes,Xg,←Bool.and_assoc,MI];simp[BG]
   have e2:(enc w).set j (.int .u8 (bv n))=enc ((got (T.take (m+1)) (fl,rc)).foldl (lH (hdG bv)) v0):=by
    rw[hgs,if_pos hyes,List.foldl_append,hw,JR w _ j (by omega)];rfl
   have hn0:(0:Int)≤(n:Int):=by omega
   have Z5:(n:Int)<17:=by omega
   have hj0:(0:Int)≤(j:Int):=by omega
   have hj4:(j:Int)<4:=by omega
   have hj3:j≤3:=by omega
   cases UN with
   |false=>
    rw[Bool.false_and]at e1
    simp -dsimp(maxSteps:=4000000) only[c0,c1,c2,aA,ay,aJ,aI,au,ak,aB,aC,eF,iw,aU,bH,dW,fF,dM,dQ,go_sem]
    refine fZ.gen [.pu,.rd,.pu,.rd,.pu,.pu,.rd,.pu,.ch] [0,1,0,4,0,28,60,127,255] 0 (_) mixed (by kernel_rfl) (AH.le_refl _) ?_
    simp -dsimp(maxSteps:=4000000) only[hn0,Z5,rR,n59,Z4,n135,hj0,hj4,hj3,e2,Xi,aA,ay,aJ,aI,au,ak,aB,aC,eF,iw,aU,bH,dW,fF,dM,dQ,go_sem]
    exact gI (m+1) _ _ (by omega) (bZ.aS (by simp -dsimp(maxSteps:=4000000) only[e1,aA,ay,aJ,aI,au,ak,aB,aC,eF,iw,aU,bH,dW,fF,dM,dQ,go_sem])) (AH.aK (AH.le_refl _) (by simp only[ah,aj,ne_eq,dM,not_false_eq_true,and_self]:aG _ b13).2) (by omega)
   |true=>
    rw[Bool.true_and]at e1
    simp -dsimp(maxSteps:=4000000) only[c0,c1,c2,hn0,Z5,rI,n59,Z4,n135,aA,ay,aJ,aI,au,ak,aB,aC,eF,iw,aU,bH,dW,fF,dM,dQ,go_sem]
    refine fZ.gen [.pu,.rd,.pu,.rd,.pu,.pu,.rd,.pu,.ch] [0,1,0,4,0,28,60,127,255] 0 (_) mixed (by kernel_rfl) (AH.le_refl _) ?_
    simp -dsimp(maxSteps:=4000000) only[hn0,Z5,rR,n59,Z4,n135,hj0,hj4,hj3,e2,Xi,aA,ay,aJ,aI,au,ak,aB,aC,eF,iw,aU,bH,dW,fF,dM,dQ,go_sem]
    exact gI (m+1) _ _ (by omega) (bZ.aS (by simp -dsimp(maxSteps:=4000000) only[e1,aA,ay,aJ,aI,au,ak,aB,aC,eF,iw,aU,bH,dW,fF,dM,dQ,go_sem])) (AH.aK (AH.le_refl _) (by simp only[ah,aj,ne_eq,dM,not_false_eq_true,and_self]:aG _ b13).2) (by omega)
  ·obtain rfl:m=T.length:=by omega
   rw[List.take_length]
   simp -dsimp(maxSteps:=4000000) only[hml,aA,ay,aJ,aI,au,ak,aB,aC,eF,iw,aU,bH,dW,fF,go_sem]
   refine mG _ _ _ (by simp) ?_
   obtain⟨w,hw⟩:∃ w,(got T (fl,rc)).foldl (lH (hdG bv)) v0=w:=⟨_,rfl⟩
   obtain⟨UN,MI⟩:∃ UN,(ok0&&BG hd (got T (fl,rc)))=UN:=⟨_,rfl⟩
   rw[hw,MI]
   have hwf:BG hd (got T (fl,rc))=true→(got T (fl,rc)).foldl (lH hd) v0=w:=fun ho=>by
    rw[←hw]
    refine Yq fun y hy=>?_
    have h1:=(List.all_eq_true.1 ho) y hy
    obtain⟨z,hz⟩:=Option.isSome_iff_exists.1 h1
    rw[hz,hdG,hbv _ _ hz]
   have hsp:gu T hd (Zi.map RF.nf) (fl,rc)=if UN=true then jk (Zi.map RF.nf) fl rc w else Zi.map RF.nf:=by
    rw[gu];dsimp only
    cases hgw:iJ (Zi.map RF.nf) fl rc with
    |none=>dsimp only;rw[←MI,hg1 hgw,Bool.false_and,if_neg (by decide)]
    |some v=>
     obtain⟨rfl,rfl⟩:=hg2 v hgw
     dsimp only
     rw[←MI,Bool.true_and]
     by_cases ho:BG hd (got T (fl,rc))=true
     ·rw[if_pos ho,if_pos ho,hwf ho]
     ·rw[if_neg ho,if_neg ho]
   have hok':=JQ (T:=T) hr Oo (fl,rc)
   have TQ:gu T hd (Zi.map RF.nf) (fl,rc)=(recvs (T.take (i+1))).foldl (gu T hd) X0:=hsn.symm
   rw[hsp]at hok' TQ
   have kc:Keep A ((A.add b9 (.cells [.int .i64 k,.int .i64 sl,.int .i64 fl,.int .i64 rc,.int .i64 qH] 78 5)).add b10 (.cells (enc w) 76 4)) fun _=>False:=(Keep.refl.nw iI).nw (by simp only[ah,ne_eq,dW,not_false_eq_true,and_self])
   have lec:A.le ((A.add b9 (.cells [.int .i64 k,.int .i64 sl,.int .i64 fl,.int .i64 rc,.int .i64 qH] 78 5)).add b10 (.cells (enc w) 76 4)):=kc.all
   cases UN with
   |false=>
    rw[if_neg (by decide)]at hok' TQ
    simp -dsimp(maxSteps:=4000000) only[ee,aA,ay,aJ,aI,au,ak,aB,aC,eF,iw,aU,bH,dW,fF,go_sem]
    exact again (i+1,Zi,rdi) _ A _ ⟨by dsimp only;omega,hS,TQ,Oo,hK,hrd,hf5⟩ (bZ.aS (by simp -dsimp(maxSteps:=4000000) only[aA,ay,aJ,aI,au,ak,aB,aC,eF,iw,aU,bH,dW,fF,go_sem])) lec (by dsimp only;omega)
   |true=>
    rw[if_pos rfl]at hok' TQ
    have hset:=TG (hS.keep kc (fun _ _ h=>h) fun h=>h) Oo fl rc w
    simp -dsimp(maxSteps:=4000000) only[aA,ay,aJ,aI,au,ak,aB,aC,eF,iw,aU,bH,dW,fF,go_sem]
    refine hset.mono ?_
    rintro _ C ⟨Z',rd',rfl,Z7,hS',hK',oU⟩
    have kAC:Keep A C (·=bo):=(kc.mono fun _ h=>h.elim).trans hK'
    simp -dsimp(maxSteps:=4000000) only[ee,aA,ay,aJ,aI,au,ak,aB,aC,eF,iw,aU,bH,dW,fF,go_sem]
    exact again (i+1,Z',rd') _ C _ ⟨by dsimp only;omega,hS',by dsimp only;rw[Z7,TQ],by dsimp only;rw[Z7];exact hok',hK.ow kAC fun x e=>e▸ZY,fun x hx=>(oU x hx).elim (hrd x) fun h=>.inr ((hK.trans kc).fr h),kAC.find n5o hf5⟩ (bZ.aS (by simp -dsimp(maxSteps:=4000000) only[aA,ay,aJ,aI,au,ak,aB,aC,eF,iw,aU,bH,dW,fF,go_sem])) (AH.le_refl _) (by dsimp only;omega)
 ·obtain rfl:i=T.length:=by omega
  rw[List.take_length]at hZi
  simp -dsimp(maxSteps:=4000000) only[hlt,aA,ay,aJ,aI,au,ak,aB,aC,eF,iw,go_sem]
  refine out _ _ _ (by simp) ?_
  clear again out
  obtain⟨X1,hX1⟩:∃ X1,app1 T hd X0=X1:=⟨_,rfl⟩
  have hZ1:Zi.map RF.nf=X1:=by rw[←hX1];exact hZi
  have happ:app T hd X0 den=oI T (X1,den):=by rw[app,hX1]
  rw[hX0,happ]
  rw[hZ1]at Oo
  clear hZi hX1 happ hX hX0 hf5
  simp -dsimp(maxSteps:=4000000) only[aA,ay,aJ,aI,au,ak,aB,aC,eF,iw,go_sem]
  refine fZ.jE (ι:=Nat×List RF×(Nat→Prop)) (fun s A=>s.1≤T.length∧jU A bo s.2.1 (oI (T.take s.1) (X1,den)).2 s.2.2∧s.2.1.map RF.nf=(oI (T.take s.1) (X1,den)).1∧lG (s.2.1.map RF.nf)∧(Keep H A fun _=>False)∧∀ x,s.2.2 x→rd x∨aG H x)
   (fun s=>[(14,.int .i64 s.1),(1,.slice bt T.length ct),(7,.pointer (some ⟨bo,0,none⟩))]) (fun s=>T.length - s.1) (0,Zi,rdi) A
   ⟨by simp,hS,hZ1,by dsimp only;rw[hZ1];exact Oo,hK,hrd⟩ (bZ.aS ?_) (AH.le_refl _) fun s B hV Q again out=>?_
  ·simp -dsimp(maxSteps:=4000000) only[aA,ay,aJ,aI,au,ak,aB,aC,eF,iw,go_sem]
  clear hS hZ1 Oo hK hrd
  obtain⟨i,Zj,rdj⟩:=s
  obtain⟨hi,hS,hZ1,Oo,hK,hrd⟩:=hV
  dsimp only at hi hS hZ1 Oo hK hrd ⊢
  by_cases hlt:(i:Int)<T.length
  ·obtain⟨x,hx⟩:=get_some (l:=T) (i:=i) (by omega)
   obtain⟨q,o,rfl,_,Qi⟩:=(hT.keep hK fun _ _ h=>h).get (Go.AX.dn (f:=gG) hx)
   have ee:=dA (i:=i) (by omega)
   have hi0:(0:Int)≤(i:Int):=by omega
   have et:oI (T.take (i+1)) (X1,den)=NZ (oI (T.take i) (X1,den)) x:=by
    rw[oI,oI,List.take_add_one,hx,List.foldl_append];rfl
   obtain⟨k,sl,fl,rc,qH⟩:=x
   have rk:=Qi 0 _ rfl
   have rf:=Qi 2 _ rfl
   have rr:=Qi 3 _ rfl
   simp only[Nat.add_zero]at rk
   dsimp only at rk rf rr
   by_cases hk3:k=3
   ·rw[NZ,if_pos hk3,←hZ1]at et
    have e31:=congrArg Prod.fst et
    have e32:=congrArg Prod.snd et
    dsimp only at e31 e32
    have hdo:=WW hS Oo 2 fl rc zr
    simp -dsimp(maxSteps:=4000000) only[hlt,hi0,rk,hk3,aA,ay,aJ,aI,au,ak,aB,aC,eF,iw,go_sem]
    refine fZ.gen [.pu,.pu,.pu,.pu,.pu,.rd,.pu,.pu,.pu,.pu,.rd,.pu,.pu,.ch] [0,0,0,6,14,30,0,0,192,448,960,2046,0,8191] 0 (_) mixed (by kernel_rfl) (AH.le_refl _) ?_
    simp -dsimp(maxSteps:=4000000) only[hlt,hi0,rf,rr,aA,ay,aJ,aI,au,ak,aB,aC,eF,iw,go_sem]
    refine hdo.mono ?_
    rintro _ C ⟨Z',rd',rfl,Z7,hS',hK',oU⟩
    have hK2:=hK.ow hK' fun x e=>e▸ZY
    simp -dsimp(maxSteps:=4000000) only[ee,aA,ay,aJ,aI,au,ak,aB,aC,eF,iw,go_sem]
    exact again (i+1,Z',rd') _ C _ ⟨by dsimp only;omega,by dsimp only;rw[e32];exact hS',by dsimp only;rw[e31];exact Z7,by dsimp only;rw[Z7];exact Oo.do _ _ _ ⟨by decide,by decide,by decide,by decide⟩,hK2,fun x hx=>(oU x hx).elim (hrd x) fun h=>.inr (hK.fr h)⟩ (bZ.aS (by simp -dsimp(maxSteps:=4000000) only[aA,ay,aJ,aI,au,ak,aB,aC,eF,iw,go_sem])) (AH.le_refl _) (by dsimp only;omega)
   ·rw[NZ,if_neg hk3]at et
    simp -dsimp(maxSteps:=4000000) only[hlt,hi0,rk,hk3,ee,aA,ay,aJ,aI,au,ak,aB,aC,eF,iw,go_sem]
    exact again (i+1,Zj,rdj) _ B _ ⟨by dsimp only;omega,by dsimp only;rw[et];exact hS,by dsimp only;rw[et];exact hZ1,Oo,hK,hrd⟩ (bZ.aS (by simp -dsimp(maxSteps:=4000000) only[aA,ay,aJ,aI,au,ak,aB,aC,eF,iw,go_sem])) (AH.le_refl _) (by dsimp only;omega)
  ·obtain rfl:i=T.length:=by omega
   rw[List.take_length]at hS hZ1
   simp -dsimp(maxSteps:=4000000) only[hlt,aA,ay,aJ,aI,au,ak,aB,aC,eF,iw,go_sem]
   refine out _ _ _ (by simp) ?_
   simp -dsimp(maxSteps:=4000000) only[aA,ay,aJ,aI,au,ak,aB,aC,eF,iw,go_sem]
   exact⟨B,AH.le_refl _,bo,Zj,rdj,rfl,hZ1,Oo,hS,hK,ZY,hrd⟩
theorem MJ {H:AH} {b:Nat} {Z:List RF} {den:Int} {rd:Nat→Prop} (h:jU H b Z den rd) (hX:lG (Z.map RF.nf)) (T:List En) (bt:Option Addr) (ct:Nat) (hT:bG H 5 bt ct (T.map gG)) (hd:Hd)
  (hr:∀ s y,hd s=some y→0≤y∧y≤255) (hB:∀ x∈T,x.1=2→(1≤x.2.1∧x.2.1≤16)∧0≤x.2.2.2.2∧x.2.2.2.2≤3) :
  aO Tryz.prog 42 #[.pointer (some ⟨b,0,none⟩),.slice bt T.length ct,.agg (oW hd 17).toArray] H (fun u H'=>∃ b' Z' rd',u=.pointer (some ⟨b',0,none⟩)∧Z'.map RF.nf=(app T hd (Z.map RF.nf) den).1∧lG (Z'.map RF.nf)∧jU H' b' Z' (app T hd (Z.map RF.nf) den).2 rd'∧(Keep H H' fun _=>False)∧aG H b'∧∀ x,rd' x→rd x∨aG H x):=
 vG h hX T bt ct hT hd (fun j=>(hd j).getD 0) (fun s y h=>by rw[h];rfl) hr hB
end Go.Proofs.YtbhamhhjicehaaaGreatDoor.jh
/- part: Round. -/
namespace Go.Proofs.YtbhamhhjicehaaaGreatDoor.jh
open Go Go.AX Go.Proofs Ty Go.Proofs.YtbhamhhjicehaaaGreatDoor.File Go.Proofs.YtbhamhhjicehaaaGreatDoor.mF Go.Proofs.YtbhamhhjicehaaaGreatDoor.Err
open Go.Proofs.YtbhamhhjicehaaaGreatDoor.pF (Tb ig oH tabs kW gG DJ vw)
set_option maxRecDepth 10000
theorem MK (i j:Int):Instr.sameNow (.int .i64) (.int .i64 i) (.int .i64 j)=some (decide (i=j)):=by
 simp only[Instr.sameNow,ite_true,Option.some.injEq]
 rw[Bool.eq_iff_iff];simp
def ki (l:List (Int×Int)):List (Value×Value):=l.map fun p=>(.int .i64 p.1,.int .u8 p.2)
theorem ML {i:Int}:∀ {l:List (Int×Int)} {n:Nat},(∀ p∈l,p.1≠i)→zx (.int .i64) (.int .i64 i) (ki l) n=some none
 | [],_,_=>rfl
 |p::l,n,h=>by
  have h1:¬ i=p.1:=fun e=>h p (List.mem_cons_self ..) e.symm
  have ih:=ML (l:=l) (n:=n+1) fun q hq=>h q (List.mem_cons_of_mem _ hq)
  show zx _ _ ((Value.int .i64 p.1,Value.int .u8 p.2)::ki l) n=_
  rw[zx,MK,decide_eq_false h1]
  exact ih
theorem Oq {i y:Int}:∀ {l:List (Int×Int)} {n:Nat},(∃ p∈l,p.1=i)→(∀ p∈l,p.1=i→p.2=y)→∃ k,zx (.int .i64) (.int .i64 i) (ki l) n=some (some (k,.int .u8 y))
 | [],_,h,_=>by obtain⟨_,h,_⟩:=h;cases h
 |p::l,n,h,hy=>by
  show ∃ k,zx _ _ ((Value.int .i64 p.1,Value.int .u8 p.2)::ki l) n=_
  by_cases e:i=p.1
  ·refine⟨n,?_⟩
   rw[zx,MK,decide_eq_true e,←hy p (List.mem_cons_self ..) e.symm]
  ·obtain⟨k,hk⟩:=Oq (l:=l) (n:=n+1) (by
    obtain⟨q,hq,e'⟩:=h
    rcases List.mem_cons.1 hq with rfl | hq
    ·exact absurd e'.symm e
    ·exact⟨q,hq,e'⟩) fun q hq=>hy q (List.mem_cons_of_mem _ hq)
   refine⟨k,?_⟩
   rw[zx,MK,decide_eq_false e]
   exact hk
def ji (hd:Hd):Nat→List (Int×Int)
 |0=>[]
 |i+1=>match hd i with
  |none=>ji hd i
  |some y=>ji hd i++[((i:Int),y)]
theorem pJ {hd:Hd} {p:Int×Int}:∀ {i:Nat},p∈ji hd i↔∃ j:Nat,j<i∧hd j=some p.2∧p.1=(j:Int)
 |0=>by simp[ji]
 |i+1=>by
  rw[ji]
  cases hi:hd i with
  |none=>
   dsimp only
   rw[pJ]
   constructor
   ·rintro⟨j,h1,h2,h3⟩;exact⟨j,by omega,h2,h3⟩
   ·rintro⟨j,h1,h2,h3⟩
    by_cases e:j=i
    ·subst e;rw[hi]at h2;cases h2
    ·exact⟨j,by omega,h2,h3⟩
  |some y=>
   dsimp only
   rw[List.mem_append,pJ,List.mem_singleton]
   constructor
   ·rintro(⟨j,h1,h2,h3⟩ | rfl)
    ·exact⟨j,by omega,h2,h3⟩
    ·exact⟨i,by omega,hi,rfl⟩
   ·rintro⟨j,h1,h2,h3⟩
    by_cases e:j=i
    ·subst e
     rw[hi]at h2
     exact .inr (Prod.ext h3 (Option.some.inj h2).symm)
    ·exact .inl ⟨j,by omega,h2,h3⟩
theorem zZ (hd:Hd) (i:Nat) (n:Nat):zx (.int .i64) (.int .i64 (i:Int)) (ki (ji hd i)) n=some none:=ML fun p hp e=>by
 obtain⟨j,h1,_,h3⟩:=pJ.1 hp
 omega
theorem DY {H:AH} {bm:Nat} {hd:Hd} (h:H.find bm=some (.gW (ki (ji hd 17)))) (hout:∀ i:Int,¬ (1≤i∧i≤16)→hd i=none):Hm H (.map (some bm)) hd:=by
 refine⟨bm,_,rfl,h,fun i=>?_⟩
 cases hi:hd i with
 |none=>
  refine .inl ⟨rfl,ML fun p hp e=>?_⟩
  obtain⟨j,_,h2,h3⟩:=pJ.1 hp
  rw[←h3,e,hi]at h2;cases h2
 |some y=>
  have hr:1≤i∧i≤16:=Decidable.byContradiction fun hh=>by rw[hout i hh]at hi;cases hi
  obtain⟨k,hk⟩:=Oq (i:=i) (y:=y) (l:=ji hd 17) (n:=0) ⟨(i,y),pJ.2 ⟨i.toNat,by omega,by rw[show((i.toNat:Nat):Int)=i by omega];exact hi,by dsimp only;omega⟩,rfl⟩ fun p hp e=>by
   obtain⟨j,_,h2,h3⟩:=pJ.1 hp
   rw[←h3,e,hi]at h2
   exact(Option.some.inj h2).symm
  exact .inr ⟨y,k,rfl,hk⟩
theorem Xj (XS:List (List Nf)) (T:List Tb) (B:List Bool) (P:List Sp) (i:Int) (h:¬ (1≤i∧i≤16)):FM XS T B P i=none:=by rw[FM,if_neg h]
theorem Hw {P:Program} {H:AH} {t e:TypeId} {m:Nat} {a:Option Addr} (h:P.underlying t=some (.pointer e)):dZ P (Op.equalIn (m+1) t (.pointer none) (.pointer a)) H=some a.isNone:=by
 cases a<;>simp only[Op.equalIn,bW,bT,h,Option.bind_some,cZ]<;>rfl
theorem Qj {P:Program} {H:AH} {t e:TypeId} {x y:Operand} {kk:Value→Prop} {a:Option Addr}:bin (some (.pointer e)) P H .eql t x y (.pointer none) (.pointer a) kk=(some (.pointer e)=P.underlying t∧nv (.bool a.isNone) kk):=nI rfl rfl fun h=>Hw h.symm
theorem Xk (S:List SR) (base:Option Addr) (cap:Nat) (H:AH) (hs:bG H 1 base cap (S.map encS)) :
  aO Tryz.prog 95 #[.slice base S.length cap,.pointer none] H (fun v H'=>v=.int .i64 (-1)∧H=H'):=by
 have hbig:=hs.big
 simp only[List.length_map]at hbig
 refine aO.cu Tryz.func95 rfl Tryz.ntmps95 Tryz.results95 (by simp) ?_;simp -dsimp(maxSteps:=4000000) only[go_sem]
 refine fZ.gQ (ι:=Nat) (fun i=>i≤S.length) (fun i=>[(8,.int .i64 i),(7,.int .i64 S.length),(0,.slice base S.length cap),(1,.pointer none)]) (fun _=>H) (fun i=>S.length - i) 0 (by omega) (bZ.aS ?_) (AH.le_refl _) fun i hi Q again out=>?_
 ·simp -dsimp(maxSteps:=4000000) only[go_sem]
 by_cases hlt:(i:Int)<S.length
 ·obtain⟨s,hsi⟩:=get_some (l:=S) (i:=i) (by omega)
  obtain⟨q,o,rfl,_,hrd⟩:=hs.get (Go.AX.dn (f:=encS) hsi)
  have rx:=hrd 0 _ rfl
  simp only[Nat.add_zero,Nat.mul_one]at rx
  have ee:=dA (i:=i) (by omega)
  have hi0:(0:Int)≤(i:Int):=by omega
  simp -dsimp(maxSteps:=4000000) only[hlt,hi0,rx,ee,Qj,go_sem]
  exact again (i+1) _ _ (by omega) (bZ.aS (by simp -dsimp(maxSteps:=4000000) only[go_sem])) (AH.le_refl _) (by omega)
 ·obtain rfl:i=S.length:=by omega
  simp -dsimp(maxSteps:=4000000) only[hlt,go_sem]
  refine out _ _ _ (by simp) ?_
  simp -dsimp(maxSteps:=4000000) only[go_sem]
  exact⟨H,AH.le_refl _,rfl⟩
theorem MN (S:List SR) (base:Option Addr) (cap:Nat) (H:AH) (hs:bG H 1 base cap (S.map encS)) :
  aO Tryz.prog 50 #[.slice base S.length cap,.pointer none] H (fun v H'=>v=.bool false∧H=H'):=by
 refine aO.cu Tryz.func50 rfl Tryz.ntmps50 Tryz.results50 (by simp) ?_;simp -dsimp(maxSteps:=4000000) only[go_sem]
 refine(Xk S base cap _ hs).mono ?_;rintro _ _ ⟨rfl,rfl⟩
 simp -dsimp(maxSteps:=4000000) only[go_sem]
 exact⟨H,AH.le_refl _,rfl⟩
theorem Hy (base:Option Addr) (n cap:Nat) (H:AH) (h:n≤cap) :
  aO Tryz.prog 28 #[.slice base n cap] H (fun v H'=>v=.slice base n n∧H=H'):=by
 refine aO.cu Tryz.func28 rfl Tryz.ntmps28 Tryz.results28 (by simp) ?_;simp -dsimp(maxSteps:=4000000) only[go_sem]
 have h':(n:Int)≤cap:=by omega
 simp -dsimp(maxSteps:=4000000) only[h',Int.le_refl,go_sem]
 exact⟨H,(AH.le_refl _),(by first | exact⟨rfl,rfl⟩ | rfl)⟩
def jy (hd:Hd) (X:List Nf) (den:Int) (t:Tb) (l:Bool):List Nf×Int:=if l=true then app t.2.2 hd X den else (X,den)
def lU (n:Nat) (T:List Tb):Int:=if n<1 then 1 else (tabs T).2
theorem DZ {T:List Tb} (h:(tabs T).2=0):UL T:=fun t ht=>by
 have hb:pF.bad T 2=none:=by
  cases h2:pF.bad T 2 with
  |some n=>simp[tabs,h2]at h
  |none=>rfl
 obtain⟨i,hi⟩:=List.mem_iff_getElem?.1 ht
 rw[pF.bad,List.find?_range_eq_none]at hb
 have:=hb i (Go.AX.dG hi)
 have hf:pF.qj T i 2=true:=by simpa using this
 rw[pF.qj,if_pos rfl,pF.rowT,hi]at hf
 exact hf
theorem Qk {x:En} (h:pF.iK x=true) (h4:x.1≠4):1≤x.2.1∧x.2.1≤16:=by
 obtain⟨k,s,f,r,b⟩:=x
 dsimp only at h4
 rw[pF.iK,if_neg h4]at h
 simp only[Bool.and_eq_true,decide_eq_true_eq]at h
 have:=h.1.2
 simp only[pF.iC,decide_eq_true_eq]at this
 exact⟨this.1,this.2.1⟩
theorem Aa {T:List Tb} (h:UL T) {t:Tb} (ht:t∈T):t.2.2.length≤64∧∀ x∈t.2.2,x.1=2→(1≤x.2.1∧x.2.1≤16)∧0≤x.2.2.2.2∧x.2.2.2.2≤3:=
 ⟨pF.Dz (h t ht),fun x hx _=>by
  obtain⟨h1,h2⟩:=zT (h t ht) hx
  exact⟨Qk h1 h2,(zU h1 h2).2⟩⟩
theorem Yr:∀ l:List Bool,qG.qm l 8≤255:=fun l=>by have:=qG.yO l 8;omega
theorem AO (XS:List (List Nf)) (T:List Tb) (B:List Bool) (P:List Sp):∀ s y,FM XS T B P s=some y→0≤y∧y≤255:=fun s y h=>by
 unfold FM ru at h
 split at h
 ·split at h
  ·obtain rfl:=Option.some.inj h
   unfold mZ
   split
   ·exact⟨by decide,by decide⟩
   ·exact⟨qG.mg _ _,Yr _⟩
  ·cases h
 ·cases h
theorem adp (S:List SR):∀ r∈S.map encS,r.length=1:=fun r hr=>by
 obtain⟨w,_,rfl⟩:=List.mem_map.1 hr
 rfl
theorem yY (S:List SR) (T:List Tb) (B:List Bool) (P:List Sp) (bs bt bb bp:Option Addr) (cs ct cb cp:Nat) (H:AH) (hE:rO H.w0) (hS:oq H bs cs S) (hT:ig H bt ct T) (hB:bG H 1 bb cb (B.map jH)) (hP:bG H 2 bp cp (P.map dN)) (hl1:T.length=S.length) (hl2:B.length=S.length) (hl3:S.length≤32) :
  aO Tryz.prog 20 #[.slice bs S.length cs,.slice bt T.length ct,.slice bb B.length cb,.slice bp P.length cp] H (fun u H'=>∃ base cap SO,u=.tuple #[.slice base (List.length SO) cap,.int .i64 (lU S.length T)]∧(lU S.length T≠0→SO=[])∧(lU S.length T=0→SO.length=S.length∧∀ (n:Nat) s t l o,S[n]?=some s→T[n]?=some t→B[n]?=some l→SO[n]?=some o→(SR.X o).Perm (jy (FM (S.map (·.X)) T B P) s.X s.den t l).1∧o.den=(jy (FM (S.map (·.X)) T B P) s.X s.den t l).2)∧oq H' base cap SO∧(Keep H H' fun _=>False)∧∀ o∈SO,∀ x,o.ft x→aG H x):=by
 obtain⟨hd,hhd⟩:∃ hd,FM (S.map (·.X)) T B P=hd:=⟨_,rfl⟩
 have hrd:=AO (S.map (·.X)) T B P
 have hout:=Xj (S.map (·.X)) T B P
 have heq:∀ i:Int,1≤i∧i≤16→hd i=ru (S.map (·.X)) T B P i:=fun i hi=>by rw[←hhd,FM,if_pos hi]
 rw[hhd]at hrd hout ⊢
 have D5:=hS.out.big
 simp only[List.length_map]at D5
 have e1:(T.length:Int)=S.length:=by omega
 have e2:(B.length:Int)=S.length:=by omega
 have bad:∀ {E:Int} {T':AH},lU S.length T=E→E≠0→H.le T'→∃ H',H'.le T'∧∃ base cap SO,Value.tuple #[.slice none 0 0,.int .i64 E]=.tuple #[.slice base (List.length SO) cap,.int .i64 (lU S.length T)]∧(lU S.length T≠0→SO=[])∧(lU S.length T=0→SO.length=S.length∧∀ (n:Nat) s t l o,S[n]?=some s→T[n]?=some t→B[n]?=some l→SO[n]?=some o→(SR.X o).Perm (jy hd s.X s.den t l).1∧o.den=(jy hd s.X s.den t l).2)∧oq H' base cap SO∧(Keep H H' fun _=>False)∧∀ o∈SO,∀ x,o.ft x→aG H x:=fun {E T'} he h0 hl=>
  ⟨H,hl,none,0,[],by rw[he];rfl,fun _=>rfl,fun h=>absurd (he.symm.trans h) h0,⟨bG.nil,by simp⟩,Keep.refl,by simp⟩
 refine aO.cu Tryz.func20 rfl Tryz.ntmps20 Tryz.results20 (by simp) ?_;simp -dsimp(maxSteps:=4000000) only[go_sem]
 by_cases hn1:(S.length:Int)<1
 ·simp -dsimp(maxSteps:=4000000) only[hn1,go_sem]
  exact bad (by rw[lU,if_pos (by omega)]) (by decide) (AH.le_refl _)
 have hn2:¬ 32<(S.length:Int):=by omega
 have hE0:lU S.length T=(tabs T).2:=by rw[lU,if_neg (by omega)]
 simp -dsimp(maxSteps:=4000000) only[hn1,hn2,go_sem]
 refine(MN S bs cs _ hS.out).mono ?_;rintro _ _ ⟨rfl,rfl⟩
 simp -dsimp(maxSteps:=4000000) only[e1,e2,go_sem]
 refine(DJ T bt ct _ hT).mono ?_;rintro _ _ ⟨rfl,rfl⟩
 by_cases h0:(tabs T).2=0
 case neg=>
  simp -dsimp(maxSteps:=4000000) only[h0,go_sem]
  exact bad hE0 h0 (AH.le_refl _)
 have ht:=DZ h0
 rw[h0]at hE0
 simp -dsimp(maxSteps:=4000000) only[h0,go_sem]
 refine bY.mk fun bm rP=>?_;have jv:=rP;(try simp only[ah,aj,ne_eq]at jv);have jI:=jv;(try simp only[@eq_comm Nat bm]at jI);simp -dsimp(maxSteps:=4000000) only[jv,jI,go_sem]
 have h1:ji hd 1=[]:=by simp[ji,hout 0 (by omega)]
 refine fZ.gQ (ι:=Nat) (fun i=>1≤i∧i≤17) (fun i=>[(14,.int .i64 i),(13,.map (some bm)),(0,.slice bs S.length cs),(1,.slice bt T.length ct),(2,.slice bb B.length cb),(3,.slice bp P.length cp)]) (fun i=>H.add bm (.gW (ki (ji hd i)))) (fun i=>17 - i) 1 ⟨by omega,by omega⟩ (bZ.aS ?_) (by rw[h1];exact AH.le_refl _) fun i hi Q again out=>?_
 ·simp -dsimp(maxSteps:=4000000) only[jv,jI,go_sem]
 by_cases hlt:(i:Int)≤16
 ·have hHd:=WZ S T B P bs bt bb bp cs ct cb cp i _ (hS.keep (Keep.add (k:=.gW (ki (ji hd i))) rP)) (hT.add rP) (hB.add rP) (hP.add rP) ht (by omega) (by omega)
  rw[←heq i (by omega)]at hHd
  have ee:=dA (i:=i) (by omega)
  simp -dsimp(maxSteps:=4000000) only[hlt,jv,jI,go_sem]
  refine(hHd).mono ?_;rintro _ _ ⟨rfl,rfl⟩
  cases hy:hd i with
  |none=>
   have e1:ji hd (i+1)=ji hd i:=by rw[ji,hy]
   simp -dsimp(maxSteps:=4000000) only[ee,jv,jI,go_sem]
   rw[←e1]
   exact again (i+1) _ _ (by omega) (bZ.aS (by simp -dsimp(maxSteps:=4000000) only[jv,jI,go_sem])) (AH.le_refl _) (by omega)
  |some y=>
   have e1:ki (ji hd i)++[(.int .i64 i,.int .u8 y)]=ki (ji hd (i+1)):=by rw[ji,hy,ki,ki,List.map_append];rfl
   simp -dsimp(maxSteps:=4000000) only[ee,zZ,EJ,Option.getD_some,e1,jv,jI,go_sem]
   exact again (i+1) _ _ (by omega) (bZ.aS (by simp -dsimp(maxSteps:=4000000) only[jv,jI,go_sem])) (AH.le_refl _) (by omega)
 obtain rfl:i=17:=by omega
 have hM:Hm (H.add bm (.gW (ki (ji hd 17)))) (.map (some bm)) hd:=DY (aH _ _ _) hout
 obtain⟨D,hD⟩:∃ D,H.add bm (.gW (ki (ji hd 17)))=D:=⟨_,rfl⟩
 have kD:Keep H D fun _=>False:=hD▸Keep.add rP
 simp -dsimp(maxSteps:=4000000) only[hlt,jv,jI,go_sem]
 refine out _ _ _ (by simp) ?_
 rw[hD]at hM ⊢
 clear hD rP jv jI again out bad
 have hS:=hS.keep kD
 have hT:=hT.keep kD
 have hB:=hB.keep kD fun _ _ h=>h
 simp -dsimp(maxSteps:=4000000) only[go_sem]
 refine fZ.jE (ι:=Nat×Option Addr×Nat×List SR) (fun s A=>s.1≤S.length∧s.2.2.2.length=s.1∧fJ D A 47 1 s.2.1 s.2.2.1 (s.2.2.2.map encS)∧(Keep D A fun _=>False)∧(∀ o∈s.2.2.2,o.In A∧∀ x,o.ft x→aG D x∧∀ a,s.2.1=some a→a.block≠x)∧∀ (n:Nat) r t l o,S[n]?=some r→T[n]?=some t→B[n]?=some l→s.2.2.2[n]?=some o→(SR.X o).Perm (jy hd r.X r.den t l).1∧o.den=(jy hd r.X r.den t l).2)
  (fun s=>[(72,.int .i64 s.1),(71,.int .i64 S.length),(70,.slice bs S.length cs),(17,.slice s.2.1 s.1 s.2.2.1),(13,.map (some bm)),(0,.slice bs S.length cs),(1,.slice bt T.length ct),(2,.slice bb B.length cb)]) (fun s=>S.length - s.1) (0,none,0,[]) _ ⟨by simp only;omega,rfl,fJ.nil,Keep.refl,by simp,by simp⟩ (bZ.aS ?_) (AH.le_refl _) fun s A hi Q again out=>?_
 ·simp -dsimp(maxSteps:=4000000) only[go_sem]
 obtain⟨i,base,cap,SO⟩:=s
 obtain⟨hi,hl,hO,hK,hin,hval⟩:=hi
 dsimp only at hi hl hO hin hval again ⊢
 by_cases hlt:(i:Int)<S.length
 case neg=>
  obtain rfl:i=S.length:=by omega
  simp -dsimp(maxSteps:=4000000) only[hlt,go_sem]
  refine out _ _ _ (by simp) ?_
  simp -dsimp(maxSteps:=4000000) only[go_sem]
  refine(Hy base S.length cap _ (by have:=hO.le;simpa [hl]using this)).mono ?_;rintro _ _ ⟨rfl,rfl⟩
  simp -dsimp(maxSteps:=4000000) only[go_sem]
  refine⟨A,AH.le_refl _,base,S.length,SO,by rw[hl,hE0],by rw[hE0];exact fun h=>absurd rfl h,fun _=>⟨hl,hval⟩,⟨?_,fun o ho=>(hin o ho).1⟩,kD.trans hK,fun o ho x hx=>kD.fr ((hin o ho).2 x hx).1⟩
  rcases hO.at_ with ⟨rfl,h2,rfl⟩ | ⟨b,bs',rfl,_⟩
  ·have h3:SO=[]:=List.map_eq_nil_iff.1 h2
   subst h3
   simp only[List.length_nil]at hl
   omega
  ·have h3:=hO.clip.slc
   simpa [hl]using h3
 obtain⟨r,hr⟩:=get_some (l:=S) (i:=i) (by omega)
 obtain⟨⟨tb,tc,L⟩,htt⟩:=get_some (l:=T) (i:=i) (by omega)
 obtain⟨l,hbl⟩:=get_some (l:=B) (i:=i) (by omega)
 have KJ:=hS.keep hK
 have hTA:=hT.keep hK
 have hBA:=hB.keep hK fun _ _ h=>h
 have hMA:=hM.keep hK fun _ _ h=>h
 have qw:=KJ.inn r (List.mem_of_getElem? hr)
 have MO:=hTA.inn _ (List.mem_of_getElem? htt)
 obtain⟨q1,o1,rfl,_,hr1⟩:=KJ.out.get (Go.AX.dn (f:=encS) hr)
 obtain⟨q2,o2,rfl,_,hr2⟩:=hTA.out.get (Go.AX.dn (f:=kW) htt)
 obtain⟨q3,o3,rfl,_,hr3⟩:=hBA.get (Go.AX.dn (f:=jH) hbl)
 have hr1:=hr1 0 _ rfl
 have hr2:=hr2 0 _ rfl
 have hr3:=hr3 0 _ rfl
 simp only[Nat.add_zero,Nat.mul_one]at hr1 hr2 hr3
 have ee:=dA (i:=i) (by omega)
 have hi0:(0:Int)≤(i:Int):=by omega
 have hiT:(i:Int)<T.length:=by omega
 have Qz:(i:Int)<B.length:=by omega
 have nb:∀ {A1:AH},(Keep A A1 fun _=>False)→∀ b X den ft,iV A1 b X den ft→lG X→(∀ x,ft x→aG A x)→X.Perm (jy hd r.X r.den (tb,tc,L) l).1→den=(jy hd r.X r.den (tb,tc,L) l).2→∀ bx,aG A1 bx→∀ K:Value→AH→Prop,(∀ base' cap' H',∀ vH:List SR,vH.length=i+1→fJ D H' 47 1 base' cap' (vH.map encS)→(Keep D H' fun _=>False)→(∀ o∈vH,SR.In H' o∧∀ x,o.ft x→aG D x∧∀ a,base'=some a→a.block≠x)→(∀ (n:Nat) r t l o,S[n]?=some r→T[n]?=some t→B[n]?=some l→vH[n]?=some o→(SR.X o).Perm (jy hd r.X r.den t l).1∧o.den=(jy hd r.X r.den t l).2)→K (.slice base' (i+1) cap') H')→
   lS Tryz.prog (some 25) (some 25) [.slice base i cap,.slice (some ⟨bx,0,none⟩) 1 1] (A1.add bx (.cells [.pointer (some ⟨b,0,none⟩)] 47 1)) K:=by
  intro A1 hK1 b X den ft hst hok hft hpm hdn bx hbx K hk
  have Bh:=hO.keep hK1 (fun _ _ h=>h)
  have qh:=hK.trans hK1
  refine lS.nD (x:=.slice (some ⟨bx,0,none⟩) 1 1) (R':=[encS ⟨b,X,den,ft⟩]) (m:=1) (Bh.added hbx) (qh.nw hbx).all Rz rfl (by decide) (by rw[Tryz.underlying25];rfl) (by simp[hl]) rfl rfl (by rw[iF,fO];rfl) (by simp[encS]) (by simp[encS,iM]) (by omega) fun gV cap2 A' kJ hK' hN'=>?_
  have hK2:=(qh.nw hbx).ow hK' fun b ⟨a,ha,e⟩=>e▸hO.fresh a ha
  have hbase:∀ x,¬ aG A1 x→(∀ a,base=some a→a.block≠x)→∀ a,gV=some a→a.block≠x:=fun x hx hb a ha e=>by
   rcases hN' a ha with ⟨a',h1,h2⟩ | hf
   ·exact hb a' h1 (h2▸e)
   ·exact hx (e▸(Keep.refl.nw (k:=.cells [.pointer (some ⟨b,0,none⟩)] 47 1) hbx).fr hf)
  refine⟨A',AH.le_refl _,hk gV cap2 A' (SO++[⟨b,X,den,ft⟩]) (by simp[hl]) (by rw[List.map_append];exact kJ) hK2 (fun o ho=>?_) (fun n r' t l' o h1 h2 h3 h4=>?_)⟩
  ·rcases List.mem_append.1 ho with ho | ho
   ·obtain⟨⟨h1,h2⟩,h3⟩:=hin o ho
    have h1':=h1.keep hK1 fun _ _ h=>h
    refine⟨⟨(h1'.keep (Keep.add hbx) fun _ _ h=>h).keep hK' fun x hx ⟨a,ha,e⟩=>(h3 x hx).2 a ha e.symm,h2⟩,fun x hx=>⟨(h3 x hx).1,hbase x (fun hf=>h1'.fresh hf hx) (h3 x hx).2⟩⟩
   ·obtain rfl:=List.mem_singleton.1 ho
    refine⟨⟨(hst.keep (Keep.add hbx) fun _ _ h=>h).keep hK' fun x hx ⟨a,ha,e⟩=>hO.ne (hft x hx) a ha e.symm,hok⟩,fun x hx=>⟨hK.fr (hft x hx),hbase x (fun hf=>hst.fresh hf hx) fun a ha=>hO.ne (hft x hx) a ha⟩⟩
  ·by_cases hn:n<SO.length
   ·rw[List.getElem?_append_left hn]at h4
    exact hval n r' t l' o h1 h2 h3 h4
   ·have hn2:=Go.AX.dG h4
    simp only[List.length_append,List.length_singleton]at hn2
    obtain rfl:n=i:=by omega
    rw[List.getElem?_append_right (by omega),hl,Nat.sub_self]at h4
    cases h4
    rw[hr]at h1;rw[htt]at h2;rw[hbl]at h3
    cases h1;cases h2;cases h3
    exact⟨hpm,hdn⟩
 cases l with
 |true=>
  have hmem:((tb,tc,L):Tb)∈T:=List.mem_of_getElem? htt
  have hto:=Aa ht hmem
  simp -dsimp(maxSteps:=4000000) only[hlt,hi0,hiT,Qz,hr1,hr2,hr3,go_sem]
  refine(Ht (by rw[hK.w0,kD.w0];exact hE) qw.1 qw.2 L tb tc MO (some bm) hd hMA hrd (fun x hx hx2=>(hto.2 x hx hx2).2) hto.1).mono ?_
  rintro _ A1 ⟨b1,X1,Yi,rfl,hp1,hok1,hs1,hK1,hf1⟩
  simp -dsimp(maxSteps:=4000000) only[go_sem]
  refine bY.mk fun bx mY=>?_;have jc:=mY;(try simp only[ah,aj,ne_eq]at jc);have jG:=jc;(try simp only[@eq_comm Nat bx]at jG);simp -dsimp(maxSteps:=4000000) only[jc,jG,go_sem]
  refine nb hK1 _ _ _ _ hs1 hok1 hf1 hp1 rfl bx mY _ fun base' cap' H' vH g1 g2 g3 g4 g5=>?_
  simp -dsimp(maxSteps:=4000000) only[ee,jc,jG,go_sem]
  exact again (i+1,base',cap',vH) _ _ _ ⟨by simp only;omega,g1,g2,g3,g4,g5⟩ (bZ.aS (by simp -dsimp(maxSteps:=4000000) only[jc,jG,go_sem])) (AH.le_refl _) (by simp only;omega)
 |false=>
  simp -dsimp(maxSteps:=4000000) only[hlt,hi0,hiT,Qz,hr1,hr2,hr3,go_sem]
  refine(GZ qw.1 qw.2).mono ?_
  rintro _ A1 ⟨b1,X1,Yi,rfl,hp1,hs1,hK1,hf1⟩
  simp -dsimp(maxSteps:=4000000) only[go_sem]
  refine bY.mk fun bx mY=>?_;have jc:=mY;(try simp only[ah,aj,ne_eq]at jc);have jG:=jc;(try simp only[@eq_comm Nat bx]at jG);simp -dsimp(maxSteps:=4000000) only[jc,jG,go_sem]
  refine nb hK1 _ _ _ _ hs1 (qw.2.perm hp1.symm) hf1 hp1 rfl bx mY _ fun base' cap' H' vH g1 g2 g3 g4 g5=>?_
  simp -dsimp(maxSteps:=4000000) only[ee,jc,jG,go_sem]
  exact again (i+1,base',cap',vH) _ _ _ ⟨by simp only;omega,g1,g2,g3,g4,g5⟩ (bZ.aS (by simp -dsimp(maxSteps:=4000000) only[jc,jG,go_sem])) (AH.le_refl _) (by simp only;omega)
end Go.Proofs.YtbhamhhjicehaaaGreatDoor.jh
/- part: the reference's Round. -/
namespace Go.Proofs.YtbhamhhjicehaaaGreatDoor.jh
open Go Go.AX Go.Proofs Ty Go.Proofs.YtbhamhhjicehaaaGreatDoor.File Go.Proofs.YtbhamhhjicehaaaGreatDoor.mF Go.Proofs.YtbhamhhjicehaaaGreatDoor.Err
open Go.Proofs.YtbhamhhjicehaaaGreatDoor.pF (Tb ig oH tabs kW gG DJ vw)
set_option maxRecDepth 10000
theorem xu (S:List RR) (T:List Tb) (B:List Bool) (P:List Sp) (bs bt bb bp:Option Addr) (cs ct cb cp:Nat) (H:AH) (hS:qU H bs cs S) (hT:ig H bt ct T) (hB:bG H 1 bb cb (B.map jH)) (hP:bG H 2 bp cp (P.map dN)) (hl1:T.length=S.length) (hl2:B.length=S.length) (hl3:S.length≤32) :
  aO Tryz.prog 37 #[.slice bs S.length cs,.slice bt T.length ct,.slice bb B.length cb,.slice bp P.length cp] H (fun u H'=>∃ base cap SO,u=.tuple #[.slice base (List.length SO) cap,.int .i64 (lU S.length T)]∧(lU S.length T≠0→SO=[])∧(lU S.length T=0→SO.length=S.length∧∀ (n:Nat) s t l o,S[n]?=some s→T[n]?=some t→B[n]?=some l→SO[n]?=some o→(RR.Z o).map RF.nf=(jy (FM (S.map (fun r=>r.Z.map RF.nf)) T B P) (s.Z.map RF.nf) s.den t l).1∧o.den=(jy (FM (S.map (fun r=>r.Z.map RF.nf)) T B P) (s.Z.map RF.nf) s.den t l).2)∧qU H' base cap SO∧Keep H H' fun _=>False):=by
 have hrh:=Me S T B P bs bt bb bp cs ct cb cp H hS hT hB hP
 have hrd:=AO (S.map (fun r=>r.Z.map RF.nf)) T B P
 obtain⟨hd,hhd⟩:∃ hd,FM (S.map (fun r=>r.Z.map RF.nf)) T B P=hd:=⟨_,rfl⟩
 rw[hhd]at hrd hrh ⊢
 have D5:=hS.out.big
 simp only[List.length_map]at D5
 have e1:(T.length:Int)=S.length:=by omega
 have e2:(B.length:Int)=S.length:=by omega
 have eF:=DU hd 17
 have iw:=FN hd 17
 have bad:∀ {E:Int} {T':AH},lU S.length T=E→E≠0→H.le T'→∃ H',H'.le T'∧∃ base cap SO,Value.tuple #[.slice none 0 0,.int .i64 E]=.tuple #[.slice base (List.length SO) cap,.int .i64 (lU S.length T)]∧(lU S.length T≠0→SO=[])∧(lU S.length T=0→SO.length=S.length∧∀ (n:Nat) s t l o,S[n]?=some s→T[n]?=some t→B[n]?=some l→SO[n]?=some o→(RR.Z o).map RF.nf=(jy hd (s.Z.map RF.nf) s.den t l).1∧o.den=(jy hd (s.Z.map RF.nf) s.den t l).2)∧qU H' base cap SO∧Keep H H' fun _=>False:=fun {E T'} he h0 hl=>
  ⟨H,hl,none,0,[],by rw[he];rfl,fun _=>rfl,fun h=>absurd (he.symm.trans h) h0,⟨bG.nil,by simp⟩,Keep.refl⟩
 refine aO.cu Tryz.func37 rfl Tryz.ntmps37 Tryz.results37 (by simp) ?_;simp -dsimp(maxSteps:=4000000) only[eF,iw,go_sem]
 by_cases hn1:(S.length:Int)<1
 ·simp -dsimp(maxSteps:=4000000) only[hn1,eF,iw,go_sem]
  exact bad (by rw[lU,if_pos (by omega)]) (by decide) (AH.le_refl _)
 have hn2:¬ 32<(S.length:Int):=by omega
 have hE0:lU S.length T=(tabs T).2:=by rw[lU,if_neg (by omega)]
 simp -dsimp(maxSteps:=4000000) only[hn1,hn2,e1,e2,eF,iw,go_sem]
 refine(vw T bt ct _ hT).mono ?_;rintro _ _ ⟨rfl,rfl⟩
 by_cases h0:(tabs T).2=0
 case neg=>
  simp -dsimp(maxSteps:=4000000) only[h0,eF,iw,go_sem]
  exact bad hE0 h0 (AH.le_refl _)
 have ht:=DZ h0
 rw[h0]at hE0
 simp -dsimp(maxSteps:=4000000) only[h0,eF,iw,go_sem]
 refine(hrh ht (by omega) (by omega)).mono ?_;rintro _ _ ⟨rfl,rfl⟩
 clear hrh
 simp -dsimp(maxSteps:=4000000) only[eF,iw,go_sem]
 refine bY.mk fun b12 lK=>?_;have fQ:=lK;(try simp only[ah,aj,ne_eq]at fQ);have gX:=fQ;(try simp only[@eq_comm Nat b12]at gX);simp -dsimp(maxSteps:=4000000) only[eF,iw,fQ,gX,go_sem]
 obtain⟨D,hD⟩:∃ D,H.add b12 (.cells (oW hd 17) 100 34)=D:=⟨_,rfl⟩
 have kD:Keep H D fun _=>False:=hD▸Keep.add lK
 have f12:D.find b12=some (.cells (oW hd 17) 100 34):=by rw[←hD,aH]
 have w12:D.row b12 0 34=some (oW hd 17):=by
  rw[iZ f12 (by rw[eF];exact Nat.le_refl _),List.drop_zero,List.take_of_length_le (by rw[eF];exact Nat.le_refl _)]
 rw[hD]
 clear hD lK fQ gX bad
 have hS:=hS.keep kD
 have hT:=hT.keep kD
 have hB:=hB.keep kD fun _ _ h=>h
 refine bY.mk fun b13 jF=>?_;have dM:=jF;(try simp only[ah,aj,ne_eq]at dM);have dQ:=dM;(try simp only[@eq_comm Nat b13]at dQ);simp -dsimp(maxSteps:=4000000) only[eF,iw,dM,dQ,go_sem]
 refine fZ.jE (ι:=Nat×Option Addr×Nat×List RR) (fun s A=>s.1≤S.length∧s.2.2.2.length=s.1∧fJ D A 51 1 s.2.1 s.2.2.1 (s.2.2.2.map encR)∧(Keep D A fun _=>False)∧(∀ o∈s.2.2.2,o.In A∧∀ x,(x=o.b∨o.rd x)→∀ a,s.2.1=some a→a.block≠x)∧∀ (n:Nat) r t l o,S[n]?=some r→T[n]?=some t→B[n]?=some l→s.2.2.2[n]?=some o→(RR.Z o).map RF.nf=(jy hd (r.Z.map RF.nf) r.den t l).1∧o.den=(jy hd (r.Z.map RF.nf) r.den t l).2)
  (fun s=>[(14,.int .i64 s.1),(12,.pointer (some ⟨b12,0,none⟩)),(13,.slice s.2.1 s.1 s.2.2.1),(0,.slice bs S.length cs),(1,.slice bt T.length ct),(2,.slice bb B.length cb)]) (fun s=>S.length - s.1) (0,some ⟨b13,0,none⟩,0,[]) _ ⟨by simp only;omega,rfl,fJ.new jF (AH.le_refl _) rfl rfl rfl (by simp) (by simp),Keep.add jF,by simp,by simp⟩ (bZ.aS ?_) (AH.le_refl _) fun s A hi Q again out=>?_
 ·simp -dsimp(maxSteps:=4000000) only[eF,iw,dM,dQ,go_sem]
 clear jF dM dQ
 obtain⟨i,base,cap,SO⟩:=s
 obtain⟨hi,hl,hO,hK,hin,hval⟩:=hi
 dsimp only at hi hl hO hin hval again ⊢
 by_cases hlt:(i:Int)<S.length
 case neg=>
  obtain rfl:i=S.length:=by omega
  simp -dsimp(maxSteps:=4000000) only[hlt,eF,iw,go_sem]
  refine out _ _ _ (by simp) ?_
  simp -dsimp(maxSteps:=4000000) only[eF,iw,go_sem]
  exact⟨A,AH.le_refl _,base,cap,SO,by rw[hl,hE0],by rw[hE0];exact fun h=>absurd rfl h,fun _=>⟨hl,hval⟩,⟨hO.slc,fun o ho=>(hin o ho).1⟩,kD.trans hK⟩
 obtain⟨r,hr⟩:=get_some (l:=S) (i:=i) (by omega)
 obtain⟨⟨tb,tc,L⟩,htt⟩:=get_some (l:=T) (i:=i) (by omega)
 obtain⟨l,hbl⟩:=get_some (l:=B) (i:=i) (by omega)
 have KJ:=hS.keep hK
 have hTA:=hT.keep hK
 have qw:=KJ.inn r (List.mem_of_getElem? hr)
 have MO:=hTA.inn _ (List.mem_of_getElem? htt)
 obtain⟨q1,o1,rfl,_,hr1⟩:=hS.out.get (Go.AX.dn (f:=encR) hr)
 obtain⟨q2,o2,rfl,_,hr2⟩:=hT.out.get (Go.AX.dn (f:=kW) htt)
 obtain⟨q3,o3,rfl,_,hr3⟩:=hB.get (Go.AX.dn (f:=jH) hbl)
 have hr1:=hr1 0 _ rfl
 have hr2:=hr2 0 _ rfl
 have hr3:=hr3 0 _ rfl
 have hBA:=hB.keep hK fun _ _ h=>h
 obtain⟨_,_,e,_,ha1⟩:=KJ.out.get (Go.AX.dn (f:=encR) hr);cases e
 obtain⟨_,_,e,_,ha2⟩:=hTA.out.get (Go.AX.dn (f:=kW) htt);cases e
 obtain⟨_,_,e,_,Yt⟩:=hBA.get (Go.AX.dn (f:=jH) hbl);cases e
 have ha1:=ha1 0 _ rfl
 have ha2:=ha2 0 _ rfl
 have Yt:=Yt 0 _ rfl
 simp only[Nat.add_zero,Nat.mul_one]at hr1 hr2 hr3 ha1 ha2 Yt
 have ee:=dA (i:=i) (by omega)
 have hi0:(0:Int)≤(i:Int):=by omega
 have hiT:(i:Int)<T.length:=by omega
 have Qz:(i:Int)<B.length:=by omega
 have nb:∀ {A1:AH},(Keep A A1 fun _=>False)→∀ b Z den rd,jU A1 b Z den rd→lG (Z.map RF.nf)→aG A b→(∀ x,rd x→r.rd x∨aG A x)→Z.map RF.nf=(jy hd (r.Z.map RF.nf) r.den (tb,tc,L) l).1→den=(jy hd (r.Z.map RF.nf) r.den (tb,tc,L) l).2→∀ bx,aG A1 bx→∀ K:Value→AH→Prop,(∀ base' cap' H',∀ vH:List RR,vH.length=i+1→fJ D H' 51 1 base' cap' (vH.map encR)→(Keep D H' fun _=>False)→(∀ o∈vH,RR.In H' o∧∀ x,(x=o.b∨o.rd x)→∀ a,base'=some a→a.block≠x)→(∀ (n:Nat) r t l o,S[n]?=some r→T[n]?=some t→B[n]?=some l→vH[n]?=some o→(RR.Z o).map RF.nf=(jy hd (r.Z.map RF.nf) r.den t l).1∧o.den=(jy hd (r.Z.map RF.nf) r.den t l).2)→K (.slice base' (i+1) cap') H')→
   lS Tryz.prog (some 26) (some 26) [.slice base i cap,.slice (some ⟨bx,0,none⟩) 1 1] (A1.add bx (.cells [.pointer (some ⟨b,0,none⟩)] 51 1)) K:=by
  intro A1 hK1 b Z den rd hst hok hfb hft hpm hdn bx hbx K hk
  have Bh:=hO.keep hK1 (fun _ _ h=>h)
  have qh:=hK.trans hK1
  refine lS.nD (x:=.slice (some ⟨bx,0,none⟩) 1 1) (R':=[encR ⟨b,Z,den,rd⟩]) (m:=1) (Bh.added hbx) (qh.nw hbx).all RD rfl (by decide) (by rw[Tryz.underlying26];rfl) (by simp[hl]) rfl rfl (by rw[iF,fO];rfl) (by simp[encR]) (by simp[encR,iM]) (by omega) fun gV cap2 A' kJ hK' hN'=>?_
  have hK2:=(qh.nw hbx).ow hK' fun b ⟨a,ha,e⟩=>e▸hO.fresh a ha
  have hbase:∀ x,¬ aG A1 x→(∀ a,base=some a→a.block≠x)→∀ a,gV=some a→a.block≠x:=fun x hx hb a ha e=>by
   rcases hN' a ha with ⟨a',h1,h2⟩ | hf
   ·exact hb a' h1 (h2▸e)
   ·exact hx (e▸(Keep.refl.nw (k:=.cells [.pointer (some ⟨b,0,none⟩)] 51 1) hbx).fr hf)
  have kn:∀ (b0:Nat) Z0 TR UM,jU A1 b0 Z0 TR UM→∀ x,(x=b0∨UM x)→¬ aG A1 x:=fun b0 Z0 TR UM h x hx hf=>by
   rcases hx with rfl | hx
   ·obtain⟨k,hk⟩:=zX h
    exact hf.cO hk rfl
   ·exact yU h x hx hf
  have hnew:∀ x,(x=b∨rd x)→∀ a,base=some a→a.block≠x:=fun x hx a ha=>by
   rcases hx with rfl | hx
   ·exact hO.ne hfb a ha
   ·rcases hft x hx with h | h
    ·intro e
     exact yU (hS.inn r (List.mem_of_getElem? hr)).1 x h (e▸hO.fresh a ha)
    ·exact hO.ne h a ha
  refine⟨A',AH.le_refl _,hk gV cap2 A' (SO++[⟨b,Z,den,rd⟩]) (by simp[hl]) (by rw[List.map_append];exact kJ) hK2 (fun o ho=>?_) (fun n r' t l' o h1 h2 h3 h4=>?_)⟩
  ·rcases List.mem_append.1 ho with ho | ho
   ·obtain⟨⟨h1,h2⟩,h3⟩:=hin o ho
    have h1':=h1.keep hK1 (fun _ _ h=>h) fun h=>h
    refine⟨⟨(h1'.keep (Keep.add hbx) (fun _ _ h=>h) fun h=>h).keep hK' (fun x hx ⟨a,ha,e⟩=>h3 x (.inr hx) a ha e.symm) fun⟨a,ha,e⟩=>h3 _ (.inl rfl) a ha e.symm,h2⟩,fun x hx=>hbase x (kn _ _ _ _ h1' x hx) (h3 x hx)⟩
   ·obtain rfl:=List.mem_singleton.1 ho
    refine⟨⟨(hst.keep (Keep.add hbx) (fun _ _ h=>h) fun h=>h).keep hK' (fun x hx ⟨a,ha,e⟩=>hnew x (.inr hx) a ha e.symm) fun⟨a,ha,e⟩=>hnew _ (.inl rfl) a ha e.symm,hok⟩,fun x hx=>hbase x (kn _ _ _ _ hst x hx) (hnew x hx)⟩
  ·by_cases hn:n<SO.length
   ·rw[List.getElem?_append_left hn]at h4
    exact hval n r' t l' o h1 h2 h3 h4
   ·have hn2:=Go.AX.dG h4
    simp only[List.length_append,List.length_singleton]at hn2
    obtain rfl:n=i:=by omega
    rw[List.getElem?_append_right (by omega),hl,Nat.sub_self]at h4
    cases h4
    rw[hr]at h1;rw[htt]at h2;rw[hbl]at h3
    cases h1;cases h2;cases h3
    exact⟨hpm,hdn⟩
 have hle:=hK.all
 cases l with
 |true=>
  have hmem:((tb,tc,L):Tb)∈T:=List.mem_of_getElem? htt
  have hto:=Aa ht hmem
  simp -dsimp(maxSteps:=4000000) only[hlt,hi0,hiT,Qz,ha1,ha2,Yt,eF,iw,go_sem]
  refine fZ.gen [.pu,.pu,.pu,.pu,.rd,.pu,.pu,.pu,.rd,.rd,.ch,.al,.ch,.pu] [0,0,0,6,14,0,0,96,224,0,1022,2046,4095,8191] 0 (D) mixed (by kernel_rfl) (hle) ?_
  simp -dsimp(maxSteps:=4000000) only[hlt,hi0,hiT,Qz,hr1,hr2,hr3,w12,hle,eF,iw,go_sem]
  refine(MJ qw.1 qw.2 L tb tc MO hd hrd hto.2).mono ?_
  rintro _ A1 ⟨b1,Z1,rd1,rfl,hp1,hok1,hs1,hK1,MP,hf1⟩
  have hle1:D.le A1:=(hK.trans hK1).all
  simp -dsimp(maxSteps:=4000000) only[hle1,eF,iw,go_sem]
  refine bY.mk fun bx mY=>?_
  have hle2:D.le (A1.add bx (.cells [.pointer (some ⟨b1,0,none⟩)] 51 1)):=((hK.trans hK1).nw mY).all
  simp -dsimp(maxSteps:=4000000) only[hle2,eF,iw,go_sem]
  refine nb hK1 _ _ _ _ hs1 hok1 MP hf1 hp1 rfl bx mY _ fun base' cap' H' vH g1 g2 g3 g4 g5=>?_
  have hle3:=g3.all
  simp -dsimp(maxSteps:=4000000) only[ee,hle3,eF,iw,go_sem]
  exact again (i+1,base',cap',vH) _ _ _ ⟨by simp only;omega,g1,g2,g3,g4,g5⟩ (bZ.aS (by simp -dsimp(maxSteps:=4000000) only[eF,iw,go_sem])) (AH.le_refl _) (by simp only;omega)
 |false=>
  simp -dsimp(maxSteps:=4000000) only[hlt,hi0,hiT,Qz,ha1,ha2,Yt,eF,iw,go_sem]
  refine(wC qw.1 qw.2).mono ?_
  rintro _ A1 ⟨b1,rd1,rfl,hs1,hK1,MP,hf1⟩
  simp -dsimp(maxSteps:=4000000) only[eF,iw,go_sem]
  refine bY.mk fun bx mY=>?_;have jc:=mY;(try simp only[ah,aj,ne_eq]at jc);have jG:=jc;(try simp only[@eq_comm Nat bx]at jG);simp -dsimp(maxSteps:=4000000) only[eF,iw,jc,jG,go_sem]
  refine nb hK1 _ _ _ _ hs1 qw.2 MP hf1 rfl rfl bx mY _ fun base' cap' H' vH g1 g2 g3 g4 g5=>?_
  simp -dsimp(maxSteps:=4000000) only[ee,eF,iw,jc,jG,go_sem]
  exact again (i+1,base',cap',vH) _ _ _ ⟨by simp only;omega,g1,g2,g3,g4,g5⟩ (bZ.aS (by simp -dsimp(maxSteps:=4000000) only[eF,iw,jc,jG,go_sem])) (AH.le_refl _) (by simp only;omega)
end Go.Proofs.YtbhamhhjicehaaaGreatDoor.jh
/- serve: the reference's store of a list. -/
namespace Go.Proofs.YtbhamhhjicehaaaGreatDoor.Srv
open Go Go.AX Go.Proofs Ty Go.Proofs.YtbhamhhjicehaaaGreatDoor.File Go.Proofs.YtbhamhhjicehaaaGreatDoor.mF
set_option maxRecDepth 10000
def Hz (Y:List Nf) (x:Nf):List Nf:=if iG x.2.1 x.2.2=true then (if mX Y x.1 x.2=0 then ins x.1 x.2 Y else Y) else Y
def JZ (L:List Nf):List Nf:=L.foldl Hz []
theorem TS {Y:List Nf} (h:kK Y) (x:Nf):kK (Hz Y x):=by
 unfold Hz
 split
 ·split
  ·rename_i e
   refine NK h ?_
   unfold mX at e
   split at e
   ·cases e
   split at e
   ·cases e
   split at e
   ·cases e
   ·rename_i h1;simpa using h1
  ·exact h
 ·exact h
theorem Xl {Y:List Nf} (h:lG Y) (x:Nf) (hr:∀ r∈x.2.2,nX r):lG (Hz Y x):=by
 unfold Hz
 split
 ·split
  ·rename_i e
   have:=h.add x.1 x.2 hr
   rw[yG,if_pos e]at this
   exact this.perm ((List.perm_append_singleton _ _).trans (Dl x.1 x.2 Y).symm)
  ·exact h
 ·exact h
theorem xw (L:List RF) (base:Option Addr) (cap:Nat) (H:AH) (hs:bG H 3 base cap (L.map gK)) (hz:∀ z∈L,bG H 4 z.base z.cap (z.R.map enc)∧∀ r∈z.R,nX r) :
  aO Tryz.prog 22 #[.slice base L.length cap] H (fun v H'=>∃ br Z rd,v=.pointer (some ⟨br,0,none⟩)∧Z.map RF.nf=JZ ((L.take 8).map RF.nf)∧jU H' br Z 0 rd∧lG (Z.map RF.nf)∧kK (Z.map RF.nf)∧aG H br∧(Keep H H' fun _=>False)∧∀ x,rd x→aG H x∨∃ z∈L,z.R≠[]∧∃ a,z.base=some a∧x=a.block):=by
 refine aO.cu Tryz.func22 rfl Tryz.ntmps22 Tryz.results22 (by simp) ?_;simp -dsimp(maxSteps:=4000000) only[go_sem]
 refine bY.mk fun br Xm=>?_;have J3:=Xm;(try simp only[ah,aj,ne_eq]at J3);have Ot:=J3;(try simp only[@eq_comm Nat br]at Ot);simp -dsimp(maxSteps:=4000000) only[J3,Ot,go_sem]
 have hst:jU (H.add br (.cells [.slice none 0 0,.int .i64 0] 50 2)) br [] 0 (fun _=>False):=⟨none,0,aH _ _ _,⟨bG.nil,by simp,.inl rfl,by simp⟩,fun h=>h,.inl ⟨rfl,rfl,rfl⟩,fun x h=>h.elim⟩
 have hfr:aG H br:=Xm
 refine fZ.jE (ι:=Nat×List RF×(Nat→Prop)) (fun s A=>s.1≤L.length∧s.1≤8∧jU A br s.2.1 0 s.2.2∧s.2.1.map RF.nf=JZ ((L.take s.1).map RF.nf)∧lG (s.2.1.map RF.nf)∧kK (s.2.1.map RF.nf)∧(Keep H A fun _=>False)∧∀ x,s.2.2 x→aG H x∨∃ z∈L,z.R≠[]∧∃ a,z.base=some a∧x=a.block)
  (fun s=>[(4,.int .i64 s.1),(3,.pointer (some ⟨br,0,none⟩)),(0,.slice base L.length cap)]) (fun s=>8 - s.1) (0,[],fun _=>False) _
  ⟨by simp,by simp,hst,rfl,lG.nil,by simp[kK],Keep.add Xm,fun x h=>h.elim⟩ (bZ.aS ?_) (AH.le_refl _) fun s A hV Q again out=>?_
 ·simp -dsimp(maxSteps:=4000000) only[J3,Ot,go_sem]
 clear hst J3 Ot Xm
 obtain⟨i,Z,rd⟩:=s
 obtain⟨hi,hi2,hS,hZ,hok,hso,hK,hrd⟩:=hV
 dsimp only at hi hi2 hS hZ hok hso hK hrd ⊢
 by_cases hlt:(i:Int)<L.length∧(i:Int)<8
 ·obtain⟨z,hzi⟩:=get_some (l:=L) (i:=i) (by omega)
  obtain⟨hzs,hzr⟩:=hz z (List.mem_of_getElem? hzi)
  obtain⟨q,o,rfl,_,hr⟩:=(hs.keep hK fun _ _ h=>h).get (Go.AX.dn (f:=gK) hzi)
  have rz:=hr 0 _ rfl
  simp only[Nat.add_zero]at rz
  have hx1:A.row q (o+i*3+1) 2=some [.int .i64 z.p,.slice z.base z.R.length z.cap]:=lZ rfl (by decide) fun j c hj=>by
   rw[Nat.add_assoc _ 1 j,Nat.add_comm 1 j]
   exact hr (j+1) c hj
  have ee:=dA (i:=i) (by omega)
  have hi0:(0:Int)≤(i:Int):=by omega
  have hzA:=hzs.keep hK fun _ _ h=>h
  have hgc:=fun H1 (h:bG H1 4 z.base z.cap (z.R.map enc))=>File.jX z.p z.R z.base z.cap H1 h
  unfold fv at hgc
  have hstep:JZ ((L.take (i+1)).map RF.nf)=Hz (JZ ((L.take i).map RF.nf)) z.nf:=by
   rw[List.take_add_one,hzi,JZ,JZ,List.map_append,List.foldl_append];rfl
  simp -dsimp(maxSteps:=4000000) only[hlt.1,hlt.2,go_sem]
  simp -dsimp(maxSteps:=4000000) only[hlt.1,hlt.2,hi0,hx1,go_sem]
  refine bY.mk fun b5 iW=>?_;have bQ:=iW;(try simp only[ah,aj,ne_eq]at bQ);have dB:=bQ;(try simp only[@eq_comm Nat b5]at dB);simp -dsimp(maxSteps:=4000000) only[bQ,dB,go_sem]
  refine(hgc _ (hzA.add iW)).mono ?_;rintro _ _ ⟨rfl,rfl⟩
  cases hg:iG z.p z.R with
  |false=>
   simp -dsimp(maxSteps:=4000000) only[ee,bQ,dB,go_sem]
   exact again (i+1,Z,rd) _ A _ ⟨by dsimp only;omega,by dsimp only;omega,hS,by dsimp only;rw[hstep,hZ,Hz,if_neg (by simp[RF.nf,hg])],hok,hso,hK,hrd⟩ (bZ.aS (by simp -dsimp(maxSteps:=4000000) only[bQ,dB,go_sem])) (AH.aK (AH.le_refl _) iW.2) (by dsimp only;omega)
  |true=>
   have hR0:z.R≠[]:=fun e=>by rw[e]at hg;simp[iG]at hg
   have k5:Keep H _ fun _=>False:=hK.nw (k:=.cells [.int .i64 z.p,.slice z.base z.R.length z.cap] 65 2) iW
   simp -dsimp(maxSteps:=4000000) only[bQ,dB,go_sem]
   refine fZ.gen [.pu,.pu,.pu,.pu,.pu,.rd,.rd,.ch] [0,0,0,6,14,30,0,127] 0 (_) mixed (by kernel_rfl) (AH.le_refl _) ?_
   have n5:¬ b5=q:=iW.iP hx1
   simp -dsimp(maxSteps:=4000000) only[hi0,hlt.1,rz,n5,bQ,dB,go_sem]
   refine(TB (hS.keep (Keep.add iW (ex:=fun _=>False)) (fun _ _ h=>h) fun h=>h) hok hso z.n z.p z.R z.base z.cap (hzA.add iW) (.inr fun a ha=>⟨?_,fun hf=>?_⟩)).mono ?_
   ·exact(hzs.apart hfr).elim (fun h=>absurd (List.map_eq_nil_iff.1 h) hR0) fun h=>h a ha
   ·exact(hzs.apart (k5.fr hf)).elim (fun h=>hR0 (List.map_eq_nil_iff.1 h)) fun h=>h a ha rfl
   rintro _ B ⟨Z',rd',rfl,Z7,hrB,hKB,oU⟩
   have hadd:Z'.map RF.nf=Hz (Z.map RF.nf) z.nf:=by
    rw[Z7,Hz]
    exact(if_pos (show iG z.nf.2.1 z.nf.2.2=true from hg)).symm
   simp -dsimp(maxSteps:=4000000) only[ee,bQ,dB,go_sem]
   exact again (i+1,Z',rd') _ B _ ⟨by dsimp only;omega,by dsimp only;omega,hrB,by dsimp only;rw[hadd,hstep,hZ],by dsimp only;rw[hadd];exact Xl hok _ hzr,by dsimp only;rw[hadd];exact TS hso _,k5.ow hKB fun x e=>e▸hfr,fun x hx=>by
    rcases oU x hx with h | h | ⟨h,a,ha,e⟩
    ·exact hrd x h
    ·exact .inl (k5.fr h)
    ·exact .inr ⟨z,List.mem_of_getElem? hzi,h,a,ha,e⟩⟩ (bZ.aS (by simp -dsimp(maxSteps:=4000000) only[bQ,dB,go_sem])) (AH.le_refl _) (by dsimp only;omega)
 have hno:¬ (i:Int)<L.length∨((i:Int)<L.length∧¬ (i:Int)<8):=by omega
 have ht:L.take i=L.take 8:=by
  rcases hno with h | ⟨_,h⟩
  ·rw[List.take_of_length_le (by omega),List.take_of_length_le (by omega)]
  ·rw[show i=8 from by omega]
 rw[ht]at hZ
 clear hlt again
 rcases hno with a | ⟨a,a'⟩
 case' inl=>
  simp -dsimp(maxSteps:=4000000) only[a,go_sem]
  refine out _ _ _ (by simp) ?_
 case' inr=>
  simp -dsimp(maxSteps:=4000000) only[a,a',go_sem]
  refine out _ _ _ (by simp) ?_
 all_goals
  simp -dsimp(maxSteps:=4000000) only[go_sem]
  exact⟨A,AH.le_refl _,br,Z,rd,rfl,hZ,hS,hok,hso,hfr,hK,hrd⟩
end Go.Proofs.YtbhamhhjicehaaaGreatDoor.Srv
/- serve: build. -/
namespace Go.Proofs.YtbhamhhjicehaaaGreatDoor.Srv
open Go Go.AX Go.Proofs Ty Go.Proofs.YtbhamhhjicehaaaGreatDoor.File Go.Proofs.YtbhamhhjicehaaaGreatDoor.mF
set_option maxRecDepth 10000
theorem D6 {Z:List RF} {i:Nat} {z:RF} (hX:lG (Z.map RF.nf)) (hz:Z[i]?=some z):mX ((Z.take i).map RF.nf) z.n (z.p,z.R)=0:=by
 obtain⟨h1,h2,_⟩:=hX.ok z.nf (List.mem_map_of_mem (List.mem_of_getElem? hz))
 have h3:lk z.n ((Z.take i).map RF.nf)=none:=by
  rw[nU]
  intro x hx e
  obtain⟨y,hy,rfl⟩:=List.mem_map.1 hx
  obtain⟨j,hj⟩:=List.mem_iff_getElem?.1 hy
  have hji:j<i:=by have:=Go.AX.dG hj;rw[List.length_take]at this;omega
  rw[List.getElem?_take,if_pos hji]at hj
  have hk:=hX.kd
  have e1:((Z.map RF.nf).map (·.1))[j]?=some z.n:=by simp[hj,e]
  have e2:((Z.map RF.nf).map (·.1))[i]?=some z.n:=by simp[hz,RF.nf]
  have:=(List.getElem?_inj (by simpa using Go.AX.dG hj) hk).1 (e1.trans e2.symm)
  omega
 have h1':(0≤z.n∧z.n<64):=h1
 have h2':iG z.p z.R=true:=h2
 unfold mX
 rw[if_neg (by omega),if_neg (by rw[h2'];decide),h3]
 rfl
end Go.Proofs.YtbhamhhjicehaaaGreatDoor.Srv
/- part: slices of our own that grow side by side. -/
namespace Go.Proofs.YtbhamhhjicehaaaGreatDoor.jh
open Go Go.AX Go.Proofs Ty Go.Proofs.YtbhamhhjicehaaaGreatDoor.File Go.Proofs.YtbhamhhjicehaaaGreatDoor.mF
open Go.Proofs.YtbhamhhjicehaaaGreatDoor.pF (Tb ig kW gG En)
set_option maxRecDepth 10000
def Off (base:Option Addr) (x:Nat):Prop:=∀ a,base=some a→a.block≠x
abbrev OQ:=Nat×Option Addr×Nat×List (List Value)
structure Ow (H A:AH) (own:List OQ) (jm:Nat→Prop):Prop where
 ow:∀ (k:Nat) (q:OQ),own[k]?=some q→fJ H A q.1 1 q.2.1 q.2.2.1 q.2.2.2
 df:∀ (j k:Nat) (q r:OQ),j≠k→own[j]?=some q→own[k]?=some r→∀ a,r.2.1=some a→Off q.2.1 a.block
 nf:∀ x,jm x→¬ aG A x
 pr:∀ x,jm x→∀ (k:Nat) (q:OQ),own[k]?=some q→Off q.2.1 x
 kp:Keep H A fun _=>False
theorem TT {H0 H:AH} {e sz cap:Nat} {base:Option Addr} {R:List (List Value)} (h:fJ H0 H e sz base cap R) {a:Addr} (ha:base=some a):¬ aG H a.block:=fun hf=>by
 rcases h.at_ with ⟨h1,_⟩ | ⟨b,bs,h1,h2,_⟩
 ·rw[ha]at h1;cases h1
 ·rw[ha]at h1;cases h1;exact hf.cO h2 rfl
theorem Ow.keep {H A A':AH} {own:List OQ} {jm:Nat→Prop} (h:Ow H A own jm) (hK:Keep A A' fun _=>False):Ow H A' own jm:=
 ⟨fun k q hq=>(h.ow k q hq).keep hK fun _ _ h=>h,h.df,fun x hx hf=>h.nf x hx (hK.fr hf),h.pr,h.kp.trans hK⟩
theorem Ow.more {H A A':AH} {own:List OQ} {jm new:Nat→Prop} (h:Ow H A own jm) (hK:Keep A A' fun _=>False) (hn:∀ x,new x→(aG A x∨¬ aG H x)∧¬ aG A' x):Ow H A' own (fun x=>jm x∨new x):=
 have h':=h.keep hK
 ⟨h'.ow,h'.df,fun x hx=>hx.elim (h'.nf x) fun hx=>(hn x hx).2,fun x hx k q hq=>hx.elim (fun hx=>h'.pr x hx k q hq) fun hx a ha e=>by
  rcases(hn x hx).1 with hf | hf
  ·exact TT (h.ow k q hq) ha (e▸hf)
  ·exact hf (e▸(h.ow k q hq).fresh a ha),h'.kp⟩
theorem Ow.step {H A A':AH} {own:List OQ} {jm:Nat→Prop} (h:Ow H A own jm) {k e:Nat} {base b':Option Addr} {cap c':Nat} {R R':List (List Value)} (hk:own[k]?=some (e,base,cap,R)) (kJ:fJ H A' e 1 b' c' R') (hK:Keep A A' (GI base)) (ZH:Keep H A' fun _=>False)
  (hN:∀ y,¬ aG A y→Off base y→Off b' y):Ow H A' (own.set k (e,b',c',R')) jm∧∀ y,jm y→¬ GI base y:=by
 have hlt:=Go.AX.dG hk
 have hex:∀ y,Off base y→¬ GI base y:=fun y hy ⟨a,ha,e⟩=>hy a ha e.symm
 have old:∀ {j:Nat} {q:OQ},j≠k→(own.set k (e,b',c',R'))[j]?=some q→own[j]?=some q:=fun {j q} hj h=>by
  rwa [List.getElem?_set_ne (Ne.symm hj)]at h
 have new:∀ {q:OQ},(own.set k (e,b',c',R'))[k]?=some q→q=(e,b',c',R'):=fun {q} h=>by
  rw[List.getElem?_set_self hlt]at h;exact(Option.some.inj h).symm
 refine⟨⟨fun j q hq=>?_,fun j l q r hjl hq hr a ha=>?_,fun y hy hf=>h.nf y hy (hK.fresh hf (hex y (h.pr y hy k _ hk))),fun y hy j q hq=>?_,ZH⟩,fun y hy=>hex y (h.pr y hy k _ hk)⟩
 ·by_cases hj:j=k
  ·subst hj;rw[new hq];exact kJ
  ·have ho:=old hj hq
   exact(h.ow j q ho).keep hK fun a ha=>hex _ (h.df k j _ q (Ne.symm hj) hk ho a ha)
 ·by_cases hj:j=k
  ·subst hj
   have hl:l≠j:=Ne.symm hjl
   have ho:=old hl hr
   rw[new hq]
   exact hN _ (TT (h.ow l r ho) ha) (h.df j l _ r hjl hk ho a ha)
  ·have hqo:=old hj hq
   by_cases hl:l=k
   ·subst hl
    have e1:=new hr
    subst e1
    intro a2 ha2 e2
    exact hN _ (TT (h.ow j q hqo) ha2) (h.df l j _ q (Ne.symm hj) hk hqo a2 ha2) a ha e2.symm
   ·exact h.df j l q r hjl hqo (old hl hr) a ha
 ·by_cases hj:j=k
  ·subst hj;rw[new hq];exact hN y (h.nf y hy) (h.pr y hy j _ hk)
  ·exact h.pr y hy j q (old hj hq)
theorem Ow.push {H A:AH} {own:List OQ} {jm:Nat→Prop} (h:Ow H A own jm) {k e t bt cap n:Nat} {base:Option Addr} {R:List (List Value)} {zs:List Value} {x:Value} (hk:own[k]?=some (e,base,cap,R)) (hx:iM x=true) (hE:uG Tryz.prog t=some (e,1,zs,bt)) (hz:zs.length=1) (hbt:bt≠0) (hni:Gv (Tryz.prog.underlying t)=true)
  (hn:n=R.length) (hroom:(2*(n+1)+192)*bt≤281474976710656) {bx:Nat} (hbx:aG A bx) {K:Value→AH→Prop} (hc:∀ b' c' A',Ow H A' (own.set k (e,b',c',R++[[x]])) jm→Keep A A' (GI base)→(∀ y,jm y→¬ GI base y)→K (.slice b' (n+1) c') A') :
  lS Tryz.prog (some t) (some t) [.slice base n cap,.slice (some ⟨bx,0,none⟩) 1 1] (A.add bx (.cells [x] e 1)) K:=by
 have hO:=h.ow k _ hk
 have hadd:Keep A (A.add bx (.cells [x] e 1)) fun _=>False:=Keep.add hbx
 refine lS.nD (x:=.slice (some ⟨bx,0,none⟩) 1 1) (R':=[[x]]) (m:=1) (hO.added hbx) (h.kp.nw hbx).all hE hz hbt hni hn rfl rfl (by rw[iF,fO];rfl) (by simp) (by simp[hx]) hroom fun gV cap2 A' kJ hK' hN'=>?_
 have qh:Keep A A' (GI base):=hadd.mono (fun _ h=>h.elim) |>.trans hK'
 have ZH:=(h.kp.nw (k:=.cells [x] e 1) hbx).ow hK' fun b ⟨a,ha,e⟩=>e▸hO.fresh a ha
 obtain⟨g1,g2⟩:=h.step hk kJ qh ZH fun y hy hb a ha e=>by
  rcases hN' a ha with ⟨a',h1,h2⟩ | hf
  ·exact hb a' h1 (h2▸e)
  ·exact hy (e▸hadd.fr hf)
 exact⟨A',AH.le_refl _,hc gV cap2 A' g1 qh g2⟩
theorem Ow.nil (H:AH):Ow H H [] (fun _=>False):=⟨fun k q h=>by simp at h,fun j k q r _ h=>by simp at h,fun _ h=>h.elim,fun _ h=>h.elim,Keep.refl⟩
theorem Ow.snoc {H A:AH} {own:List OQ} {jm:Nat→Prop} (h:Ow H A own jm) {x:Nat} (hx:aG A x) (e:Nat):Ow H (A.add x (.cells [] e 0)) (own++[(e,some ⟨x,0,none⟩,0,[])]) jm:=by
 have sp:∀ {k:Nat} {q:OQ},(own++[(e,some ⟨x,0,none⟩,0,[])])[k]?=some q→(k<own.length∧own[k]?=some q)∨(k=own.length∧q=(e,some ⟨x,0,none⟩,0,[])):=fun {k q} h=>by
  by_cases hk:k<own.length
  ·rw[List.getElem?_append_left hk]at h;exact .inl ⟨hk,h⟩
  ·have:=Go.AX.dG h
   simp only[List.length_append,List.length_singleton]at this
   obtain rfl:k=own.length:=by omega
   rw[List.getElem?_append_right (Nat.le_refl _),Nat.sub_self]at h
   exact .inr ⟨rfl,(Option.some.inj h).symm⟩
 have hk0:Keep A (A.add x (.cells [] e 0)) fun _=>False:=Keep.add hx
 refine⟨fun k q hq=>?_,fun j k q r hjk hq hr a ha a2 ha2 e2=>?_,fun y hy hf=>h.nf y hy (hk0.fr hf),fun y hy k q hq a ha e2=>?_,h.kp.nw hx⟩
 ·rcases sp hq with ⟨_,hq⟩ | ⟨_,rfl⟩
  ·exact(h.ow k q hq).added hx
  ·exact fJ.new hx h.kp.all rfl rfl rfl (by simp) (by simp)
 ·rcases sp hq with ⟨_,hq⟩ | ⟨h1,rfl⟩<;>rcases sp hr with ⟨_,hr⟩ | ⟨h2,rfl⟩
  ·exact h.df j k q r hjk hq hr a ha a2 ha2 e2
  ·cases ha
   exact TT (h.ow j q hq) ha2 (by rw[e2];exact hx)
  ·cases ha2
   exact TT (h.ow k r hr) ha (by rw[←e2];exact hx)
  ·omega
 ·rcases sp hq with ⟨_,hq⟩ | ⟨_,rfl⟩
  ·exact h.pr y hy k q hq a ha e2
  ·cases ha
   exact h.nf y hy (by rw[←e2];exact hx)
def P2 (A:AH) (jm:Nat→Prop) (S:List SR) (R:List RR):Prop:=(∀ s∈S,s.In A∧∀ x,s.ft x→jm x)∧∀ r∈R,r.In A∧∀ x,(x=r.b∨r.rd x)→jm x
theorem P2.keep {A A':AH} {jm ex:Nat→Prop} {S:List SR} {R:List RR} (h:P2 A jm S R) (hK:Keep A A' ex) (hp:∀ y,jm y→¬ ex y):P2 A' jm S R:=
 ⟨fun s hs=>⟨⟨(h.1 s hs).1.1.keep hK fun x hx=>hp x ((h.1 s hs).2 x hx),(h.1 s hs).1.2⟩,(h.1 s hs).2⟩,
 fun r hr=>⟨⟨(h.2 r hr).1.1.keep hK (fun x hx=>hp x ((h.2 r hr).2 x (.inr hx))) (hp _ ((h.2 r hr).2 _ (.inl rfl))),(h.2 r hr).1.2⟩,(h.2 r hr).2⟩⟩
theorem P2.more {A:AH} {jm new:Nat→Prop} {S:List SR} {R:List RR} {s:SR} {r:RR} (h:P2 A jm S R) (hs:s.In A∧∀ x,s.ft x→new x) (hr:r.In A∧∀ x,(x=r.b∨r.rd x)→new x):P2 A (fun x=>jm x∨new x) (S++[s]) (R++[r]):=
 ⟨fun q hq=>by
  rcases List.mem_append.1 hq with hq | hq
  ·exact⟨(h.1 q hq).1,fun x hx=>.inl ((h.1 q hq).2 x hx)⟩
  ·obtain rfl:=List.mem_singleton.1 hq
   exact⟨hs.1,fun x hx=>.inr (hs.2 x hx)⟩,
 fun q hq=>by
  rcases List.mem_append.1 hq with hq | hq
  ·exact⟨(h.2 q hq).1,fun x hx=>.inl ((h.2 q hq).2 x hx)⟩
  ·obtain rfl:=List.mem_singleton.1 hq
   exact⟨hr.1,fun x hx=>.inr (hr.2 x hx)⟩⟩
end Go.Proofs.YtbhamhhjicehaaaGreatDoor.jh
/- part: build. -/
namespace Go.Proofs.YtbhamhhjicehaaaGreatDoor.jh
open Go Go.AX Go.Proofs Ty Go.Proofs.YtbhamhhjicehaaaGreatDoor.File Go.Proofs.YtbhamhhjicehaaaGreatDoor.mF
open Go.Proofs.YtbhamhhjicehaaaGreatDoor.Srv (xw JZ D6)
open Go.Proofs.YtbhamhhjicehaaaGreatDoor.pF (Tb ig kW gG En)
set_option maxRecDepth 10000
structure Ce where
 fb:Option Addr
 fc:Nat
 L:List RF
 tb:Option Addr
 tc:Nat
 E:List En
 live:Bool
 st:Value
def Bj (c:Ce):List Value:=[.slice c.fb c.L.length c.fc,.slice c.tb c.E.length c.tc,.bool c.live,c.st]
structure Z8 (H:AH) (c:Ce):Prop where
 f:bG H 3 c.fb c.fc (c.L.map gK)
 r:∀ z∈c.L,bG H 4 z.base z.cap (z.R.map enc)∧∀ r∈z.R,nX r
 t:bG H 5 c.tb c.tc (c.E.map gG)
def HY (c:Ce):Tb:=(c.tb,c.tc,c.E.take 70)
structure Bd where
 b1:Option Addr
 c1:Nat
 S:List SR
 b2:Option Addr
 c2:Nat
 R:List RR
 b3:Option Addr
 c3:Nat
 T:List Tb
 b4:Option Addr
 c4:Nat
 B:List Bool
def Bd.own (w:Bd):List OQ:=[(47,w.b1,w.c1,w.S.map encS),(51,w.b2,w.c2,w.R.map encR),(58,w.b3,w.c3,w.T.map kW),(4,w.b4,w.c4,w.B.map jH)]
structure QA (C:List Ce) (n:Nat) (w:Bd):Prop where
 s:w.S.length=n
 r:w.R.length=n
 t:w.T=(C.take n).map HY
 b:w.B=(C.take n).map (·.live)
 x:∀ (i:Nat) s r,w.S[i]?=some s→w.R[i]?=some r→s.X=r.Z.map RF.nf∧s.den=0∧r.den=0∧kK s.X
theorem QA.add {C:List Ce} {n:Nat} {w:Bd} (h:QA C n w) {c:Ce} (hc:C[n]?=some c) {b br:Nat} {Z:List RF} {ft rd:Nat→Prop} (hZ:kK (Z.map RF.nf)) (b1 b2 b3 b4:Option Addr) (c1 c2 c3 c4:Nat) :
  QA C (n+1) ⟨b1,c1,w.S++[⟨b,Z.map RF.nf,0,ft⟩],b2,c2,w.R++[⟨br,Z,0,rd⟩],b3,c3,w.T++[HY c],b4,c4,w.B++[c.live]⟩:=by
 refine⟨by simp[h.s],by simp[h.r],by simp[List.take_add_one,hc,h.t],by simp[List.take_add_one,hc,h.b],fun i s r h1 h2=>?_⟩
 dsimp only at h1 h2
 by_cases hi:i<n
 ·rw[List.getElem?_append_left (by rw[h.s];exact hi)]at h1
  rw[List.getElem?_append_left (by rw[h.r];exact hi)]at h2
  exact h.x i s r h1 h2
 ·have:=Go.AX.dG h1
  simp only[List.length_append,h.s,List.length_singleton]at this
  obtain rfl:i=n:=by omega
  rw[List.getElem?_append_right (by rw[h.s];exact Nat.le_refl _),h.s,Nat.sub_self]at h1
  rw[List.getElem?_append_right (by rw[h.r];exact Nat.le_refl _),h.r,Nat.sub_self]at h2
  cases h1;cases h2
  exact⟨rfl,rfl,rfl,hZ⟩
end Go.Proofs.YtbhamhhjicehaaaGreatDoor.jh
/- part: the fixed fact. -/
namespace Go.Proofs.YtbhamhhjicehaaaGreatDoor.jh
open Go Go.AX Go.Proofs Ty Go.Proofs.YtbhamhhjicehaaaGreatDoor.File Go.Proofs.YtbhamhhjicehaaaGreatDoor.mF Go.Proofs.YtbhamhhjicehaaaGreatDoor.Err
open Go.Proofs.YtbhamhhjicehaaaGreatDoor.pF (Tb ig kW gG En tabs)
set_option maxRecDepth 10000
theorem EM {H0 H:AH} {b e sz bs n:Nat} {R:List (List Value)} (hf:aG H0 b) (h:H.find b=some (.cells R.flatten e bs)) (hn:n=R.length) (hr:∀ r∈R,r.length=sz) (hb:n*sz≤bs) (hbig:R.length<9223372036854775808):bG H sz (some ⟨b,0,none⟩) n R:=
 (⟨hr,by omega,hbig,.inr ⟨b,bs,rfl,h,hb,hf⟩⟩:fJ H0 H e sz (some ⟨b,0,none⟩) n R).slc
end Go.Proofs.YtbhamhhjicehaaaGreatDoor.jh
/- part: what is sorted stays so; a slot that is none. -/
namespace Go.Proofs.YtbhamhhjicehaaaGreatDoor.jh
open Go Go.AX Go.Proofs Ty Go.Proofs.YtbhamhhjicehaaaGreatDoor.File Go.Proofs.YtbhamhhjicehaaaGreatDoor.mF Go.Proofs.YtbhamhhjicehaaaGreatDoor.Err
open Go.Proofs.YtbhamhhjicehaaaGreatDoor.pF (Tb ig kW gG En tabs kR snd)
set_option maxRecDepth 10000
theorem TU {Y:List Nf} (h:kK Y) (n rec:Int) (v:Rc):kK (jk Y n rec v):=by
 unfold jk
 repeat' split
 all_goals first | exact Si h | exact h
theorem adr {Y:List Nf} (h:kK Y) (op fl rec:Int) (v:Rc):kK (Dn Y op fl rec v):=by
 unfold Dn
 repeat' split
 all_goals first | exact TU h _ _ _ | exact Si h | exact h
theorem Xn (T:List En) (hd:Hd) (p:Pl) {X:List Nf} (h:kK X):kK (gu T hd X p):=by
 unfold gu
 repeat' split
 all_goals first | exact TU h _ _ _ | exact h
theorem Ou (T:List En) (hd:Hd):∀ (l:List Pl) {X:List Nf},kK X→kK (l.foldl (gu T hd) X)
 | [],_,h=>h
 |p::l,_,h=>Ou T hd l (Xn T hd p h)
theorem TV:∀ (l:List En) (S:List Nf×Int),kK S.1→kK (oI l S).1
 | [],_,h=>h
 |x::l,S,h=>TV l (NZ S x) (by
  unfold NZ
  split
  ·exact adr h _ _ _ _
  ·exact h)
theorem ads (T:List En) (hd:Hd) (X:List Nf) (den:Int) (h:kK X):kK (app T hd X den).1:=TV T _ (Ou T hd _ h)
theorem TW (hd:Hd) (X:List Nf) (den:Int) (t:Tb) (l:Bool) (h:kK X):kK (jy hd X den t l).1:=by
 unfold jy
 split
 ·exact ads _ _ _ _ h
 ·exact h
end Go.Proofs.YtbhamhhjicehaaaGreatDoor.jh
/- part: PartRounds. -/
namespace Go.Proofs.YtbhamhhjicehaaaGreatDoor.jh
open Go Go.AX Go.Proofs Ty Go.Proofs.YtbhamhhjicehaaaGreatDoor.File Go.Proofs.YtbhamhhjicehaaaGreatDoor.mF Go.Proofs.YtbhamhhjicehaaaGreatDoor.Err
open Go.Proofs.YtbhamhhjicehaaaGreatDoor.pF (Tb ig kW gG En tabs)
set_option maxRecDepth 10000
end Go.Proofs.YtbhamhhjicehaaaGreatDoor.jh
/- part: a cell among the arguments. -/
namespace Go.Proofs.YtbhamhhjicehaaaGreatDoor.jh
open Go Go.AX Go.ChangeShapes Go.WideShapes Go.ChangeAt Go.RowKit Go.Proofs.YtbhamhhjicehaaaGreatDoor.File Go.Proofs.YtbhamhhjicehaaaGreatDoor.mF
open Go.Proofs.YtbhamhhjicehaaaGreatDoor.pF (gG En)
set_option maxRecDepth 100000
theorem Ov {x:Int} (h:(Lit.int .u8 x).wf=true):0≤x∧x≤255:=by
 simp[Lit.wf,IntKind.min,IntKind.max,IntKind.signed,IntKind.bits]at h
 omega
theorem MQ {HT:Type} {ec:TypeId×Value→HT} {W:World} {sp:Nat→Bool} {held:Bool} {cs:List Value} (hl:cs.length=3) (hc:wQ ec Tryz.prog W 0 sp held [3,3,63] cs) :
  ∃ z:RF,cs=gK z∧(bG ⟨W,[]⟩ 4 z.base z.cap (z.R.map enc)∧∀ r∈z.R,nX r):=by
 obtain⟨c0,c1,c2,rfl⟩:=acu hl
 obtain⟨_,_,t0⟩:=hc 0 _ _ rfl rfl
 obtain⟨a0,q0,_,w0⟩:=DataW.trod_int Tryz.underlying3 t0;cases q0
 obtain⟨_,_,t1⟩:=hc 1 _ _ rfl rfl
 obtain⟨a1,q1,_,w1⟩:=DataW.trod_int Tryz.underlying3 t1;cases q1
 obtain⟨_,_,t2⟩:=hc 2 _ _ rfl rfl
 obtain⟨b,n,cp,R,rfl,Yu,hs,hR⟩:=vY (P:=Tryz.prog) (sz:=4) Tryz.underlying63 (by kernel_rfl) (by simp) (show jO Tryz.prog 20 76=some [5,5,5,5] by kernel_rfl) rfl ⟨_,t2⟩
 obtain⟨L,rfl,hw⟩:=sJ (f:=File.enc) (G:=nX) (fun i r hr=>by
  obtain⟨hl,hc⟩:=hR i r hr
  obtain⟨c0,c1,c2,c3,rfl⟩:=list4 hl
  obtain⟨_,_,t0⟩:=hc 0 _ _ rfl rfl
  obtain⟨a0,q0,_,w0⟩:=DataW.trod_int Tryz.underlying5 t0;cases q0
  obtain⟨_,_,t1⟩:=hc 1 _ _ rfl rfl
  obtain⟨a1,q1,_,w1⟩:=DataW.trod_int Tryz.underlying5 t1;cases q1
  obtain⟨_,_,t2⟩:=hc 2 _ _ rfl rfl
  obtain⟨a2,q2,_,w2⟩:=DataW.trod_int Tryz.underlying5 t2;cases q2
  obtain⟨_,_,t3⟩:=hc 3 _ _ rfl rfl
  obtain⟨a3,q3,_,w3⟩:=DataW.trod_int Tryz.underlying5 t3;cases q3
  exact⟨⟨a0,a1,a2,a3⟩,rfl,Ov w0,Ov w1,Ov w2,Ov w3⟩)
 rw[List.length_map]at Yu;subst Yu
 exact⟨⟨a0,a1,b,cp,L⟩,rfl,hs,hw⟩
theorem open_cell {HT:Type} {ec:TypeId×Value→HT} {W:World} {sp:Nat→Bool} {held:Bool} {cs:List Value} (hl:cs.length=4) (hc:wQ ec Tryz.prog W 0 sp held [46,58,4,59] cs) :
  ∃ c:Ce,cs=Bj c∧Z8 ⟨W,[]⟩ c:=by
 obtain⟨c0,c1,c2,c3,rfl⟩:=list4 hl
 obtain⟨_,_,t0⟩:=hc 0 _ _ rfl rfl
 obtain⟨b,n,cp,R,rfl,Yu,hs,hR⟩:=vY (P:=Tryz.prog) (sz:=3) Tryz.underlying46 (by kernel_rfl) (by simp) (show jO Tryz.prog 20 67=some [3,3,63] by kernel_rfl) rfl ⟨_,t0⟩
 obtain⟨L,rfl,hw⟩:=sJ (f:=gK) (G:=fun z=>bG ⟨W,[]⟩ 4 z.base z.cap (z.R.map enc)∧∀ r∈z.R,nX r) (fun i r hr=>by
  obtain⟨hl,hc⟩:=hR i r hr
  exact MQ hl hc)
 rw[List.length_map]at Yu;subst Yu
 obtain⟨_,_,t1⟩:=hc 1 _ _ rfl rfl
 obtain⟨b1,n1,cp1,R1,rfl,adt,hs1,hR1⟩:=vY (P:=Tryz.prog) (sz:=5) Tryz.underlying58 (by kernel_rfl) (by simp) (show jO Tryz.prog 20 78=some [3,3,3,3,3] by kernel_rfl) rfl ⟨_,t1⟩
 obtain⟨E,rfl,_⟩:=sJ (f:=gG) (G:=fun _=>True) (fun i r hr=>by
  obtain⟨hl,hc⟩:=hR1 i r hr
  obtain⟨c0,c1,c2,c3,c4,rfl⟩:=acv hl
  obtain⟨_,_,t0⟩:=hc 0 _ _ rfl rfl
  obtain⟨a0,q0,_,w0⟩:=DataW.trod_int Tryz.underlying3 t0;cases q0
  obtain⟨_,_,t1⟩:=hc 1 _ _ rfl rfl
  obtain⟨a1,q1,_,w1⟩:=DataW.trod_int Tryz.underlying3 t1;cases q1
  obtain⟨_,_,t2⟩:=hc 2 _ _ rfl rfl
  obtain⟨a2,q2,_,w2⟩:=DataW.trod_int Tryz.underlying3 t2;cases q2
  obtain⟨_,_,t3⟩:=hc 3 _ _ rfl rfl
  obtain⟨a3,q3,_,w3⟩:=DataW.trod_int Tryz.underlying3 t3;cases q3
  obtain⟨_,_,t4⟩:=hc 4 _ _ rfl rfl
  obtain⟨a4,q4,_,w4⟩:=DataW.trod_int Tryz.underlying3 t4;cases q4
  exact⟨⟨a0,a1,a2,a3,a4⟩,rfl,trivial⟩)
 rw[List.length_map]at adt;subst adt
 obtain⟨_,_,t2⟩:=hc 2 _ _ rfl rfl
 obtain⟨l,q2,_⟩:=DataW.trod_bool Tryz.underlying4 t2;cases q2
 exact⟨⟨b,cp,L,b1,cp1,E,l,c3⟩,rfl,hs,hw,hs1⟩
end Go.Proofs.YtbhamhhjicehaaaGreatDoor.jh
/- slices.SortFunc of spans by their beginnings: what it comes to. -/
namespace Go.Proofs.YtbhamhhjicehaaaGreatDoor.kK
open Go Go.AX Go.Proofs Go.Shelf Go.RowKit Go.Lib Go.Sort
shelf_lay_g SlLaysF0.n6 Slsf 6 at Tryz 72 as sortSpan
shelf_lay_g SlLaysC2.n5 Slgc 5 at Tryz 74 as cmpInt
abbrev Sp:=Int×Int
def dN (x:Sp):List Value:=[.int .i64 x.1,.int .i64 x.2]
set_option maxHeartbeats 1000000 in
theorem closure (x y:Int×Int) (W:World):Calls Tryz.prog 73 #[.agg #[.int .i64 x.1,.int .i64 x.2],.agg #[.int .i64 y.1,.int .i64 y.2]] W fun e w'=>e=.returned (.int .i64 (Lib.compareInt x.1 y.1))∧∃ q os',w'=grow (W.drewN q) os':=by
 have hcon:=fun W'=>AnyG.cmp_Compare_int cmpInt x.1 y.1 W'
 change ∀ W',Calls Tryz.prog 74 _ _ _ at hcon
 generalize Lib.compareInt x.1 y.1=r at hcon ⊢
 go_enter Tryz.func73,Tryz.ntmps73
 go_wp2_with (go_at_call 74;refine(hcon _).mono ?_;rintro e w' ⟨rfl,rfl⟩)
 go_ret
 exact⟨rfl,0,_,by rw[alloc_eq_grow,alloc_eq_grow,grow_grow];rfl⟩
theorem Xo (blk off size:Nat) (w:World):CmpLays Tryz.prog 73 #[] dN 2 (fun x y=>Lib.compareInt x.1 y.1) blk off size w:=
 fun _ _ _ _ x y=>closure x y _
theorem Ox (x y:Sp):ltOf (fun x y:Sp=>Lib.compareInt x.1 y.1) x y=decide (x.1<y.1):=by
 unfold ltOf Lib.compareInt
 by_cases h1:x.1<y.1
 ·simp[h1]
 ·by_cases h2:y.1<x.1<;>simp[h1,h2]
theorem swo:SWO (ltOf fun x y:Sp=>Lib.compareInt x.1 y.1) where
 irrefl x:=by rw[Ox];simp
 trans x y z h1 h2:=by rw[Ox]at *;simp at *;omega
 ntrans x y z h1 h2:=by rw[Ox]at *;simp at *;omega
theorem EN {E:Nat→Option Obj} {H:AH} {w w':World} {b e bs:Nat} {cs cs':List Value} (hs:Sat E H w) (hf:H.find b=some (.cells cs e bs)) (hos:w'.os=w.os) (htape:w'.tape=w.tape) (hout:w'.output=w.output) (hsize:w.heap.size≤w'.heap.size)
  (hother:∀ k,k<w.heap.size→k≠b→w'.heap[k]?=w.heap[k]?) (hb:∃ arr':Array Value,w'.heap[b]?=some (.cells arr' e (0,0))∧arr'.size=bs∧cs' <+: arr'.toList):Sat E ((H.del b).add b (.cells cs' e bs)) w':=by
 obtain⟨h1,h2,_⟩:=hs.known b _ hf
 refine⟨hs.below.trans ⟨hos,htape,hout,hsize,fun k hk=>hother k (Nat.lt_of_lt_of_le hk hs.below.size) (by have:k<H.w0.heap.size:=hk;omega)⟩,fun b' k' hk=>?_,fun b' o ho=>?_⟩
 ·rw[dh]at hk
  split at hk
  ·rename_i e';subst e';cases hk
   exact⟨h1,Nat.lt_of_lt_of_le h2 hsize,hb⟩
  ·rename_i hne
   rw[iL,if_neg hne]at hk
   obtain⟨q1,q2,q3⟩:=hs.known b' k' hk
   exact⟨q1,Nat.lt_of_lt_of_le q2 hsize,CO (hother b' q2 hne) q3⟩
 ·obtain⟨q1,q2,q3⟩:=hs.far b' o ho
  have hne:b'≠b:=fun e'=>by subst e';rw[hf]at q2;cases q2
  have hlt:b'<w.heap.size:=(Array.getElem?_eq_some_iff.1 q3).1
  exact⟨q1,by rw[dh,if_neg hne,iL,if_neg hne];exact q2,by rw[hother b' hlt hne];exact q3⟩
theorem rV (L:List Sp):∀ r∈L.map dN,r.length=2:=fun r hr=>by
 obtain⟨x,_,rfl⟩:=List.mem_map.1 hr
 rfl
theorem J4 (l:List Sp):((l.map dN).flatten).all iM=true:=by
 rw[List.all_flatten,List.all_map,List.all_eq_true]
 intro r _;rfl
theorem nO (L:List Sp):(L.map dN).flatten.length=L.length*2:=by rw[jS (rV L),List.length_map]
theorem yZ (d:Array Sp):(flatK dN 2 d).toList=(d.toList.map dN).flatten:=by
 apply List.ext_getElem?
 intro t
 by_cases ht:t<d.size*2
 ·have hq:t / 2<d.size:=by omega
  have h1:(d.toList.map dN)[t / 2]?=some (dN d[t / 2]):=by rw[List.getElem?_map];simp[hq]
  have h2:(dN d[t / 2])[t % 2]?=some (dN d[t / 2])[t % 2]!:=by
   rcases Nat.mod_two_eq_zero_or_one t with h | h<;>rw[h]<;>rfl
  have h3:=flat_get (rV d.toList) (t / 2) (t % 2) _ _ h1 h2
  rw[show t / 2*2+t % 2=t from by omega]at h3
  rw[h3]
  have h4:=get_flatK dN 2 d t ht
  rw[getElem!_pos d (t / 2) hq]at h4
  rw[←h4,Array.getElem?_toList]
  have h5:t<(flatK dN 2 d).size:=by rw[size_flatK];exact ht
  rw[Array.getElem?_eq_getElem h5,getElem!_pos (flatK dN 2 d) t h5]
 ·rw[List.getElem?_eq_none (by simp;omega),List.getElem?_eq_none (by rw[nO];simp;omega)]
theorem Z9 (L:List Sp) (b e bs cap n:Nat) (A:AH) (hf:A.find b=some (.cells (L.map dN).flatten e bs)) (hn:n=L.length) (hlen:L.length<4611686018427387904) (hb:L.length*2≤bs) :
  aO Tryz.prog 72 #[.slice (some ⟨b,0,none⟩) n cap,.func (.func 73) #[] #[]] A (fun v H'=>v=.tuple #[]∧∃ L':List Sp,L'.Perm L∧L'.Pairwise (fun x y=>x.1≤y.1)∧H'=(A.del b).add b (.cells (L'.map dN).flatten e bs)):=by
 subst hn
 intro E w hs
 obtain⟨h1,h2,arr,ha,hsz,hp⟩:=hs.known b _ hf
 have hF:(flatK dN 2 L.toArray).toList=(L.map dN).flatten:=yZ L.toArray
 have hH:HoldsK dN 2 w b 0 L.toArray:=by
  intro j hj
  have hj2:j<(L.map dN).flatten.length:=by rw[←hF];simpa using hj
  refine⟨?_,by simp[World.frozen?,ha]⟩
  obtain⟨t,ht⟩:=hp
  have h3:arr.toList[j]?=some (L.map dN).flatten[j]:=by rw[←ht,List.getElem?_append_left hj2,List.getElem?_eq_getElem hj2]
  have h4:(flatK dN 2 L.toArray)[j]! = (L.map dN).flatten[j]:=by
   rw[getElem!_pos _ j hj]
   have h5:(flatK dN 2 L.toArray).toList[j]?=some (flatK dN 2 L.toArray)[j]:=by simp[hj]
   rw[hF,List.getElem?_eq_getElem hj2]at h5
   exact(Option.some.inj h5).symm
  rw[h4,Nat.zero_add]
  simpa [World.cell?,ha]using h3
 have eg:∀ args w,(callFunc 73 args).run Tryz.prog w=.ok (.enter 73 args) w:=enters_of Tryz.func73 (by kernel_rfl) rfl
 have hcon:=AnyQ.slices_SortFunc sortSpan 2 Tryz.isAgg85 Tryz.sizeOf85 dN (fun _=>rfl) (fun x v hv=>by simp[dN]at hv;rcases hv with rfl | rfl<;>rfl) (fun x y=>Lib.compareInt x.1 y.1) swo 73 #[] b 0 cap L.toArray w eg (Xo b 0 _ w) hH h2 (by simpa using hlen)
 change Calls Tryz.prog 72 _ _ _ at hcon
 refine hcon.mono ?_
 rintro e' w' ⟨rfl,d',n,os,hperm,hsort,rfl⟩
 obtain⟨q1,q2,q3⟩:=hperm
 have hsz':d'.size=L.length:=by simpa using q1
 refine⟨.tuple #[],_,rfl,EN (cs':=(d'.toList.map dN).flatten) hs hf rfl rfl rfl ?_ ?_ ?_,rfl,d'.toList,?_,?_,rfl⟩
 ·show w.heap.size≤(grow (putRowK dN 2 (Sort.ahead w n) b 0 d') os).heap.size
  rw[size_grow]
  unfold putRowK
  rw[size_putRow,heap_ahead];omega
 ·intro k hk hne
  show(grow (putRowK dN 2 (Sort.ahead w n) b 0 d') os).heap[k]?=_
  rw[heap_grow_old _ _ (by unfold putRowK;rw[size_putRow,heap_ahead];exact hk)]
  show((Sort.ahead w n).heap.modify b _)[k]?=_
  rw[Array.getElem?_modify,if_neg (Ne.symm hne)];rfl
 ·refine⟨putCells id 0 (flatK dN 2 d') arr,?_,by simp[putCells,hsz],?_⟩
  ·show(grow (putRowK dN 2 (Sort.ahead w n) b 0 d') os).heap[b]?=_
   rw[heap_grow_old _ _ (by unfold putRowK;rw[size_putRow,heap_ahead];exact h2)]
   show((Sort.ahead w n).heap.modify b _)[b]?=_
   rw[Array.getElem?_modify,if_pos rfl,heap_ahead,ha];rfl
  ·rw[←yZ]
   refine⟨(arr.toList.drop (d'.size*2)),?_⟩
   apply List.ext_getElem?
   intro t
   have hle:d'.size*2≤arr.size:=by omega
   by_cases ht:t<d'.size*2
   ·rw[List.getElem?_append_left (by simpa using ht)]
    simp only[putCells,Array.getElem?_toList,Array.getElem?_mapIdx,size_flatK]
    have h5:t<(flatK dN 2 d').size:=by rw[size_flatK];exact ht
    have h6:t<arr.size:=by omega
    rw[Array.getElem?_eq_getElem h5,Array.getElem?_eq_getElem h6,Option.map_some,if_pos ⟨by omega,by omega⟩,Nat.sub_zero,getElem!_pos _ t h5];rfl
   ·rw[List.getElem?_append_right (by simp;omega)]
    simp only[putCells,Array.getElem?_toList,Array.getElem?_mapIdx,size_flatK,Array.length_toList]
    rw[List.getElem?_drop,show d'.size*2+(t - d'.size*2)=t from by omega,Array.getElem?_toList]
    cases hx:arr[t]? with
    |none=>rfl
    |some v=>rw[Option.map_some,if_neg (by omega)]
 ·have:(d'.extract 0 L.toArray.size).toList.Perm (L.toArray.extract 0 L.toArray.size).toList:=q3
  have e1:d'.extract 0 L.toArray.size=d':=by rw[show L.toArray.size=d'.size from by rw[hsz'];simp];exact Array.extract_size
  have e2:L.toArray.extract 0 L.toArray.size=L.toArray:=Array.extract_size
  rw[e1,e2]at this
  simpa using this
 ·rw[List.pairwise_iff_getElem]
  intro i j hi hj hij
  have:=hsort i j (Nat.zero_le _) hij (by simpa [hsz']using hj)
  rw[Ox]at this
  rw[getElem!_pos d' j (by simpa using hj),getElem!_pos d' i (by simpa using hi)]at this
  simp only[decide_eq_false_iff_not]at this
  simp only[Array.getElem_toList]
  omega
theorem aac {H A:AH} {base:Option Addr} {cap e n:Nat} {L:List Sp} (hO:fJ H A e 2 base cap (L.map dN)) (hn:n=L.length) (hlen:L.length<4611686018427387904) :
  aO Tryz.prog 72 #[.slice base n cap,.func (.func 73) #[] #[]] A (fun v H'=>v=.tuple #[]∧∃ L':List Sp,L'.Perm L∧L'.Pairwise (fun x y=>x.1≤y.1)∧fJ H H' e 2 base cap (L'.map dN)∧Keep A H' (GI base)):=by
 rcases hO.at_ with ⟨rfl,hnil,rfl⟩ | ⟨b,bs,rfl,hf,hbs,hfr⟩
 ·have hL:L=[]:=by simpa using hnil
  subst hL
  subst hn
  intro E w hs
  have:=AnyF.slices_SortFunc_none (P:=Tryz.prog) (ρ:=sortSpan_ren) { sortSpan with } none 0 (.func (.func 73) #[] #[]) w
  change Calls Tryz.prog 72 _ _ _ at this
  exact this.mono fun e' w' ⟨h1,h2⟩=>⟨_,A,h1,h2▸hs,rfl,[],List.Perm.refl _,List.Pairwise.nil,hO,Keep.refl⟩
 ·have hle:=hO.le
  rw[List.length_map]at hle
  refine(Z9 L b e bs cap n A hf hn hlen (by omega)).mono ?_
  rintro v H' ⟨rfl,L',hp,hs,rfl⟩
  refine⟨rfl,L',hp,hs,⟨rV L',by rw[List.length_map,hp.length_eq];exact hle,by rw[List.length_map,hp.length_eq];omega,.inr ⟨b,bs,rfl,aH _ _ _,hbs,hfr⟩⟩,Keep.put.mono fun b' hb'=>Dc.2 hb'⟩
end Go.Proofs.YtbhamhhjicehaaaGreatDoor.kK
/- slices.Grow of nothing and slices.Concat at one type. -/
namespace Go.Proofs.YtbhamhhjicehaaaGreatDoor.wI
open Go Go.AX Go.Proofs Ty Go.Proofs.YtbhamhhjicehaaaGreatDoor.kK
set_option maxRecDepth 10000
abbrev Ls:=Option Addr×Nat×List (Int×Int)
def encS (x:Ls):List Value:=[.slice x.1 x.2.2.length x.2.1]
structure TY (H:AH) (base:Option Addr) (cap:Nat) (T:List Ls):Prop where
 out:bG H 1 base cap (T.map encS)
 inn:∀ x∈T,bG H 2 x.1 x.2.1 (x.2.2.map dN)
def tot (T:List Ls) (i:Nat):List (Int×Int):=((T.take i).map (·.2.2)).flatten
theorem D7 {T:List Ls} {i:Nat} {x:Ls} (h:T[i]?=some x):tot T (i+1)=tot T i++x.2.2:=by
 simp[tot,List.take_add_one,h]
theorem Ua {T:List Ls}:∀ (j i:Nat),(tot T i).length≤(tot T (i+j)).length
 |0,_=>Nat.le_refl _
 |j+1,i=>by
  refine Nat.le_trans (Ua j i) ?_
  rw[show i+(j+1)=i+j+1 from rfl]
  cases h:T[i+j]? with
  |some x=>rw[D7 h];simp
  |none=>rw[tot,tot,List.take_of_length_le (by rw[List.getElem?_eq_none_iff]at h;omega),List.take_of_length_le (by rw[List.getElem?_eq_none_iff]at h;omega)];exact Nat.le_refl _
theorem Oy {T:List Ls} {i:Nat} (h:i≤T.length):(tot T i).length≤(tot T T.length).length:=by
 have:=Ua (T:=T) (T.length - i) i
 rwa [show i+(T.length - i)=T.length from by omega]at this
theorem aad (n:Nat) (hn:n<1000000) (H:AH):aO Tryz.prog 113 #[.slice none 0 0,.int .i64 n] H (fun v H'=>∃ base cap,v=.slice base 0 cap∧fJ H H' 85 2 base cap []∧Keep H H' fun _=>False):=by
 have e:IntKind.i64.wrap ((n:Int) - 0)=n:=by rw[eH (by omega) (by omega)];omega
 have c:¬ (n:Int)<0:=by omega
 refine aO.cu Tryz.func113 rfl Tryz.ntmps113 Tryz.results113 (by simp) ?_;simp -dsimp(maxSteps:=4000000) only[c,e,go_sem]
 by_cases h:(0:Int)<n
 ·simp -dsimp(maxSteps:=4000000) only[h,c,e,go_sem]
  refine lS.make uQ rfl (by decide) (Tryz.underlying3) (by omega) (by omega) (by decide) fun b cc SH hc=>?_
  have aae:=SH;(try simp only[ah,aj,ne_eq]at aae);have adu:=aae;(try simp only[@eq_comm Nat b]at adu)
  simp -dsimp(maxSteps:=4000000) only[ite_self,Nat.sub_zero,c,e,aae,adu,go_sem]
  exact⟨_,AH.le_refl _,_,_,rfl,⟨by simp,by simp,by simp,.inr ⟨b,_,rfl,aH _ _ _,by omega,SH⟩⟩,Keep.add SH⟩
 ·
  simp -dsimp(maxSteps:=4000000) only[h,c,e,go_sem]
  exact⟨H,AH.le_refl _,none,0,rfl,fJ.nil,Keep.refl⟩
theorem Ub (T:List Ls) (base:Option Addr) (cap:Nat) (H:AH) (hT:TY H base cap T) (hb:(tot T T.length).length<1000000) :
  aO Tryz.prog 70 #[.slice base T.length cap] H (fun v H'=>∃ b' c',v=.slice b' (tot T T.length).length c'∧fJ H H' 85 2 b' c' ((tot T T.length).map dN)∧Keep H H' fun _=>False):=by
 have hbig:=hT.out.big
 simp only[List.length_map]at hbig
 refine aO.cu Tryz.func70 rfl Tryz.ntmps70 Tryz.results70 (by simp) ?_;simp -dsimp(maxSteps:=4000000) only[go_sem]
 refine fZ.gQ (ι:=Nat) (fun i=>i≤T.length) (fun i=>[(11,.int .i64 i),(10,.int .i64 T.length),(9,.slice base T.length cap),(0,.slice base T.length cap),(3,.int .i64 (tot T i).length)])
  (fun _=>H) (fun i=>T.length - i) 0 (by omega) (bZ.aS ?_) (AH.le_refl _) fun i hi Q again out=>?_
 ·simp -dsimp(maxSteps:=4000000) only[go_sem]
  rfl
 by_cases h:(i:Int)<T.length
 ·obtain⟨⟨tb,tc,L⟩,ht⟩:=get_some (l:=T) (i:=i) (by omega)
  have hin:=hT.inn _ (List.mem_of_getElem? ht)
  obtain⟨b,o,rfl,_,hrd⟩:=hT.out.get (dn (f:=encS) ht)
  have hrd:=hrd 0 _ rfl
  simp only[Nat.mul_one,Nat.add_zero]at hrd
  have ee:=dA (i:=i) (by omega)
  have e1:=D7 ht
  have b1:=Oy (T:=T) (i:=i+1) (by omega)
  rw[e1,List.length_append]at b1
  simp only at b1
  have e2:IntKind.i64.wrap (((tot T i).length:Int)+L.length)=((tot T (i+1)).length:Int):=by
   rw[e1,List.length_append,eH (by omega) (by omega)];simp only;omega
  have c:¬ ((tot T (i+1)).length:Int)<0:=by omega
  simp -dsimp(maxSteps:=4000000) only[h,hrd,ee,e2,c,go_sem]
  refine again (i+1) _ _ (by omega) (bZ.aS (by simp -dsimp(maxSteps:=4000000) only[go_sem])) (AH.le_refl _) (by omega)
 obtain rfl:i=T.length:=by omega
 simp -dsimp(maxSteps:=4000000) only[h,go_sem]
 refine out _ _ _ (by simp) ?_
 simp -dsimp(maxSteps:=4000000) only[go_sem]
 refine(aad _ hb _).mono ?_;rintro _ A0 ⟨b0,c0,rfl,hO0,hK0⟩
 clear out again h hi
 simp -dsimp(maxSteps:=4000000) only[go_sem]
 refine fZ.jE (ι:=Nat×Option Addr×Nat) (fun x A=>x.1≤T.length∧fJ H A 85 2 x.2.1 x.2.2 ((tot T x.1).map dN)∧(Keep H A fun _=>False))
  (fun x=>[(27,.int .i64 x.1),(26,.int .i64 T.length),(25,.slice base T.length cap),(6,.slice x.2.1 (tot T x.1).length x.2.2)]) (fun x=>T.length - x.1) (0,b0,c0) A0
  ⟨by simp,hO0,hK0⟩ (bZ.aS ?_) (AH.le_refl _) fun x A hi Q again out=>?_
 ·simp -dsimp(maxSteps:=4000000) only[go_sem]
  rfl
 clear hO0 hK0
 obtain⟨i,base',cap'⟩:=x
 obtain⟨hi,hO,hK⟩:=hi
 dsimp only at hi hO again ⊢
 by_cases h:(i:Int)<T.length
 ·obtain⟨⟨tb,tc,L⟩,ht⟩:=get_some (l:=T) (i:=i) (by omega)
  have hin:=(hT.inn _ (List.mem_of_getElem? ht)).keep hK fun _ _ h=>h
  obtain⟨b,o,rfl,_,hrd⟩:=(hT.out.keep hK fun _ _ h=>h).get (dn (f:=encS) ht)
  have hrd:=hrd 0 _ rfl
  simp only[Nat.mul_one,Nat.add_zero]at hrd
  have ee:=dA (i:=i) (by omega)
  have e1:=D7 ht
  have b1:=Oy (T:=T) (i:=i+1) (by omega)
  rw[e1,List.length_append]at b1
  simp only at b1
  simp -dsimp(maxSteps:=4000000) only[h,hrd,go_sem]
  refine lS.growS (a:=tb) (m:=L.length) (c:=tc) (R':=L.map dN) hO hK.all uQ rfl (by decide) (by decide) (by rw[Tryz.underlying36];rfl) (by simp) (by simp) hin (rV _) (J4 _) (by omega) fun gV cap2 A' kJ hK' hN'=>?_
  refine⟨_,AH.le_refl _,?_⟩
  simp -dsimp(maxSteps:=4000000) only[ee,go_sem]
  have hK2:=hK.ow hK' fun b ⟨a,ha,e⟩=>e▸hO.fresh a ha
  rw[←List.map_append]at kJ
  have kJ:fJ H A' 85 2 gV cap2 ((tot T (i+1)).map dN):=by rw[e1];exact kJ
  refine again (i+1,gV,cap2) _ _ _ ⟨by simp only;omega,kJ,hK2⟩ (bZ.aS ?_) (AH.le_refl _) (by simp only;omega)
  rw[e1,List.length_append]
  simp -dsimp(maxSteps:=4000000) only[go_sem]
 ·obtain rfl:i=T.length:=by omega
  simp -dsimp(maxSteps:=4000000) only[h,go_sem]
  refine out _ _ _ (by simp) ?_
  simp -dsimp(maxSteps:=4000000) only[go_sem]
  exact⟨A,(by(repeat (first | exact AH.le_refl _ | refine AH.aK ?_ ?_));all_goals (first | exact AH.le_refl _ | (show AH.find _ _=_;simp only[aH,aN,aV,ah,aj,ne_eq,not_false_eq_true,true_and,and_true,and_self]))),base',cap',rfl,hO,hK⟩
end Go.Proofs.YtbhamhhjicehaaaGreatDoor.wI
/- IndexFunc, ContainsFunc, DeleteFunc, Clip of spans. -/
namespace Go.Proofs.YtbhamhhjicehaaaGreatDoor.lV
open Go Go.AX Go.Proofs Ty Go.Proofs.YtbhamhhjicehaaaGreatDoor.kK
set_option maxRecDepth 10000
def Ix (g:Sp→Bool) (L:List Sp) (r:Int):Prop:=(r = -1∧∀ x∈L,g x=false)∨∃ (i:Nat) (x:Sp),L[i]?=some x∧g x=true∧r=i∧∀ j,j<i→∀ y,L[j]?=some y→g y=false
theorem wz {g:Sp→Bool} {fid:Nat} {caps:List Value} {L:List Sp} {n:Nat} {base:Option Addr} {cap:Nat} {H:AH} (hs:bG H 2 base cap (L.map dN)) (hn:n=L.length) (hok:fA Tryz.prog fid=true)
  (hf:∀ x∈L,aO Tryz.prog fid ([]++[Value.agg (dN x).toArray]++caps).toArray H (fun v H'=>v=.bool (g x)∧H=H')) :
  aO Tryz.prog 76 #[.slice base n cap,.func (.func fid) #[] caps.toArray] H (fun v H'=>∃ r:Int,v=.int .i64 r∧Ix g L r∧H=H'):=by
 subst hn
 have hbig:=hs.big
 simp only[List.length_map]at hbig
 refine aO.cu Tryz.func76 rfl Tryz.ntmps76 Tryz.results76 (by simp) ?_;simp -dsimp(maxSteps:=4000000) only[go_sem]
 refine fZ.gQ (ι:=Nat) (fun i=>i≤L.length∧∀ j,j<i→∀ y,L[j]?=some y→g y=false) (fun i=>[(8,.int .i64 i),(7,.int .i64 L.length),(0,.slice base L.length cap),(1,.func (.func fid) #[] caps.toArray)])
  (fun _=>H) (fun i=>L.length - i) 0 ⟨by omega,fun j hj=>by omega⟩ (bZ.aS ?_) (AH.le_refl _) fun i hi Q again out=>?_
 ·simp -dsimp(maxSteps:=4000000) only[go_sem]
 ·obtain⟨hi,hall⟩:=hi
  by_cases h:(i:Int)<L.length
  ·obtain⟨x,hx⟩:=get_some (l:=L) (i:=i) (by omega)
   obtain⟨b,o,rfl,hrow,_⟩:=hs.get (dn (f:=dN) hx)
   have ee:=dA (i:=i) (by omega)
   simp -dsimp(maxSteps:=4000000) only[h,hrow,hok,go_sem]
   refine(hf x (List.mem_of_getElem? hx)).mono ?_;rintro _ _ ⟨rfl,rfl⟩
   cases hb:g x with
   |true=>
    simp -dsimp(maxSteps:=4000000) only[go_sem]
    refine out _ _ _ (by simp) ?_
    simp -dsimp(maxSteps:=4000000) only[go_sem]
    exact⟨H,(by(repeat (first | exact AH.le_refl _ | refine AH.aK ?_ ?_));all_goals (first | exact AH.le_refl _ | (show AH.find _ _=_;simp only[aH,aN,aV,ah,aj,ne_eq,not_false_eq_true,true_and,and_true,and_self]))),_,rfl,.inr ⟨i,x,hx,hb,rfl,hall⟩,rfl⟩
   |false=>
    simp -dsimp(maxSteps:=4000000) only[ee,go_sem]
    refine again (i+1) _ _ ⟨by omega,fun j hj m hm=>?_⟩ (bZ.aS (by simp -dsimp(maxSteps:=4000000) only[go_sem])) (AH.le_refl _) (by omega)
    by_cases hji:j=i
    ·subst hji;rw[hx]at hm;cases hm;exact hb
    ·exact hall j (by omega) m hm
  ·simp -dsimp(maxSteps:=4000000) only[h,go_sem]
   refine out _ _ _ (by simp) ?_
   simp -dsimp(maxSteps:=4000000) only[go_sem]
   exact⟨H,(by(repeat (first | exact AH.le_refl _ | refine AH.aK ?_ ?_));all_goals (first | exact AH.le_refl _ | (show AH.find _ _=_;simp only[aH,aN,aV,ah,aj,ne_eq,not_false_eq_true,true_and,and_true,and_self]))),_,rfl,.inl ⟨rfl,fun y hy=>by
    obtain⟨j,hj⟩:=List.mem_iff_getElem?.1 hy
    exact hall j (by have:=dG hj;omega) y hj⟩,rfl⟩
theorem sZ {g:Sp→Bool} {fid:Nat} {caps:List Value} {L:List Sp} {n:Nat} {base:Option Addr} {cap:Nat} {H:AH} (hs:bG H 2 base cap (L.map dN)) (hn:n=L.length) (hok:fA Tryz.prog fid=true)
  (hf:∀ x∈L,aO Tryz.prog fid ([]++[Value.agg (dN x).toArray]++caps).toArray H (fun v H'=>v=.bool (g x)∧H=H')) :
  aO Tryz.prog 35 #[.slice base n cap,.func (.func fid) #[] caps.toArray] H (fun v H'=>v=.bool (L.any g)∧H=H'):=by
 refine aO.cu Tryz.func35 rfl Tryz.ntmps35 Tryz.results35 (by simp) ?_;simp -dsimp(maxSteps:=4000000) only[go_sem]
 refine(wz hs hn hok hf).mono ?_;rintro _ _ ⟨r,rfl,hr,rfl⟩
 rcases hr with ⟨rfl,hno⟩ | ⟨q,x,hq,hg,rfl,hpre⟩
 ·have e:L.any g=false:=by rw[List.any_eq_false];intro x hx;rw[hno x hx];simp
  simp -dsimp(maxSteps:=4000000) only[go_sem]
  exact⟨H,(AH.le_refl _),(by first | exact⟨by rw[e],rfl⟩ | rfl)⟩
 ·have e:L.any g=true:=List.any_eq_true.2 ⟨x,List.mem_of_getElem? hq,hg⟩
  have q0:(0:Int)≤(q:Int):=by omega
  simp -dsimp(maxSteps:=4000000) only[go_sem]
  exact⟨H,(AH.le_refl _),(by first | exact⟨by rw[e],rfl⟩ | rfl)⟩
theorem GL {base:Option Addr} {n cap:Nat} (h:n≤cap) (H:AH):aO Tryz.prog 75 #[.slice base n cap] H (fun v H'=>v=.slice base n n∧H=H'):=by
 have h':(n:Int)≤cap:=by omega
 refine aO.cu Tryz.func75 rfl Tryz.ntmps75 Tryz.results75 (by simp) ?_;simp -dsimp(maxSteps:=4000000) only[h',Int.le_refl,go_sem]
 exact⟨H,(AH.le_refl _),(by first | exact⟨rfl,rfl⟩ | rfl)⟩
theorem bM (x:Sp):(dN x).length=2:=rfl
theorem bC (x:Sp):(dN x).all iM=true:=rfl
theorem dJ (x:Sp):iO [.int .i64 0,.int .i64 0] 0 (dN x)=dN x:=rfl
theorem bD (x:Sp):(dN x).take 2=dN x:=rfl
theorem zfP (n:Nat):zf [Value.int .i64 0,.int .i64 0] (n*2)=((List.replicate n ((0,0):Sp)).map dN).flatten:=by
 rw[NH (zs:=[Value.int .i64 0,.int .i64 0]) (n:=n) (m:=n*2) rfl,List.map_replicate];rfl
theorem aO.adw {P:Program} {f:FuncId} {args:Array Value} {H:AH} {K K':Value→AH→Prop} (h:aO P f args H K) (hk:∀ v H',K v H'→∃ H2:AH,(∀ E w,Sat E H' w→Sat E H2 w)∧K' v H2):aO P f args H K':=
 fun E w hs=>(h E w hs).mono fun e w' ⟨v,H',h1,h2,h3⟩=>by
  obtain⟨H2,h4,h5⟩:=hk v H' h3
  exact⟨v,H2,h1,h4 E w' h2,h5⟩
structure Mid (p:Sp→Bool) (L M:List Sp) (i j:Nat):Prop where
 len:M.length=L.length
 ij:i<j
 jl:j≤L.length
 front:M.take i=(L.take j).filter (fun x=>!p x)
 cnt:i=((L.take j).filter (fun x=>!p x)).length
 back:M.drop j=L.drop j
theorem Mid.keep {p:Sp→Bool} {L M:List Sp} {i j:Nat} {x:Sp} (h:Mid p L M i j) (hx:L[j]?=some x) (hp:p x=false):Mid p L (M.set i x) (i+1) (j+1):=by
 have hj:=dG hx
 have e:(L.take (j+1)).filter (fun x=>!p x)=(L.take j).filter (fun x=>!p x)++[x]:=by
  rw[List.take_add_one,hx,List.filter_append];simp[hp]
 have hl:=h.len
 have hij:=h.ij
 refine⟨by rw[List.length_set];exact h.len,by omega,by omega,?_,?_,?_⟩
 ·rw[e,←h.front,List.take_add_one,List.getElem?_set_self (by omega)]
  congr 1
  apply List.ext_getElem?
  intro q
  rw[List.getElem?_take,List.getElem?_take]
  split
  ·rw[List.getElem?_set_ne (by omega)]
  ·rfl
 ·rw[e,List.length_append,←h.cnt];rfl
 ·have:=h.back
  apply List.ext_getElem?
  intro q
  rw[List.getElem?_drop,List.getElem?_drop,List.getElem?_set_ne (by omega)]
  have h2:=congrArg (fun l=>l[q+1]?) this
  simp only[List.getElem?_drop]at h2
  rw[show j+1+q=j+(q+1) from by omega];exact h2
theorem Mid.drop {p:Sp→Bool} {L M:List Sp} {i j:Nat} {x:Sp} (h:Mid p L M i j) (hx:L[j]?=some x) (hp:p x=true):Mid p L M i (j+1):=by
 have hj:=dG hx
 have e:(L.take (j+1)).filter (fun x=>!p x)=(L.take j).filter (fun x=>!p x):=by
  rw[List.take_add_one,hx,List.filter_append];simp[hp]
 have hij:=h.ij
 refine⟨h.len,by omega,by omega,by rw[e];exact h.front,by rw[e];exact h.cnt,?_⟩
 have:=h.back
 apply List.ext_getElem?
 intro q
 rw[List.getElem?_drop,List.getElem?_drop]
 have h2:=congrArg (fun l=>l[q+1]?) this
 simp only[List.getElem?_drop]at h2
 rw[show j+1+q=j+(q+1) from by omega];exact h2
theorem Mid.get {p:Sp→Bool} {L M:List Sp} {i j:Nat} {x:Sp} (h:Mid p L M i j) (hx:L[j]?=some x):M[j]?=some x:=by
 have h2:=congrArg (fun l=>l[0]?) h.back
 simp only[List.getElem?_drop,Nat.add_zero]at h2
 rw[h2];exact hx
theorem Mid.start {p:Sp→Bool} {L:List Sp} {i:Nat} {x:Sp} (hx:L[i]?=some x) (hp:p x=true) (hpre:∀ j,j<i→∀ y,L[j]?=some y→p y=false):Mid p L L i (i+1):=by
 have hi:=dG hx
 have e0:(L.take i).filter (fun x=>!p x)=L.take i:=by
  rw[List.filter_eq_self]
  intro y hy
  obtain⟨q,hq⟩:=List.mem_iff_getElem?.1 hy
  rw[List.getElem?_take]at hq
  split at hq
  ·rename_i hq2;rw[hpre q hq2 y hq];rfl
  ·cases hq
 have e:(L.take (i+1)).filter (fun x=>!p x)=L.take i:=by
  rw[List.take_add_one,hx,List.filter_append,e0];simp[hp]
 exact⟨rfl,by omega,by omega,e.symm,by rw[e,List.length_take];omega,rfl⟩
theorem H6 {p:Sp→Bool} {fid:Nat} {H A:AH} {base:Option Addr} {cap n:Nat} {L:List Sp} (hO:fJ H A 85 2 base cap (L.map dN)) (hn:n=L.length) (hok:fA Tryz.prog fid=true)
  (hf:∀ (x:Sp) (B:AH),aO Tryz.prog fid ([]++[Value.agg (dN x).toArray]++([]:List Value)).toArray B (fun v H'=>v=.bool (p x)∧B=H')) :
  aO Tryz.prog 69 #[.slice base n cap,.func (.func fid) #[] #[]] A (fun v H'=>v=.slice base (L.filter fun x=>!p x).length cap∧fJ H H' 85 2 base cap ((L.filter fun x=>!p x).map dN)∧Keep A H' (GI base)):=by
 subst hn
 have hbig:=hO.big
 have hle:=hO.le
 simp only[List.length_map]at hbig hle
 have hff:∀ (x:Sp) (B:AH),aO Tryz.prog fid #[Value.agg (dN x).toArray] B (fun v H'=>v=.bool (p x)∧B=H'):=hf
 by_cases hno:∀ x∈L,p x=false
 ·have e:(L.filter fun x=>!p x)=L:=by
   rw[List.filter_eq_self];intro x hx;rw[hno x hx];rfl
  rw[e]
  refine aO.cu Tryz.func69 rfl Tryz.ntmps69 Tryz.results69 (by simp) ?_;simp -dsimp(maxSteps:=4000000) only[go_sem]
  refine(wz (g:=p) (caps:=[]) hO.slc rfl hok fun x _=>hf x A).mono ?_;rintro _ _ ⟨r,rfl,hr,rfl⟩
  rcases hr with ⟨rfl,_⟩ | ⟨q,x,hq,hg,rfl,_⟩
  ·simp -dsimp(maxSteps:=4000000) only[go_sem]
   exact⟨A,AH.le_refl _,hO,Keep.refl⟩
  ·rw[hno x (List.mem_of_getElem? hq)]at hg;cases hg
 ·obtain⟨b,bs,rfl,hfb,hbs,hfr⟩:∃ b bs,base=some ⟨b,0,none⟩∧A.find b=some (.cells (L.map dN).flatten 85 bs)∧cap*2≤bs∧aG H b:=by
   rcases hO.at_ with ⟨_,h0,_⟩ | ⟨b,bs,h1,h2,h3,h4⟩
   ·rw[List.map_eq_nil_iff]at h0
    subst h0
    exact(hno (fun x hx=>by cases hx)).elim
   ·exact⟨b,bs,h1,h2,h3,h4⟩
  refine aO.at hfb ?_
  have hsl:=hO.slc.keep (Keep.VY hfb) fun _ _ h=>h
  have hk1:∀ k,Keep A ((A.del b).add b k) (GI (some ⟨b,0,none⟩)):=fun k=>Keep.put.mono fun b' hb'=>Dc.2 hb'
  generalize hB:A.del b=B at hsl hk1 ⊢
  clear hfb hO
  suffices hm:aO Tryz.prog 69 #[.slice (some ⟨b,0,none⟩) L.length cap,.func (.func fid) #[] #[]] (B.add b (.cells (L.map dN).flatten 85 bs)) (fun v H'=>v=.slice (some ⟨b,0,none⟩) (L.filter fun x=>!p x).length cap∧∃ rest,H'=B.add b (.cells (((L.filter fun x=>!p x).map dN).flatten++rest) 85 bs)) by
   refine aO.adw hm ?_
   rintro v H' ⟨rfl,rest,rfl⟩
   refine⟨_,fun E w hs=>hs.pre,rfl,⟨rV _,?_,?_,.inr ⟨b,bs,rfl,aH _ _ _,hbs,hfr⟩⟩,hk1 _⟩
   ·rw[List.length_map]
    exact Nat.le_trans (List.length_filter_le _ _) hle
   ·rw[List.length_map]
    exact Nat.lt_of_le_of_lt (List.length_filter_le _ _) hbig
  refine aO.cu Tryz.func69 rfl Tryz.ntmps69 Tryz.results69 (by simp) ?_;simp -dsimp(maxSteps:=4000000) only[bM,bC,dJ,bD,go_sem]
  refine(wz (g:=p) (caps:=[]) hsl rfl hok fun x _=>hf x _).mono ?_;rintro _ _ ⟨r,rfl,hr,rfl⟩
  rcases hr with ⟨rfl,hall⟩ | ⟨i0,x0,hi0,hg0,rfl,hpre⟩
  ·exact absurd hall hno
  have hst:=Mid.start hi0 hg0 hpre
  have amc:=dG hi0
  have e0:=dA (i:=i0) (by omega)
  have c0:¬ (i0:Int) = -1:=by omega
  simp -dsimp(maxSteps:=4000000) only[e0,c0,bM,bC,dJ,bD,go_sem]
  refine fZ.gQ (ι:=Nat×Nat×List Sp) (fun x=>Mid p L x.2.2 x.1 x.2.1) (fun x=>[(5,.int .i64 x.1),(6,.int .i64 x.2.1),(0,.slice (some ⟨b,0,none⟩) L.length cap),(1,.func (.func fid) #[] #[])])
   (fun x=>B.add b (.cells (x.2.2.map dN).flatten 85 bs)) (fun x=>L.length - x.2.1) (i0,i0+1,L) hst (bZ.aS ?_) (AH.le_refl _) fun x hi Q again out=>?_
  ·simp -dsimp(maxSteps:=4000000) only[bM,bC,dJ,bD,go_sem]
  obtain⟨i,j,M⟩:=x
  dsimp only at hi again ⊢
  have hij:=hi.ij
  have hjl:=hi.jl
  have hMl:=hi.len
  by_cases h:(j:Int)<L.length
  ·obtain⟨x,hx⟩:=get_some (l:=L) (i:=j) (by omega)
   have hmx:=hi.get hx
   have hS2:bG (B.add b (.cells (M.map dN).flatten 85 bs)) 2 (some ⟨b,0,none⟩) cap (M.map dN):=bG.own (rV _) (by rw[List.length_map];omega) (by rw[List.length_map];omega)
   have hrow:=hS2.row b 0 rfl j _ (dn (f:=dN) hmx)
   rw[Nat.zero_add,fO]at hrow
   have ej:=dA (i:=j) (by omega)
   have ei:=dA (i:=i) (by omega)
   simp -dsimp(maxSteps:=4000000) only[h,hrow,fO,bM,bC,dJ,bD,go_sem]
   refine bY.mk fun b7 jM=>?_
   have hn7:¬ b7=b:=jM.cO (aH _ _ _)
   have hr7:¬ b=b7:=fun e=>hn7 e.symm
   simp -dsimp(maxSteps:=4000000) only[hn7,hr7,hok,bM,bC,dJ,bD,go_sem]
   refine(hff x _).mono ?_;rintro _ _ ⟨rfl,rfl⟩
   cases hp:p x with
   |true=>
    simp -dsimp(maxSteps:=4000000) only[ej,bM,bC,dJ,bD,go_sem]
    exact again (i,j+1,M) _ _ (hi.drop hx hp) (bZ.aS (by simp -dsimp(maxSteps:=4000000) only[bM,bC,dJ,bD,go_sem])) (AH.aK (AH.le_refl _) jM.2) (by simp only;omega)
   |false=>
    have hil:(i:Int)<L.length:=by omega
    have hfl:(M.map dN).flatten.length=L.length*2:=by rw[nO,hMl]
    have k2:i*2+2≤L.length*2:=by omega
    have k3:L.length*2≤bs:=by omega
    have hput:iO (M.map dN).flatten (i*2) (dN x)=((M.set i x).map dN).flatten:=by
     rw[jW (rV M) i (dN x) (by rw[List.length_map];omega) rfl,List.map_set]
    simp -dsimp(maxSteps:=4000000) only[hn7,hr7,hil,hfl,k2,k3,hput,ei,ej,bM,bC,dJ,bD,go_sem]
    exact again (i+1,j+1,M.set i x) _ _ (hi.keep hx hp) (bZ.aS (by simp -dsimp(maxSteps:=4000000) only[bM,bC,dJ,bD,go_sem])) (AH.aK (AH.le_refl _) (by rw[aN _ hr7,←aN _ hr7 (k:=.cells (M.map dN).flatten 85 bs)];exact(by rw[aN _ hr7];have:=jM.2;rw[aN _ hr7]at this;exact this))) (by simp only;omega)
  ·obtain rfl:j=L.length:=by omega
   have hfr2:=hi.front
   have hcn:=hi.cnt
   rw[List.take_length]at hfr2 hcn
   have hile:(i:Int)≤L.length:=by omega
   have Yv:(i:Int)≤cap:=by omega
   have hne:¬ cap=i:=by omega
   have hfl:(M.map dN).flatten.length=L.length*2:=by rw[nO,hMl]
   simp -dsimp(maxSteps:=4000000) only[h,bM,bC,dJ,bD,go_sem]
   refine out _ _ _ (by simp) ?_
   have Yk:(zf [Value.int .i64 0,.int .i64 0] ((L.length - i)*2)).length=(L.length - i)*2:=by rw[zfP,nO,List.length_replicate]
   have hZs:(zf [Value.int .i64 0,.int .i64 0] ((L.length - i)*2)).all iM=true:=by rw[zfP];exact J4 _
   simp -dsimp(maxSteps:=4000000) only[hile,Yv,hne,bM,bC,dJ,bD,go_sem]
   refine UJ.row (n:=L.length - i) rfl uQ (by omega) (by rw[xJ,if_pos ⟨by rw[Yk,hfl];omega,by omega,hZs⟩]) rfl ?_
   simp -dsimp(maxSteps:=4000000) only[Yv,ite_self,Nat.sub_zero,bM,bC,dJ,bD,go_sem]
   refine⟨_,AH.le_refl _,by rw[hcn],zf [Value.int .i64 0,.int .i64 0] ((L.length - i)*2)++(M.map dN).flatten.drop (i*2+(zf [Value.int .i64 0,.int .i64 0] ((L.length - i)*2)).length),?_⟩
   rw[vS _ _ _ (by rw[Yk,hfl];omega),List.append_assoc]
   congr 3
   rw[←hfr2]
   have e1:(M.map dN).flatten=((M.take i).map dN).flatten++((M.drop i).map dN).flatten:=by
    rw[←List.flatten_append,←List.map_append,List.take_append_drop]
   rw[e1,List.take_append_of_le_length (by rw[nO,List.length_take];omega),List.take_of_length_le (by rw[nO,List.length_take];omega)]
end Go.Proofs.YtbhamhhjicehaaaGreatDoor.lV
/- wire.Join: spans, joined. -/
namespace Go.Proofs.YtbhamhhjicehaaaGreatDoor.lV
open Go Go.AX Go.Proofs Ty Go.Proofs.YtbhamhhjicehaaaGreatDoor.kK Go.Proofs.YtbhamhhjicehaaaGreatDoor.wI
set_option maxRecDepth 10000
def low (X:List Sp) (t:Int):Prop:=∃ s∈X,s.1≤t∧t<s.2
structure Plain (R:List Sp):Prop where
 up:∀ s∈R,s.1<s.2
 apart:R.Pairwise fun x y=>x.2<y.1
theorem lW {a:Sp} {R:List Sp} (h:Plain (a::R)):a.1<a.2∧(∀ s∈R,a.2<s.1)∧Plain R:=
 ⟨h.up a (List.mem_cons_self ..),(List.pairwise_cons.1 h.apart).1,⟨fun s hs=>h.up s (List.mem_cons_of_mem _ hs),(List.pairwise_cons.1 h.apart).2⟩⟩
theorem J5 {a:Sp} {R:List Sp} (h:Plain (a::R)) {t:Int} (ht:low (a::R) t):a.1≤t:=by
 obtain⟨s,hs,h1,h2⟩:=ht
 obtain⟨p1,p2,p3⟩:=lW h
 rcases List.mem_cons.1 hs with rfl | hs
 ·exact h1
 ·have:=p2 s hs;omega
theorem FV {a:Sp} {R:List Sp} (h:Plain (a::R)):¬ low (a::R) a.2:=by
 rintro⟨s,hs,h1,h2⟩
 obtain⟨p1,p2,p3⟩:=lW h
 rcases List.mem_cons.1 hs with rfl | hs
 ·omega
 ·have:=p2 s hs;omega
theorem J6 (a:Sp) (R:List Sp) (t:Int):low (a::R) t↔(a.1≤t∧t<a.2)∨low R t:=by simp[low]
theorem oZ (X Y:List Sp) (t:Int):low (X++Y) t↔low X t∨low Y t:=by
 simp only[low,List.mem_append]
 constructor
 ·rintro⟨s,h | h,h2⟩
  ·exact .inl ⟨s,h,h2⟩
  ·exact .inr ⟨s,h,h2⟩
 ·rintro(⟨s,h,h2⟩ | ⟨s,h,h2⟩)
  ·exact⟨s,.inl h,h2⟩
  ·exact⟨s,.inr h,h2⟩
theorem D8 {a:Sp} {R:List Sp} (h:Plain (a::R)) (t:Int):low R t↔low (a::R) t∧a.2≤t:=by
 obtain⟨p1,p2,p3⟩:=lW h
 rw[J6]
 constructor
 ·rintro⟨s,hs,h1,h2⟩
  have:=p2 s hs
  exact⟨.inr ⟨s,hs,h1,h2⟩,by omega⟩
 ·rintro⟨h1 | h1,h2⟩
  ·omega
  ·exact h1
theorem qx:∀ {R S:List Sp},Plain R→Plain S→(∀ t,low R t↔low S t)→R=S
 | [],[],_,_,_=>rfl
 | [],b::S,_,hS,h=>by
  have:=lW hS
  exact absurd ((h b.1).2 ⟨b,List.mem_cons_self ..,Int.le_refl _,this.1⟩) (fun⟨s,hs,_⟩=>by cases hs)
 |a::R,[],hR,_,h=>by
  have:=lW hR
  exact absurd ((h a.1).1 ⟨a,List.mem_cons_self ..,Int.le_refl _,this.1⟩) (fun⟨s,hs,_⟩=>by cases hs)
 |a::R,b::S,hR,hS,h=>by
  have pa:=lW hR
  have pb:=lW hS
  have h1:a.1=b.1:=by
   have h2:=J5 hS ((h a.1).1 ⟨a,List.mem_cons_self ..,Int.le_refl _,pa.1⟩)
   have h3:=J5 hR ((h b.1).2 ⟨b,List.mem_cons_self ..,Int.le_refl _,pb.1⟩)
   omega
  have h2:a.2=b.2:=by
   rcases Int.lt_trichotomy a.2 b.2 with h4 | h4 | h4
   ·exact absurd ((h a.2).2 ⟨b,List.mem_cons_self ..,by omega,h4⟩) (FV hR)
   ·exact h4
   ·exact absurd ((h b.2).1 ⟨a,List.mem_cons_self ..,by omega,h4⟩) (FV hS)
  have hab:a=b:=Prod.ext h1 h2
  subst hab
  rw[qx pa.2.2 pb.2.2 fun t=>by rw[D8 hR,D8 hS,h t]]
def UO (R:List Sp) (s:Sp):List Sp:=match R.getLast? with
 |none=>[s]
 |some l=>if s.1≤l.2 then R.dropLast++[(l.1,if s.2>l.2 then s.2 else l.2)] else R++[s]
structure Mrg (P R:List Sp):Prop where
 plain:Plain R
 same:∀ t,low R t↔low P t
 from_:∀ x∈R,∃ y∈P,x.1=y.1
theorem y9 (R:List Sp) (l s:Sp):UO (R++[l]) s=if s.1≤l.2 then R++[(l.1,if s.2>l.2 then s.2 else l.2)] else R++[l]++[s]:=by
 simp[UO]
theorem Mrg.step {P R:List Sp} {s:Sp} (h:Mrg P R) (hs:s.1<s.2) (hge:∀ y∈P,y.1≤s.1):Mrg (P++[s]) (UO R s):=by
 rcases List.eq_nil_or_concat R with rfl | ⟨R,l,rfl⟩
 ·have e:UO [] s=[s]:=rfl
  rw[e]
  refine⟨⟨fun x hx=>?_,by simp⟩,fun t=>?_,fun x hx=>?_⟩
  ·simp at hx;subst hx;exact hs
  ·rw[oZ,←h.same]
   constructor
   ·exact .inr
   ·rintro(⟨x,hx,_⟩ | h2)
    ·cases hx
    ·exact h2
  ·simp at hx;subst hx;exact⟨x,by simp,rfl⟩
 ·rw[List.concat_eq_append]at h ⊢
  have hl:l.1<l.2:=h.plain.up l (by simp)
  have hls:l.1≤s.1:=by
   obtain⟨y,hy,e⟩:=h.from_ l (by simp)
   rw[e];exact hge y hy
  have hpw:=List.pairwise_append.1 h.plain.apart
  rw[y9]
  split
  ·rename_i hm
   generalize hmx:(if s.2>l.2 then s.2 else l.2)=m
   have hm1:l.2≤m∧s.2≤m∧(m=l.2∨m=s.2):=by subst hmx;split<;>omega
   refine⟨⟨fun x hx=>?_,?_⟩,fun t=>?_,fun x hx=>?_⟩
   ·rcases List.mem_append.1 hx with hx | hx
    ·exact h.plain.up x (by simp[hx])
    ·simp at hx;subst hx;show l.1<m;omega
   ·rw[List.pairwise_append]
    refine⟨hpw.1,by simp,fun x hx y hy=>?_⟩
    simp at hy;subst hy
    exact hpw.2.2 x hx l (by simp)
   ·rw[oZ,oZ,←h.same,oZ]
    have:low [((l.1,m):Sp)] t↔low [l] t∨low [s] t:=by
     simp only[J6]
     constructor
     ·rintro(⟨h1,h2⟩ | ⟨x,hx,_⟩)
      ·by_cases h3:t<l.2
       ·exact .inl (.inl ⟨h1,h3⟩)
       ·exact .inr (.inl ⟨by omega,by omega⟩)
      ·cases hx
     ·rintro((⟨h1,h2⟩ | ⟨x,hx,_⟩) | (⟨h1,h2⟩ | ⟨x,hx,_⟩))
      ·exact .inl ⟨by omega,by omega⟩
      ·cases hx
      ·exact .inl ⟨by omega,by omega⟩
      ·cases hx
    rw[this,or_assoc]
   ·rcases List.mem_append.1 hx with hx | hx
    ·obtain⟨y,hy,e⟩:=h.from_ x (by simp[hx])
     exact⟨y,by simp[hy],e⟩
    ·simp at hx;subst hx
     obtain⟨y,hy,e⟩:=h.from_ l (by simp)
     exact⟨y,by simp[hy],e⟩
  ·rename_i hm
   refine⟨⟨fun x hx=>?_,?_⟩,fun t=>?_,fun x hx=>?_⟩
   ·rcases List.mem_append.1 hx with hx | hx
    ·exact h.plain.up x hx
    ·simp at hx;subst hx;exact hs
   ·rw[List.pairwise_append]
    refine⟨h.plain.apart,by simp,fun x hx y hy=>?_⟩
    simp at hy;subst hy
    rcases List.mem_append.1 hx with hx | hx
    ·have h1:=hpw.2.2 x hx l (by simp)
     omega
    ·simp at hx;subst hx;omega
   ·rw[oZ (R++[l]),oZ P,h.same]
   ·rcases List.mem_append.1 hx with hx | hx
    ·obtain⟨y,hy,e⟩:=h.from_ x hx
     exact⟨y,by simp[hy],e⟩
    ·simp at hx;subst hx;exact⟨x,by simp,rfl⟩
structure jZ (X R:List Sp):Prop where
 plain:Plain R
 same:∀ t,low R t↔low X t
 small:R.length≤X.length
 ends:∀ s∈R,(∃ y∈X,s.1=y.1)∧∃ y∈X,s.2=y.2
theorem jZ.uniq {X Y R S:List Sp} (h:jZ X R) (k:jZ Y S) (hs:∀ t,low X t↔low Y t):R=S:=
 qx h.plain k.plain fun t=>by rw[h.same,k.same,hs]
def ku (S:List Sp) (i:Nat):List Sp:=(S.take i).foldl UO []
theorem wE {S:List Sp} {i:Nat} {s:Sp} (h:S[i]?=some s):ku S (i+1)=UO (ku S i) s:=by
 rw[ku,List.take_add_one,h];simp[ku,List.foldl_append]
theorem Xp (R:List Sp) (s:Sp):(UO R s).length≤R.length+1:=by
 rcases List.eq_nil_or_concat R with rfl | ⟨R,l,rfl⟩
 ·simp[UO]
 ·rw[List.concat_eq_append,y9];split<;>simp
theorem zh {S:List Sp}:∀ (i:Nat),i≤S.length→(ku S i).length≤i
 |0,_=>by simp[ku]
 |i+1,h=>by
  obtain⟨s,hs⟩:=get_some (l:=S) (i:=i) (by omega)
  rw[wE hs]
  have:=Xp (ku S i) s
  have:=zh (S:=S) i (by omega)
  omega
theorem J7 {S:List Sp} (hup:∀ s∈S,s.1<s.2) (hso:S.Pairwise fun x y=>x.1≤y.1):∀ i,i≤S.length→Mrg (S.take i) (ku S i)
 |0,_=>⟨⟨fun s h=>by simp[ku]at h,by simp[ku]⟩,fun t=>by simp[ku],fun x h=>by simp[ku]at h⟩
 |i+1,h=>by
  obtain⟨s,hs⟩:=get_some (l:=S) (i:=i) (by omega)
  rw[wE hs,List.take_add_one,hs]
  refine(J7 hup hso i (by omega)).step (hup s (List.mem_of_getElem? hs)) fun y hy=>?_
  obtain⟨j,hj⟩:=List.mem_iff_getElem?.1 hy
  rw[List.getElem?_take]at hj
  split at hj
  ·rename_i hji
   have h1:=dG hs
   have h2:=dG hj
   have:=List.pairwise_iff_getElem.1 hso j i h2 h1 hji
   rw[List.getElem?_eq_getElem h2]at hj
   rw[List.getElem?_eq_getElem h1]at hs
   cases hj;cases hs;exact this
  ·cases hj
theorem aaf {R P:List Sp} {s:Sp} (h:∀ x∈R,∃ y∈P,x.2=y.2):∀ x∈UO R s,∃ y∈P++[s],x.2=y.2:=by
 intro x hx
 rcases List.eq_nil_or_concat R with rfl | ⟨R,l,rfl⟩
 ·simp[UO]at hx;subst hx;exact⟨x,by simp,rfl⟩
 ·rw[List.concat_eq_append]at h hx
  rw[y9]at hx
  have hl:=h l (by simp)
  obtain⟨y,hy,e⟩:=hl
  split at hx
  ·rcases List.mem_append.1 hx with hx | hx
   ·obtain⟨y,hy,e⟩:=h x (by simp[hx]);exact⟨y,by simp[hy],e⟩
   ·simp at hx;subst hx
    simp only
    split
    ·exact⟨s,by simp,rfl⟩
    ·exact⟨y,by simp[hy],e⟩
  ·rcases List.mem_append.1 hx with hx | hx
   ·obtain⟨y,hy,e⟩:=h x hx;exact⟨y,by simp[hy],e⟩
   ·simp at hx;subst hx;exact⟨x,by simp,rfl⟩
theorem Oz {S:List Sp}:∀ (i:Nat),i≤S.length→∀ x∈ku S i,∃ y∈S.take i,x.2=y.2
 |0,_,x,hx=>by simp[ku]at hx
 |i+1,h,x,hx=>by
  obtain⟨s,hs⟩:=get_some (l:=S) (i:=i) (by omega)
  rw[wE hs]at hx
  rw[List.take_add_one,hs]
  exact aaf (Oz i (by omega)) x hx
def up (s:Sp):Bool:=decide (s.2≤s.1)
theorem Xq {X S:List Sp} (hp:S.Perm (X.filter fun x=>!up x)) (hso:S.Pairwise fun x y=>x.1≤y.1):jZ X (ku S S.length):=by
 have hmem:∀ s,s∈S↔s∈X∧s.1<s.2:=fun s=>by
  rw[hp.mem_iff,List.mem_filter];simp[up]
 have hup:∀ s∈S,s.1<s.2:=fun s hs=>((hmem s).1 hs).2
 have hm:=J7 hup hso S.length (Nat.le_refl _)
 rw[List.take_length]at hm
 refine⟨hm.plain,fun t=>?_,?_,fun s hs=>⟨?_,?_⟩⟩
 ·rw[hm.same]
  constructor
  ·rintro⟨s,hs,h1⟩;exact⟨s,((hmem s).1 hs).1,h1⟩
  ·rintro⟨s,hs,h1,h2⟩;exact⟨s,(hmem s).2 ⟨hs,by omega⟩,h1,h2⟩
 ·have h1:=zh (S:=S) S.length (Nat.le_refl _)
  have h2:=hp.length_eq
  have h3:=List.length_filter_le (fun x=>!up x) X
  omega
 ·obtain⟨y,hy,e⟩:=hm.from_ s hs
  exact⟨y,((hmem y).1 hy).1,e⟩
 ·obtain⟨y,hy,e⟩:=Oz S.length (Nat.le_refl _) s hs
  rw[List.take_length]at hy
  exact⟨y,((hmem y).1 hy).1,e⟩
end Go.Proofs.YtbhamhhjicehaaaGreatDoor.lV
/- wire.Join: what it comes to. -/
namespace Go.Proofs.YtbhamhhjicehaaaGreatDoor.lV
open Go Go.AX Go.Proofs Ty Go.Proofs.YtbhamhhjicehaaaGreatDoor.kK Go.Proofs.YtbhamhhjicehaaaGreatDoor.wI
set_option maxRecDepth 10000
theorem ahB (x:Sp) (H:AH):aO Tryz.prog 71 ([]++[Value.agg (dN x).toArray]++([]:List Value)).toArray H (fun v H'=>v=.bool (up x)∧H=H'):=by
 obtain⟨a,b⟩:=x
 show aO _ _ #[.agg #[.int .i64 a,.int .i64 b]] _ _
 refine aO.cu Tryz.func71 rfl Tryz.ntmps71 Tryz.results71 (by simp) ?_;simp -dsimp(maxSteps:=4000000) only[go_sem]
 refine bY.mk fun b1 iy=>?_;have aP:=iy;(try simp only[ah,aj,ne_eq]at aP);have aY:=aP;(try simp only[@eq_comm Nat b1]at aY);simp -dsimp(maxSteps:=4000000) only[aP,aY,go_sem]
 exact⟨H,(AH.aK (AH.le_refl _) ((by simp only[ah,aj,ne_eq,aP,not_false_eq_true,and_self]:aG _ b1).2)),(by first | exact⟨rfl,rfl⟩ | rfl)⟩
theorem _root_.Go.AX.Keep.adx {B:AH} {b:Nat} {k k':iD}:Keep (B.add b k) (B.add b k') (·=b):=⟨rfl,fun b' hb _=>by rw[dh,dh,if_neg hb,if_neg hb]⟩
theorem qV (a b:Int):dN (a,b)=[.int .i64 a,.int .i64 b]:=rfl
theorem Uc (T:List Ls) (base:Option Addr) (cap:Nat) (H:AH) (hT:TY H base cap T) (hb:(tot T T.length).length<100000) :
  aO Tryz.prog 34 #[.slice base T.length cap] H (fun v H'=>∃ R b c,v=.slice b R.length c∧jZ (tot T T.length) R∧bG H' 2 b c (R.map dN)∧Keep H H' fun _=>False):=by
 generalize hX:tot T T.length=X at hb
 refine aO.cu Tryz.func34 rfl Tryz.ntmps34 Tryz.results34 (by simp) ?_;simp -dsimp(maxSteps:=4000000) only[bM,bC,dJ,bD,go_sem]
 refine(Ub T base cap H hT (by rw[hX];omega)).mono ?_;rintro _ A1 ⟨b1,c1,rfl,Bh,hK1⟩
 rw[hX]at Bh ⊢
 simp -dsimp(maxSteps:=4000000) only[bM,bC,dJ,bD,go_sem]
 refine(H6 (p:=up) (fid:=71) Bh rfl (by kernel_rfl) ahB).mono ?_;rintro _ A2 ⟨rfl,hO2,hK2⟩
 have ady:=hK1.ow hK2 fun b ⟨a,ha,e⟩=>e▸Bh.fresh a ha
 have hlf:(X.filter fun x=>!up x).length≤X.length:=List.length_filter_le _ _
 simp -dsimp(maxSteps:=4000000) only[bM,bC,dJ,bD,go_sem]
 refine(aac hO2 rfl (by omega)).mono ?_;rintro _ A3 ⟨rfl,S,hp,hso,hO3,hK3⟩
 have hK:=ady.ow hK3 fun b ⟨a,ha,e⟩=>e▸hO2.fresh a ha
 have hJ:=Xq hp hso
 have hSl:=hp.length_eq
 rw[←hSl]
 have hS:=hO3.slc
 clear Bh hK1 hO2 hK2 ady hK3 hT hX hO3
 simp -dsimp(maxSteps:=4000000) only[bM,bC,dJ,bD,go_sem]
 refine fZ.jE (ι:=Nat×Option Addr×Nat) (fun x A=>x.1≤S.length∧fJ A3 A 85 2 x.2.1 x.2.2 ((ku S x.1).map dN)∧(Keep A3 A fun _=>False)∧(ku S x.1≠[]→∃ (B:AH) (b bs:Nat),x.2.1=some ⟨b,0,none⟩∧A=B.add b (.cells ((ku S x.1).map dN).flatten 85 bs)∧x.2.2*2≤bs∧aG A3 b))
  (fun x=>[(15,.int .i64 x.1),(14,.int .i64 S.length),(13,.slice b1 S.length c1),(4,.slice x.2.1 (ku S x.1).length x.2.2)]) (fun x=>S.length - x.1) (0,none,0) A3
  ⟨by simp,fJ.nil,Keep.refl,fun h=>(h rfl).elim⟩ (bZ.aS ?_) (AH.le_refl _) fun x A hi Q again out=>?_
 ·simp -dsimp(maxSteps:=4000000) only[bM,bC,dJ,bD,go_sem]
  rfl
 obtain⟨i,bo,co⟩:=x
 obtain⟨hi,hO,qh,hex⟩:=hi
 dsimp only at hi hO hex again ⊢
 have hml:=zh i hi
 by_cases h:(i:Int)<S.length
 ·obtain⟨s,hs⟩:=get_some (l:=S) (i:=i) (by omega)
  have KJ:=hS.keep qh fun _ _ h=>h
  obtain⟨b0,o0,rfl,hrow,_⟩:=KJ.get (dn (f:=dN) hs)
  have ee:=dA (i:=i) (by omega)
  have hst:=wE hs
  have hfin:∀ bo' co' A',fJ A3 A' 85 2 bo' co' ((ku S (i+1)).map dN)→(Keep A3 A' fun _=>False)→∃ VW,VW.le A'∧(fJ A3 VW 85 2 bo' co' ((ku S (i+1)).map dN)∧(Keep A3 VW fun _=>False)∧(ku S (i+1)≠[]→∃ (B:AH) (b bs:Nat),bo'=some ⟨b,0,none⟩∧VW=B.add b (.cells ((ku S (i+1)).map dN).flatten 85 bs)∧co'*2≤bs∧aG A3 b)):=fun bo' co' A' kJ hK'=>by
   rcases kJ.at_ with ⟨_,h0,_⟩ | ⟨b,bs,h1,h2,h3,h4⟩
   ·exact⟨A',AH.le_refl _,kJ,hK',fun hne=>absurd (List.map_eq_nil_iff.1 h0) hne⟩
   ·subst h1
    exact⟨_,Rk h2,kJ.keep (Keep.VY h2) fun _ _ h=>h,hK'.trans (Keep.VY h2),fun _=>⟨A'.del b,b,bs,rfl,rfl,h3,h4⟩⟩
  simp -dsimp(maxSteps:=4000000) only[h,hrow,bM,bC,dJ,bD,go_sem]
  refine bY.mk fun b6 jL=>?_
  obtain⟨s1,s2⟩:=s
  by_cases hne:ku S i=[]
  ·have e0:(ku S i).length=0:=by rw[hne];rfl
   have hn0:¬ (0:Int)<((ku S i).length:Int):=by omega
   simp -dsimp(maxSteps:=4000000) only[bM,bC,dJ,bD,go_sem]
   refine fZ.gen [.pu,.pu,.pu,.pu,.pu,.pu,.pu,.pu,.rd,.pu,.rd,.pu,.pu] [0,1,3,7,7,23,63,127,255,7,519,2047,4095] 0 (_) mixed (by kernel_rfl) (AH.le_refl _) ?_
   simp -dsimp(maxSteps:=4000000) only[hn0,qV,bM,bC,dJ,bD,go_sem]
   refine bY.mk fun b50 D9=>?_
   simp -dsimp(maxSteps:=4000000) only[bM,bC,dJ,bD,go_sem]
   refine lS.nD (x:=.slice (some ⟨b50,0,none⟩) 1 1) (R':=[dN (s1,s2)]) (m:=1) ((hO.added jL).added D9) ((qh.nw jL).nw D9).all uQ rfl (by decide) (by rw[Tryz.underlying36];rfl) (by simp) rfl rfl (by rw[iF,fO];rfl) (by simp[dN]) (by simp[dN,iM]) (by omega) fun gV cap2 A' kJ hK' hN'=>?_
   refine⟨_,AH.le_refl _,?_⟩
   simp -dsimp(maxSteps:=4000000) only[ee,bM,bC,dJ,bD,go_sem]
   have hK2:=((qh.nw jL).nw D9).ow hK' fun b ⟨a,ha,e⟩=>e▸hO.fresh a ha
   have he:(ku S i).map dN++[dN (s1,s2)]=(ku S (i+1)).map dN:=by rw[hst,hne];rfl
   rw[he]at kJ
   obtain⟨VW,hle,hV1,hV2,hV3⟩:=hfin gV cap2 A' kJ hK2
   refine again (i+1,gV,cap2) _ _ _ ⟨by simp only;omega,hV1,hV2,hV3⟩ (bZ.aS ?_) hle (by simp only;omega)
   have hl1:(ku S (i+1)).length=(ku S i).length+1:=by rw[hst,hne];rfl
   rw[hl1]
   simp -dsimp(maxSteps:=4000000) only[bM,bC,dJ,bD,go_sem]
  ·obtain⟨B,b,bs,rfl,rfl,hbs,hfr⟩:=hex hne
   obtain⟨R,l,hRl⟩:∃ R l,ku S i=R++[l]:=by
    rcases List.eq_nil_or_concat (ku S i) with h | ⟨R,l,h⟩
    ·exact absurd h hne
    ·exact⟨R,l,by rw[h,List.concat_eq_append]⟩
   rw[hRl]at hO hml hne hst hrow ⊢
   obtain⟨l1,l2⟩:=l
   have hn6:¬ b6=b:=by rw[hRl]at jL;exact jL.cO (aH _ _ _)
   have hr6:¬ b=b6:=fun e=>hn6 e.symm
   have hlen:(R++[(l1,l2)]).length=R.length+1:=by simp
   have hle:=hO.le
   rw[List.length_map,hlen]at hle
   have hn0:(0:Int)<((R.length+1:Nat):Int):=by omega
   have em:IntKind.i64.wrap (((R.length+1:Nat):Int) - 1)=(R.length:Int):=by rw[eH (by omega) (by omega)];omega
   have h0:(0:Int)≤(R.length:Int):=by omega
   have h1:(R.length:Int)<((R.length+1:Nat):Int):=by omega
   have hS2:bG (B.add b (.cells ((R++[(l1,l2)]).map dN).flatten 85 bs)) 2 (some ⟨b,0,none⟩) co ((R++[(l1,l2)]).map dN):=bG.own (rV _) (by rw[List.length_map,hlen];omega) (by rw[List.length_map,hlen];omega)
   have hlast:(R++[(l1,l2)])[R.length]?=some (l1,l2):=by simp
   have q1:=hS2.rd b 0 rfl R.length 1 _ _ (dn (f:=dN) hlast) rfl
   rw[Nat.zero_add,gZ]at q1
   rw[hlen]
   simp -dsimp(maxSteps:=4000000) only[bM,bC,dJ,bD,go_sem]
   refine fZ.gen [.pu,.pu,.pu,.pu,.pu,.pu,.pu,.pu,.rd,.pu,.rd,.pu,.pu] [0,1,3,7,7,23,63,127,255,7,519,2047,4095] 0 (_) mixed (by kernel_rfl) (AH.le_refl _) ?_
   rw[y9]at hst
   by_cases hm:s1≤l2
   ·rw[if_pos hm]at hst
    generalize hmx:(if s2>l2 then s2 else l2)=m at hst
    have hfl:((R++[(l1,l2)]).map dN).flatten.length=(R.length+1)*2:=by rw[nO,hlen]
    have hset:((R++[(l1,l2)]).map dN).flatten.set (R.length*2+1) (.int .i64 m)=((R++[(l1,m)]).map dN).flatten:=by
     rw[IY (rV _) R.length 1 (dN (l1,l2)) _ (dn hlast) (by omega),←show dN (l1,m)=(dN (l1,l2)).set 1 (.int .i64 m) from rfl,←List.map_set]
     congr 2
     rw[List.set_append_right _ _ (by omega),Nat.sub_self];rfl
    have k2:R.length*2+1+1≤(R.length+1)*2:=by omega
    have k3:(R.length+1)*2≤bs:=by omega
    simp -dsimp(maxSteps:=4000000) only[hn0,em,h0,h1,q1,hn6,hr6,qV,hm,bM,bC,dJ,bD,go_sem]
    refine fZ.gen [.pu,.pu,.pu,.pu,.pu,.pu,.pu,.pu,.rd,.pu,.rd,.pu,.pu,.pu,.ch] [0,0,2,0,0,16,56,120,248,0,512,2040,4095,8191,16383] 0 (_) mixed (by kernel_rfl) (AH.le_refl _) ?_
    simp -dsimp(maxSteps:=4000000) only[em,h0,h1,q1,hn6,hr6,qV,hmx,AH.le_refl,hfl,k2,k3,hset,ee,bM,bC,dJ,bD,go_sem]
    have hst':(ku S (i+1))=R++[(l1,m)]:=hst
    have amd:=zh (i+1) (show i+1≤S.length by omega)
    have kJ:fJ A3 (B.add b (.cells ((R++[(l1,m)]).map dN).flatten 85 bs)) 85 2 (some ⟨b,0,none⟩) co ((R++[(l1,m)]).map dN):=
     ⟨rV _,by rw[List.length_map];simp;omega,by rw[List.length_map];simp;omega,.inr ⟨b,bs,rfl,aH _ _ _,hbs,hfr⟩⟩
    refine again (i+1,some ⟨b,0,none⟩,co) _ (B.add b (.cells ((R++[(l1,m)]).map dN).flatten 85 bs)) _ ⟨by simp only;omega,by simp only[hst'];exact kJ,qh.ow Keep.adx fun b' e=>e▸hfr,fun _=>⟨B,b,bs,rfl,by simp only[hst'],hbs,hfr⟩⟩ (bZ.aS ?_) (AH.aK (AH.le_refl _) ?_) (by simp only;omega)
    ·rw[hst']
     simp -dsimp(maxSteps:=4000000) only[List.length_append,bM,bC,dJ,bD,go_sem]
    ·have h2:=jL.2
     rw[aN _ hr6]at h2 ⊢
     exact h2
   ·rw[if_neg hm]at hst
    simp -dsimp(maxSteps:=4000000) only[hn0,em,h0,h1,q1,hn6,hr6,qV,hm,bM,bC,dJ,bD,go_sem]
    refine bY.mk fun b50 D9=>?_
    simp -dsimp(maxSteps:=4000000) only[bM,bC,dJ,bD,go_sem]
    rw[hRl]at jL qh
    refine lS.nD (x:=.slice (some ⟨b50,0,none⟩) 1 1) (R':=[dN (s1,s2)]) (m:=1) ((hO.added jL).added D9) ((qh.nw jL).nw D9).all uQ rfl (by decide) (by rw[Tryz.underlying36];rfl) (by simp) rfl rfl (by rw[iF,fO];rfl) (by simp[dN]) (by simp[dN,iM]) (by omega) fun gV cap2 A' kJ hK' hN'=>?_
    refine⟨_,AH.le_refl _,?_⟩
    simp -dsimp(maxSteps:=4000000) only[ee,bM,bC,dJ,bD,go_sem]
    have hK2:=((qh.nw jL).nw D9).ow hK' fun b ⟨a,ha,e⟩=>e▸hO.fresh a ha
    have he:(R++[(l1,l2)]).map dN++[dN (s1,s2)]=(ku S (i+1)).map dN:=by rw[hst,List.map_append (l₁:=R++[(l1,l2)])];rfl
    rw[he]at kJ
    obtain⟨VW,hle2,hV1,hV2,hV3⟩:=hfin gV cap2 A' kJ hK2
    refine again (i+1,gV,cap2) _ _ _ ⟨by simp only;omega,hV1,hV2,hV3⟩ (bZ.aS ?_) hle2 (by simp only;omega)
    have hl1:(ku S (i+1)).length=R.length+1+1:=by rw[hst];simp
    rw[hl1]
    simp -dsimp(maxSteps:=4000000) only[bM,bC,dJ,bD,go_sem]
 ·obtain rfl:i=S.length:=by omega
  simp -dsimp(maxSteps:=4000000) only[h,bM,bC,dJ,bD,go_sem]
  refine out _ _ _ (by simp) ?_
  simp -dsimp(maxSteps:=4000000) only[bM,bC,dJ,bD,go_sem]
  have hle:=hO.le
  rw[List.length_map]at hle
  refine(GL hle _).mono ?_;rintro _ _ ⟨rfl,rfl⟩
  simp -dsimp(maxSteps:=4000000) only[bM,bC,dJ,bD,go_sem]
  exact⟨A,AH.le_refl _,ku S S.length,bo,(ku S S.length).length,rfl,hJ,hO.slc.X3 (by rw[List.length_map];exact Nat.le_refl _),hK.trans qh⟩
end Go.Proofs.YtbhamhhjicehaaaGreatDoor.lV
/- wire: Low, High, Meet, Same, few, near. -/
namespace Go.Proofs.YtbhamhhjicehaaaGreatDoor.lV
open Go Go.AX Go.Proofs Ty Go.Proofs.YtbhamhhjicehaaaGreatDoor.kK Go.Proofs.YtbhamhhjicehaaaGreatDoor.wI
set_option maxRecDepth 10000
def zi (t:Int) (s:Sp):Bool:=decide (s.1≤t)&&decide (t<s.2)
def tC (X:List Sp) (t:Int):Bool:=X.any (zi t)
theorem Ea {X:List Sp} {t:Int}:tC X t=true↔low X t:=by
 simp[tC,low,zi,List.any_eq_true]
theorem Eb {X:List Sp} {t:Int}:tC X t=false↔¬ low X t:=by
 rw[←Ea];simp
theorem vI (L:List Sp) (t:Int) (base:Option Addr) (cap:Nat) (H:AH) (hs:bG H 2 base cap (L.map dN)) :
  aO Tryz.prog 94 #[.slice base L.length cap,.int .i64 t] H (fun v H'=>v=.bool (tC L t)∧H=H'):=by
 have hbig:=hs.big
 simp only[List.length_map]at hbig
 refine aO.cu Tryz.func94 rfl Tryz.ntmps94 Tryz.results94 (by simp) ?_;simp -dsimp(maxSteps:=4000000) only[go_sem]
 refine fZ.gQ (ι:=Nat) (fun i=>i≤L.length∧∀ j,j<i→∀ s,L[j]?=some s→zi t s=false) (fun i=>[(5,.int .i64 i),(0,.slice base L.length cap),(1,.int .i64 t)])
  (fun _=>H) (fun i=>L.length - i) 0 ⟨by omega,fun j hj=>by omega⟩ (bZ.aS ?_) (AH.le_refl _) fun i hi Q again out=>?_
 ·simp -dsimp(maxSteps:=4000000) only[go_sem]
 obtain⟨hi,hall⟩:=hi
 by_cases h:(i:Int)<L.length
 ·obtain⟨⟨x,y⟩,hx⟩:=get_some (l:=L) (i:=i) (by omega)
  obtain⟨b,o,rfl,hrow,hrd⟩:=hs.get (dn (f:=dN) hx)
  have r0:=hrd 0 _ rfl
  have r1:=hrd 1 _ rfl
  simp only[Nat.add_zero]at r0 r1
  have ee:=dA (i:=i) (by omega)
  by_cases h0:x≤t
  ·by_cases h1:t<y
   ·have e:tC L t=true:=List.any_eq_true.2 ⟨(x,y),List.mem_of_getElem? hx,by simp[zi,h0,h1]⟩
    simp -dsimp(maxSteps:=4000000) only[h,r0,r1,h0,h1,go_sem]
    refine out _ _ _ (by simp) ?_
    simp -dsimp(maxSteps:=4000000) only[go_sem]
    exact⟨H,(AH.le_refl _),(by first | exact⟨by rw[e],rfl⟩ | rfl)⟩
   ·simp -dsimp(maxSteps:=4000000) only[h,r0,r1,h0,h1,ee,go_sem]
    refine again (i+1) _ _ ⟨by omega,fun j hj m hm=>?_⟩ (bZ.aS (by simp -dsimp(maxSteps:=4000000) only[go_sem])) (AH.le_refl _) (by omega)
    by_cases hji:j=i
    ·subst hji;rw[hx]at hm;cases hm;simp[zi,h1]
    ·exact hall j (by omega) m hm
  ·simp -dsimp(maxSteps:=4000000) only[h,r0,h0,ee,go_sem]
   refine again (i+1) _ _ ⟨by omega,fun j hj m hm=>?_⟩ (bZ.aS (by simp -dsimp(maxSteps:=4000000) only[go_sem])) (AH.le_refl _) (by omega)
   by_cases hji:j=i
   ·subst hji;rw[hx]at hm;cases hm;simp[zi,h0]
   ·exact hall j (by omega) m hm
 ·have e:tC L t=false:=by
   rw[tC,List.any_eq_false]
   intro s hx
   obtain⟨j,hj⟩:=List.mem_iff_getElem?.1 hx
   rw[hall j (by have:=dG hj;omega) s hj];simp
  simp -dsimp(maxSteps:=4000000) only[h,go_sem]
  refine out _ _ _ (by simp) ?_
  simp -dsimp(maxSteps:=4000000) only[go_sem]
  exact⟨H,(AH.le_refl _),(by first | exact⟨by rw[e],rfl⟩ | rfl)⟩
theorem Xr (x:Sp) (t:Int) (b:Nat) (H:AH) (hb:H.rd ⟨b,0,none⟩=some (.int .i64 t)):aO Tryz.prog 36 ([]++[Value.agg (dN x).toArray]++[Value.pointer (some ⟨b,0,none⟩)]).toArray H (fun v H'=>v=.bool (zi t x)∧H=H'):=by
 obtain⟨x,y⟩:=x
 show aO _ _ #[.agg #[.int .i64 x,.int .i64 y],.pointer (some ⟨b,0,none⟩)] _ _
 refine aO.cu Tryz.func36 rfl Tryz.ntmps36 Tryz.results36 (by simp) ?_;simp -dsimp(maxSteps:=4000000) only[go_sem]
 refine bY.mk fun b2 nY=>?_;have dK:=nY;(try simp only[ah,aj,ne_eq]at dK);have dV:=dK;(try simp only[@eq_comm Nat b2]at dV);simp -dsimp(maxSteps:=4000000) only[dK,dV,go_sem]
 have Yw:=(aG.jq (by simp only[dK]:aG H b2) hb)
 by_cases h:x≤t
 ·simp -dsimp(maxSteps:=4000000) only[hb,Yw,h,dK,dV,go_sem]
  exact⟨H,(AH.aK (AH.le_refl _) ((by simp only[ah,aj,ne_eq,dK,not_false_eq_true,and_self]:aG _ b2).2)),(by first | exact⟨by simp[zi,h],rfl⟩ | rfl)⟩
 ·simp -dsimp(maxSteps:=4000000) only[hb,Yw,h,dK,dV,go_sem]
  exact⟨H,(AH.aK (AH.le_refl _) ((by simp only[ah,aj,ne_eq,dK,not_false_eq_true,and_self]:aG _ b2).2)),(by first | exact⟨by simp[zi,h],rfl⟩ | rfl)⟩
theorem aag (L:List Sp) (t:Int) (base:Option Addr) (cap:Nat) (H:AH) (hs:bG H 2 base cap (L.map dN)) :
  aO Tryz.prog 11 #[.slice base L.length cap,.int .i64 t] H (fun v H'=>v=.bool (!tC L t)∧H=H'):=by
 refine aO.cu Tryz.func11 rfl Tryz.ntmps11 Tryz.results11 (by simp) ?_;simp -dsimp(maxSteps:=4000000) only[go_sem]
 refine bY.mk fun b3 lD=>?_;have eG:=lD;(try simp only[ah,aj,ne_eq]at eG);have fM:=eG;(try simp only[@eq_comm Nat b3]at fM);simp -dsimp(maxSteps:=4000000) only[eG,fM,go_sem]
 refine(sZ (g:=zi t) (fid:=36) (caps:=[.pointer (some ⟨b3,0,none⟩)]) (hs.add lD) rfl (by kernel_rfl) fun x _=>Xr x t b3 _ (by rw[gZ];rfl)).mono ?_;rintro _ _ ⟨rfl,rfl⟩
 simp -dsimp(maxSteps:=4000000) only[eG,fM,go_sem]
 exact⟨H,(AH.aK (AH.le_refl _) ((by simp only[ah,aj,ne_eq,eG,not_false_eq_true,and_self]:aG _ b3).2)),(by first | exact⟨rfl,rfl⟩ | rfl)⟩
theorem LX {X Y:List Sp} (b1:Option Addr) (c1:Nat) (b2:Option Addr) (c2:Nat) (H:AH) (h1:bG H 2 b1 c1 (X.map dN)) (h2:bG H 2 b2 c2 (Y.map dN)) (hXY:X=Y) :
  aO Tryz.prog 18 #[.slice b1 X.length c1,.slice b2 Y.length c2] H (fun v H'=>v=.bool true∧H=H'):=by
 subst hXY
 have hb1:=h1.big
 simp only[List.length_map]at hb1
 refine aO.cu Tryz.func18 rfl Tryz.ntmps18 Tryz.results18 (by simp) ?_;simp -dsimp(maxSteps:=4000000) only[go_sem]
 refine fZ.gQ (ι:=Nat) (fun i=>i≤X.length) (fun i=>[(5,.int .i64 i),(0,.slice b1 X.length c1),(1,.slice b2 X.length c2)])
  (fun _=>H) (fun i=>X.length - i) 0 (by omega) (bZ.aS ?_) (AH.le_refl _) fun i hi Q again out=>?_
 ·simp -dsimp(maxSteps:=4000000) only[go_sem]
 by_cases h:(i:Int)<X.length
 ·obtain⟨⟨x,y⟩,hx⟩:=get_some (l:=X) (i:=i) (by omega)
  obtain⟨b,o,rfl,hrow,_⟩:=h1.get (dn (f:=dN) hx)
  obtain⟨b',o',rfl,hrow',_⟩:=h2.get (dn (f:=dN) hx)
  have ee:=dA (i:=i) (by omega)
  simp -dsimp(maxSteps:=4000000) only[h,go_sem]
  refine fZ.gen [.pu,.pu,.pu,.rd,.pu,.pu,.pu,.rd,.pu] [0,0,3,7,0,0,48,112,255] 0 (_) mixed (by kernel_rfl) (AH.le_refl _) ?_
  simp -dsimp(maxSteps:=4000000) only[h,hrow,hrow',AH.le_refl,qV,ee,go_sem]
  exact again (i+1) _ _ (by omega) (bZ.aS (by simp -dsimp(maxSteps:=4000000) only[go_sem])) (AH.le_refl _) (by omega)
 ·simp -dsimp(maxSteps:=4000000) only[h,go_sem]
  refine out _ _ _ (by simp) ?_
  simp -dsimp(maxSteps:=4000000) only[go_sem]
  exact⟨H,(AH.le_refl _),(by first | exact⟨rfl,rfl⟩ | rfl)⟩
def H7 (s:Sp):Bool:=decide (-1099511627776≤s.1)&&decide (s.1≤1099511627776)&&decide (-1099511627776≤s.2)&&decide (s.2≤1099511627776)
end Go.Proofs.YtbhamhhjicehaaaGreatDoor.lV
/- wire's reference: Join, in plain words. -/
namespace Go.Proofs.YtbhamhhjicehaaaGreatDoor.lV
open Go Go.AX Go.Proofs Ty Go.Proofs.YtbhamhhjicehaaaGreatDoor.kK Go.Proofs.YtbhamhhjicehaaaGreatDoor.wI
set_option maxRecDepth 10000
theorem wF {p q:Sp→Bool}:∀ {X:List Sp},(∀ s∈X,p s=true→q s=true)→(∃ s∈X,q s=true∧p s=false)→X.countP p<X.countP q
 | [],_,h=>by obtain⟨s,hs,_⟩:=h;cases hs
 |x::X,h1,h2=>by
  rw[List.countP_cons,List.countP_cons]
  have hle:X.countP p≤X.countP q:=List.countP_mono_left fun s hs hp=>h1 s (List.mem_cons_of_mem _ hs) hp
  obtain⟨s,hs,hq,hp⟩:=h2
  rcases List.mem_cons.1 hs with rfl | hs
  ·rw[hq,hp];simp;omega
  ·have:=wF (X:=X) (fun s hs hp=>h1 s (List.mem_cons_of_mem _ hs) hp) ⟨s,hs,hq,hp⟩
   have h3:p x=true→q x=true:=h1 x (List.mem_cons_self ..)
   cases hp:p x with
   |true=>rw[h3 hp];simp;omega
   |false=>simp;omega
def lastTo (R:List Sp):Option Int:=R.getLast?.map (·.2)
theorem mD (R:List Sp) (l:Sp):lastTo (R++[l])=some l.2:=by simp[lastTo]
def after (E:Option Int) (s:Int):Prop:=∀ e,E=some e→e<s
def nP (E:Option Int) (s:Int):Bool:=match E with | none=>true | some e=>decide (e<s)
theorem xA {E:Option Int} {s:Int}:nP E s=true↔after E s:=by
 cases E<;>simp[nP,after]
def cand (X:List Sp) (E:Option Int) (s:Sp):Bool:=decide (s.1<s.2)&&!tC X (s.1 - 1)&&nP E s.1
theorem J8 {X:List Sp} {E:Option Int} {s:Sp}:cand X E s=true↔s.1<s.2∧¬ low X (s.1 - 1)∧after E s.1:=by
 simp only[cand,Bool.and_eq_true,decide_eq_true_eq,Bool.not_eq_true',Eb,xA,and_assoc]
theorem descend {X:List Sp} {E:Option Int} (hE:∀ e,E=some e→¬ low X e):∀ (n:Nat) (t:Int),X.countP (fun s=>decide (s.1≤t))≤n→low X t→after E t→∃ s∈X,cand X E s=true∧s.1≤t
 |0,t,hc,⟨s,hs,h1,h2⟩,_=>by
  have:0<X.countP (fun s=>decide (s.1≤t)):=List.countP_pos_iff.2 ⟨s,hs,by simpa using h1⟩
  omega
 |n+1,t,hc,⟨s,hs,h1,h2⟩,ha=>by
  have hes:after E s.1:=fun e he=>by
   rcases Int.lt_or_le e s.1 with h | h
   ·exact h
   ·have:=ha e he
    exact absurd ⟨s,hs,h,by omega⟩ (hE e he)
  by_cases hl:low X (s.1 - 1)
  ·have hlt:X.countP (fun x=>decide (x.1≤s.1 - 1))<X.countP (fun x=>decide (x.1≤t)):=
    wF (fun x _ hx=>by simp at hx ⊢;omega) ⟨s,hs,by simpa using h1,by simp;omega⟩
   obtain⟨c,hc1,hc2,hc3⟩:=descend hE n (s.1 - 1) (by omega) hl fun e he=>by
    have h3:=hes e he
    rcases Int.lt_or_le e (s.1 - 1) with h | h
    ·exact h
    ·have:e=s.1 - 1:=by omega
     exact absurd (this▸hl) (hE e he)
   exact⟨c,hc1,hc2,by omega⟩
  ·exact⟨s,hs,J8.2 ⟨by omega,hl,hes⟩,h1⟩
def better (b:Option Int) (t:Int):Bool:=match b with | none=>true | some b=>decide (t<b)
def bst (X:List Sp) (E:Option Int) (i:Nat):Option Int:=(X.take i).foldl (fun b s=>if cand X E s&&better b s.1 then some s.1 else b) none
theorem J9 {X:List Sp} {E:Option Int} {i:Nat} {s:Sp} (h:X[i]?=some s):bst X E (i+1)=if cand X E s&&better (bst X E i) s.1 then some s.1 else bst X E i:=by
 rw[bst,List.take_add_one,h];simp[bst,List.foldl_append]
theorem Ec {X:List Sp} {E:Option Int}:∀ i,i≤X.length→(bst X E i=none→∀ s∈X.take i,cand X E s=false)∧(∀ b,bst X E i=some b→(∃ s∈X,cand X E s=true∧s.1=b)∧∀ s∈X.take i,cand X E s=true→b≤s.1)
 |0,_=>⟨fun _ s hs=>by simp at hs,fun b h=>by simp[bst]at h⟩
 |i+1,hi=>by
  obtain⟨s,hs⟩:=get_some (l:=X) (i:=i) (by omega)
  obtain⟨h1,h2⟩:=Ec (X:=X) (E:=E) i (by omega)
  rw[J9 hs,List.take_add_one,hs]
  cases hb:bst X E i with
  |none=>
   have h1:=h1 hb
   cases hc:cand X E s with
   |true=>
    simp only[better,Bool.and_true,if_true]
    refine⟨fun h=>(by cases h),fun b h=>?_⟩
    cases h
    refine⟨⟨s,List.mem_of_getElem? hs,hc,rfl⟩,fun x hx hxc=>?_⟩
    rcases List.mem_append.1 hx with hx | hx
    ·rw[h1 x hx]at hxc;cases hxc
    ·simp at hx;rw[hx];exact Int.le_refl _
   |false=>
    simp only[Bool.false_and,Bool.false_eq_true,if_false]
    refine⟨fun _ x hx=>?_,fun b h=>by cases h⟩
    rcases List.mem_append.1 hx with hx | hx
    ·exact h1 x hx
    ·simp at hx;rw[hx];exact hc
  |some b0=>
   obtain⟨h3,h4⟩:=h2 b0 hb
   cases hc:cand X E s with
   |true=>
    by_cases hlt:s.1<b0
    ·simp only[better,decide_eq_true hlt,Bool.and_self,if_true]
     refine⟨fun h=>(by cases h),fun b h=>?_⟩
     cases h
     refine⟨⟨s,List.mem_of_getElem? hs,hc,rfl⟩,fun x hx hxc=>?_⟩
     rcases List.mem_append.1 hx with hx | hx
     ·have:=h4 x hx hxc;omega
     ·simp at hx;rw[hx];exact Int.le_refl _
    ·simp only[better,decide_eq_false hlt,Bool.and_false,Bool.false_eq_true,if_false]
     refine⟨fun h=>(by cases h),fun b h=>?_⟩
     cases h
     refine⟨h3,fun x hx hxc=>?_⟩
     rcases List.mem_append.1 hx with hx | hx
     ·exact h4 x hx hxc
     ·simp at hx;rw[hx];omega
   |false=>
    simp only[Bool.false_and,Bool.false_eq_true,if_false]
    refine⟨fun h=>(by cases h),fun b h=>?_⟩
    cases h
    refine⟨h3,fun x hx hxc=>?_⟩
    rcases List.mem_append.1 hx with hx | hx
    ·exact h4 x hx hxc
    ·simp at hx;rw[hx,hc]at hxc;cases hxc
structure Inv (X R:List Sp):Prop where
 plain:Plain R
 sub:∀ t,low R t→low X t
 stop:∀ e,lastTo R=some e→¬ low X e∧∀ t,t<e→low X t→low R t
 ends:∀ s∈R,(∃ y∈X,s.1=y.1)∧∃ y∈X,s.2=y.2
 cnt:R.length+X.countP (fun s=>nP (lastTo R) s.1)≤X.length
theorem Inv.start (X:List Sp):Inv X []:=
 ⟨⟨fun s h=>(by cases h),List.Pairwise.nil⟩,fun t ⟨s,h,_⟩=>(by cases h),fun e h=>by simp[lastTo]at h,fun s h=>(by cases h),by simp[List.countP_le_length]⟩
theorem MR {R:List Sp} (h:Plain R) {e:Int} (he:lastTo R=some e):∀ x∈R,x.2≤e:=by
 rcases List.eq_nil_or_concat R with rfl | ⟨R,l,rfl⟩
 ·simp[lastTo]at he
 ·rw[List.concat_eq_append]at h he ⊢
  rw[mD]at he
  cases he
  intro x hx
  rcases List.mem_append.1 hx with hx | hx
  ·have:=(List.pairwise_append.1 h.apart).2.2 x hx l (by simp)
   have:=h.up l (by simp)
   omega
  ·simp at hx;rw[hx];exact Int.le_refl _
theorem Inv.done {X R:List Sp} (h:Inv X R) (hb:bst X (lastTo R) X.length=none):jZ X R:=by
 have hn:=(Ec (X:=X) (E:=lastTo R) X.length (Nat.le_refl _)).1 hb
 rw[List.take_length]at hn
 refine⟨h.plain,fun t=>⟨h.sub t,fun ht=>?_⟩,?_,h.ends⟩
 ·by_cases ha:after (lastTo R) t
  ·obtain⟨s,hs,hc,_⟩:=descend (fun e he=>(h.stop e he).1) _ t (Nat.le_refl _) ht ha
   rw[hn s hs]at hc;cases hc
  ·have:∃ e,lastTo R=some e∧t≤e:=by
    cases hl:lastTo R with
    |none=>exact absurd (fun e he=>by rw[hl]at he;cases he) ha
    |some e=>exact⟨e,rfl,by
      rcases Int.lt_or_le e t with h2 | h2
      ·exact absurd (fun e' he'=>by rw[hl]at he';cases he';exact h2) ha
      ·exact h2⟩
   obtain⟨e,he,hte⟩:=this
   obtain⟨s1,s2⟩:=h.stop e he
   rcases Int.lt_or_le t e with h2 | h2
   ·exact s2 t h2 ht
   ·have:t=e:=by omega
    exact absurd (this▸ht) s1
 ·have:=h.cnt
  omega
theorem Inv.next {X R:List Sp} (h:Inv X R) {b to:Int} (hb:bst X (lastTo R) X.length=some b) (hlow:∀ t,b≤t→t<to→low X t) (hto:¬ low X to) (hbt:b≤to) (hend:to=b∨∃ s∈X,s.2=to) :
  Inv X (R++[(b,to)])∧X.countP (fun s=>nP (lastTo (R++[(b,to)])) s.1)<X.countP (fun s=>nP (lastTo R) s.1):=by
 obtain⟨⟨s0,hs0,hc0,hsb⟩,hmin⟩:=(Ec (X:=X) (E:=lastTo R) X.length (Nat.le_refl _)).2 b hb
 rw[List.take_length]at hmin
 obtain⟨k1,k2,k3⟩:=J8.1 hc0
 rw[hsb]at k1 k2 k3
 have hlb:low X b:=⟨s0,hs0,by omega,by omega⟩
 have hlt:b<to:=by
  rcases Int.lt_or_le b to with h1 | h1
  ·exact h1
  ·have:to=b:=by omega
   exact absurd (this▸hlb) hto
 have hcnt:X.countP (fun s=>nP (lastTo (R++[(b,to)])) s.1)<X.countP (fun s=>nP (lastTo R) s.1):=by
  refine wF (fun s hs hp=>?_) ⟨s0,hs0,xA.2 (by rw[hsb];exact k3),?_⟩
  ·rw[xA]at hp ⊢
   have h1:=hp to (mD R _)
   intro e he
   have:=k3 e he
   omega
  ·rw[mD];simp[nP];omega
 refine⟨⟨⟨fun x hx=>?_,?_⟩,fun t ht=>?_,fun e he=>?_,fun x hx=>?_,?_⟩,hcnt⟩
 ·rcases List.mem_append.1 hx with hx | hx
  ·exact h.plain.up x hx
  ·simp at hx;rw[hx];exact hlt
 ·rw[List.pairwise_append]
  refine⟨h.plain.apart,by simp,fun x hx y hy=>?_⟩
  simp at hy;rw[hy]
  cases hl:lastTo R with
  |none=>
   rcases List.eq_nil_or_concat R with h1 | ⟨R,l,h1⟩
   ·rw[h1]at hx;cases hx
   ·rw[h1,List.concat_eq_append,mD]at hl;cases hl
  |some e=>
   have h1:=MR h.plain hl x hx
   have h2:=k3 e hl
   show x.2<b
   omega
 ·rw[oZ]at ht
  rcases ht with ht | ⟨s,hs,h1,h2⟩
  ·exact h.sub t ht
  ·simp at hs;subst hs;exact hlow t h1 h2
 ·rw[mD]at he
  cases he
  refine⟨hto,fun t ht hx=>?_⟩
  rw[oZ]
  by_cases h1:b≤t
  ·exact .inr ⟨(b,to),by simp,h1,ht⟩
  ·left
   by_cases ha:after (lastTo R) t
   ·obtain⟨s,hs,hc,hst⟩:=descend (fun e he=>(h.stop e he).1) _ t (Nat.le_refl _) hx ha
    have:=hmin s hs hc
    omega
   ·cases hl:lastTo R with
    |none=>exact absurd (fun e he=>by rw[hl]at he;cases he) ha
    |some e=>
     obtain⟨s1,s2⟩:=h.stop e hl
     rcases Int.lt_trichotomy t e with h2 | h2 | h2
     ·exact s2 t h2 hx
     ·exact absurd (h2▸hx) s1
     ·exact absurd (fun e' he'=>by rw[hl]at he';cases he';exact h2) ha
 ·rcases List.mem_append.1 hx with hx | hx
  ·exact h.ends x hx
  ·simp at hx;subst hx
   refine⟨⟨s0,hs0,hsb.symm⟩,?_⟩
   rcases hend with h1 | ⟨s,hs,h1⟩
   ·omega
   ·exact⟨s,hs,h1.symm⟩
 ·have:=h.cnt
  simp only[List.length_append,List.length_singleton]
  omega
end Go.Proofs.YtbhamhhjicehaaaGreatDoor.lV
/- wire's reference: Join. -/
namespace Go.Proofs.YtbhamhhjicehaaaGreatDoor.lV
open Go Go.AX Go.Proofs Ty Go.Proofs.YtbhamhhjicehaaaGreatDoor.kK Go.Proofs.YtbhamhhjicehaaaGreatDoor.wI
set_option maxRecDepth 10000
structure Ext (X:List Sp) (b t:Int):Prop where
 le:b≤t
 low:∀ u,b≤u→u<t→low X u
 ends:t=b∨∃ s∈X,s.2=t
theorem Ext.start (X:List Sp) (b:Int):Ext X b b:=⟨Int.le_refl _,fun u h1 h2=>by omega,.inl rfl⟩
theorem Ext.step {X:List Sp} {b t:Int} (h:Ext X b t) {s:Sp} (hs:s∈X) (h1:s.1≤t) (h2:t<s.2):Ext X b s.2:=by
 have:=h.le
 refine⟨by omega,fun u hu1 hu2=>?_,.inr ⟨s,hs,rfl⟩⟩
 by_cases hu:u<t
 ·exact h.low u hu1 hu
 ·exact⟨s,hs,by omega,hu2⟩
theorem vJ {s:Sp}:H7 s=true↔-1099511627776≤s.1∧s.1≤1099511627776∧-1099511627776≤s.2∧s.2≤1099511627776:=by
 simp[H7,and_assoc]
theorem wG (X:List Sp) (base:Option Addr) (cap:Nat) (H:AH) (hs:bG H 2 base cap (X.map dN)) (hok:∀ s∈X,H7 s=true) (hb:X.length<100000) :
  aO Tryz.prog 49 #[.slice base X.length cap] H (fun v H'=>∃ R b c,v=.slice b R.length c∧jZ X R∧bG H' 2 b c (R.map dN)∧Keep H H' fun _=>False):=by
 refine aO.cu Tryz.func49 rfl Tryz.ntmps49 Tryz.results49 (by simp) ?_;simp -dsimp(maxSteps:=4000000) only[bM,bC,dJ,bD,go_sem]
 refine bY.mk fun b10 qg=>?_;have dW:=qg;(try simp only[ah,aj,ne_eq]at dW);have fF:=dW;(try simp only[@eq_comm Nat b10]at fF);simp -dsimp(maxSteps:=4000000) only[bM,bC,dJ,bD,dW,fF,go_sem]
 refine fZ.jE (ι:=List Sp×Option Addr×Nat) (fun x A=>Inv X x.1∧fJ H A 85 2 x.2.1 x.2.2 (x.1.map dN)∧Keep H A fun _=>False)
  (fun x=>[(0,.slice base X.length cap),(3,.slice x.2.1 x.1.length x.2.2)]) (fun x=>X.countP fun s=>nP (lastTo x.1) s.1) ([],some ⟨b10,0,none⟩,0) (H.add b10 (.cells [] 85 0))
  ⟨Inv.start X,fJ.new qg (AH.le_refl _) rfl rfl rfl (by simp) (by simp),Keep.add qg⟩ (bZ.aS ?_) (AH.le_refl _) fun x A hi Q again out=>?_
 ·simp -dsimp(maxSteps:=4000000) only[bM,bC,dJ,bD,dW,fF,go_sem]
 clear qg dW fF
 obtain⟨R,bo,co⟩:=x
 obtain⟨hI,hO,hK⟩:=hi
 dsimp only at hI hO again ⊢
 have hsA:=hs.keep hK fun _ _ h=>h
 have hsO:=hO.slc
 have hRl:=hI.cnt
 simp -dsimp(maxSteps:=4000000) only[bM,bC,dJ,bD,go_sem]
 refine fZ.gQ (ι:=Nat) (fun i=>i≤X.length) (fun i=>[(6,.int .i64 i),(4,.int .i64 ((bst X (lastTo R) i).getD 0)),(5,.bool (bst X (lastTo R) i).isSome),(0,.slice base X.length cap),(3,.slice bo R.length co)])
  (fun _=>A) (fun i=>X.length - i) 0 (by omega) (bZ.aS ?_) (AH.le_refl _) fun i hi Q2 gI mG=>?_
 ·simp -dsimp(maxSteps:=4000000) only[bM,bC,dJ,bD,go_sem]
  exact⟨rfl,rfl⟩
 by_cases h:(i:Int)<X.length
 ·obtain⟨⟨x,y⟩,hx⟩:=get_some (l:=X) (i:=i) (by omega)
  obtain⟨b0,o0,rfl,hrow,hrd⟩:=hsA.get (dn (f:=dN) hx)
  have r0:=hrd 0 _ rfl
  have r1:=hrd 1 _ rfl
  simp only[Nat.add_zero]at r0 r1
  have ee:=dA (i:=i) (by omega)
  have hso:=vJ.1 (hok _ (List.mem_of_getElem? hx))
  dsimp only at hso
  have em:IntKind.i64.wrap (x - 1)=x - 1:=by rw[eH (by omega) (by omega)]
  have hbs:=J9 (E:=lastTo R) hx
  have no:cand X (lastTo R) (x,y)=false→bst X (lastTo R) (i+1)=bst X (lastTo R) i:=fun h=>by rw[hbs,h];rfl
  by_cases h0:x<y
  case neg=>
   have e:=no (by simp[cand,h0])
   simp -dsimp(maxSteps:=4000000) only[h,r0,r1,h0,AH.le_refl,ee,bM,bC,dJ,bD,go_sem]
   refine gI (i+1) _ _ (by omega) (bZ.aS ?_) (AH.le_refl _) (by omega)
   rw[e]
   simp -dsimp(maxSteps:=4000000) only[bM,bC,dJ,bD,go_sem]
  simp -dsimp(maxSteps:=4000000) only[h,r0,r1,h0,em,AH.le_refl,bM,bC,dJ,bD,go_sem]
  refine(vI X (x - 1) _ cap _ hsA).mono ?_;rintro _ _ ⟨rfl,rfl⟩
  cases hl:tC X (x - 1) with
  |true=>
   have e:=no (by simp[cand,hl])
   simp -dsimp(maxSteps:=4000000) only[AH.le_refl,ee,bM,bC,dJ,bD,go_sem]
   refine gI (i+1) _ _ (by omega) (bZ.aS ?_) (AH.le_refl _) (by omega)
   rw[e]
   simp -dsimp(maxSteps:=4000000) only[bM,bC,dJ,bD,go_sem]
  |false=>
   rcases List.eq_nil_or_concat R with hR | ⟨R1,l,hR⟩
   ·have hR0:R.length=0:=by rw[hR];rfl
    have hc:cand X (lastTo R) (x,y)=true:=by simp[cand,h0,hl,hR,lastTo,nP]
    cases tH:bst X (lastTo R) i with
    |none=>
     have e:bst X (lastTo R) (i+1)=some x:=by rw[hbs,hc,tH];rfl
     simp -dsimp(maxSteps:=4000000) only[hR0,Int.ofNat_zero,tH,AH.le_refl,ee,bM,bC,dJ,bD,go_sem]
     refine gI (i+1) _ _ (by omega) (bZ.aS ?_) (AH.le_refl _) (by omega)
     rw[e]
     simp -dsimp(maxSteps:=4000000) only[hR0,Option.getD_some,Option.isSome_some,bM,bC,dJ,bD,go_sem]
    |some bb=>
     by_cases hlt:x<bb
     ·have e:bst X (lastTo R) (i+1)=some x:=by rw[hbs,hc,tH];simp[better,hlt]
      simp -dsimp(maxSteps:=4000000) only[hR0,Int.ofNat_zero,tH,hlt,Option.getD_some,Option.isSome_some,AH.le_refl,ee,bM,bC,dJ,bD,go_sem]
      refine gI (i+1) _ _ (by omega) (bZ.aS ?_) (AH.le_refl _) (by omega)
      rw[e]
      simp -dsimp(maxSteps:=4000000) only[hR0,Option.getD_some,Option.isSome_some,bM,bC,dJ,bD,go_sem]
     ·have e:bst X (lastTo R) (i+1)=some bb:=by rw[hbs,hc,tH];simp[better,hlt]
      simp -dsimp(maxSteps:=4000000) only[hR0,Int.ofNat_zero,tH,hlt,Option.getD_some,Option.isSome_some,AH.le_refl,ee,bM,bC,dJ,bD,go_sem]
      refine gI (i+1) _ _ (by omega) (bZ.aS ?_) (AH.le_refl _) (by omega)
      rw[e]
      simp -dsimp(maxSteps:=4000000) only[hR0,Option.getD_some,Option.isSome_some,bM,bC,dJ,bD,go_sem]
   ·rw[List.concat_eq_append]at hR
    obtain⟨l1,l2⟩:=l
    have hRe:lastTo R=some l2:=by rw[hR,mD]
    have hRn:¬ ((R.length:Int)=0):=by rw[hR];simp;omega
    have hlast:R[R1.length]?=some (l1,l2):=by rw[hR];simp
    have em2:IntKind.i64.wrap ((R.length:Int) - 1)=(R1.length:Int):=by rw[eH (by omega) (by omega),hR];simp
    have p0:(0:Int)≤(R1.length:Int):=by omega
    have p1:(R1.length:Int)<(R.length:Int):=by rw[hR];simp;omega
    obtain⟨bo1,oo,rfl,_,ahE⟩:=hsO.get (dn (f:=dN) hlast)
    have q1:=ahE 1 _ rfl
    by_cases hl2:l2<x
    case neg=>
     have e:=no (by simp[cand,hRe,nP,hl2])
     simp -dsimp(maxSteps:=4000000) only[hRn,em2,p0,p1,q1,hl2,AH.le_refl,ee,bM,bC,dJ,bD,go_sem]
     refine gI (i+1) _ _ (by omega) (bZ.aS ?_) (AH.le_refl _) (by omega)
     rw[e]
     simp -dsimp(maxSteps:=4000000) only[bM,bC,dJ,bD,go_sem]
    have hc:cand X (lastTo R) (x,y)=true:=by simp[cand,h0,hl,hRe,nP,hl2]
    cases tH:bst X (lastTo R) i with
    |none=>
     have e:bst X (lastTo R) (i+1)=some x:=by rw[hbs,hc,tH];rfl
     simp -dsimp(maxSteps:=4000000) only[hRn,em2,p0,p1,q1,hl2,tH,AH.le_refl,ee,bM,bC,dJ,bD,go_sem]
     refine gI (i+1) _ _ (by omega) (bZ.aS ?_) (AH.le_refl _) (by omega)
     rw[e]
     simp -dsimp(maxSteps:=4000000) only[Option.getD_some,Option.isSome_some,bM,bC,dJ,bD,go_sem]
    |some bb=>
     by_cases hlt:x<bb
     ·have e:bst X (lastTo R) (i+1)=some x:=by rw[hbs,hc,tH];simp[better,hlt]
      simp -dsimp(maxSteps:=4000000) only[hRn,em2,p0,p1,q1,hl2,tH,hlt,Option.getD_some,Option.isSome_some,AH.le_refl,ee,bM,bC,dJ,bD,go_sem]
      refine gI (i+1) _ _ (by omega) (bZ.aS ?_) (AH.le_refl _) (by omega)
      rw[e]
      simp -dsimp(maxSteps:=4000000) only[Option.getD_some,Option.isSome_some,bM,bC,dJ,bD,go_sem]
     ·have e:bst X (lastTo R) (i+1)=some bb:=by rw[hbs,hc,tH];simp[better,hlt]
      simp -dsimp(maxSteps:=4000000) only[hRn,em2,p0,p1,q1,hl2,tH,hlt,Option.getD_some,Option.isSome_some,AH.le_refl,ee,bM,bC,dJ,bD,go_sem]
      refine gI (i+1) _ _ (by omega) (bZ.aS ?_) (AH.le_refl _) (by omega)
      rw[e]
      simp -dsimp(maxSteps:=4000000) only[Option.getD_some,Option.isSome_some,bM,bC,dJ,bD,go_sem]
 have hiX:i=X.length:=by omega
 clear gI hi
 cases tH:bst X (lastTo R) X.length with
 |none=>
  simp -dsimp(maxSteps:=4000000) only[h,bM,bC,dJ,bD,go_sem]
  refine mG _ _ _ (by simp) ?_
  simp -dsimp(maxSteps:=4000000) only[hiX,tH,Option.isSome_none,bM,bC,dJ,bD,go_sem]
  refine out _ _ _ (by simp) ?_
  simp -dsimp(maxSteps:=4000000) only[bM,bC,dJ,bD,go_sem]
  exact⟨A,AH.le_refl _,R,bo,co,rfl,hI.done tH,hsO,hK⟩
 |some bb=>
  simp -dsimp(maxSteps:=4000000) only[h,bM,bC,dJ,bD,go_sem]
  refine mG _ _ _ (by simp) ?_
  clear mG h
  subst hiX
  simp -dsimp(maxSteps:=4000000) only[tH,Option.isSome_some,Option.getD_some,bM,bC,dJ,bD,go_sem]
  refine fZ.gQ (ι:=Int) (fun t=>Ext X bb t) (fun t=>[(8,.int .i64 t),(4,.int .i64 bb),(0,.slice base X.length cap),(3,.slice bo R.length co)])
   (fun _=>A) (fun t=>X.countP fun s=>decide (t<s.2)) bb (Ext.start X bb) (bZ.aS ?_) (AH.le_refl _) fun t hE Q3 aah ahF=>?_
  ·simp -dsimp(maxSteps:=4000000) only[bM,bC,dJ,bD,go_sem]
   rw[tH];rfl
  simp -dsimp(maxSteps:=4000000) only[bM,bC,dJ,bD,go_sem]
  refine(vI X t _ cap _ hsA).mono ?_;rintro _ _ ⟨rfl,rfl⟩
  cases hl:tC X t with
  |true=>
   have hlt:=Ea.1 hl
   simp -dsimp(maxSteps:=4000000) only[bM,bC,dJ,bD,go_sem]
   refine fZ.gQ (ι:=Nat×Int) (fun z=>z.1≤X.length∧Ext X bb z.2∧t≤z.2∧((∃ s∈X,t<s.2∧s.2≤z.2)∨(z.2=t∧∀ j,j<z.1→∀ s,X[j]?=some s→zi t s=false))) (fun z=>[(9,.int .i64 z.1),(8,.int .i64 z.2),(4,.int .i64 bb),(0,.slice base X.length cap),(3,.slice bo R.length co)])
    (fun _=>A) (fun z=>X.length - z.1) (0,t) ⟨by simp,hE,Int.le_refl _,.inr ⟨rfl,fun j hj=>by simp at hj⟩⟩ (bZ.aS ?_) (AH.le_refl _) fun z hz Q4 H8 ahG=>?_
   ·simp -dsimp(maxSteps:=4000000) only[bM,bC,dJ,bD,go_sem]
   obtain⟨i,u⟩:=z
   obtain⟨hi,hEu,htu,hdis⟩:=hz
   dsimp only at hi hEu htu hdis H8 ⊢
   by_cases h:(i:Int)<X.length
   ·obtain⟨⟨x,y⟩,hx⟩:=get_some (l:=X) (i:=i) (by omega)
    obtain⟨b0,o0,rfl,hrow,hrd⟩:=hsA.get (dn (f:=dN) hx)
    have r0:=hrd 0 _ rfl
    have r1:=hrd 1 _ rfl
    simp only[Nat.add_zero]at r0 r1
    have ee:=dA (i:=i) (by omega)
    have hxm:=List.mem_of_getElem? hx
    have keep:¬ (x≤u∧u<y)→((∃ s∈X,t<s.2∧s.2≤u)∨(u=t∧∀ j,j<i+1→∀ s,X[j]?=some s→zi t s=false)):=fun hn=>by
     rcases hdis with h1 | ⟨h1,h2⟩
     ·exact .inl h1
     ·refine .inr ⟨h1,fun j hj m hm=>?_⟩
      by_cases hji:j=i
      ·subst hji;rw[hx]at hm;cases hm;subst h1;simp only[zi,Bool.and_eq_false_iff,decide_eq_false_iff_not];omega
      ·exact h2 j (by omega) m hm
    by_cases h0:x≤u
    ·by_cases h1:u<y
     ·simp -dsimp(maxSteps:=4000000) only[h,r0,r1,h0,h1,ee,bM,bC,dJ,bD,go_sem]
      exact H8 (i+1,y) _ _ ⟨by simp only;omega,hEu.step hxm h0 h1,by simp only;omega,.inl ⟨(x,y),hxm,by simp only;omega,Int.le_refl _⟩⟩ (bZ.aS (by simp -dsimp(maxSteps:=4000000) only[bM,bC,dJ,bD,go_sem])) (AH.le_refl _) (by simp only;omega)
     ·simp -dsimp(maxSteps:=4000000) only[h,r0,r1,h0,h1,ee,bM,bC,dJ,bD,go_sem]
      exact H8 (i+1,u) _ _ ⟨by simp only;omega,hEu,htu,keep (by omega)⟩ (bZ.aS (by simp -dsimp(maxSteps:=4000000) only[bM,bC,dJ,bD,go_sem])) (AH.le_refl _) (by simp only;omega)
    ·simp -dsimp(maxSteps:=4000000) only[h,r0,h0,ee,bM,bC,dJ,bD,go_sem]
     exact H8 (i+1,u) _ _ ⟨by simp only;omega,hEu,htu,keep (by omega)⟩ (bZ.aS (by simp -dsimp(maxSteps:=4000000) only[bM,bC,dJ,bD,go_sem])) (AH.le_refl _) (by simp only;omega)
   ·have hw:∃ s∈X,t<s.2∧s.2≤u:=by
     rcases hdis with h1 | ⟨h1,h2⟩
     ·exact h1
     ·obtain⟨s,hs,h3,h4⟩:=hlt
      obtain⟨j,hj⟩:=List.mem_iff_getElem?.1 hs
      have h5:=h2 j (by have:=dG hj;omega) s hj
      simp[zi,h3,h4]at h5
    obtain⟨s,hsm,w1,w2⟩:=hw
    simp -dsimp(maxSteps:=4000000) only[h,bM,bC,dJ,bD,go_sem]
    refine ahG _ _ _ (by simp) ?_
    simp -dsimp(maxSteps:=4000000) only[bM,bC,dJ,bD,go_sem]
    refine aah u _ _ hEu (bZ.aS (by simp -dsimp(maxSteps:=4000000) only[bM,bC,dJ,bD,go_sem])) (AH.le_refl _) ?_
    exact wF (fun x _ hx=>by simp at hx ⊢;omega) ⟨s,hsm,by simp;omega,by simp;omega⟩
  |false=>
   have hnl:=Eb.1 hl
   obtain⟨hI2,hcnt⟩:=hI.next tH hE.low hnl hE.le hE.ends
   simp -dsimp(maxSteps:=4000000) only[bM,bC,dJ,bD,go_sem]
   refine ahF _ _ _ (by simp) ?_
   simp -dsimp(maxSteps:=4000000) only[bM,bC,dJ,bD,go_sem]
   refine bY.mk fun b41 vK=>?_
   simp -dsimp(maxSteps:=4000000) only[bM,bC,dJ,bD,go_sem]
   refine lS.nD (x:=.slice (some ⟨b41,0,none⟩) 1 1) (R':=[dN (bb,t)]) (m:=1) (hO.added vK) (hK.nw vK).all uQ rfl (by decide) (by rw[Tryz.underlying36];rfl) (by simp) rfl rfl (by rw[iF,fO];rfl) (by simp[dN]) (by simp[dN,iM]) (by omega) fun gV cap2 A' kJ hK' hN'=>?_
   refine⟨_,AH.le_refl _,?_⟩
   simp -dsimp(maxSteps:=4000000) only[bM,bC,dJ,bD,go_sem]
   have hK2:=(hK.nw vK).ow hK' fun b ⟨a,ha,e⟩=>e▸hO.fresh a ha
   have he:R.map dN++[dN (bb,t)]=(R++[(bb,t)]).map dN:=by rw[List.map_append];rfl
   rw[he]at kJ
   refine again (R++[(bb,t)],gV,cap2) _ _ _ ⟨hI2,kJ,hK2⟩ (bZ.aS ?_) (AH.le_refl _) hcnt
   have hl1:(R++[(bb,t)]).length=R.length+1:=by simp
   rw[hl1]
   simp -dsimp(maxSteps:=4000000) only[bM,bC,dJ,bD,go_sem]
end Go.Proofs.YtbhamhhjicehaaaGreatDoor.lV
