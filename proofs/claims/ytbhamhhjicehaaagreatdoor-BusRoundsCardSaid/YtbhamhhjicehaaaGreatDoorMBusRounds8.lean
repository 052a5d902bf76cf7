/- Texts of mine, one behind another. -/
import Derived.Test.YtbhamhhjicehaaaGreatDoorMBusRounds7
set_option linter.unusedSimpArgs false
set_option linter.unusedVariables false
set_option maxHeartbeats 4000000
set_option maxRecDepth 10000
/- wire: Fall; awake. -/
namespace Go.Proofs.YtbhamhhjicehaaaGreatDoor.lV
open Go Go.AX Go.Proofs Ty Go.Proofs.YtbhamhhjicehaaaGreatDoor.kK Go.Proofs.YtbhamhhjicehaaaGreatDoor.wI
theorem aai {A:AH} {b cap:Nat} {base:Option Addr} {L:List Sp} (hf:aG A b) (hL:bG A 2 base cap (L.map dN)) :
  TY (A.add b (.cells [.slice base L.length cap] 36 1)) (some ⟨b,0,none⟩) 1 [(base,cap,L)]:=
 ⟨bG.own (R:=[[.slice base L.length cap]]) (by simp) (by simp) (by simp),fun x hx=>by
  simp only[List.mem_cons,List.not_mem_nil,or_false]at hx
  subst hx
  exact hL.add hf⟩
theorem H9 {A:AH} {b cap:Nat} {base:Option Addr} {L:List Sp} (hf:aG A b) (hL:bG A 2 base cap (L.map dN)) (hb:L.length<100000) :
  aO Tryz.prog 34 #[.slice (some ⟨b,0,none⟩) 1 1] (A.add b (.cells [.slice base L.length cap] 36 1)) (fun v H'=>∃ R b c,v=.slice b R.length c∧jZ L R∧bG H' 2 b c (R.map dN)∧Keep A H' fun _=>False):=by
 have ht:tot [(base,cap,L)] [(base,cap,L)].length=L:=by simp[tot]
 have:=Uc _ _ _ _ (aai hf hL) (by rw[ht];exact hb)
 rw[ht]at this
 refine aO.mono this ?_
 rintro _ A' ⟨R,b',c',rfl,hJ,hs,hK⟩
 exact⟨R,b',c',rfl,hJ,hs,(Keep.refl.nw hf).trans hK⟩
def fp (f t:Int) (s:Sp):Bool:=decide (f≤s.1)&&decide (s.1<t)
def oM (R:List Sp) (f t:Int):Int×Bool:=match R.find? (fp f t) with | some s=>(s.1,true) | none=>(0,false)
theorem xB {p:Sp→Bool}:∀ {R:List Sp} {i:Nat} {s:Sp},R[i]?=some s→p s=true→(∀ j,j<i→∀ y,R[j]?=some y→p y=false)→R.find? p=some s
 | [],i,s,h,_,_=>by simp at h
 |x::R,0,s,h,hp,_=>by simp at h;subst h;simp[hp]
 |x::R,i+1,s,h,hp,hall=>by
  rw[List.find?_cons,hall 0 (by omega) x rfl]
  exact xB (R:=R) (i:=i) (by simpa using h) hp fun j hj y hy=>hall (j+1) (by omega) y (by simpa using hy)
theorem OA {p:Sp→Bool} {R:List Sp} (hall:∀ j,j<R.length→∀ y,R[j]?=some y→p y=false):R.find? p=none:=by
 rw[List.find?_eq_none]
 intro s hs
 obtain⟨j,hj⟩:=List.mem_iff_getElem?.1 hs
 rw[hall j (dG hj) s hj];simp
theorem aaj (L:List Sp) (f t:Int) (base:Option Addr) (cap:Nat) (H:AH) (hs:bG H 2 base cap (L.map dN)) (hb:L.length<100000) :
  aO Tryz.prog 105 #[.slice base L.length cap,.int .i64 f,.int .i64 t] H (fun v H'=>∃ R,jZ L R∧v=.tuple #[.int .i64 (oM R f t).1,.bool (oM R f t).2]∧H=H'):=by
 refine aO.cu Tryz.func105 rfl Tryz.ntmps105 Tryz.results105 (by simp) ?_;simp -dsimp(maxSteps:=4000000) only[bM,bC,dJ,bD,go_sem]
 refine bY.mk fun b11 jd=>?_
 simp -dsimp(maxSteps:=4000000) only[bM,bC,dJ,bD,go_sem]
 refine(H9 jd hs hb).mono ?_;rintro _ A ⟨R,bo,co,rfl,hJ,hsR,hK⟩
 clear jd
 have hbig:=hsR.big
 simp only[List.length_map]at hbig
 simp -dsimp(maxSteps:=4000000) only[bM,bC,dJ,bD,go_sem]
 refine fZ.jE (ι:=Nat) (fun i B=>B=A∧i≤R.length∧∀ j,j<i→∀ s,R[j]?=some s→fp f t s=false) (fun i=>[(14,.int .i64 i),(13,.int .i64 R.length),(12,.slice bo R.length co),(1,.int .i64 f),(2,.int .i64 t)])
  (fun i=>R.length - i) 0 A ⟨rfl,by omega,fun j hj=>by omega⟩ (bZ.aS ?_) (AH.le_refl _) fun i B hi Q again out=>?_
 ·simp -dsimp(maxSteps:=4000000) only[bM,bC,dJ,bD,go_sem]
 obtain⟨rfl,hi,hall⟩:=hi
 by_cases h:(i:Int)<R.length
 ·obtain⟨⟨x,y⟩,hx⟩:=get_some (l:=R) (i:=i) (by omega)
  obtain⟨b0,o0,rfl,hrow,_⟩:=hsR.get (dn (f:=dN) hx)
  have ee:=dA (i:=i) (by omega)
  have nx:fp f t (x,y)=false→∀ j,j<i+1→∀ s,R[j]?=some s→fp f t s=false:=fun hf j hj m hm=>by
   by_cases hji:j=i
   ·subst hji;rw[hx]at hm;cases hm;exact hf
   ·exact hall j (by omega) m hm
  simp -dsimp(maxSteps:=4000000) only[h,hrow,bM,bC,dJ,bD,go_sem]
  refine bY.mk fun b9 iI=>?_
  by_cases h0:f≤x
  ·by_cases h1:x<t
   ·have e:=xB (p:=fp f t) hx (by simp[fp,h0,h1]) hall
    simp -dsimp(maxSteps:=4000000) only[qV,h0,h1,bM,bC,dJ,bD,go_sem]
    refine out _ _ _ (by simp) ?_
    simp -dsimp(maxSteps:=4000000) only[bM,bC,dJ,bD,go_sem]
    exact⟨_,AH.aK hK.all iI.2,R,hJ,by rw[oM,e],rfl⟩
   ·simp -dsimp(maxSteps:=4000000) only[qV,h0,h1,ee,bM,bC,dJ,bD,go_sem]
    exact again (i+1) _ B _ ⟨rfl,by omega,nx (by simp[fp,h1])⟩ (bZ.aS (by simp -dsimp(maxSteps:=4000000) only[bM,bC,dJ,bD,go_sem])) (AH.aK (AH.le_refl _) iI.2) (by omega)
  ·simp -dsimp(maxSteps:=4000000) only[qV,h0,ee,bM,bC,dJ,bD,go_sem]
   exact again (i+1) _ B _ ⟨rfl,by omega,nx (by simp[fp,h0])⟩ (bZ.aS (by simp -dsimp(maxSteps:=4000000) only[bM,bC,dJ,bD,go_sem])) (AH.aK (AH.le_refl _) iI.2) (by omega)
 ·have e:=OA (p:=fp f t) fun j hj=>hall j (by omega)
  simp -dsimp(maxSteps:=4000000) only[h,bM,bC,dJ,bD,go_sem]
  refine out _ _ _ (by simp) ?_
  simp -dsimp(maxSteps:=4000000) only[bM,bC,dJ,bD,go_sem]
  exact⟨_,hK.all,R,hJ,by rw[oM,e],rfl⟩
theorem Ql (L:List Sp) (f t:Int) (base:Option Addr) (cap:Nat) (H:AH) (hs:bG H 2 base cap (L.map dN)) (hok:∀ s∈L,H7 s=true) (hb:L.length<100000) :
  aO Tryz.prog 80 #[.slice base L.length cap,.int .i64 f,.int .i64 t] H (fun v H'=>∃ R,jZ L R∧v=.tuple #[.int .i64 (oM R f t).1,.bool (oM R f t).2]∧H=H'):=by
 refine aO.cu Tryz.func80 rfl Tryz.ntmps80 Tryz.results80 (by simp) ?_;simp -dsimp(maxSteps:=4000000) only[bM,bC,dJ,bD,go_sem]
 refine(wG _ _ _ _ hs hok hb).mono ?_;rintro _ A ⟨R,bo,co,rfl,hJ,hsR,hK⟩
 have hbig:=hsR.big
 simp only[List.length_map]at hbig
 simp -dsimp(maxSteps:=4000000) only[bM,bC,dJ,bD,go_sem]
 refine fZ.gQ (ι:=Nat) (fun i=>i≤R.length∧∀ j,j<i→∀ s,R[j]?=some s→fp f t s=false) (fun i=>[(9,.int .i64 i),(8,.slice bo R.length co),(1,.int .i64 f),(2,.int .i64 t)])
  (fun _=>A) (fun i=>R.length - i) 0 ⟨by omega,fun j hj=>by omega⟩ (bZ.aS ?_) (AH.le_refl _) fun i hi Q again out=>?_
 ·simp -dsimp(maxSteps:=4000000) only[bM,bC,dJ,bD,go_sem]
 obtain⟨hi,hall⟩:=hi
 by_cases h:(i:Int)<R.length
 ·obtain⟨⟨x,y⟩,hx⟩:=get_some (l:=R) (i:=i) (by omega)
  obtain⟨b0,o0,rfl,hrow,hrd⟩:=hsR.get (dn (f:=dN) hx)
  have r0:=hrd 0 _ rfl
  simp only[Nat.add_zero]at r0
  have ee:=dA (i:=i) (by omega)
  have nx:fp f t (x,y)=false→∀ j,j<i+1→∀ s,R[j]?=some s→fp f t s=false:=fun hf j hj m hm=>by
   by_cases hji:j=i
   ·subst hji;rw[hx]at hm;cases hm;exact hf
   ·exact hall j (by omega) m hm
  by_cases h0:f≤x
  ·by_cases h1:x<t
   ·have e:=xB (p:=fp f t) hx (by simp[fp,h0,h1]) hall
    simp -dsimp(maxSteps:=4000000) only[h,r0,h0,h1,bM,bC,dJ,bD,go_sem]
    refine out _ _ _ (by simp) ?_
    simp -dsimp(maxSteps:=4000000) only[bM,bC,dJ,bD,go_sem]
    exact⟨_,hK.all,R,hJ,by rw[oM,e],rfl⟩
   ·simp -dsimp(maxSteps:=4000000) only[h,r0,h0,h1,ee,bM,bC,dJ,bD,go_sem]
    exact again (i+1) _ _ ⟨by omega,nx (by simp[fp,h1])⟩ (bZ.aS (by simp -dsimp(maxSteps:=4000000) only[bM,bC,dJ,bD,go_sem])) (AH.le_refl _) (by omega)
  ·simp -dsimp(maxSteps:=4000000) only[h,r0,h0,ee,bM,bC,dJ,bD,go_sem]
   exact again (i+1) _ _ ⟨by omega,nx (by simp[fp,h0])⟩ (bZ.aS (by simp -dsimp(maxSteps:=4000000) only[bM,bC,dJ,bD,go_sem])) (AH.le_refl _) (by omega)
 ·have e:=OA (p:=fp f t) fun j hj=>hall j (by omega)
  simp -dsimp(maxSteps:=4000000) only[h,bM,bC,dJ,bD,go_sem]
  refine out _ _ _ (by simp) ?_
  simp -dsimp(maxSteps:=4000000) only[bM,bC,dJ,bD,go_sem]
  exact⟨_,hK.all,R,hJ,by rw[oM,e],rfl⟩
end Go.Proofs.YtbhamhhjicehaaaGreatDoor.lV
/- Declarations cut out of other texts of mine. -/
namespace Go.Proofs.YtbhamhhjicehaaaGreatDoor.wJ
open Go Go.AX Go.Proofs Ty
structure Stp where
 at_:Int
 rate:Int
def enc (s:Stp):List Value:=[.int .i64 s.at_,.int .i64 s.rate]
def okS (last:Int) (s:Stp):Bool:=decide (last<s.at_)&&decide (s.at_≤4294967296)&&decide (-20000≤s.rate)&&decide (s.rate≤20000)
def iT (last:Int):List Stp→Bool
 | []=>true
 |s::l=>okS last s&&iT s.at_ l
def good (L:List Stp):Bool:=decide (L.length≤64)&&iT (-1) L
theorem drop_cons {α:Type} {L:List α} {i:Nat} {s:α} (h:L[i]?=some s):L.drop i=s::L.drop (i+1):=by
 have hi:i<L.length:=by
  rcases Nat.lt_or_ge i L.length with h' | h'
  ·exact h'
  ·rw[List.getElem?_eq_none h']at h;cases h
 rw[List.drop_eq_getElem_cons hi]
 rw[List.getElem?_eq_getElem hi]at h
 cases h;rfl
theorem Xt {last:Int} {s:Stp} (h:s.at_≤last∨4294967296<s.at_∨s.rate < -20000∨20000<s.rate):okS last s=false:=by
 cases hk:okS last s with
 |false=>rfl
 |true=>simp only[okS,Bool.and_eq_true,decide_eq_true_eq]at hk;omega
theorem xC {last:Int} {s:Stp} (h:last<s.at_∧s.at_≤4294967296∧-20000≤s.rate∧s.rate≤20000):okS last s=true:=by
 simp only[okS,Bool.and_eq_true,decide_eq_true_eq];omega
theorem ni {L l:List Stp} {last:Int} {s:Stp} (hg:iT (-1) L=iT last (s::l)) (h:s.at_≤last∨4294967296<s.at_∨s.rate < -20000∨20000<s.rate):good L=false:=by
 unfold good;rw[hg];simp only[iT,Xt h,Bool.false_and,Bool.and_false]
theorem Ko {L:List Stp} {last:Int} (hg:iT (-1) L=iT last []):good L=decide (L.length≤64):=by
 unfold good;rw[hg];simp only[iT,Bool.and_true]
def rC (L:List Stp):Nat→Int
 |0=>-1
 |i+1=>match L[i]? with
  |some s=>s.at_
  |none=>-1
theorem jX (L:List Stp) (base:Option Addr) (cap:Nat) (H:AH) (hs:bG H 2 base cap (L.map enc)) :
  aO Tryz.prog 79 #[.slice base L.length cap] H (fun v H'=>v=.bool (good L)∧H=H'):=by
 have hle:=hs.le
 have hbig:=hs.big
 simp only[List.length_map]at hle hbig
 refine aO.cu Tryz.func79 rfl Tryz.ntmps79 Tryz.results79 (by simp) ?_;simp -dsimp(maxSteps:=4000000) only[go_sem]
 refine fZ.gQ (ι:=Nat) (fun i=>i≤L.length∧iT (-1) L=iT (rC L i) (L.drop i)∧-1≤rC L i∧(0<i→0≤rC L i)) (fun i=>[(3,.int .i64 i),(0,.slice base L.length cap)])
  (fun _=>H) (fun i=>L.length - i) 0 ⟨by simp,rfl,by simp[rC],by omega⟩ (bZ.aS ?_) (AH.le_refl _) fun i hi Q again out=>?_
 ·simp -dsimp(maxSteps:=4000000) only[go_sem]
 ·obtain⟨hi,hg,hl1,hl2⟩:=hi
  by_cases h:(i:Int)<L.length
  ·obtain⟨s,hx⟩:=get_some (l:=L) (i:=i) (by omega)
   obtain⟨b,o,rfl,hrow,hrd⟩:=hs.get (dn (f:=enc) hx)
   have r0:=hrd 0 _ rfl
   have r1:=hrd 1 _ rfl
   rw[Nat.add_zero]at r0
   have e1:=dA (i:=i) (by omega)
   rw[drop_cons hx]at hg
   by_cases c0:s.at_<0
   ·simp -dsimp(maxSteps:=4000000) only[h,r0,r1,c0,go_sem]
    refine out _ _ _ (by simp) ?_
    simp -dsimp(maxSteps:=4000000) only[go_sem]
    exact⟨H,(AH.le_refl _),(by first | exact⟨by rw[ni hg (by omega)],rfl⟩ | rfl)⟩
   by_cases c2:4294967296<s.at_
   ·simp -dsimp(maxSteps:=4000000) only[h,r0,r1,c0,c2,go_sem]
    refine out _ _ _ (by simp) ?_
    simp -dsimp(maxSteps:=4000000) only[go_sem]
    exact⟨H,(AH.le_refl _),(by first | exact⟨by rw[ni hg (by omega)],rfl⟩ | rfl)⟩
   by_cases c4:20000<s.rate
   ·simp -dsimp(maxSteps:=4000000) only[h,r0,r1,c0,c2,c4,go_sem]
    refine out _ _ _ (by simp) ?_
    simp -dsimp(maxSteps:=4000000) only[go_sem]
    exact⟨H,(AH.le_refl _),(by first | exact⟨by rw[ni hg (by omega)],rfl⟩ | rfl)⟩
   by_cases c3:s.rate < -20000
   ·simp -dsimp(maxSteps:=4000000) only[h,r0,r1,c0,c2,c4,c3,go_sem]
    refine out _ _ _ (by simp) ?_
    simp -dsimp(maxSteps:=4000000) only[go_sem]
    exact⟨H,(AH.le_refl _),(by first | exact⟨by rw[ni hg (by omega)],rfl⟩ | rfl)⟩
   simp -dsimp(maxSteps:=4000000) only[h,r0,r1,c0,c2,c4,c3,go_sem]
   refine fZ.quiet mixed (by kernel_rfl) ?_
   have hnext:rC L (i+1)=s.at_:=by simp only[rC,hx]
   cases i with
   |zero=>
    simp -dsimp(maxSteps:=4000000) only[h,r0,r1,c0,c2,c4,c3,e1,go_sem]
    refine again 1 _ _ ⟨by omega,?_,by rw[hnext];omega,fun _=>by rw[hnext];omega⟩ (bZ.aS (by simp -dsimp(maxSteps:=4000000) only[go_sem]<;>rfl)) (AH.le_refl _) (by omega)
    rw[hg,hnext];simp only[iT,xC (last:=rC L 0) (s:=s) (by simp only[rC];omega),Bool.true_and]
   |succ i=>
    obtain⟨s',hx'⟩:=get_some (l:=L) (i:=i) (by omega)
    obtain⟨b',o',hb',hrow',oU⟩:=hs.get (dn (f:=enc) hx')
    cases hb'
    have q0:=oU 0 _ rfl
    rw[Nat.add_zero]at q0
    have hpos:(0:Int)<((i+1:Nat):Int):=by omega
    have hlast:rC L (i+1)=s'.at_:=by simp only[rC,hx']
    have e2:IntKind.i64.wrap (((i+1:Nat):Int) - 1)=(i:Int):=by rw[eH (by omega) (by omega)];omega
    have hlt:(i:Int)<L.length:=by omega
    rw[hlast]at hg
    by_cases c1:s.at_≤s'.at_
    ·simp -dsimp(maxSteps:=4000000) only[h,r0,r1,hpos,e2,hlt,q0,c1,go_sem]
     refine out _ _ _ (by simp) ?_
     simp -dsimp(maxSteps:=4000000) only[go_sem]
     exact⟨H,(AH.le_refl _),(by first | exact⟨by rw[ni hg (by omega)],rfl⟩ | rfl)⟩
    ·simp -dsimp(maxSteps:=4000000) only[h,r0,r1,hpos,e2,hlt,q0,c1,e1,go_sem]
     refine again (i+1+1) _ _ ⟨by omega,?_,by rw[hnext];omega,fun _=>by rw[hnext];omega⟩ (bZ.aS (by simp -dsimp(maxSteps:=4000000) only[e1,go_sem])) (AH.le_refl _) (by omega)
     rw[hg,hnext];simp only[iT,xC (last:=s'.at_) (s:=s) (by omega),Bool.true_and]
  ·have hiL:i=L.length:=by omega
   rw[hiL,List.drop_length]at hg
   simp -dsimp(maxSteps:=4000000) only[h,go_sem]
   refine out _ _ _ (by simp) ?_
   simp -dsimp(maxSteps:=4000000) only[go_sem]
   refine⟨H,AH.le_refl _,?_,rfl⟩
   rw[Ko hg]
   congr 1;congr 1
   exact propext ⟨fun h=>by omega,fun h=>by omega⟩
def nR (t:Int):List Stp→Int
 | []=>t
 |s::_=>if s.at_<t then s.at_ else t
def pos (x:Int):Int:=if 0>x then 0 else x
def sumT (t:Int):List Stp→Int
 | []=>0
 |s::l=>pos (nR t l - s.at_)*s.rate+sumT t l
def clamp (t:Int):Int:=pos (if 4294967296<t then 4294967296 else t)
def fK (L:List Stp) (t:Int):Int:=(clamp t*1000000+sumT (clamp t) L).tdiv 1000000
theorem vM (t:Int):0≤clamp t:=by unfold clamp pos;split<;>omega
theorem zk (t:Int):clamp t≤4294967296:=by unfold clamp pos;split<;>split<;>omega
theorem OB (t:Int) (l:List Stp):nR t l≤t:=by cases l<;>simp only[nR]<;>(try split)<;>omega
theorem MS (x:Int):0≤pos x:=by unfold pos;split<;>omega
theorem Ud {x y:Int} (h:x≤y) (hy:0≤y):pos x≤y:=by unfold pos;split<;>omega
theorem gy {last:Int} {s:Stp} {l:List Stp} (h:iT last (s::l)=true):last<s.at_∧s.at_≤4294967296∧-20000≤s.rate∧s.rate≤20000∧iT s.at_ l=true:=by
 simp only[iT,okS,Bool.and_eq_true,decide_eq_true_eq]at h
 exact⟨h.1.1.1.1,h.1.1.1.2,h.1.1.2,h.1.2,h.2⟩
theorem MV {x r:Int} (h0:0≤x) (h1:x≤4294967296) (h2 : -20000≤r) (h3:r≤20000) : -85899345920000≤x*r∧x*r≤85899345920000:=by
 have a:=Int.mul_le_mul_of_nonneg_left h3 h0
 have b:=Int.mul_le_mul_of_nonneg_left h2 h0
 omega
theorem adB (x:Int):(if 0>x then 0 else x)=pos x:=rfl
theorem Xu (L:List Stp) (t:Int) (ht0:0≤t) (ht1:t≤4294967296) (hg:good L=true) (base:Option Addr) (cap:Nat) (H:AH) (hs:bG H 2 base cap (L.map enc)) :
  aO Tryz.prog 134 #[.slice base L.length cap,.int .i64 t] H (fun v H'=>v=.int .i64 (t*1000000+sumT t L)∧H=H'):=by
 simp only[good,Bool.and_eq_true,decide_eq_true_eq]at hg
 obtain⟨h64,hg⟩:=hg
 have e0:IntKind.i64.wrap (t*1000000)=t*1000000:=eH (by omega) (by omega)
 refine aO.cu Tryz.func134 rfl Tryz.ntmps134 Tryz.results134 (by simp) ?_;simp -dsimp(maxSteps:=4000000) only[e0,go_sem]
 refine fZ.gQ (ι:=Nat×Int×Int) (fun p=>p.1≤L.length∧t*1000000+sumT t L=p.2.1+sumT t (L.drop p.1)∧iT p.2.2 (L.drop p.1)=true∧-1≤p.2.2∧-(p.1*85899345920000)≤p.2.1 - t*1000000∧p.2.1 - t*1000000≤p.1*85899345920000)
  (fun p=>[(13,.int .i64 p.1),(5,.int .i64 p.2.1),(12,.int .i64 L.length),(11,.slice base L.length cap),(0,.slice base L.length cap),(1,.int .i64 t)])
  (fun _=>H) (fun p=>L.length - p.1) (0,t*1000000,-1) ⟨by simp,by simp,by simpa using hg,by simp,by simp,by simp⟩ (bZ.aS ?_) (AH.le_refl _) fun p hi Q again out=>?_
 ·simp -dsimp(maxSteps:=4000000) only[e0,go_sem]
 ·obtain⟨i,n,last⟩:=p
  obtain⟨hi,hn,hg,hl,X5,Zl⟩:=hi
  simp only at hi hn hg hl X5 Zl ⊢
  by_cases h:(i:Int)<L.length
  ·obtain⟨s,hx⟩:=get_some (l:=L) (i:=i) (by omega)
   obtain⟨b,o,rfl,hrow,hrd⟩:=hs.get (dn (f:=enc) hx)
   have e1:=dA (i:=i) (by omega)
   rw[drop_cons hx]at hn hg
   obtain⟨g1,g2,g3,g4,g5⟩:=gy hg
   unfold enc at hrow
   simp -dsimp(maxSteps:=4000000) only[h,hrow,e0,go_sem]
   refine bY.mk fun b1 iy=>?_;have aP:=iy;(try simp only[ah,aj,ne_eq]at aP);have aY:=aP;(try simp only[@eq_comm Nat b1]at aY);simp -dsimp(maxSteps:=4000000) only[e0,aP,aY,go_sem]
   simp only[sumT]at hn
   have hto:=OB t (L.drop (i+1))
   have hp0:=MS (nR t (L.drop (i+1)) - s.at_)
   have hp1:pos (nR t (L.drop (i+1)) - s.at_)≤4294967296:=Ud (by omega) (by omega)
   have htb:=MV hp0 hp1 g3 g4
   have fin:∀ to,to=nR t (L.drop (i+1))→IntKind.i64.wrap (to - s.at_)=to - s.at_∧IntKind.i64.wrap (pos (to - s.at_)*s.rate)=pos (to - s.at_)*s.rate∧IntKind.i64.wrap (n+pos (to - s.at_)*s.rate)=n+pos (to - s.at_)*s.rate:=fun to adC=>by
    have : -1≤to:=by
     rw[adC]
     cases hd:L.drop (i+1) with
     |nil=>simp only[nR];omega
     |cons s' l'=>
      rw[hd]at g5
      have:=(gy g5).1
      simp only[nR];split<;>omega
    rw[←adC]at htb hto
    have hi64:(i:Int)≤63:=by omega
    exact⟨eH (by omega) (by omega),eH (by omega) (by omega),eH (by omega) (by omega)⟩
   by_cases h1:((i+1:Nat):Int)<L.length
   ·obtain⟨s',hx'⟩:=get_some (l:=L) (i:=i+1) (by omega)
    obtain⟨b',o',hb',hrow',oU⟩:=hs.get (dn (f:=enc) hx')
    cases hb'
    have q0:=oU 0 _ rfl
    rw[Nat.add_zero]at q0
    have q1:=Nz (k:=.cells [.int .i64 s.at_,.int .i64 s.rate] 81 2) iy q0
    obtain⟨f1,f2,f3⟩:=fin (if s'.at_<t then s'.at_ else t) (by rw[drop_cons hx'];rfl)
    simp -dsimp(maxSteps:=4000000) only[e1,h1,q1,f1,adB,f2,f3,e0,aP,aY,go_sem]
    refine again (i+1,n+pos (nR t (L.drop (i+1)) - s.at_)*s.rate,s.at_) _ _ ⟨by simp only;omega,by simp only;omega,g5,by simp only;omega,by simp only;omega,by simp only;omega⟩ (bZ.aS (by rw[drop_cons hx'];simp -dsimp(maxSteps:=4000000) only[nR,e0,aP,aY,go_sem])) (AH.aK (AH.le_refl _) ((by simp only[e0,ah,aj,ne_eq,aP,not_false_eq_true,and_self]:aG _ b1).2)) (by simp only;omega)
   ·have hd:L.drop (i+1)=[]:=List.drop_eq_nil_of_le (by omega)
    obtain⟨f1,f2,f3⟩:=fin t (by rw[hd];rfl)
    simp -dsimp(maxSteps:=4000000) only[e1,h1,f1,adB,f2,f3,e0,aP,aY,go_sem]
    refine again (i+1,n+pos (nR t (L.drop (i+1)) - s.at_)*s.rate,s.at_) _ _ ⟨by simp only;omega,by simp only;omega,g5,by simp only;omega,by simp only;omega,by simp only;omega⟩ (bZ.aS (by rw[hd];simp -dsimp(maxSteps:=4000000) only[nR,e0,aP,aY,go_sem])) (AH.aK (AH.le_refl _) ((by simp only[e0,ah,aj,ne_eq,aP,not_false_eq_true,and_self]:aG _ b1).2)) (by simp only;omega)
  ·
   have hiL:i=L.length:=by omega
   rw[hiL,List.drop_length]at hn
   simp -dsimp(maxSteps:=4000000) only[h,e0,go_sem]
   refine out _ _ _ (by simp) ?_
   simp -dsimp(maxSteps:=4000000) only[e0,go_sem]
   exact⟨H,(AH.le_refl _),(by first | exact⟨by rw[hn];simp[sumT],rfl⟩ | rfl)⟩
theorem rD {x:Int} (h:0≤x):pos x=x:=by unfold pos;rw[if_neg (by omega)]
theorem o7 {x:Int} (h:x≤0):pos x=0:=by unfold pos;split<;>omega
theorem mulR {x r:Int} (h0:0≤x) (h2 : -20000≤r) (h3:r≤20000):x * -20000≤x*r∧x*r≤x*20000:=
 ⟨Int.mul_le_mul_of_nonneg_left h2 h0,Int.mul_le_mul_of_nonneg_left h3 h0⟩
theorem Kq (t:Int):∀ (l:List Stp) (s:Stp) (last:Int),iT last (s::l)=true→pos (t - s.at_) * -20000≤sumT t (s::l)∧sumT t (s::l)≤pos (t - s.at_)*20000
 | [],s,last,h=>by
  obtain⟨g1,g2,g3,g4,_⟩:=gy h
  simp only[sumT,nR,Int.add_zero]
  exact mulR (MS _) g3 g4
 |s'::l,s,last,h=>by
  obtain⟨g1,g2,g3,g4,g5⟩:=gy h
  have g6:=(gy g5).1
  have ih:=Kq t l s' _ g5
  have e:sumT t (s::s'::l)=pos ((if s'.at_<t then s'.at_ else t) - s.at_)*s.rate+sumT t (s'::l):=rfl
  rw[e]
  have hm:=mulR (MS ((if s'.at_<t then s'.at_ else t) - s.at_)) g3 g4
  have hsum:pos ((if s'.at_<t then s'.at_ else t) - s.at_)+pos (t - s'.at_)=pos (t - s.at_):=by
   unfold pos;(repeat' split)<;>omega
  generalize pos ((if s'.at_<t then s'.at_ else t) - s.at_)*s.rate=X at hm ⊢
  generalize sumT t (s'::l)=Y at ih ⊢
  omega
theorem qy {t:Int} (ht:0≤t) {L:List Stp} (h:iT (-1) L=true):t * -20000≤sumT t L∧sumT t L≤t*20000:=by
 cases L with
 |nil=>simp only[sumT];omega
 |cons s l=>
  have:=Kq t l s _ h
  have h1:=(gy h).1
  have:pos (t - s.at_)≤t:=Ud (by omega) ht
  omega
theorem nS {L:List Stp} (h:good L=true):L.length≤64∧iT (-1) L=true:=by
 simpa only[good,Bool.and_eq_true,decide_eq_true_eq]using h
theorem jA {L:List Stp} (h:good L=true) (t:Int):fK L t=(clamp t*1000000+sumT (clamp t) L) / 1000000∧IntKind.i64.wrap (fK L t)=fK L t:=by
 have h0:=vM t
 have h1:=zk t
 have hr:=qy h0 (nS h).2
 have e:fK L t=(clamp t*1000000+sumT (clamp t) L) / 1000000:=Int.tdiv_eq_ediv_of_nonneg (by omega)
 exact⟨e,by rw[e];exact eH (by omega) (by omega)⟩
theorem OC (L:List Stp) (t:Int) (hg:good L=true) (base:Option Addr) (cap:Nat) (H:AH) (hs:bG H 2 base cap (L.map enc)) :
  aO Tryz.prog 109 #[.slice base L.length cap,.int .i64 t] H (fun v H'=>v=.int .i64 (fK L t)∧H=H'):=by
 have e:=(jA hg t).2
 refine aO.cu Tryz.func109 rfl Tryz.ntmps109 Tryz.results109 (by simp) ?_;simp -dsimp(maxSteps:=4000000) only[go_sem]
 refine(Xu L (clamp t) (vM t) (zk t) hg base cap _ hs).mono ?_;rintro _ _ ⟨rfl,rfl⟩
 have e':IntKind.i64.wrap ((clamp t*1000000+sumT (clamp t) L).tdiv 1000000)=fK L t:=e
 simp -dsimp(maxSteps:=4000000) only[e',go_sem]
 exact⟨H,(AH.le_refl _),(by first | exact⟨rfl,rfl⟩ | rfl)⟩
def qJ (t:Int):Int→Int→Int→List Stp→Int
 |n,a,r,[]=>n+(t - a)*(1000000+r)
 |n,a,r,s::l=>if s.at_<t then qJ t (n+(s.at_ - a)*(1000000+r)) s.at_ s.rate l else n+(t - a)*(1000000+r)
theorem nT (t:Int):∀ (l:List Stp) (last:Int),iT last l=true→t≤last+1→sumT t l=0
 | [],_,_,_=>rfl
 |s::l,last,h,ht=>by
  obtain⟨g1,g2,g3,g4,g5⟩:=gy h
  have:=OB t l
  simp only[sumT,o7 (show nR t l - s.at_≤0 from by omega),Int.zero_mul,nT t l _ g5 (by omega),Int.add_zero]
theorem BK (t:Int):∀ (l:List Stp) (n a r:Int),iT a l=true→a≤t→qJ t n a r l=n+(t - a)*1000000+(nR t l - a)*r+sumT t l
 | [],n,a,r,_,_=>by simp only[qJ,nR,sumT,Int.mul_add];omega
 |s::l,n,a,r,h,ha=>by
  obtain⟨g1,g2,g3,g4,g5⟩:=gy h
  simp only[qJ,nR]
  split
  ·rename_i hlt
   rw[BK t l _ _ _ g5 (by omega)]
   have hto:s.at_≤nR t l:=by
    cases l with
    |nil=>simp only[nR];omega
    |cons s' l'=>have:=(gy g5).1;simp only[nR];split<;>omega
   simp only[sumT,rD (show 0≤nR t l - s.at_ from by omega),Int.mul_add]
   omega
  ·simp only[nT t (s::l) (s.at_ - 1) (by simp only[iT,xC (last:=s.at_ - 1) (s:=s) (by omega),g5,Bool.and_self]) (by omega),Int.mul_add]
   omega
theorem Kr {L:List Stp} (h:good L=true) (t:Int):qJ (clamp t) 0 0 0 L=clamp t*1000000+sumT (clamp t) L:=by
 have h0:=vM t
 cases L with
 |nil=>simp only[qJ,sumT];omega
 |cons s l=>
  obtain⟨g1,g2,g3,g4,g5⟩:=gy (nS h).2
  have:=BK (clamp t) (s::l) 0 0 0
  by_cases hs:0<s.at_
  ·rw[BK (clamp t) (s::l) 0 0 0 (by simp only[iT,xC (last:=0) (s:=s) (by omega),g5,Bool.and_self]) h0]
   omega
  ·have hs0:s.at_=0:=by omega
   simp only[qJ]
   split
   ·rw[BK (clamp t) l _ _ _ g5 (by omega)]
    have hto:s.at_≤nR (clamp t) l:=by
     cases l with
     |nil=>simp only[nR];omega
     |cons s' l'=>have:=(gy g5).1;simp only[nR];split<;>omega
    simp only[sumT,rD (show 0≤nR (clamp t) l - s.at_ from by omega)]
    omega
   ·have hc:clamp t=0:=by omega
    rw[hc]at *
    have:=nT 0 (s::l) (-1) (nS h).2 (by omega)
    rw[this];omega
theorem Ed (L:List Stp) (t:Int) (hg:good L=true) (base:Option Addr) (cap:Nat) (H:AH) (hs:bG H 2 base cap (L.map enc)) :
  aO Tryz.prog 83 #[.slice base L.length cap,.int .i64 t] H (fun v H'=>v=.int .i64 (fK L t)∧H=H'):=by
 have hw:=(jA hg t).2
 have hr:=Kr hg t
 have h0:=vM t
 have h1:=zk t
 obtain⟨h64,hgR⟩:=nS hg
 have hlv:fK L t=(clamp t*1000000+sumT (clamp t) L).tdiv 1000000:=rfl
 rw[hlv,←hr]at hw
 rw[hlv,←hr]
 have hct:clamp t=if t<0 then 0 else if 4294967296<t then 4294967296 else t:=by
  unfold clamp pos;(repeat' split)<;>omega
 generalize clamp t=u at *
 have facts:∀ (x a r n:Int),0≤a→a≤x→x≤4294967296→-20000≤r→r≤20000→0≤n→n≤a*1020000→
   IntKind.i64.wrap (x - a)=x - a∧IntKind.i64.wrap (1000000+r)=1000000+r∧IntKind.i64.wrap ((x - a)*(1000000+r))=(x - a)*(1000000+r)∧IntKind.i64.wrap (n+(x - a)*(1000000+r))=n+(x - a)*(1000000+r)∧
   0≤n+(x - a)*(1000000+r)∧n+(x - a)*(1000000+r)≤x*1020000:=fun x a r n q1 q2 q3 q4 q5 q6 q7=>by
  have m1:=Int.mul_le_mul_of_nonneg_left (show 1000000+r≤1020000 from by omega) (show 0≤x - a from by omega)
  have m2:=Int.mul_nonneg (show 0≤x - a from by omega) (show 0≤1000000+r from by omega)
  generalize (x - a)*(1000000+r)=X at *
  exact⟨eH (by omega) (by omega),eH (by omega) (by omega),eH (by omega) (by omega),eH (by omega) (by omega),by omega,by omega⟩
 refine aO.cu Tryz.func83 rfl Tryz.ntmps83 Tryz.results83 (by simp) ?_;simp -dsimp(maxSteps:=4000000) only[go_sem]
 have aak:(t<0∧u=0)∨(¬ t<0∧4294967296<t∧u=4294967296)∨(¬ t<0∧¬ 4294967296<t∧u=t):=by
  rw[hct];(repeat' split)<;>omega
 have c0:¬ (4294967296:Int)<0:=by omega
 rcases aak with ⟨c1,c2⟩ | ⟨c1,c3,c2⟩ | ⟨c1,c3,c2⟩
 ·simp -dsimp(maxSteps:=4000000) only[c1,c0,go_sem]
  refine fZ.gQ (ι:=Nat×Int×Int×Int×Int) (fun p=>p.1≤L.length∧qJ u 0 0 0 L=qJ u p.2.1 p.2.2.1 p.2.2.2.1 (L.drop p.1)∧iT p.2.2.2.2 (L.drop p.1)=true∧0≤p.2.2.1∧p.2.2.1≤u∧p.2.2.1≤p.2.2.2.2+1∧-20000≤p.2.2.2.1∧p.2.2.2.1≤20000∧0≤p.2.1∧p.2.1≤p.2.2.1*1020000)
   (fun p=>[(8,.int .i64 p.1),(5,.int .i64 p.2.1),(6,.int .i64 p.2.2.1),(7,.int .i64 p.2.2.2.1),(0,.slice base L.length cap),(1,.int .i64 u)])
   (fun _=>H) (fun p=>L.length - p.1) (0,0,0,0,-1) ⟨by simp,by simp,by simpa using hgR,by simp,by simpa using h0,by simp,by simp,by simp,by simp,by simp⟩ (bZ.aS ?_) (AH.le_refl _) fun p hi Q again out=>?_
  ·simp -dsimp(maxSteps:=4000000) only[go_sem]
   rw[c2]
  ·obtain⟨i,n,a,r,last⟩:=p
   obtain⟨hi,hn,hg,k1,k2,k3,k4,k5,k6,k7⟩:=hi
   simp only at hi hn hg k1 k2 k3 k4 k5 k6 k7 ⊢
   have f0:=facts u a r n k1 k2 h1 k4 k5 k6 k7
   by_cases h:(i:Int)<L.length
   ·obtain⟨s,hx⟩:=get_some (l:=L) (i:=i) (by omega)
    obtain⟨b,o,rfl,hrow,hrd⟩:=hs.get (dn (f:=enc) hx)
    have r0:=hrd 0 _ rfl
    have r1:=hrd 1 _ rfl
    rw[Nat.add_zero]at r0
    have e1:=dA (i:=i) (by omega)
    rw[drop_cons hx]at hn hg
    obtain⟨g1,g2,g3,g4,g5⟩:=gy hg
    by_cases hlt:s.at_<u
    ·have f1:=facts s.at_ a r n k1 (by omega) g2 k4 k5 k6 k7
     simp only[qJ,hlt,if_true]at hn
     simp -dsimp(maxSteps:=4000000) only[h,r0,r1,hlt,f1.1,f1.2.1,f1.2.2.1,f1.2.2.2.1,go_sem]
     refine fZ.quiet mixed (by kernel_rfl) ?_
     simp -dsimp(maxSteps:=4000000) only[h,r0,r1,e1,go_sem]
     exact again (i+1,n+(s.at_ - a)*(1000000+r),s.at_,s.rate,s.at_) _ _ ⟨by simp only;omega,hn,g5,by simp only;omega,by simp only;omega,by simp only;omega,g3,g4,f1.2.2.2.2.1,f1.2.2.2.2.2⟩ (bZ.aS (by simp -dsimp(maxSteps:=4000000) only[go_sem])) (AH.le_refl _) (by simp only;omega)
    ·simp only[qJ,hlt,if_false]at hn
     simp -dsimp(maxSteps:=4000000) only[h,r0,hlt,go_sem]
     refine out _ _ _ (by simp) ?_
     rw[hn]at hw
     simp -dsimp(maxSteps:=4000000) only[f0.1,f0.2.1,f0.2.2.1,f0.2.2.2.1,hw,go_sem]
     exact⟨H,(AH.le_refl _),(by first | exact⟨by rw[hn],rfl⟩ | rfl)⟩
   ·have hiL:i=L.length:=by omega
    rw[hiL,List.drop_length]at hn
    simp only[qJ]at hn
    simp -dsimp(maxSteps:=4000000) only[h,go_sem]
    refine out _ _ _ (by simp) ?_
    rw[hn]at hw
    simp -dsimp(maxSteps:=4000000) only[f0.1,f0.2.1,f0.2.2.1,f0.2.2.2.1,hw,go_sem]
    exact⟨H,(AH.le_refl _),(by first | exact⟨by rw[hn],rfl⟩ | rfl)⟩
 ·simp -dsimp(maxSteps:=4000000) only[c1,c3,go_sem]
  refine fZ.gQ (ι:=Nat×Int×Int×Int×Int) (fun p=>p.1≤L.length∧qJ u 0 0 0 L=qJ u p.2.1 p.2.2.1 p.2.2.2.1 (L.drop p.1)∧iT p.2.2.2.2 (L.drop p.1)=true∧0≤p.2.2.1∧p.2.2.1≤u∧p.2.2.1≤p.2.2.2.2+1∧-20000≤p.2.2.2.1∧p.2.2.2.1≤20000∧0≤p.2.1∧p.2.1≤p.2.2.1*1020000)
   (fun p=>[(8,.int .i64 p.1),(5,.int .i64 p.2.1),(6,.int .i64 p.2.2.1),(7,.int .i64 p.2.2.2.1),(0,.slice base L.length cap),(1,.int .i64 u)])
   (fun _=>H) (fun p=>L.length - p.1) (0,0,0,0,-1) ⟨by simp,by simp,by simpa using hgR,by simp,by simpa using h0,by simp,by simp,by simp,by simp,by simp⟩ (bZ.aS ?_) (AH.le_refl _) fun p hi Q again out=>?_
  ·simp -dsimp(maxSteps:=4000000) only[go_sem]
   rw[c2]
  ·obtain⟨i,n,a,r,last⟩:=p
   obtain⟨hi,hn,hg,k1,k2,k3,k4,k5,k6,k7⟩:=hi
   simp only at hi hn hg k1 k2 k3 k4 k5 k6 k7 ⊢
   have f0:=facts u a r n k1 k2 h1 k4 k5 k6 k7
   by_cases h:(i:Int)<L.length
   ·obtain⟨s,hx⟩:=get_some (l:=L) (i:=i) (by omega)
    obtain⟨b,o,rfl,hrow,hrd⟩:=hs.get (dn (f:=enc) hx)
    have r0:=hrd 0 _ rfl
    have r1:=hrd 1 _ rfl
    rw[Nat.add_zero]at r0
    have e1:=dA (i:=i) (by omega)
    rw[drop_cons hx]at hn hg
    obtain⟨g1,g2,g3,g4,g5⟩:=gy hg
    by_cases hlt:s.at_<u
    ·have f1:=facts s.at_ a r n k1 (by omega) g2 k4 k5 k6 k7
     simp only[qJ,hlt,if_true]at hn
     simp -dsimp(maxSteps:=4000000) only[h,r0,r1,hlt,f1.1,f1.2.1,f1.2.2.1,f1.2.2.2.1,go_sem]
     refine fZ.quiet mixed (by kernel_rfl) ?_
     simp -dsimp(maxSteps:=4000000) only[h,r0,r1,e1,go_sem]
     exact again (i+1,n+(s.at_ - a)*(1000000+r),s.at_,s.rate,s.at_) _ _ ⟨by simp only;omega,hn,g5,by simp only;omega,by simp only;omega,by simp only;omega,g3,g4,f1.2.2.2.2.1,f1.2.2.2.2.2⟩ (bZ.aS (by simp -dsimp(maxSteps:=4000000) only[go_sem])) (AH.le_refl _) (by simp only;omega)
    ·simp only[qJ,hlt,if_false]at hn
     simp -dsimp(maxSteps:=4000000) only[h,r0,hlt,go_sem]
     refine out _ _ _ (by simp) ?_
     rw[hn]at hw
     simp -dsimp(maxSteps:=4000000) only[f0.1,f0.2.1,f0.2.2.1,f0.2.2.2.1,hw,go_sem]
     exact⟨H,(AH.le_refl _),(by first | exact⟨by rw[hn],rfl⟩ | rfl)⟩
   ·have hiL:i=L.length:=by omega
    rw[hiL,List.drop_length]at hn
    simp only[qJ]at hn
    simp -dsimp(maxSteps:=4000000) only[h,go_sem]
    refine out _ _ _ (by simp) ?_
    rw[hn]at hw
    simp -dsimp(maxSteps:=4000000) only[f0.1,f0.2.1,f0.2.2.1,f0.2.2.2.1,hw,go_sem]
    exact⟨H,(AH.le_refl _),(by first | exact⟨by rw[hn],rfl⟩ | rfl)⟩
 ·simp -dsimp(maxSteps:=4000000) only[c1,c3,go_sem]
  refine fZ.gQ (ι:=Nat×Int×Int×Int×Int) (fun p=>p.1≤L.length∧qJ u 0 0 0 L=qJ u p.2.1 p.2.2.1 p.2.2.2.1 (L.drop p.1)∧iT p.2.2.2.2 (L.drop p.1)=true∧0≤p.2.2.1∧p.2.2.1≤u∧p.2.2.1≤p.2.2.2.2+1∧-20000≤p.2.2.2.1∧p.2.2.2.1≤20000∧0≤p.2.1∧p.2.1≤p.2.2.1*1020000)
   (fun p=>[(8,.int .i64 p.1),(5,.int .i64 p.2.1),(6,.int .i64 p.2.2.1),(7,.int .i64 p.2.2.2.1),(0,.slice base L.length cap),(1,.int .i64 u)])
   (fun _=>H) (fun p=>L.length - p.1) (0,0,0,0,-1) ⟨by simp,by simp,by simpa using hgR,by simp,by simpa using h0,by simp,by simp,by simp,by simp,by simp⟩ (bZ.aS ?_) (AH.le_refl _) fun p hi Q again out=>?_
  ·simp -dsimp(maxSteps:=4000000) only[go_sem]
   rw[c2]
  ·obtain⟨i,n,a,r,last⟩:=p
   obtain⟨hi,hn,hg,k1,k2,k3,k4,k5,k6,k7⟩:=hi
   simp only at hi hn hg k1 k2 k3 k4 k5 k6 k7 ⊢
   have f0:=facts u a r n k1 k2 h1 k4 k5 k6 k7
   by_cases h:(i:Int)<L.length
   ·obtain⟨s,hx⟩:=get_some (l:=L) (i:=i) (by omega)
    obtain⟨b,o,rfl,hrow,hrd⟩:=hs.get (dn (f:=enc) hx)
    have r0:=hrd 0 _ rfl
    have r1:=hrd 1 _ rfl
    rw[Nat.add_zero]at r0
    have e1:=dA (i:=i) (by omega)
    rw[drop_cons hx]at hn hg
    obtain⟨g1,g2,g3,g4,g5⟩:=gy hg
    by_cases hlt:s.at_<u
    ·have f1:=facts s.at_ a r n k1 (by omega) g2 k4 k5 k6 k7
     simp only[qJ,hlt,if_true]at hn
     simp -dsimp(maxSteps:=4000000) only[h,r0,r1,hlt,f1.1,f1.2.1,f1.2.2.1,f1.2.2.2.1,go_sem]
     refine fZ.quiet mixed (by kernel_rfl) ?_
     simp -dsimp(maxSteps:=4000000) only[h,r0,r1,e1,go_sem]
     exact again (i+1,n+(s.at_ - a)*(1000000+r),s.at_,s.rate,s.at_) _ _ ⟨by simp only;omega,hn,g5,by simp only;omega,by simp only;omega,by simp only;omega,g3,g4,f1.2.2.2.2.1,f1.2.2.2.2.2⟩ (bZ.aS (by simp -dsimp(maxSteps:=4000000) only[go_sem])) (AH.le_refl _) (by simp only;omega)
    ·simp only[qJ,hlt,if_false]at hn
     simp -dsimp(maxSteps:=4000000) only[h,r0,hlt,go_sem]
     refine out _ _ _ (by simp) ?_
     rw[hn]at hw
     simp -dsimp(maxSteps:=4000000) only[f0.1,f0.2.1,f0.2.2.1,f0.2.2.2.1,hw,go_sem]
     exact⟨H,(AH.le_refl _),(by first | exact⟨by rw[hn],rfl⟩ | rfl)⟩
   ·have hiL:i=L.length:=by omega
    rw[hiL,List.drop_length]at hn
    simp only[qJ]at hn
    simp -dsimp(maxSteps:=4000000) only[h,go_sem]
    refine out _ _ _ (by simp) ?_
    rw[hn]at hw
    simp -dsimp(maxSteps:=4000000) only[f0.1,f0.2.1,f0.2.2.1,f0.2.2.2.1,hw,go_sem]
    exact⟨H,(AH.le_refl _),(by first | exact⟨by rw[hn],rfl⟩ | rfl)⟩
def FW (p:Int→Bool):Nat→Int→Int→Int
 |0,i,_=>i
 |k+1,i,j=>if i<j then if p ((i+j) / 2) then FW p k i ((i+j) / 2) else FW p k ((i+j) / 2+1) j else i
theorem Ee {p:Int→Bool} {k:Nat} {i j:Int} (h:i<j):FW p (k+1) i j=if p ((i+j) / 2) then FW p k i ((i+j) / 2) else FW p k ((i+j) / 2+1) j:=by
 rw[FW,if_pos h]
theorem Ia {p:Int→Bool} {k:Nat} {i j:Int} (h:¬ i<j):FW p k i j=i:=by cases k<;>simp[FW,h]
theorem Ue (g:Nat) (caps:List Value) (hok:fA Tryz.prog g=true) (p:Int→Bool) (n:Int) (hn0:0≤n) (hn:n≤4294967296) (H:AH)
  (hcall:∀ h:Int,0≤h→h<n→aO Tryz.prog g (Value.int .i64 h::caps).toArray H (fun v H'=>v=.bool (p h)∧H=H')) :
  aO Tryz.prog 107 #[.int .i64 n,.func (.func g) (List.toArray []) caps.toArray] H (fun v H'=>v=.int .i64 (FW p 33 0 n)∧H=H'):=by
 generalize hR:FW p 33 0 n=R
 refine aO.cu Tryz.func107 rfl Tryz.ntmps107 Tryz.results107 (by simp) ?_;simp -dsimp(maxSteps:=4000000) only[hok,go_sem]
 refine fZ.gQ (ι:=Int×Int×Nat) (fun q=>0≤q.1∧q.1≤q.2.1∧q.2.1≤n∧q.2.1 - q.1<2 ^ q.2.2∧R=FW p q.2.2 q.1 q.2.1)
  (fun q=>[(5,.int .i64 q.1),(6,.int .i64 q.2.1),(1,.func (.func g) (List.toArray []) caps.toArray)])
  (fun _=>H) (fun q=>(q.2.1 - q.1).toNat) (0,n,33) ⟨by simp,by simpa using hn0,by simp,by simp only;omega,hR.symm⟩ (bZ.aS ?_) (AH.le_refl _) fun q hi Q again out=>?_
 ·simp -dsimp(maxSteps:=4000000) only[hok,go_sem]
 ·obtain⟨i,j,k⟩:=q
  obtain⟨k1,k2,k3,k4,k5⟩:=hi
  simp only at k1 k2 k3 k4 k5 ⊢
  by_cases h:i<j
  ·cases k with
   |zero=>simp at k4;omega
   |succ k=>
    have hp:(2:Int) ^ (k+1)=2 ^ k*2:=Int.pow_succ _ _
    have e1:IntKind.i64.wrap (i+j)=i+j:=eH (by omega) (by omega)
    have e2:IntKind.u64.wrap (i+j)=i+j:=Ri (by omega) (by omega)
    have e3:(i+j).fdiv (2 ^ min 1 IntKind.u64.bits)=(i+j) / 2:=by
     rw[show min 1 IntKind.u64.bits=1 from rfl,fdiv_pow];rfl
    have e4:IntKind.i64.wrap ((i+j) / 2)=(i+j) / 2:=eH (by omega) (by omega)
    have e5:IntKind.i64.wrap ((i+j) / 2+1)=(i+j) / 2+1:=eH (by omega) (by omega)
    rw[Ee h]at k5
    have e3':(i+j).fdiv (2 ^ min 1 64)=(i+j) / 2:=e3
    simp -dsimp(maxSteps:=4000000) only[h,e1,e2,e3',e4,hok,go_sem]
    refine(hcall ((i+j) / 2) (by omega) (by omega)).mono ?_;rintro _ _ ⟨rfl,rfl⟩
    cases hp':p ((i+j) / 2) with
    |true=>
     simp only[hp',if_true]at k5
     simp -dsimp(maxSteps:=4000000) only[hok,go_sem]
     exact again (i,(i+j) / 2,k) _ _ ⟨by simp only;omega,by simp only;omega,by simp only;omega,by simp only;omega,k5⟩ (bZ.aS (by simp -dsimp(maxSteps:=4000000) only[hok,go_sem])) (AH.le_refl _) (by simp only;omega)
    |false=>
     simp only[hp',Bool.false_eq_true,if_false]at k5
     simp -dsimp(maxSteps:=4000000) only[e5,hok,go_sem]
     exact again ((i+j) / 2+1,j,k) _ _ ⟨by simp only;omega,by simp only;omega,by simp only;omega,by simp only;omega,k5⟩ (bZ.aS (by simp -dsimp(maxSteps:=4000000) only[hok,go_sem])) (AH.le_refl _) (by simp only;omega)
  ·rw[Ia h]at k5
   simp -dsimp(maxSteps:=4000000) only[h,hok,go_sem]
   refine out _ _ _ (by simp) ?_
   simp -dsimp(maxSteps:=4000000) only[hok,go_sem]
   exact⟨H,(AH.le_refl _),(by first | exact⟨by rw[k5],rfl⟩ | rfl)⟩
def bJ (L:List Stp) (n:Int):Int:=FW (fun t=>decide (n≤fK L t)) 33 0 4294967296
theorem Xv (L:List Stp) (n:Int) (hg:good L=true) (base:Option Addr) (cap b1 b2:Nat) (H:AH) (hs:bG H 2 base cap (L.map enc)) (h1:H.rd ⟨b1,0,none⟩=some (.slice base L.length cap)) (h2:H.rd ⟨b2,0,none⟩=some (.int .i64 n)) (t:Int) :
  aO Tryz.prog 108 #[.int .i64 t,.pointer (some ⟨b1,0,none⟩),.pointer (some ⟨b2,0,none⟩)] H (fun v H'=>v=.bool (decide (n≤fK L t))∧H=H'):=by
 refine aO.cu Tryz.func108 rfl Tryz.ntmps108 Tryz.results108 (by simp) ?_;simp -dsimp(maxSteps:=4000000) only[h1,h2,go_sem]
 refine fZ.quiet mixed (by kernel_rfl) ?_
 simp -dsimp(maxSteps:=4000000) only[h1,h2,go_sem]
 refine BP.mk (OC L t hg base cap _ hs) ?_
 simp -dsimp(maxSteps:=4000000) only[h1,h2,go_sem]
 exact⟨H,(AH.le_refl _),(by first | exact⟨rfl,rfl⟩ | rfl)⟩
theorem vN (L:List Stp) (n:Int) (hg:good L=true) (base:Option Addr) (cap:Nat) (H:AH) (hs:bG H 2 base cap (L.map enc)) :
  aO Tryz.prog 64 #[.slice base L.length cap,.int .i64 n] H (fun v H'=>v=.int .i64 (bJ L n)∧H=H'):=by
 refine aO.cu Tryz.func64 rfl Tryz.ntmps64 Tryz.results64 (by simp) ?_;simp -dsimp(maxSteps:=4000000) only[go_sem]
 refine bY.mk fun b1 iy=>?_;have aP:=iy;(try simp only[ah,aj,ne_eq]at aP);have aY:=aP;(try simp only[@eq_comm Nat b1]at aY);simp -dsimp(maxSteps:=4000000) only[aP,aY,go_sem]
 refine bY.mk fun b2 nY=>?_;have dK:=nY;(try simp only[ah,aj,ne_eq]at dK);have dV:=dK;(try simp only[@eq_comm Nat b2]at dV);simp -dsimp(maxSteps:=4000000) only[aP,aY,dK,dV,go_sem]
 refine(Ue 108 [.pointer (some ⟨b1,0,none⟩),.pointer (some ⟨b2,0,none⟩)] Zg (fun t=>decide (n≤fK L t)) 4294967296 (by omega) (by omega) _ (fun t _ _=>
  Xv L n hg base cap b1 b2 _ ((hs.add iy).add nY) (by simp -dsimp(maxSteps:=4000000) only[aP,aY,dK,dV,go_sem]) (by simp -dsimp(maxSteps:=4000000) only[aP,aY,dK,dV,go_sem]) t)).mono ?_
 rintro _ _ ⟨rfl,rfl⟩
 simp -dsimp(maxSteps:=4000000) only[aP,aY,dK,dV,go_sem]
 exact⟨H,(AH.aK (AH.aK (AH.le_refl _) ((by simp only[ah,aj,ne_eq,aP,not_false_eq_true,and_self]:aG _ b1).2)) ((by simp only[ah,aj,ne_eq,dK,not_false_eq_true,and_self]:aG _ b2).2)),(by first | exact⟨rfl,rfl⟩ | rfl)⟩
theorem kS (L:List Stp) (n:Int) (hg:good L=true) (base:Option Addr) (cap:Nat) (H:AH) (hs:bG H 2 base cap (L.map enc)) :
  aO Tryz.prog 41 #[.slice base L.length cap,.int .i64 n] H (fun v H'=>v=.int .i64 (bJ L n)∧H=H'):=by
 refine aO.cu Tryz.func41 rfl Tryz.ntmps41 Tryz.results41 (by simp) ?_;simp -dsimp(maxSteps:=4000000) only[go_sem]
 refine fZ.gQ (ι:=Int×Int×Nat) (fun q=>0≤q.1∧q.1≤q.2.1∧q.2.1≤4294967296∧q.2.1 - q.1<2 ^ q.2.2∧bJ L n=FW (fun t=>decide (n≤fK L t)) q.2.2 q.1 q.2.1)
  (fun q=>[(5,.int .i64 q.1),(6,.int .i64 q.2.1),(0,.slice base L.length cap),(1,.int .i64 n)])
  (fun _=>H) (fun q=>(q.2.1 - q.1).toNat) (0,4294967296,33) ⟨by simp,by simp,by simp,by simp,rfl⟩ (bZ.aS ?_) (AH.le_refl _) fun q hi Q again out=>?_
 ·simp -dsimp(maxSteps:=4000000) only[go_sem]
 ·obtain⟨i,j,k⟩:=q
  obtain⟨k1,k2,k3,k4,k5⟩:=hi
  simp only at k1 k2 k3 k4 k5 ⊢
  by_cases h:i<j
  ·cases k with
   |zero=>simp at k4;omega
   |succ k=>
    have hp:(2:Int) ^ (k+1)=2 ^ k*2:=Int.pow_succ _ _
    have e1:IntKind.i64.wrap (j - i)=j - i:=eH (by omega) (by omega)
    have e2:(j - i).tdiv 2=(j - i) / 2:=Int.tdiv_eq_ediv_of_nonneg (by omega)
    have e3:IntKind.i64.wrap ((j - i) / 2)=(j - i) / 2:=eH (by omega) (by omega)
    have e4:IntKind.i64.wrap (i+(j - i) / 2)=(i+j) / 2:=by rw[eH (by omega) (by omega)];omega
    have e5:IntKind.i64.wrap ((i+j) / 2+1)=(i+j) / 2+1:=eH (by omega) (by omega)
    rw[Ee h]at k5
    simp -dsimp(maxSteps:=4000000) only[h,e1,e2,e3,e4,go_sem]
    refine(Ed L ((i+j) / 2) hg base cap _ hs).mono ?_;rintro _ _ ⟨rfl,rfl⟩
    by_cases hp':n≤fK L ((i+j) / 2)
    ·simp only[hp',decide_true,if_true]at k5
     simp -dsimp(maxSteps:=4000000) only[hp',go_sem]
     exact again (i,(i+j) / 2,k) _ _ ⟨by simp only;omega,by simp only;omega,by simp only;omega,by simp only;omega,k5⟩ (bZ.aS (by simp -dsimp(maxSteps:=4000000) only[go_sem])) (AH.le_refl _) (by simp only;omega)
    ·simp only[hp',decide_false,Bool.false_eq_true,if_false]at k5
     simp -dsimp(maxSteps:=4000000) only[hp',e5,go_sem]
     exact again ((i+j) / 2+1,j,k) _ _ ⟨by simp only;omega,by simp only;omega,by simp only;omega,by simp only;omega,k5⟩ (bZ.aS (by simp -dsimp(maxSteps:=4000000) only[go_sem])) (AH.le_refl _) (by simp only;omega)
  ·rw[Ia h]at k5
   simp -dsimp(maxSteps:=4000000) only[h,go_sem]
   refine out _ _ _ (by simp) ?_
   simp -dsimp(maxSteps:=4000000) only[go_sem]
   exact⟨H,(AH.le_refl _),(by first | exact⟨by rw[k5],rfl⟩ | rfl)⟩
theorem Ac (t:Int):∀ (l:List Stp) (last:Int),iT last l=true→-20000≤sumT (t+1) l - sumT t l∧sumT (t+1) l - sumT t l≤20000
 | [],_,_=>by simp[sumT]
 | [s],last,h=>by
  obtain⟨g1,g2,g3,g4,_⟩:=gy h
  simp only[sumT,nR,Int.add_zero]
  by_cases hs:t+1≤s.at_
  ·rw[o7 (show t+1 - s.at_≤0 from by omega),o7 (show t - s.at_≤0 from by omega)];omega
  ·rw[rD (show 0≤t+1 - s.at_ from by omega),rD (show 0≤t - s.at_ from by omega),show t+1 - s.at_=(t - s.at_)+1 from by omega,Int.add_mul,Int.one_mul];omega
 |s::s'::l,last,h=>by
  obtain⟨g1,g2,g3,g4,g5⟩:=gy h
  obtain⟨k1,k2,k3,k4,k5⟩:=gy g5
  have e:∀ u,sumT u (s::s'::l)=pos ((if s'.at_<u then s'.at_ else u) - s.at_)*s.rate+sumT u (s'::l):=fun u=>rfl
  rw[e,e]
  by_cases hs:t+1≤s'.at_
  ·have hg:iT (s'.at_ - 1) (s'::l)=true:=by simp only[iT,xC (last:=s'.at_ - 1) (s:=s') (by omega),k5,Bool.and_self]
   rw[nT (t+1) (s'::l) _ hg (by omega),nT t (s'::l) _ hg (by omega),if_neg (by omega),if_neg (by omega)]
   by_cases hs2:t+1≤s.at_
   ·rw[o7 (show t+1 - s.at_≤0 from by omega),o7 (show t - s.at_≤0 from by omega)];omega
   ·rw[rD (show 0≤t+1 - s.at_ from by omega),rD (show 0≤t - s.at_ from by omega),show t+1 - s.at_=(t - s.at_)+1 from by omega,Int.add_mul,Int.one_mul];omega
  ·have ih:=Ac t (s'::l) _ g5
   have e2:(if s'.at_<t+1 then s'.at_ else t+1)=(if s'.at_<t then s'.at_ else t):=by split<;>split<;>omega
   rw[e2];omega
theorem qA {t:Int} (h0:0≤t) (h1:t≤4294967296):clamp t=t:=by unfold clamp pos;(repeat' split)<;>omega
theorem MW {L:List Stp} (hg:good L=true) {t:Int} (h0:0≤t) (h1:t<4294967296):fK L t≤fK L (t+1):=by
 rw[(jA hg t).1,(jA hg (t+1)).1,qA h0 (by omega),qA (by omega) (by omega)]
 have:=Ac t L _ (nS hg).2
 omega
theorem FX {L:List Stp} (hg:good L=true) {t:Int} (h0:0≤t) (h1:t<4294967296):fK L t≤t+t / 50+1∧t - t / 50 - 1≤fK L t:=by
 rw[(jA hg t).1,qA h0 (by omega)]
 have:=qy h0 (nS hg).2
 omega
theorem Ef (p:Int→Bool):∀ (k:Nat) (i j:Int),0≤i→i≤j→j - i<2 ^ k→i≤FW p k i j∧FW p k i j≤j∧(FW p k i j=j∨p (FW p k i j)=true)∧(FW p k i j=i∨p (FW p k i j - 1)=false)
 |0,i,j,h0,h1,h2=>by
  simp at h2
  have e:FW p 0 i j=i:=rfl
  rw[e]
  exact⟨by omega,by omega,.inl (by omega),.inl rfl⟩
 |k+1,i,j,h0,h1,h2=>by
  have hp:(2:Int) ^ (k+1)=2 ^ k*2:=Int.pow_succ _ _
  by_cases h:i<j
  ·rw[Ee h]
   cases hh:p ((i+j) / 2) with
   |true=>
    simp only[if_true]
    obtain⟨a,b,c,d⟩:=Ef p k i ((i+j) / 2) h0 (by omega) (by omega)
    refine⟨a,by omega,.inr ?_,d⟩
    rcases c with c | c
    ·rw[c];exact hh
    ·exact c
   |false=>
    simp only[Bool.false_eq_true,if_false]
    obtain⟨a,b,c,d⟩:=Ef p k ((i+j) / 2+1) j (by omega) (by omega) (by omega)
    refine⟨by omega,b,c,.inr ?_⟩
    rcases d with d | d
    ·rw[d,show(i+j) / 2+1 - 1=(i+j) / 2 from by omega];exact hh
    ·exact d
  ·rw[Ia h]
   exact⟨by omega,by omega,.inl (by omega),.inl rfl⟩
theorem jR (L:List Stp) (y:Int):0≤bJ L y∧bJ L y≤4294967296∧(bJ L y=4294967296∨decide (y≤fK L (bJ L y))=true)∧(bJ L y=0∨decide (y≤fK L (bJ L y - 1))=false):=
 Ef (fun t=>decide (y≤fK L t)) 33 0 4294967296 (by omega) (by omega) (by omega)
end Go.Proofs.YtbhamhhjicehaaaGreatDoor.wJ
/- wire: awake; WireJoins; WireFalls. -/
namespace Go.Proofs.YtbhamhhjicehaaaGreatDoor.lV
open Go Go.AX Go.Proofs Ty Go.Proofs.YtbhamhhjicehaaaGreatDoor.kK Go.Proofs.YtbhamhhjicehaaaGreatDoor.wI
theorem zl {R:List Sp} (h:Plain R):jZ R R:=⟨h,fun _=>Iff.rfl,Nat.le_refl _,fun s hs=>⟨⟨s,hs,rfl⟩,⟨s,hs,rfl⟩⟩⟩
end Go.Proofs.YtbhamhhjicehaaaGreatDoor.lV
/- send: Window, Spans and the reference's Spans: what each comes to. -/
namespace Go.Proofs.YtbhamhhjicehaaaGreatDoor.Send
open Go Go.AX Go.Proofs Ty Go.Proofs.YtbhamhhjicehaaaGreatDoor.kK Go.Proofs.YtbhamhhjicehaaaGreatDoor.lV Go.Proofs.YtbhamhhjicehaaaGreatDoor.wJ
def KL (L:List Stp) (t:Int) (i:Nat):Sp:=(bJ L (t+16*i),bJ L (t+16*i+16))
def qB (L:List Stp) (t:Int) (F:List Bool):Nat→List Sp
 |0=>[]
 |i+1=>qB L t F i++if F[i]?=some false then [KL L t i] else []
theorem wH (L:List Stp) (t:Int) (F:List Bool):∀ i,(qB L t F i).length≤i
 |0=>Nat.le_refl _
 |i+1=>by
  have:=wH L t F i
  rw[qB,List.length_append]
  split<;>simp<;>omega
theorem Ib {L:List Stp} {t:Int} {F:List Bool}:∀ {i:Nat} {s:Sp},s∈qB L t F i→∃ j,j<i∧s=KL L t j
 |0,s,h=>by cases h
 |i+1,s,h=>by
  rcases List.mem_append.1 h with h | h
  ·obtain⟨j,hj,e⟩:=Ib h
   exact⟨j,by omega,e⟩
  ·split at h
   ·simp at h;exact⟨i,by omega,h⟩
   ·cases h
theorem Uf (L:List Stp) (t:Int) (F:List Bool) (i:Nat):∀ s∈qB L t F i,H7 s=true:=fun s hs=>by
 obtain⟨j,_,rfl⟩:=Ib hs
 have h1:=jR L (t+16*j)
 have h2:=jR L (t+16*j+16)
 refine vJ.2 ?_
 simp only[KL]
 omega
theorem Xw (L:List Stp) (t:Int) (h0:0≤t) (h1:t≤4294967296) (F:List Bool) (hF:F.length=11) (hg:good L=true) (base:Option Addr) (cap:Nat) (H:AH) (hs:bG H 2 base cap (L.map enc)) :
  aO Tryz.prog 33 #[.slice base L.length cap,.int .i64 t,.agg (F.map Value.bool).toArray] H (fun v H'=>∃ R b c,v=.slice b R.length c∧jZ (qB L t F 11) R∧bG H' 2 b c (R.map dN)∧Keep H H' fun _=>False):=by
 refine aO.cu Tryz.func33 rfl Tryz.ntmps33 Tryz.results33 (by simp) ?_;simp -dsimp(maxSteps:=4000000) only[go_sem]
 refine bY.mk fun b5 iW=>?_
 simp -dsimp(maxSteps:=4000000) only[gZ,hF,go_sem]
 refine fZ.jE (ι:=Nat×Option Addr×Nat) (fun x A=>x.1≤11∧fJ H A 85 2 x.2.1 x.2.2 ((qB L t F x.1).map dN)∧Keep H A fun _=>False)
  (fun x=>[(12,.int .i64 x.1),(11,.agg (F.map Value.bool).toArray),(7,.slice x.2.1 (qB L t F x.1).length x.2.2),(0,.slice base L.length cap),(1,.int .i64 t)]) (fun x=>11 - x.1) (0,none,0) (H.add b5 (.cells (F.map Value.bool) 87 F.length))
  ⟨by simp,fJ.nil,Keep.refl.nw iW⟩ (bZ.aS ?_) (AH.le_refl _) fun x A hi Q again out=>?_
 ·simp -dsimp(maxSteps:=4000000) only[hF,go_sem]
  rfl
 clear iW
 obtain⟨i,bo,co⟩:=x
 obtain⟨hi,hO,hK⟩:=hi
 dsimp only at hi hO again ⊢
 have hfl:=wH L t F i
 by_cases h:(i:Int)<11
 case neg=>
  obtain rfl:i=11:=by omega
  simp -dsimp(maxSteps:=4000000) only[h,hF,go_sem]
  refine out _ _ _ (by simp) ?_
  simp -dsimp(maxSteps:=4000000) only[hF,go_sem]
  refine bY.mk fun b34 adD=>?_
  simp -dsimp(maxSteps:=4000000) only[hF,go_sem]
  refine(H9 adD hO.slc (by omega)).mono ?_;rintro _ A' ⟨R,b,c,rfl,hJ,hR,hK'⟩
  simp -dsimp(maxSteps:=4000000) only[hF,go_sem]
  exact⟨A',AH.le_refl _,R,b,c,rfl,hJ,hR,hK.trans hK'⟩
 obtain⟨x,hx⟩:=get_some (l:=F) (i:=i) (by omega)
 have hr:(F.map Value.bool)[i]?=some (.bool x):=by rw[List.getElem?_map,hx];rfl
 have ee:=dA (i:=i) (by omega)
 have p0:(0:Int)≤(i:Int):=by omega
 have e1:IntKind.i64.wrap (16*(i:Int))=16*i:=eH (by omega) (by omega)
 have e2:IntKind.i64.wrap (t+16*i)=t+16*i:=eH (by omega) (by omega)
 have e3:IntKind.i64.wrap (t+16*i+16)=t+16*i+16:=eH (by omega) (by omega)
 have hsA:=hs.keep hK fun _ _ h=>h
 cases x with
 |true=>
  have hst:qB L t F (i+1)=qB L t F i:=by rw[qB,hx];simp
  simp -dsimp(maxSteps:=4000000) only[h,hr,p0,ee,hF,go_sem]
  refine again (i+1,bo,co) _ A _ ⟨by simp only;omega,by simp only[hst];exact hO,hK⟩ (bZ.aS ?_) (AH.le_refl _) (by simp only;omega)
  rw[hst]
  simp -dsimp(maxSteps:=4000000) only[hF,go_sem]
 |false=>
  have hst:qB L t F (i+1)=qB L t F i++[KL L t i]:=by rw[qB,hx];simp
  simp -dsimp(maxSteps:=4000000) only[h,hr,p0,e1,e2,hF,go_sem]
  refine(vN L (t+16*i) hg base cap _ hsA).mono ?_;rintro _ _ ⟨rfl,rfl⟩
  simp -dsimp(maxSteps:=4000000) only[e3,hF,go_sem]
  refine(vN L (t+16*i+16) hg base cap _ hsA).mono ?_;rintro _ _ ⟨rfl,rfl⟩
  simp -dsimp(maxSteps:=4000000) only[hF,go_sem]
  refine bY.mk fun b41 vK=>?_
  simp -dsimp(maxSteps:=4000000) only[hF,go_sem]
  refine lS.nD (x:=.slice (some ⟨b41,0,none⟩) 1 1) (R':=[dN (KL L t i)]) (m:=1) (hO.added vK) (hK.nw vK).all uQ rfl (by decide) (by rw[Tryz.underlying36];rfl) (by simp) rfl rfl (by rw[iF,fO];rfl) (by simp[dN]) (by simp[dN,iM]) (by omega) fun gV cap2 A' kJ hK' hN'=>?_
  refine⟨_,AH.le_refl _,?_⟩
  simp -dsimp(maxSteps:=4000000) only[ee,hF,go_sem]
  have hK2:=(hK.nw vK).ow hK' fun b ⟨a,ha,e⟩=>e▸hO.fresh a ha
  have he:(qB L t F i).map dN++[dN (KL L t i)]=(qB L t F (i+1)).map dN:=by rw[hst,List.map_append];rfl
  rw[he]at kJ
  refine again (i+1,gV,cap2) _ _ _ ⟨by simp only;omega,kJ,hK2⟩ (bZ.aS ?_) (AH.le_refl _) (by simp only;omega)
  have hl1:(qB L t F (i+1)).length=(qB L t F i).length+1:=by rw[hst];simp
  rw[hl1]
  simp -dsimp(maxSteps:=4000000) only[hF,go_sem]
theorem MX (L:List Stp) (t:Int) (h0:0≤t) (h1:t≤4294967296) (F:List Bool) (hF:F.length=11) (hg:good L=true) (base:Option Addr) (cap:Nat) (H:AH) (hs:bG H 2 base cap (L.map enc)) :
  aO Tryz.prog 93 #[.slice base L.length cap,.int .i64 t,.agg (F.map Value.bool).toArray] H (fun v H'=>∃ R b c,v=.slice b R.length c∧jZ (qB L t F 11) R∧bG H' 2 b c (R.map dN)∧Keep H H' fun _=>False):=by
 refine aO.cu Tryz.func93 rfl Tryz.ntmps93 Tryz.results93 (by simp) ?_;simp -dsimp(maxSteps:=4000000) only[go_sem]
 refine bY.mk fun b5 iW=>?_
 simp -dsimp(maxSteps:=4000000) only[hF,go_sem]
 refine bY.mk fun b9 iI=>?_
 simp -dsimp(maxSteps:=4000000) only[hF,go_sem]
 refine fZ.jE (ι:=Nat×Option Addr×Nat) (fun x A=>x.1≤11∧fJ (H.add b5 (.cells (F.map Value.bool) 87 F.length)) A 85 2 x.2.1 x.2.2 ((qB L t F x.1).map dN)∧Keep (H.add b5 (.cells (F.map Value.bool) 87 F.length)) A fun _=>False)
  (fun x=>[(8,.int .i64 x.1),(5,.pointer (some ⟨b5,0,none⟩)),(7,.slice x.2.1 (qB L t F x.1).length x.2.2),(0,.slice base L.length cap),(1,.int .i64 t)]) (fun x=>11 - x.1) (0,some ⟨b9,0,none⟩,0) ((H.add b5 (.cells (F.map Value.bool) 87 F.length)).add b9 (.cells [] 85 0))
  ⟨by simp,fJ.new iI (AH.le_refl _) rfl rfl rfl (by simp[qB]) (by simp[qB]),Keep.refl.nw iI⟩ (bZ.aS ?_) (AH.le_refl _) fun x A hi Q again out=>?_
 ·simp -dsimp(maxSteps:=4000000) only[hF,go_sem]
  rfl
 clear iI
 obtain⟨i,bo,co⟩:=x
 obtain⟨hi,hO,hK⟩:=hi
 dsimp only at hi hO again ⊢
 have hfl:=wH L t F i
 by_cases h:(i:Int)<11
 case neg=>
  obtain rfl:i=11:=by omega
  simp -dsimp(maxSteps:=4000000) only[h,hF,go_sem]
  refine out _ _ _ (by simp) ?_
  simp -dsimp(maxSteps:=4000000) only[hF,go_sem]
  refine(wG _ _ _ _ hO.slc (Uf L t F 11) (by omega)).mono ?_;rintro _ A' ⟨R,b,c,rfl,hJ,hR,hK'⟩
  simp -dsimp(maxSteps:=4000000) only[hF,go_sem]
  exact⟨A',AH.le_refl _,R,b,c,rfl,hJ,hR,(Keep.refl.nw iW).trans (hK.trans hK')⟩
 obtain⟨x,hx⟩:=get_some (l:=F) (i:=i) (by omega)
 have hr:(F.map Value.bool)[i]?=some (.bool x):=by rw[List.getElem?_map,hx];rfl
 have ee:=dA (i:=i) (by omega)
 have p0:(0:Int)≤(i:Int):=by omega
 have q0:A.rd ⟨b5,i,none⟩=some (.bool x):=by rw[gB (hK.find (fun h=>h) (aH _ _ _))];exact hr
 have hi':i<11:=by omega
 have e1:IntKind.i64.wrap (16*(i:Int))=16*i:=eH (by omega) (by omega)
 have e2:IntKind.i64.wrap (t+16*i)=t+16*i:=eH (by omega) (by omega)
 have e3:IntKind.i64.wrap (t+16*i+16)=t+16*i+16:=eH (by omega) (by omega)
 have hsA:=(hs.add iW).keep hK fun _ _ h=>h
 cases x with
 |true=>
  have hst:qB L t F (i+1)=qB L t F i:=by rw[qB,hx];simp
  simp -dsimp(maxSteps:=4000000) only[h,q0,p0,ee,Nat.zero_add,Nat.mul_one,hF,go_sem]
  refine again (i+1,bo,co) _ A _ ⟨by simp only;omega,by simp only[hst];exact hO,hK⟩ (bZ.aS ?_) (AH.le_refl _) (by simp only;omega)
  rw[hst]
  simp -dsimp(maxSteps:=4000000) only[hF,go_sem]
 |false=>
  have hst:qB L t F (i+1)=qB L t F i++[KL L t i]:=by rw[qB,hx];simp
  simp -dsimp(maxSteps:=4000000) only[h,q0,p0,e1,e2,Nat.zero_add,Nat.mul_one,hF,go_sem]
  refine(kS L (t+16*i) hg base cap _ hsA).mono ?_;rintro _ _ ⟨rfl,rfl⟩
  simp -dsimp(maxSteps:=4000000) only[e1,e2,e3,hF,go_sem]
  refine(kS L (t+16*i+16) hg base cap _ hsA).mono ?_;rintro _ _ ⟨rfl,rfl⟩
  simp -dsimp(maxSteps:=4000000) only[hF,go_sem]
  refine bY.mk fun b41 vK=>?_
  simp -dsimp(maxSteps:=4000000) only[hF,go_sem]
  refine lS.nD (x:=.slice (some ⟨b41,0,none⟩) 1 1) (R':=[dN (KL L t i)]) (m:=1) (hO.added vK) (hK.nw vK).all uQ rfl (by decide) (by rw[Tryz.underlying36];rfl) (by simp) rfl rfl (by rw[iF,fO];rfl) (by simp[dN]) (by simp[dN,iM]) (by omega) fun gV cap2 A' kJ hK' hN'=>?_
  refine⟨_,AH.le_refl _,?_⟩
  simp -dsimp(maxSteps:=4000000) only[ee,hF,go_sem]
  have hK2:=(hK.nw vK).ow hK' fun b ⟨a,ha,e⟩=>e▸hO.fresh a ha
  have he:(qB L t F i).map dN++[dN (KL L t i)]=(qB L t F (i+1)).map dN:=by rw[hst,List.map_append];rfl
  rw[he]at kJ
  refine again (i+1,gV,cap2) _ _ _ ⟨by simp only;omega,kJ,hK2⟩ (bZ.aS ?_) (AH.le_refl _) (by simp only;omega)
  have hl1:(qB L t F (i+1)).length=(qB L t F i).length+1:=by rw[hst];simp
  rw[hl1]
  simp -dsimp(maxSteps:=4000000) only[hF,go_sem]
end Go.Proofs.YtbhamhhjicehaaaGreatDoor.Send
/- send: SendOwn. -/
namespace Go.Proofs.YtbhamhhjicehaaaGreatDoor.Send
open Go Go.AX Go.Proofs Ty Go.Proofs.YtbhamhhjicehaaaGreatDoor.kK Go.Proofs.YtbhamhhjicehaaaGreatDoor.lV Go.Proofs.YtbhamhhjicehaaaGreatDoor.wJ
theorem Yx {L:List Stp} (hg:good L=true):∀ (n:Nat) {a b:Int},0≤a→a≤b→b≤4294967296→b - a≤n→fK L a≤fK L b
 |0,a,b,h0,h1,h2,h3=>by
  have:a=b:=by omega
  rw[this];exact Int.le_refl _
 |n+1,a,b,h0,h1,h2,h3=>by
  by_cases h:a=b
  ·rw[h];exact Int.le_refl _
  ·have k1:=MW hg h0 (by omega)
   have k2:=Yx hg n (a:=a+1) (b:=b) (by omega) (by omega) h2 (by omega)
   omega
theorem aal {L:List Stp} (hg:good L=true) {a b:Int} (h0:0≤a) (h1:a≤b) (h2:b≤4294967296):fK L a≤fK L b:=Yx hg (b - a).toNat h0 h1 h2 (by omega)
theorem adE {L:List Stp} (hg:good L=true) {t:Int} (h0:0≤t) (h1:t<4294967296):fK L (t+1)≤fK L t+2:=by
 rw[(jA hg t).1,(jA hg (t+1)).1,qA h0 (by omega),qA (by omega) (by omega)]
 have:=Ac t L _ (nS hg).2
 omega
theorem adF {L:List Stp} (hg:good L=true):fK L 0=0:=by
 have:=FX hg (t:=0) (by omega) (by omega)
 rw[(jA hg 0).1,qA (by omega) (by omega)]
 have:=qy (t:=0) (by omega) (nS hg).2
 omega
theorem FY {L:List Stp} (hg:good L=true) {x y:Int} (h:x≤y):bJ L x≤bJ L y:=by
 obtain⟨a1,a2,a3,a4⟩:=jR L x
 obtain⟨b1,b2,b3,b4⟩:=jR L y
 rcases Int.lt_or_le (bJ L y) (bJ L x) with hlt | hle
 ·exfalso
  rcases a4 with a4 | a4
  ·omega
  ·rcases b3 with b3 | b3
   ·omega
   ·have c1:=of_decide_eq_false a4
    have c2:=of_decide_eq_true b3
    have c3:=aal hg b1 (show bJ L y≤bJ L x - 1 by omega) (by omega)
    omega
 ·exact hle
theorem OD {L:List Stp} (hg:good L=true) {x y:Int} (h0:0≤x) (h:x+2≤y) (hy:x≤4000000000):bJ L x<bJ L y:=by
 obtain⟨a1,a2,a3,a4⟩:=jR L x
 obtain⟨b1,b2,b3,b4⟩:=jR L y
 have hm:=FY hg (show x≤y by omega)
 rcases Int.lt_or_le (bJ L x) (bJ L y) with hlt | hle
 ·exact hlt
 ·exfalso
  have he:bJ L y=bJ L x:=by omega
  rw[he]at b3
  generalize bJ L x=g at *
  by_cases hz:g=0
  ·rcases b3 with b3 | b3
   ·omega
   ·have c2:=of_decide_eq_true b3
    rw[hz,adF hg]at c2
    omega
  ·rcases a4 with a4 | a4
   ·exact hz a4
   ·have c1:=of_decide_eq_false a4
    have c4:=FX hg (t:=g - 1) (by omega) (by omega)
    rcases b3 with b3 | b3
    ·subst b3
     omega
    ·have c2:=of_decide_eq_true b3
     have c3:=adE hg (t:=g - 1) (by omega) (by omega)
     rw[show g - 1+1=g by omega]at c3
     omega
theorem Ic {L:List Stp} {t:Int} {F:List Bool} {j:Nat} (h:F[j]?=some false):∀ i,j<i→KL L t j∈qB L t F i
 |0,hj=>by omega
 |i+1,hj=>by
  rw[qB,List.mem_append]
  by_cases hji:j=i
  ·subst hji;right;rw[if_pos h];simp
  ·exact .inl (Ic h i (by omega))
end Go.Proofs.YtbhamhhjicehaaaGreatDoor.Send
/- Oscillators off by one part of a hundred at most. -/
namespace Go.Proofs.YtbhamhhjicehaaaGreatDoor.Qm
open Go Go.AX Go.Proofs Ty Go.Proofs.YtbhamhhjicehaaaGreatDoor.wJ Go.Proofs.YtbhamhhjicehaaaGreatDoor.Send
def qW (c:Int) (L:List Stp):Prop:=∀ s∈L,-c≤s.rate∧s.rate≤c
abbrev calm (L:List Stp):Prop:=qW 10000 L
theorem Ae {c:Int} (hc0:0≤c) (t:Int):∀ (l:List Stp) (last:Int),iT last l=true→qW c l→-c≤sumT (t+1) l - sumT t l∧sumT (t+1) l - sumT t l≤c
 | [],_,_,_=>by simp[sumT];omega
 | [s],last,h,hc=>by
  obtain⟨g1,g2,_,_,_⟩:=gy h
  obtain⟨g3,g4⟩:=hc s (by simp)
  simp only[sumT,nR,Int.add_zero]
  by_cases hs:t+1≤s.at_
  ·rw[o7 (show t+1 - s.at_≤0 from by omega),o7 (show t - s.at_≤0 from by omega)];omega
  ·rw[rD (show 0≤t+1 - s.at_ from by omega),rD (show 0≤t - s.at_ from by omega),show t+1 - s.at_=(t - s.at_)+1 from by omega,Int.add_mul,Int.one_mul];omega
 |s::s'::l,last,h,hc=>by
  obtain⟨g1,g2,_,_,g5⟩:=gy h
  obtain⟨g3,g4⟩:=hc s (by simp)
  obtain⟨k1,k2,k3,k4,k5⟩:=gy g5
  have e:∀ u,sumT u (s::s'::l)=pos ((if s'.at_<u then s'.at_ else u) - s.at_)*s.rate+sumT u (s'::l):=fun u=>rfl
  rw[e,e]
  by_cases hs:t+1≤s'.at_
  ·have hg:iT (s'.at_ - 1) (s'::l)=true:=by simp only[iT,xC (last:=s'.at_ - 1) (s:=s') (by omega),k5,Bool.and_self]
   rw[nT (t+1) (s'::l) _ hg (by omega),nT t (s'::l) _ hg (by omega),if_neg (by omega),if_neg (by omega)]
   by_cases hs2:t+1≤s.at_
   ·rw[o7 (show t+1 - s.at_≤0 from by omega),o7 (show t - s.at_≤0 from by omega)];omega
   ·rw[rD (show 0≤t+1 - s.at_ from by omega),rD (show 0≤t - s.at_ from by omega),show t+1 - s.at_=(t - s.at_)+1 from by omega,Int.add_mul,Int.one_mul];omega
  ·have ih:=Ae hc0 t (s'::l) _ g5 fun x hx=>hc x (List.mem_cons_of_mem _ hx)
   have e2:(if s'.at_<t+1 then s'.at_ else t+1)=(if s'.at_<t then s'.at_ else t):=by split<;>split<;>omega
   rw[e2];omega
def V (L:List Stp) (t:Int):Int:=t*1000000+sumT t L
theorem Yy {L:List Stp} (hg:good L=true) (hc:calm L) (a:Int):∀ n:Nat,(n:Int)*990000≤V L (a+n) - V L a∧V L (a+n) - V L a≤(n:Int)*1010000
 |0=>by simp
 |n+1=>by
  have ih:=Yy hg hc a n
  have h:=Ae (c:=10000) (by omega) (a+n) L _ (nS hg).2 hc
  have e:a+((n+1:Nat):Int)=a+n+1:=by omega
  rw[e]
  unfold V at ih ⊢
  omega
theorem o8 {L:List Stp} (hg:good L=true) (hc:calm L) {a b:Int} (h:a≤b):(b - a)*990000≤V L b - V L a∧V L b - V L a≤(b - a)*1010000:=by
 have:=Yy hg hc a (b - a).toNat
 rw[show a+((b - a).toNat:Int)=b by omega,show((b - a).toNat:Int)=b - a by omega]at this
 exact this
theorem Ug {L:List Stp} (hg:good L=true) (hc:qW 2000 L) (a:Int):∀ n:Nat,(n:Int)*998000≤V L (a+n) - V L a∧V L (a+n) - V L a≤(n:Int)*1002000
 |0=>by simp
 |n+1=>by
  have ih:=Ug hg hc a n
  have h:=Ae (c:=2000) (by omega) (a+n) L _ (nS hg).2 hc
  have e:a+((n+1:Nat):Int)=a+n+1:=by omega
  rw[e]
  unfold V at ih ⊢
  omega
theorem Kt {L:List Stp} (hg:good L=true) (hc:qW 2000 L) {a b:Int} (h:a≤b):(b - a)*998000≤V L b - V L a∧V L b - V L a≤(b - a)*1002000:=by
 have:=Ug hg hc a (b - a).toNat
 rw[show a+((b - a).toNat:Int)=b by omega,show((b - a).toNat:Int)=b - a by omega]at this
 exact this
theorem Eh {L:List Stp} (hg:good L=true):V L 0=0:=by
 have:=qy (t:=0) (by omega) (nS hg).2
 unfold V
 omega
theorem BL {L:List Stp} (hg:good L=true) {t:Int} (h0:0≤t) (h1:t≤4294967296):fK L t=V L t / 1000000:=by
 rw[(jA hg t).1,qA h0 h1];rfl
theorem Ku {L:List Stp} (hg:good L=true) (hc:calm L) {x:Int} (h0:0≤x) (h1:x≤1200000000) :
  0≤bJ L x∧bJ L x≤2000000000∧x*1000000≤V L (bJ L x)∧(bJ L x=0∨V L (bJ L x - 1)<x*1000000):=by
 obtain⟨a1,a2,a3,a4⟩:=jR L x
 generalize bJ L x=u at *
 have hz:=Eh hg
 by_cases hu:u=0
 ·subst hu
  rcases a3 with a3 | a3
  ·omega
  ·have:=of_decide_eq_true a3
   rw[BL hg (by omega) (by omega)]at this
   exact⟨by omega,by omega,by omega,.inl rfl⟩
 ·have hb:V L (u - 1)<x*1000000:=by
   rcases a4 with a4 | a4
   ·exact absurd a4 hu
   ·have:=of_decide_eq_false a4
    rw[BL hg (by omega) (by omega)]at this
    omega
  have hr:=o8 hg hc (a:=0) (b:=u - 1) (by omega)
  refine⟨a1,by omega,?_,.inr hb⟩
  rcases a3 with a3 | a3
  ·omega
  ·have:=of_decide_eq_true a3
   rw[BL hg (by omega) (by omega)]at this
   omega
theorem gap {L:List Stp} (hg:good L=true) (hc:calm L) {x k:Int} (h0:0≤x) (hk:2≤k) (hk2:k≤1000) (h1:x≤1100000000) :
  bJ L x<bJ L (x+k)∧(bJ L (x+k) - 1 - bJ L x)*990000<k*1000000∧k*1000000≤(bJ L (x+k) - bJ L x+1)*1010000:=by
 obtain⟨a1,a2,a3,a4⟩:=Ku hg hc h0 (by omega:x≤1200000000)
 obtain⟨b1,b2,b3,b4⟩:=Ku hg hc (x:=x+k) (by omega) (by omega)
 have hz:=Eh hg
 have hs:=OD hg h0 (show x+2≤x+k by omega) (by omega)
 generalize bJ L x=u at *
 generalize bJ L (x+k)=v at *
 have r1:=o8 hg hc (a:=u) (b:=v - 1) (by omega)
 refine⟨hs,by omega,?_⟩
 rcases a4 with a4 | a4
 ·subst a4
  have r2:=o8 hg hc (a:=0) (b:=v) (by omega)
  omega
 ·have r2:=o8 hg hc (a:=u - 1) (b:=v) (by omega)
  omega
theorem Uh {L:List Stp} (h:qW 2000 L):calm L:=fun s hs=>by have:=h s hs;exact⟨by omega,by omega⟩
theorem near {L:List Stp} (hg:good L=true) (hc:qW 2000 L) {x:Int} (h0:0≤x) (h1:x≤4000):x - 8≤bJ L x∧bJ L x≤x+9:=by
 obtain⟨a1,a2,a3,a4⟩:=Ku hg (Uh hc) h0 (by omega)
 have hz:=Eh hg
 generalize bJ L x=u at *
 have r1:=Kt hg hc (a:=0) (b:=u) a1
 rcases a4 with a4 | a4
 ·omega
 ·by_cases hu:u=0
  ·omega
  ·have r2:=Kt hg hc (a:=0) (b:=u - 1) (by omega)
   omega
end Go.Proofs.YtbhamhhjicehaaaGreatDoor.Qm
/- sampler.Bits and the reference's: what each comes to. -/
namespace Go.Proofs.YtbhamhhjicehaaaGreatDoor.UQ
open Go Go.AX Go.Proofs Ty Go.Proofs.YtbhamhhjicehaaaGreatDoor.kK Go.Proofs.YtbhamhhjicehaaaGreatDoor.lV Go.Proofs.YtbhamhhjicehaaaGreatDoor.wJ
def lk (X:List Sp) (K:List Stp) (N:Int) (i k:Nat):Bool:=tC X (bJ K (N+16*i+7+k))
def Ie (X:List Sp) (K:List Stp) (N:Int) (i:Nat):Bool:=!(lk X K N i 0&&lk X K N i 1 || lk X K N i 0&&lk X K N i 2 || lk X K N i 1&&lk X K N i 2)
def jB (X:List Sp) (K:List Stp) (N:Int) (i:Nat):List Bool:=mV (List.range 11) (fun j _=>Ie X K N j) (fun _ _=>false) i
def oz (X:List Sp) (K:List Stp) (f:Int):List Bool:=jB X K (fK K f) 11
theorem pK (X:List Sp) (K:List Stp) (N:Int) (i:Nat):(jB X K N i).length=11:=vV.trans List.length_range
theorem FZ (X:List Sp) (K:List Stp) (N:Int) {i:Nat} (hi:i<11):(jB X K N i).set i (Ie X K N i)=jB X K N (i+1):=
 rH (l:=List.range 11) (f:=fun j _=>Ie X K N j) (x:=i) (i:=i) (List.getElem?_range hi)
theorem F5 (X:List Sp) (K:List Stp) (f:Int) {i:Nat} (hi:i<11):(oz X K f)[i]?=some (Ie X K (fK K f) i):=by
 rw[oz,jB,wZ (by simp),List.getElem?_mapIdx,List.getElem?_range hi];rfl
def hc (X:List Sp) (K:List Stp) (N:Int) (i:Nat):Nat→Int
 |0=>0
 |k+1=>hc X K N i k+if lk X K N i k then 0 else 1
theorem Ui (X:List Sp) (K:List Stp) (N:Int) (i:Nat):∀ k:Nat,0≤hc X K N i k∧hc X K N i k≤k
 |0=>by simp[hc]
 |k+1=>by
  have:=Ui X K N i k
  rw[hc]
  split<;>omega
theorem aam (X:List Sp) (K:List Stp) (N:Int) (i:Nat):decide (3<2*hc X K N i 3)=Ie X K N i:=by
 cases h0:lk X K N i 0<;>cases h1:lk X K N i 1<;>cases h2:lk X K N i 2<;>simp[hc,Ie,h0,h1,h2]
theorem Kv {L:List Stp} (hg:good L=true) (t:Int):0≤fK L t∧fK L t≤8589934592:=by
 rw[(jA hg t).1]
 have h0:=vM t
 have h1:=zk t
 have:=qy h0 (nS hg).2
 omega
theorem aan (X:List Sp) (K:List Stp) (f:Int) (hg:good K=true) (base:Option Addr) (cap:Nat) (lb:Option Addr) (lc:Nat) (H:AH) (hs:bG H 2 base cap (X.map dN)) (hL:bG H 2 lb lc (K.map enc)) :
  aO Tryz.prog 106 #[.slice base X.length cap,.slice lb K.length lc,.int .i64 f] H (fun v H'=>v=.agg ((oz X K f).map Value.bool).toArray∧H=H'):=by
 have hN:=Kv hg f
 have hlen:=fun i=>pK X K (fK K f) i
 rw[oz]
 refine aO.cu Tryz.func106 rfl Tryz.ntmps106 Tryz.results106 (by simp) ?_;simp -dsimp(maxSteps:=4000000) only[go_sem]
 refine bY.mk fun b6 jL=>?_;have bV:=jL;(try simp only[ah,aj,ne_eq]at bV);have dI:=bV;(try simp only[@eq_comm Nat b6]at dI);simp -dsimp(maxSteps:=4000000) only[hlen,bV,dI,go_sem]
 refine(OC K f hg lb lc _ (hL.add (by simp only[ah,ne_eq,bV,not_false_eq_true,and_self]:aG _ b6))).mono ?_;rintro _ _ ⟨rfl,rfl⟩
 generalize fK K f=N at *
 simp -dsimp(maxSteps:=4000000) only[hlen,bV,dI,go_sem]
 refine bY.mk fun b8 lF=>?_;have aQ:=lF;(try simp only[ah,aj,ne_eq]at aQ);have bF:=aQ;(try simp only[@eq_comm Nat b8]at bF);simp -dsimp(maxSteps:=4000000) only[hlen,bV,dI,aQ,bF,go_sem]
 refine fZ.gQ (ι:=Nat) (fun i=>i≤11) (fun i=>[(15,.int .i64 i),(0,.slice base X.length cap),(1,.slice lb K.length lc),(7,.int .i64 N),(6,.pointer (some ⟨b6,0,none⟩)),(8,.pointer (some ⟨b8,0,none⟩))])
  (fun i=>(H.add b6 (.cells [.bool false,.bool false,.bool false,.bool false,.bool false,.bool false,.bool false,.bool false,.bool false,.bool false,.bool false] 87 11)).add b8 (.cells ((jB X K N i).map Value.bool) 87 11)) (fun i=>11 - i) 0 (by omega) (bZ.aS ?_) (AH.le_refl _) fun i hi Q again out=>?_
 ·simp -dsimp(maxSteps:=4000000) only[hlen,bV,dI,aQ,bF,go_sem]
 by_cases h:(i:Int)<11
 case neg=>
  obtain rfl:i=11:=by omega
  simp -dsimp(maxSteps:=4000000) only[h,hlen,bV,dI,aQ,bF,go_sem]
  refine out _ _ _ (by simp) ?_
  simp -dsimp(maxSteps:=4000000) only[hlen,bV,dI,aQ,bF,go_sem]
  exact⟨H,(AH.aK (AH.aK (AH.le_refl _) ((by simp only[hlen,ah,aj,ne_eq,bV,not_false_eq_true,and_self]:aG _ b6).2)) ((by simp only[hlen,ah,aj,ne_eq,aQ,not_false_eq_true,and_self]:aG _ b8).2)),(by first | exact⟨rfl,rfl⟩ | rfl)⟩
 have hi':i<11:=by omega
 have ee:=dA (i:=i) (by omega)
 have e1:IntKind.i64.wrap (16*(i:Int))=16*i:=eH (by omega) (by omega)
 have e2:IntKind.i64.wrap (N+16*i)=N+16*i:=eH (by omega) (by omega)
 have e3:IntKind.i64.wrap (N+16*i+7)=N+16*i+7:=eH (by omega) (by omega)
 have hsi:bG ((H.add b6 (.cells [.bool false,.bool false,.bool false,.bool false,.bool false,.bool false,.bool false,.bool false,.bool false,.bool false,.bool false] 87 11)).add b8 (.cells ((jB X K N i).map Value.bool) 87 11)) 2 base cap (X.map dN):=((hs.add (by simp only[ah,ne_eq,bV,not_false_eq_true,and_self]:aG _ b6)).add (by simp only[ah,ne_eq,aQ,not_false_eq_true,and_self]:aG _ b8))
 have hLi:bG ((H.add b6 (.cells [.bool false,.bool false,.bool false,.bool false,.bool false,.bool false,.bool false,.bool false,.bool false,.bool false,.bool false] 87 11)).add b8 (.cells ((jB X K N i).map Value.bool) 87 11)) 2 lb lc (K.map enc):=((hL.add (by simp only[ah,ne_eq,bV,not_false_eq_true,and_self]:aG _ b6)).add (by simp only[ah,ne_eq,aQ,not_false_eq_true,and_self]:aG _ b8))
 simp -dsimp(maxSteps:=4000000) only[h,hlen,bV,dI,aQ,bF,go_sem]
 refine fZ.gQ (ι:=Nat) (fun k=>k≤3) (fun k=>[(18,.int .i64 k),(10,.int .i64 (hc X K N i k)),(9,.int .i64 i),(15,.int .i64 i),(0,.slice base X.length cap),(1,.slice lb K.length lc),(7,.int .i64 N),(6,.pointer (some ⟨b6,0,none⟩)),(8,.pointer (some ⟨b8,0,none⟩))])
  (fun _=>(H.add b6 (.cells [.bool false,.bool false,.bool false,.bool false,.bool false,.bool false,.bool false,.bool false,.bool false,.bool false,.bool false] 87 11)).add b8 (.cells ((jB X K N i).map Value.bool) 87 11)) (fun k=>3 - k) 0 (by omega) (bZ.aS ?_) (AH.le_refl _) fun k hk Q2 gI mG=>?_
 ·simp -dsimp(maxSteps:=4000000) only[hlen,bV,dI,aQ,bF,go_sem]
  rfl
 by_cases h3:(k:Int)<3
 ·have e4:IntKind.i64.wrap (N+16*i+7+k)=N+16*i+7+k:=eH (by omega) (by omega)
  have ek:=dA (i:=k) (by omega)
  have hb:=Ui X K N i k
  simp -dsimp(maxSteps:=4000000) only[h3,e1,e2,e3,e4,hlen,bV,dI,aQ,bF,go_sem]
  refine(vN K (N+16*i+7+k) hg lb lc _ hLi).mono ?_;rintro _ _ ⟨rfl,rfl⟩
  simp -dsimp(maxSteps:=4000000) only[hlen,bV,dI,aQ,bF,go_sem]
  refine(aag X (bJ K (N+16*i+7+k)) base cap _ hsi).mono ?_;rintro _ _ ⟨rfl,rfl⟩
  cases hlk:tC X (bJ K (N+16*i+7+k)) with
  |true=>
   have e:hc X K N i (k+1)=hc X K N i k:=by rw[hc,lk,hlk];simp
   simp -dsimp(maxSteps:=4000000) only[ek,hlen,bV,dI,aQ,bF,go_sem]
   refine gI (k+1) _ _ (by omega) (bZ.aS ?_) (AH.le_refl _) (by omega)
   rw[e]
   simp -dsimp(maxSteps:=4000000) only[hlen,bV,dI,aQ,bF,go_sem]
  |false=>
   have e:hc X K N i (k+1)=hc X K N i k+1:=by rw[hc,lk,hlk];simp
   have e5:IntKind.i64.wrap (hc X K N i k+1)=hc X K N i k+1:=eH (by omega) (by omega)
   simp -dsimp(maxSteps:=4000000) only[ek,e5,hlen,bV,dI,aQ,bF,go_sem]
   refine gI (k+1) _ _ (by omega) (bZ.aS ?_) (AH.le_refl _) (by omega)
   rw[e]
   simp -dsimp(maxSteps:=4000000) only[hlen,bV,dI,aQ,bF,go_sem]
 obtain rfl:k=3:=by omega
 have hb:=Ui X K N i 3
 have e6:IntKind.i64.wrap (2*hc X K N i 3)=2*hc X K N i 3:=eH (by omega) (by omega)
 have hbit:=aam X K N i
 have hset:=FZ X K N hi'
 simp -dsimp(maxSteps:=4000000) only[h3,hlen,bV,dI,aQ,bF,go_sem]
 refine mG _ _ _ (by simp) ?_
 simp -dsimp(maxSteps:=4000000) only[e6,h,(by omega:(0:Int)≤(i:Int)),(by omega:i≤10),hbit,ee,hlen,bV,dI,aQ,bF,go_sem]
 exact again (i+1) _ _ (by omega) (bZ.aS (by simp -dsimp(maxSteps:=4000000) only[hlen,bV,dI,aQ,bF,go_sem])) (by rw[←List.map_set,hset];exact AH.le_refl _) (by omega)
end Go.Proofs.YtbhamhhjicehaaaGreatDoor.UQ
/- the reference's Bits; Hear and the reference's Hear. -/
namespace Go.Proofs.YtbhamhhjicehaaaGreatDoor.UQ
open Go Go.AX Go.Proofs Ty Go.Proofs.YtbhamhhjicehaaaGreatDoor.kK Go.Proofs.YtbhamhhjicehaaaGreatDoor.lV Go.Proofs.YtbhamhhjicehaaaGreatDoor.wJ Go.Proofs.YtbhamhhjicehaaaGreatDoor.qG
theorem Qn (X:List Sp) (K:List Stp) (f:Int) (hg:good K=true) (base:Option Addr) (cap:Nat) (lb:Option Addr) (lc:Nat) (H:AH) (hs:bG H 2 base cap (X.map dN)) (hL:bG H 2 lb lc (K.map enc)) :
  aO Tryz.prog 82 #[.slice base X.length cap,.slice lb K.length lc,.int .i64 f] H (fun v H'=>v=.agg ((oz X K f).map Value.bool).toArray∧H=H'):=by
 have hN:=Kv hg f
 have hlen:=fun i=>pK X K (fK K f) i
 rw[oz]
 refine aO.cu Tryz.func82 rfl Tryz.ntmps82 Tryz.results82 (by simp) ?_;simp -dsimp(maxSteps:=4000000) only[go_sem]
 refine bY.mk fun b6 jL=>?_;have bV:=jL;(try simp only[ah,aj,ne_eq]at bV);have dI:=bV;(try simp only[@eq_comm Nat b6]at dI);simp -dsimp(maxSteps:=4000000) only[hlen,bV,dI,go_sem]
 refine(Ed K f hg lb lc _ (hL.add (by simp only[ah,ne_eq,bV,not_false_eq_true,and_self]:aG _ b6))).mono ?_;rintro _ _ ⟨rfl,rfl⟩
 generalize fK K f=N at *
 simp -dsimp(maxSteps:=4000000) only[hlen,bV,dI,go_sem]
 refine bY.mk fun b8 lF=>?_;have aQ:=lF;(try simp only[ah,aj,ne_eq]at aQ);have bF:=aQ;(try simp only[@eq_comm Nat b8]at bF);simp -dsimp(maxSteps:=4000000) only[hlen,bV,dI,aQ,bF,go_sem]
 refine fZ.gQ (ι:=Nat) (fun i=>i≤11) (fun i=>[(9,.int .i64 i),(0,.slice base X.length cap),(1,.slice lb K.length lc),(7,.int .i64 N),(6,.pointer (some ⟨b6,0,none⟩)),(8,.pointer (some ⟨b8,0,none⟩))])
  (fun i=>(H.add b6 (.cells [.bool false,.bool false,.bool false,.bool false,.bool false,.bool false,.bool false,.bool false,.bool false,.bool false,.bool false] 87 11)).add b8 (.cells ((jB X K N i).map Value.bool) 87 11)) (fun i=>11 - i) 0 (by omega) (bZ.aS ?_) (AH.le_refl _) fun i hi Q again out=>?_
 ·simp -dsimp(maxSteps:=4000000) only[hlen,bV,dI,aQ,bF,go_sem]
 by_cases h:(i:Int)<11
 case neg=>
  obtain rfl:i=11:=by omega
  simp -dsimp(maxSteps:=4000000) only[h,hlen,bV,dI,aQ,bF,go_sem]
  refine out _ _ _ (by simp) ?_
  simp -dsimp(maxSteps:=4000000) only[hlen,bV,dI,aQ,bF,go_sem]
  exact⟨H,(AH.aK (AH.aK (AH.le_refl _) ((by simp only[hlen,ah,aj,ne_eq,bV,not_false_eq_true,and_self]:aG _ b6).2)) ((by simp only[hlen,ah,aj,ne_eq,aQ,not_false_eq_true,and_self]:aG _ b8).2)),(by first | exact⟨rfl,rfl⟩ | rfl)⟩
 have hi':i<11:=by omega
 have ee:=dA (i:=i) (by omega)
 have e1:IntKind.i64.wrap (16*(i:Int))=16*i:=eH (by omega) (by omega)
 have e2:IntKind.i64.wrap (N+16*i)=N+16*i:=eH (by omega) (by omega)
 have e3:IntKind.i64.wrap (N+16*i+7)=N+16*i+7+((0:Nat):Int):=by rw[eH (by omega) (by omega)];simp
 have e4:IntKind.i64.wrap (N+16*i+8)=N+16*i+7+((1:Nat):Int):=by rw[eH (by omega) (by omega)];omega
 have e5:IntKind.i64.wrap (N+16*i+9)=N+16*i+7+((2:Nat):Int):=by rw[eH (by omega) (by omega)];omega
 have hsi:bG ((H.add b6 (.cells [.bool false,.bool false,.bool false,.bool false,.bool false,.bool false,.bool false,.bool false,.bool false,.bool false,.bool false] 87 11)).add b8 (.cells ((jB X K N i).map Value.bool) 87 11)) 2 base cap (X.map dN):=((hs.add (by simp only[ah,ne_eq,bV,not_false_eq_true,and_self]:aG _ b6)).add (by simp only[ah,ne_eq,aQ,not_false_eq_true,and_self]:aG _ b8))
 have hLi:bG ((H.add b6 (.cells [.bool false,.bool false,.bool false,.bool false,.bool false,.bool false,.bool false,.bool false,.bool false,.bool false,.bool false] 87 11)).add b8 (.cells ((jB X K N i).map Value.bool) 87 11)) 2 lb lc (K.map enc):=((hL.add (by simp only[ah,ne_eq,bV,not_false_eq_true,and_self]:aG _ b6)).add (by simp only[ah,ne_eq,aQ,not_false_eq_true,and_self]:aG _ b8))
 have hset:=FZ X K N hi'
 rw[Ie,lk,lk,lk]at hset
 simp -dsimp(maxSteps:=4000000) only[h,e1,e2,e3,hlen,bV,dI,aQ,bF,go_sem]
 refine(kS K (N+16*i+7+((0:Nat):Int)) hg lb lc _ hLi).mono ?_;rintro _ _ ⟨rfl,rfl⟩
 simp -dsimp(maxSteps:=4000000) only[hlen,bV,dI,aQ,bF,go_sem]
 refine(vI X (bJ K (N+16*i+7+((0:Nat):Int))) base cap _ hsi).mono ?_;rintro _ _ ⟨rfl,rfl⟩
 generalize tC X (bJ K (N+16*i+7+((0:Nat):Int)))=va at hset ⊢
 simp -dsimp(maxSteps:=4000000) only[e1,e2,e4,hlen,bV,dI,aQ,bF,go_sem]
 refine(kS K (N+16*i+7+((1:Nat):Int)) hg lb lc _ hLi).mono ?_;rintro _ _ ⟨rfl,rfl⟩
 simp -dsimp(maxSteps:=4000000) only[hlen,bV,dI,aQ,bF,go_sem]
 refine(vI X (bJ K (N+16*i+7+((1:Nat):Int))) base cap _ hsi).mono ?_;rintro _ _ ⟨rfl,rfl⟩
 generalize tC X (bJ K (N+16*i+7+((1:Nat):Int)))=vb at hset ⊢
 simp -dsimp(maxSteps:=4000000) only[e1,e2,e5,hlen,bV,dI,aQ,bF,go_sem]
 refine(kS K (N+16*i+7+((2:Nat):Int)) hg lb lc _ hLi).mono ?_;rintro _ _ ⟨rfl,rfl⟩
 simp -dsimp(maxSteps:=4000000) only[hlen,bV,dI,aQ,bF,go_sem]
 refine(vI X (bJ K (N+16*i+7+((2:Nat):Int))) base cap _ hsi).mono ?_;rintro _ _ ⟨rfl,rfl⟩
 generalize tC X (bJ K (N+16*i+7+((2:Nat):Int)))=vc at hset ⊢
 cases va with
  |true=>
   cases vb with
   |true=>
    cases vc with
    |true=>
     simp -dsimp(maxSteps:=4000000) only[h,(by omega:(0:Int)≤(i:Int)),(by omega:i≤10),ee,hlen,bV,dI,aQ,bF,go_sem]
     exact again (i+1) _ _ (by omega) (bZ.aS (by simp -dsimp(maxSteps:=4000000) only[hlen,bV,dI,aQ,bF,go_sem])) (by rw[←List.map_set,show(jB X K N i).set i false=jB X K N (i+1) from hset];exact AH.le_refl _) (by omega)
    |false=>
     simp -dsimp(maxSteps:=4000000) only[h,(by omega:(0:Int)≤(i:Int)),(by omega:i≤10),ee,hlen,bV,dI,aQ,bF,go_sem]
     exact again (i+1) _ _ (by omega) (bZ.aS (by simp -dsimp(maxSteps:=4000000) only[hlen,bV,dI,aQ,bF,go_sem])) (by rw[←List.map_set,show(jB X K N i).set i false=jB X K N (i+1) from hset];exact AH.le_refl _) (by omega)
   |false=>
    cases vc with
    |true=>
     simp -dsimp(maxSteps:=4000000) only[h,(by omega:(0:Int)≤(i:Int)),(by omega:i≤10),ee,hlen,bV,dI,aQ,bF,go_sem]
     exact again (i+1) _ _ (by omega) (bZ.aS (by simp -dsimp(maxSteps:=4000000) only[hlen,bV,dI,aQ,bF,go_sem])) (by rw[←List.map_set,show(jB X K N i).set i false=jB X K N (i+1) from hset];exact AH.le_refl _) (by omega)
    |false=>
     simp -dsimp(maxSteps:=4000000) only[h,(by omega:(0:Int)≤(i:Int)),(by omega:i≤10),ee,hlen,bV,dI,aQ,bF,go_sem]
     exact again (i+1) _ _ (by omega) (bZ.aS (by simp -dsimp(maxSteps:=4000000) only[hlen,bV,dI,aQ,bF,go_sem])) (by rw[←List.map_set,show(jB X K N i).set i true=jB X K N (i+1) from hset];exact AH.le_refl _) (by omega)
  |false=>
   cases vb with
   |true=>
    cases vc with
    |true=>
     simp -dsimp(maxSteps:=4000000) only[h,(by omega:(0:Int)≤(i:Int)),(by omega:i≤10),ee,hlen,bV,dI,aQ,bF,go_sem]
     exact again (i+1) _ _ (by omega) (bZ.aS (by simp -dsimp(maxSteps:=4000000) only[hlen,bV,dI,aQ,bF,go_sem])) (by rw[←List.map_set,show(jB X K N i).set i false=jB X K N (i+1) from hset];exact AH.le_refl _) (by omega)
    |false=>
     simp -dsimp(maxSteps:=4000000) only[h,(by omega:(0:Int)≤(i:Int)),(by omega:i≤10),ee,hlen,bV,dI,aQ,bF,go_sem]
     exact again (i+1) _ _ (by omega) (bZ.aS (by simp -dsimp(maxSteps:=4000000) only[hlen,bV,dI,aQ,bF,go_sem])) (by rw[←List.map_set,show(jB X K N i).set i true=jB X K N (i+1) from hset];exact AH.le_refl _) (by omega)
   |false=>
    cases vc with
    |true=>
     simp -dsimp(maxSteps:=4000000) only[h,(by omega:(0:Int)≤(i:Int)),(by omega:i≤10),ee,hlen,bV,dI,aQ,bF,go_sem]
     exact again (i+1) _ _ (by omega) (bZ.aS (by simp -dsimp(maxSteps:=4000000) only[hlen,bV,dI,aQ,bF,go_sem])) (by rw[←List.map_set,show(jB X K N i).set i true=jB X K N (i+1) from hset];exact AH.le_refl _) (by omega)
    |false=>
     simp -dsimp(maxSteps:=4000000) only[h,(by omega:(0:Int)≤(i:Int)),(by omega:i≤10),ee,hlen,bV,dI,aQ,bF,go_sem]
     exact again (i+1) _ _ (by omega) (bZ.aS (by simp -dsimp(maxSteps:=4000000) only[hlen,bV,dI,aQ,bF,go_sem])) (by rw[←List.map_set,show(jB X K N i).set i true=jB X K N (i+1) from hset];exact AH.le_refl _) (by omega)
theorem Kw (l:List Bool):∃ x o e,vC l=.tuple #[.int .u8 x,.bool o,.int .i64 e]:=by
 unfold vC
 split
 ·exact⟨_,_,_,rfl⟩
 ·exact⟨_,_,_,rfl⟩
def tY (X:List Sp) (R:List Sp) (K:List Stp) (a z:Int):Value:=match R.find? (fp a z) with
 |none=>.tuple #[.int .u8 0,.bool false,.int .i64 3]
 |some s=>vC (oz X K s.1)
theorem aao (X:List Sp) (K:List Stp) (a z:Int) (hg:good K=true) (base:Option Addr) (cap:Nat) (lb:Option Addr) (lc:Nat) (H:AH) (hs:bG H 2 base cap (X.map dN)) (hL:bG H 2 lb lc (K.map enc)) (hb:X.length<100000) :
  aO Tryz.prog 63 #[.slice base X.length cap,.slice lb K.length lc,.int .i64 a,.int .i64 z] H (fun v H'=>∃ R,jZ X R∧v=tY X R K a z∧H=H'):=by
 refine aO.cu Tryz.func63 rfl Tryz.ntmps63 Tryz.results63 (by simp) ?_;simp -dsimp(maxSteps:=4000000) only[go_sem]
 refine(aaj X a z base cap H hs hb).mono ?_;rintro _ _ ⟨R,hJ,rfl,rfl⟩
 cases hf:R.find? (fp a z) with
 |none=>
  have e:oM R a z=(0,false):=by rw[oM,hf]
  have e2:tY X R K a z=.tuple #[.int .u8 0,.bool false,.int .i64 3]:=by rw[tY,hf]
  simp -dsimp(maxSteps:=4000000) only[e,go_sem]
  exact⟨H,AH.le_refl _,R,hJ,by rw[e2],rfl⟩
 |some s=>
  have e:oM R a z=(s.1,true):=by rw[oM,hf]
  have e2:tY X R K a z=vC (oz X K s.1):=by rw[tY,hf]
  obtain⟨x,o,er,ht⟩:=Kw (oz X K s.1)
  simp -dsimp(maxSteps:=4000000) only[e,go_sem]
  refine(aan X K s.1 hg base cap lb lc H hs hL).mono ?_;rintro _ _ ⟨rfl,rfl⟩
  simp -dsimp(maxSteps:=4000000) only[go_sem]
  refine(Tt (oz X K s.1) (pK _ _ _ _) H).mono ?_;rintro _ _ ⟨rfl,rfl⟩
  simp -dsimp(maxSteps:=4000000) only[ht,go_sem]
  exact⟨H,AH.le_refl _,R,hJ,by rw[e2,ht],rfl⟩
theorem Qo (X R:List Sp) (hJ:jZ X R) (K:List Stp) (a z:Int) (hg:good K=true) (base:Option Addr) (cap:Nat) (lb:Option Addr) (lc:Nat) (H:AH) (hs:bG H 2 base cap (X.map dN)) (hL:bG H 2 lb lc (K.map enc)) (hok:∀ s∈X,H7 s=true) (hb:X.length<100000) :
  aO Tryz.prog 40 #[.slice base X.length cap,.slice lb K.length lc,.int .i64 a,.int .i64 z] H (fun v H'=>v=tY X R K a z∧H=H'):=by
 refine aO.cu Tryz.func40 rfl Tryz.ntmps40 Tryz.results40 (by simp) ?_;simp -dsimp(maxSteps:=4000000) only[go_sem]
 refine(Ql X a z base cap H hs hok hb).mono ?_;rintro _ _ ⟨R2,hJ2,rfl,rfl⟩
 obtain rfl:R=R2:=hJ.uniq hJ2 fun t=>Iff.rfl
 cases hf:R.find? (fp a z) with
 |none=>
  have e:oM R a z=(0,false):=by rw[oM,hf]
  have e2:tY X R K a z=.tuple #[.int .u8 0,.bool false,.int .i64 3]:=by rw[tY,hf]
  simp -dsimp(maxSteps:=4000000) only[e,go_sem]
  exact⟨H,AH.le_refl _,by rw[e2],rfl⟩
 |some s=>
  have e:oM R a z=(s.1,true):=by rw[oM,hf]
  have e2:tY X R K a z=vC (oz X K s.1):=by rw[tY,hf]
  obtain⟨x,o,er,ht⟩:=Kw (oz X K s.1)
  simp -dsimp(maxSteps:=4000000) only[e,go_sem]
  refine(Qn X K s.1 hg base cap lb lc H hs hL).mono ?_;rintro _ _ ⟨rfl,rfl⟩
  simp -dsimp(maxSteps:=4000000) only[go_sem]
  refine(FH (oz X K s.1) (pK _ _ _ _) H).mono ?_;rintro _ _ ⟨rfl,rfl⟩
  simp -dsimp(maxSteps:=4000000) only[ht,go_sem]
  exact⟨H,AH.le_refl _,by rw[e2,ht],rfl⟩
end Go.Proofs.YtbhamhhjicehaaaGreatDoor.UQ
/- What is looked at lies in its bit. -/
namespace Go.Proofs.YtbhamhhjicehaaaGreatDoor.Qm
open Go Go.AX Go.Proofs Ty Go.Proofs.YtbhamhhjicehaaaGreatDoor.kK Go.Proofs.YtbhamhhjicehaaaGreatDoor.wJ Go.Proofs.YtbhamhhjicehaaaGreatDoor.Send Go.Proofs.YtbhamhhjicehaaaGreatDoor.lV
theorem look {S K:List Stp} (hs:good S=true) (cs:calm S) (hk:good K=true) (ck:calm K) {n:Int} (h0:0≤n) (h1:n<1073741824) {i:Nat} (hi:i<11) {m:Int} (hm0:16*(i:Int)+7≤m) (hm1:m≤16*(i:Int)+9) :
  (0≤fK K (bJ S n)∧fK K (bJ S n)≤1150000000)∧bJ S (n+16*i)≤bJ K (fK K (bJ S n)+m)∧bJ K (fK K (bJ S n)+m)<bJ S (n+16*i+16):=by
 have hz:=Eh hk
 have hzs:=Eh hs
 obtain⟨a1,a2,a3,a4⟩:=Ku hs cs h0 (by omega:n≤1200000000)
 have hN:=BL hk a1 (by omega)
 have hub:bJ S n≤1090000000:=by
  rcases a4 with a4 | a4
  ·omega
  ·by_cases hu:bJ S n=0
   ·omega
   ·have r:=o8 hs cs (a:=0) (b:=bJ S n - 1) (by omega)
    omega
 have rK:=o8 hk ck (a:=0) (b:=bJ S n) (by omega)
 have hNb:0≤fK K (bJ S n)∧fK K (bJ S n)≤1150000000:=by omega
 obtain⟨w1,w2,w3,w4⟩:=Ku hk ck (x:=fK K (bJ S n)+m) (by omega) (by omega)
 have ga:bJ S (n+16*i)=bJ S n∨(bJ S (n+16*i) - 1 - bJ S n)*990000<16*i*1000000:=by
  by_cases hi0:i=0
  ·left;subst hi0;simp
  ·right
   exact(gap hs cs (x:=n) (k:=16*i) h0 (by omega) (by omega) (by omega)).2.1
 have gb:=(gap hs cs (x:=n) (k:=16*i+16) h0 (by omega) (by omega) (by omega)).2.2
 rw[←Int.add_assoc]at gb
 refine⟨hNb,?_⟩
 generalize bJ S (n+16*(i:Int)+16)=b at *
 generalize bJ S (n+16*(i:Int))=a at *
 generalize bJ S n=u at *
 generalize fK K u=N at *
 generalize bJ K (N+m)=w at *
 have hwu:u<w:=by
  rcases Int.lt_or_le u w with h | h
  ·exact h
  ·have r:=o8 hk ck h
   omega
 have r1:=o8 hk ck (a:=u) (b:=w) (by omega)
 have r2:=o8 hk ck (a:=u) (b:=w - 1) (by omega)
 omega
theorem Uj {S K:List Stp} (hs:good S=true) (cs:calm S) (hk:good K=true) (ck:calm K) {n:Int} (h0:0≤n) (h1:n<1073741824) {F:List Bool} (hF:F.length=11) {R:List Sp} {i:Nat} (hi:i<11) {x:Bool} (hx:F[i]?=some x) {m:Int} (hm0:16*(i:Int)+7≤m) (hm1:m≤16*(i:Int)+9) (hJ:low R (bJ K (fK K (bJ S n)+m))↔low (qB S n F 11) (bJ K (fK K (bJ S n)+m))) :
  tC R (bJ K (fK K (bJ S n)+m))=!x:=by
 obtain⟨_,l1,l2⟩:=look hs cs hk ck h0 h1 hi hm0 hm1
 generalize bJ K (fK K (bJ S n)+m)=w at *
 cases x with
 |false=>
  rw[Bool.not_false,Ea,hJ]
  exact⟨KL S n i,Ic hx 11 hi,l1,l2⟩
 |true=>
  rw[Bool.not_true,Eb,hJ]
  rintro⟨s,hsm,s1,s2⟩
  have hin:∀ {q:Nat},s∈qB S n F q→∃ j,j<q∧s=KL S n j∧F[j]?=some false:=by
   intro q
   induction q with
   |zero=>intro h;cases h
   |succ q ih=>
    intro h
    rcases List.mem_append.1 h with h | h
    ·obtain⟨j,hj,e,hf⟩:=ih h
     exact⟨j,by omega,e,hf⟩
    ·split at h
     ·rename_i hf
      simp at h
      exact⟨q,by omega,h,hf⟩
     ·cases h
  obtain⟨j,hj,rfl,hf⟩:=hin hsm
  have hji:j≠i:=fun e=>by subst e;rw[hx]at hf;cases hf
  simp only[KL]at s1 s2
  rcases Nat.lt_or_gt_of_ne hji with h | h
  ·have:=FY hs (show n+16*(j:Int)+16≤n+16*i by omega)
   omega
  ·have:=FY hs (show n+16*(i:Int)+16≤n+16*j by omega)
   omega
end Go.Proofs.YtbhamhhjicehaaaGreatDoor.Qm
/- bus: what each one hears where all oscillators are off by two parts of a thousand at most: just what is sent in each slot. -/
namespace Go.Proofs.YtbhamhhjicehaaaGreatDoor.ED
open Go Go.AX Go.Proofs Ty Go.Proofs.YtbhamhhjicehaaaGreatDoor.kK Go.Proofs.YtbhamhhjicehaaaGreatDoor.lV Go.Proofs.YtbhamhhjicehaaaGreatDoor.wJ Go.Proofs.YtbhamhhjicehaaaGreatDoor.Send Go.Proofs.YtbhamhhjicehaaaGreatDoor.Qm
open Go.Proofs.YtbhamhhjicehaaaGreatDoor.UQ (oz F5 Ie pK)
open Go.Proofs.YtbhamhhjicehaaaGreatDoor.jh (jo kY mZ Hd FM ru flips tV nN DR yP)
open Go.Proofs.YtbhamhhjicehaaaGreatDoor.qG (G9 og)
structure Net where
 XS:List (List mF.Nf)
 T:List pF.Tb
 B:List Bool
 P:List jh.Sp
 KS:List (List Stp)
def Net.fr (N:Net) (slot:Int):Int×List Bool×Bool:=jo N.XS N.T N.B N.P slot
def Net.Qp (N:Net) (n:Int):List Stp:=N.KS.getD n.toNat []
def Net.sp (N:Net) (slot:Int):List Sp:=if (N.fr slot).2.2=true then qB (N.Qp (N.fr slot).1) (224*slot) (N.fr slot).2.1 11 else []
def Net.Uk (N:Net) (node t:Int):Prop:=∃ slot,(1≤slot∧slot≤16)∧(N.fr slot).1=node∧low (N.sp slot) t
def Net.Ig (N:Net) (t:Int):Prop:=∃ slot,(1≤slot∧slot≤16)∧low (N.sp slot) t
structure Net.Ok (N:Net):Prop where
 Qp:∀ L∈N.KS,good L=true∧qW 2000 L
theorem Net.Ok.at_ {N:Net} (h:N.Ok) (n:Int):good (N.Qp n)=true∧qW 2000 (N.Qp n):=by
 unfold Net.Qp
 rw[List.getD_eq_getElem?_getD]
 cases hn:N.KS[n.toNat]? with
 |none=>exact⟨by decide,fun s hs=>by cases hs⟩
 |some L=>exact h.Qp L (List.mem_of_getElem? hn)
theorem F6 {L:List Stp} (hg:good L=true) (hc:qW 2000 L) {slot:Int} (h1:1≤slot∧slot≤16) {F:List Bool} {t:Int} (h:low (qB L (224*slot) F 11) t):224*slot - 8≤t∧t≤224*slot+184∧bJ L (224*slot)≤t:=by
 obtain⟨s,hs,h2,h3⟩:=h
 obtain⟨j,hj,rfl⟩:=Ib hs
 have n1:=near hg hc (x:=224*slot+16*j) (by omega) (by omega)
 have n2:=near hg hc (x:=224*slot+16*j+16) (by omega) (by omega)
 have n3:=FY hg (show 224*slot≤224*slot+16*j by omega)
 simp only[KL]at h2 h3
 omega
theorem Ul {N:Net} (hN:N.Ok) {slot:Int} (h1:1≤slot∧slot≤16) {t:Int} (h:low (N.sp slot) t):224*slot - 8≤t∧t≤224*slot+184:=by
 unfold Net.sp at h
 split at h
 ·have:=hN.at_ (N.fr slot).1
  have:=F6 this.1 this.2 h1 h
  omega
 ·obtain⟨s,hs,_⟩:=h;cases hs
theorem Um {N:Net} (hN:N.Ok) {slot t:Int} (h1:1≤slot∧slot≤16) (ha:224*slot - 39<t) (hb:t<224*slot+216):N.Ig t↔lV.low (N.sp slot) t:=by
 constructor
 ·rintro⟨s,hs,h⟩
  have:=Ul hN hs h
  obtain rfl:s=slot:=by omega
  exact h
 ·exact fun h=>⟨slot,h1,h⟩
theorem AP (slot:Int):∀ (P:List jh.Sp) {F:List Bool},F.length=11→F[0]?=some false→(flips slot P F)[0]?=some false
 | [],_,_,h=>h
 |s::P,F,hl,h=>by
  show(flips slot P (tV slot F s))[0]?=some false
  refine AP slot P (by rw[jh.FI];exact hl) ?_
  unfold tV
  split
  ·simp only[og,List.getElem?_mapIdx,h,Option.map_some]
   rw[yP _ (by decide)];rfl
  ·exact h
theorem Un {N:Net} {slot:Int} (h:(N.fr slot).2.2=true):(N.fr slot).2.1[0]?=some false:=by
 unfold Net.fr jo at h ⊢
 split
 ·rename_i hs;rw[hs]at h;cases h
 ·rename_i n x hs
  rw[hs]at h
  dsimp only at h ⊢
  split
  ·rename_i hb
   rw[if_pos hb]at h
   split
   ·rename_i hg;rw[hg]at h;cases h
   ·exact AP _ _ (DR ..) rfl
  ·rename_i hb;rw[if_neg hb]at h;cases h
def lM (R:List Sp) (K:List Stp) (a z:Int):Int×Bool×Int:=match R.find? (fp a z) with
 |none=>(0,false,3)
 |some s=>mZ (oz R K s.1)
theorem Ky (R:List Sp) (K:List Stp) (a z:Int):UQ.tY R R K a z=.tuple #[.int .u8 (lM R K a z).1,.bool (lM R K a z).2.1,.int .i64 (lM R K a z).2.2]:=by
 unfold UQ.tY lM
 cases R.find? (fp a z) with
 |none=>rfl
 |some s=>exact jh.DT _
theorem Xx {S K:List Stp} (hs:good S=true) (cs:calm S) (hk:good K=true) (ck:calm K) {n:Int} (h0:0≤n) (h1:n<1073741824) {F:List Bool} (hF:F.length=11) {R:List Sp}
  (hR:∀ w,bJ S n≤w→w<bJ S (n+176)→(low R w↔low (qB S n F 11) w)):oz R K (bJ S n)=F:=by
 refine List.ext_getElem? fun i=>?_
 have hbl:(oz R K (bJ S n)).length=11:=pK _ _ _ _
 by_cases hi:i<11
 ·obtain⟨x,hx⟩:=get_some (l:=F) (i:=i) (by omega)
  rw[F5 _ _ _ hi,hx]
  have one:∀ k:Nat,k<3→tC R (bJ K (fK K (bJ S n)+(16*(i:Int)+7+(k:Int))))=!x:=fun k hk3=>by
   have hl:=Qm.look hs cs hk ck h0 h1 hi (m:=16*(i:Int)+7+(k:Int)) (by omega) (by omega)
   have g1:=FY hs (show n≤n+16*(i:Int) by omega)
   have g2:=FY hs (show n+16*(i:Int)+16≤n+176 by omega)
   exact Uj hs cs hk ck h0 h1 hF hi hx (m:=16*(i:Int)+7+(k:Int)) (by omega) (by omega) (hR _ (by omega) (by omega))
  have l0:=one 0 (by omega)
  have l1:=one 1 (by omega)
  have l2:=one 2 (by omega)
  have e:∀ k:Nat,UQ.lk R K (fK K (bJ S n)) i k=tC R (bJ K (fK K (bJ S n)+(16*(i:Int)+7+(k:Int)))):=fun k=>by
   rw[UQ.lk];congr 2;omega
  rw[Ie,e,e,e,l0,l1,l2]
  cases x<;>rfl
 ·rw[List.getElem?_eq_none (by omega),List.getElem?_eq_none (by omega)]
theorem Qq {N:Net} (hN:N.Ok) {R:List Sp} (hp:Plain R) (hlow:∀ t,low R t↔N.Ig t) {K:List Stp} (hk:good K=true) (ck:qW 2000 K) {slot:Int} (h1:1≤slot∧slot≤16) :
  lM R K (bJ K (224*slot - 20)) (bJ K (224*slot+20))=if (N.fr slot).2.2=true then mZ (N.fr slot).2.1 else (0,false,3):=by
 have na:=near hk ck (x:=224*slot - 20) (by omega) (by omega)
 have nz:=near hk ck (x:=224*slot+20) (by omega) (by omega)
 generalize bJ K (224*slot - 20)=a at *
 generalize bJ K (224*slot+20)=z at *
 have hin:∀ s∈R,fp a z s=true→(a≤s.1∧s.1<z)∧low (N.sp slot) s.1:=fun s hs h=>by
  simp only[fp,Bool.and_eq_true,decide_eq_true_eq]at h
  exact⟨h,(Um hN h1 (by omega) (by omega)).1 ((hlow _).1 ⟨s,hs,Int.le_refl _,hp.up s hs⟩)⟩
 by_cases hf:(N.fr slot).2.2=true
 case neg=>
  rw[if_neg hf]
  have hn:R.find? (fp a z)=none:=by
   rw[List.find?_eq_none]
   intro s hs h
   obtain⟨_,s',hs',_⟩:=hin s hs h
   rw[Net.sp,if_neg hf]at hs'
   cases hs'
  rw[lM,hn]
 rw[if_pos hf]
 obtain⟨hg,hc⟩:=hN.at_ (N.fr slot).1
 have hsp:N.sp slot=qB (N.Qp (N.fr slot).1) (224*slot) (N.fr slot).2.1 11:=by rw[Net.sp,if_pos hf]
 have hF0:=Un hf
 have Ih:(N.fr slot).2.1.length=11:=kY ..
 rw[hsp]at hin
 have hla:∀ {t:Int},224*slot - 39<t→t<224*slot+216→(low R t↔low (qB (N.Qp (N.fr slot).1) (224*slot) (N.fr slot).2.1 11) t):=fun ht1 ht2=>by
  rw[hlow,Um hN h1 ht1 ht2,hsp]
 generalize N.Qp (N.fr slot).1=S at *
 generalize (N.fr slot).2.1=F at *
 have ng:=near hg hc (x:=224*slot) (by omega) (by omega)
 have ne:=near hg hc (x:=224*slot+176) (by omega) (by omega)
 have gs:=OD hg (x:=224*slot) (y:=224*slot+16) (by omega) (by omega) (by omega)
 have hlg:low (qB S (224*slot) F 11) (bJ S (224*slot)):=by
  have:=Ic (L:=S) (t:=224*slot) hF0 11 (by omega)
  refine⟨_,this,?_,?_⟩
  ·simp[KL]
  ·simp only[KL]
   have e:224*slot+16*((0:Nat):Int)+16=224*slot+16:=by omega
   rw[e];exact gs
 have hge:∀ {t:Int},low (qB S (224*slot) F 11) t→bJ S (224*slot)≤t:=fun h=>(F6 hg hc h1 h).2.2
 obtain⟨s,hsR,hs1,hs2⟩:=(hla (by omega) (by omega)).2 hlg
 have hs:s.1=bJ S (224*slot):=by
  by_cases h:s.1<bJ S (224*slot)
  ·exfalso
   have hl:low R (bJ S (224*slot) - 1):=⟨s,hsR,by omega,by omega⟩
   have:=hge ((hla (by omega) (by omega)).1 hl)
   omega
  ·omega
 have hps:fp a z s=true:=by simp only[fp,Bool.and_eq_true,decide_eq_true_eq];omega
 cases hfd:R.find? (fp a z) with
 |none=>exact absurd hps (by simpa using List.find?_eq_none.1 hfd s hsR)
 |some s'=>
  obtain⟨hp',l1,l2,hR,has⟩:=List.find?_eq_some_iff_append.1 hfd
  have adG:s'∈R:=List.mem_of_find?_eq_some hfd
  have hge':=hge (hin s' adG hp').2
  have e:s'.1=bJ S (224*slot):=by
   by_cases h:s=s'
   ·rw[←h];exact hs
   ·have hm:s∈l1++s'::l2:=hR▸hsR
    rcases List.mem_append.1 hm with hm | hm
    ·exact absurd hps (by simpa using has s hm)
    ·have hm':=(List.mem_cons.1 hm).resolve_left h
     have:=hp.apart
     rw[hR,List.pairwise_append]at this
     have h3:=(List.pairwise_cons.1 this.2.1).1 s hm'
     have:=hp.up s' adG
     omega
  rw[lM,hfd]
  dsimp only
  rw[e,Xx hg (Uh hc) hk (Uh ck) (by omega) (by omega) Ih (R:=R) fun w hw1 hw2=>hla (by omega) (by omega)]
def hdB (R:List Sp) (K:List Stp):Hd:=fun s=>if 1≤s∧s≤16 then
 (if (lM R K (bJ K (224*s - 20)) (bJ K (224*s+20))).2.2=0∧(lM R K (bJ K (224*s - 20)) (bJ K (224*s+20))).2.1=false then some (lM R K (bJ K (224*s - 20)) (bJ K (224*s+20))).1 else none) else none
theorem Uo {N:Net} (hN:N.Ok) {R:List Sp} (hp:Plain R) (hlow:∀ t,low R t↔N.Ig t) {K:List Stp} (hk:good K=true) (ck:qW 2000 K):hdB R K=FM N.XS N.T N.B N.P:=by
 funext s
 unfold hdB FM
 by_cases h:1≤s∧s≤16
 ·rw[if_pos h,if_pos h,Qq hN hp hlow hk ck h]
  unfold ru
  show _=if (N.fr s).2.2=true∧(mZ (N.fr s).2.1).2.1=false∧(mZ (N.fr s).2.1).2.2=0 then some (mZ (N.fr s).2.1).1 else none
  by_cases hf:(N.fr s).2.2=true
  ·rw[if_pos hf]
   by_cases h1:(mZ (N.fr s).2.1).2.1=false<;>by_cases h2:(mZ (N.fr s).2.1).2.2=0<;>simp[hf,h1,h2]
  ·rw[if_neg hf]
   simp[hf]
 ·rw[if_neg h,if_neg h]
end Go.Proofs.YtbhamhhjicehaaaGreatDoor.ED
/- bus: nodes with oscillators in memory; what a node's spans are. -/
namespace Go.Proofs.YtbhamhhjicehaaaGreatDoor.ED
open Go Go.AX Go.Proofs Ty Go.Proofs.YtbhamhhjicehaaaGreatDoor.kK Go.Proofs.YtbhamhhjicehaaaGreatDoor.lV Go.Proofs.YtbhamhhjicehaaaGreatDoor.wJ Go.Proofs.YtbhamhhjicehaaaGreatDoor.Send Go.Proofs.YtbhamhhjicehaaaGreatDoor.Qm
open Go.Proofs.YtbhamhhjicehaaaGreatDoor.jh (SR oq encS jH BI UL jo kY tu)
open Go.Proofs.YtbhamhhjicehaaaGreatDoor.pF (Tb ig)
abbrev Sl:=Option Addr×Nat×List Stp
def wK (x:Sl):List Value:=[.slice x.1 x.2.2.length x.2.1]
structure zn (H:AH) (base:Option Addr) (cap:Nat) (O:List Sl):Prop where
 out:bG H 1 base cap (O.map wK)
 inn:∀ x∈O,bG H 2 x.1 x.2.1 (x.2.2.map wJ.enc)
theorem zn.keep {H A:AH} {base:Option Addr} {cap:Nat} {O:List Sl} (h:zn H base cap O) (hK:Keep H A fun _=>False):zn A base cap O:=
 ⟨h.out.keep hK fun _ _ h=>h,fun x hx=>(h.inn x hx).keep hK fun _ _ h=>h⟩
structure Ad where
 bs:Option Addr
 cs:Nat
 bt:Option Addr
 ct:Nat
 bb:Option Addr
 cb:Nat
 bp:Option Addr
 cp:Nat
 bo:Option Addr
 co:Nat
structure AU (H:AH) (a:Ad) (S:List SR) (T:List Tb) (B:List Bool) (P:List jh.Sp) (O:List Sl):Prop where
 s:oq H a.bs a.cs S
 t:ig H a.bt a.ct T
 b:bG H 1 a.bb a.cb (B.map jH)
 p:bG H 2 a.bp a.cp (P.map jh.dN)
 o:zn H a.bo a.co O
 l1:T.length=S.length
 l2:B.length=S.length
 l4:S.length≤32
theorem AU.keep {H A:AH} {a:Ad} {S:List SR} {T:List Tb} {B:List Bool} {P:List jh.Sp} {O:List Sl} (h:AU H a S T B P O) (hK:Keep H A fun _=>False):AU A a S T B P O:=
 ⟨h.s.keep hK,h.t.keep hK,h.b.keep hK fun _ _ h=>h,h.p.keep hK fun _ _ h=>h,h.o.keep hK,h.l1,h.l2,h.l4⟩
def oN (XS:List (List mF.Nf)) (T:List Tb) (B:List Bool) (P:List jh.Sp) (O:List Sl):Net:=⟨XS,T,B,P,O.map (·.2.2)⟩
structure May (T:List Tb) (O:List Sl) (n:Nat):Prop where
 t:UL T
 l:O.length=n
 g:∀ x∈O,good x.2.2=true
structure kZ (X:Int→Prop) (n:Nat) (R:List Sp):Prop where
 lo:∀ t,low R t↔X t
 len:R.length≤n
 ok:∀ s∈R,H7 s=true
theorem F7 {X R:List Sp} (hJ:jZ X R) (hX:∀ s∈X,H7 s=true):∀ s∈R,H7 s=true:=fun s hs=>by
 obtain⟨⟨y,hy,e1⟩,z,hz,e2⟩:=hJ.ends s hs
 have h1:=vJ.1 (hX y hy)
 have h2:=vJ.1 (hX z hz)
 rw[vJ]
 omega
theorem kZ.join {X:Int→Prop} {n:Nat} {Y R:List Sp} (h:kZ X n Y) (hJ:jZ Y R):kZ X n R:=
 ⟨fun t=>(hJ.same t).trans (h.lo t),Nat.le_trans hJ.small h.len,F7 hJ h.ok⟩
theorem kZ.app {X Z:Int→Prop} {n m:Nat} {Y R:List Sp} (h:kZ X n Y) (k:kZ Z m R):kZ (fun t=>X t∨Z t) (n+m) (Y++R):=
 ⟨fun t=>(oZ Y R t).trans (or_congr (h.lo t) (k.lo t)),by rw[List.length_append];have:=h.len;have:=k.len;omega,fun s hs=>(List.mem_append.1 hs).elim (h.ok s) (k.ok s)⟩
theorem kZ.congr {X Z:Int→Prop} {n:Nat} {Y:List Sp} (h:kZ X n Y) (hx:∀ t,X t↔Z t):kZ Z n Y:=⟨fun t=>(h.lo t).trans (hx t),h.len,h.ok⟩
theorem kZ.nil {n:Nat} {X:Int→Prop} (h:∀ t,¬ X t):kZ X n []:=⟨fun t=>⟨fun⟨s,hs,_⟩=>(by cases hs),fun hx=>absurd hx (h t)⟩,by simp,by simp⟩
theorem kZ.frame {N:Net} {slot:Int} (hf:(N.fr slot).2.2=true) {R:List Sp} (hJ:jZ (qB (N.Qp (N.fr slot).1) (224*slot) (N.fr slot).2.1 11) R):kZ (fun t=>low (N.sp slot) t) 11 R:=by
 have e:N.sp slot=qB (N.Qp (N.fr slot).1) (224*slot) (N.fr slot).2.1 11:=by rw[Net.sp,if_pos hf]
 exact⟨fun t=>by rw[e];exact hJ.same t,Nat.le_trans hJ.small (wH ..),F7 hJ (Uf _ _ _ _)⟩
def Net.tZ (N:Net) (node:Int) (i:Nat) (t:Int):Prop:=∃ slot:Int,(1≤slot∧slot<i)∧(N.fr slot).1=node∧low (N.sp slot) t
theorem F8 {N:Net} {node t:Int}:¬ N.tZ node 1 t:=fun⟨s,h,_⟩=>by omega
theorem F9 {N:Net} {node t:Int}:N.tZ node 17 t↔N.Uk node t:=⟨fun⟨s,h,k⟩=>⟨s,by omega,k⟩,fun⟨s,h,k⟩=>⟨s,by omega,k⟩⟩
theorem Kz {N:Net} {node:Int} {i:Nat} (h:¬ ((N.fr i).2.2=true∧(N.fr i).1=node)) (t:Int):N.tZ node i t↔N.tZ node (i+1) t:=by
 constructor
 ·rintro⟨s,h1,h2⟩;exact⟨s,by omega,h2⟩
 ·rintro⟨s,h1,h2,h3⟩
  by_cases e:s=i
  ·subst e
   exfalso
   refine h ⟨?_,h2⟩
   unfold Net.sp at h3
   split at h3
   ·assumption
   ·obtain⟨_,hs,_⟩:=h3;cases hs
  ·exact⟨s,by omega,h2,h3⟩
theorem Gf {N:Net} {node:Int} {i:Nat} (h1i:1≤i) (h:(N.fr i).1=node) (t:Int):N.tZ node i t∨low (N.sp i) t↔N.tZ node (i+1) t:=by
 constructor
 ·rintro(⟨s,h1,h2⟩ | h2)
  ·exact⟨s,by omega,h2⟩
  ·exact⟨i,by omega,h,h2⟩
 ·rintro⟨s,h1,h2,h3⟩
  by_cases e:s=i
  ·subst e;exact .inr h3
  ·exact .inl ⟨s,by omega,h2,h3⟩
theorem Ii {N:Net} {slot:Int} (h:(N.fr slot).2.2=true):∃ n:Nat,(N.fr slot).1=n∧n<N.T.length:=by
 unfold Net.fr jo at h ⊢
 split
 ·rename_i hs;rw[hs]at h;cases h
 ·rename_i n x hs
  rw[hs]at h
  dsimp only at h ⊢
  split
  ·rename_i hb
   rw[if_pos hb]at h
   split
   ·rename_i hg;rw[hg]at h;cases h
   ·obtain⟨t,_,ht,_⟩:=jh.He hs
    exact⟨n,rfl,by rw[Nat.sub_zero]at ht;exact Go.AX.dG ht⟩
  ·rename_i hb;rw[if_neg hb]at h;cases h
def Net.AV (N:Net) (i:Nat) (t:Int):Prop:=∃ n:Nat,n<i∧N.Uk n t
theorem Ei {N:Net} {t:Int}:¬ N.AV 0 t:=fun⟨n,h,_⟩=>by omega
theorem Ej {N:Net} {i:Nat} (t:Int):N.AV i t∨N.Uk i t↔N.AV (i+1) t:=by
 constructor
 ·rintro(⟨n,h1,h2⟩ | h2)
  ·exact⟨n,by omega,h2⟩
  ·exact⟨i,by omega,h2⟩
 ·rintro⟨n,h1,h2⟩
  by_cases e:n=i
  ·subst e;exact .inr h2
  ·exact .inl ⟨n,by omega,h2⟩
theorem Gg {N:Net} {i:Nat} (h:N.T.length≤i) (t:Int):N.AV i t↔N.Ig t:=by
 constructor
 ·rintro⟨n,_,s,h1,_,h2⟩;exact⟨s,h1,h2⟩
 ·rintro⟨s,h1,h2⟩
  have hf:(N.fr s).2.2=true:=by
   unfold Net.sp at h2
   split at h2
   ·assumption
   ·obtain⟨_,hs,_⟩:=h2;cases hs
  obtain⟨n,e,hn⟩:=Ii hf
  exact⟨n,by omega,s,h1,e,h2⟩
end Go.Proofs.YtbhamhhjicehaaaGreatDoor.ED
/- bus: Sends and Line. -/
namespace Go.Proofs.YtbhamhhjicehaaaGreatDoor.ED
open Go Go.AX Go.Proofs Ty Go.Proofs.YtbhamhhjicehaaaGreatDoor.kK Go.Proofs.YtbhamhhjicehaaaGreatDoor.lV Go.Proofs.YtbhamhhjicehaaaGreatDoor.wJ Go.Proofs.YtbhamhhjicehaaaGreatDoor.Send Go.Proofs.YtbhamhhjicehaaaGreatDoor.Qm Go.Proofs.YtbhamhhjicehaaaGreatDoor.wI
open Go.Proofs.YtbhamhhjicehaaaGreatDoor.jh (SR oq jH BI UL jo kY tu Off)
open Go.Proofs.YtbhamhhjicehaaaGreatDoor.pF (Tb ig)
theorem Xy (a:Ad) (S:List SR) (T:List Tb) (B:List Bool) (P:List jh.Sp) (O:List Sl) (node:Int) (H:AH) (h:AU H a S T B P O) (m:May T O S.length) :
  aO Tryz.prog 9 #[.slice a.bs S.length a.cs,.slice a.bt T.length a.ct,.slice a.bb B.length a.cb,.slice a.bp P.length a.cp,.slice a.bo O.length a.co,.int .i64 node] H (fun v H'=>∃ R b c,v=.slice b R.length c∧Plain R∧kZ ((oN (S.map (·.X)) T B P O).Uk node) 176 R∧bG H' 2 b c (R.map dN)∧Keep H H' fun _=>False):=by
 obtain⟨N,hN⟩:∃ N,oN (S.map (·.X)) T B P O=N:=⟨_,rfl⟩
 have aap:∀ i,N.fr i=jo (S.map (·.X)) T B P i:=fun i=>by rw[←hN];rfl
 have hTN:N.T=T:=by rw[←hN];rfl
 have aaq:∀ (n:Nat) (x:Sl),O[n]?=some x→N.Qp (n:Int)=x.2.2:=fun n x hx=>by
  rw[←hN]
  show(O.map (·.2.2)).getD (Int.toNat n) []=_
  rw[Int.toNat_natCast,List.getD_eq_getElem?_getD,List.getElem?_map,hx];rfl
 rw[hN]
 refine aO.cu Tryz.func9 rfl Tryz.ntmps9 Tryz.results9 (by simp) ?_;simp -dsimp(maxSteps:=4000000) only[go_sem]
 refine fZ.jE (ι:=Nat×Option Addr×Nat×List Sp) (fun s A=>(1≤s.1∧s.1≤17)∧kZ (N.tZ node s.1) (11*(s.1 - 1)) s.2.2.2∧fJ H A 85 2 s.2.1 s.2.2.1 (s.2.2.2.map dN)∧Keep H A fun _=>False)
  (fun s=>[(14,.int .i64 s.1),(13,.slice s.2.1 s.2.2.2.length s.2.2.1),(0,.slice a.bs S.length a.cs),(1,.slice a.bt T.length a.ct),(2,.slice a.bb B.length a.cb),(3,.slice a.bp P.length a.cp),(4,.slice a.bo O.length a.co),(5,.int .i64 node)]) (fun s=>17 - s.1) (1,none,0,[]) _
  ⟨by simp,kZ.nil fun t=>F8,fJ.nil,Keep.refl⟩ (bZ.aS ?_) (AH.le_refl _) fun s A hV Q again out=>?_
 ·simp -dsimp(maxSteps:=4000000) only[go_sem]
 obtain⟨i,base,cap,Y⟩:=s
 obtain⟨hi,hY,hO,hK⟩:=hV
 dsimp only at hi hY hO again ⊢
 have hYl:=hY.len
 by_cases hlt:(i:Int)≤16
 case neg=>
  obtain rfl:i=17:=by omega
  simp -dsimp(maxSteps:=4000000) only[hlt,go_sem]
  refine out _ _ _ (by simp) ?_
  simp -dsimp(maxSteps:=4000000) only[go_sem]
  refine bY.mk fun b1 iy=>?_
  simp -dsimp(maxSteps:=4000000) only[go_sem]
  refine(H9 iy hO.slc (by omega)).mono ?_
  rintro _ A2 ⟨R,b,c,rfl,hJ,hR,hK2⟩
  simp -dsimp(maxSteps:=4000000) only[go_sem]
  exact⟨A2,AH.le_refl _,R,b,c,rfl,hJ.plain,(hY.join hJ).congr fun t=>F9,hR,hK.trans hK2⟩
 have hA:=h.keep hK
 have ee:=dA (i:=i) (by omega)
 have e224:IntKind.i64.wrap (224*(i:Int))=224*(i:Int):=eH (by omega) (by omega)
 have hl1:=h.l1
 have hl2:=h.l2
 have hFr:=BI S T B P a.bs a.bt a.bb a.bp a.cs a.ct a.cb a.cp (i:Int) A hA.s hA.t hA.b hA.p m.t (by omega) (by omega)
 have Ih:=kY (S.map (·.X)) T B P i
 rw[←aap]at hFr Ih
 have Em:=Ii (N:=N) (slot:=i)
 have Eo:=kZ.frame (N:=N) (slot:=i)
 have hno:=Kz (N:=N) (node:=node) (i:=i)
 have hyes:=Gf (N:=N) (node:=node) (i:=i) (by omega)
 obtain⟨n,F,ok,hfr⟩:∃ n F ok,N.fr i=(n,F,ok):=⟨_,_,_,rfl⟩
 rw[hfr]at hFr Ih Em Eo hno hyes
 unfold tu at hFr
 dsimp only at hFr Ih Em Eo hno hyes
 have hmf:(F.map Value.bool).length=11:=by simp[Ih]
 have hms:(F.map Value.bool).all iM=true:=by rw[List.all_map,List.all_eq_true];exact fun _ _=>rfl
 have hlp:iO [Value.bool false,Value.bool false,Value.bool false,Value.bool false,Value.bool false,Value.bool false,Value.bool false,Value.bool false,Value.bool false,Value.bool false,Value.bool false] 0 (F.map Value.bool)=F.map Value.bool:=by
  match F,Ih with
  | [_,_,_,_,_,_,_,_,_,_,_],_=>rfl
 simp -dsimp(maxSteps:=4000000) only[hlt,go_sem]
 refine hFr.mono ?_
 rintro _ _ ⟨rfl,rfl⟩
 simp -dsimp(maxSteps:=4000000) only[Ih,hms,hlp,go_sem]
 refine bY.mk fun b16 zo=>?_;have iQ:=zo;(try simp only[ah,aj,ne_eq]at iQ);have iY:=iQ;(try simp only[@eq_comm Nat b16]at iY);simp -dsimp(maxSteps:=4000000) only[iQ,iY,go_sem]
 simp -dsimp(maxSteps:=4000000) only[Ih,hms,hlp,iQ,iY,go_sem]
 have next:¬ (ok=true∧n=node)→kZ (N.tZ node (i+1)) (11*(i+1 - 1)) Y:=fun hh=>by
  have:=hY.congr (hno hh)
  exact⟨this.lo,by omega,this.ok⟩
 cases ok with
 |false=>
  simp -dsimp(maxSteps:=4000000) only[ee,iQ,iY,go_sem]
  exact again (i+1,base,cap,Y) _ A _ ⟨by dsimp only;omega,next (by simp),hO,hK⟩ (bZ.aS (by simp -dsimp(maxSteps:=4000000) only[iQ,iY,go_sem])) (AH.aK (AH.le_refl _) zo.2) (by dsimp only;omega)
 |true=>
  by_cases hn:n=node
  case neg=>
   simp -dsimp(maxSteps:=4000000) only[hn,ee,iQ,iY,go_sem]
   exact again (i+1,base,cap,Y) _ A _ ⟨by dsimp only;omega,next (by simp[hn]),hO,hK⟩ (bZ.aS (by simp -dsimp(maxSteps:=4000000) only[iQ,iY,go_sem])) (AH.aK (AH.le_refl _) zo.2) (by dsimp only;omega)
  subst hn
  obtain⟨k,rfl,hkT⟩:=Em rfl
  rw[hTN]at hkT
  have hl:=m.l
  obtain⟨⟨lb,lc,L⟩,hx⟩:=get_some (l:=O) (i:=k) (by omega)
  have Yp:good L=true:=m.g _ (List.mem_of_getElem? hx)
  rw[aaq k _ hx]at Eo
  dsimp only at Eo
  have k16:Keep A (A.add b16 (.cells (F.map Value.bool) 87 11)) fun _=>False:=Keep.add zo
  have Ur:=hA.o
  obtain⟨q,o,hq,_,rL⟩:=h.o.out.get (dn (f:=wK) hx)
  have rL:=rL 0 _ rfl
  simp only[Nat.add_zero,Nat.mul_one]at rL
  have hk0:(0:Int)≤(k:Int):=by omega
  have hkO:(k:Int)<O.length:=by omega
  have hle0:H.le (A.add b16 (.cells (F.map Value.bool) 87 11)):=(hK.trans k16).all
  simp -dsimp(maxSteps:=4000000) only[iQ,iY,go_sem]
  refine fZ.gen [.pu,.pu,.pu,.pu,.rd,.pu,.pu,.ch,.ch,.ch,.pu] [0,0,0,6,14,0,32,0,254,511,1023] 8 (H) mixed (by kernel_rfl) (hle0) ?_
  simp -dsimp(maxSteps:=4000000) only[hk0,hkO,hq,rL,e224,hmf,hle0,iQ,iY,go_sem]
  refine(Xw L (224*(i:Int)) (by omega) (by omega) F Ih Yp lb lc _ ((Ur.inn _ (List.mem_of_getElem? hx)).keep k16 fun _ _ h=>h)).mono ?_
  rintro _ A1 ⟨R,b,c,rfl,hJ,hR,hK1⟩
  have qh:=k16.trans hK1
  have hle:=(hK.trans qh).all
  have Bh:=hO.keep qh fun _ _ h=>h
  have hRl:R.length≤11:=Nat.le_trans hJ.small (wH ..)
  simp -dsimp(maxSteps:=4000000) only[hle,iQ,iY,go_sem]
  refine lS.growS (a:=b) (m:=R.length) (c:=c) (R':=R.map dN) Bh (hK.trans qh).all uQ rfl (by decide) (by decide) (by rw[Tryz.underlying36];rfl) (by simp) (by simp) hR (rV _) (J4 _) (by omega) fun gV cap2 A' kJ hK' hN'=>?_
  refine⟨_,AH.le_refl _,?_⟩
  have hK2:=(hK.trans qh).ow hK' fun b ⟨a,ha,e⟩=>e▸hO.fresh a ha
  have hle2:=hK2.all
  rw[←List.map_append]at kJ
  have hY2:kZ (N.tZ k (i+1)) (11*(i+1 - 1)) (Y++R):=by
   have h1:=(hY.app (Eo rfl hJ)).congr (hyes rfl)
   exact⟨h1.lo,by have:=h1.len;omega,h1.ok⟩
  simp -dsimp(maxSteps:=4000000) only[hle2,ee,iQ,iY,go_sem]
  refine again (i+1,gV,cap2,Y++R) _ A' _ ⟨by dsimp only;omega,hY2,kJ,hK2⟩ (bZ.aS ?_) (AH.le_refl _) (by dsimp only;omega)
  rw[List.length_append]
  simp -dsimp(maxSteps:=4000000) only[iQ,iY,go_sem]
theorem Xz {H A:AH} {b base:Option Addr} {c e cap:Nat} {R:List Sp} {Z:List Ls} (hR:bG A 2 b c (R.map dN)) (h0:R≠[]) (hO:fJ H A e 1 base cap (Z.map wI.encS)):∀ x,b=some x→Off base x.block:=fun x hx y hy e2=>by
 obtain⟨r,hr⟩:=get_some (l:=R) (i:=0) (List.length_pos_iff.2 h0)
 obtain⟨q,o,hq,_,hrd⟩:=hR.get (dn (f:=dN) hr)
 have h1:=hrd 0 _ rfl
 rcases hO.at_ with ⟨h2,_⟩ | ⟨bb,bs,h2,hf,_⟩
 ·rw[h2]at hy;cases hy
 ·rw[h2]at hy;cases hy
  rw[hx]at hq;cases hq
  dsimp only at e2
  subst e2
  rw[gB hf]at h1
  have hm:=List.mem_of_getElem? h1
  obtain⟨l,hl,hv⟩:=List.mem_flatten.1 hm
  obtain⟨z,_,rfl⟩:=List.mem_map.1 hl
  simp[wI.encS,dN]at hv
theorem MZ (a:Ad) (S:List SR) (T:List Tb) (B:List Bool) (P:List jh.Sp) (O:List Sl) (H:AH) (h:AU H a S T B P O) (m:May T O S.length) :
  aO Tryz.prog 13 #[.slice a.bs S.length a.cs,.slice a.bt T.length a.ct,.slice a.bb B.length a.cb,.slice a.bp P.length a.cp,.slice a.bo O.length a.co] H (fun v H'=>∃ R b c,v=.slice b R.length c∧Plain R∧kZ (oN (S.map (·.X)) T B P O).Ig 5632 R∧bG H' 2 b c (R.map dN)∧Keep H H' fun _=>False):=by
 have hsend:=fun(A:AH) (hK:Keep H A fun _=>False) (node:Int)=>Xy a S T B P O node A (h.keep hK) m
 obtain⟨N,hN⟩:∃ N,oN (S.map (·.X)) T B P O=N:=⟨_,rfl⟩
 have hTN:N.T.length=S.length:=by rw[←hN];exact h.l1
 rw[hN]at hsend ⊢
 have hl4:=h.l4
 refine aO.cu Tryz.func13 rfl Tryz.ntmps13 Tryz.results13 (by simp) ?_;simp -dsimp(maxSteps:=4000000) only[go_sem]
 refine fZ.jE (ι:=Nat×Option Addr×Nat×List Ls) (fun s A=>s.1≤S.length∧s.2.2.2.length=s.1∧kZ (N.AV s.1) (176*s.1) (tot s.2.2.2 s.1)∧fJ H A 36 1 s.2.1 s.2.2.1 (s.2.2.2.map wI.encS)∧(Keep H A fun _=>False)∧∀ z∈s.2.2.2,bG A 2 z.1 z.2.1 (z.2.2.map dN)∧(z.2.2=[]∨∀ x,z.1=some x→Off s.2.1 x.block))
  (fun s=>[(15,.int .i64 s.1),(14,.int .i64 S.length),(11,.slice s.2.1 s.1 s.2.2.1),(0,.slice a.bs S.length a.cs),(1,.slice a.bt T.length a.ct),(2,.slice a.bb B.length a.cb),(3,.slice a.bp P.length a.cp),(4,.slice a.bo O.length a.co)]) (fun s=>S.length - s.1) (0,none,0,[]) _
  ⟨by simp,rfl,kZ.nil fun t=>Ei,fJ.nil,Keep.refl,by simp⟩ (bZ.aS ?_) (AH.le_refl _) fun s A hV Q again out=>?_
 ·simp -dsimp(maxSteps:=4000000) only[go_sem]
 obtain⟨i,base,cap,Z⟩:=s
 obtain⟨hi,hZ,hY,hO,hK,hin⟩:=hV
 dsimp only at hi hZ hY hO hin again ⊢
 by_cases hlt:(i:Int)<S.length
 case neg=>
  obtain rfl:i=S.length:=by omega
  simp -dsimp(maxSteps:=4000000) only[hlt,go_sem]
  refine out _ _ _ (by simp) ?_
  simp -dsimp(maxSteps:=4000000) only[go_sem]
  rw[←hZ]at hY ⊢
  have hlen:=hY.len
  refine(Uc Z base cap A ⟨hO.slc,fun z hz=>(hin z hz).1⟩ (by omega)).mono ?_
  rintro _ A2 ⟨R,b,c,rfl,hJ,hR,hK2⟩
  simp -dsimp(maxSteps:=4000000) only[go_sem]
  have hR2:=(hY.join hJ).congr fun t=>Gg (by omega) t
  exact⟨A2,AH.le_refl _,R,b,c,rfl,hJ.plain,⟨hR2.lo,by have:=hR2.len;omega,hR2.ok⟩,hR,hK.trans hK2⟩
 have ee:=dA (i:=i) (by omega)
 simp -dsimp(maxSteps:=4000000) only[hlt,go_sem]
 refine(hsend A hK (i:Int)).mono ?_
 rintro _ A1 ⟨R,b,c,rfl,hpl,hsp,hR,hK1⟩
 simp -dsimp(maxSteps:=4000000) only[go_sem]
 refine bY.mk fun bx hbx=>?_
 simp -dsimp(maxSteps:=4000000) only[go_sem]
 have Bh:=hO.keep hK1 (fun _ _ h=>h)
 have qh:=hK.trans hK1
 refine lS.nD (x:=.slice (some ⟨bx,0,none⟩) 1 1) (R':=[wI.encS (b,c,R)]) (m:=1) (Bh.added hbx) (qh.nw hbx).all ab8 rfl (by decide) (by rw[Tryz.underlying94];rfl) (by simp[hZ]) rfl rfl (by rw[iF,fO];rfl) (by simp[wI.encS]) (by simp[wI.encS,iM]) (by omega) fun gV cap2 A' kJ hK' hN'=>?_
 have hK2:=(qh.nw hbx).ow hK' fun b ⟨a,ha,e⟩=>e▸hO.fresh a ha
 have hadd:Keep A1 (A1.add bx (.cells [.slice b R.length c] 36 1)) fun _=>False:=Keep.add hbx
 have Yz:∀ z:Ls,bG A1 2 z.1 z.2.1 (z.2.2.map dN)→(z.2.2=[]∨∀ x,z.1=some x→Off base x.block)→bG A' 2 z.1 z.2.1 (z.2.2.map dN)∧(z.2.2=[]∨∀ x,z.1=some x→Off gV x.block):=fun z hz ho=>by
  by_cases h0:z.2.2=[]
  ·rw[h0];exact⟨bG.empty,.inl rfl⟩
  have ho:=ho.resolve_left h0
  refine⟨(hz.keep hadd fun _ _ h=>h).keep hK' fun x hx ⟨y,hy,e⟩=>ho x hx y hy e.symm,.inr fun x hx y hy e=>?_⟩
  rcases hN' y hy with ⟨y',h1,h2⟩ | hf
  ·exact ho x hx y' h1 (h2▸e)
  ·rcases hz.apart (hadd.fr hf) with h3 | h3
   ·exact h0 (List.map_eq_nil_iff.1 h3)
   ·exact h3 x hx e.symm
 have hin2:∀ z∈Z++[(b,c,R)],bG A' 2 z.1 z.2.1 (z.2.2.map dN)∧(z.2.2=[]∨∀ x,z.1=some x→Off gV x.block):=fun z hz=>by
  rcases List.mem_append.1 hz with hz | hz
  ·exact Yz z ((hin z hz).1.keep hK1 fun _ _ h=>h) (hin z hz).2
  ·obtain rfl:=List.mem_singleton.1 hz
   refine Yz _ hR ?_
   by_cases h0:R=[]
   ·exact .inl h0
   ·exact .inr (Xz hR h0 Bh)
 have hY2:kZ (N.AV (i+1)) (176*(i+1)) (tot (Z++[(b,c,R)]) (i+1)):=by
  have e1:tot (Z++[(b,c,R)]) (i+1)=tot Z i++R:=by
   rw[tot,tot,List.take_of_length_le (by simp[hZ]),List.take_of_length_le (by omega)];simp
  rw[e1]
  have h1:=(hY.app hsp).congr fun t=>Ej t
  exact⟨h1.lo,by have:=h1.len;omega,h1.ok⟩
 simp -dsimp(maxSteps:=4000000) only[ee,go_sem]
 exact⟨A',AH.le_refl _,again (i+1,gV,cap2,Z++[(b,c,R)]) _ A' _ ⟨by dsimp only;omega,by simp[hZ],hY2,by rw[List.map_append];exact kJ,hK2,hin2⟩ (bZ.aS (by simp -dsimp(maxSteps:=4000000) only[go_sem])) (AH.le_refl _) (by dsimp only;omega)⟩
end Go.Proofs.YtbhamhhjicehaaaGreatDoor.ED
/- bus: whether oscillators are calm; what a node hears. -/
namespace Go.Proofs.YtbhamhhjicehaaaGreatDoor.ED
open Go Go.AX Go.Proofs Ty Go.Proofs.YtbhamhhjicehaaaGreatDoor.kK Go.Proofs.YtbhamhhjicehaaaGreatDoor.lV Go.Proofs.YtbhamhhjicehaaaGreatDoor.wJ Go.Proofs.YtbhamhhjicehaaaGreatDoor.Send Go.Proofs.YtbhamhhjicehaaaGreatDoor.Qm
open Go.Proofs.YtbhamhhjicehaaaGreatDoor.jh (Hd ji zZ DY Hm ki)
theorem sQ (L:List Stp) (base:Option Addr) (cap:Nat) (H:AH) (hs:bG H 2 base cap (L.map enc)) :
  aO Tryz.prog 58 #[.slice base L.length cap] H (fun v H'=>v=.bool (good L)∧H=H'):=by
 have hle:=hs.le
 have hbig:=hs.big
 simp only[List.length_map]at hle hbig
 refine aO.cu Tryz.func58 rfl Tryz.ntmps58 Tryz.results58 (by simp) ?_;simp -dsimp(maxSteps:=4000000) only[go_sem]
 by_cases h64:(64:Int)<L.length
 ·simp -dsimp(maxSteps:=4000000) only[h64,go_sem]
  exact⟨H,(AH.le_refl _),(by first | exact⟨by unfold good;rw[decide_eq_false (by omega)];rfl,rfl⟩ | rfl)⟩
 ·simp -dsimp(maxSteps:=4000000) only[h64,go_sem]
  refine fZ.gQ (ι:=Nat×Int) (fun p=>p.1≤L.length∧iT (-1) L=iT p.2 (L.drop p.1)) (fun p=>[(11,.int .i64 p.1),(3,.int .i64 p.2),(10,.int .i64 L.length),(9,.slice base L.length cap)])
   (fun _=>H) (fun p=>L.length - p.1) (0,-1) ⟨by simp,rfl⟩ (bZ.aS ?_) (AH.le_refl _) fun p hi Q again out=>?_
  ·simp -dsimp(maxSteps:=4000000) only[go_sem]
  ·obtain⟨i,last⟩:=p
   obtain⟨hi,hg⟩:=hi
   simp only at hi hg ⊢
   by_cases h:(i:Int)<L.length
   ·obtain⟨s,hx⟩:=get_some (l:=L) (i:=i) (by omega)
    obtain⟨b,o,rfl,hrow,hrd⟩:=hs.get (dn (f:=enc) hx)
    have e1:=dA (i:=i) (by omega)
    rw[drop_cons hx]at hg
    unfold enc at hrow
    simp -dsimp(maxSteps:=4000000) only[h,hrow,go_sem]
    refine bY.mk fun b1 iy=>?_;have aP:=iy;(try simp only[ah,aj,ne_eq]at aP);have aY:=aP;(try simp only[@eq_comm Nat b1]at aY);simp -dsimp(maxSteps:=4000000) only[aP,aY,go_sem]
    by_cases c1:s.at_≤last
    ·simp -dsimp(maxSteps:=4000000) only[c1,aP,aY,go_sem]
     refine out _ _ _ (by simp) ?_
     simp -dsimp(maxSteps:=4000000) only[aP,aY,go_sem]
     exact⟨H,(AH.aK (AH.le_refl _) ((by simp only[ah,aj,ne_eq,aP,not_false_eq_true,and_self]:aG _ b1).2)),(by first | exact⟨by rw[ni hg (.inl c1)],rfl⟩ | rfl)⟩
    by_cases c2:4294967296<s.at_
    ·simp -dsimp(maxSteps:=4000000) only[c1,c2,aP,aY,go_sem]
     refine out _ _ _ (by simp) ?_
     simp -dsimp(maxSteps:=4000000) only[aP,aY,go_sem]
     exact⟨H,(AH.aK (AH.le_refl _) ((by simp only[ah,aj,ne_eq,aP,not_false_eq_true,and_self]:aG _ b1).2)),(by first | exact⟨by rw[ni hg (.inr (.inl c2))],rfl⟩ | rfl)⟩
    by_cases c3:s.rate < -20000
    ·simp -dsimp(maxSteps:=4000000) only[c1,c2,c3,aP,aY,go_sem]
     refine out _ _ _ (by simp) ?_
     simp -dsimp(maxSteps:=4000000) only[aP,aY,go_sem]
     exact⟨H,(AH.aK (AH.le_refl _) ((by simp only[ah,aj,ne_eq,aP,not_false_eq_true,and_self]:aG _ b1).2)),(by first | exact⟨by rw[ni hg (.inr (.inr (.inl c3)))],rfl⟩ | rfl)⟩
    by_cases c4:20000<s.rate
    ·simp -dsimp(maxSteps:=4000000) only[c1,c2,c3,c4,aP,aY,go_sem]
     refine out _ _ _ (by simp) ?_
     simp -dsimp(maxSteps:=4000000) only[aP,aY,go_sem]
     exact⟨H,(AH.aK (AH.le_refl _) ((by simp only[ah,aj,ne_eq,aP,not_false_eq_true,and_self]:aG _ b1).2)),(by first | exact⟨by rw[ni hg (.inr (.inr (.inr c4)))],rfl⟩ | rfl)⟩
    simp -dsimp(maxSteps:=4000000) only[c1,c2,c3,c4,e1,aP,aY,go_sem]
    refine again (i+1,s.at_) _ _ ⟨by simp only;omega,?_⟩ (bZ.aS (by simp -dsimp(maxSteps:=4000000) only[aP,aY,go_sem])) (AH.aK (AH.le_refl _) ((by simp only[ah,aj,ne_eq,aP,not_false_eq_true,and_self]:aG _ b1).2)) (by simp only;omega)
    rw[hg];simp only[iT,xC (last:=last) (s:=s) (by omega),Bool.true_and]
   ·have hiL:i=L.length:=by omega
    rw[hiL,List.drop_length]at hg
    simp -dsimp(maxSteps:=4000000) only[h,go_sem]
    refine out _ _ _ (by simp) ?_
    simp -dsimp(maxSteps:=4000000) only[go_sem]
    refine⟨H,AH.le_refl _,?_,rfl⟩
    rw[Ko hg,decide_eq_true (by omega)]
def IxS (g:Stp→Bool) (L:List Stp) (r:Int):Prop:=(r = -1∧∀ x∈L,g x=false)∨∃ (i:Nat) (x:Stp),L[i]?=some x∧g x=true∧r=i∧∀ j,j<i→∀ y,L[j]?=some y→g y=false
theorem Us {g:Stp→Bool} {fid:Nat} {caps:List Value} {L:List Stp} {n:Nat} {base:Option Addr} {cap:Nat} {H:AH} (hs:bG H 2 base cap (L.map wJ.enc)) (hn:n=L.length) (hok:fA Tryz.prog fid=true)
  (hf:∀ x∈L,aO Tryz.prog fid ([]++[Value.agg (wJ.enc x).toArray]++caps).toArray H (fun v H'=>v=.bool (g x)∧H=H')) :
  aO Tryz.prog 101 #[.slice base n cap,.func (.func fid) #[] caps.toArray] H (fun v H'=>∃ r:Int,v=.int .i64 r∧IxS g L r∧H=H'):=by
 subst hn
 have hbig:=hs.big
 simp only[List.length_map]at hbig
 refine aO.cu Tryz.func101 rfl Tryz.ntmps101 Tryz.results101 (by simp) ?_;simp -dsimp(maxSteps:=4000000) only[go_sem]
 refine fZ.gQ (ι:=Nat) (fun i=>i≤L.length∧∀ j,j<i→∀ y,L[j]?=some y→g y=false) (fun i=>[(8,.int .i64 i),(7,.int .i64 L.length),(0,.slice base L.length cap),(1,.func (.func fid) #[] caps.toArray)])
  (fun _=>H) (fun i=>L.length - i) 0 ⟨by omega,fun j hj=>by omega⟩ (bZ.aS ?_) (AH.le_refl _) fun i hi Q again out=>?_
 ·simp -dsimp(maxSteps:=4000000) only[go_sem]
 ·obtain⟨hi,hall⟩:=hi
  by_cases h:(i:Int)<L.length
  ·obtain⟨x,hx⟩:=get_some (l:=L) (i:=i) (by omega)
   obtain⟨b,o,rfl,hrow,_⟩:=hs.get (dn (f:=wJ.enc) hx)
   have ee:=dA (i:=i) (by omega)
   simp -dsimp(maxSteps:=4000000) only[h,hrow,hok,go_sem]
   refine(hf x (List.mem_of_getElem? hx)).mono ?_;rintro _ _ ⟨rfl,rfl⟩
   cases hb:g x with
   |true=>
    simp -dsimp(maxSteps:=4000000) only[go_sem]
    refine out _ _ _ (by simp) ?_
    simp -dsimp(maxSteps:=4000000) only[go_sem]
    exact⟨H,(by(repeat (first | exact AH.le_refl _ | refine AH.aK ?_ ?_));all_goals (first | exact AH.le_refl _ | (show AH.find _ _=_;simp only[aH,aN,aV,ah,aj,ne_eq,not_false_eq_true,true_and,and_true,and_self]))),_,rfl,.inr ⟨i,x,hx,hb,rfl,hall⟩,rfl⟩
   |false=>
    simp -dsimp(maxSteps:=4000000) only[ee,go_sem]
    refine again (i+1) _ _ ⟨by omega,fun j hj m hm=>?_⟩ (bZ.aS (by simp -dsimp(maxSteps:=4000000) only[go_sem])) (AH.le_refl _) (by omega)
    by_cases hji:j=i
    ·subst hji;rw[hx]at hm;cases hm;exact hb
    ·exact hall j (by omega) m hm
  ·simp -dsimp(maxSteps:=4000000) only[h,go_sem]
   refine out _ _ _ (by simp) ?_
   simp -dsimp(maxSteps:=4000000) only[go_sem]
   exact⟨H,(by(repeat (first | exact AH.le_refl _ | refine AH.aK ?_ ?_));all_goals (first | exact AH.le_refl _ | (show AH.find _ _=_;simp only[aH,aN,aV,ah,aj,ne_eq,not_false_eq_true,true_and,and_true,and_self]))),_,rfl,.inl ⟨rfl,fun y hy=>by
    obtain⟨j,hj⟩:=List.mem_iff_getElem?.1 hy
    exact hall j (by have:=dG hj;omega) y hj⟩,rfl⟩
theorem KA {g:Stp→Bool} {fid:Nat} {caps:List Value} {L:List Stp} {n:Nat} {base:Option Addr} {cap:Nat} {H:AH} (hs:bG H 2 base cap (L.map wJ.enc)) (hn:n=L.length) (hok:fA Tryz.prog fid=true)
  (hf:∀ x∈L,aO Tryz.prog fid ([]++[Value.agg (wJ.enc x).toArray]++caps).toArray H (fun v H'=>v=.bool (g x)∧H=H')) :
  aO Tryz.prog 59 #[.slice base n cap,.func (.func fid) #[] caps.toArray] H (fun v H'=>v=.bool (L.any g)∧H=H'):=by
 refine aO.cu Tryz.func59 rfl Tryz.ntmps59 Tryz.results59 (by simp) ?_;simp -dsimp(maxSteps:=4000000) only[go_sem]
 refine(Us hs hn hok hf).mono ?_;rintro _ _ ⟨r,rfl,hr,rfl⟩
 rcases hr with ⟨rfl,hno⟩ | ⟨q,x,hq,hg,rfl,hpre⟩
 ·have e:L.any g=false:=by rw[List.any_eq_false];intro x hx;rw[hno x hx];simp
  simp -dsimp(maxSteps:=4000000) only[go_sem]
  exact⟨H,(AH.le_refl _),(by first | exact⟨by rw[e],rfl⟩ | rfl)⟩
 ·have e:L.any g=true:=List.any_eq_true.2 ⟨x,List.mem_of_getElem? hq,hg⟩
  have q0:(0:Int)≤(q:Int):=by omega
  simp -dsimp(maxSteps:=4000000) only[go_sem]
  exact⟨H,(AH.le_refl _),(by first | exact⟨by rw[e],rfl⟩ | rfl)⟩
def IxK (g:Sl→Bool) (L:List Sl) (r:Int):Prop:=(r = -1∧∀ x∈L,g x=false)∨∃ (i:Nat) (x:Sl),L[i]?=some x∧g x=true∧r=i∧∀ j,j<i→∀ y,L[j]?=some y→g y=false
theorem Ut {g:Sl→Bool} {fid:Nat} {caps:List Value} {L:List Sl} {n:Nat} {base:Option Addr} {cap:Nat} {H:AH} (hs:bG H 1 base cap (L.map wK)) (hn:n=L.length) (hok:fA Tryz.prog fid=true)
  (hf:∀ x∈L,aO Tryz.prog fid ([]++[Value.slice x.1 x.2.2.length x.2.1]++caps).toArray H (fun v H'=>v=.bool (g x)∧H=H')) :
  aO Tryz.prog 100 #[.slice base n cap,.func (.func fid) #[] caps.toArray] H (fun v H'=>∃ r:Int,v=.int .i64 r∧IxK g L r∧H=H'):=by
 subst hn
 have hbig:=hs.big
 simp only[List.length_map]at hbig
 refine aO.cu Tryz.func100 rfl Tryz.ntmps100 Tryz.results100 (by simp) ?_;simp -dsimp(maxSteps:=4000000) only[go_sem]
 refine fZ.gQ (ι:=Nat) (fun i=>i≤L.length∧∀ j,j<i→∀ y,L[j]?=some y→g y=false) (fun i=>[(8,.int .i64 i),(7,.int .i64 L.length),(0,.slice base L.length cap),(1,.func (.func fid) #[] caps.toArray)])
  (fun _=>H) (fun i=>L.length - i) 0 ⟨by omega,fun j hj=>by omega⟩ (bZ.aS ?_) (AH.le_refl _) fun i hi Q again out=>?_
 ·simp -dsimp(maxSteps:=4000000) only[go_sem]
 ·obtain⟨hi,hall⟩:=hi
  by_cases h:(i:Int)<L.length
  ·obtain⟨x,hx⟩:=get_some (l:=L) (i:=i) (by omega)
   obtain⟨b,o,rfl,_,hrow⟩:=hs.get (dn (f:=wK) hx)
   have hrow:=hrow 0 _ rfl
   simp only[Nat.add_zero,Nat.mul_one]at hrow
   have ee:=dA (i:=i) (by omega)
   simp -dsimp(maxSteps:=4000000) only[h,hrow,hok,go_sem]
   refine(hf x (List.mem_of_getElem? hx)).mono ?_;rintro _ _ ⟨rfl,rfl⟩
   cases hb:g x with
   |true=>
    simp -dsimp(maxSteps:=4000000) only[go_sem]
    refine out _ _ _ (by simp) ?_
    simp -dsimp(maxSteps:=4000000) only[go_sem]
    exact⟨H,(by(repeat (first | exact AH.le_refl _ | refine AH.aK ?_ ?_));all_goals (first | exact AH.le_refl _ | (show AH.find _ _=_;simp only[aH,aN,aV,ah,aj,ne_eq,not_false_eq_true,true_and,and_true,and_self]))),_,rfl,.inr ⟨i,x,hx,hb,rfl,hall⟩,rfl⟩
   |false=>
    simp -dsimp(maxSteps:=4000000) only[ee,go_sem]
    refine again (i+1) _ _ ⟨by omega,fun j hj m hm=>?_⟩ (bZ.aS (by simp -dsimp(maxSteps:=4000000) only[go_sem])) (AH.le_refl _) (by omega)
    by_cases hji:j=i
    ·subst hji;rw[hx]at hm;cases hm;exact hb
    ·exact hall j (by omega) m hm
  ·simp -dsimp(maxSteps:=4000000) only[h,go_sem]
   refine out _ _ _ (by simp) ?_
   simp -dsimp(maxSteps:=4000000) only[go_sem]
   exact⟨H,(by(repeat (first | exact AH.le_refl _ | refine AH.aK ?_ ?_));all_goals (first | exact AH.le_refl _ | (show AH.find _ _=_;simp only[aH,aN,aV,ah,aj,ne_eq,not_false_eq_true,true_and,and_true,and_self]))),_,rfl,.inl ⟨rfl,fun y hy=>by
    obtain⟨j,hj⟩:=List.mem_iff_getElem?.1 hy
    exact hall j (by have:=dG hj;omega) y hj⟩,rfl⟩
theorem KC {g:Sl→Bool} {fid:Nat} {caps:List Value} {L:List Sl} {n:Nat} {base:Option Addr} {cap:Nat} {H:AH} (hs:bG H 1 base cap (L.map wK)) (hn:n=L.length) (hok:fA Tryz.prog fid=true)
  (hf:∀ x∈L,aO Tryz.prog fid ([]++[Value.slice x.1 x.2.2.length x.2.1]++caps).toArray H (fun v H'=>v=.bool (g x)∧H=H')) :
  aO Tryz.prog 56 #[.slice base n cap,.func (.func fid) #[] caps.toArray] H (fun v H'=>v=.bool (L.any g)∧H=H'):=by
 refine aO.cu Tryz.func56 rfl Tryz.ntmps56 Tryz.results56 (by simp) ?_;simp -dsimp(maxSteps:=4000000) only[go_sem]
 refine(Ut hs hn hok hf).mono ?_;rintro _ _ ⟨r,rfl,hr,rfl⟩
 rcases hr with ⟨rfl,hno⟩ | ⟨q,x,hq,hg,rfl,hpre⟩
 ·have e:L.any g=false:=by rw[List.any_eq_false];intro x hx;rw[hno x hx];simp
  simp -dsimp(maxSteps:=4000000) only[go_sem]
  exact⟨H,(AH.le_refl _),(by first | exact⟨by rw[e],rfl⟩ | rfl)⟩
 ·have e:L.any g=true:=List.any_eq_true.2 ⟨x,List.mem_of_getElem? hq,hg⟩
  have q0:(0:Int)≤(q:Int):=by omega
  simp -dsimp(maxSteps:=4000000) only[go_sem]
  exact⟨H,(AH.le_refl _),(by first | exact⟨by rw[e],rfl⟩ | rfl)⟩
def badR (s:Stp):Bool:=decide (s.rate < -2000∨2000<s.rate)
def badL (L:List Stp):Bool:=!good L || L.any badR
def qX (O:List Sl) (n:Nat):Bool:=decide (O.length=n)&&!(O.any fun x=>badL x.2.2)
theorem Qr {L:List Stp} (h:good L=true) {s:Stp} (hs:s∈L) : -20000≤s.rate∧s.rate≤20000:=by
 have h2:=(nS h).2
 generalize (-1:Int)=last at h2
 clear h
 induction L generalizing last with
 |nil=>cases hs
 |cons y L ih=>
  obtain⟨_,_,h3,h4,h5⟩:=gy h2
  rcases List.mem_cons.1 hs with rfl | hs
  ·exact⟨h3,h4⟩
  ·exact ih hs _ h5
theorem Gh {O:List Sl} {n:Nat}:qX O n=true↔O.length=n∧∀ x∈O,good x.2.2=true∧qW 2000 x.2.2:=by
 unfold qX
 rw[Bool.and_eq_true,decide_eq_true_eq,Bool.not_eq_true',List.any_eq_false]
 refine and_congr_right fun _=>forall_congr' fun x=>forall_congr' fun _=>?_
 unfold badL qW
 rw[Bool.or_eq_true,Bool.not_eq_true',not_or,Bool.not_eq_false]
 refine and_congr_right fun _=>?_
 simp only[List.any_eq_true,badR,decide_eq_true_eq,not_exists,not_and]
 exact forall_congr' fun s=>forall_congr' fun _=>by omega
theorem adI (s:Stp) (h : -20000≤s.rate∧s.rate≤20000) (H:AH):aO Tryz.prog 60 ([]++[Value.agg (wJ.enc s).toArray]++([]:List Value)).toArray H (fun v H'=>v=.bool (badR s)∧H=H'):=by
 obtain⟨at_,rate⟩:=s
 dsimp only at h
 show aO _ _ #[.agg #[.int .i64 at_,.int .i64 rate]] _ _
 have e1:IntKind.i64.wrap (0 - rate) = -rate:=by rw[eH (by omega) (by omega)];omega
 have e2:badR ⟨at_,rate⟩=decide (2000<if -rate>rate then -rate else rate):=by
  unfold badR
  dsimp only
  rw[decide_eq_decide]
  split<;>omega
 refine aO.cu Tryz.func60 rfl Tryz.ntmps60 Tryz.results60 (by simp) ?_;simp -dsimp(maxSteps:=4000000) only[go_sem]
 refine bY.mk fun b1 iy=>?_;have aP:=iy;(try simp only[ah,aj,ne_eq]at aP);have aY:=aP;(try simp only[@eq_comm Nat b1]at aY);simp -dsimp(maxSteps:=4000000) only[aP,aY,go_sem]
 simp -dsimp(maxSteps:=4000000) only[e1,aP,aY,go_sem]
 exact⟨H,(AH.aK (AH.le_refl _) ((by simp only[ah,aj,ne_eq,aP,not_false_eq_true,and_self]:aG _ b1).2)),(by first | exact⟨by rw[e2],rfl⟩ | rfl)⟩
theorem aar (x:Sl) (H:AH) (h:bG H 2 x.1 x.2.1 (x.2.2.map wJ.enc)):aO Tryz.prog 57 ([]++[Value.slice x.1 x.2.2.length x.2.1]++([]:List Value)).toArray H (fun v H'=>v=.bool (badL x.2.2)∧H=H'):=by
 obtain⟨b,c,L⟩:=x
 show aO _ _ #[.slice b L.length c] _ _
 dsimp only at h ⊢
 refine aO.cu Tryz.func57 rfl Tryz.ntmps57 Tryz.results57 (by simp) ?_;simp -dsimp(maxSteps:=4000000) only[go_sem]
 refine(sQ L b c _ h).mono ?_;rintro _ _ ⟨rfl,rfl⟩
 cases hg:good L with
 |false=>
  simp -dsimp(maxSteps:=4000000) only[go_sem]
  exact⟨H,(AH.le_refl _),(by first | exact⟨by simp[badL,hg],rfl⟩ | rfl)⟩
 |true=>
  simp -dsimp(maxSteps:=4000000) only[go_sem]
  refine(KA (g:=badR) (fid:=60) (caps:=[]) h rfl (by kernel_rfl) fun s hs=>adI s (Qr hg hs) _).mono ?_
  rintro _ _ ⟨rfl,rfl⟩
  simp -dsimp(maxSteps:=4000000) only[go_sem]
  exact⟨H,(AH.le_refl _),(by first | exact⟨by simp[badL,hg],rfl⟩ | rfl)⟩
theorem aas (O:List Sl) (base:Option Addr) (cap n:Nat) (hn:n<1000) (H:AH) (h:zn H base cap O):aO Tryz.prog 24 #[.slice base O.length cap,.int .i64 n] H (fun v H'=>v=.bool (qX O n)∧H=H'):=by
 have hbig:=h.out.big
 simp only[List.length_map]at hbig
 refine aO.cu Tryz.func24 rfl Tryz.ntmps24 Tryz.results24 (by simp) ?_;simp -dsimp(maxSteps:=4000000) only[go_sem]
 by_cases e:(O.length:Int)=n
 ·have e':O.length=n:=by omega
  simp -dsimp(maxSteps:=4000000) only[e,go_sem]
  refine(KC (g:=fun x=>badL x.2.2) (fid:=57) (caps:=[]) h.out rfl (by kernel_rfl) fun x hx=>aar x _ (h.inn x hx)).mono ?_
  rintro _ _ ⟨rfl,rfl⟩
  simp -dsimp(maxSteps:=4000000) only[go_sem]
  exact⟨H,(AH.le_refl _),(by first | exact⟨by simp[qX,e'],rfl⟩ | rfl)⟩
 ·have e':¬ O.length=n:=by omega
  simp -dsimp(maxSteps:=4000000) only[e,go_sem]
  exact⟨H,(AH.le_refl _),(by first | exact⟨by simp[qX,e'],rfl⟩ | rfl)⟩
theorem Gi (R:List Sp) (K:List Stp):∀ s y,hdB R K s=some y→0≤y∧y≤255:=fun s y h=>by
 unfold hdB at h
 split at h
 ·split at h
  ·obtain rfl:=Option.some.inj h
   unfold lM
   split
   ·exact⟨by decide,by decide⟩
   ·unfold jh.mZ
    split
    ·exact⟨by decide,by decide⟩
    ·exact⟨qG.mg _ _,jh.Yr _⟩
  ·cases h
 ·cases h
theorem OE (R:List Sp) (K:List Stp) (i:Int) (h:¬ (1≤i∧i≤16)):hdB R K i=none:=by rw[hdB,if_neg h]
theorem XA (R:List Sp) (hp:Plain R) (hb:R.length<100000) (K:List Stp) (hg:good K=true) (base:Option Addr) (cap:Nat) (lb:Option Addr) (lc:Nat) (H:AH) (hs:bG H 2 base cap (R.map dN)) (hL:bG H 2 lb lc (K.map wJ.enc)) :
  aO Tryz.prog 26 #[.slice base R.length cap,.slice lb K.length lc] H (fun v H'=>∃ bm,v=.map (some bm)∧Hm H' (.map (some bm)) (hdB R K)∧(Keep H H' fun _=>False)∧aG H bm):=by
 have hout:=OE R K
 have heq:∀ i:Int,1≤i∧i≤16→hdB R K i=if (lM R K (bJ K (224*i - 20)) (bJ K (224*i+20))).2.2=0∧(lM R K (bJ K (224*i - 20)) (bJ K (224*i+20))).2.1=false then some (lM R K (bJ K (224*i - 20)) (bJ K (224*i+20))).1 else none:=fun i hi=>by rw[hdB,if_pos hi]
 obtain⟨hd,hhd⟩:∃ hd,hdB R K=hd:=⟨_,rfl⟩
 rw[hhd]at hout heq ⊢
 refine aO.cu Tryz.func26 rfl Tryz.ntmps26 Tryz.results26 (by simp) ?_;simp -dsimp(maxSteps:=4000000) only[go_sem]
 refine bY.mk fun bm rP=>?_;have jv:=rP;(try simp only[ah,aj,ne_eq]at jv);have jI:=jv;(try simp only[@eq_comm Nat bm]at jI);simp -dsimp(maxSteps:=4000000) only[jv,jI,go_sem]
 have hbm:aG H bm:=rP
 have h1:ji hd 1=[]:=by simp[ji,hout 0 (by omega)]
 refine fZ.gQ (ι:=Nat) (fun i=>1≤i∧i≤17) (fun i=>[(6,.int .i64 i),(5,.map (some bm)),(0,.slice base R.length cap),(1,.slice lb K.length lc)]) (fun i=>H.add bm (.gW (ki (ji hd i)))) (fun i=>17 - i) 1 ⟨by omega,by omega⟩ (bZ.aS ?_) (by rw[h1];exact AH.le_refl _) fun i hi Q again out=>?_
 ·simp -dsimp(maxSteps:=4000000) only[jv,jI,go_sem]
 by_cases hlt:(i:Int)≤16
 ·have hS:∀ {k},bG (H.add bm k) 2 base cap (R.map dN):=fun {k}=>hs.add rP
  have hK:∀ {k},bG (H.add bm k) 2 lb lc (K.map wJ.enc):=fun {k}=>hL.add rP
  have ee:=dA (i:=i) (by omega)
  have e224:IntKind.i64.wrap (224*(i:Int))=224*(i:Int):=eH (by omega) (by omega)
  have em:IntKind.i64.wrap (224*(i:Int) - 20)=224*(i:Int) - 20:=eH (by omega) (by omega)
  have ep:IntKind.i64.wrap (224*(i:Int)+20)=224*(i:Int)+20:=eH (by omega) (by omega)
  have hi':=heq i (by omega)
  simp -dsimp(maxSteps:=4000000) only[hlt,e224,em,jv,jI,go_sem]
  refine(vN K (224*(i:Int) - 20) hg lb lc _ hK).mono ?_;rintro _ _ ⟨rfl,rfl⟩
  simp -dsimp(maxSteps:=4000000) only[ep,jv,jI,go_sem]
  refine(vN K (224*(i:Int)+20) hg lb lc _ hK).mono ?_;rintro _ _ ⟨rfl,rfl⟩
  simp -dsimp(maxSteps:=4000000) only[jv,jI,go_sem]
  refine(UQ.aao R K (bJ K (224*(i:Int) - 20)) (bJ K (224*(i:Int)+20)) hg base cap lb lc _ hS hK hb).mono ?_
  rintro _ _ ⟨R',hJ,rfl,rfl⟩
  obtain rfl:R'=R:=hJ.uniq (zl hp) fun t=>Iff.rfl
  rw[Ky]
  obtain⟨y,od,er,hyo⟩:∃ y od er,lM R' K (bJ K (224*(i:Int) - 20)) (bJ K (224*(i:Int)+20))=(y,od,er):=⟨_,_,_,rfl⟩
  rw[hyo]at hi' ⊢
  dsimp only at hi' ⊢
  by_cases h0:er=0∧od=false
  ·obtain⟨rfl,rfl⟩:=h0
   rw[if_pos ⟨rfl,rfl⟩]at hi'
   have e1:ki (ji hd i)++[(.int .i64 i,.int .u8 y)]=ki (ji hd (i+1)):=by rw[ji,hi',ki,ki,List.map_append];rfl
   simp -dsimp(maxSteps:=4000000) only[ee,zZ,EJ,Option.getD_some,e1,jv,jI,go_sem]
   exact again (i+1) _ _ (by omega) (bZ.aS (by simp -dsimp(maxSteps:=4000000) only[jv,jI,go_sem])) (AH.le_refl _) (by omega)
  ·rw[if_neg h0]at hi'
   have e1:ji hd (i+1)=ji hd i:=by rw[ji,hi']
   have c:¬ er=0∨od=true:=by
    by_cases h:er=0
    ·exact .inr (by cases od with | true=>rfl | false=>exact absurd ⟨h,rfl⟩ h0)
    ·exact .inl h
   rcases c with c | rfl
   ·simp -dsimp(maxSteps:=4000000) only[c,ee,jv,jI,go_sem]
    rw[←e1]
    exact again (i+1) _ _ (by omega) (bZ.aS (by simp -dsimp(maxSteps:=4000000) only[jv,jI,go_sem])) (AH.le_refl _) (by omega)
   ·by_cases c:er=0
    ·simp -dsimp(maxSteps:=4000000) only[c,ee,jv,jI,go_sem]
     rw[←e1]
     exact again (i+1) _ _ (by omega) (bZ.aS (by simp -dsimp(maxSteps:=4000000) only[jv,jI,go_sem])) (AH.le_refl _) (by omega)
    ·simp -dsimp(maxSteps:=4000000) only[c,ee,jv,jI,go_sem]
     rw[←e1]
     exact again (i+1) _ _ (by omega) (bZ.aS (by simp -dsimp(maxSteps:=4000000) only[jv,jI,go_sem])) (AH.le_refl _) (by omega)
 obtain rfl:i=17:=by omega
 have hM:Hm (H.add bm (.gW (ki (ji hd 17)))) (.map (some bm)) hd:=DY (aH _ _ _) hout
 simp -dsimp(maxSteps:=4000000) only[hlt,jv,jI,go_sem]
 refine out _ _ _ (by simp) ?_
 simp -dsimp(maxSteps:=4000000) only[jv,jI,go_sem]
 exact⟨_,AH.le_refl _,bm,rfl,hM,Keep.add hbm,hbm⟩
end Go.Proofs.YtbhamhhjicehaaaGreatDoor.ED
/- bus: Round. -/
namespace Go.Proofs.YtbhamhhjicehaaaGreatDoor.ED
open Go Go.AX Go.Proofs Ty Go.Proofs.YtbhamhhjicehaaaGreatDoor.kK Go.Proofs.YtbhamhhjicehaaaGreatDoor.lV Go.Proofs.YtbhamhhjicehaaaGreatDoor.wJ Go.Proofs.YtbhamhhjicehaaaGreatDoor.Qm Go.Proofs.YtbhamhhjicehaaaGreatDoor.Err
open Go.Proofs.YtbhamhhjicehaaaGreatDoor.mF (Nf iV lG GZ)
open Go.Proofs.YtbhamhhjicehaaaGreatDoor.jh (SR oq jH jy lU DZ Aa Hy Hm Ht)
open Go.Proofs.YtbhamhhjicehaaaGreatDoor.pF (Tb ig kW tabs)
def lX (n:Nat) (T:List Tb) (O:List Sl):Int:=if lU n T=0 then (if qX O n=true then 0 else 1) else lU n T
def adJ (XS:List (List Nf)) (S:List SR) (T:List Tb) (B:List Bool) (P:List jh.Sp) (O:List Sl) (SO:List SR):Prop:=SO.length=S.length∧∃ R,Plain R∧(∀ t,low R t↔(oN XS T B P O).Ig t)∧
 ∀ (n:Nat) s t l x o,S[n]?=some s→T[n]?=some t→B[n]?=some l→O[n]?=some x→SO[n]?=some o→(SR.X o).Perm (jy (hdB R x.2.2) s.X s.den t l).1∧o.den=(jy (hdB R x.2.2) s.X s.den t l).2
theorem OG {n:Nat} {T:List Tb} {O:List Sl} (h:lX n T O=0):lU n T=0∧qX O n=true:=by
 unfold lX at h
 split at h
 ·rename_i h1
  split at h
  ·rename_i h2;exact⟨h1,h2⟩
  ·cases h
 ·rename_i h1;exact absurd h h1
theorem Qs {n:Nat} {T:List Tb} (h:lU n T=0):(tabs T).2=0:=by
 unfold lU at h
 split at h
 ·cases h
 ·exact h
theorem May.of {T:List Tb} {O:List Sl} {n:Nat} (h:lX n T O=0):May T O n:=
 have h':=OG h
 have hc:=Gh.1 h'.2
 ⟨DZ (Qs h'.1),hc.1,fun x hx=>(hc.2 x hx).1⟩
theorem yY (a:Ad) (S:List SR) (T:List Tb) (B:List Bool) (P:List jh.Sp) (O:List Sl) (H:AH) (hE:rO H.w0) (h:AU H a S T B P O) :
  aO Tryz.prog 7 #[.slice a.bs S.length a.cs,.slice a.bt T.length a.ct,.slice a.bb B.length a.cb,.slice a.bp P.length a.cp,.slice a.bo O.length a.co] H (fun u H'=>∃ base cap SO,u=.tuple #[.slice base (List.length SO) cap,.int .i64 (lX S.length T O)]∧(lX S.length T O≠0→SO=[])∧(lX S.length T O=0→adJ (S.map (·.X)) S T B P O SO)∧oq H' base cap SO∧(Keep H H' fun _=>False)∧∀ o∈SO,∀ x,o.ft x→aG H x):=by
 obtain⟨XS,hXS⟩:∃ XS,S.map (·.X)=XS:=⟨_,rfl⟩
 have Ep:=fun(m:May T O S.length) (A:AH) (hK:Keep H A fun _=>False)=>MZ a S T B P O A (h.keep hK) m
 rw[hXS]at Ep ⊢
 have hl1:=h.l1
 have hl2:=h.l2
 have bad:∀ {E:Int} {T':AH},lX S.length T O=E→E≠0→H.le T'→∃ H',H'.le T'∧∃ base cap SO,Value.tuple #[.slice none 0 0,.int .i64 E]=.tuple #[.slice base (List.length SO) cap,.int .i64 (lX S.length T O)]∧(lX S.length T O≠0→SO=[])∧(lX S.length T O=0→adJ XS S T B P O SO)∧oq H' base cap SO∧(Keep H H' fun _=>False)∧∀ o∈SO,∀ x,o.ft x→aG H x:=fun {E T'} he h0 hl=>
  ⟨H,hl,none,0,[],by rw[he];rfl,fun _=>rfl,fun h=>absurd (he.symm.trans h) h0,⟨bG.nil,by simp⟩,Keep.refl,by simp⟩
 refine aO.cu Tryz.func7 rfl Tryz.ntmps7 Tryz.results7 (by simp) ?_;simp -dsimp(maxSteps:=4000000) only[go_sem]
 refine(jh.yY S T B [] a.bs a.bt a.bb none a.cs a.ct a.cb 0 H hE h.s h.t h.b bG.nil hl1 hl2 h.l4).mono ?_
 rintro _ A1 ⟨zb,zc,SA,rfl,_,_,_,hK1,_⟩
 obtain⟨Er,hEr⟩:∃ Er,lU S.length T=Er:=⟨_,rfl⟩
 rw[hEr]
 simp -dsimp(maxSteps:=4000000) only[go_sem]
 by_cases h0:Er=0
 case neg=>
  simp -dsimp(maxSteps:=4000000) only[h0,go_sem]
  exact bad (by rw[lX,hEr,if_neg h0]) h0 hK1.all
 subst h0
 have hn:S.length<1000:=by have:=h.l4;omega
 simp -dsimp(maxSteps:=4000000) only[go_sem]
 refine(aas O a.bo a.co S.length hn _ (h.o.keep hK1)).mono ?_;rintro _ _ ⟨rfl,rfl⟩
 cases hc:qX O S.length with
 |false=>
  simp -dsimp(maxSteps:=4000000) only[go_sem]
  exact bad (by rw[lX,hEr,if_pos rfl,hc];rfl) (by decide) hK1.all
 |true=>
  have hE0:lX S.length T O=0:=by rw[lX,hEr,if_pos rfl,hc];rfl
  have hM:=May.of hE0
  have ht:=hM.t
  simp -dsimp(maxSteps:=4000000) only[go_sem]
  refine(Ep hM A1 hK1).mono ?_
  rintro _ D ⟨R,rb,rc,rfl,hpl,hsp,hR,YA⟩
  have kD:=hK1.trans YA
  have hRl:=hsp.len
  have hin:=h.keep kD
  have hS:=hin.s
  have hT:=hin.t
  have hB:=hin.b
  have hO:=hin.o
  have hlO:=hM.l
  have D5:=hS.out.big
  simp only[List.length_map]at D5
  simp -dsimp(maxSteps:=4000000) only[go_sem]
  clear Ep bad hK1 YA hin
  refine fZ.jE (ι:=Nat×Option Addr×Nat×List SR) (fun s A=>s.1≤S.length∧s.2.2.2.length=s.1∧fJ D A 47 1 s.2.1 s.2.2.1 (s.2.2.2.map jh.encS)∧(Keep D A fun _=>False)∧(∀ o∈s.2.2.2,o.In A∧∀ x,o.ft x→aG D x∧∀ a,s.2.1=some a→a.block≠x)∧∀ (n:Nat) r t l x o,S[n]?=some r→T[n]?=some t→B[n]?=some l→O[n]?=some x→s.2.2.2[n]?=some o→(SR.X o).Perm (jy (hdB R x.2.2) r.X r.den t l).1∧o.den=(jy (hdB R x.2.2) r.X r.den t l).2)
   (fun s=>[(41,.int .i64 s.1),(40,.int .i64 S.length),(39,.slice a.bs S.length a.cs),(15,.slice s.2.1 s.1 s.2.2.1),(14,.slice rb R.length rc),(0,.slice a.bs S.length a.cs),(1,.slice a.bt T.length a.ct),(2,.slice a.bb B.length a.cb),(4,.slice a.bo O.length a.co)]) (fun s=>S.length - s.1) (0,none,0,[]) _ ⟨by simp only;omega,rfl,fJ.nil,Keep.refl,by simp,by simp⟩ (bZ.aS ?_) (AH.le_refl _) fun s A hi Q again out=>?_
  ·simp -dsimp(maxSteps:=4000000) only[go_sem]
  obtain⟨i,base,cap,SO⟩:=s
  obtain⟨hi,hl,KD,hK,XB,hval⟩:=hi
  dsimp only at hi hl KD XB hval again ⊢
  by_cases hlt:(i:Int)<S.length
  case neg=>
   obtain rfl:i=S.length:=by omega
   simp -dsimp(maxSteps:=4000000) only[hlt,go_sem]
   refine out _ _ _ (by simp) ?_
   simp -dsimp(maxSteps:=4000000) only[go_sem]
   refine(Hy base S.length cap _ (by have:=KD.le;simpa [hl]using this)).mono ?_;rintro _ _ ⟨rfl,rfl⟩
   simp -dsimp(maxSteps:=4000000) only[go_sem]
   refine⟨A,AH.le_refl _,base,S.length,SO,by rw[hl,hE0],by rw[hE0];exact fun h=>absurd rfl h,fun _=>⟨hl,R,hpl,hsp.lo,hval⟩,⟨?_,fun o ho=>(XB o ho).1⟩,kD.trans hK,fun o ho x hx=>kD.fr ((XB o ho).2 x hx).1⟩
   rcases KD.at_ with ⟨rfl,h2,rfl⟩ | ⟨b,bs',rfl,_⟩
   ·have h3:SO=[]:=List.map_eq_nil_iff.1 h2
    subst h3
    have hl0:S.length=0:=by simpa using hl.symm
    have:=(KD.slc)
    simp only[hl0]
    exact bG.nil
   ·have h3:=KD.clip.slc
    simpa [hl]using h3
  obtain⟨r,hr⟩:=get_some (l:=S) (i:=i) (by omega)
  obtain⟨⟨tb,tc,L⟩,htt⟩:=get_some (l:=T) (i:=i) (by omega)
  obtain⟨l,hbl⟩:=get_some (l:=B) (i:=i) (by omega)
  obtain⟨⟨ob,oc,K⟩,hxo⟩:=get_some (l:=O) (i:=i) (by omega)
  have KJ:=hS.keep hK
  have hTA:=hT.keep hK
  have Ur:=hO.keep hK
  have qw:=KJ.inn r (List.mem_of_getElem? hr)
  have MO:=hTA.inn _ (List.mem_of_getElem? htt)
  have Uu:=Ur.inn _ (List.mem_of_getElem? hxo)
  have hgK:good K=true:=hM.g _ (List.mem_of_getElem? hxo)
  obtain⟨q1,o1,hq1,_,hr1⟩:=hS.out.get (Go.AX.dn (f:=jh.encS) hr)
  obtain⟨q2,o2,hq2,_,hr2⟩:=hT.out.get (Go.AX.dn (f:=kW) htt)
  obtain⟨q3,o3,hq3,_,hr3⟩:=hB.get (Go.AX.dn (f:=jH) hbl)
  obtain⟨q4,o4,hq4,_,hr4⟩:=hO.out.get (Go.AX.dn (f:=wK) hxo)
  have hr1:=hr1 0 _ rfl
  have hr2:=hr2 0 _ rfl
  have hr3:=hr3 0 _ rfl
  have hr4:=hr4 0 _ rfl
  simp only[Nat.add_zero,Nat.mul_one]at hr1 hr2 hr3 hr4
  have a1:=hK.rd hr1
  have a3:=hK.rd hr3
  have ee:=dA (i:=i) (by omega)
  have hi0:(0:Int)≤(i:Int):=by omega
  have hiT:(i:Int)<T.length:=by omega
  have Qz:(i:Int)<B.length:=by omega
  have hiO:(i:Int)<O.length:=by omega
  have hle:=hK.all
  have nb:∀ {A1:AH},(Keep A A1 fun _=>False)→∀ b X den ft,iV A1 b X den ft→lG X→(∀ x,ft x→aG A x)→X.Perm (jy (hdB R K) r.X r.den (tb,tc,L) l).1→den=(jy (hdB R K) r.X r.den (tb,tc,L) l).2→∀ bx,aG A1 bx→∀ C:Value→AH→Prop,(∀ base' cap' H',∀ vH:List SR,vH.length=i+1→fJ D H' 47 1 base' cap' (vH.map jh.encS)→(Keep D H' fun _=>False)→(∀ o∈vH,SR.In H' o∧∀ x,o.ft x→aG D x∧∀ a,base'=some a→a.block≠x)→(∀ (n:Nat) r t l x o,S[n]?=some r→T[n]?=some t→B[n]?=some l→O[n]?=some x→vH[n]?=some o→(SR.X o).Perm (jy (hdB R x.2.2) r.X r.den t l).1∧o.den=(jy (hdB R x.2.2) r.X r.den t l).2)→C (.slice base' (i+1) cap') H')→
    lS Tryz.prog (some 25) (some 25) [.slice base i cap,.slice (some ⟨bx,0,none⟩) 1 1] (A1.add bx (.cells [.pointer (some ⟨b,0,none⟩)] 47 1)) C:=by
   intro A1 hK1 b X den ft hst hok hft hpm hdn bx hbx C hk
   have Bh:=KD.keep hK1 (fun _ _ h=>h)
   have qh:=hK.trans hK1
   refine lS.nD (x:=.slice (some ⟨bx,0,none⟩) 1 1) (R':=[jh.encS ⟨b,X,den,ft⟩]) (m:=1) (Bh.added hbx) (qh.nw hbx).all Rz rfl (by decide) (by rw[Tryz.underlying25];rfl) (by simp[hl]) rfl rfl (by rw[iF,fO];rfl) (by simp[jh.encS]) (by simp[jh.encS,iM]) (by omega) fun gV cap2 A' kJ hK' hN'=>?_
   have hK2:=(qh.nw hbx).ow hK' fun b ⟨a,ha,e⟩=>e▸KD.fresh a ha
   have hbase:∀ x,¬ aG A1 x→(∀ a,base=some a→a.block≠x)→∀ a,gV=some a→a.block≠x:=fun x hx hb a ha e=>by
    rcases hN' a ha with ⟨a',h1,h2⟩ | hf
    ·exact hb a' h1 (h2▸e)
    ·exact hx (e▸(Keep.refl.nw (k:=.cells [.pointer (some ⟨b,0,none⟩)] 47 1) hbx).fr hf)
   refine⟨A',AH.le_refl _,hk gV cap2 A' (SO++[⟨b,X,den,ft⟩]) (by simp[hl]) (by rw[List.map_append];exact kJ) hK2 (fun o ho=>?_) (fun n r' t l' x o h1 h2 h3 h5 h4=>?_)⟩
   ·rcases List.mem_append.1 ho with ho | ho
    ·obtain⟨⟨h1,h2⟩,h3⟩:=XB o ho
     have h1':=h1.keep hK1 fun _ _ h=>h
     refine⟨⟨(h1'.keep (Keep.add hbx) fun _ _ h=>h).keep hK' fun x hx ⟨a,ha,e⟩=>(h3 x hx).2 a ha e.symm,h2⟩,fun x hx=>⟨(h3 x hx).1,hbase x (fun hf=>h1'.fresh hf hx) (h3 x hx).2⟩⟩
    ·obtain rfl:=List.mem_singleton.1 ho
     refine⟨⟨(hst.keep (Keep.add hbx) fun _ _ h=>h).keep hK' fun x hx ⟨a,ha,e⟩=>KD.ne (hft x hx) a ha e.symm,hok⟩,fun x hx=>⟨hK.fr (hft x hx),hbase x (fun hf=>hst.fresh hf hx) fun a ha=>KD.ne (hft x hx) a ha⟩⟩
   ·by_cases hn:n<SO.length
    ·rw[List.getElem?_append_left hn]at h4
     exact hval n r' t l' x o h1 h2 h3 h5 h4
    ·have hn2:=Go.AX.dG h4
     simp only[List.length_append,List.length_singleton]at hn2
     obtain rfl:n=i:=by omega
     rw[List.getElem?_append_right (by omega),hl,Nat.sub_self]at h4
     cases h4
     rw[hr]at h1;rw[htt]at h2;rw[hbl]at h3;rw[hxo]at h5
     cases h1;cases h2;cases h3;cases h5
     exact⟨hpm,hdn⟩
  cases l with
  |true=>
   have hmem:((tb,tc,L):Tb)∈T:=List.mem_of_getElem? htt
   have hto:=Aa ht hmem
   simp -dsimp(maxSteps:=4000000) only[hlt,hi0,hiT,Qz,hiO,hq1,hq3,a1,a3,go_sem]
   refine fZ.gen [.pu,.pu,.pu,.pu,.pu,.rd,.pu,.pu,.pu,.pu,.rd,.ch,.ch,.al,.ch,.pu] [0,0,0,0,12,28,0,0,0,384,896,1984,4094,8190,16383,32767] 12 (D) mixed (by kernel_rfl) (hle) ?_
   simp -dsimp(maxSteps:=4000000) only[hi0,hiT,hiO,hq2,hq4,hr2,hr4,hle,go_sem]
   refine(XA R hpl (by omega) K hgK rb rc ob oc A (hR.keep hK fun _ _ h=>h) Uu).mono ?_
   rintro _ A1 ⟨bm,rfl,hHm,hKm,_⟩
   have hle1:=(hK.trans hKm).all
   simp -dsimp(maxSteps:=4000000) only[hle1,go_sem]
   refine(Ht (by rw[hKm.w0,hK.w0,kD.w0];exact hE) (qw.1.keep hKm fun _ _ h=>h) qw.2 L tb tc (MO.keep hKm fun _ _ h=>h) (some bm) (hdB R K) hHm (Gi R K) (fun x hx hx2=>(hto.2 x hx hx2).2) hto.1).mono ?_
   rintro _ A2 ⟨b1,X1,Yi,rfl,hp1,hok1,hs1,hK2,hf1⟩
   have hle2:=((hK.trans hKm).trans hK2).all
   simp -dsimp(maxSteps:=4000000) only[hle2,go_sem]
   refine bY.mk fun bx mY=>?_
   simp -dsimp(maxSteps:=4000000) only[go_sem]
   refine nb (hKm.trans hK2) _ _ _ _ hs1 hok1 (fun x hx=>hKm.fr (hf1 x hx)) hp1 rfl bx mY _ fun base' cap' H' vH g1 g2 g3 g4 g5=>?_
   have hle3:=g3.all
   simp -dsimp(maxSteps:=4000000) only[hle3,ee,go_sem]
   exact again (i+1,base',cap',vH) _ _ _ ⟨by simp only;omega,g1,g2,g3,g4,g5⟩ (bZ.aS (by simp -dsimp(maxSteps:=4000000) only[go_sem])) (AH.le_refl _) (by simp only;omega)
  |false=>
   simp -dsimp(maxSteps:=4000000) only[hlt,hi0,hiT,Qz,hq1,hq3,a1,a3,go_sem]
   refine(GZ qw.1 qw.2).mono ?_
   rintro _ A1 ⟨b1,X1,Yi,rfl,hp1,hs1,hK1,hf1⟩
   simp -dsimp(maxSteps:=4000000) only[go_sem]
   refine bY.mk fun bx mY=>?_
   simp -dsimp(maxSteps:=4000000) only[go_sem]
   refine nb hK1 _ _ _ _ hs1 (qw.2.perm hp1.symm) hf1 hp1 rfl bx mY _ fun base' cap' H' vH g1 g2 g3 g4 g5=>?_
   simp -dsimp(maxSteps:=4000000) only[ee,go_sem]
   exact again (i+1,base',cap',vH) _ _ _ ⟨by simp only;omega,g1,g2,g3,g4,g5⟩ (bZ.aS (by simp -dsimp(maxSteps:=4000000) only[go_sem])) (AH.le_refl _) (by simp only;omega)
end Go.Proofs.YtbhamhhjicehaaaGreatDoor.ED
/- bus: build. -/
namespace Go.Proofs.YtbhamhhjicehaaaGreatDoor.ED
open Go Go.AX Go.Proofs Ty
open Go.Proofs.YtbhamhhjicehaaaGreatDoor.File (nX)
open Go.Proofs.YtbhamhhjicehaaaGreatDoor.mF (kK RF jU iV Dt Js yG gK zJ)
open Go.Proofs.YtbhamhhjicehaaaGreatDoor.Srv (xw JZ D6)
open Go.Proofs.YtbhamhhjicehaaaGreatDoor.jh (SR RR encR jH Ow OQ P2 Ce Z8 Bj HY)
open Go.Proofs.YtbhamhhjicehaaaGreatDoor.pF (Tb ig kW gG En)
abbrev Cb:=Ce×Sl
structure Uw (H:AH) (d:Cb):Prop where
 c:Z8 H d.1
 e:d.1.st=.slice d.2.1 d.2.2.2.length d.2.2.1
 s:bG H 2 d.2.1 d.2.2.1 (d.2.2.2.map wJ.enc)
def Qu (d:Cb):Sl:=(d.2.1,d.2.2.1,d.2.2.2.take 70)
structure Bd where
 b1:Option Addr
 c1:Nat
 S:List SR
 b2:Option Addr
 c2:Nat
 R:List RR
 b3:Option Addr
 c3:Nat
 T:List Tb
 b4:Option Addr
 c4:Nat
 B:List Bool
 b5:Option Addr
 c5:Nat
 O:List Sl
def Bd.own (w:Bd):List OQ:=[(47,w.b1,w.c1,w.S.map jh.encS),(51,w.b2,w.c2,w.R.map encR),(58,w.b3,w.c3,w.T.map kW),(4,w.b4,w.c4,w.B.map jH),(59,w.b5,w.c5,w.O.map wK)]
structure QA (C:List Cb) (n:Nat) (w:Bd):Prop where
 s:w.S.length=n
 r:w.R.length=n
 t:w.T=(C.take n).map fun d=>HY d.1
 b:w.B=(C.take n).map fun d=>d.1.live
 o:w.O=(C.take n).map Qu
 x:∀ (i:Nat) s r,w.S[i]?=some s→w.R[i]?=some r→s.X=r.Z.map RF.nf∧s.den=0∧r.den=0∧kK s.X
theorem QA.add {C:List Cb} {n:Nat} {w:Bd} (h:QA C n w) {c:Cb} (hc:C[n]?=some c) {b br:Nat} {Z:List RF} {ft rd:Nat→Prop} (hZ:kK (Z.map RF.nf)) (b1 b2 b3 b4 b5:Option Addr) (c1 c2 c3 c4 c5:Nat) :
  QA C (n+1) ⟨b1,c1,w.S++[⟨b,Z.map RF.nf,0,ft⟩],b2,c2,w.R++[⟨br,Z,0,rd⟩],b3,c3,w.T++[HY c.1],b4,c4,w.B++[c.1.live],b5,c5,w.O++[Qu c]⟩:=by
 refine⟨by simp[h.s],by simp[h.r],by simp[List.take_add_one,hc,h.t],by simp[List.take_add_one,hc,h.b],by simp[List.take_add_one,hc,h.o],fun i s r h1 h2=>?_⟩
 dsimp only at h1 h2
 by_cases hi:i<n
 ·rw[List.getElem?_append_left (by rw[h.s];exact hi)]at h1
  rw[List.getElem?_append_left (by rw[h.r];exact hi)]at h2
  exact h.x i s r h1 h2
 ·have:=Go.AX.dG h1
  simp only[List.length_append,h.s,List.length_singleton]at this
  obtain rfl:i=n:=by omega
  rw[List.getElem?_append_right (by rw[h.s];exact Nat.le_refl _),h.s,Nat.sub_self]at h1
  rw[List.getElem?_append_right (by rw[h.r];exact Nat.le_refl _),h.r,Nat.sub_self]at h2
  cases h1;cases h2
  exact⟨rfl,rfl,rfl,hZ⟩
theorem XC (C:List Cb) (base:Option Addr) (cap:Nat) (H:AH) (hs:bG H 4 base cap (C.map fun d=>Bj d.1)) (hin:∀ c∈C,Uw H c) :
  aO Tryz.prog 6 #[.slice base C.length cap] H (fun v H'=>∃ w:Bd,v=.tuple #[.slice w.b1 w.S.length w.c1,.slice w.b2 w.R.length w.c2,.slice w.b3 w.T.length w.c3,.slice w.b4 w.B.length w.c4,.slice w.b5 w.O.length w.c5]∧∃ jm,Ow H H' w.own jm∧P2 H' jm w.S w.R∧QA C (min C.length 6) w):=by
 have hbig:=hs.big
 simp only[List.length_map]at hbig
 refine aO.cu Tryz.func6 rfl Tryz.ntmps6 Tryz.results6 (by simp) ?_;simp -dsimp(maxSteps:=4000000) only[go_sem]
 refine bY.mk fun x1 Na=>?_;have oC:=Na;(try simp only[ah,aj,ne_eq]at oC);have rW:=oC;(try simp only[@eq_comm Nat x1]at rW);simp -dsimp(maxSteps:=4000000) only[oC,rW,go_sem]
 refine bY.mk fun x2 Nb=>?_;have oO:=Nb;(try simp only[ah,aj,ne_eq]at oO);have vO:=oO;(try simp only[@eq_comm Nat x2]at vO);simp -dsimp(maxSteps:=4000000) only[oC,rW,oO,vO,go_sem]
 refine bY.mk fun x3 aau=>?_;have Es:=aau;(try simp only[ah,aj,ne_eq]at Es);have Gj:=Es;(try simp only[@eq_comm Nat x3]at Gj);simp -dsimp(maxSteps:=4000000) only[oC,rW,oO,vO,Es,Gj,go_sem]
 refine bY.mk fun x4 aav=>?_;have Gl:=aav;(try simp only[ah,aj,ne_eq]at Gl);have KE:=Gl;(try simp only[@eq_comm Nat x4]at KE);simp -dsimp(maxSteps:=4000000) only[oC,rW,oO,vO,Es,Gj,Gl,KE,go_sem]
 refine bY.mk fun x5 aaw=>?_;have KF:=aaw;(try simp only[ah,aj,ne_eq]at KF);have OH:=KF;(try simp only[@eq_comm Nat x5]at OH);simp -dsimp(maxSteps:=4000000) only[oC,rW,oO,vO,Es,Gj,Gl,KE,KF,OH,go_sem]
 have hO0:Ow H (((((H.add x1 (.cells [] 47 0)).add x2 (.cells [] 51 0)).add x3 (.cells [] 58 0)).add x4 (.cells [] 4 0)).add x5 (.cells [] 59 0)) (Bd.own ⟨some ⟨x1,0,none⟩,0,[],some ⟨x2,0,none⟩,0,[],some ⟨x3,0,none⟩,0,[],some ⟨x4,0,none⟩,0,[],some ⟨x5,0,none⟩,0,[]⟩) (fun _=>False):=
  (((((Ow.nil H).snoc Na _).snoc Nb _).snoc aau _).snoc aav _).snoc aaw _
 refine fZ.jE (ι:=Nat×Bd) (fun s A=>s.1≤C.length∧s.1≤6∧∃ jm,Ow H A s.2.own jm∧P2 A jm s.2.S s.2.R∧QA C s.1 s.2)
  (fun s=>[(12,.int .i64 s.1),(7,.slice s.2.b1 s.2.S.length s.2.c1),(8,.slice s.2.b2 s.2.R.length s.2.c2),(9,.slice s.2.b3 s.2.T.length s.2.c3),(10,.slice s.2.b4 s.2.B.length s.2.c4),(11,.slice s.2.b5 s.2.O.length s.2.c5),(0,.slice base C.length cap)]) (fun s=>6 - s.1) (0,_) _
  ⟨by simp,by simp,_,hO0,⟨by simp,by simp⟩,⟨rfl,rfl,rfl,rfl,rfl,by simp⟩⟩ (bZ.aS ?_) (AH.le_refl _) fun s A0 hV Q again out=>?_
 ·simp -dsimp(maxSteps:=4000000) only[oC,rW,oO,vO,Es,Gj,Gl,KE,KF,OH,go_sem]
 clear hO0 Na Nb aau aav aaw oC oO Es Gl KF rW vO Gj KE OH
 obtain⟨i,w⟩:=s
 obtain⟨hi,hi8,jm,hO,hP,hB⟩:=hV
 dsimp only at hi hi8 hO hP hB again ⊢
 by_cases hlt:(i:Int)<C.length∧(i:Int)<6
 case neg=>
  have hm:i=min C.length 6:=by omega
  by_cases h1:(i:Int)<C.length
  ·have h2:¬ (i:Int)<6:=fun h=>hlt ⟨h1,h⟩
   simp -dsimp(maxSteps:=4000000) only[h1,h2,go_sem]
   refine out _ _ _ (by simp) ?_
   simp -dsimp(maxSteps:=4000000) only[go_sem]
   exact⟨A0,AH.le_refl _,w,rfl,jm,hO,hP,hm▸hB⟩
  ·simp -dsimp(maxSteps:=4000000) only[h1,go_sem]
   refine out _ _ _ (by simp) ?_
   simp -dsimp(maxSteps:=4000000) only[go_sem]
   exact⟨A0,AH.le_refl _,w,rfl,jm,hO,hP,hm▸hB⟩
 obtain⟨c,hc⟩:=get_some (l:=C) (i:=i) (by omega)
 have Ux:=hin c (List.mem_of_getElem? hc)
 obtain⟨c,xb,xc,xK⟩:=c
 have hcin:=Ux.c
 have hxs:=Ux.s
 have hst3:=Ux.e
 dsimp only at hcin hxs hst3
 obtain⟨q,o,rfl,_,hr⟩:=hs.get (Go.AX.dn (f:=fun d:Cb=>Bj d.1) hc)
 have r0:=hr 0 _ rfl
 have r1:=hr 1 _ rfl
 have r2:=hr 2 _ rfl
 have r3:=hr 3 _ rfl
 simp only[Nat.add_zero]at r0 r1 r2 r3
 rw[hst3]at r3
 have ee:=dA (i:=i) (by omega)
 have hi0:(0:Int)≤(i:Int):=by omega
 have hle:H.le A0:=hO.kp.all
 simp -dsimp(maxSteps:=4000000) only[hlt.1,hlt.2,go_sem]
 refine fZ.gen [.ch,.pu,.pu,.pu,.pu,.rd,.ch,.pu,.pu] [0,0,0,6,14,30,63,127,255] 1 (H) mixed (by kernel_rfl) (hle) ?_
 simp -dsimp(maxSteps:=4000000) only[hlt.1,hi0,hle,go_sem]
 refine(Dt A0).mono ?_
 rintro _ A1 ⟨b,MH,rfl,hs0,hK0,hf0⟩
 have hle1:H.le A1:=(hO.kp.trans hK0).all
 simp -dsimp(maxSteps:=4000000) only[hlt.1,hi0,hle1,r0,go_sem]
 have XE:=hO.kp.trans hK0
 refine(xw c.L c.fb c.fc _ (hcin.f.keep XE fun _ _ h=>h) fun z h=>⟨(hcin.r z h).1.keep XE fun _ _ h=>h,(hcin.r z h).2⟩).mono ?_
 rintro _ A2 ⟨br,Z,rd,rfl,hZ,hS,hok,hso,hfr,hK1,hrd⟩
 have hle2:H.le A2:=(XE.trans hK1).all
 simp -dsimp(maxSteps:=4000000) only[hle2,go_sem]
 have adM:=hs0.keep hK1 fun _ _ h=>h
 have adN:=hK0.trans hK1
 have Yk:Z.length≤64:=by have:=hok.len;simpa using this
 have hd:∀ x,rd x→¬ MH x:=fun x hx hf=>by
  rcases hrd x hx with h | ⟨z,hz1,hR,a,ha,e⟩
  ·exact hs0.fresh h hf
  ·have:=hf0 x hf
   exact((hcin.r z hz1).1.apart (hO.kp.fr this)).elim (fun h=>hR (List.map_eq_nil_iff.1 h)) fun h=>h a ha e.symm
 have hdb:¬ MH br:=hs0.fresh hfr
 have hfr0:aG A0 br:=hK0.fr hfr
 have Qi:∀ x,rd x→aG A0 x∨¬ aG H x:=fun x hx=>by
  rcases hrd x hx with h | ⟨z,hz1,hR,a,ha,e⟩
  ·exact .inl (hK0.fr h)
  ·refine .inr fun hf=>?_
   exact((hcin.r z hz1).1.apart hf).elim (fun h=>hR (List.map_eq_nil_iff.1 h)) fun h=>h a ha e.symm
 refine fZ.jE (ι:=Nat×(Nat→Prop)) (fun s A=>s.1≤Z.length∧iV A b ((Z.take s.1).map RF.nf) 0 s.2∧jU A br Z 0 rd∧(Keep A0 A fun _=>False)∧(∀ x,s.2 x→aG A0 x)∧(∀ x,rd x→¬ s.2 x)∧¬ s.2 br)
  (fun s=>[(15,.int .i64 s.1),(13,.pointer (some ⟨b,0,none⟩)),(14,.pointer (some ⟨br,0,none⟩)),(12,.int .i64 i),(7,.slice w.b1 w.S.length w.c1),(8,.slice w.b2 w.R.length w.c2),(9,.slice w.b3 w.T.length w.c3),(10,.slice w.b4 w.B.length w.c4),(11,.slice w.b5 w.O.length w.c5),(0,.slice (some ⟨q,o,none⟩) C.length cap)]) (fun s=>Z.length - s.1) (0,MH) A2
  ⟨by simp,adM,hS,adN,hf0,hd,hdb⟩ (bZ.aS ?_) (AH.le_refl _) fun s A hV Q2 gI mG=>?_
 ·simp -dsimp(maxSteps:=4000000) only[go_sem]
 clear adM hS adN hf0 hd hdb hs0 hK0 hK1 hrd hfr hle1 hle2 XE
 obtain⟨j,ft⟩:=s
 obtain⟨hj,hst,hS,hK,hf,hd,hdb⟩:=hV
 dsimp only at hj hst hS hK hf hd hdb gI ⊢
 obtain⟨zb,zc,hbr,hN,_,_,hkn⟩:=id hS
 have s0:A.rd ⟨br,0,none⟩=some (.slice zb Z.length zc):=by rw[gB hbr];rfl
 by_cases hlj:(j:Int)<Z.length
 ·obtain⟨z,hzi⟩:=get_some (l:=Z) (i:=j) (by omega)
  obtain⟨q2,o2,rfl,_,hr2⟩:=hN.out.get (Go.AX.dn (f:=gK) hzi)
  have rz:=hr2 0 _ rfl
  simp only[Nat.add_zero]at rz
  have hx1:A.row q2 (o2+j*3+1) 2=some [.int .i64 z.p,.slice z.base z.R.length z.cap]:=lZ rfl (by decide) fun k c hk=>by
   rw[Nat.add_assoc _ 1 k,Nat.add_comm 1 k]
   exact hr2 (k+1) c hk
  have ej:=dA (i:=j) (by omega)
  have hj0:(0:Int)≤(j:Int):=by omega
  have hadd:=D6 hok hzi
  simp -dsimp(maxSteps:=4000000) only[s0,hlj,go_sem]
  refine fZ.gen [.pu,.pu,.pu,.pu,.rd,.pu,.pu,.pu,.rd,.pu,.pu,.pu,.rd,.pu,.pu,.pu,.rd,.ch] [0,0,2,6,14,0,62,126,254,0,512,1536,3584,0,15872,32256,65024,131071] 0 (_) mixed (by kernel_rfl) (AH.le_refl _) ?_
  simp -dsimp(maxSteps:=4000000) only[s0,hlj,hj0,rz,hx1,go_sem]
  refine(Js hst z.n z.p z.R z.base z.cap (hN.inn z (List.mem_of_getElem? hzi))).mono ?_
  rintro _ B ⟨zA,rfl,adO,hKB,hfB⟩
  have hX':yG ((Z.take j).map RF.nf) z.n (z.p,z.R)=(Z.take (j+1)).map RF.nf:=by
   rw[yG,if_pos hadd,List.take_add_one,hzi,List.map_append];rfl
  rw[hX']at adO
  simp -dsimp(maxSteps:=4000000) only[ej,go_sem]
  exact gI (j+1,zA) _ B _ ⟨by dsimp only;omega,adO,hS.keep hKB hd hdb,hK.ow hKB hf,fun x hx=>(hfB x hx).elim (hf x) fun h=>hK.fr h,fun x hx hx'=>(hfB x hx').elim (hd x hx) fun h=>hkn x hx h,fun hx=>(hfB _ hx).elim hdb fun h=>h.cO hbr rfl⟩ (bZ.aS (by simp -dsimp(maxSteps:=4000000) only[go_sem])) (AH.le_refl _) (by dsimp only;omega)
 obtain rfl:j=Z.length:=by omega
 rw[List.take_length]at hst
 simp -dsimp(maxSteps:=4000000) only[s0,hlj,go_sem]
 refine mG _ _ _ (by simp) ?_
 clear gI mG
 have Ur:=hO.more (new:=fun x=>ft x∨x=br∨rd x) hK fun x hx=>by
  rcases hx with hx | rfl | hx
  ·exact⟨.inl (hf x hx),fun h=>hst.fresh h hx⟩
  ·exact⟨.inl hfr0,fun h=>h.cO hbr rfl⟩
  ·exact⟨Qi x hx,hkn x hx⟩
 have hPA:=(hP.keep hK fun _ _ h=>h).more (new:=fun x=>ft x∨x=br∨rd x) (s:=⟨b,Z.map RF.nf,0,ft⟩) (r:=⟨br,Z,0,rd⟩) ⟨⟨hst,hok⟩,fun x hx=>.inl hx⟩ ⟨⟨hS,hok⟩,fun x hx=>.inr hx⟩
 have hBA:=fun b1 b2 b3 b4 b5 c1 c2 c3 c4 c5=>hB.add hc (b:=b) (br:=br) (ft:=ft) (rd:=rd) hso b1 b2 b3 b4 b5 c1 c2 c3 c4 c5
 have aax:=Ur.kp
 have hw1:=hB.s
 have hw2:=hB.r
 have hw3:w.T.length=i:=by rw[hB.t,List.length_map,List.length_take];omega
 have hw4:w.B.length=i:=by rw[hB.b,List.length_map,List.length_take];omega
 have hw5:w.O.length=i:=by rw[hB.o,List.length_map,List.length_take];omega
 have hle:=aax.all
 obtain⟨_,_,e,_,ha⟩:=(hs.keep aax fun _ _ h=>h).get (Go.AX.dn (f:=fun d:Cb=>Bj d.1) hc);cases e
 have ha1:=ha 1 _ rfl
 dsimp only at ha1
 generalize (fun x=>jm x∨(fun x=>ft x∨x=br∨rd x) x)=adP at Ur hPA
 clear hO hP hB hst hS hN hkn hd hdb hf hfr0 Qi hbr s0 hK ha
 refine fZ.gen [.pu,.pu,.pu,.pu,.rd,.pu,.pu,.pu,.pu,.rd,.pu,.pu] [0,0,3,7,15,0,0,96,224,480,31,2047] 0 (H) mixed (by kernel_rfl) (hle) ?_
 simp -dsimp(maxSteps:=4000000) only[hlt.1,hi0,r1,r3,go_sem]
 by_cases h70:(70:Int)<c.E.length
 case' pos=>
  obtain⟨r,hr5⟩:=get_some (l:=c.E) (i:=0) (by omega)
  obtain⟨qt,ot,et,_,_⟩:=hcin.t.get (Go.AX.dn (f:=gG) hr5)
  have ahK:=hcin.t.le
  simp only[List.length_map]at ahK
  have h1:(70:Int)≤c.tc:=by omega
  have h3:[Value.slice (some ⟨qt,ot,none⟩) 70 c.tc]=kW (HY c):=by
   have:(c.E.take 70).length=70:=by rw[List.length_take];omega
   simp[kW,HY,this,et]
  simp -dsimp(maxSteps:=4000000) only[h70,h1,et,ite_self,Nat.sub_zero,go_sem]
 case' neg=>
  have h3:[Value.slice c.tb c.E.length c.tc]=kW (HY c):=by
   have:(c.E.take 70).length=c.E.length:=by rw[List.length_take];omega
   simp[kW,HY,this]
  simp -dsimp(maxSteps:=4000000) only[h70,go_sem]
 all_goals
  by_cases h71:(70:Int)<xK.length
  case' pos=>
   obtain⟨r,hr6⟩:=get_some (l:=xK) (i:=0) (by omega)
   obtain⟨qu,ou,eu,_,_⟩:=hxs.get (Go.AX.dn (f:=wJ.enc) hr6)
   have ahL:=hxs.le
   simp only[List.length_map]at ahL
   have h2:(70:Int)≤xc:=by omega
   have h4:[Value.slice (some ⟨qu,ou,none⟩) 70 xc]=wK (Qu (c,xb,xc,xK)):=by
    have:(xK.take 70).length=70:=by rw[List.length_take];omega
    simp[wK,Qu,this,eu]
   simp -dsimp(maxSteps:=4000000) only[h71,h2,eu,ite_self,Nat.sub_zero,go_sem]
  case' neg=>
   have h4:[Value.slice xb xK.length xc]=wK (Qu (c,xb,xc,xK)):=by
    have:(xK.take 70).length=xK.length:=by rw[List.length_take];omega
    simp[wK,Qu,this]
   simp -dsimp(maxSteps:=4000000) only[h71,go_sem]
  all_goals
   refine fZ.gen [.pu,.pu,.al,.ch,.pu,.pu,.al,.ch,.pu,.pu,.al,.ch,.pu,.pu,.pu,.pu,.pu,.rd,.al,.ch,.pu,.pu,.al,.ch,.pu,.pu,.pu,.pu,.pu] [0,0,2,7,0,0,32,127,0,0,512,2047,0,0,0,24576,57344,122880,253952,524287,0,0,2097152,8388607,16777215,33554431,67108863,134217727,268435455] 12 (H) mixed (by kernel_rfl) (hle) ?_
   simp -dsimp(maxSteps:=4000000) only[hle,hi0,hlt.1,r2,go_sem]
   refine bY.mk fun y1 hy1=>?_
   have hl1:H.le (A.add y1 (.cells [.pointer (some ⟨b,0,none⟩)] 47 1)):=(aax.nw hy1).all
   simp -dsimp(maxSteps:=4000000) only[hl1,go_sem]
   refine Ur.push (k:=0) rfl rfl Rz rfl (by decide) (by rw[Tryz.underlying25];rfl) (by simp) (by omega) hy1 fun d1 e1 B1 Bh hk1 hp1=>?_
   have hl2:H.le B1:=Bh.kp.all
   simp -dsimp(maxSteps:=4000000) only[hl2,go_sem]
   refine bY.mk fun y2 hy2=>?_
   have hl3:H.le (B1.add y2 (.cells [.pointer (some ⟨br,0,none⟩)] 51 1)):=(Bh.kp.nw hy2).all
   simp -dsimp(maxSteps:=4000000) only[hl3,go_sem]
   refine Bh.push (k:=1) rfl rfl RD rfl (by decide) (by rw[Tryz.underlying26];rfl) (by simp) (by omega) hy2 fun d2 e2 B2 hO2 hk2 hp2=>?_
   have hl4:H.le B2:=hO2.kp.all
   simp -dsimp(maxSteps:=4000000) only[hl4,go_sem]
   refine bY.mk fun y3 hy3=>?_
   have hl5:=fun cs e n=>(hO2.kp.nw (k:=.cells cs e n) hy3).all
   simp -dsimp(maxSteps:=4000000) only[hl5,go_sem]
   refine hO2.push (k:=2) rfl rfl ab5 rfl (by decide) (by rw[Tryz.underlying27];rfl) (by simp) (by omega) hy3 fun d3 e3 B3 hO3 hk3 hp3=>?_
   rw[h3]at hO3
   have hl6:H.le B3:=hO3.kp.all
   simp -dsimp(maxSteps:=4000000) only[hl6,hi0,hlt.1,r2,go_sem]
   refine bY.mk fun y4 hy4=>?_
   have hl7:=fun cs e n=>(hO3.kp.nw (k:=.cells cs e n) hy4).all
   simp -dsimp(maxSteps:=4000000) only[hl7,go_sem]
   refine hO3.push (k:=3) rfl rfl ab6 rfl (by decide) (by rw[Tryz.underlying28];rfl) (by simp) (by omega) hy4 fun d4 e4 B4 hO4 hk4 hp4=>?_
   have hl8:H.le B4:=hO4.kp.all
   simp -dsimp(maxSteps:=4000000) only[hl8,go_sem]
   refine bY.mk fun y5 hy5=>?_
   have hl9:=fun cs e n=>(hO4.kp.nw (k:=.cells cs e n) hy5).all
   simp -dsimp(maxSteps:=4000000) only[hl9,go_sem]
   refine hO4.push (k:=4) rfl rfl ab7 rfl (by decide) (by rw[Tryz.underlying29];rfl) (by simp) (by omega) hy5 fun d5 e5 B5 hO5 hk5 hp5=>?_
   rw[h4]at hO5
   have ahM:H.le B5:=hO5.kp.all
   simp -dsimp(maxSteps:=4000000) only[ahM,ee,go_sem]
   have hP5:=((((hPA.keep hk1 hp1).keep hk2 hp2).keep hk3 hp3).keep hk4 hp4).keep hk5 hp5
   refine again (i+1,⟨d1,e1,_,d2,e2,_,d3,e3,_,d4,e4,_,d5,e5,_⟩) _ B5 _ ⟨by dsimp only;omega,by dsimp only;omega,adP,?_,hP5,hBA d1 d2 d3 d4 d5 e1 e2 e3 e4 e5⟩ (bZ.aS (by simp -dsimp(maxSteps:=4000000) only[List.length_append,List.length_singleton,go_sem])) (AH.le_refl _) (by dsimp only;omega)
   simp only[Bd.own,List.map_append,List.map_cons,List.map_nil]
   exact hO5
end Go.Proofs.YtbhamhhjicehaaaGreatDoor.ED
