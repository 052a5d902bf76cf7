/- Texts of mine, one behind another. -/
import Derived.Test.YtbhamhhjicehaaaGreatDoorMBusRounds4
set_option linter.unusedSimpArgs false
set_option linter.unusedVariables false
set_option maxRecDepth 10000
/- Declarations cut out of other texts of mine. -/
namespace Go.Proofs.YtbhamhhjicehaaaGreatDoor.pF
open Go Go.AX Go.Proofs Ty
set_option maxHeartbeats 4000000
abbrev Rc:=Int×Int×Int×Int
def enc (r:Rc):List Value:=[.int .u8 r.1,.int .u8 r.2.1,.int .u8 r.2.2.1,.int .u8 r.2.2.2]
def zr:Rc:=(0,0,0,0)
theorem au (r:Rc):(enc r).length=4:=rfl
theorem ak (r:Rc):(enc r).all iM=true:=rfl
theorem lg (R:List Rc):∀ r∈R.map enc,r.length=4:=fun r hr=>by
 obtain⟨w,_,rfl⟩:=List.mem_map.1 hr
 rfl
theorem dn {α:Type} {f:α→List Value} {L:List α} {i:Nat} {s:α} (h:L[i]?=some s):(L.map f)[i]?=some (f s):=by rw[List.getElem?_map,h];rfl
def hd (perm n:Int):Rc:=(IntKind.u8.wrap n,IntKind.u8.wrap perm,165,jf .xor .u8 (jf .xor .u8 (IntKind.u8.wrap n) (IntKind.u8.wrap perm)) 165)
theorem Df (perm n:Int) (H:AH):aO Tryz.prog 99 #[.int .i64 perm,.int .i64 n] H (fun v H'=>v=.agg (enc (hd perm n)).toArray∧H=H'):=by
 refine aO.cu Tryz.func99 rfl Tryz.ntmps99 Tryz.results99 (by simp) ?_;simp -dsimp(maxSteps:=4000000) only[go_sem]
 refine bY.mk fun b1 iy=>?_;have aP:=iy;(try simp only[ah,aj,ne_eq]at aP);have aY:=aP;(try simp only[@eq_comm Nat b1]at aY);simp -dsimp(maxSteps:=4000000) only[aP,aY,go_sem]
 exact⟨H,(AH.aK (AH.le_refl _) ((by simp only[ah,aj,ne_eq,aP,not_false_eq_true,and_self]:aG _ b1).2)),(by first | exact⟨rfl,rfl⟩ | rfl)⟩
def fv (p:Int) (base:Option Addr) (n cap:Nat):Value:=.agg #[.int .i64 p,.slice base n cap]
def acT (p:Int):Value:=.tuple #[.agg #[.int .i64 0,.slice none 0 0],.int .i64 p]
def Ja (perm n:Int):Prop:=0≤perm∧perm≤7∧0≤n∧n<256
def newR (perm:Int) (n:Nat):List Rc:=hd perm n::List.replicate n zr
theorem Dt (perm:Int) (n:Nat) (h:Ja perm n) (H:AH):aO Tryz.prog 157 #[.int .i64 perm,.int .i64 n] H (fun v H'=>∃ b,aG H b∧v=.tuple #[fv perm (some ⟨b,0,none⟩) (n+1) (n+1),.int .i64 0]∧H'=H.add b (.cells ((newR perm n).map enc).flatten 76 ((n+1)*4))):=by
 obtain⟨h0,h1,h2,h3⟩:=h
 have a:¬ perm<0:=by omega
 have b:¬ 7<perm:=by omega
 have c:¬ (n:Int)<0:=by omega
 have d:¬ (256:Int)≤n:=by omega
 have e:IntKind.i64.wrap (1+(n:Int))=((n+1:Nat):Int):=by rw[eH (by omega) (by omega)];omega
 refine aO.cu Tryz.func157 rfl Tryz.ntmps157 Tryz.results157 (by simp) ?_;simp -dsimp(maxSteps:=4000000) only[a,b,c,d,e,go_sem]
 refine bY.mk fun b1 iy=>?_;have aP:=iy;(try simp only[ah,aj,ne_eq]at aP);have aY:=aP;(try simp only[@eq_comm Nat b1]at aY);simp -dsimp(maxSteps:=4000000) only[a,b,c,d,e,aP,aY,go_sem]
 have hz:zf [Value.int .u8 0,.int .u8 0,.int .u8 0,.int .u8 0] ((n+1)*4)=((List.replicate (n+1) zr).map enc).flatten:=by
  rw[NH (zs:=[Value.int .u8 0,.int .u8 0,.int .u8 0,.int .u8 0]) (n:=n+1) (m:=(n+1)*4) rfl,List.map_replicate];rfl
 refine⟨by omega,by omega,by omega,?_⟩
 rw[hz]
 refine bY.mk fun bl iR=>?_;have dH:=iR;(try simp only[ah,aj,ne_eq]at dH);have dP:=dH;(try simp only[@eq_comm Nat bl]at dP);simp -dsimp(maxSteps:=4000000) only[a,b,c,d,e,aP,aY,dH,dP,go_sem]
 refine bY.mk fun b6 jL=>?_;have bV:=jL;(try simp only[ah,aj,ne_eq]at bV);have dI:=bV;(try simp only[@eq_comm Nat b6]at dI);simp -dsimp(maxSteps:=4000000) only[a,b,c,d,e,aP,aY,dH,dP,bV,dI,go_sem]
 refine fZ.gen [.pu,.rd,.pu,.pu,.ch,.pu,.ch] [0,1,0,0,12,31,63] 5 (_) mixed (by kernel_rfl) (AH.le_refl _) ?_
 simp -dsimp(maxSteps:=4000000) only[a,b,c,d,e,aP,aY,dH,dP,bV,dI,go_sem]
 refine(Df perm n _).mono ?_;rintro _ _ ⟨rfl,rfl⟩
 have hl:((List.replicate (n+1) zr).map enc).flatten.length=(n+1)*4:=by rw[jS (lg _)];simp
 have hp:iO ((List.replicate (n+1) zr).map enc).flatten 0 (enc (hd perm n))=((newR perm n).map enc).flatten:=by
  have:=jW (lg (List.replicate (n+1) zr)) 0 (enc (hd perm n)) (by simp) rfl
  rw[Nat.zero_mul]at this
  rw[this,List.replicate_succ]
  rfl
 have c0:(0:Int)<((n+1:Nat):Int):=by omega
 have c1:0+4≤(n+1)*4:=by omega
 have c2:(n+1)*4≤(n+1)*4:=Nat.le_refl _
 simp -dsimp(maxSteps:=4000000) only[AH.le_refl,hl,hp,c0,c1,c2,au,ak,a,b,c,d,e,aP,aY,dH,dP,bV,dI,go_sem]
 exact⟨_,(by refine AH.eU ?_ ?_;(show AH.find _ _=_;simp only[aH,aN,aV,ah,aj,ne_eq,not_false_eq_true,true_and,and_true,and_self,a,b,c,d,e,aP,aY,dH,dP,bV,dI]);(repeat (first | exact AH.le_refl _ | refine AH.aK ?_ ?_));all_goals (first | exact AH.le_refl _ | (show AH.find _ _=_;simp only[aH,aN,aV,ah,aj,ne_eq,not_false_eq_true,true_and,and_true,and_self,a,b,c,d,e,aP,aY,dH,dP,bV,dI]))),bl,dH.2,rfl,rfl⟩
theorem dG {α:Type} {l:List α} {i:Nat} {s:α} (h:l[i]?=some s):i<l.length:=by
 rcases Nat.lt_or_ge i l.length with h' | h'
 ·exact h'
 ·rw[List.getElem?_eq_none h']at h;cases h
theorem aW (r:Rc):(enc r).take 4=enc r:=rfl
theorem dD (r:Rc):iO [.int .u8 0,.int .u8 0,.int .u8 0,.int .u8 0] 0 (enc r)=enc r:=rfl
theorem rM (L:List Rc):(L.map enc).flatten.length=L.length*4:=by rw[jS (lg L),List.length_map]
theorem LQ {L:List Rc} {i:Nat} (r:Rc) (h:i<L.length):iO (L.map enc).flatten (i*4) (enc r)=((L.set i r).map enc).flatten:=by
 rw[jW (lg L) i (enc r) (by rw[List.length_map];exact h) rfl,List.map_set]
theorem u8w (x:Int):IntKind.u8.wrap x=x % 256:=rfl
structure Got (H H':AH) (sz:Nat) (base:Option Addr) (cap:Nat) (R:List (List Value)):Prop where
 slc:bG H' sz base cap R
 new:∀ a,base=some a→aG H a.block
 keep:Keep H H' fun _=>False
theorem Got.nil {H:AH} {sz:Nat}:Got H H sz none 0 []:=⟨bG.nil,(fun a h=>by cases h),Keep.refl⟩
theorem Got.own {H H':AH} {e sz cap:Nat} {base:Option Addr} {R:List (List Value)} (h:fJ H H' e sz base cap R) (k:Keep H H' fun _=>False):Got H H' sz base cap R:=⟨h.slc,h.fresh,k⟩
theorem Got.add {H:AH} {e sz cap m b:Nat} {R:List (List Value)} (hf:aG H b) (hR:∀ r∈R,r.length=sz) (hl:R.length≤cap) (hb:R.length<9223372036854775808):Got H (H.add b (.cells R.flatten e m)) sz (some ⟨b,0,none⟩) cap R:=
 ⟨bG.own hR hl hb,fun a h=>by cases h;exact hf,Keep.add hf⟩
abbrev En:=Int×Int×Int×Int×Int
def gG (x:En):List Value:=[.int .i64 x.1,.int .i64 x.2.1,.int .i64 x.2.2.1,.int .i64 x.2.2.2.1,.int .i64 x.2.2.2.2]
def iC (s f r:Int):Bool:=decide (1≤s∧s≤16∧0≤f∧f<64∧1≤r∧r<256)
def iK:En→Bool
 |(k,s,f,r,b)=>if k=4 then decide (s=0∧f=0∧r=0∧b=0) else decide (1≤k∧k≤3∧(k=3→b=0))&&iC s f r&&decide (0≤b∧b≤3)
theorem G5 (k s f r b:Int) (H:AH):aO Tryz.prog 180 #[.agg #[.int .i64 k,.int .i64 s,.int .i64 f,.int .i64 r,.int .i64 b]] H (fun v H'=>v=.bool (iC s f r)∧H=H'):=by
 refine aO.cu Tryz.func180 rfl Tryz.ntmps180 Tryz.results180 (by simp) ?_;simp -dsimp(maxSteps:=4000000) only[go_sem]
 refine bY.mk fun b1 iy=>?_;have aP:=iy;(try simp only[ah,aj,ne_eq]at aP);have aY:=aP;(try simp only[@eq_comm Nat b1]at aY);simp -dsimp(maxSteps:=4000000) only[aP,aY,go_sem]
 by_cases Jz:1≤s
 case neg=>
  simp -dsimp(maxSteps:=4000000) only[Jz,aP,aY,go_sem]
  exact⟨H,(AH.aK (AH.le_refl _) ((by simp only[ah,aj,ne_eq,aP,not_false_eq_true,and_self]:aG _ b1).2)),(by first | exact⟨by rw[iC,decide_eq_false (fun h=>Jz (by omega))],rfl⟩ | rfl)⟩
 by_cases L6:s≤16
 case neg=>
  simp -dsimp(maxSteps:=4000000) only[Jz,L6,aP,aY,go_sem]
  exact⟨H,(AH.aK (AH.le_refl _) ((by simp only[ah,aj,ne_eq,aP,not_false_eq_true,and_self]:aG _ b1).2)),(by first | exact⟨by rw[iC,decide_eq_false (fun h=>L6 (by omega))],rfl⟩ | rfl)⟩
 by_cases PW:0≤f
 case neg=>
  simp -dsimp(maxSteps:=4000000) only[Jz,L6,PW,aP,aY,go_sem]
  exact⟨H,(AH.aK (AH.le_refl _) ((by simp only[ah,aj,ne_eq,aP,not_false_eq_true,and_self]:aG _ b1).2)),(by first | exact⟨by rw[iC,decide_eq_false (fun h=>PW (by omega))],rfl⟩ | rfl)⟩
 by_cases S9:f<64
 case neg=>
  simp -dsimp(maxSteps:=4000000) only[Jz,L6,PW,S9,aP,aY,go_sem]
  exact⟨H,(AH.aK (AH.le_refl _) ((by simp only[ah,aj,ne_eq,aP,not_false_eq_true,and_self]:aG _ b1).2)),(by first | exact⟨by rw[iC,decide_eq_false (fun h=>S9 (by omega))],rfl⟩ | rfl)⟩
 by_cases WE:1≤r
 case neg=>
  simp -dsimp(maxSteps:=4000000) only[Jz,L6,PW,S9,WE,aP,aY,go_sem]
  exact⟨H,(AH.aK (AH.le_refl _) ((by simp only[ah,aj,ne_eq,aP,not_false_eq_true,and_self]:aG _ b1).2)),(by first | exact⟨by rw[iC,decide_eq_false (fun h=>WE (by omega))],rfl⟩ | rfl)⟩
 by_cases Zx:r<256
 case neg=>
  simp -dsimp(maxSteps:=4000000) only[Jz,L6,PW,S9,WE,Zx,aP,aY,go_sem]
  exact⟨H,(AH.aK (AH.le_refl _) ((by simp only[ah,aj,ne_eq,aP,not_false_eq_true,and_self]:aG _ b1).2)),(by first | exact⟨by rw[iC,decide_eq_false (fun h=>Zx (by omega))],rfl⟩ | rfl)⟩
 simp -dsimp(maxSteps:=4000000) only[Jz,L6,PW,S9,WE,Zx,aP,aY,go_sem]
 exact⟨H,(AH.aK (AH.le_refl _) ((by simp only[ah,aj,ne_eq,aP,not_false_eq_true,and_self]:aG _ b1).2)),(by first | exact⟨by rw[iC,decide_eq_true (by omega)],rfl⟩ | rfl)⟩
theorem sQ (k s f r b:Int) (H:AH):aO Tryz.prog 173 #[.agg #[.int .i64 k,.int .i64 s,.int .i64 f,.int .i64 r,.int .i64 b]] H (fun v H'=>v=.bool (iK (k,s,f,r,b))∧H=H'):=by
 refine aO.cu Tryz.func173 rfl Tryz.ntmps173 Tryz.results173 (by simp) ?_;simp -dsimp(maxSteps:=4000000) only[go_sem]
 refine bY.mk fun b1 iy=>?_;have aP:=iy;(try simp only[ah,aj,ne_eq]at aP);have aY:=aP;(try simp only[@eq_comm Nat b1]at aY);simp -dsimp(maxSteps:=4000000) only[aP,aY,go_sem]
 by_cases k4:k=4
 ·subst k4
  simp -dsimp(maxSteps:=4000000) only[aP,aY,go_sem]
  exact⟨H,(AH.aK (AH.le_refl _) ((by simp only[ah,aj,ne_eq,aP,not_false_eq_true,and_self]:aG _ b1).2)),(by first | exact⟨congrArg Value.bool (by rw[Bool.eq_iff_iff];simp[iK]),rfl⟩ | rfl)⟩
 by_cases k3:k=3
 ·subst k3
  by_cases b0:b=0
  ·subst b0
   simp -dsimp(maxSteps:=4000000) only[aP,aY,go_sem]
   refine(G5 3 s f r 0 _).mono ?_;rintro _ _ ⟨rfl,rfl⟩
   cases hp:iC s f r with
   |true=>
    simp -dsimp(maxSteps:=4000000) only[aP,aY,go_sem]
    exact⟨H,(AH.aK (AH.le_refl _) ((by simp only[ah,aj,ne_eq,aP,not_false_eq_true,and_self]:aG _ b1).2)),(by first | exact⟨by simp[iK,hp],rfl⟩ | rfl)⟩
   |false=>
    simp -dsimp(maxSteps:=4000000) only[aP,aY,go_sem]
    exact⟨H,(AH.aK (AH.le_refl _) ((by simp only[ah,aj,ne_eq,aP,not_false_eq_true,and_self]:aG _ b1).2)),(by first | exact⟨by simp[iK,hp],rfl⟩ | rfl)⟩
  ·simp -dsimp(maxSteps:=4000000) only[b0,aP,aY,go_sem]
   exact⟨H,(AH.aK (AH.le_refl _) ((by simp only[ah,aj,ne_eq,aP,not_false_eq_true,and_self]:aG _ b1).2)),(by first | exact⟨by simp[iK,b0],rfl⟩ | rfl)⟩
 by_cases k1:k=1∨k=2
 ·have kk:iK (k,s,f,r,b)=(iC s f r&&decide (0≤b∧b≤3)):=by
   simp only[iK];rw[if_neg k4,decide_eq_true (by omega),Bool.true_and]
  rcases k1 with rfl | rfl
  ·
   simp -dsimp(maxSteps:=4000000) only[aP,aY,go_sem]
   refine(G5 1 s f r b _).mono ?_;rintro _ _ ⟨rfl,rfl⟩
   cases hp:iC s f r with
   |true=>
    by_cases c1:0≤b
    ·by_cases c2:b≤3
     ·simp -dsimp(maxSteps:=4000000) only[c1,c2,aP,aY,go_sem]
      exact⟨H,(AH.aK (AH.le_refl _) ((by simp only[ah,aj,ne_eq,aP,not_false_eq_true,and_self]:aG _ b1).2)),(by first | exact⟨by rw[kk,hp,decide_eq_true ⟨c1,c2⟩];rfl,rfl⟩ | rfl)⟩
     ·simp -dsimp(maxSteps:=4000000) only[c1,c2,aP,aY,go_sem]
      exact⟨H,(AH.aK (AH.le_refl _) ((by simp only[ah,aj,ne_eq,aP,not_false_eq_true,and_self]:aG _ b1).2)),(by first | exact⟨by rw[kk,hp,decide_eq_false (fun h=>c2 h.2)];rfl,rfl⟩ | rfl)⟩
    ·simp -dsimp(maxSteps:=4000000) only[c1,aP,aY,go_sem]
     exact⟨H,(AH.aK (AH.le_refl _) ((by simp only[ah,aj,ne_eq,aP,not_false_eq_true,and_self]:aG _ b1).2)),(by first | exact⟨by rw[kk,hp,decide_eq_false (fun h=>c1 h.1)];rfl,rfl⟩ | rfl)⟩
   |false=>
    simp -dsimp(maxSteps:=4000000) only[aP,aY,go_sem]
    exact⟨H,(AH.aK (AH.le_refl _) ((by simp only[ah,aj,ne_eq,aP,not_false_eq_true,and_self]:aG _ b1).2)),(by first | exact⟨by rw[kk,hp];rfl,rfl⟩ | rfl)⟩
  ·
   simp -dsimp(maxSteps:=4000000) only[aP,aY,go_sem]
   refine(G5 2 s f r b _).mono ?_;rintro _ _ ⟨rfl,rfl⟩
   cases hp:iC s f r with
   |true=>
    by_cases c1:0≤b
    ·by_cases c2:b≤3
     ·simp -dsimp(maxSteps:=4000000) only[c1,c2,aP,aY,go_sem]
      exact⟨H,(AH.aK (AH.le_refl _) ((by simp only[ah,aj,ne_eq,aP,not_false_eq_true,and_self]:aG _ b1).2)),(by first | exact⟨by rw[kk,hp,decide_eq_true ⟨c1,c2⟩];rfl,rfl⟩ | rfl)⟩
     ·simp -dsimp(maxSteps:=4000000) only[c1,c2,aP,aY,go_sem]
      exact⟨H,(AH.aK (AH.le_refl _) ((by simp only[ah,aj,ne_eq,aP,not_false_eq_true,and_self]:aG _ b1).2)),(by first | exact⟨by rw[kk,hp,decide_eq_false (fun h=>c2 h.2)];rfl,rfl⟩ | rfl)⟩
    ·simp -dsimp(maxSteps:=4000000) only[c1,aP,aY,go_sem]
     exact⟨H,(AH.aK (AH.le_refl _) ((by simp only[ah,aj,ne_eq,aP,not_false_eq_true,and_self]:aG _ b1).2)),(by first | exact⟨by rw[kk,hp,decide_eq_false (fun h=>c1 h.1)];rfl,rfl⟩ | rfl)⟩
   |false=>
    simp -dsimp(maxSteps:=4000000) only[aP,aY,go_sem]
    exact⟨H,(AH.aK (AH.le_refl _) ((by simp only[ah,aj,ne_eq,aP,not_false_eq_true,and_self]:aG _ b1).2)),(by first | exact⟨by rw[kk,hp];rfl,rfl⟩ | rfl)⟩
 have k1':¬ k=1:=fun h=>k1 (.inl h)
 have k2':¬ k=2:=fun h=>k1 (.inr h)
 simp -dsimp(maxSteps:=4000000) only[k4,k3,k1',k2',aP,aY,go_sem]
 exact⟨H,(AH.aK (AH.le_refl _) ((by simp only[ah,aj,ne_eq,aP,not_false_eq_true,and_self]:aG _ b1).2)),(by first | exact⟨by simp only[iK];rw[if_neg k4,decide_eq_false (by omega)];rfl,rfl⟩ | rfl)⟩
theorem jX (k s f r b:Int) (H:AH):aO Tryz.prog 146 #[.agg #[.int .i64 k,.int .i64 s,.int .i64 f,.int .i64 r,.int .i64 b]] H (fun v H'=>v=.bool (iK (k,s,f,r,b))∧H=H'):=by
 refine aO.cu Tryz.func146 rfl Tryz.ntmps146 Tryz.results146 (by simp) ?_;simp -dsimp(maxSteps:=4000000) only[go_sem]
 refine bY.mk fun b1 iy=>?_;have aP:=iy;(try simp only[ah,aj,ne_eq]at aP);have aY:=aP;(try simp only[@eq_comm Nat b1]at aY);simp -dsimp(maxSteps:=4000000) only[aP,aY,go_sem]
 by_cases k4:k=4
 ·subst k4
  by_cases nM:s=0
  case neg=>
   simp -dsimp(maxSteps:=4000000) only[nM,aP,aY,go_sem]
   exact⟨H,(AH.aK (AH.le_refl _) ((by simp only[ah,aj,ne_eq,aP,not_false_eq_true,and_self]:aG _ b1).2)),(by first | exact⟨by simp[iK,nM],rfl⟩ | rfl)⟩
  by_cases oV:f=0
  case neg=>
   simp -dsimp(maxSteps:=4000000) only[nM,oV,aP,aY,go_sem]
   exact⟨H,(AH.aK (AH.le_refl _) ((by simp only[ah,aj,ne_eq,aP,not_false_eq_true,and_self]:aG _ b1).2)),(by first | exact⟨by simp[iK,oV],rfl⟩ | rfl)⟩
  by_cases qZ:r=0
  case neg=>
   simp -dsimp(maxSteps:=4000000) only[nM,oV,qZ,aP,aY,go_sem]
   exact⟨H,(AH.aK (AH.le_refl _) ((by simp only[ah,aj,ne_eq,aP,not_false_eq_true,and_self]:aG _ b1).2)),(by first | exact⟨by simp[iK,qZ],rfl⟩ | rfl)⟩
  by_cases uD:b=0
  case neg=>
   simp -dsimp(maxSteps:=4000000) only[nM,oV,qZ,uD,aP,aY,go_sem]
   exact⟨H,(AH.aK (AH.le_refl _) ((by simp only[ah,aj,ne_eq,aP,not_false_eq_true,and_self]:aG _ b1).2)),(by first | exact⟨by simp[iK,uD],rfl⟩ | rfl)⟩
  simp -dsimp(maxSteps:=4000000) only[nM,oV,qZ,uD,aP,aY,go_sem]
  exact⟨H,(AH.aK (AH.le_refl _) ((by simp only[ah,aj,ne_eq,aP,not_false_eq_true,and_self]:aG _ b1).2)),(by first | exact⟨by simp[iK,nM,oV,qZ,uD],rfl⟩ | rfl)⟩
 by_cases d1:k<1
 ·simp -dsimp(maxSteps:=4000000) only[k4,d1,aP,aY,go_sem]
  exact⟨H,(AH.aK (AH.le_refl _) ((by simp only[ah,aj,ne_eq,aP,not_false_eq_true,and_self]:aG _ b1).2)),(by first | exact⟨by simp only[iK];rw[if_neg k4,decide_eq_false (by omega)];rfl,rfl⟩ | rfl)⟩
 by_cases d2:3<k
 ·simp -dsimp(maxSteps:=4000000) only[k4,d1,d2,aP,aY,go_sem]
  exact⟨H,(AH.aK (AH.le_refl _) ((by simp only[ah,aj,ne_eq,aP,not_false_eq_true,and_self]:aG _ b1).2)),(by first | exact⟨by simp only[iK];rw[if_neg k4,decide_eq_false (by omega)];rfl,rfl⟩ | rfl)⟩
 by_cases d3:k=3∧¬ b=0
 ·obtain⟨rfl,d3⟩:=d3
  simp -dsimp(maxSteps:=4000000) only[d3,aP,aY,go_sem]
  exact⟨H,(AH.aK (AH.le_refl _) ((by simp only[ah,aj,ne_eq,aP,not_false_eq_true,and_self]:aG _ b1).2)),(by first | exact⟨by simp[iK,d3],rfl⟩ | rfl)⟩
 have kk:iK (k,s,f,r,b)=(iC s f r&&decide (0≤b∧b≤3)):=by
  simp only[iK];rw[if_neg k4,decide_eq_true (by omega),Bool.true_and]
 have d5:(k=3∧b=0)∨¬ k=3:=by omega
 rcases d5 with ⟨rfl,rfl⟩ | d5
 ·skip
  by_cases nM:1≤s
  case neg=>
   simp -dsimp(maxSteps:=4000000) only[d1,d2,k4,nM,aP,aY,go_sem]
   exact⟨H,(AH.aK (AH.le_refl _) ((by simp only[ah,aj,ne_eq,aP,not_false_eq_true,and_self]:aG _ b1).2)),(by first | exact⟨by rw[kk,iC,decide_eq_false (fun h=>nM (by omega))];rfl,rfl⟩ | rfl)⟩
  by_cases oV:s≤16
  case neg=>
   simp -dsimp(maxSteps:=4000000) only[d1,d2,k4,nM,oV,aP,aY,go_sem]
   exact⟨H,(AH.aK (AH.le_refl _) ((by simp only[ah,aj,ne_eq,aP,not_false_eq_true,and_self]:aG _ b1).2)),(by first | exact⟨by rw[kk,iC,decide_eq_false (fun h=>oV (by omega))];rfl,rfl⟩ | rfl)⟩
  by_cases qZ:0≤f
  case neg=>
   simp -dsimp(maxSteps:=4000000) only[d1,d2,k4,nM,oV,qZ,aP,aY,go_sem]
   exact⟨H,(AH.aK (AH.le_refl _) ((by simp only[ah,aj,ne_eq,aP,not_false_eq_true,and_self]:aG _ b1).2)),(by first | exact⟨by rw[kk,iC,decide_eq_false (fun h=>qZ (by omega))];rfl,rfl⟩ | rfl)⟩
  by_cases uD:f≤63
  case neg=>
   simp -dsimp(maxSteps:=4000000) only[d1,d2,k4,nM,oV,qZ,uD,aP,aY,go_sem]
   exact⟨H,(AH.aK (AH.le_refl _) ((by simp only[ah,aj,ne_eq,aP,not_false_eq_true,and_self]:aG _ b1).2)),(by first | exact⟨by rw[kk,iC,decide_eq_false (fun h=>uD (by omega))];rfl,rfl⟩ | rfl)⟩
  by_cases Dx:1≤r
  case neg=>
   simp -dsimp(maxSteps:=4000000) only[d1,d2,k4,nM,oV,qZ,uD,Dx,aP,aY,go_sem]
   exact⟨H,(AH.aK (AH.le_refl _) ((by simp only[ah,aj,ne_eq,aP,not_false_eq_true,and_self]:aG _ b1).2)),(by first | exact⟨by rw[kk,iC,decide_eq_false (fun h=>Dx (by omega))];rfl,rfl⟩ | rfl)⟩
  by_cases G6:r≤255
  case neg=>
   simp -dsimp(maxSteps:=4000000) only[d1,d2,k4,nM,oV,qZ,uD,Dx,G6,aP,aY,go_sem]
   exact⟨H,(AH.aK (AH.le_refl _) ((by simp only[ah,aj,ne_eq,aP,not_false_eq_true,and_self]:aG _ b1).2)),(by first | exact⟨by rw[kk,iC,decide_eq_false (fun h=>G6 (by omega))];rfl,rfl⟩ | rfl)⟩
  have hp:iC s f r=true:=by rw[iC,decide_eq_true (by omega)]
  simp -dsimp(maxSteps:=4000000) only[d1,d2,k4,nM,oV,qZ,uD,Dx,G6,aP,aY,go_sem]
  exact⟨H,(AH.aK (AH.le_refl _) ((by simp only[ah,aj,ne_eq,aP,not_false_eq_true,and_self]:aG _ b1).2)),(by first | exact⟨by rw[kk,hp];rfl,rfl⟩ | rfl)⟩
 ·skip
  by_cases nM:1≤s
  case neg=>
   simp -dsimp(maxSteps:=4000000) only[d1,d2,k4,d5,nM,aP,aY,go_sem]
   exact⟨H,(AH.aK (AH.le_refl _) ((by simp only[ah,aj,ne_eq,aP,not_false_eq_true,and_self]:aG _ b1).2)),(by first | exact⟨by rw[kk,iC,decide_eq_false (fun h=>nM (by omega))];rfl,rfl⟩ | rfl)⟩
  by_cases oV:s≤16
  case neg=>
   simp -dsimp(maxSteps:=4000000) only[d1,d2,k4,d5,nM,oV,aP,aY,go_sem]
   exact⟨H,(AH.aK (AH.le_refl _) ((by simp only[ah,aj,ne_eq,aP,not_false_eq_true,and_self]:aG _ b1).2)),(by first | exact⟨by rw[kk,iC,decide_eq_false (fun h=>oV (by omega))];rfl,rfl⟩ | rfl)⟩
  by_cases qZ:0≤f
  case neg=>
   simp -dsimp(maxSteps:=4000000) only[d1,d2,k4,d5,nM,oV,qZ,aP,aY,go_sem]
   exact⟨H,(AH.aK (AH.le_refl _) ((by simp only[ah,aj,ne_eq,aP,not_false_eq_true,and_self]:aG _ b1).2)),(by first | exact⟨by rw[kk,iC,decide_eq_false (fun h=>qZ (by omega))];rfl,rfl⟩ | rfl)⟩
  by_cases uD:f≤63
  case neg=>
   simp -dsimp(maxSteps:=4000000) only[d1,d2,k4,d5,nM,oV,qZ,uD,aP,aY,go_sem]
   exact⟨H,(AH.aK (AH.le_refl _) ((by simp only[ah,aj,ne_eq,aP,not_false_eq_true,and_self]:aG _ b1).2)),(by first | exact⟨by rw[kk,iC,decide_eq_false (fun h=>uD (by omega))];rfl,rfl⟩ | rfl)⟩
  by_cases Dx:1≤r
  case neg=>
   simp -dsimp(maxSteps:=4000000) only[d1,d2,k4,d5,nM,oV,qZ,uD,Dx,aP,aY,go_sem]
   exact⟨H,(AH.aK (AH.le_refl _) ((by simp only[ah,aj,ne_eq,aP,not_false_eq_true,and_self]:aG _ b1).2)),(by first | exact⟨by rw[kk,iC,decide_eq_false (fun h=>Dx (by omega))];rfl,rfl⟩ | rfl)⟩
  by_cases G6:r≤255
  case neg=>
   simp -dsimp(maxSteps:=4000000) only[d1,d2,k4,d5,nM,oV,qZ,uD,Dx,G6,aP,aY,go_sem]
   exact⟨H,(AH.aK (AH.le_refl _) ((by simp only[ah,aj,ne_eq,aP,not_false_eq_true,and_self]:aG _ b1).2)),(by first | exact⟨by rw[kk,iC,decide_eq_false (fun h=>G6 (by omega))];rfl,rfl⟩ | rfl)⟩
  have hp:iC s f r=true:=by rw[iC,decide_eq_true (by omega)]
  by_cases e1:0≤b
  case neg=>
   simp -dsimp(maxSteps:=4000000) only[d1,d2,k4,d5,nM,oV,qZ,uD,Dx,G6,e1,aP,aY,go_sem]
   exact⟨H,(AH.aK (AH.le_refl _) ((by simp only[ah,aj,ne_eq,aP,not_false_eq_true,and_self]:aG _ b1).2)),(by first | exact⟨by rw[kk,hp,decide_eq_false (fun h=>e1 h.1)];rfl,rfl⟩ | rfl)⟩
  by_cases e2:b≤3
  ·simp -dsimp(maxSteps:=4000000) only[d1,d2,k4,d5,nM,oV,qZ,uD,Dx,G6,e1,e2,aP,aY,go_sem]
   exact⟨H,(AH.aK (AH.le_refl _) ((by simp only[ah,aj,ne_eq,aP,not_false_eq_true,and_self]:aG _ b1).2)),(by first | exact⟨by rw[kk,hp,decide_eq_true ⟨e1,e2⟩];rfl,rfl⟩ | rfl)⟩
  ·simp -dsimp(maxSteps:=4000000) only[d1,d2,k4,d5,nM,oV,qZ,uD,Dx,G6,e1,e2,aP,aY,go_sem]
   exact⟨H,(AH.aK (AH.le_refl _) ((by simp only[ah,aj,ne_eq,aP,not_false_eq_true,and_self]:aG _ b1).2)),(by first | exact⟨by rw[kk,hp,decide_eq_false (fun h=>e2 h.2)];rfl,rfl⟩ | rfl)⟩
def acU:En→Rc
 |(k,s,f,r,b)=>(64*b+k,s,f,r)
def ze:En:=(0,0,0,0,0)
def pR (x:En):Rc:=if iK x=true then acU x else zr
def pE (x:En):Int:=if iK x=true then 0 else 1
theorem JA {k s f r b:Int} (h:iK (k,s,f,r,b)=true):(0≤b∧b≤3)∧(1≤k∧k≤4)∧(0≤s∧s≤16)∧(0≤f∧f≤63)∧(0≤r∧r≤255):=by
 simp only[iK]at h
 split at h
 ·have:=of_decide_eq_true h
  omega
 ·simp only[iC,Bool.and_eq_true,decide_eq_true_eq]at h
  omega
theorem Zy:∀ (x:Fin 4) (y:Fin 64),IntKind.u8.wrap (jf .or .i64 (IntKind.i64.wrap ((x.val:Int)*64)) (y.val:Int))=64*(x.val:Int)+y.val:=by decide +kernel
theorem or_eq {a c:Int} (a0:0≤a) (a1:a≤3) (c0:0≤c) (c1:c<64):IntKind.u8.wrap (jf .or .i64 (IntKind.i64.wrap (a*64)) c)=64*a+c:=by
 have:=Zy ⟨a.toNat,by omega⟩ ⟨c.toNat,by omega⟩
 simpa [Int.toNat_of_nonneg a0,Int.toNat_of_nonneg c0]using this
theorem Yl (k s f r b:Int) (H:AH):aO Tryz.prog 158 #[.agg #[.int .i64 k,.int .i64 s,.int .i64 f,.int .i64 r,.int .i64 b]] H (fun v H'=>v=.tuple #[.agg (enc (pR (k,s,f,r,b))).toArray,.int .i64 (pE (k,s,f,r,b))]∧H=H'):=by
 refine aO.cu Tryz.func158 rfl Tryz.ntmps158 Tryz.results158 (by simp) ?_;simp -dsimp(maxSteps:=4000000) only[go_sem]
 refine bY.mk fun b1 iy=>?_;have aP:=iy;(try simp only[ah,aj,ne_eq]at aP);have aY:=aP;(try simp only[@eq_comm Nat b1]at aY);simp -dsimp(maxSteps:=4000000) only[aP,aY,go_sem]
 refine bY.mk fun b2 nY=>?_;have dK:=nY;(try simp only[ah,aj,ne_eq]at dK);have dV:=dK;(try simp only[@eq_comm Nat b2]at dV);simp -dsimp(maxSteps:=4000000) only[aP,aY,dK,dV,go_sem]
 refine(sQ k s f r b _).mono ?_;rintro _ _ ⟨rfl,rfl⟩
 cases g:iK (k,s,f,r,b) with
 |true=>
  obtain⟨⟨h1,h2⟩,⟨h3,h4⟩,⟨h5,h6⟩,⟨h7,h8⟩,⟨h9,h10⟩⟩:=JA g
  have e1:=or_eq h1 h2 (by omega:0≤k) (by omega)
  have e2:=IV h5 (by omega)
  have e3:=IV h7 (by omega)
  have e4:=IV h9 (by omega)
  simp -dsimp(maxSteps:=4000000) only[e1,e2,e3,e4,aP,aY,dK,dV,go_sem]
  exact⟨H,(AH.aK (AH.aK (AH.le_refl _) ((by simp only[ah,aj,ne_eq,aP,not_false_eq_true,and_self]:aG _ b1).2)) ((by simp only[ah,aj,ne_eq,dK,not_false_eq_true,and_self]:aG _ b2).2)),(by first | exact⟨by simp[pR,pE,g,acU,enc,e1],rfl⟩ | rfl)⟩
 |false=>
  simp -dsimp(maxSteps:=4000000) only[aP,aY,dK,dV,go_sem]
  exact⟨H,(AH.aK (AH.aK (AH.le_refl _) ((by simp only[ah,aj,ne_eq,aP,not_false_eq_true,and_self]:aG _ b1).2)) ((by simp only[ah,aj,ne_eq,dK,not_false_eq_true,and_self]:aG _ b2).2)),(by first | exact⟨by simp[pR,pE,g,zr,enc],rfl⟩ | rfl)⟩
theorem aA (x:En):(gG x).length=5:=rfl
theorem ay (x:En):(gG x).all iM=true:=rfl
theorem dF (k s f r b:Int):gG (k,s,f,r,b)=[.int .i64 k,.int .i64 s,.int .i64 f,.int .i64 r,.int .i64 b]:=rfl
def prv (L:List En) (i:Nat):Int:=if i=0 then 0 else (L.getD (i - 1) ze).2.1
def chk (L:List En) (i:Nat):Bool:=match L[i]? with
 |none=>true
 |some x=>iK x&&!(decide (x.1=4))&&decide (prv L i<x.2.1)
def oH (L:List En):Bool:=(List.range L.length).all (chk L)&&decide (L.length≤64)
theorem vZ {L:List En} {i:Nat} (hi:i<L.length) (h:chk L i=false):oH L=false:=by
 have:(List.range L.length).all (chk L)=false:=by
  rw[List.all_eq_false]
  exact⟨i,List.mem_range.2 hi,by rw[h];simp⟩
 rw[oH,this];rfl
theorem JB {L:List En} {i:Nat} (hi:L.length≤i) (h:∀ j,j<i→chk L j=true):oH L=decide (L.length≤64):=by
 have:(List.range L.length).all (chk L)=true:=by
  rw[List.all_eq_true]
  exact fun j hj=>h j (by have:=List.mem_range.1 hj;omega)
 rw[oH,this,Bool.true_and]
theorem JC {L:List En} {i:Nat} {x:En} (h:L[i]?=some x):prv L (i+1)=x.2.1:=by
 rw[prv,if_neg (by omega),Nat.add_sub_cancel,List.getD_eq_getElem?_getD,h];rfl
theorem NY (L:List En) (base:Option Addr) (cap:Nat) (H:AH) (hs:bG H 5 base cap (L.map gG)) :
  aO Tryz.prog 156 #[.slice base L.length cap] H (fun v H'=>v=.bool (oH L)∧H=H'):=by
 have hbig:=hs.big
 simp only[List.length_map]at hbig
 refine aO.cu Tryz.func156 rfl Tryz.ntmps156 Tryz.results156 (by simp) ?_;simp -dsimp(maxSteps:=4000000) only[aA,ay,go_sem]
 refine fZ.gQ (ι:=Nat) (fun i=>i≤L.length∧∀ j,j<i→chk L j=true) (fun i=>[(8,.int .i64 i),(7,.int .i64 L.length),(6,.slice base L.length cap),(0,.slice base L.length cap),(3,.int .i64 (prv L i))])
  (fun _=>H) (fun i=>L.length - i) 0 ⟨by omega,fun j hj=>by omega⟩ (bZ.aS ?_) (AH.le_refl _) fun i hi Q again out=>?_
 ·simp -dsimp(maxSteps:=4000000) only[show prv L 0=0 from rfl,aA,ay,go_sem]
 ·obtain⟨hi,hall⟩:=hi
  by_cases h:(i:Int)<L.length
  ·obtain⟨⟨k,s,f,r,y⟩,hn⟩:=get_some (l:=L) (i:=i) (by omega)
   obtain⟨b,o,rfl,hrow,_⟩:=hs.get (dn (f:=gG) hn)
   rw[dF]at hrow
   have ee:=dA (i:=i) (by omega)
   have hps:=JC hn
   have hc:chk L i=(iK (k,s,f,r,y)&&!(decide (k=4))&&decide (prv L i<s)):=by rw[chk,hn]
   simp -dsimp(maxSteps:=4000000) only[h,hrow,aA,ay,go_sem]
   refine bY.mk fun b5 iW=>?_;have bQ:=iW;(try simp only[ah,aj,ne_eq]at bQ);have dB:=bQ;(try simp only[@eq_comm Nat b5]at dB);simp -dsimp(maxSteps:=4000000) only[aA,ay,bQ,dB,go_sem]
   refine(sQ k s f r y _).mono ?_;rintro _ _ ⟨rfl,rfl⟩
   cases g:iK (k,s,f,r,y) with
   |false=>
    simp -dsimp(maxSteps:=4000000) only[aA,ay,bQ,dB,go_sem]
    refine out _ _ _ (by simp) ?_
    simp -dsimp(maxSteps:=4000000) only[aA,ay,bQ,dB,go_sem]
    exact⟨H,(AH.aK (AH.le_refl _) ((by simp only[aA,ay,ah,aj,ne_eq,bQ,not_false_eq_true,and_self]:aG _ b5).2)),(by first | exact⟨by rw[vZ (i:=i) (by omega) (by rw[hc,g];rfl)],rfl⟩ | rfl)⟩
   |true=>
    by_cases k4:k=4
    ·simp -dsimp(maxSteps:=4000000) only[k4,aA,ay,bQ,dB,go_sem]
     refine out _ _ _ (by simp) ?_
     simp -dsimp(maxSteps:=4000000) only[aA,ay,bQ,dB,go_sem]
     exact⟨H,(AH.aK (AH.le_refl _) ((by simp only[aA,ay,ah,aj,ne_eq,bQ,not_false_eq_true,and_self]:aG _ b5).2)),(by first | exact⟨by rw[vZ (i:=i) (by omega) (by rw[hc,decide_eq_true k4];simp)],rfl⟩ | rfl)⟩
    by_cases c:s≤prv L i
    ·simp -dsimp(maxSteps:=4000000) only[k4,c,aA,ay,bQ,dB,go_sem]
     refine out _ _ _ (by simp) ?_
     simp -dsimp(maxSteps:=4000000) only[aA,ay,bQ,dB,go_sem]
     exact⟨H,(AH.aK (AH.le_refl _) ((by simp only[aA,ay,ah,aj,ne_eq,bQ,not_false_eq_true,and_self]:aG _ b5).2)),(by first | exact⟨by rw[vZ (i:=i) (by omega) (by rw[hc,decide_eq_false (p:=prv L i<s) (by omega)];simp)],rfl⟩ | rfl)⟩
    simp -dsimp(maxSteps:=4000000) only[k4,c,ee,aA,ay,bQ,dB,go_sem]
    refine again (i+1) _ _ ⟨by omega,fun j hj=>?_⟩ (bZ.aS (by simp -dsimp(maxSteps:=4000000) only[hps,aA,ay,bQ,dB,go_sem])) (by(repeat (first | exact AH.le_refl _ | refine AH.aK ?_ ?_));all_goals (first | exact AH.le_refl _ | (show AH.find _ _=_;simp only[aH,aN,aV,ah,aj,ne_eq,not_false_eq_true,true_and,and_true,and_self,aA,ay,bQ,dB]))) (by omega)
    by_cases hji:j=i
    ·subst hji;rw[hc,g,decide_eq_false k4,decide_eq_true (by omega)];rfl
    ·exact hall j (by omega)
  ·have hy:=JB (by omega) hall
   simp -dsimp(maxSteps:=4000000) only[h,aA,ay,go_sem]
   refine out _ _ _ (by simp) ?_
   by_cases c:(L.length:Int)≤64
   ·simp -dsimp(maxSteps:=4000000) only[c,aA,ay,go_sem]
    exact⟨H,(AH.le_refl _),(by first | exact⟨by rw[hy,decide_eq_true (by omega)],rfl⟩ | rfl)⟩
   ·simp -dsimp(maxSteps:=4000000) only[c,aA,ay,go_sem]
    exact⟨H,(AH.le_refl _),(by first | exact⟨by rw[hy,decide_eq_false (by omega)],rfl⟩ | rfl)⟩
theorem acV (L:List En) (base:Option Addr) (cap:Nat) (H:AH) (hs:bG H 5 base cap (L.map gG)) :
  aO Tryz.prog 117 #[.slice base L.length cap] H (fun v H'=>v=.bool (oH L)∧H=H'):=by
 have hbig:=hs.big
 simp only[List.length_map]at hbig
 refine aO.cu Tryz.func117 rfl Tryz.ntmps117 Tryz.results117 (by simp) ?_;simp -dsimp(maxSteps:=4000000) only[aA,ay,go_sem]
 refine fZ.gQ (ι:=Nat) (fun i=>i≤L.length∧∀ j,j<i→chk L j=true) (fun i=>[(3,.int .i64 i),(0,.slice base L.length cap)])
  (fun _=>H) (fun i=>L.length - i) 0 ⟨by omega,fun j hj=>by omega⟩ (bZ.aS ?_) (AH.le_refl _) fun i hi Q again out=>?_
 ·simp -dsimp(maxSteps:=4000000) only[aA,ay,go_sem]
 ·obtain⟨hi,hall⟩:=hi
  by_cases h:(i:Int)<L.length
  ·obtain⟨⟨k,s,f,r,y⟩,hn⟩:=get_some (l:=L) (i:=i) (by omega)
   obtain⟨b,o,rfl,hrow,hrd⟩:=hs.get (dn (f:=gG) hn)
   have r0:=hrd 0 _ rfl
   have r1:=hrd 1 _ rfl
   simp only[dF,Nat.add_zero]at r0 r1
   rw[dF]at hrow
   have ee:=dA (i:=i) (by omega)
   have hc:chk L i=(iK (k,s,f,r,y)&&!(decide (k=4))&&decide (prv L i<s)):=by rw[chk,hn]
   simp -dsimp(maxSteps:=4000000) only[h,aA,ay,go_sem]
   refine fZ.gen [.pu,.pu,.pu,.rd,.ch,.pu,.pu,.pu,.pu,.pu,.pu,.rd,.pu,.pu,.pu,.pu,.pu,.pu,.pu,.pu,.pu,.pu,.rd,.pu,.pu,.pu,.pu,.pu,.rd,.pu,.pu,.pu] [0,0,3,7,15,31,63,127,127,511,1023,2047,4095,8191,16383,32767,65535,131071,262143,262143,1048575,2097151,4194303,262143,262143,17039359,58982399,126091263,260308991,536870911,1073741823,2147483647] 5 (_) mixed (by kernel_rfl) (AH.le_refl _) ?_
   simp -dsimp(maxSteps:=4000000) only[h,hrow,AH.le_refl,aA,ay,go_sem]
   refine(jX k s f r y _).mono ?_;rintro _ _ ⟨rfl,rfl⟩
   cases g:iK (k,s,f,r,y) with
   |false=>
    simp -dsimp(maxSteps:=4000000) only[AH.le_refl,aA,ay,go_sem]
    refine out _ _ _ (by simp) ?_
    simp -dsimp(maxSteps:=4000000) only[aA,ay,go_sem]
    exact⟨H,(AH.le_refl _),(by first | exact⟨by rw[vZ (i:=i) (by omega) (by rw[hc,g];rfl)],rfl⟩ | rfl)⟩
   |true=>
    by_cases k4:k=4
    ·simp -dsimp(maxSteps:=4000000) only[k4,AH.le_refl,h,r0,aA,ay,go_sem]
     refine out _ _ _ (by simp) ?_
     simp -dsimp(maxSteps:=4000000) only[aA,ay,go_sem]
     exact⟨H,(AH.le_refl _),(by first | exact⟨by rw[vZ (i:=i) (by omega) (by rw[hc,decide_eq_true k4];simp)],rfl⟩ | rfl)⟩
    by_cases i0:i=0
    ·have z:¬ (0:Int)<(i:Int):=by omega
     have pz:prv L i=0:=by rw[prv,if_pos i0]
     have hs1:1≤s:=by
      simp only[iK]at g
      rw[if_neg k4]at g
      simp only[iC,Bool.and_eq_true,decide_eq_true_eq]at g
      omega
     simp -dsimp(maxSteps:=4000000) only[k4,AH.le_refl,h,r0,z,ee,aA,ay,go_sem]
     refine again (i+1) _ _ ⟨by omega,fun j hj=>?_⟩ (bZ.aS (by simp -dsimp(maxSteps:=4000000) only[aA,ay,go_sem])) (AH.le_refl _) (by omega)
     obtain rfl:j=i:=by omega
     rw[hc,g,decide_eq_false k4,decide_eq_true (p:=prv L j<s) (by omega)];rfl
    ·have ip:(0:Int)<(i:Int):=by omega
     obtain⟨x',hn'⟩:=get_some (l:=L) (i:=i - 1) (by omega)
     obtain⟨b',o',hb',_,oU⟩:=hs.get (dn (f:=gG) hn')
     cases hb'
     have r1':=oU 1 _ rfl
     have em:IntKind.i64.wrap ((i:Int) - 1)=((i - 1:Nat):Int):=by rw[eH (by omega) (by omega)];omega
     have hm1:((i - 1:Nat):Int)<L.length:=by omega
     have hpv:prv L i=x'.2.1:=by
      have:=JC hn'
      rwa [show i - 1+1=i from by omega]at this
     by_cases c:s≤x'.2.1
     ·simp -dsimp(maxSteps:=4000000) only[k4,AH.le_refl,h,r0,r1,r1',em,hm1,ip,c,aA,ay,go_sem]
      refine out _ _ _ (by simp) ?_
      simp -dsimp(maxSteps:=4000000) only[aA,ay,go_sem]
      exact⟨H,(AH.le_refl _),(by first | exact⟨by rw[vZ (i:=i) (by omega) (by rw[hc,decide_eq_false (p:=prv L i<s) (by omega)];simp)],rfl⟩ | rfl)⟩
     simp -dsimp(maxSteps:=4000000) only[k4,AH.le_refl,h,r0,r1,r1',em,hm1,ip,c,ee,aA,ay,go_sem]
     refine again (i+1) _ _ ⟨by omega,fun j hj=>?_⟩ (bZ.aS (by simp -dsimp(maxSteps:=4000000) only[aA,ay,go_sem])) (AH.le_refl _) (by omega)
     by_cases hji:j=i
     ·subst hji;rw[hc,g,decide_eq_false k4,decide_eq_true (by omega)];rfl
     ·exact hall j (by omega)
  ·have hy:=JB (by omega) hall
   simp -dsimp(maxSteps:=4000000) only[h,aA,ay,go_sem]
   refine out _ _ _ (by simp) ?_
   by_cases c:(L.length:Int)≤64
   ·simp -dsimp(maxSteps:=4000000) only[c,aA,ay,go_sem]
    exact⟨H,(AH.le_refl _),(by first | exact⟨by rw[hy,decide_eq_true (by omega)],rfl⟩ | rfl)⟩
   ·simp -dsimp(maxSteps:=4000000) only[c,aA,ay,go_sem]
    exact⟨H,(AH.le_refl _),(by first | exact⟨by rw[hy,decide_eq_false (by omega)],rfl⟩ | rfl)⟩
theorem aJ (x:En):iO [.int .i64 0,.int .i64 0,.int .i64 0,.int .i64 0,.int .i64 0] 0 (gG x)=gG x:=rfl
theorem aI (x:En):(gG x).take 5=gG x:=rfl
theorem acW (x:En) (H:AH):aO Tryz.prog 158 #[.agg (gG x).toArray] H (fun v H'=>v=.tuple #[.agg (enc (pR x)).toArray,.int .i64 (pE x)]∧H=H'):=Yl x.1 x.2.1 x.2.2.1 x.2.2.2.1 x.2.2.2.2 H
def er:Rc:=(4,0,0,0)
def rQ (L:List En) (i:Nat):List Rc:=hd 3 ((L.length+1:Nat):Int)::((L.take i).map pR++List.replicate (L.length+1 - i) zr)
def Dy (L:List En):List Rc:=hd 3 ((L.length+1:Nat):Int)::(L.map pR++[er])
theorem L8 (L:List En):rQ L 0=newR 3 (L.length+1):=rfl
theorem PX (L:List En):(rQ L L.length).set (L.length+1) er=Dy L:=by
 simp only[rQ,Dy,List.take_length,show L.length+1 - L.length=1 from by omega,List.replicate_one,List.set_cons_succ]
 rw[List.set_append_right _ _ (by simp)]
 simp
theorem wu {L:List En} {i:Nat} (h:i≤L.length):(rQ L i).length=L.length+2:=by simp[rQ];omega
theorem zM (L:List En):(Dy L).length=L.length+2:=by simp[Dy]
theorem PY {L:List En} {i:Nat} {x:En} (h:L[i]?=some x):(rQ L i).set (i+1) (pR x)=rQ L (i+1):=by
 have hi:=dG h
 simp only[rQ,List.set_cons_succ]
 rw[List.set_append_right _ _ (by simp;omega),show L.length+1 - i=(L.length+1 - (i+1))+1 from by omega,List.replicate_succ]
 have:i - ((L.take i).map pR).length=0:=by simp;omega
 rw[this,List.set_cons_zero,List.take_add_one,h]
 simp
theorem Dz {L:List En} (h:oH L=true):L.length≤64:=by
 simp only[oH,Bool.and_eq_true,decide_eq_true_eq]at h
 exact h.2
theorem acX:pR (4,0,0,0,0)=er:=by decide
theorem Tc {L:List En} {base:Option Addr} {cap:Nat} {H:AH} (hs:bG H 5 base cap (L.map gG)) (g:oH L=false) :
  aO Tryz.prog 125 #[.slice base L.length cap] H (fun v H'=>v=acT 1∧H=H'):=by
 refine aO.cu Tryz.func125 rfl Tryz.ntmps125 Tryz.results125 (by simp) ?_;simp -dsimp(maxSteps:=4000000) only[go_sem]
 refine bY.mk fun b2 nY=>?_;have dK:=nY;(try simp only[ah,aj,ne_eq]at dK);have dV:=dK;(try simp only[@eq_comm Nat b2]at dV);simp -dsimp(maxSteps:=4000000) only[dK,dV,go_sem]
 refine(NY L base cap _ (hs.add (by simp only[ah,ne_eq,dK,not_false_eq_true,and_self]:aG _ b2))).mono ?_;rintro _ _ ⟨rfl,rfl⟩
 simp -dsimp(maxSteps:=4000000) only[g,dK,dV,go_sem]
 exact⟨H,(AH.aK (AH.le_refl _) ((by simp only[ah,aj,ne_eq,dK,not_false_eq_true,and_self]:aG _ b2).2)),(by first | exact⟨rfl,rfl⟩ | rfl)⟩
theorem WG {L:List En} {base:Option Addr} {cap:Nat} {H:AH} (hs:bG H 5 base cap (L.map gG)) (g:oH L=true) :
  aO Tryz.prog 125 #[.slice base L.length cap] H (fun v H'=>∃ b,aG H b∧v=.tuple #[.agg #[.int .i64 3,.slice (some ⟨b,0,none⟩) (L.length+2) (L.length+2)],.int .i64 0]∧H'=H.add b (.cells ((Dy L).map enc).flatten 76 ((L.length+2)*4))):=by
 have hl:=Dz g
 have e0:=dA (i:=L.length) (by omega)
 refine aO.cu Tryz.func125 rfl Tryz.ntmps125 Tryz.results125 (by simp) ?_;simp -dsimp(maxSteps:=4000000) only[e0,au,ak,aW,aA,ay,aJ,aI,go_sem]
 refine bY.mk fun b2 nY=>?_;have dK:=nY;(try simp only[ah,aj,ne_eq]at dK);have dV:=dK;(try simp only[@eq_comm Nat b2]at dV);simp -dsimp(maxSteps:=4000000) only[e0,au,ak,aW,aA,ay,aJ,aI,dK,dV,go_sem]
 refine(NY L base cap _ (hs.add (by simp only[ah,ne_eq,dK,not_false_eq_true,and_self]:aG _ b2))).mono ?_;rintro _ _ ⟨rfl,rfl⟩
 simp -dsimp(maxSteps:=4000000) only[g,e0,au,ak,aW,aA,ay,aJ,aI,dK,dV,go_sem]
 refine(Dt 3 (L.length+1) ⟨by decide,by decide,by omega,by omega⟩ _).mono ?_;rintro _ _ ⟨bn,oG,rfl,rfl⟩
 have dL:=oG;(try simp only[ah,aj,ne_eq]at dL);have dR:=dL;(try simp only[@eq_comm Nat bn]at dR)
 unfold fv
 simp -dsimp(maxSteps:=4000000) only[e0,au,ak,aW,aA,ay,aJ,aI,dK,dV,dL,dR,go_sem]
 refine bY.mk fun b4 jr=>?_;have aT:=jr;(try simp only[ah,aj,ne_eq]at aT);have aX:=aT;(try simp only[@eq_comm Nat b4]at aX);simp -dsimp(maxSteps:=4000000) only[e0,au,ak,aW,aA,ay,aJ,aI,dK,dV,dL,dR,aT,aX,go_sem]
 rw[←L8]
 refine fZ.gQ (ι:=Nat) (fun i=>i≤L.length) (fun i=>[(21,.int .i64 i),(20,.int .i64 L.length),(19,.slice base L.length cap),(0,.slice base L.length cap),(2,.pointer (some ⟨b2,0,none⟩)),(4,.pointer (some ⟨b4,0,none⟩)),(5,.int .i64 0)])
  (fun i=>((H.add b2 (.cells [.int .i64 0,.slice none 0 0] 65 2)).add bn (.cells ((rQ L i).map enc).flatten 76 ((L.length+1+1)*4))).add b4 (.cells [.int .i64 3,.slice (some ⟨bn,0,none⟩) (L.length+1+1) (L.length+1+1)] 65 2)) (fun i=>L.length - i) 0 (by omega) (bZ.aS ?_) (AH.le_refl _) fun i hi Q again out=>?_
 ·simp -dsimp(maxSteps:=4000000) only[e0,au,ak,aW,aA,ay,aJ,aI,dK,dV,dL,dR,aT,aX,go_sem]
 ·by_cases h:(i:Int)<L.length
  ·obtain⟨x,hn⟩:=get_some (l:=L) (i:=i) (by omega)
   obtain⟨b,o,rfl,hrow,_⟩:=hs.get (dn (f:=gG) hn)
   have ee:=dA (i:=i) (by omega)
   have e2:IntKind.i64.wrap (1+(i:Int))=((i+1:Nat):Int):=by rw[eH (by omega) (by omega)];omega
   have c1:((i+1:Nat):Int)<((L.length+1+1:Nat):Int):=by omega
   have qP:=(And.intro (aG.iP (by simp only[dK]:aG H b2) hrow) (And.intro (aG.iP (by simp only[dL]:aG H bn) hrow) (aG.iP (by simp only[aT]:aG H b4) hrow)))
   have hst:=LQ (pR x) (L:=rQ L i) (i:=i+1) (by rw[wu hi];omega)
   rw[PY hn]at hst
   have hl4:=rM (rQ L i)
   rw[wu hi]at hl4
   have c2:(i+1)*4+4≤(L.length+2)*4:=by omega
   have c3:(L.length+2)*4≤(L.length+1+1)*4:=by omega
   simp -dsimp(maxSteps:=4000000) only[h,hrow,qP,e0,au,ak,aW,aA,ay,aJ,aI,dK,dV,dL,dR,aT,aX,go_sem]
   refine bY.mk fun b7 jM=>?_;have bI:=jM;(try simp only[ah,aj,ne_eq]at bI);have bU:=bI;(try simp only[@eq_comm Nat b7]at bU);simp -dsimp(maxSteps:=4000000) only[e0,au,ak,aW,aA,ay,aJ,aI,dK,dV,dL,dR,aT,aX,bI,bU,go_sem]
   refine fZ.gen [.pu,.rd,.pu,.pu,.rd,.ch,.pu,.pu,.pu,.pu,.ch] [0,1,0,4,0,16,48,112,112,255,767] 6 (_) mixed (by kernel_rfl) (AH.le_refl _) ?_
   simp -dsimp(maxSteps:=4000000) only[AH.le_refl,e0,au,ak,aW,aA,ay,aJ,aI,dK,dV,dL,dR,aT,aX,bI,bU,go_sem]
   refine(acW x _).mono ?_;rintro _ _ ⟨rfl,rfl⟩
   simp -dsimp(maxSteps:=4000000) only[AH.le_refl,e2,c1,hst,hl4,c2,c3,ee,e0,au,ak,aW,aA,ay,aJ,aI,dK,dV,dL,dR,aT,aX,bI,bU,go_sem]
   exact again (i+1) _ _ (by omega) (bZ.aS (by simp -dsimp(maxSteps:=4000000) only[ee,e0,au,ak,aW,aA,ay,aJ,aI,dK,dV,dL,dR,aT,aX,bI,bU,go_sem])) (by refine AH.eU ?_ ?_;(show AH.find _ _=_;simp only[aH,aN,aV,ah,aj,ne_eq,not_false_eq_true,true_and,and_true,and_self,e0,au,ak,aW,aA,ay,aJ,aI,dK,dV,dL,dR,aT,aX,bI,bU]);refine AH.eU ?_ ?_;(show AH.find _ _=_;simp only[aH,aN,aV,ah,aj,ne_eq,not_false_eq_true,true_and,and_true,and_self,e0,au,ak,aW,aA,ay,aJ,aI,dK,dV,dL,dR,aT,aX,bI,bU]);refine AH.eU ?_ ?_;(show AH.find _ _=_;simp only[aH,aN,aV,ah,aj,ne_eq,not_false_eq_true,true_and,and_true,and_self,e0,au,ak,aW,aA,ay,aJ,aI,dK,dV,dL,dR,aT,aX,bI,bU]);(repeat (first | exact AH.le_refl _ | refine AH.aK ?_ ?_));all_goals (first | exact AH.le_refl _ | (show AH.find _ _=_;simp only[aH,aN,aV,ah,aj,ne_eq,not_false_eq_true,true_and,and_true,and_self,e0,au,ak,aW,aA,ay,aJ,aI,dK,dV,dL,dR,aT,aX,bI,bU]))) (by omega)
  ·obtain rfl:i=L.length:=by omega
   simp -dsimp(maxSteps:=4000000) only[h,e0,au,ak,aW,aA,ay,aJ,aI,dK,dV,dL,dR,aT,aX,go_sem]
   refine out _ _ _ (by simp) ?_
   simp -dsimp(maxSteps:=4000000) only[e0,au,ak,aW,aA,ay,aJ,aI,dK,dV,dL,dR,aT,aX,go_sem]
   have e2:IntKind.i64.wrap (1+(L.length:Int))=((L.length+1:Nat):Int):=by rw[eH (by omega) (by omega)];omega
   have c1:((L.length+1:Nat):Int)<((L.length+1+1:Nat):Int):=by omega
   have hst:=LQ er (L:=rQ L L.length) (i:=L.length+1) (by rw[wu hi];omega)
   rw[PX]at hst
   have hl4:=rM (rQ L L.length)
   rw[wu hi]at hl4
   have c2:(L.length+1)*4+4≤(L.length+2)*4:=by omega
   have c3:(L.length+2)*4≤(L.length+1+1)*4:=by omega
   refine fZ.gen [.pu,.rd,.pu,.pu,.pu,.pu,.ch,.pu,.pu,.pu,.pu,.ch] [0,1,0,4,12,0,32,96,224,224,511,1535] 7 (_) mixed (by kernel_rfl) (AH.le_refl _) ?_
   simp -dsimp(maxSteps:=4000000) only[e0,au,ak,aW,aA,ay,aJ,aI,dK,dV,dL,dR,aT,aX,go_sem]
   refine(Yl 4 0 0 0 0 _).mono ?_;rintro _ _ ⟨rfl,rfl⟩
   rw[acX]
   simp -dsimp(maxSteps:=4000000) only[AH.le_refl,e2,c1,hst,hl4,c2,c3,e0,au,ak,aW,aA,ay,aJ,aI,dK,dV,dL,dR,aT,aX,go_sem]
   exact⟨_,(by refine AH.eU ?_ ?_;(show AH.find _ _=_;simp only[aH,aN,aV,ah,aj,ne_eq,not_false_eq_true,true_and,and_true,and_self,e0,au,ak,aW,aA,ay,aJ,aI,dK,dV,dL,dR,aT,aX]);(repeat (first | exact AH.le_refl _ | refine AH.aK ?_ ?_));all_goals (first | exact AH.le_refl _ | (show AH.find _ _=_;simp only[aH,aN,aV,ah,aj,ne_eq,not_false_eq_true,true_and,and_true,and_self,e0,au,ak,aW,aA,ay,aJ,aI,dK,dV,dL,dR,aT,aX]))),bn,dL.2,rfl,rfl⟩
def fP (L:List En):Int:=if oH L=true then 3 else 0
def fR (L:List En):List Rc:=if oH L=true then Dy L else []
def fE (L:List En):Int:=if oH L=true then 0 else 1
theorem Zz {L:List En} {n:Nat} {base:Option Addr} {cap:Nat} {H:AH} (hs:bG H 5 base cap (L.map gG)) (hn:n=L.length) :
  aO Tryz.prog 125 #[.slice base n cap] H (fun v H'=>∃ b c,v=.tuple #[.agg #[.int .i64 (fP L),.slice b (fR L).length c],.int .i64 (fE L)]∧Got H H' 4 b c ((fR L).map enc)):=by
 subst hn
 cases g:oH L with
 |true=>
  have h1:fR L=Dy L:=by simp[fR,g]
  have hl:=Dz g
  refine(WG hs g).mono fun v H' ⟨b,h2,h3,h4⟩=>⟨some ⟨b,0,none⟩,L.length+2,?_,?_⟩
  ·rw[h1,zM,h3];simp[fP,fE,g]
  ·rw[h1,h4];exact Got.add h2 (lg _) (by rw[List.length_map,zM];omega) (by rw[List.length_map,zM];omega)
 |false=>
  have h1:fR L=[]:=by simp[fR,g]
  refine(Tc hs g).mono fun v H' ⟨h3,h4⟩=>⟨none,0,?_,?_⟩
  ·rw[h1,h3];simp[fP,fE,g,acT]
  ·rw[h1,←h4];exact Got.nil
end Go.Proofs.YtbhamhhjicehaaaGreatDoor.pF
/- check: Sender of both sides. -/
namespace Go.Proofs.YtbhamhhjicehaaaGreatDoor.pF
open Go Go.AX Go.Proofs Ty
set_option maxHeartbeats 4000000
abbrev Tb:=Option Addr×Nat×List En
def kW (x:Tb):List Value:=[.slice x.1 x.2.2.length x.2.1]
structure ig (H:AH) (base:Option Addr) (cap:Nat) (T:List Tb):Prop where
 out:bG H 1 base cap (T.map kW)
 inn:∀ x∈T,bG H 5 x.1 x.2.1 (x.2.2.map gG)
def snd (slot:Int) (x:En):Bool:=decide (x.1=1)&&decide (x.2.1=slot)
theorem Td (x:En) (slot:Int) (bs:Nat) (H:AH) (h:H.rd ⟨bs,0,none⟩=some (.int .i64 slot)) :
  aO Tryz.prog 135 #[.agg (gG x).toArray,.pointer (some ⟨bs,0,none⟩)] H (fun v H'=>v=.bool (snd slot x)∧H=H'):=by
 obtain⟨k,s,f,r,b⟩:=x
 refine aO.cu Tryz.func135 rfl Tryz.ntmps135 Tryz.results135 (by simp) ?_;simp -dsimp(maxSteps:=4000000) only[dF,go_sem]
 refine bY.mk fun b2 nY=>?_;have dK:=nY;(try simp only[ah,aj,ne_eq]at dK);have dV:=dK;(try simp only[@eq_comm Nat b2]at dV);simp -dsimp(maxSteps:=4000000) only[dF,dK,dV,go_sem]
 have agS:=(aG.jq (by simp only[dK]:aG H b2) h)
 by_cases a:k=1
 ·simp -dsimp(maxSteps:=4000000) only[a,h,agS,dF,dK,dV,go_sem]
  exact⟨H,(AH.aK (AH.le_refl _) ((by simp only[dF,ah,aj,ne_eq,dK,not_false_eq_true,and_self]:aG _ b2).2)),(by first | exact⟨congrArg Value.bool (by rw[Bool.eq_iff_iff];simp[snd,a]),rfl⟩ | rfl)⟩
 ·simp -dsimp(maxSteps:=4000000) only[a,dF,dK,dV,go_sem]
  exact⟨H,(AH.aK (AH.le_refl _) ((by simp only[dF,ah,aj,ne_eq,dK,not_false_eq_true,and_self]:aG _ b2).2)),(by first | exact⟨by simp[snd,a],rfl⟩ | rfl)⟩
def Ix (g:En→Bool) (L:List En) (r:Int):Prop:=(r = -1∧∀ x∈L,g x=false)∨∃ (i:Nat) (x:En),L[i]?=some x∧g x=true∧r=i∧∀ j,j<i→∀ y,L[j]?=some y→g y=false
theorem wz {g:En→Bool} {fid:Nat} {caps:List Value} {L:List En} {n:Nat} {base:Option Addr} {cap:Nat} {H:AH} (hs:bG H 5 base cap (L.map gG)) (hn:n=L.length) (hok:fA Tryz.prog fid=true)
  (hf:∀ x∈L,aO Tryz.prog fid ([]++[Value.agg (gG x).toArray]++caps).toArray H (fun v H'=>v=.bool (g x)∧H=H')) :
  aO Tryz.prog 110 #[.slice base n cap,.func (.func fid) #[] caps.toArray] H (fun v H'=>∃ r:Int,v=.int .i64 r∧Ix g L r∧H=H'):=by
 subst hn
 have hbig:=hs.big
 simp only[List.length_map]at hbig
 refine aO.cu Tryz.func110 rfl Tryz.ntmps110 Tryz.results110 (by simp) ?_;simp -dsimp(maxSteps:=4000000) only[go_sem]
 refine fZ.gQ (ι:=Nat) (fun i=>i≤L.length∧∀ j,j<i→∀ y,L[j]?=some y→g y=false) (fun i=>[(8,.int .i64 i),(7,.int .i64 L.length),(0,.slice base L.length cap),(1,.func (.func fid) #[] caps.toArray)])
  (fun _=>H) (fun i=>L.length - i) 0 ⟨by omega,fun j hj=>by omega⟩ (bZ.aS ?_) (AH.le_refl _) fun i hi Q again out=>?_
 ·simp -dsimp(maxSteps:=4000000) only[go_sem]
 ·obtain⟨hi,hall⟩:=hi
  by_cases h:(i:Int)<L.length
  ·obtain⟨x,hx⟩:=get_some (l:=L) (i:=i) (by omega)
   obtain⟨b,o,rfl,hrow,_⟩:=hs.get (dn (f:=gG) hx)
   have ee:=dA (i:=i) (by omega)
   simp -dsimp(maxSteps:=4000000) only[h,hrow,hok,go_sem]
   refine(hf x (List.mem_of_getElem? hx)).mono ?_;rintro _ _ ⟨rfl,rfl⟩
   cases hb:g x with
   |true=>
    simp -dsimp(maxSteps:=4000000) only[go_sem]
    refine out _ _ _ (by simp) ?_
    simp -dsimp(maxSteps:=4000000) only[go_sem]
    exact⟨H,(by(repeat (first | exact AH.le_refl _ | refine AH.aK ?_ ?_));all_goals (first | exact AH.le_refl _ | (show AH.find _ _=_;simp only[aH,aN,aV,ah,aj,ne_eq,not_false_eq_true,true_and,and_true,and_self]))),_,rfl,.inr ⟨i,x,hx,hb,rfl,hall⟩,rfl⟩
   |false=>
    simp -dsimp(maxSteps:=4000000) only[ee,go_sem]
    refine again (i+1) _ _ ⟨by omega,fun j hj m hm=>?_⟩ (bZ.aS (by simp -dsimp(maxSteps:=4000000) only[go_sem])) (AH.le_refl _) (by omega)
    by_cases hji:j=i
    ·subst hji;rw[hx]at hm;cases hm;exact hb
    ·exact hall j (by omega) m hm
  ·simp -dsimp(maxSteps:=4000000) only[h,go_sem]
   refine out _ _ _ (by simp) ?_
   simp -dsimp(maxSteps:=4000000) only[go_sem]
   exact⟨H,(by(repeat (first | exact AH.le_refl _ | refine AH.aK ?_ ?_));all_goals (first | exact AH.le_refl _ | (show AH.find _ _=_;simp only[aH,aN,aV,ah,aj,ne_eq,not_false_eq_true,true_and,and_true,and_self]))),_,rfl,.inl ⟨rfl,fun y hy=>by
    obtain⟨j,hj⟩:=List.mem_iff_getElem?.1 hy
    exact hall j (by have:=dG hj;omega) y hj⟩,rfl⟩
end Go.Proofs.YtbhamhhjicehaaaGreatDoor.pF
/- part: what a store comes to behind a round, in any order. -/
namespace Go.Proofs.YtbhamhhjicehaaaGreatDoor.jh
open Go Go.AX Go.Proofs Go.Proofs.YtbhamhhjicehaaaGreatDoor.File Go.Proofs.YtbhamhhjicehaaaGreatDoor.mF
abbrev En:=Int×Int×Int×Int×Int
abbrev Pl:=Int×Int
abbrev Hd:=Int→Option Int
def pl (x:En):Pl:=(x.2.2.1,x.2.2.2.1)
def Au (p:Pl) (x:En):Bool:=decide (x.1=2)&&decide (pl x=p)
def got (T:List En) (p:Pl):List En:=T.filter (Au p)
def BG (hd:Hd) (l:List En):Bool:=l.all fun y=>(hd y.2.1).isSome
def Tf (v:Rc) (i b:Int):Rc:=if i=0 then (b,v.2) else if i=1 then (v.1,b,v.2.2) else if i=2 then (v.1,v.2.1,b,v.2.2.2) else (v.1,v.2.1,v.2.2.1,b)
def lH (hd:Hd) (v:Rc) (y:En):Rc:=Tf v y.2.2.2.2 ((hd y.2.1).getD 0)
def gu (T:List En) (hd:Hd) (X:List Nf) (p:Pl):List Nf:=match iJ X p.1 p.2 with
 |none=>X
 |some v=>if BG hd (got T p)=true then jk X p.1 p.2 ((got T p).foldl (lH hd) v) else X
def recvs (T:List En):List Pl:=(T.filter fun x=>decide (x.1=2)).map pl
def app1 (T:List En) (hd:Hd) (X:List Nf):List Nf:=(recvs T).foldl (gu T hd) X
def NZ (S:List Nf×Int) (x:En):List Nf×Int:=if x.1=3 then (Dn S.1 2 x.2.2.1 x.2.2.2.1 zr,Ik S.1 2 x.2.2.1 x.2.2.2.1 S.2) else S
def oI (T:List En) (S:List Nf×Int):List Nf×Int:=T.foldl NZ S
def app (T:List En) (hd:Hd) (X:List Nf) (den:Int):List Nf×Int:=oI T (app1 T hd X,den)
section fold
variable {α β:Type} {f:α→β→α}
open Classical in
theorem Aw (hc:∀ X a b,f (f X a) b=f (f X b) a) (hi:∀ X a,f (f X a) a=f X a) {a:β}:∀ {l:List β} {X:α},a∈l→l.foldl f (f X a)=l.foldl f X
 |b::l,X,h=>by
  rw[List.foldl_cons,List.foldl_cons]
  by_cases e:a=b
  ·subst e;rw[hi]
  ·rw[hc,Aw hc hi ((List.mem_cons.1 h).resolve_left e)]
theorem sV (hc:∀ X a b,f (f X a) b=f (f X b) a) (hi:∀ X a,f (f X a) a=f X a) {l:List β}:∀ {K:List β} {X:α},(∀ a∈K,a∈l)→l.foldl f (K.foldl f X)=l.foldl f X
 | [],_,_=>rfl
 |a::K,X,h=>by
  rw[List.foldl_cons,sV hc hi (fun b hb=>h b (List.mem_cons_of_mem _ hb)),Aw hc hi (h a (List.mem_cons_self ..))]
theorem JD (hc:∀ X a b,f (f X a) b=f (f X b) a) {a:β}:∀ {l:List β} {X:α},f (l.foldl f X) a=l.foldl f (f X a)
 | [],_=>rfl
 |b::l,X=>by rw[List.foldl_cons,List.foldl_cons,JD hc,hc]
theorem FB (hc:∀ X a b,f (f X a) b=f (f X b) a) {l:List β}:∀ {K:List β} {X:α},K.foldl f (l.foldl f X)=l.foldl f (K.foldl f X)
 | [],_=>rfl
 |a::K,X=>by rw[List.foldl_cons,List.foldl_cons,JD hc,FB hc]
theorem PZ (hc:∀ X a b,f (f X a) b=f (f X b) a) (hi:∀ X a,f (f X a) a=f X a) {K l:List β} {X:α} (h1:∀ a∈K,a∈l) (h2:∀ a∈l,a∈K):K.foldl f X=l.foldl f X:=by
 rw[←sV hc hi (K:=K) h1,←FB hc,sV hc hi h2]
end fold
theorem rU {X:List Nf} {n rec:Int} {v:Rc} (h:iJ X n rec=some v):∃ f,lk n X=some f∧0≤rec∧f.2[rec.toNat]?=some v:=by
 unfold iJ at h
 cases hl:lk n X with
 |none=>rw[hl]at h;cases h
 |some f=>
  rw[hl,Option.bind_some]at h
  split at h
  ·cases h
  ·exact⟨f,rfl,by omega,h⟩
theorem jY {X:List Nf} {n rec:Int} {v w:Rc} {f:Fl} (hl:lk n X=some f) (h0:0≤rec) (hv:f.2[rec.toNat]?=some w) (hr:rec≠0):jk X n rec v=rp n (f.1,f.2.set rec.toNat v) X:=by
 have hg:iJ X n rec=some w:=by rw[iJ,hl,Option.bind_some,if_neg (by omega)];exact hv
 rw[jk,kQ,hg,hl]
 simp[hr]
theorem pG {X:List Nf} {n:Int} {v:Rc}:jk X n 0 v=X:=by rw[jk,kQ];simp
theorem pI {X:List Nf} {n rec:Int} {v:Rc} (h:iJ X n rec=none):jk X n rec v=X:=by rw[jk,kQ,h];simp
theorem Ti (n:Int) (f g:Fl) (X:List Nf):rp n f (rp n g X)=rp n f X:=by
 rw[rp,rp,rp,List.map_map]
 apply List.map_congr_left
 intro x _
 simp only[Function.comp]
 by_cases h:x.1=n<;>simp[h]
theorem WH {n m:Int} (h:n≠m) (f g:Fl) (X:List Nf):rp n f (rp m g X)=rp m g (rp n f X):=by
 rw[rp,rp,rp,rp,List.map_map,List.map_map]
 apply List.map_congr_left
 intro x _
 simp only[Function.comp]
 by_cases h1:x.1=n
 ·have h2:¬ x.1=m:=fun e=>h (h1.symm.trans e)
  simp[h1,h]
 ·by_cases h2:x.1=m
  ·simp[h2,Ne.symm h]
  ·simp[h1,h2]
theorem sW {n:Int} {f g:Fl} {X:List Nf} (h:lk n X=some g):lk n (rp n f X)=some f:=by rw[RZ,if_pos rfl,h];rfl
theorem DC {n m:Int} {f:Fl} {X:List Nf} (h:m≠n):lk m (rp n f X)=lk m X:=by rw[RZ,if_neg h]
theorem vg (X:List Nf) (n rec n' rec':Int) (v:Rc):iJ (jk X n rec v) n' rec'=if n'=n∧rec'=rec∧rec≠0 then (iJ X n rec).map (fun _=>v) else iJ X n' rec':=by
 cases hg:iJ X n rec with
 |none=>
  rw[pI hg]
  split
  ·rename_i h;rw[h.1,h.2.1,hg];rfl
  ·rfl
 |some w=>
  obtain⟨f,hl,h0,hv⟩:=rU hg
  by_cases hr:rec=0
  ·subst hr;rw[pG,if_neg (by simp)]
  rw[jY hl h0 hv hr]
  by_cases hn:n'=n
  ·subst hn
   rw[iJ,sW hl,Option.bind_some]
   by_cases h1:rec'<0
   ·rw[if_pos h1,if_neg (by omega),iJ,hl,Option.bind_some,if_pos h1]
   rw[if_neg h1]
   by_cases h2:rec'=rec
   ·subst h2
    rw[if_pos ⟨rfl,rfl,hr⟩,Option.map_some]
    exact List.getElem?_set_self (List.getElem?_eq_some_iff.1 hv).1
   ·rw[if_neg (fun h=>h2 h.2.1),iJ,hl,Option.bind_some,if_neg h1]
    exact List.getElem?_set_ne (by omega)
  ·rw[if_neg (fun h=>hn h.1),iJ,DC hn,iJ]
theorem P5 (X:List Nf) (n rec n' rec':Int) (v w:Rc) (h:¬ (n=n'∧rec=rec')):jk (jk X n rec v) n' rec' w=jk (jk X n' rec' w) n rec v:=by
 cases hg:iJ X n rec with
 |none=>
  rw[pI hg,pI (X:=jk X n' rec' w)]
  rw[vg]
  split
  ·rename_i h';exact absurd ⟨h'.1,h'.2.1⟩ h
  ·exact hg
 |some v0=>
  cases hg':iJ X n' rec' with
  |none=>
   rw[pI hg',pI (X:=jk X n rec v)]
   rw[vg]
   split
   ·rename_i h';exact absurd ⟨h'.1.symm,h'.2.1.symm⟩ h
   ·exact hg'
  |some w0=>
   by_cases r0:rec=0
   ·subst r0;simp only[pG]
   by_cases r0':rec'=0
   ·subst r0';simp only[pG]
   obtain⟨f,hl,h0,hv⟩:=rU hg
   obtain⟨f',hl',h0',hv'⟩:=rU hg'
   rw[jY hl h0 hv r0,jY hl' h0' hv' r0']
   by_cases hn:n=n'
   ·subst hn
    obtain rfl:f=f':=Option.some.inj (hl.symm.trans hl')
    have hne:rec.toNat≠rec'.toNat:=fun e=>h ⟨rfl,by omega⟩
    rw[jY (sW hl) h0' (w:=w0) (by rw[List.getElem?_set_ne hne];exact hv') r0',jY (sW hl) h0 (w:=v0) (by rw[List.getElem?_set_ne (Ne.symm hne)];exact hv) r0,Ti,Ti,List.set_comm _ _ hne]
   ·rw[jY ((DC (Ne.symm hn)).trans hl') h0' hv' r0',jY ((DC hn).trans hl) h0 hv r0,WH (Ne.symm hn)]
theorem P6 (X:List Nf) (n rec:Int) (v w:Rc):jk (jk X n rec v) n rec w=jk X n rec w:=by
 cases hg:iJ X n rec with
 |none=>rw[pI hg]
 |some v0=>
  by_cases r0:rec=0
  ·subst r0;simp only[pG]
  obtain⟨f,hl,h0,hv⟩:=rU hg
  rw[jY hl h0 hv r0,jY (sW hl) h0 (w:=v) (List.getElem?_set_self (List.getElem?_eq_some_iff.1 hv).1) r0,jY hl h0 hv r0,Ti,List.set_set]
def FC (v:Rc) (i:Int):Int:=if i=0 then v.1 else if i=1 then v.2.1 else if i=2 then v.2.2.1 else v.2.2.2
def cls (i:Int):Int:=if i=0 then 0 else if i=1 then 1 else if i=2 then 2 else 3
theorem JE (v:Rc) (i j b:Int):FC (Tf v i b) j=if cls j=cls i then b else FC v j:=by
 unfold FC Tf cls
 by_cases h0:i=0<;>by_cases h1:i=1<;>by_cases h2:i=2<;>by_cases g0:j=0<;>by_cases g1:j=1<;>by_cases g2:j=2<;>simp_all
theorem WI {v w:Rc} (h:∀ j,0≤j→j<4→FC v j=FC w j):v=w:=by
 obtain⟨a,b,c,d⟩:=v
 obtain⟨a',b',c',d'⟩:=w
 have h0:=h 0 (by decide) (by decide)
 have h1:=h 1 (by decide) (by decide)
 have h2:=h 2 (by decide) (by decide)
 have h3:=h 3 (by decide) (by decide)
 simp[FC]at h0 h1 h2 h3
 simp[h0,h1,h2,h3]
theorem JF (hd:Hd) (j:Int):∀ (l:List En),(∃ b,∀ v,FC (l.foldl (lH hd) v) j=b)∨∀ v,FC (l.foldl (lH hd) v) j=FC v j
 | []=>.inr fun _=>rfl
 |y::l=>by
  rcases JF hd j l with ⟨b,h⟩ | h
  ·exact .inl ⟨b,fun v=>h _⟩
  ·by_cases e:cls j=cls y.2.2.2.2
   ·exact .inl ⟨(hd y.2.1).getD 0,fun v=>by rw[List.foldl_cons,h,lH,JE,if_pos e]⟩
   ·exact .inr fun v=>by rw[List.foldl_cons,h,lH,JE,if_neg e]
theorem P7 (hd:Hd) (l:List En) (v:Rc):l.foldl (lH hd) (l.foldl (lH hd) v)=l.foldl (lH hd) v:=by
 refine WI fun j _ _=>?_
 rcases JF hd j l with ⟨b,h⟩ | h
 ·rw[h,h]
 ·rw[h]
theorem L9 (T:List En) (hd:Hd) (X:List Nf) (a b:Pl):gu T hd (gu T hd X a) b=gu T hd (gu T hd X b) a:=by
 by_cases e:a=b
 ·rw[e]
 have hne:¬ (a.1=b.1∧a.2=b.2):=fun h=>e (Prod.ext h.1 h.2)
 have hne':¬ (b.1=a.1∧b.2=a.2):=fun h=>hne ⟨h.1.symm,h.2.symm⟩
 have gw:∀ v,iJ (jk X a.1 a.2 v) b.1 b.2=iJ X b.1 b.2:=fun v=>by rw[vg,if_neg fun h=>hne' ⟨h.1,h.2.1⟩]
 have gw':∀ v,iJ (jk X b.1 b.2 v) a.1 a.2=iJ X a.1 a.2:=fun v=>by rw[vg,if_neg fun h=>hne ⟨h.1,h.2.1⟩]
 cases ha:iJ X a.1 a.2 with
 |none=>
  have h1:∀ Y,iJ Y a.1 a.2=none→gu T hd Y a=Y:=fun Y h=>by rw[gu,h]
  rw[h1 X ha]
  cases hb:iJ X b.1 b.2 with
  |none=>
   have h2:gu T hd X b=X:=by rw[gu,hb]
   rw[h2,h1 X ha]
  |some w=>
   rw[h1]
   have h2:gu T hd X b=if BG hd (got T b)=true then jk X b.1 b.2 ((got T b).foldl (lH hd) w) else X:=by rw[gu,hb]
   rw[h2]
   split
   ·rw[gw',ha]
   ·exact ha
 |some v=>
  have h1:∀ Y,iJ Y a.1 a.2=some v→gu T hd Y a=if BG hd (got T a)=true then jk Y a.1 a.2 ((got T a).foldl (lH hd) v) else Y:=fun Y h=>by rw[gu,h]
  cases hb:iJ X b.1 b.2 with
  |none=>
   have h2:∀ Y,iJ Y b.1 b.2=none→gu T hd Y b=Y:=fun Y h=>by rw[gu,h]
   rw[h2 X hb,h1 X ha,h2]
   split
   ·rw[gw,hb]
   ·exact hb
  |some w=>
   have h2:∀ Y,iJ Y b.1 b.2=some w→gu T hd Y b=if BG hd (got T b)=true then jk Y b.1 b.2 ((got T b).foldl (lH hd) w) else Y:=fun Y h=>by rw[gu,h]
   rw[h1 X ha,h2 X hb]
   by_cases oa:BG hd (got T a)=true<;>by_cases ob:BG hd (got T b)=true
   ·rw[if_pos oa,if_pos ob,h2 _ (by rw[gw,hb]),h1 _ (by rw[gw',ha]),if_pos oa,if_pos ob,P5 _ _ _ _ _ _ _ hne]
   ·rw[if_pos oa,if_neg ob,h2 _ (by rw[gw,hb]),h1 _ ha,if_pos oa,if_neg ob]
   ·rw[if_neg oa,if_pos ob,h2 _ hb,h1 _ (by rw[gw',ha]),if_neg oa,if_pos ob]
   ·rw[if_neg oa,if_neg ob,h2 _ hb,h1 _ ha,if_neg oa,if_neg ob]
theorem Mc (T:List En) (hd:Hd) (X:List Nf) (a:Pl):gu T hd (gu T hd X a) a=gu T hd X a:=by
 cases ha:iJ X a.1 a.2 with
 |none=>
  have h1:gu T hd X a=X:=by rw[gu,ha]
  rw[h1,h1]
 |some v=>
  have h1:∀ Y w,iJ Y a.1 a.2=some w→gu T hd Y a=if BG hd (got T a)=true then jk Y a.1 a.2 ((got T a).foldl (lH hd) w) else Y:=fun Y w h=>by rw[gu,h]
  rw[h1 X v ha]
  split
  ·rename_i o
   by_cases r0:a.2=0
   ·simp only[r0,pG]
    rw[h1 X v ha,if_pos o]
    simp only[r0,pG]
   ·rw[h1 _ ((got T a).foldl (lH hd) v) (by rw[vg,if_pos ⟨rfl,rfl,r0⟩,ha];rfl),if_pos o,P6,P7]
  ·rename_i o
   rw[h1 X v ha,if_neg o]
theorem Tj (T:List En) (hd:Hd) (X:List Nf) (K:List Pl) (h1:∀ p∈K,p∈recvs T) (h2:∀ p∈recvs T,p∈K):K.foldl (gu T hd) X=app1 T hd X:=
 PZ (L9 T hd) (Mc T hd) h1 h2
end Go.Proofs.YtbhamhhjicehaaaGreatDoor.jh
/- check: Sender. -/
namespace Go.Proofs.YtbhamhhjicehaaaGreatDoor.pF
open Go Go.AX Go.Proofs Ty
set_option maxHeartbeats 4000000
def kR (slot:Int):Nat→List Tb→Option (Nat×En)
 |_,[]=>none
 |n,t::T=>match t.2.2.find? (snd slot) with
  |some x=>some (n,x)
  |none=>kR slot (n+1) T
theorem DF {slot:Int}:∀ {T:List Tb} {i m:Nat} {t:Tb} {x:En},T[i]?=some t→(∀ j,j<i→∀ t,T[j]?=some t→t.2.2.find? (snd slot)=none)→t.2.2.find? (snd slot)=some x→kR slot m T=some (m+i,x)
 | [],_,_,_,_,h,_,_=>by simp at h
 |t0::T,0,m,t,x,h,_,hx=>by
  simp at h;subst h
  rw[kR,hx];rfl
 |t0::T,i+1,m,t,x,h,hp,hx=>by
  have h0:=hp 0 (by omega) t0 rfl
  rw[kR,h0]
  simp only[List.getElem?_cons_succ]at h
  show kR slot (m+1) T=_
  rw[DF h (fun j hj t ht=>hp (j+1) (by omega) t ht) hx,show m+1+i=m+(i+1) from by omega]
theorem zN {slot:Int}:∀ {T:List Tb} {m:Nat},(∀ t∈T,t.2.2.find? (snd slot)=none)→kR slot m T=none
 | [],_,_=>rfl
 |t0::T,m,h=>by
  rw[kR,h t0 (List.mem_cons_self ..)]
  exact zN fun t ht=>h t (List.mem_cons_of_mem _ ht)
theorem FD {g:En→Bool} {L:List En} (h:∀ x∈L,g x=false):L.find? g=none:=List.find?_eq_none.2 fun x hx=>by rw[h x hx];simp
theorem zO {g:En→Bool}:∀ {L:List En} {i:Nat} {x:En},L[i]?=some x→g x=true→(∀ j,j<i→∀ y,L[j]?=some y→g y=false)→L.find? g=some x
 | [],_,_,h,_,_=>by simp at h
 |y::L,0,x,h,hg,_=>by simp at h;subst h;simp[hg]
 |y::L,i+1,x,h,hg,hp=>by
  have h0:=hp 0 (by omega) y rfl
  simp only[List.getElem?_cons_succ]at h
  rw[List.find?_cons,h0]
  exact zO h hg fun j hj z hz=>hp (j+1) (by omega) z hz
theorem WJ (slot:Int) (H:AH):aO Tryz.prog 111 #[.int .i64 slot] H (fun v H'=>∃ b,aG H b∧v=.func (.func 135) #[] [.pointer (some ⟨b,0,none⟩)].toArray∧H'=H.add b (.cells [.int .i64 slot] 3 1)):=by
 refine aO.cu Tryz.func111 rfl Tryz.ntmps111 Tryz.results111 (by simp) ?_;simp -dsimp(maxSteps:=4000000) only[go_sem]
 refine bY.mk fun b1 iy=>?_;have aP:=iy;(try simp only[ah,aj,ne_eq]at aP);have aY:=aP;(try simp only[@eq_comm Nat b1]at aY);simp -dsimp(maxSteps:=4000000) only[aP,aY,go_sem]
 exact⟨_,AH.le_refl _,b1,iy,rfl,rfl⟩
def sN (slot:Int) (T:List Tb):Int:=match kR slot 0 T with | some x=>x.1 | none=>-1
def sX (slot:Int) (T:List Tb):En:=match kR slot 0 T with | some x=>x.2 | none=>ze
theorem vk (T:List Tb) (base:Option Addr) (cap:Nat) (slot:Int) (H:AH) (hT:ig H base cap T) :
  aO Tryz.prog 66 #[.slice base T.length cap,.int .i64 slot] H (fun v H'=>v=.tuple #[.int .i64 (sN slot T),.agg (gG (sX slot T)).toArray]∧H=H'):=by
 have hbig:=hT.out.big
 simp only[List.length_map]at hbig
 refine aO.cu Tryz.func66 rfl Tryz.ntmps66 Tryz.results66 (by simp) ?_;simp -dsimp(maxSteps:=4000000) only[aA,ay,aJ,aI,go_sem]
 refine bY.mk fun b5 iW=>?_;have bQ:=iW;(try simp only[ah,aj,ne_eq]at bQ);have dB:=bQ;(try simp only[@eq_comm Nat b5]at dB);simp -dsimp(maxSteps:=4000000) only[aA,ay,aJ,aI,bQ,dB,go_sem]
 have f5:aG H b5:=iW
 refine fZ.gQ (ι:=Nat) (fun i=>i≤T.length∧∀ j,j<i→∀ t,T[j]?=some t→t.2.2.find? (snd slot)=none) (fun i=>[(11,.int .i64 i),(10,.int .i64 T.length),(9,.slice base T.length cap),(0,.slice base T.length cap),(1,.int .i64 slot),(5,.pointer (some ⟨b5,0,none⟩))])
  (fun _=>H.add b5 (.cells [.int .i64 0,.int .i64 0,.int .i64 0,.int .i64 0,.int .i64 0] 78 5)) (fun i=>T.length - i) 0 ⟨by omega,fun j hj=>by omega⟩ (bZ.aS ?_) (AH.le_refl _) fun i hi Q again out=>?_
 ·simp -dsimp(maxSteps:=4000000) only[aA,ay,aJ,aI,bQ,dB,go_sem]
 ·obtain⟨hi,hall⟩:=hi
  by_cases h:(i:Int)<T.length
  ·obtain⟨⟨tb,tc,L⟩,ht⟩:=get_some (l:=T) (i:=i) (by omega)
   have hin:=hT.inn _ (List.mem_of_getElem? ht)
   obtain⟨b,o,rfl,_,hrd⟩:=hT.out.get (dn (f:=kW) ht)
   have hrd:=hrd 0 _ rfl
   simp only[Nat.mul_one,Nat.add_zero]at hrd
   have ee:=dA (i:=i) (by omega)
   have jP:=(aG.jq (by simp only[bQ]:aG H b5) hrd)
   simp -dsimp(maxSteps:=4000000) only[h,hrd,jP,aA,ay,aJ,aI,bQ,dB,go_sem]
   refine(WJ slot _).mono ?_;rintro _ _ ⟨bs,acY,rfl,rfl⟩
   have tN:=acY;(try simp only[ah,aj,ne_eq]at tN);have yL:=tN;(try simp only[@eq_comm Nat bs]at yL)
   simp -dsimp(maxSteps:=4000000) only[aA,ay,aJ,aI,bQ,dB,tN,yL,go_sem]
   refine(wz (g:=snd slot) (fid:=135) (L:=L) ((hin.add f5).add acY) rfl (by kernel_rfl) fun x hx=>Td x slot bs _ (by rw[gZ];rfl)).mono ?_;rintro _ _ ⟨r,rfl,hr,rfl⟩
   rcases hr with ⟨rfl,hno⟩ | ⟨q,x,hq,hg,rfl,hpre⟩
   ·have hf:=FD hno
    simp -dsimp(maxSteps:=4000000) only[ee,aA,ay,aJ,aI,bQ,dB,tN,yL,go_sem]
    refine again (i+1) _ _ ⟨by omega,fun j hj t' ht'=>?_⟩ (bZ.aS (by simp -dsimp(maxSteps:=4000000) only[aA,ay,aJ,aI,bQ,dB,tN,yL,go_sem])) (by refine AH.eU ?_ ?_;(show AH.find _ _=_;simp only[aH,aN,aV,ah,aj,ne_eq,not_false_eq_true,true_and,and_true,and_self,aA,ay,aJ,aI,bQ,dB,tN,yL]);(repeat (first | exact AH.le_refl _ | refine AH.aK ?_ ?_));all_goals (first | exact AH.le_refl _ | (show AH.find _ _=_;simp only[aH,aN,aV,ah,aj,ne_eq,not_false_eq_true,true_and,and_true,and_self,aA,ay,aJ,aI,bQ,dB,tN,yL]))) (by omega)
    by_cases hji:j=i
    ·subst hji;rw[ht]at ht';cases ht';exact hf
    ·exact hall j (by omega) t' ht'
   ·have hf:=zO hq hg hpre
    have hs0:=DF (m:=0) ht hall hf
    rw[Nat.zero_add]at hs0
    obtain⟨b',o',rfl,hrow,_⟩:=hin.get (dn (f:=gG) hq)
    have q0:(0:Int)≤(q:Int):=by omega
    have q1:(q:Int)<L.length:=by have:=dG hq;omega
    have qP:=(And.intro (aG.iP (by simp only[bQ]:aG H b5) hrow) (aG.iP (by simp only[tN]:aG H bs) hrow))
    simp -dsimp(maxSteps:=4000000) only[q0,aA,ay,aJ,aI,bQ,dB,tN,yL,go_sem]
    refine fZ.gen [.pu,.pu,.pu,.pu,.rd,.pu,.ch] [0,0,0,6,14,1,63] 0 (_) mixed (by kernel_rfl) (AH.le_refl _) ?_
    simp -dsimp(maxSteps:=4000000) only[q1,hrow,qP,AH.le_refl,aA,ay,aJ,aI,bQ,dB,tN,yL,go_sem]
    refine out _ _ _ (by simp) ?_
    simp -dsimp(maxSteps:=4000000) only[aA,ay,aJ,aI,bQ,dB,tN,yL,go_sem]
    exact⟨H,(AH.aK (AH.aK (AH.le_refl _) ((by simp only[aA,ay,aJ,aI,ah,aj,ne_eq,bQ,not_false_eq_true,and_self]:aG _ b5).2)) ((by simp only[aA,ay,aJ,aI,ah,aj,ne_eq,tN,not_false_eq_true,and_self]:aG _ bs).2)),(by first | exact⟨by simp[sN,sX,hs0],rfl⟩ | rfl)⟩
  ·simp -dsimp(maxSteps:=4000000) only[h,aA,ay,aJ,aI,bQ,dB,go_sem]
   refine out _ _ _ (by simp) ?_
   have hz:=zN (slot:=slot) (T:=T) (m:=0) fun t ht=>by
    obtain⟨j,hj⟩:=List.mem_iff_getElem?.1 ht
    exact hall j (by have:=dG hj;omega) t hj
   simp -dsimp(maxSteps:=4000000) only[aA,ay,aJ,aI,bQ,dB,go_sem]
   exact⟨H,(AH.aK (AH.le_refl _) ((by simp only[aA,ay,aJ,aI,ah,aj,ne_eq,bQ,not_false_eq_true,and_self]:aG _ b5).2)),(by first | exact⟨by simp[sN,sX,hz,gG,ze],rfl⟩ | rfl)⟩
end Go.Proofs.YtbhamhhjicehaaaGreatDoor.pF
/- check's reference: Sender. -/
namespace Go.Proofs.YtbhamhhjicehaaaGreatDoor.pF
open Go Go.AX Go.Proofs Ty
set_option maxHeartbeats 4000000
theorem nZ (T:List Tb) (base:Option Addr) (cap:Nat) (slot:Int) (H:AH) (hT:ig H base cap T) :
  aO Tryz.prog 118 #[.slice base T.length cap,.int .i64 slot] H (fun v H'=>v=.tuple #[.int .i64 (sN slot T),.agg (gG (sX slot T)).toArray]∧H=H'):=by
 have hbig:=hT.out.big
 simp only[List.length_map]at hbig
 refine aO.cu Tryz.func118 rfl Tryz.ntmps118 Tryz.results118 (by simp) ?_;simp -dsimp(maxSteps:=4000000) only[aA,ay,aJ,aI,go_sem]
 refine bY.mk fun b5 iW=>?_;have bQ:=iW;(try simp only[ah,aj,ne_eq]at bQ);have dB:=bQ;(try simp only[@eq_comm Nat b5]at dB);simp -dsimp(maxSteps:=4000000) only[aA,ay,aJ,aI,bQ,dB,go_sem]
 have f5:aG H b5:=iW
 refine fZ.gQ (ι:=Nat) (fun i=>i≤T.length∧∀ j,j<i→∀ t,T[j]?=some t→t.2.2.find? (snd slot)=none) (fun i=>[(6,.int .i64 i),(0,.slice base T.length cap),(1,.int .i64 slot),(5,.pointer (some ⟨b5,0,none⟩))])
  (fun _=>H.add b5 (.cells [.int .i64 0,.int .i64 0,.int .i64 0,.int .i64 0,.int .i64 0] 78 5)) (fun i=>T.length - i) 0 ⟨by omega,fun j hj=>by omega⟩ (bZ.aS ?_) (AH.le_refl _) fun i hi Q again out=>?_
 ·simp -dsimp(maxSteps:=4000000) only[aA,ay,aJ,aI,bQ,dB,go_sem]
 ·obtain⟨hi,hall⟩:=hi
  by_cases h:(i:Int)<T.length
  ·obtain⟨⟨tb,tc,L⟩,ht⟩:=get_some (l:=T) (i:=i) (by omega)
   have hin:=hT.inn _ (List.mem_of_getElem? ht)
   have DI:=hin.big
   simp only[List.length_map]at DI
   obtain⟨b,o,rfl,_,hrd⟩:=hT.out.get (dn (f:=kW) ht)
   have hrd:=hrd 0 _ rfl
   simp only[Nat.mul_one,Nat.add_zero]at hrd
   have ee:=dA (i:=i) (by omega)
   have jP:=(aG.jq (by simp only[bQ]:aG H b5) hrd)
   simp -dsimp(maxSteps:=4000000) only[h,aA,ay,aJ,aI,bQ,dB,go_sem]
   refine fZ.gQ (ι:=Nat) (fun j=>j≤L.length∧∀ q,q<j→∀ y,L[q]?=some y→snd slot y=false) (fun j=>[(7,.int .i64 j),(6,.int .i64 i),(0,.slice (some ⟨b,o,none⟩) T.length cap),(1,.int .i64 slot),(5,.pointer (some ⟨b5,0,none⟩))])
    (fun _=>H.add b5 (.cells [.int .i64 0,.int .i64 0,.int .i64 0,.int .i64 0,.int .i64 0] 78 5)) (fun j=>L.length - j) 0 ⟨by omega,fun j hj=>by omega⟩ (bZ.aS ?_) (AH.le_refl _) fun j hj Q2 gI mG=>?_
   ·simp -dsimp(maxSteps:=4000000) only[aA,ay,aJ,aI,bQ,dB,go_sem]
   ·obtain⟨hj,hpre⟩:=hj
    by_cases hl:(j:Int)<L.length
    ·obtain⟨⟨k,s,f,r,y⟩,hx⟩:=get_some (l:=L) (i:=j) (by omega)
     obtain⟨b',o',rfl,hrow,oU⟩:=hin.get (dn (f:=gG) hx)
     have r0:=oU 0 _ rfl
     have r1:=oU 1 _ rfl
     simp only[dF,Nat.add_zero]at r0 r1
     have e2:=dA (i:=j) (by omega)
     have qP:=(aG.iP (by simp only[bQ]:aG H b5) hrow)
     by_cases c1:k=1
     ·by_cases c2:s=slot
      ·have hg:snd slot (k,s,f,r,y)=true:=by simp[snd,c1,c2]
       have hs0:=DF (m:=0) ht hall (zO hx hg hpre)
       rw[Nat.zero_add]at hs0
       simp -dsimp(maxSteps:=4000000) only[hl,h,hrd,jP,r0,r1,qP,c1,c2,aA,ay,aJ,aI,bQ,dB,go_sem]
       refine fZ.gen [.pu,.pu,.pu,.pu,.rd,.pu,.pu,.rd,.pu,.ch] [0,0,0,6,14,0,62,126,1,511] 0 (_) mixed (by kernel_rfl) (AH.le_refl _) ?_
       simp -dsimp(maxSteps:=4000000) only[hl,h,hrd,jP,qP,hrow,AH.le_refl,aA,ay,aJ,aI,bQ,dB,go_sem]
       refine mG _ _ _ (by simp) ?_
       simp -dsimp(maxSteps:=4000000) only[aA,ay,aJ,aI,bQ,dB,go_sem]
       refine out _ _ _ (by simp) ?_
       simp -dsimp(maxSteps:=4000000) only[aA,ay,aJ,aI,bQ,dB,go_sem]
       exact⟨H,(AH.aK (AH.le_refl _) ((by simp only[aA,ay,aJ,aI,ah,aj,ne_eq,bQ,not_false_eq_true,and_self]:aG _ b5).2)),(by first | exact⟨by simp[sN,sX,hs0],rfl⟩ | rfl)⟩
      ·have hg:snd slot (k,s,f,r,y)=false:=by simp[snd,c2]
       simp -dsimp(maxSteps:=4000000) only[hl,h,hrd,jP,r0,r1,qP,c1,c2,e2,aA,ay,aJ,aI,bQ,dB,go_sem]
       refine gI (j+1) _ _ ⟨by omega,fun q hq z hz=>?_⟩ (bZ.aS (by simp -dsimp(maxSteps:=4000000) only[aA,ay,aJ,aI,bQ,dB,go_sem])) (AH.le_refl _) (by omega)
       by_cases e:q=j
       ·subst e;rw[hx]at hz;cases hz;exact hg
       ·exact hpre q (by omega) z hz
     ·have hg:snd slot (k,s,f,r,y)=false:=by simp[snd,c1]
      simp -dsimp(maxSteps:=4000000) only[hl,h,hrd,jP,r0,qP,c1,e2,aA,ay,aJ,aI,bQ,dB,go_sem]
      refine gI (j+1) _ _ ⟨by omega,fun q hq z hz=>?_⟩ (bZ.aS (by simp -dsimp(maxSteps:=4000000) only[aA,ay,aJ,aI,bQ,dB,go_sem])) (AH.le_refl _) (by omega)
      by_cases e:q=j
      ·subst e;rw[hx]at hz;cases hz;exact hg
      ·exact hpre q (by omega) z hz
    ·simp -dsimp(maxSteps:=4000000) only[hl,h,hrd,jP,aA,ay,aJ,aI,bQ,dB,go_sem]
     refine mG _ _ _ (by simp) ?_
     simp -dsimp(maxSteps:=4000000) only[ee,aA,ay,aJ,aI,bQ,dB,go_sem]
     refine again (i+1) _ _ ⟨by omega,fun q hq t' ht'=>?_⟩ (bZ.aS (by simp -dsimp(maxSteps:=4000000) only[aA,ay,aJ,aI,bQ,dB,go_sem])) (AH.le_refl _) (by omega)
     by_cases hji:q=i
     ·subst hji;rw[ht]at ht';cases ht'
      exact FD fun z hz=>by
       obtain⟨q',hq'⟩:=List.mem_iff_getElem?.1 hz
       have h9:q'<L.length:=dG hq'
       exact hpre q' (by omega) z hq'
     ·exact hall q (by omega) t' ht'
  ·simp -dsimp(maxSteps:=4000000) only[h,aA,ay,aJ,aI,bQ,dB,go_sem]
   refine out _ _ _ (by simp) ?_
   have hz:=zN (slot:=slot) (T:=T) (m:=0) fun t ht=>by
    obtain⟨j,hj⟩:=List.mem_iff_getElem?.1 ht
    exact hall j (by have:=dG hj;omega) t hj
   simp -dsimp(maxSteps:=4000000) only[aA,ay,aJ,aI,bQ,dB,go_sem]
   exact⟨H,(AH.aK (AH.le_refl _) ((by simp only[aA,ay,aJ,aI,ah,aj,ne_eq,bQ,not_false_eq_true,and_self]:aG _ b5).2)),(by first | exact⟨by simp[sN,sX,hz,gG,ze],rfl⟩ | rfl)⟩
end Go.Proofs.YtbhamhhjicehaaaGreatDoor.pF
/- check: fits. -/
namespace Go.Proofs.YtbhamhhjicehaaaGreatDoor.pF
open Go Go.AX Go.Proofs Ty
set_option maxHeartbeats 4000000
theorem sZ {g:En→Bool} {fid:Nat} {caps:List Value} {L:List En} {n:Nat} {base:Option Addr} {cap:Nat} {H:AH} (hs:bG H 5 base cap (L.map gG)) (hn:n=L.length) (hok:fA Tryz.prog fid=true)
  (hf:∀ x∈L,aO Tryz.prog fid ([]++[Value.agg (gG x).toArray]++caps).toArray H (fun v H'=>v=.bool (g x)∧H=H')) :
  aO Tryz.prog 126 #[.slice base n cap,.func (.func fid) #[] caps.toArray] H (fun v H'=>v=.bool (L.any g)∧H=H'):=by
 refine aO.cu Tryz.func126 rfl Tryz.ntmps126 Tryz.results126 (by simp) ?_;simp -dsimp(maxSteps:=4000000) only[go_sem]
 refine(wz hs hn hok hf).mono ?_;rintro _ _ ⟨r,rfl,hr,rfl⟩
 rcases hr with ⟨rfl,hno⟩ | ⟨q,x,hq,hg,rfl,hpre⟩
 ·have e:L.any g=false:=by rw[List.any_eq_false];intro x hx;rw[hno x hx];simp
  simp -dsimp(maxSteps:=4000000) only[go_sem]
  exact⟨H,(AH.le_refl _),(by first | exact⟨by rw[e],rfl⟩ | rfl)⟩
 ·have e:L.any g=true:=List.any_eq_true.2 ⟨x,List.mem_of_getElem? hq,hg⟩
  have q0:(0:Int)≤(q:Int):=by omega
  simp -dsimp(maxSteps:=4000000) only[go_sem]
  exact⟨H,(AH.le_refl _),(by first | exact⟨by rw[e],rfl⟩ | rfl)⟩
theorem ig.add {H:AH} {base:Option Addr} {cap b:Nat} {T:List Tb} {k:iD} (h:ig H base cap T) (hf:aG H b):ig (H.add b k) base cap T:=⟨h.out.add hf,fun x hx=>(h.inn x hx).add hf⟩
theorem ig.keep {H A:AH} {base:Option Addr} {cap:Nat} {T:List Tb} (h:ig H base cap T) (hk:Keep H A fun _=>False):ig A base cap T:=⟨h.out.keep hk fun _ _ h=>h,fun x hx=>(h.inn x hx).keep hk fun _ _ h=>h⟩
def clash (T:List Tb) (n:Nat) (x:En):Bool:=decide (x.1=1)&&decide (sN x.2.1 T<n)
def gap (T:List Tb) (x:En):Bool:=decide (x.1=2)&&decide (sN x.2.1 T<0)
theorem WL (x:En) (T:List Tb) (base:Option Addr) (cap n bl bn:Nat) (H:AH) (hT:ig H base cap T) (hl:H.rd ⟨bl,0,none⟩=some (.slice base T.length cap)) (hn:H.rd ⟨bn,0,none⟩=some (.int .i64 n)) :
  aO Tryz.prog 127 #[.agg (gG x).toArray,.pointer (some ⟨bl,0,none⟩),.pointer (some ⟨bn,0,none⟩)] H (fun v H'=>v=.bool (clash T n x)∧H=H'):=by
 obtain⟨k,s,f,r,b⟩:=x
 refine aO.cu Tryz.func127 rfl Tryz.ntmps127 Tryz.results127 (by simp) ?_;simp -dsimp(maxSteps:=4000000) only[dF,aA,ay,aJ,go_sem]
 refine bY.mk fun b3 lD=>?_;have eG:=lD;(try simp only[ah,aj,ne_eq]at eG);have fM:=eG;(try simp only[@eq_comm Nat b3]at fM);simp -dsimp(maxSteps:=4000000) only[dF,aA,ay,aJ,eG,fM,go_sem]
 have Tm:=(aG.jq (by simp only[eG]:aG H b3) hl)
 have Ym:=(aG.jq (by simp only[eG]:aG H b3) hn)
 simp -dsimp(maxSteps:=4000000) only[hl,Tm,dF,aA,ay,aJ,eG,fM,go_sem]
 refine(vk T base cap s _ (hT.add lD)).mono ?_;rintro _ _ ⟨rfl,rfl⟩
 simp -dsimp(maxSteps:=4000000) only[dF,aA,ay,aJ,eG,fM,go_sem]
 refine bY.mk fun b6 jL=>?_;have bV:=jL;(try simp only[ah,aj,ne_eq]at bV);have dI:=bV;(try simp only[@eq_comm Nat b6]at dI);simp -dsimp(maxSteps:=4000000) only[dF,aA,ay,aJ,eG,fM,bV,dI,go_sem]
 by_cases a:k=1
 ·subst a
  have Ym:=(And.intro (aG.jq (by simp only[eG]:aG H b3) hn) (aG.jq (by simp only[bV]:aG H b6) hn))
  simp -dsimp(maxSteps:=4000000) only[hn,Ym,dF,aA,ay,aJ,eG,fM,bV,dI,go_sem]
  exact⟨H,(AH.aK (AH.aK (AH.le_refl _) ((by simp only[dF,aA,ay,aJ,ah,aj,ne_eq,eG,not_false_eq_true,and_self]:aG _ b3).2)) ((by simp only[dF,aA,ay,aJ,ah,aj,ne_eq,bV,not_false_eq_true,and_self]:aG _ b6).2)),(by first | exact⟨congrArg Value.bool (by simp[clash]),rfl⟩ | rfl)⟩
 ·simp -dsimp(maxSteps:=4000000) only[a,dF,aA,ay,aJ,eG,fM,bV,dI,go_sem]
  exact⟨H,(AH.aK (AH.aK (AH.le_refl _) ((by simp only[dF,aA,ay,aJ,ah,aj,ne_eq,eG,not_false_eq_true,and_self]:aG _ b3).2)) ((by simp only[dF,aA,ay,aJ,ah,aj,ne_eq,bV,not_false_eq_true,and_self]:aG _ b6).2)),(by first | exact⟨by simp[clash,a],rfl⟩ | rfl)⟩
theorem WM (x:En) (T:List Tb) (base:Option Addr) (cap bl:Nat) (H:AH) (hT:ig H base cap T) (hl:H.rd ⟨bl,0,none⟩=some (.slice base T.length cap)) :
  aO Tryz.prog 128 #[.agg (gG x).toArray,.pointer (some ⟨bl,0,none⟩)] H (fun v H'=>v=.bool (gap T x)∧H=H'):=by
 obtain⟨k,s,f,r,b⟩:=x
 refine aO.cu Tryz.func128 rfl Tryz.ntmps128 Tryz.results128 (by simp) ?_;simp -dsimp(maxSteps:=4000000) only[dF,aA,ay,aJ,go_sem]
 refine bY.mk fun b3 lD=>?_;have eG:=lD;(try simp only[ah,aj,ne_eq]at eG);have fM:=eG;(try simp only[@eq_comm Nat b3]at fM);simp -dsimp(maxSteps:=4000000) only[dF,aA,ay,aJ,eG,fM,go_sem]
 have Tm:=(aG.jq (by simp only[eG]:aG H b3) hl)
 simp -dsimp(maxSteps:=4000000) only[hl,Tm,dF,aA,ay,aJ,eG,fM,go_sem]
 refine(vk T base cap s _ (hT.add lD)).mono ?_;rintro _ _ ⟨rfl,rfl⟩
 simp -dsimp(maxSteps:=4000000) only[dF,aA,ay,aJ,eG,fM,go_sem]
 refine bY.mk fun b6 jL=>?_;have bV:=jL;(try simp only[ah,aj,ne_eq]at bV);have dI:=bV;(try simp only[@eq_comm Nat b6]at dI);simp -dsimp(maxSteps:=4000000) only[dF,aA,ay,aJ,eG,fM,bV,dI,go_sem]
 by_cases a:k=2
 ·subst a
  simp -dsimp(maxSteps:=4000000) only[dF,aA,ay,aJ,eG,fM,bV,dI,go_sem]
  exact⟨H,(AH.aK (AH.aK (AH.le_refl _) ((by simp only[dF,aA,ay,aJ,ah,aj,ne_eq,eG,not_false_eq_true,and_self]:aG _ b3).2)) ((by simp only[dF,aA,ay,aJ,ah,aj,ne_eq,bV,not_false_eq_true,and_self]:aG _ b6).2)),(by first | exact⟨congrArg Value.bool (by simp[gap]),rfl⟩ | rfl)⟩
 ·simp -dsimp(maxSteps:=4000000) only[a,dF,aA,ay,aJ,eG,fM,bV,dI,go_sem]
  exact⟨H,(AH.aK (AH.aK (AH.le_refl _) ((by simp only[dF,aA,ay,aJ,ah,aj,ne_eq,eG,not_false_eq_true,and_self]:aG _ b3).2)) ((by simp only[dF,aA,ay,aJ,ah,aj,ne_eq,bV,not_false_eq_true,and_self]:aG _ b6).2)),(by first | exact⟨by simp[gap,a],rfl⟩ | rfl)⟩
def rowT (T:List Tb) (n:Nat):List En:=match T[n]? with | some t=>t.2.2 | none=>[]
def qj (T:List Tb) (n:Nat) (s:Int):Bool:=if s=2 then oH (rowT T n) else if s=8 then !(rowT T n).any (clash T n) else !(rowT T n).any (gap T)
theorem ZA (T:List Tb) (base:Option Addr) (cap n:Nat) (s:Int) (H:AH) (hT:ig H base cap T) (hn:n<T.length) :
  aO Tryz.prog 96 #[.slice base T.length cap,.int .i64 n,.int .i64 s] H (fun v H'=>v=.bool (qj T n s)∧H=H'):=by
 obtain⟨⟨tb,tc,L⟩,ht⟩:=get_some hn
 have hin:=hT.inn _ (List.mem_of_getElem? ht)
 obtain⟨b,o,rfl,_,hrd⟩:=hT.out.get (dn (f:=kW) ht)
 have hrd:=hrd 0 _ rfl
 simp only[Nat.mul_one,Nat.add_zero]at hrd
 have er:rowT T n=L:=by simp[rowT,ht]
 have hlt:(n:Int)<T.length:=by omega
 refine aO.cu Tryz.func96 rfl Tryz.ntmps96 Tryz.results96 (by simp) ?_;simp -dsimp(maxSteps:=4000000) only[go_sem]
 refine bY.mk fun b3 lD=>?_;have eG:=lD;(try simp only[ah,aj,ne_eq]at eG);have fM:=eG;(try simp only[@eq_comm Nat b3]at fM);simp -dsimp(maxSteps:=4000000) only[eG,fM,go_sem]
 refine bY.mk fun b4 jr=>?_;have aT:=jr;(try simp only[ah,aj,ne_eq]at aT);have aX:=aT;(try simp only[@eq_comm Nat b4]at aX);simp -dsimp(maxSteps:=4000000) only[eG,fM,aT,aX,go_sem]
 have jP:=(And.intro (aG.jq (by simp only[eG]:aG H b3) hrd) (aG.jq (by simp only[aT]:aG H b4) hrd))
 by_cases c2:s=2
 ·subst c2
  simp -dsimp(maxSteps:=4000000) only[hrd,jP,hlt,eG,fM,aT,aX,go_sem]
  refine(Zz ((hin.add lD).add jr) rfl).mono ?_;rintro _ A ⟨bf,cf,rfl,hg⟩
  simp -dsimp(maxSteps:=4000000) only[eG,fM,aT,aX,go_sem]
  refine bY.mk fun b7 jM=>?_
  have hl:H.le A:=AH.le_trans (AH.aK (AH.aK (AH.le_refl _) lD.2) jr.2) hg.keep.all
  simp -dsimp(maxSteps:=4000000) only[eG,fM,aT,aX,go_sem]
  refine⟨H,AH.aK hl jM.2,?_,rfl⟩
  simp only[qj,er,fE,if_true]
  cases oH L<;>rfl
 ·by_cases c8:s=8
  ·subst c8
   simp -dsimp(maxSteps:=4000000) only[hrd,jP,hlt,eG,fM,aT,aX,go_sem]
   refine(sZ (g:=clash T n) (fid:=127) (caps:=[.pointer (some ⟨b3,0,none⟩),.pointer (some ⟨b4,0,none⟩)]) (L:=L) ((hin.add lD).add jr) rfl (by kernel_rfl) fun x hx=>WL x T (some ⟨b,o,none⟩) cap n b3 b4 _ ((hT.add lD).add jr) (by rw[rE _ aT.1,gZ];rfl) (by rw[gZ];rfl)).mono ?_;rintro _ _ ⟨rfl,rfl⟩
   simp -dsimp(maxSteps:=4000000) only[eG,fM,aT,aX,go_sem]
   exact⟨H,(AH.aK (AH.aK (AH.le_refl _) ((by simp only[ah,aj,ne_eq,eG,not_false_eq_true,and_self]:aG _ b3).2)) ((by simp only[ah,aj,ne_eq,aT,not_false_eq_true,and_self]:aG _ b4).2)),(by first | exact⟨by simp[qj,er],rfl⟩ | rfl)⟩
  ·simp -dsimp(maxSteps:=4000000) only[hrd,jP,hlt,c2,c8,eG,fM,aT,aX,go_sem]
   refine(sZ (g:=gap T) (fid:=128) (caps:=[.pointer (some ⟨b3,0,none⟩)]) (L:=L) ((hin.add lD).add jr) rfl (by kernel_rfl) fun x hx=>WM x T (some ⟨b,o,none⟩) cap b3 _ ((hT.add lD).add jr) (by rw[rE _ aT.1,gZ];rfl)).mono ?_;rintro _ _ ⟨rfl,rfl⟩
   simp -dsimp(maxSteps:=4000000) only[eG,fM,aT,aX,go_sem]
   exact⟨H,(AH.aK (AH.aK (AH.le_refl _) ((by simp only[ah,aj,ne_eq,eG,not_false_eq_true,and_self]:aG _ b3).2)) ((by simp only[ah,aj,ne_eq,aT,not_false_eq_true,and_self]:aG _ b4).2)),(by first | exact⟨by simp[qj,er,c2,c8],rfl⟩ | rfl)⟩
end Go.Proofs.YtbhamhhjicehaaaGreatDoor.pF
/- check: Tables of both sides. -/
namespace Go.Proofs.YtbhamhhjicehaaaGreatDoor.pF
open Go Go.AX Go.Proofs Ty
set_option maxHeartbeats 4000000
def bad (T:List Tb) (s:Int):Option Nat:=(List.range T.length).find? fun n=>!qj T n s
theorem yM {T:List Tb} {s:Int} {n:Nat} (hn:n<T.length) (h:qj T n s=false) (hp:∀ m,m<n→qj T m s=true):bad T s=some n:=by
 rw[bad,List.find?_range_eq_some]
 exact⟨by rw[h];rfl,List.mem_range.2 hn,fun j hj=>by rw[hp j hj];rfl⟩
theorem yN {T:List Tb} {s:Int} {n:Nat} (hn:T.length≤n) (h:∀ m,m<n→qj T m s=true):bad T s=none:=by
 rw[bad,List.find?_range_eq_none]
 intro i hi
 rw[h i (by omega)];rfl
def tabs (T:List Tb):Int×Int:=match bad T 2 with
 |some n=>(n,2)
 |none=>match bad T 8 with
  |some n=>(n,8)
  |none=>match bad T 9 with
   |some n=>(n,9)
   |none=>(-1,0)
def ss:List Int:=[2,8,9]
theorem BH {T:List Tb} {i n:Nat} {s:Int} (hi:ss[i]?=some s) (hp:∀ j,j<i→∀ s,ss[j]?=some s→bad T s=none) (h:bad T s=some n):tabs T=((n:Int),s):=by
 match i,hi with
 |0,hi=>cases hi;simp[tabs,h]
 |1,hi=>cases hi;simp[tabs,h,hp 0 (by omega) _ rfl]
 |2,hi=>cases hi;simp[tabs,h,hp 0 (by omega) _ rfl,hp 1 (by omega) _ rfl]
theorem WO {T:List Tb} (hp:∀ j,j<3→∀ s,ss[j]?=some s→bad T s=none):tabs T=(-1,0):=by
 simp[tabs,hp 0 (by omega) _ rfl,hp 1 (by omega) _ rfl,hp 2 (by omega) _ rfl]
theorem DJ (T:List Tb) (base:Option Addr) (cap:Nat) (H:AH) (hT:ig H base cap T) :
  aO Tryz.prog 51 #[.slice base T.length cap] H (fun v H'=>v=.tuple #[.int .i64 (tabs T).1,.int .i64 (tabs T).2]∧H=H'):=by
 have hbig:=hT.out.big
 simp only[List.length_map]at hbig
 refine aO.cu Tryz.func51 rfl Tryz.ntmps51 Tryz.results51 (by simp) ?_;simp -dsimp(maxSteps:=4000000) only[go_sem]
 refine bY.mk fun b7 jM=>?_;have bI:=jM;(try simp only[ah,aj,ne_eq]at bI);have bU:=bI;(try simp only[@eq_comm Nat b7]at bU);simp -dsimp(maxSteps:=4000000) only[bI,bU,go_sem]
 refine fZ.gQ (ι:=Nat) (fun i=>i≤3∧∀ j,j<i→∀ s,ss[j]?=some s→bad T s=none) (fun i=>[(9,.int .i64 i),(8,.int .i64 3),(7,.slice (some ⟨b7,0,none⟩) 3 3),(0,.slice base T.length cap)])
  (fun _=>H.add b7 (.cells [.int .i64 2,.int .i64 8,.int .i64 9] 32 3)) (fun i=>3 - i) 0 ⟨by omega,fun j hj=>by omega⟩ (bZ.aS ?_) (AH.le_refl _) fun i hi Q again out=>?_
 ·simp -dsimp(maxSteps:=4000000) only[bI,bU,go_sem]
 ·obtain⟨hi,hall⟩:=hi
  by_cases h:(i:Int)<3
  ·obtain⟨s,hs⟩:=get_some (l:=ss) (i:=i) (by simp[ss];omega)
   have hq:([.int .i64 2,.int .i64 8,.int .i64 9]:List Value)[i]?=some (.int .i64 s):=by
    have:(ss.map (Value.int .i64))[i]?=some (.int .i64 s):=by rw[List.getElem?_map,hs];rfl
    exact this
   have ee:=dA (i:=i) (by omega)
   simp -dsimp(maxSteps:=4000000) only[h,hq,bI,bU,go_sem]
   refine fZ.gQ (ι:=Nat) (fun n=>n≤T.length∧∀ m,m<n→qj T m s=true) (fun n=>[(15,.int .i64 n),(14,.int .i64 T.length),(5,.int .i64 s),(9,.int .i64 i),(8,.int .i64 3),(7,.slice (some ⟨b7,0,none⟩) 3 3),(0,.slice base T.length cap)])
    (fun _=>H.add b7 (.cells [.int .i64 2,.int .i64 8,.int .i64 9] 32 3)) (fun i=>T.length - i) 0 ⟨by omega,fun j hj=>by omega⟩ (bZ.aS ?_) (AH.le_refl _) fun n hn Q2 gI mG=>?_
   ·simp -dsimp(maxSteps:=4000000) only[bI,bU,go_sem]
   ·obtain⟨hn,hpre⟩:=hn
    by_cases h2:(n:Int)<T.length
    ·have e2:=dA (i:=n) (by omega)
     simp -dsimp(maxSteps:=4000000) only[h2,bI,bU,go_sem]
     refine(ZA T base cap n s _ (hT.add jM) (by omega)).mono ?_;rintro _ _ ⟨rfl,rfl⟩
     cases hf:qj T n s with
     |true=>
      simp -dsimp(maxSteps:=4000000) only[e2,bI,bU,go_sem]
      refine gI (n+1) _ _ ⟨by omega,fun m hm=>?_⟩ (bZ.aS (by simp -dsimp(maxSteps:=4000000) only[bI,bU,go_sem])) (AH.le_refl _) (by omega)
      by_cases e:m=n
      ·rw[e];exact hf
      ·exact hpre m (by omega)
     |false=>
      have ht:=BH hs hall (yM (by omega) hf hpre)
      simp -dsimp(maxSteps:=4000000) only[bI,bU,go_sem]
      refine mG _ _ _ (by simp) ?_
      simp -dsimp(maxSteps:=4000000) only[bI,bU,go_sem]
      refine out _ _ _ (by simp) ?_
      simp -dsimp(maxSteps:=4000000) only[bI,bU,go_sem]
      exact⟨H,(AH.aK (AH.le_refl _) ((by simp only[ah,aj,ne_eq,bI,not_false_eq_true,and_self]:aG _ b7).2)),(by first | exact⟨by rw[ht],rfl⟩ | rfl)⟩
    ·simp -dsimp(maxSteps:=4000000) only[h2,bI,bU,go_sem]
     refine mG _ _ _ (by simp) ?_
     simp -dsimp(maxSteps:=4000000) only[ee,bI,bU,go_sem]
     refine again (i+1) _ _ ⟨by omega,fun j hj s' hs'=>?_⟩ (bZ.aS (by simp -dsimp(maxSteps:=4000000) only[bI,bU,go_sem])) (AH.le_refl _) (by omega)
     by_cases e:j=i
     ·subst e;rw[hs]at hs';cases hs';exact yN (by omega) hpre
     ·exact hall j (by omega) s' hs'
  ·have ht:=WO (T:=T) fun j hj=>hall j (by omega)
   simp -dsimp(maxSteps:=4000000) only[h,bI,bU,go_sem]
   refine out _ _ _ (by simp) ?_
   simp -dsimp(maxSteps:=4000000) only[bI,bU,go_sem]
   exact⟨H,(AH.aK (AH.le_refl _) ((by simp only[ah,aj,ne_eq,bI,not_false_eq_true,and_self]:aG _ b7).2)),(by first | exact⟨by rw[ht],rfl⟩ | rfl)⟩
theorem N7 {slot:Int}:∀ {T:List Tb} {m k:Nat} {x:En},kR slot m T=some (k,x)→m≤k∧k<m+T.length
 | [],_,_,_,h=>by simp[kR]at h
 |t::T,m,k,x,h=>by
  rw[kR]at h
  split at h
  ·cases h;simp
  ·have:=N7 h
   simp only[List.length_cons];omega
theorem JG {slot:Int}:∀ {A B:List Tb} {m:Nat},kR slot m (A++B)=match kR slot m A with | some x=>some x | none=>kR slot (m+A.length) B
 | [],B,m=>by simp[kR]
 |t::A,B,m=>by
  rw[List.cons_append,kR,kR]
  cases t.2.2.find? (snd slot) with
  |some x=>rfl
  |none=>
   simp only
   rw[JG]
   simp only[List.length_cons,Nat.add_assoc,Nat.add_comm 1]
theorem WQ {T:List Tb} {n:Nat} {t:Tb} {x:En} (ht:T[n]?=some t) (hx:x∈t.2.2) (h1:x.1=1):(sN x.2.1 T<n↔0≤sN x.2.1 (T.take n)):=by
 have hn:=dG ht
 have e:T=T.take n++t::T.drop (n+1):=by
  have hd:=List.drop_eq_getElem_cons hn
  rw[List.getElem?_eq_getElem hn]at ht
  cases ht
  rw[←hd,List.take_append_drop]
 have hl:(T.take n).length=n:=by rw[List.length_take];omega
 have h2:kR x.2.1 0 T=match kR x.2.1 0 (T.take n) with | some x=>some x | none=>kR x.2.1 (0+(T.take n).length) (t::T.drop (n+1)):=by
  conv=>lhs;rw[e]
  exact JG
 cases h3:kR x.2.1 0 (T.take n) with
 |some y=>
  obtain⟨k,y⟩:=y
  have h4:=N7 h3
  rw[h3]at h2
  simp only[sN,h2,h3]
  omega
 |none=>
  rw[h3,kR]at h2
  cases hf:t.2.2.find? (snd x.2.1) with
  |none=>
   have:=List.find?_eq_none.1 hf x hx
   simp[snd,h1]at this
  |some y=>
   rw[hf]at h2
   simp only[sN,h2,h3,hl]
   omega
def G7 (T:List Tb) (n:Nat) (x:En):Bool:=decide (x.1=1)&&decide (0≤sN x.2.1 (T.take n))
theorem P8 {T:List Tb} {n:Nat} {t:Tb} {x:En} (ht:T[n]?=some t) (hx:x∈t.2.2):G7 T n x=clash T n x:=by
 unfold G7 clash
 by_cases h1:x.1=1
 ·have:=WQ ht hx h1
  rw[decide_eq_decide.2 this.symm]
 ·simp[h1]
theorem any_none {g:En→Bool} {L:List En} (h:∀ i,i<L.length→∀ x,L[i]?=some x→g x=false):L.any g=false:=by
 rw[List.any_eq_false]
 intro x hx
 obtain⟨i,hi⟩:=List.mem_iff_getElem?.1 hx
 rw[h i (dG hi) x hi];simp
theorem ig.take {H:AH} {base:Option Addr} {cap:Nat} {T:List Tb} (h:ig H base cap T) (n:Nat):ig H base cap (T.take n):=
 ⟨by rw[List.map_take];exact h.out.take,fun x hx=>h.inn x (List.mem_of_mem_take hx)⟩
theorem JH (T:List Tb) (base:Option Addr) (cap n:Nat) (slot:Int) (H:AH) (hT:ig H base cap T) (hn:n=T.length) :
  aO Tryz.prog 118 #[.slice base n cap,.int .i64 slot] H (fun v H'=>v=.tuple #[.int .i64 (sN slot T),.agg (gG (sX slot T)).toArray]∧H=H'):=hn▸nZ T base cap slot H hT
theorem vw (T:List Tb) (base:Option Addr) (cap:Nat) (H:AH) (hT:ig H base cap T) :
  aO Tryz.prog 77 #[.slice base T.length cap] H (fun v H'=>v=.tuple #[.int .i64 (tabs T).1,.int .i64 (tabs T).2]∧H=H'):=by
 have hbig:=hT.out.big
 simp only[List.length_map]at hbig
 refine aO.cu Tryz.func77 rfl Tryz.ntmps77 Tryz.results77 (by simp) ?_;simp -dsimp(maxSteps:=4000000) only[dF,aA,ay,aJ,go_sem]
 refine fZ.gQ (ι:=Nat) (fun n=>n≤T.length∧∀ m,m<n→qj T m 2=true) (fun n=>[(4,.int .i64 n),(0,.slice base T.length cap)])
  (fun _=>H) (fun n=>T.length - n) 0 ⟨by omega,fun j hj=>by omega⟩ (bZ.aS ?_) (AH.le_refl _) fun n hn Q again out=>?_
 ·simp -dsimp(maxSteps:=4000000) only[dF,aA,ay,aJ,go_sem]
 obtain⟨hn,hpre⟩:=hn
 by_cases h:(n:Int)<T.length
 ·obtain⟨⟨tb,tc,L⟩,ht⟩:=get_some (l:=T) (i:=n) (by omega)
  have hin:=hT.inn _ (List.mem_of_getElem? ht)
  obtain⟨b,o,rfl,_,hrd⟩:=hT.out.get (dn (f:=kW) ht)
  have hrd:=hrd 0 _ rfl
  simp only[Nat.mul_one,Nat.add_zero]at hrd
  have ee:=dA (i:=n) (by omega)
  have er:rowT T n=L:=by simp[rowT,ht]
  simp -dsimp(maxSteps:=4000000) only[h,hrd,dF,aA,ay,aJ,go_sem]
  refine(acV L tb tc _ hin).mono ?_;rintro _ _ ⟨rfl,rfl⟩
  cases hf:oH L with
  |true=>
   simp -dsimp(maxSteps:=4000000) only[ee,dF,aA,ay,aJ,go_sem]
   refine again (n+1) _ _ ⟨by omega,fun m hm=>?_⟩ (bZ.aS (by simp -dsimp(maxSteps:=4000000) only[dF,aA,ay,aJ,go_sem])) (AH.le_refl _) (by omega)
   by_cases e:m=n
   ·rw[e,qj,if_pos rfl,er];exact hf
   ·exact hpre m (by omega)
  |false=>
   have ht:=BH (T:=T) (i:=0) (s:=2) rfl (fun j hj=>by omega) (yM (by omega) (by rw[qj,if_pos rfl,er];exact hf) hpre)
   simp -dsimp(maxSteps:=4000000) only[dF,aA,ay,aJ,go_sem]
   refine out _ _ _ (by simp) ?_
   simp -dsimp(maxSteps:=4000000) only[dF,aA,ay,aJ,go_sem]
   exact⟨H,(AH.le_refl _),(by first | exact⟨by rw[ht],rfl⟩ | rfl)⟩
 have ZB:bad T 2=none:=yN (by omega) hpre
 clear hn hpre
 simp -dsimp(maxSteps:=4000000) only[h,dF,aA,ay,aJ,go_sem]
 refine out _ _ _ (by simp) ?_
 clear h out again
 simp -dsimp(maxSteps:=4000000) only[dF,aA,ay,aJ,go_sem]
 refine fZ.gQ (ι:=Nat) (fun n=>n≤T.length∧∀ m,m<n→qj T m 8=true) (fun n=>[(5,.int .i64 n),(0,.slice base T.length cap)])
  (fun _=>H) (fun n=>T.length - n) 0 ⟨by omega,fun j hj=>by omega⟩ (bZ.aS ?_) (AH.le_refl _) fun n hn Q again out=>?_
 ·simp -dsimp(maxSteps:=4000000) only[dF,aA,ay,aJ,go_sem]
 obtain⟨hn,hpre⟩:=hn
 by_cases h:(n:Int)<T.length
 ·obtain⟨⟨tb,tc,L⟩,ht⟩:=get_some (l:=T) (i:=n) (by omega)
  have hin:=hT.inn _ (List.mem_of_getElem? ht)
  have DI:=hin.big
  simp only[List.length_map]at DI
  have hle:=hT.out.le
  simp only[List.length_map]at hle
  obtain⟨b,o,rfl,_,hrd⟩:=hT.out.get (dn (f:=kW) ht)
  have hrd:=hrd 0 _ rfl
  simp only[Nat.mul_one,Nat.add_zero]at hrd
  have ee:=dA (i:=n) (by omega)
  have er:rowT T n=L:=by simp[rowT,ht]
  simp -dsimp(maxSteps:=4000000) only[h,dF,aA,ay,aJ,go_sem]
  refine fZ.gQ (ι:=Nat) (fun i=>i≤L.length∧∀ j,j<i→∀ x,L[j]?=some x→clash T n x=false) (fun i=>[(6,.int .i64 i),(5,.int .i64 n),(0,.slice (some ⟨b,o,none⟩) T.length cap)])
   (fun _=>H) (fun i=>L.length - i) 0 ⟨by omega,fun j hj=>by omega⟩ (bZ.aS ?_) (AH.le_refl _) fun i hi Q2 gI mG=>?_
  ·simp -dsimp(maxSteps:=4000000) only[dF,aA,ay,aJ,go_sem]
  obtain⟨hi,DK⟩:=hi
  by_cases h2:(i:Int)<L.length
  ·obtain⟨⟨k,s,f,r,y⟩,hx⟩:=get_some (l:=L) (i:=i) (by omega)
   have hmem:=List.mem_of_getElem? hx
   have hcl:=P8 ht hmem
   obtain⟨b',o',rfl,hrow,oU⟩:=hin.get (dn (f:=gG) hx)
   have r0:=oU 0 _ rfl
   have r1:=oU 1 _ rfl
   simp only[dF,Nat.add_zero]at r0 r1
   have e2:=dA (i:=i) (by omega)
   have n1:(n:Int)≤cap:=by omega
   simp -dsimp(maxSteps:=4000000) only[h,h2,hrd,dF,aA,ay,aJ,go_sem]
   refine fZ.gen [.pu,.pu,.pu,.pu,.pu,.pu,.rd,.pu,.pu,.pu,.rd,.ch,.pu,.pu,.pu,.al,.pu,.ch] [0,0,3,0,0,24,56,0,248,504,1016,2047,4095,8191,8191,0,49151,131071] 0 (_) mixed (by kernel_rfl) (AH.le_refl _) ?_
   simp -dsimp(maxSteps:=4000000) only[h,h2,hrd,r1,n1,Nat.sub_zero,ite_self,dF,aA,ay,aJ,go_sem]
   refine(JH (T.take n) (some ⟨b,o,none⟩) cap n s _ (hT.take n) (by rw[List.length_take];omega)).mono ?_;rintro _ _ ⟨rfl,rfl⟩
   simp -dsimp(maxSteps:=4000000) only[AH.le_refl,dF,aA,ay,aJ,go_sem]
   refine bY.mk fun b8 lF=>?_;have aQ:=lF;(try simp only[ah,aj,ne_eq]at aQ);have bF:=aQ;(try simp only[@eq_comm Nat b8]at bF);simp -dsimp(maxSteps:=4000000) only[dF,aA,ay,aJ,aQ,bF,go_sem]
   have jP:=(aG.jq (by simp only[aQ]:aG H b8) hrd)
   have DL:=(aG.jq (by simp only[aQ]:aG H b8) r0)
   by_cases k1:k=1
   ·by_cases k2:0≤sN s (T.take n)
    ·have hf:clash T n (k,s,f,r,y)=true:=by rw[←hcl];simp[G7,k1,k2]
     have hb:qj T n 8=false:=by
      rw[qj,if_neg (by decide),if_pos rfl,er,List.any_eq_true.2 ⟨_,hmem,hf⟩];rfl
     have ht:=BH (T:=T) (i:=1) (s:=8) rfl (fun j hj s' hs'=>by
      obtain rfl:j=0:=by omega
      cases hs';exact ZB) (yM (by omega) hb hpre)
     simp -dsimp(maxSteps:=4000000) only[h,h2,hrd,jP,r0,DL,k1,k2,dF,aA,ay,aJ,aQ,bF,go_sem]
     refine mG _ _ _ (by simp) ?_
     simp -dsimp(maxSteps:=4000000) only[dF,aA,ay,aJ,aQ,bF,go_sem]
     refine out _ _ _ (by simp) ?_
     simp -dsimp(maxSteps:=4000000) only[dF,aA,ay,aJ,aQ,bF,go_sem]
     exact⟨H,(AH.aK (AH.le_refl _) ((by simp only[dF,aA,ay,aJ,ah,aj,ne_eq,aQ,not_false_eq_true,and_self]:aG _ b8).2)),(by first | exact⟨by rw[ht],rfl⟩ | rfl)⟩
    ·have hf:clash T n (k,s,f,r,y)=false:=by rw[←hcl];simp only[G7,decide_eq_false k2,Bool.and_false]
     simp -dsimp(maxSteps:=4000000) only[h,h2,hrd,jP,r0,DL,k1,k2,e2,dF,aA,ay,aJ,aQ,bF,go_sem]
     refine gI (i+1) _ _ ⟨by omega,fun q hq z hz=>?_⟩ (bZ.aS (by simp -dsimp(maxSteps:=4000000) only[dF,aA,ay,aJ,aQ,bF,go_sem])) (by(repeat (first | exact AH.le_refl _ | refine AH.aK ?_ ?_));all_goals (first | exact AH.le_refl _ | (show AH.find _ _=_;simp only[aH,aN,aV,ah,aj,ne_eq,not_false_eq_true,true_and,and_true,and_self,dF,aA,ay,aJ,aQ,bF]))) (by omega)
     by_cases e:q=i
     ·subst e;rw[hx]at hz;cases hz;exact hf
     ·exact DK q (by omega) z hz
   ·have hf:clash T n (k,s,f,r,y)=false:=by simp[clash,k1]
    simp -dsimp(maxSteps:=4000000) only[h,h2,hrd,jP,r0,DL,k1,e2,dF,aA,ay,aJ,aQ,bF,go_sem]
    refine gI (i+1) _ _ ⟨by omega,fun q hq z hz=>?_⟩ (bZ.aS (by simp -dsimp(maxSteps:=4000000) only[dF,aA,ay,aJ,aQ,bF,go_sem])) (by(repeat (first | exact AH.le_refl _ | refine AH.aK ?_ ?_));all_goals (first | exact AH.le_refl _ | (show AH.find _ _=_;simp only[aH,aN,aV,ah,aj,ne_eq,not_false_eq_true,true_and,and_true,and_self,dF,aA,ay,aJ,aQ,bF]))) (by omega)
    by_cases e:q=i
    ·subst e;rw[hx]at hz;cases hz;exact hf
    ·exact DK q (by omega) z hz
  ·
   simp -dsimp(maxSteps:=4000000) only[h,h2,hrd,dF,aA,ay,aJ,go_sem]
   refine mG _ _ _ (by simp) ?_
   simp -dsimp(maxSteps:=4000000) only[ee,dF,aA,ay,aJ,go_sem]
   refine again (n+1) _ _ ⟨by omega,fun m hm=>?_⟩ (bZ.aS (by simp -dsimp(maxSteps:=4000000) only[dF,aA,ay,aJ,go_sem])) (AH.le_refl _) (by omega)
   by_cases e:m=n
   ·rw[e,qj,if_neg (by decide),if_pos rfl,er,any_none fun j hj x hx=>DK j (by omega) x hx];rfl
   ·exact hpre m (by omega)
 have acZ:bad T 8=none:=yN (by omega) hpre
 clear hn hpre
 simp -dsimp(maxSteps:=4000000) only[h,dF,aA,ay,aJ,go_sem]
 refine out _ _ _ (by simp) ?_
 clear h out again
 simp -dsimp(maxSteps:=4000000) only[dF,aA,ay,aJ,go_sem]
 refine fZ.gQ (ι:=Nat) (fun n=>n≤T.length∧∀ m,m<n→qj T m 9=true) (fun n=>[(9,.int .i64 n),(0,.slice base T.length cap)])
  (fun _=>H) (fun n=>T.length - n) 0 ⟨by omega,fun j hj=>by omega⟩ (bZ.aS ?_) (AH.le_refl _) fun n hn Q again out=>?_
 ·simp -dsimp(maxSteps:=4000000) only[dF,aA,ay,aJ,go_sem]
 obtain⟨hn,hpre⟩:=hn
 by_cases h:(n:Int)<T.length
 ·obtain⟨⟨tb,tc,L⟩,ht⟩:=get_some (l:=T) (i:=n) (by omega)
  have hin:=hT.inn _ (List.mem_of_getElem? ht)
  have DI:=hin.big
  simp only[List.length_map]at DI
  obtain⟨b,o,rfl,_,hrd⟩:=hT.out.get (dn (f:=kW) ht)
  have hrd:=hrd 0 _ rfl
  simp only[Nat.mul_one,Nat.add_zero]at hrd
  have ee:=dA (i:=n) (by omega)
  have er:rowT T n=L:=by simp[rowT,ht]
  simp -dsimp(maxSteps:=4000000) only[h,dF,aA,ay,aJ,go_sem]
  refine fZ.gQ (ι:=Nat) (fun i=>i≤L.length∧∀ j,j<i→∀ x,L[j]?=some x→gap T x=false) (fun i=>[(10,.int .i64 i),(9,.int .i64 n),(0,.slice (some ⟨b,o,none⟩) T.length cap)])
   (fun _=>H) (fun i=>L.length - i) 0 ⟨by omega,fun j hj=>by omega⟩ (bZ.aS ?_) (AH.le_refl _) fun i hi Q2 gI mG=>?_
  ·simp -dsimp(maxSteps:=4000000) only[dF,aA,ay,aJ,go_sem]
  obtain⟨hi,DK⟩:=hi
  by_cases h2:(i:Int)<L.length
  ·obtain⟨⟨k,s,f,r,y⟩,hx⟩:=get_some (l:=L) (i:=i) (by omega)
   have hmem:=List.mem_of_getElem? hx
   obtain⟨b',o',rfl,hrow,oU⟩:=hin.get (dn (f:=gG) hx)
   have r0:=oU 0 _ rfl
   have r1:=oU 1 _ rfl
   simp only[dF,Nat.add_zero]at r0 r1
   have e2:=dA (i:=i) (by omega)
   simp -dsimp(maxSteps:=4000000) only[h,h2,hrd,r1,dF,aA,ay,aJ,go_sem]
   refine(nZ T (some ⟨b,o,none⟩) cap s _ hT).mono ?_;rintro _ _ ⟨rfl,rfl⟩
   simp -dsimp(maxSteps:=4000000) only[dF,aA,ay,aJ,go_sem]
   refine bY.mk fun b12 lK=>?_;have fQ:=lK;(try simp only[ah,aj,ne_eq]at fQ);have gX:=fQ;(try simp only[@eq_comm Nat b12]at gX);simp -dsimp(maxSteps:=4000000) only[dF,aA,ay,aJ,fQ,gX,go_sem]
   have jP:=(aG.jq (by simp only[fQ]:aG H b12) hrd)
   have DL:=(aG.jq (by simp only[fQ]:aG H b12) r0)
   by_cases k1:k=2
   ·by_cases k2:sN s T<0
    ·have hf:gap T (k,s,f,r,y)=true:=by simp[gap,k1,k2]
     have hb:qj T n 9=false:=by
      rw[qj,if_neg (by decide),if_neg (by decide),er,List.any_eq_true.2 ⟨_,hmem,hf⟩];rfl
     have ht:=BH (T:=T) (i:=2) (s:=9) rfl (fun j hj s' hs'=>by
      match j,hs' with
      |0,hs'=>cases hs';exact ZB
      |1,hs'=>cases hs';exact acZ) (yM (by omega) hb hpre)
     simp -dsimp(maxSteps:=4000000) only[h,h2,hrd,jP,r0,DL,k1,k2,dF,aA,ay,aJ,fQ,gX,go_sem]
     refine mG _ _ _ (by simp) ?_
     simp -dsimp(maxSteps:=4000000) only[dF,aA,ay,aJ,fQ,gX,go_sem]
     refine out _ _ _ (by simp) ?_
     simp -dsimp(maxSteps:=4000000) only[dF,aA,ay,aJ,fQ,gX,go_sem]
     exact⟨H,(AH.aK (AH.le_refl _) ((by simp only[dF,aA,ay,aJ,ah,aj,ne_eq,fQ,not_false_eq_true,and_self]:aG _ b12).2)),(by first | exact⟨by rw[ht],rfl⟩ | rfl)⟩
    ·have hf:gap T (k,s,f,r,y)=false:=by simp only[gap,decide_eq_false k2,Bool.and_false]
     simp -dsimp(maxSteps:=4000000) only[h,h2,hrd,jP,r0,DL,k1,k2,e2,dF,aA,ay,aJ,fQ,gX,go_sem]
     refine gI (i+1) _ _ ⟨by omega,fun q hq z hz=>?_⟩ (bZ.aS (by simp -dsimp(maxSteps:=4000000) only[dF,aA,ay,aJ,fQ,gX,go_sem])) (by(repeat (first | exact AH.le_refl _ | refine AH.aK ?_ ?_));all_goals (first | exact AH.le_refl _ | (show AH.find _ _=_;simp only[aH,aN,aV,ah,aj,ne_eq,not_false_eq_true,true_and,and_true,and_self,dF,aA,ay,aJ,fQ,gX]))) (by omega)
     by_cases e:q=i
     ·subst e;rw[hx]at hz;cases hz;exact hf
     ·exact DK q (by omega) z hz
   ·have hf:gap T (k,s,f,r,y)=false:=by simp[gap,k1]
    simp -dsimp(maxSteps:=4000000) only[h,h2,hrd,jP,r0,DL,k1,e2,dF,aA,ay,aJ,fQ,gX,go_sem]
    refine gI (i+1) _ _ ⟨by omega,fun q hq z hz=>?_⟩ (bZ.aS (by simp -dsimp(maxSteps:=4000000) only[dF,aA,ay,aJ,fQ,gX,go_sem])) (by(repeat (first | exact AH.le_refl _ | refine AH.aK ?_ ?_));all_goals (first | exact AH.le_refl _ | (show AH.find _ _=_;simp only[aH,aN,aV,ah,aj,ne_eq,not_false_eq_true,true_and,and_true,and_self,dF,aA,ay,aJ,fQ,gX]))) (by omega)
    by_cases e:q=i
    ·subst e;rw[hx]at hz;cases hz;exact hf
    ·exact DK q (by omega) z hz
  ·
   simp -dsimp(maxSteps:=4000000) only[h,h2,hrd,dF,aA,ay,aJ,go_sem]
   refine mG _ _ _ (by simp) ?_
   simp -dsimp(maxSteps:=4000000) only[ee,dF,aA,ay,aJ,go_sem]
   refine again (n+1) _ _ ⟨by omega,fun m hm=>?_⟩ (bZ.aS (by simp -dsimp(maxSteps:=4000000) only[dF,aA,ay,aJ,go_sem])) (AH.le_refl _) (by omega)
   by_cases e:m=n
   ·rw[e,qj,if_neg (by decide),if_neg (by decide),er,any_none fun j hj x hx=>DK j (by omega) x hx];rfl
   ·exact hpre m (by omega)
 have agU:bad T 9=none:=yN (by omega) hpre
 have ht:tabs T=(-1,0):=by simp[tabs,ZB,acZ,agU]
 simp -dsimp(maxSteps:=4000000) only[h,dF,aA,ay,aJ,go_sem]
 refine out _ _ _ (by simp) ?_
 simp -dsimp(maxSteps:=4000000) only[dF,aA,ay,aJ,go_sem]
 exact⟨H,(AH.le_refl _),(by first | exact⟨by rw[ht],rfl⟩ | rfl)⟩
end Go.Proofs.YtbhamhhjicehaaaGreatDoor.pF
/- uart.Turn and its reference: what each comes to. -/
namespace Go.Proofs.YtbhamhhjicehaaaGreatDoor.qG
open Go Go.AX Go.Proofs Ty
set_option maxHeartbeats 2000000
def jQ (m:Int) (i:Nat):Bool:=m / 2 ^ i % 2==1
def og (l:List Bool) (m:Int):List Bool:=l.mapIdx fun j x=>x != jQ m j
theorem WR (m:Int) (i:Nat) (h:i<64):(jf .and .i64 (m.fdiv (2 ^ min i IntKind.i64.bits)) 1==1)=jQ m i:=by
 rw[show min i IntKind.i64.bits=i from Nat.min_eq_left (by simp[IntKind.bits];omega),Rj,fdiv_pow];rfl
theorem N8 (m:Int) (i:Nat) (h:i<64):(m % 18446744073709551616 / 2 ^ i % 2==1)=jQ m i:=by
 unfold jQ
 have:m % 18446744073709551616 / 2 ^ i % 2=m / 2 ^ i % 2:=by
  have e:(18446744073709551616:Int)=2 ^ i*2 ^ (64 - i):=by rw[←Int.pow_add,show i+(64 - i)=64 from by omega];rfl
  have e2:(2:Int) ^ (64 - i)=2*2 ^ (63 - i):=by rw[show 64 - i=(63 - i)+1 from by omega,Int.pow_succ];omega
  have hp:(0:Int)<2 ^ i:=Int.pow_pos (by decide)
  have h1:=Int.mul_ediv_add_emod m 18446744073709551616
  generalize hq:m / 18446744073709551616=q at h1
  generalize hr:m % 18446744073709551616=r at *
  have h2:m=r+2 ^ i*(2*(2 ^ (63 - i)*q)):=by
   rw[←h1,e,e2];simp only[Int.mul_assoc];omega
  rw[h2,Int.add_mul_ediv_left _ _ (by omega)]
  omega
 rw[this]
theorem ZC (l:List Bool) (hl:l.length=11) (m:Int) (H:AH):aO Tryz.prog 68 #[.agg (l.map Value.bool).toArray,.int .i64 m] H
  (fun v H'=>v=.agg ((og l m).map Value.bool).toArray∧H=H'):=by
 let row:=mV l (fun j x=>x != jQ m j) (fun _ x=>x)
 have hlen:∀ i,(row i).length=11:=fun i=>vV.trans hl
 refine aO.cu Tryz.func68 rfl Tryz.ntmps68 Tryz.results68 (by simp) ?_;simp -dsimp(maxSteps:=4000000) only[go_sem]
 refine bY.mk fun b1 iy=>?_;have aP:=iy;(try simp only[ah,aj,ne_eq]at aP);have aY:=aP;(try simp only[@eq_comm Nat b1]at aY);simp -dsimp(maxSteps:=4000000) only[hl,hlen,aP,aY,go_sem]
 refine bY.mk fun b2 nY=>?_;have dK:=nY;(try simp only[ah,aj,ne_eq]at dK);have dV:=dK;(try simp only[@eq_comm Nat b2]at dV);simp -dsimp(maxSteps:=4000000) only[hl,hlen,aP,aY,dK,dV,go_sem]
 refine fZ.QI (ι:=Nat) (fun i=>i≤11) (fun i=>[(6,.int .i64 i),(1,.int .i64 m),(2,.pointer (some ⟨b1,0,none⟩)),(4,.pointer (some ⟨b2,0,none⟩))])
  (fun i=>(H.add b1 (.cells ((row i).map Value.bool) 87 11)).add b2 (.cells [.bool false,.bool false,.bool false,.bool false,.bool false,.bool false,.bool false,.bool false,.bool false,.bool false,.bool false] 87 11)) (fun i=>11 - i) 0 (by omega) (bZ.aS ?_) ?_ fun i hi=>?_
 ·simp -dsimp(maxSteps:=4000000) only[hl,hlen,aP,aY,dK,dV,go_sem]
 ·rw[show row 0=l from EL,hl];exact AH.le_refl _
 ·simp -dsimp(maxSteps:=4000000) only[hl,hlen,aP,aY,dK,dV,go_sem]
  refine⟨fun h=>?_,fun h=>?_⟩
  ·have hi':i<11:=by omega
   obtain⟨x,hx⟩:=get_some (l:=l) (i:=i) (by omega)
   have hr:((row i).map Value.bool)[i]?=some (.bool x):=by
    rw[List.getElem?_map,Px,hx];rfl
   have e1:=dA (i:=i) (by omega)
   simp -dsimp(maxSteps:=4000000) only[hl,hlen,aP,aY,dK,dV,go_sem]
   refine fZ.tail 11 mixed (by kernel_rfl) ?_
   have hb:(jf .and .i64 (m.fdiv (2 ^ min i 64)) 1==1)=jQ m i:=WR m i (by omega)
   simp -dsimp(maxSteps:=4000000) only[hr,h,(by omega:i≤10),hb,hl,hlen,aP,aY,dK,dV,go_sem]
   rw[e1,show(!x==jQ m i)=(x != jQ m i) from by cases x<;>simp[bne],←List.map_set,rH hx]
   refine sG (i+1) (by omega) (bZ.aS ?_) (AH.le_refl _) (by omega)
   simp -dsimp(maxSteps:=4000000) only[hl,hlen,aP,aY,dK,dV,go_sem]
  ·obtain rfl:i=11:=by omega
   simp -dsimp(maxSteps:=4000000) only[hl,hlen,aP,aY,dK,dV,go_sem]
   exact⟨H,(AH.aK (AH.aK (AH.le_refl _) ((by simp only[hl,hlen,ah,aj,ne_eq,aP,not_false_eq_true,and_self]:aG _ b1).2)) ((by simp only[hl,hlen,ah,aj,ne_eq,dK,not_false_eq_true,and_self]:aG _ b2).2)),(by first | exact⟨by rw[show row 11=og l m from wZ (by omega)],rfl⟩ | rfl)⟩
theorem P9 (l:List Bool) (hl:l.length=11) (m:Int) (H:AH):aO Tryz.prog 124 #[.agg (l.map Value.bool).toArray,.int .i64 m] H
  (fun v H'=>v=.agg ((og l m).map Value.bool).toArray∧H=H'):=by
 let row:=mV l (fun j x=>x != jQ m j) (fun _ _=>false)
 have hlen:∀ i,(row i).length=11:=fun i=>vV.trans hl
 let M:=m % 18446744073709551616
 have hM:IntKind.u64.wrap m=M:=IntKind.wrap_u64 m
 refine aO.cu Tryz.func124 rfl Tryz.ntmps124 Tryz.results124 (by simp) ?_;simp -dsimp(maxSteps:=4000000) only[go_sem]
 refine bY.mk fun b1 iy=>?_;have aP:=iy;(try simp only[ah,aj,ne_eq]at aP);have aY:=aP;(try simp only[@eq_comm Nat b1]at aY);simp -dsimp(maxSteps:=4000000) only[hl,hlen,hM,aP,aY,go_sem]
 refine bY.mk fun b2 nY=>?_;have dK:=nY;(try simp only[ah,aj,ne_eq]at dK);have dV:=dK;(try simp only[@eq_comm Nat b2]at dV);simp -dsimp(maxSteps:=4000000) only[hl,hlen,hM,aP,aY,dK,dV,go_sem]
 refine bY.mk fun b3 lD=>?_;have eG:=lD;(try simp only[ah,aj,ne_eq]at eG);have fM:=eG;(try simp only[@eq_comm Nat b3]at fM);simp -dsimp(maxSteps:=4000000) only[hl,hlen,hM,aP,aY,dK,dV,eG,fM,go_sem]
 refine fZ.QI (ι:=Nat) (fun i=>i≤11) (fun i=>[(7,.int .i64 i),(6,.int .u64 (M / 2 ^ i)),(5,.pointer (some ⟨b3,0,none⟩)),(2,.pointer (some ⟨b1,0,none⟩)),(4,.pointer (some ⟨b2,0,none⟩))])
  (fun i=>((H.add b1 (.cells (l.map Value.bool) 87 11)).add b2 (.cells [.bool false,.bool false,.bool false,.bool false,.bool false,.bool false,.bool false,.bool false,.bool false,.bool false,.bool false] 87 11)).add b3 (.cells ((row i).map Value.bool) 87 11)) (fun i=>11 - i) 0 (by omega) (bZ.aS ?_) ?_ fun i hi=>?_
 ·simp -dsimp(maxSteps:=4000000) only[hl,hlen,hM,aP,aY,dK,dV,eG,fM,go_sem]
  rw[show M / 2 ^ 0=M from by simp]
 ·rw[show row 0=[false,false,false,false,false,false,false,false,false,false,false] from zC.trans (by rw[hl];rfl)]
  exact AH.le_refl _
 ·simp -dsimp(maxSteps:=4000000) only[hl,hlen,hM,aP,aY,dK,dV,eG,fM,go_sem]
  refine⟨fun h=>?_,fun h=>?_⟩
  ·have hi':i<11:=by omega
   obtain⟨x,hx⟩:=get_some (l:=l) (i:=i) (by omega)
   have hr:(l.map Value.bool)[i]?=some (.bool x):=by
    rw[List.getElem?_map,hx];rfl
   have e1:=dA (i:=i) (by omega)
   have hM0:0≤M / 2 ^ i:=Int.ediv_nonneg (Int.emod_nonneg _ (by decide)) (Int.le_of_lt (Int.pow_pos (by decide)))
   have hM1:M / 2 ^ i<18446744073709551616:=Int.lt_of_le_of_lt (Int.ediv_le_self _ (Int.emod_nonneg _ (by decide))) (Int.emod_lt_of_pos _ (by decide))
   have e3:IntKind.u64.wrap ((M / 2 ^ i).tdiv 2)=M / 2 ^ (i+1):=by
    rw[Int.tdiv_eq_ediv_of_nonneg hM0,Ri (by omega) (by omega),Int.pow_succ,Int.ediv_ediv_of_nonneg (Int.le_of_lt (Int.pow_pos (by decide)))]
   have hb:=N8 m i (by omega)
   have e2:=Int.tmod_eq_emod_of_nonneg (b:=2) hM0
   rcases Int.emod_two_eq (M / 2 ^ i) with h0 | h0
   ·have hv:x=(x != jQ m i):=by rw[←hb,show m % 18446744073709551616 / 2 ^ i=M / 2 ^ i from rfl,h0];simp
    simp -dsimp(maxSteps:=4000000) only[hr,h,(by omega:i≤10),e2,h0,e3,e1,hl,hlen,hM,aP,aY,dK,dV,eG,fM,go_sem]
    refine sG (i+1) (by omega) (bZ.aS ?_) ?_ (by omega)
    ·simp -dsimp(maxSteps:=4000000) only[hl,hlen,hM,aP,aY,dK,dV,eG,fM,go_sem]
    ·rw[show row (i+1)=(row i).set i x from (by conv=>rhs;rw[hv]
                                                exact(rH hx).symm),List.map_set]
     exact AH.le_refl _
   ·have hv:(!x)=(x != jQ m i):=by rw[←hb,show m % 18446744073709551616 / 2 ^ i=M / 2 ^ i from rfl,h0];simp
    simp -dsimp(maxSteps:=4000000) only[hr,h,(by omega:i≤10),e2,h0,e3,e1,hl,hlen,hM,aP,aY,dK,dV,eG,fM,go_sem]
    refine sG (i+1) (by omega) (bZ.aS ?_) ?_ (by omega)
    ·simp -dsimp(maxSteps:=4000000) only[hl,hlen,hM,aP,aY,dK,dV,eG,fM,go_sem]
    ·rw[show row (i+1)=(row i).set i (!x) from (by rw[hv];exact(rH hx).symm),List.map_set]
     exact AH.le_refl _
  ·obtain rfl:i=11:=by omega
   simp -dsimp(maxSteps:=4000000) only[hl,hlen,hM,aP,aY,dK,dV,eG,fM,go_sem]
   exact⟨H,(AH.aK (AH.aK (AH.aK (AH.le_refl _) ((by simp only[hl,hlen,hM,ah,aj,ne_eq,aP,not_false_eq_true,and_self]:aG _ b1).2)) ((by simp only[hl,hlen,hM,ah,aj,ne_eq,dK,not_false_eq_true,and_self]:aG _ b2).2)) ((by simp only[hl,hlen,hM,ah,aj,ne_eq,eG,not_false_eq_true,and_self]:aG _ b3).2)),(by first | exact⟨by rw[show row 11=og l m from wZ (by omega)],rfl⟩ | rfl)⟩
end Go.Proofs.YtbhamhhjicehaaaGreatDoor.qG
/- bits.OnesCount8, uart.Put and its reference: what each comes to. -/
namespace Go.Proofs.YtbhamhhjicehaaaGreatDoor.qG
open Go Go.AX Go.Proofs Ty
set_option maxHeartbeats 2000000
def ones (b:Int):Nat→Int
 |0=>0
 |i+1=>ones b i+b / 2 ^ i % 2
theorem qQ (b:Int):∀ i,0≤ones b i
 |0=>by simp[ones]
 |i+1=>by have:=qQ b i;simp only[ones];omega
theorem N9 (b:Int):∀ i,ones b i≤i
 |0=>by simp[ones]
 |i+1=>by have:=N9 b i;simp only[ones];omega
def Tn:ByteArray:=⟨#[0,1,1,2,1,2,2,3,1,2,2,3,2,3,3,4,1,2,2,3,2,3,3,4,2,3,3,4,3,4,4,5,1,2,2,3,2,3,3,4,2,3,3,4,3,4,4,5,2,3,3,4,3,4,4,5,3,4,4,5,4,5,5,6,1,2,2,3,2,3,3,4,2,3,3,4,3,4,4,5,2,3,3,4,3,4,4,5,3,4,4,5,4,5,5,6,2,3,3,4,3,4,4,5,3,4,4,5,4,5,5,6,3,4,4,5,4,5,5,6,4,5,5,6,5,6,6,7,1,2,2,3,2,3,3,4,2,3,3,4,3,4,4,5,2,3,3,4,3,4,4,5,3,4,4,5,4,5,5,6,2,3,3,4,3,4,4,5,3,4,4,5,4,5,5,6,3,4,4,5,4,5,5,6,4,5,5,6,5,6,6,7,2,3,3,4,3,4,4,5,3,4,4,5,4,5,5,6,3,4,4,5,4,5,5,6,4,5,5,6,5,6,6,7,3,4,4,5,4,5,5,6,4,5,5,6,5,6,6,7,4,5,5,6,5,6,6,7,5,6,6,7,6,7,7,8]⟩
theorem WS:∀ x:Fin 256,Tn[x.val]?=some (UInt8.ofNat (ones x.val 8).toNat)∧IntKind.i64.wrap (UInt8.ofNat (ones x.val 8).toNat).toNat=ones x.val 8:=by decide +kernel
theorem G8 (b:Int) (hb:0≤b∧b<256) (H:AH):aO Tryz.prog 112 #[.int .u8 b] H (fun v H'=>v=.int .i64 (ones b 8)∧H=H'):=by
 obtain⟨n,rfl⟩:=Int.eq_ofNat_of_zero_le hb.1
 have hp:=WS ⟨n,by omega⟩
 refine aO.cu Tryz.func112 rfl Tryz.ntmps112 Tryz.results112 (by simp) ?_;simp -dsimp(maxSteps:=4000000) only[go_sem]
 refine Y4 (T:=Tn) (by kernel_rfl) ?_
 rw[hp.1]
 simp -dsimp(maxSteps:=4000000) only[hp.2,go_sem]
 exact⟨H,(AH.le_refl _),(by first | exact⟨rfl,rfl⟩ | rfl)⟩
def G9 (b:Int) (odd:Bool):List Bool:=[false,jQ b 0,jQ b 1,jQ b 2,jQ b 3,jQ b 4,jQ b 5,jQ b 6,jQ b 7,(ones b 8 % 2==1) != odd,true]
theorem WT (b:Int) (i:Nat) (h:i≤8):(jf .and .u8 (b.fdiv (2 ^ min i IntKind.u8.bits)) 1==1)=jQ b i:=by
 rw[show min i IntKind.u8.bits=i from Nat.min_eq_left (by simp[IntKind.bits];omega),VQ,fdiv_pow];rfl
theorem Ob (b:Int):∃ row:Nat→List Bool,(∀ i,(row i).length=11)∧row 0=[false,false,false,false,false,false,false,false,false,false,false]∧row 8=[false,jQ b 0,jQ b 1,jQ b 2,jQ b 3,jQ b 4,jQ b 5,jQ b 6,jQ b 7,false,false]∧
   ∀ i,i<8→(row i).set (i+1) (jQ b i)=row (i+1):=
  ⟨fun i=>mV (List.range 11) (fun j _=>if j=0 then false else jQ b (j - 1)) (fun _ _=>false) (i+1),fun i=>(vV (l:=List.range 11)).trans List.length_range,by kernel_rfl,by kernel_rfl,
   fun i hi=>(rH (l:=List.range 11) (f:=fun j _=>if j=0 then false else jQ b (j - 1)) (x:=i+1) (i:=i+1) (List.getElem?_range (by omega)))⟩
theorem ac0 (b:Int) (odd:Bool) (hb:0≤b∧b<256) (H:AH):aO Tryz.prog 67 #[.int .u8 b,.bool odd] H (fun v H'=>v=.agg ((G9 b odd).map Value.bool).toArray∧H=H'):=by
 obtain⟨row,hlen,hr0,hr8,hset⟩:=Ob b
 refine aO.cu Tryz.func67 rfl Tryz.ntmps67 Tryz.results67 (by simp) ?_;simp -dsimp(maxSteps:=4000000) only[go_sem]
 refine bY.mk fun b1 iy=>?_;have aP:=iy;(try simp only[ah,aj,ne_eq]at aP);have aY:=aP;(try simp only[@eq_comm Nat b1]at aY);simp -dsimp(maxSteps:=4000000) only[hlen,aP,aY,go_sem]
 refine bY.mk fun b2 nY=>?_;have dK:=nY;(try simp only[ah,aj,ne_eq]at dK);have dV:=dK;(try simp only[@eq_comm Nat b2]at dV);simp -dsimp(maxSteps:=4000000) only[hlen,aP,aY,dK,dV,go_sem]
 refine fZ.gQ (ι:=Nat) (fun i=>i≤8) (fun i=>[(7,.int .i64 i),(0,.int .u8 b),(1,.bool odd),(5,.pointer (some ⟨b2,0,none⟩)),(4,.pointer (some ⟨b1,0,none⟩))])
  (fun i=>(H.add b1 (.cells [.bool false,.bool false,.bool false,.bool false,.bool false,.bool false,.bool false,.bool false,.bool false,.bool false,.bool false] 87 11)).add b2 (.cells ((row i).map Value.bool) 87 11)) (fun i=>8 - i) 0 (by omega) (bZ.aS ?_) ?_ fun i hi Q again out=>?_
 ·simp -dsimp(maxSteps:=4000000) only[hlen,aP,aY,dK,dV,go_sem]
 ·rw[hr0];exact AH.le_refl _
 ·simp -dsimp(maxSteps:=4000000) only[hlen,aP,aY,dK,dV,go_sem]
  refine⟨fun h=>?_,fun h=>?_⟩
  ·have e1:=dA (i:=i) (by omega)
   have e2:IntKind.i64.wrap (1+(i:Int))=((i+1:Nat):Int):=by rw[Int.add_comm];exact e1
   have h10:(i:Int)+1<11:=by omega
   have hge:(0:Int)≤((i+1:Nat):Int):=by omega
   have hlt:((i+1:Nat):Int)<11:=by omega
   have hb':(jf .and .u8 (b.fdiv (2 ^ min i 8)) 1==1)=jQ b i:=WT b i (by omega)
   simp -dsimp(maxSteps:=4000000) only[e1,e2,hb',hge,hlt,(by omega:i≤9),hlen,aP,aY,dK,dV,go_sem]
   exact again (i+1) _ _ (by omega) (bZ.aS (by simp -dsimp(maxSteps:=4000000) only[hlen,aP,aY,dK,dV,go_sem])) (by rw[←List.map_set,hset i (by omega)];exact AH.le_refl _) (by omega)
  ·obtain rfl:i=8:=by omega
   rw[hr8]
   simp -dsimp(maxSteps:=4000000) only[hlen,aP,aY,dK,dV,go_sem]
   refine out _ _ _ (by simp) ?_
   have e1:(ones b 8).tmod 2=ones b 8 % 2:=Int.tmod_eq_emod_of_nonneg (qQ b 8)
   simp -dsimp(maxSteps:=4000000) only[hlen,aP,aY,dK,dV,go_sem]
   refine(G8 b hb _).mono ?_;rintro _ _ ⟨rfl,rfl⟩
   simp -dsimp(maxSteps:=4000000) only[e1,hlen,aP,aY,dK,dV,go_sem]
   exact⟨H,(AH.aK (AH.aK (AH.le_refl _) ((by simp only[hlen,ah,aj,ne_eq,aP,not_false_eq_true,and_self]:aG _ b1).2)) ((by simp only[hlen,ah,aj,ne_eq,dK,not_false_eq_true,and_self]:aG _ b2).2)),(by first | exact⟨by simp[G9,bne],rfl⟩ | rfl)⟩
theorem Tq (b:Int) (odd:Bool) (hb:0≤b∧b<256) (H:AH):aO Tryz.prog 123 #[.int .u8 b,.bool odd] H (fun v H'=>v=.agg ((G9 b odd).map Value.bool).toArray∧H=H'):=by
 obtain⟨row,hlen,hr0,hr8,hset⟩:=Ob b
 have e0:IntKind.i64.wrap b=b:=eH (by omega) (by omega)
 refine aO.cu Tryz.func123 rfl Tryz.ntmps123 Tryz.results123 (by simp) ?_;simp -dsimp(maxSteps:=4000000) only[go_sem]
 refine bY.mk fun b1 iy=>?_;have aP:=iy;(try simp only[ah,aj,ne_eq]at aP);have aY:=aP;(try simp only[@eq_comm Nat b1]at aY);simp -dsimp(maxSteps:=4000000) only[hlen,e0,aP,aY,go_sem]
 refine bY.mk fun b2 nY=>?_;have dK:=nY;(try simp only[ah,aj,ne_eq]at dK);have dV:=dK;(try simp only[@eq_comm Nat b2]at dV);simp -dsimp(maxSteps:=4000000) only[hlen,e0,aP,aY,dK,dV,go_sem]
 refine fZ.gQ (ι:=Nat) (fun i=>i≤8) (fun i=>[(8,.int .i64 ((i+1:Nat):Int)),(6,.int .i64 (b / 2 ^ i)),(7,.int .i64 (ones b i)),(1,.bool odd),(5,.pointer (some ⟨b2,0,none⟩)),(4,.pointer (some ⟨b1,0,none⟩))])
  (fun i=>(H.add b1 (.cells [.bool false,.bool false,.bool false,.bool false,.bool false,.bool false,.bool false,.bool false,.bool false,.bool false,.bool false] 87 11)).add b2 (.cells ((row i).map Value.bool) 87 11)) (fun i=>8 - i) 0 (by omega) (bZ.aS ?_) ?_ fun i hi Q again out=>?_
 ·simp -dsimp(maxSteps:=4000000) only[hlen,e0,aP,aY,dK,dV,go_sem]
  simp[ones]
 ·rw[hr0];exact AH.le_refl _
 ·simp -dsimp(maxSteps:=4000000) only[hlen,e0,aP,aY,dK,dV,go_sem]
  refine⟨fun h=>?_,fun h=>?_⟩
  ·have hi':i<8:=by omega
   have hn0:0≤b / 2 ^ i:=Int.ediv_nonneg hb.1 (Int.le_of_lt (Int.pow_pos (by decide)))
   have hn1:b / 2 ^ i≤b:=Int.ediv_le_self _ hb.1
   have e1:=dA (i:=i+1) (by omega)
   have e2:=Int.tmod_eq_emod_of_nonneg (b:=2) hn0
   have e3:(b / 2 ^ i % 2==1)=jQ b i:=rfl
   have e4:IntKind.i64.wrap (ones b i+b / 2 ^ i % 2)=ones b (i+1):=by have:=N9 b i;have:=qQ b i;rw[eH (by omega) (by omega)];rfl
   have e5:IntKind.i64.wrap ((b / 2 ^ i).tdiv 2)=b / 2 ^ (i+1):=by
    rw[Int.tdiv_eq_ediv_of_nonneg hn0,eH (by omega) (by omega),Int.pow_succ,Int.ediv_ediv_of_nonneg (Int.le_of_lt (Int.pow_pos (by decide)))]
   have hge:(0:Int)≤((i+1:Nat):Int):=by omega
   have hlt:((i+1:Nat):Int)<11:=by omega
   simp -dsimp(maxSteps:=4000000) only[e1,e2,e3,e4,e5,hge,hlt,(by omega:i≤9),hlen,e0,aP,aY,dK,dV,go_sem]
   exact again (i+1) _ _ (by omega) (bZ.aS (by simp -dsimp(maxSteps:=4000000) only[hlen,e0,aP,aY,dK,dV,go_sem])) (by rw[←List.map_set,hset i (by omega)];exact AH.le_refl _) (by omega)
  ·obtain rfl:i=8:=by omega
   rw[hr8]
   simp -dsimp(maxSteps:=4000000) only[hlen,e0,aP,aY,dK,dV,go_sem]
   refine out _ _ _ (by simp) ?_
   have e1:(ones b 8).tmod 2=ones b 8 % 2:=Int.tmod_eq_emod_of_nonneg (qQ b 8)
   cases odd<;>rcases Int.emod_two_eq (ones b 8) with h2 | h2<;>(simp -dsimp(maxSteps:=4000000) only[e1,h2,hlen,e0,aP,aY,dK,dV,go_sem])<;>exact⟨H,(AH.aK (AH.aK (AH.le_refl _) ((by simp only[hlen,e0,ah,aj,ne_eq,aP,not_false_eq_true,and_self]:aG _ b1).2)) ((by simp only[hlen,e0,ah,aj,ne_eq,dK,not_false_eq_true,and_self]:aG _ b2).2)),(by first | exact⟨by simp[G9,h2],rfl⟩ | rfl)⟩
end Go.Proofs.YtbhamhhjicehaaaGreatDoor.qG
/- uart.Take and its reference: what each comes to. -/
namespace Go.Proofs.YtbhamhhjicehaaaGreatDoor.qG
open Go Go.AX Go.Proofs Ty
set_option maxHeartbeats 2000000
def qm (l:List Bool):Nat→Int
 |0=>0
 |i+1=>qm l i+if l.getD (i+1) false then 2 ^ i else 0
def cnt (l:List Bool):Nat→Int
 |0=>0
 |i+1=>cnt l i+if l.getD (i+1) false then 1 else 0
def par (l:List Bool) (i:Nat):Bool:=cnt l i % 2==1
theorem mg (l:List Bool):∀ i,0≤qm l i
 |0=>by simp[qm]
 |i+1=>by
  have:=mg l i
  have:(0:Int)≤2 ^ i:=Int.le_of_lt (Int.pow_pos (by decide))
  simp only[qm];split<;>omega
theorem yO (l:List Bool):∀ i,qm l i<2 ^ i
 |0=>by simp[qm]
 |i+1=>by
  have:=yO l i
  have e:(2:Int) ^ (i+1)=2 ^ i*2:=Int.pow_succ _ _
  have:(0:Int)≤2 ^ i:=Int.le_of_lt (Int.pow_pos (by decide))
  simp only[qm];split<;>omega
theorem qo (l:List Bool):∀ i,0≤cnt l i
 |0=>by simp[cnt]
 |i+1=>by have:=qo l i;simp only[cnt];split<;>omega
theorem cnt_le (l:List Bool):∀ i,cnt l i≤i
 |0=>by simp[cnt]
 |i+1=>by have:=cnt_le l i;simp only[cnt];split<;>omega
theorem WU {l:List Bool} {i:Nat} (h:l.getD (i+1) false=true):par l (i+1)=!par l i:=by
 have:=qo l i
 simp only[par,cnt,h,if_true]
 rcases Int.emod_two_eq (cnt l i) with h1 | h1<;>simp[h1,show(cnt l i+1) % 2=1 - cnt l i % 2 from by omega]
theorem Qa {l:List Bool} {i:Nat} (h:l.getD (i+1) false=false):par l (i+1)=par l i:=by simp only[par,cnt,h,Bool.false_eq_true,if_false,Int.add_zero]
theorem ZE:∀ (v:Fin 256) (i:Fin 9),(v.val:Int)<2 ^ i.val→jf .or .u8 v.val (IntKind.u8.wrap (1*2 ^ min i.val IntKind.u8.bits))=if i.val=8 then (v.val:Int) else v.val+2 ^ i.val:=by decide +kernel
def zQ (l:List Bool) (i:Nat):Int:=qm l (min i 8)
theorem or_eq {l:List Bool} {i:Nat} (hi:i<9) (h:l.getD (i+1) false=true):jf .or .u8 (zQ l i) (IntKind.u8.wrap (1*2 ^ min i IntKind.u8.bits))=zQ l (i+1):=by
 have h0:=mg l i
 have h1:=yO l i
 rw[show zQ l i=qm l i from by unfold zQ;rw[Nat.min_eq_left (by omega)]]
 obtain⟨n,hn⟩:=Int.eq_ofNat_of_zero_le h0
 have hp:(2:Int) ^ i≤256:=(by decide:∀ i:Fin 9,(2:Int) ^ i.val≤256) ⟨i,hi⟩
 have:=ZE ⟨n,by omega⟩ ⟨i,hi⟩ (by simp only;omega)
 rw[hn];simp only at this;rw[this]
 by_cases h8:i=8
 ·subst h8;simp[zQ,←hn]
 ·rw[if_neg h8,←hn]
  simp only[zQ,Nat.min_eq_left (show i+1≤8 by omega),qm,h,if_true]
theorem WV {l:List Bool} {i:Nat} (h:l.getD (i+1) false=false):zQ l i=zQ l (i+1):=by
 unfold zQ
 by_cases h8:i<8
 ·rw[Nat.min_eq_left (by omega),Nat.min_eq_left (by omega)];simp only[qm,h,Bool.false_eq_true,if_false,Int.add_zero]
 ·rw[Nat.min_eq_right (by omega),Nat.min_eq_right (by omega)]
def vC (l:List Bool):Value:=if l.getD 0 false=true∨l.getD 10 false=false then .tuple #[.int .u8 0,.bool false,.int .i64 2] else .tuple #[.int .u8 (qm l 8),.bool (par l 9),.int .i64 0]
theorem wB {l:List Bool} (h:l.getD 0 false=true∨l.getD 10 false=false):vC l=.tuple #[.int .u8 0,.bool false,.int .i64 2]:=if_pos h
theorem DN {l:List Bool} (h0:l.getD 0 false=false) (h1:l.getD 10 false=true):vC l=.tuple #[.int .u8 (zQ l 9),.bool (par l 9),.int .i64 0]:=if_neg (by simp only[h0,h1];simp)
theorem tq {l:List Bool} {i:Nat} {x:Bool} (h:l[i]?=some x):l.getD i false=x:=by simp[List.getD_eq_getElem?_getD,h]
theorem Tt (l:List Bool) (hl:l.length=11) (H:AH):aO Tryz.prog 97 #[.agg (l.map Value.bool).toArray] H (fun v H'=>v=vC l∧H=H'):=by
 obtain⟨x0,hx0⟩:=get_some (l:=l) (i:=0) (by omega)
 obtain⟨x10,Tv⟩:=get_some (l:=l) (i:=10) (by omega)
 have hr0:(l.map Value.bool)[0]?=some (.bool x0):=by rw[List.getElem?_map,hx0];rfl
 have kX:(l.map Value.bool)[10]?=some (.bool x10):=by rw[List.getElem?_map,Tv];rfl
 have g0:=tq hx0
 have g10:=tq Tv
 refine aO.cu Tryz.func97 rfl Tryz.ntmps97 Tryz.results97 (by simp) ?_;simp -dsimp(maxSteps:=4000000) only[go_sem]
 refine bY.mk fun b1 iy=>?_;have aP:=iy;(try simp only[ah,aj,ne_eq]at aP);have aY:=aP;(try simp only[@eq_comm Nat b1]at aY);simp -dsimp(maxSteps:=4000000) only[hl,hr0,kX,aP,aY,go_sem]
 cases x0
 ·cases x10
  ·simp -dsimp(maxSteps:=4000000) only[hl,hr0,kX,aP,aY,go_sem]
   exact⟨H,(AH.aK (AH.le_refl _) ((by simp only[hl,hr0,kX,ah,aj,ne_eq,aP,not_false_eq_true,and_self]:aG _ b1).2)),(by first | exact⟨(wB (.inr g10)).symm,rfl⟩ | rfl)⟩
  ·simp -dsimp(maxSteps:=4000000) only[hl,hr0,kX,aP,aY,go_sem]
   refine fZ.gQ (ι:=Nat) (fun i=>i≤9) (fun i=>[(16,.int .i64 i),(15,.int .i64 9),(14,.slice (some ⟨b1,1,none⟩) 9 10),(3,.bool (par l i)),(2,.int .u8 (zQ l i))])
    (fun i=>H.add b1 (.cells (l.map Value.bool) 87 11)) (fun i=>9 - i) 0 (by omega) (bZ.aS ?_) ?_ fun i hi Q again out=>?_
   ·simp -dsimp(maxSteps:=4000000) only[hl,hr0,kX,aP,aY,go_sem]
    exact⟨rfl,rfl⟩
   ·rw[hl];exact AH.le_refl _
   ·simp -dsimp(maxSteps:=4000000) only[hl,hr0,kX,aP,aY,go_sem]
    refine⟨fun h=>?_,fun h=>?_⟩
    ·obtain⟨x,hx⟩:=get_some (l:=l) (i:=i+1) (by omega)
     have hr:(l.map Value.bool)[i+1]?=some (.bool x):=by rw[List.getElem?_map,hx];rfl
     have e1:=dA (i:=i) (by omega)
     simp -dsimp(maxSteps:=4000000) only[h,e1,Nat.add_comm 1 i,hr,hl,hr0,kX,aP,aY,go_sem]
     have gx:=tq hx
     cases x
     ·simp -dsimp(maxSteps:=4000000) only[hl,hr0,kX,aP,aY,go_sem]
      exact again (i+1) _ _ (by omega) (bZ.aS (by rw[←WV gx,Qa gx];simp -dsimp(maxSteps:=4000000) only[e1,hl,hr0,kX,aP,aY,go_sem])) (AH.le_refl _) (by omega)
     ·have e2:jf .or .u8 (zQ l i) (IntKind.u8.wrap (1*2 ^ min i 8))=zQ l (i+1):=or_eq (l:=l) (i:=i) (by omega) gx
      simp -dsimp(maxSteps:=4000000) only[e2,e1,hl,hr0,kX,aP,aY,go_sem]
      exact again (i+1) _ _ (by omega) (bZ.aS (by rw[WU gx];simp -dsimp(maxSteps:=4000000) only[hl,hr0,kX,aP,aY,go_sem])) (AH.le_refl _) (by omega)
    ·obtain rfl:i=9:=by omega
     simp -dsimp(maxSteps:=4000000) only[hl,hr0,kX,aP,aY,go_sem]
     refine out _ _ _ (by simp) ?_
     simp -dsimp(maxSteps:=4000000) only[hl,hr0,kX,aP,aY,go_sem]
     exact⟨H,(AH.aK (AH.le_refl _) ((by simp only[hl,hr0,kX,ah,aj,ne_eq,aP,not_false_eq_true,and_self]:aG _ b1).2)),(by first | exact⟨(DN g0 g10).symm,rfl⟩ | rfl)⟩
 ·simp -dsimp(maxSteps:=4000000) only[hl,hr0,kX,aP,aY,go_sem]
  exact⟨H,(AH.aK (AH.le_refl _) ((by simp only[hl,hr0,kX,ah,aj,ne_eq,aP,not_false_eq_true,and_self]:aG _ b1).2)),(by first | exact⟨(wB (.inl g0)).symm,rfl⟩ | rfl)⟩
end Go.Proofs.YtbhamhhjicehaaaGreatDoor.qG
/- the reference's Take: what it comes to. -/
namespace Go.Proofs.YtbhamhhjicehaaaGreatDoor.qG
open Go Go.AX Go.Proofs Ty
set_option maxHeartbeats 2000000
theorem ZF:∀ i:Fin 9,(2:Int) ^ i.val≤256:=by decide
theorem FH (l:List Bool) (hl:l.length=11) (H:AH):aO Tryz.prog 81 #[.agg (l.map Value.bool).toArray] H (fun v H'=>v=vC l∧H=H'):=by
 obtain⟨x0,hx0⟩:=get_some (l:=l) (i:=0) (by omega)
 obtain⟨x9,hx9⟩:=get_some (l:=l) (i:=9) (by omega)
 obtain⟨x10,Tv⟩:=get_some (l:=l) (i:=10) (by omega)
 have hr0:(l.map Value.bool)[0]?=some (.bool x0):=by rw[List.getElem?_map,hx0];rfl
 have JI:(l.map Value.bool)[9]?=some (.bool x9):=by rw[List.getElem?_map,hx9];rfl
 have kX:(l.map Value.bool)[10]?=some (.bool x10):=by rw[List.getElem?_map,Tv];rfl
 have g0:=tq hx0
 have g9:=tq hx9
 have g10:=tq Tv
 refine aO.cu Tryz.func81 rfl Tryz.ntmps81 Tryz.results81 (by simp) ?_;simp -dsimp(maxSteps:=4000000) only[go_sem]
 refine bY.mk fun b1 iy=>?_;have aP:=iy;(try simp only[ah,aj,ne_eq]at aP);have aY:=aP;(try simp only[@eq_comm Nat b1]at aY);simp -dsimp(maxSteps:=4000000) only[hl,hr0,JI,kX,aP,aY,go_sem]
 cases x0
 ·cases x10
  ·simp -dsimp(maxSteps:=4000000) only[hl,hr0,JI,kX,aP,aY,go_sem]
   exact⟨H,(AH.aK (AH.le_refl _) ((by simp only[hl,hr0,JI,kX,ah,aj,ne_eq,aP,not_false_eq_true,and_self]:aG _ b1).2)),(by first | exact⟨(wB (.inr g10)).symm,rfl⟩ | rfl)⟩
  ·simp -dsimp(maxSteps:=4000000) only[hl,hr0,JI,kX,aP,aY,go_sem]
   refine fZ.gQ (ι:=Nat) (fun i=>i≤8) (fun i=>[(8,.int .i64 ((i+1:Nat):Int)),(5,.int .i64 (qm l i)),(6,.int .i64 (2 ^ i)),(7,.int .i64 (cnt l i)),(1,.pointer (some ⟨b1,0,none⟩))])
    (fun i=>H.add b1 (.cells (l.map Value.bool) 87 11)) (fun i=>8 - i) 0 (by omega) (bZ.aS ?_) ?_ fun i hi Q again out=>?_
   ·simp -dsimp(maxSteps:=4000000) only[hl,hr0,JI,kX,aP,aY,go_sem]
    all_goals (first | rfl | exact⟨rfl,rfl⟩ | exact⟨rfl,rfl,rfl⟩)
   ·rw[hl];exact AH.le_refl _
   ·simp -dsimp(maxSteps:=4000000) only[hl,hr0,JI,kX,aP,aY,go_sem]
    refine⟨fun h=>?_,fun h=>?_⟩
    ·obtain⟨x,hx⟩:=get_some (l:=l) (i:=i+1) (by omega)
     have hr:(l.map Value.bool)[i+1]?=some (.bool x):=by rw[List.getElem?_map,hx];rfl
     have gx:=tq hx
     have hp:=ZF ⟨i,by omega⟩
     have hp0:(0:Int)<2 ^ i:=Int.pow_pos (by decide)
     have hv:=yO l i
     have hv0:=mg l i
     have hc:=cnt_le l i
     have hc0:=qo l i
     simp only at hp
     have e1:=dA (i:=i+1) (by omega)
     have e2:IntKind.i64.wrap (2*2 ^ i)=2 ^ (i+1):=by rw[eH (by omega) (by omega),Int.pow_succ,Int.mul_comm]
     have hge:(0:Int)≤((i+1:Nat):Int):=by omega
     have hlt:((i+1:Nat):Int)<11:=by omega
     cases x
     ·simp -dsimp(maxSteps:=4000000) only[hge,hlt,hr,e1,e2,hl,hr0,JI,kX,aP,aY,go_sem]
      exact again (i+1) _ _ (by omega) (bZ.aS (by rw[show qm l (i+1)=qm l i from (by simp only[qm,gx];simp),show cnt l (i+1)=cnt l i from (by simp only[cnt,gx];simp)];simp -dsimp(maxSteps:=4000000) only[hl,hr0,JI,kX,aP,aY,go_sem])) (AH.le_refl _) (by omega)
     ·have e3:IntKind.i64.wrap (qm l i+2 ^ i)=qm l (i+1):=by rw[eH (by omega) (by omega)];simp only[qm,gx,if_true]
      have e4:IntKind.i64.wrap (cnt l i+1)=cnt l (i+1):=by rw[eH (by omega) (by omega)];simp only[cnt,gx,if_true]
      simp -dsimp(maxSteps:=4000000) only[hge,hlt,hr,e1,e2,e3,e4,hl,hr0,JI,kX,aP,aY,go_sem]
      exact again (i+1) _ _ (by omega) (bZ.aS (by simp -dsimp(maxSteps:=4000000) only[hl,hr0,JI,kX,aP,aY,go_sem])) (AH.le_refl _) (by omega)
    ·obtain rfl:i=8:=by omega
     simp -dsimp(maxSteps:=4000000) only[hl,hr0,JI,kX,aP,aY,go_sem]
     refine out _ _ _ (by simp) ?_
     have hv:=yO l 8
     have hv0:=mg l 8
     have hc:=cnt_le l 8
     have hc0:=qo l 8
     have e5:IntKind.u8.wrap (qm l 8)=qm l 8:=IV hv0 (by simpa using hv)
     cases x9
     ·have e6:(cnt l 8).tmod 2=cnt l 9 % 2:=by rw[Int.tmod_eq_emod_of_nonneg hc0];simp only[cnt,g9];simp
      simp -dsimp(maxSteps:=4000000) only[e5,e6,hl,hr0,JI,kX,aP,aY,go_sem]
      exact⟨H,(AH.aK (AH.le_refl _) ((by simp only[hl,hr0,JI,kX,ah,aj,ne_eq,aP,not_false_eq_true,and_self]:aG _ b1).2)),(by first | exact⟨(DN g0 g10).symm,rfl⟩ | rfl)⟩
     ·have e6:IntKind.i64.wrap (cnt l 8+1)=cnt l 9:=by rw[eH (by omega) (by omega)];simp only[cnt,g9,if_true]
      have e7:(cnt l 9).tmod 2=cnt l 9 % 2:=Int.tmod_eq_emod_of_nonneg (qo l 9)
      simp -dsimp(maxSteps:=4000000) only[e5,e6,e7,hl,hr0,JI,kX,aP,aY,go_sem]
      exact⟨H,(AH.aK (AH.le_refl _) ((by simp only[hl,hr0,JI,kX,ah,aj,ne_eq,aP,not_false_eq_true,and_self]:aG _ b1).2)),(by first | exact⟨(DN g0 g10).symm,rfl⟩ | rfl)⟩
 ·simp -dsimp(maxSteps:=4000000) only[hl,hr0,JI,kX,aP,aY,go_sem]
  exact⟨H,(AH.aK (AH.le_refl _) ((by simp only[hl,hr0,JI,kX,ah,aj,ne_eq,aP,not_false_eq_true,and_self]:aG _ b1).2)),(by first | exact⟨(wB (.inl g0)).symm,rfl⟩ | rfl)⟩
end Go.Proofs.YtbhamhhjicehaaaGreatDoor.qG
/- the reference's store: Add. -/
namespace Go.Proofs.YtbhamhhjicehaaaGreatDoor.mF
open Go Go.AX Go.Proofs Ty Go.Proofs.YtbhamhhjicehaaaGreatDoor.File
set_option maxHeartbeats 4000000
theorem bG.drop {H:AH} {sz b o cap:Nat} {R:List (List Value)} (h:bG H sz (some ⟨b,o,none⟩) cap R) (k:Nat) (hk:k≤R.length):bG H sz (some ⟨b,if cap=k then o else o+k*sz,none⟩) (cap - k) (R.drop k):=by
 have hle:=h.le
 have hbig:=h.big
 by_cases hc:cap=k
 ·have hR:R.drop k=[]:=List.drop_eq_nil_of_le (by omega)
  rw[hR];exact bG.empty
 ·rw[if_neg hc]
  refine⟨by rw[List.length_drop];omega,by rw[List.length_drop];omega,fun i hi=>⟨b,o+k*sz,rfl⟩,fun b' o' hb i j r' c h1 h2=>?_,fun b' o' hb i r' h1=>?_⟩
  ·cases hb
   have:=h.rd b o rfl (k+i) j r' c (by rw[List.getElem?_drop]at h1;exact h1) h2
   rw[show o+((k+i)*sz+j)=o+k*sz+(i*sz+j) from by rw[Nat.add_mul];omega]at this
   exact this
  ·cases hb
   have:=h.row b o rfl (k+i) r' (by rw[List.getElem?_drop]at h1;exact h1)
   rw[show o+(k+i)*sz=o+k*sz+i*sz from by rw[Nat.add_mul];omega]at this
   exact this
theorem Tz {n:Int} {f:Fl}:∀ {X:List Nf} {k:Nat},(∀ x∈X.take k,x.1<n)→(∀ x,X[k]?=some x→¬ x.1<n)→ins n f X=X.take k++(n,f)::X.drop k
 | [],k,_,_=>by simp[ins]
 |x::l,0,_,h=>by
  rw[ins,if_neg (h x rfl)];rfl
 |x::l,k+1,h1,h2=>by
  rw[ins,if_pos (h1 x (by simp))]
  rw[Tz (k:=k) (fun y hy=>h1 y (by simp[hy])) (fun y hy=>h2 y (by simpa using hy))]
  rfl
def TA (H:AH) (rd:Nat→Prop):Prop:=∀ x,rd x→¬ aG H x
theorem TA.keep {H H':AH} {rd ex:Nat→Prop} (h:TA H rd) (hK:Keep H H' ex) (hd:∀ x,rd x→¬ ex x):TA H' rd:=fun x hx hf=>h x hx (hK.fresh hf (hd x hx))
def jU (H:AH) (b:Nat) (Z:List RF) (den:Int) (rd:Nat→Prop):Prop:=∃ base cap,H.find b=some (.cells [.slice base Z.length cap,.int .i64 den] 50 2)∧zJ H base cap Z rd∧¬ rd b∧((base=none∧Z=[]∧cap=0)∨∃ q o,base=some ⟨q,o,none⟩)∧TA H rd
theorem jU.at {H:AH} {b:Nat} {Z:List RF} {den:Int} {rd:Nat→Prop} (h:jU H b Z den rd):uX H b Z den rd:=by
 obtain⟨base,cap,h1,h2,h3,_⟩:=h
 exact⟨base,cap,h1,h2,h3⟩
theorem jU.keep {H H':AH} {b:Nat} {Z:List RF} {den:Int} {rd ex:Nat→Prop} (h:jU H b Z den rd) (hK:Keep H H' ex) (hd:∀ x,rd x→¬ ex x) (hb:¬ ex b):jU H' b Z den rd:=by
 obtain⟨base,cap,h1,h2,h3,h4,h5⟩:=h
 exact⟨base,cap,hK.find hb h1,h2.keep hK hd,h3,h4,h5.keep hK hd⟩
theorem qR (Z:List RF):∀ r∈Z.map gK,r.length=3:=fun r hr=>by
 obtain⟨z,_,rfl⟩:=List.mem_map.1 hr
 rfl
theorem JJ (Z:List RF):((Z.map gK).flatten).all iM=true:=by
 rw[List.all_flatten,List.all_map,List.all_eq_true]
 intro r _;rfl
theorem TB {H:AH} {b:Nat} {Z:List RF} {den:Int} {rd:Nat→Prop} (h:jU H b Z den rd) (hX:lG (Z.map RF.nf)) (hS:kK (Z.map RF.nf)) (n p:Int) (R:List Rc) (base:Option Addr) (cap:Nat) (hs:bG H 4 base cap (R.map enc)) (hb:R=[]∨∀ a,base=some a→a.block≠b∧¬ aG H a.block) :
  aO Tryz.prog 54 #[.pointer (some ⟨b,0,none⟩),.int .i64 n,fv p base R.length cap] H (fun u H'=>∃ Z' rd',u=.int .i64 (mX (Z.map RF.nf) n (p,R))∧Z'.map RF.nf=(if mX (Z.map RF.nf) n (p,R)=0 then ins n (p,R) (Z.map RF.nf) else Z.map RF.nf)∧jU H' b Z' den rd'∧Keep H H' (·=b)∧∀ x,rd' x→rd x∨aG H x∨(R≠[]∧∃ a,base=some a∧x=a.block)):=by
 have hat:=fun H1 (h1:uX H1 b Z den rd)=>Wv h1 n
 have hgood:=fun H1 (h1:bG H1 4 base cap (R.map enc))=>File.jX p R base cap H1 h1
 have Yk:Z.length≤64:=by have:=hX.len;simpa using this
 have bad:∀ {e:Int} {T:AH},mX (Z.map RF.nf) n (p,R)=e→e≠0→H.le T→∃ H',H'.le T∧∃ Z' rd',Value.int .i64 e=.int .i64 (mX (Z.map RF.nf) n (p,R))∧Z'.map RF.nf=(if mX (Z.map RF.nf) n (p,R)=0 then ins n (p,R) (Z.map RF.nf) else Z.map RF.nf)∧jU H' b Z' den rd'∧Keep H H' (·=b)∧∀ x,rd' x→rd x∨aG H x∨(R≠[]∧∃ a,base=some a∧x=a.block):=fun {e T} he h0 hl=>
  ⟨H,hl,Z,rd,by rw[he],by rw[he,if_neg h0],h,Keep.refl,fun x h=>.inl h⟩
 unfold fv at hgood ⊢
 refine aO.cu Tryz.func54 rfl Tryz.ntmps54 Tryz.results54 (by simp) ?_;simp -dsimp(maxSteps:=4000000) only[go_sem]
 refine bY.mk fun b5 iW=>?_;have bQ:=iW;(try simp only[ah,aj,ne_eq]at bQ);have dB:=bQ;(try simp only[@eq_comm Nat b5]at dB);simp -dsimp(maxSteps:=4000000) only[bQ,dB,go_sem]
 by_cases a1:n<0
 ·simp -dsimp(maxSteps:=4000000) only[a1,bQ,dB,go_sem]
  exact bad (by simp[mX,a1]) (by decide) (AH.aK (AH.le_refl _) ((by simp only[ah,aj,ne_eq,bQ,not_false_eq_true,and_self]:aG _ b5).2))
 by_cases a2:63<n
 ·simp -dsimp(maxSteps:=4000000) only[a1,a2,bQ,dB,go_sem]
  exact bad (by have:64≤n:=by omega
                simp[mX,this]) (by decide) (AH.aK (AH.le_refl _) ((by simp only[ah,aj,ne_eq,bQ,not_false_eq_true,and_self]:aG _ b5).2))
 have a3:¬ 64≤n:=by omega
 simp -dsimp(maxSteps:=4000000) only[a1,a2,bQ,dB,go_sem]
 refine(hgood _ (hs.add (by simp only[ah,ne_eq,bQ,not_false_eq_true,and_self]:aG _ b5))).mono ?_;rintro _ _ ⟨rfl,rfl⟩
 cases hg:iG p R with
 |false=>
  simp -dsimp(maxSteps:=4000000) only[bQ,dB,go_sem]
  exact bad (by simp[mX,a1,a3,hg]) (by decide) (AH.aK (AH.le_refl _) ((by simp only[ah,aj,ne_eq,bQ,not_false_eq_true,and_self]:aG _ b5).2))
 |true=>
  simp -dsimp(maxSteps:=4000000) only[bQ,dB,go_sem]
  refine(hat _ (h.at.keep (Keep.add iW (ex:=fun _=>False)) (fun _ _ h=>h) fun h=>h)).mono ?_
  rintro _ _ ⟨r,rfl,ho,rfl⟩
  rcases ho with ⟨rfl,hl⟩ | ⟨i,z,rfl,hz,hn,hl⟩
  case' inr=>
   have hi0:(0:Int)≤(i:Int):=by omega
   simp -dsimp(maxSteps:=4000000) only[hi0,bQ,dB,go_sem]
   exact bad (by simp[mX,a1,a3,hg,hl]) (by decide) (AH.aK (AH.le_refl _) ((by simp only[ah,aj,ne_eq,bQ,not_false_eq_true,and_self]:aG _ b5).2))
  obtain⟨zb,zc,ht,hZ,hnb,hzb,hk⟩:=h
  have he:mX (Z.map RF.nf) n (p,R)=0:=by simp[mX,a1,a3,hg,hl]
  rw[he]
  simp -dsimp(maxSteps:=4000000) only[bQ,dB,go_sem]
  refine bY.mk fun bl iR=>?_
  have dH:¬ bl=b5∧aG H bl:=by simpa only[ah,ne_eq]using iR
  simp -dsimp(maxSteps:=4000000) only[bQ,dB,go_sem]
  obtain⟨H1,hH1⟩:∃ H1,H.add b5 (.cells [.int .i64 p,.slice base R.length cap] 65 2)=H1:=⟨_,rfl⟩
  have k1:Keep H H1 fun _=>False:=hH1▸Keep.add iW
  have f5:H1.find b5=some (.cells [.int .i64 p,.slice base R.length cap] 65 2):=by rw[←hH1,aH]
  rw[hH1]at iR ⊢
  have ht1:=k1.find (fun h=>h) ht
  have hZ1:=hZ.keep k1 fun _ _ h=>h
  have hs1:=hs.keep k1 fun _ _ h=>h
  refine fZ.jE (ι:=Nat×Option Addr×Nat) (fun s A=>s.1≤Z.length∧(∀ x∈(Z.map RF.nf).take s.1,x.1<n)∧fJ H1 A 67 3 s.2.1 s.2.2 ((Z.take s.1).map gK)∧Keep H1 A fun _=>False)
   (fun s=>[(8,.int .i64 s.1),(7,.slice s.2.1 s.1 s.2.2),(0,.pointer (some ⟨b,0,none⟩)),(1,.int .i64 n),(5,.pointer (some ⟨b5,0,none⟩))]) (fun s=>Z.length - s.1) (0,some ⟨bl,0,none⟩,0) (H1.add bl (.cells [] 67 0))
   ⟨by simp,by simp,fJ.new iR (AH.le_refl _) rfl rfl rfl (by simp) (by simp),Keep.add iR⟩ (bZ.aS ?_) (AH.le_refl _) fun s A hV Q again out=>?_
  ·simp -dsimp(maxSteps:=4000000) only[bQ,dB,go_sem]
  clear dH iR
  obtain⟨i,ob,oc⟩:=s
  obtain⟨hi,hlt,hO,hK⟩:=hV
  dsimp only at hi hlt hO hK ⊢
  have htA:=hK.find (fun h=>h) ht1
  have hZA:=hZ1.keep hK fun _ _ h=>h
  have r0:A.rd ⟨b,0,none⟩=some (.slice zb Z.length zc):=by rw[gB htA];rfl
  have hi0:(0:Int)≤(i:Int):=by omega
  have ee:=dA (i:=i) (by omega)
  have hti:(Z.take i).length=i:=by rw[List.length_take];omega
  have hro:((i:Int)<Z.length∧∃ z,Z[i]?=some z∧∃ b_ o,zb=some ⟨b_,o,none⟩∧A.row b_ (o+i*3) 3=some (gK z)∧A.rd ⟨b_,o+i*3,none⟩=some (.int .i64 z.n))∨¬ (i:Int)<Z.length:=by
   by_cases hin:(i:Int)<Z.length
   ·obtain⟨z,hz⟩:=get_some (l:=Z) (i:=i) (by omega)
    obtain⟨b_,o,he,hrow,hrd⟩:=hZA.out.get (Go.AX.dn (f:=gK) hz)
    exact .inl ⟨hin,z,hz,b_,o,he,hrow,hrd 0 _ rfl⟩
   ·exact .inr hin
  rcases hro with ⟨hin,z,hz,b_,o,he,hrow,rz⟩ | hin
  case' inl=>by_cases hzn:z.n<n
  case' pos=>
   subst he
   simp -dsimp(maxSteps:=4000000) only[r0,hin,rz,hi0,hzn,go_sem]
   unfold gK at hrow
   simp -dsimp(maxSteps:=4000000) only[r0,hin,hi0,hrow,go_sem]
   refine bY.mk fun bx mY=>?_;have jc:=mY;(try simp only[ah,aj,ne_eq]at jc);have jG:=jc;(try simp only[@eq_comm Nat bx]at jG);simp -dsimp(maxSteps:=4000000) only[jc,jG,go_sem]
   have hO2:fJ H1 (A.add bx (.cells (gK z) 67 3)) 67 3 ob oc ((Z.take i).map gK):=hO.added mY
   have hK2:Keep H1 (A.add bx (.cells (gK z) 67 3)) fun _=>False:=hK.nw mY
   refine lS.nD (x:=.slice (some ⟨bx,0,none⟩) 1 1) (R':=[gK z]) (m:=1) hO2 hK2.all Ak rfl (by decide) (by rw[Tryz.underlying46];rfl) (by rw[List.length_map,hti]) rfl rfl (by rw[iF,fO];rfl) (by simp[gK]) (by simp[gK,iM]) (by omega) fun base' cap' A' kJ hK' hN'=>?_
   refine⟨A',AH.le_refl _,?_⟩
   simp -dsimp(maxSteps:=4000000) only[ee,jc,jG,go_sem]
   refine again (i+1,base',cap') _ A' _ ⟨by dsimp only;omega,fun x hx=>?_,?_,hK2.ow hK' fun b ⟨a,ha,e⟩=>e▸hO.fresh a ha⟩ (bZ.aS (by simp -dsimp(maxSteps:=4000000) only[jc,jG,go_sem])) (AH.le_refl _) (by dsimp only;omega)
   ·dsimp only at hx
    rw[List.take_add_one,List.mem_append]at hx
    rcases hx with hx | hx
    ·exact hlt x hx
    ·rw[List.getElem?_map,hz]at hx
     simp at hx;subst hx;exact hzn
   ·dsimp only
    rw[List.take_add_one,List.map_append,hz]
    exact kJ
  case' neg=>
   have hge:∀ x,(Z.map RF.nf)[i]?=some x→¬ x.1<n:=fun x hx=>by
    rw[List.getElem?_map,hz]at hx;cases hx;exact hzn
   simp -dsimp(maxSteps:=4000000) only[r0,hin,he,rz,hi0,hzn,go_sem]
   refine out _ _ _ (by simp) ?_
   clear hz hrow rz hzn he
  case' inr=>
   have hge:∀ x,(Z.map RF.nf)[i]?=some x→¬ x.1<n:=fun x hx=>by
    rw[List.getElem?_eq_none (by rw[List.length_map];omega)]at hx;cases hx
   simp -dsimp(maxSteps:=4000000) only[r0,hin,go_sem]
   refine out _ _ _ (by simp) ?_
  all_goals
   clear out again
   have hins:=Tz (f:=(p,R)) hlt hge
   have w5:A.row b5 0 2=some [.int .i64 p,.slice base R.length cap]:=iZ (hK.find (fun h=>h) f5) (by simp)
   simp -dsimp(maxSteps:=4000000) only[go_sem]
   have w51:H1.row b5 0 2=some [.int .i64 p,.slice base R.length cap]:=iZ f5 (by simp)
   refine fZ.gen [.pu,.pu,.pu,.rd,.pu,.al,.ch,.pu,.pu,.pu,.rd,.pu,.pu,.ch,.pu,.pu,.ch] [0,0,0,0,12,28,62,0,128,384,896,0,3968,8190,16383,32767,65535] 7 (H1) mixed (by kernel_rfl) (hK.all) ?_
   simp -dsimp(maxSteps:=4000000) only[w5,w51,hK.all,go_sem]
   refine bY.mk fun bx mY=>?_;have jc:=mY;(try simp only[ah,aj,ne_eq]at jc);have jG:=jc;(try simp only[@eq_comm Nat bx]at jG);simp -dsimp(maxSteps:=4000000) only[jc,jG,go_sem]
   have hO2:fJ H1 (A.add bx (.cells (gK ⟨n,p,base,cap,R⟩) 67 3)) 67 3 ob oc ((Z.take i).map gK):=hO.added mY
   have hK2:Keep H1 (A.add bx (.cells (gK ⟨n,p,base,cap,R⟩) 67 3)) fun _=>False:=hK.nw mY
   refine lS.nD (x:=.slice (some ⟨bx,0,none⟩) 1 1) (R':=[gK ⟨n,p,base,cap,R⟩]) (m:=1) hO2 hK2.all Ak rfl (by decide) (by rw[Tryz.underlying46];rfl) (by rw[List.length_map,hti]) rfl rfl (by rw[iF,fO];rfl) (by simp[gK]) (by simp[gK,iM]) (by omega) fun gV cap2 A2 hO3 hK3 hN3=>?_
   refine⟨A2,AH.le_refl _,?_⟩
   have k2:Keep H1 A2 fun _=>False:=hK2.ow hK3 fun b ⟨a,ha,e⟩=>e▸hO.fresh a ha
   have r2:H1.rd ⟨b,0,none⟩=some (.slice zb Z.length zc):=by rw[gB ht1];rfl
   have hi':(i:Int)≤Z.length:=by omega
   have hzc:Z.length≤zc:=by have:=hZ.out.le;simpa using this
   have agW:(Z.length:Int)≤zc:=by omega
   have hR0:R≠[]:=fun e=>by subst e;simp[iG]at hg
   have hb':=hb.resolve_left hR0
   have hbk:∀ {x},aG H1 x→x≠b:=fun hf e=>hf.cO ht1 e
   have fin:∀ nG cap3 (A3:AH),fJ H1 A3 67 3 nG cap3 (((Z.take i).map gK++[gK ⟨n,p,base,cap,R⟩])++(Z.map gK).drop i)→(Keep H1 A3 fun _=>False)→∃ H',H'.le (A3.set b (.cells [.slice nG (Z.length+1) cap3,.int .i64 den] 50 2))∧∃ Z' rd',Z'.map RF.nf=ins n (p,R) (Z.map RF.nf)∧jU H' b Z' den rd'∧Keep H H' (·=b)∧∀ x,rd' x→rd x∨aG H x∨(R≠[]∧∃ a,base=some a∧x=a.block):=fun nG cap3 A3 hO4 k3=>by
    have hZe:(Z.take i++(⟨n,p,base,cap,R⟩:RF)::Z.drop i).map gK=((Z.take i).map gK++[gK ⟨n,p,base,cap,R⟩])++(Z.map gK).drop i:=by simp[List.map_drop]
    have agX:(Z.take i++(⟨n,p,base,cap,R⟩:RF)::Z.drop i).length=Z.length+1:=by simp;omega
    rw[←hZe]at hO4
    have ZG:∀ a,nG=some a→a.block≠b:=fun a ha=>hbk (hO4.fresh a ha)
    have hset:Keep A3 (A3.set b (.cells [.slice nG (Z.length+1) cap3,.int .i64 den] 50 2)) (·=b):=Keep.set
    have ZH:Keep H (A3.set b (.cells [.slice nG (Z.length+1) cap3,.int .i64 den] 50 2)) (·=b):=(((k1.trans k3).mono fun _ h=>h.elim)).trans hset
    have hN:=(hZ1.keep k3 fun _ _ h=>h).keep hset fun x hx e=>hnb (e▸hx)
    have hsz':=(hs1.keep k3 fun _ _ h=>h).keep hset fun a ha=>(hb' a ha).1
    refine⟨_,AH.le_refl _,Z.take i++⟨n,p,base,cap,R⟩::Z.drop i,fun x=>rd x∨(∃ a,nG=some a∧x=a.block)∨∃ a,base=some a∧x=a.block,?_,⟨nG,cap3,?_,⟨?_,fun z hz=>?_,.inr fun a ha=>.inr (.inl ⟨a,ha,rfl⟩),fun z hz=>?_⟩,?_,?_,?_⟩,ZH,?_⟩
    ·rw[hins];simp[RF.nf,List.map_take,List.map_drop]
    ·rw[dw,if_pos rfl,agX]
    ·exact hO4.slc.keep hset ZG
    ·rcases List.mem_append.1 hz with hz | hz
     ·exact hN.inn z (List.mem_of_mem_take hz)
     ·rcases List.mem_cons.1 hz with rfl | hz
      ·exact hsz'
      ·exact hN.inn z (List.mem_of_mem_drop hz)
    ·rcases List.mem_append.1 hz with hz | hz
     ·exact(hZ.r2 z (List.mem_of_mem_take hz)).imp id fun h a ha=>.inl (h a ha)
     ·rcases List.mem_cons.1 hz with rfl | hz
      ·exact .inr fun a ha=>.inr (.inr ⟨a,ha,rfl⟩)
      ·exact(hZ.r2 z (List.mem_of_mem_drop hz)).imp id fun h a ha=>.inl (h a ha)
    ·rintro(h | ⟨a,ha,e⟩ | ⟨a,ha,e⟩)
     ·exact hnb h
     ·exact ZG a ha e.symm
     ·exact(hb' a ha).1 e.symm
    ·rcases hO4.at_ with ⟨_,h,_⟩ | ⟨b',bs,h,_⟩
     ·simp at h
     ·exact .inr ⟨b',0,h⟩
    ·rintro x (h | ⟨a,ha,e⟩ | ⟨a,ha,e⟩) hf
     ·exact hk x h (ZH.fresh hf fun e=>hnb (e▸h))
     ·subst e
      rcases hO4.at_ with ⟨h,_⟩ | ⟨b',bs,h,hfd,_⟩
      ·rw[ha]at h;cases h
      ·rw[ha]at h;cases h
       have:=hf.2
       rw[dw,if_neg (ZG _ ha),hfd]at this;cases this
     ·subst e
      exact(hb' a ha).2 (ZH.fresh hf (hb' a ha).1)
    ·rintro x (h | ⟨a,ha,e⟩ | ⟨a,ha,e⟩)
     ·exact .inl h
     ·subst e;exact .inr (.inl (k1.fr (hO4.fresh a ha)))
     ·exact .inr (.inr ⟨hR0,a,ha,e⟩)
   rcases hzb with ⟨rfl,rfl,rfl⟩ | ⟨q,o,rfl⟩
   ·obtain rfl:i=0:=by simpa using hi
    simp -dsimp(maxSteps:=4000000) only[r2,k2.all,go_sem]
    refine lS.growS (m:=0) (R':=([]:List RF).map gK) hO3 k2.all Ak rfl (by decide) (by decide) (by rw[Tryz.underlying46];rfl) (by simp) rfl bG.empty (qR []) (JJ []) (by omega) fun nG cap3 A3 hO4 hK4 hN4=>?_
    refine⟨A3,AH.le_refl _,?_⟩
    have k3:Keep H1 A3 fun _=>False:=k2.ow hK4 fun b ⟨a,ha,e⟩=>e▸hO3.fresh a ha
    have hw:A3.uH b 0 [.slice nG 1 cap3]=some (A3.set b (.cells [.slice nG 1 cap3,.int .i64 den] 50 2)):=by
     simp[AH.uH,k3.find (fun h=>h) ht1,iO,iM]
    simp -dsimp(maxSteps:=4000000) only[hw,go_sem]
    exact fin nG cap3 A3 hO4 k3
   ·simp -dsimp(maxSteps:=4000000) only[r2,k2.all,hi',agW,hi0,go_sem]
    refine lS.growS (m:=Z.length - i) (R':=(Z.map gK).drop i) hO3 k2.all Ak rfl (by decide) (by decide) (by rw[Tryz.underlying46];rfl) (by rw[List.length_append,List.length_map,hti];rfl) (by simp) (bG.drop (hZ1.keep k2 fun _ _ h=>h).out i (by simpa using hi)) (fun r hr=>qR Z r (List.mem_of_mem_drop hr)) (by rw[←List.map_drop];exact JJ _) (by omega) fun nG cap3 A3 hO4 hK4 hN4=>?_
    refine⟨A3,AH.le_refl _,?_⟩
    have k3:Keep H1 A3 fun _=>False:=k2.ow hK4 fun b ⟨a,ha,e⟩=>e▸hO3.fresh a ha
    rw[show i+1+(Z.length - i)=Z.length+1 from by omega]
    have hw:A3.uH b 0 [.slice nG (Z.length+1) cap3]=some (A3.set b (.cells [.slice nG (Z.length+1) cap3,.int .i64 den] 50 2)):=by
     simp[AH.uH,k3.find (fun h=>h) ht1,iO,iM]
    simp -dsimp(maxSteps:=4000000) only[hw,go_sem]
    exact fin nG cap3 A3 hO4 k3
end Go.Proofs.YtbhamhhjicehaaaGreatDoor.mF
