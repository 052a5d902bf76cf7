/- For every input BusRounds answers true and leaves its arguments as_ they were; the package's one variable holds what the program's text lays into it: the tied card. -/
import Derived.Test.YtbhamhhjicehaaaGreatDoorMBusRounds8
import Derived.Test.YtbhamhhjicehaaaGreatDoorRows
import Derived.Test.YtbhamhhjicehaaaGreatDoorCards
import Derived.Test.YtbhamhhjicehaaaGreatDoorTie
import Derived.ChangeSame
import Derived.ChangeVars
import Derived.JoinedOf
import Derived.RowKit
import Derived.RowKitTokens
import Derived.LaidLaws
import Derived.LaidHandle
import Derived.Stop.Joined
import Derived.SevenTiedAt
set_option linter.unusedSimpArgs false
set_option linter.unusedVariables false
set_option maxHeartbeats 4000000
/- bus: a cell with its oscillator among the arguments. -/
namespace Go.Proofs.YtbhamhhjicehaaaGreatDoor.ED
open Go Go.AX Go.ChangeShapes Go.WideShapes Go.ChangeAt Go.RowKit
open Go.Proofs.YtbhamhhjicehaaaGreatDoor.jh (open_cell Bj)
set_option maxRecDepth 100000
theorem XF {HT:Type} {ec:TypeId×Value→HT} {W:World} {sp:Nat→Bool} {held:Bool} {cs:List Value} (hl:cs.length=4) (hc:wQ ec Tryz.prog W 0 sp held [46,58,4,59] cs) :
  ∃ d:Cb,cs=Bj d.1∧Uw ⟨W,[]⟩ d:=by
 obtain⟨c,he,hci⟩:=open_cell hl hc
 obtain⟨c0,c1,c2,c3,rfl⟩:=list4 hl
 have e3:c3=c.st:=by simp only[Bj,List.cons.injEq]at he;exact he.2.2.2.1
 obtain⟨_,_,t3⟩:=hc 3 _ _ rfl rfl
 obtain⟨b,n,cp,R,rfl,Yu,hs,hR⟩:=vY (P:=Tryz.prog) (sz:=2) Tryz.underlying59 (by kernel_rfl) (by simp) (show jO Tryz.prog 20 81=some [3,3] by kernel_rfl) rfl ⟨_,t3⟩
 obtain⟨K,rfl,_⟩:=sJ (f:=wJ.enc) (G:=fun _=>True) (fun i r hr=>by
  obtain⟨hl,hc⟩:=hR i r hr
  obtain⟨c0,c1,rfl⟩:=X8 hl
  obtain⟨_,_,t0⟩:=hc 0 _ _ rfl rfl
  obtain⟨a0,q0,_,w0⟩:=DataW.trod_int Tryz.underlying3 t0;cases q0
  obtain⟨_,_,t1⟩:=hc 1 _ _ rfl rfl
  obtain⟨a1,q1,_,w1⟩:=DataW.trod_int Tryz.underlying3 t1;cases q1
  exact⟨⟨a0,a1⟩,rfl,trivial⟩)
 rw[List.length_map]at Yu;subst Yu
 exact⟨(c,b,cp,K),he,hci,e3.symm,hs⟩
end Go.Proofs.YtbhamhhjicehaaaGreatDoor.ED
/- bus: the fixed fact. -/
namespace Go.Proofs.YtbhamhhjicehaaaGreatDoor.ED
open Go Go.AX Go.Proofs Ty Go.Proofs.YtbhamhhjicehaaaGreatDoor.lV Go.Proofs.YtbhamhhjicehaaaGreatDoor.Qm Go.Proofs.YtbhamhhjicehaaaGreatDoor.Err
open Go.Proofs.YtbhamhhjicehaaaGreatDoor.kK (Sp)
open Go.Proofs.YtbhamhhjicehaaaGreatDoor.wJ (Stp good)
open Go.Proofs.YtbhamhhjicehaaaGreatDoor.File (enc au ak newR hd nX Jb Ja fv)
open Go.Proofs.YtbhamhhjicehaaaGreatDoor.mF (Nf Fl iV lG Dt Js yG mX iJ uV Jr Keep.set aC aB)
open Go.Proofs.YtbhamhhjicehaaaGreatDoor.jh (SR oq encS jH Bj jy lU Ow P2 FM EM adp Hq)
open Go.Proofs.YtbhamhhjicehaaaGreatDoor.pF (Tb ig kW gG En tabs kR snd)
set_option maxRecDepth 10000
theorem adQ (P:List jh.Sp) (base:Option Addr) (cap:Nat) (H:AH) (hP:bG H 2 base cap (P.map jh.dN)) :
  aO Tryz.prog 10 #[.slice base P.length cap] H (fun v H'=>v=.slice base (P.take 20).length cap∧H=H'):=by
 have hbig:=hP.big
 have hle:=hP.le
 simp only[List.length_map]at hbig hle
 refine aO.cu Tryz.func10 rfl Tryz.ntmps10 Tryz.results10 (by simp) ?_;simp -dsimp(maxSteps:=4000000) only[go_sem]
 by_cases h:(20:Int)<P.length
 ·have h1:(20:Int)≤cap:=by omega
  have h3:(P.take 20).length=20:=by rw[List.length_take];omega
  obtain⟨p,hp⟩:=get_some (l:=P) (i:=0) (by omega)
  obtain⟨q,o,rfl,_,_⟩:=hP.get (Go.AX.dn (f:=jh.dN) hp)
  simp -dsimp(maxSteps:=4000000) only[h,h1,ite_self,Nat.sub_zero,go_sem]
  exact⟨H,(AH.le_refl _),(by first | exact⟨by rw[h3],rfl⟩ | rfl)⟩
 ·have h3:(P.take 20).length=P.length:=by rw[List.length_take];omega
  simp -dsimp(maxSteps:=4000000) only[h,go_sem]
  exact⟨H,(AH.le_refl _),(by first | exact⟨by rw[h3],rfl⟩ | rfl)⟩
theorem XG {H:AH} {P:List jh.Sp} {base:Option Addr} {cap:Nat} (hP:bG H 2 base cap (P.map jh.dN)):bG H 2 base cap ((P.take 20).map jh.dN):=by
 rw[List.map_take];exact hP.take
theorem aay {C:List Cb} {w:Bd} {H A:AH} {jm:Nat→Prop} {Q:List jh.Sp} {bp:Option Addr} {cp:Nat} (hin:∀ c∈C,Uw H c) (hO:Ow H A w.own jm) (hP:P2 A jm w.S w.R) (hb:QA C (min C.length 6) w) (hQ:bG A 2 bp cp (Q.map jh.dN)) :
  AU A ⟨w.b1,w.c1,w.b3,w.c3,w.b4,w.c4,bp,cp,w.b5,w.c5⟩ w.S w.T w.B Q w.O where
 s:=⟨(hO.ow 0 _ rfl).slc,fun s h=>(hP.1 s h).1⟩
 t:=⟨(hO.ow 2 _ rfl).slc,fun x hx=>by
  rw[hb.t]at hx
  obtain⟨c,hc,rfl⟩:=List.mem_map.1 hx
  have h:=((hin c (List.mem_of_mem_take hc)).c.t.keep hO.kp fun _ _ h=>h).take (n:=70)
  rw[←List.map_take]at h
  exact h⟩
 b:=(hO.ow 3 _ rfl).slc
 p:=hQ
 o:=⟨(hO.ow 4 _ rfl).slc,fun x hx=>by
  rw[hb.o]at hx
  obtain⟨c,hc,rfl⟩:=List.mem_map.1 hx
  have h:=((hin c (List.mem_of_mem_take hc)).s.keep hO.kp fun _ _ h=>h).take (n:=70)
  rw[←List.map_take]at h
  exact h⟩
 l1:=by rw[hb.t,hb.s,List.length_map,List.length_take];omega
 l2:=by rw[hb.b,hb.s,List.length_map,List.length_take];omega
 l4:=by rw[hb.s];omega
theorem OI (k s x:Int) (H:AH):aO Tryz.prog 30 #[.int .i64 k,.int .i64 s,.int .i64 x] H (fun v H'=>v=.agg #[.int .i64 k,.int .i64 s,.int .i64 1,.int .i64 1,.int .i64 x]∧H=H'):=by
 refine aO.cu Tryz.func30 rfl Tryz.ntmps30 Tryz.results30 (by simp) ?_;simp -dsimp(maxSteps:=4000000) only[go_sem]
 refine bY.mk fun b4 jr=>?_;have aT:=jr;(try simp only[ah,aj,ne_eq]at aT);have aX:=aT;(try simp only[@eq_comm Nat b4]at aX);simp -dsimp(maxSteps:=4000000) only[aT,aX,go_sem]
 exact⟨H,(AH.aK (AH.le_refl _) ((by simp only[ah,aj,ne_eq,aT,not_false_eq_true,and_self]:aG _ b4).2)),(by first | exact⟨rfl,rfl⟩ | rfl)⟩
def Fa:Fl:=(3,(newR 3 1).set 1 (255,8,0,0))
def Xa:List Nf:=yG [] 1 Fa
theorem adR:lG Xa:=lG.nil.add 1 Fa (by unfold nX;decide +kernel)
def La:List pF.En:=[(1,1,1,1,0)]
def Lb:List pF.En:=[(2,1,1,1,3)]
def Tw (a b:Option Addr):List Tb:=[(a,1,La),(b,1,Lb)]
def Oa (a b:Option Addr):List Sl:=[(a,1,[⟨0,2000⟩]),(b,1,[⟨0,-2000⟩])]
def On:List Sl:=[(none,0,[]),(none,0,[])]
theorem YB (a b c d:Option Addr):lX 2 (Tw a b) (Oa c d)=0:=by kernel_rfl
theorem adS (a b:Option Addr):lX 2 (Tw a b) On=0:=by kernel_rfl
theorem adT (a b:Option Addr):lX 2 (Tw a b) []=1:=by kernel_rfl
theorem adU (a b:Option Addr):iJ (jy (FM [Xa,Xa] (Tw a b) [true,true] []) Xa 0 (b,1,Lb) true).1 1 1=some (255,8,0,255):=by kernel_rfl
def Ra:List Sp:=[(224,240),(368,384)]
theorem Uy (a b:Option Addr):(oN [Xa,Xa] (Tw a b) [true,true] [] On).sp 1=Ra:=by kernel_rfl
theorem adV (a b:Option Addr) {slot:Int} (h:slot≠1):(oN [Xa,Xa] (Tw a b) [true,true] [] On).sp slot=[]:=by
 have hs:kR slot 0 (Tw a b)=none:=by
  simp[Tw,La,Lb,kR,snd,Ne.symm h]
 unfold Net.sp Net.fr oN jh.jo
 simp only[hs]
 rfl
theorem XH {R:List Sp} {a b:Option Addr} (hp:Plain R) (h:∀ t,low R t↔(oN [Xa,Xa] (Tw a b) [true,true] [] On).Ig t):R=Ra:=by
 refine qx hp ⟨by decide,by decide⟩ fun t=>(h t).trans ?_
 constructor
 ·rintro⟨s,_,h2⟩
  by_cases e:s=1
  ·subst e;rw[Uy]at h2;exact h2
  ·rw[adV a b e]at h2;obtain⟨_,hs,_⟩:=h2;cases hs
 ·exact fun h2=>⟨1,by decide,by rw[Uy];exact h2⟩
theorem aaz {H0 A:AH} {y ba bb:Nat} {fa fb:Nat→Prop} (hf:aG H0 y) (g:A.find y=some (.cells [.pointer (some ⟨ba,0,none⟩),.pointer (some ⟨bb,0,none⟩)] 47 2)) (ha:iV A ba Xa 0 fa) (hb:iV A bb Xa 0 fb):oq A (some ⟨y,0,none⟩) 2 [⟨ba,Xa,0,fa⟩,⟨bb,Xa,0,fb⟩]:=by
 refine⟨EM (e:=47) (bs:=2) hf g rfl (adp _) (by decide) (by simp),fun s hs=>?_⟩
 rcases List.mem_cons.1 hs with rfl | hs
 ·exact⟨ha,adR⟩
 ·obtain rfl:=List.mem_singleton.1 hs
  exact⟨hb,adR⟩
theorem Uz {H0 A:AH} {y:Nat} (hf:aG H0 y) (g:A.find y=some (.cells [.bool true,.bool true] 4 2)):bG A 1 (some ⟨y,0,none⟩) 2 ([true,true].map jH):=EM (e:=4) (bs:=2) hf g rfl (by simp[jH]) (by decide) (by simp)
theorem okA (a b c d:Option Addr):(oN [Xa,Xa] (Tw a b) [true,true] [] (Oa c d)).Ok:=⟨fun L hL=>by
 have:L=[⟨0,2000⟩]∨L=[⟨0,-2000⟩]:=by simpa [oN,Oa]using hL
 rcases this with rfl | rfl
 ·exact⟨by decide,fun s hs=>by obtain rfl:=List.mem_singleton.1 hs;decide⟩
 ·exact⟨by decide,fun s hs=>by obtain rfl:=List.mem_singleton.1 hs;decide⟩⟩
theorem XI (H:AH) (hE:rO H.w0):aO Tryz.prog 8 #[] H (fun v H'=>v=.bool true∧H=H'):=by
 refine aO.cu Tryz.func8 rfl Tryz.ntmps8 Tryz.results8 (by simp) ?_;simp -dsimp(maxSteps:=4000000) only[au,ak,aB,aC,go_sem]
 refine(Dt H).mono ?_
 rintro _ A0 ⟨ba,fta,rfl,hsa,hK0,hf0⟩
 simp -dsimp(maxSteps:=4000000) only[au,ak,aB,aC,go_sem]
 refine(Dt A0).mono ?_
 rintro _ A1 ⟨bb,ftb,rfl,hsb,hK1,hf1⟩
 simp -dsimp(maxSteps:=4000000) only[au,ak,aB,aC,go_sem]
 refine(Jb 3 1 (by unfold Ja;decide) _).mono ?_
 rintro _ A2 ⟨fb,fc,rfl,hO2,hK2⟩
 unfold fv
 simp -dsimp(maxSteps:=4000000) only[au,ak,aB,aC,go_sem]
 refine bY.mk fun b3 lD=>?_;have eG:=lD;(try simp only[ah,aj,ne_eq]at eG);have fM:=eG;(try simp only[@eq_comm Nat b3]at fM);simp -dsimp(maxSteps:=4000000) only[au,ak,aB,aC,eG,fM,go_sem]
 rcases hO2.at_ with ⟨rfl,h,_⟩ | ⟨q,bs,rfl,hq,hbs,hqf⟩
 ·simp[newR]at h
 have n3:¬ b3=q:=lD.cO hq
 obtain⟨A3,hA3⟩:∃ A3,A2.add b3 (.cells [.int .i64 3,.slice (some ⟨q,0,none⟩) 2 fc] 65 2)=A3:=⟨_,rfl⟩
 have k23:Keep A2 A3 fun _=>False:=hA3▸Keep.add lD
 have hO3:=hO2.keep k23 fun _ _ h=>h
 have f3:A3.find b3=some (.cells [.int .i64 3,.slice (some ⟨q,0,none⟩) 2 fc] 65 2):=by rw[←hA3,aH]
 have fq3:A3.find q=some (.cells ((newR 3 1).map enc).flatten 76 bs):=k23.find (fun h=>h) hq
 have hb8:8≤bs:=by have:=hO2.le;simp[newR]at this;omega
 obtain⟨A4,Qc⟩:∃ A4,A3.set q (.cells (Fa.2.map enc).flatten 76 bs)=A4:=⟨_,rfl⟩
 have hw:A3.uH q 4 [.int .u8 255,.int .u8 8,.int .u8 0,.int .u8 0]=some A4:=by
  rw[←Qc]
  simp[AH.uH,fq3,enc,newR,Fa,iO,iM,hb8]
 have k34:Keep A3 A4 (·=q):=Qc▸mF.Keep.set
 have fq4:A4.find q=some (.cells (Fa.2.map enc).flatten 76 bs):=by rw[←Qc,dw,if_pos rfl]
 have hO4:fJ A1 A4 76 4 (some ⟨q,0,none⟩) fc (Fa.2.map enc):=⟨fun r hr=>by
  obtain⟨w,_,rfl⟩:=List.mem_map.1 hr
  rfl,by have:=hO2.le;simpa [newR,Fa]using this,by simp[newR,Fa],.inr ⟨q,bs,rfl,fq4,hbs,hqf⟩⟩
 have f4:=k34.find n3 f3
 have XJ:aG A1 q:=hqf
 have UA:=hsa.keep hK1 fun _ _ h=>h
 have adW:=(UA.keep hK2 fun _ _ h=>h).keep k23 fun _ _ h=>h
 have aaA:=hsb.keep hK2 fun _ _ h=>h
 have adX:=aaA.keep k23 fun _ _ h=>h
 have adY:=adW.keep k34 fun x hx e=>UA.fresh XJ (e▸hx)
 have aaB:=adX.keep k34 fun x hx e=>hsb.fresh XJ (e▸hx)
 have kH1:=hK0.trans hK1
 have kH4:Keep H A4 fun _=>False:=((kH1.trans hK2).trans k23).ow k34 fun x e=>e▸kH1.fr XJ
 have ga:∀ x,fta x→aG H x:=hf0
 have gb:∀ x,ftb x→aG H x:=fun x hx=>hK0.fr (hf1 x hx)
 have nb3:¬ fta b3:=(UA.keep hK2 fun _ _ h=>h).fresh lD
 have amw:¬ ftb b3:=aaA.fresh lD
 have nq:¬ fta q:=fun hx=>UA.fresh XJ hx
 have hab:∀ x,ftb x→¬ fta x:=fun x hx=>hsa.fresh (hf1 x hx)
 rw[hA3]
 simp -dsimp(maxSteps:=4000000) only[hw,au,ak,aB,aC,eG,fM,go_sem]
 clear hA3 Qc hw fq3 hsa hsb UA aaA adW adX hK0 hK1 hK2 k23 k34 hO2 hO3 lD eG fM
 have w4:A4.row b3 0 2=some [.int .i64 3,.slice (some ⟨q,0,none⟩) 2 fc]:=iZ f4 (by simp)
 simp -dsimp(maxSteps:=4000000) only[w4,au,ak,aB,aC,go_sem]
 refine(Js adY 1 3 Fa.2 (some ⟨q,0,none⟩) fc hO4.slc).mono ?_
 rintro _ A5 ⟨ft5,rfl,ad1,hK5,hf5⟩
 rw[show mX [] 1 (3,Fa.2)=0 by decide +kernel]
 have k5:Keep H A5 fun _=>False:=kH4.ow hK5 ga
 have ga5:∀ x,ft5 x→aG H x:=fun x hx=>(hf5 x hx).elim (ga x) fun h=>kH4.fr h
 have f5:=hK5.find nb3 f4
 have hO5:=hO4.keep hK5 fun a ha=>by cases ha;exact nq
 have ad2:=aaB.keep hK5 hab
 have w5:A5.row b3 0 2=some [.int .i64 3,.slice (some ⟨q,0,none⟩) 2 fc]:=iZ f5 (by simp)
 have d5:∀ x,ftb x→¬ ft5 x:=fun x hx h=>(hf5 x h).elim (hab x hx) fun h=>aaB.fresh h hx
 simp -dsimp(maxSteps:=4000000) only[w5,au,ak,aB,aC,go_sem]
 refine(Js ad2 1 3 Fa.2 (some ⟨q,0,none⟩) fc hO5.slc).mono ?_
 rintro _ A8 ⟨ft8,rfl,XK,hK8,hf8⟩
 rw[show mX [] 1 (3,Fa.2)=0 by decide +kernel]
 have k8:Keep H A8 fun _=>False:=k5.ow hK8 gb
 have XL:=ad1.keep hK8 fun x hx h=>d5 x h hx
 change iV A8 bb Xa 0 ft8 at XK
 change iV A8 ba Xa 0 ft5 at XL
 clear ad1 aaB ad2 adY hK8 hf8 f5 f4 w5 w4 hO5 hO4 hK5 fq4
 simp -dsimp(maxSteps:=4000000) only[au,ak,aB,aC,go_sem]
 refine(OI 1 1 0 _).mono ?_;rintro _ _ ⟨rfl,rfl⟩
 simp -dsimp(maxSteps:=4000000) only[au,ak,aB,aC,go_sem]
 refine bY.mk fun y2 XM=>?_;have uf:=XM;(try simp only[ah,aj,ne_eq]at uf);have vP:=uf;(try simp only[@eq_comm Nat y2]at vP);simp -dsimp(maxSteps:=4000000) only[au,ak,aB,aC,uf,vP,go_sem]
 refine(OI 2 1 3 _).mono ?_;rintro _ _ ⟨rfl,rfl⟩
 simp -dsimp(maxSteps:=4000000) only[au,ak,aB,aC,uf,vP,go_sem]
 refine bY.mk fun y3 aaC=>?_;have ug:=aaC;(try simp only[ah,aj,ne_eq]at ug);have zq:=ug;(try simp only[@eq_comm Nat y3]at zq);simp -dsimp(maxSteps:=4000000) only[au,ak,aB,aC,uf,vP,ug,zq,go_sem]
 refine bY.mk fun y4 aaD=>?_;have uh:=aaD;(try simp only[ah,aj,ne_eq]at uh);have AY:=uh;(try simp only[@eq_comm Nat y4]at AY);simp -dsimp(maxSteps:=4000000) only[au,ak,aB,aC,uf,vP,ug,zq,uh,AY,go_sem]
 refine bY.mk fun y5 aaE=>?_;have uj:=aaE;(try simp only[ah,aj,ne_eq]at uj);have Et:=uj;(try simp only[@eq_comm Nat y5]at Et);simp -dsimp(maxSteps:=4000000) only[au,ak,aB,aC,uf,vP,ug,zq,uh,AY,uj,Et,go_sem]
 refine bY.mk fun y6 aaF=>?_;have um:=aaF;(try simp only[ah,aj,ne_eq]at um);have Gm:=um;(try simp only[@eq_comm Nat y6]at Gm);simp -dsimp(maxSteps:=4000000) only[au,ak,aB,aC,uf,vP,ug,zq,uh,AY,uj,Et,um,Gm,go_sem]
 refine bY.mk fun y7 aaG=>?_;have uo:=aaG;(try simp only[ah,aj,ne_eq]at uo);have KG:=uo;(try simp only[@eq_comm Nat y7]at KG);simp -dsimp(maxSteps:=4000000) only[au,ak,aB,aC,uf,vP,ug,zq,uh,AY,uj,Et,um,Gm,uo,KG,go_sem]
 refine bY.mk fun y1 aaH=>?_;have uq:=aaH;(try simp only[ah,aj,ne_eq]at uq);have OJ:=uq;(try simp only[@eq_comm Nat y1]at OJ);simp -dsimp(maxSteps:=4000000) only[au,ak,aB,aC,uf,vP,ug,zq,uh,AY,uj,Et,um,Gm,uo,KG,uq,OJ,go_sem]
 refine bY.mk fun y8 aaI=>?_;have uw:=aaI;(try simp only[ah,aj,ne_eq]at uw);have UC:=uw;(try simp only[@eq_comm Nat y8]at UC);simp -dsimp(maxSteps:=4000000) only[au,ak,aB,aC,uf,vP,ug,zq,uh,AY,uj,Et,um,Gm,uo,KG,uq,OJ,uw,UC,go_sem]
 obtain⟨A9,UD⟩:∃ A9,((((((((A8.add y2 (.cells [.int .i64 1,.int .i64 1,.int .i64 1,.int .i64 1,.int .i64 0] 78 5)).add y3 (.cells [.int .i64 2,.int .i64 1,.int .i64 1,.int .i64 1,.int .i64 3] 78 5)).add y4 (.cells [.slice (some ⟨y2,0,none⟩) 1 1,.slice (some ⟨y3,0,none⟩) 1 1] 58 2)).add y5 (.cells [.int .i64 0,.int .i64 2000] 81 2)).add y6 (.cells [.int .i64 0,.int .i64 (-2000)] 81 2)).add y7 (.cells [.slice (some ⟨y5,0,none⟩) 1 1,.slice (some ⟨y6,0,none⟩) 1 1] 59 2)).add y1 (.cells [.pointer (some ⟨ba,0,none⟩),.pointer (some ⟨bb,0,none⟩)] 47 2)).add y8 (.cells [.bool true,.bool true] 4 2))=A9:=⟨_,rfl⟩
 have kA:Keep A8 A9 fun _=>False:=UD▸(((((((Keep.add XM).nw aaC).nw aaD).nw aaE).nw aaF).nw aaG).nw aaH).nw aaI
 have g8:A9.find y8=some (.cells [.bool true,.bool true] 4 2):=by rw[←UD,aH]
 have g1:A9.find y1=some (.cells [.pointer (some ⟨ba,0,none⟩),.pointer (some ⟨bb,0,none⟩)] 47 2):=by rw[←UD,aN _ uw.1,aH]
 have g7:A9.find y7=some (.cells [.slice (some ⟨y5,0,none⟩) 1 1,.slice (some ⟨y6,0,none⟩) 1 1] 59 2):=by rw[←UD,aN _ uw.2.1,aN _ uq.1,aH]
 have g6:A9.find y6=some (.cells [.int .i64 0,.int .i64 (-2000)] 81 2):=by rw[←UD,aN _ uw.2.2.1,aN _ uq.2.1,aN _ uo.1,aH]
 have g5:A9.find y5=some (.cells [.int .i64 0,.int .i64 2000] 81 2):=by rw[←UD,aN _ uw.2.2.2.1,aN _ uq.2.2.1,aN _ uo.2.1,aN _ um.1,aH]
 have g4:A9.find y4=some (.cells [.slice (some ⟨y2,0,none⟩) 1 1,.slice (some ⟨y3,0,none⟩) 1 1] 58 2):=by rw[←UD,aN _ uw.2.2.2.2.1,aN _ uq.2.2.2.1,aN _ uo.2.2.1,aN _ um.2.1,aN _ uj.1,aH]
 have g3:A9.find y3=some (.cells [.int .i64 2,.int .i64 1,.int .i64 1,.int .i64 1,.int .i64 3] 78 5):=by rw[←UD,aN _ uw.2.2.2.2.2.1,aN _ uq.2.2.2.2.1,aN _ uo.2.2.2.1,aN _ um.2.2.1,aN _ uj.2.1,aN _ uh.1,aH]
 have g2:A9.find y2=some (.cells [.int .i64 1,.int .i64 1,.int .i64 1,.int .i64 1,.int .i64 0] 78 5):=by rw[←UD,aN _ uw.2.2.2.2.2.2.1,aN _ uq.2.2.2.2.2.1,aN _ uo.2.2.2.2.1,aN _ um.2.2.2.1,aN _ uj.2.2.1,aN _ uh.2.1,aN _ ug.1,aH]
 have hT:ig A9 (some ⟨y4,0,none⟩) 2 (Tw (some ⟨y2,0,none⟩) (some ⟨y3,0,none⟩)):=by
  refine⟨EM (e:=58) (bs:=2) uh.2.2 g4 rfl (by simp[Tw,kW]) (by decide) (by simp[Tw]),fun x hx=>?_⟩
  rcases List.mem_cons.1 hx with rfl | hx
  ·exact EM (e:=78) (bs:=5) XM g2 rfl (by simp[La,gG]) (by show 5≤5;omega) (by simp[La])
  ·obtain rfl:=List.mem_singleton.1 hx
   exact EM (e:=78) (bs:=5) ug.2 g3 rfl (by simp[Lb,gG]) (by show 5≤5;omega) (by simp[Lb])
 have hO:zn A9 (some ⟨y7,0,none⟩) 2 (Oa (some ⟨y5,0,none⟩) (some ⟨y6,0,none⟩)):=by
  refine⟨EM (e:=59) (bs:=2) uo.2.2.2.2.2 g7 rfl (by simp[Oa,wK]) (by decide) (by simp[Oa]),fun x hx=>?_⟩
  rcases List.mem_cons.1 hx with rfl | hx
  ·exact EM (e:=81) (bs:=2) uj.2.2.2 g5 rfl (by simp[wJ.enc]) (by show 2≤2;omega) (by simp)
  ·obtain rfl:=List.mem_singleton.1 hx
   exact EM (e:=81) (bs:=2) um.2.2.2.2 g6 rfl (by simp[wJ.enc]) (by show 2≤2;omega) (by simp)
 have hS:=aaz uq.2.2.2.2.2.2 g1 (XL.keep kA fun _ _ h=>h) (XK.keep kA fun _ _ h=>h)
 have hB:=Uz uw.2.2.2.2.2.2.2 g8
 have ad3:=XL.keep kA fun _ _ h=>h
 have ad4:=XK.keep kA fun _ _ h=>h
 have k9:=k8.trans kA
 rw[UD]
 clear UD g1 g2 g3 g4 g5 g6 g7 g8 kA aaH XM aaC aaD aaE aaF aaG aaI uq uf ug uh uj um uo uw OJ vP zq AY Et Gm KG UC XL XK
 refine(yY ⟨some ⟨y1,0,none⟩,2,some ⟨y4,0,none⟩,2,some ⟨y8,0,none⟩,2,none,0,some ⟨y7,0,none⟩,2⟩ _ _ [true,true] [] _ A9 (by rw[k9.w0];exact hE) ⟨hS,hT,hB,bG.nil,hO,rfl,rfl,by show 2≤32;omega⟩).mono ?_
 rintro _ AA ⟨zb,zc,SO,rfl,_,hv,hso,qh,_⟩
 obtain⟨hlen,R,hpl,hlow,hv⟩:=hv (YB _ _ _ _)
 obtain⟨o1,o2,rfl⟩:∃ o1 o2,SO=[o1,o2]:=by
  match SO,hlen with
  | [o1,o2],_=>exact⟨o1,o2,rfl⟩
 have v2:=hv 1 _ _ _ _ _ rfl rfl rfl rfl rfl
 rw[Uo (okA _ _ _ _) hpl hlow (show good [⟨0,-2000⟩]=true by decide) (show qW 2000 [⟨0,-2000⟩] from fun s hs=>by obtain rfl:=List.mem_singleton.1 hs;decide)]at v2
 have kAA:=k9.trans qh
 have i2:=hso.inn o2 (List.mem_cons_of_mem _ (List.mem_cons_self ..))
 have w2:iJ o2.X 1 1=some (255,8,0,255):=by rw[Hq v2.1 i2.2.kd];exact adU _ _
 rw[show lX (List.length [SR.mk ba Xa 0 ft5,SR.mk bb Xa 0 ft8]) (Tw (some ⟨y2,0,none⟩) (some ⟨y3,0,none⟩)) (Oa (some ⟨y5,0,none⟩) (some ⟨y6,0,none⟩))=0 from YB _ _ _ _]
 have hTA:=hT.keep qh
 have aaJ:=ad3.keep qh fun _ _ h=>h
 have aaK:=ad4.keep qh fun _ _ h=>h
 clear v2 hv hS hT hB hO ad3 ad4 hlow hpl
 simp -dsimp(maxSteps:=4000000) only[au,ak,aB,aC,go_sem]
 refine bY.mk fun z1 XO=>?_;have Gn:=XO;(try simp only[ah,aj,ne_eq]at Gn);have KH:=Gn;(try simp only[@eq_comm Nat z1]at KH);simp -dsimp(maxSteps:=4000000) only[au,ak,aB,aC,Gn,KH,go_sem]
 refine bY.mk fun z2 aaL=>?_;have Eu:=aaL;(try simp only[ah,aj,ne_eq]at Eu);have OL:=Eu;(try simp only[@eq_comm Nat z2]at OL);simp -dsimp(maxSteps:=4000000) only[au,ak,aB,aC,Gn,KH,Eu,OL,go_sem]
 refine bY.mk fun z3 aaM=>?_;have Ew:=aaM;(try simp only[ah,aj,ne_eq]at Ew);have UE:=Ew;(try simp only[@eq_comm Nat z3]at UE);simp -dsimp(maxSteps:=4000000) only[au,ak,aB,aC,Gn,KH,Eu,OL,Ew,UE,go_sem]
 obtain⟨AB,hAB⟩:∃ AB,((AA.add z1 (.cells [.pointer (some ⟨ba,0,none⟩),.pointer (some ⟨bb,0,none⟩)] 47 2)).add z2 (.cells [.bool true,.bool true] 4 2)).add z3 (.cells [.slice none 0 0,.slice none 0 0] 59 2)=AB:=⟨_,rfl⟩
 have kAB:Keep AA AB fun _=>False:=hAB▸((Keep.add XO).nw aaL).nw aaM
 have g3:AB.find z3=some (.cells [.slice none 0 0,.slice none 0 0] 59 2):=by rw[←hAB,aH]
 have g2:AB.find z2=some (.cells [.bool true,.bool true] 4 2):=by rw[←hAB,aN _ Ew.1,aH]
 have g1:AB.find z1=some (.cells [.pointer (some ⟨ba,0,none⟩),.pointer (some ⟨bb,0,none⟩)] 47 2):=by rw[←hAB,aN _ Ew.2.1,aN _ Eu.1,aH]
 have hO:zn AB (some ⟨z3,0,none⟩) 2 On:=by
  refine⟨EM (e:=59) (bs:=2) Ew.2.2 g3 rfl (by simp[On,wK]) (by decide) (by simp[On]),fun x hx=>?_⟩
  rcases List.mem_cons.1 hx with rfl | hx
  ·exact bG.nil
  ·obtain rfl:=List.mem_singleton.1 hx
   exact bG.nil
 have hS:=aaz XO g1 (aaJ.keep kAB fun _ _ h=>h) (aaK.keep kAB fun _ _ h=>h)
 have hB:=Uz Eu.2 g2
 have hTB:=hTA.keep kAB
 rw[hAB]
 clear hAB g1 g2 g3 XO aaL aaM Gn Eu Ew KH OL UE
 refine(MZ ⟨some ⟨z1,0,none⟩,2,some ⟨y4,0,none⟩,2,some ⟨z2,0,none⟩,2,none,0,some ⟨z3,0,none⟩,2⟩ _ _ [true,true] [] On AB ⟨hS,hTB,hB,bG.nil,hO,rfl,rfl,by show 2≤32;omega⟩ (May.of (adS _ _))).mono ?_
 rintro _ AL ⟨Rl,lb,lc,rfl,hpl2,hsp2,hRl,YA⟩
 obtain rfl:Rl=Ra:=XH hpl2 hsp2.lo
 have kL:=(kAA.trans kAB).trans YA
 have kAL:=kAB.trans YA
 rw[show List.length Ra=2 from rfl]
 have ahO:=hso.keep kAL
 obtain⟨_,_,rfl,_,hr2⟩:=ahO.out.get (i:=1) rfl
 have hr2:=hr2 0 _ rfl
 obtain⟨ql,jl,rfl,wl,_⟩:=hRl.get (i:=0) rfl
 simp only[Nat.add_zero,Nat.one_mul]at hr2
 have hGb:=fun H1 (h:iV H1 o2.b o2.X o2.den o2.ft)=>Jr h i2.2 1 1
 rw[w2]at hGb
 unfold uV at hGb
 have i2L:=i2.keep kAL
 have hTL:=(hTA.keep kAL)
 have ahP:=aaJ.keep kAL fun _ _ h=>h
 have ahQ:=aaK.keep kAL fun _ _ h=>h
 clear hS hTB hB hO hsp2 hpl2 hTA aaJ aaK wl
 simp -dsimp(maxSteps:=4000000) only[hr2,au,ak,aB,aC,go_sem]
 refine(hGb _ i2L.1).mono ?_;rintro _ _ ⟨rfl,rfl⟩
 simp -dsimp(maxSteps:=4000000) only[au,ak,aB,aC,go_sem]
 refine bY.mk fun p11 UF=>?_;have Af:=UF;(try simp only[ah,aj,ne_eq]at Af);have Ey:=Af;(try simp only[@eq_comm Nat p11]at Ey);simp -dsimp(maxSteps:=4000000) only[au,ak,aB,aC,Af,Ey,go_sem]
 refine bY.mk fun x1 Na=>?_;have oC:=Na;(try simp only[ah,aj,ne_eq]at oC);have rW:=oC;(try simp only[@eq_comm Nat x1]at rW);simp -dsimp(maxSteps:=4000000) only[au,ak,aB,aC,Af,Ey,oC,rW,go_sem]
 refine bY.mk fun x2 Nb=>?_;have oO:=Nb;(try simp only[ah,aj,ne_eq]at oO);have vO:=oO;(try simp only[@eq_comm Nat x2]at vO);simp -dsimp(maxSteps:=4000000) only[au,ak,aB,aC,Af,Ey,oC,rW,oO,vO,go_sem]
 obtain⟨AM,hAM⟩:∃ AM,((AL.add p11 (.cells (enc (255,8,0,255)) 76 4)).add x1 (.cells [.pointer (some ⟨ba,0,none⟩),.pointer (some ⟨bb,0,none⟩)] 47 2)).add x2 (.cells [.bool true,.bool true] 4 2)=AM:=⟨_,rfl⟩
 have kAM:Keep AL AM fun _=>False:=hAM▸((Keep.add UF).nw Na).nw Nb
 have g2:AM.find x2=some (.cells [.bool true,.bool true] 4 2):=by rw[←hAM,aH]
 have g1:AM.find x1=some (.cells [.pointer (some ⟨ba,0,none⟩),.pointer (some ⟨bb,0,none⟩)] 47 2):=by rw[←hAM,aN _ oO.1,aH]
 have g11:AM.find p11=some (.cells (enc (255,8,0,255)) 76 4):=by rw[←hAM,aN _ oO.2.1,aN _ oC.1,aH]
 have hS:=aaz oC.2 g1 (ahP.keep kAM fun _ _ h=>h) (ahQ.keep kAM fun _ _ h=>h)
 have hB:=Uz oO.2.2 g2
 rw[hAM]
 clear hAM g1 g2 UF Na Nb Af oC oO Ey rW vO
 have kM:=kL.trans kAM
 refine(yY ⟨some ⟨x1,0,none⟩,2,some ⟨y4,0,none⟩,2,some ⟨x2,0,none⟩,2,none,0,none,0⟩ _ _ [true,true] [] [] AM (by rw[kM.w0];exact hE) ⟨hS,hTL.keep kAM,hB,bG.nil,⟨bG.nil,by simp⟩,rfl,rfl,by show 2≤32;omega⟩).mono ?_
 rintro _ AN ⟨ub,uc,SN,rfl,_,_,_,hKN,_⟩
 rw[show lX (List.length [SR.mk ba Xa 0 ft5,SR.mk bb Xa 0 ft8]) (Tw (some ⟨y2,0,none⟩) (some ⟨y3,0,none⟩)) []=1 from adT _ _]
 have kN:=kAM.trans hKN
 have w11:AN.row p11 0 4=some (enc (255,8,0,255)):=iZ (hKN.find (fun h=>h) g11) (by simp[enc])
 obtain⟨_,_,e,wl,_⟩:=(hRl.keep kN fun _ _ h=>h).get (i:=0) rfl;cases e
 simp only[Nat.zero_mul,Nat.add_zero]at wl
 have e1:enc (255,8,0,255)=[.int .u8 255,.int .u8 8,.int .u8 0,.int .u8 255]:=Eq.trans rfl rfl
 have e2:kK.dN (224,240)=[.int .i64 224,.int .i64 240]:=Eq.trans rfl rfl
 simp -dsimp(maxSteps:=4000000) only[w11,wl,e1,e2,au,ak,aB,aC,go_sem]
 exact⟨H,(kM.trans hKN).all,rfl⟩
end Go.Proofs.YtbhamhhjicehaaaGreatDoor.ED
/- bus: the reference's Sends, Line, Calm. -/
namespace Go.Proofs.YtbhamhhjicehaaaGreatDoor.ED
open Go Go.AX Go.Proofs Ty Go.Proofs.YtbhamhhjicehaaaGreatDoor.kK Go.Proofs.YtbhamhhjicehaaaGreatDoor.lV Go.Proofs.YtbhamhhjicehaaaGreatDoor.wJ Go.Proofs.YtbhamhhjicehaaaGreatDoor.Send Go.Proofs.YtbhamhhjicehaaaGreatDoor.Qm Go.Proofs.YtbhamhhjicehaaaGreatDoor.wI
open Go.Proofs.YtbhamhhjicehaaaGreatDoor.jh (RR qU jH xg UL jo kY tu)
open Go.Proofs.YtbhamhhjicehaaaGreatDoor.mF (RF)
open Go.Proofs.YtbhamhhjicehaaaGreatDoor.pF (Tb ig)
set_option maxRecDepth 10000
structure xE (H:AH) (a:Ad) (S:List RR) (T:List Tb) (B:List Bool) (P:List jh.Sp) (O:List Sl):Prop where
 s:qU H a.bs a.cs S
 t:ig H a.bt a.ct T
 b:bG H 1 a.bb a.cb (B.map jH)
 p:bG H 2 a.bp a.cp (P.map jh.dN)
 o:zn H a.bo a.co O
 l1:T.length=S.length
 l2:B.length=S.length
 l4:S.length≤32
theorem xE.keep {H A:AH} {a:Ad} {S:List RR} {T:List Tb} {B:List Bool} {P:List jh.Sp} {O:List Sl} (h:xE H a S T B P O) (hK:Keep H A fun _=>False):xE A a S T B P O:=
 ⟨h.s.keep hK,h.t.keep hK,h.b.keep hK fun _ _ h=>h,h.p.keep hK fun _ _ h=>h,h.o.keep hK,h.l1,h.l2,h.l4⟩
theorem Nc (a:Ad) (S:List RR) (T:List Tb) (B:List Bool) (P:List jh.Sp) (O:List Sl) (node:Int) (H:AH) (h:xE H a S T B P O) (m:May T O S.length) :
  aO Tryz.prog 48 #[.slice a.bs S.length a.cs,.slice a.bt T.length a.ct,.slice a.bb B.length a.cb,.slice a.bp P.length a.cp,.slice a.bo O.length a.co,.int .i64 node] H (fun v H'=>∃ R b c,v=.slice b R.length c∧Plain R∧kZ ((oN (S.map (fun r=>r.Z.map RF.nf)) T B P O).Uk node) 176 R∧bG H' 2 b c (R.map dN)∧Keep H H' fun _=>False):=by
 obtain⟨N,hN⟩:∃ N,oN (S.map (fun r=>r.Z.map RF.nf)) T B P O=N:=⟨_,rfl⟩
 have aap:∀ i,N.fr i=jo (S.map (fun r=>r.Z.map RF.nf)) T B P i:=fun i=>by rw[←hN];rfl
 have hTN:N.T=T:=by rw[←hN];rfl
 have aaq:∀ (n:Nat) (x:Sl),O[n]?=some x→N.Qp (n:Int)=x.2.2:=fun n x hx=>by
  rw[←hN]
  show(O.map (·.2.2)).getD (Int.toNat n) []=_
  rw[Int.toNat_natCast,List.getD_eq_getElem?_getD,List.getElem?_map,hx];rfl
 rw[hN]
 refine aO.cu Tryz.func48 rfl Tryz.ntmps48 Tryz.results48 (by simp) ?_;simp -dsimp(maxSteps:=4000000) only[go_sem]
 refine bY.mk fun b18 YC=>?_;have Ij:=YC;(try simp only[ah,aj,ne_eq]at Ij);have Nh:=Ij;(try simp only[@eq_comm Nat b18]at Nh);simp -dsimp(maxSteps:=4000000) only[Ij,Nh,go_sem]
 have ad8:aG H b18:=YC
 refine fZ.jE (ι:=Nat×Option Addr×Nat×List Sp) (fun s A=>(1≤s.1∧s.1≤17)∧kZ (N.tZ node s.1) (11*(s.1 - 1)) s.2.2.2∧fJ H A 85 2 s.2.1 s.2.2.1 (s.2.2.2.map dN)∧Keep H A fun _=>False)
  (fun s=>[(14,.int .i64 s.1),(13,.slice s.2.1 s.2.2.2.length s.2.2.1),(0,.slice a.bs S.length a.cs),(1,.slice a.bt T.length a.ct),(2,.slice a.bb B.length a.cb),(3,.slice a.bp P.length a.cp),(4,.slice a.bo O.length a.co),(5,.int .i64 node)]) (fun s=>17 - s.1) (1,some ⟨b18,0,none⟩,0,[]) _
  ⟨by simp,kZ.nil fun t=>F8,fJ.new ad8 (AH.le_refl _) rfl rfl rfl (by simp) (by simp),Keep.add ad8⟩ (bZ.aS ?_) (AH.le_refl _) fun s A hV Q again out=>?_
 ·simp -dsimp(maxSteps:=4000000) only[Ij,Nh,go_sem]
 obtain⟨i,base,cap,Y⟩:=s
 obtain⟨hi,hY,hO,hK⟩:=hV
 dsimp only at hi hY hO again ⊢
 have hYl:=hY.len
 by_cases hlt:(i:Int)≤16
 case neg=>
  obtain rfl:i=17:=by omega
  simp -dsimp(maxSteps:=4000000) only[hlt,go_sem]
  refine out _ _ _ (by simp) ?_
  simp -dsimp(maxSteps:=4000000) only[go_sem]
  refine(wG Y base cap A hO.slc hY.ok (by omega)).mono ?_
  rintro _ A2 ⟨R,b,c,rfl,hJ,hR,hK2⟩
  simp -dsimp(maxSteps:=4000000) only[go_sem]
  exact⟨A2,AH.le_refl _,R,b,c,rfl,hJ.plain,(hY.join hJ).congr fun t=>F9,hR,hK.trans hK2⟩
 have hA:=h.keep hK
 have ee:=dA (i:=i) (by omega)
 have e224:IntKind.i64.wrap (224*(i:Int))=224*(i:Int):=eH (by omega) (by omega)
 have hl1:=h.l1
 have hl2:=h.l2
 have hFr:=xg S T B P a.bs a.bt a.bb a.bp a.cs a.ct a.cb a.cp (i:Int) A hA.s hA.t hA.b hA.p m.t (by omega) (by omega)
 have Ih:=kY (S.map (fun r=>r.Z.map RF.nf)) T B P i
 rw[←aap]at hFr Ih
 have Em:=Ii (N:=N) (slot:=i)
 have Eo:=kZ.frame (N:=N) (slot:=i)
 have hno:=Kz (N:=N) (node:=node) (i:=i)
 have hyes:=Gf (N:=N) (node:=node) (i:=i) (by omega)
 obtain⟨n,F,ok,hfr⟩:∃ n F ok,N.fr i=(n,F,ok):=⟨_,_,_,rfl⟩
 rw[hfr]at hFr Ih Em Eo hno hyes
 unfold tu at hFr
 dsimp only at hFr Ih Em Eo hno hyes
 have hmf:(F.map Value.bool).length=11:=by simp[Ih]
 have hms:(F.map Value.bool).all iM=true:=by rw[List.all_map,List.all_eq_true];exact fun _ _=>rfl
 have hlp:iO [Value.bool false,Value.bool false,Value.bool false,Value.bool false,Value.bool false,Value.bool false,Value.bool false,Value.bool false,Value.bool false,Value.bool false,Value.bool false] 0 (F.map Value.bool)=F.map Value.bool:=by
  match F,Ih with
  | [_,_,_,_,_,_,_,_,_,_,_],_=>rfl
 simp -dsimp(maxSteps:=4000000) only[hlt,go_sem]
 refine hFr.mono ?_
 rintro _ _ ⟨rfl,rfl⟩
 simp -dsimp(maxSteps:=4000000) only[Ih,hms,hlp,go_sem]
 refine bY.mk fun b16 zo=>?_;have iQ:=zo;(try simp only[ah,aj,ne_eq]at iQ);have iY:=iQ;(try simp only[@eq_comm Nat b16]at iY);simp -dsimp(maxSteps:=4000000) only[iQ,iY,go_sem]
 simp -dsimp(maxSteps:=4000000) only[Ih,hms,hlp,iQ,iY,go_sem]
 have next:¬ (ok=true∧n=node)→kZ (N.tZ node (i+1)) (11*(i+1 - 1)) Y:=fun hh=>by
  have:=hY.congr (hno hh)
  exact⟨this.lo,by omega,this.ok⟩
 cases ok with
 |false=>
  simp -dsimp(maxSteps:=4000000) only[ee,iQ,iY,go_sem]
  exact again (i+1,base,cap,Y) _ A _ ⟨by dsimp only;omega,next (by simp),hO,hK⟩ (bZ.aS (by simp -dsimp(maxSteps:=4000000) only[iQ,iY,go_sem])) (AH.aK (AH.le_refl _) zo.2) (by dsimp only;omega)
 |true=>
  by_cases hn:n=node
  case neg=>
   simp -dsimp(maxSteps:=4000000) only[hn,ee,iQ,iY,go_sem]
   exact again (i+1,base,cap,Y) _ A _ ⟨by dsimp only;omega,next (by simp[hn]),hO,hK⟩ (bZ.aS (by simp -dsimp(maxSteps:=4000000) only[iQ,iY,go_sem])) (AH.aK (AH.le_refl _) zo.2) (by dsimp only;omega)
  subst hn
  obtain⟨k,rfl,hkT⟩:=Em rfl
  rw[hTN]at hkT
  have hl:=m.l
  obtain⟨⟨lb,lc,L⟩,hx⟩:=get_some (l:=O) (i:=k) (by omega)
  have Yp:good L=true:=m.g _ (List.mem_of_getElem? hx)
  rw[aaq k _ hx]at Eo
  dsimp only at Eo
  have k16:Keep A (A.add b16 (.cells (F.map Value.bool) 87 11)) fun _=>False:=Keep.add zo
  have Ur:=hA.o
  obtain⟨q,o,hq,_,rL⟩:=h.o.out.get (dn (f:=wK) hx)
  have rL:=rL 0 _ rfl
  simp only[Nat.add_zero,Nat.mul_one]at rL
  have hk0:(0:Int)≤(k:Int):=by omega
  have hkO:(k:Int)<O.length:=by omega
  have hle0:H.le (A.add b16 (.cells (F.map Value.bool) 87 11)):=(hK.trans k16).all
  simp -dsimp(maxSteps:=4000000) only[iQ,iY,go_sem]
  refine fZ.gen [.pu,.pu,.pu,.pu,.rd,.pu,.pu,.ch,.ch,.ch,.pu] [0,0,0,6,14,0,32,0,254,511,1023] 8 (H) mixed (by kernel_rfl) (hle0) ?_
  simp -dsimp(maxSteps:=4000000) only[hk0,hkO,hq,rL,e224,hmf,hle0,iQ,iY,go_sem]
  refine(MX L (224*(i:Int)) (by omega) (by omega) F Ih Yp lb lc _ ((Ur.inn _ (List.mem_of_getElem? hx)).keep k16 fun _ _ h=>h)).mono ?_
  rintro _ A1 ⟨R,b,c,rfl,hJ,hR,hK1⟩
  have qh:=k16.trans hK1
  have hle:=(hK.trans qh).all
  have Bh:=hO.keep qh fun _ _ h=>h
  have hRl:R.length≤11:=Nat.le_trans hJ.small (wH ..)
  simp -dsimp(maxSteps:=4000000) only[hle,iQ,iY,go_sem]
  refine lS.growS (a:=b) (m:=R.length) (c:=c) (R':=R.map dN) Bh (hK.trans qh).all uQ rfl (by decide) (by decide) (by rw[Tryz.underlying36];rfl) (by simp) (by simp) hR (rV _) (J4 _) (by omega) fun gV cap2 A' kJ hK' hN'=>?_
  refine⟨_,AH.le_refl _,?_⟩
  have hK2:=(hK.trans qh).ow hK' fun b ⟨a,ha,e⟩=>e▸hO.fresh a ha
  have hle2:=hK2.all
  rw[←List.map_append]at kJ
  have hY2:kZ (N.tZ k (i+1)) (11*(i+1 - 1)) (Y++R):=by
   have h1:=(hY.app (Eo rfl hJ)).congr (hyes rfl)
   exact⟨h1.lo,by have:=h1.len;omega,h1.ok⟩
  simp -dsimp(maxSteps:=4000000) only[hle2,ee,iQ,iY,go_sem]
  refine again (i+1,gV,cap2,Y++R) _ A' _ ⟨by dsimp only;omega,hY2,kJ,hK2⟩ (bZ.aS ?_) (AH.le_refl _) (by dsimp only;omega)
  rw[List.length_append]
  simp -dsimp(maxSteps:=4000000) only[iQ,iY,go_sem]
theorem Gq (a:Ad) (S:List RR) (T:List Tb) (B:List Bool) (P:List jh.Sp) (O:List Sl) (H:AH) (h:xE H a S T B P O) (m:May T O S.length) :
  aO Tryz.prog 19 #[.slice a.bs S.length a.cs,.slice a.bt T.length a.ct,.slice a.bb B.length a.cb,.slice a.bp P.length a.cp,.slice a.bo O.length a.co] H (fun v H'=>∃ R b c,v=.slice b R.length c∧Plain R∧kZ (oN (S.map (fun r=>r.Z.map RF.nf)) T B P O).Ig 5632 R∧bG H' 2 b c (R.map dN)∧Keep H H' fun _=>False):=by
 have hsend:=fun(A:AH) (hK:Keep H A fun _=>False) (node:Int)=>Nc a S T B P O node A (h.keep hK) m
 obtain⟨N,hN⟩:∃ N,oN (S.map (fun r=>r.Z.map RF.nf)) T B P O=N:=⟨_,rfl⟩
 have hTN:N.T.length=S.length:=by rw[←hN];exact h.l1
 rw[hN]at hsend ⊢
 have hl4:=h.l4
 refine aO.cu Tryz.func19 rfl Tryz.ntmps19 Tryz.results19 (by simp) ?_;simp -dsimp(maxSteps:=4000000) only[go_sem]
 refine bY.mk fun b13 jF=>?_;have dM:=jF;(try simp only[ah,aj,ne_eq]at dM);have dQ:=dM;(try simp only[@eq_comm Nat b13]at dQ);simp -dsimp(maxSteps:=4000000) only[dM,dQ,go_sem]
 have ad9:aG H b13:=jF
 refine fZ.jE (ι:=Nat×Option Addr×Nat×List Sp) (fun s A=>s.1≤S.length∧kZ (N.AV s.1) (176*s.1) s.2.2.2∧fJ H A 85 2 s.2.1 s.2.2.1 (s.2.2.2.map dN)∧(Keep H A fun _=>False))
  (fun s=>[(12,.int .i64 s.1),(11,.slice s.2.1 s.2.2.2.length s.2.2.1),(0,.slice a.bs S.length a.cs),(1,.slice a.bt T.length a.ct),(2,.slice a.bb B.length a.cb),(3,.slice a.bp P.length a.cp),(4,.slice a.bo O.length a.co)]) (fun s=>S.length - s.1) (0,some ⟨b13,0,none⟩,0,[]) _
  ⟨by simp,kZ.nil fun t=>Ei,fJ.new ad9 (AH.le_refl _) rfl rfl rfl (by simp) (by simp),Keep.add ad9⟩ (bZ.aS ?_) (AH.le_refl _) fun s A hV Q again out=>?_
 ·simp -dsimp(maxSteps:=4000000) only[dM,dQ,go_sem]
 obtain⟨i,base,cap,Y⟩:=s
 obtain⟨hi,hY,hO,hK⟩:=hV
 dsimp only at hi hY hO again ⊢
 have hYl:=hY.len
 by_cases hlt:(i:Int)<S.length
 case neg=>
  obtain rfl:i=S.length:=by omega
  simp -dsimp(maxSteps:=4000000) only[hlt,go_sem]
  refine out _ _ _ (by simp) ?_
  simp -dsimp(maxSteps:=4000000) only[go_sem]
  refine(wG Y base cap A hO.slc hY.ok (by omega)).mono ?_
  rintro _ A2 ⟨R,b,c,rfl,hJ,hR,hK2⟩
  simp -dsimp(maxSteps:=4000000) only[go_sem]
  have hR2:=(hY.join hJ).congr fun t=>Gg (by omega) t
  exact⟨A2,AH.le_refl _,R,b,c,rfl,hJ.plain,⟨hR2.lo,by have:=hR2.len;omega,hR2.ok⟩,hR,hK.trans hK2⟩
 have ee:=dA (i:=i) (by omega)
 simp -dsimp(maxSteps:=4000000) only[hlt,go_sem]
 refine(hsend A hK (i:Int)).mono ?_
 rintro _ A1 ⟨R,b,c,rfl,hpl,hsp,hR,hK1⟩
 have Bh:=hO.keep hK1 fun _ _ h=>h
 have qh:=hK.trans hK1
 have hRl:=hsp.len
 simp -dsimp(maxSteps:=4000000) only[go_sem]
 refine lS.growS (a:=b) (m:=R.length) (c:=c) (R':=R.map dN) Bh qh.all uQ rfl (by decide) (by decide) (by rw[Tryz.underlying36];rfl) (by simp) (by simp) hR (rV _) (J4 _) (by omega) fun gV cap2 A' kJ hK' hN'=>?_
 refine⟨_,AH.le_refl _,?_⟩
 have hK2:=qh.ow hK' fun b ⟨a,ha,e⟩=>e▸hO.fresh a ha
 rw[←List.map_append]at kJ
 have hY2:kZ (N.AV (i+1)) (176*(i+1)) (Y++R):=by
  have h1:=(hY.app hsp).congr fun t=>Ej t
  exact⟨h1.lo,by have:=h1.len;omega,h1.ok⟩
 simp -dsimp(maxSteps:=4000000) only[ee,go_sem]
 refine again (i+1,gV,cap2,Y++R) _ A' _ ⟨by dsimp only;omega,hY2,kJ,hK2⟩ (bZ.aS ?_) (AH.le_refl _) (by dsimp only;omega)
 rw[List.length_append]
 simp -dsimp(maxSteps:=4000000) only[go_sem]
theorem Qv (O:List Sl) (base:Option Addr) (cap n:Nat) (H:AH) (h:zn H base cap O):aO Tryz.prog 38 #[.slice base O.length cap,.int .i64 n] H (fun v H'=>v=.bool (qX O n)∧H=H'):=by
 have hbig:=h.out.big
 simp only[List.length_map]at hbig
 refine aO.cu Tryz.func38 rfl Tryz.ntmps38 Tryz.results38 (by simp) ?_;simp -dsimp(maxSteps:=4000000) only[go_sem]
 refine fZ.gQ (ι:=Nat) (fun i=>i≤O.length∧∀ j,j<i→∀ x,O[j]?=some x→badL x.2.2=false) (fun i=>[(5,.int .i64 i),(0,.slice base O.length cap),(1,.int .i64 n)])
  (fun _=>H) (fun i=>O.length - i) 0 ⟨by omega,fun j hj=>by omega⟩ (bZ.aS ?_) (AH.le_refl _) fun i hi Q again out=>?_
 ·simp -dsimp(maxSteps:=4000000) only[go_sem]
 obtain⟨hi,hall⟩:=hi
 by_cases hlt:(i:Int)<O.length
 case neg=>
  obtain rfl:i=O.length:=by omega
  have hn:O.any (fun x=>badL x.2.2)=false:=by
   rw[List.any_eq_false]
   intro x hx
   obtain⟨j,hj⟩:=List.mem_iff_getElem?.1 hx
   rw[hall j (Go.AX.dG hj) x hj];simp
  simp -dsimp(maxSteps:=4000000) only[hlt,go_sem]
  refine out _ _ _ (by simp) ?_
  by_cases e:(O.length:Int)=n
  ·have e':O.length=n:=by omega
   simp -dsimp(maxSteps:=4000000) only[e,go_sem]
   exact⟨H,(AH.le_refl _),(by first | exact⟨by simp[qX,e',hn],rfl⟩ | rfl)⟩
  ·have e':¬ O.length=n:=by omega
   simp -dsimp(maxSteps:=4000000) only[e,go_sem]
   exact⟨H,(AH.le_refl _),(by first | exact⟨by simp[qX,e',e],rfl⟩ | rfl)⟩
 obtain⟨⟨lb,lc,L⟩,hx⟩:=get_some (l:=O) (i:=i) (by omega)
 have hL:=h.inn _ (List.mem_of_getElem? hx)
 have DI:=hL.big
 simp only[List.length_map]at DI
 obtain⟨q,o,rfl,_,r0⟩:=h.out.get (dn (f:=wK) hx)
 have r0:=r0 0 _ rfl
 simp only[Nat.add_zero,Nat.mul_one]at r0
 dsimp only at hL
 have ee:=dA (i:=i) (by omega)
 have hi0:(0:Int)≤(i:Int):=by omega
 have bad:badL L=true→Value.bool false=Value.bool (qX O n):=fun hb=>by
  have:O.any (fun x=>badL x.2.2)=true:=List.any_eq_true.2 ⟨_,List.mem_of_getElem? hx,hb⟩
  simp[qX,this]
 simp -dsimp(maxSteps:=4000000) only[hlt,go_sem]
 refine fZ.gQ (ι:=Nat) (fun k=>k≤L.length∧∀ j,j<k→∀ s,L[j]?=some s→badR s=false) (fun k=>[(6,.int .i64 k),(5,.int .i64 i),(0,.slice (some ⟨q,o,none⟩) O.length cap),(1,.int .i64 n)])
  (fun _=>H) (fun k=>L.length - k) 0 ⟨by omega,fun j hj=>by omega⟩ (bZ.aS ?_) (AH.le_refl _) fun k hk Q2 gI mG=>?_
 ·simp -dsimp(maxSteps:=4000000) only[go_sem]
 obtain⟨hk,YD⟩:=hk
 by_cases hlt2:(k:Int)<L.length
 case pos=>
  obtain⟨⟨at_,rate⟩,hs⟩:=get_some (l:=L) (i:=k) (by omega)
  obtain⟨q2,o2,rfl,_,r1⟩:=hL.get (dn (f:=wJ.enc) hs)
  have r1:=r1 1 _ rfl
  dsimp only at r1
  have eek:=dA (i:=k) (by omega)
  have hk0:(0:Int)≤(k:Int):=by omega
  by_cases c1:rate < -2000
  ·simp -dsimp(maxSteps:=4000000) only[hlt,hi0,r0,hlt2,hk0,r1,c1,go_sem]
   refine mG _ _ _ (by simp) ?_
   simp -dsimp(maxSteps:=4000000) only[go_sem]
   refine out _ _ _ (by simp) ?_
   simp -dsimp(maxSteps:=4000000) only[go_sem]
   exact⟨H,AH.le_refl _,bad (by rw[badL,Bool.or_eq_true];exact .inr (List.any_eq_true.2 ⟨_,List.mem_of_getElem? hs,by simp[badR,c1]⟩)),rfl⟩
  by_cases c2:2000<rate
  ·simp -dsimp(maxSteps:=4000000) only[hlt,hi0,r0,hlt2,hk0,r1,c1,c2,go_sem]
   refine mG _ _ _ (by simp) ?_
   simp -dsimp(maxSteps:=4000000) only[go_sem]
   refine out _ _ _ (by simp) ?_
   simp -dsimp(maxSteps:=4000000) only[go_sem]
   exact⟨H,AH.le_refl _,bad (by rw[badL,Bool.or_eq_true];exact .inr (List.any_eq_true.2 ⟨_,List.mem_of_getElem? hs,by simp[badR,c2]⟩)),rfl⟩
  simp -dsimp(maxSteps:=4000000) only[hlt,hi0,r0,hlt2,hk0,r1,c1,c2,eek,go_sem]
  refine gI (k+1) _ _ ⟨by omega,fun j hj s hjs=>?_⟩ (bZ.aS (by simp -dsimp(maxSteps:=4000000) only[go_sem])) (AH.le_refl _) (by omega)
  by_cases e:j=k
  ·subst e;rw[hs]at hjs;cases hjs;simp[badR];omega
  ·exact YD j (by omega) s hjs
 obtain rfl:k=L.length:=by omega
 have hno:L.any badR=false:=by
  rw[List.any_eq_false]
  intro s hs
  obtain⟨j,hj⟩:=List.mem_iff_getElem?.1 hs
  rw[YD j (Go.AX.dG hj) s hj];simp
 simp -dsimp(maxSteps:=4000000) only[hlt,hi0,r0,hlt2,go_sem]
 refine mG _ _ _ (by simp) ?_
 simp -dsimp(maxSteps:=4000000) only[hlt,hi0,r0,go_sem]
 refine(wJ.jX L lb lc _ hL).mono ?_;rintro _ _ ⟨rfl,rfl⟩
 cases hg:good L with
 |false=>
  simp -dsimp(maxSteps:=4000000) only[go_sem]
  refine out _ _ _ (by simp) ?_
  simp -dsimp(maxSteps:=4000000) only[go_sem]
  exact⟨H,AH.le_refl _,bad (by simp[badL,hg]),rfl⟩
 |true=>
  simp -dsimp(maxSteps:=4000000) only[ee,go_sem]
  refine again (i+1) _ _ ⟨by omega,fun j hj x hjx=>?_⟩ (bZ.aS (by simp -dsimp(maxSteps:=4000000) only[go_sem])) (AH.le_refl _) (by omega)
  by_cases e:j=i
  ·subst e;rw[hx]at hjx;cases hjx;simp[badL,hg,hno]
  ·exact hall j (by omega) x hjx
end Go.Proofs.YtbhamhhjicehaaaGreatDoor.ED
/- bus: the reference's Round. -/
namespace Go.Proofs.YtbhamhhjicehaaaGreatDoor.ED
open Go Go.AX Go.Proofs Ty Go.Proofs.YtbhamhhjicehaaaGreatDoor.kK Go.Proofs.YtbhamhhjicehaaaGreatDoor.lV Go.Proofs.YtbhamhhjicehaaaGreatDoor.wJ Go.Proofs.YtbhamhhjicehaaaGreatDoor.Qm Go.Proofs.YtbhamhhjicehaaaGreatDoor.Err
open Go.Proofs.YtbhamhhjicehaaaGreatDoor.mF (Nf jU lG RF)
open Go.Proofs.YtbhamhhjicehaaaGreatDoor.jh (RR qU jH jy lU DZ Aa zX yU wC vG qI yV zY DX)
open Go.Proofs.YtbhamhhjicehaaaGreatDoor.pF (Tb ig kW tabs)
set_option maxRecDepth 10000
def bvB (R:List Sp) (K:List Stp) (s:Int):Int:=if 1≤s∧s≤16 then (lM R K (bJ K (224*s - 20)) (bJ K (224*s+20))).1 else 0
theorem aaO (R:List Sp) (K:List Stp):∀ s y,hdB R K s=some y→bvB R K s=y:=fun s y h=>by
 unfold hdB at h
 unfold bvB
 split at h
 ·rename_i h1
  rw[if_pos h1]
  split at h
  ·exact Option.some.inj h
  ·cases h
 ·cases h
def YE (XS:List (List Nf)) (S:List RR) (T:List Tb) (B:List Bool) (P:List jh.Sp) (O:List Sl) (SO:List RR):Prop:=SO.length=S.length∧∃ R,Plain R∧(∀ t,low R t↔(oN XS T B P O).Ig t)∧
 ∀ (n:Nat) s t l x o,S[n]?=some s→T[n]?=some t→B[n]?=some l→O[n]?=some x→SO[n]?=some o→(RR.Z o).map RF.nf=(jy (hdB R x.2.2) (s.Z.map RF.nf) s.den t l).1∧o.den=(jy (hdB R x.2.2) (s.Z.map RF.nf) s.den t l).2
theorem xu (a:Ad) (S:List RR) (T:List Tb) (B:List Bool) (P:List jh.Sp) (O:List Sl) (H:AH) (h:xE H a S T B P O) :
  aO Tryz.prog 14 #[.slice a.bs S.length a.cs,.slice a.bt T.length a.ct,.slice a.bb B.length a.cb,.slice a.bp P.length a.cp,.slice a.bo O.length a.co] H (fun u H'=>∃ base cap SO,u=.tuple #[.slice base (List.length SO) cap,.int .i64 (lX S.length T O)]∧(lX S.length T O≠0→SO=[])∧(lX S.length T O=0→YE (S.map (fun r=>r.Z.map RF.nf)) S T B P O SO)∧qU H' base cap SO∧Keep H H' fun _=>False):=by
 obtain⟨XS,hXS⟩:∃ XS,S.map (fun r=>r.Z.map RF.nf)=XS:=⟨_,rfl⟩
 have Ep:=fun(m:May T O S.length) (A:AH) (hK:Keep H A fun _=>False)=>Gq a S T B P O A (h.keep hK) m
 rw[hXS]at Ep ⊢
 have hl1:=h.l1
 have hl2:=h.l2
 have hl4:=h.l4
 have bad:∀ {E:Int} {T':AH},lX S.length T O=E→E≠0→H.le T'→∃ H',H'.le T'∧∃ base cap SO,Value.tuple #[.slice none 0 0,.int .i64 E]=.tuple #[.slice base (List.length SO) cap,.int .i64 (lX S.length T O)]∧(lX S.length T O≠0→SO=[])∧(lX S.length T O=0→YE XS S T B P O SO)∧qU H' base cap SO∧Keep H H' fun _=>False:=fun {E T'} he h0 hl=>
  ⟨H,hl,none,0,[],by rw[he];rfl,fun _=>rfl,fun h=>absurd (he.symm.trans h) h0,⟨bG.nil,by simp⟩,Keep.refl⟩
 refine aO.cu Tryz.func14 rfl Tryz.ntmps14 Tryz.results14 (by simp) ?_;simp -dsimp(maxSteps:=4000000) only[go_sem]
 refine(jh.xu S T B [] a.bs a.bt a.bb none a.cs a.ct a.cb 0 H h.s h.t h.b bG.nil hl1 hl2 h.l4).mono ?_
 rintro _ A1 ⟨zb,zc,SA,rfl,_,_,_,hK1⟩
 obtain⟨Er,hEr⟩:∃ Er,lU S.length T=Er:=⟨_,rfl⟩
 rw[hEr]
 simp -dsimp(maxSteps:=4000000) only[go_sem]
 by_cases h0:Er=0
 case neg=>
  simp -dsimp(maxSteps:=4000000) only[h0,go_sem]
  exact bad (by rw[lX,hEr,if_neg h0]) h0 hK1.all
 subst h0
 simp -dsimp(maxSteps:=4000000) only[go_sem]
 refine(Qv O a.bo a.co S.length _ (h.o.keep hK1)).mono ?_;rintro _ _ ⟨rfl,rfl⟩
 cases hc:qX O S.length with
 |false=>
  simp -dsimp(maxSteps:=4000000) only[go_sem]
  exact bad (by rw[lX,hEr,if_pos rfl,hc];rfl) (by decide) hK1.all
 |true=>
 have hE0:lX S.length T O=0:=by rw[lX,hEr,if_pos rfl,hc];rfl
 have hM:=May.of hE0
 have ht:=hM.t
 simp -dsimp(maxSteps:=4000000) only[go_sem]
 refine(Ep hM A1 hK1).mono ?_
 rintro _ D ⟨Rl,rb,rc,rfl,hpl,hsp,hR,YA⟩
 have kD:=hK1.trans YA
 have hRl:=hsp.len
 have ahS:=hsp.ok
 have hin0:=h.keep kD
 have hS:=hin0.s
 have hT:=hin0.t
 have hB:=hin0.b
 have hO:=hin0.o
 have hlO:=hM.l
 have D5:=hS.out.big
 simp only[List.length_map]at D5
 simp -dsimp(maxSteps:=4000000) only[go_sem]
 clear Ep bad hK1 YA hin0
 refine bY.mk fun b13 jF=>?_;have dM:=jF;(try simp only[ah,aj,ne_eq]at dM);have dQ:=dM;(try simp only[@eq_comm Nat b13]at dQ);simp -dsimp(maxSteps:=4000000) only[dM,dQ,go_sem]
 refine fZ.jE (ι:=Nat×Option Addr×Nat×List RR) (fun s A=>s.1≤S.length∧s.2.2.2.length=s.1∧fJ D A 51 1 s.2.1 s.2.2.1 (s.2.2.2.map jh.encR)∧(Keep D A fun _=>False)∧(∀ o∈s.2.2.2,o.In A∧∀ x,(x=o.b∨o.rd x)→∀ a,s.2.1=some a→a.block≠x)∧∀ (n:Nat) r t l x o,S[n]?=some r→T[n]?=some t→B[n]?=some l→O[n]?=some x→s.2.2.2[n]?=some o→(RR.Z o).map RF.nf=(jy (hdB Rl x.2.2) (r.Z.map RF.nf) r.den t l).1∧o.den=(jy (hdB Rl x.2.2) (r.Z.map RF.nf) r.den t l).2)
  (fun s=>[(16,.int .i64 s.1),(15,.slice s.2.1 s.1 s.2.2.1),(14,.slice rb Rl.length rc),(0,.slice a.bs S.length a.cs),(1,.slice a.bt T.length a.ct),(2,.slice a.bb B.length a.cb),(4,.slice a.bo O.length a.co)]) (fun s=>S.length - s.1) (0,some ⟨b13,0,none⟩,0,[]) _ ⟨by simp only;omega,rfl,fJ.new jF (AH.le_refl _) rfl rfl rfl (by simp) (by simp),Keep.add jF,by simp,by simp⟩ (bZ.aS ?_) (AH.le_refl _) fun s A hi Q again out=>?_
 ·simp -dsimp(maxSteps:=4000000) only[dM,dQ,go_sem]
 clear jF dM dQ
 obtain⟨i,base,cap,SO⟩:=s
 obtain⟨hi,hl,KD,hK,hin,hval⟩:=hi
 dsimp only at hi hl KD hin hval again ⊢
 by_cases hlt:(i:Int)<S.length
 case neg=>
  obtain rfl:i=S.length:=by omega
  simp -dsimp(maxSteps:=4000000) only[hlt,go_sem]
  refine out _ _ _ (by simp) ?_
  simp -dsimp(maxSteps:=4000000) only[go_sem]
  exact⟨A,AH.le_refl _,base,cap,SO,by rw[hl,hE0],by rw[hE0];exact fun h=>absurd rfl h,fun _=>⟨hl,Rl,hpl,hsp.lo,hval⟩,⟨KD.slc,fun o ho=>(hin o ho).1⟩,kD.trans hK⟩
 obtain⟨r,hr⟩:=get_some (l:=S) (i:=i) (by omega)
 obtain⟨⟨tb,tc,L⟩,htt⟩:=get_some (l:=T) (i:=i) (by omega)
 obtain⟨l,hbl⟩:=get_some (l:=B) (i:=i) (by omega)
 obtain⟨⟨ob,oc,K⟩,hxo⟩:=get_some (l:=O) (i:=i) (by omega)
 have KJ:=hS.keep hK
 have hTA:=hT.keep hK
 have Ur:=hO.keep hK
 have qw:=KJ.inn r (List.mem_of_getElem? hr)
 have MO:=hTA.inn _ (List.mem_of_getElem? htt)
 have Uu:=Ur.inn _ (List.mem_of_getElem? hxo)
 have hgK:good K=true:=hM.g _ (List.mem_of_getElem? hxo)
 obtain⟨q1,o1,hq1,_,hr1⟩:=hS.out.get (Go.AX.dn (f:=jh.encR) hr)
 obtain⟨q2,o2,hq2,_,hr2⟩:=hT.out.get (Go.AX.dn (f:=kW) htt)
 obtain⟨q3,o3,hq3,_,hr3⟩:=hB.get (Go.AX.dn (f:=jH) hbl)
 obtain⟨q4,o4,hq4,_,hr4⟩:=hO.out.get (Go.AX.dn (f:=wK) hxo)
 have hr1:=hr1 0 _ rfl
 have hr2:=hr2 0 _ rfl
 have hr3:=hr3 0 _ rfl
 have hr4:=hr4 0 _ rfl
 simp only[Nat.add_zero,Nat.mul_one]at hr1 hr2 hr3 hr4
 have ha1:=hK.rd hr1
 have ha2:=hK.rd hr2
 have Yt:=hK.rd hr3
 have ha4:=hK.rd hr4
 have ee:=dA (i:=i) (by omega)
 have hi0:(0:Int)≤(i:Int):=by omega
 have hiT:(i:Int)<T.length:=by omega
 have Qz:(i:Int)<B.length:=by omega
 have hiO:(i:Int)<O.length:=by omega
 have nb:∀ {A1:AH},(Keep A A1 fun _=>False)→∀ b Z den rd,jU A1 b Z den rd→lG (Z.map RF.nf)→aG A b→(∀ x,rd x→r.rd x∨aG A x)→Z.map RF.nf=(jy (hdB Rl K) (r.Z.map RF.nf) r.den (tb,tc,L) l).1→den=(jy (hdB Rl K) (r.Z.map RF.nf) r.den (tb,tc,L) l).2→∀ bx,aG A1 bx→∀ C:Value→AH→Prop,(∀ base' cap' H',∀ vH:List RR,vH.length=i+1→fJ D H' 51 1 base' cap' (vH.map jh.encR)→(Keep D H' fun _=>False)→(∀ o∈vH,RR.In H' o∧∀ x,(x=o.b∨o.rd x)→∀ a,base'=some a→a.block≠x)→(∀ (n:Nat) r t l x o,S[n]?=some r→T[n]?=some t→B[n]?=some l→O[n]?=some x→vH[n]?=some o→(RR.Z o).map RF.nf=(jy (hdB Rl x.2.2) (r.Z.map RF.nf) r.den t l).1∧o.den=(jy (hdB Rl x.2.2) (r.Z.map RF.nf) r.den t l).2)→C (.slice base' (i+1) cap') H')→
   lS Tryz.prog (some 26) (some 26) [.slice base i cap,.slice (some ⟨bx,0,none⟩) 1 1] (A1.add bx (.cells [.pointer (some ⟨b,0,none⟩)] 51 1)) C:=by
  intro A1 hK1 b Z den rd hst hok hfb hft hpm hdn bx hbx C hk
  have Bh:=KD.keep hK1 (fun _ _ h=>h)
  have qh:=hK.trans hK1
  refine lS.nD (x:=.slice (some ⟨bx,0,none⟩) 1 1) (R':=[jh.encR ⟨b,Z,den,rd⟩]) (m:=1) (Bh.added hbx) (qh.nw hbx).all RD rfl (by decide) (by rw[Tryz.underlying26];rfl) (by simp[hl]) rfl rfl (by rw[iF,fO];rfl) (by simp[jh.encR]) (by simp[jh.encR,iM]) (by omega) fun gV cap2 A' ahU hK' hN'=>?_
  have hK2:=(qh.nw hbx).ow hK' fun b ⟨a,ha,e⟩=>e▸KD.fresh a ha
  have hbase:∀ x,¬ aG A1 x→(∀ a,base=some a→a.block≠x)→∀ a,gV=some a→a.block≠x:=fun x hx hb a ha e=>by
   rcases hN' a ha with ⟨a',h1,h2⟩ | hf
   ·exact hb a' h1 (h2▸e)
   ·exact hx (e▸(Keep.refl.nw (k:=.cells [.pointer (some ⟨b,0,none⟩)] 51 1) hbx).fr hf)
  have kn:∀ (b0:Nat) Z0 TR UM,jU A1 b0 Z0 TR UM→∀ x,(x=b0∨UM x)→¬ aG A1 x:=fun b0 Z0 TR UM h x hx hf=>by
   rcases hx with rfl | hx
   ·obtain⟨k,hk⟩:=zX h
    exact hf.cO hk rfl
   ·exact yU h x hx hf
  have hnew:∀ x,(x=b∨rd x)→∀ a,base=some a→a.block≠x:=fun x hx a ha=>by
   rcases hx with rfl | hx
   ·exact KD.ne hfb a ha
   ·rcases hft x hx with h | h
    ·intro e
     exact yU (hS.inn r (List.mem_of_getElem? hr)).1 x h (e▸KD.fresh a ha)
    ·exact KD.ne h a ha
  refine⟨A',AH.le_refl _,hk gV cap2 A' (SO++[⟨b,Z,den,rd⟩]) (by simp[hl]) (by rw[List.map_append];exact ahU) hK2 (fun o ho=>?_) (fun n r' t l' x o h1 h2 h3 h5 h4=>?_)⟩
  ·rcases List.mem_append.1 ho with ho | ho
   ·obtain⟨⟨h1,h2⟩,h3⟩:=hin o ho
    have h1':=h1.keep hK1 (fun _ _ h=>h) fun h=>h
    refine⟨⟨(h1'.keep (Keep.add hbx) (fun _ _ h=>h) fun h=>h).keep hK' (fun x hx ⟨a,ha,e⟩=>h3 x (.inr hx) a ha e.symm) fun⟨a,ha,e⟩=>h3 _ (.inl rfl) a ha e.symm,h2⟩,fun x hx=>hbase x (kn _ _ _ _ h1' x hx) (h3 x hx)⟩
   ·obtain rfl:=List.mem_singleton.1 ho
    refine⟨⟨(hst.keep (Keep.add hbx) (fun _ _ h=>h) fun h=>h).keep hK' (fun x hx ⟨a,ha,e⟩=>hnew x (.inr hx) a ha e.symm) fun⟨a,ha,e⟩=>hnew _ (.inl rfl) a ha e.symm,hok⟩,fun x hx=>hbase x (kn _ _ _ _ hst x hx) (hnew x hx)⟩
  ·by_cases hn:n<SO.length
   ·rw[List.getElem?_append_left hn]at h4
    exact hval n r' t l' x o h1 h2 h3 h5 h4
   ·have hn2:=Go.AX.dG h4
    simp only[List.length_append,List.length_singleton]at hn2
    obtain rfl:n=i:=by omega
    rw[List.getElem?_append_right (by omega),hl,Nat.sub_self]at h4
    cases h4
    rw[hr]at h1;rw[htt]at h2;rw[hbl]at h3;rw[hxo]at h5
    cases h1;cases h2;cases h3;cases h5
    exact⟨hpm,hdn⟩
 have hle:=hK.all
 cases l with
 |false=>
  simp -dsimp(maxSteps:=4000000) only[hlt,hi0,hiT,Qz,hq1,hq3,ha1,Yt,go_sem]
  refine(wC qw.1 qw.2).mono ?_
  rintro _ A1 ⟨b1,rd1,rfl,hs1,hK1,MP,hf1⟩
  simp -dsimp(maxSteps:=4000000) only[go_sem]
  refine bY.mk fun bx mY=>?_;have jc:=mY;(try simp only[ah,aj,ne_eq]at jc);have jG:=jc;(try simp only[@eq_comm Nat bx]at jG);simp -dsimp(maxSteps:=4000000) only[jc,jG,go_sem]
  refine nb hK1 _ _ _ _ hs1 qw.2 MP hf1 rfl rfl bx mY _ fun base' cap' H' vH g1 g2 g3 g4 g5=>?_
  simp -dsimp(maxSteps:=4000000) only[ee,jc,jG,go_sem]
  exact again (i+1,base',cap',vH) _ _ _ ⟨by simp only;omega,g1,g2,g3,g4,g5⟩ (bZ.aS (by simp -dsimp(maxSteps:=4000000) only[jc,jG,go_sem])) (AH.le_refl _) (by simp only;omega)
 |true=>
  have hmem:((tb,tc,L):Tb)∈T:=List.mem_of_getElem? htt
  have hto:=Aa ht hmem
  have hout:=OE Rl K
  have heq:∀ j:Int,1≤j∧j≤16→hdB Rl K j=if (lM Rl K (bJ K (224*j - 20)) (bJ K (224*j+20))).2.2=0∧(lM Rl K (bJ K (224*j - 20)) (bJ K (224*j+20))).2.1=false then some (lM Rl K (bJ K (224*j - 20)) (bJ K (224*j+20))).1 else none:=fun j hj=>by rw[hdB,if_pos hj]
  have hbe:∀ j:Int,1≤j∧j≤16→bvB Rl K j=(lM Rl K (bJ K (224*j - 20)) (bJ K (224*j+20))).1:=fun j hj=>by rw[bvB,if_pos hj]
  have hb0:bvB Rl K 0=0:=by rw[bvB,if_neg (by omega)]
  have hrd:=Gi Rl K
  have hbv:=aaO Rl K
  obtain⟨hd,hhd⟩:∃ hd,hdB Rl K=hd:=⟨_,rfl⟩
  obtain⟨bv,ahV⟩:∃ bv,bvB Rl K=bv:=⟨_,rfl⟩
  rw[hhd]at hout heq hrd hbv nb
  rw[ahV]at hbe hb0 hbv
  have r1:qI hd bv 1=[.int .u8 0,.int .u8 0,.int .u8 0,.int .u8 0,.int .u8 0,.int .u8 0,.int .u8 0,.int .u8 0,.int .u8 0,.int .u8 0,.int .u8 0,.int .u8 0,.int .u8 0,.int .u8 0,.int .u8 0,.int .u8 0,.int .u8 0]++[.bool false,.bool false,.bool false,.bool false,.bool false,.bool false,.bool false,.bool false,.bool false,.bool false,.bool false,.bool false,.bool false,.bool false,.bool false,.bool false,.bool false]:=by
   have h0:hd 0=none:=hout 0 (by omega)
   have e1:qI hd bv 0=[.int .u8 0,.int .u8 0,.int .u8 0,.int .u8 0,.int .u8 0,.int .u8 0,.int .u8 0,.int .u8 0,.int .u8 0,.int .u8 0,.int .u8 0,.int .u8 0,.int .u8 0,.int .u8 0,.int .u8 0,.int .u8 0,.int .u8 0]++[.bool false,.bool false,.bool false,.bool false,.bool false,.bool false,.bool false,.bool false,.bool false,.bool false,.bool false,.bool false,.bool false,.bool false,.bool false,.bool false,.bool false]:=rfl
   have e2:=DX (hd:=hd) (bv:=bv) (i:=0) (by decide)
   rw[e1]at e2
   rw[←e2]
   have e3:bv ((0:Nat):Int)=0:=hb0
   have e4:hd ((0:Nat):Int)=none:=h0
   rw[e3,e4]
   rfl
  have eF:=fun j=>yV hd bv j
  have iw:=fun j=>zY hd bv j
  simp -dsimp(maxSteps:=4000000) only[hlt,hi0,hiT,Qz,hq1,hq3,ha1,Yt,go_sem]
  refine bY.mk fun b17 tX=>?_;have dU:=tX;(try simp only[ah,aj,ne_eq]at dU);have fC:=dU;(try simp only[@eq_comm Nat b17]at fC);simp -dsimp(maxSteps:=4000000) only[dU,fC,go_sem]
  have k17:∀ {k:iD},Keep A (A.add b17 k) fun _=>False:=fun {k}=>Keep.add tX
  have n174:¬ b17=q4:=tX.jq ha4
  refine fZ.gQ (ι:=Nat) (fun j=>1≤j∧j≤17) (fun j=>[(18,.int .i64 j),(17,.pointer (some ⟨b17,0,none⟩)),(16,.int .i64 i),(15,.slice base i cap),(14,.slice rb Rl.length rc),(0,.slice a.bs S.length a.cs),(1,.slice a.bt T.length a.ct),(2,.slice a.bb B.length a.cb),(4,.slice a.bo O.length a.co)])
   (fun j=>A.add b17 (.cells (qI hd bv j) 100 34)) (fun j=>17 - j) 1 (by omega) (bZ.aS ?_) (by rw[r1];exact AH.le_refl _) fun j hj Q2 gI mG=>?_
  ·simp -dsimp(maxSteps:=4000000) only[dU,fC,go_sem]
  obtain⟨hj1,hj2⟩:=hj
  by_cases hlt2:(j:Int)≤16
  case pos=>
   have Xi:=dA (i:=j) (by omega)
   have hj0:(0:Int)≤(j:Int):=by omega
   have aaP:(j:Int)<17:=by omega
   have l1:j≤33:=by omega
   have l2:17+j≤33:=by omega
   have l3:j≤16:=by omega
   have e224:IntKind.i64.wrap (224*(j:Int))=224*(j:Int):=eH (by omega) (by omega)
   have em:IntKind.i64.wrap (224*(j:Int) - 20)=224*(j:Int) - 20:=eH (by omega) (by omega)
   have ep:IntKind.i64.wrap (224*(j:Int)+20)=224*(j:Int)+20:=eH (by omega) (by omega)
   have hi':=heq j (by omega)
   have hb':=hbe j (by omega)
   have hset:=DX (hd:=hd) (bv:=bv) (i:=j) (by omega)
   simp -dsimp(maxSteps:=4000000) only[hlt2,dU,fC,go_sem]
   refine fZ.gen [.pu,.pu,.pu,.pu,.rd,.pu,.pu,.pu,.rd,.pu,.pu,.pu,.ch,.pu,.pu,.pu,.rd,.pu,.pu,.pu,.ch,.ch,.pu,.pu,.pu,.pu,.pu,.pu,.pu] [0,0,0,6,14,0,0,96,224,0,512,1536,4064,0,0,24576,57344,0,131072,393216,1048544,2097151,4194303,8388607,8388607,8388607,16777215,100663295,268435455] 21 (_) mixed (by kernel_rfl) (AH.le_refl _) ?_
   simp -dsimp(maxSteps:=4000000) only[hi0,hiO,hq4,ha4,n174,e224,em,dU,fC,go_sem]
   refine(kS K (224*(j:Int) - 20) hgK ob oc _ (Uu.keep k17 fun _ _ h=>h)).mono ?_;rintro _ _ ⟨rfl,rfl⟩
   simp -dsimp(maxSteps:=4000000) only[hi0,hiO,hq4,ha4,n174,e224,ep,dU,fC,go_sem]
   refine(kS K (224*(j:Int)+20) hgK ob oc _ (Uu.keep k17 fun _ _ h=>h)).mono ?_;rintro _ _ ⟨rfl,rfl⟩
   simp -dsimp(maxSteps:=4000000) only[dU,fC,go_sem]
   refine(UQ.Qo Rl Rl (zl hpl) K (bJ K (224*(j:Int) - 20)) (bJ K (224*(j:Int)+20)) hgK rb rc ob oc _ ((hR.keep hK fun _ _ h=>h).keep k17 fun _ _ h=>h) (Uu.keep k17 fun _ _ h=>h) ahS (by omega)).mono ?_;rintro _ _ ⟨rfl,rfl⟩
   rw[Ky]
   obtain⟨y,od,er,hyo⟩:∃ y od er,lM Rl K (bJ K (224*(j:Int) - 20)) (bJ K (224*(j:Int)+20))=(y,od,er):=⟨_,_,_,rfl⟩
   rw[hyo]at hi' hb' ⊢
   dsimp only at hi' hb' ⊢
   rw[hb']at hset
   have fin2:∀ w:Bool,w=(hd j).isSome→((qI hd bv j).set j (.int .u8 y)).set (17+j) (.bool w)=qI hd bv (j+1):=fun w hw=>hw▸hset
   by_cases c:er=0
   ·cases od with
    |false=>
     have yy:=fin2 true (by rw[hi',if_pos ⟨c,rfl⟩];rfl)
     simp -dsimp(maxSteps:=4000000) only[c,Xi,hj0,aaP,l1,l2,l3,eF,yy,dU,fC,go_sem]
     exact gI (j+1) _ _ (by omega) (bZ.aS (by simp -dsimp(maxSteps:=4000000) only[dU,fC,go_sem])) (AH.le_refl _) (by omega)
    |true=>
     have yy:=fin2 false (by rw[hi',if_neg (by simp)];rfl)
     simp -dsimp(maxSteps:=4000000) only[c,Xi,hj0,aaP,l1,l2,l3,eF,yy,dU,fC,go_sem]
     exact gI (j+1) _ _ (by omega) (bZ.aS (by simp -dsimp(maxSteps:=4000000) only[dU,fC,go_sem])) (AH.le_refl _) (by omega)
   ·have yy:=fin2 false (by rw[hi',if_neg (by simp[c])];rfl)
    simp -dsimp(maxSteps:=4000000) only[c,Xi,hj0,aaP,l1,l2,l3,eF,yy,dU,fC,go_sem]
    exact gI (j+1) _ _ (by omega) (bZ.aS (by simp -dsimp(maxSteps:=4000000) only[dU,fC,go_sem])) (AH.le_refl _) (by omega)
  obtain rfl:j=17:=by omega
  have aaQ:=eF 17
  have aea:=iw 17
  have kT:Keep A (A.add b17 (.cells (qI hd bv 17) 100 34)) fun _=>False:=k17
  have YF:=(hK.trans kT).all
  simp -dsimp(maxSteps:=4000000) only[hlt2,dU,fC,go_sem]
  refine mG _ _ _ (by simp) ?_
  refine fZ.gen [.pu,.pu,.pu,.pu,.rd,.pu,.pu,.pu,.rd,.ch,.ch,.al,.ch,.pu] [0,0,0,6,14,0,0,96,224,0,1022,2046,4095,8191] 10 (D) mixed (by kernel_rfl) (YF) ?_
  simp -dsimp(maxSteps:=4000000) only[hlt,hi0,hiT,hq1,hq2,hr1,hr2,YF,aea,aaQ,dU,fC,go_sem]
  refine(vG (qw.1.keep kT (fun _ _ h=>h) fun h=>h) qw.2 L tb tc (MO.keep kT fun _ _ h=>h) hd bv hbv hrd hto.2).mono ?_
  rintro _ A1 ⟨b1,Z1,rd1,rfl,hp1,hok1,hs1,hK1,MP,hf1⟩
  have hle1:D.le A1:=((hK.trans kT).trans hK1).all
  simp -dsimp(maxSteps:=4000000) only[hle1,dU,fC,go_sem]
  refine bY.mk fun bx mY=>?_
  have hle2:D.le (A1.add bx (.cells [.pointer (some ⟨b1,0,none⟩)] 51 1)):=(((hK.trans kT).trans hK1).nw mY).all
  simp -dsimp(maxSteps:=4000000) only[hle2,dU,fC,go_sem]
  refine nb (kT.trans hK1) _ _ _ _ hs1 hok1 (kT.fr MP) (fun x hx=>(hf1 x hx).imp id fun h=>kT.fr h) hp1 rfl bx mY _ fun base' cap' H' vH g1 g2 g3 g4 g5=>?_
  have hle3:=g3.all
  simp -dsimp(maxSteps:=4000000) only[ee,hle3,dU,fC,go_sem]
  exact again (i+1,base',cap',vH) _ _ _ ⟨by simp only;omega,g1,g2,g3,g4,g5⟩ (bZ.aS (by simp -dsimp(maxSteps:=4000000) only[dU,fC,go_sem])) (AH.le_refl _) (by simp only;omega)
end Go.Proofs.YtbhamhhjicehaaaGreatDoor.ED
/- bus: BusRounds. -/
namespace Go.Proofs.YtbhamhhjicehaaaGreatDoor.ED
open Go Go.AX Go.Proofs Ty Go.Proofs.YtbhamhhjicehaaaGreatDoor.kK Go.Proofs.YtbhamhhjicehaaaGreatDoor.lV Go.Proofs.YtbhamhhjicehaaaGreatDoor.wJ Go.Proofs.YtbhamhhjicehaaaGreatDoor.Qm Go.Proofs.YtbhamhhjicehaaaGreatDoor.Err
open Go.Proofs.YtbhamhhjicehaaaGreatDoor.mF (Nf iV lG NW Jq RF zJ)
open Go.Proofs.YtbhamhhjicehaaaGreatDoor.jh (SR RR oq qU jH Bj jy lU Ow P2 TW)
open Go.Proofs.YtbhamhhjicehaaaGreatDoor.pF (Tb ig kW tabs)
set_option maxRecDepth 10000
theorem XP {C:List Cb} {w:Bd} {H A:AH} {jm:Nat→Prop} {Q:List jh.Sp} {bp:Option Addr} {cp:Nat} (hO:Ow H A w.own jm) (hP:P2 A jm w.S w.R) (hb:QA C (min C.length 6) w)
  (h:AU A ⟨w.b1,w.c1,w.b3,w.c3,w.b4,w.c4,bp,cp,w.b5,w.c5⟩ w.S w.T w.B Q w.O):xE A ⟨w.b2,w.c2,w.b3,w.c3,w.b4,w.c4,bp,cp,w.b5,w.c5⟩ w.R w.T w.B Q w.O where
 s:=⟨(hO.ow 1 _ rfl).slc,fun s h=>(hP.2 s h).1⟩
 t:=h.t
 b:=h.b
 p:=h.p
 o:=h.o
 l1:=by rw[hb.r,←hb.s];exact h.l1
 l2:=by rw[hb.r,←hb.s];exact h.l2
 l4:=by rw[hb.r,←hb.s];exact h.l4
theorem aeb {C:List Cb} {n:Nat} {w:Bd} (h:QA C n w):w.S.map (·.X)=w.R.map fun r=>r.Z.map RF.nf:=by
 apply List.ext_getElem?
 intro i
 rw[List.getElem?_map,List.getElem?_map]
 cases hs:w.S[i]? with
 |none=>
  have:w.R[i]?=none:=by
   rw[List.getElem?_eq_none_iff]at hs ⊢
   rw[h.r,←h.s];exact hs
  rw[this];rfl
 |some s=>
  obtain⟨r,hr⟩:=get_some (l:=w.R) (i:=i) (by have:=Go.AX.dG hs;rw[h.r,←h.s];exact this)
  rw[hr,Option.map_some,Option.map_some,(h.x i s r hs hr).1]
theorem KI (C:List Cb) (base:Option Addr) (cap:Nat) (P:List jh.Sp) (bp:Option Addr) (cp:Nat) (H:AH) (hE:rO H.w0) (hs:bG H 4 base cap (C.map fun d=>Bj d.1)) (hin:∀ c∈C,Uw H c) (hP:bG H 2 bp cp (P.map jh.dN)) :
  aO Tryz.prog 4 #[.slice base C.length cap,.slice bp P.length cp] H (fun v H'=>v=.bool true∧H=H'):=by
 refine aO.cu Tryz.func4 rfl Tryz.ntmps4 Tryz.results4 (by simp) ?_;simp -dsimp(maxSteps:=4000000) only[go_sem]
 refine(XC C base cap H hs hin).mono ?_
 rintro _ A1 ⟨w,rfl,jm,hO,hPr,hb⟩
 have Nj:=aay hin hO hPr hb (XG (hP.keep hO.kp fun _ _ h=>h))
 have OM:=XP hO hPr hb Nj
 have hxs:=aeb hb
 have hx:=hb.x
 have hlr:w.R.length=w.S.length:=by rw[hb.r,hb.s]
 have hfw:=fun {A:AH} (hk:Keep A1 A fun _=>False)=>adQ P bp cp A ((hP.keep hO.kp fun _ _ h=>h).keep hk fun _ _ h=>h)
 have hE1:rO A1.w0:=by rw[hO.kp.w0];exact hE
 have kH:=hO.kp
 clear hb hPr hO hin hs hP
 obtain⟨Q,hQ⟩:∃ Q,P.take 20=Q:=⟨_,rfl⟩
 rw[hQ]at Nj OM hfw
 obtain⟨b1,c1,S,b2,c2,R,b3,c3,T,b4,c4,B,b5,c5,O⟩:=w
 dsimp only at Nj OM hxs hx hlr ⊢
 simp -dsimp(maxSteps:=4000000) only[go_sem]
 refine(hfw Keep.refl).mono ?_;rintro _ _ ⟨rfl,rfl⟩
 simp -dsimp(maxSteps:=4000000) only[go_sem]
 refine(yY ⟨b1,c1,b3,c3,b4,c4,bp,cp,b5,c5⟩ S T B Q O _ hE1 Nj).mono ?_
 rintro _ A2 ⟨zb,zc,SO,rfl,hz0,hzv,hSO,k2,_⟩
 simp -dsimp(maxSteps:=4000000) only[go_sem]
 refine(hfw k2).mono ?_;rintro _ _ ⟨rfl,rfl⟩
 simp -dsimp(maxSteps:=4000000) only[go_sem]
 refine(xu ⟨b2,c2,b3,c3,b4,c4,bp,cp,b5,c5⟩ R T B Q O _ (OM.keep k2)).mono ?_
 rintro _ A3 ⟨yb,yc,RO,rfl,hy0,hyv,hRO,hK3⟩
 have k3:=k2.trans hK3
 rw[hlr]at hy0 hyv ⊢
 obtain⟨Er,hEr⟩:∃ Er,lX S.length T O=Er:=⟨_,rfl⟩
 rw[hEr]at hz0 hzv hy0 hyv ⊢
 rw[←hxs]at hyv
 have hlo:SO.length=RO.length:=by
  by_cases h:Er=0
  ·rw[(hzv h).1,(hyv h).1,hlr]
  ·rw[hz0 h,hy0 h];rfl
 have ahX:(SO.length:Int)=RO.length:=by omega
 have hSO:=hSO.keep hK3
 have hbig:=hSO.out.big
 simp only[List.length_map]at hbig
 have hl1:=Nj.l1
 have hl2:=Nj.l2
 simp -dsimp(maxSteps:=4000000) only[ahX,go_sem]
 refine fZ.jE (ι:=Nat) (fun i A=>i≤RO.length∧Keep A3 A fun _=>False)
  (fun i=>[(14,.int .i64 i),(10,.slice zb SO.length zc),(12,.slice yb RO.length yc),(13,.int .i64 Er),(5,.slice b1 S.length c1),(6,.slice b2 S.length c2),(7,.slice b3 T.length c3),(8,.slice b4 B.length c4),(9,.slice b5 O.length c5),(1,.slice bp P.length cp)]) (fun i=>RO.length - i) 0 A3
  ⟨by simp,Keep.refl⟩ (bZ.aS ?_) (AH.le_refl _) fun i A hV Q' again out=>?_
 ·simp -dsimp(maxSteps:=4000000) only[go_sem]
 obtain⟨hi,hK⟩:=hV
 by_cases hlt:(i:Int)<RO.length
 case pos=>
  have h0:Er=0:=Classical.byContradiction fun h=>by rw[hy0 h]at hlt;simp at hlt;omega
  have hcm:=Gh.1 (OG (hEr.trans h0)).2
  obtain⟨hzl,R1,hp1,hw1,hzv⟩:=hzv h0
  obtain⟨hyl,R2,hp2,hw2,hyv⟩:=hyv h0
  obtain rfl:R1=R2:=qx hp1 hp2 fun t=>(hw1 t).trans (hw2 t).symm
  have hlO:=hcm.1
  obtain⟨o,ho⟩:=get_some (l:=SO) (i:=i) (by omega)
  obtain⟨p,hp⟩:=get_some (l:=RO) (i:=i) (by omega)
  obtain⟨s,hsi⟩:=get_some (l:=S) (i:=i) (by omega)
  obtain⟨r,hri⟩:=get_some (l:=R) (i:=i) (by omega)
  obtain⟨t,hti⟩:=get_some (l:=T) (i:=i) (by omega)
  obtain⟨l,hli⟩:=get_some (l:=B) (i:=i) (by omega)
  obtain⟨x,hxi⟩:=get_some (l:=O) (i:=i) (by omega)
  obtain⟨hx1,hx2,hx3,hx4⟩:=hx i s r hsi hri
  obtain⟨v1,v2⟩:=hzv i s t l x o hsi hti hli hxi ho
  obtain⟨v3,v4⟩:=hyv i r t l x p hri hti hli hxi hp
  rw[hx2,hx1]at v1 v2
  rw[hx3]at v3 v4
  have hso:mF.kK (p.Z.map RF.nf):=by rw[v3];exact TW _ _ _ _ _ (hx1▸hx4)
  have hpo:(p.Z.map RF.nf).Perm o.X:=by rw[v3];exact v1.symm
  have hde:o.den=p.den:=v2.trans v4.symm
  have ko:=hSO.inn o (List.mem_of_getElem? ho)
  have kp:=hRO.inn p (List.mem_of_getElem? hp)
  obtain⟨q1,j1,hq1,_,a1⟩:=hSO.out.get (Go.AX.dn (f:=jh.encS) ho)
  obtain⟨q2,j2,hq2,_,a2⟩:=hRO.out.get (Go.AX.dn (f:=jh.encR) hp)
  have a1:=a1 0 _ rfl
  have a2:=a2 0 _ rfl
  simp only[Nat.add_zero,Nat.mul_one]at a1 a2
  obtain⟨pb,pc,hpb,hpN,_⟩:=id kp.1
  have p0:A3.rd ⟨p.b,0,none⟩=some (.slice pb p.Z.length pc):=by rw[gB hpb];rfl
  have p1:A3.rd ⟨p.b,1,none⟩=some (.int .i64 p.den):=by rw[gB hpb];rfl
  have ee:=dA (i:=i) (by omega)
  have hi0:(0:Int)≤(i:Int):=by omega
  have hi1:(i:Int)<SO.length:=by omega
  have hle:=hK.all
  simp -dsimp(maxSteps:=4000000) only[hlt,go_sem]
  refine fZ.gen [.pu,.pu,.pu,.rd,.ch,.pu,.pu,.pu,.rd,.pu,.pu,.rd,.ch,.pu,.pu,.pu,.pu,.pu,.rd,.ch,.pu,.pu,.pu,.rd,.pu,.pu,.rd,.pu,.pu] [0,0,3,7,15,0,0,96,224,480,992,2016,4095,8191,16383,32767,32767,131071,262143,524287,32767,32767,3178495,7372799,15761407,32538623,66093055,134217727,268435455] 20 (A3) mixed (by kernel_rfl) (hle) ?_
  simp -dsimp(maxSteps:=4000000) only[hlt,hi0,hi1,hq1,hq2,a1,a2,p0,p1,hle,go_sem]
  refine(NW (ko.1.keep hK fun _ _ h=>h) ko.2).mono ?_
  rintro _ A4 ⟨eb,ec,Z1,rd1,rfl,hz1,hs1,hN1,hKa,_⟩
  have kA4:=hK.trans hKa
  have aaR:=kA4.all
  have e1:Z1.map RF.nf=p.Z.map RF.nf:=mF.kK.uniq (hz1.trans hpo.symm) hs1 hso
  simp -dsimp(maxSteps:=4000000) only[hlt,hi0,hi1,hq1,hq2,a1,a2,p0,p1,aaR,go_sem]
  refine(mF.LX hN1 (hpN.keep kA4 fun _ _ h=>h)).mono ?_
  rintro _ _ ⟨rfl,rfl⟩
  rw[decide_eq_true e1]
  simp -dsimp(maxSteps:=4000000) only[hlt,hi0,hi1,hq1,hq2,a1,a2,p0,p1,aaR,go_sem]
  refine(Jq (ko.1.keep kA4 fun _ _ h=>h)).mono ?_;rintro _ _ ⟨rfl,rfl⟩
  simp -dsimp(maxSteps:=4000000) only[hlt,hi0,hi1,hq1,hq2,a1,a2,p0,p1,aaR,hde,ee,go_sem]
  exact again (i+1) _ A4 _ ⟨by omega,kA4⟩ (bZ.aS (by simp -dsimp(maxSteps:=4000000) only[hq1,hq2,go_sem])) (AH.le_refl _) (by omega)
 obtain rfl:i=RO.length:=by omega
 have kA:=k3.trans hK
 simp -dsimp(maxSteps:=4000000) only[hlt,go_sem]
 refine out _ _ _ (by simp) ?_
 clear again out
 simp -dsimp(maxSteps:=4000000) only[go_sem]
 refine(XI A (by rw[kA.w0];exact hE1)).mono ?_
 rintro _ _ ⟨rfl,rfl⟩
 by_cases h0:Er=0
 case neg=>
  simp -dsimp(maxSteps:=4000000) only[h0,go_sem]
  exact⟨H,(kH.trans kA).all,rfl⟩
 have hM:=May.of (hEr.trans h0)
 simp -dsimp(maxSteps:=4000000) only[h0,go_sem]
 refine(hfw kA).mono ?_;rintro _ _ ⟨rfl,rfl⟩
 simp -dsimp(maxSteps:=4000000) only[go_sem]
 refine(MZ ⟨b1,c1,b3,c3,b4,c4,bp,cp,b5,c5⟩ S T B Q O A (Nj.keep kA) hM).mono ?_
 rintro _ A5 ⟨R1,lb1,lc1,rfl,hp1,hs1,hR1,hK5⟩
 have kA5:=kA.trans hK5
 simp -dsimp(maxSteps:=4000000) only[go_sem]
 refine(hfw kA5).mono ?_;rintro _ _ ⟨rfl,rfl⟩
 simp -dsimp(maxSteps:=4000000) only[go_sem]
 have hRL:=Gq ⟨b2,c2,b3,c3,b4,c4,bp,cp,b5,c5⟩ R T B Q O A5 (OM.keep kA5) (by rw[hlr];exact hM)
 rw[hlr]at hRL
 refine hRL.mono ?_
 rintro _ A6 ⟨R2,lb2,lc2,rfl,hp2,hs2,hR2,hK6⟩
 rw[←hxs]at hs2
 have e:R1=R2:=qx hp1 hp2 fun t=>(hs1.lo t).trans (hs2.lo t).symm
 simp -dsimp(maxSteps:=4000000) only[go_sem]
 refine(lV.LX lb1 lc1 lb2 lc2 _ (hR1.keep hK6 fun _ _ h=>h) hR2 e).mono ?_;rintro _ _ ⟨rfl,rfl⟩
 simp -dsimp(maxSteps:=4000000) only[go_sem]
 exact⟨H,(kH.trans (kA5.trans hK6)).all,rfl⟩
end Go.Proofs.YtbhamhhjicehaaaGreatDoor.ED
/- For every input BusRounds answers true and leaves its arguments as_ they were; the package's one variable holds what the program's text lays into it: the tied card. -/
namespace Go.Proofs.YtbhamhhjicehaaaGreatDoor.lawBusRounds
open Go Go.AX Go.ChangeShapes Go.WideShapes Go.ChangeAt Go.RowKit Go.Proofs.YtbhamhhjicehaaaGreatDoor.ED
theorem own:ownKnob Tryz.prog.godebug=none:=by kernel_rfl
theorem laidOut:laidOutB Tryz.prog=true:=by kernel_rfl
theorem et:Tryz.prog.globalNamed "errors.errorType"=some 0:=by kernel_rfl
theorem rt:(Tryz.prog.cutTypes.find? (·.1=="internal/reflectlite.rtype")).map (·.2)=some 230:=by kernel_rfl
theorem oneRow:((List.range Tryz.prog.types.size).filter fun t=>Tryz.prog.rowNamed t [101,114,114,111,114])=[174]:=by kernel_rfl
theorem handle_of_laid {W:World} (h:laidMetH Tryz.prog Rows.busRoundsRow.laid W):Err.rO W:=by
 have h':laidMet Tryz.prog [] W∧handlesMet Tryz.prog Rows.busRoundsRow.laid W:=h
 obtain⟨name,u,ty,e1,e2,e3,e4,e5⟩:=h'.2 _ (List.mem_singleton.2 rfl)
 have en:name=[101,114,114,111,114]:=(Option.some.inj e1).symm
 subst en
 obtain rfl:=Option.some.inj (rt.symm.trans e2)
 have hm:ty∈(List.range Tryz.prog.types.size).filter fun t=>Tryz.prog.rowNamed t [101,114,114,111,114]:=List.mem_filter.2 ⟨List.mem_range.2 e3,e4⟩
 rw[oneRow]at hm
 obtain rfl:=List.mem_singleton.1 hm
 have hh:typeHandle Tryz.prog 174=.pointer (some ⟨1,174,none⟩):=by kernel_rfl
 rw[hh]at e5
 unfold Err.rO
 simpa using World.var?_cell et e5 0
noncomputable def laidWorld (os:Os):World:=
 let w0:=World.holding Tryz.prog os ⟨#[],#[],[]⟩
 { w0 with heap:=w0.heap.modify 0 fun
   |.cells _ t frozen=>.cells #[.iface 230 (.agg #[.pointer (some ⟨1,174,none⟩)])] t frozen
   |o=>o }
theorem laidWorld_met (os:Os) (args:Array Value):laidMetH Tryz.prog Rows.busRoundsRow.laid ((laidWorld os).forCall (fun _ _=>0) ⟨#[],args,[]⟩).memory:=
 laidMetH_of_parts (laidMet_nil _ _) (by kernel_rfl)
set_option maxRecDepth 100000 in
theorem contract (H:Type) (enc:TypeId×Value→H) (W:World) (base:Nat) (args:Array Value) (ds gs:List (DataW H)) (before:List MemPlace)
  (hval:∀ (j:Nat) t v,Tryz.f4.params[j]?=some t→args[j]?=some v→Value.okWide Tryz.prog W .any base t v)
  (hW:DataW.Whole enc Tryz.prog Tryz.f4.params.toList Rows.busRoundsSpec.vars false W args.toList ds gs before) (hE:Err.rO W) :
  Calls Tryz.prog 4 args W fun e W'=>∃ v,e=.returned v∧Rows.busRoundsSpec.post enc Tryz.prog Tryz.f4 false true false false W args v W':=by
 have hW':=hW
 obtain⟨p,q,hA0,hV,rfl,hfz,hnd⟩:=hW
 have hA:DataW.TrodAll enc Tryz.prog W 0 (fun _=>true) true Tryz.f4.params.toList args.toList ds p:=hA0
 rw[Tryz.params4]at hA hval
 obtain⟨v0,v1,d0,d1,p0,p1,rfl,rfl,rfl,h0,h1⟩:=trodAll_two hA
 obtain⟨rfl,rfl⟩:=trodVars_none hV
 obtain⟨k0,k1⟩:=agB hval
 obtain⟨bs0,n0,cp0,R0,rfl,hl0,hs0,hR0⟩:=Ji (P:=Tryz.prog) (sz:=4) Tryz.underlying22 (by kernel_rfl) (by simp) (show jO Tryz.prog 20 61=some [46,58,4,59] by kernel_rfl) rfl k0 h0
 obtain⟨L0,rfl,hw0⟩:=sJ (f:=fun d:Cb=>jh.Bj d.1) (G:=Uw ⟨W,[]⟩) (fun i r hr=>by
  obtain⟨hl,hc⟩:=hR0 i r hr
  exact XF hl hc)
 rw[List.length_map]at hl0;subst hl0
 obtain⟨bs1,n1,cp1,R1,rfl,hl1,hs1,hR1⟩:=Ji (P:=Tryz.prog) (sz:=2) Tryz.underlying23 (by kernel_rfl) (by simp) (show jO Tryz.prog 20 146=some [3,3] by kernel_rfl) rfl k1 h1
 obtain⟨L1,rfl,hw1⟩:=sJ (f:=jh.dN) (G:=fun s=>True) (fun i r hr=>by
  obtain⟨hl,hc⟩:=hR1 i r hr
  obtain⟨c0,c1,rfl⟩:=X8 hl
  obtain⟨_,_,t0⟩:=hc 0 _ _ rfl rfl
  obtain⟨a0,q0,_,w0⟩:=DataW.trod_int Tryz.underlying3 t0;cases q0
  obtain⟨_,_,t1⟩:=hc 1 _ _ rfl rfl
  obtain⟨a1,q1,_,w1⟩:=DataW.trod_int Tryz.underlying3 t1;cases q1
  exact⟨⟨a0,a1⟩,rfl,trivial⟩)
 rw[List.length_map]at hl1;subst hl1
 exact Sj laidOut (by kernel_rfl) rfl rfl Tryz.underlying4 hW' rfl rfl rfl
  ((KI L0 bs0 cp0 L1 bs1 cp1 _ hE hs0 hw0 hs1).mono fun v H' h=>⟨h.1,h.2▸rfl⟩)
set_option maxRecDepth 100000 in
theorem lifted (os:Os) (started:os.Started) (H:Type) (enc:TypeId×Value→H) :
  ReturnsInHanded {} Tryz.checked os 4 .any (fun w args=>(Rows.busRoundsSpec.pre enc Tryz.prog Tryz.f4 [] false w args∧laidMetH Tryz.prog Rows.busRoundsRow.laid w)∧sizedMet enc Tryz.prog Tryz.f4 (OpenSpec.ofChange Rows.busRoundsSpec) false w args)
   (Rows.busRoundsSpec.post enc Tryz.prog Tryz.f4 false true false false):=by
 refine returnsInHanded_of_change_and (C:=Tryz.checked) (X:=fun w _=>laidMetH Tryz.prog Rows.busRoundsRow.laid w) (fun _ _ _ hh h=>h.of_heap hh) own started (by kernel_rfl) Tryz.func4
  (ChangeSpec.witness_at (enc:=enc) (C:=Tryz.checked) (os:=os) (X:=fun w _=>laidMetH Tryz.prog Rows.busRoundsRow.laid w) false (laidWorld os) #[.slice none 0 0,.slice none 0 0] 8 rfl (by kernel_rfl) (by kernel_rfl) (by kernel_rfl) (by kernel_rfl) (by kernel_rfl) (laidWorld_met os _)) ?_
 intro W base args ds gs before hval hW _ _ hL _
 exact contract H enc W base args ds gs before hval hW (handle_of_laid hL)
theorem row:Rows.BusRoundsSaid:=
 OpenClaim.holds_of_wide 4 Tryz.f4 rfl rfl rfl rfl rfl rfl rfl ⟨rfl,rfl,rfl,rfl,rfl⟩ rfl rfl rfl rfl rfl (by kernel_rfl) Tryz.func4 (by kernel_rfl)
  (of_decide_eq_true (by kernel_rfl)) (by unfold Func.isWrapper;rw[if_neg (of_decide_eq_false (by kernel_rfl))];exact⟨rfl,rfl⟩)
  (fun os started H enc _=>lifted os started H enc)
theorem proved:Rows.BusRoundsCardSaid:=
 Claim7.holds_tied_plain_at .later [] [.handle] true Rows.busRoundsCard.stood.harness true
  row (fun _ h=>by cases h) (by kernel_rfl) (fun _ h=>by cases h) busRounds_row_tie rfl ⟨rfl,rfl⟩ (by kernel_rfl) rfl
  (fun f fn hf hfn=>by
   obtain rfl:f=4:=Option.some.inj ((show Tryz.prog.funcNamed "hayward/haywardlaw15.BusRounds"=some 4 by kernel_rfl).symm.trans hf) |>.symm
   obtain rfl:fn=Tryz.f4:=(Option.some.inj (Tryz.func4.symm.trans hfn)).symm
   exact⟨by kernel_rfl,fun j t ht=>by
     rw[Tryz.params4]at ht
     rcases j with _ | j
     ·have:t=22:=by simpa using ht.symm
      subst this;exact(show Tryz.prog.wantsStandIn 22=false by kernel_rfl)
     rcases j with _ | j
     ·have:t=23:=by simpa using ht.symm
      subst this;exact(show Tryz.prog.wantsStandIn 23=false by kernel_rfl)
     ·simp at ht⟩)
  (by kernel_rfl)
end Go.Proofs.YtbhamhhjicehaaaGreatDoor.lawBusRounds
