/- Texts of mine, one behind another. -/
import Derived.Test.YtbhamhhjicehaaaGreatDoorMBusRounds5
set_option linter.unusedSimpArgs false
set_option linter.unusedVariables false
set_option maxHeartbeats 4000000
set_option maxRecDepth 10000
/- the reference's store: Do. -/
namespace Go.Proofs.YtbhamhhjicehaaaGreatDoor.mF
open Go Go.AX Go.Proofs Ty Go.Proofs.YtbhamhhjicehaaaGreatDoor.File
theorem TD {X:List Nf} {k:Nat} {x:Nf} {f:Fl} (hk:X[k]?=some x) (hd:Kd X):X.set k (x.1,f)=rp x.1 f X:=by
 apply List.ext_getElem?
 intro j
 rw[List.getElem?_set]
 simp only[rp,List.getElem?_map]
 have hlt:=Go.AX.dG hk
 by_cases e:k=j
 ·subst e
  rw[if_pos rfl,if_pos hlt,hk]
  simp
 ·rw[if_neg e]
  cases hj:X[j]? with
  |none=>rfl
  |some y=>
   have:y.1≠x.1:=fun he=>by
    have h1:(X.map (·.1))[j]?=some x.1:=by simp[hj,he]
    have h2:(X.map (·.1))[k]?=some x.1:=by simp[hk]
    exact e ((List.getElem?_inj (by simpa using hlt) hd).1 (h2.trans h1.symm))
   simp[this]
theorem WW {H:AH} {b:Nat} {Z:List RF} {den:Int} {rd:Nat→Prop} (h:jU H b Z den rd) (hX:lG (Z.map RF.nf)) (op fl rec:Int) (v:Rc) :
  aO Tryz.prog 86 #[.pointer (some ⟨b,0,none⟩),.agg #[.int .i64 op,.int .i64 fl,.int .i64 rec],.agg (enc v).toArray] H (fun u H'=>∃ Z' rd',u=doV (Z.map RF.nf) op fl rec v∧Z'.map RF.nf=Dn (Z.map RF.nf) op fl rec v∧jU H' b Z' (Ik (Z.map RF.nf) op fl rec den) rd'∧Keep H H' (·=b)∧∀ x,rd' x→rd x∨aG H x):=by
 have hat:=fun H1 (h1:uX H1 b Z den rd)=>Wv h1 fl
 have Yk:Z.length≤64:=by have:=hX.len;simpa using this
 have bad:∀ {e zL:Int} {H' T:AH},Am (Z.map RF.nf) op fl rec=e→e≠0→Ik (Z.map RF.nf) op fl rec den=zL→jU H' b Z zL rd→Keep H H' (·=b)→H'.le T→∃ H',H'.le T∧∃ Z' rd',Value.tuple #[.agg (enc zr).toArray,.int .i64 e]=doV (Z.map RF.nf) op fl rec v∧Z'.map RF.nf=Dn (Z.map RF.nf) op fl rec v∧jU H' b Z' (Ik (Z.map RF.nf) op fl rec den) rd'∧Keep H H' (·=b)∧∀ x,rd' x→rd x∨aG H x:=fun {e zL H' T} he h0 hd hS hK hl=>
  ⟨H',hl,Z,rd,by rw[doV,Qy,he,if_neg h0],by rw[Dn,he,if_neg h0],hd▸hS,hK,fun x h=>.inl h⟩
 refine aO.cu Tryz.func86 rfl Tryz.ntmps86 Tryz.results86 (by simp) ?_;simp -dsimp(maxSteps:=4000000) only[au,ak,aB,aC,go_sem]
 refine bY.mk fun b4 jr=>?_;have aT:=jr;(try simp only[ah,aj,ne_eq]at aT);have aX:=aT;(try simp only[@eq_comm Nat b4]at aX);simp -dsimp(maxSteps:=4000000) only[au,ak,aB,aC,aT,aX,go_sem]
 refine bY.mk fun b5 iW=>?_;have bQ:=iW;(try simp only[ah,aj,ne_eq]at bQ);have dB:=bQ;(try simp only[@eq_comm Nat b5]at dB);simp -dsimp(maxSteps:=4000000) only[au,ak,aB,aC,aT,aX,bQ,dB,go_sem]
 refine bY.mk fun b6 jL=>?_;have bV:=jL;(try simp only[ah,aj,ne_eq]at bV);have dI:=bV;(try simp only[@eq_comm Nat b6]at dI);simp -dsimp(maxSteps:=4000000) only[au,ak,aB,aC,aT,aX,bQ,dB,bV,dI,go_sem]
 refine(Go.Proofs.YtbhamhhjicehaaaGreatDoor.jX op fl rec _).mono ?_;rintro _ _ ⟨rfl,rfl⟩
 cases hg:yF op fl rec with
 |false=>
  simp -dsimp(maxSteps:=4000000) only[au,ak,aB,aC,aT,aX,bQ,dB,bV,dI,go_sem]
  exact bad (H':=H) (by simp[Am,hg]) (by decide) (by simp[Ik,Am,hg]) h Keep.refl (AH.aK (AH.aK (AH.aK (AH.le_refl _) ((by simp only[au,ak,aB,aC,ah,aj,ne_eq,aT,not_false_eq_true,and_self]:aG _ b4).2)) ((by simp only[au,ak,aB,aC,ah,aj,ne_eq,bQ,not_false_eq_true,and_self]:aG _ b5).2)) ((by simp only[au,ak,aB,aC,ah,aj,ne_eq,bV,not_false_eq_true,and_self]:aG _ b6).2))
 |true=>
  simp -dsimp(maxSteps:=4000000) only[au,ak,aB,aC,aT,aX,bQ,dB,bV,dI,go_sem]
  refine(hat _ (h.at.keep (((Keep.refl.nw jr).nw iW).nw jL) (fun _ _ h=>h) fun h=>h)).mono ?_
  rintro _ _ ⟨r,rfl,ho,rfl⟩
  rcases ho with ⟨rfl,hl⟩ | ⟨i,z,rfl,hz,hn,hl⟩
  ·simp -dsimp(maxSteps:=4000000) only[au,ak,aB,aC,aT,aX,bQ,dB,bV,dI,go_sem]
   exact bad (H':=H) (by simp[Am,hg,hl]) (by decide) (by simp[Ik,Am,hg,hl]) h Keep.refl (AH.aK (AH.aK (AH.aK (AH.le_refl _) ((by simp only[au,ak,aB,aC,ah,aj,ne_eq,aT,not_false_eq_true,and_self]:aG _ b4).2)) ((by simp only[au,ak,aB,aC,ah,aj,ne_eq,bQ,not_false_eq_true,and_self]:aG _ b5).2)) ((by simp only[au,ak,aB,aC,ah,aj,ne_eq,bV,not_false_eq_true,and_self]:aG _ b6).2))
  obtain⟨zb,zc,ht,hZ,hnb,hzb,hk⟩:=id h
  have hi0:(0:Int)≤(i:Int):=by omega
  have hi1:¬ (i:Int)<0:=by omega
  have hilt:=Go.AX.dG hz
  have hlt:(i:Int)<(Z.length:Int):=by omega
  have he:Am (Z.map RF.nf) op fl rec=jJ z.p z.R op rec:=by simp[Am,hg,hl]
  obtain⟨b_,o,rfl,hrow,hrd⟩:=hZ.out.get (Go.AX.dn (f:=gK) hz)
  have hx1:H.row b_ (o+i*3+1) 2=some [.int .i64 z.p,.slice z.base z.R.length z.cap]:=lZ rfl (by decide) fun j c hj=>by
   rw[Nat.add_assoc _ 1 j,Nat.add_comm 1 j]
   exact hrd (j+1) c hj
  have r0:H.rd ⟨b,0,none⟩=some (.slice (some ⟨b_,o,none⟩) Z.length zc):=by rw[gB ht];rfl
  have r1:H.rd ⟨b,1,none⟩=some (.int .i64 den):=by rw[gB ht];rfl
  have n4:¬ b4=b:=jr.cO ht
  have n5:¬ b5=b:=bQ.2.cO ht
  have n6:¬ b6=b:=bV.2.2.cO ht
  have m4:¬ b4=b_:=jr.iP hx1
  have m5:¬ b5=b_:=bQ.2.iP hx1
  have m6:¬ b6=b_:=bV.2.2.iP hx1
  have hin:=hZ.inn z (List.mem_of_getElem? hz)
  have agY:=(hX.ok z.nf (List.mem_map_of_mem (List.mem_of_getElem? hz))).2.2
  simp -dsimp(maxSteps:=4000000) only[hi1,au,ak,aB,aC,aT,aX,bQ,dB,bV,dI,go_sem]
  refine fZ.Zt [.pu,.pu,.pu,.rd,.pu,.pu,.pu,.rd,.pu,.rd,.pu,.rd,.rd,.ch,.pu,.pu,.pu,.pu,.al,.al,.ch,.ch,.pu] [0,1,3,7,0,31,63,127,0,256,0,1024,0,8191,16383,32767,32767,32767,0,0,851967,1966079,4194303] [0,1,2,3,4,5,6,7,8,9,10,11,12,13,14,15,16,17,18,19,20,21,22] 24 (_) mixed (by kernel_rfl) (AH.le_refl _) ?_;rw[Nw];simp(dsimp:=false) only[GX,LY,GY,List.getElem?_cons_zero,List.getElem?_cons_succ,↓reduceIte,Nat.reduceEqDiff,Nat.reduceLT,Nat.reduceLeDiff,Nat.reduceAdd,Nat.reduceMul,Nat.reduceSub,reduceCtorEq,Int.reduceToNat,Int.reduceLT,Int.reduceLE,Int.reduceEq,Int.reduceNe,Int.reduceBEq,Nat.reduceBEq,Int.reduceBNe,Nat.reduceBNe,Int.reduceAdd,Int.reduceSub,Int.reduceMul,Int.reduceNeg]
  obtain⟨_,_,_,_,acL,_⟩:=Jt hg
  obtain⟨rc,rfl⟩:∃ rc:Nat,rec=rc:=⟨rec.toNat,by omega⟩
  simp -dsimp(maxSteps:=4000000) only[r0,hlt,hi0,hx1,n4,n5,n6,m4,m5,m6,au,ak,aB,aC,aT,aX,bQ,dB,bV,dI,go_sem]
  by_cases hmay:jJ z.p z.R op rc=0
  ·have hc:=fun H1 (h1:bG H1 4 z.base z.cap (z.R.map enc))=>RX z.p op rc z.R v z.base z.cap H1 h1 agY hmay
   unfold fv at hc
   refine(hc _ (((hin.add (by simp only[ah,ne_eq,aT,not_false_eq_true,and_self]:aG _ b4)).add (by simp only[ah,ne_eq,bQ,not_false_eq_true,and_self]:aG _ b5)).add (by simp only[ah,ne_eq,bV,not_false_eq_true,and_self]:aG _ b6))).mono ?_;rintro _ _ ⟨b8,c8,bs,lF,rfl,hc8,hbs,rfl⟩
   have aQ:=lF;(try simp only[ah,aj,ne_eq]at aQ);have bF:=aQ;(try simp only[@eq_comm Nat b8]at bF)
   simp -dsimp(maxSteps:=4000000) only[au,ak,aB,aC,aT,aX,bQ,dB,bV,dI,aQ,bF,go_sem]
   refine⟨AH.aK (AH.le_refl _) lF.2,?_⟩
   refine bY.mk fun b9 iI=>?_;have aU:=iI;(try simp only[ah,aj,ne_eq]at aU);have bH:=aU;(try simp only[@eq_comm Nat b9]at bH);simp -dsimp(maxSteps:=4000000) only[au,ak,aB,aC,aT,aX,bQ,dB,bV,dI,aQ,bF,aU,bH,go_sem]
   refine bY.mk fun b10 qg=>?_;have dW:=qg;(try simp only[ah,aj,ne_eq]at dW);have fF:=dW;(try simp only[@eq_comm Nat b10]at fF);simp -dsimp(maxSteps:=4000000) only[au,ak,aB,aC,aT,aX,bQ,dB,bV,dI,aQ,bF,aU,bH,dW,fF,go_sem]
   (repeat (refine And.intro (by(repeat (first | exact AH.le_refl _ | refine AH.aK ?_ ?_));all_goals (first | exact AH.le_refl _ | (show AH.find _ _=_;simp only[aH,aN,aV,ah,aj,ne_eq,not_false_eq_true,true_and,and_true,and_self,au,ak,aB,aC,aT,aX,bQ,dB,bV,dI,aQ,bF,aU,bH,dW,fF]))) ?_;(try simp -dsimp(maxSteps:=4000000) only[au,ak,aB,aC,aT,aX,bQ,dB,bV,dI,aQ,bF,aU,bH,dW,fF,go_sem])))
   have hd8:=aQ.2.2.2
   obtain⟨w,hwv⟩:∃ w,(vX z.R op rc v).getD rc zr=w:=⟨_,rfl⟩
   obtain⟨T,hT⟩:∃ T,((((((H.add b4 (.cells [.int .i64 op,.int .i64 fl,.int .i64 rc] 138 3)).add b5 (.cells (enc v) 76 4)).add b6 (.cells [.int .u8 0,.int .u8 0,.int .u8 0,.int .u8 0] 76 4)).add b8 (.cells ((vX z.R op rc v).map enc).flatten 76 bs)).add b9 (.cells [.int .i64 z.p,.slice (some ⟨b8,0,none⟩) z.R.length c8] 65 2)).add b10 (.cells (enc w) 76 4))=T:=⟨_,rfl⟩
   have kT:Keep H T fun _=>False:=hT▸(((((Keep.refl.nw jr).nw iW).nw jL).nw (by simp only[ah,ne_eq,aQ,not_false_eq_true,and_self])).nw (by simp only[ah,ne_eq,aU,not_false_eq_true,and_self])).nw (by simp only[ah,ne_eq,dW,not_false_eq_true,and_self])
   have t6:T.find b6=some (.cells [.int .u8 0,.int .u8 0,.int .u8 0,.int .u8 0] 76 4):=by rw[←hT];(show AH.find _ _=_;simp only[aH,aN,aV,ah,aj,ne_eq,not_false_eq_true,true_and,and_true,and_self,au,ak,aB,aC,aT,aX,bQ,dB,bV,dI,aQ,bF,aU,bH,dW,fF])
   have t8:T.find b8=some (.cells ((vX z.R op rc v).map enc).flatten 76 bs):=by rw[←hT];(show AH.find _ _=_;simp only[aH,aN,aV,ah,aj,ne_eq,not_false_eq_true,true_and,and_true,and_self,au,ak,aB,aC,aT,aX,bQ,dB,bV,dI,aQ,bF,aU,bH,dW,fF])
   have t9:T.find b9=some (.cells [.int .i64 z.p,.slice (some ⟨b8,0,none⟩) z.R.length c8] 65 2):=by rw[←hT];(show AH.find _ _=_;simp only[aH,aN,aV,ah,aj,ne_eq,not_false_eq_true,true_and,and_true,and_self,au,ak,aB,aC,aT,aX,bQ,dB,bV,dI,aQ,bF,aU,bH,dW,fF])
   have t10:T.find b10=some (.cells (enc w) 76 4):=by rw[←hT];(show AH.find _ _=_;simp only[aH,aN,aV,ah,aj,ne_eq,not_false_eq_true,true_and,and_true,and_self,au,ak,aB,aC,aT,aX,bQ,dB,bV,dI,aQ,bF,aU,bH,dW,fF])
   have tb:=kT.find (fun h=>h) ht
   have hZT:=hZ.keep kT fun _ _ h=>h
   have p6:¬ b6=b:=n6
   have p8:¬ b8=b:=hd8.cO ht
   have p9:¬ b9=b:=aU.2.2.2.2.cO ht
   have p10:¬ b10=b:=dW.2.2.2.2.2.cO ht
   have hf6:aG H b6:=bV.2.2
   have p68:b6≠b8:=fun e=>aQ.1 e.symm
   rw[hwv,hT]
   clear hT jr iW jL lF iI qg aT bQ bV aQ aU dW aX dB dI bF bH fF m4 m5 m6 n4 n5 n6
   refine bY.mk fun bl iR=>?_
   have kl:Keep T (T.add bl (.cells [] 67 0)) fun _=>False:=Keep.add iR
   have rT:(T.add bl (.cells [] 67 0)).rd ⟨b,0,none⟩=some (.slice (some ⟨b_,o,none⟩) Z.length zc):=by rw[gB (kl.find (fun h=>h) tb)];rfl
   simp -dsimp(maxSteps:=4000000) only[rT,au,ak,aB,aC,go_sem]
   refine lS.growS (H0:=T) (m:=Z.length) (R:=[]) (R':=Z.map gK) (fJ.new iR (AH.le_refl _) rfl rfl rfl (by simp) (by simp)) kl.all Ak rfl (by decide) (by decide) (by rw[Tryz.underlying46];rfl) rfl (by simp) (hZT.keep kl fun _ _ h=>h).out (qR Z) (JJ Z) (by omega) fun base' cap' A kJ hK' hN'=>?_
   refine⟨A,AH.le_refl _,?_⟩
   rw[List.nil_append]at kJ
   rw[Nat.zero_add]
   have kA:Keep T A fun _=>False:=kl.ow hK' fun b ⟨a,ha,e⟩=>by cases ha;exact e▸iR
   obtain⟨bb,bs',rfl,hbb,hbs',hfb⟩:∃ bb bs',base'=some ⟨bb,0,none⟩∧A.find bb=some (.cells (Z.map gK).flatten 67 bs')∧cap'*3≤bs'∧aG T bb:=by
    rcases kJ.at_ with ⟨_,h,_⟩ | ⟨b',bs,h,hfd,h2,h3⟩
    ·rw[List.map_eq_nil_iff]at h;subst h;simp at hilt
    ·exact⟨b',bs,h,hfd,h2,h3⟩
   have hcl:Z.length≤cap':=by have:=kJ.le;simpa using this
   have ab:=kA.find (fun h=>h) tb
   have q0:bb≠b:=hfb.cO tb
   have q6:bb≠b6:=hfb.cO t6
   have q8:bb≠b8:=hfb.cO t8
   have q9:bb≠b9:=hfb.cO t9
   have q10:bb≠b10:=hfb.cO t10
   obtain⟨A2,hA2⟩:∃ A2,A.set b (.cells [.slice (some ⟨bb,0,none⟩) Z.length cap',.int .i64 den] 50 2)=A2:=⟨_,rfl⟩
   have k2:Keep A A2 (·=b):=hA2▸Keep.set
   have hw1:A.uH b 0 [.slice (some ⟨bb,0,none⟩) Z.length cap']=some A2:=by rw[←hA2];simp[AH.uH,ab,iO,iM]
   have ZI:A2.find b=some (.cells [.slice (some ⟨bb,0,none⟩) Z.length cap',.int .i64 den] 50 2):=by rw[←hA2,dw,if_pos rfl]
   have Qb:=k2.find q0 hbb
   obtain⟨z',hz'⟩:∃ z':RF,z'=⟨z.n,z.p,some ⟨b8,0,none⟩,c8,vX z.R op rc v⟩:=⟨_,rfl⟩
   have hdl:z'.R.length=z.R.length:=by rw[hz'];exact BF ..
   obtain⟨A3,hA3⟩:∃ A3,A2.set bb (.cells ((Z.set i z').map gK).flatten 67 bs')=A3:=⟨_,rfl⟩
   have k3:Keep A2 A3 (·=bb):=hA3▸Keep.set
   have hfl:(Z.map gK).flatten.length=Z.length*3:=by rw[jS (qR Z),List.length_map]
   have hput:iO (Z.map gK).flatten (i*3+1) [.int .i64 z.p,.slice (some ⟨b8,0,none⟩) z.R.length c8]=((Z.set i z').map gK).flatten:=by
    rw[List.map_set,←jW (qR Z) i (gK z') (by simpa using hilt) rfl]
    have e0:(Z.map gK).flatten[i*3+0]?=some (.int .i64 z.n):=flat_get (qR Z) i 0 (gK z) _ (Go.AX.dn hz) rfl
    rw[Nat.add_zero]at e0
    have e1:(Z.map gK).flatten.set (i*3) (.int .i64 z.n)=(Z.map gK).flatten:=by
     apply List.ext_getElem?
     intro j
     rw[List.getElem?_set]
     by_cases e:i*3=j
     ·subst e;rw[if_pos rfl,if_pos (Go.AX.dG e0)];exact e0.symm
     ·rw[if_neg e]
    have e2:gK z'=[.int .i64 z.n,.int .i64 z.p,.slice (some ⟨b8,0,none⟩) z.R.length c8]:=by
     rw[gK,hdl,hz']
    rw[e2,show iO (Z.map gK).flatten (i*3) [.int .i64 z.n,.int .i64 z.p,.slice (some ⟨b8,0,none⟩) z.R.length c8]=iO ((Z.map gK).flatten.set (i*3) (.int .i64 z.n)) (i*3+1) [.int .i64 z.p,.slice (some ⟨b8,0,none⟩) z.R.length c8] from rfl,e1]
   have hw2:A2.uH bb (i*3+1) [.int .i64 z.p,.slice (some ⟨b8,0,none⟩) z.R.length c8]=some A3:=by
    unfold AH.uH
    rw[Qb]
    simp only
    rw[if_pos ⟨by rw[hfl];simp only[List.length_cons,List.length_nil];omega,by rw[hfl];omega,rfl⟩,hput,hA3]
   obtain⟨A4,Qc⟩:∃ A4,A3.set b6 (.cells (enc w) 76 4)=A4:=⟨_,rfl⟩
   have k4:Keep A3 A4 (·=b6):=Qc▸Keep.set
   have g6:=k3.find (Ne.symm q6) (k2.find p6 (kA.find (fun h=>h) t6))
   have g10:=k3.find (Ne.symm q10) (k2.find p10 (kA.find (fun h=>h) t10))
   have hw3:A3.uH b6 0 (enc w)=some A4:=by rw[←Qc];simp[AH.uH,g6,enc,iO,iM]
   have r2:A2.rd ⟨b,0,none⟩=some (.slice (some ⟨bb,0,none⟩) Z.length cap'):=by rw[gB ZI];rfl
   have w9:A2.row b9 0 2=some [.int .i64 z.p,.slice (some ⟨b8,0,none⟩) z.R.length c8]:=iZ (k2.find p9 (kA.find (fun h=>h) t9)) (by simp)
   have w10:A3.row b10 0 4=some (enc w):=iZ g10 (by simp[enc])
   have g6':A4.find b6=some (.cells (enc w) 76 4):=by rw[←Qc,dw,if_pos rfl]
   have w6:A4.row b6 0 4=some (enc w):=iZ g6' (by simp[enc])
   simp -dsimp(maxSteps:=4000000) only[hw1,au,ak,aB,aC,go_sem]
   refine fZ.gen [.pu,.pu,.pu,.rd,.pu,.rd,.pu,.pu,.ch] [0,1,3,7,0,0,63,127,255] 0 (_) mixed (by kernel_rfl) (AH.le_refl _) ?_
   simp -dsimp(maxSteps:=4000000) only[r2,w9,hlt,hi0,hw2,w10,hw3,w6,au,ak,aB,aC,go_sem]
   have JK:Keep H A4 (·=b):=((((kT.trans kA).mono fun _ h=>h.elim).trans k2).then k3 fun x e=>.inr (e▸kT.fr hfb)).then k4 fun x e=>.inr (e▸hf6)
   have h256:z.R.length≤256:=(l9 (hX.ok z.nf (List.mem_map_of_mem (List.mem_of_getElem? hz))).2.1).2
   have a4b:A4.find b=some (.cells [.slice (some ⟨bb,0,none⟩) Z.length cap',.int .i64 den] 50 2):=k4.find (Ne.symm p6) (k3.find (Ne.symm q0) ZI)
   have TF:A4.find bb=some (.cells ((Z.set i z').map gK).flatten 67 bs'):=k4.find q6 (by rw[←hA3,dw,if_pos rfl])
   have ac1:A4.find b8=some (.cells ((vX z.R op rc v).map enc).flatten 76 bs):=k4.find (Ne.symm p68) (k3.find (Ne.symm q8) (k2.find p8 (kA.find (fun h=>h) t8)))
   have hN:=(((hZT.keep kA fun _ _ h=>h).keep k2 fun x hx e=>hnb (e▸hx)).keep k3 fun x hx e=>hk x hx (e▸kT.fr hfb)).keep k4 fun x hx e=>hk x hx (e▸hf6)
   have h0:Am (Z.map RF.nf) op fl rc=0:=he.trans hmay
   refine⟨A4,AH.le_refl _,Z.set i z',fun x=>rd x∨x=bb∨x=b8,?_,?_,⟨some ⟨bb,0,none⟩,cap',?_,⟨?_,fun x hx=>?_,?_,fun x hx=>?_⟩,?_,.inr ⟨bb,0,rfl⟩,?_⟩,JK,?_⟩
   ·rw[doV,Qy,if_pos h0,hl,h0,←hwv];rfl
   ·rw[Dn,if_pos h0,hl,List.map_set]
    have:=TD (X:=Z.map RF.nf) (k:=i) (x:=z.nf) (f:=doF (z.p,z.R) op rc v) (by rw[List.getElem?_map,hz];rfl) hX.kd
    rw[←hn]
    rw[hz']
    exact this
   ·rw[List.length_set,Ik,if_neg (by rw[h0];decide)];exact a4b
   ·exact bG.iU TF (qR _) (by rw[List.length_map,List.length_set];exact hcl) (by rw[List.length_map,List.length_set];omega)
   ·rcases List.mem_or_eq_of_mem_set hx with hx | rfl
    ·exact hN.inn x hx
    ·rw[hz']
     refine bG.iU ac1 (lg _) ?_ ?_
     ·rw[List.length_map,BF];exact hc8
     ·rw[List.length_map,BF];omega
   ·exact .inr fun a ha=>by cases ha;exact .inr (.inl rfl)
   ·rcases List.mem_or_eq_of_mem_set hx with hx | rfl
    ·exact(hN.r2 x hx).imp id fun h a ha=>.inl (h a ha)
    ·exact .inr fun a ha=>by rw[hz']at ha;cases ha;exact .inr (.inr rfl)
   ·rintro(h | h | h)
    ·exact hnb h
    ·exact q0 h.symm
    ·exact p8 h.symm
   ·rintro x (h | h | h) hf
    ·exact hk x h (JK.fresh hf fun e=>hnb (e▸h))
    ·subst h;exact hf.cO TF rfl
    ·subst h;exact hf.cO ac1 rfl
   ·rintro x (h | h | h)
    ·exact .inl h
    ·subst h;exact .inr (kT.fr hfb)
    ·subst h;exact .inr hd8
  ·have hc:=fun H1 (h1:bG H1 4 z.base z.cap (z.R.map enc))=>PN z.p op rc z.R v z.base z.cap H1 h1 hmay
   unfold fv at hc
   refine(hc _ (((hin.add (by simp only[ah,ne_eq,aT,not_false_eq_true,and_self]:aG _ b4)).add (by simp only[ah,ne_eq,bQ,not_false_eq_true,and_self]:aG _ b5)).add (by simp only[ah,ne_eq,bV,not_false_eq_true,and_self]:aG _ b6))).mono ?_;rintro _ _ ⟨rfl,rfl⟩
   simp -dsimp(maxSteps:=4000000) only[V8,au,ak,aB,aC,aT,aX,bQ,dB,bV,dI,go_sem]
   refine bY.mk fun b9 iI=>?_;have aU:=iI;(try simp only[ah,aj,ne_eq]at aU);have bH:=aU;(try simp only[@eq_comm Nat b9]at bH);simp -dsimp(maxSteps:=4000000) only[au,ak,aB,aC,aT,aX,bQ,dB,bV,dI,aU,bH,go_sem]
   refine bY.mk fun b10 qg=>?_;have dW:=qg;(try simp only[ah,aj,ne_eq]at dW);have fF:=dW;(try simp only[@eq_comm Nat b10]at fF);simp -dsimp(maxSteps:=4000000) only[au,ak,aB,aC,aT,aX,bQ,dB,bV,dI,aU,bH,dW,fF,go_sem]
   have n9:¬ b9=b:=aU.2.2.2.cO ht
   have n10:¬ b10=b:=dW.2.2.2.2.cO ht
   by_cases e5:jJ z.p z.R op rc=5
   ·have hw:H.uH b 1 [.int .i64 (IntKind.i64.wrap (den+1))]=some (H.set b (.cells [.slice (some ⟨b_,o,none⟩) Z.length zc,.int .i64 (IntKind.i64.wrap (den+1))] 50 2)):=by
     simp[AH.uH,ht,iO,iM]
    have hset:Keep H (H.set b (.cells [.slice (some ⟨b_,o,none⟩) Z.length zc,.int .i64 (IntKind.i64.wrap (den+1))] 50 2)) (·=b):=Keep.set
    have hdr:∀ x,rd x→¬ x=b:=fun x hx e=>hnb (e▸hx)
    (repeat (refine And.intro (by(repeat (first | exact AH.le_refl _ | refine AH.aK ?_ ?_));all_goals (first | exact AH.le_refl _ | (show AH.find _ _=_;simp only[aH,aN,aV,ah,aj,ne_eq,not_false_eq_true,true_and,and_true,and_self,au,ak,aB,aC,aT,aX,bQ,dB,bV,dI,aU,bH,dW,fF]))) ?_;(try simp -dsimp(maxSteps:=4000000) only[hmay,e5,r1,n4,n5,n6,n9,n10,hw,au,ak,aB,aC,aT,aX,bQ,dB,bV,dI,aU,bH,dW,fF,go_sem])))
    exact bad (e:=5) (zL:=IntKind.i64.wrap (den+1)) (H':=H.set b (.cells [.slice (some ⟨b_,o,none⟩) Z.length zc,.int .i64 (IntKind.i64.wrap (den+1))] 50 2)) (he.trans e5) (by decide) (by rw[Ik,if_pos (he.trans e5)]) ⟨some ⟨b_,o,none⟩,zc,by rw[dw,if_pos rfl],hZ.keep hset hdr,hnb,.inr ⟨b_,o,rfl⟩,hk.keep hset hdr⟩ hset (by(repeat (first | exact AH.le_refl _ | refine AH.aK ?_ ?_));all_goals (first | exact AH.le_refl _ | (show AH.find _ _=_;simp only[aH,aN,aV,ah,aj,ne_eq,not_false_eq_true,true_and,and_true,and_self,au,n4,n5,n6,n9,n10,aT,aX,bQ,dB,bV,dI,aU,bH,dW,fF])))
   ·(repeat (refine And.intro (by(repeat (first | exact AH.le_refl _ | refine AH.aK ?_ ?_));all_goals (first | exact AH.le_refl _ | (show AH.find _ _=_;simp only[aH,aN,aV,ah,aj,ne_eq,not_false_eq_true,true_and,and_true,and_self,au,ak,aB,aC,aT,aX,bQ,dB,bV,dI,aU,bH,dW,fF]))) ?_;(try simp -dsimp(maxSteps:=4000000) only[hmay,e5,au,ak,aB,aC,aT,aX,bQ,dB,bV,dI,aU,bH,dW,fF,go_sem])))
    exact bad (H':=H) he hmay (by rw[Ik,he,if_neg e5]) h Keep.refl (AH.aK (AH.aK (AH.aK (AH.aK (AH.aK (AH.le_refl _) ((by simp only[au,ak,aB,aC,ah,aj,ne_eq,aT,not_false_eq_true,and_self]:aG _ b4).2)) ((by simp only[au,ak,aB,aC,ah,aj,ne_eq,bQ,not_false_eq_true,and_self]:aG _ b5).2)) ((by simp only[au,ak,aB,aC,ah,aj,ne_eq,bV,not_false_eq_true,and_self]:aG _ b6).2)) ((by simp only[au,ak,aB,aC,ah,aj,ne_eq,aU,not_false_eq_true,and_self]:aG _ b9).2)) ((by simp only[au,ak,aB,aC,ah,aj,ne_eq,dW,not_false_eq_true,and_self]:aG _ b10).2))
end Go.Proofs.YtbhamhhjicehaaaGreatDoor.mF
/- the reference's store: Set. -/
namespace Go.Proofs.YtbhamhhjicehaaaGreatDoor.mF
open Go Go.AX Go.Proofs Ty Go.Proofs.YtbhamhhjicehaaaGreatDoor.File
theorem WX {Z:List RF} {i:Nat} {z z':RF} (hz:Z[i]?=some z) (hn:z'.n=z.n):iO (Z.map gK).flatten (i*3+1) [.int .i64 z'.p,.slice z'.base z'.R.length z'.cap]=((Z.set i z').map gK).flatten:=by
 have hilt:=Go.AX.dG hz
 rw[List.map_set,←jW (qR Z) i (gK z') (by simpa using hilt) rfl]
 have e0:(Z.map gK).flatten[i*3+0]?=some (.int .i64 z.n):=flat_get (qR Z) i 0 (gK z) _ (Go.AX.dn hz) rfl
 rw[Nat.add_zero]at e0
 have e1:(Z.map gK).flatten.set (i*3) (.int .i64 z.n)=(Z.map gK).flatten:=by
  apply List.ext_getElem?
  intro j
  rw[List.getElem?_set]
  by_cases e:i*3=j
  ·subst e;rw[if_pos rfl,if_pos (Go.AX.dG e0)];exact e0.symm
  ·rw[if_neg e]
 rw[gK,hn,show iO (Z.map gK).flatten (i*3) [.int .i64 z.n,.int .i64 z'.p,.slice z'.base z'.R.length z'.cap]=iO ((Z.map gK).flatten.set (i*3) (.int .i64 z.n)) (i*3+1) [.int .i64 z'.p,.slice z'.base z'.R.length z'.cap] from rfl,e1]
theorem TG {H:AH} {b:Nat} {Z:List RF} {den:Int} {rd:Nat→Prop} (h:jU H b Z den rd) (hX:lG (Z.map RF.nf)) (n rec:Int) (v:Rc) :
  aO Tryz.prog 85 #[.pointer (some ⟨b,0,none⟩),.int .i64 n,.int .i64 rec,.agg (enc v).toArray] H (fun u H'=>∃ Z' rd',u=.bool (kQ (Z.map RF.nf) n rec)∧Z'.map RF.nf=jk (Z.map RF.nf) n rec v∧jU H' b Z' den rd'∧Keep H H' (·=b)∧∀ x,rd' x→rd x∨aG H x):=by
 have hget:=fun H1 (h1:uX H1 b Z den rd)=>Du h1 n rec
 have hat:=fun H1 (h1:uX H1 b Z den rd)=>Wv h1 n
 have Yk:Z.length≤64:=by have:=hX.len;simpa using this
 have bad:∀ {T:AH},kQ (Z.map RF.nf) n rec=false→H.le T→∃ H',H'.le T∧∃ Z' rd',Value.bool false=.bool (kQ (Z.map RF.nf) n rec)∧Z'.map RF.nf=jk (Z.map RF.nf) n rec v∧jU H' b Z' den rd'∧Keep H H' (·=b)∧∀ x,rd' x→rd x∨aG H x:=fun {T} h0 hl=>
  ⟨H,hl,Z,rd,by rw[h0],by rw[jk,h0];rfl,h,Keep.refl,fun x h=>.inl h⟩
 refine aO.cu Tryz.func85 rfl Tryz.ntmps85 Tryz.results85 (by simp) ?_;simp -dsimp(maxSteps:=4000000) only[au,ak,aB,aC,go_sem]
 refine bY.mk fun b7 jM=>?_;have bI:=jM;(try simp only[ah,aj,ne_eq]at bI);have bU:=bI;(try simp only[@eq_comm Nat b7]at bU);simp -dsimp(maxSteps:=4000000) only[au,ak,aB,aC,bI,bU,go_sem]
 refine(hget _ (h.at.keep (Keep.refl.nw jM) (fun _ _ h=>h) fun h=>h)).mono ?_
 rintro _ _ ⟨rfl,rfl⟩
 cases hg:iJ (Z.map RF.nf) n rec with
 |none=>
  simp only[uV]
  simp -dsimp(maxSteps:=4000000) only[au,ak,aB,aC,bI,bU,go_sem]
  refine bY.mk fun b9 iI=>?_;have aU:=iI;(try simp only[ah,aj,ne_eq]at aU);have bH:=aU;(try simp only[@eq_comm Nat b9]at bH);simp -dsimp(maxSteps:=4000000) only[au,ak,aB,aC,bI,bU,aU,bH,go_sem]
  exact bad (by simp[kQ,hg]) (AH.aK (AH.aK (AH.le_refl _) ((by simp only[au,ak,aB,aC,ah,aj,ne_eq,bI,not_false_eq_true,and_self]:aG _ b7).2)) ((by simp only[au,ak,aB,aC,ah,aj,ne_eq,aU,not_false_eq_true,and_self]:aG _ b9).2))
 |some r=>
  by_cases h0:rec=0
  ·subst h0
   simp only[uV]
   simp -dsimp(maxSteps:=4000000) only[au,ak,aB,aC,bI,bU,go_sem]
   refine bY.mk fun b9 iI=>?_;have aU:=iI;(try simp only[ah,aj,ne_eq]at aU);have bH:=aU;(try simp only[@eq_comm Nat b9]at bH);simp -dsimp(maxSteps:=4000000) only[au,ak,aB,aC,bI,bU,aU,bH,go_sem]
   exact bad (by simp[kQ]) (AH.aK (AH.aK (AH.le_refl _) ((by simp only[au,ak,aB,aC,ah,aj,ne_eq,bI,not_false_eq_true,and_self]:aG _ b7).2)) ((by simp only[au,ak,aB,aC,ah,aj,ne_eq,aU,not_false_eq_true,and_self]:aG _ b9).2))
  have hok:kQ (Z.map RF.nf) n rec=true:=by simp[kQ,hg,h0]
  simp only[uV]
  simp -dsimp(maxSteps:=4000000) only[au,ak,aB,aC,bI,bU,go_sem]
  refine bY.mk fun b9 iI=>?_;have aU:=iI;(try simp only[ah,aj,ne_eq]at aU);have bH:=aU;(try simp only[@eq_comm Nat b9]at bH);simp -dsimp(maxSteps:=4000000) only[au,ak,aB,aC,bI,bU,aU,bH,go_sem]
  simp -dsimp(maxSteps:=4000000) only[h0,au,ak,aB,aC,bI,bU,aU,bH,go_sem]
  refine(hat _ (h.at.keep ((Keep.refl.nw jM).nw iI) (fun _ _ h=>h) fun h=>h)).mono ?_
  rintro _ _ ⟨q,rfl,ho,rfl⟩
  rcases ho with ⟨rfl,hl⟩ | ⟨i,z,rfl,hz,hn,hl⟩
  ·rw[iJ,hl]at hg;cases hg
  obtain⟨zb,zc,ht,hZ,hnb,hzb,hk⟩:=id h
  have hi0:(0:Int)≤(i:Int):=by omega
  have hilt:=Go.AX.dG hz
  have hlt:(i:Int)<(Z.length:Int):=by omega
  rw[BD hl]at hg
  have hr0:¬ rec<0:=fun h=>by rw[if_pos h]at hg;cases hg
  rw[if_neg hr0]at hg
  obtain⟨rc,rfl⟩:∃ rc:Nat,rec=rc:=⟨rec.toNat,by omega⟩
  have hrc:=Go.AX.dG hg
  simp only[Int.toNat_natCast]at hrc
  have ag0:(rc:Int)<(z.R.length:Int):=by omega
  have ag1:(0:Int)≤(rc:Int):=by omega
  have hgd:=hX.ok z.nf (List.mem_map_of_mem (List.mem_of_getElem? hz))
  have h256:z.R.length≤256:=(l9 hgd.2.1).2
  obtain⟨T,hT⟩:∃ T,((H.add b7 (.cells (enc v) 76 4)).add b9 (.cells (enc r) 76 4))=T:=⟨_,rfl⟩
  have kT:Keep H T fun _=>False:=hT▸(Keep.refl.nw jM).nw iI
  have t7:T.find b7=some (.cells (enc v) 76 4):=by rw[←hT];(show AH.find _ _=_;simp only[aH,aN,aV,ah,aj,ne_eq,not_false_eq_true,true_and,and_true,and_self,au,ak,aB,aC,bI,bU,aU,bH])
  have tb:=kT.find (fun h=>h) ht
  have hZT:=hZ.keep kT fun _ _ h=>h
  have p7:¬ b7=b:=jM.cO ht
  rw[hT]
  clear hT jM iI bI aU bU bH
  simp -dsimp(maxSteps:=4000000) only[au,ak,aB,aC,go_sem]
  refine bY.mk fun bl iR=>?_
  have kl:Keep T (T.add bl (.cells [] 67 0)) fun _=>False:=Keep.add iR
  have rT:(T.add bl (.cells [] 67 0)).rd ⟨b,0,none⟩=some (.slice zb Z.length zc):=by rw[gB (kl.find (fun h=>h) tb)];rfl
  simp -dsimp(maxSteps:=4000000) only[rT,au,ak,aB,aC,go_sem]
  refine lS.growS (H0:=T) (m:=Z.length) (R:=[]) (R':=Z.map gK) (fJ.new iR (AH.le_refl _) rfl rfl rfl (by simp) (by simp)) kl.all Ak rfl (by decide) (by decide) (by rw[Tryz.underlying46];rfl) rfl (by simp) (hZT.keep kl fun _ _ h=>h).out (qR Z) (JJ Z) (by omega) fun base' cap' A kJ hK' hN'=>?_
  refine⟨A,AH.le_refl _,?_⟩
  rw[List.nil_append]at kJ
  rw[Nat.zero_add]
  have kA:Keep T A fun _=>False:=kl.ow hK' fun b ⟨a,ha,e⟩=>by cases ha;exact e▸iR
  obtain⟨bb,bs',rfl,hbb,hbs',hfb⟩:∃ bb bs',base'=some ⟨bb,0,none⟩∧A.find bb=some (.cells (Z.map gK).flatten 67 bs')∧cap'*3≤bs'∧aG T bb:=by
   rcases kJ.at_ with ⟨_,h,_⟩ | ⟨b',bs,h,hfd,h2,h3⟩
   ·rw[List.map_eq_nil_iff]at h;subst h;simp at hilt
   ·exact⟨b',bs,h,hfd,h2,h3⟩
  have hcl:Z.length≤cap':=by have:=kJ.le;simpa using this
  have ab:=kA.find (fun h=>h) tb
  have q0:bb≠b:=hfb.cO tb
  have q7:bb≠b7:=hfb.cO t7
  obtain⟨A2,hA2⟩:∃ A2,A.set b (.cells [.slice (some ⟨bb,0,none⟩) Z.length cap',.int .i64 den] 50 2)=A2:=⟨_,rfl⟩
  have k2:Keep A A2 (·=b):=hA2▸Keep.set
  have hw1:A.uH b 0 [.slice (some ⟨bb,0,none⟩) Z.length cap']=some A2:=by rw[←hA2];simp[AH.uH,ab,iO,iM]
  have ZI:A2.find b=some (.cells [.slice (some ⟨bb,0,none⟩) Z.length cap',.int .i64 den] 50 2):=by rw[←hA2,dw,if_pos rfl]
  have Qb:=k2.find q0 hbb
  have r2:A2.rd ⟨b,0,none⟩=some (.slice (some ⟨bb,0,none⟩) Z.length cap'):=by rw[gB ZI];rfl
  have hS2:bG A2 3 (some ⟨bb,0,none⟩) cap' (Z.map gK):=bG.iU Qb (qR Z) (by simpa using hcl) (by simp;omega)
  have hx2:A2.row bb (i*3+1) 2=some [.int .i64 z.p,.slice z.base z.R.length z.cap]:=by
   obtain⟨b_,o,he,hrow,hrd⟩:=hS2.get (Go.AX.dn (f:=gK) hz)
   cases he
   rw[Nat.zero_add]at hrd
   exact lZ rfl (by decide) fun j c hj=>by
    rw[Nat.add_assoc _ 1 j,Nat.add_comm 1 j]
    exact hrd (j+1) c hj
  have c2:A2.find b7=some (.cells (enc v) 76 4):=k2.find p7 (kA.find (fun h=>h) t7)
  have hin2:=((hZT.keep kA fun _ _ h=>h).keep k2 fun x hx e=>hnb (e▸hx)).inn z (List.mem_of_getElem? hz)
  simp -dsimp(maxSteps:=4000000) only[hw1,au,ak,aB,aC,go_sem]
  simp -dsimp(maxSteps:=4000000) only[r2,hlt,hi0,hx2,au,ak,aB,aC,go_sem]
  refine bY.mk fun b12 lK=>?_;have fQ:=lK;(try simp only[ah,aj,ne_eq]at fQ);have gX:=fQ;(try simp only[@eq_comm Nat b12]at gX);simp -dsimp(maxSteps:=4000000) only[au,ak,aB,aC,fQ,gX,go_sem]
  obtain⟨T2,hT2⟩:∃ T2,A2.add b12 (.cells [.int .i64 z.p,.slice z.base z.R.length z.cap] 65 2)=T2:=⟨_,rfl⟩
  have UK:Keep A2 T2 fun _=>False:=hT2▸Keep.add lK
  have t12:T2.find b12=some (.cells [.int .i64 z.p,.slice z.base z.R.length z.cap] 65 2):=by rw[←hT2,aH]
  have n12:b12≠b:=lK.cO ZI
  have ag2:b12≠bb:=lK.cO Qb
  have ag3:b12≠b7:=lK.cO c2
  have f12:aG A2 b12:=lK
  rw[hT2]
  clear hT2 lK fQ gX
  refine bY.mk fun bm rP=>?_
  have km:Keep T2 (T2.add bm (.cells [] 76 0)) fun _=>False:=Keep.add rP
  have r12:(T2.add bm (.cells [] 76 0)).rd ⟨b12,1,none⟩=some (.slice z.base z.R.length z.cap):=by rw[gB (km.find (fun h=>h) t12)];rfl
  simp -dsimp(maxSteps:=4000000) only[r12,au,ak,aB,aC,go_sem]
  refine lS.growS (H0:=T2) (m:=z.R.length) (R:=[]) (R':=z.R.map enc) (fJ.new rP (AH.le_refl _) rfl rfl rfl (by simp) (by simp)) km.all C9 rfl (by decide) (by decide) (by rw[Tryz.underlying63];rfl) rfl (by simp) ((hin2.keep UK fun _ _ h=>h).keep km fun _ _ h=>h) (lg z.R) (Fg z.R) (by omega) fun nG cap3 B hOB hKB hNB=>?_
  refine⟨B,AH.le_refl _,?_⟩
  rw[List.nil_append]at hOB
  rw[Nat.zero_add]
  have kB:Keep T2 B fun _=>False:=km.ow hKB fun b ⟨a,ha,e⟩=>by cases ha;exact e▸rP
  obtain⟨bq,bs3,rfl,hbq,alT,hfq⟩:∃ bq bs3,nG=some ⟨bq,0,none⟩∧B.find bq=some (.cells (z.R.map enc).flatten 76 bs3)∧cap3*4≤bs3∧aG T2 bq:=by
   rcases hOB.at_ with ⟨_,h,_⟩ | ⟨b',bs,h,hfd,h2,h3⟩
   ·rw[List.map_eq_nil_iff]at h;rw[h]at hrc;simp at hrc
   ·exact⟨b',bs,h,hfd,h2,h3⟩
  have hcq:z.R.length≤cap3:=by have:=hOB.le;simpa using this
  have m0:bq≠b:=hfq.cO (UK.find (fun h=>h) ZI)
  have m7:bq≠b7:=hfq.cO (UK.find (fun h=>h) c2)
  have mb:bq≠bb:=hfq.cO (UK.find (fun h=>h) Qb)
  have m12:bq≠b12:=hfq.cO t12
  obtain⟨B2,hB2⟩:∃ B2,B.set b12 (.cells [.int .i64 z.p,.slice (some ⟨bq,0,none⟩) z.R.length cap3] 65 2)=B2:=⟨_,rfl⟩
  have kB2:Keep B B2 (·=b12):=hB2▸Keep.set
  have hw2:B.uH b12 1 [.slice (some ⟨bq,0,none⟩) z.R.length cap3]=some B2:=by rw[←hB2];simp[AH.uH,kB.find (fun h=>h) t12,iO,iM]
  have e12:B2.find b12=some (.cells [.int .i64 z.p,.slice (some ⟨bq,0,none⟩) z.R.length cap3] 65 2):=by rw[←hB2,dw,if_pos rfl]
  have r13:B2.rd ⟨b12,1,none⟩=some (.slice (some ⟨bq,0,none⟩) z.R.length cap3):=by rw[gB e12];rfl
  have w7:B2.row b7 0 4=some (enc v):=iZ (kB2.find (Ne.symm ag3) (kB.find (fun h=>h) (UK.find (fun h=>h) c2))) (by simp[enc])
  obtain⟨B3,hB3⟩:∃ B3,B2.set bq (.cells ((z.R.set rc v).map enc).flatten 76 bs3)=B3:=⟨_,rfl⟩
  have kB3:Keep B2 B3 (·=bq):=hB3▸Keep.set
  have hq2:=kB2.find m12 hbq
  have hl4:=rM z.R
  have hw3:B2.uH bq (rc*4) (enc v)=some B3:=by
   unfold AH.uH
   rw[hq2]
   simp only
   rw[if_pos ⟨by rw[au,hl4];omega,by rw[hl4];omega,ak v⟩,jW (lg z.R) rc (enc v) (by simpa using hrc) (au v),←List.map_set,hB3]
  have ab3:=kB3.find (Ne.symm m0) (kB2.find (Ne.symm n12) (kB.find (fun h=>h) (UK.find (fun h=>h) ZI)))
  have r3:B3.rd ⟨b,0,none⟩=some (.slice (some ⟨bb,0,none⟩) Z.length cap'):=by rw[gB ab3];rfl
  have w12:B3.row b12 0 2=some [.int .i64 z.p,.slice (some ⟨bq,0,none⟩) z.R.length cap3]:=iZ (kB3.find (Ne.symm m12) e12) (by simp)
  have ag5:=kB3.find (Ne.symm mb) (kB2.find (Ne.symm ag2) (kB.find (fun h=>h) (UK.find (fun h=>h) Qb)))
  obtain⟨z',hz'⟩:∃ z':RF,z'=⟨z.n,z.p,some ⟨bq,0,none⟩,cap3,z.R.set rc v⟩:=⟨_,rfl⟩
  have hput:=WX (z':=z') hz (by rw[hz'])
  rw[show([.int .i64 z'.p,.slice z'.base z'.R.length z'.cap]:List Value)=[.int .i64 z.p,.slice (some ⟨bq,0,none⟩) z.R.length cap3] from by rw[hz'];simp]at hput
  have hfl:(Z.map gK).flatten.length=Z.length*3:=by rw[jS (qR Z),List.length_map]
  obtain⟨B4,hB4⟩:∃ B4,B3.set bb (.cells ((Z.set i z').map gK).flatten 67 bs')=B4:=⟨_,rfl⟩
  have kB4:Keep B3 B4 (·=bb):=hB4▸Keep.set
  have hw4:B3.uH bb (i*3+1) [.int .i64 z.p,.slice (some ⟨bq,0,none⟩) z.R.length cap3]=some B4:=by
   unfold AH.uH
   rw[ag5]
   simp only
   rw[if_pos ⟨by rw[hfl];simp only[List.length_cons,List.length_nil];omega,by rw[hfl];omega,rfl⟩,hput,hB4]
  simp -dsimp(maxSteps:=4000000) only[hw2,au,ak,aB,aC,go_sem]
  simp -dsimp(maxSteps:=4000000) only[r13,w7,ag0,ag1,hw3,au,ak,aB,aC,go_sem]
  refine fZ.gen [.pu,.pu,.pu,.rd,.pu,.rd,.pu,.pu,.ch] [0,1,3,7,0,0,63,127,255] 0 (_) mixed (by kernel_rfl) (AH.le_refl _) ?_
  simp -dsimp(maxSteps:=4000000) only[r3,w12,hlt,hi0,hw4,au,ak,aB,aC,go_sem]
  have hK1:Keep A2 B4 fun x=>x=b12∨x=bq∨x=bb:=((((UK.trans kB).mono fun _ h=>h.elim).trans (kB2.mono fun _ h=>.inl h)).trans (kB3.mono fun _ h=>.inr (.inl h))).trans (kB4.mono fun _ h=>.inr (.inr h))
  have Yn:Keep H A fun _=>False:=kT.trans kA
  have JK:Keep H B4 (·=b):=((Yn.mono fun _ h=>h.elim).trans k2).then hK1 fun x hx=>.inr (by
   rcases hx with rfl | rfl | rfl
   ·exact Yn.fr (k2.fresh f12 n12)
   ·exact Yn.fr (k2.fresh (UK.fr hfq) m0)
   ·exact kT.fr hfb)
  have ag7:aG H b12:=Yn.fr (k2.fresh f12 n12)
  have hfr2:aG H bq:=Yn.fr (k2.fresh (UK.fr hfq) m0)
  have hfr3:aG H bb:=kT.fr hfb
  have a4b:=kB4.find (Ne.symm q0) ab3
  have TF:B4.find bb=some (.cells ((Z.set i z').map gK).flatten 67 bs'):=by rw[←hB4,dw,if_pos rfl]
  have a4q:B4.find bq=some (.cells ((z.R.set rc v).map enc).flatten 76 bs3):=kB4.find mb (by rw[←hB3,dw,if_pos rfl])
  have hN:=((hZT.keep kA fun _ _ h=>h).keep k2 fun x hx e=>hnb (e▸hx)).keep hK1 fun x hx e=>by
   rcases e with rfl | rfl | rfl
   ·exact hk _ hx ag7
   ·exact hk _ hx hfr2
   ·exact hk _ hx hfr3
  refine⟨B4,AH.le_refl _,Z.set i z',fun x=>rd x∨x=bb∨x=bq,by rw[hok],?_,⟨some ⟨bb,0,none⟩,cap',?_,⟨?_,fun x hx=>?_,?_,fun x hx=>?_⟩,?_,.inr ⟨bb,0,rfl⟩,?_⟩,JK,?_⟩
  ·rw[jk,if_pos hok,hl,List.map_set]
   have:=TD (X:=Z.map RF.nf) (k:=i) (x:=z.nf) (f:=(z.p,z.R.set rc v)) (by rw[List.getElem?_map,hz];rfl) hX.kd
   rw[←hn,hz']
   exact this
  ·rw[List.length_set];exact a4b
  ·exact bG.iU TF (qR _) (by rw[List.length_map,List.length_set];exact hcl) (by rw[List.length_map,List.length_set];omega)
  ·rcases List.mem_or_eq_of_mem_set hx with hx | rfl
   ·exact hN.inn x hx
   ·rw[hz']
    refine bG.iU a4q (lg _) ?_ ?_
    ·rw[List.length_map,List.length_set];exact hcq
    ·rw[List.length_map,List.length_set];omega
  ·exact .inr fun a ha=>by cases ha;exact .inr (.inl rfl)
  ·rcases List.mem_or_eq_of_mem_set hx with hx | rfl
   ·exact(hN.r2 x hx).imp id fun h a ha=>.inl (h a ha)
   ·exact .inr fun a ha=>by rw[hz']at ha;cases ha;exact .inr (.inr rfl)
  ·rintro(h | h | h)
   ·exact hnb h
   ·exact q0 h.symm
   ·exact m0 h.symm
  ·rintro x (h | h | h) hf
   ·exact hk x h (JK.fresh hf fun e=>hnb (e▸h))
   ·subst h;exact hf.cO TF rfl
   ·subst h;exact hf.cO a4q rfl
  ·rintro x (h | h | h)
   ·exact .inl h
   ·subst h;exact .inr hfr3
   ·subst h;exact .inr hfr2
end Go.Proofs.YtbhamhhjicehaaaGreatDoor.mF
/- part: nodes in memory; Frame. -/
namespace Go.Proofs.YtbhamhhjicehaaaGreatDoor.jh
open Go Go.AX Go.Proofs Ty Go.Proofs.YtbhamhhjicehaaaGreatDoor.File Go.Proofs.YtbhamhhjicehaaaGreatDoor.mF Go.Proofs.YtbhamhhjicehaaaGreatDoor.qG
open Go.Proofs.YtbhamhhjicehaaaGreatDoor.pF (Tb ig kR snd oH iK sN sX gG ze kW vk nZ tabs aA ay aJ aI)
structure SR where
 b:Nat
 X:List Nf
 den:Int
 ft:Nat→Prop
def encS (s:SR):List Value:=[.pointer (some ⟨s.b,0,none⟩)]
def SR.In (H:AH) (s:SR):Prop:=iV H s.b s.X s.den s.ft∧lG s.X
structure oq (H:AH) (base:Option Addr) (cap:Nat) (S:List SR):Prop where
 out:bG H 1 base cap (S.map encS)
 inn:∀ s∈S,s.In H
structure RR where
 b:Nat
 Z:List RF
 den:Int
 rd:Nat→Prop
def encR (s:RR):List Value:=[.pointer (some ⟨s.b,0,none⟩)]
def RR.In (H:AH) (s:RR):Prop:=jU H s.b s.Z s.den s.rd∧lG (s.Z.map RF.nf)
structure qU (H:AH) (base:Option Addr) (cap:Nat) (S:List RR):Prop where
 out:bG H 1 base cap (S.map encR)
 inn:∀ s∈S,s.In H
theorem SR.In.keep {H A:AH} {s:SR} (h:s.In H) (hK:Keep H A fun _=>False):s.In A:=⟨h.1.keep hK fun _ _ h=>h,h.2⟩
theorem oq.keep {H A:AH} {base:Option Addr} {cap:Nat} {S:List SR} (h:oq H base cap S) (hK:Keep H A fun _=>False):oq A base cap S:=⟨h.out.keep hK fun _ _ h=>h,fun s hs=>(h.inn s hs).keep hK⟩
theorem RR.In.keep {H A:AH} {s:RR} (h:s.In H) (hK:Keep H A fun _=>False):s.In A:=⟨h.1.keep hK (fun _ _ h=>h) fun h=>h,h.2⟩
theorem qU.keep {H A:AH} {base:Option Addr} {cap:Nat} {S:List RR} (h:qU H base cap S) (hK:Keep H A fun _=>False):qU A base cap S:=⟨h.out.keep hK fun _ _ h=>h,fun s hs=>(h.inn s hs).keep hK⟩
def jH (x:Bool):List Value:=[.bool x]
abbrev Sp:=Int×Int
def dN (x:Sp):List Value:=[.int .i64 x.1,.int .i64 x.2]
def zF:List Bool:=[false,false,false,false,false,false,false,false,false,false,false]
def tV (slot:Int) (f:List Bool) (s:Sp):List Bool:=if s.1=slot then og f (jf .and .i64 s.2 2046) else f
def flips (slot:Int) (P:List Sp) (f:List Bool):List Bool:=P.foldl (tV slot) f
theorem zS (l:List Bool) (m:Int):(og l m).length=l.length:=by simp[og]
theorem FI (slot:Int) (f:List Bool) (s:Sp):(tV slot f s).length=f.length:=by
 unfold tV;split
 ·exact zS ..
 ·rfl
theorem nN (slot:Int):∀ (P:List Sp) (f:List Bool),(flips slot P f).length=f.length
 | [],_=>rfl
 |s::P,f=>(nN slot P _).trans (FI slot f s)
def jo (XS:List (List Nf)) (T:List Tb) (B:List Bool) (P:List Sp) (slot:Int):Int×List Bool×Bool:=match kR slot 0 T with
 |none=>(-1,zF,false)
 |some (n,x)=>if B.getD n false=true then match iJ (XS.getD n []) x.2.2.1 x.2.2.2.1 with
  |none=>(-1,zF,false)
  |some v=>(n,flips slot P (G9 (FC v x.2.2.2.2) false),true)
  else (-1,zF,false)
def tu (r:Int×List Bool×Bool):Value:=.tuple #[.int .i64 r.1,.agg (r.2.1.map Value.bool).toArray,.bool r.2.2]
theorem DR (b:Int) (odd:Bool):(G9 b odd).length=11:=rfl
theorem kY (XS:List (List Nf)) (T:List Tb) (B:List Bool) (P:List Sp) (slot:Int):(jo XS T B P slot).2.1.length=11:=by
 unfold jo
 split
 ·rfl
 ·split
  ·split
   ·rfl
   ·exact(nN ..).trans (DR ..)
  ·rfl
def UL (T:List Tb):Prop:=∀ t∈T,oH t.2.2=true
theorem zT {L:List En} (h:oH L=true) {x:En} (hx:x∈L):iK x=true∧x.1≠4:=by
 rw[oH,Bool.and_eq_true,List.all_eq_true]at h
 obtain⟨i,hi⟩:=List.mem_iff_getElem?.1 hx
 have:=h.1 i (List.mem_range.2 (Go.AX.dG hi))
 rw[pF.chk,hi]at this
 simp only[Bool.and_eq_true,Bool.not_eq_true',decide_eq_false_iff_not]at this
 exact⟨this.1.1,this.1.2⟩
theorem zU {x:En} (h:iK x=true) (h4:x.1≠4):(1≤x.1∧x.1≤3)∧0≤x.2.2.2.2∧x.2.2.2.2≤3:=by
 obtain⟨k,s,f,r,b⟩:=x
 dsimp only at h4
 rw[iK,if_neg h4]at h
 simp only[Bool.and_eq_true,decide_eq_true_eq]at h
 exact⟨⟨h.1.1.1,h.1.1.2.1⟩,h.2⟩
theorem He {slot:Int}:∀ {T:List Tb} {m n:Nat} {x:En},kR slot m T=some (n,x)→∃ t,m≤n∧T[n - m]?=some t∧x∈t.2.2∧snd slot x=true
 | [],_,_,_,h=>by cases h
 |t::T,m,n,x,h=>by
  rw[kR]at h
  cases hf:t.2.2.find? (snd slot) with
  |some y=>
   rw[hf]at h
   cases h
   exact⟨t,Nat.le_refl _,by simp,List.mem_of_find?_eq_some hf,List.find?_some hf⟩
  |none=>
   rw[hf]at h
   obtain⟨t',h1,h2,h3⟩:=He h
   exact⟨t',by omega,by rw[show n - m=(n - (m+1))+1 by omega];simpa using h2,h3⟩
theorem Oc (v:Rc) (j:Int) (h:0≤j∧j≤3):(enc v)[j.toNat]?=some (.int .u8 (FC v j)):=by
 rcases(show j=0∨j=1∨j=2∨j=3 by omega) with rfl | rfl | rfl | rfl<;>rfl
theorem FK {v:Rc} (h:nX v) (j:Int):0≤FC v j∧FC v j<256:=by
 obtain⟨⟨a,b⟩,⟨c,d⟩,⟨e,f⟩,g,i⟩:=h
 unfold FC
 split
 ·omega
 ·split
  ·omega
  ·split<;>omega
theorem Hf {X:List Nf} (hX:lG X) {n rec:Int} {v:Rc} (h:iJ X n rec=some v):nX v:=by
 obtain⟨f,hl,_,hv⟩:=rU h
 exact(hX.lk hl).2.2 v (List.mem_of_getElem? hv)
theorem BI (S:List SR) (T:List Tb) (B:List Bool) (P:List Sp) (bs bt bb bp:Option Addr) (cs ct cb cp:Nat) (slot:Int) (H:AH) (hS:oq H bs cs S) (hT:ig H bt ct T) (hB:bG H 1 bb cb (B.map jH)) (hP:bG H 2 bp cp (P.map dN)) (ht:UL T) (hl1:T.length≤S.length) (hl2:T.length≤B.length) :
  aO Tryz.prog 32 #[.slice bs S.length cs,.slice bt T.length ct,.slice bb B.length cb,.slice bp P.length cp,.int .i64 slot] H (fun v H'=>v=tu (jo (S.map (·.X)) T B P slot)∧H=H'):=by
 have hpl:=hP.big
 simp only[List.length_map]at hpl
 have hsn:=fun H1 (h:ig H1 bt ct T)=>vk T bt ct slot H1 h
 unfold sN sX at hsn
 unfold jo
 refine aO.cu Tryz.func32 rfl Tryz.ntmps32 Tryz.results32 (by simp) ?_;simp -dsimp(maxSteps:=4000000) only[aA,ay,aJ,aI,au,ak,aB,aC,go_sem]
 refine bY.mk fun b11 jd=>?_;have aZ:=jd;(try simp only[ah,aj,ne_eq]at aZ);have bK:=aZ;(try simp only[@eq_comm Nat b11]at bK);simp -dsimp(maxSteps:=4000000) only[aA,ay,aJ,aI,au,ak,aB,aC,aZ,bK,go_sem]
 refine(hsn _ (hT.add jd)).mono ?_
 rintro _ _ ⟨rfl,rfl⟩
 cases hso:kR slot 0 T with
 |none=>
  simp -dsimp(maxSteps:=4000000) only[aA,ay,aJ,aI,au,ak,aB,aC,aZ,bK,go_sem]
  refine bY.mk fun b14 yE=>?_;have dS:=yE;(try simp only[ah,aj,ne_eq]at dS);have fB:=dS;(try simp only[@eq_comm Nat b14]at fB);simp -dsimp(maxSteps:=4000000) only[aA,ay,aJ,aI,au,ak,aB,aC,aZ,bK,dS,fB,go_sem]
  exact⟨H,(AH.aK (AH.aK (AH.le_refl _) ((by simp only[aA,ay,aJ,aI,au,ak,aB,aC,ah,aj,ne_eq,aZ,not_false_eq_true,and_self]:aG _ b11).2)) ((by simp only[aA,ay,aJ,aI,au,ak,aB,aC,ah,aj,ne_eq,dS,not_false_eq_true,and_self]:aG _ b14).2)),rfl,rfl⟩
 |some nx=>
  obtain⟨n,x⟩:=nx
  obtain⟨t,_,htn,hxt,hsx⟩:=He hso
  rw[Nat.sub_zero]at htn
  have hn:=Go.AX.dG htn
  obtain⟨s,hs⟩:=get_some (l:=S) (i:=n) (by omega)
  obtain⟨lv,hlv⟩:=get_some (l:=B) (i:=n) (by omega)
  have eB:B.getD n false=lv:=by rw[List.getD_eq_getElem?_getD,hlv];rfl
  have eX:(S.map (·.X)).getD n []=s.X:=by rw[List.getD_eq_getElem?_getD,List.getElem?_map,hs];rfl
  obtain⟨gd,g4⟩:=zT (ht t (List.mem_of_getElem? htn)) hxt
  obtain⟨_,hb0⟩:=zU gd g4
  have hn0:(0:Int)≤(n:Int):=by omega
  have hn1:¬ (n:Int)<0:=by omega
  have hnB:(n:Int)<(B.length:Int):=by omega
  have hnS:(n:Int)<(S.length:Int):=by omega
  obtain⟨q1,o1,rfl,_,hr1⟩:=hB.get (Go.AX.dn (f:=jH) hlv)
  have rB:=hr1 0 _ rfl
  simp only[Nat.add_zero,Nat.mul_one]at rB
  obtain⟨q2,o2,rfl,_,hr2⟩:=hS.out.get (Go.AX.dn (f:=encS) hs)
  have rS:=hr2 0 _ rfl
  simp only[Nat.add_zero,Nat.mul_one]at rS
  have hsI:=hS.inn s (List.mem_of_getElem? hs)
  dsimp only
  rw[eB,eX]
  simp -dsimp(maxSteps:=4000000) only[aA,ay,aJ,aI,au,ak,aB,aC,aZ,bK,go_sem]
  refine bY.mk fun b14 yE=>?_;have dS:=yE;(try simp only[ah,aj,ne_eq]at dS);have fB:=dS;(try simp only[@eq_comm Nat b14]at fB);simp -dsimp(maxSteps:=4000000) only[aA,ay,aJ,aI,au,ak,aB,aC,aZ,bK,dS,fB,go_sem]
  have m1:¬ b11=q1:=jd.jq rB
  have m2:¬ b14=q1:=dS.2.jq rB
  have m3:¬ b11=q2:=jd.jq rS
  have m4:¬ b14=q2:=dS.2.jq rS
  cases lv with
  |false=>
   simp -dsimp(maxSteps:=4000000) only[hn1,hn0,hnB,rB,m1,m2,aA,ay,aJ,aI,au,ak,aB,aC,aZ,bK,dS,fB,go_sem]
   exact⟨H,(AH.aK (AH.aK (AH.le_refl _) ((by simp only[aA,ay,aJ,aI,au,ak,aB,aC,ah,aj,ne_eq,aZ,not_false_eq_true,and_self]:aG _ b11).2)) ((by simp only[aA,ay,aJ,aI,au,ak,aB,aC,ah,aj,ne_eq,dS,not_false_eq_true,and_self]:aG _ b14).2)),rfl,rfl⟩
  |true=>
   obtain⟨k,sl,fl,rc,qH⟩:=x
   have eE:gG (k,sl,fl,rc,qH)=[.int .i64 k,.int .i64 sl,.int .i64 fl,.int .i64 rc,.int .i64 qH]:=rfl
   dsimp only at hb0 ⊢
   simp -dsimp(maxSteps:=4000000) only[hn1,hn0,hnB,rB,m1,m2,aA,ay,aJ,aI,au,ak,aB,aC,aZ,bK,dS,fB,go_sem]
   refine fZ.gen [.pu,.pu,.pu,.rd,.pu,.rd,.pu,.rd,.ch,.pu,.pu,.pu,.al,.ch,.pu] [0,0,3,7,0,16,0,64,255,511,1023,1023,0,6143,16383] 0 (_) mixed (by kernel_rfl) (AH.le_refl _) ?_
   simp -dsimp(maxSteps:=4000000) only[hn0,hnS,rS,m3,m4,eE,aA,ay,aJ,aI,au,ak,aB,aC,aZ,bK,dS,fB,go_sem]
   have k2:Keep H ((H.add b11 (.cells [.bool false,.bool false,.bool false,.bool false,.bool false,.bool false,.bool false,.bool false,.bool false,.bool false,.bool false] 87 11)).add b14 (.cells (gG (k,sl,fl,rc,qH)) 78 5)) fun _=>False:=(Keep.refl.nw jd).nw (by simp only[ah,ne_eq,dS,not_false_eq_true,and_self])
   refine(Jr (hsI.keep k2).1 hsI.2 fl rc).mono ?_;rintro _ _ ⟨rfl,rfl⟩
   cases hg:iJ s.X fl rc with
   |none=>
    unfold uV
    simp -dsimp(maxSteps:=4000000) only[aA,ay,aJ,aI,au,ak,aB,aC,aZ,bK,dS,fB,go_sem]
    refine bY.mk fun b15 oL=>?_;have dX:=oL;(try simp only[ah,aj,ne_eq]at dX);have fD:=dX;(try simp only[@eq_comm Nat b15]at fD);simp -dsimp(maxSteps:=4000000) only[aA,ay,aJ,aI,au,ak,aB,aC,aZ,bK,dS,fB,dX,fD,go_sem]
    exact⟨H,(AH.aK (AH.aK (AH.aK (AH.le_refl _) ((by simp only[aA,ay,aJ,aI,au,ak,aB,aC,ah,aj,ne_eq,aZ,not_false_eq_true,and_self]:aG _ b11).2)) ((by simp only[aA,ay,aJ,aI,au,ak,aB,aC,ah,aj,ne_eq,dS,not_false_eq_true,and_self]:aG _ b14).2)) ((by simp only[aA,ay,aJ,aI,au,ak,aB,aC,ah,aj,ne_eq,dX,not_false_eq_true,and_self]:aG _ b15).2)),rfl,rfl⟩
   |some v=>
    have hvr:=Hf hsI.2 hg
    unfold uV
    simp -dsimp(maxSteps:=4000000) only[aA,ay,aJ,aI,au,ak,aB,aC,aZ,bK,dS,fB,go_sem]
    refine bY.mk fun b15 oL=>?_;have dX:=oL;(try simp only[ah,aj,ne_eq]at dX);have fD:=dX;(try simp only[@eq_comm Nat b15]at fD);simp -dsimp(maxSteps:=4000000) only[aA,ay,aJ,aI,au,ak,aB,aC,aZ,bK,dS,fB,dX,fD,go_sem]
    obtain⟨j,rfl⟩:∃ j:Nat,qH=j:=⟨qH.toNat,by omega⟩
    have hj0:(0:Int)≤(j:Int):=by omega
    have hj4:(j:Int)<4:=by omega
    have hrow:(enc v)[j]?=some (.int .u8 (FC v j)):=by have:=Oc v j (by omega);simpa using this
    obtain⟨f0,hf0⟩:∃ f0,G9 (FC v j) false=f0:=⟨_,rfl⟩
    have hlf:f0.length=11:=by rw[←hf0];rfl
    have hpt:=fun H1=>qG.ac0 (FC v j) false (FK hvr _) H1
    rw[hf0]at hpt
    simp -dsimp(maxSteps:=4000000) only[eE,hj0,hj4,hrow,aA,ay,aJ,aI,au,ak,aB,aC,aZ,bK,dS,fB,dX,fD,go_sem]
    refine(hpt _).mono ?_;rintro _ _ ⟨rfl,rfl⟩
    have hmf:(f0.map Value.bool).length=11:=by simp[hlf]
    simp -dsimp(maxSteps:=4000000) only[hmf,aA,ay,aJ,aI,au,ak,aB,aC,aZ,bK,dS,fB,dX,fD,go_sem]
    have hmk:∀ i,((flips slot (P.take i) f0).map Value.bool).length=11:=fun i=>by rw[List.length_map,nN,hlf]
    have g17:∀ {b17 i},aG (((H.add b11 (.cells ((flips slot (P.take i) f0).map Value.bool) 87 11)).add b14 (.cells (gG (k,sl,fl,rc,(j:Int))) 78 5)).add b15 (.cells (enc v) 76 4)) b17→aG H b17:=fun {b17 i} h=>by
     simp only[ah,ne_eq]at h;exact h.2.2.2
    refine fZ.gQ (ι:=Nat) (fun i=>i≤P.length) (fun i=>[(56,.int .i64 i),(55,.int .i64 P.length),(54,.slice bp P.length cp),(4,.int .i64 slot),(13,.int .i64 n),(11,.pointer (some ⟨b11,0,none⟩))])
     (fun i=>((H.add b11 (.cells ((flips slot (P.take i) f0).map Value.bool) 87 11)).add b14 (.cells (gG (k,sl,fl,rc,(j:Int))) 78 5)).add b15 (.cells (enc v) 76 4)) (fun i=>P.length - i) 0 (by omega) (bZ.aS ?_) (by simp only[List.take_zero];exact AH.le_refl _) fun i hi Q again out=>?_
    ·simp -dsimp(maxSteps:=4000000) only[aA,ay,aJ,aI,au,ak,aB,aC,aZ,bK,dS,fB,dX,fD,go_sem]
    by_cases hlt:(i:Int)<P.length
    ·obtain⟨y,hy⟩:=get_some (l:=P) (i:=i) (by omega)
     obtain⟨q3,o3,rfl,hr3,_⟩:=hP.get (Go.AX.dn (f:=dN) hy)
     have ee:=dA (i:=i) (by omega)
     have hi0:(0:Int)≤(i:Int):=by omega
     have m5:¬ b11=q3:=jd.iP hr3
     have m6:¬ b14=q3:=dS.2.iP hr3
     have m7:¬ b15=q3:=dX.2.2.iP hr3
     have hst:flips slot (P.take (i+1)) f0=tV slot (flips slot (P.take i) f0) y:=by
      rw[flips,flips,List.take_add_one,hy,List.foldl_append];rfl
     have hkm:=hmk i
     obtain⟨y1,y2⟩:=y
     have eP:dN (y1,y2)=[.int .i64 y1,.int .i64 y2]:=rfl
     simp -dsimp(maxSteps:=4000000) only[hlt,hi0,hr3,m5,m6,m7,eP,hkm,aA,ay,aJ,aI,au,ak,aB,aC,aZ,bK,dS,fB,dX,fD,go_sem]
     refine bY.mk fun b17 tX=>?_;have dU:=tX;(try simp only[ah,aj,ne_eq]at dU);have fC:=dU;(try simp only[@eq_comm Nat b17]at fC);simp -dsimp(maxSteps:=4000000) only[aA,ay,aJ,aI,au,ak,aB,aC,aZ,bK,dS,fB,dX,fD,dU,fC,go_sem]
     by_cases hsl:y1=slot
     ·have hst':flips slot (P.take (i+1)) f0=og (flips slot (P.take i) f0) (jf .and .i64 y2 2046):=by rw[hst,tV,if_pos hsl]
      have htn:=fun H1=>qG.ZC (flips slot (P.take i) f0) (by rw[nN,hlf]) (jf .and .i64 y2 2046) H1
      rw[←hst']at htn
      have hk1:=hmk (i+1)
      simp -dsimp(maxSteps:=4000000) only[hsl,hkm,aA,ay,aJ,aI,au,ak,aB,aC,aZ,bK,dS,fB,dX,fD,dU,fC,go_sem]
      refine(htn _).mono ?_;rintro _ _ ⟨rfl,rfl⟩
      simp -dsimp(maxSteps:=4000000) only[hkm,hk1,ee,aA,ay,aJ,aI,au,ak,aB,aC,aZ,bK,dS,fB,dX,fD,dU,fC,go_sem]
      exact again (i+1) _ _ (by omega) (bZ.aS (by simp -dsimp(maxSteps:=4000000) only[aA,ay,aJ,aI,au,ak,aB,aC,aZ,bK,dS,fB,dX,fD,dU,fC,go_sem])) (AH.aK (AH.le_refl _) (by simp only[ah,aj,ne_eq,dU,not_false_eq_true,and_self]:aG _ b17).2) (by omega)
     ·have hst':flips slot (P.take (i+1)) f0=flips slot (P.take i) f0:=by rw[hst,tV,if_neg hsl]
      simp -dsimp(maxSteps:=4000000) only[hsl,ee,aA,ay,aJ,aI,au,ak,aB,aC,aZ,bK,dS,fB,dX,fD,dU,fC,go_sem]
      exact again (i+1) _ _ (by omega) (bZ.aS (by simp -dsimp(maxSteps:=4000000) only[aA,ay,aJ,aI,au,ak,aB,aC,aZ,bK,dS,fB,dX,fD,dU,fC,go_sem])) (by rw[hst'];exact AH.aK (AH.le_refl _) tX.2) (by omega)
    ·obtain rfl:i=P.length:=by omega
     have hkm:=hmk P.length
     rw[List.take_length]at hkm ⊢
     simp -dsimp(maxSteps:=4000000) only[hlt,aA,ay,aJ,aI,au,ak,aB,aC,aZ,bK,dS,fB,dX,fD,go_sem]
     refine out _ _ _ (by simp) ?_
     refine fZ.gen [.pu,.rd,.pu,.ch,.pu] [0,0,1,7,15] 0 (_) mixed (by kernel_rfl) (AH.le_refl _) ?_
     simp -dsimp(maxSteps:=4000000) only[hkm,aA,ay,aJ,aI,au,ak,aB,aC,aZ,bK,dS,fB,dX,fD,go_sem]
     refine⟨H,(AH.aK (AH.aK (AH.aK (AH.le_refl _) ((by simp only[aA,ay,aJ,aI,au,ak,aB,aC,ah,aj,ne_eq,aZ,not_false_eq_true,and_self]:aG _ b11).2)) ((by simp only[aA,ay,aJ,aI,au,ak,aB,aC,ah,aj,ne_eq,dS,not_false_eq_true,and_self]:aG _ b14).2)) ((by simp only[aA,ay,aJ,aI,au,ak,aB,aC,ah,aj,ne_eq,dX,not_false_eq_true,and_self]:aG _ b15).2)),?_,rfl⟩
     rw[hf0]
     rfl
end Go.Proofs.YtbhamhhjicehaaaGreatDoor.jh
/- part: the reference's Frame. -/
namespace Go.Proofs.YtbhamhhjicehaaaGreatDoor.jh
open Go Go.AX Go.Proofs Ty Go.Proofs.YtbhamhhjicehaaaGreatDoor.File Go.Proofs.YtbhamhhjicehaaaGreatDoor.mF Go.Proofs.YtbhamhhjicehaaaGreatDoor.qG
open Go.Proofs.YtbhamhhjicehaaaGreatDoor.pF (Tb ig kR snd oH iK sN sX gG ze kW vk nZ tabs aA ay aJ aI)
theorem JL (n j:Nat):jQ (n:Int) j=n.testBit j:=by
 rw[Nat.testBit_eq_decide_div_mod_eq]
 unfold jQ
 have e:((n:Int) / 2 ^ j % 2)=((n / 2 ^ j % 2:Nat):Int):=by push_cast;rfl
 rw[e,Bool.eq_iff_iff]
 simp
 omega
theorem TI (m:Int):jf .and .i64 m 2046=(((BitVec.ofInt 64 m).toNat &&& 2046:Nat):Int):=by
 have h1:(BitVec.ofInt 64 m).toNat &&& 2046≤2046:=Nat.and_le_right
 show IntKind.i64.wrap ((BitVec.ofInt 64 m &&& BitVec.ofInt 64 2046).toNat:Int)=_
 rw[BitVec.toNat_and,show(BitVec.ofInt 64 2046).toNat=2046 from rfl]
 exact eH (by omega) (by omega)
theorem yP (m:Int) {j:Nat} (hj:j<11):jQ (jf .and .i64 m 2046) j=(decide (j≠0)&&jQ m j):=by
 rw[TI,JL,Nat.testBit_and]
 have e1:jQ m j=(BitVec.ofInt 64 m).toNat.testBit j:=by
  rw[←JL,BitVec.toNat_ofInt,←N8 m j (by omega)]
  unfold jQ
  rw[Int.toNat_of_nonneg (by omega)]
  rfl
 have e2:(2046:Nat).testBit j=decide (j≠0):=by
  have:∀ j:Fin 11,(2046:Nat).testBit j.val=decide (j.val≠0):=by decide
  exact this ⟨j,hj⟩
 rw[e1,e2,Bool.and_comm]
theorem Md {l:List Bool} (hl:l.length=11) (m:Int):(og l m).set 0 (l.getD 0 false)=og l (jf .and .i64 m 2046):=by
 apply List.ext_getElem?
 intro j
 rw[List.getElem?_set]
 simp only[og,List.length_mapIdx,List.getElem?_mapIdx]
 by_cases h0:0=j
 ·subst h0
  rw[if_pos rfl,if_pos (by omega),yP m (by omega)]
  obtain⟨x,hx⟩:=get_some (l:=l) (i:=0) (by omega)
  rw[List.getD_eq_getElem?_getD,hx]
  simp
 ·rw[if_neg h0]
  cases hx:l[j]? with
  |none=>rfl
  |some x=>
   rw[Option.map_some,Option.map_some,yP m (by have:=Go.AX.dG hx;omega)]
   have:decide (j≠0)=true:=by simp;omega
   rw[this,Bool.true_and]
theorem xg (S:List RR) (T:List Tb) (B:List Bool) (P:List Sp) (bs bt bb bp:Option Addr) (cs ct cb cp:Nat) (slot:Int) (H:AH) (hS:qU H bs cs S) (hT:ig H bt ct T) (hB:bG H 1 bb cb (B.map jH)) (hP:bG H 2 bp cp (P.map dN)) (ht:UL T) (hl1:T.length≤S.length) (hl2:T.length≤B.length) :
  aO Tryz.prog 92 #[.slice bs S.length cs,.slice bt T.length ct,.slice bb B.length cb,.slice bp P.length cp,.int .i64 slot] H (fun v H'=>v=tu (jo (S.map (fun r=>r.Z.map RF.nf)) T B P slot)∧H=H'):=by
 have hpl:=hP.big
 simp only[List.length_map]at hpl
 have hsn:=fun H1 (h:ig H1 bt ct T)=>nZ T bt ct slot H1 h
 unfold sN sX at hsn
 unfold jo
 refine aO.cu Tryz.func92 rfl Tryz.ntmps92 Tryz.results92 (by simp) ?_;simp -dsimp(maxSteps:=4000000) only[aA,ay,aJ,aI,au,ak,aB,aC,go_sem]
 refine bY.mk fun b11 jd=>?_;have aZ:=jd;(try simp only[ah,aj,ne_eq]at aZ);have bK:=aZ;(try simp only[@eq_comm Nat b11]at bK);simp -dsimp(maxSteps:=4000000) only[aA,ay,aJ,aI,au,ak,aB,aC,aZ,bK,go_sem]
 refine(hsn _ (hT.add jd)).mono ?_
 rintro _ _ ⟨rfl,rfl⟩
 cases hso:kR slot 0 T with
 |none=>
  simp -dsimp(maxSteps:=4000000) only[aA,ay,aJ,aI,au,ak,aB,aC,aZ,bK,go_sem]
  refine bY.mk fun b14 yE=>?_;have dS:=yE;(try simp only[ah,aj,ne_eq]at dS);have fB:=dS;(try simp only[@eq_comm Nat b14]at fB);simp -dsimp(maxSteps:=4000000) only[aA,ay,aJ,aI,au,ak,aB,aC,aZ,bK,dS,fB,go_sem]
  exact⟨H,(AH.aK (AH.aK (AH.le_refl _) ((by simp only[aA,ay,aJ,aI,au,ak,aB,aC,ah,aj,ne_eq,aZ,not_false_eq_true,and_self]:aG _ b11).2)) ((by simp only[aA,ay,aJ,aI,au,ak,aB,aC,ah,aj,ne_eq,dS,not_false_eq_true,and_self]:aG _ b14).2)),rfl,rfl⟩
 |some nx=>
  obtain⟨n,x⟩:=nx
  obtain⟨t,_,htn,hxt,hsx⟩:=He hso
  rw[Nat.sub_zero]at htn
  have hn:=Go.AX.dG htn
  obtain⟨s,hs⟩:=get_some (l:=S) (i:=n) (by omega)
  obtain⟨lv,hlv⟩:=get_some (l:=B) (i:=n) (by omega)
  have eB:B.getD n false=lv:=by rw[List.getD_eq_getElem?_getD,hlv];rfl
  have eX:(S.map (fun r=>r.Z.map RF.nf)).getD n []=s.Z.map RF.nf:=by rw[List.getD_eq_getElem?_getD,List.getElem?_map,hs];rfl
  obtain⟨gd,g4⟩:=zT (ht t (List.mem_of_getElem? htn)) hxt
  obtain⟨_,hb0⟩:=zU gd g4
  have hn0:(0:Int)≤(n:Int):=by omega
  have hn1:¬ (n:Int)<0:=by omega
  have hnB:(n:Int)<(B.length:Int):=by omega
  have hnS:(n:Int)<(S.length:Int):=by omega
  obtain⟨q1,o1,rfl,_,hr1⟩:=hB.get (Go.AX.dn (f:=jH) hlv)
  have rB:=hr1 0 _ rfl
  simp only[Nat.add_zero,Nat.mul_one]at rB
  obtain⟨q2,o2,rfl,_,hr2⟩:=hS.out.get (Go.AX.dn (f:=encR) hs)
  have rS:=hr2 0 _ rfl
  simp only[Nat.add_zero,Nat.mul_one]at rS
  have hsI:=hS.inn s (List.mem_of_getElem? hs)
  dsimp only
  rw[eB,eX]
  simp -dsimp(maxSteps:=4000000) only[aA,ay,aJ,aI,au,ak,aB,aC,aZ,bK,go_sem]
  refine bY.mk fun b14 yE=>?_;have dS:=yE;(try simp only[ah,aj,ne_eq]at dS);have fB:=dS;(try simp only[@eq_comm Nat b14]at fB);simp -dsimp(maxSteps:=4000000) only[aA,ay,aJ,aI,au,ak,aB,aC,aZ,bK,dS,fB,go_sem]
  have m1:¬ b11=q1:=jd.jq rB
  have m2:¬ b14=q1:=dS.2.jq rB
  have m3:¬ b11=q2:=jd.jq rS
  have m4:¬ b14=q2:=dS.2.jq rS
  cases lv with
  |false=>
   simp -dsimp(maxSteps:=4000000) only[hn1,hn0,hnB,rB,m1,m2,aA,ay,aJ,aI,au,ak,aB,aC,aZ,bK,dS,fB,go_sem]
   exact⟨H,(AH.aK (AH.aK (AH.le_refl _) ((by simp only[aA,ay,aJ,aI,au,ak,aB,aC,ah,aj,ne_eq,aZ,not_false_eq_true,and_self]:aG _ b11).2)) ((by simp only[aA,ay,aJ,aI,au,ak,aB,aC,ah,aj,ne_eq,dS,not_false_eq_true,and_self]:aG _ b14).2)),rfl,rfl⟩
  |true=>
   obtain⟨k,sl,fl,rc,qH⟩:=x
   have eE:gG (k,sl,fl,rc,qH)=[.int .i64 k,.int .i64 sl,.int .i64 fl,.int .i64 rc,.int .i64 qH]:=rfl
   dsimp only at hb0 ⊢
   simp -dsimp(maxSteps:=4000000) only[hn1,hn0,hnB,rB,m1,m2,aA,ay,aJ,aI,au,ak,aB,aC,aZ,bK,dS,fB,go_sem]
   refine fZ.gen [.pu,.pu,.pu,.rd,.pu,.rd,.pu,.rd,.ch,.pu,.pu,.pu,.al,.ch,.pu] [0,0,3,7,0,16,0,64,255,511,1023,1023,0,6143,16383] 0 (_) mixed (by kernel_rfl) (AH.le_refl _) ?_
   simp -dsimp(maxSteps:=4000000) only[hn0,hnS,rS,m3,m4,eE,aA,ay,aJ,aI,au,ak,aB,aC,aZ,bK,dS,fB,go_sem]
   have k2:Keep H ((H.add b11 (.cells [.bool false,.bool false,.bool false,.bool false,.bool false,.bool false,.bool false,.bool false,.bool false,.bool false,.bool false] 87 11)).add b14 (.cells (gG (k,sl,fl,rc,qH)) 78 5)) fun _=>False:=(Keep.refl.nw jd).nw (by simp only[ah,ne_eq,dS,not_false_eq_true,and_self])
   refine(Du (hsI.keep k2).1.at fl rc).mono ?_;rintro _ _ ⟨rfl,rfl⟩
   cases hg:iJ (s.Z.map RF.nf) fl rc with
   |none=>
    unfold uV
    simp -dsimp(maxSteps:=4000000) only[aA,ay,aJ,aI,au,ak,aB,aC,aZ,bK,dS,fB,go_sem]
    refine bY.mk fun b15 oL=>?_;have dX:=oL;(try simp only[ah,aj,ne_eq]at dX);have fD:=dX;(try simp only[@eq_comm Nat b15]at fD);simp -dsimp(maxSteps:=4000000) only[aA,ay,aJ,aI,au,ak,aB,aC,aZ,bK,dS,fB,dX,fD,go_sem]
    exact⟨H,(AH.aK (AH.aK (AH.aK (AH.le_refl _) ((by simp only[aA,ay,aJ,aI,au,ak,aB,aC,ah,aj,ne_eq,aZ,not_false_eq_true,and_self]:aG _ b11).2)) ((by simp only[aA,ay,aJ,aI,au,ak,aB,aC,ah,aj,ne_eq,dS,not_false_eq_true,and_self]:aG _ b14).2)) ((by simp only[aA,ay,aJ,aI,au,ak,aB,aC,ah,aj,ne_eq,dX,not_false_eq_true,and_self]:aG _ b15).2)),rfl,rfl⟩
   |some v=>
    have hvr:=Hf hsI.2 hg
    unfold uV
    simp -dsimp(maxSteps:=4000000) only[aA,ay,aJ,aI,au,ak,aB,aC,aZ,bK,dS,fB,go_sem]
    refine bY.mk fun b15 oL=>?_;have dX:=oL;(try simp only[ah,aj,ne_eq]at dX);have fD:=dX;(try simp only[@eq_comm Nat b15]at fD);simp -dsimp(maxSteps:=4000000) only[aA,ay,aJ,aI,au,ak,aB,aC,aZ,bK,dS,fB,dX,fD,go_sem]
    obtain⟨j,rfl⟩:∃ j:Nat,qH=j:=⟨qH.toNat,by omega⟩
    have hj0:(0:Int)≤(j:Int):=by omega
    have hj4:(j:Int)<4:=by omega
    have hrow:(enc v)[j]?=some (.int .u8 (FC v j)):=by have:=Oc v j (by omega);simpa using this
    obtain⟨f0,hf0⟩:∃ f0,G9 (FC v j) false=f0:=⟨_,rfl⟩
    have hlf:f0.length=11:=by rw[←hf0];rfl
    have hpt:=fun H1=>qG.Tq (FC v j) false (FK hvr _) H1
    rw[hf0]at hpt
    simp -dsimp(maxSteps:=4000000) only[eE,hj0,hj4,hrow,aA,ay,aJ,aI,au,ak,aB,aC,aZ,bK,dS,fB,dX,fD,go_sem]
    refine(hpt _).mono ?_;rintro _ _ ⟨rfl,rfl⟩
    have hmf:(f0.map Value.bool).length=11:=by simp[hlf]
    simp -dsimp(maxSteps:=4000000) only[hmf,aA,ay,aJ,aI,au,ak,aB,aC,aZ,bK,dS,fB,dX,fD,go_sem]
    refine bY.mk fun b17 tX=>?_;have dU:=tX;(try simp only[ah,aj,ne_eq]at dU);have fC:=dU;(try simp only[@eq_comm Nat b17]at fC);simp -dsimp(maxSteps:=4000000) only[aA,ay,aJ,aI,au,ak,aB,aC,aZ,bK,dS,fB,dX,fD,dU,fC,go_sem]
    simp -dsimp(maxSteps:=4000000) only[hlf,hmf,aA,ay,aJ,aI,au,ak,aB,aC,aZ,bK,dS,fB,dX,fD,dU,fC,go_sem]
    have hmk:∀ i,((flips slot (P.take i) f0).map Value.bool).length=11:=fun i=>by rw[List.length_map,nN,hlf]
    have ag9:∀ i,(flips slot (P.take i) f0).length=11:=fun i=>by rw[nN,hlf]
    refine fZ.gQ (ι:=Nat) (fun i=>i≤P.length) (fun i=>[(18,.int .i64 i),(3,.slice bp P.length cp),(4,.int .i64 slot),(13,.int .i64 n),(11,.pointer (some ⟨b11,0,none⟩)),(17,.pointer (some ⟨b17,0,none⟩))])
     (fun i=>((((H.add b11 (.cells [.bool false,.bool false,.bool false,.bool false,.bool false,.bool false,.bool false,.bool false,.bool false,.bool false,.bool false] 87 11)).add b14 (.cells (gG (k,sl,fl,rc,(j:Int))) 78 5)).add b15 (.cells (enc v) 76 4)).add b17 (.cells ((flips slot (P.take i) f0).map Value.bool) 87 11))) (fun i=>P.length - i) 0 (by omega) (bZ.aS ?_) (by simp only[List.take_zero];exact AH.le_refl _) fun i hi Q again out=>?_
    ·simp -dsimp(maxSteps:=4000000) only[aA,ay,aJ,aI,au,ak,aB,aC,aZ,bK,dS,fB,dX,fD,dU,fC,go_sem]
    by_cases hlt:(i:Int)<P.length
    ·obtain⟨y,hy⟩:=get_some (l:=P) (i:=i) (by omega)
     obtain⟨q3,o3,rfl,_,hrd⟩:=hP.get (Go.AX.dn (f:=dN) hy)
     have rx:=hrd 0 _ rfl
     have ry:=hrd 1 _ rfl
     simp only[Nat.add_zero]at rx
     have ee:=dA (i:=i) (by omega)
     have hi0:(0:Int)≤(i:Int):=by omega
     have m5:¬ b11=q3:=jd.jq rx
     have m6:¬ b14=q3:=dS.2.jq rx
     have m7:¬ b15=q3:=dX.2.2.jq rx
     have m8:¬ b17=q3:=dU.2.2.2.jq rx
     have hst:flips slot (P.take (i+1)) f0=tV slot (flips slot (P.take i) f0) y:=by
      rw[flips,flips,List.take_add_one,hy,List.foldl_append];rfl
     have hkm:=hmk i
     have WY:=ag9 i
     obtain⟨y1,y2⟩:=y
     dsimp only[dN]at rx ry
     by_cases hsl:y1=slot
     ·have hst':flips slot (P.take (i+1)) f0=(og (flips slot (P.take i) f0) y2).set 0 ((flips slot (P.take i) f0).getD 0 false):=by rw[hst,tV,if_pos hsl,Md WY]
      have htn:=fun H1=>qG.P9 (flips slot (P.take i) f0) WY y2 H1
      have hkt:((og (flips slot (P.take i) f0) y2).map Value.bool).length=11:=by rw[List.length_map,zS,WY]
      simp -dsimp(maxSteps:=4000000) only[hlt,hi0,rx,m5,m6,m7,m8,hsl,aA,ay,aJ,aI,au,ak,aB,aC,aZ,bK,dS,fB,dX,fD,dU,fC,go_sem]
      refine fZ.gen [.rd,.pu,.pu,.pu,.pu,.rd,.ch,.al,.ch] [0,0,0,6,14,30,63,0,255] 0 (_) mixed (by kernel_rfl) (AH.le_refl _) ?_
      simp -dsimp(maxSteps:=4000000) only[hlt,hi0,ry,m5,m6,m7,m8,hkm,aA,ay,aJ,aI,au,ak,aB,aC,aZ,bK,dS,fB,dX,fD,dU,fC,go_sem]
      refine(htn _).mono ?_;rintro _ _ ⟨rfl,rfl⟩
      simp -dsimp(maxSteps:=4000000) only[hkt,aA,ay,aJ,aI,au,ak,aB,aC,aZ,bK,dS,fB,dX,fD,dU,fC,go_sem]
      refine bY.mk fun b19 ac3=>?_;have zV:=ac3;(try simp only[ah,aj,ne_eq]at zV);have Hg:=zV;(try simp only[@eq_comm Nat b19]at Hg);simp -dsimp(maxSteps:=4000000) only[aA,ay,aJ,aI,au,ak,aB,aC,aZ,bK,dS,fB,dX,fD,dU,fC,zV,Hg,go_sem]
      have hr0:((flips slot (P.take i) f0).map Value.bool)[0]?=some (.bool ((flips slot (P.take i) f0).getD 0 false)):=by
       obtain⟨z,hz⟩:=get_some (l:=flips slot (P.take i) f0) (i:=0) (by omega)
       rw[List.getElem?_map,hz,List.getD_eq_getElem?_getD,hz];rfl
      have hms:((og (flips slot (P.take i) f0) y2).map Value.bool).set 0 (.bool ((flips slot (P.take i) f0).getD 0 false))=(flips slot (P.take (i+1)) f0).map Value.bool:=by rw[hst',List.map_set]
      have hk1:=hmk (i+1)
      have aha:(og (flips slot (P.take i) f0) y2).length=11:=by rw[zS,WY]
      simp -dsimp(maxSteps:=4000000) only[aha,hkt,hr0,hkm,hms,hk1,ee,aA,ay,aJ,aI,au,ak,aB,aC,aZ,bK,dS,fB,dX,fD,dU,fC,zV,Hg,go_sem]
      exact again (i+1) _ _ (by omega) (bZ.aS (by simp -dsimp(maxSteps:=4000000) only[aA,ay,aJ,aI,au,ak,aB,aC,aZ,bK,dS,fB,dX,fD,dU,fC,zV,Hg,go_sem])) (AH.aK (AH.le_refl _) (by simp only[ah,aj,ne_eq,zV,not_false_eq_true,and_self]:aG _ b19).2) (by omega)
     ·have hst':flips slot (P.take (i+1)) f0=flips slot (P.take i) f0:=by rw[hst,tV,if_neg hsl]
      simp -dsimp(maxSteps:=4000000) only[hlt,hi0,rx,m5,m6,m7,m8,hsl,ee,aA,ay,aJ,aI,au,ak,aB,aC,aZ,bK,dS,fB,dX,fD,dU,fC,go_sem]
      exact again (i+1) _ _ (by omega) (bZ.aS (by simp -dsimp(maxSteps:=4000000) only[aA,ay,aJ,aI,au,ak,aB,aC,aZ,bK,dS,fB,dX,fD,dU,fC,go_sem])) (by rw[hst'];exact AH.le_refl _) (by omega)
    ·obtain rfl:i=P.length:=by omega
     have hkm:=hmk P.length
     rw[List.take_length]at hkm ⊢
     simp -dsimp(maxSteps:=4000000) only[hlt,aA,ay,aJ,aI,au,ak,aB,aC,aZ,bK,dS,fB,dX,fD,dU,fC,go_sem]
     refine out _ _ _ (by simp) ?_
     refine fZ.gen [.pu,.rd,.pu,.ch,.pu] [0,0,1,7,15] 0 (_) mixed (by kernel_rfl) (AH.le_refl _) ?_
     simp -dsimp(maxSteps:=4000000) only[hkm,aA,ay,aJ,aI,au,ak,aB,aC,aZ,bK,dS,fB,dX,fD,dU,fC,go_sem]
     refine⟨H,(AH.aK (AH.aK (AH.aK (AH.aK (AH.le_refl _) ((by simp only[aA,ay,aJ,aI,au,ak,aB,aC,ah,aj,ne_eq,aZ,not_false_eq_true,and_self]:aG _ b11).2)) ((by simp only[aA,ay,aJ,aI,au,ak,aB,aC,ah,aj,ne_eq,dS,not_false_eq_true,and_self]:aG _ b14).2)) ((by simp only[aA,ay,aJ,aI,au,ak,aB,aC,ah,aj,ne_eq,dX,not_false_eq_true,and_self]:aG _ b15).2)) ((by simp only[aA,ay,aJ,aI,au,ak,aB,aC,ah,aj,ne_eq,dU,not_false_eq_true,and_self]:aG _ b17).2)),?_,rfl⟩
     rw[hf0]
     rfl
end Go.Proofs.YtbhamhhjicehaaaGreatDoor.jh
/- part: what is heard, both sides. -/
namespace Go.Proofs.YtbhamhhjicehaaaGreatDoor.jh
open Go Go.AX Go.Proofs Ty Go.Proofs.YtbhamhhjicehaaaGreatDoor.File Go.Proofs.YtbhamhhjicehaaaGreatDoor.mF Go.Proofs.YtbhamhhjicehaaaGreatDoor.qG
open Go.Proofs.YtbhamhhjicehaaaGreatDoor.pF (Tb ig kR snd oH iK kW)
def mZ (l:List Bool):Int×Bool×Int:=if l.getD 0 false=true∨l.getD 10 false=false then (0,false,2) else (qm l 8,par l 9,0)
theorem DT (l:List Bool):vC l=.tuple #[.int .u8 (mZ l).1,.bool (mZ l).2.1,.int .i64 (mZ l).2.2]:=by
 unfold vC mZ
 split<;>rfl
def ru (XS:List (List Nf)) (T:List Tb) (B:List Bool) (P:List Sp) (slot:Int):Option Int:=
 if (jo XS T B P slot).2.2=true∧(mZ (jo XS T B P slot).2.1).2.1=false∧(mZ (jo XS T B P slot).2.1).2.2=0 then some (mZ (jo XS T B P slot).2.1).1 else none
def FM (XS:List (List Nf)) (T:List Tb) (B:List Bool) (P:List Sp):Hd:=fun s=>if 1≤s∧s≤16 then ru XS T B P s else none
theorem WZ (S:List SR) (T:List Tb) (B:List Bool) (P:List Sp) (bs bt bb bp:Option Addr) (cs ct cb cp:Nat) (slot:Int) (H:AH) (hS:oq H bs cs S) (hT:ig H bt ct T) (hB:bG H 1 bb cb (B.map jH)) (hP:bG H 2 bp cp (P.map dN)) (ht:UL T) (hl1:T.length≤S.length) (hl2:T.length≤B.length) :
  aO Tryz.prog 52 #[.slice bs S.length cs,.slice bt T.length ct,.slice bb B.length cb,.slice bp P.length cp,.int .i64 slot] H (fun v H'=>v=.tuple #[.int .u8 ((ru (S.map (·.X)) T B P slot).getD 0),.bool (ru (S.map (·.X)) T B P slot).isSome]∧H=H'):=by
 have hfr:=BI S T B P bs bt bb bp cs ct cb cp slot H hS hT hB hP ht hl1 hl2
 have hlen:=kY (S.map (·.X)) T B P slot
 obtain⟨n,f,ok,e⟩:∃ n f ok,jo (S.map (·.X)) T B P slot=(n,f,ok):=⟨_,_,_,rfl⟩
 unfold ru
 rw[e]at hfr hlen ⊢
 unfold tu at hfr
 dsimp only at hfr hlen ⊢
 have hmf:(f.map Value.bool).length=11:=by simp[hlen]
 have htk:=fun H1=>qG.Tt f hlen H1
 rw[DT]at htk
 obtain⟨y,odd,er,et⟩:∃ y odd er,mZ f=(y,odd,er):=⟨_,_,_,rfl⟩
 rw[et]at htk ⊢
 dsimp only at htk ⊢
 refine aO.cu Tryz.func52 rfl Tryz.ntmps52 Tryz.results52 (by simp) ?_;simp -dsimp(maxSteps:=4000000) only[go_sem]
 refine hfr.mono ?_
 rintro _ _ ⟨rfl,rfl⟩
 simp -dsimp(maxSteps:=4000000) only[go_sem]
 refine bY.mk fun b13 jF=>?_;have dM:=jF;(try simp only[ah,aj,ne_eq]at dM);have dQ:=dM;(try simp only[@eq_comm Nat b13]at dQ);simp -dsimp(maxSteps:=4000000) only[dM,dQ,go_sem]
 simp -dsimp(maxSteps:=4000000) only[hlen,hmf,dM,dQ,go_sem]
 refine(htk _).mono ?_;rintro _ _ ⟨rfl,rfl⟩
 cases ok with
 |false=>
  simp -dsimp(maxSteps:=4000000) only[dM,dQ,go_sem]
  exact⟨H,(AH.aK (AH.le_refl _) ((by simp only[ah,aj,ne_eq,dM,not_false_eq_true,and_self]:aG _ b13).2)),by simp,rfl⟩
 |true=>
  cases odd with
  |true=>
   simp -dsimp(maxSteps:=4000000) only[dM,dQ,go_sem]
   exact⟨H,(AH.aK (AH.le_refl _) ((by simp only[ah,aj,ne_eq,dM,not_false_eq_true,and_self]:aG _ b13).2)),by simp,rfl⟩
  |false=>
   by_cases h0:er=0
   ·simp -dsimp(maxSteps:=4000000) only[h0,dM,dQ,go_sem]
    exact⟨H,(AH.aK (AH.le_refl _) ((by simp only[ah,aj,ne_eq,dM,not_false_eq_true,and_self]:aG _ b13).2)),by simp[h0],rfl⟩
   ·simp -dsimp(maxSteps:=4000000) only[h0,dM,dQ,go_sem]
    exact⟨H,(AH.aK (AH.le_refl _) ((by simp only[ah,aj,ne_eq,dM,not_false_eq_true,and_self]:aG _ b13).2)),by simp[h0],rfl⟩
def oW (hd:Hd) (i:Nat):List Value:=((List.range 17).map fun j=>Value.int .u8 (if j<i then (hd j).getD 0 else 0))++((List.range 17).map fun j=>Value.bool (decide (j<i)&&(hd j).isSome))
theorem DU (hd:Hd) (i:Nat):(oW hd i).length=34:=by simp[oW]
theorem FN (hd:Hd) (i:Nat):(oW hd i).all iM=true:=by
 rw[oW,List.all_append,Bool.and_eq_true,List.all_map,List.all_map,List.all_eq_true,List.all_eq_true]
 exact⟨fun _ _=>rfl,fun _ _=>rfl⟩
theorem yQ (hd:Hd) (i q:Nat):(oW hd i)[q]?=if q<17 then some (Value.int .u8 (if q<i then (hd q).getD 0 else 0)) else if q<34 then some (Value.bool (decide (q - 17<i)&&(hd ((q - 17:Nat):Int)).isSome)) else none:=by
 unfold oW
 rw[List.getElem?_append]
 simp only[List.length_map,List.length_range,List.getElem?_map]
 by_cases h1:q<17
 ·rw[if_pos h1,if_pos h1,List.getElem?_range h1];rfl
 ·rw[if_neg h1,if_neg h1]
  by_cases h2:q<34
  ·rw[if_pos h2,List.getElem?_range (by omega)];rfl
  ·rw[if_neg h2,List.getElem?_eq_none (by simp;omega)];rfl
theorem FP {hd:Hd} {i:Nat} (h:hd i=none):oW hd (i+1)=oW hd i:=by
 apply List.ext_getElem?
 intro q
 rw[yQ,yQ]
 by_cases h1:q<17
 ·rw[if_pos h1,if_pos h1]
  by_cases e:q=i
  ·subst e;simp[h]
  ·have:(q<i+1)=(q<i):=by apply propext;omega
   simp only[this]
 ·rw[if_neg h1,if_neg h1]
  by_cases h2:q<34
  ·rw[if_pos h2,if_pos h2]
   by_cases e:q - 17=i
   ·rw[e];simp[h]
   ·have:decide (q - 17<i+1)=decide (q - 17<i):=by rw[Bool.eq_iff_iff];simp;omega
    rw[this]
  ·rw[if_neg h2,if_neg h2]
theorem Qd {hd:Hd} {i:Nat} {y:Int} (hi:i<17) (h:hd i=some y):((oW hd i).set i (.int .u8 y)).set (17+i) (.bool true)=oW hd (i+1):=by
 apply List.ext_getElem?
 intro q
 rw[List.getElem?_set,List.getElem?_set,List.length_set,DU,yQ,yQ]
 by_cases h1:q<17
 ·rw[if_neg (by omega),if_pos h1,if_pos h1]
  by_cases e:i=q
  ·subst e;rw[if_pos rfl,if_pos (by omega)];simp[h]
  ·rw[if_neg e]
   have:(q<i+1)=(q<i):=by apply propext;omega
   simp only[this]
 ·by_cases e:17+i=q
  ·rw[if_pos e,if_pos (by omega),if_neg h1,if_pos (by omega),show q - 17=i by omega];simp[h]
  ·rw[if_neg e,if_neg (by omega),if_neg h1,if_neg h1]
   by_cases h2:q<34
   ·rw[if_pos h2,if_pos h2]
    have:decide (q - 17<i+1)=decide (q - 17<i):=by rw[Bool.eq_iff_iff];simp;omega
    rw[this]
   ·rw[if_neg h2,if_neg h2]
theorem Me (S:List RR) (T:List Tb) (B:List Bool) (P:List Sp) (bs bt bb bp:Option Addr) (cs ct cb cp:Nat) (H:AH) (hS:qU H bs cs S) (hT:ig H bt ct T) (hB:bG H 1 bb cb (B.map jH)) (hP:bG H 2 bp cp (P.map dN)) (ht:UL T) (hl1:T.length≤S.length) (hl2:T.length≤B.length) :
  aO Tryz.prog 78 #[.slice bs S.length cs,.slice bt T.length ct,.slice bb B.length cb,.slice bp P.length cp] H (fun v H'=>v=.agg (oW (FM (S.map (fun r=>r.Z.map RF.nf)) T B P) 17).toArray∧H=H'):=by
 obtain⟨hd,hhd⟩:∃ hd,FM (S.map (fun r=>r.Z.map RF.nf)) T B P=hd:=⟨_,rfl⟩
 have r1:oW hd 1=[.int .u8 0,.int .u8 0,.int .u8 0,.int .u8 0,.int .u8 0,.int .u8 0,.int .u8 0,.int .u8 0,.int .u8 0,.int .u8 0,.int .u8 0,.int .u8 0,.int .u8 0,.int .u8 0,.int .u8 0,.int .u8 0,.int .u8 0]++[.bool false,.bool false,.bool false,.bool false,.bool false,.bool false,.bool false,.bool false,.bool false,.bool false,.bool false,.bool false,.bool false,.bool false,.bool false,.bool false,.bool false]:=by
  have h0:hd 0=none:=by rw[←hhd,FM];rfl
  have:oW hd 1=oW hd 0:=FP h0
  rw[this];rfl
 have eF:=DU hd
 rw[hhd]
 refine aO.cu Tryz.func78 rfl Tryz.ntmps78 Tryz.results78 (by simp) ?_;simp -dsimp(maxSteps:=4000000) only[go_sem]
 refine bY.mk fun b8 lF=>?_;have aQ:=lF;(try simp only[ah,aj,ne_eq]at aQ);have bF:=aQ;(try simp only[@eq_comm Nat b8]at bF);simp -dsimp(maxSteps:=4000000) only[eF,aQ,bF,go_sem]
 refine bY.mk fun b9 iI=>?_;have aU:=iI;(try simp only[ah,aj,ne_eq]at aU);have bH:=aU;(try simp only[@eq_comm Nat b9]at bH);simp -dsimp(maxSteps:=4000000) only[eF,aQ,bF,aU,bH,go_sem]
 have kT:∀ {k8 k9:iD},Keep H ((H.add b8 k8).add b9 k9) fun _=>False:=fun {k8 k9}=>(Keep.refl.nw lF).nw (by simp only[ah,ne_eq,aU,not_false_eq_true,and_self])
 refine fZ.gQ (ι:=Nat) (fun i=>1≤i∧i≤17) (fun i=>[(10,.int .i64 i),(0,.slice bs S.length cs),(1,.slice bt T.length ct),(2,.slice bb B.length cb),(3,.slice bp P.length cp),(8,.pointer (some ⟨b8,0,none⟩)),(9,.pointer (some ⟨b9,0,none⟩))])
  (fun i=>(H.add b8 (.cells [.int .u8 0,.int .u8 0,.int .u8 0,.int .u8 0,.int .u8 0,.int .u8 0,.int .u8 0,.int .u8 0,.int .u8 0,.int .u8 0,.int .u8 0,.int .u8 0,.int .u8 0,.int .u8 0,.int .u8 0,.int .u8 0,.int .u8 0,.bool false,.bool false,.bool false,.bool false,.bool false,.bool false,.bool false,.bool false,.bool false,.bool false,.bool false,.bool false,.bool false,.bool false,.bool false,.bool false,.bool false] 100 34)).add b9 (.cells (oW hd i) 100 34)) (fun i=>17 - i) 1 (by omega) (bZ.aS ?_) (by rw[r1];exact AH.le_refl _) fun i hi Q again out=>?_
 ·simp -dsimp(maxSteps:=4000000) only[eF,aQ,bF,aU,bH,go_sem]
 obtain⟨hi1,hi2⟩:=hi
 by_cases hlt:(i:Int)≤16
 ·have ee:=dA (i:=i) (by omega)
  have hi0:(0:Int)≤(i:Int):=by omega
  have ahb:(i:Int)<17:=by omega
  have hfr:=xg S T B P bs bt bb bp cs ct cb cp (i:Int) _ (hS.keep (kT (k8:=.cells [.int .u8 0,.int .u8 0,.int .u8 0,.int .u8 0,.int .u8 0,.int .u8 0,.int .u8 0,.int .u8 0,.int .u8 0,.int .u8 0,.int .u8 0,.int .u8 0,.int .u8 0,.int .u8 0,.int .u8 0,.int .u8 0,.int .u8 0,.bool false,.bool false,.bool false,.bool false,.bool false,.bool false,.bool false,.bool false,.bool false,.bool false,.bool false,.bool false,.bool false,.bool false,.bool false,.bool false,.bool false] 100 34) (k9:=.cells (oW hd i) 100 34))) (hT.keep kT) (hB.keep kT fun _ _ h=>h) (hP.keep kT fun _ _ h=>h) ht hl1 hl2
  have hlen:=kY (S.map (fun r=>r.Z.map RF.nf)) T B P (i:Int)
  have hdi:hd i=ru (S.map (fun r=>r.Z.map RF.nf)) T B P i:=by rw[←hhd,FM,if_pos (by omega)]
  unfold ru at hdi
  obtain⟨n,f,ok,e⟩:∃ n f ok,jo (S.map (fun r=>r.Z.map RF.nf)) T B P (i:Int)=(n,f,ok):=⟨_,_,_,rfl⟩
  rw[e]at hfr hlen hdi
  unfold tu at hfr
  dsimp only at hfr hlen hdi
  have hmf:(f.map Value.bool).length=11:=by simp[hlen]
  have htk:=fun H1=>qG.FH f hlen H1
  rw[DT]at htk
  obtain⟨y,odd,er,et⟩:∃ y odd er,mZ f=(y,odd,er):=⟨_,_,_,rfl⟩
  rw[et]at htk hdi
  dsimp only at htk hdi
  simp -dsimp(maxSteps:=4000000) only[hlt,eF,aQ,bF,aU,bH,go_sem]
  refine hfr.mono ?_
  rintro _ _ ⟨rfl,rfl⟩
  simp -dsimp(maxSteps:=4000000) only[eF,aQ,bF,aU,bH,go_sem]
  refine bY.mk fun b12 lK=>?_;have fQ:=lK;(try simp only[ah,aj,ne_eq]at fQ);have gX:=fQ;(try simp only[@eq_comm Nat b12]at gX);simp -dsimp(maxSteps:=4000000) only[eF,aQ,bF,aU,bH,fQ,gX,go_sem]
  simp -dsimp(maxSteps:=4000000) only[hlen,hmf,eF,aQ,bF,aU,bH,fQ,gX,go_sem]
  refine(htk _).mono ?_;rintro _ _ ⟨rfl,rfl⟩
  have no:¬ (ok=true∧odd=false∧er=0)→oW hd (i+1)=oW hd i:=fun h=>FP (by rw[hdi,if_neg h])
  have yes:ok=true∧odd=false∧er=0→((oW hd i).set i (.int .u8 y)).set (17+i) (.bool true)=oW hd (i+1):=fun h=>Qd (by omega) (by rw[hdi,if_pos h])
  cases ok with
  |false=>
   simp -dsimp(maxSteps:=4000000) only[ee,eF,aQ,bF,aU,bH,fQ,gX,go_sem]
   exact again (i+1) _ _ (by omega) (bZ.aS (by simp -dsimp(maxSteps:=4000000) only[eF,aQ,bF,aU,bH,fQ,gX,go_sem])) (by rw[no (by simp)];exact AH.aK (AH.le_refl _) lK.2) (by omega)
  |true=>
   cases odd with
   |true=>
    simp -dsimp(maxSteps:=4000000) only[ee,eF,aQ,bF,aU,bH,fQ,gX,go_sem]
    exact again (i+1) _ _ (by omega) (bZ.aS (by simp -dsimp(maxSteps:=4000000) only[eF,aQ,bF,aU,bH,fQ,gX,go_sem])) (by rw[no (by simp)];exact AH.aK (AH.le_refl _) lK.2) (by omega)
   |false=>
    by_cases h0:er=0
    ·have yy:=yes ⟨rfl,rfl,h0⟩
     have l1:i≤33:=by omega
     have l2:17+i≤33:=by omega
     have l3:i≤16:=by omega
     simp -dsimp(maxSteps:=4000000) only[h0,ee,hi0,ahb,l1,l2,l3,yy,eF,aQ,bF,aU,bH,fQ,gX,go_sem]
     exact again (i+1) _ _ (by omega) (bZ.aS (by simp -dsimp(maxSteps:=4000000) only[eF,aQ,bF,aU,bH,fQ,gX,go_sem])) (AH.aK (AH.le_refl _) (by simp only[ah,aj,ne_eq,fQ,not_false_eq_true,and_self]:aG _ b12).2) (by omega)
    ·simp -dsimp(maxSteps:=4000000) only[h0,ee,eF,aQ,bF,aU,bH,fQ,gX,go_sem]
     exact again (i+1) _ _ (by omega) (bZ.aS (by simp -dsimp(maxSteps:=4000000) only[eF,aQ,bF,aU,bH,fQ,gX,go_sem])) (by rw[no (by simp[h0])];exact AH.aK (AH.le_refl _) lK.2) (by omega)
 ·obtain rfl:i=17:=by omega
  simp -dsimp(maxSteps:=4000000) only[hlt,eF,aQ,bF,aU,bH,go_sem]
  refine out _ _ _ (by simp) ?_
  have hsc:=FN hd 17
  simp -dsimp(maxSteps:=4000000) only[hsc,eF,aQ,bF,aU,bH,go_sem]
  exact⟨H,(AH.aK (AH.aK (AH.le_refl _) ((by simp only[eF,ah,aj,ne_eq,aQ,not_false_eq_true,and_self]:aG _ b8).2)) ((by simp only[eF,ah,aj,ne_eq,aU,not_false_eq_true,and_self]:aG _ b9).2)),rfl⟩
end Go.Proofs.YtbhamhhjicehaaaGreatDoor.jh
/- The engine: maps whose keys are structs; m[k] = append(m[k], ..). -/
namespace Go.AX
open Go Go.RowKit
section
variable {P:Program} {H:AH} {n d:Nat} {ds:List (Option Tmp)} {fr:Fr} {K:Fr→AH→Prop} {q:Bool} {ty:TypeId} {pos:String} {af:Array Edge} {rest:List Oper}
def MEN (P:Program) (t:TypeId) (m key:Value) (H:AH) (k:Value→AH→Prop) (_t:Lk (k,H):=.mk):Prop:=nH P (do pure (.value (←Instr.mapEntry t m key))) H k
def EST (P:Program) (t:TypeId) (m s x:Value) (H:AH) (k:Value→AH→Prop) (_t:Lk (k,H):=.mk):Prop:=nH P (do Instr.entryStore t m s x;pure .skip) H k
theorem MB {t:TypeId} {m i:Operand}:fG q P n ds (⟨(some d),.mapEntry t m i,ty,pos,af,none⟩::rest) fr H K=(d<n∧q=false∧wv fr m fun m=>wv fr i fun i=>MEN P t m i H fun v H'=>fG q P n ds rest ((d,v)::fr) H' K):=by
 rw[←fH]
 apply propext
 constructor
 ·rintro⟨h1,h2,_,h3,h4⟩
  have h2':BO fr m=true∧BO fr i=true:=by simpa [Op.operands]using h2
  exact⟨h1,h3,h2'.1,h2'.2,h4⟩
 ·rintro⟨h1,h2,h3,h4,h5⟩
  exact⟨h1,by have h3':BO fr m=true:=h3;have h4':BO fr i=true:=h4;simp[Op.operands,h3',h4'],rfl,h2,h5⟩
theorem Hl {t:TypeId} {m s x:Operand}:fG q P n ds (⟨none,.entryStore t m s x,ty,pos,af,none⟩::rest) fr H K=(q=false∧wv fr m fun m=>wv fr s fun s=>wv fr x fun x=>EST P t m s x H fun _ H'=>fG q P n ds rest fr H' K):=by
 apply propext
 constructor
 ·rintro⟨h1,h2,_,h3,h4⟩
  have h2':BO fr m=true∧BO fr s=true∧BO fr x=true:=by simpa [Op.operands]using h2
  exact⟨h3,h2'.1,h2'.2.1,h2'.2.2,h4⟩
 ·rintro⟨h2,h3,h4,h5,h6⟩
  exact⟨rfl,by have h3':BO fr m=true:=h3;have h4':BO fr s=true:=h4;have h5':BO fr x=true:=h5;simp[Op.operands,h3',h4',h5'],rfl,h2,h6⟩
end
attribute [go_sem ↓] MB Hl
structure FQ (P:Program) {κ:Type} [DecidableEq κ] (kt:TypeId) (kv:κ→Value):Prop where
 desc:∃ d,P.underlying kt=some d∧∀ a b,Instr.sameNow d (kv a) b=none
 chk:∀ em k H,dZ P (Instr.checkKey em 10000 kt (kv k)) H=some ()
 eq:∀ a b H,dZ P (Op.equal kt (kv a) (kv b)) H=some (decide (a=b))
 bits:∀ k,Instr.sameBits 10000 (kv k) (kv k)=true
section
variable {P:Program} {κ:Type} [DecidableEq κ] {kt:TypeId} {kv:κ→Value}
def EC (k:κ):List (κ×Value)→Nat→Option (Nat×Value)
 | [],_=>none
 |p::l,i=>if k=p.1 then some (i,p.2) else EC k l (i+1)
def ke (kv:κ→Value) (l:List (κ×Value)):List (Value×Value):=l.map fun p=>(kv p.1,p.2)
theorem yR {k:κ}:∀ {l:List (κ×Value)} {i j:Nat} {v:Value},EC k l i=some (j,v)→∃ m,j=i+m∧l[m]?=some (k,v)
 | [],_,_,_,h=>by cases h
 |p::l,i,j,v,h=>by
  rw[EC]at h
  split at h
  ·rename_i e;cases h;subst e;exact⟨0,rfl,rfl⟩
  ·obtain⟨m,h1,h2⟩:=yR h
   exact⟨m+1,by omega,by simpa using h2⟩
theorem asking (hk:FQ P kt kv) (k:κ) (H:AH):∀ (es:List MapEntry) (l:List (κ×Value)) (i:Nat),es.map (fun x=>(x.key,x.val))=ke kv l→dZ P (Instr.findAsking kt (kv k) es i) H=some (EC k l i)
 | [],[],_,_=>rfl
 | [],_::_,_,h=>by simp[ke]at h
 |_::_,[],_,h=>by simp[ke]at h
 |e::es,p::l,i,h=>by
  simp only[ke,List.map_cons,List.cons.injEq,Prod.mk.injEq]at h
  obtain⟨⟨h1,h2⟩,h3⟩:=h
  unfold Instr.findAsking
  rw[bW,h1,hk.eq,Option.bind_some,EC]
  by_cases e':k=p.1
  ·simp[e',h2,cZ]
  ·simp only[e',decide_false,Bool.false_eq_true,if_false]
   exact asking hk k H es l (i+1) h3
theorem TJ (hk:FQ P kt kv) (k:κ) (H:AH) {es:List MapEntry} {l:List (κ×Value)} (h:es.map (fun x=>(x.key,x.val))=ke kv l):dZ P (Instr.findKey kt (kv k) es) H=some (EC k l 0):=by
 obtain⟨d,hd,hn⟩:=hk.desc
 simp only[Instr.findKey,bW,bT,hd,Option.bind_some]
 cases es with
 |nil=>
  cases l with
  |nil=>rfl
  |cons=>simp[ke]at h
 |cons e es=>
  rw[Instr.findNow,hn]
  exact asking hk k H _ l 0 h
def ZJ (P:Program) (t:TypeId):Option (TypeId×Value):=
 match P.underlying t with
 |some (.map kt e)=>(P.info? e).bind fun i=>i.zero.map fun z=>(kt,z)
 |_=>none
theorem DV {t kt:TypeId} {z:Value} (h:ZJ P t=some (kt,z)):∃ e i,P.underlying t=some (.map kt e)∧P.info? e=some i∧i.zero=some z:=by
 unfold ZJ at h
 split at h
 ·rename_i kt' e hu
  obtain⟨i,hi,h⟩:=Option.bind_eq_some_iff.1 h
  obtain⟨z',hz,h⟩:=Option.map_eq_some_iff.1 h
  simp only[Prod.mk.injEq]at h
  obtain⟨rfl,rfl⟩:=h
  exact⟨e,i,hu,hi,hz⟩
 ·cases h
theorem YM.map {H:AH} {t r:Nat} {k:κ} {z:Value} {ok:Bool} {l:List (κ×Value)} {K:Value→AH→Prop} (hk:FQ P kt kv) (ht:ZJ P t=some (kt,z)) (hf:H.find r=some (.gW (ke kv l))) (h:K (Ba ok z (EC k l 0)) H) :
  YM P t (.map (some r)) (kv k) ok H K:=by
 obtain⟨e,i,hu,hi,hz⟩:=DV ht
 unfold YM Instr.lookup
 refine bP ((bT t).trans hu) ?_
 rw[dO]
 simp only[getObj,dY,hf]
 intro en cl hm
 refine bP (a:=en) rfl ?_
 refine bP (hk.chk _ _ _) ?_
 refine bP (TJ hk k H hm.1) ?_
 cases ho:EC k l 0 with
 |some p=>
  obtain⟨j,v⟩:=p
  rw[ho]at h
  refine bP (a:=(v,true)) rfl ?_
  exact h
 |none=>
  rw[ho]at h
  refine bP (iH hi hz) ?_
  refine bP (a:=(z,false)) rfl ?_
  exact h
def W9 (l:List (κ×Value)) (k:κ) (v:Value):Option (Nat×Value)→List (κ×Value)
 |some (i,_)=>l.set i (k,v)
 |none=>l++[(k,v)]
theorem FT {en:Array MapEntry} {cl:Nat} (h:mJ en cl) (k v:Value):mJ (en.push { key:=k,val:=v,born:=cl }) (cl+1):=by
 refine⟨fun x hx=>?_,?_⟩
 ·simp only[Array.toList_push,List.mem_append,List.mem_singleton]at hx
  rcases hx with hx | hx
  ·have:=h.1 x hx;omega
  ·subst hx;simp
 ·rw[Array.toList_push,List.map_append,List.nodup_append]
  refine⟨h.2,by simp,fun a ha b hb=>?_⟩
  obtain⟨x,hx,rfl⟩:=List.mem_map.1 ha
  have:=h.1 x hx
  simp at hb;omega
theorem Az {en:Array MapEntry} {cl j:Nat} {f:MapEntry→MapEntry} (hf:∀ x,(f x).born=x.born) (h:mJ en cl):mJ (en.modify j f) cl:=by
 have hmb:(en.modify j f).toList.map (·.born)=en.toList.map (·.born):=by
  apply List.ext_getElem?
  intro q
  simp only[List.getElem?_map,Array.getElem?_toList,Array.getElem?_modify]
  split
  ·rename_i e;subst e;cases en[j]?<;>simp[hf]
  ·rfl
 refine⟨fun y hy=>?_,hmb▸h.2⟩
 obtain⟨q,hq⟩:=List.mem_iff_getElem?.1 hy
 rw[Array.getElem?_toList,Array.getElem?_modify]at hq
 split at hq
 ·obtain⟨y0,hy0,rfl⟩:=Option.map_eq_some_iff.1 hq
  rw[hf]
  exact h.1 y0 (List.mem_iff_getElem?.2 ⟨q,by simpa using hy0⟩)
 ·exact h.1 y (List.mem_iff_getElem?.2 ⟨q,by simpa using hq⟩)
theorem Oe {α:Type} {kv:α→Value} {en:Array MapEntry} {l:List (α×Value)} {j:Nat} {k:α} {v0 v:Value} (h:en.toList.map (fun x=>(x.key,x.val))=ke kv l) (hj:l[j]?=some (k,v0)) :
  (en.modify j fun e=>{ e with key:=kv k,val:=v }).toList.map (fun x=>(x.key,x.val))=ke kv (l.set j (k,v)):=by
 have hlen:en.size=l.length:=by have:=congrArg List.length h;simpa [ke]using this
 have hlt:j<l.length:=dG hj
 apply List.ext_getElem?
 intro q
 have hq0:=congrArg (fun y=>y[q]?) h
 simp only[ke,List.getElem?_map,Array.getElem?_toList]at hq0
 simp only[ke,List.getElem?_map,Array.getElem?_toList,Array.getElem?_modify,List.getElem?_set]
 by_cases hq:j=q
 ·subst hq
  obtain⟨x,hx⟩:∃ x,en[j]?=some x:=⟨en[j],by simp[hlen,hlt]⟩
  simp[hx,hlt]
 ·simp only[hq,if_false]
  exact hq0
theorem Ho {α:Type} {kv:α→Value} {en:Array MapEntry} {l:List (α×Value)} {j:Nat} {k:α} {v0:Value} (h:en.toList.map (fun x=>(x.key,x.val))=ke kv l) (hj:l[j]?=some (k,v0)):∃ x,en[j]?=some x∧x.key=kv k∧x.val=v0:=by
 have hq0:=congrArg (fun y=>y[j]?) h
 simp only[ke,List.getElem?_map,Array.getElem?_toList,hj,Option.map_some]at hq0
 obtain⟨x,hx,hx2⟩:=Option.map_eq_some_iff.1 hq0
 simp only[Prod.mk.injEq]at hx2
 exact⟨x,hx,hx2.1,hx2.2⟩
theorem YN.map {H:AH} {t r:Nat} {k:κ} {z v:Value} {l:List (κ×Value)} {K:AH→Prop} (hk:FQ P kt kv) (ht:ZJ P t=some (kt,z)) (hf:H.find r=some (.gW (ke kv l))) (h:K (H.set r (.gW (ke kv (W9 l k v (EC k l 0)))))) :
  YN P t (.map (some r)) (kv k) v H K:=by
 obtain⟨e,i,hu,hi,hz⟩:=DV ht
 unfold YN Instr.mapUpdate
 refine bP ((bT t).trans hu) ?_
 rw[dO]
 simp only[getObj,dY,hf]
 intro en cl hm
 refine bP (hk.chk _ _ _) ?_
 refine bP (TJ hk k H hm.1) ?_
 cases ho:EC k l 0 with
 |none=>
  rw[ho]at h
  simp only[setObj,dY,hf]
  refine⟨FT hm.2 _ _,?_⟩
  have e1:(en.push { key:=kv k,val:=v,born:=cl }).toList.map (fun x=>(x.key,x.val))=ke kv (l++[(k,v)]):=by
   rw[Array.toList_push,List.map_append,hm.1];simp[ke]
  rw[e1];exact h
 |some p=>
  obtain⟨j,v0⟩:=p
  rw[ho]at h
  obtain⟨m,rfl,hj⟩:=yR ho
  rw[Nat.zero_add]at h ⊢
  obtain⟨x,hx,hxk,_⟩:=Ho hm.1 hj
  have hkey:((en[m]?).map (·.key)).getD (kv k)=kv k:=by rw[hx];exact hxk
  refine bP (a:=kv k) (by simp only[hkey,Instr.keyThatStays,hk.bits,if_true,cZ]) ?_
  simp only[setObj,dY,hf]
  refine⟨Az (fun _=>rfl) hm.2,?_⟩
  rw[Oe hm.1 hj];exact h
theorem set_set (H:AH) (b:Nat) (k k':iD):(H.set b k).set b k'=H.set b k':=by
 have:∀ l:List (Nat×iD),pO b k' (pO b k l)=pO b k' l:=by
  intro l
  induction l with
  |nil=>simp[pO]
  |cons p l ih=>
   obtain⟨a,x⟩:=p
   simp only[pO]
   split
   ·rename_i e;simp[pO,e]
   ·rename_i hne
    simp only[pO,hne,if_false,ih,Bool.false_eq_true]
 simp[AH.set,this]
def yS (en:Array MapEntry) (st:Int) (i:Nat):Prop:=en.findIdx? (fun e=>(e.born:Int)==st)=some i
theorem JM {en:Array MapEntry} {cl i:Nat} {x:MapEntry} (hb:mJ en cl) (hx:en[i]?=some x):yS en (x.born:Int) i:=by
 unfold yS
 rw[Array.findIdx?_eq_some_iff_getElem]
 obtain⟨hi,hxi⟩:=Array.getElem?_eq_some_iff.1 hx
 refine⟨hi,by simp[hxi],fun j hj=>?_⟩
 simp only[beq_iff_eq,Int.natCast_inj]
 intro e
 have h1:(en.toList.map (·.born))[j]?=some x.born:=by simp[Nat.lt_trans hj hi,e]
 have h2:(en.toList.map (·.born))[i]?=some x.born:=by simp[hi,hxi]
 exact absurd ((List.getElem?_inj (by simpa using Nat.lt_trans hj hi) hb.2).1 (h1.trans h2.symm)) (by omega)
theorem MEN.map {H:AH} {t r:Nat} {k:κ} {z:Value} {l:List (κ×Value)} {K:Value→AH→Prop} (hk:FQ P kt kv) (ht:ZJ P t=some (kt,z)) (hf:H.find r=some (.gW (ke kv l)))
  (h1:∀ i v st en cl,l[i]?=some (k,v)→EC k l 0=some (i,v)→BN (ke kv l) en cl→yS en st i→K (.tuple #[v,.int .i64 st]) (H.set r (.obj (.map en cl))))
  (h2:∀ st en cl,EC k l 0=none→BN (ke kv (l++[(k,z)])) en cl→yS en st l.length→K (.tuple #[z,.int .i64 st]) (H.set r (.obj (.map en cl)))) :
  MEN P t (.map (some r)) (kv k) H K:=fun E w hs=>by
 obtain⟨e,i,hu,hi,hz⟩:=DV ht
 obtain⟨en,cl,hm,hs'⟩:=hs.exact hf
 refine nH.oP (H:=H.set r (.obj (.map en cl))) (K:=K) ?_ E w hs'
 rw[dO]
 unfold Instr.mapEntry
 refine bP ((bT t).trans hu) ?_
 have hf':(H.set r (.obj (.map en cl))).find r=some (.obj (.map en cl)):=by rw[dw,if_pos rfl]
 rw[dO]
 simp only[getObj,dY,hf']
 refine bP (hk.chk _ _ _) ?_
 refine bP (TJ hk k _ hm.1) ?_
 cases ho:EC k l 0 with
 |none=>
  refine bP (iH hi hz) ?_
  simp only[setObj,dO,dY,hf',isC,true_and]
  have hb:=FT hm.2 (kv k) z
  have e1:(en.push { key:=kv k,val:=z,born:=cl }).toList.map (fun x=>(x.key,x.val))=ke kv (l++[(k,z)]):=by
   rw[Array.toList_push,List.map_append,hm.1];simp[ke]
  have hlen:en.size=l.length:=by have:=congrArg List.length hm.1;simpa [ke]using this
  have hst:=JM (i:=l.length) hb (x:={ key:=kv k,val:=z,born:=cl }) (by rw[←hlen];simp)
  have:=h2 cl _ _ ho ⟨e1,hb⟩ hst
  rw[set_set]
  exact this
 |some p=>
  obtain⟨j,v0⟩:=p
  obtain⟨m,rfl,hj⟩:=yR ho
  rw[Nat.zero_add]at ho ⊢
  obtain⟨x,hx,hxk,hxv⟩:=Ho hm.1 hj
  have hkey:((en[m]?).map (·.key)).getD (kv k)=kv k:=by rw[hx];exact hxk
  refine bP (a:=kv k) (by simp only[hkey,Instr.keyThatStays,hk.bits,if_true,cZ]) ?_
  simp only[setObj,dO,dY,hf',isC,true_and]
  have hmod:(en.modify m fun e=>{ e with key:=kv k })=en:=by
   apply Array.ext_getElem?
   intro q
   rw[Array.getElem?_modify]
   split
   ·rename_i e;subst e;rw[hx,Option.map_some,←hxk]
   ·rfl
  have hborn:((en[m]?).map (fun x=>(x.born:Int))).getD 0=(x.born:Int):=by rw[hx];rfl
  rw[hmod,hborn,set_set]
  exact h1 m v0 x.born en cl hj ho hm (JM hm.2 hx)
theorem EST.map {α:Type} {kv:α→Value} {H:AH} {t r i cl:Nat} {st:Int} {k:α} {v0 v:Value} {en:Array MapEntry} {l:List (α×Value)} {K:Value→AH→Prop} (hf:H.find r=some (.obj (.map en cl))) (hm:BN (ke kv l) en cl) (hst:yS en st i) (hl:l[i]?=some (k,v0))
  (h:K undef (H.set r (.gW (ke kv (l.set i (k,v)))))):EST P t (.map (some r)) (.int .i64 st) v H K:=fun E w hs=>by
 obtain⟨x,hx,hxk,_⟩:=Ho hm.1 hl
 have hmod:(en.modify i fun e=>{ e with val:=v })=en.modify i fun e=>{ e with key:=kv k,val:=v }:=by
  apply Array.ext_getElem?
  intro q
  rw[Array.getElem?_modify,Array.getElem?_modify]
  split
  ·rename_i e;subst e;rw[hx,Option.map_some,Option.map_some,←hxk]
  ·rfl
 have ha:dY P (do Instr.entryStore t (.map (some r)) (.int .i64 st) v;pure Next.skip:Sem Next) H (fun nx H'=>nx=.skip∧H'=H.set r (.obj (.map (en.modify i fun e=>{ e with val:=v }) cl))):=by
  rw[dO]
  unfold Instr.entryStore
  have hst':en.findIdx? (fun e=>(e.born:Int)==st)=some i:=hst
  simp only[getObj,dO,dY,hf]
  refine bP (show dZ P (asIntOf (.int .i64 st)) H=some (.i64,st) from rfl) ?_
  show dY P (match en.findIdx? (fun e=>(e.born:Int)==st) with
   |some i=>setObj r (Obj.map (en.modify i fun e=>{ e with val:=v }) cl)
   |none=>unsupported (Unsupported.noEntry "instr/MapEntry.the entry is gone")) H _
  rw[hst']
  simp only[setObj,dY,hf,isC,true_and]
  exact⟨rfl,rfl⟩
 obtain⟨nx,w',H',q1,q2,rfl,rfl⟩:=lT P _ H _ w ha hs
 refine⟨.skip,w',H.set r (.gW (ke kv (l.set i (k,v)))),q1,?_,h⟩
 refine NP.gW (H:=H.set r (.obj (.map (en.modify i fun e=>{ e with val:=v }) cl))) (H':=H.set r (.gW (ke kv (l.set i (k,v))))) (m:=r) (en:=en.modify i fun e=>{ e with val:=v }) (cl:=cl) (by rw[dw,if_pos rfl]) (es:=ke kv (l.set i (k,v))) ⟨by rw[hmod];exact Oe hm.1 hl,Az (fun _=>rfl) hm.2⟩ rfl (fun b k' hk' hne=>?_) (fun k' hk'=>?_) _ _ q2
 ·rw[dw,if_neg hne]at hk' ⊢;exact hk'
 ·rw[dw,if_pos rfl]at hk';cases hk';rfl
end
end Go.AX
/- part: what is received, by places: slices that grow side by side. -/
namespace Go.Proofs.YtbhamhhjicehaaaGreatDoor.jh
open Go Go.AX Go.Proofs Ty Go.Proofs.YtbhamhhjicehaaaGreatDoor.File Go.Proofs.YtbhamhhjicehaaaGreatDoor.mF
open Go.Proofs.YtbhamhhjicehaaaGreatDoor.pF (gG)
section
variable {X Y:List Nf} (hp:X.Perm Y) (hk:Kd X)
include hp hk
theorem Hq (n rec:Int):iJ X n rec=iJ Y n rec:=by rw[iJ,iJ,Bz hp hk]
theorem Xb (n rec:Int):kQ X n rec=kQ Y n rec:=by rw[kQ,kQ,Hq hp hk]
theorem ZK (n rec:Int) (v:Rc):(jk X n rec v).Perm (jk Y n rec v):=by
 rw[jk,jk,Xb hp hk,Bz hp hk]
 split
 ·split
  ·exact hp
  ·exact NJ hp
 ·exact hp
theorem Yo (op fl rec:Int):Am X op fl rec=Am Y op fl rec:=by rw[Am,Am,Bz hp hk]
theorem ac4 (op fl rec d:Int):Ik X op fl rec d=Ik Y op fl rec d:=by rw[Ik,Ik,Yo hp hk]
theorem ac5 (op fl rec:Int) (v:Rc):(Dn X op fl rec v).Perm (Dn Y op fl rec v):=by
 rw[Dn,Dn,Yo hp hk,Bz hp hk]
 split
 ·split
  ·exact hp
  ·exact NJ hp
 ·exact hp
end
theorem Xc {X:List Nf} (h:Kd X) (n rec:Int) (v:Rc):Kd (jk X n rec v):=by
 unfold jk
 split
 ·split
  ·exact h
  ·exact Jg h
 ·exact h
theorem ZL {X:List Nf} (h:Kd X) (op fl rec:Int) (v:Rc):Kd (Dn X op fl rec v):=by
 unfold Dn
 split
 ·split
  ·exact h
  ·exact Jg h
 ·exact h
theorem Og (T:List En) (hd:Hd) {X Y:List Nf} (hp:X.Perm Y) (hk:Kd X) (p:Pl):(gu T hd X p).Perm (gu T hd Y p)∧Kd (gu T hd X p):=by
 unfold gu
 rw[←Hq hp hk]
 split
 ·exact⟨hp,hk⟩
 ·split
  ·exact⟨ZK hp hk _ _ _,Xc hk _ _ _⟩
  ·exact⟨hp,hk⟩
theorem MC (T:List En) (hd:Hd):∀ (l:List Pl) {X Y:List Nf},X.Perm Y→Kd X→(l.foldl (gu T hd) X).Perm (l.foldl (gu T hd) Y)∧Kd (l.foldl (gu T hd) X)
 | [],_,_,hp,hk=>⟨hp,hk⟩
 |p::l,_,_,hp,hk=>MC T hd l (Og T hd hp hk p).1 (Og T hd hp hk p).2
theorem MG:∀ (T:List En) {X Y:List Nf} {d:Int},X.Perm Y→Kd X→(oI T (X,d)).1.Perm (oI T (Y,d)).1∧(oI T (X,d)).2=(oI T (Y,d)).2
 | [],_,_,_,hp,_=>⟨hp,rfl⟩
 |x::T,X,Y,d,hp,hk=>by
  show(oI T (NZ (X,d) x)).1.Perm (oI T (NZ (Y,d) x)).1∧(oI T (NZ (X,d) x)).2=(oI T (NZ (Y,d) x)).2
  unfold NZ
  by_cases h:x.1=3
  ·rw[if_pos h,if_pos h]
   dsimp only
   rw[ac4 hp hk]
   exact MG T (ac5 hp hk _ _ _ _) (ZL hk _ _ _ _)
  ·rw[if_neg h,if_neg h]
   exact MG T hp hk
theorem ac6 (T:List En) (hd:Hd) {X Y:List Nf} {d:Int} (hp:X.Perm Y) (hk:Kd X):(app T hd X d).1.Perm (app T hd Y d).1∧(app T hd X d).2=(app T hd Y d).2:=
 MG T (MC T hd _ hp hk).1 (MC T hd _ hp hk).2
structure Gp where
 p:Pl
 base:Option Addr
 cap:Nat
 L:List En
def kP (p:Pl):Value:=.agg #[.int .i64 p.1,.int .i64 p.2]
def gE (G:List Gp):List (Pl×Value):=G.map fun g=>(g.p,.slice g.base g.L.length g.cap)
theorem qp (T:List En) (x:En) (p:Pl):got (T++[x]) p=got T p++if Au p x=true then [x] else []:=by
 rw[got,got,List.filter_append]
 cases h:Au p x<;>simp[h]
structure GInv (M A:AH) (T:List En) (G:List Gp):Prop where
 own:∀ g∈G,fJ M A 78 5 g.base g.cap (g.L.map gG)
 eq:∀ g∈G,g.L≠[]∧g.L=got T g.p
 all:∀ p,got T p≠[]→∃ g∈G,g.p=p
 nd:(G.map (·.p)).Nodup
 ap:∀ (i j:Nat) (g g':Gp),G[i]?=some g→G[j]?=some g'→i≠j→∀ a a',g.base=some a→g'.base=some a'→a.block≠a'.block
theorem GInv.nil (M A:AH):GInv M A [] []:=⟨by simp,by simp,by simp[got],by simp,by simp⟩
theorem GInv.keep {M A B:AH} {T:List En} {G:List Gp} {ex:Nat→Prop} (h:GInv M A T G) (hK:Keep A B ex) (hx:∀ b,ex b→¬ ∃ g∈G,∃ a,g.base=some a∧a.block=b):GInv M B T G:=
 ⟨fun g hg=>(h.own g hg).keep hK fun a ha he=>hx _ he ⟨g,hg,a,ha,rfl⟩,h.eq,h.all,h.nd,h.ap⟩
theorem GInv.skip {M A:AH} {T:List En} {G:List Gp} {x:En} (h:GInv M A T G) (hx:x.1≠2):GInv M A (T++[x]) G:=by
 have e:∀ p,got (T++[x]) p=got T p:=fun p=>by rw[qp,if_neg (by simp[Au,hx]),List.append_nil]
 exact⟨h.own,fun g hg=>by rw[e];exact h.eq g hg,fun p hp=>h.all p (by rwa [e]at hp),h.nd,h.ap⟩
theorem GInv.base {M A:AH} {T:List En} {G:List Gp} {g:Gp} (h:GInv M A T G) (hg:g∈G) {a:Addr} (ha:g.base=some a):(∃ k,A.find a.block=some k)∧aG M a.block:=by
 rcases(h.own g hg).at_ with ⟨h1,_⟩ | ⟨b,bs,h1,h2,_,h3⟩
 ·rw[ha]at h1;cases h1
 ·rw[ha]at h1;cases h1;exact⟨⟨_,h2⟩,h3⟩
theorem GInv.cells {M A:AH} {T:List En} {G:List Gp} {g:Gp} (h:GInv M A T G) (hg:g∈G) {a:Addr} (ha:g.base=some a):∃ cs e bs,A.find a.block=some (.cells cs e bs):=by
 rcases(h.own g hg).at_ with ⟨h1,_⟩ | ⟨b,bs,h1,h2,_,h3⟩
 ·rw[ha]at h1;cases h1
 ·rw[ha]at h1;cases h1;exact⟨_,_,_,h2⟩
theorem GInv.upd {M A B:AH} {T:List En} {G:List Gp} {x:En} {j:Nat} {g:Gp} {base':Option Addr} {cap':Nat} (h:GInv M A T G) (hj:G[j]?=some g) (hx:x.1=2) (hp:g.p=pl x)
  (hO:fJ M B 78 5 base' cap' ((g.L++[x]).map gG)) (hK:Keep A B (GI g.base)) (hn:∀ a,base'=some a→(∃ a',g.base=some a'∧a.block=a'.block)∨aG A a.block):GInv M B (T++[x]) (G.set j ⟨g.p,base',cap',g.L++[x]⟩):=by
 have hjl:=Go.AX.dG hj
 have hgm:=List.mem_of_getElem? hj
 have other:∀ i g',G[i]?=some g'→i≠j→g'.p≠g.p:=fun i g' hi hne e=>by
  have h1:(G.map (·.p))[i]?=some g.p:=by simp[hi,e]
  have h2:(G.map (·.p))[j]?=some g.p:=by simp[hj]
  exact hne ((List.getElem?_inj (by simpa using Go.AX.dG hi) h.nd).1 (h1.trans h2.symm))
 have get:∀ {i g'},(G.set j ⟨g.p,base',cap',g.L++[x]⟩)[i]?=some g'→(i=j∧g'=⟨g.p,base',cap',g.L++[x]⟩)∨(i≠j∧G[i]?=some g'):=fun {i g'} hi=>by
  by_cases e:j=i
  ·subst e
   rw[List.getElem?_set_self hjl]at hi
   exact .inl ⟨rfl,(Option.some.inj hi).symm⟩
  ·rw[List.getElem?_set_ne e]at hi
   exact .inr ⟨fun e'=>e e'.symm,hi⟩
 have far:∀ i g' a,G[i]?=some g'→i≠j→g'.base=some a→¬ GI g.base a.block:=fun i g' a hi hne ha ⟨a',ha',e⟩=>h.ap i j g' g hi hj hne a a' ha ha' e
 have fr:∀ (i:Nat) (g':Gp) (a a':Addr),G[i]?=some g'→i≠j→g'.base=some a→base'=some a'→a.block≠a'.block:=fun i g' a a' hi hne ha ha' e=>by
  rcases hn a' ha' with ⟨a2,h2,e2⟩ | hf
  ·exact far i g' a hi hne ha ⟨a2,h2,e.trans e2⟩
  ·obtain⟨⟨k,hk⟩,_⟩:=h.base (List.mem_of_getElem? hi) ha
   exact hf.cO hk e.symm
 have isx:Au (pl x) x=true:=by simp[Au,hx]
 refine⟨fun g' hg'=>?_,fun g' hg'=>?_,fun p hpn=>?_,?_,fun i i' g1 g2 h1 h2 hne a a' ha ha'=>?_⟩
 ·obtain⟨i,hi⟩:=List.mem_iff_getElem?.1 hg'
  rcases get hi with ⟨_,rfl⟩ | ⟨hne,hi⟩
  ·exact hO
  ·exact(h.own g' (List.mem_of_getElem? hi)).keep hK fun a ha=>far i g' a hi hne ha
 ·obtain⟨i,hi⟩:=List.mem_iff_getElem?.1 hg'
  rcases get hi with ⟨_,rfl⟩ | ⟨hne,hi⟩
  ·refine⟨by simp,?_⟩
   dsimp only
   rw[qp,hp,if_pos isx,←hp,←(h.eq g hgm).2]
  ·refine⟨(h.eq g' (List.mem_of_getElem? hi)).1,?_⟩
   rw[qp,if_neg,List.append_nil]
   ·exact(h.eq g' (List.mem_of_getElem? hi)).2
   ·intro hh
    simp only[Au,Bool.and_eq_true,decide_eq_true_eq]at hh
    exact other i g' hi hne (hh.2.symm.trans hp.symm)
 ·by_cases e:p=g.p
  ·exact⟨_,List.mem_of_getElem? (i:=j) (List.getElem?_set_self hjl),e.symm⟩
  ·rw[qp,if_neg,List.append_nil]at hpn
   ·obtain⟨g',hg',e'⟩:=h.all p hpn
    obtain⟨i,hi⟩:=List.mem_iff_getElem?.1 hg'
    have hne:i≠j:=fun e2=>by
     subst e2
     rw[hj]at hi;cases hi;exact e e'.symm
    exact⟨g',List.mem_of_getElem? (i:=i) (by rw[List.getElem?_set_ne (fun e=>hne e.symm)];exact hi),e'⟩
   ·intro hh
    simp only[Au,Bool.and_eq_true,decide_eq_true_eq]at hh
    exact e (hh.2.symm.trans hp.symm)
 ·have:(G.set j ⟨g.p,base',cap',g.L++[x]⟩).map (·.p)=G.map (·.p):=by
   apply List.ext_getElem?
   intro q
   rw[List.getElem?_map]
   by_cases e:j=q
   ·subst e;rw[List.getElem?_set_self hjl,List.getElem?_map,hj];rfl
   ·rw[List.getElem?_set_ne e,List.getElem?_map]
  rw[this];exact h.nd
 ·rcases get h1 with ⟨e1,rfl⟩ | ⟨n1,h1⟩
  ·rcases get h2 with ⟨e2,rfl⟩ | ⟨n2,h2⟩
   ·exact absurd (e1.trans e2.symm) hne
   ·exact fun e=>fr i' g2 a' a h2 n2 ha' ha e.symm
  ·rcases get h2 with ⟨e2,rfl⟩ | ⟨n2,h2⟩
   ·exact fr i g1 a a' h1 n1 ha ha'
   ·exact h.ap i i' g1 g2 h1 h2 hne a a' ha ha'
theorem GInv.new {M A B:AH} {T:List En} {G:List Gp} {x:En} {base':Option Addr} {cap':Nat} (h:GInv M A T G) (hno:∀ g∈G,g.p≠pl x) (hx:x.1=2)
  (hO:fJ M B 78 5 base' cap' ([x].map gG)) (hK:Keep A B fun _=>False) (hn:∀ a,base'=some a→aG A a.block):GInv M B (T++[x]) (G++[⟨pl x,base',cap',[x]⟩]):=by
 have isx:Au (pl x) x=true:=by simp[Au,hx]
 have g0:got T (pl x)=[]:=Decidable.byContradiction fun hh=>by
  obtain⟨g,hg,e⟩:=h.all _ hh
  exact hno g hg e
 have isn:∀ p,p≠pl x→got (T++[x]) p=got T p:=fun p hp=>by
  rw[qp,if_neg,List.append_nil]
  intro hh
  simp only[Au,Bool.and_eq_true,decide_eq_true_eq]at hh
  exact hp hh.2.symm
 have get:∀ {i g'},(G++[(⟨pl x,base',cap',[x]⟩:Gp)])[i]?=some g'→(i=G.length∧g'=⟨pl x,base',cap',[x]⟩)∨(i<G.length∧G[i]?=some g'):=fun {i g'} hi=>by
  rcases Nat.lt_or_ge i G.length with hl | hl
  ·rw[List.getElem?_append_left hl]at hi;exact .inr ⟨hl,hi⟩
  ·rw[List.getElem?_append_right hl]at hi
   have:i=G.length:=by
    have:=Go.AX.dG hi
    simp at this;omega
   subst this
   simp at hi;exact .inl ⟨rfl,hi.symm⟩
 have fr:∀ (i:Nat) (g':Gp) (a a':Addr),G[i]?=some g'→g'.base=some a→base'=some a'→a.block≠a'.block:=fun i g' a a' hi ha ha' e=>by
  obtain⟨⟨k,hk⟩,_⟩:=h.base (List.mem_of_getElem? hi) ha
  exact(hn a' ha').cO hk e.symm
 refine⟨fun g' hg'=>?_,fun g' hg'=>?_,fun p hpn=>?_,?_,fun i i' g1 g2 h1 h2 hne a a' ha ha'=>?_⟩
 ·rcases List.mem_append.1 hg' with hg | hg
  ·exact(h.own g' hg).keep hK fun _ _ h=>h
  ·obtain rfl:=List.mem_singleton.1 hg;exact hO
 ·rcases List.mem_append.1 hg' with hg | hg
  ·refine⟨(h.eq g' hg).1,?_⟩
   rw[isn _ (hno g' hg)];exact(h.eq g' hg).2
  ·obtain rfl:=List.mem_singleton.1 hg
   exact⟨by simp,by dsimp only;rw[qp,if_pos isx,g0];rfl⟩
 ·by_cases e:p=pl x
  ·exact⟨_,List.mem_append_right _ (List.mem_singleton.2 rfl),e.symm⟩
  ·rw[isn p e]at hpn
   obtain⟨g,hg,e'⟩:=h.all p hpn
   exact⟨g,List.mem_append_left _ hg,e'⟩
 ·rw[List.map_append,List.nodup_append]
  refine⟨h.nd,by simp,fun a ha b hb=>?_⟩
  obtain⟨g,hg,rfl⟩:=List.mem_map.1 ha
  simp at hb;subst hb
  exact hno g hg
 ·rcases get h1 with ⟨e1,rfl⟩ | ⟨n1,h1⟩
  ·rcases get h2 with ⟨e2,rfl⟩ | ⟨n2,h2⟩
   ·exact absurd (e1.trans e2.symm) hne
   ·exact fun e=>fr i' g2 a' a h2 ha' ha e.symm
  ·rcases get h2 with ⟨e2,rfl⟩ | ⟨n2,h2⟩
   ·exact fr i g1 a a' h1 ha ha'
   ·exact h.ap i i' g1 g2 h1 h2 hne a a' ha ha'
theorem BJ:FQ Tryz.prog (κ:=Pl) 133 kP:=
 ⟨⟨_,Tryz.underlying133,fun _ _=>rfl⟩,fun em k H=>by kernel_rfl,fun a b H=>by
  have h:=VX (H:=H) (m:=9998) a.1 b.1 a.2 b.2
  have e:((a.1==b.1)&&(a.2==b.2))=decide (a=b):=by
   rw[Bool.eq_iff_iff];simp[Prod.ext_iff]
  rw[e]at h
  exact h,fun k=>by simp[kP,Instr.sameBits]⟩
theorem Hr:ZJ Tryz.prog 130=some (133,.bool false):=by kernel_rfl
theorem ZM:ZJ Tryz.prog 131=some (133,.slice none 0 0):=by kernel_rfl
end Go.Proofs.YtbhamhhjicehaaaGreatDoor.jh
/- part: Apply. -/
namespace Go.Proofs.YtbhamhhjicehaaaGreatDoor.jh
open Go Go.AX Go.Proofs Ty Go.Proofs.YtbhamhhjicehaaaGreatDoor.File Go.Proofs.YtbhamhhjicehaaaGreatDoor.mF Go.Proofs.YtbhamhhjicehaaaGreatDoor.Err
open Go.Proofs.YtbhamhhjicehaaaGreatDoor.pF (gG aA ay aJ aI)
def Hm (H:AH) (tv:Value) (hd:Hd):Prop:=∃ bm es,tv=.map (some bm)∧H.find bm=some (.gW es)∧∀ i:Int,(hd i=none∧zx (.int .i64) (.int .i64 i) es 0=some none)∨∃ y k,hd i=some y∧zx (.int .i64) (.int .i64 i) es 0=some (some (k,.int .u8 y))
theorem Hm.keep {H H':AH} {tv:Value} {hd:Hd} {ex:Nat→Prop} (h:Hm H tv hd) (hK:Keep H H' ex) (hx:∀ b,tv=.map (some b)→¬ ex b):Hm H' tv hd:=by
 obtain⟨bm,es,h1,h2,h3⟩:=h
 exact⟨bm,es,h1,hK.find (hx bm h1) h2,h3⟩
theorem ZN {H:AH} {tv:Value} {hd:Hd} (h:Hm H tv hd) (i:Int) (k:Value→AH→Prop):Vx Tryz.prog 70 tv (.int .i64 i) false H k=k (.int .u8 ((hd i).getD 0)) H:=by
 unfold Vx
 obtain⟨bm,es,rfl,h2,h3⟩:=h
 have hmp:H.mp bm=some es:=by rw[AH.mp,h2]
 rcases h3 i with ⟨h5,h4⟩ | ⟨y,q,h5,h4⟩
 ·simp only[NG,wo,hmp,h4,Ba,nv,h5]
  simp
 ·simp only[NG,wo,hmp,h4,Ba,nv,h5]
  simp
theorem Xd {H:AH} {tv:Value} {hd:Hd} (h:Hm H tv hd) (i:Int) (k:Value→AH→Prop):Vx Tryz.prog 70 tv (.int .i64 i) true H k=k (.tuple #[.int .u8 ((hd i).getD 0),.bool (hd i).isSome]) H:=by
 unfold Vx
 obtain⟨bm,es,rfl,h2,h3⟩:=h
 have hmp:H.mp bm=some es:=by rw[AH.mp,h2]
 rcases h3 i with ⟨h5,h4⟩ | ⟨y,q,h5,h4⟩
 ·simp only[NG,wo,hmp,h4,Ba,nv,h5]
  simp
 ·simp only[NG,wo,hmp,h4,Ba,nv,h5]
  simp
def lE (Lo:List Pl):List (Pl×Value):=Lo.map fun p=>(p,.bool true)
theorem DW (p:Pl):∀ (Lo:List Pl) (i:Nat),(p∈Lo∧∃ j,EC p (lE Lo) i=some (j,.bool true))∨(p∉Lo∧EC p (lE Lo) i=none)
 | [],_=>.inr ⟨by simp,rfl⟩
 |q::Lo,i=>by
  show(_∧∃ j,EC p ((q,Value.bool true)::lE Lo) i=_)∨(_∧EC p ((q,Value.bool true)::lE Lo) i=none)
  rw[EC]
  by_cases e:p=q
  ·exact .inl ⟨by simp[e],i,by simp[e]⟩
  ·simp only[e,if_false,List.mem_cons,false_or]
   exact DW p Lo (i+1)
def wS (p:Pl) (Lo:List Pl):List Pl:=if p∈Lo then Lo else Lo++[p]
theorem Qe (p:Pl) (Lo:List Pl):W9 (lE Lo) p (.bool true) (EC p (lE Lo) 0)=lE (wS p Lo):=by
 rcases DW p Lo 0 with ⟨h1,j,h2⟩ | ⟨h1,h2⟩
 ·rw[h2,W9,wS,if_pos h1]
  obtain⟨m,rfl,hm⟩:=yR h2
  rw[Nat.zero_add]
  have hlt:=Go.AX.dG hm
  apply List.ext_getElem?
  intro q
  by_cases e:m=q
  ·subst e;rw[List.getElem?_set_self hlt,hm]
  ·rw[List.getElem?_set_ne e]
 ·rw[h2,W9,wS,if_neg h1,lE,lE,List.map_append];rfl
theorem Qg {p q:Pl} {Lo:List Pl}:q∈wS p Lo↔q=p∨q∈Lo:=by
 unfold wS
 split
 ·rename_i h
  exact⟨.inr,fun h'=>h'.elim (fun e=>e▸h) id⟩
 ·rw[List.mem_append,List.mem_singleton];exact or_comm
def zW (T:List En) (hd:Hd) (Lo:List Pl):Prop:=∀ p,p∈Lo↔∃ y∈T,Au p y=true∧hd y.2.1=none
theorem zW.nil (hd:Hd):zW [] hd []:=fun p=>by simp
theorem zW.same {T:List En} {hd:Hd} {Lo:List Pl} {x:En} (h:zW T hd Lo) (hx:x.1≠2∨hd x.2.1≠none):zW (T++[x]) hd Lo:=fun p=>by
 rw[h p]
 constructor
 ·rintro⟨y,hy,h2⟩;exact⟨y,List.mem_append_left _ hy,h2⟩
 ·rintro⟨y,hy,h2,h3⟩
  rcases List.mem_append.1 hy with hy | hy
  ·exact⟨y,hy,h2,h3⟩
  ·obtain rfl:=List.mem_singleton.1 hy
   rcases hx with hx | hx
   ·simp[Au,hx]at h2
   ·exact absurd h3 hx
theorem zW.put {T:List En} {hd:Hd} {Lo:List Pl} {x:En} (h:zW T hd Lo) (hx:x.1=2) (hn:hd x.2.1=none):zW (T++[x]) hd (wS (pl x) Lo):=fun p=>by
 rw[Qg,h p]
 constructor
 ·rintro(rfl | ⟨y,hy,h2⟩)
  ·exact⟨x,List.mem_append_right _ (List.mem_singleton.2 rfl),by simp[Au,hx],hn⟩
  ·exact⟨y,List.mem_append_left _ hy,h2⟩
 ·rintro⟨y,hy,h2,h3⟩
  rcases List.mem_append.1 hy with hy | hy
  ·exact .inr ⟨y,hy,h2,h3⟩
  ·obtain rfl:=List.mem_singleton.1 hy
   simp only[Au,Bool.and_eq_true,decide_eq_true_eq]at h2
   exact .inl h2.2.symm
theorem ZO {G:List Gp} {j:Nat} {g g':Gp} (hg:G[j]?=some g):gE (G.set j g')=(gE G).set j (g'.p,.slice g'.base g'.L.length g'.cap):=by
 rw[gE,gE,List.map_set]
theorem ZP (G:List Gp) (p:Pl) (z:Value) (g':Gp) (hp:g'.p=p):(gE G++[(p,z)]).set (gE G).length (p,.slice g'.base g'.L.length g'.cap)=gE (G++[g']):=by
 rw[List.set_append_right _ _ (Nat.le_refl _),Nat.sub_self,gE,gE,List.map_append,←hp];rfl
theorem JO {p:Pl}:∀ {l:List (Pl×Value)} {i:Nat},EC p l i=none→∀ q∈l,q.1≠p
 | [],_,_=>by simp
 |q::l,i,h=>by
  rw[EC]at h
  split at h
  ·cases h
  ·rename_i e
   intro r hr
   rcases List.mem_cons.1 hr with rfl | hr
   ·exact fun e'=>e e'.symm
   ·exact JO h r hr
theorem TK:∀ {l:List MapEntry} {G:List Gp},(l.map (·.born)).Nodup→l.map (fun x=>(x.key,x.val))=ke kP (gE G)→∃ g:MapEntry→Gp,l.map g=G∧∀ e∈l,e.key=kP (g e).p∧e.val=.slice (g e).base (g e).L.length (g e).cap
 | [],[],_,_=>⟨fun _=>⟨(0,0),none,0,[]⟩,rfl,by simp⟩
 | [],_::_,_,h=>by simp[ke,gE]at h
 |_::_,[],_,h=>by simp[ke,gE]at h
 |e0::l,m0::ms,hd,h=>by
  simp only[ke,gE,List.map_cons,List.nodup_cons,List.mem_map,not_exists,not_and,List.cons.injEq,Prod.mk.injEq]at hd h
  obtain⟨g,h1,h2⟩:=TK (G:=ms) hd.2 (by simpa [ke,gE]using h.2)
  refine⟨fun e=>if e.born=e0.born then m0 else g e,?_,fun e he=>?_⟩
  ·simp only[List.map_cons,if_true,List.cons.injEq,true_and]
   rw[←h1]
   exact List.map_congr_left fun e he=>if_neg fun hb=>hd.1 e he hb
  ·rcases List.mem_cons.1 he with rfl | he
   ·simp[h.1]
   ·simp only[if_neg fun hb=>hd.1 e he hb]
    exact h2 e he
theorem Oh {hd:Hd} (hr:∀ s y,hd s=some y→0≤y∧y≤255):∀ {l:List En} {v:Rc},nX v→nX (l.foldl (lH hd) v)
 | [],_,h=>h
 |x::l,v,h=>by
  refine Oh hr (l:=l) ?_
  have hb:0≤(hd x.2.1).getD 0∧(hd x.2.1).getD 0≤255:=by
   cases he:hd x.2.1 with
   |none=>simp
   |some y=>exact hr _ _ he
  obtain⟨h0,h1,h2,h3⟩:=h
  unfold lH Tf
  split
  ·exact⟨hb,h1,h2,h3⟩
  ·split
   ·exact⟨h0,hb,h2,h3⟩
   ·split
    ·exact⟨h0,h1,hb,h3⟩
    ·exact⟨h0,h1,h2,hb⟩
theorem JQ {T:List En} {hd:Hd} (hr:∀ s y,hd s=some y→0≤y∧y≤255) {X:List Nf} (h:lG X) (p:Pl):lG (gu T hd X p):=by
 unfold gu
 split
 ·exact h
 ·rename_i v hv
  split
  ·exact h.set _ _ (Oh hr (Hf h hv))
  ·exact h
theorem Oi {T:List En} {hd:Hd} {Lo:List Pl} (h:zW T hd Lo) (p:Pl):BG hd (got T p)=true↔p∉Lo:=by
 rw[h p,BG,List.all_eq_true]
 constructor
 ·rintro h1 ⟨y,hy,h2,h3⟩
  have:=h1 y (List.mem_filter.2 ⟨hy,h2⟩)
  rw[h3]at this;cases this
 ·intro h1 y hy
  obtain⟨hy1,hy2⟩:=List.mem_filter.1 hy
  cases he:hd y.2.1 with
  |some z=>rfl
  |none=>exact absurd ⟨y,hy1,hy2,he⟩ h1
theorem FU (p:Pl) (Lo:List Pl):Ba false (.bool false) (EC p (lE Lo) 0)=.bool (decide (p∈Lo)):=by
 rcases DW p Lo 0 with ⟨h1,j,h2⟩ | ⟨h1,h2⟩
 ·rw[h2,decide_eq_true h1];rfl
 ·rw[h2,decide_eq_false h1];rfl
theorem JR (w:Rc) (b:Int):∀ m:Nat,m≤3→(enc w).set m (.int .u8 b)=enc (Tf w m b)
 |0,_=>rfl
 |1,_=>rfl
 |2,_=>rfl
 |3,_=>rfl
 |n+4,h=>by omega
theorem recvs_iff {T:List En} {p:Pl}:p∈recvs T↔got T p≠[]:=by
 rw[recvs,List.mem_map,got,ne_eq,List.filter_eq_nil_iff]
 constructor
 ·rintro⟨x,hx,rfl⟩ h
  obtain⟨h1,h2⟩:=List.mem_filter.1 hx
  exact h x h1 (by simpa [Au]using h2)
 ·intro h
  obtain⟨x,hx⟩:=Classical.not_forall.1 h
  obtain⟨h1,h2⟩:=Classical.not_imp.1 hx
  have h3:Au p x=true:=Classical.not_not.1 h2
  simp only[Au,Bool.and_eq_true,decide_eq_true_eq]at h3
  exact⟨x,List.mem_filter.2 ⟨h1,by simpa using h3.1⟩,h3.2⟩
theorem Ht {H:AH} {b:Nat} {X:List Nf} {den:Int} {ft:Nat→Prop} (hE:rO H.w0) (h:iV H b X den ft) (hX:lG X) (T:List En) (bt:Option Addr) (ct:Nat) (hT:bG H 5 bt ct (T.map gG)) (tm:Option Nat) (hd:Hd) (hH:Hm H (.map tm) hd)
  (hr:∀ s y,hd s=some y→0≤y∧y≤255) (hB:∀ x∈T,x.1=2→0≤x.2.2.2.2∧x.2.2.2.2≤3) (alU:T.length≤64) :
  aO Tryz.prog 25 #[.pointer (some ⟨b,0,none⟩),.slice bt T.length ct,.map tm] H (fun u H'=>∃ b' X' zA,u=.pointer (some ⟨b',0,none⟩)∧X'.Perm (app T hd X den).1∧lG X'∧iV H' b' X' (app T hd X den).2 zA∧(Keep H H' fun _=>False)∧∀ x,zA x→aG H x):=by
 refine aO.cu Tryz.func25 rfl Tryz.ntmps25 Tryz.results25 (by simp) ?_;simp -dsimp(maxSteps:=4000000) only[aA,ay,aJ,aI,au,ak,aB,aC,go_sem]
 refine(GZ h hX).mono ?_
 rintro _ A0 ⟨bo,X0,MH,rfl,hp0,hs0,hK0,hf0⟩
 simp -dsimp(maxSteps:=4000000) only[aA,ay,aJ,aI,au,ak,aB,aC,go_sem]
 refine bY.mk fun bl iR=>?_;have dH:=iR;(try simp only[ah,aj,ne_eq]at dH);have dP:=dH;(try simp only[@eq_comm Nat bl]at dP);simp -dsimp(maxSteps:=4000000) only[aA,ay,aJ,aI,au,ak,aB,aC,dH,dP,go_sem]
 refine bY.mk fun bg ZQ=>?_;have yT:=ZQ;(try simp only[ah,aj,ne_eq]at yT);have Oj:=yT;(try simp only[@eq_comm Nat bg]at Oj);simp -dsimp(maxSteps:=4000000) only[aA,ay,aJ,aI,au,ak,aB,aC,dH,dP,yT,Oj,go_sem]
 obtain⟨M,hM⟩:∃ M,(A0.add bl (.gW [])).add bg (.gW [])=M:=⟨_,rfl⟩
 have k0M:Keep A0 M fun _=>False:=hM▸(Keep.refl.nw iR).nw ZQ
 have kHM:Keep H M fun _=>False:=hK0.trans k0M
 have nlg:bg≠bl:=yT.1
 have fl0:M.find bl=some (.gW (ke kP (lE []))):=by
  have:M.find bl=some (.gW []):=by rw[←hM];(show AH.find _ _=_;simp only[aH,aN,aV,ah,aj,ne_eq,not_false_eq_true,true_and,and_true,and_self,aA,ay,aJ,aI,au,ak,aB,aC,dH,dP,yT,Oj])
  exact this
 have fg0:M.find bg=some (.gW (ke kP (gE []))):=by rw[←hM,aH];rfl
 have nfl:¬ MH bl:=hs0.fresh iR
 have nfg:¬ MH bg:=hs0.fresh yT.2
 have f0l:aG A0 bl:=iR
 have ZR:aG A0 bg:=yT.2
 have hfl:aG H bl:=hK0.fr iR
 have hfg:aG H bg:=hK0.fr yT.2
 rw[hM]
 clear hM iR dH dP ZQ yT Oj
 refine fZ.jE (ι:=Nat×List Pl×List Gp) (fun s A=>s.1≤T.length∧A.find bl=some (.gW (ke kP (lE s.2.1)))∧A.find bg=some (.gW (ke kP (gE s.2.2)))∧zW (T.take s.1) hd s.2.1∧GInv A0 A (T.take s.1) s.2.2∧Keep A0 A fun _=>False)
  (fun s=>[(29,.int .i64 s.1),(28,.int .i64 T.length),(27,.slice bt T.length ct),(7,.pointer (some ⟨bo,0,none⟩)),(8,.map (some bl)),(9,.map (some bg)),(2,.map tm),(1,.slice bt T.length ct)]) (fun s=>T.length - s.1) (0,[],[]) M
  ⟨by simp,fl0,fg0,zW.nil hd,GInv.nil A0 M,k0M⟩ (bZ.aS ?_) (AH.le_refl _) fun s A hV Q again out=>?_
 ·simp -dsimp(maxSteps:=4000000) only[aA,ay,aJ,aI,au,ak,aB,aC,go_sem]
 obtain⟨i,Lo,G⟩:=s
 obtain⟨hi,JU,JV,hL,hG,hK⟩:=hV
 dsimp only at hi JU JV hL hG hK ⊢
 by_cases hlt:(i:Int)<T.length
 case pos=>
  obtain⟨x,hx⟩:=get_some (l:=T) (i:=i) (by omega)
  have hne:T≠[]:=fun e=>by rw[e]at hx;cases hx
  have hTA:=hT.keep (hK0.trans hK) fun _ _ h=>h
  have hHA:=hH.keep (hK0.trans hK) fun _ _ h=>h
  obtain⟨q,o,rfl,hrow,_⟩:=hTA.get (Go.AX.dn (f:=gG) hx)
  have ee:=dA (i:=i) (by omega)
  have hi0:(0:Int)≤(i:Int):=by omega
  have et:T.take (i+1)=T.take i++[x]:=by rw[List.take_add_one,hx];rfl
  obtain⟨k,sl,fl,rc,qH⟩:=x
  have eE:gG (k,sl,fl,rc,qH)=[.int .i64 k,.int .i64 sl,.int .i64 fl,.int .i64 rc,.int .i64 qH]:=rfl
  rw[eE]at hrow
  simp -dsimp(maxSteps:=4000000) only[hlt,hi0,hrow,aA,ay,aJ,aI,au,ak,aB,aC,go_sem]
  refine bY.mk fun b11 jd=>?_;have aZ:=jd;(try simp only[ah,aj,ne_eq]at aZ);have bK:=aZ;(try simp only[@eq_comm Nat b11]at bK);simp -dsimp(maxSteps:=4000000) only[aA,ay,aJ,aI,au,ak,aB,aC,aZ,bK,go_sem]
  by_cases hk2:k=2
  case neg=>
   simp -dsimp(maxSteps:=4000000) only[hk2,ee,aA,ay,aJ,aI,au,ak,aB,aC,aZ,bK,go_sem]
   exact again (i+1,Lo,G) _ A _ ⟨by dsimp only;omega,JU,JV,by dsimp only;rw[et];exact hL.same (.inl hk2),by dsimp only;rw[et];exact hG.skip hk2,hK⟩ (bZ.aS (by simp -dsimp(maxSteps:=4000000) only[aA,ay,aJ,aI,au,ak,aB,aC,aZ,bK,go_sem])) (AH.aK (AH.le_refl _) jd.2) (by dsimp only;omega)
  case pos=>
   simp -dsimp(maxSteps:=4000000) only[hk2,aA,ay,aJ,aI,au,ak,aB,aC,aZ,bK,go_sem]
   refine bY.mk fun b12 lK=>?_;have fQ:=lK;(try simp only[ah,aj,ne_eq]at fQ);have gX:=fQ;(try simp only[@eq_comm Nat b12]at gX);simp -dsimp(maxSteps:=4000000) only[aA,ay,aJ,aI,au,ak,aB,aC,aZ,bK,fQ,gX,go_sem]
   obtain⟨A2,hA2⟩:∃ A2,(A.add b11 (.cells [.int .i64 k,.int .i64 sl,.int .i64 fl,.int .i64 rc,.int .i64 qH] 78 5)).add b12 (.cells [.int .i64 fl,.int .i64 rc] 133 2)=A2:=⟨_,rfl⟩
   have k2:Keep A A2 fun _=>False:=hA2▸(Keep.refl.nw jd).nw (by simp only[ah,ne_eq,fQ,not_false_eq_true,and_self])
   have f11:A2.find b11=some (.cells [.int .i64 k,.int .i64 sl,.int .i64 fl,.int .i64 rc,.int .i64 qH] 78 5):=by rw[←hA2];(show AH.find _ _=_;simp only[aH,aN,aV,ah,aj,ne_eq,not_false_eq_true,true_and,and_true,and_self,aA,ay,aJ,aI,au,ak,aB,aC,aZ,bK,fQ,gX])
   have f12:A2.find b12=some (.cells [.int .i64 fl,.int .i64 rc] 133 2):=by rw[←hA2,aH]
   have alY:aG A b11:=jd
   have alZ:aG A b12:=fQ.2
   have fl2:=k2.find (fun h=>h) JU
   have fg2:=k2.find (fun h=>h) JV
   have hG2:=hG.keep k2 fun _ h=>h.elim
   have hK2:=hK.trans k2
   have hH2:=hHA.keep k2 fun _ _ h=>h
   have ahe:b11≠bl:=jd.cO JU
   have ahf:b12≠bl:=fQ.2.cO JU
   have al0:b11≠bg:=jd.cO JV
   have al1:b12≠bg:=fQ.2.cO JV
   rw[hA2]
   clear hA2 jd aZ bK lK fQ gX hrow
   have hl2:=fun k=>Xd hH2 sl k
   rw[hl2]
   have r12:A2.row b12 0 2=some [.int .i64 fl,.int .i64 rc]:=iZ f12 (by simp)
   have nbl:∀ b',b'=bl→¬ ∃ g∈G,∃ a,g.base=some a∧a.block=b':=by
    rintro b' e ⟨g,hg,a,ha,rfl⟩
    obtain⟨_,_,_,hc⟩:=hG2.cells hg ha
    rw[e,fl2]at hc;cases hc
   by_cases hdx:hd sl=none
   case' pos=>
    simp -dsimp(maxSteps:=4000000) only[hdx,r12,Zb,aA,ay,aJ,aI,au,ak,aB,aC,go_sem]
    refine YN.map (k:=(fl,rc)) BJ Hr fl2 ?_
    rw[Qe]
    obtain⟨A3,hA3⟩:∃ A3,A2.set bl (.gW (ke kP (lE (wS (fl,rc) Lo))))=A3:=⟨_,rfl⟩
    have k3:Keep A2 A3 (·=bl):=hA3▸Keep.set
    have fl3:A3.find bl=some (.gW (ke kP (lE (wS (fl,rc) Lo)))):=by rw[←hA3,dw,if_pos rfl]
    have hL3:zW (T.take (i+1)) hd (wS (fl,rc) Lo):=by rw[et];exact hL.put hk2 hdx
    rw[hA3]
    generalize wS (fl,rc) Lo=Lo3 at fl3 hL3
    clear hA3
   case' neg=>
    obtain⟨y,hdx⟩:=Option.ne_none_iff_exists'.1 hdx
    simp -dsimp(maxSteps:=4000000) only[hdx,aA,ay,aJ,aI,au,ak,aB,aC,go_sem]
    obtain⟨A3,hA3⟩:∃ A3,A2=A3:=⟨_,rfl⟩
    have k3:Keep A2 A3 (·=bl):=hA3▸Keep.refl
    have fl3:A3.find bl=some (.gW (ke kP (lE Lo))):=hA3▸fl2
    have hL3:zW (T.take (i+1)) hd Lo:=by rw[et];exact hL.same (.inr (by dsimp only;rw[hdx];simp))
    rw[hA3]
    obtain⟨Lo3,ac9⟩:∃ Lo3,Lo=Lo3:=⟨_,rfl⟩
    rw[ac9]at fl3 hL3
    clear hA3 ac9
   all_goals
    have f11:=k3.find ahe f11
    have f12:=k3.find ahf f12
    have fg3:=k3.find nlg fg2
    have hG3:=hG2.keep k3 nbl
    have hK3:=hK2.ow k3 fun _ e=>e▸f0l
    have r11:A3.row b11 0 5=some [.int .i64 k,.int .i64 sl,.int .i64 fl,.int .i64 rc,.int .i64 qH]:=iZ f11 (by simp)
    have r12:A3.row b12 0 2=some [.int .i64 fl,.int .i64 rc]:=iZ f12 (by simp)
    clear fl2 fg2 hG2 hK2 hH2 hl2 hL hG k2
    simp -dsimp(maxSteps:=4000000) only[r11,r12,aA,ay,aJ,aI,au,ak,aB,aC,go_sem]
    refine bY.mk fun bq TL=>?_;have Ol:=TL;(try simp only[ah,aj,ne_eq]at Ol);have TM:=Ol;(try simp only[@eq_comm Nat bq]at TM);simp -dsimp(maxSteps:=4000000) only[aA,ay,aJ,aI,au,ak,aB,aC,Ol,TM,go_sem]
    obtain⟨A4,Qc⟩:∃ A4,A3.add bq (.cells [.int .i64 k,.int .i64 sl,.int .i64 fl,.int .i64 rc,.int .i64 qH] 78 5)=A4:=⟨_,rfl⟩
    have k4:Keep A3 A4 fun _=>False:=Qc▸Keep.add TL
    have fq4:A4.find bq=some (.cells [.int .i64 k,.int .i64 sl,.int .i64 fl,.int .i64 rc,.int .i64 qH] 78 5):=by rw[←Qc,aH]
    have nqg:bq≠bg:=TL.cO fg3
    have nql:bq≠bl:=TL.cO fl3
    have fg4:=k4.find (fun h=>h) fg3
    have fl4:=k4.find (fun h=>h) fl3
    have hG4:=hG3.keep k4 fun _ h=>h.elim
    have hK4:=hK3.trans k4
    rw[Qc]
    clear Qc TL Ol TM
    have nbg:∀ b',b'=bg→¬ ∃ g∈G,∃ a,g.base=some a∧a.block=b':=by
     rintro b' e ⟨g,hg,a,ha,rfl⟩
     obtain⟨_,_,_,hc⟩:=hG4.cells hg ha
     rw[e,fg4]at hc;cases hc
    refine MEN.map (k:=(fl,rc)) (l:=gE G) BJ ZM fg4 ?_ ?_
    ·intro j v st en cl hj hkl hm hst
     obtain⟨g,hg,hgp,hgv⟩:∃ g,G[j]?=some g∧g.p=(fl,rc)∧v=.slice g.base g.L.length g.cap:=by
      rw[gE,List.getElem?_map]at hj
      obtain⟨g,hg,e⟩:=Option.map_eq_some_iff.1 hj
      simp only[Prod.mk.injEq]at e
      exact⟨g,hg,e.1,e.2.symm⟩
     subst hgv
     obtain⟨A5,Xe⟩:∃ A5,A4.set bg (.obj (.map en cl))=A5:=⟨_,rfl⟩
     have k5:Keep A4 A5 (·=bg):=Xe▸Keep.set
     have fg5:A5.find bg=some (.obj (.map en cl)):=by rw[←Xe,dw,if_pos rfl]
     have fq5:=k5.find nqg fq4
     have ZT:=hG4.keep k5 nbg
     have hK5:=hK4.ow k5 fun _ e=>e▸ZR
     rw[Xe]
     clear Xe
     simp -dsimp(maxSteps:=4000000) only[aA,ay,aJ,aI,au,ak,aB,aC,go_sem]
     have hgo:=ZT.own g (List.mem_of_getElem? hg)
     have hgl:g.L.length≤64:=by
      rw[(ZT.eq g (List.mem_of_getElem? hg)).2]
      have h1:(got (T.take i) g.p).length≤(T.take i).length:=List.length_filter_le _ _
      rw[List.length_take]at h1;omega
     refine lS.nD (x:=.slice (some ⟨bq,0,none⟩) 1 1) (R':=[gG (k,sl,fl,rc,qH)]) (m:=1) hgo hK5.all XT rfl (by decide) (by rw[Tryz.underlying58];rfl) (by simp) rfl rfl (by rw[iF,iZ fq5 (by simp)];rfl) (by simp[gG]) (by simp[gG,iM]) (by omega) fun gV cap2 A6 kJ hK6 hN'=>?_
     have nbx:¬ GI g.base bg:=fun⟨a,ha,e⟩=>by
      obtain⟨_,_,_,hc⟩:=ZT.cells (List.mem_of_getElem? hg) ha
      rw[←e,fg5]at hc;cases hc
     have ahi:¬ GI g.base bl:=fun⟨a,ha,e⟩=>by
      obtain⟨_,_,_,hc⟩:=hG4.cells (List.mem_of_getElem? hg) ha
      rw[←e,fl4]at hc;cases hc
     have fg6:=hK6.find nbx fg5
     have fl6:=hK6.find ahi (k5.find (fun e=>nlg e.symm) fl4)
     have hG6:=ZT.upd (x:=(k,sl,fl,rc,qH)) hg hk2 hgp (by rw[List.map_append];exact kJ) hK6 hN'
     refine⟨A6,AH.le_refl _,?_⟩
     simp -dsimp(maxSteps:=4000000) only[aA,ay,aJ,aI,au,ak,aB,aC,go_sem]
     refine EST.map (k:=(fl,rc)) (l:=gE G) fg6 hm hst hj ?_
     have eg:(gE G).set j ((fl,rc),.slice gV (g.L.length+1) cap2)=gE (G.set j ⟨g.p,gV,cap2,g.L++[(k,sl,fl,rc,qH)]⟩):=by
      rw[ZO hg];dsimp only;rw[hgp,List.length_append];rfl
     rw[eg]
     have nb6:∀ b',b'=bg→¬ ∃ g'∈(G.set j ⟨g.p,gV,cap2,g.L++[(k,sl,fl,rc,qH)]⟩),∃ a,g'.base=some a∧a.block=b':=by
      rintro b' e ⟨g',hg',a,ha,rfl⟩
      obtain⟨_,_,_,hc⟩:=hG6.cells hg' ha
      rw[e,fg6]at hc;cases hc
     generalize G.set j ⟨g.p,gV,cap2,g.L++[(k,sl,fl,rc,qH)]⟩=G' at hG6 nb6 ⊢
     obtain⟨A7,ZU⟩:∃ A7,A6.set bg (.gW (ke kP (gE G')))=A7:=⟨_,rfl⟩
     have k7:Keep A6 A7 (·=bg):=ZU▸Keep.set
     have fg7:A7.find bg=some (.gW (ke kP (gE G'))):=by rw[←ZU,dw,if_pos rfl]
     have fl7:=k7.find (fun e=>nlg e.symm) fl6
     have hK7:=(hK5.ow hK6 fun b' hb=>by
      obtain⟨a,ha,rfl⟩:=hb
      exact(ZT.base (List.mem_of_getElem? hg) ha).2).ow k7 fun _ e=>e▸ZR
     have hG7:=hG6.keep k7 nb6
     rw[ZU]
     simp -dsimp(maxSteps:=4000000) only[ee,aA,ay,aJ,aI,au,ak,aB,aC,go_sem]
     exact again (i+1,Lo3,G') _ A7 _ ⟨by dsimp only;omega,fl7,fg7,hL3,by dsimp only;rw[et];exact hG7,hK7⟩ (bZ.aS (by simp -dsimp(maxSteps:=4000000) only[aA,ay,aJ,aI,au,ak,aB,aC,go_sem])) (AH.le_refl _) (by dsimp only;omega)
    ·intro st en cl hkl hm hst
     obtain⟨A5,Xe⟩:∃ A5,A4.set bg (.obj (.map en cl))=A5:=⟨_,rfl⟩
     have k5:Keep A4 A5 (·=bg):=Xe▸Keep.set
     have fg5:A5.find bg=some (.obj (.map en cl)):=by rw[←Xe,dw,if_pos rfl]
     have fq5:=k5.find nqg fq4
     have ZT:=hG4.keep k5 nbg
     have hK5:=hK4.ow k5 fun _ e=>e▸ZR
     rw[Xe]
     clear Xe
     have hno:∀ g∈G,g.p≠(fl,rc):=fun g hg=>JO hkl (g.p,_) (List.mem_map_of_mem (f:=fun g:Gp=>(g.p,Value.slice g.base g.L.length g.cap)) hg)
     simp -dsimp(maxSteps:=4000000) only[aA,ay,aJ,aI,au,ak,aB,aC,go_sem]
     refine lS.nD (x:=.slice (some ⟨bq,0,none⟩) 1 1) (R':=[gG (k,sl,fl,rc,qH)]) (m:=1) (fJ.nil (H0:=A0)) hK5.all XT rfl (by decide) (by rw[Tryz.underlying58];rfl) (by simp) rfl rfl (by rw[iF,iZ fq5 (by simp)];rfl) (by simp[gG]) (by simp[gG,iM]) (by omega) fun gV cap2 A6 kJ hK6 hN'=>?_
     have Xf:Keep A5 A6 fun _=>False:=hK6.mono fun _ ⟨a,ha,_⟩=>by cases ha
     have fg6:=Xf.find (fun h=>h) fg5
     have fl6:=Xf.find (fun h=>h) (k5.find (fun e=>nlg e.symm) fl4)
     have hG6:=ZT.new (x:=(k,sl,fl,rc,qH)) (base':=gV) (cap':=cap2) hno hk2 kJ Xf (fun a ha=>(hN' a ha).resolve_left fun⟨a',ha',_⟩=>by cases ha')
     refine⟨A6,AH.le_refl _,?_⟩
     simp -dsimp(maxSteps:=4000000) only[aA,ay,aJ,aI,au,ak,aB,aC,go_sem]
     refine EST.map (k:=(fl,rc)) (l:=gE G++[((fl,rc),.slice none 0 0)]) (v0:=.slice none 0 0) fg6 hm hst (by rw[List.getElem?_append_right (Nat.le_refl _),Nat.sub_self];rfl) ?_
     have eg:=ZP G (fl,rc) (.slice none 0 0) ⟨(fl,rc),gV,cap2,[(k,sl,fl,rc,qH)]⟩ rfl
     dsimp only at eg
     have eg':(gE G++[((fl,rc),Value.slice none 0 0)]).set (gE G).length ((fl,rc),.slice gV (0+1) cap2)=gE (G++[⟨(fl,rc),gV,cap2,[(k,sl,fl,rc,qH)]⟩]):=eg
     rw[eg']
     have nb6:∀ b',b'=bg→¬ ∃ g'∈(G++[(⟨(fl,rc),gV,cap2,[(k,sl,fl,rc,qH)]⟩:Gp)]),∃ a,g'.base=some a∧a.block=b':=by
      rintro b' e ⟨g',hg',a,ha,rfl⟩
      obtain⟨_,_,_,hc⟩:=hG6.cells hg' ha
      rw[e,fg6]at hc;cases hc
     have adg:GInv A0 A6 (T.take i++[(k,sl,fl,rc,qH)]) (G++[⟨(fl,rc),gV,cap2,[(k,sl,fl,rc,qH)]⟩]):=hG6
     generalize G++[(⟨(fl,rc),gV,cap2,[(k,sl,fl,rc,qH)]⟩:Gp)]=G' at adg nb6 ⊢
     obtain⟨A7,ZU⟩:∃ A7,A6.set bg (.gW (ke kP (gE G')))=A7:=⟨_,rfl⟩
     have k7:Keep A6 A7 (·=bg):=ZU▸Keep.set
     have fg7:A7.find bg=some (.gW (ke kP (gE G'))):=by rw[←ZU,dw,if_pos rfl]
     have fl7:=k7.find (fun e=>nlg e.symm) fl6
     have hK7:=(hK5.trans Xf).ow k7 fun _ e=>e▸ZR
     have hG7:=adg.keep k7 nb6
     rw[ZU]
     simp -dsimp(maxSteps:=4000000) only[ee,aA,ay,aJ,aI,au,ak,aB,aC,go_sem]
     exact again (i+1,Lo3,G') _ A7 _ ⟨by dsimp only;omega,fl7,fg7,hL3,by dsimp only;rw[et];exact hG7,hK7⟩ (bZ.aS (by simp -dsimp(maxSteps:=4000000) only[aA,ay,aJ,aI,au,ak,aB,aC,go_sem])) (AH.le_refl _) (by dsimp only;omega)
 case neg=>
  obtain rfl:i=T.length:=by omega
  rw[List.take_length]at hL hG
  simp -dsimp(maxSteps:=4000000) only[hlt,aA,ay,aJ,aI,au,ak,aB,aC,go_sem]
  refine out _ _ _ (by simp) ?_
  clear out again
  simp -dsimp(maxSteps:=4000000) only[aA,ay,aJ,aI,au,ak,aB,aC,go_sem]
  refine RNG.map (es:=ke kP (gE G)) Tryz.underlying131 JV fun en cl hm=>bY.mk fun bi Jw=>?_
  obtain⟨E0,hE0⟩:∃ E0,(A.set bg (.obj (.map en cl))).add bi (.obj (.mapIter (some bg) cl #[] cl))=E0:=⟨_,rfl⟩
  have nbg:∀ b',b'=bg→¬ ∃ g∈G,∃ a,g.base=some a∧a.block=b':=by
   rintro b' e ⟨g,hg,a,ha,rfl⟩
   obtain⟨_,_,_,hc⟩:=hG.cells hg ha
   rw[e,JV]at hc;cases hc
  have hbA:aG A bi∧bi≠bg:=by
   have h1:=Jw
   simp only[aj]at h1
   have h2:bi≠bg:=fun e=>by have:=Jw.2;rw[e,dw,if_pos rfl]at this;cases this
   exact⟨⟨Jw.1,by have:=Jw.2;rwa [dw,if_neg h2]at this⟩,h2⟩
  have kA1:Keep A (A.set bg (.obj (.map en cl))) (·=bg):=Keep.set
  have kA2:Keep (A.set bg (.obj (.map en cl))) E0 fun _=>False:=hE0▸Keep.add Jw
  have hi0:E0.find bi=some (.obj (.mapIter (some bg) cl #[] cl)):=by rw[←hE0,aH]
  have hg0:E0.find bg=some (.obj (.map en cl)):=kA2.find (fun h=>h) (by rw[dw,if_pos rfl])
  have hl0:E0.find bl=some (.gW (ke kP (lE Lo))):=kA2.find (fun h=>h) (kA1.find (fun e=>nlg e.symm) JU)
  have hG0:GInv A0 E0 T G:=(hG.keep kA1 nbg).keep kA2 fun _ h=>h.elim
  have ZV:Keep A0 E0 fun _=>False:=(hK.ow kA1 fun _ e=>e▸ZR).trans kA2
  have f0i:aG A0 bi:=hK.fr hbA.1
  have nif:¬ MH bi:=hs0.fresh f0i
  have nlf:¬ MH bl:=hs0.fresh f0l
  have ngf:¬ MH bg:=hs0.fresh ZR
  have nil_:bi≠bl:=hbA.1.cO JU
  have nig:=hbA.2
  have hX0:lG X0:=hX.perm hp0.symm
  rw[hE0]
  clear hE0 Jw kA1 kA2 hbA hK JU JV nbg hG
  obtain⟨gf,hgf,hge⟩:=TK hm.2.2 hm.1
  simp -dsimp(maxSteps:=4000000) only[aA,ay,aJ,aI,au,ak,aB,aC,go_sem]
  refine fZ.jE (ι:=List MapEntry) (fun D A=>Rnd en cl D∧A.find bi=some (.obj (.mapIter (some bg) cl (D.map (·.born)).toArray cl))∧A.find bg=some (.obj (.map en cl))∧A.find bl=some (.gW (ke kP (lE Lo)))∧GInv A0 A T G∧Keep A0 A MH∧iV A bo ((D.map fun e=>(gf e).p).foldl (gu T hd) X0) den MH∧lG ((D.map fun e=>(gf e).p).foldl (gu T hd) X0))
   (fun D=>[(62,.pointer (some ⟨bi,0,none⟩)),(7,.pointer (some ⟨bo,0,none⟩)),(8,.map (some bl)),(2,.map tm),(1,.slice bt T.length ct)]) (fun D=>(left en D).length) [] E0
   ⟨Rnd.nil hm.2,hi0,hg0,hl0,hG0,ZV.mono fun _ h=>h.elim,hs0.keep ZV fun _ _ h=>h,hX0⟩ (bZ.aS ?_) (AH.le_refl _) fun D A hV Q again out=>?_
  ·simp -dsimp(maxSteps:=4000000) only[aA,ay,aJ,aI,au,ak,aB,aC,go_sem]
  clear hi0 hg0 hl0 hG0 ZV
  obtain⟨hR,hi,hbg,hbl,hG,hK,hst,JW⟩:=hV
  simp -dsimp(maxSteps:=4000000) only[aA,ay,aJ,aI,au,ak,aB,aC,go_sem]
  refine NXT.map hi hbg hR.ok (fun hl=>?_) (fun e he=>?_)
  case' refine_1=>
   simp -dsimp(maxSteps:=4000000) only[aA,ay,aJ,aI,au,ak,aB,aC,go_sem]
   refine out _ _ _ (by simp) ?_
   have hperm:=hR.done hl
   have hap:(D.map fun e=>(gf e).p).foldl (gu T hd) X0=app1 T hd X0:=by
    refine Tj T hd X0 _ (fun p hp=>?_) fun p hp=>?_
    ·obtain⟨e,he,rfl⟩:=List.mem_map.1 hp
     have hgm:gf e∈G:=by rw[←hgf];exact List.mem_map_of_mem (hperm.mem_iff.1 he)
     rw[recvs_iff,←(hG.eq _ hgm).2];exact(hG.eq _ hgm).1
    ·obtain⟨g,hg,rfl⟩:=hG.all p (recvs_iff.1 hp)
     rw[←hgf]at hg
     obtain⟨e,he,rfl⟩:=List.mem_map.1 hg
     exact List.mem_map_of_mem (f:=fun e=>(gf e).p) (hperm.mem_iff.2 he)
   rw[hap]at hst JW
   have Yn:Keep H A fun _=>False:=hK0.ow hK hf0
   obtain⟨X1,hX1⟩:∃ X1,app1 T hd X0=X1:=⟨_,rfl⟩
   rw[hX1]at hst JW
   have hfin:(app T hd X0 den).1.Perm (app T hd X den).1∧(app T hd X0 den).2=(app T hd X den).2:=ac6 T hd hp0 hX0.kd
   have happ:app T hd X0 den=oI T (X1,den):=by rw[app,hX1]
   rw[happ]at hfin
   clear hap hperm hG hR hi hbg hbl hK hs0 f0l ZR f0i nif nlf ngf nil_ nig hgf hge again out
   simp -dsimp(maxSteps:=4000000) only[aA,ay,aJ,aI,au,ak,aB,aC,go_sem]
   refine fZ.jE (ι:=Nat×(Nat→Prop)) (fun s A=>s.1≤T.length∧iV A bo (oI (T.take s.1) (X1,den)).1 (oI (T.take s.1) (X1,den)).2 s.2∧lG (oI (T.take s.1) (X1,den)).1∧(Keep H A fun _=>False)∧∀ x,s.2 x→aG H x)
    (fun s=>[(107,.int .i64 s.1),(106,.int .i64 T.length),(105,.slice bt T.length ct),(7,.pointer (some ⟨bo,0,none⟩))]) (fun s=>T.length - s.1) (0,MH) A
    ⟨by simp,hst,JW,Yn,hf0⟩ (bZ.aS ?_) (AH.le_refl _) fun s B hV Q again out=>?_
   ·simp -dsimp(maxSteps:=4000000) only[aA,ay,aJ,aI,au,ak,aB,aC,go_sem]
   clear hst JW Yn
   obtain⟨i,Yi⟩:=s
   obtain⟨hi,hst,JW,hK,hf1⟩:=hV
   dsimp only at hi hst JW hK hf1 ⊢
   by_cases hlt:(i:Int)<T.length
   ·obtain⟨x,hx⟩:=get_some (l:=T) (i:=i) (by omega)
    obtain⟨q,o,rfl,hrow,_⟩:=(hT.keep hK fun _ _ h=>h).get (Go.AX.dn (f:=gG) hx)
    have ee:=dA (i:=i) (by omega)
    have hi0:(0:Int)≤(i:Int):=by omega
    have et:oI (T.take (i+1)) (X1,den)=NZ (oI (T.take i) (X1,den)) x:=by
     rw[oI,oI,List.take_add_one,hx,List.foldl_append];rfl
    obtain⟨k,sl,fl,rc,qH⟩:=x
    have eE:gG (k,sl,fl,rc,qH)=[.int .i64 k,.int .i64 sl,.int .i64 fl,.int .i64 rc,.int .i64 qH]:=rfl
    rw[eE]at hrow
    simp -dsimp(maxSteps:=4000000) only[hlt,hi0,hrow,aA,ay,aJ,aI,au,ak,aB,aC,go_sem]
    refine bY.mk fun b22 Om=>?_;have vF:=Om;(try simp only[ah,aj,ne_eq]at vF);have xk:=vF;(try simp only[@eq_comm Nat b22]at xk);simp -dsimp(maxSteps:=4000000) only[aA,ay,aJ,aI,au,ak,aB,aC,vF,xk,go_sem]
    by_cases hk3:k=3
    ·have hst':=hst.keep (Keep.add Om (k:=.cells [.int .i64 k,.int .i64 sl,.int .i64 fl,.int .i64 rc,.int .i64 qH] 78 5) (ex:=fun _=>False)) fun _ _ h=>h
     have hdo:=agK (by rw[KO,hK.w0];exact hE) hst' JW 2 fl rc zr
     have adh:=hK.nw Om (k:=.cells [.int .i64 k,.int .i64 sl,.int .i64 fl,.int .i64 rc,.int .i64 qH] 78 5)
     rw[NZ,if_pos hk3]at et
     have e31:=congrArg Prod.fst et
     have e32:=congrArg Prod.snd et
     dsimp only at e31 e32
     subst hk3
     simp -dsimp(maxSteps:=4000000) only[aA,ay,aJ,aI,au,ak,aB,aC,vF,xk,go_sem]
     refine hdo.mono ?_
     rintro _ C ⟨ft2,rfl,hst2,hK2,hf2⟩
     simp -dsimp(maxSteps:=4000000) only[ee,aA,ay,aJ,aI,au,ak,aB,aC,vF,xk,go_sem]
     exact again (i+1,ft2) _ C _ ⟨by dsimp only;omega,by dsimp only;rw[e31,e32];exact hst2,by dsimp only;rw[e31];exact JW.do _ _ _ ⟨by decide,by decide,by decide,by decide⟩,adh.ow hK2 hf1,fun x hx=>(hf2 x hx).elim (hf1 x) fun h=>adh.fr h⟩ (bZ.aS (by simp -dsimp(maxSteps:=4000000) only[aA,ay,aJ,aI,au,ak,aB,aC,vF,xk,go_sem])) (AH.le_refl _) (by dsimp only;omega)
    ·rw[NZ,if_neg hk3]at et
     simp -dsimp(maxSteps:=4000000) only[hk3,ee,aA,ay,aJ,aI,au,ak,aB,aC,vF,xk,go_sem]
     exact again (i+1,Yi) _ B _ ⟨by dsimp only;omega,by dsimp only;rw[et];exact hst,by dsimp only;rw[et];exact JW,hK,hf1⟩ (bZ.aS (by simp -dsimp(maxSteps:=4000000) only[aA,ay,aJ,aI,au,ak,aB,aC,vF,xk,go_sem])) (AH.aK (AH.le_refl _) Om.2) (by dsimp only;omega)
   ·obtain rfl:i=T.length:=by omega
    rw[List.take_length]at hst JW
    simp -dsimp(maxSteps:=4000000) only[hlt,aA,ay,aJ,aI,au,ak,aB,aC,go_sem]
    refine out _ _ _ (by simp) ?_
    simp -dsimp(maxSteps:=4000000) only[aA,ay,aJ,aI,au,ak,aB,aC,go_sem]
    exact⟨B,AH.le_refl _,bo,_,Yi,rfl,hfin.1,JW,by rw[←hfin.2];exact hst,hK,hf1⟩
  case' refine_2=>
   obtain⟨hmem,hnb⟩:=Rnd.GU (cl:=cl) he
   obtain⟨hek,hev⟩:=hge e hmem
   have ahq:e.key=.agg #[.int .i64 (gf e).p.1,.int .i64 (gf e).p.2]:=hek
   have hgm:gf e∈G:=by rw[←hgf];exact List.mem_map_of_mem hmem
   have nbi:∀ b',b'=bi→¬ ∃ g∈G,∃ a,g.base=some a∧a.block=b':=by
    rintro b' e ⟨g,hg,a,ha,rfl⟩
    obtain⟨_,_,_,hc⟩:=hG.cells hg ha
    rw[e,hi]at hc;cases hc
   simp -dsimp(maxSteps:=4000000) only[aA,ay,aJ,aI,au,ak,aB,aC,go_sem]
   refine ENT.map (by rw[dw,if_pos rfl]) (by rw[dw,if_neg (Ne.symm nig)];exact hbg) hR.ok hmem ?_
   rw[ahq,hev]
   obtain⟨A1,hA1⟩:∃ A1,A.set bi (.obj (.mapIter (some bg) cl ((D++[e]).map (·.born)).toArray cl))=A1:=⟨_,rfl⟩
   have k1:Keep A A1 (·=bi):=hA1▸Keep.set
   have hi1:A1.find bi=some (.obj (.mapIter (some bg) cl ((D++[e]).map (·.born)).toArray cl)):=by rw[←hA1,dw,if_pos rfl]
   have ZW:=k1.find (fun h=>nig h.symm) hbg
   have JX:=k1.find (fun h=>nil_ h.symm) hbl
   have hG1:=hG.keep k1 nbi
   have hK1:Keep A0 A1 MH:=hK.then k1 fun x e=>.inr (e▸f0i)
   have hst1:=hst.keep k1 fun x hx e=>nif (e▸hx)
   rw[hA1]
   clear hA1 k1 hi hbg hbl hG hK hst
   obtain⟨XD,hXD⟩:∃ XD,(D.map fun e=>(gf e).p).foldl (gu T hd) X0=XD:=⟨_,rfl⟩
   have JY:((D++[e]).map fun e=>(gf e).p).foldl (gu T hd) X0=gu T hd XD (gf e).p:=by
    rw[List.map_append,List.foldl_append,hXD];rfl
   rw[hXD]at hst1 JW
   have ZX:=JQ (T:=T) hr JW (gf e).p
   have hRD:=hR.step he
   have ahs:=Rnd.less he
   have Yp:=(hG1.eq _ hgm).2
   have hgs:=(hG1.own _ hgm).slc
   obtain⟨ge,hge'⟩:∃ ge,gf e=ge:=⟨_,rfl⟩
   rw[hge']at Yp hgs JY ZX hgm ⊢
   obtain⟨⟨pf,pr⟩,adi,aht,gL⟩:=ge
   dsimp only at Yp hgs JY ZX ⊢
   simp -dsimp(maxSteps:=4000000) only[aA,ay,aJ,aI,au,ak,aB,aC,go_sem]
   refine bY.mk fun b15 oL=>?_;have dX:=oL;(try simp only[ah,aj,ne_eq]at dX);have fD:=dX;(try simp only[@eq_comm Nat b15]at fD);simp -dsimp(maxSteps:=4000000) only[aA,ay,aJ,aI,au,ak,aB,aC,dX,fD,go_sem]
   have hst2:=hst1.keep (Keep.add oL (k:=.cells [.int .i64 pf,.int .i64 pr] 133 2) (ex:=fun _=>False)) fun _ _ h=>h
   refine(Jr hst2 JW pf pr).mono ?_;rintro _ _ ⟨rfl,rfl⟩
   clear hst2
   have n15:¬ bl=b15:=fun e=>oL.cO JX e.symm
   have TN:(left en (D++[e])).length<(left en D).length:=ahs
   cases hgw:iJ XD pf pr with
   |none=>
    have hsp:gu T hd XD (pf,pr)=XD:=by rw[gu];dsimp only;rw[hgw]
    unfold uV
    simp -dsimp(maxSteps:=4000000) only[aA,ay,aJ,aI,au,ak,aB,aC,dX,fD,go_sem]
    refine bY.mk fun b17 tX=>?_;have dU:=tX;(try simp only[ah,aj,ne_eq]at dU);have fC:=dU;(try simp only[@eq_comm Nat b17]at fC);simp -dsimp(maxSteps:=4000000) only[aA,ay,aJ,aI,au,ak,aB,aC,dX,fD,dU,fC,go_sem]
    have n17:¬ bl=b17:=fun e=>dU.2.cO JX e.symm
    refine YM.map (k:=(pf,pr)) BJ Hr (by rw[dh,if_neg n17,dh,if_neg n15];exact JX) ?_
    rw[FU]
    have fin:∀ fr',(bZ [(62,.pointer (some ⟨bi,0,none⟩)),(7,.pointer (some ⟨bo,0,none⟩)),(8,.map (some bl)),(2,.map tm),(1,.slice bt T.length ct)] fr')→Q .normal fr' ((A1.add b15 (.cells [.int .i64 pf,.int .i64 pr] 133 2)).add b17 (.cells (enc zr) 76 4)):=fun fr' hfr=>
     again (D++[e]) _ A1 _ ⟨hRD,hi1,ZW,JX,hG1,hK1,by rw[JY,hsp];exact hst1,by rw[JY,hsp];exact JW⟩ hfr (AH.aK (AH.aK (AH.le_refl _) oL.2) (by simp only[ah,ne_eq,dU,not_false_eq_true,and_self]:aG _ b17).2) TN
    by_cases hlo:(pf,pr)∈Lo
    ·rw[decide_eq_true hlo]
     simp -dsimp(maxSteps:=4000000) only[aA,ay,aJ,aI,au,ak,aB,aC,dX,fD,dU,fC,go_sem]
     exact fin _ (bZ.aS (by simp -dsimp(maxSteps:=4000000) only[aA,ay,aJ,aI,au,ak,aB,aC,dX,fD,dU,fC,go_sem]))
    ·rw[decide_eq_false hlo]
     simp -dsimp(maxSteps:=4000000) only[aA,ay,aJ,aI,au,ak,aB,aC,dX,fD,dU,fC,go_sem]
     exact fin _ (bZ.aS (by simp -dsimp(maxSteps:=4000000) only[aA,ay,aJ,aI,au,ak,aB,aC,dX,fD,dU,fC,go_sem]))
   |some v=>
    unfold uV
    simp -dsimp(maxSteps:=4000000) only[aA,ay,aJ,aI,au,ak,aB,aC,dX,fD,go_sem]
    refine bY.mk fun b17 tX=>?_;have dU:=tX;(try simp only[ah,aj,ne_eq]at dU);have fC:=dU;(try simp only[@eq_comm Nat b17]at fC);simp -dsimp(maxSteps:=4000000) only[aA,ay,aJ,aI,au,ak,aB,aC,dX,fD,dU,fC,go_sem]
    have n17:¬ bl=b17:=fun e=>dU.2.cO JX e.symm
    refine YM.map (k:=(pf,pr)) BJ Hr (by rw[dh,if_neg n17,dh,if_neg n15];exact JX) ?_
    rw[FU]
    by_cases hlo:(pf,pr)∈Lo
    ·have hsp:gu T hd XD (pf,pr)=XD:=by
      rw[gu];dsimp only;rw[hgw];dsimp only
      rw[if_neg]
      rw[Oi hL];exact fun h=>h hlo
     rw[decide_eq_true hlo]
     simp -dsimp(maxSteps:=4000000) only[aA,ay,aJ,aI,au,ak,aB,aC,dX,fD,dU,fC,go_sem]
     exact again (D++[e]) _ A1 _ ⟨hRD,hi1,ZW,JX,hG1,hK1,by rw[JY,hsp];exact hst1,by rw[JY,hsp];exact JW⟩ (bZ.aS (by simp -dsimp(maxSteps:=4000000) only[aA,ay,aJ,aI,au,ak,aB,aC,dX,fD,dU,fC,go_sem])) (AH.aK (AH.aK (AH.le_refl _) oL.2) (by simp only[ah,ne_eq,dU,not_false_eq_true,and_self]:aG _ b17).2) TN
    ·have hsp:gu T hd XD (pf,pr)=jk XD pf pr (gL.foldl (lH hd) v):=by
      rw[gu];dsimp only;rw[hgw];dsimp only
      rw[if_pos ((Oi hL _).2 hlo),Yp]
     rw[decide_eq_false hlo]
     simp -dsimp(maxSteps:=4000000) only[aA,ay,aJ,aI,au,ak,aB,aC,dX,fD,dU,fC,go_sem]
     have ahu:Keep H A1 fun _=>False:=hK0.ow hK1 hf0
     have ahv:=hH.keep ahu fun _ _ h=>h
     have hgb:=hgs.big
     simp only[List.length_map]at hgb
     refine fZ.gQ (ι:=Nat) (fun j=>j≤gL.length) (fun j=>[(86,.int .i64 j),(85,.int .i64 gL.length),(84,.slice adi gL.length aht),(15,.pointer (some ⟨b15,0,none⟩)),(17,.pointer (some ⟨b17,0,none⟩)),(62,.pointer (some ⟨bi,0,none⟩)),(7,.pointer (some ⟨bo,0,none⟩)),(8,.map (some bl)),(2,.map tm),(1,.slice bt T.length ct)])
      (fun j=>(A1.add b15 (.cells [.int .i64 pf,.int .i64 pr] 133 2)).add b17 (.cells (enc ((gL.take j).foldl (lH hd) v)) 76 4)) (fun j=>gL.length - j) 0 (by omega) (bZ.aS ?_) (AH.le_refl _) fun j hj Q2 gI mG=>?_
     ·simp -dsimp(maxSteps:=4000000) only[aA,ay,aJ,aI,au,ak,aB,aC,dX,fD,dU,fC,go_sem]
     by_cases hjl:(j:Int)<gL.length
     ·obtain⟨y,hy⟩:=get_some (l:=gL) (i:=j) (by omega)
      obtain⟨q3,o3,rfl,hr3,_⟩:=hgs.get (Go.AX.dn (f:=gG) hy)
      have hyT:y∈T∧y.1=2:=by
       have:=List.mem_of_getElem? hy
       rw[Yp]at this
       obtain⟨h1,h2⟩:=List.mem_filter.1 this
       simp only[Au,Bool.and_eq_true,decide_eq_true_eq]at h2
       exact⟨h1,h2.1⟩
      have hyb:=hB y hyT.1 hyT.2
      have ee:=dA (i:=j) (by omega)
      have hj0:(0:Int)≤(j:Int):=by omega
      have hstp:(gL.take (j+1)).foldl (lH hd) v=lH hd ((gL.take j).foldl (lH hd) v) y:=by
       rw[List.take_add_one,hy,List.foldl_append];rfl
      have m15:¬ b15=q3:=oL.iP hr3
      have m17:¬ b17=q3:=dU.2.iP hr3
      obtain⟨y0,y1,y2,y3,y4⟩:=y
      dsimp only at hyb
      obtain⟨m,rfl⟩:∃ m:Nat,y4=m:=⟨y4.toNat,by omega⟩
      have eE:gG (y0,y1,y2,y3,(m:Int))=[.int .i64 y0,.int .i64 y1,.int .i64 y2,.int .i64 y3,.int .i64 (m:Int)]:=rfl
      rw[eE]at hr3
      have hm0:(0:Int)≤(m:Int):=by omega
      have hm4:(m:Int)<4:=by omega
      have hm3:m≤3:=by omega
      obtain⟨w,hw⟩:∃ w,(gL.take j).foldl (lH hd) v=w:=⟨_,rfl⟩
      rw[hw]at hstp ⊢
      simp -dsimp(maxSteps:=4000000) only[hjl,hj0,hr3,m15,m17,aA,ay,aJ,aI,au,ak,aB,aC,dX,fD,dU,fC,go_sem]
      refine bY.mk fun b20 adk=>?_;have xq:=adk;(try simp only[ah,aj,ne_eq]at xq);have Hu:=xq;(try simp only[@eq_comm Nat b20]at Hu);simp -dsimp(maxSteps:=4000000) only[aA,ay,aJ,aI,au,ak,aB,aC,dX,fD,dU,fC,xq,Hu,go_sem]
      have hl:=fun k15 k17 k20 i k=>ZN (H:=((A1.add b15 k15).add b17 k17).add b20 k20) (ahv.keep (((Keep.refl.nw oL).nw (by simp only[ah,ne_eq,dU,not_false_eq_true,and_self])).nw (by simp only[ah,ne_eq,xq,not_false_eq_true,and_self])) (ex:=fun _=>False) fun _ _ h=>h) i k
      have hse:(enc w).set m (.int .u8 ((hd y1).getD 0))=enc ((gL.take (j+1)).foldl (lH hd) v):=by rw[JR w _ m hm3,hstp];rfl
      simp -dsimp(maxSteps:=4000000) only[hl,hm0,hm4,hm3,hse,ee,aA,ay,aJ,aI,au,ak,aB,aC,dX,fD,dU,fC,xq,Hu,go_sem]
      exact gI (j+1) _ _ (by omega) (bZ.aS (by simp -dsimp(maxSteps:=4000000) only[aA,ay,aJ,aI,au,ak,aB,aC,dX,fD,dU,fC,xq,Hu,go_sem])) (AH.aK (AH.le_refl _) (by simp only[ah,aj,ne_eq,xq,not_false_eq_true,and_self]:aG _ b20).2) (by omega)
     ·obtain rfl:j=gL.length:=by omega
      rw[List.take_length]
      obtain⟨w,hw⟩:∃ w,gL.foldl (lH hd) v=w:=⟨_,rfl⟩
      rw[hw]at hsp ⊢
      simp -dsimp(maxSteps:=4000000) only[hjl,aA,ay,aJ,aI,au,ak,aB,aC,dX,fD,dU,fC,go_sem]
      refine mG _ _ _ (by simp) ?_
      simp -dsimp(maxSteps:=4000000) only[aA,ay,aJ,aI,au,ak,aB,aC,dX,fD,dU,fC,go_sem]
      have kc:Keep A1 ((A1.add b15 (.cells [.int .i64 pf,.int .i64 pr] 133 2)).add b17 (.cells (enc w) 76 4)) fun _=>False:=(Keep.refl.nw oL).nw (by simp only[ah,ne_eq,dU,not_false_eq_true,and_self])
      have hset:=acI (hst1.keep kc fun _ _ h=>h) JW pf pr w
      refine hset.mono ?_
      rintro _ A2 ⟨rfl,hst2,hKs⟩
      have k12:Keep A1 A2 MH:=(kc.mono fun _ h=>h.elim).trans hKs
      have nbf:∀ b',MH b'→¬ ∃ g∈G,∃ a,g.base=some a∧a.block=b':=by
       rintro b' hb' ⟨g,hg,a,ha,rfl⟩
       exact hs0.fresh (hG1.base hg ha).2 hb'
      simp -dsimp(maxSteps:=4000000) only[aA,ay,aJ,aI,au,ak,aB,aC,dX,fD,dU,fC,go_sem]
      exact again (D++[e]) _ A2 _ ⟨hRD,k12.find nif hi1,k12.find ngf ZW,k12.find nlf JX,hG1.keep k12 nbf,hK1.trans k12,by rw[JY,hsp];exact hst2,JY▸ZX⟩ (bZ.aS (by simp -dsimp(maxSteps:=4000000) only[aA,ay,aJ,aI,au,ak,aB,aC,dX,fD,dU,fC,go_sem])) (AH.le_refl _) TN
end Go.Proofs.YtbhamhhjicehaaaGreatDoor.jh
/- part: the reference's Copy. -/
namespace Go.Proofs.YtbhamhhjicehaaaGreatDoor.jh
open Go Go.AX Go.Proofs Ty Go.Proofs.YtbhamhhjicehaaaGreatDoor.File Go.Proofs.YtbhamhhjicehaaaGreatDoor.mF Go.Proofs.YtbhamhhjicehaaaGreatDoor.Err
open Go.Proofs.YtbhamhhjicehaaaGreatDoor.pF (gG aA ay aJ aI)
theorem wC {H:AH} {b:Nat} {Z:List RF} {den:Int} {rd:Nat→Prop} (h:jU H b Z den rd) (hX:lG (Z.map RF.nf)) :
  aO Tryz.prog 39 #[.pointer (some ⟨b,0,none⟩)] H (fun u H'=>∃ b' rd',u=.pointer (some ⟨b',0,none⟩)∧jU H' b' Z den rd'∧(Keep H H' fun _=>False)∧aG H b'∧∀ x,rd' x→rd x∨aG H x):=by
 obtain⟨zb,zc,ht,hZ,hnb,hzb,hk⟩:=id h
 have Yk:Z.length≤64:=by have:=hX.len;simpa using this
 have r0:H.rd ⟨b,0,none⟩=some (.slice zb Z.length zc):=by rw[gB ht];rfl
 have r1:H.rd ⟨b,1,none⟩=some (.int .i64 den):=by rw[gB ht];rfl
 refine aO.cu Tryz.func39 rfl Tryz.ntmps39 Tryz.results39 (by simp) ?_;simp -dsimp(maxSteps:=4000000) only[go_sem]
 refine fZ.gen [.al,.pu,.pu,.pu,.rd,.ch,.pu,.pu,.pu,.rd,.pu,.al,.pu] [0,0,2,6,14,31,0,64,192,448,1023,2047,4095] 6 (_) mixed (by kernel_rfl) (AH.le_refl _) ?_
 simp -dsimp(maxSteps:=4000000) only[r0,r1,go_sem]
 refine bY.mk fun bl iR=>?_
 have kl:Keep H (H.add bl (.cells [] 67 0)) fun _=>False:=Keep.add iR
 simp -dsimp(maxSteps:=4000000) only[r0,r1,go_sem]
 refine lS.growS (H0:=H) (m:=Z.length) (R:=[]) (R':=Z.map gK) (fJ.new iR (AH.le_refl _) rfl rfl rfl (by simp) (by simp)) kl.all Ak rfl (by decide) (by decide) (by rw[Tryz.underlying46];rfl) rfl (by simp) (hZ.keep kl fun _ _ h=>h).out (qR Z) (JJ Z) (by omega) fun base' cap' A kJ hK' hN'=>?_
 refine⟨A,AH.le_refl _,?_⟩
 rw[List.nil_append]at kJ
 rw[Nat.zero_add]
 have kA:Keep H A fun _=>False:=kl.ow hK' fun b ⟨a,ha,e⟩=>by cases ha;exact e▸iR
 simp -dsimp(maxSteps:=4000000) only[r0,r1,go_sem]
 refine⟨kA.all,bY.mk fun bc SS=>?_⟩
 have hcl:∀ x,GI base' x→(∃ k,A.find x=some k)∧aG H x:=fun x ⟨a,ha,e⟩=>by
  rcases kJ.at_ with ⟨h1,_⟩ | ⟨b2,bs,h1,h2,_,h3⟩
  ·rw[ha]at h1;cases h1
  ·rw[ha]at h1;cases h1;subst e;exact⟨⟨_,h2⟩,h3⟩
 have kc:Keep A (A.add bc (.cells [.slice base' Z.length cap',.int .i64 den] 50 2)) fun _=>False:=Keep.add SS
 have hfr:=kA.fr SS
 have ahw:jU (A.add bc (.cells [.slice base' Z.length cap',.int .i64 den] 50 2)) bc Z den (fun x=>GI base' x∨rd x):=by
  refine⟨base',cap',aH _ _ _,⟨kJ.slc.keep kc fun _ _ h=>h,fun z hz=>((hZ.inn z hz).keep kA fun _ _ h=>h).keep kc fun _ _ h=>h,.inr fun a ha=>.inl ⟨a,ha,rfl⟩,fun z hz=>(hZ.r2 z hz).imp id fun h a ha=>.inr (h a ha)⟩,?_,?_,?_⟩
  ·rintro(hx | hx)
   ·obtain⟨⟨k,hk'⟩,_⟩:=hcl _ hx
    exact SS.cO hk' rfl
   ·exact hk _ hx hfr
  ·rcases kJ.at_ with ⟨h1,h2,h3⟩ | ⟨b2,bs,h1,_⟩
   ·exact .inl ⟨h1,List.map_eq_nil_iff.1 h2,h3⟩
   ·exact .inr ⟨_,_,h1⟩
  ·rintro x (hx | hx) hf
   ·obtain⟨⟨k,hk'⟩,_⟩:=hcl _ hx
    exact hf.cO (kc.find (fun h=>h) hk') rfl
   ·exact hk _ hx ((kA.trans kc).fr hf)
 simp -dsimp(maxSteps:=4000000) only[go_sem]
 exact⟨_,AH.le_refl _,bc,_,rfl,ahw,kA.trans kc,hfr,fun x hx=>hx.elim (fun h=>.inr (hcl x h).2) .inl⟩
end Go.Proofs.YtbhamhhjicehaaaGreatDoor.jh
