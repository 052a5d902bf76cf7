/- Texts of mine, one behind another. -/
import Derived.Test.YtbhamhhjicehaaaGreatDoorMBusRounds1
import Derived.StillTail
import Derived.Deep.Quiet
import Derived.Test.YtbhamhhjicehaaaGreatDoorProg
import Derived.KernelRfl
set_option linter.unusedSimpArgs false
set_option linter.unusedVariables false
set_option maxHeartbeats 4000000
set_option maxRecDepth 10000
/- A region that draws its order: first operations that read, and calls that leave what is known alone, in whatever order; then operations whose order is fixed, which may write. -/
namespace Go.AX
open Go Go.RowKit
section
variable {P:Program} {ops:Array Oper} {md:Region.Mode} {C:World→Prop}
def hq (P:Program) (md:Region.Mode) (ops:Array Oper) (C:World→Prop) (n:Nat) (L:Array Bool→Act→Prop):Nat→Array Bool→Act→Prop
 |0,ls,a=>L ls a
 |f+1,ls,a=>Region.ready md ops ls≠[]∧∀ i∈Region.ready md ops ls,i<n∧qOp P ops C i (hq P md ops C n L f (ls.setIfInBounds i true)) a
theorem Y2 {n g:Nat} {L:Array Bool→Act→Prop} {Q:Exit→Act→World→Prop} (hL:∀ ls a w,C w→L ls a→wpAny P md ops Q g ls a w) (f:Nat) :
  ∀ ls a w,C w→hq P md ops C n L f ls a→wpAny P md ops Q (f+g) ls a w:=by
 induction f with
 |zero=>intro ls a w hw h;rw[Nat.zero_add];exact hL ls a w hw h
 |succ f ih=>
  intro ls a w hw h
  rw[show f+1+g=f+g+1 from by omega]
  exact⟨fun h0=>absurd h0 h.1,fun i hi=>wpOp_of_qOp hw (fun a' w' hw' h'=>ih _ a' w' hw' h') (h.2 i hi).2⟩
theorem Rh {n i:Nat} {oi:Oper} {v:Value} {L:Array Bool→Act→Prop} (hi:ops[i]?=some oi) (hsel:∀ (j:Nat) (o:Oper) cs b,ops[j]?=some o→o.op≠.select cs b)
  (hs:Region.sinkB md ops n=true) (hc:Region.chainB md ops n=true) (hn:n<ops.size) (hin:i<n)
  (hdone:∀ ls a,L ls a→∀ j∈Region.ready md ops ls,n≤j) (f:Nat) :
  ∀ (ls:Array Bool) (a:Act),HeadInv md ops n ls→
   (∀ j oj,ops[j]?=some oj→j≠i→ls.getD j true=false→(∀ e∈oj.after,Region.binds md e=true→e.on≠i)→oi.apart ops oj=true)→
   i∈Region.ready md ops ls→YieldsIn P ops C oi v a→hq P md ops C n L f (ls.setIfInBounds i true) (a.put oi.dst v)→hq P md ops C n L (f+1) ls a:=by
 have low:∀ ls,HeadInv md ops n ls→i∈Region.ready md ops ls→∀ j∈Region.ready md ops ls,j<n:=fun ls inv hr j hj=>by
  rcases Nat.lt_or_ge j n with h | h
  ·exact h
  ·exact absurd hj (tail_waits hs hc hn inv _ i rfl hin (mem_ready.1 hr).1 j h)
 induction f with
 |zero=>
  intro ls a inv _ hr hy h
  refine⟨List.ne_nil_of_mem hr,fun j hj=>⟨low ls inv hr j hj,?_⟩⟩
  by_cases e:j=i
  ·subst e;exact hy.qOp hi h
  ·have h1:=hdone _ _ h j (ready_mono hj e)
   have h2:=low ls inv hr j hj
   omega
 |succ f ih=>
  intro ls a inv hfree hr hy h
  refine⟨List.ne_nil_of_mem hr,fun j hj=>⟨low ls inv hr j hj,?_⟩⟩
  by_cases e:j=i
  ·subst e;exact hy.qOp hi h
  ·obtain⟨hjun,oj,hoj,hall⟩:=mem_ready.1 hj
   have hno:∀ e∈oj.after,Region.binds md e=true→e.on≠i:=fun e he hb heq=>by
    have h1:=hall e he hb
    rw[heq,getD_both (mem_ready.1 hr).1]at h1
    cases h1
   refine qOp_mono (fun a' h3=>?_) (qOp_put hoj (hfree j oj hoj e hjun hno) (fun cs b=>hsel i oi cs b hi) (fun cs b=>hsel j oj cs b hoj) hy (h.2 j (ready_mono hj e)).2)
   refine ih _ a' (inv.set hj (low ls inv hr j hj)) (fun k ok hk hki hun hno'=>hfree k ok hk hki ?_ hno') (ready_mono hr (Ne.symm e)) h3.1 (by rw[Array.setIfInBounds_comm _ _ e];exact h3.2)
   by_cases hjk:j=k
   ·subst hjk;exact hjun
   ·rw[getD_set_ne true hjk]at hun;exact hun
theorem Y3 {n g:Nat} {K:Act→Prop} (hsel:Region.noSelect ops=true) (hs:Region.sinkB md ops n=true) (hc:Region.chainB md ops n=true) (hn:n<ops.size) (l:List Oper) :
  ∀ (k:Nat) (ls:Array Bool) (a:Act),(∀ j,j<l.length→l[j]?=ops[k+j]?)→k+l.length=n→HeadInv md ops n ls→Region.lexHead md ops g l.length k ls=true→wpQuiet P ops C K l a→
  hq P md ops C n (fun ls' a'=>Region.seqB md ops g n ls'=true∧K a') l.length ls a:=by
 induction l with
 |nil=>
  intro k ls a _ hk _ hB h
  have:k=n:=by simpa using hk
  subst this
  exact⟨by simpa [Region.lexHead]using hB,h⟩
 |cons o l ih=>
  intro k ls a hl hk inv hB h
  have h0:ops[k]?=some o:=by simpa using (hl 0 (by simp)).symm
  simp only[List.length_cons,Region.lexHead,Bool.and_eq_true]at hB
  obtain⟨⟨hr,hf⟩,hB'⟩:=hB
  simp only[List.length_cons]at hk
  have hr':k∈Region.ready md ops ls:=by simpa using hr
  obtain⟨v,hy,hK⟩:=yieldsIn_of_qOp h0 (show qOp P ops C k (wpQuiet P ops C K l) a by unfold qOp;simp only[h0];exact h)
  exact Rh h0 (Region.noSelect_spec hsel) hs hc hn (by omega) (fun ls' a' hL=>seqB_ready hL.1) l.length ls a inv (Region.free_spec h0 hf) hr' hy
   (ih (k+1) _ _ (fun j hj=>by have:=hl (j+1) (by simp;omega);simpa [Nat.add_assoc,Nat.add_comm 1 j]using this) (by omega) (inv.set hr' (by omega)) hB' hK)
theorem xY {id:Nat} {Q:Exit→Act→World→Prop} {a:Act} {w:World} {l:List Oper} (n:Nat) (hm:P.follows .mixedOrders=true) (hB:Region.lexTailB .any l.toArray n=true) (hC:C { w with drawn:=w.drawn+1 })
  (h:wpQuiet P l.toArray C (fun a'=>∀ w',C w'→wpList P l.toArray Q (l.drop n) a' w') (l.take n) a):(Code.region id l.toArray true).wp P Q a w:=by
 simp only[Region.lexTailB,Bool.and_eq_true,decide_eq_true_eq]at hB
 obtain⟨⟨⟨⟨hsel,hn⟩,hs⟩,hc⟩,hlex⟩:=hB
 have hn':n<l.length:=by simpa using hn
 have htl:(l.take n).length=n:=by simp;omega
 have hdl:(l.drop n).length=l.toArray.size - n:=by simp
 have inv0:HeadInv .any l.toArray n (Array.replicate l.toArray.size false):=
  ⟨by simp,fun j oj _ hl=>(by rw[getD_replicate_false]at hl;cases hl),fun t _ ht=>getD_in (by simpa using ht) (getD_replicate_false _ _)⟩
 have h2:=Y3 (md:=.any) (g:=l.toArray.size - n) hsel hs hc hn (l.take n) 0 _ a (fun j hj=>by
  have hj':j<n:=by rw[htl]at hj;exact hj
  simp[hj']) (by simpa using htl) inv0 (by rw[htl];exact hlex) h
 have h3:=Y2 (Q:=Q) (g:=l.toArray.size - n) (fun ls a' w' hw' hL=>by
  have:=wpAny_of_seq (md:=.any) (Q':=Q) (l.drop n) n ls a' w' (fun j=>by simp[List.getElem?_drop]) (by rw[hdl];exact hL.1) (hL.2 w' hw')
  rwa [hdl]at this) _ _ _ _ hC h2
 refine wp_region_any hm ?_
 rw[htl,show n+(l.toArray.size - n)=l.toArray.size from by simp;omega]at h3
 exact h3
end
theorem fZ.tail {P:Program} {n:Nat} {id:Nat} {l:List Oper} {Q:Exit→Fr→AH→Prop} {fr:Fr} {H:AH} (k:Nat) (hm:P.follows .mixedOrders=true) (hB:Region.lexTailB .any l.toArray k=true)
  (h:nd (l.map (·.dst)) fun ds=>fG true P n ds (l.take k) fr H fun fr H=>fG false P n ds (l.drop k) fr H (Q .normal)):fZ P n (.region id l.toArray true) Q fr H:=by
 intro E a w hf hs
 refine xY (C:=Sat E H) k hm hB hs.drew ?_
 have h':fG true P n (l.toArray.toList.map (·.dst)) (l.take k) fr H fun fr H=>fG false P n (l.toArray.toList.map (·.dst)) (l.drop k) fr H (Q .normal):=h
 exact lY (K:=fun fr H=>fG false P n (l.toArray.toList.map (·.dst)) (l.drop k) fr H (Q .normal)) (fun fr' a' h1 h2 w' hs'=>
  rX (Q:=AQ E n Q) (fun fr H a w h1 h2 h3=>⟨fr,H,h1,h2,h3⟩) _ _ _ _ _ (jK _ _ _ h2) h1 hs') _ _ _ (jK _ _ _ h') hf
end Go.AX
/- Plain facts: whole numbers of a width, rows that a loop fills from left to right. -/
namespace Go.AX
open Go Go.RowKit
theorem IV {c:Int} (h0:0≤c) (h1:c<256):IntKind.u8.wrap c=c:=by rw[IntKind.wrap_u8];omega
theorem Ri {c:Int} (h0:0≤c) (h1:c<18446744073709551616):IntKind.u64.wrap c=c:=by rw[IntKind.wrap_u64];omega
theorem eH {c:Int} (h0 : -9223372036854775808≤c) (h1:c<9223372036854775808):IntKind.i64.wrap c=c:=by rw[IntKind.wrap_i64];omega
theorem dA {i:Nat} (h:i<9223372036854775807):IntKind.i64.wrap ((i:Int)+1)=((i+1:Nat):Int):=by rw[eH (by omega) (by omega)];omega
theorem Rj (x:Int):jf .and .i64 x 1=x % 2:=by
 have h:(BitVec.ofInt 64 x &&& BitVec.ofInt 64 1).toNat=(x % 18446744073709551616).toNat % 2:=by
  rw[BitVec.toNat_and,BitVec.toNat_ofInt,BitVec.toNat_ofInt]
  exact Nat.and_one_is_mod _
 show IntKind.i64.wrap ((BitVec.ofInt 64 x &&& BitVec.ofInt 64 1).toNat:Int)=_
 rw[h,eH (by omega) (by omega)]
 omega
theorem VQ (x:Int):jf .and .u8 x 1=x % 2:=by
 have h:(BitVec.ofInt 8 x &&& BitVec.ofInt 8 1).toNat=(x % 256).toNat % 2:=by
  rw[BitVec.toNat_and,BitVec.toNat_ofInt,BitVec.toNat_ofInt]
  exact Nat.and_one_is_mod _
 show IntKind.u8.wrap ((BitVec.ofInt 8 x &&& BitVec.ofInt 8 1).toNat:Int)=_
 rw[h,IV (by omega) (by omega)]
 omega
theorem fdiv_pow (x:Int) (i:Nat):x.fdiv (2 ^ i)=x / 2 ^ i:=Int.fdiv_eq_ediv_of_nonneg _ (by exact Int.le_of_lt (Int.pow_pos (by decide)))
theorem aO.cu {P:Program} {f:FuncId} {fn:Func} {c:Code} {n:Nat} {rs:List ResultVar} {args:Array Value} {H:AH} {K:Value→AH→Prop} (hf:P.funcs[f]?=some fn) (hb:fn.body=some c) (hnt:fn.ntmps=n) (hr:fn.results=rs.toArray)
  (hn:args.size≤n) (h:xW P n c (Vz P rs K) (vT 0 args.toList) H):aO P f args H K:=by
 subst hnt
 exact aO.enter hf hb hn (by rw[hr];exact h)
theorem fZ.gQ {P:Program} {n:Nat} {c:Code} {Q:Exit→Fr→AH→Prop} {fr:Fr} {H:AH} {ι:Type} (V:ι→Prop) (F:ι→Fr) (G:ι→AH) (μ:ι→Nat) (i0:ι)
  (hv:V i0) (hf:bZ (F i0) fr) (hh:(G i0).le H)
  (round:∀ i,V i→∀ Q':Exit→Fr→AH→Prop,(∀ i' fr H,V i'→bZ (F i') fr→(G i').le H→μ i'<μ i→Q' .normal fr H)→(∀ e fr H,e≠.normal→Q e fr H→Q' e fr H)→
   xW P n c Q' (F i) (G i)):fZ P n (.loop c) Q fr H:=
 fZ.QI V F G μ i0 hv hf hh fun i hi=>round i hi _ (fun i' _ _ h1 h2 h3 h4=>sG i' h1 h2 h3 h4) (fun e _ _ he hq=>by cases e<;>first | exact absurd rfl he | exact hq)
section
variable {P:Program} {H:AH} {t e n:Nat} {x y:Operand} {kk:Value→Prop} {u:Option TypeDesc}
end
theorem Y4 {s T:ByteArray} {i:Nat} {k:UInt8→Prop} (h:s=T) (hk:wo T[i]? k):wo s[i]? k:=h▸hk
section
variable {α β:Type}
def mV (l:List α) (f g:Nat→α→β) (i:Nat):List β:=l.mapIdx fun j x=>if j<i then f j x else g j x
variable {l:List α} {f g:Nat→α→β} {i:Nat}
theorem vV:(mV l f g i).length=l.length:=by simp[mV]
theorem Px:(mV l f g i)[i]?=(l[i]?).map (g i):=by simp[mV]
theorem rH {x:α} (h:l[i]?=some x):(mV l f g i).set i (f i x)=mV l f g (i+1):=by
 apply List.ext_getElem?
 intro j
 by_cases hj:i=j
 ·subst hj
  have hl:i<l.length:=by
   rcases Nat.lt_or_ge i l.length with h' | h'
   ·exact h'
   ·rw[List.getElem?_eq_none h']at h;cases h
  have h':l[i]=x:=by rw[List.getElem?_eq_getElem hl]at h;exact Option.some.inj h
  simp[mV,List.getElem?_set,hl,h']
 ·simp only[List.getElem?_set_ne hj,mV,List.getElem?_mapIdx]
  congr 1;funext x
  by_cases h1:j<i
  ·simp[h1,show j<i+1 from by omega]
  ·simp[h1,show ¬ j<i+1 from by omega]
theorem EL {f:Nat→α→α}:mV l f (fun _ x=>x) 0=l:=by
 apply List.ext_getElem?;intro j;simp[mV]
theorem zC {c:β}:mV l f (fun _ _=>c) 0=List.replicate l.length c:=by
 apply List.ext_getElem (by simp[mV]);intro n h1 h2;simp[mV]
theorem wZ (h:l.length≤i):mV l f g i=l.mapIdx f:=by
 apply List.ext_getElem?
 intro j
 simp only[mV,List.getElem?_mapIdx]
 rcases Nat.lt_or_ge j l.length with h1 | h1
 ·simp[show j<i from by omega]
 ·rw[List.getElem?_eq_none h1];rfl
theorem get_some {l:List α} {i:Nat} (h:i<l.length):∃ x,l[i]?=some x:=⟨l[i],List.getElem?_eq_getElem h⟩
end
end Go.AX
/- Slices that are given by their rows. -/
namespace Go.AX
open Go Go.RowKit
structure bG (H:AH) (sz:Nat) (base:Option Addr) (cap:Nat) (R:List (List Value)):Prop where
 le:R.length≤cap
 big:R.length<9223372036854775808
 at_:∀ i,i<R.length→∃ b o,base=some ⟨b,o,none⟩
 rd:∀ b o,base=some ⟨b,o,none⟩→∀ i j r c,R[i]?=some r→r[j]?=some c→H.rd ⟨b,o+(i*sz+j),none⟩=some c
 row:∀ b o,base=some ⟨b,o,none⟩→∀ i r,R[i]?=some r→H.row b (o+i*sz) sz=some r
theorem sH {w:World} {b:Nat}:∀ (l:List Value) (off:Nat),(∀ (j:Nat),j<l.length→w.cell? ⟨b,off+j,none⟩=l[j]?)→lN w b off l.length=some l
 | [],_,_=>rfl
 |v::l,off,h=>by
  have h0:=h 0 (by simp)
  simp at h0
  simp only[List.length_cons,lN,h0,Option.bind_some]
  rw[sH l (off+1) (fun j hj=>by
   have:=h (j+1) (by simp;omega)
   rw[show off+(j+1)=off+1+j from by omega]at this
   simpa using this)]
  rfl
theorem lZ {H:AH} {b off n:Nat} {l:List Value} (hn:n=l.length) (h0:n≠0) (h:∀ (j:Nat) (c:Value),l[j]?=some c→H.rd ⟨b,off+j,none⟩=some c):H.row b off n=some l:=by
 subst hn
 have hj:∀ j,j<l.length→H.rd ⟨b,off+j,none⟩=l[j]?:=fun j hj=>by rw[h j _ (List.getElem?_eq_getElem hj),List.getElem?_eq_getElem hj]
 unfold AH.row
 cases hf:H.find b with
 |none=>
  have hlt:b<H.w0.heap.size:=by
   have:=hj 0 (by omega)
   simp only[AH.rd,hf]at this
   split at this
   ·assumption
   ·rw[List.getElem?_eq_getElem (by omega)]at this;cases this
  simp only[hlt,if_true]
  refine sH l off fun j hj'=>?_
  have:=hj j hj'
  simp only[AH.rd,hf,hlt,if_true]at this
  exact this
 |some k=>
  cases k with
  |gW es=>
   have:=hj 0 (by omega)
   simp only[AH.rd,hf]at this
   rw[List.getElem?_eq_getElem (by omega)]at this;cases this
  |obj o=>
   have:=hj 0 (by omega)
   simp only[AH.rd,hf]at this
   rw[List.getElem?_eq_getElem (by omega)]at this;cases this
  |cells cs e sz=>
   have hc:∀ j,j<l.length→cs[off+j]?=l[j]?:=fun j hj'=>by
    have:=hj j hj'
    simpa [AH.rd,hf]using this
   have hle:off+l.length≤cs.length:=by
    have:=hc (l.length - 1) (by omega)
    rw[List.getElem?_eq_getElem (show l.length - 1<l.length by omega)]at this
    rcases Nat.lt_or_ge (off+(l.length - 1)) cs.length with h | h
    ·omega
    ·rw[List.getElem?_eq_none h]at this;cases this
   simp only
   rw[if_pos hle]
   congr 1
   apply List.ext_getElem?
   intro j
   rw[List.getElem?_take]
   split
   ·rename_i hj';rw[List.getElem?_drop];exact hc j hj'
   ·rename_i hj';rw[List.getElem?_eq_none (by omega)]
theorem aG.iP {H:AH} {b b' o n:Nat} {l:List Value} (h:aG H b) (ha:H.row b' o n=some l):b≠b':=by
 rintro rfl
 unfold AH.row at ha
 rw[h.2]at ha
 simp only at ha
 rw[if_neg (Nat.not_lt.2 h.1)]at ha
 cases ha
theorem Nz {H:AH} {b b' o:Nat} {k:iD} {v:Value} (hf:aG H b) (h:H.rd ⟨b',o,none⟩=some v):(H.add b k).rd ⟨b',o,none⟩=some v:=by
 rw[rE H (hf.jq h)];exact h
theorem xZ {H:AH} {b b' o n:Nat} {k:iD} {v:List Value} (hf:aG H b) (h:H.row b' o n=some v):(H.add b k).row b' o n=some v:=by
 rw[BQ H (hf.iP h)];exact h
theorem bG.add {H:AH} {sz:Nat} {base:Option Addr} {cap:Nat} {R:List (List Value)} {b:Nat} {k:iD} (h:bG H sz base cap R) (hf:aG H b):bG (H.add b k) sz base cap R:=
 ⟨h.le,h.big,h.at_,fun b' o hb i j r c h1 h2=>Nz hf (h.rd b' o hb i j r c h1 h2),fun b' o hb i r h1=>xZ hf (h.row b' o hb i r h1)⟩
theorem flat_get {sz:Nat}:∀ {R:List (List Value)} (_:∀ r∈R,r.length=sz) (i j:Nat) (r:List Value) (c:Value),R[i]?=some r→r[j]?=some c→R.flatten[i*sz+j]?=some c
 | [],_,_,_,_,_,h,_=>by simp at h
 |r0::R,hR,0,j,r,c,h,hc=>by
  simp at h;subst h
  have hj:j<r0.length:=by
   rcases Nat.lt_or_ge j r0.length with h | h
   ·exact h
   ·rw[List.getElem?_eq_none h]at hc;cases hc
  simp only[List.flatten_cons,Nat.zero_mul,Nat.zero_add]
  rw[List.getElem?_append_left hj];exact hc
 |r0::R,hR,i+1,j,r,c,h,hc=>by
  have h0:r0.length=sz:=hR r0 (by simp)
  simp only[List.getElem?_cons_succ]at h
  simp only[List.flatten_cons]
  rw[List.getElem?_append_right (by rw[h0,Nat.succ_mul];omega),h0,show(i+1)*sz+j - sz=i*sz+j from by rw[Nat.succ_mul];omega]
  exact flat_get (fun r hr=>hR r (by simp[hr])) i j r c h hc
theorem jS {sz:Nat}:∀ {R:List (List Value)} (_:∀ r∈R,r.length=sz),R.flatten.length=R.length*sz
 | [],_=>by simp
 |r0::R,hR=>by
  have h0:r0.length=sz:=hR r0 (by simp)
  simp only[List.flatten_cons,List.length_append,h0,List.length_cons,Nat.succ_mul,jS (fun r hr=>hR r (by simp[hr]):∀ r∈R,r.length=sz)]
  omega
theorem CG {sz:Nat}:∀ {R:List (List Value)} (_:∀ r∈R,r.length=sz) (i:Nat) (r:List Value),R[i]?=some r→(R.flatten.drop (i*sz)).take sz=r
 | [],_,_,_,h=>by simp at h
 |r0::R,hR,0,r,h=>by
  have h0:r0.length=sz:=hR r0 (by simp)
  simp at h;subst h
  simp[←h0]
 |r0::R,hR,i+1,r,h=>by
  have h0:r0.length=sz:=hR r0 (by simp)
  simp only[List.getElem?_cons_succ]at h
  simp only[List.flatten_cons]
  rw[List.drop_append,List.drop_eq_nil_of_le (by rw[h0,Nat.succ_mul];omega),List.nil_append,h0,show(i+1)*sz - sz=i*sz from by rw[Nat.succ_mul];omega]
  exact CG (fun r hr=>hR r (by simp[hr])) i r h
theorem bG.own {H:AH} {sz:Nat} {cap e m b:Nat} {R:List (List Value)} (hR:∀ r∈R,r.length=sz) (hl:R.length≤cap) (hb:R.length<9223372036854775808):bG (H.add b (.cells R.flatten e m)) sz (some ⟨b,0,none⟩) cap R:=
 ⟨hl,hb,fun _ _=>⟨b,0,rfl⟩,
 fun b' o h i j r c h1 h2=>by
  cases h
  rw[gZ,Nat.zero_add];exact flat_get hR i j r c h1 h2,
 fun b' o h i r h1=>by
  cases h
  have hi:i<R.length:=by
   rcases Nat.lt_or_ge i R.length with h | h
   ·exact h
   ·rw[List.getElem?_eq_none h]at h1;cases h1
  have:(i+1)*sz≤R.length*sz:=Nat.mul_le_mul_right _ (by omega)
  rw[fO,Nat.zero_add,if_pos (by rw[jS hR];rw[Nat.succ_mul]at this;omega),CG hR i r h1]⟩
theorem bG.nil {H:AH} {sz cap:Nat}:bG H sz none cap [] where
 le:=by simp
 big:=by simp
 at_:=fun i hi=>by simp at hi
 rd:=fun b o h=>by cases h
 row:=fun b o h=>by cases h
theorem bG.take {H:AH} {sz:Nat} {base:Option Addr} {cap n:Nat} {R:List (List Value)} (h:bG H sz base cap R):bG H sz base cap (R.take n):=
 ⟨by have:=h.le;simp;omega,by have:=h.big;simp;omega,fun i hi=>h.at_ i (by simp at hi;omega),
 fun b o hb i j r c h1 h2=>h.rd b o hb i j r c (by rw[List.getElem?_take]at h1;split at h1<;>first | exact h1 | cases h1) h2,
 fun b o hb i r h1=>h.row b o hb i r (by rw[List.getElem?_take]at h1;split at h1<;>first | exact h1 | cases h1)⟩
theorem bG.get {H:AH} {sz:Nat} {base:Option Addr} {cap i:Nat} {R:List (List Value)} {r:List Value} (h:bG H sz base cap R) (hi:R[i]?=some r) :
  ∃ b o,base=some ⟨b,o,none⟩∧H.row b (o+i*sz) sz=some r∧∀ (j:Nat) (c:Value),r[j]?=some c→H.rd ⟨b,o+i*sz+j,none⟩=some c:=by
 have hlt:i<R.length:=by
  rcases Nat.lt_or_ge i R.length with h | h
  ·exact h
  ·rw[List.getElem?_eq_none h]at hi;cases hi
 obtain⟨b,o,rfl⟩:=h.at_ i hlt
 exact⟨b,o,rfl,h.row b o rfl i r hi,fun j c hc=>by rw[Nat.add_assoc];exact h.rd b o rfl i j r c hi hc⟩
theorem IW {sz:Nat}:∀ {R:List (List Value)} (_:∀ r∈R,r.length=sz) (j:Nat) (c:Value),R.flatten[j]?=some c→∃ i k r,R[i]?=some r∧r[k]?=some c∧j=i*sz+k
 | [],_,_,_,h=>by simp at h
 |r0::R,hR,j,c,h=>by
  have h0:r0.length=sz:=hR r0 (by simp)
  rw[List.flatten_cons]at h
  by_cases hj:j<sz
  ·rw[List.getElem?_append_left (by omega)]at h
   exact⟨0,j,r0,rfl,h,by omega⟩
  ·rw[List.getElem?_append_right (by omega)]at h
   obtain⟨i,k,r,h1,h2,h3⟩:=IW (fun r hr=>hR r (by simp[hr])) (j - r0.length) c h
   exact⟨i+1,k,r,by simpa using h1,h2,by rw[Nat.succ_mul];omega⟩
theorem IY {sz:Nat}:∀ {R:List (List Value)} (_:∀ r∈R,r.length=sz) (i j:Nat) (r:List Value) (v:Value),R[i]?=some r→j<sz→R.flatten.set (i*sz+j) v=(R.set i (r.set j v)).flatten
 | [],_,_,_,_,_,h,_=>by simp at h
 |r0::R,hR,0,j,r,v,h,hj=>by
  have h0:r0.length=sz:=hR r0 (by simp)
  simp at h;subst h
  rw[List.flatten_cons,Nat.zero_mul,Nat.zero_add,List.set_append_left (h:=by omega)];rfl
 |r0::R,hR,i+1,j,r,v,h,hj=>by
  have h0:r0.length=sz:=hR r0 (by simp)
  simp only[List.getElem?_cons_succ]at h
  rw[List.flatten_cons,List.set_append_right _ _ (by rw[h0,Nat.succ_mul];omega),h0,show(i+1)*sz+j - sz=i*sz+j from by rw[Nat.succ_mul];omega,IY (fun r hr=>hR r (by simp[hr])) i j r v h hj]
  rfl
theorem bG.nC {H:AH} {sz n cap:Nat} {base:Option Addr} {R:List (List Value)} (h:bG H sz base cap R) (hR:∀ r∈R,r.length=sz) (hsz:sz≠0) (hn:n=R.length) (h1:R≠[]∨base=none):nC H sz (.slice base n cap)=some R.flatten:=by
 subst hn
 cases base with
 |none=>
  have:R=[]:=by
   cases R with
   |nil=>rfl
   |cons r R=>obtain⟨b,o,hb⟩:=h.at_ 0 (by simp);cases hb
  subst this;rfl
 |some a=>
  have hne:R≠[]:=h1.resolve_right (by simp)
  have h0:R.length≠0:=fun e=>hne (List.eq_nil_of_length_eq_zero e)
  obtain⟨b,o,ha⟩:=h.at_ 0 (by omega)
  cases ha
  show H.row b o (R.length*sz)=some R.flatten
  refine lZ (jS hR).symm (by intro e;rcases Nat.mul_eq_zero.1 e with e | e<;>contradiction) fun j c hj=>?_
  obtain⟨i,k,r,h1,h2,rfl⟩:=IW hR j c hj
  exact h.rd b o rfl i k r c h1 h2
inductive Ext (H:AH):AH→Prop where
 |refl:Ext H H
 |add {A:AH} {b:Nat} {k:iD}:Ext H A→aG A b→Ext H (A.add b k)
theorem Ext.le {H A:AH} (h:Ext H A):H.le A:=by
 induction h with
 |refl=>exact AH.le_refl _
 |add _ hf ih=>exact AH.aK ih hf.2
theorem Ext.trans {H A B:AH} (h:Ext H A) (k:Ext A B):Ext H B:=by
 induction k with
 |refl=>exact h
 |add _ hf ih=>exact Ext.add ih hf
theorem bG.ext {H A:AH} {sz:Nat} {base:Option Addr} {cap:Nat} {R:List (List Value)} (h:bG H sz base cap R) (hx:Ext H A):bG A sz base cap R:=by
 induction hx with
 |refl=>exact h
 |add _ hf ih=>exact ih.add hf
theorem sJ {α:Type} {f:α→List Value} {G:α→Prop}:∀ {R:List (List Value)},(∀ (i:Nat) (r:List Value),R[i]?=some r→∃ s,r=f s∧G s)→∃ L:List α,R=L.map f∧∀ s∈L,G s
 | [],_=>⟨[],rfl,fun s h=>by cases h⟩
 |r::R,h=>by
  obtain⟨s,rfl,hs⟩:=h 0 r rfl
  obtain⟨L,rfl,hL⟩:=sJ (R:=R) fun i r hr=>h (i+1) r (by simpa using hr)
  exact⟨s::L,rfl,fun s' h'=>by
   rcases List.mem_cons.1 h' with h' | h'
   ·subst h';exact hs
   ·exact hL s' h'⟩
theorem EX {α:Type} (t:Nat):∀ l:List (Nat×α),qC t l=none→BM t l=l
 | [],_=>rfl
 |(k,v)::r,h=>by
  rw[nV]at h
  split at h
  ·cases h
  ·rename_i hne
   simp only[BM,hne,if_false,EX t r h]
theorem EY {H:AH} {b:Nat} (h:aG H b):H.del b=H:=by
 unfold AH.del
 rw[EX b H.own h.2]
theorem yg {H:AH} {b:Nat} {k:iD}:(H.add b k).del b=H.del b:=by simp[AH.del,AH.add,BM]
theorem gB {H:AH} {b off e sz:Nat} {cs:List Value} (h:H.find b=some (.cells cs e sz)):H.rd ⟨b,off,none⟩=cs[off]?:=by simp[AH.rd,h]
theorem iZ {H:AH} {b off n e sz:Nat} {cs:List Value} (h:H.find b=some (.cells cs e sz)) (hl:off+n≤cs.length):H.row b off n=some ((cs.drop off).take n):=by simp[AH.row,h,hl]
theorem AH.eU {A C:AH} {b:Nat} {k:iD} (hb:C.find b=some k) (h:A.le C):(A.add b k).le C:=
 ⟨h.1,fun b' k' hk=>by
  rw[dh]at hk
  split at hk
  ·rename_i e;subst e;cases hk;exact hb
  ·exact h.2 _ _ hk⟩
theorem aV {H:AH} {b:Nat} (h:aG H b):H.find b=none:=h.2
theorem Rk {H:AH} {b:Nat} {k:iD} (hq:H.find b=some k):((H.del b).add b k).le H:=
 ⟨rfl,fun b' k' h=>by
  rw[dh]at h
  split at h
  ·rename_i e;subst e;cases h;exact hq
  ·rename_i e;rw[iL,if_neg e]at h;exact h⟩
theorem aO.at {P:Program} {f:FuncId} {args:Array Value} {H:AH} {b:Nat} {k:iD} {K:Value→AH→Prop} (hq:H.find b=some k) (h:aO P f args ((H.del b).add b k) K):aO P f args H K:=h.weak (Rk hq)
end Go.AX
/- A region that draws its order, where writes may come ahead of reads: reads of what no write touches, in whatever order, and a chain of operations that write. -/
namespace Go.AX
open Go Go.RowKit
section
variable {P:Program} {ops:Array Oper} {md:Region.Mode} {C:World→Prop}
def Q0:Exit→Act→World→Prop:=fun _ _ _=>False
theorem CJ {j:Nat} {K:Act→World→Prop} {Q:Exit→Act→World→Prop} {a:Act} {w:World} (hl:¬ LetsOut Q0) (h:wpOp P ops Q0 j K a w):wpOp P ops Q j K a w:=by
 unfold wpOp at *
 split
 ·rename_i ho;simp only[ho]at h;exact h
 ·rename_i o ho
  simp only[ho]at h
  split
  ·rename_i hw
   simp only[hw,if_true]at h
   rcases h with h | ⟨_,hlets⟩
   case inr=>exact absurd hlets hl
   refine .inl ?_
   unfold Oper.wp at *
   generalize (execOp a.eval o).run P w=r at *
   cases r with
   |ok n w'=>
    cases n<;>simp only[Oper.upon]at h ⊢
    case value u=>exact h
    case skip=>exact h
    case defer d=>exact h
    case enter f args=>
     refine Calls.mono h fun e w'' he=>?_
     cases e with
     |returned u=>exact he
     |panicked c=>exact he.elim
     |outgrown=>exact absurd he hl
    case row row args=>exact h
   |halt x w'=>
    cases x<;>simp only[Oper.upon]at h ⊢
    case panic u=>exact h.elim
  ·rename_i hw;simp only[hw]at h;exact h
def RY (P:Program) (ops:Array Oper) (C:World→Prop) (o:Oper) (v:Value) (a:Act):Prop:=
 (Region.wanted o (yielded ops a.tmps)=true∧∀ w,C w→(execOp a.eval o).run P w=.ok (.value v) w)∨(Region.wanted o (yielded ops a.tmps)=false∧v=undef)
theorem RY.of_same {o:Oper} {v:Value} {a a':Act} (hy:RY P ops C o v a) (he:execOp a'.eval o=execOp a.eval o)
  (hw:Region.wanted o (yielded ops a'.tmps)=Region.wanted o (yielded ops a.tmps)):RY P ops C o v a':=by
 unfold RY at *
 rw[he,hw];exact hy
theorem RY.put {oi oj:Oper} {v:Value} {a:Act} (hap:oi.apart ops oj=true) (hsi:∀ cs b,oi.op≠.select cs b) (hy:RY P ops C oi v a) (u:Value):RY P ops C oi v (a.put oj.dst u):=by
 obtain⟨h1,h2,h3⟩:=Oper.apart_spec hap
 exact hy.of_same (execOp_put oi hsi a oj.dst u h3) (wanted_put oi a oj.dst u h3)
theorem RY.back {oi oj:Oper} {v u:Value} {a:Act} (hap:oi.apart ops oj=true) (hsj:∀ cs b,oj.op≠.select cs b) (hy:RY P ops C oj u (a.put oi.dst v)):RY P ops C oj u a:=by
 obtain⟨h1,h2,h3⟩:=Oper.apart_spec hap
 exact hy.of_same (execOp_put oj hsj a oi.dst v h1).symm (wanted_put oj a oi.dst v h1).symm
theorem RY.wpOp {i:Nat} {o:Oper} {v:Value} {a:Act} {K:Act→World→Prop} {Q:Exit→Act→World→Prop} {w:World} (hi:ops[i]?=some o) (hy:RY P ops C o v a) (hC:C w) (h:K (a.put o.dst v) w):wpOp P ops Q i K a w:=by
 unfold Go.wpOp
 simp only[hi]
 rcases hy with ⟨hw,hv⟩ | ⟨hw,rfl⟩
 ·simp only[hw,if_true,Oper.wp,hv w hC,Oper.upon];exact .inl h
 ·simp only[hw,Bool.false_eq_true,if_false];exact h
variable {R:Act→World→Prop}
theorem sK {j:Nat} {K K':Act→World→Prop} {Q:Exit→Act→World→Prop} {a:Act} {w:World} (h:∀ a w,K a w→K' a w) (hh:wpOp P ops Q j K a w):wpOp P ops Q j K' a w:=by
 unfold wpOp at *
 split
 ·rename_i ho;simp only[ho]at hh;exact h _ _ hh
 ·rename_i o ho
  simp only[ho]at hh
  split
  ·rename_i hw
   simp only[hw,if_true]at hh
   rcases hh with hh | hh
   ·exact .inl (Oper.wp_mono h hh)
   ·exact .inr hh
  ·rename_i hw;simp only[hw]at hh;exact h _ _ hh
theorem wO {ls:Array Bool} {i:Nat} (h:i<ls.size):(ls.setIfInBounds i true).getD i true=true:=by simp[Array.getElem?_setIfInBounds,h]
theorem EZ {ls:Array Bool} {i:Nat} (hi:i<ls.size) (h:¬ ls.getD i true=false):ls.getD i false=true:=by
 have e:ls[i]?=some ls[i]:=Array.getElem?_eq_getElem hi
 simp only[Array.getD_eq_getD_getElem?,e,Option.getD_some]at h ⊢
 simpa using h
end
end Go.AX
/- A region that draws its order, where writes may come ahead of reads, over the abstract heap. -/
namespace Go.AX
open Go Go.RowKit
section
variable {P:Program} {n:Nat} {ds:List (Option Tmp)} {q:Bool} {E:Nat→Option Obj}
def Py:Op→Bool
 |.move _ | .assign _ | .pick .. | .binOp .. | .unOp .. | .extract .. | .convert .. | .load .. | .fieldAddr .. | .indexAddr .. | .nilCheck _ | .index .. | .field .. | .slice .. | .build .. | .makeInterface .. | .typeAssert ..=>true
 |.call { callee:=.builtin b,.. }=>match b with | .len | .cap | .min | .max=>true | _=>false
 |_=>false
theorem je {o:Oper} {fr:Fr} {H:AH} {s:Sem Value} (he:execOp (kC fr) o=(do pure (.value (←s)))) {k:Value→AH→Prop} (h:wo (dZ P s H) fun v=>k v H):∃ v,dZ P (execOp (kC fr) o) H=some (.value v)∧k v H:=by
 rw[he,bW]
 cases hs:dZ P s H with
 |none=>rw[hs]at h;exact h.elim
 |some v=>rw[hs]at h;exact⟨v,rfl,h⟩
theorem Rn {o:Oper} {fr:Fr} {H:AH} {k:Value→AH→Prop} (hr:Py o.op=true) (h:XR q P fr H o k):∃ v,dZ P (execOp (kC fr) o) H=some (.value v)∧k v H:=by
 obtain⟨dst,op,ty,pos,af,g⟩:=o
 unfold XR at h
 cases op<;>simp only at h<;>simp only[Py]at hr<;>try (cases hr;done)
 case move x=>exact⟨_,rfl,h.2⟩
 case assign x=>exact⟨_,rfl,h.2⟩
 case pick c a b=>
  obtain⟨h1,h2,h3,h4⟩:=h
  simp only[execOp]
  revert h4
  generalize kC fr c=c
  intro h4
  cases c<;>first | exact⟨_,rfl,h4⟩ | exact h4.elim
 case binOp op t x y yt=>exact je rfl h.2.2.2
 case unOp op t x=>exact je rfl h.2
 case extract x i=>exact je rfl h.2
 case convert s t x=>exact je rfl h.2.2.2
 case load t x=>exact je rfl (Nk h.2)
 case fieldAddr s x i=>exact je rfl (Nl h.2)
 case indexAddr t x i=>exact je rfl (Np h.1 h.2.2.2)
 case nilCheck x=>
  have h2:=h.2
  simp only[execOp]
  revert h2
  generalize kC fr x=v
  intro h2
  unfold nck at h2
  split at h2
  ·exact⟨_,rfl,h2⟩
  ·exact⟨_,rfl,h2⟩
  ·exact⟨_,rfl,h2⟩
  ·exact h2.elim
 case makeInterface t x=>exact je rfl h.2
 case typeAssert x t u ok=>exact je rfl h.2
 case index t x i=>exact je rfl h.2.2
 case field t x i=>exact je rfl h.2
 case slice t x lo hi mx=>
  obtain⟨h1,h⟩:=h
  have key:∀ (o:Option Operand) (k:Option Value→Prop),wL fr o k→k (o.map (kC fr)):=fun o k h=>by
   cases o with
   |none=>exact h
   |some x=>exact h.2
  exact je rfl (key _ _ (key _ _ (key _ _ h)))
 case build t ps=>
  obtain⟨h1,h2⟩:=h
  refine je (s:=Instr.build t (ps.map fun(i,x)=>(i,kC fr x))) rfl ?_
  have e:(ps.map fun(i,x)=>(i,kC fr x))=((ps.toList.map (·.1)).zip ((ps.toList.map (·.2)).map (kC fr))).toArray:=by
   rw[←rG (kC fr) ps.toList,←Array.toList_map,Array.toArray_toList]
  rw[e];exact Nq h2
 case call c=>
  obtain⟨callee,args,tys⟩:=c
  cases callee<;>simp only[Py]at hr<;>try (cases hr;done)
  case builtin b=>
   have e:(args.toList.map (kC fr)).toArray=args.map (kC fr):=by rw[←Array.toList_map,Array.toArray_toList]
   have fin:∀ (b:Builtin) (hb:UU b=.read),(Bl fr args.toList fun as_=>Qw (tys[0]?.bind P.underlying) b as_ fun v=>k v H)→∃ v,dZ P (execOp (kC fr) ⟨dst,.call { callee:=.builtin b,args:=args,argTypes:=tys },ty,pos,af,g⟩) H=some (.value v)∧k v H:=fun b hb h=>by
    obtain⟨h1,h2⟩:=h
    simp only[execOp,resolve,bW,cZ,Option.bind_some,invoke]
    unfold Qw wo at h2
    split at h2
    ·rename_i v hv
     have hrun:∀ cs,dZ P (builtin b tys ty cs (args.map (kC fr))) H=some (.value v):=fun cs=>by
      have:=Nr (P:=P) (H:=H) (ty:=ty) (cs:=cs) hv
      rwa [e]at this
     exact⟨v,hrun _,h2⟩
    ·exact h2.elim
   cases b<;>simp only[Py]at hr<;>try (cases hr;done)
   all_goals exact fin _ rfl h
end
end Go.AX
/- A region that draws its order, of any kind: the law on worlds. One order is walked; the others come to the same. -/
namespace Go.AX
open Go Go.RowKit
theorem CO {w w':World} {b:Nat} {k:iD} (h:w'.heap[b]?=w.heap[b]?) (hk:k.ok w b):k.ok w' b:=by
 cases k<;>simp only[iD.ok,h]at hk ⊢<;>exact hk
section
variable {E E0:Nat→Option Obj} {H:AH} {w:World} {b:Nat} {k:iD} {o:Obj}
theorem Sat.few (h:Sat E H w) (hE:∀ b o,E0 b=some o→E b=some o):Sat E0 H w:=⟨h.below,h.known,fun b o ho=>h.far b o (hE b o ho)⟩
theorem Sat.fresh (h:Sat E H w) (hb:E b=some o):aG H b:=⟨(h.far b o hb).1,(h.far b o hb).2.1⟩
theorem Sat.Y5 (h:Sat E H w) (hb:E b=some o) (hk:∀ w':World,w'.heap[b]?=some o→k.ok w' b):Sat (fun x=>if x=b then none else E x) (H.add b k) w:=by
 obtain⟨h1,h2,h3⟩:=h.far b o hb
 refine⟨h.below,fun b' k' hk'=>?_,fun b' o' ho'=>?_⟩
 ·rw[dh]at hk'
  split at hk'
  ·rename_i e;subst e;cases hk'
   exact⟨h1,(Array.getElem?_eq_some_iff.1 h3).1,hk w h3⟩
  ·exact h.known b' k' hk'
 ·split at ho'
  ·cases ho'
  ·rename_i hne
   obtain⟨q1,q2,q3⟩:=h.far b' o' ho'
   exact⟨q1,by rw[dh,if_neg hne];exact q2,q3⟩
theorem Sat.hoist (h:Sat E (H.add b k) w) (hf:aG H b):∃ o,(∀ w':World,w'.heap[b]?=some o→k.ok w' b)∧Sat (fun x=>if x=b then some o else E x) H w∧E b=Option.none:=by
 obtain⟨h1,h2,h3⟩:=h.known b k (aH _ _ _)
 have hb:w.heap[b]?=some w.heap[b]:=Array.getElem?_eq_getElem h2
 refine⟨w.heap[b],fun w' hw'=>CO (by rw[hw',hb]) h3,⟨h.below,fun b' k' hk'=>?_,fun b' o' ho'=>?_⟩,?_⟩
 ·have hne:b'≠b:=fun e=>by subst e;rw[hf.2]at hk';cases hk'
  exact h.known b' k' (by rw[dh,if_neg hne];exact hk')
 ·by_cases e:b'=b
  ·subst e
   rw[if_pos rfl]at ho'
   cases ho'
   exact⟨h1,hf.2,hb⟩
  ·rw[if_neg e]at ho'
   obtain⟨q1,q2,q3⟩:=h.far b' o' ho'
   rw[dh,if_neg e]at q2
   exact⟨q1,q2,q3⟩
 ·cases he:E b with
  |none=>rfl
  |some o'=>
   have:=(h.far b o' he).2.1
   rw[aH]at this;cases this
end
def LG (P:Program) (op:Op) (ev:Operand→Value):Option ((Nat→Value)×iD):=
 match op with
 |.alloc t=>(qE P t).map fun cs=>(fun b=>.pointer (some ⟨b,0,none⟩),.cells cs t cs.length)
 |.buildSlice t len ps=>(uG P t).bind fun s=>if len=((ps.toList.map (·.1)).zip ((ps.toList.map (·.2)).map ev)).length∧len*s.2.1≤16777216 then
   (xP s.2.1 0 ((ps.toList.map (·.1)).zip ((ps.toList.map (·.2)).map ev))).map fun cs=>(fun b=>.slice (some ⟨b,0,none⟩) len len,.cells cs s.1 cs.length) else none
 |.makeMap _ none=>some (fun b=>.map (some b),.gW [])
 |.box t x=>some (fun b=>.pointer (some ⟨b,0,none⟩),.cells (iq (ev x)) t (iq (ev x)).length)
 |_=>none
theorem zD {P:Program} {op:Op} {ev ev':Operand→Value} (h:∀ x∈op.operands,ev x=ev' x):LG P op ev=LG P op ev':=by
 cases op<;>try rfl
 case makeMap t r=>cases r<;>rfl
 case box t x=>simp only[LG,h x (by simp[Op.operands])]
 case buildSlice t len ps=>
  have e:(ps.toList.map (·.2)).map ev=(ps.toList.map (·.2)).map ev':=List.map_congr_left fun x hx=>h x (by simpa [Op.operands]using hx)
  simp only[LG,e]
set_option maxHeartbeats 2000000 in
theorem Ro {P:Program} {H:AH} {ev:Operand→Value} {dst:Option Tmp} {t:TypeId} {len:Nat} {ps:Array (Nat×Operand)} {ty:TypeId} {pos:String} {af:Array Edge} {g:Option (Nat×Bool)} {k:Value→AH→Prop}
  (h:Vu P t len ((ps.toList.map (·.1)).zip ((ps.toList.map (·.2)).map ev)) H k):dY P (execOp ev ⟨dst,.buildSlice t len ps,ty,pos,af,g⟩) H (oJ false P k):=by
 show dY P (Instr.buildSlice t len (ps.map fun(i,x)=>(i,ev x)) >>= fun v=>pure (Next.value v)) H _
 rw[dO]
 have e:(ps.map fun(i,x)=>(i,ev x))=((ps.toList.map (·.1)).zip ((ps.toList.map (·.2)).map ev)).toArray:=by
  rw[←rG ev ps.toList,←Array.toList_map,Array.toArray_toList]
 rw[e];exact Ns h
theorem zG {P:Program} {o:Oper} {ev:Operand→Value} {p:(Nat→Value)×iD} (h:LG P o.op ev=some p) (H1:AH) :
  nH P (execOp ev o) H1 (fun v H2=>∃ b,aG H1 b∧v=p.1 b∧H2=H1.add b p.2):=by
 obtain⟨dst,op,ty,pos,af,g⟩:=o
 refine nH.oP ?_
 cases op<;>simp only[LG]at h<;>try (cases h;done)
 case alloc t=>
  obtain⟨cs,hz,rfl⟩:=Option.map_eq_some_iff.1 h
  show dY P (Instr.alloc t true (.tuple #[]) >>= fun v=>pure (Next.value v)) H1 _
  rw[dO]
  obtain⟨z,h1,h2⟩:=qY (H:=H1) hz
  simp only[Instr.alloc,dO]
  refine kV _ _ _ h1 ?_
  refine qK ?_
  have e:iq z=cs:=h2
  rw[e]
  exact fun b hb=>⟨b,hb,rfl,rfl⟩
 case buildSlice t len ps=>
  obtain⟨s,hs,h⟩:=Option.bind_eq_some_iff.1 h
  split at h
  ·rename_i hc
   obtain⟨cs,hcs,rfl⟩:=Option.map_eq_some_iff.1 h
   refine Ro ?_
   unfold Vu
   rw[hs]
   refine⟨hc.1,hc.2,?_⟩
   rw[hcs]
   exact fun b hb=>⟨b,hb,rfl,rfl⟩
  ·cases h
 case makeMap t r=>
  cases r with
  |some x=>cases h
  |none=>
   simp only[Option.some.injEq]at h
   subst h
   show dY P (Instr.makeMap t none >>= fun v=>pure (Next.value v)) H1 _
   rw[dO]
   exact xU (fun b hb=>⟨b,hb,rfl,rfl⟩)
 case box t x=>
  simp only[Option.some.injEq]at h
  subst h
  show dY P (Instr.box t (ev x) >>= fun v=>pure (Next.value v)) H1 _
  rw[dO]
  simp only[Instr.box,dO]
  exact qK (fun b hb=>⟨b,hb,rfl,rfl⟩)
end Go.AX
/- A region that draws its order: reads, operations that make a block, and a chain of others. One order is walked; the others come to the same. -/
namespace Go.AX
open Go Go.RowKit
inductive Cl where
 |rd | pu | al | ch
 deriving DecidableEq
inductive En where
 |op (c:Cl) (i:Nat)
 |ea (b:Nat) (k:iD)
def En.idx:En→Option Nat
 |.op _ i=>some i
 |.ea ..=>none
def oQ:List En→AH→AH
 | [],H=>H
 |.ea b k::l,H=>oQ l (H.add b k)
 |.op ..::l,H=>oQ l H
def zy:List En→AH→Prop
 | [],_=>True
 |.ea b k::l,H=>aG H b∧zy l (H.add b k)
 |.op ..::l,H=>zy l H
def vW (A B:AH):Prop:=A.w0=B.w0∧∀ x,A.find x=B.find x
theorem vW.refl (A:AH):vW A A:=⟨rfl,fun _=>rfl⟩
theorem vW.trans {A B C:AH} (h:vW A B) (k:vW B C):vW A C:=⟨h.1.trans k.1,fun x=>(h.2 x).trans (k.2 x)⟩
theorem vW.symm {A B:AH} (h:vW A B):vW B A:=⟨h.1.symm,fun x=>(h.2 x).symm⟩
theorem vW.le {A B:AH} (h:vW A B):A.le B:=⟨h.1,fun b k hk=>by rw[←h.2];exact hk⟩
theorem vW.add {A B:AH} (h:vW A B) (b:Nat) (k:iD):vW (A.add b k) (B.add b k):=⟨h.1,fun x=>by rw[dh,dh,h.2]⟩
theorem vW.fresh {A B:AH} (h:vW A B) {b:Nat} (hf:aG A b):aG B b:=⟨h.1▸hf.1,by rw[←h.2];exact hf.2⟩
theorem vW.swap {H:AH} {b b':Nat} {k k':iD} (h:b≠b'):vW ((H.add b k).add b' k') ((H.add b' k').add b k):=⟨rfl,fun x=>by
 simp only[dh]
 by_cases h1:x=b'
 ·subst h1;simp[Ne.symm h]
 ·simp[h1]⟩
theorem vW.oQ:∀ (l:List En) {A B:AH},vW A B→vW (oQ l A) (oQ l B)
 | [],_,_,h=>h
 |.ea b k::l,_,_,h=>vW.oQ l (h.add b k)
 |.op ..::l,_,_,h=>vW.oQ l h
theorem vW.zy:∀ (l:List En) {A B:AH},vW A B→zy l A→zy l B
 | [],_,_,_,_=>trivial
 |.ea b k::l,_,_,h,hf=>⟨h.fresh hf.1,vW.zy l (h.add b k) hf.2⟩
 |.op ..::l,_,_,h,hf=>vW.zy l h hf
theorem lu:∀ (l:List En) {H:AH},zy l H→H.le (oQ l H)
 | [],H,_=>AH.le_refl H
 |.ea b k::l,H,hf=>AH.le_trans (AH.aK (AH.le_refl H) hf.1.2) (lu l hf.2)
 |.op ..::l,H,hf=>lu l (H:=H) hf
theorem aG.of_le {A B:AH} {b:Nat} (h:A.le B) (hf:aG B b):aG A b:=⟨h.1▸hf.1,by
 cases hx:A.find b with
 |none=>rfl
 |some k=>have:=h.2 _ _ hx;rw[hf.2]at this;cases this⟩
theorem sO:∀ (l:List En) {H:AH} {b:Nat} {k:iD},zy l H→aG (oQ l H) b→zy l (H.add b k)∧vW (oQ l (H.add b k)) ((oQ l H).add b k)
 | [],H,b,k,_,_=>⟨trivial,vW.refl _⟩
 |.op ..::l,H,b,k,h1,h2=>sO l (H:=H) h1 h2
 |.ea b' k'::l,H,b,k,h1,h2=>by
  have hb:aG (H.add b' k') b:=aG.of_le (lu l h1.2) h2
  have hne:b≠b':=by
   intro e;subst e
   have:=hb.2
   rw[aH]at this;cases this
  obtain⟨h3,h4⟩:=sO l (H:=H.add b' k') (k:=k) h1.2 h2
  have hs:=vW.swap (H:=H) (b:=b) (b':=b') (k:=k) (k':=k') hne
  refine⟨⟨⟨h1.1.1,by rw[dh,if_neg (Ne.symm hne)];exact h1.1.2⟩,vW.zy l hs.symm h3⟩,(vW.oQ l hs).trans h4⟩
theorem kF:∀ (l l':List En) (H:AH),oQ (l++l') H=oQ l' (oQ l H)
 | [],_,_=>rfl
 |.ea b k::l,l',H=>kF l l' (H.add b k)
 |.op ..::l,l',H=>kF l l' H
theorem kG:∀ (l l':List En) (H:AH),zy (l++l') H↔zy l H∧zy l' (oQ l H)
 | [],_,_=>by simp[zy,oQ]
 |.ea b k::l,l',H=>by
  simp only[List.cons_append,zy,oQ,kG l l' (H.add b k),and_assoc]
 |.op ..::l,l',H=>by
  simp only[List.cons_append,zy,oQ,kG l l' H]
theorem Sat.CP:∀ (l:List En) {H:AH} {E:Nat→Option Obj} {w:World},zy l H→Sat E (oQ l H) w→
  ∃ E1,Sat E1 H w∧∀ H' w',Sat E1 H' w'→Sat E (oQ l H') w'∧zy l H'
 | [],H,E,w,_,hs=>⟨E,hs,fun _ _ h=>⟨h,trivial⟩⟩
 |.op ..::l,H,E,w,hf,hs=>Sat.CP l (H:=H) hf hs
 |.ea b k::l,H,E,w,hf,hs=>by
  obtain⟨E1,h1,h2⟩:=Sat.CP l (H:=H.add b k) hf.2 hs
  obtain⟨o,ho,h3,h4⟩:=h1.hoist hf.1
  refine⟨fun x=>if x=b then some o else E1 x,h3,fun H' w' h'=>?_⟩
  have hb:(fun x=>if x=b then some o else E1 x) b=some o:=by simp
  have h5:=h'.Y5 hb ho
  have h6:Sat E1 (H'.add b k) w':=h5.few fun x o' hx=>by
   by_cases e:x=b
   ·subst e;rw[h4]at hx;cases hx
   ·simp[e,hx]
  exact⟨(h2 _ _ h6).1,h'.fresh hb,(h2 _ _ h6).2⟩
section
variable {P:Program} {ops:Array Oper}
def GH (P:Program) (ops:Array Oper) (j:Nat) (o:Oper) (a:Act) (H:AH) (N:Value→AH→Prop):Prop:=
 ∀ E w,Sat E H w→wpOp P ops Q0 j (fun a' w'=>∃ v H',a'=a.put o.dst v∧Sat E H' w'∧N v H') a w
theorem Pz {j:Nat} {K:Act→World→Prop} {a:Act} {w:World} (h:wpOp P ops Q0 j K a w):∃ a' w',K a' w':=by
 have hl:¬ LetsOut Q0:=fun⟨_,_,h⟩=>h
 unfold wpOp at h
 split at h
 ·exact⟨_,_,h⟩
 ·rename_i o ho
  split at h
  ·rcases h with h | ⟨_,hl'⟩
   case inr=>exact absurd hl' hl
   unfold Oper.wp at h
   generalize (execOp a.eval o).run P w=r at *
   cases r with
   |ok n w'=>
    cases n<;>simp only[Oper.upon]at h
    case value u=>exact⟨_,_,h⟩
    case skip=>exact⟨_,_,h⟩
    case defer d=>exact⟨_,_,h⟩
    case enter f args=>
     obtain⟨e,w'',fr,he,_⟩:=h []
     cases e with
     |returned u=>exact⟨_,_,he⟩
     |panicked c=>exact he.elim
     |outgrown=>exact absurd he hl
    case row row args=>
     obtain⟨v,w'',he,_⟩:=h (Frame.enter P 0 #[] .normal) []
     exact⟨_,_,he⟩
   |halt x w'=>
    cases x<;>simp only[Oper.upon]at h
    case panic u=>exact h.elim
  ·exact⟨_,_,h⟩
theorem wpOp_put {j:Nat} {oj:Oper} (hj:ops[j]?=some oj) {d:Option Tmp} (hd:∀ t,d=some t→t∉oj.looksAt ops) (hne:∀ t,d=some t→oj.dst≠some t) (hsj:∀ cs b,oj.op≠.select cs b) {M:Value→World→Prop} (u:Value) {a:Act} {w:World}
  (h:wpOp P ops Q0 j (fun a' w'=>∃ v,a'=a.put oj.dst v∧M v w') a w):wpOp P ops Q0 j (fun a' w'=>∃ v,a'=(a.put d u).put oj.dst v∧M v w') (a.put d u) w:=by
 have hl:¬ LetsOut Q0:=fun⟨_,_,h⟩=>h
 have key:∀ v w',(∃ v',a.put oj.dst v=a.put oj.dst v'∧M v' w')→∃ v',(a.put d u).put oj.dst v=(a.put d u).put oj.dst v'∧M v' w':=fun v w' ⟨v',h1,h2⟩=>
  ⟨v',by rw[Act.put_comm a u v hne,Act.put_comm a u v' hne,h1],h2⟩
 unfold wpOp at *
 simp only[hj]at *
 rw[wanted_put oj a d u hd]
 split
 ·rename_i hw
  simp only[hw,if_true]at h
  rcases h with h | ⟨_,hl'⟩
  case inr=>exact absurd hl' hl
  refine .inl ?_
  unfold Oper.wp at *
  rw[execOp_put oj hsj a d u hd]
  generalize (execOp a.eval oj).run P w=r at *
  cases r with
  |ok n w'=>
   cases n<;>simp only[Oper.upon]at h ⊢
   case value u=>exact key _ _ h
   case skip=>exact key _ _ h
   case defer d'=>
    obtain⟨v,h1,_⟩:=h
    exfalso
    have h2:=congrArg (fun a:Act=>a.defers.length) h1
    have h3:∀ (a:Act) d v,(a.put d v).defers=a.defers:=fun a d v=>by cases d<;>rfl
    simp only[h3,List.length_cons]at h2
    omega
   case enter f args=>
    refine Calls.mono h fun e w'' he=>?_
    cases e with
    |returned u=>exact key _ _ he
    |panicked c=>exact he.elim
    |outgrown=>exact absurd he hl
   case row row args=>exact Rows.mono h fun u w'' he=>key _ _ he
  |halt x w'=>
   cases x<;>simp only[Oper.upon]at h ⊢
   case panic u=>exact h.elim
 ·rename_i hw
  simp only[hw]at h
  exact key _ _ h
def Ap (ops:Array Oper) (x y:Oper):Prop:=(∀ d,x.dst=some d→d∉y.looksAt ops)∧(∀ d,x.dst=some d→y.dst≠some d)∧(∀ d,y.dst=some d→d∉x.looksAt ops)
theorem Ap.symm {x y:Oper} (h:Ap ops x y):Ap ops y x:=⟨h.2.2,fun d hd he=>h.2.1 d he hd,h.1⟩
theorem GH.put' {j:Nat} {oi oj:Oper} {a:Act} {H:AH} {N:Value→AH→Prop} (hj:ops[j]?=some oj) (hap:Ap ops oi oj) (hsj:∀ cs b,oj.op≠.select cs b) (u:Value) (h:GH P ops j oj a H N):GH P ops j oj (a.put oi.dst u) H N:=by
 intro E w hs
 obtain⟨h1,h2,h3⟩:=hap
 have:=wpOp_put (P:=P) hj (d:=oi.dst) h1 h2 hsj (M:=fun v w'=>∃ H',Sat E H' w'∧N v H') u (sK (fun a' w' ⟨v,H',q1,q2⟩=>⟨v,q1,H',q2⟩) (h E w hs))
 exact sK (fun a' w' ⟨v,q1,H',q2⟩=>⟨v,H',q1,q2⟩) this
def old (a:Act):Option Tmp→Value
 |some d=>a.tmps.getD d undef
 |none=>undef
theorem VR (a:Act) (d:Option Tmp) (u:Value):(a.put d u).put d (old a d)=a:=by
 cases d with
 |none=>rfl
 |some d=>
  simp only[Act.put,old]
  have:(a.tmps.setIfInBounds d u).setIfInBounds d (a.tmps.getD d undef)=a.tmps:=by
   apply Array.ext_getElem?
   intro i
   by_cases e:d=i
   ·subst e
    by_cases hlt:d<a.tmps.size
    ·simp[Array.getElem?_setIfInBounds,hlt]
    ·simp[Array.getElem?_setIfInBounds,hlt]
   ·simp[Array.getElem?_setIfInBounds_ne e]
  rw[this]
theorem GH.back' {j:Nat} {oi oj:Oper} {a:Act} {H:AH} {N:Value→AH→Prop} (hj:ops[j]?=some oj) (hap:Ap ops oi oj) (hsj:∀ cs b,oj.op≠.select cs b) (u:Value) (h:GH P ops j oj (a.put oi.dst u) H N):GH P ops j oj a H N:=by
 have:=GH.put' (P:=P) hj hap hsj (old a oi.dst) h
 rwa [VR]at this
theorem RY.put' {C:World→Prop} {oi oj:Oper} {v:Value} {a:Act} (hap:Ap ops oj oi) (hsi:∀ cs b,oi.op≠.select cs b) (u:Value) (hy:RY P ops C oi v a):RY P ops C oi v (a.put oj.dst u):=
 hy.of_same (execOp_put oi hsi a oj.dst u hap.1) (wanted_put oi a oj.dst u hap.1)
theorem RY.back' {C:World→Prop} {oi oj:Oper} {v:Value} {a:Act} (hap:Ap ops oj oi) (hsi:∀ cs b,oi.op≠.select cs b) (u:Value) (hy:RY P ops C oi v (a.put oj.dst u)):RY P ops C oi v a:=
 hy.of_same (execOp_put oi hsi a oj.dst u hap.1).symm (wanted_put oi a oj.dst u hap.1).symm
theorem RY.uniq {C:World→Prop} {o:Oper} {v v':Value} {a:Act} (hC:∃ w,C w) (h:RY P ops C o v a) (h':RY P ops C o v' a):v=v':=by
 obtain⟨w,hw⟩:=hC
 rcases h with ⟨h1,h2⟩ | ⟨h1,rfl⟩
 ·rcases h' with ⟨_,h3⟩ | ⟨h3,_⟩
  ·have:=h2 w hw
   rw[h3 w hw]at this
   cases this;rfl
  ·rw[h1]at h3;cases h3
 ·rcases h' with ⟨h3,_⟩ | ⟨_,rfl⟩
  ·rw[h1]at h3;cases h3
  ·rfl
theorem qO {oi oj:Oper} {a:Act} (hap:Ap ops oj oi) (u:Value):LG P oi.op (a.put oj.dst u).eval=LG P oi.op a.eval:=
 zD fun x hx=>Act.eval_put fun d hd hxd=>hap.1 d hd (by
  subst hxd
  exact List.mem_append_left _ (List.mem_filterMap.2 ⟨.tmp d,by simpa using hx,rfl⟩))
section
variable (P) (ops) (Hc:AH) (m:Nat) (R:Act→AH→Prop)
def CX:Cl→World→Prop
 |.rd=>fun w=>∃ E,Sat E Hc w
 |_=>fun _=>True
def GG:List En→Act→AH→Prop
 | [],a,H=>R a H
 |.ea b k::l,a,H=>aG H b→GG l a (H.add b k)
 |.op c i::l,a,H=>match c with
  |.al=>∃ o p,ops[i]?=some o∧o.guard=none∧LG P o.op a.eval=some p∧∀ b,aG H b→GG l (a.put o.dst (p.1 b)) (H.add b p.2)
  |.ch=>∃ o N,ops[i]?=some o∧GH P ops i o a H N∧∀ v H',N v H'→(i<m→Hc.le H')∧GG l (a.put o.dst v) H'
  |c=>∃ o v,ops[i]?=some o∧RY P ops (CX Hc c) o v a∧GG l (a.put o.dst v) H
end
def ids (l:List En):List Nat:=l.filterMap En.idx
theorem gY (l l':List En):ids (l++l')=ids l++ids l':=List.filterMap_append
theorem mW {c:Cl} {i:Nat} {l:List En}:ids (.op c i::l)=i::ids l:=rfl
theorem Rq {b:Nat} {k:iD} {l:List En}:ids (.ea b k::l)=ids l:=rfl
variable {Hc:AH} {m:Nat} {R:Act→AH→Prop}
def Rt (ops:Array Oper) (oi:Oper) (l:List En):Prop:=∀ h oh,h∈ids l→ops[h]?=some oh→Ap ops oh oi
theorem Rt.tail {oi:Oper} {e:En} {l:List En} (h:Rt ops oi (e::l)):Rt ops oi l:=fun x ox hx=>h x ox (by
 cases e with
 |op c i=>rw[mW];exact List.mem_cons_of_mem _ hx
 |ea b k=>exact hx)
theorem Rt.head {oi oh:Oper} {c:Cl} {i:Nat} {l:List En} (h:Rt ops oi (.op c i::l)) (ho:ops[i]?=some oh):Ap ops oh oi:=h i oh (by rw[mW];simp) ho
theorem qc {oi:Oper} {e:En} {post:List En} (Φ:Act→Prop) (h0:∀ a H,GG P ops Hc m R (e::post) a H→Φ a)
  (hb:∀ oh u a,Ap ops oh oi→Φ (a.put oh.dst u)→Φ a):∀ (pre:List En) (a:Act) (H:AH) (E:Nat→Option Obj) (w:World),Rt ops oi pre→
   zy pre H→Sat E (oQ pre H) w→GG P ops Hc m R (pre++e::post) a H→Φ a
 | [],a,H,_,_,_,_,_,h=>h0 a H h
 |.ea b k::pre,a,H,E,w,ha,hf,hs,h=>qc Φ h0 hb pre a _ E w ha.tail hf.2 hs (h hf.1)
 |.op .rd i::pre,a,H,E,w,ha,hf,hs,h=>by
  obtain⟨o,v,h1,h2,h3⟩:=h
  exact hb o v a (ha.head h1) (qc Φ h0 hb pre _ H E w ha.tail hf hs h3)
 |.op .pu i::pre,a,H,E,w,ha,hf,hs,h=>by
  obtain⟨o,v,h1,h2,h3⟩:=h
  exact hb o v a (ha.head h1) (qc Φ h0 hb pre _ H E w ha.tail hf hs h3)
 |.op .al i::pre,a,H,E,w,ha,hf,hs,h=>by
  obtain⟨o,p,h1,h2,h3,h4⟩:=h
  obtain⟨nx,w',H',q1,q2,q3⟩:=zG (o:=o) h3 (oQ pre H) E w hs
  cases nx<;>simp only[oJ]at q3
  case value v=>
   obtain⟨b,hb1,rfl,rfl⟩:=q3
   obtain⟨q4,q5⟩:=sO pre (k:=p.2) hf hb1
   exact hb o _ a (ha.head h1) (qc Φ h0 hb pre _ _ E w' ha.tail q4 (q2.mono q5.le) (h4 b (aG.of_le (lu pre hf) hb1)))
  case skip=>
   obtain⟨b,hb1,hv,rfl⟩:=q3
   obtain⟨q4,q5⟩:=sO pre (k:=p.2) hf hb1
   exact hb o _ a (ha.head h1) (qc Φ h0 hb pre _ _ E w' ha.tail q4 (q2.mono q5.le) (h4 b (aG.of_le (lu pre hf) hb1)))
  case enter f args=>
   obtain⟨e,w'',fr,⟨v,H2,_,q4,b,hb1,_,rfl⟩,_⟩:=q3 E w' q2 []
   obtain⟨q5,q6⟩:=sO pre (k:=p.2) hf hb1
   exact hb o _ a (ha.head h1) (qc Φ h0 hb pre _ _ E w'' ha.tail q5 (q4.mono q6.le) (h4 b (aG.of_le (lu pre hf) hb1)))
 |.op .ch i::pre,a,H,E,w,ha,hf,hs,h=>by
  obtain⟨o,N,h1,h2,h3⟩:=h
  obtain⟨E1,q1,q2⟩:=Sat.CP pre (H:=H) hf hs
  obtain⟨a',w',v,H',rfl,q3,q4⟩:=Pz (h2 E1 w q1)
  obtain⟨q5,q6⟩:=q2 _ _ q3
  exact hb o v a (ha.head h1) (qc Φ h0 hb pre _ H' E w' ha.tail q6 q5 (h3 v H' q4).2)
section
variable (hsel:∀ (j:Nat) (o:Oper) cs b,ops[j]?=some o→o.op≠.select cs b)
include hsel
theorem CQ {c:Cl} {i:Nat} {oi:Oper} {v:Value} {post:List En} (hc:c=.rd∨c=.pu) (hi:ops[i]?=some oi) (hne:∃ w,CX Hc c w):∀ (pre:List En) (a:Act) (H:AH),Rt ops oi pre→
  GG P ops Hc m R (pre++.op c i::post) a H→RY P ops (CX Hc c) oi v a→GG P ops Hc m R (pre++post) (a.put oi.dst v) H
 | [],a,H,_,h,hy=>by
  have:∃ o v,ops[i]?=some o∧RY P ops (CX Hc c) o v a∧GG P ops Hc m R post (a.put o.dst v) H:=by
   rcases hc with rfl | rfl<;>exact h
  obtain⟨o,v',h1,h2,h3⟩:=this
  rw[hi]at h1;cases h1
  rw[hy.uniq hne h2];exact h3
 |.ea b k::pre,a,H,ha,h,hy=>fun hb=>CQ hc hi hne pre a _ ha.tail (h hb) hy
 |.op .rd j::pre,a,H,ha,h,hy=>by
  obtain⟨o,u,h1,h2,h3⟩:=h
  have hap:=ha.head h1
  refine⟨o,u,h1,h2.put' hap.symm (fun cs b=>hsel j o cs b h1) v,?_⟩
  rw[Act.put_comm a v u hap.symm.2.1]
  exact CQ hc hi hne pre _ H ha.tail h3 (hy.put' hap (fun cs b=>hsel i oi cs b hi) u)
 |.op .pu j::pre,a,H,ha,h,hy=>by
  obtain⟨o,u,h1,h2,h3⟩:=h
  have hap:=ha.head h1
  refine⟨o,u,h1,h2.put' hap.symm (fun cs b=>hsel j o cs b h1) v,?_⟩
  rw[Act.put_comm a v u hap.symm.2.1]
  exact CQ hc hi hne pre _ H ha.tail h3 (hy.put' hap (fun cs b=>hsel i oi cs b hi) u)
 |.op .al j::pre,a,H,ha,h,hy=>by
  obtain⟨o,p,h1,h2,h3,h4⟩:=h
  have hap:=ha.head h1
  refine⟨o,p,h1,h2,by rw[qO hap.symm];exact h3,fun b hb=>?_⟩
  rw[Act.put_comm a v (p.1 b) hap.symm.2.1]
  exact CQ hc hi hne pre _ _ ha.tail (h4 b hb) (hy.put' hap (fun cs b=>hsel i oi cs b hi) _)
 |.op .ch j::pre,a,H,ha,h,hy=>by
  obtain⟨o,N,h1,h2,h3⟩:=h
  have hap:=ha.head h1
  refine⟨o,N,h1,h2.put' h1 hap.symm (fun cs b=>hsel j o cs b h1) v,fun u H' hN=>⟨(h3 u H' hN).1,?_⟩⟩
  rw[Act.put_comm a v u hap.symm.2.1]
  exact CQ hc hi hne pre _ _ ha.tail (h3 u H' hN).2 (hy.put' hap (fun cs b=>hsel i oi cs b hi) u)
theorem CS {i:Nat} {oi:Oper} {p:(Nat→Value)×iD} {b:Nat} {post:List En} (hi:ops[i]?=some oi):∀ (pre:List En) (a:Act) (H:AH),Rt ops oi pre→
  GG P ops Hc m R (pre++.op .al i::post) a H→LG P oi.op a.eval=some p→GG P ops Hc m R (pre++.ea b p.2::post) (a.put oi.dst (p.1 b)) H
 | [],a,H,_,h,hy=>by
  obtain⟨o,p',h1,h2,h3,h4⟩:=h
  rw[hi]at h1;cases h1
  rw[hy]at h3;cases h3
  exact fun hb=>h4 b hb
 |.ea b' k::pre,a,H,ha,h,hy=>fun hb=>CS hi pre a _ ha.tail (h hb) hy
 |.op .rd j::pre,a,H,ha,h,hy=>by
  obtain⟨o,u,h1,h2,h3⟩:=h
  have hap:=ha.head h1
  refine⟨o,u,h1,h2.put' hap.symm (fun cs b=>hsel j o cs b h1) _,?_⟩
  rw[Act.put_comm a _ u hap.symm.2.1]
  exact CS hi pre _ H ha.tail h3 (by rw[qO hap];exact hy)
 |.op .pu j::pre,a,H,ha,h,hy=>by
  obtain⟨o,u,h1,h2,h3⟩:=h
  have hap:=ha.head h1
  refine⟨o,u,h1,h2.put' hap.symm (fun cs b=>hsel j o cs b h1) _,?_⟩
  rw[Act.put_comm a _ u hap.symm.2.1]
  exact CS hi pre _ H ha.tail h3 (by rw[qO hap];exact hy)
 |.op .al j::pre,a,H,ha,h,hy=>by
  obtain⟨o,p',h1,h2,h3,h4⟩:=h
  have hap:=ha.head h1
  refine⟨o,p',h1,h2,by rw[qO hap.symm];exact h3,fun b' hb=>?_⟩
  rw[Act.put_comm a _ (p'.1 b') hap.symm.2.1]
  exact CS hi pre _ _ ha.tail (h4 b' hb) (by rw[qO hap];exact hy)
 |.op .ch j::pre,a,H,ha,h,hy=>by
  obtain⟨o,N,h1,h2,h3⟩:=h
  have hap:=ha.head h1
  refine⟨o,N,h1,h2.put' h1 hap.symm (fun cs b=>hsel j o cs b h1) _,fun u H' hN=>⟨(h3 u H' hN).1,?_⟩⟩
  rw[Act.put_comm a _ u hap.symm.2.1]
  exact CS hi pre _ _ ha.tail (h3 u H' hN).2 (by rw[qO hap];exact hy)
def soft:List En→Prop
 | []=>True
 |.ea ..::l=>soft l
 |.op c _::l=>(c=.rd∨c=.pu)∧soft l
def strip:List En→List En
 | []=>[]
 |.ea ..::l=>strip l
 |.op c i::l=>.op c i::strip l
theorem IZ {j:Nat} {oj:Oper} {post:List En} (hj:ops[j]?=some oj):∀ (pre:List En) (a:Act) (H:AH),Rt ops oj pre→soft pre→zy pre H→
  GG P ops Hc m R (pre++.op .ch j::post) a H→∃ N,GH P ops j oj a (oQ pre H) N∧∀ v H',N v H'→(j<m→Hc.le H')∧GG P ops Hc m R (strip pre++post) (a.put oj.dst v) H'
 | [],a,H,_,_,_,h=>by
  obtain⟨o,N,h1,h2,h3⟩:=h
  rw[hj]at h1;cases h1
  exact⟨N,h2,h3⟩
 |.ea b k::pre,a,H,ha,hsf,hf,h=>IZ hj pre a _ ha.tail hsf hf.2 (h hf.1)
 |.op .rd i::pre,a,H,ha,hsf,hf,h=>by
  obtain⟨o,u,h1,h2,h3⟩:=h
  have hap:=ha.head h1
  obtain⟨N,q1,q2⟩:=IZ hj pre _ H ha.tail hsf.2 hf h3
  refine⟨N,q1.back' hj hap (fun cs b=>hsel j oj cs b hj) u,fun v H' hN=>⟨(q2 v H' hN).1,o,u,h1,h2.put' hap.symm (fun cs b=>hsel i o cs b h1) v,?_⟩⟩
  rw[Act.put_comm a v u hap.symm.2.1]
  exact(q2 v H' hN).2
 |.op .pu i::pre,a,H,ha,hsf,hf,h=>by
  obtain⟨o,u,h1,h2,h3⟩:=h
  have hap:=ha.head h1
  obtain⟨N,q1,q2⟩:=IZ hj pre _ H ha.tail hsf.2 hf h3
  refine⟨N,q1.back' hj hap (fun cs b=>hsel j oj cs b hj) u,fun v H' hN=>⟨(q2 v H' hN).1,o,u,h1,h2.put' hap.symm (fun cs b=>hsel i o cs b h1) v,?_⟩⟩
  rw[Act.put_comm a v u hap.symm.2.1]
  exact(q2 v H' hN).2
 |.op .al i::pre,a,H,ha,hsf,hf,h=>by rcases hsf.1 with e | e<;>cases e
 |.op .ch i::pre,a,H,ha,hsf,hf,h=>by rcases hsf.1 with e | e<;>cases e
end
theorem yh:∀ (pre post:List En) (H:AH),oQ (strip pre++post) H=oQ post H
 | [],_,_=>rfl
 |.ea b k::pre,post,H=>yh pre post H
 |.op c i::pre,post,H=>yh pre post H
theorem yj:∀ (pre post:List En) (H:AH),zy (strip pre++post) H↔zy post H
 | [],_,_=>Iff.rfl
 |.ea b k::pre,post,H=>yj pre post H
 |.op c i::pre,post,H=>yj pre post H
theorem l7:∀ (pre:List En),ids (strip pre)=ids pre
 | []=>rfl
 |.ea b k::pre=>l7 pre
 |.op c i::pre=>by rw[strip,mW,mW,l7 pre]
theorem rJ:∀ (pre:List En) (c:Cl) (i:Nat),En.op c i∈strip pre↔En.op c i∈pre
 | [],_,_=>Iff.rfl
 |.ea b k::pre,c,i=>by rw[strip,rJ pre];simp
 |.op c' i'::pre,c,i=>by rw[strip,List.mem_cons,List.mem_cons,rJ pre]
theorem LH:∀ (l:List En) (a:Act) (H:AH),ids l=[]→zy l H→GG P ops Hc m R l a H→R a (oQ l H)
 | [],_,_,_,_,h=>h
 |.ea b k::l,a,H,hi,hf,h=>LH l a _ hi hf.2 (h hf.1)
 |.op c i::l,a,H,hi,hf,h=>by rw[mW]at hi;cases hi
theorem yu:∀ {es:List En} {i:Nat},i∈ids es→∃ pre c post,es=pre++.op c i::post
 | [],_,h=>by simp[ids]at h
 |.ea b k::l,i,h=>by
  obtain⟨pre,c,post,rfl⟩:=yu (es:=l) h
  exact⟨.ea b k::pre,c,post,rfl⟩
 |.op c j::l,i,h=>by
  rw[mW]at h
  by_cases e:i=j
  ·subst e;exact⟨[],c,l,rfl⟩
  ·obtain⟨pre,c',post,rfl⟩:=yu (es:=l) (by
    rcases List.mem_cons.1 h with h | h
    ·exact absurd h e
    ·exact h)
   exact⟨.op c j::pre,c',post,rfl⟩
def lC (ops:Array Oper) (i j:Nat):Bool:=Region.waitsFor .any ops i j
def Y6 (ops:Array Oper) (uO:List Nat):Bool:=
 (List.range ops.size).all fun j=>uO.getD j 0==(List.range j).foldl (fun m y=>if lC ops j y then m ||| ((1 <<< y) ||| uO.getD y 0) else m) 0
def uP (uO:List Nat) (j i:Nat):Bool:=(uO.getD j 0).testBit i
def VT (ops:Array Oper) (cls:List Cl) (uO:List Nat) (m:Nat):Bool:=
 Region.noSelect ops&&decide (cls.length=ops.size)&&Y6 ops uO &&
 ((List.range ops.size).all fun i=>match ops[i]? with | some o=>o.after.all fun e=>!Region.binds .any e || decide (e.on<i) | none=>true) &&
 ((List.range ops.size).all fun j=>(List.range j).all fun i=>uP uO j i || match ops[i]?,ops[j]? with | some oi,some oj=>oi.apart ops oj | _,_=>true) &&
 ((List.range ops.size).all fun j=>decide (cls[j]?≠some .ch) || (List.range j).all fun i=>decide (cls[i]?≠some .ch∧cls[i]?≠some .al) || uP uO j i) &&
 ((List.range ops.size).all fun j=>decide (j<m) || decide (cls[j]?≠some .ch) || (List.range ops.size).all fun i=>decide (cls[i]?≠some .rd) || uP uO j i)
theorem I4 (f:Nat→Bool) (g:Nat→Nat) (i:Nat):∀ (l:List Nat) (m:Nat),(l.foldl (fun m y=>if f y then m ||| ((1 <<< y) ||| g y) else m) m).testBit i=true→m.testBit i=true∨∃ y∈l,f y=true∧(y=i∨(g y).testBit i=true)
 | [],m,h=>.inl h
 |y::l,m,h=>by
  rw[List.foldl_cons]at h
  rcases I4 f g i l _ h with h | ⟨z,hz,h1,h2⟩
  ·split at h
   ·rename_i hf
    rw[Nat.testBit_or,Nat.testBit_or,Bool.or_eq_true,Bool.or_eq_true]at h
    rcases h with h | h | h
    ·exact .inl h
    ·refine .inr ⟨y,by simp,hf,.inl ?_⟩
     rw[Nat.one_shiftLeft,Nat.testBit_two_pow]at h
     simpa using h
    ·exact .inr ⟨y,by simp,hf,.inr h⟩
   ·exact .inl h
  ·exact .inr ⟨z,by simp[hz],h1,h2⟩
theorem I5 {ops:Array Oper} {uO:List Nat} (hB:Y6 ops uO=true) {D:Nat→Prop} (hD:∀ x y,D x→lC ops x y=true→D y) :
  ∀ (j:Nat),j<ops.size→(∀ y,lC ops j y=true→D y)→∀ i,uP uO j i=true→D i:=by
 intro j
 induction j using Nat.strongRecOn with
 |_ j ih=>
  intro hj hw i hi
  have h1:=List.all_eq_true.1 hB j (List.mem_range.2 hj)
  simp only[beq_iff_eq]at h1
  unfold uP at hi
  rw[h1]at hi
  rcases I4 _ _ i _ _ hi with h | ⟨y,hy,h2,h3⟩
  ·simp at h
  ·have hyj:=List.mem_range.1 hy
   have hDy:=hw y h2
   rcases h3 with rfl | h3
   ·exact hDy
   ·exact ih y hyj (by omega) (fun z hz=>hD y z hDy hz) i h3
structure GInv (ops:Array Oper) (cls:List Cl) (ls:Array Bool) (es:List En):Prop where
 size:ls.size=ops.size
 mem:∀ i,i∈ids es↔i<ops.size∧ls.getD i true=false
 pw:(ids es).Pairwise (·<·)
 kind:∀ c i,En.op c i∈es→cls[i]?=some c
 clo:∀ x y,ls.getD x false=true→lC ops x y=true→ls.getD y false=true
theorem GInv.step {ops:Array Oper} {cls:List Cl} {ls:Array Bool} {pre post mid:List En} {c:Cl} {i:Nat} (inv:GInv ops cls ls (pre++.op c i::post))
  (hw:∀ y,lC ops i y=true→ls.getD y false=true) (hm:ids mid=[]) (hk:∀ c i,En.op c i∉mid):GInv ops cls (ls.setIfInBounds i true) (pre++(mid++post)):=by
 have LJ:ids (pre++.op c i::post)=ids pre++i::ids post:=by rw[gY,mW]
 have I7:ids (pre++(mid++post))=ids pre++ids post:=by rw[gY,gY,hm,List.nil_append]
 have hpw:=inv.pw
 rw[LJ]at hpw
 have hi:i<ops.size:=((inv.mem i).1 (by rw[LJ];simp)).1
 refine⟨by simp[inv.size],fun j=>?_,?_,fun c' j hj=>?_,fun x y hx hxy=>?_⟩
 ·rw[I7]
  have h1:=inv.mem j
  rw[LJ]at h1
  by_cases e:j=i
  ·subst e
   have hd:=List.pairwise_append.1 hpw
   have n1:j∉ids pre:=fun h=>by have:=hd.2.2 j h j (by simp);omega
   have n2:j∉ids post:=fun h=>by have:=(List.pairwise_cons.1 hd.2.1).1 j h;omega
   rw[wO (by rw[inv.size];exact hi)]
   simp[n1,n2]
  ·rw[getD_set_ne true (Ne.symm e),←h1]
   simp[e]
 ·rw[I7]
  exact hpw.sublist (List.Sublist.append_left (List.sublist_cons_self _ _) _)
 ·refine inv.kind c' j ?_
  rcases List.mem_append.1 hj with h | h
  ·exact List.mem_append_left _ h
  ·rcases List.mem_append.1 h with h | h
   ·exact absurd h (hk _ _)
   ·exact List.mem_append_right _ (List.mem_cons_of_mem _ h)
 ·by_cases e:x=i
  ·subst e;exact getD_set_true (hw y hxy)
  ·rw[getD_set_ne false (Ne.symm e)]at hx
   exact getD_set_true (inv.clo x y hx hxy)
theorem VU {cls:List Cl} {uO:List Nat} {Hc:AH} {E:Nat→Option Obj} {m:Nat} {R:Act→AH→Prop} {Q:Exit→Act→World→Prop} (hB:VT ops cls uO m=true) (hR:∀ a H w,R a H→Sat E H w→Q .normal a w) :
  ∀ (f:Nat) (ls:Array Bool) (es:List En) (a:Act) (H:AH) (w:World),f=(ids es).length→GInv ops cls ls es→Sat E (oQ es H) w→zy es H→
   ((∃ i,En.op .rd i∈es)→Hc.le H)→GG P ops Hc m R es a H→wpAny P .any ops Q f ls a w:=by
 simp only[VT,Bool.and_eq_true,decide_eq_true_eq,List.all_eq_true,List.mem_range]at hB
 obtain⟨⟨⟨⟨⟨⟨hns,hlen⟩,Y7⟩,hback⟩,hapart⟩,hchain⟩,abt⟩:=hB
 have hsel:∀ (j:Nat) (o:Oper) cs b,ops[j]?=some o→o.op≠.select cs b:=Region.noSelect_spec hns
 have back:∀ i y,lC ops i y=true→y<i:=fun i y h=>by
  obtain⟨o,ho,e,he,hb,heq⟩:=Region.waitsFor_spec h
  have hlt:=(Array.getElem?_eq_some_iff.1 ho).1
  have h1:=hback i hlt
  rw[ho]at h1
  have h2:=Array.all_eq_true'.1 h1 e he
  rw[←heq];simpa [hb]using h2
 have CU:∀ i o e,ops[i]?=some o→e∈o.after→Region.binds .any e=true→lC ops i e.on=true:=fun i o e ho he hb=>by
  unfold lC Region.waitsFor
  rw[ho]
  exact Array.any_eq_true'.2 ⟨e,he,by simp[hb]⟩
 intro f
 induction f with
 |zero=>
  intro ls es a H w hf inv hs hfr hrd hG
  have h1:ids es=[]:=List.eq_nil_of_length_eq_zero hf.symm
  refine⟨?_,hR _ _ _ (LH es a H h1 hfr hG) hs⟩
  cases hr:Region.ready .any ops ls with
  |nil=>rfl
  |cons i l=>
   obtain⟨hun,o,ho,_⟩:=mem_ready.1 (show i∈Region.ready .any ops ls by rw[hr];simp)
   have hlt:=(Array.getElem?_eq_some_iff.1 ho).1
   exact absurd ((inv.mem i).2 ⟨hlt,hun⟩) (by rw[h1];simp)
 |succ f ih=>
  intro ls es a H w hf inv hs hfr hrd hG
  refine⟨fun h0=>?_,fun i hi=>?_⟩
  ·exfalso
   cases hq:ids es with
   |nil=>rw[hq]at hf;cases hf
   |cons h tl=>
    have hh:=(inv.mem h).1 (by rw[hq];simp)
    have:h∈Region.ready .any ops ls:=mem_ready.2 ⟨hh.2,ops[h]'hh.1,Array.getElem?_eq_getElem hh.1,fun e he hb=>by
     have hw:=CU h _ e (Array.getElem?_eq_getElem hh.1) he hb
     have hlt:=back h _ hw
     refine EZ (by rw[inv.size];omega) fun hun=>?_
     have hm:=(inv.mem e.on).2 ⟨by omega,hun⟩
     have hpw:=inv.pw
     rw[hq]at hm hpw
     rcases List.mem_cons.1 hm with h7 | h7
     ·omega
     ·have:=(List.pairwise_cons.1 hpw).1 _ h7;omega⟩
    rw[h0]at this;cases this
  ·obtain⟨hun,oi,hoi,hall⟩:=mem_ready.1 hi
   have hlt:=(Array.getElem?_eq_some_iff.1 hoi).1
   have hwd:∀ y,lC ops i y=true→ls.getD y false=true:=fun y h=>by
    obtain⟨o,ho,e,he,hb,heq⟩:=Region.waitsFor_spec h
    rw[hoi]at ho;cases ho
    rw[←heq];exact hall e he hb
   have hmem:=(inv.mem i).2 ⟨hlt,hun⟩
   obtain⟨pre,c,post,rfl⟩:=yu hmem
   have LK:(ids (pre++.op c i::post)).length=(ids pre).length+(ids post).length+1:=by rw[gY,mW];simp;omega
   have E5:∀ h,h∈ids (pre++.op c i::post)→uP uO i h=false:=fun h hh=>by
    cases ha:uP uO i h with
    |false=>rfl
    |true=>
     have hd:=I5 Y7 (D:=fun x=>ls.getD x false=true) inv.clo i hlt hwd h ha
     have hu:=(inv.mem h).1 hh
     have hls:h<ls.size:=by rw[inv.size];exact hu.1
     have e1:ls[h]?=some ls[h]:=Array.getElem?_eq_getElem hls
     have hu2:=hu.2
     simp only[Array.getD_eq_getD_getElem?,e1,Option.getD_some]at hd hu2
     rw[hd]at hu2;cases hu2
   have hpw:=inv.pw
   rw[gY,mW]at hpw
   have yw:∀ h,h∈ids pre→h<i:=fun h hh=>(List.pairwise_append.1 hpw).2.2 h hh i (by simp)
   have CV:Rt ops oi pre:=fun h oh hh ho=>by
    have h1:=hapart i hlt h (yw h hh)
    rw[E5 h (by rw[gY];exact List.mem_append_left _ hh),ho,hoi]at h1
    exact Oper.apart_spec (by simpa using h1)
   have hkc:cls[i]?=some c:=inv.kind c i (by simp)
   have hfp:=(kG _ _ _).1 hfr
   have hwo:∀ {K:Act→World→Prop},wpOp P ops Q0 i K a w→wpOp P ops Q i K a w:=fun h=>CJ (fun⟨_,_,h⟩=>h) h
   rw[kF]at hs
   have CW:∀ (hc:c=.rd∨c=.pu),wpOp P ops Q i (wpAny P .any ops Q f (ls.setIfInBounds i true)) a w:=fun hc=>by
    have hCC:CX Hc c w:=by
     have h2:H.le (oQ post (oQ pre H)):=AH.le_trans (lu pre hfp.1) (lu post hfp.2)
     rcases hc with rfl | rfl
     ·exact⟨E,hs.mono (AH.le_trans (hrd ⟨i,by simp⟩) h2)⟩
     ·trivial
    obtain⟨v,hy⟩:=qc (e:=.op c i) (post:=post) (oi:=oi) (Φ:=fun a=>∃ v,RY P ops (CX Hc c) oi v a) (fun a H hg=>by
      have:∃ o v,ops[i]?=some o∧RY P ops (CX Hc c) o v a∧GG P ops Hc m R post (a.put o.dst v) H:=by
       rcases hc with rfl | rfl<;>exact hg
      obtain⟨o,v,h1,h2,_⟩:=this
      rw[hoi]at h1;cases h1
      exact⟨v,h2⟩) (fun oh u a hap ⟨v,hv⟩=>⟨v,hv.back' hap (fun cs b=>hsel i oi cs b hoi) u⟩) pre a H _ w CV hfp.1 (hs.mono (lu post hfp.2)) hG
    have hG':=CQ hsel hc hoi ⟨w,hCC⟩ pre a H CV hG hy
    refine hy.wpOp hoi hCC (ih _ (pre++post) _ H w (by rw[LK]at hf;rw[gY,List.length_append];omega) ?_ (by rw[kF];exact hs) ((kG _ _ _).2 hfp) (fun⟨j,hj⟩=>hrd ⟨j,by
     rcases List.mem_append.1 hj with h | h
     ·exact List.mem_append_left _ h
     ·exact List.mem_append_right _ (List.mem_cons_of_mem _ h)⟩) hG')
    exact inv.step hwd (mid:=[]) rfl (fun _ _ h=>by cases h)
   cases c with
   |rd=>exact CW (.inl rfl)
   |pu=>exact CW (.inr rfl)
   |al=>
    obtain⟨p,hg,hp⟩:=qc (e:=.op .al i) (post:=post) (oi:=oi) (Φ:=fun a=>∃ p,oi.guard=none∧LG P oi.op a.eval=some p) (fun a H hg=>by
      obtain⟨o,p,h1,h2,h3,_⟩:=hg
      rw[hoi]at h1;cases h1
      exact⟨p,h2,h3⟩) (fun oh u a hap ⟨p,h1,h2⟩=>⟨p,h1,by rw[←qO hap u];exact h2⟩) pre a H _ w CV hfp.1 (hs.mono (lu post hfp.2)) hG
    unfold wpOp
    simp only[hoi]
    have hwant:Region.wanted oi (yielded ops a.tmps)=true:=by unfold Region.wanted;rw[hg]
    simp only[hwant,if_true]
    refine .inl ?_
    obtain⟨nx,w',H',q1,q2,q3⟩:=zG (o:=oi) hp (oQ post (oQ pre H)) E w hs
    have fin:∀ b w'',aG (oQ post (oQ pre H)) b→Sat E ((oQ post (oQ pre H)).add b p.2) w''→wpAny P .any ops Q f (ls.setIfInBounds i true) (a.put oi.dst (p.1 b)) w'':=fun b w'' hb hsb=>by
     have hG':=CS hsel (b:=b) hoi pre a H CV hG hp
     obtain⟨r1,r2⟩:=sO post (k:=p.2) hfp.2 hb
     refine ih _ (pre++.ea b p.2::post) _ H w'' (by rw[LK]at hf;rw[gY,Rq,List.length_append];omega) ?_ ?_ ((kG _ _ _).2 ⟨hfp.1,aG.of_le (lu post hfp.2) hb,r1⟩) (fun⟨j,hj⟩=>hrd ⟨j,by
      rcases List.mem_append.1 hj with h | h
      ·exact List.mem_append_left _ h
      ·rcases List.mem_cons.1 h with h | h
       ·cases h
       ·exact List.mem_append_right _ (List.mem_cons_of_mem _ h)⟩) hG'
     ·exact inv.step hwd (mid:=[.ea b p.2]) rfl (fun _ _ h=>by simp at h)
     ·rw[kF];exact hsb.mono r2.le
    unfold Oper.wp
    rw[q1]
    cases nx<;>simp only[oJ]at q3<;>simp only[Oper.upon]
    case value v=>obtain⟨b,hb,rfl,rfl⟩:=q3;exact fin b w' hb q2
    case skip=>obtain⟨b,hb,hv,rfl⟩:=q3;rw[hv];exact fin b w' hb q2
    case enter fn args=>
     refine(q3 E w' q2).mono ?_
     rintro e w'' ⟨v,H2,rfl,h2,b,hb,rfl,rfl⟩
     exact fin b w'' hb h2
   |ch=>
    have Ru:soft pre:=by
     have key:∀ l:List En,(∀ c j,En.op c j∈l→c=.rd∨c=.pu)→soft l:=fun l=>by
      induction l with
      |nil=>intro _;trivial
      |cons e l ihl=>
       intro h
       cases e with
       |op c j=>exact⟨h c j (by simp),ihl fun c j hj=>h c j (List.mem_cons_of_mem _ hj)⟩
       |ea b k=>exact ihl fun c j hj=>h c j (List.mem_cons_of_mem _ hj)
     refine key pre fun c j hj=>?_
     have hjm:j∈ids pre:=List.mem_filterMap.2 ⟨_,hj,rfl⟩
     have hji:=yw j hjm
     have h1:=hchain i hlt
     simp only[Bool.or_eq_true,decide_eq_true_eq,List.all_eq_true,List.mem_range]at h1
     rcases h1 with h1 | h1
     ·exact absurd hkc h1
     ·have h2:=h1 j hji
      have hkj:=inv.kind c j (List.mem_append_left _ hj)
      rw[E5 j (by rw[gY];exact List.mem_append_left _ hjm)]at h2
      simp only[Bool.false_eq_true,or_false]at h2
      rw[hkj]at h2
      cases c<;>simp at h2 ⊢
    obtain⟨N,q1,q2⟩:=IZ hsel hoi pre a H CV Ru hfp.1 hG
    obtain⟨E1,q3,q4⟩:=Sat.CP post (H:=oQ pre H) hfp.2 hs
    refine hwo (sK ?_ (q1 E1 w q3))
    rintro a' w' ⟨v,H',rfl,h1,h2⟩
    obtain⟨r1,r2⟩:=q4 _ _ h1
    obtain⟨r3,r4⟩:=q2 v H' h2
    have oU:(∃ k,En.op .rd k∈strip pre++post)→Hc.le H':=fun⟨k,hk⟩=>by
     refine r3 ?_
     have hk':En.op .rd k∈pre++.op .ch i::post:=by
      rcases List.mem_append.1 hk with h | h
      ·exact List.mem_append_left _ ((rJ _ _ _).1 h)
      ·exact List.mem_append_right _ (List.mem_cons_of_mem _ h)
     have hkm:k∈ids (pre++.op .ch i::post):=List.mem_filterMap.2 ⟨_,hk',rfl⟩
     have h5:=abt i hlt
     simp only[Bool.or_eq_true,decide_eq_true_eq,List.all_eq_true,List.mem_range]at h5
     rcases h5 with (h5 | h5) | h5
     ·exact h5
     ·exact absurd hkc h5
     ·have:=h5 k ((inv.mem k).1 hkm).1
      rw[E5 k hkm,inv.kind _ _ hk']at this
      simp at this
    refine ih _ (strip pre++post) _ H' w' (by rw[LK]at hf;rw[gY,l7,List.length_append];omega) ?_ (by rw[yh];exact r1) ((yj _ _ _).2 r2) oU r4
    ·have h6:=inv.step hwd (mid:=[]) rfl (fun _ _ h=>by cases h)
     refine⟨h6.size,fun j=>?_,?_,fun c j hj=>h6.kind c j ?_,h6.clo⟩
     ·rw[←h6.mem j,gY,gY,l7];rfl
     ·have:=h6.pw
      rw[gY]at this
      rw[gY,l7];exact this
     ·rcases List.mem_append.1 hj with h | h
      ·exact List.mem_append_left _ ((rJ _ _ _).1 h)
      ·exact List.mem_append_right _ h
theorem E8 (P:Program) {α:Type} (s:Sem α):∀ (w0:World) (a:α) (w:World),dZ P s ⟨{ w0 with heap:=#[] },[]⟩=some a→s.run P w=.ok a w:=by
 induction s with
 |pure a=>intro w0 x w h;simp only[dZ,Option.some.injEq]at h;subst h;rfl
 |load m a k ih=>
  intro w0 x w h
  simp only[dZ]at h
  split at h
  ·rename_i v hv
   simp[AH.rd,AH.find,qC]at hv
  ·cases h
 |shape r k ih=>
  intro w0 x w h
  simp only[dZ]at h
  split at h
  ·rename_i v hv
   simp[AH.UR,AH.find,qC]at hv
  ·cases h
 |frozen r k ih=>
  intro w0 x w h
  simp only[dZ]at h
  split at h
  ·rename_i v hv
   simp[AH.UG,AH.find,qC]at hv
  ·cases h
 |program k ih=>intro w0 x w h;simp only[dZ]at h;simp only[Sem.run];exact ih _ _ _ _ h
 |mark m k ih=>intro w0 x w h;simp only[dZ]at h;simp only[Sem.run];exact ih _ _ _ h
 |_=>intro w0 x w h;simp only[dZ]at h;cases h
def AH.bare (H:AH):AH:=⟨{ H.w0 with heap:=#[] },[]⟩
def Y8:Op→Bool
 |.alloc _ | .buildSlice .. | .makeMap _ none | .box ..=>true
 |_=>false
theorem NC {o:Oper} {fr:Fr} {H:AH} {k:Value→AH→Prop} (ha:Y8 o.op=true) (h:XR false P fr H o k):∃ p,LG P o.op (kC fr)=some p∧∀ b,aG H b→k (p.1 b) (H.add b p.2):=by
 obtain⟨dst,op,ty,pos,af,g⟩:=o
 cases op<;>simp only[Y8]at ha<;>try (cases ha;done)
 case alloc t=>
  obtain⟨_,h⟩:=h
  unfold wo at h
  split at h
  ·rename_i cs hz
   exact⟨(fun b=>.pointer (some ⟨b,0,none⟩),.cells cs t cs.length),by simp only[LG,hz];rfl,h⟩
  ·exact h.elim
 case buildSlice t len ps=>
  obtain⟨_,_,h⟩:=h
  unfold Vu wo at h
  split at h
  ·rename_i s hz
   obtain⟨h1,h2,h⟩:=h
   split at h
   ·rename_i cs hc
    exact⟨(fun b=>.slice (some ⟨b,0,none⟩) len len,.cells cs s.1 cs.length),by simp only[LG,hz,Option.bind_some];rw[if_pos ⟨h1,h2⟩,hc];rfl,h⟩
   ·exact h.elim
  ·exact h.elim
 case makeMap t r=>
  cases r with
  |some x=>cases ha
  |none=>exact⟨_,rfl,h.2⟩
 case box t x=>exact⟨_,rfl,h.2.2⟩
def CY:List Cl→List Oper→Bool
 | [],[]=>true
 |c::cs,o::l=>(match c with | .al=>o.guard.isNone&&Y8 o.op | .ch=>true | _=>Py o.op)&&CY cs l
 |_,_=>false
section
variable {n:Nat} {ds:List (Option Tmp)}
def gw (P:Program) (n:Nat) (ds:List (Option Tmp)) (Hc:AH) (m:Nat):Nat→List Cl→List Oper→Fr→AH→(Fr→AH→Prop)→Prop
 |i,.rd::cs,o::l,fr,H,K=>fG true P n ds [o] fr Hc fun fr _=>gw P n ds Hc m (i+1) cs l fr H K
 |i,.pu::cs,o::l,fr,H,K=>fG true P n ds [o] fr Hc.bare fun fr _=>gw P n ds Hc m (i+1) cs l fr H K
 |i,.al::cs,o::l,fr,H,K=>fG false P n ds [o] fr H fun fr H=>gw P n ds Hc m (i+1) cs l fr H K
 |i,.ch::cs,o::l,fr,H,K=>fG false P n ds [o] fr H fun fr H=>(i<m→Hc.le H)∧gw P n ds Hc m (i+1) cs l fr H K
 |_,_,_,fr,H,K=>K fr H
theorem abv {i:Nat} {cs:List Cl} {o:Oper} {l:List Oper} {fr:Fr} {H:AH} {K:Fr→AH→Prop}:gw P n ds Hc m i (.rd::cs) (o::l) fr H K=fG true P n ds [o] fr Hc fun fr _=>gw P n ds Hc m (i+1) cs l fr H K:=Eq.trans rfl rfl
theorem abw {i:Nat} {cs:List Cl} {o:Oper} {l:List Oper} {fr:Fr} {H:AH} {K:Fr→AH→Prop}:gw P n ds Hc m i (.pu::cs) (o::l) fr H K=fG true P n ds [o] fr Hc.bare fun fr _=>gw P n ds Hc m (i+1) cs l fr H K:=Eq.trans rfl rfl
theorem abx {i:Nat} {cs:List Cl} {o:Oper} {l:List Oper} {fr:Fr} {H:AH} {K:Fr→AH→Prop}:gw P n ds Hc m i (.al::cs) (o::l) fr H K=fG false P n ds [o] fr H fun fr H=>gw P n ds Hc m (i+1) cs l fr H K:=Eq.trans rfl rfl
theorem aby {i:Nat} {cs:List Cl} {o:Oper} {l:List Oper} {fr:Fr} {H:AH} {K:Fr→AH→Prop}:gw P n ds Hc m i (.ch::cs) (o::l) fr H K=fG false P n ds [o] fr H fun fr H=>(i<m→Hc.le H)∧gw P n ds Hc m (i+1) cs l fr H K:=Eq.trans rfl rfl
theorem Y9 {i:Nat} {fr:Fr} {H:AH} {K:Fr→AH→Prop}:gw P n ds Hc m i [] [] fr H K=K fr H:=by simp[gw]
theorem yx {o:Oper} {fr:Fr} {Hx:AH} {a:Act} {K:Fr→AH→Prop} (hds:ds=ops.toList.map (·.dst)) (hr:Py o.op=true)
  (h:fG true P n ds [o] fr Hx K) (hf:kU n fr a):∃ v,((Region.wanted o (yielded ops a.tmps)=true∧dZ P (execOp a.eval o) Hx=some (.value v))∨(Region.wanted o (yielded ops a.tmps)=false∧v=undef))∧∃ fr',kU n fr' (a.put o.dst v)∧K fr' Hx:=by
 obtain⟨d,op,ty,pos,af,g⟩:=o
 cases g with
 |none=>
  obtain⟨h1,h2⟩:=h
  obtain⟨a1,a2,a3⟩:=o9 h2
  obtain⟨v,hv,hk⟩:=Rn (by exact hr) h2
  have hok:wV n fr ⟨d,op,ty,pos,af,none⟩=true:=by simp only[wV,a1,a2,h1];rfl
  exact⟨v,.inl ⟨rfl,by rw[hf.exec hok];exact hv⟩,_,hf.put h1 v,hk⟩
 |some jw=>
  obtain⟨j,want⟩:=jw
  simp only[fG]at h
  cases hj:ds[j]? with
  |none=>rw[hj]at h;exact h.elim
  |some t=>
   rw[hj]at h
   cases t with
   |none=>exact h.elim
   |some t=>
    simp only[mP]at h
    cases hb:qC t fr with
    |none=>rw[hb]at h;exact h.elim
    |some b=>
     rw[hb]at h
     simp only[mP]at h
     have same:∀ c:Bool,b=.bool c→kU n ((t,.bool c)::fr) a:=fun c hc=>⟨hf.defers,hf.size,fun t' v' h'=>by
      rw[nV]at h'
      split at h'
      ·rename_i e;subst e;cases h';exact hf.vals _ _ (by rw[hb,hc])
      ·exact hf.vals _ _ h'⟩
     have hgd:∀ gg,mM ds fr ⟨d,op,ty,pos,af,some (j,want)⟩=some gg→Region.wanted ⟨d,op,ty,pos,af,some (j,want)⟩ (yielded ops a.tmps)=gg:=fun gg hgg=>mO hf (by rw[←hds];exact hgg)
     have yes:∀ fr',kU n fr' a→Region.wanted ⟨d,op,ty,pos,af,some (j,want)⟩ (yielded ops a.tmps)=true→(EO n d=true∧XR true P fr' Hx ⟨d,op,ty,pos,af,none⟩ (fun v H'=>K (wU d v fr') H'))→
       ∃ v,((Region.wanted ⟨d,op,ty,pos,af,some (j,want)⟩ (yielded ops a.tmps)=true∧dZ P (execOp a.eval ⟨d,op,ty,pos,af,some (j,want)⟩) Hx=some (.value v))∨(Region.wanted ⟨d,op,ty,pos,af,some (j,want)⟩ (yielded ops a.tmps)=false∧v=undef))∧∃ fr',kU n fr' (a.put d v)∧K fr' Hx:=fun fr' hf' hw ⟨h1,h2⟩=>by
      obtain⟨a1,a2,a3⟩:=o9 h2
      obtain⟨v,hv,hk⟩:=Rn (by exact hr) h2
      have hok:wV n fr' ⟨d,op,ty,pos,af,none⟩=true:=by simp only[wV,a1,a2,h1];rfl
      exact⟨v,.inl ⟨hw,by
       have:execOp a.eval ⟨d,op,ty,pos,af,some (j,want)⟩=execOp a.eval ⟨d,op,ty,pos,af,none⟩:=rfl
       rw[this,hf'.exec hok];exact hv⟩,_,hf'.put h1 v,hk⟩
     have no:∀ fr',kU n fr' a→Region.wanted ⟨d,op,ty,pos,af,some (j,want)⟩ (yielded ops a.tmps)=false→(EO n d=true∧K (wU d undef fr') Hx)→
       ∃ v,((Region.wanted ⟨d,op,ty,pos,af,some (j,want)⟩ (yielded ops a.tmps)=true∧dZ P (execOp a.eval ⟨d,op,ty,pos,af,some (j,want)⟩) Hx=some (.value v))∨(Region.wanted ⟨d,op,ty,pos,af,some (j,want)⟩ (yielded ops a.tmps)=false∧v=undef))∧∃ fr',kU n fr' (a.put d v)∧K fr' Hx:=fun fr' hf' hw ⟨h1,h2⟩=>
      ⟨undef,.inr ⟨hw,rfl⟩,_,hf'.put h1 undef,h2⟩
     cases b with
     |bool b=>
      have e1:=hgd (b==want) (by simp only[mM,hj,Option.bind_some,id,hb])
      simp only[ag]at h
      by_cases hbw:b=want
      ·exact yes _ (same want (by rw[hbw])) (by rw[e1];simpa using hbw) (h.1 hbw)
      ·exact no _ (same (!want) (by cases b<;>cases want<;>simp_all)) (by rw[e1];simpa using hbw) (h.2 hbw)
     |_=>
      have e1:=hgd false (by simp only[mM,hj,Option.bind_some,id,hb])
      simp only[ag]at h
      exact no _ hf e1 h
def ents:Nat→List Cl→List En
 |_,[]=>[]
 |k,c::cs=>.op c k::ents (k+1) cs
def RR (n:Nat) (Q:Exit→Fr→AH→Prop) (a:Act) (H:AH):Prop:=∃ fr H0,kU n fr a∧H0.le H∧Q .normal fr H0
theorem Fb {Q:Exit→Fr→AH→Prop} (hds:ds=ops.toList.map (·.dst)):∀ (cs:List Cl) (l:List Oper) (k:Nat) (fr:Fr) (H:AH) (a:Act),CY cs l=true→(∀ j,j<l.length→l[j]?=ops[k+j]?)→
  gw P n ds Hc m k cs l fr H (Q .normal)→kU n fr a→GG P ops Hc m (RR n Q) (ents k cs) a H
 | [],[],k,fr,H,a,_,_,h,hf=>⟨fr,H,hf,AH.le_refl _,h⟩
 | [],_::_,_,_,_,_,hc,_,_,_=>by simp[CY]at hc
 |_::_,[],_,_,_,_,hc,_,_,_=>by simp[CY]at hc
 |c::cs,o::l,k,fr,H,a,hc,hl,h,hf=>by
  simp only[CY,Bool.and_eq_true]at hc
  have ho:ops[k]?=some o:=by simpa using (hl 0 (by simp)).symm
  have hl':∀ j,j<l.length→l[j]?=ops[k+1+j]?:=fun j hj=>by
   have:=hl (j+1) (by simp;omega)
   rw[show k+1+j=k+(j+1) from by omega,←this];rfl
  cases c with
  |rd=>
   obtain⟨v,h1,fr',h2,h3⟩:=yx hds hc.1 h hf
   refine⟨o,v,ho,?_,Fb hds cs l (k+1) fr' H _ hc.2 hl' h3 h2⟩
   rcases h1 with ⟨h1,h4⟩ | h1
   ·exact .inl ⟨h1,fun w ⟨E,hw⟩=>pU P _ Hc _ w h4 hw⟩
   ·exact .inr h1
  |pu=>
   obtain⟨v,h1,fr',h2,h3⟩:=yx hds hc.1 h hf
   refine⟨o,v,ho,?_,Fb hds cs l (k+1) fr' H _ hc.2 hl' h3 h2⟩
   rcases h1 with ⟨h1,h4⟩ | h1
   ·exact .inl ⟨h1,fun w _=>E8 P _ Hc.w0 _ w h4⟩
   ·exact .inr h1
  |al=>
   simp only[Bool.and_eq_true]at hc
   obtain⟨⟨hg,hal⟩,hc2⟩:=hc
   obtain⟨d,op,ty,pos,af,g⟩:=o
   cases g with
   |some g=>cases hg
   |none=>
    obtain⟨h1,h2⟩:=h
    obtain⟨a1,a2,a3⟩:=o9 h2
    obtain⟨p,hp,hk⟩:=NC (o:=⟨d,op,ty,pos,af,none⟩) hal h2
    refine⟨_,p,ho,rfl,?_,fun b hb=>Fb hds cs l (k+1) _ _ _ hc2 hl' (hk b hb) (hf.put h1 _)⟩
    rw[←hp]
    refine zD fun x hx=>hf.eval ?_
    have:=List.all_eq_true.1 a1 x (by simpa using hx)
    exact this
  |ch=>
   have h2:=jK _ _ _ h
   simp only[xI]at h2
   split at h2
   ·exact h2.elim
   ·rename_i g hg
    rw[hds]at hg
    have hw:=mO hf hg
    rw[←hds]at hg
    cases g with
    |true=>
     obtain⟨hok,h1⟩:=h2.1 rfl
     have hd:EO n o.dst=true:=by simp only[wV,Bool.and_eq_true]at hok;exact hok.2
     refine⟨o,fun v H'=>(k<m→Hc.le H')∧gw P n ds Hc m (k+1) cs l (wU o.dst v (xH ds fr o true)) H' (Q .normal),ho,fun E w hs=>?_,fun v H' hN=>⟨hN.1,Fb hds cs l (k+1) _ H' _ hc.2 hl' hN.2 ((hf.xH hg).put hd v)⟩⟩
     unfold wpOp
     simp only[ho,hw,if_true]
     exact .inl ((Gs h1).wp (hf.xH hg) hok hs fun v H' w' hk hs'=>⟨v,H',rfl,hs',hk⟩)
    |false=>
     obtain⟨hd,h1⟩:=h2.2 rfl
     refine⟨o,fun v H'=>v=undef∧H'=H,ho,fun E w hs=>?_,fun v H' hN=>?_⟩
     ·unfold wpOp
      simp only[ho,hw,Bool.false_eq_true,if_false]
      exact⟨undef,H,rfl,hs,rfl,rfl⟩
     ·obtain⟨rfl,rfl⟩:=hN
      exact⟨h1.1,Fb hds cs l (k+1) _ _ _ hc.2 hl' h1.2 ((hf.xH hg).put hd _)⟩
theorem yA:∀ (cs:List Cl) (k:Nat),ids (ents k cs)=List.range' k cs.length
 | [],_=>rfl
 |c::cs,k=>by rw[ents,mW,yA cs (k+1),List.length_cons,List.range'_succ]
theorem Fe:∀ (cs:List Cl) (k:Nat) (c:Cl) (i:Nat),En.op c i∈ents k cs→k≤i∧cs[i - k]?=some c
 | [],_,_,_,h=>by cases h
 |c'::cs,k,c,i,h=>by
  rcases List.mem_cons.1 h with h | h
  ·cases h;simp
  ·obtain⟨h1,h2⟩:=Fe cs (k+1) c i h
   refine⟨by omega,?_⟩
   rw[show i - k=(i - (k+1))+1 from by omega];simpa using h2
theorem CZ:∀ (cs:List Cl) (k:Nat) (H:AH),oQ (ents k cs) H=H∧zy (ents k cs) H
 | [],_,_=>⟨rfl,trivial⟩
 |c::cs,k,H=>CZ cs (k+1) H
theorem fZ.gen {id:Nat} {l:List Oper} {Q:Exit→Fr→AH→Prop} {fr:Fr} {H:AH} (cs:List Cl) (uO:List Nat) (m:Nat) (Hc:AH) (hm:P.follows .mixedOrders=true) (hB:(VT l.toArray cs uO m&&CY cs l)=true) (hc:Hc.le H)
  (h:nd (l.map (·.dst)) fun ds=>gw P n ds Hc m 0 cs l fr H (Q .normal)):fZ P n (.region id l.toArray true) Q fr H:=by
 intro E a w hf hs
 rw[Bool.and_eq_true]at hB
 have h':gw P n (l.toArray.toList.map (·.dst)) Hc m 0 cs l fr H (Q .normal):=h
 have hlen:cs.length=l.length:=by
  have:=hB.1
  simp only[VT,Bool.and_eq_true,decide_eq_true_eq]at this
  simpa using this.1.1.1.1.1.2
 refine wp_region_any hm ?_
 have hs':Sat E H { w with drawn:=w.drawn+1 }:=hs.drew
 have hG:=Fb (ops:=l.toArray) (Hc:=Hc) (m:=m) (P:=P) (n:=n) (Q:=Q) rfl cs l 0 fr H a hB.2 (fun j hj=>by simp) h' hf
 refine VU (E:=E) (cls:=cs) (uO:=uO) (Q:=AQ E n Q) hB.1 (fun a H w ⟨fr,H0,h1,h2,h3⟩ hs=>⟨fr,H0,h1,hs.mono h2,h3⟩) _ _ (ents 0 cs) a H _ ?_ ?_ (by rw[(CZ cs 0 H).1];exact hs') (CZ cs 0 H).2 (fun _=>hc) hG
 ·rw[yA];simp[hlen]
 ·refine⟨by simp,fun i=>?_,by rw[yA];exact List.pairwise_lt_range',fun c i hci=>(Fe cs 0 c i hci).2,fun x y hx=>?_⟩
  ·rw[yA,List.mem_range'_1]
   constructor
   ·intro hh;exact⟨by simp;omega,by rw[getD_in (by simp;omega) (getD_replicate_false _ _)]⟩
   ·intro hh;have:=hh.1;simp at this;omega
  ·rw[getD_replicate_false]at hx;cases hx
theorem fZ.jE {P:Program} {n:Nat} {c:Code} {Q:Exit→Fr→AH→Prop} {fr:Fr} {H:AH} {ι:Type} (V:ι→AH→Prop) (F:ι→Fr) (μ:ι→Nat) (i0:ι) (A0:AH)
  (hv:V i0 A0) (hf:bZ (F i0) fr) (hh:A0.le H)
  (round:∀ i A,V i A→∀ Q':Exit→Fr→AH→Prop,(∀ i' fr A' VW,V i' A'→bZ (F i') fr→A'.le VW→μ i'<μ i→Q' .normal fr VW)→(∀ e fr H,e≠.normal→Q e fr H→Q' e fr H)→
   xW P n c Q' (F i) A):fZ P n (.loop c) Q fr H:=
 fZ.loop (fun i fr H=>fr=F i∧V i H) μ i0 ⟨_,_,hf,hh,rfl,hv⟩ fun i fr H ⟨h1,h2⟩=>by
  subst h1
  exact round i H h2 _ (fun i' _ A' _ h1 h2 h3 h4=>⟨i',_,A',h2,h3,⟨rfl,h1⟩,h4⟩) (fun e _ _ he hq=>by cases e<;>first | exact absurd rfl he | exact hq)
end
end
end Go.AX
/- The words of the engine as_ one simp set. -/
namespace Go.AX
open Go Go.RowKit
theorem abz:IntKind.i64.wrap (0)=0:=by decide
theorem abA:IntKind.i64.wrap (1)=1:=by decide
attribute [go_sem] abz abA
attribute [go_sem] AH.le_refl
attribute [go_sem ↓] yg EY aH aN YO YP abh
attribute [go_sem ↓] abj VA YQ QJ YR YS Ld IB OZ QK EK Le
attribute [go_sem ↓] IC IE QL QM QN O1 QO QS abk
attribute [go_sem ↓] O4 O5 YT QT YU VB YV O6 O7 YW IG IJ
attribute [go_sem ↓] Lh Lj Bc VD VE VF VG VH VI abl
attribute [go_sem ↓] YX Gx IK O8 QU IL QV abm abn abo abp
attribute [go_sem ↓] YH QC UY UZ QD nV QE aff afg QF Vh
attribute [go_sem ↓] Vj KR Vo Vr KW KX QG QH Vp VJ
attribute [go_sem ↓] VN Y0 Y1 VL QZ Q5
attribute [go_sem ↓] Ir OW EI Iu gZ rE fO BQ xJ KQ ah abv
attribute [go_sem ↓] abw abx aby Y9
attribute [go_sem] VK QY Pg Ph Pj Pm iF
attribute [go_sem] EW YI YJ Nw QX O9 Vl xO Bo U1 U2
attribute [go_sem] U3 U4 U5 U6 U7 U8 U9 Va Vb Vd Ve Vf
attribute [go_sem] YK Vg Gu AZ xM mP
attribute [go_sem] UW aa9 YZ abq OU OV OX KT IQ Ll
attribute [go_sem] Lm Gy Lp Gz Q7 Pn Po Q8
attribute [go_sem] Lr EG EH Vs Vt
attribute [go_sem] gJ vT Q9 Ny Cj VP Rf Pv LD
attribute [go_sem ↓] List.map_cons List.map_nil
attribute [go_sem] List.length_set List.set_set Int.natCast_nonneg Nat.zero_add Nat.add_zero Nat.zero_mul Nat.mul_one true_and and_true and_self or_false false_or false_and Option.bind_some Option.map_some
attribute [go_sem] Option.isNone_some Option.isNone_none Option.isSome_some Option.isSome_none Option.some.injEq List.length_cons List.length_nil List.getElem?_cons_zero List.getElem?_cons_succ List.set_cons_zero List.set_cons_succ List.all_cons
attribute [go_sem] List.all_nil Bool.and_true Bool.true_and Bool.and_self List.drop_zero List.drop_succ_cons List.take_succ_cons List.take_zero List.append_nil List.nil_append List.cons_append ne_eq
attribute [go_sem] not_false_eq_true not_true_eq_false decide_eq_true_eq decide_eq_false_iff_not beq_iff_eq beq_eq_false_iff_ne bne_iff_ne bne_eq_false_iff_eq forall_const false_implies true_implies implies_true
attribute [go_sem] Bool.true_eq_false Bool.false_eq_true Nat.lt_irrefl Nat.le_refl List.zip_cons_cons List.zip_nil_right List.zip_nil_left List.size_toArray List.getElem?_toArray Int.toNat_zero Bool.not_true Bool.not_false
attribute [go_sem] Nat.add_left_cancel_iff bne_self_eq_false decide_true decide_false beq_self_eq_true Bool.true_beq Bool.false_beq Int.ofNat_eq_natCast Int.cast_ofNat_Int List.length_map Int.toNat_natCast List.take_of_length_le
def ND:Option TypeDesc→Bool
 |some (.interface _)=>true
 |none=>true
 |_=>false
theorem Rw {P:Program} {H:AH} {t:TypeId} {a:Value} {k:Value→Prop} (h:ND (P.underlying t)=false):jC P H (Instr.makeInterface t a) k=nv (.iface t a) k:=by
 unfold jC Instr.makeInterface
 rw[bW,bT]
 cases hu:P.underlying t with
 |none=>rw[hu]at h;cases h
 |some u=>rw[hu]at h;cases u<;>first | (cases h;done) | rfl
attribute [go_sem] Rw
attribute [go_sem_proc ↓] reduceIte
attribute [go_sem_proc] Nat.reduceEqDiff Nat.reduceLT Nat.reduceLeDiff Nat.reduceAdd Nat.reduceMul Nat.reduceSub reduceCtorEq Int.reduceToNat Int.reduceLT Int.reduceLE Int.reduceEq Int.reduceNe Int.reduceBEq Nat.reduceBEq Int.reduceBNe Nat.reduceBNe Int.reduceAdd Int.reduceSub Int.reduceMul Int.reduceNeg
end Go.AX
/- Closed facts on the types and functions of the translation, reckoned by the kernel. Written by a program of this session. -/
namespace Go.Proofs.YtbhamhhjicehaaaGreatDoor.Ty
open Go Go.AX Go.Proofs
@[go_sem ↓] theorem alj:Tryz.prog.cellsOf 3=1:=by kernel_rfl
@[go_sem ↓] theorem uy:gJ (Tryz.prog.underlying 3)=some false:=by kernel_rfl
@[go_sem ↓] theorem abB:Tryz.prog.cellsOf 4=1:=by kernel_rfl
@[go_sem ↓] theorem afm:gJ (Tryz.prog.underlying 4)=some false:=by kernel_rfl
@[go_sem ↓] theorem afn:Tryz.prog.cellsOf 5=1:=by kernel_rfl
@[go_sem ↓] theorem I8:gJ (Tryz.prog.underlying 5)=some false:=by kernel_rfl
@[go_sem ↓] theorem ah0:ny Tryz.prog 22=4:=by kernel_rfl
@[go_sem ↓] theorem ah1:ny Tryz.prog 23=2:=by kernel_rfl
@[go_sem ↓] theorem ah2:ny Tryz.prog 25=1:=by kernel_rfl
@[go_sem ↓] theorem ah3:ny Tryz.prog 26=1:=by kernel_rfl
@[go_sem ↓] theorem ah4:Tryz.prog.cellsOf 27=1:=by kernel_rfl
@[go_sem ↓] theorem ah5:gJ (Tryz.prog.underlying 27)=some false:=by kernel_rfl
@[go_sem ↓] theorem ah6:ny Tryz.prog 27=1:=by kernel_rfl
@[go_sem ↓] theorem ah7:ny Tryz.prog 28=1:=by kernel_rfl
@[go_sem ↓] theorem ah8:ny Tryz.prog 29=1:=by kernel_rfl
@[go_sem ↓] theorem ah9:Tryz.prog.cellsOf 32=1:=by kernel_rfl
@[go_sem ↓] theorem aia:gJ (Tryz.prog.underlying 32)=some false:=by kernel_rfl
@[go_sem ↓] theorem aib:ND (Tryz.prog.underlying 32)=false:=by kernel_rfl
@[go_sem ↓] theorem aic:qE Tryz.prog 32=some [(.int .i64 0)]:=by kernel_rfl
@[go_sem ↓] theorem aie:Tryz.prog.cellsOf 36=1:=by kernel_rfl
@[go_sem ↓] theorem aif:gJ (Tryz.prog.underlying 36)=some false:=by kernel_rfl
@[go_sem ↓] theorem aii:ny Tryz.prog 36=2:=by kernel_rfl
@[go_sem ↓] theorem aij:Tryz.prog.cellsOf 46=1:=by kernel_rfl
@[go_sem ↓] theorem aik:gJ (Tryz.prog.underlying 46)=some false:=by kernel_rfl
@[go_sem ↓] theorem ail:ny Tryz.prog 46=3:=by kernel_rfl
@[go_sem ↓] theorem abC:Tryz.prog.cellsOf 47=1:=by kernel_rfl
@[go_sem ↓] theorem ain:gJ (Tryz.prog.underlying 47)=some false:=by kernel_rfl
@[go_sem ↓] theorem aio:qE Tryz.prog 50=some [(.slice none 0 0),(.int .i64 0)]:=by kernel_rfl
@[go_sem ↓] theorem aeh:lq Tryz.prog 50 0=some 0:=by kernel_rfl
@[go_sem ↓] theorem aei:lI Tryz.prog 50 0=some (0,1):=by kernel_rfl
@[go_sem ↓] theorem aej:lq Tryz.prog 50 1=some 1:=by kernel_rfl
@[go_sem ↓] theorem aek:lI Tryz.prog 50 1=some (1,1):=by kernel_rfl
@[go_sem ↓] theorem aip:oK Tryz.prog 50=true:=by kernel_rfl
@[go_sem ↓] theorem aiq:Tryz.prog.cellsOf 51=1:=by kernel_rfl
@[go_sem ↓] theorem air:gJ (Tryz.prog.underlying 51)=some false:=by kernel_rfl
@[go_sem ↓] theorem abD:Tryz.prog.cellsOf 58=1:=by kernel_rfl
@[go_sem ↓] theorem ais:gJ (Tryz.prog.underlying 58)=some false:=by kernel_rfl
@[go_sem ↓] theorem ait:ny Tryz.prog 58=5:=by kernel_rfl
@[go_sem ↓] theorem aiu:Tryz.prog.cellsOf 59=1:=by kernel_rfl
@[go_sem ↓] theorem aiv:gJ (Tryz.prog.underlying 59)=some false:=by kernel_rfl
@[go_sem ↓] theorem aiw:ny Tryz.prog 59=2:=by kernel_rfl
@[go_sem ↓] theorem ael:lq Tryz.prog 61 0=some 0:=by kernel_rfl
@[go_sem ↓] theorem aem:lq Tryz.prog 61 1=some 1:=by kernel_rfl
@[go_sem ↓] theorem aen:lq Tryz.prog 61 2=some 2:=by kernel_rfl
@[go_sem ↓] theorem aeo:lq Tryz.prog 61 3=some 3:=by kernel_rfl
@[go_sem ↓] theorem aix:Tryz.prog.cellsOf 63=1:=by kernel_rfl
@[go_sem ↓] theorem aiy:gJ (Tryz.prog.underlying 63)=some false:=by kernel_rfl
@[go_sem ↓] theorem aiz:ny Tryz.prog 63=4:=by kernel_rfl
@[go_sem ↓] theorem aiA:Tryz.prog.cellsOf 65=2:=by kernel_rfl
@[go_sem ↓] theorem aiB:gJ (Tryz.prog.underlying 65)=some true:=by kernel_rfl
@[go_sem ↓] theorem aiC:qE Tryz.prog 65=some [(.int .i64 0),(.slice none 0 0)]:=by kernel_rfl
@[go_sem ↓] theorem aep:lq Tryz.prog 65 0=some 0:=by kernel_rfl
@[go_sem ↓] theorem aer:lI Tryz.prog 65 0=some (0,1):=by kernel_rfl
@[go_sem ↓] theorem aes:lq Tryz.prog 65 1=some 1:=by kernel_rfl
@[go_sem ↓] theorem aeu:lI Tryz.prog 65 1=some (1,1):=by kernel_rfl
@[go_sem ↓] theorem aiD:oK Tryz.prog 65=true:=by kernel_rfl
@[go_sem ↓] theorem Rx:Tryz.prog.cellsOf 67=3:=by kernel_rfl
@[go_sem ↓] theorem aiE:gJ (Tryz.prog.underlying 67)=some true:=by kernel_rfl
@[go_sem ↓] theorem aiF:qE Tryz.prog 67=some [(.int .i64 0),(.int .i64 0),(.slice none 0 0)]:=by kernel_rfl
@[go_sem ↓] theorem aev:lq Tryz.prog 67 0=some 0:=by kernel_rfl
@[go_sem ↓] theorem aew:lI Tryz.prog 67 0=some (0,1):=by kernel_rfl
@[go_sem ↓] theorem aex:lq Tryz.prog 67 1=some 1:=by kernel_rfl
@[go_sem ↓] theorem aey:lI Tryz.prog 67 1=some (1,2):=by kernel_rfl
@[go_sem ↓] theorem aiG:oK Tryz.prog 67=true:=by kernel_rfl
@[go_sem ↓] theorem abE:Tryz.prog.cellsOf 76=4:=by kernel_rfl
@[go_sem ↓] theorem aiH:gJ (Tryz.prog.underlying 76)=some true:=by kernel_rfl
@[go_sem ↓] theorem aiI:ny Tryz.prog 76=1:=by kernel_rfl
@[go_sem ↓] theorem aiJ:qE Tryz.prog 76=some [(.int .u8 0),(.int .u8 0),(.int .u8 0),(.int .u8 0)]:=by kernel_rfl
@[go_sem ↓] theorem aiK:oK Tryz.prog 76=true:=by kernel_rfl
@[go_sem ↓] theorem aez:lI Tryz.prog 76 0=some (0,1):=by kernel_rfl
@[go_sem ↓] theorem aeA:lI Tryz.prog 76 1=some (1,1):=by kernel_rfl
@[go_sem ↓] theorem aeB:lI Tryz.prog 76 2=some (2,1):=by kernel_rfl
@[go_sem ↓] theorem aeC:lI Tryz.prog 76 3=some (3,1):=by kernel_rfl
@[go_sem ↓] theorem abG:Tryz.prog.cellsOf 78=5:=by kernel_rfl
@[go_sem ↓] theorem aiL:gJ (Tryz.prog.underlying 78)=some true:=by kernel_rfl
@[go_sem ↓] theorem aiM:qE Tryz.prog 78=some [(.int .i64 0),(.int .i64 0),(.int .i64 0),(.int .i64 0),(.int .i64 0)]:=by kernel_rfl
@[go_sem ↓] theorem aeD:lq Tryz.prog 78 0=some 0:=by kernel_rfl
@[go_sem ↓] theorem aeE:lI Tryz.prog 78 0=some (0,1):=by kernel_rfl
@[go_sem ↓] theorem aeF:lq Tryz.prog 78 1=some 1:=by kernel_rfl
@[go_sem ↓] theorem aeG:lI Tryz.prog 78 1=some (1,1):=by kernel_rfl
@[go_sem ↓] theorem aeH:lq Tryz.prog 78 2=some 2:=by kernel_rfl
@[go_sem ↓] theorem aeI:lI Tryz.prog 78 2=some (2,1):=by kernel_rfl
@[go_sem ↓] theorem aeJ:lq Tryz.prog 78 3=some 3:=by kernel_rfl
@[go_sem ↓] theorem aeK:lI Tryz.prog 78 3=some (3,1):=by kernel_rfl
@[go_sem ↓] theorem aeL:lq Tryz.prog 78 4=some 4:=by kernel_rfl
@[go_sem ↓] theorem aeM:lI Tryz.prog 78 4=some (4,1):=by kernel_rfl
@[go_sem ↓] theorem aiN:oK Tryz.prog 78=true:=by kernel_rfl
@[go_sem ↓] theorem abH:Tryz.prog.cellsOf 81=2:=by kernel_rfl
@[go_sem ↓] theorem aiO:gJ (Tryz.prog.underlying 81)=some true:=by kernel_rfl
@[go_sem ↓] theorem aiP:qE Tryz.prog 81=some [(.int .i64 0),(.int .i64 0)]:=by kernel_rfl
@[go_sem ↓] theorem aeN:lq Tryz.prog 81 0=some 0:=by kernel_rfl
@[go_sem ↓] theorem aeO:lq Tryz.prog 81 1=some 1:=by kernel_rfl
@[go_sem ↓] theorem aeP:lI Tryz.prog 81 1=some (1,1):=by kernel_rfl
@[go_sem ↓] theorem aiQ:oK Tryz.prog 81=true:=by kernel_rfl
@[go_sem ↓] theorem Ry:Tryz.prog.cellsOf 85=2:=by kernel_rfl
@[go_sem ↓] theorem aiR:gJ (Tryz.prog.underlying 85)=some true:=by kernel_rfl
@[go_sem ↓] theorem aiS:qE Tryz.prog 85=some [(.int .i64 0),(.int .i64 0)]:=by kernel_rfl
@[go_sem ↓] theorem aeQ:lq Tryz.prog 85 0=some 0:=by kernel_rfl
@[go_sem ↓] theorem aeR:lI Tryz.prog 85 0=some (0,1):=by kernel_rfl
@[go_sem ↓] theorem aeS:lq Tryz.prog 85 1=some 1:=by kernel_rfl
@[go_sem ↓] theorem aeT:lI Tryz.prog 85 1=some (1,1):=by kernel_rfl
@[go_sem ↓] theorem aiT:oK Tryz.prog 85=true:=by kernel_rfl
@[go_sem ↓] theorem aiU:Tryz.prog.cellsOf 87=11:=by kernel_rfl
@[go_sem ↓] theorem aiV:gJ (Tryz.prog.underlying 87)=some true:=by kernel_rfl
@[go_sem ↓] theorem aiW:ny Tryz.prog 87=1:=by kernel_rfl
@[go_sem ↓] theorem aiX:qE Tryz.prog 87=some [(.bool false),(.bool false),(.bool false),(.bool false),(.bool false),(.bool false),(.bool false),(.bool false),(.bool false),(.bool false),(.bool false)]:=by kernel_rfl
@[go_sem ↓] theorem aiY:oK Tryz.prog 87=true:=by kernel_rfl
@[go_sem ↓] theorem aiZ:ny Tryz.prog 94=1:=by kernel_rfl
@[go_sem ↓] theorem ai0:ny Tryz.prog 97=1:=by kernel_rfl
@[go_sem ↓] theorem ai1:ny Tryz.prog 98=1:=by kernel_rfl
@[go_sem ↓] theorem afo:Tryz.prog.cellsOf 100=34:=by kernel_rfl
@[go_sem ↓] theorem afp:gJ (Tryz.prog.underlying 100)=some true:=by kernel_rfl
@[go_sem ↓] theorem afq:qE Tryz.prog 100=some [(.int .u8 0),(.int .u8 0),(.int .u8 0),(.int .u8 0),(.int .u8 0),(.int .u8 0),(.int .u8 0),(.int .u8 0),(.int .u8 0),(.int .u8 0),(.int .u8 0),(.int .u8 0),(.int .u8 0),(.int .u8 0),(.int .u8 0),(.int .u8 0),(.int .u8 0),(.bool false),(.bool false),(.bool false),(.bool false),(.bool false),(.bool false),(.bool false),(.bool false),(.bool false),(.bool false),(.bool false),(.bool false),(.bool false),(.bool false),(.bool false),(.bool false),(.bool false)]:=by kernel_rfl
@[go_sem ↓] theorem abI:lq Tryz.prog 100 0=some 0:=by kernel_rfl
@[go_sem ↓] theorem abJ:lq Tryz.prog 100 1=some 17:=by kernel_rfl
@[go_sem ↓] theorem afr:oK Tryz.prog 100=true:=by kernel_rfl
@[go_sem ↓] theorem afs:ny Tryz.prog 106=1:=by kernel_rfl
@[go_sem ↓] theorem aft:Tryz.prog.cellsOf 111=1:=by kernel_rfl
@[go_sem ↓] theorem afu:gJ (Tryz.prog.underlying 111)=some false:=by kernel_rfl
@[go_sem ↓] theorem afv:qE Tryz.prog 113=some [(.map none),(.int .i64 0)]:=by kernel_rfl
@[go_sem ↓] theorem abK:lq Tryz.prog 113 0=some 0:=by kernel_rfl
@[go_sem ↓] theorem abL:lI Tryz.prog 113 0=some (0,1):=by kernel_rfl
@[go_sem ↓] theorem abM:lq Tryz.prog 113 1=some 1:=by kernel_rfl
@[go_sem ↓] theorem abN:lI Tryz.prog 113 1=some (1,1):=by kernel_rfl
@[go_sem ↓] theorem afw:oK Tryz.prog 113=true:=by kernel_rfl
@[go_sem ↓] theorem afx:Tryz.prog.cellsOf 133=2:=by kernel_rfl
@[go_sem ↓] theorem afy:gJ (Tryz.prog.underlying 133)=some true:=by kernel_rfl
@[go_sem ↓] theorem afz:qE Tryz.prog 133=some [(.int .i64 0),(.int .i64 0)]:=by kernel_rfl
@[go_sem ↓] theorem abO:lq Tryz.prog 133 0=some 0:=by kernel_rfl
@[go_sem ↓] theorem abP:lI Tryz.prog 133 0=some (0,1):=by kernel_rfl
@[go_sem ↓] theorem abQ:lq Tryz.prog 133 1=some 1:=by kernel_rfl
@[go_sem ↓] theorem abR:lI Tryz.prog 133 1=some (1,1):=by kernel_rfl
@[go_sem ↓] theorem afA:oK Tryz.prog 133=true:=by kernel_rfl
@[go_sem ↓] theorem afB:Tryz.prog.cellsOf 138=3:=by kernel_rfl
@[go_sem ↓] theorem afC:gJ (Tryz.prog.underlying 138)=some true:=by kernel_rfl
@[go_sem ↓] theorem afD:qE Tryz.prog 138=some [(.int .i64 0),(.int .i64 0),(.int .i64 0)]:=by kernel_rfl
@[go_sem ↓] theorem abS:lq Tryz.prog 138 0=some 0:=by kernel_rfl
@[go_sem ↓] theorem abT:lI Tryz.prog 138 0=some (0,1):=by kernel_rfl
@[go_sem ↓] theorem abU:lq Tryz.prog 138 1=some 1:=by kernel_rfl
@[go_sem ↓] theorem abV:lI Tryz.prog 138 1=some (1,1):=by kernel_rfl
@[go_sem ↓] theorem abW:lq Tryz.prog 138 2=some 2:=by kernel_rfl
@[go_sem ↓] theorem abX:lI Tryz.prog 138 2=some (2,1):=by kernel_rfl
@[go_sem ↓] theorem afE:oK Tryz.prog 138=true:=by kernel_rfl
@[go_sem ↓] theorem Za:Tryz.prog.cellsOf 146=2:=by kernel_rfl
@[go_sem ↓] theorem afF:gJ (Tryz.prog.underlying 146)=some true:=by kernel_rfl
@[go_sem ↓] theorem afG:qE Tryz.prog 146=some [(.int .i64 0),(.int .i64 0)]:=by kernel_rfl
@[go_sem ↓] theorem abY:lq Tryz.prog 146 0=some 0:=by kernel_rfl
@[go_sem ↓] theorem abZ:lq Tryz.prog 146 1=some 1:=by kernel_rfl
@[go_sem ↓] theorem afH:ny Tryz.prog 167=1:=by kernel_rfl
@[go_sem ↓] theorem afI:ND (Tryz.prog.underlying 197)=false:=by kernel_rfl
@[go_sem ↓] theorem afJ:qE Tryz.prog 199=some [(.int .i64 0),.nilIface]:=by kernel_rfl
@[go_sem ↓] theorem ab1:lI Tryz.prog 199 0=some (0,1):=by kernel_rfl
@[go_sem ↓] theorem ab4:lI Tryz.prog 199 1=some (1,1):=by kernel_rfl
@[go_sem ↓] theorem afK:oK Tryz.prog 199=true:=by kernel_rfl
@[go_sem ↓] theorem afL:ND (Tryz.prog.underlying 207)=false:=by kernel_rfl
@[go_sem] theorem ai2 {H:AH} {b o len cap:Nat} {lo hi:Option Value} {K:Value→Prop}:jC Tryz.prog H (Instr.sliceAt 23 (.slice (some ⟨b,o,none⟩) len cap) lo hi none) K=bnd len hi cap fun h=>bnd 0 lo h fun l=>nv (.slice (some ⟨b,if cap=l then o else o+l*Tryz.prog.cellsOf 146,none⟩) (h - l) (cap - l)) K:=jV Tryz.underlying23 (by rw[Za];simp)
@[go_sem] theorem ai3 {H:AH} {a:Option Addr} {len cap:Nat} {hi mx:Value} {K:Value→Prop}:jC Tryz.prog H (Instr.sliceAt 25 (.slice a len cap) none (some hi) (some mx)) K=bnd cap (some mx) cap fun m=>bnd len (some hi) m fun h=>nv (.slice a h m) K:=vU Tryz.underlying25 (by rw[abC];simp)
@[go_sem] theorem ai4 {H:AH} {b o len cap:Nat} {lo hi:Option Value} {K:Value→Prop}:jC Tryz.prog H (Instr.sliceAt 27 (.slice (some ⟨b,o,none⟩) len cap) lo hi none) K=bnd len hi cap fun h=>bnd 0 lo h fun l=>nv (.slice (some ⟨b,if cap=l then o else o+l*Tryz.prog.cellsOf 58,none⟩) (h - l) (cap - l)) K:=jV Tryz.underlying27 (by rw[abD];simp)
@[go_sem] theorem ai5 {H:AH} {b o len cap:Nat} {lo hi:Option Value} {K:Value→Prop}:jC Tryz.prog H (Instr.sliceAt 36 (.slice (some ⟨b,o,none⟩) len cap) lo hi none) K=bnd len hi cap fun h=>bnd 0 lo h fun l=>nv (.slice (some ⟨b,if cap=l then o else o+l*Tryz.prog.cellsOf 85,none⟩) (h - l) (cap - l)) K:=jV Tryz.underlying36 (by rw[Ry];simp)
@[go_sem] theorem ai6 {H:AH} {a:Option Addr} {len cap:Nat} {hi mx:Value} {K:Value→Prop}:jC Tryz.prog H (Instr.sliceAt 36 (.slice a len cap) none (some hi) (some mx)) K=bnd cap (some mx) cap fun m=>bnd len (some hi) m fun h=>nv (.slice a h m) K:=vU Tryz.underlying36 (by rw[Ry];simp)
@[go_sem] theorem ai7 {H:AH} {len cap:Nat} {lo hi:Option Value} {K:Value→Prop}:jC Tryz.prog H (Instr.sliceAt 36 (.slice none len cap) lo hi none) K=bnd len hi cap fun h=>bnd 0 lo h fun l=>nv (.slice none (h - l) (cap - l)) K:=uN Tryz.underlying36 (by rw[Ry];simp)
@[go_sem] theorem ai8 {H:AH} {b o len cap:Nat} {lo hi:Option Value} {K:Value→Prop}:jC Tryz.prog H (Instr.sliceAt 46 (.slice (some ⟨b,o,none⟩) len cap) lo hi none) K=bnd len hi cap fun h=>bnd 0 lo h fun l=>nv (.slice (some ⟨b,if cap=l then o else o+l*Tryz.prog.cellsOf 67,none⟩) (h - l) (cap - l)) K:=jV Tryz.underlying46 (by rw[Rx];simp)
@[go_sem] theorem ai9 {H:AH} {a:Option Addr} {len cap:Nat} {hi mx:Value} {K:Value→Prop}:jC Tryz.prog H (Instr.sliceAt 46 (.slice a len cap) none (some hi) (some mx)) K=bnd cap (some mx) cap fun m=>bnd len (some hi) m fun h=>nv (.slice a h m) K:=vU Tryz.underlying46 (by rw[Rx];simp)
@[go_sem] theorem aja {H:AH} {len cap:Nat} {lo hi:Option Value} {K:Value→Prop}:jC Tryz.prog H (Instr.sliceAt 46 (.slice none len cap) lo hi none) K=bnd len hi cap fun h=>bnd 0 lo h fun l=>nv (.slice none (h - l) (cap - l)) K:=uN Tryz.underlying46 (by rw[Rx];simp)
@[go_sem] theorem ajb {H:AH} {b o len cap:Nat} {lo hi:Option Value} {K:Value→Prop}:jC Tryz.prog H (Instr.sliceAt 58 (.slice (some ⟨b,o,none⟩) len cap) lo hi none) K=bnd len hi cap fun h=>bnd 0 lo h fun l=>nv (.slice (some ⟨b,if cap=l then o else o+l*Tryz.prog.cellsOf 78,none⟩) (h - l) (cap - l)) K:=jV Tryz.underlying58 (by rw[abG];simp)
@[go_sem] theorem ajc {H:AH} {b o len cap:Nat} {lo hi:Option Value} {K:Value→Prop}:jC Tryz.prog H (Instr.sliceAt 59 (.slice (some ⟨b,o,none⟩) len cap) lo hi none) K=bnd len hi cap fun h=>bnd 0 lo h fun l=>nv (.slice (some ⟨b,if cap=l then o else o+l*Tryz.prog.cellsOf 81,none⟩) (h - l) (cap - l)) K:=jV Tryz.underlying59 (by rw[abH];simp)
@[go_sem] theorem ajd {H:AH} {a:Option Addr} {len cap:Nat} {hi mx:Value} {K:Value→Prop}:jC Tryz.prog H (Instr.sliceAt 63 (.slice a len cap) none (some hi) (some mx)) K=bnd cap (some mx) cap fun m=>bnd len (some hi) m fun h=>nv (.slice a h m) K:=vU Tryz.underlying63 (by rw[abE];simp)
@[go_sem] theorem aje {H:AH} {b o:Nat} {lo hi:Option Value} {K:Value→Prop}:jC Tryz.prog H (Instr.sliceAt 87 (.pointer (some ⟨b,o,none⟩)) lo hi none) K=bnd 11 hi 11 fun h=>bnd 0 lo h fun l=>nv (.slice (some ⟨b,if 11=l then o else o+l*Tryz.prog.cellsOf 4,none⟩) (h - l) (11 - l)) K:=Ci Tryz.underlying87 (by rw[abB];simp)
@[go_sem] theorem ajf {H:AH} {cs:Array Value} {k:IntKind} {i:Int} {K:Value→Prop}:jC Tryz.prog H (Instr.index 87 (.agg cs) (.int k i)) K=(0≤i∧i<(11:Nat)∧wo cs[i.toNat*Tryz.prog.cellsOf 4]? fun v=>nv v K):=Cm Tryz.underlying87 (by rw[abB];simp) afm
@[go_sem ↓] theorem Rz:uG Tryz.prog 25=some (47,1,[(.pointer none)],8):=by kernel_rfl
@[go_sem ↓] theorem RD:uG Tryz.prog 26=some (51,1,[(.pointer none)],8):=by kernel_rfl
@[go_sem ↓] theorem ab5:uG Tryz.prog 27=some (58,1,[(.slice none 0 0)],24):=by kernel_rfl
@[go_sem ↓] theorem ab6:uG Tryz.prog 28=some (4,1,[(.bool false)],1):=by kernel_rfl
@[go_sem ↓] theorem ab7:uG Tryz.prog 29=some (59,1,[(.slice none 0 0)],24):=by kernel_rfl
@[go_sem ↓] theorem uQ:uG Tryz.prog 36=some (85,2,[(.int .i64 0),(.int .i64 0)],16):=by kernel_rfl
@[go_sem ↓] theorem Ak:uG Tryz.prog 46=some (67,3,[(.int .i64 0),(.int .i64 0),(.slice none 0 0)],40):=by kernel_rfl
@[go_sem ↓] theorem XT:uG Tryz.prog 58=some (78,5,[(.int .i64 0),(.int .i64 0),(.int .i64 0),(.int .i64 0),(.int .i64 0)],40):=by kernel_rfl
@[go_sem ↓] theorem ajg:uG Tryz.prog 59=some (81,2,[(.int .i64 0),(.int .i64 0)],16):=by kernel_rfl
@[go_sem ↓] theorem C9:uG Tryz.prog 63=some (76,4,[(.int .u8 0),(.int .u8 0),(.int .u8 0),(.int .u8 0)],4):=by kernel_rfl
@[go_sem] theorem aeU {H:AH} {cs:Array Value} {K:Value→Prop}:jC Tryz.prog H (Instr.field 65 (.agg cs) 1) K=wo cs[1]? fun v=>nv v K:=IU (show U0 Tryz.prog 65 1=some (1,1,false) by kernel_rfl)
@[go_sem ↓] theorem NG:KZ Tryz.prog 70=some (.int .i64,(.int .u8 0)):=by kernel_rfl
@[go_sem ↓] theorem ab8:uG Tryz.prog 94=some (36,1,[(.slice none 0 0)],24):=by kernel_rfl
@[go_sem ↓] theorem afM:uG Tryz.prog 106=some (3,1,[(.int .i64 0)],8):=by kernel_rfl
@[go_sem ↓] theorem afN:KZ Tryz.prog 111=some (.int .i64,.agg #[(.int .i64 0),(.slice none 0 0)]):=by kernel_rfl
@[go_sem ↓] theorem Zb:KZ Tryz.prog 130=none:=by kernel_rfl
@[go_sem ↓] theorem afO:uG Tryz.prog 167=some (32,1,[(.int .i64 0)],8):=by kernel_rfl
theorem XU:Tryz.prog.eqGuardType Tryz.prog.depth 76=false:=by kernel_rfl
theorem RG {H:AH} {m:Nat} (a0 b0:Int) (a1 b1:Int) (a2 b2:Int) (a3 b3:Int):dZ Tryz.prog (Op.equalIn (m+2) 76 (.agg #[.int .u8 a0,.int .u8 a1,.int .u8 a2,.int .u8 a3]) (.agg #[.int .u8 b0,.int .u8 b1,.int .u8 b2,.int .u8 b3])) H=some ((a0==b0)&&((a1==b1)&&((a2==b2)&&(a3==b3)))):=by
 have h:=Lu (P:=Tryz.prog) (H:=H) (m:=m+1) (xs:=#[.int .u8 a0,.int .u8 a1,.int .u8 a2,.int .u8 a3]) (ys:=#[.int .u8 b0,.int .u8 b1,.int .u8 b2,.int .u8 b3]) (T:=fun i=>([(a0==b0),(a1==b1),(a2==b2),(a3==b3)]:List Bool).getD i false) Tryz.underlying76 (VO afn (by simp)) (fun i hi=>by
  match i,hi with
  |0,_=>exact⟨(.int .u8 a0),(.int .u8 b0),fU I8 rfl,fU I8 rfl,jD Tryz.underlying5⟩
  |1,_=>exact⟨(.int .u8 a1),(.int .u8 b1),fU I8 rfl,fU I8 rfl,jD Tryz.underlying5⟩
  |2,_=>exact⟨(.int .u8 a2),(.int .u8 b2),fU I8 rfl,fU I8 rfl,jD Tryz.underlying5⟩
  |3,_=>exact⟨(.int .u8 a3),(.int .u8 b3),fU I8 rfl,fU I8 rfl,jD Tryz.underlying5⟩
  |_+4,hi=>omega)
 rw[h];simp[List.range_succ,Bool.and_assoc]
@[go_sem] theorem Zc {H:AH} {u:Option TypeDesc} {x y:Operand} {kk:Value→Prop} {a0 b0:Int} {a1 b1:Int} {a2 b2:Int} {a3 b3:Int}:bin u Tryz.prog H .eql 76 x y (.agg #[.int .u8 a0,.int .u8 a1,.int .u8 a2,.int .u8 a3]) (.agg #[.int .u8 b0,.int .u8 b1,.int .u8 b2,.int .u8 b3]) kk=(u=Tryz.prog.underlying 76∧nv (.bool ((a0==b0)&&((a1==b1)&&((a2==b2)&&(a3==b3))))) kk):=nI (xX XU) rfl fun _=>RG (m:=9998) a0 b0 a1 b1 a2 b2 a3 b3
@[go_sem] theorem Zd {H:AH} {u:Option TypeDesc} {x y:Operand} {kk:Value→Prop} {a0 b0:Int} {a1 b1:Int} {a2 b2:Int} {a3 b3:Int}:bin u Tryz.prog H .neq 76 x y (.agg #[.int .u8 a0,.int .u8 a1,.int .u8 a2,.int .u8 a3]) (.agg #[.int .u8 b0,.int .u8 b1,.int .u8 b2,.int .u8 b3]) kk=(u=Tryz.prog.underlying 76∧nv (.bool (!((a0==b0)&&((a1==b1)&&((a2==b2)&&(a3==b3)))))) kk):=wW (xX XU) rfl fun _=>RG (m:=9998) a0 b0 a1 b1 a2 b2 a3 b3
theorem ab9:Tryz.prog.eqGuardType Tryz.prog.depth 78=false:=by kernel_rfl
theorem acd:Tryz.prog.stoodInHeld 78=false:=by kernel_rfl
theorem Ze {H:AH} {m:Nat} (a0 b0:Int) (a1 b1:Int) (a2 b2:Int) (a3 b3:Int) (a4 b4:Int):dZ Tryz.prog (Op.equalIn (m+2) 78 (.agg #[.int .i64 a0,.int .i64 a1,.int .i64 a2,.int .i64 a3,.int .i64 a4]) (.agg #[.int .i64 b0,.int .i64 b1,.int .i64 b2,.int .i64 b3,.int .i64 b4])) H=some ((a0==b0)&&((a1==b1)&&((a2==b2)&&((a3==b3)&&(a4==b4))))):=by
 have h:=uM (P:=Tryz.prog) (H:=H) (m:=m+1) (xs:=#[.int .i64 a0,.int .i64 a1,.int .i64 a2,.int .i64 a3,.int .i64 a4]) (ys:=#[.int .i64 b0,.int .i64 b1,.int .i64 b2,.int .i64 b3,.int .i64 b4]) (T:=fun f=>if f.offset=0 then (a0==b0) else if f.offset=1 then (a1==b1) else if f.offset=2 then (a2==b2) else if f.offset=3 then (a3==b3) else if f.offset=4 then (a4==b4) else true) Tryz.underlying78 acd (by
  simp only[List.mem_cons,List.not_mem_nil,or_false]
  rintro f (rfl | rfl | rfl | rfl | rfl)
  ·exact⟨by decide,(.int .i64 a0),(.int .i64 b0),fU uy rfl,fU uy rfl,jD Tryz.underlying3⟩
  ·exact⟨by decide,(.int .i64 a1),(.int .i64 b1),fU uy rfl,fU uy rfl,jD Tryz.underlying3⟩
  ·exact⟨by decide,(.int .i64 a2),(.int .i64 b2),fU uy rfl,fU uy rfl,jD Tryz.underlying3⟩
  ·exact⟨by decide,(.int .i64 a3),(.int .i64 b3),fU uy rfl,fU uy rfl,jD Tryz.underlying3⟩
  ·exact⟨by decide,(.int .i64 a4),(.int .i64 b4),fU uy rfl,fU uy rfl,jD Tryz.underlying3⟩)
 rw[h];simp[Bool.and_assoc]
@[go_sem] theorem afP {H:AH} {u:Option TypeDesc} {x y:Operand} {kk:Value→Prop} {a0 b0:Int} {a1 b1:Int} {a2 b2:Int} {a3 b3:Int} {a4 b4:Int}:bin u Tryz.prog H .eql 78 x y (.agg #[.int .i64 a0,.int .i64 a1,.int .i64 a2,.int .i64 a3,.int .i64 a4]) (.agg #[.int .i64 b0,.int .i64 b1,.int .i64 b2,.int .i64 b3,.int .i64 b4]) kk=(u=Tryz.prog.underlying 78∧nv (.bool ((a0==b0)&&((a1==b1)&&((a2==b2)&&((a3==b3)&&(a4==b4)))))) kk):=nI (xX ab9) rfl fun _=>Ze (m:=9998) a0 b0 a1 b1 a2 b2 a3 b3 a4 b4
theorem XV:Tryz.prog.eqGuardType Tryz.prog.depth 85=false:=by kernel_rfl
theorem ace:Tryz.prog.stoodInHeld 85=false:=by kernel_rfl
theorem RH {H:AH} {m:Nat} (a0 b0:Int) (a1 b1:Int):dZ Tryz.prog (Op.equalIn (m+2) 85 (.agg #[.int .i64 a0,.int .i64 a1]) (.agg #[.int .i64 b0,.int .i64 b1])) H=some ((a0==b0)&&(a1==b1)):=by
 have h:=uM (P:=Tryz.prog) (H:=H) (m:=m+1) (xs:=#[.int .i64 a0,.int .i64 a1]) (ys:=#[.int .i64 b0,.int .i64 b1]) (T:=fun f=>if f.offset=0 then (a0==b0) else if f.offset=1 then (a1==b1) else true) Tryz.underlying85 ace (by
  simp only[List.mem_cons,List.not_mem_nil,or_false]
  rintro f (rfl | rfl)
  ·exact⟨by decide,(.int .i64 a0),(.int .i64 b0),fU uy rfl,fU uy rfl,jD Tryz.underlying3⟩
  ·exact⟨by decide,(.int .i64 a1),(.int .i64 b1),fU uy rfl,fU uy rfl,jD Tryz.underlying3⟩)
 rw[h];simp[Bool.and_assoc]
@[go_sem] theorem afQ {H:AH} {u:Option TypeDesc} {x y:Operand} {kk:Value→Prop} {a0 b0:Int} {a1 b1:Int}:bin u Tryz.prog H .eql 85 x y (.agg #[.int .i64 a0,.int .i64 a1]) (.agg #[.int .i64 b0,.int .i64 b1]) kk=(u=Tryz.prog.underlying 85∧nv (.bool ((a0==b0)&&(a1==b1))) kk):=nI (xX XV) rfl fun _=>RH (m:=9998) a0 b0 a1 b1
@[go_sem] theorem afR {H:AH} {u:Option TypeDesc} {x y:Operand} {kk:Value→Prop} {a0 b0:Int} {a1 b1:Int}:bin u Tryz.prog H .neq 85 x y (.agg #[.int .i64 a0,.int .i64 a1]) (.agg #[.int .i64 b0,.int .i64 b1]) kk=(u=Tryz.prog.underlying 85∧nv (.bool (!((a0==b0)&&(a1==b1)))) kk):=wW (xX XV) rfl fun _=>RH (m:=9998) a0 b0 a1 b1
theorem Zf:Tryz.prog.stoodInHeld 133=false:=by kernel_rfl
theorem VX {H:AH} {m:Nat} (a0 b0:Int) (a1 b1:Int):dZ Tryz.prog (Op.equalIn (m+2) 133 (.agg #[.int .i64 a0,.int .i64 a1]) (.agg #[.int .i64 b0,.int .i64 b1])) H=some ((a0==b0)&&(a1==b1)):=by
 have h:=uM (P:=Tryz.prog) (H:=H) (m:=m+1) (xs:=#[.int .i64 a0,.int .i64 a1]) (ys:=#[.int .i64 b0,.int .i64 b1]) (T:=fun f=>if f.offset=0 then (a0==b0) else if f.offset=1 then (a1==b1) else true) Tryz.underlying133 Zf (by
  simp only[List.mem_cons,List.not_mem_nil,or_false]
  rintro f (rfl | rfl)
  ·exact⟨by decide,(.int .i64 a0),(.int .i64 b0),fU uy rfl,fU uy rfl,jD Tryz.underlying3⟩
  ·exact⟨by decide,(.int .i64 a1),(.int .i64 b1),fU uy rfl,fU uy rfl,jD Tryz.underlying3⟩)
 rw[h];simp[Bool.and_assoc]
@[go_sem] theorem alm:fA Tryz.prog 6=true:=by kernel_rfl
@[go_sem] theorem aln:fA Tryz.prog 7=true:=by kernel_rfl
@[go_sem] theorem alo:fA Tryz.prog 8=true:=by kernel_rfl
@[go_sem] theorem alp:fA Tryz.prog 9=true:=by kernel_rfl
@[go_sem] theorem ajh:fA Tryz.prog 10=true:=by kernel_rfl
@[go_sem] theorem aji:fA Tryz.prog 11=true:=by kernel_rfl
@[go_sem] theorem ajj:fA Tryz.prog 13=true:=by kernel_rfl
@[go_sem] theorem ajk:fA Tryz.prog 14=true:=by kernel_rfl
@[go_sem] theorem ajl:fA Tryz.prog 15=true:=by kernel_rfl
@[go_sem] theorem ajm:fA Tryz.prog 16=true:=by kernel_rfl
@[go_sem] theorem ajn:fA Tryz.prog 17=true:=by kernel_rfl
@[go_sem] theorem ajo:fA Tryz.prog 18=true:=by kernel_rfl
@[go_sem] theorem ajp:fA Tryz.prog 19=true:=by kernel_rfl
@[go_sem] theorem ajq:fA Tryz.prog 20=true:=by kernel_rfl
@[go_sem] theorem ajr:fA Tryz.prog 21=true:=by kernel_rfl
@[go_sem] theorem ajs:fA Tryz.prog 22=true:=by kernel_rfl
@[go_sem] theorem ajt:fA Tryz.prog 23=true:=by kernel_rfl
@[go_sem] theorem aju:fA Tryz.prog 24=true:=by kernel_rfl
@[go_sem] theorem ajv:fA Tryz.prog 25=true:=by kernel_rfl
@[go_sem] theorem ajw:fA Tryz.prog 26=true:=by kernel_rfl
@[go_sem] theorem ajx:fA Tryz.prog 27=true:=by kernel_rfl
@[go_sem] theorem ajy:fA Tryz.prog 28=true:=by kernel_rfl
@[go_sem] theorem ajz:fA Tryz.prog 29=true:=by kernel_rfl
@[go_sem] theorem ajA:fA Tryz.prog 30=true:=by kernel_rfl
@[go_sem] theorem ajB:fA Tryz.prog 31=true:=by kernel_rfl
@[go_sem] theorem ajC:fA Tryz.prog 32=true:=by kernel_rfl
@[go_sem] theorem ajD:fA Tryz.prog 33=true:=by kernel_rfl
@[go_sem] theorem ajE:fA Tryz.prog 34=true:=by kernel_rfl
@[go_sem] theorem ajF:fA Tryz.prog 35=true:=by kernel_rfl
@[go_sem] theorem ajG:fA Tryz.prog 37=true:=by kernel_rfl
@[go_sem] theorem ajH:fA Tryz.prog 38=true:=by kernel_rfl
@[go_sem] theorem ajI:fA Tryz.prog 39=true:=by kernel_rfl
@[go_sem] theorem ajJ:fA Tryz.prog 40=true:=by kernel_rfl
@[go_sem] theorem ajK:fA Tryz.prog 41=true:=by kernel_rfl
@[go_sem] theorem ajL:fA Tryz.prog 42=true:=by kernel_rfl
@[go_sem] theorem ajM:fA Tryz.prog 43=true:=by kernel_rfl
@[go_sem] theorem ajN:fA Tryz.prog 44=true:=by kernel_rfl
@[go_sem] theorem ajO:fA Tryz.prog 45=true:=by kernel_rfl
@[go_sem] theorem ajP:fA Tryz.prog 46=true:=by kernel_rfl
@[go_sem] theorem ajQ:fA Tryz.prog 47=true:=by kernel_rfl
@[go_sem] theorem ajR:fA Tryz.prog 48=true:=by kernel_rfl
@[go_sem] theorem ajS:fA Tryz.prog 49=true:=by kernel_rfl
@[go_sem] theorem ajT:fA Tryz.prog 50=true:=by kernel_rfl
@[go_sem] theorem ajU:fA Tryz.prog 51=true:=by kernel_rfl
@[go_sem] theorem ajV:fA Tryz.prog 52=true:=by kernel_rfl
@[go_sem] theorem ajW:fA Tryz.prog 53=true:=by kernel_rfl
@[go_sem] theorem ajX:fA Tryz.prog 54=true:=by kernel_rfl
@[go_sem] theorem ajY:fA Tryz.prog 55=true:=by kernel_rfl
@[go_sem] theorem ajZ:fA Tryz.prog 56=true:=by kernel_rfl
@[go_sem] theorem aj0:fA Tryz.prog 58=true:=by kernel_rfl
@[go_sem] theorem aj1:fA Tryz.prog 59=true:=by kernel_rfl
@[go_sem] theorem aj2:fA Tryz.prog 61=true:=by kernel_rfl
@[go_sem] theorem aj3:fA Tryz.prog 62=true:=by kernel_rfl
@[go_sem] theorem aj6:fA Tryz.prog 63=true:=by kernel_rfl
@[go_sem] theorem aj7:fA Tryz.prog 64=true:=by kernel_rfl
@[go_sem] theorem aj8:fA Tryz.prog 65=true:=by kernel_rfl
@[go_sem] theorem aj9:fA Tryz.prog 66=true:=by kernel_rfl
@[go_sem] theorem akb:fA Tryz.prog 67=true:=by kernel_rfl
@[go_sem] theorem akc:fA Tryz.prog 68=true:=by kernel_rfl
@[go_sem] theorem akd:fA Tryz.prog 69=true:=by kernel_rfl
@[go_sem] theorem ake:fA Tryz.prog 70=true:=by kernel_rfl
@[go_sem] theorem akf:fA Tryz.prog 72=true:=by kernel_rfl
@[go_sem] theorem akg:fA Tryz.prog 75=true:=by kernel_rfl
@[go_sem] theorem akh:fA Tryz.prog 76=true:=by kernel_rfl
@[go_sem] theorem aki:fA Tryz.prog 77=true:=by kernel_rfl
@[go_sem] theorem akj:fA Tryz.prog 78=true:=by kernel_rfl
@[go_sem] theorem akk:fA Tryz.prog 79=true:=by kernel_rfl
@[go_sem] theorem akl:fA Tryz.prog 80=true:=by kernel_rfl
@[go_sem] theorem akm:fA Tryz.prog 81=true:=by kernel_rfl
@[go_sem] theorem akn:fA Tryz.prog 82=true:=by kernel_rfl
@[go_sem] theorem ako:fA Tryz.prog 83=true:=by kernel_rfl
@[go_sem] theorem akp:fA Tryz.prog 84=true:=by kernel_rfl
@[go_sem] theorem akq:fA Tryz.prog 85=true:=by kernel_rfl
@[go_sem] theorem akr:fA Tryz.prog 86=true:=by kernel_rfl
@[go_sem] theorem aks:fA Tryz.prog 90=true:=by kernel_rfl
@[go_sem] theorem akt:fA Tryz.prog 91=true:=by kernel_rfl
@[go_sem] theorem aku:fA Tryz.prog 92=true:=by kernel_rfl
@[go_sem] theorem akv:fA Tryz.prog 93=true:=by kernel_rfl
@[go_sem] theorem akw:fA Tryz.prog 94=true:=by kernel_rfl
@[go_sem] theorem akx:fA Tryz.prog 95=true:=by kernel_rfl
@[go_sem] theorem aky:fA Tryz.prog 96=true:=by kernel_rfl
@[go_sem] theorem akz:fA Tryz.prog 97=true:=by kernel_rfl
@[go_sem] theorem akA:fA Tryz.prog 98=true:=by kernel_rfl
@[go_sem] theorem akB:fA Tryz.prog 99=true:=by kernel_rfl
@[go_sem] theorem afS:fA Tryz.prog 100=true:=by kernel_rfl
@[go_sem] theorem afT:fA Tryz.prog 101=true:=by kernel_rfl
@[go_sem] theorem afU:fA Tryz.prog 102=true:=by kernel_rfl
@[go_sem] theorem afV:fA Tryz.prog 103=true:=by kernel_rfl
@[go_sem] theorem afW:fA Tryz.prog 104=true:=by kernel_rfl
@[go_sem] theorem afX:fA Tryz.prog 105=true:=by kernel_rfl
@[go_sem] theorem afY:fA Tryz.prog 106=true:=by kernel_rfl
@[go_sem] theorem afZ:fA Tryz.prog 107=true:=by kernel_rfl
@[go_sem] theorem Zg:fA Tryz.prog 108=true:=by kernel_rfl
@[go_sem] theorem af0:fA Tryz.prog 109=true:=by kernel_rfl
@[go_sem] theorem af2:fA Tryz.prog 110=true:=by kernel_rfl
@[go_sem] theorem af4:fA Tryz.prog 111=true:=by kernel_rfl
@[go_sem] theorem af5:fA Tryz.prog 112=true:=by kernel_rfl
@[go_sem] theorem af6:fA Tryz.prog 113=true:=by kernel_rfl
@[go_sem] theorem af7:fA Tryz.prog 117=true:=by kernel_rfl
@[go_sem] theorem af8:fA Tryz.prog 118=true:=by kernel_rfl
@[go_sem] theorem af9:fA Tryz.prog 119=true:=by kernel_rfl
@[go_sem] theorem aga:fA Tryz.prog 120=true:=by kernel_rfl
@[go_sem] theorem agb:fA Tryz.prog 123=true:=by kernel_rfl
@[go_sem] theorem agc:fA Tryz.prog 124=true:=by kernel_rfl
@[go_sem] theorem agd:fA Tryz.prog 125=true:=by kernel_rfl
@[go_sem] theorem agf:fA Tryz.prog 126=true:=by kernel_rfl
@[go_sem] theorem agh:fA Tryz.prog 129=true:=by kernel_rfl
@[go_sem] theorem agi:fA Tryz.prog 130=true:=by kernel_rfl
@[go_sem] theorem agj:fA Tryz.prog 133=true:=by kernel_rfl
@[go_sem] theorem agk:fA Tryz.prog 134=true:=by kernel_rfl
@[go_sem] theorem agl:fA Tryz.prog 146=true:=by kernel_rfl
@[go_sem] theorem agm:fA Tryz.prog 156=true:=by kernel_rfl
@[go_sem] theorem agn:fA Tryz.prog 157=true:=by kernel_rfl
@[go_sem] theorem agp:fA Tryz.prog 158=true:=by kernel_rfl
@[go_sem] theorem agq:fA Tryz.prog 159=true:=by kernel_rfl
@[go_sem] theorem agr:fA Tryz.prog 160=true:=by kernel_rfl
@[go_sem] theorem ags:fA Tryz.prog 173=true:=by kernel_rfl
@[go_sem] theorem agt:fA Tryz.prog 174=true:=by kernel_rfl
@[go_sem] theorem agu:fA Tryz.prog 180=true:=by kernel_rfl
theorem mixed:Tryz.prog.follows .mixedOrders=true:=by kernel_rfl
attribute [go_sem] Tryz.underlying0 Tryz.underlying1 Tryz.underlying2 Tryz.underlying3 Tryz.underlying4 Tryz.underlying5 Tryz.underlying6 Tryz.underlying7 Tryz.underlying8 Tryz.underlying9 Tryz.underlying10 Tryz.underlying11 Tryz.underlying12 Tryz.underlying13 Tryz.underlying14 Tryz.underlying15
attribute [go_sem] Tryz.underlying16 Tryz.underlying17 Tryz.underlying18 Tryz.underlying19 Tryz.underlying20 Tryz.underlying21 Tryz.underlying22 Tryz.underlying23 Tryz.underlying24 Tryz.underlying25 Tryz.underlying26 Tryz.underlying27 Tryz.underlying28 Tryz.underlying29 Tryz.underlying30 Tryz.underlying31
attribute [go_sem] Tryz.underlying32 Tryz.underlying33 Tryz.underlying34 Tryz.underlying35 Tryz.underlying36 Tryz.underlying37 Tryz.underlying38 Tryz.underlying39 Tryz.underlying40 Tryz.underlying41 Tryz.underlying42 Tryz.underlying43 Tryz.underlying44 Tryz.underlying45 Tryz.underlying46 Tryz.underlying47
attribute [go_sem] Tryz.underlying48 Tryz.underlying49 Tryz.underlying50 Tryz.underlying51 Tryz.underlying52 Tryz.underlying53 Tryz.underlying54 Tryz.underlying55 Tryz.underlying56 Tryz.underlying57 Tryz.underlying58 Tryz.underlying59 Tryz.underlying60 Tryz.underlying61 Tryz.underlying62 Tryz.underlying63
attribute [go_sem] Tryz.underlying64 Tryz.underlying65 Tryz.underlying66 Tryz.underlying67 Tryz.underlying68 Tryz.underlying69 Tryz.underlying70 Tryz.underlying71 Tryz.underlying72 Tryz.underlying73 Tryz.underlying74 Tryz.underlying75 Tryz.underlying76 Tryz.underlying77 Tryz.underlying78 Tryz.underlying79
attribute [go_sem] Tryz.underlying80 Tryz.underlying81 Tryz.underlying82 Tryz.underlying83 Tryz.underlying84 Tryz.underlying85 Tryz.underlying86 Tryz.underlying87 Tryz.underlying88 Tryz.underlying89 Tryz.underlying90 Tryz.underlying91 Tryz.underlying92 Tryz.underlying93 Tryz.underlying94 Tryz.underlying95
attribute [go_sem] Tryz.underlying96 Tryz.underlying97 Tryz.underlying98 Tryz.underlying99 Tryz.underlying100 Tryz.underlying101 Tryz.underlying102 Tryz.underlying103 Tryz.underlying104 Tryz.underlying105 Tryz.underlying106 Tryz.underlying107 Tryz.underlying108 Tryz.underlying109 Tryz.underlying110 Tryz.underlying111
attribute [go_sem] Tryz.underlying112 Tryz.underlying113 Tryz.underlying114 Tryz.underlying115 Tryz.underlying116 Tryz.underlying117 Tryz.underlying118 Tryz.underlying119 Tryz.underlying120 Tryz.underlying121 Tryz.underlying122 Tryz.underlying123 Tryz.underlying124 Tryz.underlying125 Tryz.underlying126 Tryz.underlying127
attribute [go_sem] Tryz.underlying128 Tryz.underlying129 Tryz.underlying130 Tryz.underlying131 Tryz.underlying132 Tryz.underlying133 Tryz.underlying134 Tryz.underlying135 Tryz.underlying136 Tryz.underlying137 Tryz.underlying138 Tryz.underlying139 Tryz.underlying140 Tryz.underlying141 Tryz.underlying142 Tryz.underlying143
attribute [go_sem] Tryz.underlying144 Tryz.underlying145 Tryz.underlying146 Tryz.underlying147 Tryz.underlying148 Tryz.underlying149 Tryz.underlying150 Tryz.underlying151 Tryz.underlying152 Tryz.underlying153 Tryz.underlying154 Tryz.underlying155 Tryz.underlying156 Tryz.underlying157 Tryz.underlying158 Tryz.underlying159
attribute [go_sem] Tryz.underlying160 Tryz.underlying161 Tryz.underlying162 Tryz.underlying163 Tryz.underlying164 Tryz.underlying165 Tryz.underlying166 Tryz.underlying167 Tryz.underlying168 Tryz.underlying169 Tryz.underlying170 Tryz.underlying171 Tryz.underlying172 Tryz.underlying173 Tryz.underlying174 Tryz.underlying175
attribute [go_sem] Tryz.underlying176 Tryz.underlying177 Tryz.underlying178 Tryz.underlying179 Tryz.underlying180 Tryz.underlying181 Tryz.underlying182 Tryz.underlying183 Tryz.underlying184 Tryz.underlying185 Tryz.underlying186 Tryz.underlying187 Tryz.underlying188 Tryz.underlying189 Tryz.underlying190 Tryz.underlying191
attribute [go_sem] Tryz.underlying192 Tryz.underlying193 Tryz.underlying194 Tryz.underlying195 Tryz.underlying196 Tryz.underlying197 Tryz.underlying198 Tryz.underlying199 Tryz.underlying200 Tryz.underlying201 Tryz.underlying202 Tryz.underlying203 Tryz.underlying204 Tryz.underlying205 Tryz.underlying206 Tryz.underlying207
attribute [go_sem] Tryz.underlying208 Tryz.underlying209 Tryz.underlying210 Tryz.underlying211 Tryz.underlying212 Tryz.underlying213 Tryz.underlying214 Tryz.underlying215 Tryz.underlying216 Tryz.underlying217 Tryz.underlying218 Tryz.underlying219 Tryz.underlying220 Tryz.underlying221 Tryz.underlying222 Tryz.underlying223
attribute [go_sem] Tryz.underlying224 Tryz.underlying225 Tryz.underlying226 Tryz.underlying227 Tryz.underlying228 Tryz.underlying229 Tryz.underlying230 Tryz.underlying231 Tryz.underlying232 Tryz.underlying233 Tryz.underlying234 Tryz.underlying235 Tryz.underlying236 Tryz.underlying237 Tryz.underlying238 Tryz.underlying239
attribute [go_sem] Tryz.underlying240 Tryz.underlying241 Tryz.underlying242 Tryz.underlying243 Tryz.underlying244 Tryz.underlying245 Tryz.underlying246 Tryz.underlying247 Tryz.underlying248 Tryz.underlying249 Tryz.underlying250 Tryz.underlying251 Tryz.underlying252 Tryz.underlying253 Tryz.underlying254 Tryz.underlying255
attribute [go_sem] Tryz.underlying256 Tryz.underlying257 Tryz.underlying258 Tryz.underlying259 Tryz.underlying260 Tryz.underlying261 Tryz.underlying262 Tryz.underlying263 Tryz.underlying264 Tryz.underlying265 Tryz.underlying266 Tryz.underlying267 Tryz.underlying268 Tryz.underlying269 Tryz.underlying270 Tryz.underlying271
attribute [go_sem] Tryz.underlying272 Tryz.underlying273 Tryz.underlying274 Tryz.underlying275 Tryz.underlying276 Tryz.underlying277 Tryz.underlying278 Tryz.underlying279 Tryz.underlying280 Tryz.underlying281 Tryz.underlying282 Tryz.underlying283 Tryz.underlying284 Tryz.underlying285 Tryz.underlying286 Tryz.underlying287
attribute [go_sem] Tryz.underlying288 Tryz.underlying289 Tryz.underlying290 Tryz.underlying291 Tryz.underlying292 Tryz.underlying293 Tryz.underlying294 Tryz.underlying295 Tryz.underlying296 Tryz.underlying297
attribute [go_sem] Tryz.ntmps0 Tryz.results0 Tryz.ntmps1 Tryz.results1 Tryz.ntmps2 Tryz.results2 Tryz.ntmps3 Tryz.results3 Tryz.ntmps4 Tryz.results4 Tryz.ntmps5 Tryz.results5 Tryz.ntmps6 Tryz.results6 Tryz.ntmps7 Tryz.results7
attribute [go_sem] Tryz.ntmps8 Tryz.results8 Tryz.ntmps9 Tryz.results9 Tryz.ntmps10 Tryz.results10 Tryz.ntmps11 Tryz.results11 Tryz.ntmps12 Tryz.results12 Tryz.ntmps13 Tryz.results13 Tryz.ntmps14 Tryz.results14 Tryz.ntmps15 Tryz.results15
attribute [go_sem] Tryz.ntmps16 Tryz.results16 Tryz.ntmps17 Tryz.results17 Tryz.ntmps18 Tryz.results18 Tryz.ntmps19 Tryz.results19 Tryz.ntmps20 Tryz.results20 Tryz.ntmps21 Tryz.results21 Tryz.ntmps22 Tryz.results22 Tryz.ntmps23 Tryz.results23
attribute [go_sem] Tryz.ntmps24 Tryz.results24 Tryz.ntmps25 Tryz.results25 Tryz.ntmps26 Tryz.results26 Tryz.ntmps27 Tryz.results27 Tryz.ntmps28 Tryz.results28 Tryz.ntmps29 Tryz.results29 Tryz.ntmps30 Tryz.results30 Tryz.ntmps31 Tryz.results31
attribute [go_sem] Tryz.ntmps32 Tryz.results32 Tryz.ntmps33 Tryz.results33 Tryz.ntmps34 Tryz.results34 Tryz.ntmps35 Tryz.results35 Tryz.ntmps36 Tryz.results36 Tryz.ntmps37 Tryz.results37 Tryz.ntmps38 Tryz.results38 Tryz.ntmps39 Tryz.results39
attribute [go_sem] Tryz.ntmps40 Tryz.results40 Tryz.ntmps41 Tryz.results41 Tryz.ntmps42 Tryz.results42 Tryz.ntmps43 Tryz.results43 Tryz.ntmps44 Tryz.results44 Tryz.ntmps45 Tryz.results45 Tryz.ntmps46 Tryz.results46 Tryz.ntmps47 Tryz.results47
attribute [go_sem] Tryz.ntmps48 Tryz.results48 Tryz.ntmps49 Tryz.results49 Tryz.ntmps50 Tryz.results50 Tryz.ntmps51 Tryz.results51 Tryz.ntmps52 Tryz.results52 Tryz.ntmps53 Tryz.results53 Tryz.ntmps54 Tryz.results54 Tryz.ntmps55 Tryz.results55
attribute [go_sem] Tryz.ntmps56 Tryz.results56 Tryz.ntmps57 Tryz.results57 Tryz.ntmps58 Tryz.results58 Tryz.ntmps59 Tryz.results59 Tryz.ntmps60 Tryz.results60 Tryz.ntmps61 Tryz.results61 Tryz.ntmps62 Tryz.results62 Tryz.ntmps63 Tryz.results63
attribute [go_sem] Tryz.ntmps64 Tryz.results64 Tryz.ntmps65 Tryz.results65 Tryz.ntmps66 Tryz.results66 Tryz.ntmps67 Tryz.results67 Tryz.ntmps68 Tryz.results68 Tryz.ntmps69 Tryz.results69 Tryz.ntmps70 Tryz.results70 Tryz.ntmps71 Tryz.results71
attribute [go_sem] Tryz.ntmps72 Tryz.results72 Tryz.ntmps73 Tryz.results73 Tryz.ntmps74 Tryz.results74 Tryz.ntmps75 Tryz.results75 Tryz.ntmps76 Tryz.results76 Tryz.ntmps77 Tryz.results77 Tryz.ntmps78 Tryz.results78 Tryz.ntmps79 Tryz.results79
attribute [go_sem] Tryz.ntmps80 Tryz.results80 Tryz.ntmps81 Tryz.results81 Tryz.ntmps82 Tryz.results82 Tryz.ntmps83 Tryz.results83 Tryz.ntmps84 Tryz.results84 Tryz.ntmps85 Tryz.results85 Tryz.ntmps86 Tryz.results86 Tryz.ntmps87 Tryz.results87
attribute [go_sem] Tryz.ntmps88 Tryz.results88 Tryz.ntmps89 Tryz.results89 Tryz.ntmps90 Tryz.results90 Tryz.ntmps91 Tryz.results91 Tryz.ntmps92 Tryz.results92 Tryz.ntmps93 Tryz.results93 Tryz.ntmps94 Tryz.results94 Tryz.ntmps95 Tryz.results95
attribute [go_sem] Tryz.ntmps96 Tryz.results96 Tryz.ntmps97 Tryz.results97 Tryz.ntmps98 Tryz.results98 Tryz.ntmps99 Tryz.results99 Tryz.ntmps100 Tryz.results100 Tryz.ntmps101 Tryz.results101 Tryz.ntmps102 Tryz.results102 Tryz.ntmps103 Tryz.results103
attribute [go_sem] Tryz.ntmps104 Tryz.results104 Tryz.ntmps105 Tryz.results105 Tryz.ntmps106 Tryz.results106 Tryz.ntmps107 Tryz.results107 Tryz.ntmps108 Tryz.results108 Tryz.ntmps109 Tryz.results109 Tryz.ntmps110 Tryz.results110 Tryz.ntmps111 Tryz.results111
attribute [go_sem] Tryz.ntmps112 Tryz.results112 Tryz.ntmps113 Tryz.results113 Tryz.ntmps114 Tryz.results114 Tryz.ntmps115 Tryz.results115 Tryz.ntmps116 Tryz.results116 Tryz.ntmps117 Tryz.results117 Tryz.ntmps118 Tryz.results118 Tryz.ntmps119 Tryz.results119
attribute [go_sem] Tryz.ntmps120 Tryz.results120 Tryz.ntmps121 Tryz.results121 Tryz.ntmps122 Tryz.results122 Tryz.ntmps123 Tryz.results123 Tryz.ntmps124 Tryz.results124 Tryz.ntmps125 Tryz.results125 Tryz.ntmps126 Tryz.results126 Tryz.ntmps127 Tryz.results127
attribute [go_sem] Tryz.ntmps128 Tryz.results128 Tryz.ntmps129 Tryz.results129 Tryz.ntmps130 Tryz.results130 Tryz.ntmps131 Tryz.results131 Tryz.ntmps132 Tryz.results132 Tryz.ntmps133 Tryz.results133 Tryz.ntmps134 Tryz.results134 Tryz.ntmps135 Tryz.results135
attribute [go_sem] Tryz.ntmps136 Tryz.results136 Tryz.ntmps137 Tryz.results137 Tryz.ntmps138 Tryz.results138 Tryz.ntmps139 Tryz.results139 Tryz.ntmps140 Tryz.results140 Tryz.ntmps141 Tryz.results141 Tryz.ntmps142 Tryz.results142 Tryz.ntmps143 Tryz.results143
attribute [go_sem] Tryz.ntmps144 Tryz.results144 Tryz.ntmps145 Tryz.results145 Tryz.ntmps146 Tryz.results146 Tryz.ntmps147 Tryz.results147 Tryz.ntmps148 Tryz.results148 Tryz.ntmps149 Tryz.results149 Tryz.ntmps150 Tryz.results150 Tryz.ntmps151 Tryz.results151
attribute [go_sem] Tryz.ntmps152 Tryz.results152 Tryz.ntmps153 Tryz.results153 Tryz.ntmps154 Tryz.results154 Tryz.ntmps155 Tryz.results155 Tryz.ntmps156 Tryz.results156 Tryz.ntmps157 Tryz.results157 Tryz.ntmps158 Tryz.results158 Tryz.ntmps159 Tryz.results159
attribute [go_sem] Tryz.ntmps160 Tryz.results160 Tryz.ntmps161 Tryz.results161 Tryz.ntmps162 Tryz.results162 Tryz.ntmps163 Tryz.results163 Tryz.ntmps164 Tryz.results164 Tryz.ntmps165 Tryz.results165 Tryz.ntmps166 Tryz.results166 Tryz.ntmps167 Tryz.results167
attribute [go_sem] Tryz.ntmps168 Tryz.results168 Tryz.ntmps169 Tryz.results169 Tryz.ntmps170 Tryz.results170 Tryz.ntmps171 Tryz.results171 Tryz.ntmps172 Tryz.results172 Tryz.ntmps173 Tryz.results173 Tryz.ntmps174 Tryz.results174 Tryz.ntmps175 Tryz.results175
attribute [go_sem] Tryz.ntmps176 Tryz.results176 Tryz.ntmps177 Tryz.results177 Tryz.ntmps178 Tryz.results178 Tryz.ntmps179 Tryz.results179 Tryz.ntmps180 Tryz.results180 Tryz.ntmps181 Tryz.results181 Tryz.ntmps182 Tryz.results182 Tryz.ntmps183 Tryz.results183
attribute [go_sem] Tryz.ntmps184 Tryz.results184 Tryz.ntmps185 Tryz.results185 Tryz.ntmps186 Tryz.results186 Tryz.ntmps187 Tryz.results187 Tryz.ntmps188 Tryz.results188 Tryz.ntmps189 Tryz.results189 Tryz.ntmps190 Tryz.results190 Tryz.ntmps191 Tryz.results191
attribute [go_sem] Tryz.ntmps192 Tryz.results192 Tryz.ntmps193 Tryz.results193 Tryz.ntmps194 Tryz.results194 Tryz.ntmps195 Tryz.results195 Tryz.ntmps196 Tryz.results196 Tryz.ntmps197 Tryz.results197 Tryz.ntmps198 Tryz.results198 Tryz.ntmps199 Tryz.results199
attribute [go_sem] Tryz.ntmps200 Tryz.results200 Tryz.ntmps201 Tryz.results201 Tryz.ntmps202 Tryz.results202 Tryz.ntmps203 Tryz.results203 Tryz.ntmps204 Tryz.results204 Tryz.ntmps205 Tryz.results205 Tryz.ntmps206 Tryz.results206 Tryz.ntmps207 Tryz.results207
attribute [go_sem] Tryz.ntmps208 Tryz.results208 Tryz.ntmps209 Tryz.results209 Tryz.ntmps210 Tryz.results210 Tryz.ntmps211 Tryz.results211 Tryz.ntmps212 Tryz.results212 Tryz.ntmps213 Tryz.results213 Tryz.ntmps214 Tryz.results214 Tryz.ntmps215 Tryz.results215
attribute [go_sem] Tryz.ntmps216 Tryz.results216 Tryz.ntmps217 Tryz.results217 Tryz.ntmps218 Tryz.results218 Tryz.ntmps219 Tryz.results219 Tryz.ntmps220 Tryz.results220
end Go.Proofs.YtbhamhhjicehaaaGreatDoor.Ty
/- Slices, by their rows, over heaps of which it is said what has stayed. -/
namespace Go.AX
open Go Go.RowKit
structure Keep (H H':AH) (ex:Nat→Prop):Prop where
 w0:H'.w0=H.w0
 at_:∀ b,¬ ex b→((H.find b).isSome∨b<H.w0.heap.size)→H'.find b=H.find b
theorem Keep.refl {H:AH} {ex:Nat→Prop}:Keep H H ex:=⟨rfl,fun _ _ _=>rfl⟩
theorem Keep.mono {H H':AH} {ex ex':Nat→Prop} (h:Keep H H' ex) (he:∀ b,ex b→ex' b):Keep H H' ex':=⟨h.w0,fun b hb=>h.at_ b fun hx=>hb (he b hx)⟩
theorem Keep.trans {A B C:AH} {ex:Nat→Prop} (h:Keep A B ex) (k:Keep B C ex):Keep A C ex:=⟨k.w0.trans h.w0,fun b hb hk=>by
 have h1:=h.at_ b hb hk
 rw[←h1]
 exact k.at_ b hb (by rw[h1,h.w0];exact hk)⟩
theorem Keep.add {H:AH} {b:Nat} {k:iD} {ex:Nat→Prop} (hf:aG H b):Keep H (H.add b k) ex:=⟨rfl,fun b' _ hk=>by
 rw[dh]
 split
 ·rename_i e;subst e
  rcases hk with hk | hk
  ·rw[hf.2]at hk;cases hk
  ·exact absurd hf.1 (by have:H.base=H.w0.heap.size:=rfl;omega)
 ·rfl⟩
theorem Keep.put {H:AH} {b:Nat} {k:iD}:Keep H ((H.del b).add b k) (·=b):=⟨rfl,fun b' hb _=>by
 rw[dh,if_neg hb,iL,if_neg hb]⟩
theorem Keep.ext {H A:AH} {ex:Nat→Prop} (h:Ext H A):Keep H A ex:=by
 induction h with
 |refl=>exact .refl
 |add _ hf ih=>exact ih.trans (Keep.add hf)
theorem Keep.find {H H':AH} {ex:Nat→Prop} {b:Nat} {k:iD} (h:Keep H H' ex) (hb:¬ ex b) (hf:H.find b=some k):H'.find b=some k:=by rw[h.at_ b hb (by rw[hf];exact .inl rfl),hf]
theorem Keep.le {H0 H H':AH} {ex:Nat→Prop} (h:Keep H H' ex) (hl:H0.le H) (he:∀ b,ex b→H0.find b=none):H0.le H':=⟨hl.1.trans h.w0.symm,fun b k hb=>by
 refine h.find (fun hx=>?_) (hl.2 b k hb)
 rw[he b hx]at hb;cases hb⟩
theorem Keep.fresh {H H':AH} {ex:Nat→Prop} {b:Nat} (h:Keep H H' ex) (hf:aG H' b) (hb:¬ ex b):aG H b:=⟨h.w0▸hf.1,by
 cases hx:H.find b with
 |none=>rfl
 |some k=>have:=h.find hb hx;rw[hf.2]at this;cases this⟩
theorem bG.same {H H':AH} {sz:Nat} {base:Option Addr} {cap:Nat} {R:List (List Value)} (h:bG H sz base cap R) (hw:H'.w0=H.w0) (hf:R≠[]→∀ a,base=some a→H'.find a.block=H.find a.block):bG H' sz base cap R:=by
 have hrd:R≠[]→∀ b o o',base=some ⟨b,o,none⟩→H'.rd ⟨b,o',none⟩=H.rd ⟨b,o',none⟩:=fun hn b o o' hb=>by
  unfold AH.rd
  have:=hf hn _ hb
  simp only at this
  rw[this,hw]
 have hrow:R≠[]→∀ b o o' n,base=some ⟨b,o,none⟩→H'.row b o' n=H.row b o' n:=fun hn b o o' n hb=>by
  unfold AH.row
  have:=hf hn _ hb
  simp only at this
  rw[this,hw]
 have hne:∀ {i:Nat} {r:List Value},R[i]?=some r→R≠[]:=fun h1 hx=>by rw[hx]at h1;simp at h1
 exact⟨h.le,h.big,h.at_,fun b o hb i j r c h1 h2=>by rw[hrd (hne h1) b o _ hb];exact h.rd b o hb i j r c h1 h2,fun b o hb i r h1=>by rw[hrow (hne h1) b o _ _ hb];exact h.row b o hb i r h1⟩
theorem PD {H:AH} {b o n:Nat} {l:List Value} (h:H.row b o n=some l):(H.find b).isSome∨b<H.w0.heap.size:=by
 unfold AH.row at h
 cases hf:H.find b with
 |some k=>exact .inl rfl
 |none=>
  rw[hf]at h
  simp only at h
  split at h
  ·rename_i hlt;exact .inr hlt
  ·cases h
theorem bG.keep {H H':AH} {sz:Nat} {base:Option Addr} {cap:Nat} {R:List (List Value)} {ex:Nat→Prop} (h:bG H sz base cap R) (hk:Keep H H' ex) (hb:∀ a,base=some a→¬ ex a.block):bG H' sz base cap R:=
 h.same hk.w0 fun hn a ha=>hk.at_ _ (hb a ha) (by
  cases R with
  |nil=>exact absurd rfl hn
  |cons r R=>
   obtain⟨b,o,h2⟩:=h.at_ 0 (by simp)
   rw[h2]at ha;cases ha
   exact PD (h.row b o h2 0 r rfl))
theorem bG.iU {H:AH} {sz cap e m b:Nat} {R:List (List Value)} (hf:H.find b=some (.cells R.flatten e m)) (hR:∀ r∈R,r.length=sz) (hl:R.length≤cap) (hb:R.length<9223372036854775808):bG H sz (some ⟨b,0,none⟩) cap R:=
 (bG.own (H:=H.del b) (e:=e) (m:=m) hR hl hb).same rfl fun _ a ha=>by
  cases ha
  rw[hf,aH]
theorem bG.tail {H:AH} {sz b o cap:Nat} {r:List Value} {R:List (List Value)} (h:bG H sz (some ⟨b,o,none⟩) cap (r::R)):bG H sz (some ⟨b,if cap=1 then o else o+1*sz,none⟩) (cap - 1) R:=by
 have hle:=h.le
 have hbig:=h.big
 simp only[List.length_cons]at hle hbig
 by_cases hc:cap=1
 ·have hR:R=[]:=List.eq_nil_of_length_eq_zero (by omega)
  subst hR
  rw[if_pos hc]
  exact⟨by simp,by simp,fun i hi=>by simp at hi,fun b o _ i j r c h1 _=>by simp at h1,fun b o _ i r h1=>by simp at h1⟩
 ·rw[if_neg hc,Nat.one_mul]
  refine⟨by omega,by omega,fun i hi=>⟨b,o+sz,rfl⟩,fun b' o' hb i j r' c h1 h2=>?_,fun b' o' hb i r' h1=>?_⟩
  ·cases hb
   have:=h.rd b o rfl (i+1) j r' c (by simpa using h1) h2
   rw[show o+((i+1)*sz+j)=o+sz+(i*sz+j) from by rw[Nat.succ_mul];omega]at this
   exact this
  ·cases hb
   have:=h.row b o rfl (i+1) r' (by simpa using h1)
   rw[show o+(i+1)*sz=o+sz+i*sz from by rw[Nat.succ_mul];omega]at this
   exact this
theorem jW {sz:Nat}:∀ {R:List (List Value)} (_:∀ r∈R,r.length=sz) (i:Nat) (r':List Value),i<R.length→r'.length=sz→iO R.flatten (i*sz) r'=(R.set i r').flatten
 | [],_,_,_,h,_=>by simp at h
 |r0::R,hR,0,r',_,h=>by
  have h0:r0.length=sz:=hR r0 (by simp)
  rw[vS _ _ _ (by simp[h,h0]),Nat.zero_mul,Nat.zero_add,h,←h0,List.flatten_cons,List.drop_left]
  simp
 |r0::R,hR,i+1,r',hi,h=>by
  have h0:r0.length=sz:=hR r0 (by simp)
  have hRl:=jS (fun r hr=>hR r (by simp[hr]):∀ r∈R,r.length=sz)
  have ih:=jW (fun r hr=>hR r (by simp[hr]):∀ r∈R,r.length=sz) i r' (by simpa using hi) h
  have hm:(i+1)*sz≤R.length*sz:=Nat.mul_le_mul_right _ (by simp at hi;omega)
  rw[Nat.succ_mul]at hm
  rw[vS _ _ _ (by rw[hRl,h];omega)]at ih
  rw[List.set_cons_succ,List.flatten_cons,List.flatten_cons,←ih,vS _ _ _ (by rw[List.length_append,hRl,h0,h,Nat.succ_mul];omega),Nat.succ_mul]
  rw[List.take_append,List.drop_append,List.take_of_length_le (show r0.length≤i*sz+sz from by omega),List.drop_eq_nil_of_le (show r0.length≤i*sz+sz+r'.length from by omega),h0,
   show i*sz+sz - sz=i*sz from by omega,show i*sz+sz+r'.length - sz=i*sz+r'.length from by omega]
  simp
theorem bG.put {H:AH} {sz b o cap e m i:Nat} {cs r':List Value} {R:List (List Value)} (h:bG H sz (some ⟨b,o,none⟩) cap R) (hz:sz≠0) (hf:H.find b=some (.cells cs e m)) (hi:i<R.length) (hr':r'.length=sz) :
  bG ((H.del b).add b (.cells (iO cs (o+i*sz) r') e m)) sz (some ⟨b,o,none⟩) cap (R.set i r')∧o+i*sz+sz≤cs.length:=by
 have hin:∀ (i:Nat) (r:List Value),R[i]?=some r→o+i*sz+sz≤cs.length∧r.length=sz:=fun i r hr=>by
  have h1:=h.row b o rfl i r hr
  refine⟨?_,wX h1⟩
  unfold AH.row at h1
  rw[hf]at h1
  simp only at h1
  split at h1
  ·assumption
  ·cases h1
 have hii:=(hin i _ (List.getElem?_eq_getElem hi)).1
 have hget:=CB r' cs (o+i*sz)
 have hrd:∀ (i' j:Nat) (r:List Value) (c:Value),(R.set i r')[i']?=some r→r[j]?=some c→(iO cs (o+i*sz) r')[o+(i'*sz+j)]?=some c:=fun i' j r c h1 h2=>by
  rw[hget _ (by omega)]
  rw[List.getElem?_set]at h1
  have hj:j<r.length:=by
   rcases Nat.lt_or_ge j r.length with h | h
   ·exact h
   ·rw[List.getElem?_eq_none h]at h2;cases h2
  by_cases e:i=i'
  ·subst e
   rw[if_pos rfl,if_pos hi]at h1
   cases h1
   rw[if_pos (by omega),show o+(i*sz+j) - (o+i*sz)=j from by omega];exact h2
  ·rw[if_neg e]at h1
   have h3:=hin i' r h1
   have h4:=h.rd b o rfl i' j r c h1 h2
   have hne:¬ (o+i*sz≤o+(i'*sz+j)∧o+(i'*sz+j)<o+i*sz+r'.length):=by
    rcases Nat.lt_or_gt_of_ne e with h5 | h5
    ·have:=Nat.mul_le_mul_right sz (show i+1≤i' from h5);rw[Nat.succ_mul]at this;omega
    ·have:=Nat.mul_le_mul_right sz (show i'+1≤i from h5);rw[Nat.succ_mul]at this;omega
   rw[if_neg hne]
   rw[gB hf]at h4;exact h4
 have hlen:∀ (i':Nat) (r:List Value),(R.set i r')[i']?=some r→r.length=sz:=fun i' r h1=>by
  by_cases e:i=i'
  ·subst e
   rw[List.getElem?_set_self hi]at h1
   cases h1;exact hr'
  ·rw[List.getElem?_set_ne e]at h1
   exact(hin i' r h1).2
 refine⟨⟨by rw[List.length_set];exact h.le,by rw[List.length_set];exact h.big,fun _ _=>⟨b,o,rfl⟩,fun b' o' hb i' j r c h1 h2=>?_,fun b' o' hb i' r h1=>?_⟩,hii⟩
 ·cases hb
  rw[gZ];exact hrd i' j r c h1 h2
 ·cases hb
  exact lZ (hlen i' r h1).symm hz fun j c hc=>by rw[gZ,Nat.add_assoc];exact hrd i' j r c h1 hc
theorem lS.acf {P:Program} {H:AH} {t t2 e sz bt b n cap m bs:Nat} {zs cs new:List Value} {x:Value} {k:Value→AH→Prop} (hE:uG P t=some (e,sz,zs,bt)) (hz:zs.length=sz) (hbt:bt≠0) (hni:Gv (P.underlying t2)=true)
  (hb:H.find b=some (.cells cs e bs)) (hcs:cs.length=n*sz) (hbs:cap*sz≤bs) (hx:slen x=some m) (hnew:nC H sz x=some new) (hnc:n≤cap) (hsc:new.all iM=true) (hroom:(2*(n+m)+192)*bt≤281474976710656)
  (hk:∀ b' c' bs' HH,(b'=b∨aG H b')→n+m≤c'→c'*sz≤bs'→(H.del b).add b' (.cells (cs++new) e bs')=HH→k (.slice (some ⟨b',0,none⟩) (n+m) c') HH):lS P (some t) (some t2) [.slice (some ⟨b,0,none⟩) n cap,x] H k:=fun ts ty h0 h1=>by
 have hl:new.length=m*sz:=(lQ (P:=P) hnew hx).2
 have alq:n*sz≤cap*sz:=Nat.mul_le_mul_right _ hnc
 have hrow:nC H sz (.slice (some ⟨b,0,none⟩) n cap)=some cs:=by
  show H.row b 0 (n*sz)=some cs
  unfold AH.row
  rw[hb]
  simp only
  rw[if_pos (by omega),List.drop_zero,List.take_of_length_le (by omega)]
 have base:=Gw (P:=P) (H:=H) (ts:=ts) (ty:=ty) (s:=.slice (some ⟨b,0,none⟩) n cap) (x:=x)
  (k:=fun v H'=>(v=.slice (some ⟨b,0,none⟩) (n+m) cap∧n+m≤cap∧H'=H.set b (.cells (cs++new) e bs))∨(∃ b' c',aG H b'∧n+m≤c'∧v=.slice (some ⟨b',0,none⟩) (n+m) c'∧H'=H.add b' (.cells (cs++new) e (c'*sz)))∨(m=0∧v=.slice (some ⟨b,0,none⟩) n cap∧H'=H)) (by
  rw[h0,h1]
  refine⟨hni,?_⟩
  show wo (uG P t) _
  rw[hE]
  refine⟨hz,hbt,?_⟩
  rw[hx]
  show wo (nC H sz (.slice (some ⟨b,0,none⟩) n cap)) _
  rw[hrow]
  show wo (nC H sz x) _
  rw[hnew]
  refine⟨fun h=>.inr (.inr ⟨h.1,rfl,rfl⟩),fun h=>?_,fun h=>⟨hroom,fun b' hb' c' hc'=>.inr (.inl ⟨b',c',hb',hc',rfl,rfl⟩)⟩⟩
  have happ:H.app b (0+n*sz) new=some (H.set b (.cells (cs++new) e bs)):=by
   unfold AH.app
   rw[hb]
   simp only
   rw[if_pos ⟨by omega,by
    rw[hl,Nat.zero_add,←Nat.add_mul]
    exact Nat.le_trans (Nat.mul_le_mul_right _ h.2) hbs,hsc⟩,Nat.zero_add,List.take_of_length_le (by omega),List.drop_eq_nil_of_le (by omega),List.append_nil]
  show wo (H.app b (0+n*sz) new) _
  rw[happ]
  exact .inl ⟨rfl,h.2,rfl⟩)
 refine base.post (fun v H' h=>?_) (fun w nx w' h=>sF (α:=Unit) h)
 rcases h with ⟨rfl,hle,rfl⟩ | ⟨b',c',hf,hle,rfl,rfl⟩ | ⟨rfl,rfl,rfl⟩
 ·refine⟨_,fun _ w hs=>hs.iU (H':=(H.del b).add b (.cells (cs++new) e bs)) rfl fun b''=>?_,hk b cap bs _ (.inl rfl) hle hbs rfl⟩
  rw[dh,dw,iL]
  by_cases h:b''=b<;>simp[h]
 ·refine⟨(H.del b).add b' (.cells (cs++new) e (c'*sz)),fun _ w hs=>hs.mono ⟨rfl,fun b'' k'' h=>?_⟩,hk b' c' _ _ (.inr hf) hle (Nat.le_refl _) rfl⟩
  rw[dh]at h ⊢
  split at h
  ·rename_i e;rw[if_pos e];exact h
  ·rename_i e;rw[if_neg e]
   rw[iL]at h
   split at h
   ·cases h
   ·exact h
 ·have hn0:new=[]:=List.eq_nil_of_length_eq_zero (by rw[hl,Nat.zero_mul])
  refine⟨_,fun _ w hs=>hs.iU (H':=(H'.del b).add b (.cells (cs++new) e bs)) rfl fun b''=>?_,hk b cap bs _ (.inl rfl) (by omega) hbs rfl⟩
  rw[dh,iL,hn0,List.append_nil]
  by_cases h:b''=b<;>simp[h,hb]
structure fJ (H0 H:AH) (e sz:Nat) (base:Option Addr) (cap:Nat) (R:List (List Value)):Prop where
 rows:∀ r∈R,r.length=sz
 le:R.length≤cap
 big:R.length<9223372036854775808
 at_:(base=none∧R=[]∧cap=0)∨∃ b bs,base=some ⟨b,0,none⟩∧H.find b=some (.cells R.flatten e bs)∧cap*sz≤bs∧aG H0 b
section
variable {H0 H:AH} {e sz cap:Nat} {base:Option Addr} {R:List (List Value)}
theorem fJ.nil:fJ H0 H e sz none 0 []:=⟨by simp,by simp,by simp,.inl ⟨rfl,rfl,rfl⟩⟩
theorem fJ.new {b m n:Nat} {cs:List Value} (hf:aG H b) (hl:H0.le H) (hc:cs=R.flatten) (hm:m=n*sz) (hn:n=R.length) (hR:∀ r∈R,r.length=sz) (hb:R.length<9223372036854775808):fJ H0 (H.add b (.cells cs e m)) e sz (some ⟨b,0,none⟩) n R:=
 ⟨hR,by omega,hb,.inr ⟨b,_,rfl,by rw[aH,hc,hm],Nat.le_refl _,aG.of_le hl hf⟩⟩
theorem fJ.slc (h:fJ H0 H e sz base cap R):bG H sz base cap R:=by
 rcases h.at_ with ⟨rfl,rfl,rfl⟩ | ⟨b,_,rfl,hf,_⟩
 ·exact bG.nil
 ·exact bG.iU hf h.rows h.le h.big
theorem fJ.keep {H':AH} {ex:Nat→Prop} (h:fJ H0 H e sz base cap R) (hk:Keep H H' ex) (hb:∀ a,base=some a→¬ ex a.block):fJ H0 H' e sz base cap R:=
 ⟨h.rows,h.le,h.big,by
  rcases h.at_ with h1 | ⟨b,bs,h1,hf,h2⟩
  ·exact .inl h1
  ·exact .inr ⟨b,bs,h1,hk.find (hb _ h1) hf,h2⟩⟩
theorem fJ.fresh (h:fJ H0 H e sz base cap R) (a:Addr) (ha:base=some a):aG H0 a.block:=by
 rcases h.at_ with ⟨h1,_⟩ | ⟨b,_,h1,_,_,h2⟩
 ·rw[ha]at h1;cases h1
 ·rw[ha]at h1;cases h1;exact h2
def GI (base:Option Addr) (b:Nat):Prop:=∃ a,base=some a∧b=a.block
theorem Dc {a:Addr} {b:Nat}:GI (some a) b↔b=a.block:=⟨fun⟨_,h,h2⟩=>by cases h;exact h2,fun h=>⟨a,rfl,h⟩⟩
theorem lS.grow {P:Program} {t t2 bt n m:Nat} {zs:List Value} {x:Value} {k:Value→AH→Prop} {R':List (List Value)} (hO:fJ H0 H e sz base cap R) (hl:H0.le H) (hE:uG P t=some (e,sz,zs,bt)) (hz:zs.length=sz) (hbt:bt≠0) (hni:Gv (P.underlying t2)=true)
  (hn:n=R.length) (hm:m=R'.length) (hx:slen x=some m) (hnew:nC H sz x=some R'.flatten) (hR':∀ r∈R',r.length=sz) (hsc:R'.flatten.all iM=true) (hroom:(2*(n+m)+192)*bt≤281474976710656)
  (hk:∀ base' cap' H',fJ H0 H' e sz base' cap' (R++R')→Keep H H' (GI base)→(∀ a,base'=some a→(∃ a',base=some a'∧a.block=a'.block)∨aG H a.block)→k (.slice base' (n+m) cap') H') :
  lS P (some t) (some t2) [.slice base n cap,x] H k:=by
 subst hn;subst hm
 have hrows:∀ r∈R++R',r.length=sz:=fun r hr=>by
  rcases List.mem_append.1 hr with h | h
  ·exact hO.rows r h
  ·exact hR' r h
 have hbig:(R++R').length<9223372036854775808:=by
  rw[List.length_append]
  have:1≤bt:=Nat.pos_of_ne_zero hbt
  have:=Nat.mul_le_mul_left (2*(R.length+R'.length)+192) this
  omega
 rcases hO.at_ with ⟨rfl,rfl,rfl⟩ | ⟨b,bs,rfl,hf,hbs,hfr⟩
 ·refine lS.std ?_
  refine⟨hni,?_⟩
  show wo (uG P t) _
  rw[hE]
  refine⟨hz,hbt,?_⟩
  simp only[hx,mP,EW,List.length_nil,if_true,hnew]
  refine⟨fun h=>?_,fun h=>by omega,fun h=>⟨hroom,fun b' hb' c' hc'=>?_⟩⟩
  ·have hn:R'=[]:=List.eq_nil_of_length_eq_zero h.1
   subst hn
   exact hk none 0 H (by simpa using hO) .refl (fun a ha=>by cases ha)
  ·refine hk (some ⟨b',0,none⟩) c' _ ⟨hrows,by simp only[List.nil_append];simpa using hc',hbig,.inr ⟨b',_,rfl,?_,Nat.le_refl _,aG.of_le hl hb'⟩⟩ (Keep.add hb') (fun a ha=>by cases ha;exact .inr hb')
   rw[aH];rfl
 ·refine lS.acf hE hz hbt hni hf (jS hO.rows) hbs hx hnew hO.le hsc hroom fun b' c' bs' HH hb' hc' hbs' hHH=>?_
  subst hHH
  refine hk (some ⟨b',0,none⟩) c' _ ⟨hrows,by rw[List.length_append];exact hc',hbig,.inr ⟨b',bs',rfl,by rw[aH,List.flatten_append],hbs',?_⟩⟩ ⟨rfl,fun b'' hne hkn=>?_⟩ (fun a ha=>by
   cases ha
   rcases hb' with h | h
   ·exact .inl ⟨_,rfl,h⟩
   ·exact .inr h)
  ·rcases hb' with rfl | h
   ·exact hfr
   ·exact aG.of_le hl h
  ·have hne':b''≠b:=fun h=>hne (Dc.2 h)
   rw[dh,iL,if_neg hne']
   split
   ·rename_i h;subst h
    rcases hb' with h | h
    ·exact absurd h hne'
    ·rcases hkn with hkn | hkn
     ·rw[h.2]at hkn;cases hkn
     ·have:=h.1;omega
   ·rfl
theorem fJ.put {b i:Nat} {r':List Value} (h:fJ H0 H e sz (some ⟨b,0,none⟩) cap R) (hi:i<R.length) (hr':r'.length=sz):∃ bs,H.find b=some (.cells R.flatten e bs)∧R.length*sz≤bs∧fJ H0 ((H.del b).add b (.cells (iO R.flatten (i*sz) r') e bs)) e sz (some ⟨b,0,none⟩) cap (R.set i r'):=by
 rcases h.at_ with ⟨h1,_⟩ | ⟨b',bs,h1,hf,hbs,hfr⟩
 ·cases h1
 ·cases h1
  refine⟨bs,hf,Nat.le_trans (Nat.mul_le_mul_right _ h.le) hbs,fun r hr=>?_,by rw[List.length_set];exact h.le,by rw[List.length_set];exact h.big,.inr ⟨b,bs,rfl,by rw[aH,jW h.rows i r' hi hr'],hbs,hfr⟩⟩
  rcases List.mem_or_eq_of_mem_set hr with h2 | h2
  ·exact h.rows r h2
  ·rw[h2];exact hr'
theorem fJ.clip (h:fJ H0 H e sz base cap R):fJ H0 H e sz base (if base.isNone then 0 else R.length) R:=by
 rcases h.at_ with ⟨rfl,rfl,rfl⟩ | ⟨b,bs,rfl,hf,hbs,hfr⟩
 ·exact fJ.nil
 ·exact⟨h.rows,by simp,h.big,.inr ⟨b,bs,rfl,hf,Nat.le_trans (Nat.mul_le_mul_right _ h.le) hbs,hfr⟩⟩
end
theorem Keep.eq {A B:AH} {ex:Nat→Prop} (h:vW A B):Keep A B ex:=⟨h.1.symm,fun x _ _=>(h.2 x).symm⟩
theorem Keep.out {H A A':AH} {ex:Nat→Prop} (h:Keep H A fun _=>False) (k:Keep A A' ex) (he:∀ b,ex b→aG H b):Keep H A' fun _=>False:=⟨k.w0.trans h.w0,fun b _ hk=>by
 have h1:=h.at_ b (fun h=>h) hk
 rw[←h1]
 refine k.at_ b (fun hx=>?_) (by rw[h1,h.w0];exact hk)
 have hf:=he b hx
 rcases hk with hk | hk
 ·rw[hf.2]at hk;cases hk
 ·have:=hf.1;omega⟩
theorem Keep.all {H A:AH} (h:Keep H A fun _=>False):H.le A:=h.le (AH.le_refl _) fun _ hx=>hx.elim
theorem Keep.then {A B C:AH} {ex ex':Nat→Prop} (h:Keep A B ex) (k:Keep B C ex') (he:∀ b,ex' b→ex b∨aG A b):Keep A C ex:=⟨k.w0.trans h.w0,fun b hb hk=>by
 have h1:=h.at_ b hb hk
 rw[←h1]
 refine k.at_ b (fun hx=>?_) (by rw[h1,h.w0];exact hk)
 rcases he b hx with h2 | h2
 ·exact hb h2
 ·rcases hk with hk | hk
  ·rw[h2.2]at hk;cases hk
  ·have:=h2.1;omega⟩
theorem Keep.nw {A B:AH} {b:Nat} {k:iD} (h:Keep A B fun _=>False) (hf:aG B b):Keep A (B.add b k) fun _=>False:=h.trans (Keep.add hf)
theorem Keep.ow {A B C:AH} {ex:Nat→Prop} (h:Keep A B fun _=>False) (k:Keep B C ex) (he:∀ b,ex b→aG A b):Keep A C fun _=>False:=h.then k fun b hb=>.inr (he b hb)
theorem Keep.fr {A B:AH} {b:Nat} (h:Keep A B fun _=>False) (hf:aG B b):aG A b:=aG.of_le h.all hf
theorem aO.XW {P:Program} {f:FuncId} {args:Array Value} {H:AH} {K K':Value→AH→Prop} (h:aO P f args H K) (hk:∀ v H',K v H'→∃ H2,H2.le H'∧K' v H2):aO P f args H K':=
 fun E w hs=>(h E w hs).mono fun e w' ⟨v,H',h1,h2,h3⟩=>by
  obtain⟨H2,h4,h5⟩:=hk v H' h3
  exact⟨v,H2,h1,h2.mono h4,h5⟩
theorem lS.nD {H0 H:AH} {e sz cap n m:Nat} {base:Option Addr} {R:List (List Value)} {P:Program} {t t2 bt:Nat} {zs:List Value} {x:Value} {k:Value→AH→Prop} {R':List (List Value)} (hO:fJ H0 H e sz base cap R) (hl:H0.le H) (hE:uG P t=some (e,sz,zs,bt)) (hz:zs.length=sz) (hbt:bt≠0) (hni:Gv (P.underlying t2)=true)
  (hn:n=R.length) (hm:m=R'.length) (hx:slen x=some m) (hnew:nC H sz x=some R'.flatten) (hR':∀ r∈R',r.length=sz) (hsc:R'.flatten.all iM=true) (hroom:(2*(n+m)+192)*bt≤281474976710656)
  (hk:∀ base' cap' H',fJ H0 H' e sz base' cap' (R++R')→Keep H H' (GI base)→(∀ a,base'=some a→(∃ a',base=some a'∧a.block=a'.block)∨aG H a.block)→∃ H2,H2.le H'∧k (.slice base' (n+m) cap') H2) :
  lS P (some t) (some t2) [.slice base n cap,x] H k:=fun ts ty h0 h1=>
 ((lS.grow (k:=fun v H'=>∃ H2,H2.le H'∧k v H2) hO hl hE hz hbt hni hn hm hx hnew hR' hsc hroom hk) ts ty h0 h1).post (fun v H' ⟨H2,h2,h3⟩=>⟨H2,fun _ _ hs=>hs.mono h2,h3⟩) (fun w nx w' h=>sF (α:=Unit) h)
theorem Keep.del {H:AH} {b:Nat}:Keep H (H.del b) (·=b):=⟨rfl,fun b' hb _=>by rw[iL,if_neg hb]⟩
theorem Keep.acg {H A:AH} {b:Nat} (h:Keep H A fun _=>False) (hf:aG H b):Keep H (A.del b) (fun _=>False)∧aG (A.del b) b:=
 ⟨h.ow Keep.del fun _ e=>e▸hf,⟨h.w0▸hf.1,by rw[iL,if_pos rfl]⟩⟩
theorem VY {A:AH} {b1:Nat} {k1:iD} (h1:A.find b1=some k1):((A.del b1).add b1 k1).le A:=Rk h1
theorem VZ {A:AH} {b1 b2:Nat} {k1 k2:iD} (h1:A.find b1=some k1) (h2:A.find b2=some k2):((((A.del b1).del b2).add b1 k1).add b2 k2).le A:=
 AH.eU h2 (AH.eU h1 (AH.le_trans AH.KN AH.KN))
theorem fJ.del {H0 H:AH} {e sz cap b:Nat} {base:Option Addr} {R:List (List Value)} (h:fJ H0 H e sz base cap R) (hb:∀ a,base=some a→a.block≠b):fJ H0 (H.del b) e sz base cap R:=h.keep Keep.del hb
theorem fJ.added {H0 H:AH} {e sz cap b:Nat} {base:Option Addr} {R:List (List Value)} {k:iD} (h:fJ H0 H e sz base cap R) (hf:aG H b):fJ H0 (H.add b k) e sz base cap R:=h.keep (Keep.add hf) (ex:=fun _=>False) fun _ _ h=>h
theorem fJ.ne {H0 H:AH} {e sz cap b:Nat} {base:Option Addr} {R:List (List Value)} (h:fJ H0 H e sz base cap R) (hf:aG H b) (a:Addr) (ha:base=some a):a.block≠b:=by
 rcases h.at_ with ⟨h1,_⟩ | ⟨b',_,h1,h2,_⟩
 ·rw[ha]at h1;cases h1
 ·rw[ha]at h1;cases h1
  exact fun e=>hf.cO h2 e.symm
theorem NH {zs:List Value} {n m:Nat} (hm:m=n*zs.length):zf zs m=(List.replicate n zs).flatten:=by
 subst hm
 apply List.ext_getElem?
 intro i
 by_cases hi:i<n*zs.length
 ·have hz:0<zs.length:=by
   rcases Nat.eq_zero_or_pos zs.length with h | h
   ·rw[h]at hi;omega
   ·exact h
  have h1:i / zs.length<n:=(Nat.div_lt_iff_lt_mul hz).2 hi
  have h2:i % zs.length<zs.length:=Nat.mod_lt _ hz
  have h3:=flat_get (R:=List.replicate n zs) (sz:=zs.length) (fun r hr=>by rw[List.eq_of_mem_replicate hr]) (i / zs.length) (i % zs.length) zs zs[i % zs.length] (by rw[List.getElem?_replicate,if_pos h1]) (List.getElem?_eq_getElem h2)
  rw[show i / zs.length*zs.length+i % zs.length=i from by rw[Nat.mul_comm];exact Nat.div_add_mod _ _]at h3
  rw[h3]
  simp[zf,hi,h2]
 ·rw[List.getElem?_eq_none (by simp[zf];omega),List.getElem?_eq_none]
  rw[jS (sz:=zs.length) (fun r hr=>by rw[List.eq_of_mem_replicate hr]),List.length_replicate];omega
theorem Sat.Bq {E:Nat→Option Obj} {H:AH} {w w':World} (h:Sat E H w) (hb:Below w.heap.size w w'):Sat E H w':=
 ⟨h.below.trans (hb.mono h.below.size),fun b k hk=>by
  obtain⟨h1,h2,h3⟩:=h.known b k hk
  exact⟨h1,Nat.lt_of_lt_of_le h2 hb.size,CO (hb.block b h2) h3⟩,fun b o ho=>by
  obtain⟨h1,h2,h3⟩:=h.far b o ho
  have hlt:b<w.heap.size:=(Array.getElem?_eq_some_iff.1 h3).1
  exact⟨h1,h2,by rw[hb.block b hlt];exact h3⟩⟩
theorem aO.RI {P:Program} {f:FuncId} {args:Array Value} {H:AH} {u:Value} (h:∀ w,Calls P f args w fun e W'=>e=.returned u∧Below w.heap.size w W'):aO P f args H (fun v H'=>v=u∧H=H'):=fun E w hs=>
 (h w).mono fun e w' ⟨h1,h2⟩=>⟨u,H,h1,hs.Bq h2,rfl,rfl⟩
end Go.AX
/- file: header, New, Good, Same, and their references: what each comes to. -/
namespace Go.Proofs.YtbhamhhjicehaaaGreatDoor.File
open Go Go.AX Go.Proofs Ty
abbrev Rc:=Int×Int×Int×Int
def enc (r:Rc):List Value:=[.int .u8 r.1,.int .u8 r.2.1,.int .u8 r.2.2.1,.int .u8 r.2.2.2]
def zr:Rc:=(0,0,0,0)
theorem au (r:Rc):(enc r).length=4:=rfl
theorem ak (r:Rc):(enc r).all iM=true:=rfl
theorem lg (R:List Rc):∀ r∈R.map enc,r.length=4:=fun r hr=>by
 obtain⟨w,_,rfl⟩:=List.mem_map.1 hr
 rfl
theorem Fg (l:List Rc):((l.map enc).flatten).all iM=true:=by
 rw[List.all_flatten,List.all_map,List.all_eq_true]
 intro r _;rfl
theorem dn {α:Type} {f:α→List Value} {L:List α} {i:Nat} {s:α} (h:L[i]?=some s):(L.map f)[i]?=some (f s):=by rw[List.getElem?_map,h];rfl
theorem XY {u:Option TypeDesc} {H:AH} {a b:Operand} {kk:Value→Prop} (r s:Rc):bin u Tryz.prog H .eql 76 a b (.agg (enc r).toArray) (.agg (enc s).toArray) kk=(u=Tryz.prog.underlying 76∧nv (.bool (decide (r=s))) kk):=by
 obtain⟨r1,r2,r3,r4⟩:=r
 obtain⟨s1,s2,s3,s4⟩:=s
 unfold enc;rw[Zc]
 have:((r1==s1)&&((r2==s2)&&((r3==s3)&&(r4==s4))))=decide ((r1,r2,r3,r4)=(s1,s2,s3,s4)):=by
  rw[Bool.eq_iff_iff];simp[Prod.mk.injEq]
 rw[this]
theorem XZ {u:Option TypeDesc} {H:AH} {a b:Operand} {kk:Value→Prop} (r s:Rc):bin u Tryz.prog H .neq 76 a b (.agg (enc r).toArray) (.agg (enc s).toArray) kk=(u=Tryz.prog.underlying 76∧nv (.bool (!decide (r=s))) kk):=by
 obtain⟨r1,r2,r3,r4⟩:=r
 obtain⟨s1,s2,s3,s4⟩:=s
 unfold enc;rw[Zd]
 have:((r1==s1)&&((r2==s2)&&((r3==s3)&&(r4==s4))))=decide ((r1,r2,r3,r4)=(s1,s2,s3,s4)):=by
  rw[Bool.eq_iff_iff];simp[Prod.mk.injEq]
 rw[this]
def hd (perm n:Int):Rc:=(IntKind.u8.wrap n,IntKind.u8.wrap perm,165,jf .xor .u8 (jf .xor .u8 (IntKind.u8.wrap n) (IntKind.u8.wrap perm)) 165)
theorem Df (perm n:Int) (H:AH):aO Tryz.prog 99 #[.int .i64 perm,.int .i64 n] H (fun v H'=>v=.agg (enc (hd perm n)).toArray∧H=H'):=by
 refine aO.cu Tryz.func99 rfl Tryz.ntmps99 Tryz.results99 (by simp) ?_;simp -dsimp(maxSteps:=4000000) only[go_sem]
 refine bY.mk fun b1 iy=>?_;have aP:=iy;(try simp only[ah,aj,ne_eq]at aP);have aY:=aP;(try simp only[@eq_comm Nat b1]at aY);simp -dsimp(maxSteps:=4000000) only[aP,aY,go_sem]
 exact⟨H,(AH.aK (AH.le_refl _) ((by simp only[ah,aj,ne_eq,aP,not_false_eq_true,and_self]:aG _ b1).2)),(by first | exact⟨rfl,rfl⟩ | rfl)⟩
theorem I9 (perm n:Int) (H:AH):aO Tryz.prog 65 #[.int .i64 perm,.int .i64 n] H (fun v H'=>v=.agg (enc (hd perm n)).toArray∧H=H'):=by
 refine aO.cu Tryz.func65 rfl Tryz.ntmps65 Tryz.results65 (by simp) ?_;simp -dsimp(maxSteps:=4000000) only[go_sem]
 refine bY.mk fun b1 iy=>?_;have aP:=iy;(try simp only[ah,aj,ne_eq]at aP);have aY:=aP;(try simp only[@eq_comm Nat b1]at aY);simp -dsimp(maxSteps:=4000000) only[aP,aY,go_sem]
 exact⟨H,(AH.aK (AH.le_refl _) ((by simp only[ah,aj,ne_eq,aP,not_false_eq_true,and_self]:aG _ b1).2)),(by first | exact⟨rfl,rfl⟩ | rfl)⟩
def fv (p:Int) (base:Option Addr) (n cap:Nat):Value:=.agg #[.int .i64 p,.slice base n cap]
def Ja (perm n:Int):Prop:=0≤perm∧perm≤7∧0≤n∧n<256
def newR (perm:Int) (n:Nat):List Rc:=hd perm n::List.replicate n zr
theorem PE (perm:Int) (m n:Nat):(hd perm m::List.replicate n zr)++[zr]=hd perm m::List.replicate (n+1) zr:=by
 rw[List.replicate_succ'];rfl
theorem Jb (perm:Int) (n:Nat) (h:Ja perm n) (H:AH):aO Tryz.prog 29 #[.int .i64 perm,.int .i64 n] H (fun v H'=>∃ base cap,v=.tuple #[fv perm base (n+1) cap,.int .i64 0]∧fJ H H' 76 4 base cap ((newR perm n).map enc)∧Keep H H' fun _=>False):=by
 obtain⟨h0,h1,h2,h3⟩:=h
 have a:¬ perm<0:=by omega
 have b:¬ 7<perm:=by omega
 have c:¬ (n:Int)<0:=by omega
 have d:¬ (255:Int)<n:=by omega
 refine aO.cu Tryz.func29 rfl Tryz.ntmps29 Tryz.results29 (by simp) ?_;simp -dsimp(maxSteps:=4000000) only[a,b,c,d,au,ak,go_sem]
 refine bY.mk fun b4 jr=>?_;have aT:=jr;(try simp only[ah,aj,ne_eq]at aT);have aX:=aT;(try simp only[@eq_comm Nat b4]at aX);simp -dsimp(maxSteps:=4000000) only[a,b,c,d,au,ak,aT,aX,go_sem]
 refine(I9 perm n _).mono ?_;rintro _ _ ⟨rfl,rfl⟩
 simp -dsimp(maxSteps:=4000000) only[a,b,c,d,au,ak,aT,aX,go_sem]
 refine bY.mk fun bl iR=>?_;have dH:=iR;(try simp only[ah,aj,ne_eq]at dH);have dP:=dH;(try simp only[@eq_comm Nat bl]at dP);simp -dsimp(maxSteps:=4000000) only[a,b,c,d,au,ak,aT,aX,dH,dP,go_sem]
 refine bY.mk fun b6 jL=>?_;have bV:=jL;(try simp only[ah,aj,ne_eq]at bV);have dI:=bV;(try simp only[@eq_comm Nat b6]at dI);simp -dsimp(maxSteps:=4000000) only[a,b,c,d,au,ak,aT,aX,dH,dP,bV,dI,go_sem]
 have n64:¬ b6=b4:=bV.2.1
 have f4:aG H b4:=jr
 have f6:aG H b6:=bV.2.2
 have fl:aG H bl:=dH.2
 refine fZ.jE (ι:=Nat) (fun i A=>i≤n∧∃ B base cap,A=(B.add b4 (.cells [.int .i64 0,.slice none 0 0] 65 2)).add b6 (.cells [.int .i64 perm,.slice base (i+1) cap] 65 2)∧fJ H B 76 4 base cap ((hd perm n::List.replicate i zr).map enc)∧(Keep H B fun _=>False)∧aG B b4∧aG B b6)
  (fun i=>[(7,.int .i64 i),(0,.int .i64 perm),(1,.int .i64 n),(4,.pointer (some ⟨b4,0,none⟩)),(6,.pointer (some ⟨b6,0,none⟩))]) (fun i=>n - i) 0 (((H.add bl (.cells (enc (hd perm n)) 76 4)).add b4 (.cells [.int .i64 0,.slice none 0 0] 65 2)).add b6 (.cells [.int .i64 perm,.slice (some ⟨bl,0,none⟩) 1 1] 65 2))
  ⟨by omega,_,some ⟨bl,0,none⟩,1,rfl,fJ.new fl (AH.le_refl _) (by simp) rfl rfl (by simp[au]) (by simp),Keep.add fl,by rw[ah];exact⟨dP.1,f4⟩,by rw[ah];exact⟨bV.1,f6⟩⟩ (bZ.aS ?_) ?_ fun i A hi Q again out=>?_
 ·simp -dsimp(maxSteps:=4000000) only[a,b,c,d,au,ak,aT,aX,dH,dP,bV,dI,go_sem]
 ·exact(by refine AH.eU ?_ ?_;(show AH.find _ _=_;simp only[aH,aN,aV,ah,aj,ne_eq,not_false_eq_true,true_and,and_true,and_self,a,b,c,d,au,ak,aT,aX,dH,dP,bV,dI]);refine AH.eU ?_ ?_;(show AH.find _ _=_;simp only[aH,aN,aV,ah,aj,ne_eq,not_false_eq_true,true_and,and_true,and_self,a,b,c,d,au,ak,aT,aX,dH,dP,bV,dI]);refine AH.eU ?_ ?_;(show AH.find _ _=_;simp only[aH,aN,aV,ah,aj,ne_eq,not_false_eq_true,true_and,and_true,and_self,a,b,c,d,au,ak,aT,aX,dH,dP,bV,dI]);(repeat (first | exact AH.le_refl _ | refine AH.aK ?_ ?_));all_goals (first | exact AH.le_refl _ | (show AH.find _ _=_;simp only[aH,aN,aV,ah,aj,ne_eq,not_false_eq_true,true_and,and_true,and_self,a,b,c,d,au,ak,aT,aX,dH,dP,bV,dI])))
 ·clear bV dI jL aT aX jr dH dP iR fl
  obtain⟨hi,B,base,cap,rfl,hO,hK,g4,g6⟩:=hi
  have n46:¬ b4=b6:=fun e=>n64 e.symm
  by_cases hlt:(i:Int)<n
  ·have e1:=dA (i:=i) (by omega)
   simp -dsimp(maxSteps:=4000000) only[hlt,n64,n46,g4,g6,au,ak,go_sem]
   refine bY.mk fun Zh RJ=>?_;have zH:=RJ;(try simp only[ah,aj,ne_eq]at zH);have GK:=zH;(try simp only[@eq_comm Nat Zh]at GK);simp -dsimp(maxSteps:=4000000) only[n64,n46,g4,g6,au,ak,zH,GK,go_sem]
   have g37:aG B Zh:=zH.2.2
   have p4:AH.find (((B.add b4 (.cells [.int .i64 0,.slice none 0 0] 65 2)).add b6 (.cells [.int .i64 perm,.slice base (i+1) cap] 65 2)).add Zh (.cells (enc zr) 76 4)) b4=some (.cells [.int .i64 0,.slice none 0 0] 65 2):=by(show AH.find _ _=_;simp only[aH,aN,aV,ah,aj,ne_eq,not_false_eq_true,true_and,and_true,and_self,n64,n46,g4,g6,au,ak,zH,GK])
   have p6:AH.find (((B.add b4 (.cells [.int .i64 0,.slice none 0 0] 65 2)).add b6 (.cells [.int .i64 perm,.slice base (i+1) cap] 65 2)).add Zh (.cells (enc zr) 76 4)) b6=some (.cells [.int .i64 perm,.slice base (i+1) cap] 65 2):=by(show AH.find _ _=_;simp only[aH,aN,aV,ah,aj,ne_eq,not_false_eq_true,true_and,and_true,and_self,n64,n46,g4,g6,au,ak,zH,GK])
   have hOx:fJ H (((B.add b4 (.cells [.int .i64 0,.slice none 0 0] 65 2)).add b6 (.cells [.int .i64 perm,.slice base (i+1) cap] 65 2)).add Zh (.cells (enc zr) 76 4)) 76 4 base cap ((hd perm n::List.replicate i zr).map enc):=
    ((hO.added g4).added (by rw[ah];exact⟨n64,g6⟩)).added RJ
   have hKx:Keep H (((B.add b4 (.cells [.int .i64 0,.slice none 0 0] 65 2)).add b6 (.cells [.int .i64 perm,.slice base (i+1) cap] 65 2)).add Zh (.cells (enc zr) 76 4)) fun _=>False:=
    ((hK.nw g4).nw (by rw[ah];exact⟨n64,g6⟩)).nw RJ
   refine lS.nD (x:=.slice (some ⟨Zh,0,none⟩) 1 1) (R':=[enc zr]) (m:=1) hOx hKx.all C9 rfl (by decide) (by rw[Tryz.underlying63];rfl) (by simp) rfl rfl (by rw[iF,fO];rfl) (by simp[au]) (by simp[enc,iM]) (by omega) fun base' cap' A' kJ hK' hN'=>?_
   have q4:A'.find b4=some (.cells [.int .i64 0,.slice none 0 0] 65 2):=hK'.find (fun hx=>by obtain⟨a,ha,e⟩:=hx;exact hO.ne g4 a ha e.symm) p4
   have q6:A'.find b6=some (.cells [.int .i64 perm,.slice base (i+1) cap] 65 2):=hK'.find (fun hx=>by obtain⟨a,ha,e⟩:=hx;exact hO.ne g6 a ha e.symm) p6
   refine⟨_,VZ q4 q6,?_⟩
   simp -dsimp(maxSteps:=4000000) only[e1,n64,n46,g4,g6,au,ak,go_sem]
   have hK2:=(hKx.ow hK' fun b ⟨a,ha,e⟩=>e▸hO.fresh a ha)
   obtain⟨hK3,g43⟩:=hK2.acg f4
   obtain⟨hK4,g64⟩:=hK3.acg f6
   have ne4:∀ a,base'=some a→a.block≠b4:=fun a ha e=>by
    rcases hN' a ha with ⟨a',h1,h2⟩ | h1
    ·exact hO.ne g4 a' h1 (h2▸e)
    ·exact h1.cO p4 e
   have ne6:∀ a,base'=some a→a.block≠b6:=fun a ha e=>by
    rcases hN' a ha with ⟨a',h1,h2⟩ | h1
    ·exact hO.ne g6 a' h1 (h2▸e)
    ·exact h1.cO p6 e
   have hO2:=(kJ.del ne4).del ne6
   rw[show(hd perm n::List.replicate i zr).map enc++[enc zr]=(hd perm n::List.replicate (i+1) zr).map enc from by rw[←PE];simp]at hO2
   exact again (i+1) _ _ _ ⟨by omega,_,base',cap',rfl,hO2,hK4,aG.of_le AH.KN g43,g64⟩ (bZ.aS (by simp -dsimp(maxSteps:=4000000) only[n64,n46,g4,g6,au,ak,go_sem])) (AH.le_refl _) (by omega)
  ·obtain rfl:i=n:=by omega
   simp -dsimp(maxSteps:=4000000) only[hlt,n64,n46,g4,g6,au,ak,go_sem]
   refine out _ _ _ (by simp) ?_
   simp -dsimp(maxSteps:=4000000) only[n64,n46,g4,g6,au,ak,go_sem]
   exact⟨B,(by(repeat (first | exact AH.le_refl _ | refine AH.aK ?_ ?_));all_goals (first | exact AH.le_refl _ | (show AH.find _ _=_;simp only[aH,aN,aV,ah,aj,ne_eq,not_false_eq_true,true_and,and_true,and_self,n64,n46,g4,g6,au,ak]))),base,cap,rfl,hO,hK⟩
end Go.Proofs.YtbhamhhjicehaaaGreatDoor.File
