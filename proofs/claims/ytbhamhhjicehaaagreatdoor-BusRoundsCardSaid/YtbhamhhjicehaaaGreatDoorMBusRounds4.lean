/- Texts of mine, one behind another. -/
import Derived.Test.YtbhamhhjicehaaaGreatDoorMBusRounds3
import Derived.LaidEql
import Derived.Stop.Asserts
import Derived.RowKitTokens
import Derived.Shelf.SlIterI.Nil
import Derived.Shelf.SortM.Plain
import Derived.Shelf.SortM.SortNone
import Derived.Ground.GgzProg
import Derived.Ground.SlgmProg
set_option linter.unusedSimpArgs false
set_option linter.unusedVariables false
set_option maxHeartbeats 4000000
set_option maxRecDepth 10000
/- errors.As at a target of type *Errno: the library's text, walked. -/
namespace Go.Proofs.YtbhamhhjicehaaaGreatDoor.Err
open Go Go.Proofs Go.RowKit Go.Extern.Stop Go.Stop Go.Extern
theorem as_nil (t:Value) (w:World) :
  Calls Tryz.prog 133 #[.nilIface,t] w fun e w'=>e=.returned (.bool false)∧w'=w:=by
 go_enter Tryz.func133,Tryz.ntmps133
 go_wp2
 go_ret
 exact⟨rfl,rfl⟩
theorem rlm (z:Sem Value) (f:TypeId→Addr→Nat→Nat→Sem Value) (v:Value) :
  ReflectliteValue.method z f #[v]=(do match←ReflectliteValue.parts v with | none=>z | some (t,a,fl)=>f t a fl (fl % 32)):=rfl
theorem rls (v x:Value):ReflectliteValue.set #[v,x]=(do
  let (some (dst,a,fl),some (src,b,_)):=(←ReflectliteValue.parts v,←ReflectliteValue.parts x)
   |unsupported (.noEntry "extern/(internal/reflectlite.Value).Set.zeroValue")
  if fl / ReflectliteValue.flagAddr % 2==0 then unsupported (.noEntry "extern/(internal/reflectlite.Value).Set.unaddressable")
  let val←loadVar src b
  if←Rtype.directlyAssignable dst src then storeVar dst a val
  else if←Rtype.implements dst src then
   if (←Rtype.kind src)==20 then
    match val with
    |.nilIface=>unsupported (.noEntry "extern/reflectlite: a nil value of one interface type handed on as a value of another")
    |_=>storeVar dst a val
   else storeVar dst a (.iface src val)
  else panicString ("reflectlite.Set: value of type "++(←Rtype.spelt src)++" is not assignable to type "++(←Rtype.spelt dst))
  pure (.tuple #[])):=rfl
theorem X9 (h:Value) (w:World):(Go.method 398 230 (.agg #[h]) "Kind").run Tryz.prog w=.ok (196,h) w:=by kernel_rfl
theorem Ya (h:Value) (w:World):(Go.method 398 230 (.agg #[h]) "Elem").run Tryz.prog w=.ok (205,.agg #[h]) w:=by kernel_rfl
theorem Aq (h:Value) (w:World):(Go.method 398 230 (.agg #[h]) "Implements").run Tryz.prog w=.ok (206,.agg #[h]) w:=by kernel_rfl
theorem wR (h:Value) (w:World):(Go.method 398 230 (.agg #[h]) "AssignableTo").run Tryz.prog w=.ok (203,.agg #[h]) w:=by kernel_rfl
theorem Ar (h:Value) (w:World):(Go.method 398 230 (.agg #[h]) "Comparable").run Tryz.prog w=.ok (204,.agg #[h]) w:=by kernel_rfl
theorem Jj (t:Addr) (w:World):(ReflectliteValue.unpack (.iface 207 (.pointer (some t)))).run Tryz.prog w
  = .ok (.agg #[.pointer (some ⟨1,207,none⟩),.pointer (some ⟨w.heap.size,0,none⟩),.int .u64 150]) (w.alloc (.cells #[.pointer (some t)] 207)):=by kernel_rfl
theorem Yb (a:Addr) (w:World):(ReflectliteValue.methodAny (ReflectliteValue.valueError "reflectlite.Value.Type" 0) (fun t _ _ _=>ReflectliteType.toType t) #[.agg #[.pointer (some ⟨1,207,none⟩),.pointer (some a),.int .u64 150]]).run Tryz.prog w
  = .ok (.iface 230 (.agg #[.pointer (some ⟨1,207,none⟩)])) w:=by kernel_rfl
theorem Yc (w:World):((ReflectliteType.abiMethod fun t=>(fun a:Nat=>Value.int IntKind.u8 (a:Int)) <$> Rtype.kind t) #[.pointer (some ⟨1,207,none⟩)]).run Tryz.prog w=.ok (.int .u8 22) w:=by kernel_rfl
theorem Yd (w:World):((ReflectliteType.abiMethod fun t=>(fun a:Nat=>Value.int IntKind.u8 (a:Int)) <$> Rtype.kind t) #[.pointer (some ⟨1,32,none⟩)]).run Tryz.prog w=.ok (.int .u8 2) w:=by kernel_rfl
theorem Sr (a:Addr) (w:World):(ReflectliteValue.parts (.agg #[.pointer (some ⟨1,207,none⟩),.pointer (some a),.int .u64 150])).run Tryz.prog w=.ok (some (207,a,150)) w:=by kernel_rfl
theorem Sv (a p:Addr) (W:World) (ha:W.cell? a=some (.pointer (some p))) :
  (ReflectliteValue.method (ReflectliteValue.valueError "reflectlite.Value.IsNil" 0) ReflectliteValue.isNil #[.agg #[.pointer (some ⟨1,207,none⟩),.pointer (some a),.int .u64 150]]).run Tryz.prog W=.ok (.bool false) W:=by
 rw[rlm]
 simp only[Sem.run_bind,Sr,Result.andThen]
 simp[ReflectliteValue.isNil,loadVar,isAgg,underlying,Tryz.underlying207,ha,Result.andThen]
theorem Ye (w:World):(ReflectliteType.method ReflectliteType.elem #[.agg #[.pointer (some ⟨1,207,none⟩)]]).run Tryz.prog w=.ok (.iface 230 (.agg #[.pointer (some ⟨1,32,none⟩)])) w:=by kernel_rfl
theorem Yf (w:World):(ReflectliteType.relation "Implements" ReflectliteType.implements_ #[.agg #[.pointer (some ⟨1,32,none⟩)],.iface 230 (.agg #[.pointer (some ⟨1,174,none⟩)])]).run Tryz.prog w=.ok (.bool true) w:=by kernel_rfl
theorem BA (v:Value) (w:World):(ReflectliteType.typeOf #[.iface 32 v]).run Tryz.prog w=.ok (.iface 230 (.agg #[.pointer (some ⟨1,32,none⟩)])) w:=by kernel_rfl
theorem Yg (w:World):(ReflectliteType.relation "AssignableTo" ReflectliteType.assignableTo #[.agg #[.pointer (some ⟨1,32,none⟩)],.iface 230 (.agg #[.pointer (some ⟨1,32,none⟩)])]).run Tryz.prog w=.ok (.bool true) w:=by kernel_rfl
theorem Jk (e:Int) (w:World):(ReflectliteValue.unpack (.iface 32 (.int .i64 e))).run Tryz.prog w
  = .ok (.agg #[.pointer (some ⟨1,32,none⟩),.pointer (some ⟨w.heap.size,0,none⟩),.int .u64 130]) (w.alloc (.cells #[.int .i64 e] 32)):=by kernel_rfl
theorem Wn (w:World):(Rtype.elem? 207).run Tryz.prog w=.ok (some 32) w:=by kernel_rfl
theorem mkE (p:Addr) (w:World):(ReflectliteValue.mk 32 p ReflectliteValue.flagAddr).run Tryz.prog w=.ok (.agg #[.pointer (some ⟨1,32,none⟩),.pointer (some p),.int .u64 386]) w:=by kernel_rfl
theorem Sz (a p:Addr) (W:World) (ha:W.cell? a=some (.pointer (some p))) :
  (ReflectliteValue.method (ReflectliteValue.valueError "reflectlite.Value.Elem" 0) ReflectliteValue.elem #[.agg #[.pointer (some ⟨1,207,none⟩),.pointer (some a),.int .u64 150]]).run Tryz.prog W
   = .ok (.agg #[.pointer (some ⟨1,32,none⟩),.pointer (some p),.int .u64 386]) W:=by
 rw[rlm]
 simp only[Sem.run_bind,Sr,Result.andThen]
 simp[ReflectliteValue.elem,loadVar,isAgg,underlying,Tryz.underlying207,ha,Result.andThen,Wn,mkE]
theorem Wp (a:Addr) (w:World):(ReflectliteValue.parts (.agg #[.pointer (some ⟨1,32,none⟩),.pointer (some a),.int .u64 386])).run Tryz.prog w=.ok (some (32,a,386)) w:=by kernel_rfl
theorem Zq (a:Addr) (w:World):(ReflectliteValue.parts (.agg #[.pointer (some ⟨1,32,none⟩),.pointer (some a),.int .u64 130])).run Tryz.prog w=.ok (some (32,a,130)) w:=by kernel_rfl
theorem Wq (w:World):(Rtype.directlyAssignable 32 32).run Tryz.prog w=.ok true w:=by kernel_rfl
theorem acA (ta b:Addr) (e:Int) (old:Value) (W:World) (hb:W.cell? b=some (.int .i64 e)) (ht:W.cell? ta=some old) (hf:W.frozen? ta=false) :
  (ReflectliteValue.set #[.agg #[.pointer (some ⟨1,32,none⟩),.pointer (some ta),.int .u64 386],.agg #[.pointer (some ⟨1,32,none⟩),.pointer (some b),.int .u64 130]]).run Tryz.prog W
   = .ok (.tuple #[]) (W.setCell ta (.int .i64 e)):=by
 rw[rls]
 simp only[Sem.run_bind,Wp,Zq,Result.andThen]
 simp[ReflectliteValue.flagAddr,loadVar,isAgg,underlying,Tryz.underlying32,hb,Result.andThen,Wq,storeVar,Value.cells,storeCells,Addr.add]
 rw[run_store Tryz.prog W ta _ _ (by rfl)]
 simp[ht,hf]
def rO (w:World):Prop:=w.cell? ⟨0,0,none⟩=some (.iface 230 (.agg #[.pointer (some ⟨1,174,none⟩)]))
def Grown (w w':World):Prop:=Below w.heap.size w w'
theorem Grown.al {w w':World} (h:Grown w w') (o:Obj):Grown w (w'.alloc o):=Below.alloc h h.size o
theorem Grown.cell {w w':World} (h:Grown w w') {a:Addr} {v:Value} (hc:w.cell? a=some v):w'.cell? a=some v:=by
 have hlt:a.block<w.heap.size:=by
  rcases Nat.lt_or_ge a.block w.heap.size with h | h
  ·exact h
  ·simp[World.cell?,Array.getElem?_eq_none h]at hc
 rw[Below.cell h hlt];exact hc
theorem Grown.frozen {w w':World} (h:Grown w w') {a:Addr} {v:Value} (hc:w.cell? a=some v) (hf:w.frozen? a=false):w'.frozen? a=false:=by
 have hlt:a.block<w.heap.size:=by
  rcases Nat.lt_or_ge a.block w.heap.size with h | h
  ·exact h
  ·simp[World.cell?,Array.getElem?_eq_none h]at hc
 rw[Below.frozen h hlt];exact hf
theorem Grown.refl (w:World):Grown w w:=Below.refl _ w
set_option maxHeartbeats 4000000 in
theorem SB (e:Int) (t:Addr) (old:Value) (w:World) (hg:rO w) (ht:w.cell? t=some old) (hf:w.frozen? t=false) :
  Calls Tryz.prog 133 #[.iface 32 (.int .i64 e),.iface 207 (.pointer (some t))] w fun ev w'=>ev=.returned (.bool true)∧∃ w1,Grown w w1∧w'=w1.setCell t (.int .i64 e):=by
 have h61:=@run_callFunc_extern Tryz.prog 161 _ (fun args=>ReflectliteValue.unpack (args.getD 0 (.tuple #[]))) Tryz.func161 (by kernel_rfl) (by kernel_rfl) (by kernel_rfl) (by kernel_rfl)
 have h62:=@run_callFunc_extern Tryz.prog 162 _ (ReflectliteValue.methodAny (ReflectliteValue.valueError "reflectlite.Value.Type" 0) (fun t _ _ _=>ReflectliteType.toType t)) Tryz.func162 (by kernel_rfl) (by kernel_rfl) (by kernel_rfl) (by kernel_rfl)
 have h63:=@run_callFunc_extern Tryz.prog 163 _ (ReflectliteValue.method (ReflectliteValue.valueError "reflectlite.Value.IsNil" 0) ReflectliteValue.isNil) Tryz.func163 (by kernel_rfl) (by kernel_rfl) (by kernel_rfl) (by kernel_rfl)
 have agC:=@run_callFunc_extern Tryz.prog 196 _ (ReflectliteType.abiMethod fun t=>do pure (.int .u8 (←Rtype.kind t))) Tryz.func196 (by kernel_rfl) (by kernel_rfl) (by kernel_rfl) (by kernel_rfl)
 have agD:=@run_callFunc_extern Tryz.prog 205 _ (ReflectliteType.method ReflectliteType.elem) Tryz.func205 (by kernel_rfl) (by kernel_rfl) (by kernel_rfl) (by kernel_rfl)
 have h119:=@run_callFunc_extern Tryz.prog 206 _ (ReflectliteType.relation "Implements" ReflectliteType.implements_) Tryz.func206 (by kernel_rfl) (by kernel_rfl) (by kernel_rfl) (by kernel_rfl)
 have h50:=@run_callFunc_extern Tryz.prog 131 _ ReflectliteType.typeOf Tryz.func131 (by kernel_rfl) (by kernel_rfl) (by kernel_rfl) (by kernel_rfl)
 have h116:=@run_callFunc_extern Tryz.prog 203 _ (ReflectliteType.relation "AssignableTo" ReflectliteType.assignableTo) Tryz.func203 (by kernel_rfl) (by kernel_rfl) (by kernel_rfl) (by kernel_rfl)
 have h72:=@run_callFunc_extern Tryz.prog 176 _ (ReflectliteValue.method (ReflectliteValue.valueError "reflectlite.Value.Elem" 0) ReflectliteValue.elem) Tryz.func176 (by kernel_rfl) (by kernel_rfl) (by kernel_rfl) (by kernel_rfl)
 have h73:=@run_callFunc_extern Tryz.prog 177 _ ReflectliteValue.set Tryz.func177 (by kernel_rfl) (by kernel_rfl) (by kernel_rfl) (by kernel_rfl)
 have tO:=BA
 have mA:=wR
 have aE:=Yg
 have vE:=Jk
 have fP:=Jj
 have tP:=Yb
 have mK:=X9
 have mE:=Ya
 have mI:=Aq
 have kP:=Yc
 have kE:=Yd
 have eT:=Ye
 have iE:=Yf
 have c1:∀ o,Grown w (w.alloc o):=fun o=>(Grown.refl w).al o
 have n8:=Sv ⟨w.heap.size,0,none⟩ t ((w.alloc (.cells #[.pointer (some t)] 207)).alloc (.cells #[.pointer (some ⟨1,207,none⟩),.pointer (some ⟨w.heap.size,0,none⟩),.int .u64 150] 243)) (by simp)
 have hg2:World.cell? ((w.alloc (.cells #[.pointer (some t)] 207)).alloc (.cells #[.pointer (some ⟨1,207,none⟩),.pointer (some ⟨w.heap.size,0,none⟩),.int .u64 150] 243)) ⟨0,0,none⟩=some (.iface 230 (.agg #[.pointer (some ⟨1,174,none⟩)])):=((c1 _).al _).cell hg
 have el:=Sz ⟨w.heap.size,0,none⟩ t (((w.alloc (.cells #[.pointer (some t)] 207)).alloc (.cells #[.pointer (some ⟨1,207,none⟩),.pointer (some ⟨w.heap.size,0,none⟩),.int .u64 150] 243)).alloc (.cells #[.pointer (some ⟨1,207,none⟩),.pointer (some ⟨w.heap.size,0,none⟩),.int .u64 150] 243)) (by rw[World.cell?_alloc_lt _ _ ⟨w.heap.size,0,none⟩ (by simp;omega)];simp)
 have st:=acA t ⟨w.heap.size+1+1+1,0,none⟩ e old ((((w.alloc (.cells #[.pointer (some t)] 207)).alloc (.cells #[.pointer (some ⟨1,207,none⟩),.pointer (some ⟨w.heap.size,0,none⟩),.int .u64 150] 243)).alloc (.cells #[.pointer (some ⟨1,207,none⟩),.pointer (some ⟨w.heap.size,0,none⟩),.int .u64 150] 243)).alloc (.cells #[.int .i64 e] 32)) (by rw[World.cell?_alloc_at _ _ _ _ (by simp)];rfl) ((((c1 _).al _).al _).al _ |>.cell ht) ((((c1 _).al _).al _).al _ |>.frozen ht hf)
 go_enter Tryz.func133,Tryz.ntmps133
 go_wp2
 refine wp_loop_rounds 1 ?_
 rw[rounds_succ]
 go_wp2
 go_ret
 exact⟨rfl,_,(((c1 _).al _).al _).al _,rfl⟩
end Go.Proofs.YtbhamhhjicehaaaGreatDoor.Err
/- errors.As at a target of type *Errno, and errors.Is at an Errno, of a wrapped one: the library's text, walked. -/
namespace Go.Proofs.YtbhamhhjicehaaaGreatDoor.Err
open Go Go.Proofs Go.RowKit Go.Extern.Stop Go.Stop Go.Extern
theorem Ws (v:Value) (w:World):(ReflectliteType.typeOf #[.iface 197 v]).run Tryz.prog w=.ok (.iface 230 (.agg #[.pointer (some ⟨1,197,none⟩)])) w:=by kernel_rfl
theorem acB (w:World):(ReflectliteType.relation "AssignableTo" ReflectliteType.assignableTo #[.agg #[.pointer (some ⟨1,197,none⟩)],.iface 230 (.agg #[.pointer (some ⟨1,32,none⟩)])]).run Tryz.prog w=.ok (.bool false) w:=by kernel_rfl
theorem acC (v:Value) (xT:TypeId) (w:World):(Instr.typeAssert (.iface 197 v) xT 264 true).run Tryz.prog w=.ok (.tuple #[.nilIface,.bool false]) w:=run_typeAssert_lacksB Tryz.underlying264 (by kernel_rfl) (by kernel_rfl) v xT w
theorem acD (v:Value) (xT:TypeId) (w:World):(Instr.typeAssert (.iface 197 v) xT 232 true).run Tryz.prog w=.ok (.tuple #[.nilIface,.bool false]) w:=run_typeAssert_lacksB Tryz.underlying232 (by kernel_rfl) (by kernel_rfl) v xT w
theorem Dq (v:Value) (xT:TypeId) (w:World):(Instr.typeAssert (.iface 197 v) xT 235 true).run Tryz.prog w=.ok (.tuple #[.iface 197 v,.bool true]) w:=run_typeAssert_hasB Tryz.underlying235 (by kernel_rfl) v xT w
theorem Jl (v:Value) (w:World):(Go.method 398 197 v "Unwrap").run Tryz.prog w=.ok (201,v) w:=by kernel_rfl
theorem noIsE (v:Value) (xT:TypeId) (w:World):(Instr.typeAssert (.iface 32 v) xT 232 true).run Tryz.prog w=.ok (.tuple #[.nilIface,.bool false]) w:=run_typeAssert_lacksB Tryz.underlying232 (by kernel_rfl) (by kernel_rfl) v xT w
theorem noUnwrapE (v:Value) (xT:TypeId) (w:World):(Instr.typeAssert (.iface 32 v) xT 235 true).run Tryz.prog w=.ok (.tuple #[.nilIface,.bool false]) w:=run_typeAssert_lacksB Tryz.underlying235 (by kernel_rfl) (by kernel_rfl) v xT w
theorem noUnwrapsE (v:Value) (xT:TypeId) (w:World):(Instr.typeAssert (.iface 32 v) xT 237 true).run Tryz.prog w=.ok (.tuple #[.nilIface,.bool false]) w:=run_typeAssert_lacksB Tryz.underlying237 (by kernel_rfl) (by kernel_rfl) v xT w
theorem acE (w:World):((ReflectliteType.method fun t=>do Rtype.noPackHeld "Comparable" t;(fun a=>Value.bool a.comparable) <$> typeInfo t) #[.agg #[.pointer (some ⟨1,32,none⟩)]]).run Tryz.prog w=.ok (.bool true) w:=by kernel_rfl
theorem Yh:(Tryz.prog.info? 32).map (·.comparable)=some true:=by kernel_rfl
section
variable {P:Program} (w:World)
theorem uz (d:Nat) {ti tn:TypeId} {ms:Array (String×TypeId)} {i:TypeInfo} {k:IntKind} (a b:Int)
  (hi:P.underlying ti=some (.interface ms)) (hn:P.underlying tn=some (.int k)) (hinfo:P.info? tn=some i) (hcomp:i.comparable=true) :
  (Op.equalIn (d+2) ti (.iface tn (.int k a)) (.iface tn (.int k b))).run P w=.ok (a==b) w:=by
 simp[Op.equalIn,run_underlying hi,run_underlying hn,typeInfo,hinfo,hcomp]
theorem run_eql_iface_int {ti tn:TypeId} {ms:Array (String×TypeId)} {i:TypeInfo} {k:IntKind} (a b:Int)
  (hi:P.underlying ti=some (.interface ms)) (hn:P.underlying tn=some (.int k)) (hinfo:P.info? tn=some i) (hcomp:i.comparable=true) :
  (binOp .eql ti (.iface tn (.int k a)) (.iface tn (.int k b))).run P w=.ok (.bool (a==b)) w:=by
 simp only[binOp]
 simp[Op.equal,Op.maxDepth,uz w 9998 a b hi hn hinfo hcomp]
end
set_option maxHeartbeats 4000000 in
theorem SC (b o:Nat) (e:Int) (t:Addr) (old:Value) (w:World) (hg:rO w) (hb:w.cell? ⟨b,o+1,none⟩=some (.iface 32 (.int .i64 e))) (ht:w.cell? t=some old) (hf:w.frozen? t=false) :
  Calls Tryz.prog 133 #[.iface 197 (.pointer (some ⟨b,o,none⟩)),.iface 207 (.pointer (some t))] w fun ev w'=>ev=.returned (.bool true)∧∃ w1,Grown w w1∧w'=w1.setCell t (.int .i64 e):=by
 have h61:=@run_callFunc_extern Tryz.prog 161 _ (fun args=>ReflectliteValue.unpack (args.getD 0 (.tuple #[]))) Tryz.func161 (by kernel_rfl) (by kernel_rfl) (by kernel_rfl) (by kernel_rfl)
 have h62:=@run_callFunc_extern Tryz.prog 162 _ (ReflectliteValue.methodAny (ReflectliteValue.valueError "reflectlite.Value.Type" 0) (fun t _ _ _=>ReflectliteType.toType t)) Tryz.func162 (by kernel_rfl) (by kernel_rfl) (by kernel_rfl) (by kernel_rfl)
 have h63:=@run_callFunc_extern Tryz.prog 163 _ (ReflectliteValue.method (ReflectliteValue.valueError "reflectlite.Value.IsNil" 0) ReflectliteValue.isNil) Tryz.func163 (by kernel_rfl) (by kernel_rfl) (by kernel_rfl) (by kernel_rfl)
 have agC:=@run_callFunc_extern Tryz.prog 196 _ (ReflectliteType.abiMethod fun t=>do pure (.int .u8 (←Rtype.kind t))) Tryz.func196 (by kernel_rfl) (by kernel_rfl) (by kernel_rfl) (by kernel_rfl)
 have agD:=@run_callFunc_extern Tryz.prog 205 _ (ReflectliteType.method ReflectliteType.elem) Tryz.func205 (by kernel_rfl) (by kernel_rfl) (by kernel_rfl) (by kernel_rfl)
 have h119:=@run_callFunc_extern Tryz.prog 206 _ (ReflectliteType.relation "Implements" ReflectliteType.implements_) Tryz.func206 (by kernel_rfl) (by kernel_rfl) (by kernel_rfl) (by kernel_rfl)
 have h50:=@run_callFunc_extern Tryz.prog 131 _ ReflectliteType.typeOf Tryz.func131 (by kernel_rfl) (by kernel_rfl) (by kernel_rfl) (by kernel_rfl)
 have h116:=@run_callFunc_extern Tryz.prog 203 _ (ReflectliteType.relation "AssignableTo" ReflectliteType.assignableTo) Tryz.func203 (by kernel_rfl) (by kernel_rfl) (by kernel_rfl) (by kernel_rfl)
 have h72:=@run_callFunc_extern Tryz.prog 176 _ (ReflectliteValue.method (ReflectliteValue.valueError "reflectlite.Value.Elem" 0) ReflectliteValue.elem) Tryz.func176 (by kernel_rfl) (by kernel_rfl) (by kernel_rfl) (by kernel_rfl)
 have h73:=@run_callFunc_extern Tryz.prog 177 _ ReflectliteValue.set Tryz.func177 (by kernel_rfl) (by kernel_rfl) (by kernel_rfl) (by kernel_rfl)
 have tO:=BA
 have mA:=wR
 have aE:=Yg
 have vE:=Jk
 have fP:=Jj
 have tP:=Yb
 have mK:=X9
 have mE:=Ya
 have mI:=Aq
 have kP:=Yc
 have kE:=Yd
 have eT:=Ye
 have iE:=Yf
 have tF:=Ws
 have aF:=acB
 have nF:=acC
 have uF:=Dq
 have mU:=Jl
 have c1:∀ o,Grown w (w.alloc o):=fun o=>(Grown.refl w).al o
 have n8:=Sv ⟨w.heap.size,0,none⟩ t ((w.alloc (.cells #[.pointer (some t)] 207)).alloc (.cells #[.pointer (some ⟨1,207,none⟩),.pointer (some ⟨w.heap.size,0,none⟩),.int .u64 150] 243)) (by simp)
 have hg2:World.cell? ((w.alloc (.cells #[.pointer (some t)] 207)).alloc (.cells #[.pointer (some ⟨1,207,none⟩),.pointer (some ⟨w.heap.size,0,none⟩),.int .u64 150] 243)) ⟨0,0,none⟩=some (.iface 230 (.agg #[.pointer (some ⟨1,174,none⟩)])):=((c1 _).al _).cell hg
 have el:=Sz ⟨w.heap.size,0,none⟩ t (((w.alloc (.cells #[.pointer (some t)] 207)).alloc (.cells #[.pointer (some ⟨1,207,none⟩),.pointer (some ⟨w.heap.size,0,none⟩),.int .u64 150] 243)).alloc (.cells #[.pointer (some ⟨1,207,none⟩),.pointer (some ⟨w.heap.size,0,none⟩),.int .u64 150] 243)) (by rw[World.cell?_alloc_lt _ _ ⟨w.heap.size,0,none⟩ (by simp;omega)];simp)
 have st:=acA t ⟨w.heap.size+1+1+1,0,none⟩ e old ((((w.alloc (.cells #[.pointer (some t)] 207)).alloc (.cells #[.pointer (some ⟨1,207,none⟩),.pointer (some ⟨w.heap.size,0,none⟩),.int .u64 150] 243)).alloc (.cells #[.pointer (some ⟨1,207,none⟩),.pointer (some ⟨w.heap.size,0,none⟩),.int .u64 150] 243)).alloc (.cells #[.int .i64 e] 32)) (by rw[World.cell?_alloc_at _ _ _ _ (by simp)];rfl) ((((c1 _).al _).al _).al _ |>.cell ht) ((((c1 _).al _).al _).al _ |>.frozen ht hf)
 have hb3:World.cell? (((w.alloc (.cells #[.pointer (some t)] 207)).alloc (.cells #[.pointer (some ⟨1,207,none⟩),.pointer (some ⟨w.heap.size,0,none⟩),.int .u64 150] 243)).alloc (.cells #[.pointer (some ⟨1,207,none⟩),.pointer (some ⟨w.heap.size,0,none⟩),.int .u64 150] 243)) ⟨b,o+1,none⟩=some (.iface 32 (.int .i64 e)):=(((c1 _).al _).al _).cell hb
 go_enter Tryz.func133,Tryz.ntmps133
 go_wp2
 refine wp_loop_rounds 2 ?_
 rw[rounds_succ]
 go_wp2
 rw[rounds_succ]
 go_wp2
 go_ret
 exact⟨rfl,_,(((c1 _).al _).al _).al _,rfl⟩
theorem is_nil (x:Int) (w:World) :
  Calls Tryz.prog 103 #[.nilIface,.iface 32 (.int .i64 x)] w fun e w'=>e=.returned (.bool false)∧w'=w:=by
 have hn:=run_eql_iface_nil_left (P:=Tryz.prog) w 32 (.int .i64 x) Tryz.underlying174
 go_enter Tryz.func103,Tryz.ntmps103
 go_wp2
 go_ret
 exact⟨rfl,rfl⟩
set_option maxHeartbeats 4000000 in
theorem SE (e x:Int) (w:World) :
  Calls Tryz.prog 103 #[.iface 32 (.int .i64 e),.iface 32 (.int .i64 x)] w fun ev w'=>ev=.returned (.bool (e==x))∧w'=w:=by
 obtain⟨i,hi,hcmp⟩:=Option.map_eq_some_iff.1 Yh
 have h50:=@run_callFunc_extern Tryz.prog 131 _ ReflectliteType.typeOf Tryz.func131 (by kernel_rfl) (by kernel_rfl) (by kernel_rfl) (by kernel_rfl)
 have agE:=@run_callFunc_extern Tryz.prog 204 _ (ReflectliteType.method fun t=>do Rtype.noPackHeld "Comparable" t;pure (.bool (←typeInfo t).comparable)) Tryz.func204 (by kernel_rfl) (by kernel_rfl) (by kernel_rfl) (by kernel_rfl)
 have tT:=BA
 have cT:=acE
 have mC:=Ar
 have nE:=noIsE
 have uE:=noUnwrapE
 have vE:=noUnwrapsE
 have heq:=run_eql_iface_int (P:=Tryz.prog) w e x Tryz.underlying174 Tryz.underlying32 hi hcmp
 cases hr:(e==x) with
 |true=>
  rw[hr]at heq
  go_enter Tryz.func103,Tryz.ntmps103
  go_wp2
  refine wp_loop_rounds 1 ?_
  rw[rounds_succ]
  go_wp2
  go_ret
  exact⟨rfl,rfl⟩
 |false=>
  rw[hr]at heq
  go_enter Tryz.func103,Tryz.ntmps103
  go_wp2
  refine wp_loop_rounds 1 ?_
  rw[rounds_succ]
  go_wp2
  go_ret
  exact⟨rfl,rfl⟩
set_option maxHeartbeats 4000000 in
theorem SG (b o:Nat) (e x:Int) (w:World) (hb:w.cell? ⟨b,o+1,none⟩=some (.iface 32 (.int .i64 e))) :
  Calls Tryz.prog 103 #[.iface 197 (.pointer (some ⟨b,o,none⟩)),.iface 32 (.int .i64 x)] w fun ev w'=>ev=.returned (.bool (e==x))∧w'=w:=by
 obtain⟨i,hi,hcmp⟩:=Option.map_eq_some_iff.1 Yh
 have h50:=@run_callFunc_extern Tryz.prog 131 _ ReflectliteType.typeOf Tryz.func131 (by kernel_rfl) (by kernel_rfl) (by kernel_rfl) (by kernel_rfl)
 have agE:=@run_callFunc_extern Tryz.prog 204 _ (ReflectliteType.method fun t=>do Rtype.noPackHeld "Comparable" t;pure (.bool (←typeInfo t).comparable)) Tryz.func204 (by kernel_rfl) (by kernel_rfl) (by kernel_rfl) (by kernel_rfl)
 have tT:=BA
 have cT:=acE
 have mC:=Ar
 have nE:=noIsE
 have uE:=noUnwrapE
 have vE:=noUnwrapsE
 have nF:=acD
 have uF:=Dq
 have mU:=Jl
 have hty:=run_eql_iface_types (P:=Tryz.prog) 197 32 (.pointer (some ⟨b,o,none⟩)) (.int .i64 x) Tryz.underlying174 (by decide) w
 have heq:=run_eql_iface_int (P:=Tryz.prog) w e x Tryz.underlying174 Tryz.underlying32 hi hcmp
 cases hr:(e==x) with
 |true=>
  rw[hr]at heq
  go_enter Tryz.func103,Tryz.ntmps103
  go_wp2
  refine wp_loop_rounds 2 ?_
  rw[rounds_succ]
  go_wp2
  rw[rounds_succ]
  go_wp2
  go_ret
  exact⟨rfl,rfl⟩
 |false=>
  rw[hr]at heq
  go_enter Tryz.func103,Tryz.ntmps103
  go_wp2
  refine wp_loop_rounds 2 ?_
  rw[rounds_succ]
  go_wp2
  rw[rounds_succ]
  go_wp2
  go_ret
  exact⟨rfl,rfl⟩
end Go.Proofs.YtbhamhhjicehaaaGreatDoor.Err
/- errors.As and errors.Is over the abstract heap; ifs: number. -/
namespace Go.Proofs.YtbhamhhjicehaaaGreatDoor.Err
open Go Go.AX Go.Proofs Ty
theorem rO.of {E:Nat→Option Obj} {H:AH} {w:World} (h:rO H.w0) (hs:Sat E H w):rO w:=by
 have hlt:0<H.w0.heap.size:=by
  unfold rO at h
  rcases Nat.eq_zero_or_pos H.w0.heap.size with h0 | h'
  ·simp[World.cell?,h0]at h
  ·exact h'
 have:=hs.below.cell (p:=⟨0,0,none⟩) hlt
 unfold rO
 rw[this];exact h
theorem aO.one {P:Program} {f:FuncId} {args:Array Value} {H:AH} {b t:Nat} {u x y:Value} (hf:aG H b) 
  (h:∀ E w,Sat E (H.add b (.cells [x] t 1)) w→Calls P f args w fun ev w'=>ev=.returned u∧∃ w1,Grown w w1∧w'=w1.setCell ⟨b,0,none⟩ y) :
  aO P f args (H.add b (.cells [x] t 1)) (fun v H'=>v=u∧H'=H.add b (.cells [y] t 1)):=fun E w hs=>(h E w hs).mono fun e w' ⟨he,w1,hg,hw⟩=>by
 subst hw
 obtain⟨q1,_,_⟩:=(hs.Bq hg).setCells (a:=⟨b,0,none⟩) (v:=y) (aH _ _ _) rfl (Nat.zero_lt_one) (by simp)
 refine⟨u,H.add b (.cells [y] t 1),he,q1.iU rfl fun c=>?_,rfl,rfl⟩
 rw[dw,dh,dh]
 split<;>rfl
def uU (H:AH) (v:Value) (e:Int):Prop:=
 (v=.nilIface∧e=0)∨v=.iface 32 (.int .i64 e)∨∃ b o,v=.iface 197 (.pointer (some ⟨b,o,none⟩))∧H.rd ⟨b,o+1,none⟩=some (.iface 32 (.int .i64 e))
theorem agF {H:AH} {v:Value} {e:Int} {b:Nat} (hE:rO H.w0) (hv:uU H v e) (hn:v≠.nilIface) (hf:aG H b) :
  aO Tryz.prog 133 #[v,.iface 207 (.pointer (some ⟨b,0,none⟩))] (H.add b (.cells [.int .i64 0] 32 1)) (fun u H'=>u=.bool true∧H'=H.add b (.cells [.int .i64 e] 32 1)):=
 aO.one hf fun E w hs=>by
  have hg:=rO.of (H:=H.add b (.cells [.int .i64 0] 32 1)) hE hs
  have ht:w.cell? ⟨b,0,none⟩=some (.int .i64 0):=hs.rd (by rw[gZ];rfl)
  have hz:w.frozen? ⟨b,0,none⟩=false:=hs.UG (by simp[AH.UG,dh])
  rcases hv with ⟨rfl,_⟩ | rfl | ⟨b1,o1,rfl,hr⟩
  ·exact absurd rfl hn
  ·exact SB e _ _ w hg ht hz
  ·exact SC b1 o1 e _ _ w hg ((hs.mono (AH.aK (AH.le_refl _) hf.2)).rd hr) ht hz
theorem Jm {H:AH} {v:Value} {e:Int} (hE:rO H.w0) (hv:uU H v e):aO Tryz.prog 104 #[v] H (fun u H'=>u=.int .i64 e∧H=H'):=by
 refine aO.cu Tryz.func104 rfl Tryz.ntmps104 Tryz.results104 (by simp) ?_;simp -dsimp(maxSteps:=4000000) only[go_sem]
 refine bY.mk fun b SH=>?_
 simp -dsimp(maxSteps:=4000000) only[go_sem]
 by_cases hn:v=.nilIface
 ·subst hn
  obtain rfl:e=0:=by
   rcases hv with ⟨_,h⟩ | h | ⟨_,_,h,_⟩
   ·exact h
   ·cases h
   ·cases h
  refine aO.mono (K:=fun u H'=>u=.bool false∧(H.add b (.cells [.int .i64 0] 32 1))=H') (fun E w hs=>(as_nil _ w).mono fun ev w' ⟨h1,h2⟩=>⟨_,_,h1,h2▸hs,rfl,rfl⟩) ?_
  rintro _ _ ⟨rfl,rfl⟩
  simp -dsimp(maxSteps:=4000000) only[go_sem]
  exact⟨H,AH.aK (AH.le_refl _) SH.2,rfl⟩
 ·refine(agF hE hv hn SH).mono ?_
  rintro _ _ ⟨rfl,rfl⟩
  simp -dsimp(maxSteps:=4000000) only[go_sem]
  exact⟨H,AH.aK (AH.le_refl _) SH.2,rfl⟩
theorem agG {H:AH} {v:Value} {e x:Int} (hv:uU H v e) (hx:x≠0):aO Tryz.prog 103 #[v,.iface 32 (.int .i64 x)] H (fun u H'=>u=.bool (e==x)∧H=H'):=fun E w hs=>by
 have fin:∀ {u:Value},u=.bool (e==x)→Calls Tryz.prog 103 #[v,.iface 32 (.int .i64 x)] w (fun ev w'=>ev=.returned u∧w'=w)→Calls Tryz.prog 103 #[v,.iface 32 (.int .i64 x)] w (fun ev w'=>∃ u H',ev=.returned u∧Sat E H' w'∧u=.bool (e==x)∧H=H'):=
  fun hu h=>h.mono fun ev w' ⟨h1,h2⟩=>⟨_,H,h1,h2▸hs,hu,rfl⟩
 rcases hv with ⟨rfl,rfl⟩ | rfl | ⟨b1,o1,rfl,hr⟩
 ·exact fin (by simp[Ne.symm hx]) (is_nil x w)
 ·exact fin rfl (SE e x w)
 ·exact fin rfl (SG b1 o1 e x w (hs.rd hr))
end Go.Proofs.YtbhamhhjicehaaaGreatDoor.Err
/- ifs: a store in memory; New, Denied, Get, own. -/
namespace Go.Proofs.YtbhamhhjicehaaaGreatDoor.mF
open Go Go.AX Go.Proofs Ty Go.Proofs.YtbhamhhjicehaaaGreatDoor.File Go.Proofs.YtbhamhhjicehaaaGreatDoor.Err
theorem aB {a b c d:Value} (r:Rc):iO [a,b,c,d] 0 (enc r)=enc r:=Eq.trans rfl rfl
theorem aC (r:Rc):(enc r).take 4=enc r:=Eq.trans rfl rfl
structure MF where
 n:Int
 p:Int
 blk:Nat
 bs:Nat
 R:List Rc
def MF.nf (m:MF):Nf:=(m.n,m.p,m.R)
def MF.val (m:MF):Value:=fv m.p (some ⟨m.blk,0,none⟩) m.R.length m.R.length
def MF.ent (m:MF):Value×Value:=(.int .i64 m.n,m.val)
structure jT (H:AH) (b bm:Nat) (ms:List MF) (den:Int):Prop where
 top:H.find b=some (.cells [.map (some bm),.int .i64 den] 113 2)
 map:H.find bm=some (.gW (ms.map MF.ent))
 rows:∀ m∈ms,H.find m.blk=some (.cells (m.R.map enc).flatten 76 m.bs)∧m.R.length*4≤m.bs
 nd:(ms.map (·.blk)).Nodup
 kd:Kd (ms.map MF.nf)
def sU (b bm:Nat) (ms:List MF) (x:Nat):Prop:=x=b∨x=bm∨∃ m∈ms,x=m.blk
def iV (H:AH) (b:Nat) (X:List Nf) (den:Int) (ft:Nat→Prop):Prop:=∃ bm ms,jT H b bm ms den∧ms.map MF.nf=X∧∀ x,ft x↔sU b bm ms x
theorem jT.keep {H H':AH} {b bm:Nat} {ms:List MF} {den:Int} {ex:Nat→Prop} (h:jT H b bm ms den) (hK:Keep H H' ex) (hx:∀ x,sU b bm ms x→¬ ex x):jT H' b bm ms den:=
 ⟨hK.find (hx _ (.inl rfl)) h.top,hK.find (hx _ (.inr (.inl rfl))) h.map,fun m hm=>⟨hK.find (hx _ (.inr (.inr ⟨m,hm,rfl⟩))) (h.rows m hm).1,(h.rows m hm).2⟩,h.nd,h.kd⟩
theorem iV.keep {H H':AH} {b:Nat} {X:List Nf} {den:Int} {ft ex:Nat→Prop} (h:iV H b X den ft) (hK:Keep H H' ex) (hx:∀ x,ft x→¬ ex x):iV H' b X den ft:=by
 obtain⟨bm,ms,h1,h2,h3⟩:=h
 exact⟨bm,ms,h1.keep hK fun x hf=>hx x ((h3 x).2 hf),h2,h3⟩
theorem iV.find {H:AH} {b:Nat} {X:List Nf} {den:Int} {ft:Nat→Prop} (h:iV H b X den ft):∃ bm,H.find b=some (.cells [.map (some bm),.int .i64 den] 113 2):=by
 obtain⟨bm,ms,h1,_⟩:=h
 exact⟨bm,h1.top⟩
theorem jT.known {H:AH} {b bm:Nat} {ms:List MF} {den:Int} (h:jT H b bm ms den) {x:Nat} (hx:sU b bm ms x):(H.find x).isSome:=by
 rcases hx with rfl | rfl | ⟨m,hm,rfl⟩
 ·rw[h.top];rfl
 ·rw[h.map];rfl
 ·rw[(h.rows m hm).1];rfl
theorem iV.known {H:AH} {b:Nat} {X:List Nf} {den:Int} {ft:Nat→Prop} (h:iV H b X den ft) {x:Nat} (hx:ft x):(H.find x).isSome:=by
 obtain⟨bm,ms,h1,_,h3⟩:=h
 exact h1.known ((h3 x).1 hx)
theorem iV.fresh {H:AH} {b:Nat} {X:List Nf} {den:Int} {ft:Nat→Prop} (h:iV H b X den ft) {x:Nat} (hf:aG H x):¬ ft x:=fun hx=>by
 have:=h.known hx;rw[hf.2]at this;cases this
theorem iV.self {H:AH} {b:Nat} {X:List Nf} {den:Int} {ft:Nat→Prop} (h:iV H b X den ft):ft b:=by
 obtain⟨bm,ms,_,_,h3⟩:=h
 exact(h3 b).2 (.inl rfl)
theorem jT.ne1 {H:AH} {b bm:Nat} {ms:List MF} {den:Int} (h:jT H b bm ms den):b≠bm:=fun e=>by
 have:=h.top;rw[e,h.map]at this;cases this
theorem jT.ne2 {H:AH} {b bm:Nat} {ms:List MF} {den:Int} (h:jT H b bm ms den) {m:MF} (hm:m∈ms):m.blk≠b:=fun e=>by
 have:=(h.rows m hm).1;rw[e,h.top]at this;simp only[Option.some.injEq,iD.cells.injEq]at this;exact absurd this.2.1 (by decide)
theorem jT.ne3 {H:AH} {b bm:Nat} {ms:List MF} {den:Int} (h:jT H b bm ms den) {m:MF} (hm:m∈ms):m.blk≠bm:=fun e=>by
 have:=(h.rows m hm).1;rw[e,h.map]at this;cases this
theorem jT.slc {H:AH} {b bm:Nat} {ms:List MF} {den:Int} (h:jT H b bm ms den) {m:MF} (hm:m∈ms) (hl:m.R.length<9223372036854775808):bG H 4 (some ⟨m.blk,0,none⟩) m.R.length (m.R.map enc):=
 bG.iU (h.rows m hm).1 (lg m.R) (by simp) (by simpa using hl)
def Wu (n:Int):List MF→Nat→Option (Nat×Value)
 | [],_=>none
 |m::l,i=>if m.n=n then some (i,m.val) else Wu n l (i+1)
theorem SI (n:Int):∀ (ms:List MF) (i:Nat),zx (.int .i64) (.int .i64 n) (ms.map MF.ent) i=some (Wu n ms i)
 | [],_=>rfl
 |m::l,i=>by
  have ih:=SI n l (i+1)
  rw[Wu]
  by_cases h:m.n=n
  ·simp[zx,MF.ent,Instr.sameNow,h]
  ·have hb:(n==m.n)=false:=by simpa using fun e=>h e.symm
   have hb2:(m.n==n)=false:=by simpa using h
   simp only[List.map_cons,zx,MF.ent,Instr.sameNow,hb,hb2,if_neg h]
   exact ih
theorem Jo {n:Int}:∀ {ms:List MF} {i:Nat},Wu n ms i=none↔lk n (ms.map MF.nf)=none
 | [],_=>by simp[Wu,lk]
 |m::l,i=>by
  rw[Wu,List.map_cons,lk]
  show _↔(if m.n=n then _ else _)=none
  by_cases h:m.n=n
  ·simp[h]
  ·simp only[if_neg h];exact Jo
theorem Jp {n:Int}:∀ {ms:List MF} {i j:Nat} {v:Value},Wu n ms i=some (j,v)→∃ k m,j=i+k∧ms[k]?=some m∧m.n=n∧v=m.val∧lk n (ms.map MF.nf)=some (m.p,m.R)
 |m::l,i,j,v,h=>by
  rw[Wu]at h
  by_cases e:m.n=n
  ·rw[if_pos e]at h;cases h
   exact⟨0,m,rfl,rfl,e,rfl,by rw[List.map_cons,lk];exact if_pos e⟩
  ·rw[if_neg e]at h
   obtain⟨k,m',h1,h2,h3,h4,h5⟩:=Jp h
   refine⟨k+1,m',by omega,h2,h3,h4,?_⟩
   rw[List.map_cons,lk]
   exact(if_neg e).trans h5
theorem jT.at_ {H:AH} {b bm:Nat} {ms:List MF} {den:Int} (_h:jT H b bm ms den) (n:Int) :
  (zx (.int .i64) (.int .i64 n) (ms.map MF.ent) 0=some none∧lk n (ms.map MF.nf)=none)∨
  ∃ k m,zx (.int .i64) (.int .i64 n) (ms.map MF.ent) 0=some (some (k,m.val))∧ms[k]?=some m∧m.n=n∧lk n (ms.map MF.nf)=some (m.p,m.R):=by
 have hm:=SI n ms 0
 cases hf:Wu n ms 0 with
 |none=>rw[hf]at hm;exact .inl ⟨hm,Jo.1 hf⟩
 |some x=>
  obtain⟨j,v⟩:=x
  obtain⟨k,m,h1,h2,h3,rfl,h5⟩:=Jp hf
  rw[hf,h1,Nat.zero_add]at hm
  exact .inr ⟨k,m,hm,h2,h3,h5⟩
theorem Dt (H:AH):aO Tryz.prog 21 #[] H (fun v H'=>∃ b ft,v=.pointer (some ⟨b,0,none⟩)∧iV H' b [] 0 ft∧Keep H H' (fun _=>False)∧∀ x,ft x→aG H x):=by
 refine aO.cu Tryz.func21 rfl Tryz.ntmps21 Tryz.results21 (by simp) ?_;simp -dsimp(maxSteps:=4000000) only[go_sem]
 refine bY.mk fun bm rP=>?_
 simp -dsimp(maxSteps:=4000000) only[go_sem]
 refine bY.mk fun b SH=>?_
 simp -dsimp(maxSteps:=4000000) only[go_sem]
 have hne:b≠bm:=SH.cO (aH _ _ _)
 refine⟨_,AH.le_refl _,b,sU b bm [],rfl,⟨bm,[],⟨?_,?_,by simp,by simp,by simp[Kd]⟩,rfl,fun _=>Iff.rfl⟩,(Keep.refl.nw rP).nw SH,?_⟩
 ·rw[aH]
 ·rw[aN _ hne,aH];rfl
 ·rintro x (rfl | rfl | ⟨_,h,_⟩)
  ·exact(Keep.refl.nw rP).fr SH
  ·exact rP
  ·cases h
theorem Jq {H:AH} {b:Nat} {X:List Nf} {den:Int} {ft:Nat→Prop} (h:iV H b X den ft):aO Tryz.prog 17 #[.pointer (some ⟨b,0,none⟩)] H (fun v H'=>v=.int .i64 den∧H=H'):=by
 obtain⟨bm,ht⟩:=h.find
 have r1:H.rd ⟨b,1,none⟩=some (.int .i64 den):=by rw[gB ht];rfl
 refine aO.cu Tryz.func17 rfl Tryz.ntmps17 Tryz.results17 (by simp) ?_;simp -dsimp(maxSteps:=4000000) only[go_sem]
 simp -dsimp(maxSteps:=4000000) only[r1,go_sem]
 exact⟨H,AH.le_refl _,rfl⟩
def uV (o:Option Rc):Value:=match o with | none=>.tuple #[.agg (enc zr).toArray,.bool false] | some r=>.tuple #[.agg (enc r).toArray,.bool true]
theorem BD {X:List Nf} {n rec:Int} {f:Fl} (h:lk n X=some f):iJ X n rec=if rec<0 then none else f.2[rec.toNat]?:=by rw[iJ,h];rfl
theorem Jr {H:AH} {b:Nat} {X:List Nf} {den:Int} {ft:Nat→Prop} (h:iV H b X den ft) (hX:lG X) (n rec:Int) :
  aO Tryz.prog 31 #[.pointer (some ⟨b,0,none⟩),.int .i64 n,.int .i64 rec] H (fun v H'=>v=uV (iJ X n rec)∧H=H'):=by
 obtain⟨bm,ms,h1,rfl,_⟩:=h
 have r0:H.rd ⟨b,0,none⟩=some (.map (some bm)):=by rw[gB h1.top];rfl
 have hmp:H.mp bm=some (ms.map MF.ent):=by rw[AH.mp,h1.map]
 refine aO.cu Tryz.func31 rfl Tryz.ntmps31 Tryz.results31 (by simp) ?_;simp -dsimp(maxSteps:=4000000) only[go_sem]
 refine bY.mk fun b1 iy=>?_;have aP:=iy;(try simp only[ah,aj,ne_eq]at aP);have aY:=aP;(try simp only[@eq_comm Nat b1]at aY);simp -dsimp(maxSteps:=4000000) only[aP,aY,go_sem]
 have n1:¬ b1=b:=iy.cO h1.top
 have n2:¬ b1=bm:=iy.cO h1.map
 rcases h1.at_ n with ⟨hm,hl⟩ | ⟨k,m,hm,hk,hn,hl⟩
 ·have hg:iJ (ms.map MF.nf) n rec=none:=by rw[iJ,hl];rfl
  rw[hg]
  simp -dsimp(maxSteps:=4000000) only[r0,n1,n2,hmp,hm,aP,aY,go_sem]
  refine bY.mk fun b2 nY=>?_;have dK:=nY;(try simp only[ah,aj,ne_eq]at dK);have dV:=dK;(try simp only[@eq_comm Nat b2]at dV);simp -dsimp(maxSteps:=4000000) only[aP,aY,dK,dV,go_sem]
  by_cases hr:rec<0
  ·simp -dsimp(maxSteps:=4000000) only[hr,aP,aY,dK,dV,go_sem]
   exact⟨H,(AH.aK (AH.aK (AH.le_refl _) ((by simp only[ah,aj,ne_eq,aP,not_false_eq_true,and_self]:aG _ b1).2)) ((by simp only[ah,aj,ne_eq,dK,not_false_eq_true,and_self]:aG _ b2).2)),(by first | exact⟨rfl,rfl⟩ | rfl)⟩
  ·have hr2:(0:Int)≤rec:=by omega
   simp -dsimp(maxSteps:=4000000) only[hr,hr2,aP,aY,dK,dV,go_sem]
   exact⟨H,(AH.aK (AH.aK (AH.le_refl _) ((by simp only[ah,aj,ne_eq,aP,not_false_eq_true,and_self]:aG _ b1).2)) ((by simp only[ah,aj,ne_eq,dK,not_false_eq_true,and_self]:aG _ b2).2)),(by first | exact⟨rfl,rfl⟩ | rfl)⟩
 ·rw[BD hl]
  obtain⟨_,hgd,_⟩:=hX.lk hl
  obtain⟨hl1,hl2⟩:=l9 hgd
  dsimp only at hl1 hl2
  have hmem:=List.mem_of_getElem? hk
  have n3:¬ b1=m.blk:=iy.cO (h1.rows m hmem).1
  have hs:=h1.slc hmem (by omega)
  unfold MF.val fv at hm
  simp -dsimp(maxSteps:=4000000) only[r0,n1,n2,hmp,hm,aP,aY,go_sem]
  refine bY.mk fun b2 nY=>?_;have dK:=nY;(try simp only[ah,aj,ne_eq]at dK);have dV:=dK;(try simp only[@eq_comm Nat b2]at dV);simp -dsimp(maxSteps:=4000000) only[aP,aY,dK,dV,go_sem]
  have n4:¬ b2=m.blk:=dK.2.cO (h1.rows m hmem).1
  by_cases hr:rec<0
  ·simp -dsimp(maxSteps:=4000000) only[hr,aP,aY,dK,dV,go_sem]
   exact⟨H,(AH.aK (AH.aK (AH.le_refl _) ((by simp only[ah,aj,ne_eq,aP,not_false_eq_true,and_self]:aG _ b1).2)) ((by simp only[ah,aj,ne_eq,dK,not_false_eq_true,and_self]:aG _ b2).2)),(by first | exact⟨rfl,rfl⟩ | rfl)⟩
  by_cases hr2:(m.R.length:Int)≤rec
  ·have e:m.R[rec.toNat]?=none:=List.getElem?_eq_none (by omega)
   simp -dsimp(maxSteps:=4000000) only[hr,hr2,aP,aY,dK,dV,go_sem]
   rw[e]
   exact⟨H,(AH.aK (AH.aK (AH.le_refl _) ((by simp only[ah,aj,ne_eq,aP,not_false_eq_true,and_self]:aG _ b1).2)) ((by simp only[ah,aj,ne_eq,dK,not_false_eq_true,and_self]:aG _ b2).2)),(by first | exact⟨rfl,rfl⟩ | rfl)⟩
  obtain⟨i,rfl⟩:∃ i:Nat,rec=i:=⟨rec.toNat,by omega⟩
  obtain⟨r,hri⟩:=get_some (l:=m.R) (i:=i) (by omega)
  obtain⟨b_,o,he,hrow,_⟩:=hs.get (Go.AX.dn (f:=enc) hri)
  cases he
  rw[Nat.zero_add]at hrow
  have hlt:(i:Int)<(m.R.length:Int):=by omega
  have h0:(0:Int)≤(i:Int):=by omega
  simp -dsimp(maxSteps:=4000000) only[hr,hr2,hrow,hlt,h0,n3,n4,au,ak,aB,aC,aP,aY,dK,dV,go_sem]
  rw[hri]
  exact⟨H,(AH.aK (AH.aK (AH.le_refl _) ((by simp only[ah,aj,ne_eq,aP,not_false_eq_true,and_self]:aG _ b1).2)) ((by simp only[ah,aj,ne_eq,dK,not_false_eq_true,and_self]:aG _ b2).2)),(by first | exact⟨rfl,rfl⟩ | rfl)⟩
end Go.Proofs.YtbhamhhjicehaaaGreatDoor.mF
/- the reference's store: at, Get, Same. -/
namespace Go.Proofs.YtbhamhhjicehaaaGreatDoor.mF
open Go Go.AX Go.Proofs Ty Go.Proofs.YtbhamhhjicehaaaGreatDoor.File
structure RF where
 n:Int
 p:Int
 base:Option Addr
 cap:Nat
 R:List Rc
def RF.nf (z:RF):Nf:=(z.n,z.p,z.R)
def RF.val (z:RF):Value:=fv z.p z.base z.R.length z.cap
def gK (z:RF):List Value:=[.int .i64 z.n,.int .i64 z.p,.slice z.base z.R.length z.cap]
structure zJ (H:AH) (base:Option Addr) (cap:Nat) (Z:List RF) (rd:Nat→Prop):Prop where
 out:bG H 3 base cap (Z.map gK)
 inn:∀ z∈Z,bG H 4 z.base z.cap (z.R.map enc)
 r1:Z=[]∨∀ a,base=some a→rd a.block
 r2:∀ z∈Z,z.R=[]∨∀ a,z.base=some a→rd a.block
theorem zJ.keep {H H':AH} {base:Option Addr} {cap:Nat} {Z:List RF} {rd ex:Nat→Prop} (h:zJ H base cap Z rd) (hK:Keep H H' ex) (hd:∀ x,rd x→¬ ex x):zJ H' base cap Z rd:=
 ⟨h.out.past (h.r1.imp (by rintro rfl;rfl) fun h a ha=>hd _ (h a ha)) hK,fun z hz=>(h.inn z hz).past ((h.r2 z hz).imp (by intro e;rw[e];rfl) fun h a ha=>hd _ (h a ha)) hK,h.r1,h.r2⟩
theorem zJ.mono {H:AH} {base:Option Addr} {cap:Nat} {Z:List RF} {rd rd':Nat→Prop} (h:zJ H base cap Z rd) (hd:∀ x,rd x→rd' x):zJ H base cap Z rd':=
 ⟨h.out,h.inn,h.r1.imp id fun h a ha=>hd _ (h a ha),fun z hz=>(h.r2 z hz).imp id fun h a ha=>hd _ (h a ha)⟩
def uX (H:AH) (b:Nat) (Z:List RF) (den:Int) (rd:Nat→Prop):Prop:=∃ base cap,H.find b=some (.cells [.slice base Z.length cap,.int .i64 den] 50 2)∧zJ H base cap Z rd∧¬ rd b
theorem uX.keep {H H':AH} {b:Nat} {Z:List RF} {den:Int} {rd ex:Nat→Prop} (h:uX H b Z den rd) (hK:Keep H H' ex) (hd:∀ x,rd x→¬ ex x) (hb:¬ ex b):uX H' b Z den rd:=by
 obtain⟨base,cap,h1,h2,h3⟩:=h
 exact⟨base,cap,hK.find hb h1,h2.keep hK hd,h3⟩
theorem LW {n:Int} {B:List Nf}:∀ {A:List Nf},lk n A=none→lk n (A++B)=lk n B
 | [],_=>rfl
 |x::A,h=>by
  rw[lk]at h
  split at h
  ·cases h
  ·rename_i e
   rw[List.cons_append,lk,if_neg e];exact LW h
theorem NQ {n:Int} {Z:List RF} {i:Nat} {z:RF} (h:lk n ((Z.take i).map RF.nf)=none) (hz:Z[i]?=some z) :
  (z.n=n→lk n (Z.map RF.nf)=some (z.p,z.R))∧(z.n≠n→lk n ((Z.take (i+1)).map RF.nf)=none):=by
 have hlt:=Go.AX.dG hz
 have e:Z.drop i=z::Z.drop (i+1):=by
  rw[List.drop_eq_getElem_cons hlt]
  rw[List.getElem?_eq_getElem hlt]at hz;cases hz;rfl
 refine⟨fun hn=>?_,fun hn=>?_⟩
 ·rw[←List.take_append_drop i Z,List.map_append,LW h,e,List.map_cons,lk]
  exact if_pos hn
 ·rw[List.take_add_one,hz,List.map_append,LW h]
  simp only[Option.toList,List.map_cons,List.map_nil,lk]
  exact if_neg hn
def agH (n:Int) (Z:List RF) (r:Int):Prop:=(r = -1∧lk n (Z.map RF.nf)=none)∨∃ (i:Nat) (z:RF),r=i∧Z[i]?=some z∧z.n=n∧lk n (Z.map RF.nf)=some (z.p,z.R)
theorem Wv {H:AH} {b:Nat} {Z:List RF} {den:Int} {rd:Nat→Prop} (h:uX H b Z den rd) (n:Int) :
  aO Tryz.prog 98 #[.pointer (some ⟨b,0,none⟩),.int .i64 n] H (fun v H'=>∃ r,v=.int .i64 r∧agH n Z r∧H=H'):=by
 obtain⟨base,cap,ht,hZ,_⟩:=h
 have r0:H.rd ⟨b,0,none⟩=some (.slice base Z.length cap):=by rw[gB ht];rfl
 have hbig:=hZ.out.big
 simp only[List.length_map]at hbig
 refine aO.cu Tryz.func98 rfl Tryz.ntmps98 Tryz.results98 (by simp) ?_;simp -dsimp(maxSteps:=4000000) only[go_sem]
 refine fZ.gQ (ι:=Nat) (fun i=>i≤Z.length∧lk n ((Z.take i).map RF.nf)=none) (fun i=>[(5,.int .i64 i),(0,.pointer (some ⟨b,0,none⟩)),(1,.int .i64 n)]) (fun _=>H) (fun i=>Z.length - i) 0 ⟨by omega,rfl⟩ (bZ.aS ?_) (AH.le_refl _) fun i hi Q again out=>?_
 ·simp -dsimp(maxSteps:=4000000) only[go_sem]
 obtain⟨hi,hno⟩:=hi
 by_cases hlt:(i:Int)<Z.length
 case neg=>
  obtain rfl:i=Z.length:=by omega
  rw[List.take_length]at hno
  simp -dsimp(maxSteps:=4000000) only[r0,hlt,go_sem]
  refine out _ _ _ (by simp) ?_
  simp -dsimp(maxSteps:=4000000) only[go_sem]
  exact⟨H,AH.le_refl _,-1,rfl,.inl ⟨rfl,hno⟩,rfl⟩
 obtain⟨z,hz⟩:=get_some (l:=Z) (i:=i) (by omega)
 obtain⟨b_,o,rfl,_,hrd⟩:=hZ.out.get (Go.AX.dn (f:=gK) hz)
 have rz:=hrd 0 _ rfl
 simp only[Nat.add_zero]at rz
 have ee:=dA (i:=i) (by omega)
 have hi0:(0:Int)≤(i:Int):=by omega
 by_cases hn:z.n=n
 ·simp -dsimp(maxSteps:=4000000) only[r0,hlt,rz,hn,hi0,go_sem]
  refine out _ _ _ (by simp) ?_
  simp -dsimp(maxSteps:=4000000) only[go_sem]
  exact⟨H,AH.le_refl _,i,rfl,.inr ⟨i,z,rfl,hz,hn,(NQ hno hz).1 hn⟩,rfl⟩
 ·simp -dsimp(maxSteps:=4000000) only[r0,hlt,rz,hn,hi0,ee,go_sem]
  exact again (i+1) _ _ ⟨by omega,(NQ hno hz).2 hn⟩ (bZ.aS (by simp -dsimp(maxSteps:=4000000) only[go_sem])) (AH.le_refl _) (by omega)
theorem Du {H:AH} {b:Nat} {Z:List RF} {den:Int} {rd:Nat→Prop} (h:uX H b Z den rd) (n rec:Int) :
  aO Tryz.prog 84 #[.pointer (some ⟨b,0,none⟩),.int .i64 n,.int .i64 rec] H (fun v H'=>v=uV (iJ (Z.map RF.nf) n rec)∧H=H'):=by
 have hat:=fun H1 (h1:uX H1 b Z den rd)=>Wv h1 n
 refine aO.cu Tryz.func84 rfl Tryz.ntmps84 Tryz.results84 (by simp) ?_;simp -dsimp(maxSteps:=4000000) only[au,ak,aB,aC,go_sem]
 refine bY.mk fun b6 jL=>?_;have bV:=jL;(try simp only[ah,aj,ne_eq]at bV);have dI:=bV;(try simp only[@eq_comm Nat b6]at dI);simp -dsimp(maxSteps:=4000000) only[au,ak,aB,aC,bV,dI,go_sem]
 have k1:=h.keep (Keep.add (k:=.cells [.int .u8 0,.int .u8 0,.int .u8 0,.int .u8 0] 76 4) jL) (ex:=fun _=>False) (fun _ _ h=>h) (fun h=>h)
 refine(hat _ k1).mono ?_
 rintro _ _ ⟨r,rfl,ho,rfl⟩
 obtain⟨base,cap,ht,hZ,_⟩:=h
 have r0:H.rd ⟨b,0,none⟩=some (.slice base Z.length cap):=by rw[gB ht];rfl
 have n1:¬ b6=b:=jL.cO ht
 rcases ho with ⟨rfl,hl⟩ | ⟨i,z,rfl,hz,hn,hl⟩
 ·have hg:iJ (Z.map RF.nf) n rec=none:=by rw[iJ,hl];rfl
  rw[hg]
  simp -dsimp(maxSteps:=4000000) only[au,ak,aB,aC,bV,dI,go_sem]
  exact⟨H,(AH.aK (AH.le_refl _) ((by simp only[au,ak,aB,aC,ah,aj,ne_eq,bV,not_false_eq_true,and_self]:aG _ b6).2)),(by first | exact⟨rfl,rfl⟩ | rfl)⟩
 rw[BD hl]
 have hmem:=List.mem_of_getElem? hz
 obtain⟨b_,o,rfl,hrow,hrd⟩:=hZ.out.get (Go.AX.dn (f:=gK) hz)
 have rz:=hrd 2 _ rfl
 have n2:¬ b6=b_:=jL.iP hrow
 have hi0:(0:Int)≤(i:Int):=by omega
 have hi1:¬ (i:Int)<0:=by omega
 have hlt:(i:Int)<(Z.length:Int):=by have:=Go.AX.dG hz;omega
 have hs:=hZ.inn z hmem
 by_cases hr:rec<0
 ·simp -dsimp(maxSteps:=4000000) only[hr,hi1,au,ak,aB,aC,bV,dI,go_sem]
  exact⟨H,(AH.aK (AH.le_refl _) ((by simp only[au,ak,aB,aC,ah,aj,ne_eq,bV,not_false_eq_true,and_self]:aG _ b6).2)),(by first | exact⟨rfl,rfl⟩ | rfl)⟩
 by_cases hr2:(z.R.length:Int)≤rec
 ·have e:z.R[rec.toNat]?=none:=List.getElem?_eq_none (by omega)
  simp -dsimp(maxSteps:=4000000) only[hr,hr2,hi1,hi0,r0,n1,n2,hlt,rz,au,ak,aB,aC,bV,dI,go_sem]
  rw[e]
  exact⟨H,(AH.aK (AH.le_refl _) ((by simp only[au,ak,aB,aC,ah,aj,ne_eq,bV,not_false_eq_true,and_self]:aG _ b6).2)),(by first | exact⟨rfl,rfl⟩ | rfl)⟩
 ·obtain⟨j,rfl⟩:∃ j:Nat,rec=j:=⟨rec.toNat,by omega⟩
  obtain⟨r,hrj⟩:=get_some (l:=z.R) (i:=j) (by omega)
  obtain⟨c_,p,hbase,hrow2,_⟩:=hs.get (Go.AX.dn (f:=enc) hrj)
  rw[hbase]at rz
  have n3:¬ b6=c_:=jL.iP hrow2
  have hlt2:(j:Int)<(z.R.length:Int):=by omega
  have hj0:(0:Int)≤(j:Int):=by omega
  simp -dsimp(maxSteps:=4000000) only[hr,hr2,hi1,hi0,r0,n1,n2,n3,hlt,hlt2,hj0,rz,hrow2,au,ak,aB,aC,bV,dI,go_sem]
  rw[hrj]
  exact⟨H,(AH.aK (AH.le_refl _) ((by simp only[au,ak,aB,aC,ah,aj,ne_eq,bV,not_false_eq_true,and_self]:aG _ b6).2)),(by first | exact⟨rfl,rfl⟩ | rfl)⟩
theorem LX {H:AH} {A B:List RF} {b1 b2:Option Addr} {c1 c2:Nat} {rd1 rd2:Nat→Prop} (hA:zJ H b1 c1 A rd1) (hB:zJ H b2 c2 B rd2) :
  aO Tryz.prog 15 #[.slice b1 A.length c1,.slice b2 B.length c2] H (fun v H'=>v=.bool (decide (A.map RF.nf=B.map RF.nf))∧H=H'):=by
 have hbig:=hA.out.big
 simp only[List.length_map]at hbig
 refine aO.cu Tryz.func15 rfl Tryz.ntmps15 Tryz.results15 (by simp) ?_;simp -dsimp(maxSteps:=4000000) only[go_sem]
 by_cases hl:A.length=B.length
 case neg=>
  have hl':¬ (A.length:Int)=B.length:=by omega
  have e:¬ A.map RF.nf=B.map RF.nf:=fun e=>hl (by simpa using congrArg List.length e)
  simp -dsimp(maxSteps:=4000000) only[hl',go_sem]
  exact⟨H,AH.le_refl _,by simp[e],rfl⟩
 have hl':(A.length:Int)=B.length:=by omega
 simp -dsimp(maxSteps:=4000000) only[hl',go_sem]
 refine fZ.gQ (ι:=Nat) (fun i=>i≤A.length∧(A.take i).map RF.nf=(B.take i).map RF.nf) (fun i=>[(5,.int .i64 i),(0,.slice b1 A.length c1),(1,.slice b2 B.length c2)]) (fun _=>H) (fun i=>A.length - i) 0 ⟨by omega,rfl⟩ (bZ.aS ?_) (AH.le_refl _) fun i hi Q again out=>?_
 ·simp -dsimp(maxSteps:=4000000) only[go_sem]
 obtain⟨hi,hsame⟩:=hi
 by_cases hlt:(i:Int)<A.length
 case neg=>
  obtain rfl:i=A.length:=by omega
  rw[List.take_length,hl,List.take_length]at hsame
  simp -dsimp(maxSteps:=4000000) only[hlt,go_sem]
  refine out _ _ _ (by simp) ?_
  simp -dsimp(maxSteps:=4000000) only[go_sem]
  exact⟨H,AH.le_refl _,by simp[hsame],rfl⟩
 obtain⟨x,hx⟩:=get_some (l:=A) (i:=i) (by omega)
 obtain⟨y,hy⟩:=get_some (l:=B) (i:=i) (by omega)
 obtain⟨p1,o1,rfl,hrow1,acG⟩:=hA.out.get (Go.AX.dn (f:=gK) hx)
 obtain⟨p2,o2,rfl,hrow2,acH⟩:=hB.out.get (Go.AX.dn (f:=gK) hy)
 have x0:=acG 0 _ rfl
 have y0:=acH 0 _ rfl
 simp only[Nat.add_zero]at x0 y0
 have hx1:H.row p1 (o1+i*3+1) 2=some [.int .i64 x.p,.slice x.base x.R.length x.cap]:=lZ rfl (by decide) fun j c hj=>by
  rw[Nat.add_assoc _ 1 j,Nat.add_comm 1 j]
  exact acG (j+1) c hj
 have hy1:H.row p2 (o2+i*3+1) 2=some [.int .i64 y.p,.slice y.base y.R.length y.cap]:=lZ rfl (by decide) fun j c hj=>by
  rw[Nat.add_assoc _ 1 j,Nat.add_comm 1 j]
  exact acH (j+1) c hj
 have ee:=dA (i:=i) (by omega)
 have hi0:(0:Int)≤(i:Int):=by omega
 have hlt2:(i:Int)<B.length:=by omega
 have hxy:∀ {P:Prop},¬ x.nf=y.nf→A.map RF.nf=B.map RF.nf→P:=fun hne e=>by
  have h1:(A.map RF.nf)[i]?=some x.nf:=by simp[hx]
  have h2:(B.map RF.nf)[i]?=some y.nf:=by simp[hy]
  rw[e,h2]at h1;exact absurd (Option.some.inj h1).symm hne
 simp -dsimp(maxSteps:=4000000) only[hlt,go_sem]
 refine fZ.gen [.pu,.pu,.pu,.pu,.rd,.pu,.pu,.pu,.pu,.rd,.pu,.pu,.pu,.pu,.pu,.pu,.rd,.pu,.pu,.pu,.pu,.rd,.ch,.pu,.pu] [0,0,3,7,15,0,0,96,224,480,1023,2047,4095,4095,16383,32767,65535,4095,4095,397311,921599,1970175,4194303,8388607,16777215] 0 (_) mixed (by kernel_rfl) (AH.le_refl _) ?_
 by_cases hn:x.n=y.n
 case neg=>
  have e:¬ A.map RF.nf=B.map RF.nf:=hxy fun e=>hn (congrArg (·.1) e)
  simp -dsimp(maxSteps:=4000000) only[hlt,hlt2,hi0,x0,y0,hn,go_sem]
  refine out _ _ _ (by simp) ?_
  simp -dsimp(maxSteps:=4000000) only[go_sem]
  exact⟨H,AH.le_refl _,by simp[e],rfl⟩
 have hsm:=fun H1 (h1:bG H1 4 x.base x.cap (x.R.map enc)) (h2:bG H1 4 y.base y.cap (y.R.map enc))=>PG x.p y.p x.R y.R x.base y.base x.cap y.cap H1 h1 h2
 unfold fv at hsm
 simp -dsimp(maxSteps:=4000000) only[hlt,hlt2,hi0,x0,y0,hn,hx1,hy1,go_sem]
 refine(hsm _ (hA.inn x (List.mem_of_getElem? hx)) (hB.inn y (List.mem_of_getElem? hy))).mono ?_;rintro _ _ ⟨rfl,rfl⟩
 by_cases hs:yB x.p y.p x.R y.R=true
 ·have hnf:x.nf=y.nf:=by
   simp only[yB,decide_eq_true_eq]at hs
   rw[RF.nf,RF.nf,hn,hs.1,hs.2]
  simp -dsimp(maxSteps:=4000000) only[hs,ee,go_sem]
  refine again (i+1) _ _ ⟨by omega,?_⟩ (bZ.aS (by simp -dsimp(maxSteps:=4000000) only[go_sem])) (AH.le_refl _) (by omega)
  rw[List.take_add_one,List.take_add_one,hx,hy,List.map_append,List.map_append,hsame]
  simp[hnf]
 ·have hs':yB x.p y.p x.R y.R=false:=by simpa using hs
  have e:¬ A.map RF.nf=B.map RF.nf:=hxy fun e=>hs (by
   have h1:x.p=y.p:=congrArg (·.2.1) e
   have h2:x.R=y.R:=congrArg (·.2.2) e
   simp[yB,h1,h2])
  simp -dsimp(maxSteps:=4000000) only[hs',go_sem]
  refine out _ _ _ (by simp) ?_
  simp -dsimp(maxSteps:=4000000) only[go_sem]
  exact⟨H,AH.le_refl _,by simp[e],rfl⟩
end Go.Proofs.YtbhamhhjicehaaaGreatDoor.mF
/- ifs: own, Set. -/
namespace Go.Proofs.YtbhamhhjicehaaaGreatDoor.mF
open Go Go.AX Go.Proofs Ty Go.Proofs.YtbhamhhjicehaaaGreatDoor.File Go.Proofs.YtbhamhhjicehaaaGreatDoor.Err
theorem Keep.set {H:AH} {b:Nat} {k:iD}:Keep H (H.set b k) (·=b):=⟨rfl,fun b' hb _=>by rw[dw,if_neg hb]⟩
theorem SK (p:Int) (R:List Rc) (base:Option Addr) (cap:Nat) (H:AH) (hs:bG H 4 base cap (R.map enc)) (h0:R.length≠0) (hR:R.length≤4096) :
  aO Tryz.prog 46 #[fv p base R.length cap] H (fun v H'=>∃ b bs,aG H b∧v=fv p (some ⟨b,0,none⟩) R.length R.length∧R.length*4≤bs∧H'=H.add b (.cells (R.map enc).flatten 76 bs)):=by
 unfold fv
 refine aO.cu Tryz.func46 rfl Tryz.ntmps46 Tryz.results46 (by simp) ?_;simp -dsimp(maxSteps:=4000000) only[go_sem]
 refine bY.mk fun b1 iy=>?_;have aP:=iy;(try simp only[ah,aj,ne_eq]at aP);have aY:=aP;(try simp only[@eq_comm Nat b1]at aY);simp -dsimp(maxSteps:=4000000) only[aP,aY,go_sem]
 refine bY.mk fun b2 nY=>?_;have dK:=nY;(try simp only[ah,aj,ne_eq]at dK);have dV:=dK;(try simp only[@eq_comm Nat b2]at dV);simp -dsimp(maxSteps:=4000000) only[aP,aY,dK,dV,go_sem]
 refine(Jf R base cap _ ((hs.add (by simp only[ah,ne_eq,aP,not_false_eq_true,and_self]:aG _ b1)).add (by simp only[ah,ne_eq,dK,not_false_eq_true,and_self]:aG _ b2)) hR h0).mono ?_;rintro _ _ ⟨b3,c,bs,lD,rfl,hc,hbs,rfl⟩
 have eG:=lD;(try simp only[ah,aj,ne_eq]at eG);have fM:=eG;(try simp only[@eq_comm Nat b3]at fM)
 simp -dsimp(maxSteps:=4000000) only[aP,aY,dK,dV,eG,fM,go_sem]
 refine(GL _ _ _ _ hc).mono ?_;rintro _ _ ⟨rfl,rfl⟩
 simp -dsimp(maxSteps:=4000000) only[aP,aY,dK,dV,eG,fM,go_sem]
 exact⟨H.add b3 (.cells (R.map enc).flatten 76 bs),(by refine AH.eU ?_ ?_;(show AH.find _ _=_;simp only[aH,aN,aV,ah,aj,ne_eq,not_false_eq_true,true_and,and_true,and_self,aP,aY,dK,dV,eG,fM]);(repeat (first | exact AH.le_refl _ | refine AH.aK ?_ ?_));all_goals (first | exact AH.le_refl _ | (show AH.find _ _=_;simp only[aH,aN,aV,ah,aj,ne_eq,not_false_eq_true,true_and,and_true,and_self,aP,aY,dK,dV,eG,fM]))),b3,bs,eG.2.2,rfl,hbs,rfl⟩
theorem setMs {ms:List MF} {k:Nat} {m m':MF} (hk:ms[k]?=some m) (hn:m'.n=m.n) (hd:Kd (ms.map MF.nf)):(ms.set k m').map MF.nf=rp m.n (m'.p,m'.R) (ms.map MF.nf):=by
 apply List.ext_getElem?
 intro j
 rw[List.getElem?_map,List.getElem?_set]
 simp only[rp,List.getElem?_map,List.map_map]
 have hlt:=Go.AX.dG hk
 by_cases e:k=j
 ·subst e
  rw[if_pos rfl,if_pos hlt,hk]
  simp[MF.nf,hn]
 ·rw[if_neg e]
  cases hj:ms[j]? with
  |none=>rfl
  |some x=>
   have:x.n≠m.n:=fun he=>by
    have h1:((ms.map MF.nf).map (·.1))[j]?=some m.n:=by simp[hj,MF.nf,he]
    have h2:((ms.map MF.nf).map (·.1))[k]?=some m.n:=by simp[hk,MF.nf]
    exact e ((List.getElem?_inj (by simpa using hlt) hd).1 (h2.trans h1.symm))
   simp[MF.nf,this]
theorem yI {α β:Type} {f:α→β} {l:List α} {k:Nat} {a a':α} (hk:l[k]?=some a) (h:f a'=f a):(l.set k a').map f=l.map f:=by
 apply List.ext_getElem?
 intro j
 rw[List.getElem?_map,List.getElem?_set,List.getElem?_map]
 by_cases e:k=j
 ·subst e
  rw[if_pos rfl,if_pos (Go.AX.dG hk),hk]
  simp[h]
 ·rw[if_neg e]
theorem Zr {ms:List MF} (hd:(ms.map (·.blk)).Nodup) {k j:Nat} {m x:MF} (hk:ms[k]?=some m) (hj:ms[j]?=some x) (e:k≠j):x.blk≠m.blk:=fun he=>by
 have h1:(ms.map (·.blk))[j]?=some m.blk:=by simp[hj,he]
 have h2:(ms.map (·.blk))[k]?=some m.blk:=by simp[hk]
 exact e ((List.getElem?_inj (by simpa using Go.AX.dG hk) hd).1 (h2.trans h1.symm))
theorem jT.set1 {H:AH} {b bm k:Nat} {ms:List MF} {den:Int} {m:MF} {R':List Rc} (h:jT H b bm ms den) (hk:ms[k]?=some m) (hl:R'.length=m.R.length) :
  jT (H.set m.blk (.cells (R'.map enc).flatten 76 m.bs)) b bm (ms.set k { m with R:=R' }) den:=by
 have hmem:=List.mem_of_getElem? hk
 refine⟨?_,?_,fun x hx=>?_,?_,?_⟩
 ·rw[dw,if_neg (fun e=>h.ne2 hmem e.symm)];exact h.top
 ·rw[dw,if_neg (fun e=>h.ne3 hmem e.symm),yI hk (by simp[MF.ent,MF.val,hl])];exact h.map
 ·obtain⟨j,hj⟩:=List.mem_iff_getElem?.1 hx
  rw[List.getElem?_set]at hj
  by_cases e:k=j
  ·rw[if_pos e]at hj
   split at hj
   ·cases hj
    refine⟨by rw[dw,if_pos rfl],?_⟩
    have:=(h.rows m hmem).2
    dsimp only;omega
   ·cases hj
  ·rw[if_neg e]at hj
   have:=h.rows x (List.mem_of_getElem? hj)
   exact⟨by rw[dw,if_neg (Zr h.nd hk hj e)];exact this.1,this.2⟩
 ·exact(congrArg List.Nodup (yI (f:=MF.blk) (a':={ m with R:=R' }) hk rfl)).mpr h.nd
 ·rw[setMs (m':={ m with R:=R' }) hk rfl h.kd];exact Jg h.kd
theorem jT.Yi {b bm k:Nat} {ms:List MF} {m m':MF} (hk:ms[k]?=some m) (hb:m'.blk=m.blk) {x:Nat} (hx:sU b bm (ms.set k m') x):sU b bm ms x:=by
 rcases hx with hx | hx | ⟨y,hy,rfl⟩
 ·exact .inl hx
 ·exact .inr (.inl hx)
 ·rcases List.mem_or_eq_of_mem_set hy with hy | rfl
  ·exact .inr (.inr ⟨y,hy,rfl⟩)
  ·exact .inr (.inr ⟨m,List.mem_of_getElem? hk,hb⟩)
theorem jT.ft2 {b bm k:Nat} {ms:List MF} {m m':MF} (hk:ms[k]?=some m) (hb:m'.blk=m.blk) {x:Nat} (hx:sU b bm ms x):sU b bm (ms.set k m') x:=by
 rcases hx with hx | hx | ⟨y,hy,rfl⟩
 ·exact .inl hx
 ·exact .inr (.inl hx)
 ·obtain⟨j,hj⟩:=List.mem_iff_getElem?.1 hy
  by_cases e:k=j
  ·subst e
   rw[hk]at hj;cases hj
   exact .inr (.inr ⟨m',List.mem_iff_getElem?.2 ⟨k,by rw[List.getElem?_set_self (Go.AX.dG hk)]⟩,hb.symm⟩)
  ·exact .inr (.inr ⟨y,List.mem_iff_getElem?.2 ⟨j,by rw[List.getElem?_set_ne e];exact hj⟩,rfl⟩)
theorem acI {H:AH} {b:Nat} {X:List Nf} {den:Int} {ft:Nat→Prop} (h:iV H b X den ft) (hX:lG X) (n rec:Int) (v:Rc) :
  aO Tryz.prog 61 #[.pointer (some ⟨b,0,none⟩),.int .i64 n,.int .i64 rec,.agg (enc v).toArray] H (fun u H'=>u=.bool (kQ X n rec)∧iV H' b (jk X n rec v) den ft∧Keep H H' ft):=by
 have hget:=fun H1 (h1:iV H1 b X den ft)=>Jr h1 hX n rec
 refine aO.cu Tryz.func61 rfl Tryz.ntmps61 Tryz.results61 (by simp) ?_;simp -dsimp(maxSteps:=4000000) only[au,ak,aB,aC,go_sem]
 refine bY.mk fun b7 jM=>?_;have bI:=jM;(try simp only[ah,aj,ne_eq]at bI);have bU:=bI;(try simp only[@eq_comm Nat b7]at bU);simp -dsimp(maxSteps:=4000000) only[au,ak,aB,aC,bI,bU,go_sem]
 have k1:iV (H.add b7 (.cells (enc v) 76 4)) b X den ft:=h.keep (Keep.add jM) (ex:=fun _=>False) fun _ _ h=>h
 refine(hget _ k1).mono ?_
 rintro _ _ ⟨rfl,rfl⟩
 cases hg:iJ X n rec with
 |none=>
  have ho:kQ X n rec=false:=by simp[kQ,hg]
  have hx:jk X n rec v=X:=by simp[jk,ho]
  rw[ho,hx]
  simp only[uV]
  simp -dsimp(maxSteps:=4000000) only[au,ak,aB,aC,bI,bU,go_sem]
  refine bY.mk fun b9 iI=>?_;have aU:=iI;(try simp only[ah,aj,ne_eq]at aU);have bH:=aU;(try simp only[@eq_comm Nat b9]at bH);simp -dsimp(maxSteps:=4000000) only[au,ak,aB,aC,bI,bU,aU,bH,go_sem]
  exact⟨H,(AH.aK (AH.aK (AH.le_refl _) ((by simp only[au,ak,aB,aC,ah,aj,ne_eq,bI,not_false_eq_true,and_self]:aG _ b7).2)) ((by simp only[au,ak,aB,aC,ah,aj,ne_eq,aU,not_false_eq_true,and_self]:aG _ b9).2)),h,Keep.refl⟩
 |some r=>
  by_cases h0:rec=0
  ·subst h0
   have ho:kQ X n 0=false:=by simp[kQ]
   have hx:jk X n 0 v=X:=by simp[jk,ho]
   rw[ho,hx]
   simp only[uV]
   simp -dsimp(maxSteps:=4000000) only[au,ak,aB,aC,bI,bU,go_sem]
   refine bY.mk fun b9 iI=>?_;have aU:=iI;(try simp only[ah,aj,ne_eq]at aU);have bH:=aU;(try simp only[@eq_comm Nat b9]at bH);simp -dsimp(maxSteps:=4000000) only[au,ak,aB,aC,bI,bU,aU,bH,go_sem]
   exact⟨H,(AH.aK (AH.aK (AH.le_refl _) ((by simp only[au,ak,aB,aC,ah,aj,ne_eq,bI,not_false_eq_true,and_self]:aG _ b7).2)) ((by simp only[au,ak,aB,aC,ah,aj,ne_eq,aU,not_false_eq_true,and_self]:aG _ b9).2)),h,Keep.refl⟩
  have ho:kQ X n rec=true:=by simp[kQ,hg,h0]
  obtain⟨bm,ms,h1,rfl,hft⟩:=h
  obtain⟨f,hf⟩:∃ f,lk n (ms.map MF.nf)=some f:=by
   cases hl:lk n (ms.map MF.nf) with
   |none=>rw[iJ,hl]at hg;cases hg
   |some f=>exact⟨f,rfl⟩
  have hx:jk (ms.map MF.nf) n rec v=rp n (f.1,f.2.set rec.toNat v) (ms.map MF.nf):=by simp[jk,ho,hf]
  rw[BD hf]at hg
  have hr0:¬ rec<0:=fun h=>by rw[if_pos h]at hg;cases hg
  rw[if_neg hr0]at hg
  obtain⟨i,rfl⟩:∃ i:Nat,rec=i:=⟨rec.toNat,by omega⟩
  have hi:=Go.AX.dG hg
  simp only[Int.toNat_natCast]at hi
  rcases h1.at_ n with ⟨hm,hl⟩ | ⟨k,m,hm,hk,hn,hl⟩
  ·rw[hl]at hf;cases hf
  rw[hl]at hf;cases hf
  dsimp only at hi hg hx
  have hmem:=List.mem_of_getElem? hk
  have r0:H.rd ⟨b,0,none⟩=some (.map (some bm)):=by rw[gB h1.top];rfl
  have hmp:H.mp bm=some (ms.map MF.ent):=by rw[AH.mp,h1.map]
  obtain⟨hrow,hbs⟩:=h1.rows m hmem
  have hw:H.uH m.blk (i*4) (enc v)=some (H.set m.blk (.cells ((m.R.set i v).map enc).flatten 76 m.bs)):=by
   have hl4:=rM m.R
   unfold AH.uH
   rw[hrow]
   simp only
   rw[if_pos ⟨by rw[au,hl4];omega,by rw[hl4];exact hbs,ak v⟩,jW (lg m.R) i (enc v) (by simpa using hi) (au v),List.map_set]
  have n1:¬ b7=b:=jM.cO h1.top
  have n2:¬ b7=bm:=jM.cO h1.map
  have n3:¬ b7=m.blk:=jM.cO hrow
  have hlt:(i:Int)<(m.R.length:Int):=by omega
  have hi0:(0:Int)≤(i:Int):=by omega
  rw[ho,hx]
  unfold MF.val fv at hm
  simp only[uV]
  simp -dsimp(maxSteps:=4000000) only[au,ak,aB,aC,bI,bU,go_sem]
  refine bY.mk fun b9 iI=>?_;have aU:=iI;(try simp only[ah,aj,ne_eq]at aU);have bH:=aU;(try simp only[@eq_comm Nat b9]at bH);simp -dsimp(maxSteps:=4000000) only[au,ak,aB,aC,bI,bU,aU,bH,go_sem]
  have n4:¬ b9=b:=aU.2.cO h1.top
  have n5:¬ b9=bm:=aU.2.cO h1.map
  have n6:¬ b9=m.blk:=aU.2.cO hrow
  simp -dsimp(maxSteps:=4000000) only[h0,au,ak,aB,aC,bI,bU,aU,bH,go_sem]
  refine fZ.gen [.pu,.pu,.pu,.rd,.pu,.ch,.pu,.pu,.rd,.pu,.ch] [0,1,3,7,0,31,63,0,0,511,1023] 6 (_) mixed (by kernel_rfl) (AH.le_refl _) ?_
  simp -dsimp(maxSteps:=4000000) only[r0,n1,n2,n3,n4,n5,n6,hmp,hm,hlt,hi0,hw,au,ak,aB,aC,bI,bU,aU,bH,go_sem]
  refine⟨_,AH.aK (AH.aK (AH.le_refl _) (by rw[dw,if_neg n3];exact jM.2)) (by rw[dh,if_neg aU.1,dw,if_neg n6];exact aU.2.2),⟨bm,_,h1.set1 hk (by simp),?_,fun x=>(hft x).trans ⟨jT.ft2 (m':={ m with R:=m.R.set i v }) hk rfl,jT.Yi (m':={ m with R:=m.R.set i v }) hk rfl⟩⟩,Keep.set.mono fun x hx=>(hft x).2 (.inr (.inr ⟨m,hmem,hx⟩))⟩
  rw[setMs (m':={ m with R:=m.R.set i v }) hk rfl h1.kd,hn]
end Go.Proofs.YtbhamhhjicehaaaGreatDoor.mF
/- ifs: Add. -/
namespace Go.Proofs.YtbhamhhjicehaaaGreatDoor.mF
open Go Go.AX Go.Proofs Ty Go.Proofs.YtbhamhhjicehaaaGreatDoor.File Go.Proofs.YtbhamhhjicehaaaGreatDoor.Err
theorem aG.mk' {H:AH} {b c:Nat} {k:iD} (h:aG H b) (hn:¬ b=c):aG (H.set c k) b:=⟨h.1,by rw[dw,if_neg hn];exact h.2⟩
theorem jT.app {H:AH} {b bm:Nat} {ms:List MF} {den:Int} {m:MF} {T:AH} (h:jT H b bm ms den) (hf:aG H m.blk) (hl:lk m.n (ms.map MF.nf)=none) (hb:m.R.length*4≤m.bs)
  (hT:T=(H.set bm (.gW (ms.map MF.ent++[m.ent]))).add m.blk (.cells (m.R.map enc).flatten 76 m.bs)):jT T b bm (ms++[m]) den:=by
 subst hT
 have e1:b≠m.blk:=fun e=>by have:=hf.2;rw[←e,h.top]at this;cases this
 have e2:bm≠m.blk:=fun e=>by have:=hf.2;rw[←e,h.map]at this;cases this
 refine⟨?_,?_,fun x hx=>?_,?_,?_⟩
 ·rw[dh,if_neg e1,dw,if_neg h.ne1];exact h.top
 ·rw[dh,if_neg e2,dw,if_pos rfl];simp
 ·rcases List.mem_append.1 hx with hx | hx
  ·have:=h.rows x hx
   have e3:x.blk≠m.blk:=fun e=>by have h2:=hf.2;rw[←e,this.1]at h2;cases h2
   exact⟨by rw[dh,if_neg e3,dw,if_neg (h.ne3 hx)];exact this.1,this.2⟩
  ·rw[List.mem_singleton.1 hx]
   exact⟨by rw[dh,if_pos rfl],hb⟩
 ·rw[List.map_append,List.nodup_append]
  refine⟨h.nd,by simp,fun x hx y hy=>?_⟩
  obtain⟨z,hz,rfl⟩:=List.mem_map.1 hx
  simp at hy;subst hy
  intro e
  have h2:=hf.2
  rw[←e,(h.rows z hz).1]at h2;cases h2
 ·rw[List.map_append]
  have:=nU.1 hl
  rw[Kd,List.map_append,List.nodup_append]
  refine⟨h.kd,by simp,fun x hx y hy=>?_⟩
  obtain⟨z,hz,rfl⟩:=List.mem_map.1 hx
  simp at hy;subst hy
  exact fun e=>this z hz e
theorem jT.ftA {b bm:Nat} {ms:List MF} {m:MF} {ft:Nat→Prop} (h:∀ x,sU b bm ms x→ft x) {x:Nat} (hx:sU b bm (ms++[m]) x):ft x∨x=m.blk:=by
 rcases hx with hx | hx | ⟨y,hy,rfl⟩
 ·exact .inl (h x (.inl hx))
 ·exact .inl (h x (.inr (.inl hx)))
 ·rcases List.mem_append.1 hy with hy | hy
  ·exact .inl (h _ (.inr (.inr ⟨y,hy,rfl⟩)))
  ·rw[List.mem_singleton.1 hy];exact .inr rfl
theorem jT.ftB {b bm:Nat} {ms:List MF} {m:MF} {ft:Nat→Prop} (h:∀ x,ft x↔sU b bm ms x) {x:Nat}:(ft x∨x=m.blk)↔sU b bm (ms++[m]) x:=by
 refine⟨fun hx=>?_,fun hx=>jT.ftA (fun x=>(h x).2) hx⟩
 rcases hx with hx | rfl
 ·rcases(h x).1 hx with hx | hx | ⟨y,hy,rfl⟩
  ·exact .inl hx
  ·exact .inr (.inl hx)
  ·exact .inr (.inr ⟨y,List.mem_append_left _ hy,rfl⟩)
 ·exact .inr (.inr ⟨m,by simp,rfl⟩)
theorem Js {H:AH} {b:Nat} {X:List Nf} {den:Int} {ft:Nat→Prop} (h:iV H b X den ft) (n p:Int) (R:List Rc) (base:Option Addr) (cap:Nat) (hs:bG H 4 base cap (R.map enc)) :
  aO Tryz.prog 23 #[.pointer (some ⟨b,0,none⟩),.int .i64 n,fv p base R.length cap] H (fun u H'=>∃ zA,u=.int .i64 (mX X n (p,R))∧iV H' b (yG X n (p,R)) den zA∧Keep H H' ft∧∀ x,zA x→ft x∨aG H x):=by
 have hgood:=fun H1 (h1:bG H1 4 base cap (R.map enc))=>File.sQ p R base cap H1 h1
 have bad:∀ {e:Int} {T:AH},mX X n (p,R)=e→e≠0→H.le T→∃ H',H'.le T∧∃ zA,Value.int .i64 e=.int .i64 (mX X n (p,R))∧iV H' b (yG X n (p,R)) den zA∧Keep H H' ft∧∀ x,zA x→ft x∨aG H x:=fun {e T} he h0 hl=>by
  have hx:yG X n (p,R)=X:=by rw[yG,he,if_neg h0]
  exact⟨H,hl,ft,by rw[he],by rw[hx];exact h,Keep.refl,fun x h=>.inl h⟩
 unfold fv at hgood ⊢
 refine aO.cu Tryz.func23 rfl Tryz.ntmps23 Tryz.results23 (by simp) ?_;simp -dsimp(maxSteps:=4000000) only[go_sem]
 refine bY.mk fun b5 iW=>?_;have bQ:=iW;(try simp only[ah,aj,ne_eq]at bQ);have dB:=bQ;(try simp only[@eq_comm Nat b5]at dB);simp -dsimp(maxSteps:=4000000) only[bQ,dB,go_sem]
 by_cases a1:n<0
 ·simp -dsimp(maxSteps:=4000000) only[a1,bQ,dB,go_sem]
  exact bad (by simp[mX,a1]) (by decide) (AH.aK (AH.le_refl _) ((by simp only[ah,aj,ne_eq,bQ,not_false_eq_true,and_self]:aG _ b5).2))
 by_cases a2:64≤n
 ·simp -dsimp(maxSteps:=4000000) only[a1,a2,bQ,dB,go_sem]
  exact bad (by simp[mX,a2]) (by decide) (AH.aK (AH.le_refl _) ((by simp only[ah,aj,ne_eq,bQ,not_false_eq_true,and_self]:aG _ b5).2))
 simp -dsimp(maxSteps:=4000000) only[a1,a2,bQ,dB,go_sem]
 refine(hgood _ (hs.add (by simp only[ah,ne_eq,bQ,not_false_eq_true,and_self]:aG _ b5))).mono ?_;rintro _ _ ⟨rfl,rfl⟩
 cases hg:iG p R with
 |false=>
  simp -dsimp(maxSteps:=4000000) only[bQ,dB,go_sem]
  exact bad (by simp[mX,a1,a2,hg]) (by decide) (AH.aK (AH.le_refl _) ((by simp only[ah,aj,ne_eq,bQ,not_false_eq_true,and_self]:aG _ b5).2))
 |true=>
  obtain⟨hl1,hl2⟩:=l9 hg
  obtain⟨bm,ms,h1,rfl,hft⟩:=h
  have r0:H.rd ⟨b,0,none⟩=some (.map (some bm)):=by rw[gB h1.top];rfl
  have hmp:H.mp bm=some (ms.map MF.ent):=by rw[AH.mp,h1.map]
  have hms:∀ es,H.xQ bm es=some (H.set bm (.gW es)):=fun es=>by rw[AH.xQ,h1.map]
  have n1:¬ b5=b:=iW.cO h1.top
  have n2:¬ b5=bm:=iW.cO h1.map
  rcases h1.at_ n with ⟨hm,hl⟩ | ⟨k,m,hm,hk,hn,hl⟩
  ·have he:mX (ms.map MF.nf) n (p,R)=0:=by simp[mX,a1,a2,hg,hl]
   have hx:yG (ms.map MF.nf) n (p,R)=ms.map MF.nf++[(n,(p,R))]:=by rw[yG,if_pos he]
   rw[he,hx]
   simp -dsimp(maxSteps:=4000000) only[r0,n1,n2,hmp,hm,bQ,dB,go_sem]
   refine bY.mk fun b7 jM=>?_;have bI:=jM;(try simp only[ah,aj,ne_eq]at bI);have bU:=bI;(try simp only[@eq_comm Nat b7]at bU);simp -dsimp(maxSteps:=4000000) only[bQ,dB,bI,bU,go_sem]
   have n3:¬ b7=b:=bI.2.cO h1.top
   have n4:¬ b7=bm:=bI.2.cO h1.map
   refine fZ.gen [.pu,.pu,.pu,.rd,.pu,.rd,.ch,.ch] [0,1,3,7,0,0,32,127] 7 (_) mixed (by kernel_rfl) (AH.le_refl _) ?_
   simp -dsimp(maxSteps:=4000000) only[r0,n1,n2,n3,n4,bQ,dB,bI,bU,go_sem]
   refine(SK p R base cap _ ((hs.add (by simp only[ah,ne_eq,bQ,not_false_eq_true,and_self]:aG _ b5)).add (by simp only[ah,ne_eq,bI,not_false_eq_true,and_self]:aG _ b7)) (by omega) (by omega)).mono ?_;rintro _ _ ⟨b8,bs,lF,rfl,hbs,rfl⟩
   have aQ:=lF;(try simp only[ah,aj,ne_eq]at aQ);have bF:=aQ;(try simp only[@eq_comm Nat b8]at bF)
   have n5:¬ b8=b:=aQ.2.2.cO h1.top
   have n6:¬ b8=bm:=aQ.2.2.cO h1.map
   simp -dsimp(maxSteps:=4000000) only[n1,n2,n4,n6,hmp,hms,hm,bQ,dB,bI,bU,aQ,bF,go_sem]
   refine⟨AH.aK (AH.le_refl _) lF.2,(H.set bm (.gW (ms.map MF.ent++[(MF.mk n p b8 bs R).ent]))).add b8 (.cells (R.map enc).flatten 76 bs),?_,fun x=>ft x∨x=b8,?_,?_,?_⟩
   ·refine AH.eU (aH _ _ _) ?_
    refine AH.aK (AH.aK (AH.aK (AH.le_refl _) ?_) ?_) ?_
    ·rw[dw,if_neg n2];exact iW.2
    ·rw[dh,if_neg bI.1,dw,if_neg n4];exact bI.2.2
    ·rw[dh,if_neg aQ.1,dh,if_neg aQ.2.1,dw,if_neg n6];exact aQ.2.2.2
   ·exact⟨bm,ms++[MF.mk n p b8 bs R],h1.app aQ.2.2 hl hbs rfl,by rw[List.map_append];rfl,fun x=>jT.ftB (m:=MF.mk n p b8 bs R) hft⟩
   ·exact(Keep.set.mono fun x hx=>(hft x).2 (.inr (.inl hx))).trans (Keep.add (aG.mk' aQ.2.2 n6))
   ·rintro x (hx | rfl)
    ·exact .inl hx
    ·exact .inr aQ.2.2
  ·
   unfold MF.val fv at hm
   simp -dsimp(maxSteps:=4000000) only[r0,n1,n2,hmp,hm,bQ,dB,go_sem]
   refine bY.mk fun b7 jM=>?_;have bI:=jM;(try simp only[ah,aj,ne_eq]at bI);have bU:=bI;(try simp only[@eq_comm Nat b7]at bU);simp -dsimp(maxSteps:=4000000) only[bQ,dB,bI,bU,go_sem]
   exact bad (by simp[mX,a1,a2,hg,hl]) (by decide) (AH.aK (AH.aK (AH.le_refl _) ((by simp only[ah,aj,ne_eq,bQ,not_false_eq_true,and_self]:aG _ b5).2)) ((by simp only[ah,aj,ne_eq,bI,not_false_eq_true,and_self]:aG _ b7).2))
end Go.Proofs.YtbhamhhjicehaaaGreatDoor.mF
/- A region that draws its order, walked in an order of our choosing. -/
namespace Go.AX
open Go Go.RowKit
section
variable {P:Program} {ops:Array Oper}
def prB (ops:Array Oper) (cls:List Cl) (uO:List Nat) (i j:Nat):Bool:=
 !lC ops i j&&(uP uO j i || match ops[i]?,ops[j]? with | some oi,some oj=>oi.apart ops oj | _,_=>true) &&
 (decide (cls[j]?≠some .ch) || decide (cls[i]?≠some .ch∧cls[i]?≠some .al) || uP uO j i)
def NR (f:Nat→Nat→Bool):List Nat→Bool
 | []=>true
 |x::l=>l.all (f x)&&NR f l
theorem Dv {f:Nat→Nat→Bool}:∀ {l:List Nat},NR f l=true→l.Pairwise fun x y=>f x y=true
 | [],_=>.nil
 |x::l,h=>by
  simp only[NR,Bool.and_eq_true,List.all_eq_true]at h
  exact .cons h.1 (Dv h.2)
def NS (ops:Array Oper) (cls:List Cl) (uO:List Nat) (ord:List Nat):Bool:=
 Region.noSelect ops&&decide (cls.length=ops.size)&&Y6 ops uO &&
 ((List.range ops.size).all fun i=>match ops[i]? with | some o=>o.after.all fun e=>!Region.binds .any e || decide (e.on<i) | none=>true) &&
 NR (prB ops cls uO) ord&&decide (ord.Nodup∧ord.length=ops.size∧∀ i∈ord,i<ops.size)
end
theorem uY {n:Nat}:∀ {l:List Nat},l.Nodup→(∀ x∈l,x<n)→l.length≤n:=by
 induction n with
 |zero=>
  intro l _ h
  cases l with
  |nil=>exact Nat.le_refl _
  |cons x l=>exact absurd (h x (by simp)) (by omega)
 |succ n ih=>
  intro l hd h
  have h1:=ih (l:=l.erase n) (hd.erase n) fun x hx=>by
   have hx1:=List.mem_of_mem_erase hx
   have hx2:x≠n:=fun e=>by subst e;exact(hd.not_mem_erase) hx
   have:=h x hx1
   omega
  rw[List.length_erase]at h1
  split at h1<;>omega
section
variable {P:Program} {ops:Array Oper} {Hc:AH} {R:Act→AH→Prop}
structure NT (ord:List Nat) (ops:Array Oper) (cls:List Cl) (ls:Array Bool) (es:List En):Prop where
 size:ls.size=ops.size
 mem:∀ i,i∈ids es↔i<ops.size∧ls.getD i true=false
 pw:(ids es).Sublist ord
 nd:ord.Nodup
 kind:∀ c i,En.op c i∈es→cls[i]?=some c
 clo:∀ x y,ls.getD x false=true→lC ops x y=true→ls.getD y false=true
theorem NT.step {ord:List Nat} {ops:Array Oper} {cls:List Cl} {ls:Array Bool} {pre post mid:List En} {c:Cl} {i:Nat} (inv:NT ord ops cls ls (pre++.op c i::post))
  (hw:∀ y,lC ops i y=true→ls.getD y false=true) (hm:ids mid=[]) (hk:∀ c i,En.op c i∉mid):NT ord ops cls (ls.setIfInBounds i true) (pre++(mid++post)):=by
 have LJ:ids (pre++.op c i::post)=ids pre++i::ids post:=by rw[gY,mW]
 have I7:ids (pre++(mid++post))=ids pre++ids post:=by rw[gY,gY,hm,List.nil_append]
 have hpw:=inv.pw
 rw[LJ]at hpw
 have hi:i<ops.size:=((inv.mem i).1 (by rw[LJ];simp)).1
 refine⟨by simp[inv.size],fun j=>?_,?_,inv.nd,fun c' j hj=>?_,fun x y hx hxy=>?_⟩
 ·rw[I7]
  have h1:=inv.mem j
  rw[LJ]at h1
  by_cases e:j=i
  ·subst e
   have hd:=List.nodup_append.1 (inv.nd.sublist hpw)
   have n1:j∉ids pre:=fun h=>hd.2.2 j h j (by simp) rfl
   have n2:j∉ids post:=(List.nodup_cons.1 hd.2.1).1
   rw[wO (by rw[inv.size];exact hi)]
   simp[n1,n2]
  ·rw[getD_set_ne true (Ne.symm e),←h1]
   simp[e]
 ·rw[I7]
  exact(List.Sublist.append_left (List.sublist_cons_self _ _) _).trans hpw
 ·refine inv.kind c' j ?_
  rcases List.mem_append.1 hj with h | h
  ·exact List.mem_append_left _ h
  ·rcases List.mem_append.1 h with h | h
   ·exact absurd h (hk _ _)
   ·exact List.mem_append_right _ (List.mem_cons_of_mem _ h)
 ·by_cases e:x=i
  ·subst e;exact getD_set_true (hw y hxy)
  ·rw[getD_set_ne false (Ne.symm e)]at hx
   exact getD_set_true (inv.clo x y hx hxy)
theorem SL {ord:List Nat} {cls:List Cl} {uO:List Nat} {Hc:AH} {E:Nat→Option Obj} {R:Act→AH→Prop} {Q:Exit→Act→World→Prop} (hB:NS ops cls uO ord=true) (hR:∀ a H w,R a H→Sat E H w→Q .normal a w) :
  ∀ (f:Nat) (ls:Array Bool) (es:List En) (a:Act) (H:AH) (w:World),f=(ids es).length→NT ord ops cls ls es→Sat E (oQ es H) w→zy es H→
   ((∃ i,En.op .rd i∈es)→Hc.le H)→GG P ops Hc ops.size R es a H→wpAny P .any ops Q f ls a w:=by
 simp only[NS,Bool.and_eq_true,decide_eq_true_eq,List.all_eq_true,List.mem_range]at hB
 obtain⟨⟨⟨⟨⟨hns,hlen⟩,Y7⟩,hback⟩,acK⟩,hnd⟩:=hB
 have hP:=Dv acK
 have hsel:∀ (j:Nat) (o:Oper) cs b,ops[j]?=some o→o.op≠.select cs b:=Region.noSelect_spec hns
 have back:∀ i y,lC ops i y=true→y<i:=fun i y h=>by
  obtain⟨o,ho,e,he,hb,heq⟩:=Region.waitsFor_spec h
  have hlt:=(Array.getElem?_eq_some_iff.1 ho).1
  have h1:=hback i hlt
  rw[ho]at h1
  have h2:=Array.all_eq_true'.1 h1 e he
  rw[←heq];simpa [hb]using h2
 have CU:∀ i o e,ops[i]?=some o→e∈o.after→Region.binds .any e=true→lC ops i e.on=true:=fun i o e ho he hb=>by
  unfold lC Region.waitsFor
  rw[ho]
  exact Array.any_eq_true'.2 ⟨e,he,by simp[hb]⟩
 intro f
 induction f with
 |zero=>
  intro ls es a H w hf inv hs hfr hrd hG
  have h1:ids es=[]:=List.eq_nil_of_length_eq_zero hf.symm
  refine⟨?_,hR _ _ _ (LH es a H h1 hfr hG) hs⟩
  cases hr:Region.ready .any ops ls with
  |nil=>rfl
  |cons i l=>
   obtain⟨hun,o,ho,_⟩:=mem_ready.1 (show i∈Region.ready .any ops ls by rw[hr];simp)
   have hlt:=(Array.getElem?_eq_some_iff.1 ho).1
   exact absurd ((inv.mem i).2 ⟨hlt,hun⟩) (by rw[h1];simp)
 |succ f ih=>
  intro ls es a H w hf inv hs hfr hrd hG
  refine⟨fun h0=>?_,fun i hi=>?_⟩
  ·exfalso
   cases hq:ids es with
   |nil=>rw[hq]at hf;cases hf
   |cons h tl=>
    have hh:=(inv.mem h).1 (by rw[hq];simp)
    have:h∈Region.ready .any ops ls:=mem_ready.2 ⟨hh.2,ops[h]'hh.1,Array.getElem?_eq_getElem hh.1,fun e he hb=>by
     have hw:=CU h _ e (Array.getElem?_eq_getElem hh.1) he hb
     have hlt:=back h _ hw
     refine EZ (by rw[inv.size];omega) fun hun=>?_
     have hm:=(inv.mem e.on).2 ⟨by omega,hun⟩
     have hpw:=hP.sublist inv.pw
     rw[hq]at hm hpw
     rcases List.mem_cons.1 hm with h7 | h7
     ·omega
     ·have:=(List.pairwise_cons.1 hpw).1 _ h7
      simp only[prB,Bool.and_eq_true]at this
      rw[hw]at this;simp at this⟩
    rw[h0]at this;cases this
  ·obtain⟨hun,oi,hoi,hall⟩:=mem_ready.1 hi
   have hlt:=(Array.getElem?_eq_some_iff.1 hoi).1
   have hwd:∀ y,lC ops i y=true→ls.getD y false=true:=fun y h=>by
    obtain⟨o,ho,e,he,hb,heq⟩:=Region.waitsFor_spec h
    rw[hoi]at ho;cases ho
    rw[←heq];exact hall e he hb
   have hmem:=(inv.mem i).2 ⟨hlt,hun⟩
   obtain⟨pre,c,post,rfl⟩:=yu hmem
   have LK:(ids (pre++.op c i::post)).length=(ids pre).length+(ids post).length+1:=by rw[gY,mW];simp;omega
   have E5:∀ h,h∈ids (pre++.op c i::post)→uP uO i h=false:=fun h hh=>by
    cases ha:uP uO i h with
    |false=>rfl
    |true=>
     have hd:=I5 Y7 (D:=fun x=>ls.getD x false=true) inv.clo i hlt hwd h ha
     have hu:=(inv.mem h).1 hh
     have hls:h<ls.size:=by rw[inv.size];exact hu.1
     have e1:ls[h]?=some ls[h]:=Array.getElem?_eq_getElem hls
     have hu2:=hu.2
     simp only[Array.getD_eq_getD_getElem?,e1,Option.getD_some]at hd hu2
     rw[hd]at hu2;cases hu2
   have hpw:=hP.sublist inv.pw
   rw[gY,mW]at hpw
   have yw:∀ h,h∈ids pre→prB ops cls uO h i=true:=fun h hh=>(List.pairwise_append.1 hpw).2.2 h hh i (by simp)
   have CV:Rt ops oi pre:=fun h oh hh ho=>by
    have h1:=yw h hh
    simp only[prB,Bool.and_eq_true]at h1
    replace h1:=h1.1.2
    rw[E5 h (by rw[gY];exact List.mem_append_left _ hh),ho,hoi]at h1
    exact Oper.apart_spec (by simpa using h1)
   have hkc:cls[i]?=some c:=inv.kind c i (by simp)
   have hfp:=(kG _ _ _).1 hfr
   have hwo:∀ {K:Act→World→Prop},wpOp P ops Q0 i K a w→wpOp P ops Q i K a w:=fun h=>CJ (fun⟨_,_,h⟩=>h) h
   rw[kF]at hs
   have CW:∀ (hc:c=.rd∨c=.pu),wpOp P ops Q i (wpAny P .any ops Q f (ls.setIfInBounds i true)) a w:=fun hc=>by
    have hCC:CX Hc c w:=by
     have h2:H.le (oQ post (oQ pre H)):=AH.le_trans (lu pre hfp.1) (lu post hfp.2)
     rcases hc with rfl | rfl
     ·exact⟨E,hs.mono (AH.le_trans (hrd ⟨i,by simp⟩) h2)⟩
     ·trivial
    obtain⟨v,hy⟩:=qc (e:=.op c i) (post:=post) (oi:=oi) (Φ:=fun a=>∃ v,RY P ops (CX Hc c) oi v a) (fun a H hg=>by
      have:∃ o v,ops[i]?=some o∧RY P ops (CX Hc c) o v a∧GG P ops Hc ops.size R post (a.put o.dst v) H:=by
       rcases hc with rfl | rfl<;>exact hg
      obtain⟨o,v,h1,h2,_⟩:=this
      rw[hoi]at h1;cases h1
      exact⟨v,h2⟩) (fun oh u a hap ⟨v,hv⟩=>⟨v,hv.back' hap (fun cs b=>hsel i oi cs b hoi) u⟩) pre a H _ w CV hfp.1 (hs.mono (lu post hfp.2)) hG
    have hG':=CQ hsel hc hoi ⟨w,hCC⟩ pre a H CV hG hy
    refine hy.wpOp hoi hCC (ih _ (pre++post) _ H w (by rw[LK]at hf;rw[gY,List.length_append];omega) ?_ (by rw[kF];exact hs) ((kG _ _ _).2 hfp) (fun⟨j,hj⟩=>hrd ⟨j,by
     rcases List.mem_append.1 hj with h | h
     ·exact List.mem_append_left _ h
     ·exact List.mem_append_right _ (List.mem_cons_of_mem _ h)⟩) hG')
    exact inv.step hwd (mid:=[]) rfl (fun _ _ h=>by cases h)
   cases c with
   |rd=>exact CW (.inl rfl)
   |pu=>exact CW (.inr rfl)
   |al=>
    obtain⟨p,hg,hp⟩:=qc (e:=.op .al i) (post:=post) (oi:=oi) (Φ:=fun a=>∃ p,oi.guard=none∧LG P oi.op a.eval=some p) (fun a H hg=>by
      obtain⟨o,p,h1,h2,h3,_⟩:=hg
      rw[hoi]at h1;cases h1
      exact⟨p,h2,h3⟩) (fun oh u a hap ⟨p,h1,h2⟩=>⟨p,h1,by rw[←qO hap u];exact h2⟩) pre a H _ w CV hfp.1 (hs.mono (lu post hfp.2)) hG
    unfold wpOp
    simp only[hoi]
    have hwant:Region.wanted oi (yielded ops a.tmps)=true:=by unfold Region.wanted;rw[hg]
    simp only[hwant,if_true]
    refine .inl ?_
    obtain⟨nx,w',H',q1,q2,q3⟩:=zG (o:=oi) hp (oQ post (oQ pre H)) E w hs
    have fin:∀ b w'',aG (oQ post (oQ pre H)) b→Sat E ((oQ post (oQ pre H)).add b p.2) w''→wpAny P .any ops Q f (ls.setIfInBounds i true) (a.put oi.dst (p.1 b)) w'':=fun b w'' hb hsb=>by
     have hG':=CS hsel (b:=b) hoi pre a H CV hG hp
     obtain⟨r1,r2⟩:=sO post (k:=p.2) hfp.2 hb
     refine ih _ (pre++.ea b p.2::post) _ H w'' (by rw[LK]at hf;rw[gY,Rq,List.length_append];omega) ?_ ?_ ((kG _ _ _).2 ⟨hfp.1,aG.of_le (lu post hfp.2) hb,r1⟩) (fun⟨j,hj⟩=>hrd ⟨j,by
      rcases List.mem_append.1 hj with h | h
      ·exact List.mem_append_left _ h
      ·rcases List.mem_cons.1 h with h | h
       ·cases h
       ·exact List.mem_append_right _ (List.mem_cons_of_mem _ h)⟩) hG'
     ·exact inv.step hwd (mid:=[.ea b p.2]) rfl (fun _ _ h=>by simp at h)
     ·rw[kF];exact hsb.mono r2.le
    unfold Oper.wp
    rw[q1]
    cases nx<;>simp only[oJ]at q3<;>simp only[Oper.upon]
    case value v=>obtain⟨b,hb,rfl,rfl⟩:=q3;exact fin b w' hb q2
    case skip=>obtain⟨b,hb,hv,rfl⟩:=q3;rw[hv];exact fin b w' hb q2
    case enter fn args=>
     refine(q3 E w' q2).mono ?_
     rintro e w'' ⟨v,H2,rfl,h2,b,hb,rfl,rfl⟩
     exact fin b w'' hb h2
   |ch=>
    have Ru:soft pre:=by
     have key:∀ l:List En,(∀ c j,En.op c j∈l→c=.rd∨c=.pu)→soft l:=fun l=>by
      induction l with
      |nil=>intro _;trivial
      |cons e l ihl=>
       intro h
       cases e with
       |op c j=>exact⟨h c j (by simp),ihl fun c j hj=>h c j (List.mem_cons_of_mem _ hj)⟩
       |ea b k=>exact ihl fun c j hj=>h c j (List.mem_cons_of_mem _ hj)
     refine key pre fun c j hj=>?_
     have hjm:j∈ids pre:=List.mem_filterMap.2 ⟨_,hj,rfl⟩
     have h1:=yw j hjm
     simp only[prB,Bool.and_eq_true]at h1
     replace h1:=h1.2
     simp only[Bool.or_eq_true,decide_eq_true_eq]at h1
     rcases h1 with (h1 | h2) | h2
     ·exact absurd hkc h1
     ·have hkj:=inv.kind c j (List.mem_append_left _ hj)
      rw[hkj]at h2
      cases c<;>simp at h2 ⊢
     ·have hkj:=inv.kind c j (List.mem_append_left _ hj)
      rw[E5 j (by rw[gY];exact List.mem_append_left _ hjm)]at h2
      cases h2
    obtain⟨N,q1,q2⟩:=IZ hsel hoi pre a H CV Ru hfp.1 hG
    obtain⟨E1,q3,q4⟩:=Sat.CP post (H:=oQ pre H) hfp.2 hs
    refine hwo (sK ?_ (q1 E1 w q3))
    rintro a' w' ⟨v,H',rfl,h1,h2⟩
    obtain⟨r1,r2⟩:=q4 _ _ h1
    obtain⟨r3,r4⟩:=q2 v H' h2
    have oU:(∃ k,En.op .rd k∈strip pre++post)→Hc.le H':=fun⟨k,hk⟩=>by
     exact r3 hlt
    refine ih _ (strip pre++post) _ H' w' (by rw[LK]at hf;rw[gY,l7,List.length_append];omega) ?_ (by rw[yh];exact r1) ((yj _ _ _).2 r2) oU r4
    ·have h6:=inv.step hwd (mid:=[]) rfl (fun _ _ h=>by cases h)
     refine⟨h6.size,fun j=>?_,?_,h6.nd,fun c j hj=>h6.kind c j ?_,h6.clo⟩
     ·rw[←h6.mem j,gY,gY,l7];rfl
     ·have:=h6.pw
      rw[gY]at this
      rw[gY,l7];exact this
     ·rcases List.mem_append.1 hj with h | h
      ·exact List.mem_append_left _ ((rJ _ _ _).1 h)
      ·exact List.mem_append_right _ h
end
def sel (ops:Array Oper):List Nat→List Oper→Prop
 | [],[]=>True
 |x::o,y::l=>ops[x]?=some y∧sel ops o l
 |_,_=>False
def GV:List Nat→List Cl→List En
 |x::o,c::cs=>.op c x::GV o cs
 |_,_=>[]
def Ez {α:Type} (l:List α):List Nat→List α
 | []=>[]
 |i::o=>match l[i]? with
  |some x=>x::Ez l o
  |none=>Ez l o
theorem GX {α:Type} {l:List α}:Ez l []=[]:=Eq.trans rfl rfl
def pm {α:Type}:Option α→List α→List α
 |some x,l=>x::l
 |none,l=>l
theorem GY {α:Type} {x:α} {l:List α}:pm (some x) l=x::l:=Eq.trans rfl rfl
theorem LY {α:Type} {l:List α} {i:Nat} {o:List Nat}:Ez l (i::o)=pm l[i]? (Ez l o):=by rw[Ez];cases l[i]?<;>rfl
theorem yJ {α:Type} {l:List α} {i:Nat} {o:List Nat} {x:α} (h:l[i]?=some x):Ez l (i::o)=x::Ez l o:=by rw[Ez,h]
section
variable {P:Program} {ops:Array Oper} {Hc:AH} {n:Nat} {ds:List (Option Tmp)}
theorem zK {Q:Exit→Fr→AH→Prop} {M:Nat} (hds:ds=ops.toList.map (·.dst)):∀ (ord:List Nat) (cs:List Cl) (l:List Oper) (k:Nat) (fr:Fr) (H:AH) (a:Act),CY cs l=true→sel ops ord l→k+l.length≤M→
  gw P n ds Hc M k cs l fr H (Q .normal)→kU n fr a→GG P ops Hc ops.size (RR n Q) (GV ord cs) a H
 | [],[],[],k,fr,H,a,_,_,_,h,hf=>⟨fr,H,hf,AH.le_refl _,h⟩
 |_,[],_::_,_,_,_,_,hc,_,_,_,_=>by simp[CY]at hc
 |_,_::_,[],_,_,_,_,hc,_,_,_,_=>by simp[CY]at hc
 |_::_,[],[],_,_,_,_,_,hl,_,_,_=>hl.elim
 | [],_::_,_::_,_,_,_,_,_,hl,_,_,_=>hl.elim
 |x::ord,c::cs,o::l,k,fr,H,a,hc,hl,hM,h,hf=>by
  obtain⟨ho,hl'⟩:=hl
  simp only[List.length_cons]at hM
  have hM':k+1+l.length≤M:=by omega
  have hkM:k<M:=by omega
  simp only[CY,Bool.and_eq_true]at hc
  cases c with
  |rd=>
   obtain⟨v,h1,fr',h2,h3⟩:=yx hds hc.1 h hf
   refine⟨o,v,ho,?_,zK hds ord cs l (k+1) fr' H _ hc.2 hl' hM' h3 h2⟩
   rcases h1 with ⟨h1,h4⟩ | h1
   ·exact .inl ⟨h1,fun w ⟨E,hw⟩=>pU P _ Hc _ w h4 hw⟩
   ·exact .inr h1
  |pu=>
   obtain⟨v,h1,fr',h2,h3⟩:=yx hds hc.1 h hf
   refine⟨o,v,ho,?_,zK hds ord cs l (k+1) fr' H _ hc.2 hl' hM' h3 h2⟩
   rcases h1 with ⟨h1,h4⟩ | h1
   ·exact .inl ⟨h1,fun w _=>E8 P _ Hc.w0 _ w h4⟩
   ·exact .inr h1
  |al=>
   simp only[Bool.and_eq_true]at hc
   obtain⟨⟨hg,hal⟩,hc2⟩:=hc
   obtain⟨d,op,ty,pos,af,g⟩:=o
   cases g with
   |some g=>cases hg
   |none=>
    obtain⟨h1,h2⟩:=h
    obtain⟨a1,a2,a3⟩:=o9 h2
    obtain⟨p,hp,hk⟩:=NC (o:=⟨d,op,ty,pos,af,none⟩) hal h2
    refine⟨_,p,ho,rfl,?_,fun b hb=>zK hds ord cs l (k+1) _ _ _ hc2 hl' hM' (hk b hb) (hf.put h1 _)⟩
    rw[←hp]
    refine zD fun x hx=>hf.eval ?_
    have:=List.all_eq_true.1 a1 x (by simpa using hx)
    exact this
  |ch=>
   have h2:=jK _ _ _ h
   simp only[xI]at h2
   split at h2
   ·exact h2.elim
   ·rename_i g hg
    rw[hds]at hg
    have hw:=mO hf hg
    rw[←hds]at hg
    cases g with
    |true=>
     obtain⟨hok,h1⟩:=h2.1 rfl
     have hd:EO n o.dst=true:=by simp only[wV,Bool.and_eq_true]at hok;exact hok.2
     refine⟨o,fun v H'=>(k<M→Hc.le H')∧gw P n ds Hc M (k+1) cs l (wU o.dst v (xH ds fr o true)) H' (Q .normal),ho,fun E w hs=>?_,fun v H' hN=>⟨fun _=>hN.1 hkM,zK hds ord cs l (k+1) _ H' _ hc.2 hl' hM' hN.2 ((hf.xH hg).put hd v)⟩⟩
     unfold wpOp
     simp only[ho,hw,if_true]
     exact .inl ((Gs h1).wp (hf.xH hg) hok hs fun v H' w' hk hs'=>⟨v,H',rfl,hs',hk⟩)
    |false=>
     obtain⟨hd,h1⟩:=h2.2 rfl
     refine⟨o,fun v H'=>v=undef∧H'=H,ho,fun E w hs=>?_,fun v H' hN=>?_⟩
     ·unfold wpOp
      simp only[ho,hw,Bool.false_eq_true,if_false]
      exact⟨undef,H,rfl,hs,rfl,rfl⟩
     ·obtain⟨rfl,rfl⟩:=hN
      exact⟨fun _=>h1.1 hkM,zK hds ord cs l (k+1) _ _ _ hc.2 hl' hM' h1.2 ((hf.xH hg).put hd _)⟩
theorem NU {l:List Oper}:∀ {ord:List Nat},(∀ i∈ord,i<l.length)→sel l.toArray ord (Ez l ord)
 | [],_=>trivial
 |i::o,h=>by
  have hi:=h i (by simp)
  have e:l[i]?=some l[i]:=List.getElem?_eq_getElem hi
  rw[yJ e]
  exact⟨by simp[hi],NU fun j hj=>h j (by simp[hj])⟩
theorem NV {α:Type} {l:List α}:∀ {ord:List Nat},(∀ i∈ord,i<l.length)→(Ez l ord).length=ord.length
 | [],_=>rfl
 |i::o,h=>by
  have hi:=h i (by simp)
  rw[yJ (List.getElem?_eq_getElem hi),List.length_cons,List.length_cons,NV fun j hj=>h j (by simp[hj])]
theorem yK {cs:List Cl}:∀ {ord:List Nat},(∀ i∈ord,i<cs.length)→ids (GV ord (Ez cs ord))=ord
 | [],_=>rfl
 |i::o,h=>by
  have hi:=h i (by simp)
  rw[yJ (List.getElem?_eq_getElem hi),GV,mW,yK fun j hj=>h j (by simp[hj])]
theorem Fz {cs:List Cl} {c:Cl} {j:Nat}:∀ {ord:List Nat},(∀ i∈ord,i<cs.length)→En.op c j∈GV ord (Ez cs ord)→cs[j]?=some c
 | [],_,hm=>by cases hm
 |i::o,h,hm=>by
  have hi:=h i (by simp)
  rw[yJ (List.getElem?_eq_getElem hi),GV]at hm
  rcases List.mem_cons.1 hm with hm | hm
  ·cases hm;exact List.getElem?_eq_getElem hi
  ·exact Fz (fun j hj=>h j (by simp[hj])) hm
theorem Dw:∀ (ord:List Nat) (cs:List Cl) (H:AH),oQ (GV ord cs) H=H∧zy (GV ord cs) H
 | [],_,_=>⟨rfl,trivial⟩
 |_::_,[],_=>⟨rfl,trivial⟩
 |_::o,_::cs,H=>Dw o cs H
theorem fZ.Zt {id:Nat} {l:List Oper} {Q:Exit→Fr→AH→Prop} {fr:Fr} {H:AH} (cs:List Cl) (uO ord:List Nat) (M:Nat) (Hc:AH) (hm:P.follows .mixedOrders=true) (hB:(NS l.toArray cs uO ord&&CY (Ez cs ord) (Ez l ord)&&decide (l.length≤M))=true) (hc:Hc.le H)
  (h:nd (l.map (·.dst)) fun ds=>gw P n ds Hc M 0 (Ez cs ord) (Ez l ord) fr H (Q .normal)):fZ P n (.region id l.toArray true) Q fr H:=by
 intro E a w hf hs
 rw[Bool.and_eq_true,Bool.and_eq_true,decide_eq_true_eq]at hB
 obtain⟨⟨hB1,hB2⟩,hM⟩:=hB
 have h':gw P n (l.toArray.toList.map (·.dst)) Hc M 0 (Ez cs ord) (Ez l ord) fr H (Q .normal):=h
 have hB0:=hB1
 simp only[NS,Bool.and_eq_true,decide_eq_true_eq]at hB0
 obtain⟨⟨⟨⟨⟨_,hcl⟩,_⟩,_⟩,_⟩,hnd,hol,hrg⟩:=hB0
 have Wx:∀ i∈ord,i<l.length:=fun i hi=>by simpa using hrg i hi
 have hrc:∀ i∈ord,i<cs.length:=fun i hi=>by rw[hcl];exact hrg i hi
 refine wp_region_any hm ?_
 have hs':Sat E H { w with drawn:=w.drawn+1 }:=hs.drew
 have hG:=zK (ops:=l.toArray) (Hc:=Hc) (M:=M) (P:=P) (n:=n) (Q:=Q) rfl ord (Ez cs ord) (Ez l ord) 0 fr H a hB2 (NU Wx) (by rw[NV Wx,hol];simpa using hM) h' hf
 have hmem:∀ i,i<l.length→i∈ord:=fun i hi=>by
  have hp:ord.Perm (List.range l.length):=by
   refine(List.perm_ext_iff_of_nodup hnd List.nodup_range).2 fun x=>⟨fun hx=>List.mem_range.2 (Wx x hx),fun hx=>?_⟩
   rcases Classical.em (x∈ord) with h | h
   ·exact h
   ·exfalso
    have h1:(x::ord).Nodup:=List.nodup_cons.2 ⟨h,hnd⟩
    have h2:=uY (n:=l.length) h1 (fun y hy=>by
     rcases List.mem_cons.1 hy with rfl | hy
     ·exact List.mem_range.1 hx
     ·exact Wx y hy)
    rw[List.length_cons,hol]at h2
    simp at h2
    omega
  exact hp.mem_iff.2 (List.mem_range.2 hi)
 refine SL (ord:=ord) (E:=E) (cls:=cs) (uO:=uO) (Q:=AQ E n Q) hB1 (fun a H w ⟨fr,H0,h1,h2,h3⟩ hs=>⟨fr,H0,h1,hs.mono h2,h3⟩) _ _ (GV ord (Ez cs ord)) a H _ ?_ ?_ (by rw[(Dw _ _ H).1];exact hs') (Dw _ _ H).2 (fun _=>hc) hG
 ·rw[yK hrc,hol]
 ·refine⟨by simp,fun i=>?_,by rw[yK hrc];exact List.Sublist.refl _,hnd,fun c i hci=>Fz hrc hci,fun x y hx=>?_⟩
  ·rw[yK hrc]
   constructor
   ·intro hh;exact⟨hrg i hh,by rw[getD_in (by simpa using hrg i hh) (getD_replicate_false _ _)]⟩
   ·intro hh;exact hmem i (by simpa using hh.1)
  ·rw[getD_replicate_false]at hx;cases hx
end
end Go.AX
/- ifs: do, Do. -/
namespace Go.Proofs.YtbhamhhjicehaaaGreatDoor.mF
open Go Go.AX Go.Proofs Ty Go.Proofs.YtbhamhhjicehaaaGreatDoor.File Go.Proofs.YtbhamhhjicehaaaGreatDoor.Err
theorem jT.rep {H:AH} {b bm k:Nat} {ms:List MF} {den:Int} {m m':MF} {T:AH} (h:jT H b bm ms den) (hk:ms[k]?=some m) (hn:m'.n=m.n) (hf:aG H m'.blk) (hb:m'.R.length*4≤m'.bs)
  (hT:T=(H.set bm (.gW ((ms.map MF.ent).set k m'.ent))).add m'.blk (.cells (m'.R.map enc).flatten 76 m'.bs)):jT T b bm (ms.set k m') den:=by
 subst hT
 have e1:b≠m'.blk:=fun e=>by have:=hf.2;rw[←e,h.top]at this;cases this
 have e2:bm≠m'.blk:=fun e=>by have:=hf.2;rw[←e,h.map]at this;cases this
 have e4:∀ x∈ms,x.blk≠m'.blk:=fun x hx e=>by have h2:=hf.2;rw[←e,(h.rows x hx).1]at h2;cases h2
 refine⟨?_,?_,fun x hx=>?_,?_,?_⟩
 ·rw[dh,if_neg e1,dw,if_neg h.ne1];exact h.top
 ·rw[dh,if_neg e2,dw,if_pos rfl,List.map_set]
 ·rcases List.mem_or_eq_of_mem_set hx with hx | rfl
  ·have:=h.rows x hx
   exact⟨by rw[dh,if_neg (e4 x hx),dw,if_neg (h.ne3 hx)];exact this.1,this.2⟩
  ·exact⟨by rw[dh,if_pos rfl],hb⟩
 ·rw[List.map_set,List.Nodup,List.pairwise_iff_getElem]
  intro i j hi hj hij
  have hnd:=h.nd
  rw[List.Nodup,List.pairwise_iff_getElem]at hnd
  simp only[List.length_set,List.length_map]at hi hj
  rw[List.getElem_set,List.getElem_set]
  split
  ·rw[if_neg (by omega)]
   have:=e4 ms[j] (List.getElem_mem _)
   simpa using fun e=>this e.symm
  ·split
   ·have:=e4 ms[i] (List.getElem_mem _)
    simpa using this
   ·exact hnd i j (by simpa using hi) (by simpa using hj) hij
 ·rw[setMs hk hn h.kd];exact Jg h.kd
theorem jT.ftR {b bm k:Nat} {ms:List MF} {m':MF} {ft:Nat→Prop} (h:∀ x,sU b bm ms x→ft x) {x:Nat} (hx:sU b bm (ms.set k m') x):ft x∨x=m'.blk:=by
 rcases hx with hx | hx | ⟨y,hy,rfl⟩
 ·exact .inl (h x (.inl hx))
 ·exact .inl (h x (.inr (.inl hx)))
 ·rcases List.mem_or_eq_of_mem_set hy with hy | rfl
  ·exact .inl (h _ (.inr (.inr ⟨y,hy,rfl⟩)))
  ·exact .inr rfl
theorem Jt {a b c:Int} (h:yF a b c=true):0≤a∧a≤2∧0≤b∧b<64∧0≤c∧c<256:=by simpa [yF]using h
theorem BF (R:List Rc) (op:Int) (i:Nat) (v:Rc):(vX R op i v).length=R.length:=by
 unfold vX;split
 ·simp
 ·split<;>simp
theorem agJ {H:AH} {b:Nat} {X:List Nf} {den:Int} {ft:Nat→Prop} (h:iV H b X den ft) (hX:lG X) (op fl rec:Int) (v:Rc) :
  aO Tryz.prog 102 #[.pointer (some ⟨b,0,none⟩),.agg #[.int .i64 op,.int .i64 fl,.int .i64 rec],.agg (enc v).toArray] H
   (fun u H'=>∃ ev zA,u=.tuple #[.agg (enc (Qy X op fl rec v)).toArray,ev]∧uU H' ev (Am X op fl rec)∧iV H' b (Dn X op fl rec v) den zA∧Keep H H' ft∧∀ x,zA x→ft x∨aG H x):=by
 have bad:∀ {e:Int} {T H':AH} {ev:Value},Am X op fl rec=e→e≠0→H'.le T→Keep H H' (fun _=>False)→uU H' ev e→∃ H',H'.le T∧∃ ev' zA,Value.tuple #[.agg (enc zr).toArray,ev]=.tuple #[.agg (enc (Qy X op fl rec v)).toArray,ev']∧uU H' ev' (Am X op fl rec)∧iV H' b (Dn X op fl rec v) den zA∧Keep H H' ft∧∀ x,zA x→ft x∨aG H x:=fun {e T H' ev} he h0 hl hK hv=>by
  have hx:Dn X op fl rec v=X:=by rw[Dn,he,if_neg h0]
  have hw:Qy X op fl rec v=zr:=by rw[Qy,he,if_neg h0]
  exact⟨H',hl,ev,ft,by rw[hw],he▸hv,by rw[hx];exact h.keep hK fun _ _ h=>h,hK.mono fun _ h=>h.elim,fun x h=>.inl h⟩
 refine aO.cu Tryz.func102 rfl Tryz.ntmps102 Tryz.results102 (by simp) ?_;simp -dsimp(maxSteps:=4000000) only[au,ak,aB,aC,go_sem]
 refine bY.mk fun b4 jr=>?_;have aT:=jr;(try simp only[ah,aj,ne_eq]at aT);have aX:=aT;(try simp only[@eq_comm Nat b4]at aX);simp -dsimp(maxSteps:=4000000) only[au,ak,aB,aC,aT,aX,go_sem]
 refine bY.mk fun b5 iW=>?_;have bQ:=iW;(try simp only[ah,aj,ne_eq]at bQ);have dB:=bQ;(try simp only[@eq_comm Nat b5]at dB);simp -dsimp(maxSteps:=4000000) only[au,ak,aB,aC,aT,aX,bQ,dB,go_sem]
 refine bY.mk fun b6 jL=>?_;have bV:=jL;(try simp only[ah,aj,ne_eq]at bV);have dI:=bV;(try simp only[@eq_comm Nat b6]at dI);simp -dsimp(maxSteps:=4000000) only[au,ak,aB,aC,aT,aX,bQ,dB,bV,dI,go_sem]
 refine(Go.Proofs.YtbhamhhjicehaaaGreatDoor.sQ op fl rec _).mono ?_;rintro _ _ ⟨rfl,rfl⟩
 cases hg:yF op fl rec with
 |false=>
  simp -dsimp(maxSteps:=4000000) only[au,ak,aB,aC,aT,aX,bQ,dB,bV,dI,go_sem]
  exact bad (e:=1) (H':=H) (by simp[Am,hg]) (by decide) (AH.aK (AH.aK (AH.aK (AH.le_refl _) ((by simp only[au,ak,aB,aC,ah,aj,ne_eq,aT,not_false_eq_true,and_self]:aG _ b4).2)) ((by simp only[au,ak,aB,aC,ah,aj,ne_eq,bQ,not_false_eq_true,and_self]:aG _ b5).2)) ((by simp only[au,ak,aB,aC,ah,aj,ne_eq,bV,not_false_eq_true,and_self]:aG _ b6).2)) Keep.refl (.inr (.inl rfl))
 |true=>
  obtain⟨hop0,hop1,alI,alJ,acL,akG⟩:=Jt hg
  obtain⟨bm,ms,h1,rfl,hft⟩:=h
  have r0:H.rd ⟨b,0,none⟩=some (.map (some bm)):=by rw[gB h1.top];rfl
  have hmp:H.mp bm=some (ms.map MF.ent):=by rw[AH.mp,h1.map]
  have hms:∀ es,H.xQ bm es=some (H.set bm (.gW es)):=fun es=>by rw[AH.xQ,h1.map]
  have n1:¬ b4=b:=jr.cO h1.top
  have n2:¬ b4=bm:=jr.cO h1.map
  have n3:¬ b5=b:=bQ.2.cO h1.top
  have n4:¬ b5=bm:=bQ.2.cO h1.map
  have n5:¬ b6=b:=bV.2.2.cO h1.top
  have n6:¬ b6=bm:=bV.2.2.cO h1.map
  simp -dsimp(maxSteps:=4000000) only[au,ak,aB,aC,aT,aX,bQ,dB,bV,dI,go_sem]
  refine fZ.gen [.pu,.pu,.pu,.rd,.pu,.rd,.ch,.pu,.pu,.pu,.al,.ch,.pu] [0,1,3,7,0,16,63,127,255,255,0,1535,4095] 0 (_) mixed (by kernel_rfl) (AH.le_refl _) ?_
  rcases h1.at_ fl with ⟨hm,hl⟩ | ⟨k,m,hm,hk,hn,hl⟩
  ·have he:Am (ms.map MF.nf) op fl rec=3:=by simp[Am,hg,hl]
   simp -dsimp(maxSteps:=4000000) only[r0,n1,n2,n3,n4,n5,n6,hmp,hm,au,ak,aB,aC,aT,aX,bQ,dB,bV,dI,go_sem]
   refine bY.mk fun b8 lF=>?_;have aQ:=lF;(try simp only[ah,aj,ne_eq]at aQ);have bF:=aQ;(try simp only[@eq_comm Nat b8]at bF);simp -dsimp(maxSteps:=4000000) only[au,ak,aB,aC,aT,aX,bQ,dB,bV,dI,aQ,bF,go_sem]
   refine fZ.Zt [.pu,.pu,.rd,.pu,.pu,.al,.pu,.ch,.pu] [0,0,2,0,14,30,62,1,255] [0,1,2,3,4,7,5,6,8] 10 (_) mixed (by kernel_rfl) (AH.le_refl _) ?_;rw[Nw];simp(dsimp:=false) only[GX,LY,GY,List.getElem?_cons_zero,List.getElem?_cons_succ,↓reduceIte,Nat.reduceEqDiff,Nat.reduceLT,Nat.reduceLeDiff,Nat.reduceAdd,Nat.reduceMul,Nat.reduceSub,reduceCtorEq,Int.reduceToNat,Int.reduceLT,Int.reduceLE,Int.reduceEq,Int.reduceNe,Int.reduceBEq,Nat.reduceBEq,Int.reduceBNe,Nat.reduceBNe,Int.reduceAdd,Int.reduceSub,Int.reduceMul,Int.reduceNeg]
   simp -dsimp(maxSteps:=4000000) only[au,ak,aB,aC,aT,aX,bQ,dB,bV,dI,aQ,bF,go_sem]
   refine bY.mk fun bf Zu=>?_;have uZ:=Zu;(try simp only[ah,aj,ne_eq]at uZ);have Ju:=uZ;(try simp only[@eq_comm Nat bf]at Ju);simp -dsimp(maxSteps:=4000000) only[au,ak,aB,aC,aT,aX,bQ,dB,bV,dI,aQ,bF,uZ,Ju,go_sem]
   exact bad (e:=3) (H':=H.add bf (.cells [.int .i64 fl,.iface 32 (.int .i64 3)] 199 2)) he (by decide) (AH.eU (aH _ _ _) (AH.aK (AH.aK (AH.aK (AH.aK (AH.aK (AH.le_refl _) ((by simp only[au,ak,aB,aC,ah,aj,ne_eq,aT,not_false_eq_true,and_self]:aG _ b4).2)) ((by simp only[au,ak,aB,aC,ah,aj,ne_eq,bQ,not_false_eq_true,and_self]:aG _ b5).2)) ((by simp only[au,ak,aB,aC,ah,aj,ne_eq,bV,not_false_eq_true,and_self]:aG _ b6).2)) ((by simp only[au,ak,aB,aC,ah,aj,ne_eq,aQ,not_false_eq_true,and_self]:aG _ b8).2)) ((by simp only[au,ak,aB,aC,ah,aj,ne_eq,uZ,not_false_eq_true,and_self]:aG _ bf).2))) (Keep.add uZ.2.2.2.2) (.inr (.inr ⟨bf,0,rfl,by rw[gZ];rfl⟩))
  ·obtain⟨i,rfl⟩:∃ i:Nat,rec=i:=⟨rec.toNat,by omega⟩
   obtain⟨_,hgd,_⟩:=hX.lk hl
   obtain⟨hl1,hl2⟩:=l9 hgd
   dsimp only at hl1 hl2
   have hmem:=List.mem_of_getElem? hk
   have hs:=h1.slc hmem (by omega)
   have he:Am (ms.map MF.nf) op fl i=jJ m.p m.R op i:=by simp[Am,hg,hl]
   unfold MF.val fv at hm
   simp -dsimp(maxSteps:=4000000) only[r0,n1,n2,n3,n4,n5,n6,hmp,hm,au,ak,aB,aC,aT,aX,bQ,dB,bV,dI,go_sem]
   refine bY.mk fun b8 lF=>?_;have aQ:=lF;(try simp only[ah,aj,ne_eq]at aQ);have bF:=aQ;(try simp only[@eq_comm Nat b8]at bF);simp -dsimp(maxSteps:=4000000) only[au,ak,aB,aC,aT,aX,bQ,dB,bV,dI,aQ,bF,go_sem]
   by_cases hmay:jJ m.p m.R op i=0
   ·have hc:=fun H1 (h1:bG H1 4 (some ⟨m.blk,0,none⟩) m.R.length (m.R.map enc))=>aci m.p op i m.R v _ _ H1 h1 hmay
    unfold fv at hc
    refine(hc _ ((((hs.add (by simp only[ah,ne_eq,aT,not_false_eq_true,and_self]:aG _ b4)).add (by simp only[ah,ne_eq,bQ,not_false_eq_true,and_self]:aG _ b5)).add (by simp only[ah,ne_eq,bV,not_false_eq_true,and_self]:aG _ b6)).add (by simp only[ah,ne_eq,aQ,not_false_eq_true,and_self]:aG _ b8))).mono ?_;rintro _ _ ⟨b9,bs,iI,rfl,hbs,rfl⟩
    have aU:=iI;(try simp only[ah,aj,ne_eq]at aU);have bH:=aU;(try simp only[@eq_comm Nat b9]at bH)
    simp -dsimp(maxSteps:=4000000) only[au,ak,aB,aC,aT,aX,bQ,dB,bV,dI,aQ,bF,aU,bH,go_sem]
    refine bY.mk fun b10 qg=>?_;have dW:=qg;(try simp only[ah,aj,ne_eq]at dW);have fF:=dW;(try simp only[@eq_comm Nat b10]at fF);simp -dsimp(maxSteps:=4000000) only[au,ak,aB,aC,aT,aX,bQ,dB,bV,dI,aQ,bF,aU,bH,dW,fF,go_sem]
    refine bY.mk fun b11 jd=>?_;have aZ:=jd;(try simp only[ah,aj,ne_eq]at aZ);have bK:=aZ;(try simp only[@eq_comm Nat b11]at bK);simp -dsimp(maxSteps:=4000000) only[au,ak,aB,aC,aT,aX,bQ,dB,bV,dI,aQ,bF,aU,bH,dW,fF,aZ,bK,go_sem]
    refine fZ.gen [.pu,.pu,.pu,.rd,.pu,.rd,.rd,.ch] [0,1,3,7,0,16,0,127] 0 (_) mixed (by kernel_rfl) (AH.le_refl _) ?_
    have n7:¬ b8=b:=aQ.2.2.2.cO h1.top
    have n8:¬ b8=bm:=aQ.2.2.2.cO h1.map
    have n9:¬ b9=b:=aU.2.2.2.2.cO h1.top
    have n10:¬ b9=bm:=aU.2.2.2.2.cO h1.map
    have n11:¬ b10=b:=dW.2.2.2.2.2.cO h1.top
    have n12:¬ b10=bm:=dW.2.2.2.2.2.cO h1.map
    have n13:¬ b11=b:=aZ.2.2.2.2.2.2.cO h1.top
    have n14:¬ b11=bm:=aZ.2.2.2.2.2.2.cO h1.map
    simp -dsimp(maxSteps:=4000000) only[r0,n1,n2,n3,n4,n5,n6,n7,n8,n9,n10,n11,n12,n13,n14,hmp,hms,hm,au,ak,aB,aC,aT,aX,bQ,dB,bV,dI,aQ,bF,aU,bH,dW,fF,aZ,bK,go_sem]
    subst hn
    have hdl:=BF m.R op i v
    have hx:Dn (ms.map MF.nf) op m.n i v=rp m.n (m.p,vX m.R op i v) (ms.map MF.nf):=by
     rw[Dn,if_pos (by rw[he];exact hmay),hl];rfl
    have hw:Qy (ms.map MF.nf) op m.n i v=(vX m.R op i v).getD i zr:=by
     rw[Qy,if_pos (by rw[he];exact hmay),hl];rfl
    have hent:(MF.mk m.n m.p b9 bs (vX m.R op i v)).ent=(.int .i64 m.n,.agg #[.int .i64 m.p,.slice (some ⟨b9,0,none⟩) m.R.length m.R.length]):=by rw[MF.ent,MF.val,hdl];rfl
    refine⟨(H.set bm (.gW ((ms.map MF.ent).set k (MF.mk m.n m.p b9 bs (vX m.R op i v)).ent))).add b9 (.cells ((vX m.R op i v).map enc).flatten 76 bs),?_,.nilIface,sU b bm (ms.set k (MF.mk m.n m.p b9 bs (vX m.R op i v))),?_,.inl ⟨rfl,by rw[he];exact hmay⟩,?_,?_,?_⟩
    ·rw[hent]
     exact(by refine AH.eU ?_ ?_;(show AH.find _ _=_;simp only[aH,aN,aV,ah,aj,ne_eq,not_false_eq_true,true_and,and_true,and_self,au,n2,n4,n6,n8,n10,n12,n14,aT,aX,bQ,dB,bV,dI,aQ,bF,aU,bH,dW,fF,aZ,bK]);(repeat (first | exact AH.le_refl _ | refine AH.aK ?_ ?_));all_goals (first | exact AH.le_refl _ | (show AH.find _ _=_;simp only[aH,aN,aV,ah,aj,ne_eq,not_false_eq_true,true_and,and_true,and_self,au,n2,n4,n6,n8,n10,n12,n14,aT,aX,bQ,dB,bV,dI,aQ,bF,aU,bH,dW,fF,aZ,bK])))
    ·rw[hw]
    ·rw[hx]
     exact⟨bm,_,h1.rep (m':=MF.mk m.n m.p b9 bs (vX m.R op i v)) hk rfl aU.2.2.2.2 (by dsimp only;rw[hdl];exact hbs) rfl,setMs (m':=MF.mk m.n m.p b9 bs (vX m.R op i v)) hk rfl h1.kd,fun x=>Iff.rfl⟩
    ·exact(Keep.set.mono fun x hx=>(hft x).2 (.inr (.inl hx))).trans (Keep.add (aG.mk' aU.2.2.2.2 n10))
    ·intro x hx
     rcases jT.ftR (m':=MF.mk m.n m.p b9 bs (vX m.R op i v)) (fun x=>(hft x).2) hx with hx | rfl
     ·exact .inl hx
     ·exact .inr aU.2.2.2.2
   ·have hc:=fun H1 (h1:bG H1 4 (some ⟨m.blk,0,none⟩) m.R.length (m.R.map enc))=>Zn m.p op i m.R v _ _ H1 h1 hmay
    unfold fv at hc
    refine(hc _ ((((hs.add (by simp only[ah,ne_eq,aT,not_false_eq_true,and_self]:aG _ b4)).add (by simp only[ah,ne_eq,bQ,not_false_eq_true,and_self]:aG _ b5)).add (by simp only[ah,ne_eq,bV,not_false_eq_true,and_self]:aG _ b6)).add (by simp only[ah,ne_eq,aQ,not_false_eq_true,and_self]:aG _ b8))).mono ?_;rintro _ _ ⟨rfl,rfl⟩
    simp -dsimp(maxSteps:=4000000) only[V8,au,ak,aB,aC,aT,aX,bQ,dB,bV,dI,aQ,bF,go_sem]
    refine bY.mk fun b10 qg=>?_;have dW:=qg;(try simp only[ah,aj,ne_eq]at dW);have fF:=dW;(try simp only[@eq_comm Nat b10]at fF);simp -dsimp(maxSteps:=4000000) only[au,ak,aB,aC,aT,aX,bQ,dB,bV,dI,aQ,bF,dW,fF,go_sem]
    refine bY.mk fun b11 jd=>?_;have aZ:=jd;(try simp only[ah,aj,ne_eq]at aZ);have bK:=aZ;(try simp only[@eq_comm Nat b11]at bK);simp -dsimp(maxSteps:=4000000) only[au,ak,aB,aC,aT,aX,bQ,dB,bV,dI,aQ,bF,dW,fF,aZ,bK,go_sem]
    simp -dsimp(maxSteps:=4000000) only[hmay,au,ak,aB,aC,aT,aX,bQ,dB,bV,dI,aQ,bF,dW,fF,aZ,bK,go_sem]
    refine fZ.Zt [.pu,.pu,.rd,.pu,.pu,.pu,.al,.pu,.ch,.pu] [0,0,2,0,8,30,62,126,1,511] [0,1,2,3,4,5,8,6,7,9] 11 (_) mixed (by kernel_rfl) (AH.le_refl _) ?_;rw[Nw];simp(dsimp:=false) only[GX,LY,GY,List.getElem?_cons_zero,List.getElem?_cons_succ,↓reduceIte,Nat.reduceEqDiff,Nat.reduceLT,Nat.reduceLeDiff,Nat.reduceAdd,Nat.reduceMul,Nat.reduceSub,reduceCtorEq,Int.reduceToNat,Int.reduceLT,Int.reduceLE,Int.reduceEq,Int.reduceNe,Int.reduceBEq,Nat.reduceBEq,Int.reduceBNe,Nat.reduceBNe,Int.reduceAdd,Int.reduceSub,Int.reduceMul,Int.reduceNeg]
    simp -dsimp(maxSteps:=4000000) only[au,ak,aB,aC,aT,aX,bQ,dB,bV,dI,aQ,bF,dW,fF,aZ,bK,go_sem]
    refine bY.mk fun bf Zu=>?_;have uZ:=Zu;(try simp only[ah,aj,ne_eq]at uZ);have Ju:=uZ;(try simp only[@eq_comm Nat bf]at Ju);simp -dsimp(maxSteps:=4000000) only[au,ak,aB,aC,aT,aX,bQ,dB,bV,dI,aQ,bF,dW,fF,aZ,bK,uZ,Ju,go_sem]
    exact bad (e:=jJ m.p m.R op i) (H':=H.add bf (.cells [.int .i64 fl,.iface 32 (.int .i64 (jJ m.p m.R op i))] 199 2)) he hmay (AH.eU (aH _ _ _) (AH.aK (AH.aK (AH.aK (AH.aK (AH.aK (AH.aK (AH.aK (AH.le_refl _) ((by simp only[au,ak,aB,aC,ah,aj,ne_eq,aT,not_false_eq_true,and_self]:aG _ b4).2)) ((by simp only[au,ak,aB,aC,ah,aj,ne_eq,bQ,not_false_eq_true,and_self]:aG _ b5).2)) ((by simp only[au,ak,aB,aC,ah,aj,ne_eq,bV,not_false_eq_true,and_self]:aG _ b6).2)) ((by simp only[au,ak,aB,aC,ah,aj,ne_eq,aQ,not_false_eq_true,and_self]:aG _ b8).2)) ((by simp only[au,ak,aB,aC,ah,aj,ne_eq,dW,not_false_eq_true,and_self]:aG _ b10).2)) ((by simp only[au,ak,aB,aC,ah,aj,ne_eq,aZ,not_false_eq_true,and_self]:aG _ b11).2)) ((by simp only[au,ak,aB,aC,ah,aj,ne_eq,uZ,not_false_eq_true,and_self]:aG _ bf).2))) (Keep.add uZ.2.2.2.2.2.2) (.inr (.inr ⟨bf,0,rfl,by rw[gZ];rfl⟩))
end Go.Proofs.YtbhamhhjicehaaaGreatDoor.mF
/- ifs: Do. -/
namespace Go.Proofs.YtbhamhhjicehaaaGreatDoor.mF
open Go Go.AX Go.Proofs Ty Go.Proofs.YtbhamhhjicehaaaGreatDoor.File Go.Proofs.YtbhamhhjicehaaaGreatDoor.Err
theorem _root_.Go.AX.Keep.iU {A T:AH} {ex:Nat→Prop} (h0:T.w0=A.w0) (h:∀ x,¬ ex x→T.find x=A.find x):Keep A T ex:=⟨h0,fun x hx _=>h x hx⟩
theorem _root_.Go.AX.Keep.rd {A T:AH} (h:Keep A T fun _=>False) {a:Addr} {v:Value} (hr:A.rd a=some v):T.rd a=some v:=by
 unfold AH.rd at hr ⊢
 have hk:(A.find a.block).isSome∨a.block<A.w0.heap.size:=by
  cases hf:A.find a.block with
  |some k=>exact .inl rfl
  |none=>
   rw[hf]at hr
   simp only at hr
   split at hr
   ·rename_i h;exact .inr h
   ·cases hr
 rw[h.at_ _ (fun h=>h) hk,h.w0];exact hr
theorem uU.keep {A T:AH} {v:Value} {e:Int} (h:uU A v e) (hk:Keep A T fun _=>False):uU T v e:=by
 rcases h with h | h | ⟨b,o,h,hr⟩
 ·exact .inl h
 ·exact .inr (.inl h)
 ·exact .inr (.inr ⟨b,o,h,hk.rd hr⟩)
theorem uU.over {S:AH} {b bm t:Nat} {den zL e:Int} {v:Value} (h:uU (S.add b (.cells [.map (some bm),.int .i64 den] t 2)) v e):uU (S.add b (.cells [.map (some bm),.int .i64 zL] t 2)) v e:=by
 rcases h with h | h | ⟨c,o,h,hr⟩
 ·exact .inl h
 ·exact .inr (.inl h)
 ·refine .inr (.inr ⟨c,o,h,?_⟩)
  by_cases e:c=b
  ·subst e
   rw[gZ]at hr
   match o,hr with
   |0,hr=>cases hr
   |o+1,hr=>cases hr
  ·rw[rE _ (fun h=>e h.symm)]at hr ⊢
   exact hr
theorem iV.den {A T:AH} {b bm c:Nat} {X:List Nf} {den zL:Int} {ft:Nat→Prop} (h:iV A b X den ft) (hb:A.find b=some (.cells [.map (some bm),.int .i64 den] 113 2)) (hc:¬ ft c)
  (h0:T.find b=some (.cells [.map (some bm),.int .i64 zL] 113 2)) (hT:∀ x,x≠b→x≠c→T.find x=A.find x):iV T b X zL ft:=by
 obtain⟨bm',ms,h1,h2,h3⟩:=h
 have e:=h1.top
 rw[hb]at e
 obtain rfl:bm=bm':=by simpa using e
 have hne:∀ x,sU b bm ms x→x≠c:=fun x hx e=>hc (e▸(h3 x).2 hx)
 refine⟨bm,ms,⟨h0,?_,fun m hm=>?_,h1.nd,h1.kd⟩,h2,h3⟩
 ·rw[hT bm (fun e=>h1.ne1 e.symm) (hne _ (.inr (.inl rfl)))];exact h1.map
 ·have:=h1.rows m hm
  exact⟨by rw[hT _ (h1.ne2 hm) (hne _ (.inr (.inr ⟨m,hm,rfl⟩)))];exact this.1,this.2⟩
def doV (X:List Nf) (op fl rec:Int) (v:Rc):Value:=.tuple #[.agg (enc (Qy X op fl rec v)).toArray,.int .i64 (Am X op fl rec)]
theorem agK {H:AH} {b:Nat} {X:List Nf} {den:Int} {ft:Nat→Prop} (hE:rO H.w0) (h:iV H b X den ft) (hX:lG X) (op fl rec:Int) (v:Rc) :
  aO Tryz.prog 62 #[.pointer (some ⟨b,0,none⟩),.agg #[.int .i64 op,.int .i64 fl,.int .i64 rec],.agg (enc v).toArray] H
   (fun u H'=>∃ zA,u=doV X op fl rec v∧iV H' b (Dn X op fl rec v) (Ik X op fl rec den) zA∧Keep H H' ft∧∀ x,zA x→ft x∨aG H x):=by
 have hd:=fun H1 (h1:iV H1 b X den ft)=>agJ h1 hX op fl rec v
 refine aO.cu Tryz.func62 rfl Tryz.ntmps62 Tryz.results62 (by simp) ?_;simp -dsimp(maxSteps:=4000000) only[au,ak,aB,aC,go_sem]
 refine bY.mk fun b4 jr=>?_;have aT:=jr;(try simp only[ah,aj,ne_eq]at aT);have aX:=aT;(try simp only[@eq_comm Nat b4]at aX);simp -dsimp(maxSteps:=4000000) only[au,ak,aB,aC,aT,aX,go_sem]
 refine bY.mk fun b5 iW=>?_;have bQ:=iW;(try simp only[ah,aj,ne_eq]at bQ);have dB:=bQ;(try simp only[@eq_comm Nat b5]at dB);simp -dsimp(maxSteps:=4000000) only[au,ak,aB,aC,aT,aX,bQ,dB,go_sem]
 refine bY.mk fun b6 jL=>?_;have bV:=jL;(try simp only[ah,aj,ne_eq]at bV);have dI:=bV;(try simp only[@eq_comm Nat b6]at dI);simp -dsimp(maxSteps:=4000000) only[au,ak,aB,aC,aT,aX,bQ,dB,bV,dI,go_sem]
 have hK0:Keep H (((H.add b4 (.cells [.int .i64 op,.int .i64 fl,.int .i64 rec] 138 3)).add b5 (.cells (enc v) 76 4)).add b6 (.cells [.int .u8 0,.int .u8 0,.int .u8 0,.int .u8 0] 76 4)) fun _=>False:=((Keep.refl.nw jr).nw iW).nw jL
 refine(hd _ (h.keep hK0 fun _ _ h=>h)).XW ?_
 rintro _ A ⟨ev,zA,rfl,hev,hst,hK,LZ⟩
 obtain⟨bm,ht⟩:=hst.find
 have acN:∀ {x},aG H x→¬ ft x:=fun hf=>h.fresh hf
 have h6:=hK.find (acN bV.2.2) (aH _ _ _)
 have n6:b6≠b:=fun e=>by rw[e,ht]at h6;simp at h6
 have f6:¬ zA b6:=fun hx=>by
  rcases LZ _ hx with hx | hx
  ·exact acN bV.2.2 hx
  ·have:=hx.2
   rw[dh,if_pos rfl]at this;cases this
 have qh:=(hK0.mono fun _ h=>h.elim).trans hK
 have hKT:Keep A ((((A.del b6).del b).add b6 (.cells [.int .u8 0,.int .u8 0,.int .u8 0,.int .u8 0] 76 4)).add b (.cells [.map (some bm),.int .i64 den] 113 2)) fun _=>False:=Keep.VZ h6 ht n6.symm
 have hwA:A.w0=H.w0:=qh.w0
 have fin:∀ {D T:AH} {w:List Value} {zL:Int},D=(A.del b6).del b→T=(D.add b6 (.cells w 76 4)).add b (.cells [.map (some bm),.int .i64 zL] 113 2)→iV T b (Dn X op fl rec v) zL zA∧Keep H T ft∧∀ x,zA x→ft x∨aG H x:=fun {D T w zL} hD hT=>by
  have hx:∀ x,x≠b→x≠b6→T.find x=A.find x:=fun x h1 h2=>by rw[hT,dh,if_neg h1,dh,if_neg h2,hD,iL,if_neg h1,iL,if_neg h2]
  refine⟨hst.den ht f6 (by rw[hT,aH]) hx,qh.then (Keep.iU (ex:=fun x=>x=b∨x=b6) (by rw[hT,hD];rfl) fun x hx'=>hx x (fun e=>hx' (.inl e)) fun e=>hx' (.inr e)) ?_,fun x hx=>(LZ x hx).imp id fun h=>hK0.fr h⟩
  rintro x (rfl | rfl)
  ·exact .inl h.self
  ·exact .inr bV.2.2
 refine⟨_,VZ h6 ht,?_⟩
 generalize hD:(A.del b6).del b=D at hKT fin ⊢
 have hDw:D.w0=H.w0:=by rw[←hD];exact hwA
 simp -dsimp(maxSteps:=4000000) only[au,ak,aB,aC,n6,n6.symm,aT,aX,bQ,dB,bV,dI,go_sem]
 refine bY.mk fun b8 lF=>?_
 have aQ:¬ b8=b∧¬ b8=b6∧aG D b8:=by simpa only[ah,ne_eq]using lF
 simp -dsimp(maxSteps:=4000000) only[aQ.1,aQ.2.1,Ne.symm aQ.1,Ne.symm aQ.2.1,au,ak,aB,aC,n6,n6.symm,aT,aX,bQ,dB,bV,dI,go_sem]
 have acO:=uU.keep (uU.keep hev hKT) (Keep.add (k:=.cells (enc (Qy X op fl rec v)) 76 4) lF)
 refine(agG acO (by decide)).mono ?_;rintro _ _ ⟨rfl,rfl⟩
 by_cases e5:Am X op fl rec=5
 ·have hd5:Ik X op fl rec den=IntKind.i64.wrap (den+1):=by rw[Ik,if_pos e5]
  rw[hd5]
  simp -dsimp(maxSteps:=4000000) only[e5,aQ.1,aQ.2.1,Ne.symm aQ.1,Ne.symm aQ.2.1,au,ak,aB,aC,n6,n6.symm,aT,aX,bQ,dB,bV,dI,go_sem]
  refine fZ.gen [.rd,.pu,.ch,.ch,.pu] [0,0,2,7,15] 3 (_) mixed (by kernel_rfl) (AH.le_refl _) ?_
  simp -dsimp(maxSteps:=4000000) only[aQ.1,aQ.2.1,Ne.symm aQ.1,Ne.symm aQ.2.1,au,ak,aB,aC,n6,n6.symm,aT,aX,bQ,dB,bV,dI,go_sem]
  have acP:aG ((D.add b6 (.cells [.int .u8 0,.int .u8 0,.int .u8 0,.int .u8 0] 76 4)).add b (.cells [.map (some bm),.int .i64 (IntKind.i64.wrap (den+1))] 113 2)) b8:=by simp only[ah,ne_eq,aQ.1,aQ.2.1,aQ.2.2,not_false_eq_true,and_self]
  refine(Jm (by simp only[KO,hDw];exact hE) (uU.keep (uU.over (uU.keep hev hKT)) (Keep.add acP))).mono ?_;rintro _ _ ⟨rfl,rfl⟩
  simp -dsimp(maxSteps:=4000000) only[aQ.1,aQ.2.1,Ne.symm aQ.1,Ne.symm aQ.2.1,au,ak,aB,aC,n6,n6.symm,aT,aX,bQ,dB,bV,dI,go_sem]
  obtain⟨f1,f2,f3⟩:=fin (D:=D) (T:=(D.add b6 (.cells (enc (Qy X op fl rec v)) 76 4)).add b (.cells [.map (some bm),.int .i64 (IntKind.i64.wrap (den+1))] 113 2)) rfl rfl
  exact⟨_,AH.aK (AH.le_refl _) (by rw[dh,if_neg aQ.1,dh,if_neg aQ.2.1];exact aQ.2.2.2),zA,rfl,f1,f2,f3⟩
 ·have hd5:Ik X op fl rec den=den:=by rw[Ik,if_neg e5]
  rw[hd5]
  simp -dsimp(maxSteps:=4000000) only[e5,aQ.1,aQ.2.1,Ne.symm aQ.1,Ne.symm aQ.2.1,au,ak,aB,aC,n6,n6.symm,aT,aX,bQ,dB,bV,dI,go_sem]
  refine fZ.gen [.rd,.pu,.ch,.ch,.pu] [0,0,2,7,15] 3 (_) mixed (by kernel_rfl) (AH.le_refl _) ?_
  simp -dsimp(maxSteps:=4000000) only[aQ.1,aQ.2.1,Ne.symm aQ.1,Ne.symm aQ.2.1,au,ak,aB,aC,n6,n6.symm,aT,aX,bQ,dB,bV,dI,go_sem]
  refine(Jm (by simp only[KO,hDw];exact hE) acO).mono ?_;rintro _ _ ⟨rfl,rfl⟩
  simp -dsimp(maxSteps:=4000000) only[aQ.1,aQ.2.1,Ne.symm aQ.1,Ne.symm aQ.2.1,au,ak,aB,aC,n6,n6.symm,aT,aX,bQ,dB,bV,dI,go_sem]
  obtain⟨f1,f2,f3⟩:=fin (D:=D) (T:=(D.add b6 (.cells (enc (Qy X op fl rec v)) 76 4)).add b (.cells [.map (some bm),.int .i64 den] 113 2)) rfl rfl
  exact⟨_,AH.aK (AH.le_refl _) (by rw[dh,if_neg aQ.1,dh,if_neg aQ.2.1];exact aQ.2.2.2),zA,rfl,f1,f2,f3⟩
end Go.Proofs.YtbhamhhjicehaaaGreatDoor.mF
/- ifs: Copy. -/
namespace Go.Proofs.YtbhamhhjicehaaaGreatDoor.mF
open Go Go.AX Go.Proofs Ty Go.Proofs.YtbhamhhjicehaaaGreatDoor.File Go.Proofs.YtbhamhhjicehaaaGreatDoor.Err
theorem SQ:∀ {l:List MapEntry} {ms:List MF},(l.map (·.born)).Nodup→l.map (fun x=>(x.key,x.val))=ms.map MF.ent→∃ g:MapEntry→MF,l.map g=ms∧∀ e∈l,(e.key,e.val)=(g e).ent
 | [],[],_,_=>⟨fun _=>⟨0,0,0,0,[]⟩,rfl,by simp⟩
 | [],_::_,_,h=>by simp at h
 |_::_,[],_,h=>by simp at h
 |e0::l,m0::ms,hd,h=>by
  simp only[List.map_cons,List.nodup_cons,List.mem_map,not_exists,not_and,List.cons.injEq]at hd h
  obtain⟨g,h1,h2⟩:=SQ hd.2 h.2
  refine⟨fun e=>if e.born=e0.born then m0 else g e,?_,fun e he=>?_⟩
  ·simp only[List.map_cons,if_true,List.cons.injEq,true_and]
   rw[←h1]
   exact List.map_congr_left fun e he=>if_neg fun hb=>hd.1 e he hb
  ·rcases List.mem_cons.1 he with rfl | he
   ·simp[h.1]
   ·simp only[if_neg fun hb=>hd.1 e he hb]
    exact h2 e he
theorem Wy {α β:Type} {f:α→β} {l:List α} (h:(l.map f).Nodup) {a b:α} (ha:a∈l) (hb:b∈l) (e:f a=f b):a=b:=by
 obtain⟨i,hi⟩:=List.mem_iff_getElem?.1 ha
 obtain⟨j,hj⟩:=List.mem_iff_getElem?.1 hb
 have h1:(l.map f)[i]?=some (f a):=by simp[hi]
 have h2:(l.map f)[j]?=some (f a):=by simp[hj,e]
 have:=(List.getElem?_inj (by simpa using Go.AX.dG hi) h).1 (h1.trans h2.symm)
 subst this
 rw[hi]at hj;cases hj;rfl
theorem GZ {H:AH} {b:Nat} {X:List Nf} {den:Int} {ft:Nat→Prop} (h:iV H b X den ft) (hX:lG X) :
  aO Tryz.prog 27 #[.pointer (some ⟨b,0,none⟩)] H (fun u H'=>∃ b' X' zA,u=.pointer (some ⟨b',0,none⟩)∧X'.Perm X∧iV H' b' X' den zA∧Keep H H' (fun _=>False)∧∀ x,zA x→aG H x):=by
 obtain⟨bm,ms,h1,rfl,hft⟩:=h
 have r0:H.rd ⟨b,0,none⟩=some (.map (some bm)):=by rw[gB h1.top];rfl
 have r1:H.rd ⟨b,1,none⟩=some (.int .i64 den):=by rw[gB h1.top];rfl
 refine aO.cu Tryz.func27 rfl Tryz.ntmps27 Tryz.results27 (by simp) ?_;simp -dsimp(maxSteps:=4000000) only[go_sem]
 refine bY.mk fun bn oG=>?_;have dL:=oG;(try simp only[ah,aj,ne_eq]at dL);have dR:=dL;(try simp only[@eq_comm Nat bn]at dR);simp -dsimp(maxSteps:=4000000) only[dL,dR,go_sem]
 have n1:¬ bn=b:=oG.cO h1.top
 have n2:¬ bn=bm:=oG.cO h1.map
 simp -dsimp(maxSteps:=4000000) only[r1,n1,dL,dR,go_sem]
 refine bY.mk fun bc SS=>?_;have tJ:=SS;(try simp only[ah,aj,ne_eq]at tJ);have Jv:=tJ;(try simp only[@eq_comm Nat bc]at Jv);simp -dsimp(maxSteps:=4000000) only[dL,dR,tJ,Jv,go_sem]
 have n3:¬ bc=b:=tJ.2.cO h1.top
 have n4:¬ bc=bm:=tJ.2.cO h1.map
 simp -dsimp(maxSteps:=4000000) only[r0,n1,n3,dL,dR,tJ,Jv,go_sem]
 refine RNG.map (es:=ms.map MF.ent) Tryz.underlying111 (by rw[dh,if_neg (Ne.symm n4),dh,if_neg (Ne.symm n2)];exact h1.map) fun en cl hm=>bY.mk fun bi Jw=>?_
 simp -dsimp(maxSteps:=4000000) only[dL,dR,tJ,Jv,go_sem]
 refine fZ.imp ?_
 obtain⟨g,hg1,hg2⟩:=SQ hm.2.2 hm.1
 have hkd:(en.toList.map fun e=>(g e).n).Nodup:=by
  have:=h1.kd
  rw[Kd,←hg1,List.map_map,List.map_map]at this
  exact this
 have hf0:(H.set bm (.obj (.map en cl))).find bm=some (.obj (.map en cl)):=by rw[dw,if_pos rfl]
 have hfr:∀ {x},aG H x→¬ x=bm→aG (H.set bm (.obj (.map en cl))) x:=fun h hn=>aG.mk' h hn
 have tK:¬ bi=bm∧¬ bi=bc∧¬ bi=bn∧aG H bi:=by simpa only[ah,aj,ne_eq]using Jw
 have hae:vW ((((H.set bm (.obj (.map en cl))).add bn (.gW [])).add bc (.cells [.map (some bn),.int .i64 den] 113 2)).add bi (.obj (.mapIter (some bm) cl #[] cl)))
   ((((H.add bn (.gW [])).add bc (.cells [.map (some bn),.int .i64 den] 113 2)).set bm (.obj (.map en cl))).add bi (.obj (.mapIter (some bm) cl #[] cl))):=⟨rfl,fun x=>by
  simp only[dh,dw]
  by_cases e1:x=bi
  ·simp[e1]
  by_cases e2:x=bm
  ·subst e2;simp[e1,Ne.symm n2,Ne.symm n4]
  ·simp[e1,e2]⟩
 have hK0:Keep (H.set bm (.obj (.map en cl))) ((((H.add bn (.gW [])).add bc (.cells [.map (some bn),.int .i64 den] 113 2)).set bm (.obj (.map en cl))).add bi (.obj (.mapIter (some bm) cl #[] cl))) fun _=>False:=
  (((Keep.refl.nw (hfr oG n2)).nw (by simp only[ah,ne_eq,tJ.1,not_false_eq_true,true_and];exact hfr tJ.2 n4)).nw (by simp only[ah,ne_eq,tK.2.1,tK.2.2.1,not_false_eq_true,true_and];exact hfr tK.2.2.2 tK.1)).trans (Keep.eq hae)
 refine fZ.jE (ι:=List MapEntry) (fun D A=>Rnd en cl D∧A.find bi=some (.obj (.mapIter (some bm) cl (D.map (·.born)).toArray cl))∧A.find bm=some (.obj (.map en cl))∧Keep (H.set bm (.obj (.map en cl))) A (fun _=>False)∧∃ ms',jT A bc bn ms' den∧ms'.map MF.nf=(D.map g).map MF.nf∧∀ x,sU bc bn ms' x→aG (H.set bm (.obj (.map en cl))) x)
  (fun D=>[(19,.pointer (some ⟨bi,0,none⟩)),(3,.pointer (some ⟨bc,0,none⟩))]) (fun D=>(left en D).length) [] _
  ⟨Rnd.nil hm.2,aH _ _ _,by rw[dh,if_neg (Ne.symm tK.1),dw,if_pos rfl],hK0,[],⟨?_,?_,by simp,by simp,by simp[Kd]⟩,rfl,?_⟩ (bZ.aS ?_) (AH.le_refl _) fun D A hV Q again out=>?_
 ·rw[dh,if_neg (Ne.symm tK.2.1),dw,if_neg n4,aH]
 ·rw[dh,if_neg (Ne.symm tK.2.2.1),dw,if_neg n2,dh,if_neg (Ne.symm tJ.1),aH];rfl
 ·rintro x (rfl | rfl | ⟨_,hx,_⟩)
  ·exact hfr tJ.2 n4
  ·exact hfr oG n2
  ·cases hx
 ·simp -dsimp(maxSteps:=4000000) only[dL,dR,tJ,Jv,go_sem]
 obtain⟨hR,hi,hmb,hK,ms',hS,hnf,LZ⟩:=hV
 simp -dsimp(maxSteps:=4000000) only[go_sem]
 refine NXT.map hi hmb hR.ok (fun hl=>?_) (fun e he=>?_)
 ·simp -dsimp(maxSteps:=4000000) only[go_sem]
  refine out _ _ _ (by simp) ?_
  refine⟨A.set bm (.gW (ms.map MF.ent)),NP.gW hmb hm rfl (fun x k hx hne=>by rw[dw,if_neg hne]at hx;exact hx) (fun k hk=>by rw[dw,if_pos rfl]at hk;exact(Option.some.inj hk).symm),?_⟩
  simp -dsimp(maxSteps:=4000000) only[go_sem]
  refine⟨_,AH.le_refl _,bc,(ms'.map MF.nf),sU bc bn ms',rfl,?_,⟨bn,ms',?_,rfl,fun _=>Iff.rfl⟩,?_,fun x hx=>?_⟩
  ·rw[hnf,←hg1]
   exact((hR.done hl).map g).map MF.nf
  ·exact hS.keep Keep.set fun x hx e=>by
    subst e
    have:=(LZ _ hx).2
    rw[dw,if_pos rfl]at this;cases this
  ·refine⟨hK.w0,fun x _ hx=>?_⟩
   by_cases e:x=bm
   ·subst e;rw[dw,if_pos rfl,h1.map]
   ·rw[dw,if_neg e,hK.at_ x (fun h=>h) (by rw[dw,if_neg e];exact hx),dw,if_neg e]
  ·have:=LZ x hx
   refine⟨this.1,?_⟩
   have h2:=this.2
   rw[dw]at h2
   split at h2
   ·cases h2
   ·exact h2
 ·obtain⟨hmem,hnb⟩:=Rnd.GU (cl:=cl) he
  have hge:=hg2 e hmem
  have hgm:g e∈ms:=by rw[←hg1];exact List.mem_map_of_mem hmem
  simp -dsimp(maxSteps:=4000000) only[go_sem]
  refine ENT.map (by rw[dw,if_pos rfl]) (by rw[dw,if_neg (Ne.symm tK.1)];exact hmb) hR.ok hmem ?_
  have hek:e.key=.int .i64 (g e).n:=(Prod.mk.inj hge).1
  have hev:e.val=.agg #[.int .i64 (g e).p,.slice (some ⟨(g e).blk,0,none⟩) (g e).R.length (g e).R.length]:=(Prod.mk.inj hge).2
  rw[hek,hev]
  simp -dsimp(maxSteps:=4000000) only[go_sem]
  have agM:aG (H.set bm (.obj (.map en cl))) bi:=hfr tK.2.2.2 tK.1
  have hS1:jT (A.set bi (.obj (.mapIter (some bm) cl ((D++[e]).map (·.born)).toArray cl))) bc bn ms' den:=hS.keep Keep.set fun x hx e=>by
   subst e
   rcases hx with rfl | rfl | ⟨m,hm',rfl⟩
   ·rw[hS.top]at hi;cases hi
   ·rw[hS.map]at hi;cases hi
   ·rw[(hS.rows m hm').1]at hi;cases hi
  have hK1:Keep (H.set bm (.obj (.map en cl))) (A.set bi (.obj (.mapIter (some bm) cl ((D++[e]).map (·.born)).toArray cl))) fun _=>False:=hK.ow Keep.set fun x hx=>hx▸agM
  have hi1:(A.set bi (.obj (.mapIter (some bm) cl ((D++[e]).map (·.born)).toArray cl))).find bi=some (.obj (.mapIter (some bm) cl ((D++[e]).map (·.born)).toArray cl)):=by rw[dw,if_pos rfl]
  have hm1:(A.set bi (.obj (.mapIter (some bm) cl ((D++[e]).map (·.born)).toArray cl))).find bm=some (.obj (.map en cl)):=by rw[dw,if_neg (Ne.symm tK.1)];exact hmb
  generalize A.set bi (.obj (.mapIter (some bm) cl ((D++[e]).map (·.born)).toArray cl))=A1 at hS1 hK1 hi1 hm1 ⊢
  obtain⟨hgr,hgb⟩:=h1.rows (g e) hgm
  have hrow1:A1.find (g e).blk=some (.cells ((g e).R.map enc).flatten 76 (g e).bs):=hK1.find (fun h=>h) (by rw[dw,if_neg (h1.ne3 hgm)];exact hgr)
  obtain⟨_,hgd,_⟩:=hX.ok (g e).nf (List.mem_map_of_mem hgm)
  obtain⟨hl1,hl2⟩:=l9 hgd
  have alL:1≤(g e).R.length:=hl1
  have alM:(g e).R.length≤256:=hl2
  have hs1:bG A1 4 (some ⟨(g e).blk,0,none⟩) (g e).R.length ((g e).R.map enc):=bG.iU hrow1 (lg _) (by simp) (by simp;omega)
  have hlk:lk (g e).n (ms'.map MF.nf)=none:=by
   rw[hnf,nU]
   intro x hx
   obtain⟨y,hy,rfl⟩:=List.mem_map.1 hx
   obtain⟨d,hd,rfl⟩:=List.mem_map.1 hy
   intro hne
   have:=Wy hkd (hR.sub d hd) hmem hne
   subst this
   exact hnb (List.mem_map_of_mem hd)
  have r0':A1.rd ⟨bc,0,none⟩=some (.map (some bn)):=by rw[gB hS1.top];rfl
  have acQ:A1.mp bn=some (ms'.map MF.ent):=by rw[AH.mp,hS1.map]
  have agN:∀ es,A1.xQ bn es=some (A1.set bn (.gW es)):=fun es=>by rw[AH.xQ,hS1.map]
  have hmk:zx (.int .i64) (.int .i64 (g e).n) (ms'.map MF.ent) 0=some none:=by
   rcases hS1.at_ (g e).n with ⟨h,_⟩ | ⟨_,_,_,_,_,h⟩
   ·exact h
   ·rw[hlk]at h;cases h
  have hown:=fun H1 (hs:bG H1 4 (some ⟨(g e).blk,0,none⟩) (g e).R.length ((g e).R.map enc))=>SK (g e).p (g e).R _ _ H1 hs (by omega) (by omega)
  unfold fv at hown
  refine bY.mk fun b5 iW=>?_;have bQ:=iW;(try simp only[ah,aj,ne_eq]at bQ);have dB:=bQ;(try simp only[@eq_comm Nat b5]at dB);simp -dsimp(maxSteps:=4000000) only[bQ,dB,go_sem]
  have m1:¬ b5=bc:=iW.cO hS1.top
  have m2:¬ b5=bn:=iW.cO hS1.map
  refine fZ.gen [.pu,.pu,.pu,.rd,.pu,.rd,.ch,.ch] [0,1,3,7,0,0,32,127] 7 (_) mixed (by kernel_rfl) (AH.le_refl _) ?_
  simp -dsimp(maxSteps:=4000000) only[r0',m1,m2,bQ,dB,go_sem]
  refine(hown _ (hs1.add iW)).mono ?_;rintro _ _ ⟨b9,bs,iI,rfl,hbs,rfl⟩
  have aU:=iI;(try simp only[ah,aj,ne_eq]at aU);have bH:=aU;(try simp only[@eq_comm Nat b9]at bH)
  have m3:¬ b9=bc:=aU.2.cO hS1.top
  have m4:¬ b9=bn:=aU.2.cO hS1.map
  simp -dsimp(maxSteps:=4000000) only[r0',m1,m2,m3,m4,acQ,agN,hmk,bQ,dB,aU,bH,go_sem]
  have hent:(MF.mk (g e).n (g e).p b9 bs (g e).R).ent=(.int .i64 (g e).n,.agg #[.int .i64 (g e).p,.slice (some ⟨b9,0,none⟩) (g e).R.length (g e).R.length]):=rfl
  have f9:aG (A1.set bn (.gW (ms'.map MF.ent++[(MF.mk (g e).n (g e).p b9 bs (g e).R).ent]))) b9:=aG.mk' aU.2 m4
  refine⟨AH.aK (AH.le_refl _) iI.2,again (D++[e]) _ ((A1.set bn (.gW (ms'.map MF.ent++[(MF.mk (g e).n (g e).p b9 bs (g e).R).ent]))).add b9 (.cells ((g e).R.map enc).flatten 76 bs)) _ ⟨hR.step he,?_,?_,?_,ms'++[MF.mk (g e).n (g e).p b9 bs (g e).R],hS1.app aU.2 hlk hbs rfl,?_,?_⟩ (bZ.aS (by simp -dsimp(maxSteps:=4000000) only[bQ,dB,aU,bH,go_sem])) ?_ (Rnd.less he)⟩
  ·rw[dh,if_neg (Ne.symm (aU.2.cO hi1)),dw,if_neg tK.2.2.1];exact hi1
  ·rw[dh,if_neg (Ne.symm (aU.2.cO hm1)),dw,if_neg (Ne.symm n2)];exact hm1
  ·exact(hK1.ow Keep.set fun x hx=>hx▸LZ bn (.inr (.inl rfl))).nw f9
  ·rw[List.map_append,hnf,List.map_append,List.map_append];rfl
  ·intro x hx
   rcases jT.ftA (ft:=sU bc bn ms') (fun _ h=>h) hx with hx | rfl
   ·exact LZ x hx
   ·exact hK1.fr aU.2
  ·refine AH.eU (aH _ _ _) (AH.aK (AH.aK (AH.le_refl _) ?_) ?_)
   ·rw[dw,if_neg m2];exact iW.2
   ·rw[dh,if_neg aU.1,dw,if_neg m4];exact aU.2.2
end Go.Proofs.YtbhamhhjicehaaaGreatDoor.mF
/- slices.Sorted over maps.Keys, by the library's contracts. -/
namespace Go.Proofs
open Go.RowKit Go.Maps Go.Sort Go.Shelf
shelf_lay_g SlLaysZI.n7 Ggz 7 at Tryz 45 as Tryz.keysA
shelf_lay_g SlLaysZI.n6 Ggz 6 at Tryz 44 as Tryz.sortedA
shelf_lay_g SlLaysM.n5 Slgm 5 at Tryz 88 as Tryz.sortA
theorem Tryz.sortsA (m:Nat):AnyZI.SortsIn Tryz.prog Tryz.sortedA_ren Fence.wide m:=
 ⟨fun blk off cap ss W hH hblk hsz=>callsIn_wide.2 (AnyM.slices_Sort_int Tryz.sortA blk off cap ss W hH hblk hsz),
 fun p cap W=>callsIn_wide.2 (AnyM.slices_Sort_int_none Tryz.sortA p cap W)⟩
theorem Tryz.Jy (w:World) (Bm b nn:Nat) (D0:DataW Unit) (R:Value→Option (DataW Unit×List MemPlace)) (hBm:Bm<w.heap.size) (hm:w.cell? ⟨Bm,0,none⟩=some (.map (some b))) (hown:w.ownsMap Tryz.prog 3 R b nn D0) (hmax:Maps.size D0≤maxLen) (hbytes:Maps.size D0*8≤140737488355328) :
  Calls Tryz.prog 44 #[.func (.func 89) #[] #[.pointer (some ⟨Bm,0,none⟩)]] w fun e w'=>∃ (v:Value) (ss:List Int),e=.returned v∧ss.Perm (intKeys D0)∧
   w'.ownsRow w.heap.size 3 1 v ss.length ((ss.mergeSort (fun x y=>decide (x≤y))).map encZ)∧(v=.slice none 0 0↔ss=[])∧Below w.heap.size w w':=by
 refine(callsIn_wide (n:=5)).1 ?_
 have hseq:SeqGives Fence.wide 2 Tryz.prog 89 #[.pointer (some ⟨Bm,0,none⟩)] encZ (fun ss=>ss.Perm (intKeys D0)) (Maps.size D0) w:=
  AnyZI.keys_gives (ρ:=Tryz.keysA_ren) { Tryz.keysA with } Fence.wide _ trivial rfl (by omega) Bm b nn D0 w hBm hm hown
 have cS:=AnyZI.sorted_in Tryz.sortedA Fence.wide 5 trivial trivial trivial trivial rfl (by omega) (Tryz.sortsA _) (enters_of Tryz.func88 (by kernel_rfl) rfl) 89 #[.pointer (some ⟨Bm,0,none⟩)] trivial (enters_of Tryz.func89 (by kernel_rfl) rfl) _ _ hmax hbytes _ hseq
 exact cS
end Go.Proofs
/- ifs: the sorted numbers of a store's files. -/
namespace Go.Proofs.YtbhamhhjicehaaaGreatDoor.mF
open Go Go.AX Go.RowKit Go.Proofs Ty Go.Proofs.YtbhamhhjicehaaaGreatDoor.File
theorem Sat.KU {E:Nat→Option Obj} {H:AH} {w w':World} {g e cap:Nat} {cs:List Value} {cur:Array Value} (h:Sat E H w) (hb:Below w.heap.size w w') (hg:w.heap.size≤g) (hc:w'.heap[g]?=some (.cells cur e (0,0))) (hs:cur.size=cap) (hp:cs <+: cur.toList) :
  Sat E (H.add g (.cells cs e cap)) w'∧aG H g:=by
 have h':=h.Bq hb
 have hfr:aG H g:=⟨Nat.le_trans h.below.size hg,by
  cases hf:H.find g with
  |none=>rfl
  |some k=>have:=(h.known _ _ hf).2.1;omega⟩
 refine⟨⟨h'.below,fun b k hk=>?_,fun b o ho=>?_⟩,hfr⟩
 ·rw[dh]at hk
  split at hk
  ·rename_i e1;subst e1;cases hk
   exact⟨hfr.1,(Array.getElem?_eq_some_iff.1 hc).1,cur,hc,hs,hp⟩
  ·exact h'.known _ _ hk
 ·obtain⟨q1,q2,q3⟩:=h.far b o ho
  have hlt:b<w.heap.size:=(Array.getElem?_eq_some_iff.1 q3).1
  have:=h'.far b o ho
  exact⟨this.1,by rw[dh,if_neg (by omega)];exact this.2.1,this.2.2⟩
theorem Zv {H:AH} (bm:Nat):aO Tryz.prog 45 #[.map (some bm)] H (fun v H'=>∃ bk,aG H bk∧v=.func (.func 89) #[] #[.pointer (some ⟨bk,0,none⟩)]∧H'=H.add bk (.cells [.map (some bm)] 111 1)):=by
 refine aO.cu Tryz.func45 rfl Tryz.ntmps45 Tryz.results45 (by simp) ?_;simp -dsimp(maxSteps:=4000000) only[go_sem]
 refine bY.mk fun bk PU=>?_;have SV:=PU;(try simp only[ah,aj,ne_eq]at SV);have Yj:=SV;(try simp only[@eq_comm Nat bk]at Yj);simp -dsimp(maxSteps:=4000000) only[SV,Yj,go_sem]
 exact⟨_,AH.le_refl _,bk,PU,rfl,rfl⟩
theorem PV (l:List Int):l.map encZ=(l.map fun k=>[Value.int .i64 k]).flatten:=by
 induction l with
 |nil=>rfl
 |cons x l ih=>simp only[List.map_cons,List.flatten_cons,List.singleton_append,ih]
def encI (k:Int):List Value:=[.int .i64 k]
theorem SX {H:AH} {bk bm t:Nat} {ms:List MF} (hbk:H.find bk=some (.cells [.map (some bm)] t 1)) (hbm:H.find bm=some (.gW (ms.map MF.ent))) (hkd:Kd (ms.map MF.nf)) (hn:∀ m∈ms,0≤m.n∧m.n<64) (hl:ms.length≤64) :
  aO Tryz.prog 44 #[.func (.func 89) #[] #[.pointer (some ⟨bk,0,none⟩)]] H
   (fun v H'=>∃ b c,∃ ks:List Int,v=.slice b ks.length c∧ks.Perm (ms.map (·.n))∧ks.Pairwise (·≤·)∧bG H' 1 b c (ks.map encI)∧Keep H H' (fun _=>False)∧∀ a,b=some a→aG H a.block):=fun E w hs=>by
 have hc:w.cell? ⟨bk,0,none⟩=some (.map (some bm)):=hs.rd (by rw[gB hbk];rfl)
 obtain⟨_,_,en,cl,hen,hm1,hm2⟩:=hs.known _ _ hbm
 have agO:=(hs.known _ _ hbk).2.1
 have hkeys:en.toList.map (·.key)=ms.map fun m=>Value.int .i64 m.n:=by
  have:en.toList.map (·.key)=(en.toList.map fun x=>(x.key,x.val)).map (·.1):=by rw[List.map_map];rfl
  rw[this,hm1,List.map_map];rfl
 have hlen:en.size=ms.length:=by
  have:=congrArg List.length hkeys
  simpa using this
 have hwf:∀ m∈ms,(Lit.int .i64 m.n).wf=true:=fun m hm=>by
  have:=hn m hm
  simp[Lit.wf,IntKind.min,IntKind.max,IntKind.signed,IntKind.bits];omega
 have hko:∀ x∈en.toList,∃ m∈ms,x.key=.int .i64 m.n:=fun x hx=>by
  have:x.key∈en.toList.map (·.key):=List.mem_map_of_mem hx
  rw[hkeys]at this
  obtain⟨m,hm,he⟩:=List.mem_map.1 this
  exact⟨m,hm,he.symm⟩
 have hrd:∀ x∈en.toList,∀ n,x.key=.int .i64 n→WideElems.rd (H:=Unit) Tryz.prog 3 (fun _=>some (.nil,[])) x=some (.int .i64 n,.nil):=fun x hx n hn'=>by
  obtain⟨m,hm,he⟩:=hko x hx
  rw[he]at hn';cases hn'
  have:=Maps.keyOf_int_mk (P:=Tryz.prog) Tryz.underlying3 (hwf m hm)
  simp only[WideElems.rd,he,this,Option.bind_some,Option.map_some]
 have hnd:(ms.map (·.n)).Nodup:=by
  have:=hkd
  rw[Kd,List.map_map]at this
  exact this
 have hfit:WideElems.Fit (H:=Unit) Tryz.prog 3 (fun _=>some (.nil,[])) en cl:=⟨Nat.le_trans (by omega) (show(64:Nat)≤maxLen by decide),⟨hm2.1,hm2.2,by
  rw[hkeys]
  have:(ms.map fun m=>Value.int .i64 m.n)=(ms.map (·.n)).map (Value.int .i64):=by rw[List.map_map];rfl
  rw[this]
  rw[List.Nodup,List.pairwise_map]
  exact hnd.imp fun h e=>h (by cases e;rfl)⟩,fun x hx=>by
  obtain⟨m,hm,he⟩:=hko x hx
  exact⟨_,hrd x hx m.n he⟩⟩
 have hown:w.ownsMap (H:=Unit) Tryz.prog 3 (fun _=>some (.nil,[])) bm en.size (.map ((en.toList.map (WideElems.rg Tryz.prog 3 (fun _=>some (.nil,[])))).foldr DataW.insert [])):=⟨en,cl,hen,hfit,Nat.le_refl _,rfl⟩
 have hperm:=WideShapes.sorted_perm (en.toList.map (WideElems.rg (H:=Unit) Tryz.prog 3 (fun _=>some (.nil,[]))))
 have hsize:Maps.size (DataW.map ((en.toList.map (WideElems.rg (H:=Unit) Tryz.prog 3 (fun _=>some (.nil,[])))).foldr DataW.insert []))=ms.length:=by
  rw[Maps.size_eq,hperm.length_eq,List.length_map,Array.length_toList,hlen]
 have hik:(intKeys (DataW.map ((en.toList.map (WideElems.rg (H:=Unit) Tryz.prog 3 (fun _=>some (.nil,[])))).foldr DataW.insert []))).Perm (ms.map (·.n)):=by
  refine(hperm.map _).trans ?_
  rw[List.map_map]
  have:en.toList.map ((fun p:Lit×DataW Unit=>_root_.Go.intOf p.1) ∘ WideElems.rg (H:=Unit) Tryz.prog 3 (fun _=>some (.nil,[])))=ms.map (·.n):=by
   have h2:en.toList.map ((fun p:Lit×DataW Unit=>_root_.Go.intOf p.1) ∘ WideElems.rg (H:=Unit) Tryz.prog 3 (fun _=>some (.nil,[])))=(en.toList.map (·.key)).map fun v=>match v with | .int _ n=>n | _=>0:=by
    rw[List.map_map]
    refine List.map_congr_left fun x hx=>?_
    obtain⟨m,hm,he⟩:=hko x hx
    simp only[Function.comp,WideElems.rg,hrd x hx m.n he,he,Option.getD_some]
    rfl
   rw[h2,hkeys,List.map_map];rfl
  rw[this]
 refine(Tryz.Jy w bk bm _ _ _ agO hc hown (by rw[hsize];exact Nat.le_trans hl (show(64:Nat)≤maxLen by decide)) (by rw[hsize];omega)).mono ?_
 rintro ev w' ⟨v,ss,rfl,hss,hrow,hnil,hbel⟩
 have hp1:(ss.mergeSort fun x y=>decide (x≤y)).Perm (ms.map (·.n)):=(List.mergeSort_perm _ _).trans (hss.trans hik)
 have hsorted:(ss.mergeSort fun x y=>decide (x≤y)).Pairwise (·≤·):=by
  have:=List.pairwise_mergeSort (le:=fun x y:Int=>decide (x≤y)) (fun a b c h1 h2=>by simp at *;omega) (fun a b=>by simp;omega) ss
  exact this.imp fun h=>by simpa using h
 have hlen2:(ss.mergeSort fun x y=>decide (x≤y)).length=ss.length:=List.length_mergeSort _
 obtain⟨hl1,hrow⟩:=hrow
 rcases hrow with ⟨rfl,h0⟩ | ⟨g,cap,cur,rfl,hg,hcur,hcl,_,hsz,htk⟩
 ·have:ss=[]:=List.eq_nil_of_length_eq_zero h0
  subst this
  exact⟨_,H,rfl,hs.Bq hbel,none,0,[],rfl,by simpa using hp1,.nil,bG.empty,Keep.refl,fun a ha=>by cases ha⟩
 ·obtain⟨q1,q2⟩:=Sat.KU (cs:=(ss.mergeSort fun x y=>decide (x≤y)).map encZ) (cap:=cap) hs hbel hg hcur (by rw[hsz,Nat.mul_one]) (by rw[←htk];exact List.take_prefix _ _)
  refine⟨_,_,rfl,q1,some ⟨g,0,none⟩,cap,ss.mergeSort fun x y=>decide (x≤y),by rw[hlen2],hp1,hsorted,?_,Keep.add q2,fun a ha=>by cases ha;exact q2⟩
  refine bG.iU (e:=3) (m:=cap) (by rw[aH,PV];rfl) (fun r hr=>?_) (by rw[List.length_map,hlen2];exact hcl) (by rw[List.length_map,hlen2,hss.length_eq,hik.length_eq,List.length_map];omega)
  obtain⟨k,_,rfl⟩:=List.mem_map.1 hr
  rfl
end Go.Proofs.YtbhamhhjicehaaaGreatDoor.mF
/- ifs: Files. -/
namespace Go.Proofs.YtbhamhhjicehaaaGreatDoor.mF
open Go Go.AX Go.Proofs Ty Go.Proofs.YtbhamhhjicehaaaGreatDoor.File
theorem lG.len {X:List Nf} (h:lG X):X.length≤64:=by
 have h1:(X.map fun x=>x.1.toNat).Nodup:=by
  have:(X.map fun x=>x.1.toNat)=(X.map (·.1)).map Int.toNat:=by rw[List.map_map];rfl
  rw[this,List.Nodup,List.pairwise_map]
  refine List.Pairwise.imp_of_mem ?_ h.kd
  intro a b ha hb hab e
  obtain⟨x,hx,rfl⟩:=List.mem_map.1 ha
  obtain⟨y,hy,rfl⟩:=List.mem_map.1 hb
  have:=(h.ok x hx).1;have:=(h.ok y hy).1
  exact hab (by omega)
 have:=uY (n:=64) h1 (fun k hk=>by
  obtain⟨x,hx,rfl⟩:=List.mem_map.1 hk
  have:=(h.ok x hx).1;omega)
 simpa using this
theorem WA (base:Option Addr) (n cap:Nat) (H:AH) (h:n≤cap) :
  aO Tryz.prog 47 #[.slice base n cap] H (fun v H'=>v=.slice base n n∧H=H'):=by
 refine aO.cu Tryz.func47 rfl Tryz.ntmps47 Tryz.results47 (by simp) ?_;simp -dsimp(maxSteps:=4000000) only[go_sem]
 have h':(n:Int)≤cap:=by omega
 simp -dsimp(maxSteps:=4000000) only[h',Int.le_refl,go_sem]
 exact⟨H,(AH.le_refl _),(by first | exact⟨rfl,rfl⟩ | rfl)⟩
def zOf (X:List Nf) (k:Int):Nf:=(k,(lk k X).getD (0,[]))
theorem WB {X:List Nf} (h:Kd X):(X.map (·.1)).map (zOf X)=X:=by
 rw[List.map_map]
 conv=>rhs;rw[←List.map_id X]
 refine List.map_congr_left fun x hx=>?_
 simp[zOf,LV h (f:=x.2) (n:=x.1) hx]
theorem SY {X:List Nf} (hX:Kd X) {Z:List RF} {ks:List Int} (hz:Z.map (·.n)=ks) (hl:∀ z∈Z,lk z.n X=some (z.p,z.R)) (hp:ks.Perm (X.map (·.1))) (hs:ks.Pairwise (·≤·)):(Z.map RF.nf).Perm X∧kK (Z.map RF.nf):=by
 have e:Z.map RF.nf=ks.map (zOf X):=by
  rw[←hz,List.map_map]
  refine List.map_congr_left fun z h=>?_
  simp[zOf,RF.nf,hl z h]
 refine⟨?_,?_⟩
 ·rw[e]
  have:=hp.map (zOf X)
  rwa [WB hX]at this
 ·have hnd:ks.Nodup:=hp.nodup_iff.2 hX
  have:ks.Pairwise (·<·):=by
   have:=List.Pairwise.and hs hnd
   exact this.imp fun⟨h1,h2⟩=>by omega
  rw[←hz,List.pairwise_map]at this
  rw[kK,List.pairwise_map]
  exact this
def acS (H1 A:AH) (base:Option Addr) (X:List Nf) (z:RF):Prop:=∃ zb bs,z.base=some ⟨zb,0,none⟩∧z.cap=z.R.length∧A.find zb=some (.cells (z.R.map enc).flatten 76 bs)∧z.R.length*4≤bs∧aG H1 zb∧(∀ a,base=some a→zb≠a.block)∧lk z.n X=some (z.p,z.R)
theorem NW {H:AH} {b:Nat} {X:List Nf} {den:Int} {ft:Nat→Prop} (h:iV H b X den ft) (hX:lG X) :
  aO Tryz.prog 16 #[.pointer (some ⟨b,0,none⟩)] H (fun u H'=>∃ base cap Z rd,u=.slice base (List.length Z) cap∧(Z.map RF.nf).Perm X∧kK (Z.map RF.nf)∧zJ H' base cap Z rd∧Keep H H' (fun _=>False)∧∀ x,rd x→aG H x):=by
 obtain⟨bm,ms,h1,rfl,hft⟩:=h
 have hlen:ms.length≤64:=by have:=hX.len;simpa using this
 have agP:∀ m∈ms,0≤m.n∧m.n<64:=fun m hm=>(hX.ok m.nf (List.mem_map_of_mem hm)).1
 have r0:H.rd ⟨b,0,none⟩=some (.map (some bm)):=by rw[gB h1.top];rfl
 refine aO.cu Tryz.func16 rfl Tryz.ntmps16 Tryz.results16 (by simp) ?_;simp -dsimp(maxSteps:=4000000) only[go_sem]
 simp -dsimp(maxSteps:=4000000) only[r0,go_sem]
 refine(Zv bm).mono ?_
 rintro _ _ ⟨bk,PU,rfl,rfl⟩
 simp -dsimp(maxSteps:=4000000) only[go_sem]
 have nk1:bk≠b:=PU.cO h1.top
 have nk2:bk≠bm:=PU.cO h1.map
 refine(SX (ms:=ms) (aH _ _ _) (by rw[dh,if_neg (Ne.symm nk2)];exact h1.map) h1.kd agP hlen).mono ?_
 rintro _ H1 ⟨kb,kc,ks,rfl,hperm,hsrt,hks,hK1,_⟩
 have hkl:ks.length=ms.length:=by rw[hperm.length_eq,List.length_map]
 have hK1':Keep H H1 fun _=>False:=(Keep.add PU).trans hK1
 have hS:=h1.keep hK1' fun _ _ h=>h
 have Zw:ks.Perm ((ms.map MF.nf).map (·.1)):=by rw[List.map_map];exact hperm
 simp -dsimp(maxSteps:=4000000) only[go_sem]
 refine fZ.jE (ι:=Nat×Option Addr×Nat×List RF) (fun s A=>s.1≤ks.length∧s.2.2.2.map (·.n)=ks.take s.1∧fJ H1 A 67 3 s.2.1 s.2.2.1 (s.2.2.2.map gK)∧(Keep H1 A fun _=>False)∧∀ z∈s.2.2.2,acS H1 A s.2.1 (ms.map MF.nf) z)
  (fun s=>[(15,.int .i64 s.1),(14,.int .i64 ks.length),(13,.slice kb ks.length kc),(3,.slice s.2.1 s.2.2.2.length s.2.2.1),(0,.pointer (some ⟨b,0,none⟩))]) (fun s=>ks.length - s.1) (0,none,0,[]) H1
  ⟨by simp,rfl,fJ.nil,Keep.refl,by simp⟩ (bZ.aS ?_) (AH.le_refl _) fun s A hV Q again out=>?_
 ·simp -dsimp(maxSteps:=4000000) only[go_sem]
 obtain⟨i,base,cap,Z⟩:=s
 obtain⟨hi,hz,hO,hK,hZ⟩:=hV
 dsimp only at hi hz hO hK hZ ⊢
 have Yk:Z.length=i:=by have:=congrArg List.length hz;rw[List.length_map,List.length_take]at this;omega
 have KJ:=hS.keep hK fun _ _ h=>h
 by_cases hlt:(i:Int)<ks.length
 case neg=>
  obtain rfl:i=ks.length:=by omega
  simp -dsimp(maxSteps:=4000000) only[hlt,go_sem]
  refine out _ _ _ (by simp) ?_
  simp -dsimp(maxSteps:=4000000) only[go_sem]
  refine(WA base Z.length cap _ (by have:=hO.le;simpa using this)).mono ?_;rintro _ _ ⟨rfl,rfl⟩
  simp -dsimp(maxSteps:=4000000) only[go_sem]
  rw[List.take_length]at hz
  obtain⟨p1,p2⟩:=SY h1.kd hz (fun z h=>by obtain⟨_,_,_,_,_,_,_,_,h⟩:=hZ z h;exact h) Zw hsrt
  refine⟨A,AH.le_refl _,base,Z.length,Z,fun x=>aG H x,rfl,p1,p2,⟨hO.slc.X3 (by simp),fun z hz=>?_,?_,fun z hz=>?_⟩,hK1'.trans hK,fun x hx=>hx⟩
  ·obtain⟨zb,bs,e1,e2,e3,e4,_⟩:=hZ z hz
   have:=hO.big
   rw[e1,e2]
   refine bG.iU e3 (lg _) (by simp) ?_
   obtain⟨_,_,_,_,_,_,_,_,hl⟩:=hZ z hz
   obtain⟨_,hgd,_⟩:=hX.lk hl
   have:=(l9 hgd).2
   dsimp only at this
   rw[List.length_map];omega
  ·cases hb:base with
   |none=>exact .inr fun a h=>by cases h
   |some a=>exact .inr fun a' h=>by cases h;exact hK1'.fr (hO.fresh a hb)
  ·obtain⟨zb,bs,e1,_,_,_,e5,_⟩:=hZ z hz
   exact .inr fun a h=>by rw[e1]at h;cases h;exact hK1'.fr e5
 obtain⟨k,hk⟩:=get_some (l:=ks) (i:=i) (by omega)
 have agQ:bG A 1 kb kc (ks.map encI):=hks.keep hK fun _ _ h=>h
 obtain⟨kb_,ko,rfl,_,hrd⟩:=agQ.get (Go.AX.dn (f:=encI) hk)
 have rk:=hrd 0 _ rfl
 simp only[Nat.add_zero,Nat.mul_one]at rk
 have hi0:(0:Int)≤(i:Int):=by omega
 have ee:=dA (i:=i) (by omega)
 have rA:A.rd ⟨b,0,none⟩=some (.map (some bm)):=by rw[gB KJ.top];rfl
 have hmp:A.mp bm=some (ms.map MF.ent):=by rw[AH.mp,KJ.map]
 obtain⟨m0,hm0,hmk⟩:=List.mem_map.1 (hperm.mem_iff.1 (List.mem_of_getElem? hk))
 rcases KJ.at_ k with ⟨_,hl⟩ | ⟨j,m,hm,hj,hn,hl⟩
 ·exact absurd (nU.1 hl m0.nf (List.mem_map_of_mem hm0)) (by simp[MF.nf,hmk])
 have hmem:=List.mem_of_getElem? hj
 obtain⟨_,hgd,_⟩:=hX.lk hl
 obtain⟨hl1,hl2⟩:=l9 hgd
 dsimp only at hl1 hl2
 have hs:=KJ.slc hmem (by omega)
 have hown:=fun H1 (hs:bG H1 4 (some ⟨m.blk,0,none⟩) m.R.length (m.R.map enc))=>SK m.p m.R _ _ H1 hs (by omega) (by omega)
 unfold fv at hown
 unfold MF.val fv at hm
 have acQ:A.mp bm=some (ms.map MF.ent):=hmp
 simp -dsimp(maxSteps:=4000000) only[hlt,hi0,rk,rA,hmp,hm,go_sem]
 refine(hown _ hs).mono ?_;rintro _ _ ⟨b9,bs,iI,rfl,hbs,rfl⟩
 have aU:=iI;(try simp only[ah,aj,ne_eq]at aU);have bH:=aU;(try simp only[@eq_comm Nat b9]at bH)
 simp -dsimp(maxSteps:=4000000) only[aU,bH,go_sem]
 refine bY.mk fun bl iR=>?_;have dH:=iR;(try simp only[ah,aj,ne_eq]at dH);have dP:=dH;(try simp only[@eq_comm Nat bl]at dP);simp -dsimp(maxSteps:=4000000) only[aU,bH,dH,dP,go_sem]
 let z:RF:=⟨k,m.p,some ⟨b9,0,none⟩,m.R.length,m.R⟩
 have akI:aG A bl:=dH.2
 have hO2:fJ H1 ((A.add b9 (.cells (m.R.map enc).flatten 76 bs)).add bl (.cells (gK z) 67 3)) 67 3 base cap (Z.map gK):=(hO.added iI).added iR
 have hK2:Keep H1 ((A.add b9 (.cells (m.R.map enc).flatten 76 bs)).add bl (.cells (gK z) 67 3)) fun _=>False:=(hK.nw iI).nw iR
 refine lS.nD (x:=.slice (some ⟨bl,0,none⟩) 1 1) (R':=[gK z]) (m:=1) hO2 hK2.all Ak rfl (by decide) (by rw[Tryz.underlying46];rfl) (by simp) rfl rfl (by rw[iF,fO];rfl) (by simp[gK]) (by simp[gK,iM]) (by omega) fun base' cap' A' kJ hK' hN'=>?_
 have agR:Keep A ((A.add b9 (.cells (m.R.map enc).flatten 76 bs)).add bl (.cells (gK z) 67 3)) fun _=>False:=(Keep.refl.nw iI).nw iR
 have step:∀ y:RF,∀ zb bs',y.base=some ⟨zb,0,none⟩→y.cap=y.R.length→((A.add b9 (.cells (m.R.map enc).flatten 76 bs)).add bl (.cells (gK z) 67 3)).find zb=some (.cells (y.R.map enc).flatten 76 bs')→y.R.length*4≤bs'→aG H1 zb→(∀ a,base=some a→zb≠a.block)→lk y.n (ms.map MF.nf)=some (y.p,y.R)→acS H1 A' base' (ms.map MF.nf) y:=fun y zb bs' e1 e2 e3 e4 e5 e6 e7=>by
  refine⟨zb,bs',e1,e2,hK'.find (fun⟨a,ha,hb⟩=>e6 a ha hb) e3,e4,e5,fun a ha hb=>?_,e7⟩
  rcases hN' a ha with ⟨a',h1,h2⟩ | h1
  ·exact e6 a' h1 (hb.trans h2)
  ·exact h1.cO e3 hb.symm
 refine⟨A',AH.le_refl _,?_⟩
 simp -dsimp(maxSteps:=4000000) only[ee,aU,bH,dH,dP,go_sem]
 refine again (i+1,base',cap',Z++[z]) _ A' _ ⟨by dsimp only;omega,?_,?_,hK2.ow hK' fun b ⟨a,ha,e⟩=>e▸hO.fresh a ha,fun y hy=>?_⟩ (bZ.aS ?_) (AH.le_refl _) (by dsimp only;omega)
 ·dsimp only
  rw[List.map_append,hz,List.take_add_one,hk];rfl
 ·dsimp only
  rw[List.map_append];exact kJ
 ·rcases List.mem_append.1 hy with hy | hy
  ·obtain⟨zb,bs',e1,e2,e3,e4,e5,e6,e7⟩:=hZ y hy
   exact step y zb bs' e1 e2 (agR.find (fun h=>h) e3) e4 e5 e6 e7
  ·rw[List.mem_singleton.1 hy]
   exact step z b9 bs rfl rfl (by rw[dh,if_neg (Ne.symm dH.1),aH]) hbs (hK.fr iI) (fun a ha e=>hO.ne iI a ha e.symm) hl
 ·simp only[List.length_append,List.length_singleton]
  simp -dsimp(maxSteps:=4000000) only[aU,bH,dH,dP,go_sem]
end Go.Proofs.YtbhamhhjicehaaaGreatDoor.mF
/- ifs: what a deed keeps; Set of nobody; few. -/
namespace Go.Proofs.YtbhamhhjicehaaaGreatDoor.mF
open Go Go.AX Go.Proofs Ty Go.Proofs.YtbhamhhjicehaaaGreatDoor.File Go.Proofs.YtbhamhhjicehaaaGreatDoor.Err
theorem WC {r:Rc} (h:nX r):nX (Dh.nextR r):=by
 have e:=X7 h
 obtain⟨x0,x1,x2,x3⟩:=r
 obtain⟨⟨a0,a1⟩,⟨b0,b1⟩,⟨c0,c1⟩,⟨d0,d1⟩⟩:=h
 dsimp only at a0 a1 b0 b1 c0 c1 d0 d1 e
 generalize Dh.nextR (x0,x1,x2,x3)=y at e ⊢
 obtain⟨y0,y1,y2,y3⟩:=y
 simp only[enc,List.cons.injEq,Value.int.injEq,true_and,and_true]at e
 obtain⟨rfl,rfl,rfl,rfl⟩:=e
 refine⟨?_,?_,?_,?_⟩<;>dsimp only<;>omega
theorem lG.do {X:List Nf} (h:lG X) (op fl rec:Int) {v:Rc} (hv:nX v):lG (Dn X op fl rec v):=by
 unfold Dn
 split
 ·rename_i e
  cases hl:mF.lk fl X with
  |none=>exact h
  |some f=>
   obtain⟨_,h2,h3⟩:=h.lk hl
   have hm:jJ f.1 f.2 op rec=0:=by
    unfold Am at e
    split at e
    ·cases e
    ·rw[hl]at e;exact e
   dsimp only[doF]
   unfold vX
   have hne:(op=1∨op=2)→rec.toNat≠0:=fun ho hr=>by
    obtain⟨g,o0,o1,r0,r1,_⟩:=GN hm
    have:rec=0:=by omega
    subst this
    rw[Fv g (by omega) (by omega) (by omega),if_neg (by omega)]at hm
    cases hm
   split
   ·rename_i ho
    refine h.rp hl (zI h2 (hne (.inl ho))) fun r hr=>?_
    rcases List.mem_or_eq_of_mem_set hr with hr | hr
    ·exact h3 r hr
    ·subst hr;exact hv
   split
   ·rename_i ho
    refine h.rp hl (zI h2 (hne (.inr ho))) fun r hr=>?_
    rcases List.mem_or_eq_of_mem_set hr with hr | hr
    ·exact h3 r hr
    ·subst hr
     refine WC ?_
     rw[List.getD_eq_getElem?_getD]
     cases hx:f.2[rec.toNat]? with
     |none=>exact⟨by decide,by decide,by decide,by decide⟩
     |some r=>exact h3 r (List.mem_of_getElem? hx)
   ·exact h.rp hl h2 h3
 ·exact h
end Go.Proofs.YtbhamhhjicehaaaGreatDoor.mF
