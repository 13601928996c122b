/- The parts Err, Err2, BA, BS, BF, BE, BN, BR, BP, BQ, BT, BM, BX, TP, ZA, TA, ZB, ZC, TC, TG, TS. -/
import Derived.Test.YtjhfkgpjcdbjaaaGreatDoorQ5
set_option maxRecDepth 100000
namespace Go.Proofs.YtjhfkgpjcdbjaaaGreatDoor
open Go.RowKit Go.Extern.Stop Go.Stop Go.Extern
namespace Er
theorem rlm(z:Sem Value)(f:TypeId->Addr->Nat->Nat->Sem Value)(v:Value):
  ReflectliteValue.method z f #[v]=(do match←ReflectliteValue.parts v with | none=>z | some (t,a,fl)=>f t a fl (fl%32)):=rfl
theorem rls(v x:Value):ReflectliteValue.set #[v,x]=(do
  let (some (dst,a,fl),some (src,b,_)):=(←ReflectliteValue.parts v,←ReflectliteValue.parts x)
   | unsupported (.noEntry "extern/(internal/reflectlite.Value).Set.zeroValue")
  if fl/ReflectliteValue.flagAddr%2==0 then unsupported (.noEntry "extern/(internal/reflectlite.Value).Set.unaddressable")
  let val←loadVar src b
  if←Rtype.directlyAssignable dst src then storeVar dst a val
  else if←Rtype.implements dst src then
   if(←Rtype.kind src)==20 then
    match val with
    | .nilIface=>unsupported (.noEntry "extern/reflectlite: a nil value of one interface type handed on as a value of another")
    | _=>storeVar dst a val
   else storeVar dst a (.iface src val)
  else panicString ("reflectlite.Set: value of type " ++(←Rtype.spelt src)++ " is not assignable to type " ++(←Rtype.spelt dst))
  pure (.tuple #[])):=rfl
theorem methodKind(h:Value)(w:World):(Go.method 375 180 (.agg #[h]) "Kind").run Tryz.prog w=.ok (174,h) w:=by kernel_rfl
theorem methodElem(h:Value)(w:World):(Go.method 375 180 (.agg #[h]) "Elem").run Tryz.prog w=.ok (191,.agg #[h]) w:=by kernel_rfl
theorem methodImplements(h:Value)(w:World):(Go.method 375 180 (.agg #[h]) "Implements").run Tryz.prog w=.ok (192,.agg #[h]) w:=by kernel_rfl
theorem methodAssignableTo(h:Value)(w:World):(Go.method 375 180 (.agg #[h]) "AssignableTo").run Tryz.prog w=.ok (189,.agg #[h]) w:=by kernel_rfl
theorem valueOfTF(t:Addr)(w:World):(ReflectliteValue.unpack (.iface 168 (.pointer (some t)))).run Tryz.prog w
  =.ok (.agg #[.pointer (some ⟨1,168,none⟩),.pointer (some ⟨w.heap.size,0,none⟩),.int .u64 150]) (w.alloc (.cells #[.pointer (some t)] 168)):=by kernel_rfl
theorem typeTF(a:Addr)(w:World):(ReflectliteValue.methodAny (ReflectliteValue.valueError "reflectlite.Value.Type" 0) (λt _ _ _=>ReflectliteType.toType t) #[.agg #[.pointer (some ⟨1,168,none⟩),.pointer (some a),.int .u64 150]]).run Tryz.prog w=.ok (.iface 180 (.agg #[.pointer (some ⟨1,168,none⟩)])) w:=by kernel_rfl
theorem kindTF(w:World):((ReflectliteType.abiMethod λt=>(λa:Nat=>Value.int IntKind.u8 (a:Int))<$>Rtype.kind t) #[.pointer (some ⟨1,168,none⟩)]).run Tryz.prog w=.ok (.int .u8 22) w:=by kernel_rfl
theorem kindF(w:World):((ReflectliteType.abiMethod λt=>(λa:Nat=>Value.int IntKind.u8 (a:Int))<$>Rtype.kind t) #[.pointer (some ⟨1,158,none⟩)]).run Tryz.prog w=.ok (.int .u8 22) w:=by kernel_rfl
theorem partsTF(a:Addr)(w:World):(ReflectliteValue.parts (.agg #[.pointer (some ⟨1,168,none⟩),.pointer (some a),.int .u64 150])).run Tryz.prog w=.ok (some (168,a,150)) w:=by kernel_rfl
theorem isNilTF(a p:Addr)(W:World)(ha:W.cell? a=some (.pointer (some p))):
  (ReflectliteValue.method (ReflectliteValue.valueError "reflectlite.Value.IsNil" 0) ReflectliteValue.isNil #[.agg #[.pointer (some ⟨1,168,none⟩),.pointer (some a),.int .u64 150]]).run Tryz.prog W=.ok (.bool false) W:=by
 rw[rlm]
 simp only[Sem.run_bind,partsTF,Result.andThen]
 simp[ReflectliteValue.isNil,loadVar,isAgg,underlying,Tryz.underlying168,ha,Result.andThen]
theorem elemTF(w:World):(ReflectliteType.method ReflectliteType.elem #[.agg #[.pointer (some ⟨1,168,none⟩)]]).run Tryz.prog w=.ok (.iface 180 (.agg #[.pointer (some ⟨1,158,none⟩)])) w:=by kernel_rfl
theorem implementsF(w:World):(ReflectliteType.relation "Implements" ReflectliteType.implements_ #[.agg #[.pointer (some ⟨1,158,none⟩)],.iface 180 (.agg #[.pointer (some ⟨1,45,none⟩)])]).run Tryz.prog w=.ok (.bool true) w:=by kernel_rfl
theorem typeOfF(v:Value)(w:World):(ReflectliteType.typeOf #[.iface 158 v]).run Tryz.prog w=.ok (.iface 180 (.agg #[.pointer (some ⟨1,158,none⟩)])) w:=by kernel_rfl
theorem assignableFF(w:World):(ReflectliteType.relation "AssignableTo" ReflectliteType.assignableTo #[.agg #[.pointer (some ⟨1,158,none⟩)],.iface 180 (.agg #[.pointer (some ⟨1,158,none⟩)])]).run Tryz.prog w=.ok (.bool true) w:=by kernel_rfl
theorem assignableEF(w:World):(ReflectliteType.relation "AssignableTo" ReflectliteType.assignableTo #[.agg #[.pointer (some ⟨1,57,none⟩)],.iface 180 (.agg #[.pointer (some ⟨1,158,none⟩)])]).run Tryz.prog w=.ok (.bool false) w:=by kernel_rfl
theorem valueOfF(e:Addr)(w:World):(ReflectliteValue.unpack (.iface 158 (.pointer (some e)))).run Tryz.prog w
  =.ok (.agg #[.pointer (some ⟨1,158,none⟩),.pointer (some ⟨w.heap.size,0,none⟩),.int .u64 150]) (w.alloc (.cells #[.pointer (some e)] 158)):=by kernel_rfl
theorem elemOfTF(w:World):(Rtype.elem? 168).run Tryz.prog w=.ok (some 158) w:=by kernel_rfl
theorem mkF(p:Addr)(w:World):(ReflectliteValue.mk 158 p ReflectliteValue.flagAddr).run Tryz.prog w=.ok (.agg #[.pointer (some ⟨1,158,none⟩),.pointer (some p),.int .u64 406]) w:=by kernel_rfl
theorem elemVTF(a p:Addr)(W:World)(ha:W.cell? a=some (.pointer (some p))):
  (ReflectliteValue.method (ReflectliteValue.valueError "reflectlite.Value.Elem" 0) ReflectliteValue.elem #[.agg #[.pointer (some ⟨1, 168, none⟩), .pointer (some a), .int .u64 150]]).run Tryz.prog W
   =.ok (.agg #[.pointer (some ⟨1,158,none⟩),.pointer (some p),.int .u64 406]) W:=by
 rw[rlm]
 simp only[Sem.run_bind,partsTF,Result.andThen]
 simp[ReflectliteValue.elem,loadVar,isAgg,underlying,Tryz.underlying168,ha,Result.andThen,elemOfTF,mkF]
theorem partsAF(a:Addr)(w:World):(ReflectliteValue.parts (.agg #[.pointer (some ⟨1,158,none⟩),.pointer (some a),.int .u64 406])).run Tryz.prog w=.ok (some (158,a,406)) w:=by kernel_rfl
theorem partsF(a:Addr)(w:World):(ReflectliteValue.parts (.agg #[.pointer (some ⟨1,158,none⟩),.pointer (some a),.int .u64 150])).run Tryz.prog w=.ok (some (158,a,150)) w:=by kernel_rfl
theorem directF(w:World):(Rtype.directlyAssignable 158 158).run Tryz.prog w=.ok true w:=by kernel_rfl
theorem setF(ta b:Addr)(e:Addr)(old:Value)(W:World)(hb:W.cell? b=some (.pointer (some e)))(ht:W.cell? ta=some old)(hf:W.frozen? ta=false):
  (ReflectliteValue.set #[.agg #[.pointer (some ⟨1, 158, none⟩), .pointer (some ta), .int .u64 406], .agg #[.pointer (some ⟨1, 158, none⟩), .pointer (some b), .int .u64 150]]).run Tryz.prog W
   =.ok (.tuple #[]) (W.setCell ta (.pointer (some e))):=by
 rw[rls]
 simp only[Sem.run_bind,partsAF,partsF,Result.andThen]
 simp[ReflectliteValue.flagAddr,loadVar,isAgg,underlying,Tryz.underlying158,hb,Result.andThen,directF,storeVar,Value.cells,storeCells,Addr.add]
 rw[run_store Tryz.prog W ta _ _ (by rfl)]
 simp[ht,hf]
theorem valueOfTE(t:Addr)(w:World):(ReflectliteValue.unpack (.iface 169 (.pointer (some t)))).run Tryz.prog w
  =.ok (.agg #[.pointer (some ⟨1,169,none⟩),.pointer (some ⟨w.heap.size,0,none⟩),.int .u64 150]) (w.alloc (.cells #[.pointer (some t)] 169)):=by kernel_rfl
theorem typeTE(a:Addr)(w:World):(ReflectliteValue.methodAny (ReflectliteValue.valueError "reflectlite.Value.Type" 0) (λt _ _ _=>ReflectliteType.toType t) #[.agg #[.pointer (some ⟨1,169,none⟩),.pointer (some a),.int .u64 150]]).run Tryz.prog w=.ok (.iface 180 (.agg #[.pointer (some ⟨1,169,none⟩)])) w:=by kernel_rfl
theorem kindTE(w:World):((ReflectliteType.abiMethod λt=>(λa:Nat=>Value.int IntKind.u8 (a:Int))<$>Rtype.kind t) #[.pointer (some ⟨1,169,none⟩)]).run Tryz.prog w=.ok (.int .u8 22) w:=by kernel_rfl
theorem kindE(w:World):((ReflectliteType.abiMethod λt=>(λa:Nat=>Value.int IntKind.u8 (a:Int))<$>Rtype.kind t) #[.pointer (some ⟨1,57,none⟩)]).run Tryz.prog w=.ok (.int .u8 2) w:=by kernel_rfl
theorem partsTE(a:Addr)(w:World):(ReflectliteValue.parts (.agg #[.pointer (some ⟨1,169,none⟩),.pointer (some a),.int .u64 150])).run Tryz.prog w=.ok (some (169,a,150)) w:=by kernel_rfl
theorem isNilTE(a p:Addr)(W:World)(ha:W.cell? a=some (.pointer (some p))):
  (ReflectliteValue.method (ReflectliteValue.valueError "reflectlite.Value.IsNil" 0) ReflectliteValue.isNil #[.agg #[.pointer (some ⟨1,169,none⟩),.pointer (some a),.int .u64 150]]).run Tryz.prog W=.ok (.bool false) W:=by
 rw[rlm]
 simp only[Sem.run_bind,partsTE,Result.andThen]
 simp[ReflectliteValue.isNil,loadVar,isAgg,underlying,Tryz.underlying169,ha,Result.andThen]
theorem elemTE(w:World):(ReflectliteType.method ReflectliteType.elem #[.agg #[.pointer (some ⟨1,169,none⟩)]]).run Tryz.prog w=.ok (.iface 180 (.agg #[.pointer (some ⟨1,57,none⟩)])) w:=by kernel_rfl
theorem implementsE(w:World):(ReflectliteType.relation "Implements" ReflectliteType.implements_ #[.agg #[.pointer (some ⟨1,57,none⟩)],.iface 180 (.agg #[.pointer (some ⟨1,45,none⟩)])]).run Tryz.prog w=.ok (.bool true) w:=by kernel_rfl
theorem typeOfE(v:Value)(w:World):(ReflectliteType.typeOf #[.iface 57 v]).run Tryz.prog w=.ok (.iface 180 (.agg #[.pointer (some ⟨1,57,none⟩)])) w:=by kernel_rfl
theorem assignableFE(w:World):(ReflectliteType.relation "AssignableTo" ReflectliteType.assignableTo #[.agg #[.pointer (some ⟨1,158,none⟩)],.iface 180 (.agg #[.pointer (some ⟨1,57,none⟩)])]).run Tryz.prog w=.ok (.bool false) w:=by kernel_rfl
theorem assignableEE(w:World):(ReflectliteType.relation "AssignableTo" ReflectliteType.assignableTo #[.agg #[.pointer (some ⟨1,57,none⟩)],.iface 180 (.agg #[.pointer (some ⟨1,57,none⟩)])]).run Tryz.prog w=.ok (.bool true) w:=by kernel_rfl
theorem valueOfE(n:Int)(w:World):(ReflectliteValue.unpack (.iface 57 (.int .i64 n))).run Tryz.prog w
  =.ok (.agg #[.pointer (some ⟨1,57,none⟩),.pointer (some ⟨w.heap.size,0,none⟩),.int .u64 130]) (w.alloc (.cells #[.int .i64 n] 57)):=by kernel_rfl
theorem elemOfTE(w:World):(Rtype.elem? 169).run Tryz.prog w=.ok (some 57) w:=by kernel_rfl
theorem mkE(p:Addr)(w:World):(ReflectliteValue.mk 57 p ReflectliteValue.flagAddr).run Tryz.prog w=.ok (.agg #[.pointer (some ⟨1,57,none⟩),.pointer (some p),.int .u64 386]) w:=by kernel_rfl
theorem elemVTE(a p:Addr)(W:World)(ha:W.cell? a=some (.pointer (some p))):
  (ReflectliteValue.method (ReflectliteValue.valueError "reflectlite.Value.Elem" 0) ReflectliteValue.elem #[.agg #[.pointer (some ⟨1, 169, none⟩), .pointer (some a), .int .u64 150]]).run Tryz.prog W
   =.ok (.agg #[.pointer (some ⟨1,57,none⟩),.pointer (some p),.int .u64 386]) W:=by
 rw[rlm]
 simp only[Sem.run_bind,partsTE,Result.andThen]
 simp[ReflectliteValue.elem,loadVar,isAgg,underlying,Tryz.underlying169,ha,Result.andThen,elemOfTE,mkE]
theorem partsAE(a:Addr)(w:World):(ReflectliteValue.parts (.agg #[.pointer (some ⟨1,57,none⟩),.pointer (some a),.int .u64 386])).run Tryz.prog w=.ok (some (57,a,386)) w:=by kernel_rfl
theorem partsE(a:Addr)(w:World):(ReflectliteValue.parts (.agg #[.pointer (some ⟨1,57,none⟩),.pointer (some a),.int .u64 130])).run Tryz.prog w=.ok (some (57,a,130)) w:=by kernel_rfl
theorem directE(w:World):(Rtype.directlyAssignable 57 57).run Tryz.prog w=.ok true w:=by kernel_rfl
theorem setE(ta b:Addr)(n:Int)(old:Value)(W:World)(hb:W.cell? b=some (.int .i64 n))(ht:W.cell? ta=some old)(hf:W.frozen? ta=false):
  (ReflectliteValue.set #[.agg #[.pointer (some ⟨1, 57, none⟩), .pointer (some ta), .int .u64 386], .agg #[.pointer (some ⟨1, 57, none⟩), .pointer (some b), .int .u64 130]]).run Tryz.prog W
   =.ok (.tuple #[]) (W.setCell ta (.int .i64 n)):=by
 rw[rls]
 simp only[Sem.run_bind,partsAE,partsE,Result.andThen]
 simp[ReflectliteValue.flagAddr,loadVar,isAgg,underlying,Tryz.underlying57,hb,Result.andThen,directE,storeVar,Value.cells,storeCells,Addr.add]
 rw[run_store Tryz.prog W ta _ _ (by rfl)]
 simp[ht,hf]
theorem noAsF(v:Value)(xT:TypeId)(w:World):(Instr.typeAssert (.iface 158 v) xT 221 true).run Tryz.prog w=.ok (.tuple #[.nilIface,.bool false]) w:=run_typeAssert_lacksB Tryz.underlying221 zk zk v xT w
theorem hasUnF(v:Value)(xT:TypeId)(w:World):(Instr.typeAssert (.iface 158 v) xT 185 true).run Tryz.prog w=.ok (.tuple #[.iface 158 v,.bool true]) w:=run_typeAssert_hasB Tryz.underlying185 zk v xT w
theorem noAsE(v:Value)(xT:TypeId)(w:World):(Instr.typeAssert (.iface 57 v) xT 221 true).run Tryz.prog w=.ok (.tuple #[.nilIface,.bool false]) w:=run_typeAssert_lacksB Tryz.underlying221 zk zk v xT w
theorem noUnE(v:Value)(xT:TypeId)(w:World):(Instr.typeAssert (.iface 57 v) xT 185 true).run Tryz.prog w=.ok (.tuple #[.nilIface,.bool false]) w:=run_typeAssert_lacksB Tryz.underlying185 zk zk v xT w
theorem noUnsE(v:Value)(xT:TypeId)(w:World):(Instr.typeAssert (.iface 57 v) xT 187 true).run Tryz.prog w=.ok (.tuple #[.nilIface,.bool false]) w:=run_typeAssert_lacksB Tryz.underlying187 zk zk v xT w
theorem methodUnwrap(v:Value)(w:World):(Go.method 375 158 v "Unwrap").run Tryz.prog w=.ok (186,v) w:=by kernel_rfl
set_option maxHeartbeats 4000000 in
theorem as_FF(e:Addr)(t:Addr)(old:Value)(w:World)(hg:w.cell? ⟨0,0,none⟩=some (.iface 180 (.agg #[.pointer (some ⟨1,45,none⟩)])))(ht0:w.cell? t=some old)(hf0:w.frozen? t=false):
  Calls Tryz.prog 99 #[.iface 158 (.pointer (some e)),.iface 168 (.pointer (some t))] w λev w'=>ev=.returned (.bool true)/\w'=((((w.alloc (.cells #[.pointer (some t)] 168)).alloc (.cells #[.pointer (some ⟨1,168,none⟩),.pointer (some ⟨w.heap.size,0,none⟩),.int .u64 150] 199)).alloc (.cells #[.pointer (some ⟨1,168,none⟩),.pointer (some ⟨w.heap.size,0,none⟩),.int .u64 150] 199)).alloc (.cells #[.pointer (some e)] 158)).setCell t (.pointer (some e)):=by
 have hVO:=@run_callFunc_extern Tryz.prog 115 _ (λargs=>ReflectliteValue.unpack (args.getD 0 (.tuple #[]))) Tryz.func115 zk zk zk zk
 have hTy:=@run_callFunc_extern Tryz.prog 116 _ (ReflectliteValue.methodAny (ReflectliteValue.valueError "reflectlite.Value.Type" 0) (λt _ _ _=>ReflectliteType.toType t)) Tryz.func116 zk zk zk zk
 have hIN:=@run_callFunc_extern Tryz.prog 117 _ (ReflectliteValue.method (ReflectliteValue.valueError "reflectlite.Value.IsNil" 0) ReflectliteValue.isNil) Tryz.func117 zk zk zk zk
 have hKi:=@run_callFunc_extern Tryz.prog 174 _ (ReflectliteType.abiMethod λt=>do pure (.int .u8 (←Rtype.kind t))) Tryz.func174 zk zk zk zk
 have hEl:=@run_callFunc_extern Tryz.prog 191 _ (ReflectliteType.method ReflectliteType.elem) Tryz.func191 zk zk zk zk
 have hIm:=@run_callFunc_extern Tryz.prog 192 _ (ReflectliteType.relation "Implements" ReflectliteType.implements_) Tryz.func192 zk zk zk zk
 have hTO:=@run_callFunc_extern Tryz.prog 91 _ ReflectliteType.typeOf Tryz.func91 zk zk zk zk
 have hAT:=@run_callFunc_extern Tryz.prog 189 _ (ReflectliteType.relation "AssignableTo" ReflectliteType.assignableTo) Tryz.func189 zk zk zk zk
 have hEV:=@run_callFunc_extern Tryz.prog 137 _ (ReflectliteValue.method (ReflectliteValue.valueError "reflectlite.Value.Elem" 0) ReflectliteValue.elem) Tryz.func137 zk zk zk zk
 have hSe:=@run_callFunc_extern Tryz.prog 138 _ ReflectliteValue.set Tryz.func138 zk zk zk zk
 have xvalueOfTF:=valueOfTF
 have xtypeTF:=typeTF
 have xmethodKind:=methodKind
 have xmethodElem:=methodElem
 have xmethodImplements:=methodImplements
 have xmethodAssignableTo:=methodAssignableTo
 have xkindTF:=kindTF
 have xkindF:=kindF
 have xelemTF:=elemTF
 have ximplementsF:=implementsF
 have xvalueOfF:=valueOfF
 have xtypeOfF:=typeOfF
 have xassignableFF:=assignableFF
 have xnoAsF:=noAsF
 have xhasUnF:=hasUnF
 have xtypeOfE:=typeOfE
 have xassignableEF:=assignableEF
 have xnoAsE:=noAsE
 have xnoUnE:=noUnE
 have xnoUnsE:=noUnsE
 have n8:=isNilTF ⟨w.heap.size,0,none⟩ t ((w.alloc (.cells #[.pointer (some t)] 168)).alloc (.cells #[.pointer (some ⟨1,168,none⟩),.pointer (some ⟨w.heap.size,0,none⟩),.int .u64 150] 199)) (by simp)
 have hlt:0<w.heap.size:=by
  rcases Nat.eq_zero_or_pos w.heap.size with h0 | h
  ·simp[World.cell?,h0] at hg
  ·exact h
 have hg2:((w.alloc (.cells #[.pointer (some t)] 168)).alloc (.cells #[.pointer (some ⟨1,168,none⟩),.pointer (some ⟨w.heap.size,0,none⟩),.int .u64 150] 199)).cell? ⟨0,0,none⟩=some (.iface 180 (.agg #[.pointer (some ⟨1,45,none⟩)])):=by
  rw[World.cell?_alloc_lt _ _ ⟨0,0,none⟩ (by simp),World.cell?_alloc_lt _ _ ⟨0,0,none⟩ hlt];exact hg
 have htl:t.block<w.heap.size:=by
  rcases Nat.lt_or_ge t.block w.heap.size with h | h
  ·exact h
  ·simp[World.cell?,Array.getElem?_eq_none h] at ht0
 have el:=elemVTF ⟨w.heap.size,0,none⟩ t (((w.alloc (.cells #[.pointer (some t)] 168)).alloc (.cells #[.pointer (some ⟨1,168,none⟩),.pointer (some ⟨w.heap.size,0,none⟩),.int .u64 150] 199)).alloc (.cells #[.pointer (some ⟨1,168,none⟩),.pointer (some ⟨w.heap.size,0,none⟩),.int .u64 150] 199)) (by rw[World.cell?_alloc_lt _ _ ⟨w.heap.size,0,none⟩ (by simp;omega)];simp)
 have st:=setF t ⟨w.heap.size+1+1+1,0,none⟩ e old (((((w.alloc (.cells #[.pointer (some t)] 168)).alloc (.cells #[.pointer (some ⟨1,168,none⟩),.pointer (some ⟨w.heap.size,0,none⟩),.int .u64 150] 199)).alloc (.cells #[.pointer (some ⟨1,168,none⟩),.pointer (some ⟨w.heap.size,0,none⟩),.int .u64 150] 199)).alloc (.cells #[.pointer (some e)] 158)))
  (by rw[World.cell?_alloc_at _ _ _ _ (by simp)];rfl)
  (by rw[World.cell?_alloc_lt _ _ t (by simp;omega),World.cell?_alloc_lt _ _ t (by simp;omega),World.cell?_alloc_lt _ _ t (by simp;omega),World.cell?_alloc_lt _ _ t htl];exact ht0)
  (by rw[World.frozen?_alloc_old _ _ t (by simp;omega),World.frozen?_alloc_old _ _ t (by simp;omega),World.frozen?_alloc_old _ _ t (by simp;omega),World.frozen?_alloc_old _ _ t (Nat.ne_of_lt htl)];exact hf0)
 go_enter Tryz.func99,Tryz.ntmps99
 go_wp2
 refine wp_loop_rounds 1 ?_
 rw[rounds_succ]
 go_wp2
 go_ret
 exact⟨rfl,rfl⟩
set_option maxHeartbeats 4000000 in
theorem as_FE(n:Int)(g o:Nat)(t:Addr)(old:Value)(w:World)(hg:w.cell? ⟨0,0,none⟩=some (.iface 180 (.agg #[.pointer (some ⟨1,45,none⟩)])))(ht0:w.cell? t=some old)(hf0:w.frozen? t=false)(he:w.cell? ⟨g,o+2,none⟩=some (.iface 57 (.int .i64 n))):
  Calls Tryz.prog 99 #[.iface 158 (.pointer (some ⟨g,o,none⟩)),.iface 169 (.pointer (some t))] w λev w'=>ev=.returned (.bool true)/\w'=((((w.alloc (.cells #[.pointer (some t)] 169)).alloc (.cells #[.pointer (some ⟨1,169,none⟩),.pointer (some ⟨w.heap.size,0,none⟩),.int .u64 150] 199)).alloc (.cells #[.pointer (some ⟨1,169,none⟩),.pointer (some ⟨w.heap.size,0,none⟩),.int .u64 150] 199)).alloc (.cells #[.int .i64 n] 57)).setCell t (.int .i64 n):=by
 have hVO:=@run_callFunc_extern Tryz.prog 115 _ (λargs=>ReflectliteValue.unpack (args.getD 0 (.tuple #[]))) Tryz.func115 zk zk zk zk
 have hTy:=@run_callFunc_extern Tryz.prog 116 _ (ReflectliteValue.methodAny (ReflectliteValue.valueError "reflectlite.Value.Type" 0) (λt _ _ _=>ReflectliteType.toType t)) Tryz.func116 zk zk zk zk
 have hIN:=@run_callFunc_extern Tryz.prog 117 _ (ReflectliteValue.method (ReflectliteValue.valueError "reflectlite.Value.IsNil" 0) ReflectliteValue.isNil) Tryz.func117 zk zk zk zk
 have hKi:=@run_callFunc_extern Tryz.prog 174 _ (ReflectliteType.abiMethod λt=>do pure (.int .u8 (←Rtype.kind t))) Tryz.func174 zk zk zk zk
 have hEl:=@run_callFunc_extern Tryz.prog 191 _ (ReflectliteType.method ReflectliteType.elem) Tryz.func191 zk zk zk zk
 have hIm:=@run_callFunc_extern Tryz.prog 192 _ (ReflectliteType.relation "Implements" ReflectliteType.implements_) Tryz.func192 zk zk zk zk
 have hTO:=@run_callFunc_extern Tryz.prog 91 _ ReflectliteType.typeOf Tryz.func91 zk zk zk zk
 have hAT:=@run_callFunc_extern Tryz.prog 189 _ (ReflectliteType.relation "AssignableTo" ReflectliteType.assignableTo) Tryz.func189 zk zk zk zk
 have hEV:=@run_callFunc_extern Tryz.prog 137 _ (ReflectliteValue.method (ReflectliteValue.valueError "reflectlite.Value.Elem" 0) ReflectliteValue.elem) Tryz.func137 zk zk zk zk
 have hSe:=@run_callFunc_extern Tryz.prog 138 _ ReflectliteValue.set Tryz.func138 zk zk zk zk
 have xvalueOfTE:=valueOfTE
 have xtypeTE:=typeTE
 have xmethodKind:=methodKind
 have xmethodElem:=methodElem
 have xmethodImplements:=methodImplements
 have xmethodAssignableTo:=methodAssignableTo
 have xkindTE:=kindTE
 have xkindE:=kindE
 have xelemTE:=elemTE
 have ximplementsE:=implementsE
 have xvalueOfE:=valueOfE
 have xtypeOfF:=typeOfF
 have xassignableFE:=assignableFE
 have xnoAsF:=noAsF
 have xhasUnF:=hasUnF
 have xtypeOfE:=typeOfE
 have xassignableEE:=assignableEE
 have xnoAsE:=noAsE
 have xnoUnE:=noUnE
 have xnoUnsE:=noUnsE
 have xmethodUnwrap:=methodUnwrap
 have n8:=isNilTE ⟨w.heap.size,0,none⟩ t ((w.alloc (.cells #[.pointer (some t)] 169)).alloc (.cells #[.pointer (some ⟨1,169,none⟩),.pointer (some ⟨w.heap.size,0,none⟩),.int .u64 150] 199)) (by simp)
 have hlt:0<w.heap.size:=by
  rcases Nat.eq_zero_or_pos w.heap.size with h0 | h
  ·simp[World.cell?,h0] at hg
  ·exact h
 have hg2:((w.alloc (.cells #[.pointer (some t)] 169)).alloc (.cells #[.pointer (some ⟨1,169,none⟩),.pointer (some ⟨w.heap.size,0,none⟩),.int .u64 150] 199)).cell? ⟨0,0,none⟩=some (.iface 180 (.agg #[.pointer (some ⟨1,45,none⟩)])):=by
  rw[World.cell?_alloc_lt _ _ ⟨0,0,none⟩ (by simp),World.cell?_alloc_lt _ _ ⟨0,0,none⟩ hlt];exact hg
 have htl:t.block<w.heap.size:=by
  rcases Nat.lt_or_ge t.block w.heap.size with h | h
  ·exact h
  ·simp[World.cell?,Array.getElem?_eq_none h] at ht0
 have el:=elemVTE ⟨w.heap.size,0,none⟩ t (((w.alloc (.cells #[.pointer (some t)] 169)).alloc (.cells #[.pointer (some ⟨1,169,none⟩),.pointer (some ⟨w.heap.size,0,none⟩),.int .u64 150] 199)).alloc (.cells #[.pointer (some ⟨1,169,none⟩),.pointer (some ⟨w.heap.size,0,none⟩),.int .u64 150] 199)) (by rw[World.cell?_alloc_lt _ _ ⟨w.heap.size,0,none⟩ (by simp;omega)];simp)
 have st:=setE t ⟨w.heap.size+1+1+1,0,none⟩ n old (((((w.alloc (.cells #[.pointer (some t)] 169)).alloc (.cells #[.pointer (some ⟨1,169,none⟩),.pointer (some ⟨w.heap.size,0,none⟩),.int .u64 150] 199)).alloc (.cells #[.pointer (some ⟨1,169,none⟩),.pointer (some ⟨w.heap.size,0,none⟩),.int .u64 150] 199)).alloc (.cells #[.int .i64 n] 57)))
  (by rw[World.cell?_alloc_at _ _ _ _ (by simp)];rfl)
  (by rw[World.cell?_alloc_lt _ _ t (by simp;omega),World.cell?_alloc_lt _ _ t (by simp;omega),World.cell?_alloc_lt _ _ t (by simp;omega),World.cell?_alloc_lt _ _ t htl];exact ht0)
  (by rw[World.frozen?_alloc_old _ _ t (by simp;omega),World.frozen?_alloc_old _ _ t (by simp;omega),World.frozen?_alloc_old _ _ t (by simp;omega),World.frozen?_alloc_old _ _ t (Nat.ne_of_lt htl)];exact hf0)
 have xmethodUnwrap:=methodUnwrap
 have hgl:g<w.heap.size:=by
  rcases Nat.lt_or_ge g w.heap.size with h | h
  ·exact h
  ·simp[World.cell?,Array.getElem?_eq_none h] at he
 have he2:(((w.alloc (.cells #[.pointer (some t)] 169)).alloc (.cells #[.pointer (some ⟨1,169,none⟩),.pointer (some ⟨w.heap.size,0,none⟩),.int .u64 150] 199)).alloc (.cells #[.pointer (some ⟨1,169,none⟩),.pointer (some ⟨w.heap.size,0,none⟩),.int .u64 150] 199)).cell? ⟨g,o+2,none⟩=some (.iface 57 (.int .i64 n)):=by
  rw[World.cell?_alloc_lt _ _ ⟨g,o+2,none⟩ (by simp;omega),World.cell?_alloc_lt _ _ ⟨g,o+2,none⟩ (by simp;omega),World.cell?_alloc_lt _ _ ⟨g,o+2,none⟩ hgl];exact he
 go_enter Tryz.func99,Tryz.ntmps99
 go_wp2
 refine wp_loop_rounds 2 ?_
 rw[rounds_succ]
 go_wp2
 rw[rounds_succ]
 go_wp2
 go_ret
 exact⟨rfl,rfl⟩
end Er
open Go.RowKit Go.Extern.Stop Go.Stop Go.Extern
abbrev sNo:ByteArray:=⟨#[]⟩
abbrev sCol:ByteArray:=⟨#[99,111,108,117,109,110]⟩
namespace Er
set_option maxHeartbeats 4000000 in
theorem number_F(s:ByteArray)(k n:Int)(g o:Nat)(w:World)(hg:w.cell? ⟨0,0,none⟩=some (.iface 180 (.agg #[.pointer (some ⟨1,45,none⟩)])))(_:w.cell? ⟨g,o+0,none⟩=some (.string s))(_:w.cell? ⟨g,o+1,none⟩=some (.int .i64 k))(h2:w.cell? ⟨g,o+2,none⟩=some (.iface 57 (.int .i64 n))):Calls Tryz.prog 67 #[.iface 158 (.pointer (some ⟨g,o,none⟩))] w λe w'=>e=.returned (.int .i64 n)/\Grow w w':=by
 have hgl:g<w.heap.size:=by
  rcases Nat.lt_or_ge g w.heap.size with h | h
  ·exact h
  ·simp[World.cell?,Array.getElem?_eq_none h] at h2
 have hlt:0<w.heap.size:=by
  rcases Nat.eq_zero_or_pos w.heap.size with h0 | h
  ·simp[World.cell?,h0] at hg
  ·exact h
 have hgA:(w.alloc (.cells #[.int .i64 0] 57)).cell? ⟨0,0,none⟩=some (.iface 180 (.agg #[.pointer (some ⟨1,45,none⟩)])):=by
  rw[World.cell?_alloc_lt _ _ ⟨0,0,none⟩ hlt];exact hg
 have htA:(w.alloc (.cells #[.int .i64 0] 57)).cell? ⟨w.heap.size,0,none⟩=some (.int .i64 0):=by simp
 have hfA:(w.alloc (.cells #[.int .i64 0] 57)).frozen? ⟨w.heap.size,0,none⟩=false:=by simp
 have c2:(w.alloc (.cells #[.int .i64 0] 57)).cell? ⟨g,o+2,none⟩=some (.iface 57 (.int .i64 n)):=by
  rw[World.cell?_alloc_lt _ _ ⟨g,o+2,none⟩ hgl];exact h2
 go_enter Tryz.func67,Tryz.ntmps67
 go_wp2_with (go_at_call 99;refine(as_FE n g o _ _ _ hgA htA hfA c2).mono ?_;rintro e w' ⟨rfl,rfl⟩)
 go_ret
 refine⟨rfl,?_⟩
 exact Wz
set_option maxHeartbeats 4000000 in
theorem place_F(s:ByteArray)(k n:Int)(g o:Nat)(w:World)(hg:w.cell? ⟨0,0,none⟩=some (.iface 180 (.agg #[.pointer (some ⟨1,45,none⟩)])))(h0:w.cell? ⟨g,o+0,none⟩=some (.string s))(h1:w.cell? ⟨g,o+1,none⟩=some (.int .i64 k))(h2:w.cell? ⟨g,o+2,none⟩=some (.iface 57 (.int .i64 n))):Calls Tryz.prog 66 #[.iface 158 (.pointer (some ⟨g,o,none⟩))] w λe w'=>e=.returned (.tuple #[.string s,.int .i64 k,.bool true])/\Grow w w':=by
 have hgl:g<w.heap.size:=by
  rcases Nat.lt_or_ge g w.heap.size with h | h
  ·exact h
  ·simp[World.cell?,Array.getElem?_eq_none h] at h2
 have hlt:0<w.heap.size:=by
  rcases Nat.eq_zero_or_pos w.heap.size with h0 | h
  ·simp[World.cell?,h0] at hg
  ·exact h
 have hgA:(w.alloc (.cells #[.pointer none] 158)).cell? ⟨0,0,none⟩=some (.iface 180 (.agg #[.pointer (some ⟨1,45,none⟩)])):=by
  rw[World.cell?_alloc_lt _ _ ⟨0,0,none⟩ hlt];exact hg
 have htA:(w.alloc (.cells #[.pointer none] 158)).cell? ⟨w.heap.size,0,none⟩=some (.pointer none):=by simp
 have hfA:(w.alloc (.cells #[.pointer none] 158)).frozen? ⟨w.heap.size,0,none⟩=false:=by simp
 have d0:(((((w.alloc (.cells #[.pointer (some ⟨g,o,none⟩)] 158)).alloc (.cells #[.pointer (some ⟨w.heap.size,0,none⟩)] 168)).alloc (.cells #[.pointer (some ⟨1,168,none⟩),.pointer (some ⟨w.heap.size+1,0,none⟩),.int .u64 150] 199)).alloc (.cells #[.pointer (some ⟨1,168,none⟩),.pointer (some ⟨w.heap.size+1,0,none⟩),.int .u64 150] 199)).alloc (.cells #[.pointer (some ⟨g,o,none⟩)] 158)).cell? ⟨g,o,none⟩=some (.string s):=by
  rw[World.cell?_alloc_lt _ _ ⟨g,o,none⟩ (by simp;omega),World.cell?_alloc_lt _ _ ⟨g,o,none⟩ (by simp;omega),World.cell?_alloc_lt _ _ ⟨g,o,none⟩ (by simp;omega),World.cell?_alloc_lt _ _ ⟨g,o,none⟩ (by simp;omega),World.cell?_alloc_lt _ _ ⟨g,o,none⟩ hgl];exact h0
 have d1:(((((w.alloc (.cells #[.pointer (some ⟨g,o,none⟩)] 158)).alloc (.cells #[.pointer (some ⟨w.heap.size,0,none⟩)] 168)).alloc (.cells #[.pointer (some ⟨1,168,none⟩),.pointer (some ⟨w.heap.size+1,0,none⟩),.int .u64 150] 199)).alloc (.cells #[.pointer (some ⟨1,168,none⟩),.pointer (some ⟨w.heap.size+1,0,none⟩),.int .u64 150] 199)).alloc (.cells #[.pointer (some ⟨g,o,none⟩)] 158)).cell? ⟨g,o+1,none⟩=some (.int .i64 k):=by
  rw[World.cell?_alloc_lt _ _ ⟨g,o+1,none⟩ (by simp;omega),World.cell?_alloc_lt _ _ ⟨g,o+1,none⟩ (by simp;omega),World.cell?_alloc_lt _ _ ⟨g,o+1,none⟩ (by simp;omega),World.cell?_alloc_lt _ _ ⟨g,o+1,none⟩ (by simp;omega),World.cell?_alloc_lt _ _ ⟨g,o+1,none⟩ hgl];exact h1
 go_enter Tryz.func66,Tryz.ntmps66
 go_wp2_with (go_at_call 99;refine(as_FF ⟨g,o,none⟩ _ _ _ hgA htA hfA).mono ?_;rintro e w' ⟨rfl,rfl⟩)
 have dT:(((((w.alloc (.cells #[.pointer (some ⟨g,o,none⟩)] 158)).alloc (.cells #[.pointer (some ⟨w.heap.size,0,none⟩)] 168)).alloc (.cells #[.pointer (some ⟨1,168,none⟩),.pointer (some ⟨w.heap.size+1,0,none⟩),.int .u64 150] 199)).alloc (.cells #[.pointer (some ⟨1,168,none⟩),.pointer (some ⟨w.heap.size+1,0,none⟩),.int .u64 150] 199)).alloc (.cells #[.pointer (some ⟨g,o,none⟩)] 158)).cell? ⟨w.heap.size,0,none⟩=some (.pointer (some ⟨g,o,none⟩)):=by
  rw[World.cell?_alloc_lt _ _ ⟨w.heap.size,0,none⟩ (by simp;omega),World.cell?_alloc_lt _ _ ⟨w.heap.size,0,none⟩ (by simp;omega),World.cell?_alloc_lt _ _ ⟨w.heap.size,0,none⟩ (by simp;omega),World.cell?_alloc_lt _ _ ⟨w.heap.size,0,none⟩ (by simp)];simp
 go_region_held3 (λw'=>w'.cell? ⟨w.heap.size,0,none⟩=some (.pointer (some ⟨g,o,none⟩))/\w'.cell? ⟨g,o,none⟩=some (.string s)/\w'.cell? ⟨g,o+1,none⟩=some (.int .i64 k))
  (first | exact⟨dT,d0,d1⟩ | go_keep) (fail)
 go_wp2
 refine bodyPost_ret (v:=.tuple #[.string s,.int .i64 k,.bool true]) (by simp[results,go_sem]) rfl ⟨rfl,?_⟩
 exact Wz
end Er
theorem CallOK.of_raw{P:Program}{f:FuncId}{As:List SV}{R:SV}{u:Value}(cal:yJ P f)(hR:∀(η:Eta) (A:Nat->Prop) (w:World),R.R η A w u)
  (h:∀(η:Eta) (F:Nat->Prop) (w:World) (vals:List Value),Gl w->xY As η F w vals->Calls P f vals.toArray w λe w'=>e=.returned u/\Grow w w'):CallOK P f As R []:=
 ⟨cal, λη0 F w vals hF hA => (h η0 F w vals hF.gl hA).mono λe w' ⟨e1, g⟩ => ⟨u, λ_ _ => none, e1,
  ⟨.of_grow g,(λk i o hk=>by rw[xM] at hk;cases hk),(λk i o _ _ hk=>by rw[xM] at hk;cases hk),(λk i o _ _ _ _ _ _ hk=>by rw[xM] at hk;cases hk),λ_ _ _=>rfl,hF.lt,hF.gl,λ_ h=>h⟩,hR _ _ _⟩⟩
abbrev fltS (s:ByteArray) (k n:Int):SV:=.ifc 158 (.ep (.agg (.cn (.ex (.string s)) (.cn (.ex (.int .i64 k)) (.cn (.ex (.iface 57 (.int .i64 n))) .nl)))))
theorem flt_open{s:ByteArray}{k n:Int}{η:Eta}{A:Nat->Prop}{w:World}{v:Value}(h:(fltS s k n).R η A w v):∃g o,v=.iface 158 (.pointer (some ⟨g,o,none⟩))/\w.cell? ⟨g,o+0,none⟩=some (.string s)/\w.cell? ⟨g,o+1,none⟩=some (.int .i64 k)/\w.cell? ⟨g,o+2,none⟩=some (.iface 57 (.int .i64 n)):=by
 obtain⟨u,rfl,g,o,rfl,_,_,e,⟨vs,rfl,x,xs,e1,hx,y,ys,e2,hy,z,zs,e3,hz,hn⟩,hc⟩:=h
 obtain rfl:=hx
 obtain rfl:=hy
 obtain rfl:=hz
 have hn:Value.tuple zs.toArray=.tuple #[]:=hn
 simp only[Value.tuple.injEq] at e1 e2 e3 hn
 obtain rfl:zs=[]:=by simpa using congrArg Array.toList hn
 obtain rfl:ys=_:=by simpa using congrArg Array.toList e3
 obtain rfl:xs=_:=by simpa using congrArg Array.toList e2
 obtain rfl:vs=_:=by simpa using congrArg Array.toList e1
 exact⟨g,o,rfl,hc 0 _ rfl,hc 1 _ rfl,hc 2 _ rfl⟩
abbrev PLC (s:ByteArray) (k:Int) (b:Bool):SV:=.cn (.ex (.string s)) (.cn (.ex (.int .i64 k)) (.cn (.ex (.bool b)) .nl))
theorem plc_R{s:ByteArray}{k:Int}{b:Bool}(η:Eta)(A:Nat->Prop)(w:World):(PLC s k b).R η A w (.tuple #[.string s,.int .i64 k,.bool b]):=
 ⟨.string s,[.int .i64 k,.bool b],rfl,rfl,.int .i64 k,[.bool b],rfl,rfl,.bool b,[],rfl,rfl,rfl⟩
theorem sPlaceF{s:ByteArray}{k n:Int}:CallOK Tryz.prog 66 [.ifc 158 (.ep (.agg (.cn (.ex (.string s)) (.cn (.ex (.int .i64 k)) (.cn (.ex (.iface 57 (.int .i64 n))) (.nl))))))] (.cn (.ex (.string s)) (.cn (.ex (.int .i64 k)) (.cn (.ex (.bool true)) (.nl)))) []:=
 .of_raw (zL Tryz.func66 rfl zk) plc_R λη F w vals hg hA=>by
  match vals,hA with
  | [v0],hA=>obtain⟨g,o,rfl,h0,h1,h2⟩:=flt_open hA.1;exact Er.place_F s k n g o w (hg _ rfl).2 h0 h1 h2
theorem sNumberF{s:ByteArray}{k n:Int}:CallOK Tryz.prog 67 [.ifc 158 (.ep (.agg (.cn (.ex (.string s)) (.cn (.ex (.int .i64 k)) (.cn (.ex (.iface 57 (.int .i64 n))) (.nl))))))] (.ex (.int .i64 n)) []:=
 .of_raw (zL Tryz.func67 rfl zk) (λ_ _ _=>rfl) λη F w vals hg hA=>by
  match vals,hA with
  | [v0],hA=>obtain⟨g,o,rfl,h0,h1,h2⟩:=flt_open hA.1;exact Er.number_F s k n g o w (hg _ rfl).2 h0 h1 h2
theorem CallOKm.tag0 [Fz]{P:Program}{f:FuncId}{T:TypeId}{a a':SV}{ins outs:List Hl}{A:List SV}{R:SV}{b:Nat}(h:CallOKm P f (.one (.var T a)::ins) A R (.one (.var T a')::outs)):CallOKm P f (.one (.var T a (some b))::ins) A R (.one (.var T a' (some b))::outs):=by
 refine⟨h.cal,λη0 M F w vals H hA=>?_⟩
 obtain⟨H1,hv1⟩:=H.retell (own':=zM 0 (.one (.var T a)::ins)) (λk i o' hk=>by
  rw[xW] at hk⊢
  cases k with
  | zero=>
   cases i with
   | zero=>
    obtain rfl:=Option.some.inj hk
    exact⟨_,rfl,λA h e ⟨b1,v,e1,e2,e3,e4,e5⟩=>⟨b1,v,e1,e2,e3,e4,λb0 hb=>by cases hb⟩⟩
   | succ i=>cases hk
  | succ k=>exact⟨o',hk,λ_ _ _ h=>h⟩) (λk i o hk=>by
  rw[xW] at hk⊢
  cases k with
  | zero=>
   cases i with
   | zero=>exact⟨_,rfl⟩
   | succ i=>cases hk
  | succ k=>exact⟨o,hk⟩) (λk i hk=>by
  rw[xW] at hk⊢
  cases k with
  | zero=>exact hk
  | succ k=>exact hk)
 rw[←hv1] at hA
 refine(h.run η0 M F w vals H1 hA).mono λe w'=>?_
 rintro⟨v,η',rfl,H2,hR,hx⟩
 obtain⟨hd,he,b1,u1,e1,e2,e3,e4,e5⟩:=H.ob 0 0 (.var T a (some b)) rfl
 have hbb:=e5 b rfl
 obtain⟨H3,hv3⟩:=H2.retell (own':=zM 0 (.one (.var T a' (some b))::outs)) (λk i o' hk=>by
  rw[xW] at hk⊢
  cases k with
  | zero=>
   cases i with
   | zero=>
    obtain rfl:=Option.some.inj hk
    refine⟨_,rfl,λA h eh ⟨b2,v2,q1,q2,q3,q4,q5⟩=>⟨b2,v2,q1,q2,q3,q4,λb0 hb=>?_⟩⟩
    have h6:=hx 0 (by simp) 0 h eh
    rw[he] at h6
    have h7:=(Option.some.inj h6).symm
    rw[q1,e1] at h7
    have h8:b2=b1:=by injection h7 with h7;injection h7 with h7;injection h7
    obtain rfl:=Option.some.inj hb
    rw[h8,hbb]
   | succ i=>cases hk
  | succ k=>exact⟨o',hk,λ_ _ _ h=>h⟩) (λk i o hk=>by
  rw[xW] at hk⊢
  cases k with
  | zero=>
   cases i with
   | zero=>exact⟨_,rfl⟩
   | succ i=>cases hk
  | succ k=>exact⟨o,hk⟩) (λk i hk=>by
  rw[xW] at hk⊢
  cases k with
  | zero=>exact hk
  | succ k=>exact hk)
 exact⟨v,η',rfl,H3,by rw[hv3];exact hR,λk hk=>hx k (by simpa using hk)⟩
open Go.RowKit
abbrev bV (a b:Nat) (S:LuS) (n:Nat) (t:Option Nat:=none):OB:=.var 164 (.agg (.cn (.own a 0) (.cn (.ep (lvE S n)) (.cn (.own b 0) .nl)))) t
abbrev eE (e:Etas) (n m:Nat):OB:=.row 166 2 (λi0=>.agg (.cn (iN ((e i0).1)) (.cn (vE (e i0).2 n) .nl))) m
def basX (n:Nat) (D:Nat->Nat->Rat) (v:Nat->Rat) (j:Nat):Rat:=luX n (luS n D n).1 (luS n D n).2.1 (λi=>v ((luS n D n).2.2.1 i)) j
def basY (n:Nat) (D:Nat->Nat->Rat) (v:Nat->Rat) (j:Nat):Rat:=luW n (luS n D n).1 (luS n D n).2.1 v ((luS n D n).2.2.2.1 j)
def etaI (k:Nat) (w x:Nat->Rat) (h j:Nat):Rat:=if j=k then x k/w k else if j<h then x j-w j*(x k/w k) else x j
def etaJ (k:Nat) (w z:Nat->Rat) (h j:Nat):Rat:=if j=k then etaP k w z h else z j
section
variable {k h j n:Nat} {w x z:Nat->Rat}
theorem etaI_put:x k/w k=etaI k w x 0 k:=(if_pos rfl).symm
theorem etaI_zero(e:j≠k):etaI k w x 0 j=x j:=by unfold etaI;rw[if_neg e,if_neg (Nat.not_lt_zero j)]
theorem etaI_self:etaI k w x h k=x k/w k:=if_pos rfl
theorem etaI_here(e:h≠k):etaI k w x h h=x h:=by unfold etaI;rw[if_neg e,if_neg (Nat.lt_irrefl h)]
theorem etaI_at(e:h≠k):etaI k w x h h-w h*etaI k w x h k=etaI k w x (h+1) h:=by
 rw[etaI_here e,etaI_self]
 unfold etaI
 rw[if_neg e,if_pos (Nat.lt_succ_self h)]
theorem etaI_ne(e:j≠h):etaI k w x (h+1) j=etaI k w x h j:=by
 unfold etaI
 by_cases e1:j=k
 ·rw[if_pos e1,if_pos e1]
 ·rw[if_neg e1,if_neg e1]
  by_cases e2:j<h
  ·rw[if_pos e2,if_pos zo]
  ·rw[if_neg e2,if_neg zo]
theorem etaI_skip(e:h=k):etaI k w x h j=etaI k w x (h+1) j:=by
 by_cases e1:j=h
 ·unfold etaI
  rw[if_pos zo,if_pos zo]
 ·exact(etaI_ne e1).symm
theorem etaI_all(hj:j<n):etaI k w x n j=etaX k w x j:=by
 unfold etaI etaX
 by_cases e1:j=k
 ·rw[if_pos e1,if_pos e1]
 ·rw[if_neg e1,if_neg e1,if_pos hj]
theorem eta_div(hx:htq (x k)<=30000)(hw:htq (w k)<=4000):szq (x k)+szq (w k)+1<=17179869184:=by
 have:=xP (x k)
 have:=xP (w k)
 omega
theorem eta_room(e:h≠k)(hx:htq (x k)<=4000)(hw:htq (w k)<=4000)(hx2:htq (x h)<=4000)(hw2:htq (w h)<=4000):szq (w h)+szq (etaI k w x h k)<=17179869184/\szq (etaI k w x h h)+szq (w h*etaI k w x h k)<=17179869184:=by
 rw[etaI_here e,etaI_self]
 have:=ht_div (x k) (w k)
 exact ht_room2 (S:=8000) zo zo zo zd
theorem etaJ_zero:z j=etaJ k w z 0 j:=by
 unfold etaJ etaP
 split
 ·rename_i e;subst e;show z j=z j-0;grind
 ·rfl
theorem kL:etaJ k w z h k=etaP k w z h:=if_pos rfl
theorem etaJ_ne(e:j≠k):etaJ k w z h j=z j:=if_neg e
theorem etaP_at(e:h≠k):etaJ k w z h k-w h*etaJ k w z h h=etaJ k w z (h+1) k:=by
 rw[kL,kL,etaJ_ne e]
 show z k-sumQ _ h-w h*z h=z k-(sumQ _ h+offQ k (λl=>w l*z l) h)
 rw[off_ne e];grind
theorem etaJ_skip(e:h=k):etaJ k w z h j=etaJ k w z (h+1) j:=by
 unfold etaJ
 split
 ·unfold etaP
  show z k-sumQ _ h=z k-(sumQ _ h+offQ k (λl=>w l*z l) h)
  rw[show offQ k (λl=>w l*z l) h=0 by rw[e];exact jH];grind
 ·rfl
theorem etaJ_div:etaJ k w z n k/w k=etaZ n k w z k:=by rw[kL];exact(if_pos rfl).symm
theorem etaJ_all(e:j≠k):etaZ n k w z j=etaJ k w z n j:=by rw[etaJ_ne e];exact if_neg e
theorem etaP_ht(hz:∀j,j<n->htq (z j)<=20000)(hw:∀j,j<n->htq (w j)<=4000)(hk:k<n):∀h,h<=n->htq (etaP k w z h)<=20000+h*24001
 | 0,_=>by
  unfold etaP
  rw[show z k-sumQ (offQ k λl=>w l*z l) 0=z k by show z k-0=_;grind]
  have:=hz k hk;exact Nat.le_trans this (Nat.le_add_right _ _)
 | h+1,hh=>by
  have ih:=etaP_ht hz hw hk h zo
  by_cases e:h=k
  ·have:=etaJ_skip (j:=k) (w:=w) (z:=z) e
   rw[kL,kL] at this
   rw[←this,Nat.succ_mul];exact Nat.le_trans ih zo
  ·have h1:=etaP_at (w:=w) (z:=z) e
   rw[kL,kL,etaJ_ne e] at h1
   rw[←h1]
   have h2:=ht_sub (etaP k w z h) (w h*z h)
   have h3:=uG (w h) (z h)
   have h4:=hz h zo
   have h5:=hw h zo
   rw[Nat.succ_mul]
   generalize h*24001=T at*
   omega
theorem etaP_room(hz:∀j,j<n->htq (z j)<=20000)(hw:∀j,j<n->htq (w j)<=4000)(hk:k<n)(hn:n<=64)(hh:h<n)(e:h≠k):szq (w h)+szq (etaJ k w z h h)<=17179869184/\szq (etaJ k w z h k)+szq (w h*etaJ k w z h h)<=17179869184:=by
 rw[etaJ_ne e,kL]
 have h1:=etaP_ht hz hw hk h zo
 have h2:=hz h hh
 have h3:=hw h hh
 have h4:h*24001<=64*24001:=Nat.mul_le_mul_right _ zo
 exact ht_room2 (S:=2000000) zo zo zo zd
theorem etaP_div(hz:∀j,j<n->htq (z j)<=20000)(hw:∀j,j<n->htq (w j)<=4000)(hk:k<n)(hn:n<=64):szq (etaJ k w z n k)+szq (w k)+1<=17179869184:=by
 rw[kL]
 have h1:=etaP_ht hz hw hk n (Nat.le_refl n)
 have h2:=hw k hk
 have h4:n*24001<=64*24001:=Nat.mul_le_mul_right _ hn
 have:=xP (etaP k w z n)
 have:=xP (w k)
 omega
end
theorem sMatOfM{D C:Nat->Nat->Rat}{e:Etas}{n m:Nat}(hn:n<=64):CallOKm Tryz.prog 57 [.one (bV 1 2 (luS n D n) n),cC C n,.one (eE e n m)] [iN n,.own 1 0] (c2 (.agg (c2 (.sl 1 (mE C n) n) (iN n))) (bX true)) [.one (bV 3 4 (luS n D n) n),.dead,.dead,cC C n,.one (eE e n m)]:=by
 exact zZ (ch:=λB=>[.reg 1 [(3,.callS (c2 (.agg (c2 (.own 0 0) (iN n))) (bX true)) [.one (.row 41 1 (λi0=>.own 1 i0) n),.fam n (λ_=>.row 76 3 (λ_=>.rat 0) n)])],.dec 18 false,.loop 5 (Nat) (λg=>g<=n) (λg=>n-g) (λg=>⟨[(0,iN n),(4,.own 3 0),(6,.own 6 0),(20,.own 1 0),(21,iN n),(22,iN g)],[(0,.one (bV 1 2 (luS n D n) n (some (B 0)))),(1,cC C n),(2,.one (eE e n m)),(3,.one (.var 39 (.ex (.agg #[.slice none 0 0,.int .i64 0])))),(4,.one (.row 41 1 (λi0=>.own 5 i0) n)),(5,.fam n (λi0=>.row 76 3 (λi1=>.rat (yD g C i0 i1)) n)),(6,.one (.var 39 (.agg (c2 (.own 4 0) (iN n)))))],7⟩) [(0,.id 0),(1,.id 1),(2,.id 2),(3,.id 3),(4,.id 4),(5,.id 5),(6,.id 6)] (λ_=>[(0,.id 0),(1,.id 1),(2,.id 2),(3,.id 3),(4,.id 4),(5,.id 5),(6,.id 6)]) (λg=>[.reg 6 [(1,.k g)],.dec 30 false,.reg 9 [(3,.k g),(6,.rowF (λi0=>.rat (yD (g+1) C g i0)) (λi0=>.row 76 3 (λi1=>.rat (yD (g+1) C i0 i1)) n))],.reg 10 [(0,.z ((g+1:Nat):Int))],.ret 11 [(0,.id 0),(3,.id 1),(4,.id 2)]])]) hMix Tryz.func57 rfl zk zk zk (λB=>_/\((!true)=false)/\(((λX1 X2 X3 X4 X5 X6 X7 X8 X9 X10 X11 X12 X13 X14 X15 X16 X17 X18 X19 X20 X21 X22 X23:Prop=>∃g0:Nat,X1/\X2/\X3/\X4/\X5/\((0:Int)=(g0:Int))/\X6/\X7/\X8/\X9/\X10/\X11/\X12/\X13/\X14/\X15/\X16/\X17/\X18/\X19/\((.agg #[.slice none 0 0,.int .i64 0]:Value)=.agg #[.slice none 0 0,.int .i64 0])/\X20/\(∀j0,j0<n->((j0:Nat)=j0))/\X21/\(∀j0,j0<n->((n:Nat)=n)/\(∀j1,j1<n->((0:Rat)=(yD g0 C j0 j1))))/\X22/\X23/\(g0<=n)) _ _ _ _ _ _ _ _ _ _ _ _ _ _ _ _ _ _ _ _ _ _ _)/\∀g:Nat,(g<=n)->(((decide ((g:Int)<(n:Int)))=true->_/\(g<n)/\(g<n)/\((!decide ((n:Int)=(n:Int)))=false)/\_/\(g<n)/\(g<n)/\(n<=n)/\(∀j0,j0<n->n<=j0->(.rat (yD (g+1) C g j0):SV)=.rat (yD g C g j0))/\(∀j0,j0<n->((C g j0:Rat)=(yD (g+1) C g j0)))/\(g<n)/\((.row 76 3 (λi0=>.rat (yD (g+1) C g i0)) n:OB)=.row 76 3 (λi0=>.rat (yD (g+1) C g i0)) n)/\(∀t,t<n->t≠g->(.row 76 3 (λi0=>.rat (yD (g+1) C t i0)) n:OB)=.row 76 3 (λi0=>.rat (yD g C t i0)) n)/\_/\((λX1 X2 X3 X4 X5 X6 X7 X8 X9 X10 X11 X12 X13 X14 X15 X16 X17 X18 X19 X20 X21 X22 X23:Prop=>∃g1:Nat,X1/\X2/\X3/\X4/\X5/\(((g+1:Nat):Int)=(g1:Int))/\X6/\X7/\X8/\X9/\X10/\X11/\X12/\X13/\X14/\X15/\X16/\X17/\X18/\X19/\((.agg #[.slice none 0 0,.int .i64 0]:Value)=.agg #[.slice none 0 0,.int .i64 0])/\X20/\(∀j0,j0<n->((j0:Nat)=j0))/\X21/\(∀j0,j0<n->((n:Nat)=n)/\(∀j1,j1<n->((yD (g+1) C j0 j1:Rat)=(yD g1 C j0 j1))))/\X22/\X23/\(g1<=n)/\(n-g1<n-g)) _ _ _ _ _ _ _ _ _ _ _ _ _ _ _ _ _ _ _ _ _ _ _))/\((decide ((g:Int)<(n:Int)))=false->(_/\(∀j0,j0<n->((n:Nat)=n)/\(∀j1,j1<n->((yD g C j0 j1:Rat)=(C j0 j1)))/\(j0<n))/\_/\_/\_/\_/\_/\_/\_/\_/\_/\_/\_/\_/\_/\_/\_/\_))))) (λB=>by kernel_rfl)
  (λB=>⟨sMatNew (m:=n) (n:=n) zo zo,rfl,⟨0,(rf (n:Int)),(rf 0),(rf 0),(rf 0),(rf (n:Int)),zo,(rf (some (B 0))),(rf 0),(rf n),(leS (mE (luS n D n).2.1 n) n),(rf n),(leS (mE ((luS n D n).1) n) n),(rf n),(leS (λi0=>iN ((luS n D n).2.2.1 i0)) n),(rf ((luS n D n).2.2.2.2:Bool)),(rf 0),(rf n),(leS (mE C n) n),(rf m),(leS (λi0=>.agg (c2 (iN ((e i0).1)) (vE (e i0).2 n))) m),rfl,(rf n),(λj0 hj0=>rfl),(rf n),(λj0 hj0=>⟨rfl,(λj1 hj1=>(by rw[uptoR_zero]))⟩),(rf 0),(rf (n:Int)),zo⟩,λg hg=>⟨λhc23=>have hc23:=dT hc23;⟨(rf (g:Int)),zo,zo,zs,(rf (g:Int)),zo,zo,zo,(λj0 hj0 hm=>absurd hj0 (Nat.not_lt.2 hm)),(λj0 hj0=>(by rw[uptoR_at])),zo,rfl,(λt ht hne=>by simp only[uptoR_ne hne]),(wI (g:=g) zo),g+1,(rf (n:Int)),(rf 0),(rf 0),(rf 0),(rf (n:Int)),zo,(rf (some (B 0))),(rf 0),(rf n),(leS (mE (luS n D n).2.1 n) n),(rf n),(leS (mE ((luS n D n).1) n) n),(rf n),(leS (λi0=>iN ((luS n D n).2.2.1 i0)) n),(rf ((luS n D n).2.2.2.2:Bool)),(rf 0),(rf n),(leS (mE C n) n),(rf m),(leS (λi0=>.agg (c2 (iN ((e i0).1)) (vE (e i0).2 n))) m),rfl,(rf n),(λj0 hj0=>rfl),(rf n),(λj0 hj0=>⟨rfl,(λj1 hj1=>rfl)⟩),(rf 0),(rf (n:Int)),zo,zo⟩,λhc23=>have hc23:=dF hc23;have hi2:g=n:=zo;⟨(rf n),(λj0 hj0=>⟨rfl,(λj1 hj1=>(by rw[hi2];exact uptoR_all zo)),zo⟩),(rf (n:Int)),(rf (true:Bool)),(rf (some (B 0))),(rf 0),(rf n),(leS (mE (luS n D n).2.1 n) n),(rf n),(leS (mE ((luS n D n).1) n) n),(rf n),(leS (λi0=>iN ((luS n D n).2.2.1 i0)) n),(rf ((luS n D n).2.2.2.2:Bool)),(rf 0),(rf n),(leS (mE C n) n),(rf m),(leS (λi0=>.agg (c2 (iN ((e i0).1)) (vE (e i0).2 n))) m)⟩⟩⟩)
theorem sBMatrix{D C:Nat->Nat->Rat}{e:Etas}{n m:Nat}(hn:n<=64):CallOKm Tryz.prog 113 [.one (bV 1 2 (luS n D n) n),cC C n,.one (eE e n m)] [.own 0 0] (.agg (c2 (.sl 1 (mE (trM C) n) n) (iN n))) [.one (bV 3 4 (luS n D n) n),.dead,.dead,cC C n,.one (eE e n m)]:=by
 exact zZ (ch:=λB=>[.reg 1 [(9,.callM [0,1,2] [.one (bV 1 2 (luS n D n) n (some (B 0))),cC C n,.one (eE e n m)] [iN n,.own 1 0] (c2 (.agg (c2 (.sl 1 (mE C n) n) (iN n))) (bX true)) [.one (bV 3 4 (luS n D n) n (some (B 0))),.dead,.dead,cC C n,.one (eE e n m)])],.reg 2 [(1,.callS (.agg (c2 (.sl 1 (λi0=>.sl 3 (λi1=>.rat (C i1 i0)) n) n) (iN n))) [])],.ret 2 [(0,.id 0),(3,.id 4),(4,.id 5)]]) hMix Tryz.func113 rfl zk zk zk (λB=>(CallOKm Tryz.prog 57 [.one (bV 1 2 (luS n D n) n (some (B 0))),cC C n,.one (eE e n m)] [iN n,.own 1 0] (c2 (.agg (c2 (.sl 1 (mE C n) n) (iN n))) (bX true)) [.one (bV 3 4 (luS n D n) n (some (B 0))),.dead,.dead,cC C n,.one (eE e n m)])/\_/\_/\_/\_/\_/\_/\_/\(_/\(∀j0,j0<n->((n:Nat)=n)/\(∀j1,j1<n->((C j1 j0:Rat)=((trM C) j0 j1))))/\_/\_/\_/\_/\_/\_/\_/\_/\_/\_/\_/\_/\_/\_/\_)) (λB=>by kernel_rfl)
  (λB=>⟨((sMatOfM (D:=D) (C:=C) (e:=e) (m:=m) (n:=n) zo)).tag0 (b:=B 0),(rf (.one (bV 1 2 (luS n D n) n (some (B 0))):Hl)),(rf (cC C n:Hl)),(rf (.one (eE e n m):Hl)),(rf (n:Int)),(rf 1),(rf 0),sMatTurned (m:=n) (n:=n) (q:=C) zo zo,(rf n),(λj0 hj0=>⟨rfl,(λj1 hj1=>rfl)⟩),(rf (n:Int)),(rf (some (B 0))),(rf 0),(rf n),(leS (mE (luS n D n).2.1 n) n),(rf n),(leS (mE ((luS n D n).1) n) n),(rf n),(leS (λi0=>iN ((luS n D n).2.2.1 i0)) n),(rf ((luS n D n).2.2.2.2:Bool)),(rf 0),(rf n),(leS (mE C n) n),(rf m),(leS (λi0=>.agg (c2 (iN ((e i0).1)) (vE (e i0).2 n))) m)⟩)
open Go.RowKit
theorem sBSolve{D C:Nat->Nat->Rat}{e:Etas}{n m:Nat}{v:Nat->Rat}(hn:n<=6)(hok:luOK n D n)(hD:HtB n n 3 D)(H:EtaOK n e m)(hw:∀t,t<m->∀j,j<n->htq ((e t).2 j)<=4000)(hm:m<=64)(hv:∀j,j<n->htq (v j)<=3)(hx:∀t,t<=m->∀j,j<n->htq (zK (basX n D v) e t j)<=4000):CallOKm Tryz.prog 63 [.one (bV 1 2 (luS n D n) n),cC C n,.one (eE e n m)] [.own 0 0,.sl 3 (λi0=>.rat (v i0)) n] (c2 (.own 5 0) (bX true)) [.one (bV 3 4 (luS n D n) n),.dead,.dead,cC C n,.one (eE e n m),.one (.row 76 3 (λi0=>.rat (zK (basX n D v) e m i0)) n)]:=by
 exact zZ (ch:=λB=>[.reg 1 [(5,.callS (c2 (.own 0 0) (bX true)) [.one (.row 76 3 (λi0=>.rat (luX n (luS n D n).1 (luS n D n).2.1 (λi=>v ((luS n D n).2.2.1 i)) i0)) n)])],.dec 21 false,.conv 4 [(0,.id 0),(1,.id 1),(2,.id 2),(3,.id 3)] ⟨[(0,.own 0 0),(6,.own 3 0)],[(0,.one (bV 1 2 (luS n D n) n (some (B 0)))),(1,cC C n),(2,.one (eE e n m)),(3,.one (.row 76 3 (λi0=>.rat ((zK (basX n D v) e 0) i0)) n))],4⟩,.loop 5 (Nat) (λg=>g<=m) (λg=>m-g) (λg=>⟨[(6,.own 3 0),(25,.own 2 0),(26,iN m),(27,iN g)],[(0,.one (bV 1 2 (luS n D n) n (some (B 0)))),(1,cC C n),(2,.one (eE e n m)),(3,.one (.row 76 3 (λi0=>.rat ((zK (basX n D v) e g) i0)) n))],4⟩) [(0,.id 0),(1,.id 1),(2,.id 2),(3,.id 3)] (λ_=>[(0,.id 0),(1,.id 1),(2,.id 2),(3,.id 3)]) (λg=>[.reg 6 [(0,.k g)],.reg 7 [(6,.k ((e g).1)),(12,.k ((e g).1)),(14,.callS (c2 (.rat (((zK (basX n D v) e g) ((e g).1))/((e g).2 ((e g).1)))) (bX (!decide (((e g).2 ((e g).1))=0)))) []),(18,.k ((e g).1)),(19,.row 0 (λi0=>.rat (etaI (e g).1 (e g).2 (zK (basX n D v) e g) 0 i0)))],.loop 9 (Nat) (λh=>h<=n) (λh=>n-h) (λh=>⟨[(6,.own 3 0),(25,.own 2 0),(26,iN m),(9,.own 4 0),(27,iN g),(51,iN n),(52,iN h)],[(0,.one (bV 1 2 (luS n D n) n (some (B 0)))),(1,cC C n),(2,.one (eE e n m)),(3,.one (.row 76 3 (λi0=>.rat (etaI (e g).1 (e g).2 (zK (basX n D v) e g) h i0)) n)),(4,.one (.var 166 (.agg (c2 (iN ((e g).1)) (vE (e g).2 n)))))],5⟩) [(0,.id 0),(1,.id 1),(2,.id 2),(3,.id 3),(4,.id 4)] (λ_=>[(0,.id 0),(1,.id 1),(2,.id 2),(3,.id 3),(4,.id 4)]) (λh=>[.reg 12 [(4,.k h),(9,.k h),(14,.k ((e g).1)),(16,.callS (.rat (((e g).2 h)*(etaI (e g).1 (e g).2 (zK (basX n D v) e g) h ((e g).1)))) []),(17,.callS (.rat ((etaI (e g).1 (e g).2 (zK (basX n D v) e g) h h)-(((e g).2 h)*(etaI (e g).1 (e g).2 (zK (basX n D v) e g) h ((e g).1))))) []),(18,.k h),(19,.row 0 (λi0=>.rat (etaI (e g).1 (e g).2 (zK (basX n D v) e g) (h+1) i0)))],.reg 13 [(0,.z ((h+1:Nat):Int))],.reg 13 [(0,.z ((h+1:Nat):Int))],.reg 14 [(0,.z ((g+1:Nat):Int))]]),.ret 15 [(0,.id 0),(3,.id 1),(4,.id 2),(5,.id 3)]])]) hMix Tryz.func63 rfl zk zk zk (λB=>_/\((!true)=false)/\_/\_/\_/\_/\_/\_/\_/\_/\_/\_/\_/\_/\_/\_/\_/\_/\_/\(∀j0,j0<n->((luX n (luS n D n).1 (luS n D n).2.1 (λi=>v ((luS n D n).2.2.1 i)) j0:Rat)=((zK (basX n D v) e 0) j0)))/\(((λX1 X2 X3 X4 X5 X6 X7 X8 X9 X10 X11 X12 X13 X14 X15 X16 X17 X18:Prop=>∃g0:Nat,X1/\X2/\X3/\((0:Int)=(g0:Int))/\X4/\X5/\X6/\X7/\X8/\X9/\X10/\X11/\X12/\X13/\X14/\X15/\X16/\X17/\X18/\(∀j0,j0<n->(((zK (basX n D v) e 0) j0:Rat)=((zK (basX n D v) e g0) j0)))/\(g0<=m)) _ _ _ _ _ _ _ _ _ _ _ _ _ _ _ _ _ _)/\∀g:Nat,(g<=m)->(((decide ((g:Int)<(m:Int)))=true->_/\(g<m)/\(g<m)/\_/\(((e g).1)<n)/\(((e g).1)<n)/\_/\(((e g).1)<n)/\_/\_/\(((e g).1)<n)/\(((e g).1)<n)/\(((((zK (basX n D v) e g) ((e g).1))/((e g).2 ((e g).1)):Rat)=(etaI (e g).1 (e g).2 (zK (basX n D v) e g) 0 ((e g).1))))/\(∀t,t<n->t≠((e g).1)->(.rat (etaI (e g).1 (e g).2 (zK (basX n D v) e g) 0 t):SV)=.rat ((zK (basX n D v) e g) t))/\(((λX1 X2 X3 X4 X5 X6 X7 X8 X9 X10 X11 X12 X13 X14 X15 X16 X17 X18 X19 X20 X21 X22 X23 X24:Prop=>∃h0:Nat,X1/\X2/\X3/\X4/\X5/\X6/\((0:Int)=(h0:Int))/\X7/\X8/\X9/\X10/\X11/\X12/\X13/\X14/\X15/\X16/\X17/\X18/\X19/\X20/\X21/\(∀j0,j0<n->((etaI (e g).1 (e g).2 (zK (basX n D v) e g) 0 j0:Rat)=(etaI (e g).1 (e g).2 (zK (basX n D v) e g) h0 j0)))/\X22/\X23/\X24/\(h0<=n)) _ _ _ _ _ _ _ _ _ _ _ _ _ _ _ _ _ _ _ _ _ _ _ _)/\∀h:Nat,(h<=n)->(((decide ((h:Int)<(n:Int)))=true->(((!decide ((h:Int)=(((e g).1:Nat):Int)))=true->_/\(h<n)/\(h<n)/\_/\(h<n)/\_/\(((e g).1)<n)/\(((e g).1)<n)/\_/\_/\_/\(h<n)/\(h<n)/\((((etaI (e g).1 (e g).2 (zK (basX n D v) e g) h h)-(((e g).2 h)*(etaI (e g).1 (e g).2 (zK (basX n D v) e g) h ((e g).1))):Rat)=(etaI (e g).1 (e g).2 (zK (basX n D v) e g) (h+1) h)))/\(∀t,t<n->t≠h->(.rat (etaI (e g).1 (e g).2 (zK (basX n D v) e g) (h+1) t):SV)=.rat (etaI (e g).1 (e g).2 (zK (basX n D v) e g) h t))/\_/\((λX1 X2 X3 X4 X5 X6 X7 X8 X9 X10 X11 X12 X13 X14 X15 X16 X17 X18 X19 X20 X21 X22 X23 X24:Prop=>∃h1:Nat,X1/\X2/\X3/\X4/\X5/\X6/\(((h+1:Nat):Int)=(h1:Int))/\X7/\X8/\X9/\X10/\X11/\X12/\X13/\X14/\X15/\X16/\X17/\X18/\X19/\X20/\X21/\(∀j0,j0<n->((etaI (e g).1 (e g).2 (zK (basX n D v) e g) (h+1) j0:Rat)=(etaI (e g).1 (e g).2 (zK (basX n D v) e g) h1 j0)))/\X22/\X23/\X24/\(h1<=n)/\(n-h1<n-h)) _ _ _ _ _ _ _ _ _ _ _ _ _ _ _ _ _ _ _ _ _ _ _ _))/\((!decide ((h:Int)=(((e g).1:Nat):Int)))=false->_/\((λX1 X2 X3 X4 X5 X6 X7 X8 X9 X10 X11 X12 X13 X14 X15 X16 X17 X18 X19 X20 X21 X22 X23 X24:Prop=>∃h1:Nat,X1/\X2/\X3/\X4/\X5/\X6/\(((h+1:Nat):Int)=(h1:Int))/\X7/\X8/\X9/\X10/\X11/\X12/\X13/\X14/\X15/\X16/\X17/\X18/\X19/\X20/\X21/\(∀j0,j0<n->((etaI (e g).1 (e g).2 (zK (basX n D v) e g) h j0:Rat)=(etaI (e g).1 (e g).2 (zK (basX n D v) e g) h1 j0)))/\X22/\X23/\X24/\(h1<=n)/\(n-h1<n-h)) _ _ _ _ _ _ _ _ _ _ _ _ _ _ _ _ _ _ _ _ _ _ _ _))))/\((decide ((h:Int)<(n:Int)))=false->_/\((λX1 X2 X3 X4 X5 X6 X7 X8 X9 X10 X11 X12 X13 X14 X15 X16 X17 X18:Prop=>∃g1:Nat,X1/\X2/\X3/\(((g+1:Nat):Int)=(g1:Int))/\X4/\X5/\X6/\X7/\X8/\X9/\X10/\X11/\X12/\X13/\X14/\X15/\X16/\X17/\X18/\(∀j0,j0<n->((etaI (e g).1 (e g).2 (zK (basX n D v) e g) h j0:Rat)=((zK (basX n D v) e g1) j0)))/\(g1<=m)/\(m-g1<m-g)) _ _ _ _ _ _ _ _ _ _ _ _ _ _ _ _ _ _)))))/\((decide ((g:Int)<(m:Int)))=false->(_/\_/\_/\_/\_/\_/\_/\_/\_/\_/\_/\_/\_/\_/\_/\_/\_/\(∀j0,j0<n->(((zK (basX n D v) e g) j0:Rat)=(zK (basX n D v) e m j0)))))))) (λB=>by kernel_rfl)
  (λB=>⟨(sLuSolve (U:=(luS n D n).1) (L:=(luS n D n).2.1) (o:=(luS n D n).2.2.2.2) (n:=n) (b:=v) (P:=(luS n D n).2.2.1) hn (lu_bij n (Nat.le_refl n) hok).lt (lu_hL hD hn hok) (lu_hU hD hn hok) (λj hj=>Nat.le_trans (hv j hj) zd)),rfl,(rf 0),(rf 0),(rf (some (B 0))),(rf 0),(rf n),(leS (mE (luS n D n).2.1 n) n),(rf n),(leS (mE ((luS n D n).1) n) n),(rf n),(leS (λi0=>iN ((luS n D n).2.2.1 i0)) n),(rf ((luS n D n).2.2.2.2:Bool)),(rf 0),(rf n),(leS (mE C n) n),(rf m),(leS (λi0=>.agg (c2 (iN ((e i0).1)) (vE (e i0).2 n))) m),(rf n),(λj0 hj0=>rfl),⟨0,(rf 0),(rf 0),(rf (m:Int)),zo,(rf (some (B 0))),(rf 0),(rf n),(leS (mE (luS n D n).2.1 n) n),(rf n),(leS (mE ((luS n D n).1) n) n),(rf n),(leS (λi0=>iN ((luS n D n).2.2.1 i0)) n),(rf ((luS n D n).2.2.2.2:Bool)),(rf 0),(rf n),(leS (mE C n) n),(rf m),(leS (λi0=>.agg (c2 (iN ((e i0).1)) (vE (e i0).2 n))) m),(rf n),(λj0 hj0=>rfl),zo⟩,λg hg=>⟨λhc28=>have hc28:=dT hc28;have hgm:g<m:=zo;have hk:=H.at_ g hgm;have hdv:=eta_div (Nat.le_trans (hx g zo _ hk) zd) (hw g hgm _ hk);⟨(rf (g:Int)),zo,zo,(rf (((e g).1:Nat):Int)),zo,zo,(rf (((e g).1:Nat):Int)),zo,sRatDiv (p:=(zK (basX n D v) e g) ((e g).1)) (q:=(e g).2 ((e g).1)) hdv,(rf (((e g).1:Nat):Int)),zo,zo,etaI_put,(λt ht hne=>by rw[etaI_zero hne]),⟨0,(rf 0),(rf 0),(rf (m:Int)),(rf 0),(rf (g:Int)),(rf (n:Int)),zo,(rf (some (B 0))),(rf 0),(rf n),(leS (mE (luS n D n).2.1 n) n),(rf n),(leS (mE ((luS n D n).1) n) n),(rf n),(leS (λi0=>iN ((luS n D n).2.2.1 i0)) n),(rf ((luS n D n).2.2.2.2:Bool)),(rf 0),(rf n),(leS (mE C n) n),(rf m),(leS (λi0=>.agg (c2 (iN ((e i0).1)) (vE (e i0).2 n))) m),(rf n),(λj0 hj0=>rfl),(rf (((e g).1:Nat):Int)),(rf n),(leS (λi0=>.rat ((e g).2 i0)) n),zo⟩,λh hh=>⟨λhc53=>have hc53:=dT hc53;have hhn:h<n:=zo;⟨λhc58=>have hne:h≠(e g).1:=(by simp at hc58;omega);have hr:=eta_room hne (hx g zo _ hk) (hw g hgm _ hk) (hx g zo h hhn) (hw g hgm h hhn);⟨(rf (h:Int)),zo,zo,(rf (h:Int)),zo,(rf (((e g).1:Nat):Int)),zo,zo,sRatMul (p:=(e g).2 h) (q:=etaI (e g).1 (e g).2 (zK (basX n D v) e g) h ((e g).1)) hr.1,sRatSub (p:=etaI (e g).1 (e g).2 (zK (basX n D v) e g) h h) (q:=((e g).2 h)*(etaI (e g).1 (e g).2 (zK (basX n D v) e g) h ((e g).1))) hr.2,(rf (h:Int)),zo,zo,(etaI_at hne),(λt ht hne=>by rw[etaI_ne hne]),(wI (g:=h) zo),h+1,(rf 0),(rf 0),(rf (m:Int)),(rf 0),(rf (g:Int)),(rf (n:Int)),zo,(rf (some (B 0))),(rf 0),(rf n),(leS (mE (luS n D n).2.1 n) n),(rf n),(leS (mE ((luS n D n).1) n) n),(rf n),(leS (λi0=>iN ((luS n D n).2.2.1 i0)) n),(rf ((luS n D n).2.2.2.2:Bool)),(rf 0),(rf n),(leS (mE C n) n),(rf m),(leS (λi0=>.agg (c2 (iN ((e i0).1)) (vE (e i0).2 n))) m),(rf n),(λj0 hj0=>(by first | rfl | exact etaI_skip hne)),(rf (((e g).1:Nat):Int)),(rf n),(leS (λi0=>.rat ((e g).2 i0)) n),zo,zo⟩,λhc58=>have hne:h=(e g).1:=(by simp at hc58;omega);⟨(wI (g:=h) zo),h+1,(rf 0),(rf 0),(rf (m:Int)),(rf 0),(rf (g:Int)),(rf (n:Int)),zo,(rf (some (B 0))),(rf 0),(rf n),(leS (mE (luS n D n).2.1 n) n),(rf n),(leS (mE ((luS n D n).1) n) n),(rf n),(leS (λi0=>iN ((luS n D n).2.2.1 i0)) n),(rf ((luS n D n).2.2.2.2:Bool)),(rf 0),(rf n),(leS (mE C n) n),(rf m),(leS (λi0=>.agg (c2 (iN ((e i0).1)) (vE (e i0).2 n))) m),(rf n),(λj0 hj0=>(by first | rfl | exact etaI_skip hne)),(rf (((e g).1:Nat):Int)),(rf n),(leS (λi0=>.rat ((e g).2 i0)) n),zo,zo⟩⟩,λhc53=>have hc53:=dF hc53;have hi3:h=n:=zo;⟨(wI (g:=g) zo),g+1,(rf 0),(rf 0),(rf (m:Int)),zo,(rf (some (B 0))),(rf 0),(rf n),(leS (mE (luS n D n).2.1 n) n),(rf n),(leS (mE ((luS n D n).1) n) n),(rf n),(leS (λi0=>iN ((luS n D n).2.2.1 i0)) n),(rf ((luS n D n).2.2.2.2:Bool)),(rf 0),(rf n),(leS (mE C n) n),(rf m),(leS (λi0=>.agg (c2 (iN ((e i0).1)) (vE (e i0).2 n))) m),(rf n),(λj0 hj0=>(by rw[hi3];exact etaI_all (by assumption))),zo,zo⟩⟩⟩,λhc28=>have hc28:=dF hc28;have hi2:g=m:=zo;⟨(rf 0),(rf (true:Bool)),(rf (some (B 0))),(rf 0),(rf n),(leS (mE (luS n D n).2.1 n) n),(rf n),(leS (mE ((luS n D n).1) n) n),(rf n),(leS (λi0=>iN ((luS n D n).2.2.1 i0)) n),(rf ((luS n D n).2.2.2.2:Bool)),(rf 0),(rf n),(leS (mE C n) n),(rf m),(leS (λi0=>.agg (c2 (iN ((e i0).1)) (vE (e i0).2 n))) m),(rf n),(λj0 hj0=>(by rw[hi2]))⟩⟩⟩)
theorem sBSolve_no{D C:Nat->Nat->Rat}{e:Etas}{n m:Nat}{v:Nat->Rat}{l:Nat}(h:l≠n):CallOKm Tryz.prog 63 [.one (bV 1 2 (luS n D n) n),cC C n,.one (eE e n m)] [.own 0 0,.sl 3 (λi0=>.rat (v i0)) l] (c2 (.sl 3 (λ_=>.rat 0) 0) (bX false)) [.one (bV 3 4 (luS n D n) n),.dead,.dead,cC C n,.one (eE e n m)]:=by
 exact zZ (ch:=λB=>[.reg 1 [(5,.callS (c2 (.sl 3 (λ_=>.rat 0) 0) (bX false)) [])],.dec 21 true,.ret 3 [(0,.id 0),(3,.id 1),(4,.id 2)]]) hMix Tryz.func63 rfl zk zk zk (λB=>_/\((!false)=true)/\(_/\_/\_/\_/\_/\_/\_/\_/\_/\_/\_/\_/\_/\_/\_/\_)) (λB=>by kernel_rfl)
  (λB=>⟨(sLuSolve_no (U:=(luS n D n).1) (L:=(luS n D n).2.1) (P:=(luS n D n).2.2.1) (o:=(luS n D n).2.2.2.2) (n:=n) (k:=l) (b:=v) h),rfl,(rf 0),(rf (false:Bool)),(rf (some (B 0))),(rf 0),(rf n),(leS (mE (luS n D n).2.1 n) n),(rf n),(leS (mE ((luS n D n).1) n) n),(rf n),(leS (λi0=>iN ((luS n D n).2.2.1 i0)) n),(rf ((luS n D n).2.2.2.2:Bool)),(rf 0),(rf n),(leS (mE C n) n),(rf m),(leS (λi0=>.agg (c2 (iN ((e i0).1)) (vE (e i0).2 n))) m)⟩)
open Go.RowKit
theorem sMatOfF{C:Nat->Nat->Rat}{n:Nat}(hn:n<=64):CallOKm Tryz.prog 57 [.one (.var 164 (.agg (c3 (.own 1 0) (.ex (.pointer none)) (.ex sN)))),cC C n] [iN n,.own 1 0] (c2 (.agg (c2 (.sl 1 (mE C n) n) (iN n))) (bX true)) [.one (.var 164 (.agg (c3 (.own 2 0) (.ex (.pointer none)) (.ex sN)))),.dead,cC C n]:=by
 exact zZ (ch:=λB=>[.reg 1 [(3,.callS (c2 (.agg (c2 (.own 0 0) (iN n))) (bX true)) [.one (.row 41 1 (λi0=>.own 1 i0) n),.fam n (λ_=>.row 76 3 (λ_=>.rat 0) n)])],.dec 18 false,.loop 5 (Nat) (λg=>g<=n) (λg=>n-g) (λg=>⟨[(0,iN n),(4,.own 2 0),(6,.own 5 0),(20,.own 1 0),(21,iN n),(22,iN g)],[(0,.one (.var 164 (.agg (c3 (.own 1 0) (.ex (.pointer none)) (.ex sN))) (some (B 0)))),(1,cC C n),(2,.one (.var 39 (.ex (.agg #[.slice none 0 0,.int .i64 0])))),(3,.one (.row 41 1 (λi0=>.own 4 i0) n)),(4,.fam n (λi0=>.row 76 3 (λi1=>.rat (yD g C i0 i1)) n)),(5,.one (.var 39 (.agg (c2 (.own 3 0) (iN n)))))],6⟩) [(0,.id 0),(1,.id 1),(2,.id 2),(3,.id 3),(4,.id 4),(5,.id 5)] (λ_=>[(0,.id 0),(1,.id 1),(2,.id 2),(3,.id 3),(4,.id 4),(5,.id 5)]) (λg=>[.reg 6 [(1,.k g)],.dec 30 false,.reg 9 [(3,.k g),(6,.rowF (λi0=>.rat (yD (g+1) C g i0)) (λi0=>.row 76 3 (λi1=>.rat (yD (g+1) C i0 i1)) n))],.reg 10 [(0,.z ((g+1:Nat):Int))],.ret 11 [(0,.id 0),(2,.id 1)]])]) hMix Tryz.func57 rfl zk zk zk (λB=>_/\((!true)=false)/\(((λX1 X2 X3 X4 X5 X6 X7 X8 X9 X10 X11 X12 X13:Prop=>∃g0:Nat,X1/\X2/\X3/\X4/\X5/\((0:Int)=(g0:Int))/\X6/\X7/\((.pointer none:Value)=.pointer none)/\X8/\X9/\((.agg #[.slice none 0 0,.int .i64 0]:Value)=.agg #[.slice none 0 0,.int .i64 0])/\X10/\(∀j0,j0<n->((j0:Nat)=j0))/\X11/\(∀j0,j0<n->((n:Nat)=n)/\(∀j1,j1<n->((0:Rat)=(yD g0 C j0 j1))))/\X12/\X13/\(g0<=n)) _ _ _ _ _ _ _ _ _ _ _ _ _)/\∀g:Nat,(g<=n)->(((decide ((g:Int)<(n:Int)))=true->_/\(g<n)/\(g<n)/\((!decide ((n:Int)=(n:Int)))=false)/\_/\(g<n)/\(g<n)/\(n<=n)/\(∀j0,j0<n->n<=j0->(.rat (yD (g+1) C g j0):SV)=.rat (yD g C g j0))/\(∀j0,j0<n->((C g j0:Rat)=(yD (g+1) C g j0)))/\(g<n)/\((.row 76 3 (λi0=>.rat (yD (g+1) C g i0)) n:OB)=.row 76 3 (λi0=>.rat (yD (g+1) C g i0)) n)/\(∀t,t<n->t≠g->(.row 76 3 (λi0=>.rat (yD (g+1) C t i0)) n:OB)=.row 76 3 (λi0=>.rat (yD g C t i0)) n)/\_/\((λX1 X2 X3 X4 X5 X6 X7 X8 X9 X10 X11 X12 X13:Prop=>∃g1:Nat,X1/\X2/\X3/\X4/\X5/\(((g+1:Nat):Int)=(g1:Int))/\X6/\X7/\((.pointer none:Value)=.pointer none)/\X8/\X9/\((.agg #[.slice none 0 0,.int .i64 0]:Value)=.agg #[.slice none 0 0,.int .i64 0])/\X10/\(∀j0,j0<n->((j0:Nat)=j0))/\X11/\(∀j0,j0<n->((n:Nat)=n)/\(∀j1,j1<n->((yD (g+1) C j0 j1:Rat)=(yD g1 C j0 j1))))/\X12/\X13/\(g1<=n)/\(n-g1<n-g)) _ _ _ _ _ _ _ _ _ _ _ _ _))/\((decide ((g:Int)<(n:Int)))=false->(_/\(∀j0,j0<n->((n:Nat)=n)/\(∀j1,j1<n->((yD g C j0 j1:Rat)=(C j0 j1)))/\(j0<n))/\_/\_/\_/\_/\((.pointer none:Value)=.pointer none)/\_/\_))))) (λB=>by kernel_rfl)
  (λB=>⟨sMatNew (m:=n) (n:=n) zo zo,rfl,⟨0,(rf (n:Int)),(rf 0),(rf 0),(rf 0),(rf (n:Int)),zo,(rf (some (B 0))),(rf 0),rfl,(rf n),(leS (mE C n) n),rfl,(rf n),(λj0 hj0=>rfl),(rf n),(λj0 hj0=>⟨rfl,(λj1 hj1=>(by rw[uptoR_zero]))⟩),(rf 0),(rf (n:Int)),zo⟩,λg hg=>⟨λhc23=>have hc23:=dT hc23;⟨(rf (g:Int)),zo,zo,zs,(rf (g:Int)),zo,zo,zo,(λj0 hj0 hm=>absurd hj0 (Nat.not_lt.2 hm)),(λj0 hj0=>(by rw[uptoR_at])),zo,rfl,(λt ht hne=>by simp only[uptoR_ne hne]),(wI (g:=g) zo),g+1,(rf (n:Int)),(rf 0),(rf 0),(rf 0),(rf (n:Int)),zo,(rf (some (B 0))),(rf 0),rfl,(rf n),(leS (mE C n) n),rfl,(rf n),(λj0 hj0=>rfl),(rf n),(λj0 hj0=>⟨rfl,(λj1 hj1=>rfl)⟩),(rf 0),(rf (n:Int)),zo,zo⟩,λhc23=>have hc23:=dF hc23;have hi2:g=n:=zo;⟨(rf n),(λj0 hj0=>⟨rfl,(λj1 hj1=>(by rw[hi2];exact uptoR_all zo)),zo⟩),(rf (n:Int)),(rf (true:Bool)),(rf (some (B 0))),(rf 0),rfl,(rf n),(leS (mE C n) n)⟩⟩⟩)
theorem sBMatrixF{C:Nat->Nat->Rat}{n:Nat}(hn:n<=64):CallOKm Tryz.prog 113 [.one (.var 164 (.agg (c3 (.own 1 0) (.ex (.pointer none)) (.ex sN)))),cC C n] [.own 0 0] (.agg (c2 (.sl 1 (mE (trM C) n) n) (iN n))) [.one (.var 164 (.agg (c3 (.own 2 0) (.ex (.pointer none)) (.ex sN)))),.dead,cC C n]:=by
 exact zZ (ch:=λB=>[.reg 1 [(9,.callM [0,1] [.one (.var 164 (.agg (c3 (.own 1 0) (.ex (.pointer none)) (.ex sN))) (some (B 0))),cC C n] [iN n,.own 1 0] (c2 (.agg (c2 (.sl 1 (mE C n) n) (iN n))) (bX true)) [.one (.var 164 (.agg (c3 (.own 2 0) (.ex (.pointer none)) (.ex sN))) (some (B 0))),.dead,cC C n])],.reg 2 [(1,.callS (.agg (c2 (.sl 1 (λi0=>.sl 3 (λi1=>.rat (C i1 i0)) n) n) (iN n))) [])],.ret 2 [(0,.id 0),(2,.id 3)]]) hMix Tryz.func113 rfl zk zk zk (λB=>(CallOKm Tryz.prog 57 [.one (.var 164 (.agg (c3 (.own 1 0) (.ex (.pointer none)) (.ex sN))) (some (B 0))),cC C n] [iN n,.own 1 0] (c2 (.agg (c2 (.sl 1 (mE C n) n) (iN n))) (bX true)) [.one (.var 164 (.agg (c3 (.own 2 0) (.ex (.pointer none)) (.ex sN))) (some (B 0))),.dead,cC C n])/\_/\_/\_/\_/\_/\_/\(_/\(∀j0,j0<n->((n:Nat)=n)/\(∀j1,j1<n->((C j1 j0:Rat)=((trM C) j0 j1))))/\_/\_/\_/\((.pointer none:Value)=.pointer none)/\_/\_)) (λB=>by kernel_rfl)
  (λB=>⟨((sMatOfF (C:=C) zo)).tag0 (b:=B 0),(rf (.one (.var 164 (.agg (c3 (.own 1 0) (.ex (.pointer none)) (.ex sN))) (some (B 0))):Hl)),(rf (cC C n:Hl)),(rf (n:Int)),(rf 1),(rf 0),sMatTurned (m:=n) (n:=n) (q:=C) zo zo,(rf n),(λj0 hj0=>⟨rfl,(λj1 hj1=>rfl)⟩),(rf (n:Int)),(rf (some (B 0))),(rf 0),rfl,(rf n),(leS (mE C n) n)⟩)
theorem sBFactorF{C:Nat->Nat->Rat}{n:Nat}(hn:n<=6)(hD:HtB n n 3 (trM C))(hok:luOK n (trM C) n):CallOKm Tryz.prog 96 [.one (.var 164 (.agg (c3 (.own 1 0) (.ex (.pointer none)) (.ex sN)))),cC C n] [.own 0 0] (bX true) [.one (.var 164 (.agg (c3 (.own 2 0) (.ep (lvE (luS n (trM C) n) n)) (.ex sN)))),.dead,cC C n]:=by
 exact zZ (ch:=λB=>[.reg 1 [(1,.callM [0,1] [.one (.var 164 (.agg (c3 (.own 1 0) (.ex (.pointer none)) (.ex sN))) (some (B 0))),cC C n] [.own 0 0] (.agg (c2 (.sl 1 (mE (trM C) n) n) (iN n))) [.one (.var 164 (.agg (c3 (.own 2 0) (.ex (.pointer none)) (.ex sN))) (some (B 0))),.dead,cC C n]),(2,.callS (c2 (.ep (lvE (luS n (trM C) n) n)) (bX true)) [])],.dec 11 true,.ret 4 [(0,.id 0),(2,.id 2)]]) hMix Tryz.func96 rfl zk zk zk (λB=>(CallOKm Tryz.prog 113 [.one (.var 164 (.agg (c3 (.own 1 0) (.ex (.pointer none)) (.ex sN))) (some (B 0))),cC C n] [.own 0 0] (.agg (c2 (.sl 1 (mE (trM C) n) n) (iN n))) [.one (.var 164 (.agg (c3 (.own 2 0) (.ex (.pointer none)) (.ex sN))) (some (B 0))),.dead,cC C n])/\_/\_/\_/\_/\_/\(true=true)/\(_/\_/\_/\_/\_/\_/\_/\_/\_/\_/\_/\_)) (λB=>by kernel_rfl)
  (λB=>⟨((sBMatrixF (C:=C) zo)).tag0 (b:=B 0),(rf (.one (.var 164 (.agg (c3 (.own 1 0) (.ex (.pointer none)) (.ex sN))) (some (B 0))):Hl)),(rf (cC C n:Hl)),(rf 0),(rf 0),(sLuFactor (n:=n) (q:=(trM C)) zo (lu_hH hD hn) hok),rfl,(rf (true:Bool)),(rf (some (B 0))),(rf 0),(rf n),(leS (mE (luS n (trM C) n).2.1 n) n),(rf n),(leS (mE ((luS n (trM C) n).1) n) n),(rf n),(leS (λi0=>iN ((luS n (trM C) n).2.2.1 i0)) n),(rf ((luS n (trM C) n).2.2.2.2:Bool)),(rf n),(leS (mE C n) n)⟩)
theorem sBFactorX{C:Nat->Nat->Rat}{n:Nat}(hn:n<=6)(hD:HtB n n 3 (trM C))(hok:¬luOK n (trM C) n):CallOKm Tryz.prog 96 [.one (.var 164 (.agg (c3 (.own 1 0) (.ex (.pointer none)) (.ex sN)))),cC C n] [.own 0 0] (bX false) [.one (.var 164 (.agg (c3 (.own 2 0) (.ex (.pointer none)) (.ex sN)))),.dead,cC C n]:=by
 exact zZ (ch:=λB=>[.reg 1 [(1,.callM [0,1] [.one (.var 164 (.agg (c3 (.own 1 0) (.ex (.pointer none)) (.ex sN))) (some (B 0))),cC C n] [.own 0 0] (.agg (c2 (.sl 1 (mE (trM C) n) n) (iN n))) [.one (.var 164 (.agg (c3 (.own 2 0) (.ex (.pointer none)) (.ex sN))) (some (B 0))),.dead,cC C n]),(2,.callS (c2 (.ex (.pointer none)) (bX false)) [])],.dec 11 false,.ret 4 [(0,.id 0),(2,.id 2)]]) hMix Tryz.func96 rfl zk zk zk (λB=>(CallOKm Tryz.prog 113 [.one (.var 164 (.agg (c3 (.own 1 0) (.ex (.pointer none)) (.ex sN))) (some (B 0))),cC C n] [.own 0 0] (.agg (c2 (.sl 1 (mE (trM C) n) n) (iN n))) [.one (.var 164 (.agg (c3 (.own 2 0) (.ex (.pointer none)) (.ex sN))) (some (B 0))),.dead,cC C n])/\_/\_/\_/\_/\_/\(false=false)/\(_/\_/\_/\((.pointer none:Value)=.pointer none)/\_/\_)) (λB=>by kernel_rfl)
  (λB=>⟨((sBMatrixF (C:=C) zo)).tag0 (b:=B 0),(rf (.one (.var 164 (.agg (c3 (.own 1 0) (.ex (.pointer none)) (.ex sN))) (some (B 0))):Hl)),(rf (cC C n:Hl)),(rf 0),(rf 0),(sLuFactorSing (n:=n) (q:=(trM C)) zo (lu_hH hD hn) hok),rfl,(rf (false:Bool)),(rf (some (B 0))),(rf 0),rfl,(rf n),(leS (mE C n) n)⟩)
theorem sBFactor{D C:Nat->Nat->Rat}{e:Etas}{n m:Nat}(hn:n<=6)(hD:HtB n n 3 (trM C))(hok:luOK n (trM C) n):CallOKm Tryz.prog 96 [.one (bV 1 2 (luS n D n) n),cC C n,.one (eE e n m)] [.own 0 0] (bX true) [.one (.var 164 (.agg (c3 (.own 3 0) (.ep (lvE (luS n (trM C) n) n)) (.ex sN)))),.dead,.dead,cC C n]:=by
 exact zZ (ch:=λB=>[.reg 1 [(1,.callM [0,1,2] [.one (bV 1 2 (luS n D n) n (some (B 0))),cC C n,.one (eE e n m)] [.own 0 0] (.agg (c2 (.sl 1 (λi0=>.sl 3 (λi1=>.rat (trM C i0 i1)) n) n) (iN n))) [.one (bV 3 4 (luS n D n) n (some (B 0))),.dead,.dead,cC C n,.one (eE e n m)]),(2,.callS (c2 (.ep (lvE (luS n (trM C) n) n)) (bX true)) [])],.dec 11 true,.ret 4 [(0,.id 0),(3,.id 3)]]) hMix Tryz.func96 rfl zk zk zk (λB=>_/\_/\_/\_/\_/\_/\_/\(true=true)/\(_/\_/\_/\_/\_/\_/\_/\_/\_/\_/\_/\_)) (λB=>by kernel_rfl)
  (λB=>⟨((sBMatrix (D:=D) (C:=C) (e:=e) (m:=m) (n:=n) zo)).tag0 (b:=B 0),(rf (.one (bV 1 2 (luS n D n) n (some (B 0))):Hl)),(rf (cC C n:Hl)),(rf (.one (eE e n m):Hl)),(rf 0),(rf 0),(sLuFactor (n:=n) (q:=(trM C)) zo (lu_hH hD hn) hok),rfl,(rf (true:Bool)),(rf (some (B 0))),(rf 0),(rf n),(leS (mE (luS n (trM C) n).2.1 n) n),(rf n),(leS (mE ((luS n (trM C) n).1) n) n),(rf n),(leS (λi0=>iN ((luS n (trM C) n).2.2.1 i0)) n),(rf ((luS n (trM C) n).2.2.2.2:Bool)),(rf n),(leS (mE C n) n)⟩)
open Go.RowKit
@[simp] theorem sCol_sCol:(sCol.toList==sCol.toList)=true:=beq_self_eq_true _
@[simp] theorem sNo_sNo:(sNo.toList==sNo.toList)=true:=beq_self_eq_true _
@[simp] theorem sCol_sNo:(sCol.toList==sNo.toList)=false:=by
 have h1:sNo.toList=[]:=by simp[ByteArray.toList,ByteArray.toList.loop,ByteArray.size]
 have h2:sCol.toList.length≠0:=by simp[ByteArray.toList,ByteArray.toList.loop,ByteArray.size]
 rw[h1]
 cases h:sCol.toList with
 | nil=>rw[h] at h2;exact absurd rfl h2
 | cons a l=>rfl
theorem sWrap{s:ByteArray}{k n:Int}:CallOK Tryz.prog 60 [.ex (.iface 57 (.int .i64 n)),.ex (.string s),.ex (.int .i64 k)] (.ifc 158 (.ep (.agg (c3 (.ex (.string s)) (.ex (.int .i64 k)) (.ex (.iface 57 (.int .i64 n))))))) []:=by
 exact kP (ch:=[.dec 8 false]) Tryz.func60 ((false=false)/\(((.string s:Value)=.string s)/\_/\((.iface 57 (.int .i64 n):Value)=.iface 57 (.int .i64 n))))
  ⟨rfl,rfl,(rf (k:Int)),rfl⟩
theorem sToldF{n k:Int}:CallOK Tryz.prog 16 [.ifc 158 (.ep (.agg (c3 (.ex (.string sCol)) (.ex (.int .i64 k)) (.ex (.iface 57 (.int .i64 n)))))),.ex (.int .i64 n),.ex (.string sCol),.ex (.int .i64 k)] (bX true) []:=by
 exact kP (ch:=[.reg 1 [(1,.callS (c3 (.ex (.string sCol)) (.ex (.int .i64 k)) (bX true)) [])],.reg 2 [(1,.callS (.ex (.int .i64 n)) []),(9,.skip)],.dec 27 false,.reg 4 [(10,.sure .no),(11,.skip)]]) Tryz.func16 ((CallOK Tryz.prog 66 [.ifc 158 (.ep (.agg (c3 (.ex (.string sCol)) (.ex (.int .i64 k)) (.ex (.iface 57 (.int .i64 n))))))] (c3 (.ex (.string sCol)) (.ex (.int .i64 k)) (bX true)) [])/\(CallOK Tryz.prog 67 [.ifc 158 (.ep (.agg (c3 (.ex (.string sCol)) (.ex (.int .i64 k)) (.ex (.iface 57 (.int .i64 n))))))] (.ex (.int .i64 n)) [])/\_/\_/\_/\((!decide ((n:Int)=n))=false)/\(((!decide ((n:Int)=n))==false)=true)/\((!(true==(!((sCol).toList==(sNo).toList))))=false)/\_/\_/\_/\_/\_/\_/\(((!true)==false)=true->((sCol).toList==(sCol).toList)=true)/\(((!true)==false)=true->((((!true)==false)&&true)&&(((sCol).toList==(sCol).toList)==true))=true)/\((!true)=false)/\(((!true)==false)=true)/\(((decide ((k:Int)=k):Bool)=true)))
  ⟨sPlaceF,sNumberF,(idB ((!decide ((n:Int)=n))==false)),(idB ((!decide ((n:Int)=n))==false)),(idB ((!decide ((n:Int)=n))==false)),(by first | (simp;done) | (simp at hg)),(by first | (simp;done) | (simp at hg)),(by first | (simp;done) | (simp at hg)),(idB ((!true)==false)),(idB ((!true)==false)),(idB ((!true)==false)),(idB ((((!true)==false)&&true)&&(((sCol).toList==(sCol).toList)==true))),(idB ((((!true)==false)&&true)&&(((sCol).toList==(sCol).toList)==true))),(idB ((!true)==false)),(λhg=>(by first | (simp;done) | (simp at hg))),(λhg=>(by first | (simp;done) | (simp at hg))),(by first | (simp;done) | (simp at hg)),(by first | (simp;done) | (simp at hg)),(by first | (simp;done) | (simp at hg))⟩
open Go.RowKit
theorem sBNew{C:Nat->Nat->Rat}{e:Etas}{n:Nat}(hn:n<=6)(hD:HtB n n 3 (trM C))(hok:luOK n (trM C) n):CallOK Tryz.prog 61 [.sl 1 (mE C n) n] (c2 (.own 0 0) (.ex (.nilIface))) [.one (bV 1 2 (luS n (trM C) n) n),cC C n,.one (eE e n 0)]:=by
 exact kP (ch:=[.loop 3 (Nat) (λg=>g<=n) (λg=>n-g) (λg=>⟨[(0,.sl 1 (mE C n) n),(4,.own 0 0),(9,.sl 1 (mE C n) n),(10,iN n),(11,iN g)],[(0,.one (.var 164 (.agg (c3 (.own 1 0) (.ex (.pointer none)) (.ex sN))))),(1,.one (.row 41 1 (mE C n) g))],2⟩) [(0,.id 0),(1,.nil)] (λ_=>[(0,.id 0),(1,.id 2)]) (λg=>[.reg 4 [(1,.k g)],.dec 25 false,.reg 7 [(6,.callS (.sl 3 (λi0=>.rat (C g i0)) n) []),(8,.row 0 (mE C n))],.reg 8 [(0,.z ((g+1:Nat):Int))],.conv 9 [(0,.id 0),(1,.id 1)] ⟨[(4,.own 0 0)],[(0,.one (.var 164 (.agg (c3 (.own 1 0) (.ex (.pointer none)) (.ex sN))))),(1,cC C n)],2⟩,.reg 9 [(1,.callM [0,1] [.one (.var 164 (.agg (c3 (.own 1 0) (.ex (.pointer none)) (.ex sN)))),cC C n] [.own 0 0] (bX true) [.one (.var 164 (.agg (c3 (.own 2 0) (.ep (lvE (luS n (trM C) n) n)) (.ex sN)))),.dead,cC C n])],.dec 43 false,.ret 11 [(0,.id 0),(1,.id 2),(2,.nil)]])]) Tryz.func61 ((∀j0,j0<n->(∀j1,j1<n->True))/\(((λX1 X2 X3 X4 X5 X6 X7:Prop=>∃g0:Nat,X1/\X2/\X3/\X4/\X5/\X6/\((0:Int)=(g0:Int))/\X7/\((.pointer none:Value)=.pointer none)/\((g0:Nat)=0)/\(g0<=n)) _ _ _ _ _ _ _)/\∀g:Nat,(g<=n)->(((decide ((g:Int)<(n:Int)))=true->_/\(g<n)/\_/\_/\((!(!decide ((n:Int)=(n:Int))))=true->((!decide ((n:Int)=(n:Int)))==false)=true)/\((bif (!decide ((n:Int)=(n:Int))) then true else(decide ((64:Int)<(n:Int))))=false)/\_/\(g+1<=68719476736)/\_/\_/\_/\((λX1 X2 X3 X4 X5 X6 X7 X8:Prop=>∃g1:Nat,X1/\X2/\X3/\X4/\X5/\X6/\(((g+1:Nat):Int)=(g1:Int))/\X7/\((.pointer none:Value)=.pointer none)/\((g+1:Nat)=g1)/\X8/\(g1<=n)/\(n-g1<n-g)) _ _ _ _ _ _ _ _))/\((decide ((g:Int)<(n:Int)))=false->_/\_/\((.pointer none:Value)=.pointer none)/\((g:Nat)=n)/\_/\(CallOKm Tryz.prog 96 [.one (.var 164 (.agg (c3 (.own 1 0) (.ex (.pointer none)) (.ex sN)))),cC C n] [.own 0 0] (bX true) [.one (.var 164 (.agg (c3 (.own 2 0) (.ep (lvE (luS n (trM C) n) n)) (.ex sN)))),.dead,cC C n])/\_/\_/\_/\_/\((!true)=false)/\(_/\((.nilIface:Value)=.nilIface)/\_/\_/\_/\_/\_/\_/\_/\_/\_/\_/\_/\_)))))
  ⟨(λ_ _=>(λ_ _=>trivial)),⟨0,(rf n),(leS (mE C n) n),(rf 0),(rf n),(leS (mE C n) n),(rf (n:Int)),zo,(rf 0),rfl,zo,zo⟩,λg hg=>⟨λhc12=>have hc12:=dT hc12;⟨(rf (g:Int)),zo,(idB ((!decide ((n:Int)=(n:Int)))==false)),(idB ((!decide ((n:Int)=(n:Int)))==false)),zs,(by simp;omega),(kS (n:=n) (q:=(λi=>C g i)) zo).frzV,zo,(oldS (mE C n) g),(newS (mE C n) g),(wI (g:=g) zo),g+1,(rf n),(leS (mE C n) n),(rf 0),(rf n),(leS (mE C n) n),(rf (n:Int)),zo,(rf 0),rfl,zo,(leS (mE C n) (g+1)),zo,zo⟩,λhc12=>have hc12:=dF hc12;have hi2:g=n:=zo;⟨(rf 0),(rf 0),rfl,hi2,(leS (mE C n) g),(sBFactorF hn hD hok),(rf (.one (.var 164 (.agg (c3 (.own 1 0) (.ex (.pointer none)) (.ex sN)))):Hl)),(rf (cC C n:Hl)),(rf 0),(rf 0),rfl,(rf 0),rfl,(rf 0),(rf n),(leS (mE (luS n (trM C) n).2.1 n) n),(rf n),(leS (mE ((luS n (trM C) n).1) n) n),(rf n),(leS (λi0=>iN ((luS n (trM C) n).2.2.1 i0)) n),(rf ((luS n (trM C) n).2.2.2.2:Bool)),(rf 0),(rf n),(leS (mE C n) n),(rf 0)⟩⟩⟩
theorem sBNew_sing{C:Nat->Nat->Rat}{n:Nat}(hn:n<=6)(hD:HtB n n 3 (trM C))(hok:¬luOK n (trM C) n):CallOK Tryz.prog 61 [.sl 1 (mE C n) n] (c2 (.ex (.pointer none)) (.ex (.iface 57 (.int .i64 140)))) []:=by
 exact kP (ch:=[.loop 3 (Nat) (λg=>g<=n) (λg=>n-g) (λg=>⟨[(0,.sl 1 (mE C n) n),(4,.own 0 0),(9,.sl 1 (mE C n) n),(10,iN n),(11,iN g)],[(0,.one (.var 164 (.agg (c3 (.own 1 0) (.ex (.pointer none)) (.ex sN))))),(1,.one (.row 41 1 (mE C n) g))],2⟩) [(0,.id 0),(1,.nil)] (λ_=>[(0,.id 0),(1,.id 2)]) (λg=>[.reg 4 [(1,.k g)],.dec 25 false,.reg 7 [(6,.callS (.sl 3 (λi0=>.rat (C g i0)) n) []),(8,.row 0 (mE C n))],.reg 8 [(0,.z ((g+1:Nat):Int))],.conv 9 [(0,.id 0),(1,.id 1)] ⟨[(4,.own 0 0)],[(0,.one (.var 164 (.agg (c3 (.own 1 0) (.ex (.pointer none)) (.ex sN))))),(1,cC C n)],2⟩,.reg 9 [(1,.callM [0,1] [.one (.var 164 (.agg (c3 (.own 1 0) (.ex (.pointer none)) (.ex sN)))),cC C n] [.own 0 0] (bX false) [.one (.var 164 (.agg (c3 (.own 2 0) (.ex (.pointer none)) (.ex sN)))),.dead,cC C n])],.dec 43 true])]) Tryz.func61 ((∀j0,j0<n->(∀j1,j1<n->True))/\(((λX1 X2 X3 X4 X5 X6 X7:Prop=>∃g0:Nat,X1/\X2/\X3/\X4/\X5/\X6/\((0:Int)=(g0:Int))/\X7/\((.pointer none:Value)=.pointer none)/\((g0:Nat)=0)/\(g0<=n)) _ _ _ _ _ _ _)/\∀g:Nat,(g<=n)->(((decide ((g:Int)<(n:Int)))=true->_/\(g<n)/\_/\_/\((!(!decide ((n:Int)=(n:Int))))=true->((!decide ((n:Int)=(n:Int)))==false)=true)/\((bif (!decide ((n:Int)=(n:Int))) then true else(decide ((64:Int)<(n:Int))))=false)/\_/\(g+1<=68719476736)/\_/\_/\_/\((λX1 X2 X3 X4 X5 X6 X7 X8:Prop=>∃g1:Nat,X1/\X2/\X3/\X4/\X5/\X6/\(((g+1:Nat):Int)=(g1:Int))/\X7/\((.pointer none:Value)=.pointer none)/\((g+1:Nat)=g1)/\X8/\(g1<=n)/\(n-g1<n-g)) _ _ _ _ _ _ _ _))/\((decide ((g:Int)<(n:Int)))=false->_/\_/\((.pointer none:Value)=.pointer none)/\((g:Nat)=n)/\_/\(CallOKm Tryz.prog 96 [.one (.var 164 (.agg (c3 (.own 1 0) (.ex (.pointer none)) (.ex sN)))),cC C n] [.own 0 0] (bX false) [.one (.var 164 (.agg (c3 (.own 2 0) (.ex (.pointer none)) (.ex sN)))),.dead,cC C n])/\_/\_/\_/\_/\((!false)=true)/\(((.pointer none:Value)=.pointer none)/\((.iface 57 (.int .i64 140):Value)=.iface 57 (.int .i64 140)))))))
  ⟨(λ_ _=>(λ_ _=>trivial)),⟨0,(rf n),(leS (mE C n) n),(rf 0),(rf n),(leS (mE C n) n),(rf (n:Int)),zo,(rf 0),rfl,zo,zo⟩,λg hg=>⟨λhc12=>have hc12:=dT hc12;⟨(rf (g:Int)),zo,(idB ((!decide ((n:Int)=(n:Int)))==false)),(idB ((!decide ((n:Int)=(n:Int)))==false)),zs,(by simp;omega),(kS (n:=n) (q:=(λi=>C g i)) zo).frzV,zo,(oldS (mE C n) g),(newS (mE C n) g),(wI (g:=g) zo),g+1,(rf n),(leS (mE C n) n),(rf 0),(rf n),(leS (mE C n) n),(rf (n:Int)),zo,(rf 0),rfl,zo,(leS (mE C n) (g+1)),zo,zo⟩,λhc12=>have hc12:=dF hc12;have hi2:g=n:=zo;⟨(rf 0),(rf 0),rfl,hi2,(leS (mE C n) g),(sBFactorX hn hD hok),(rf (.one (.var 164 (.agg (c3 (.own 1 0) (.ex (.pointer none)) (.ex sN)))):Hl)),(rf (cC C n:Hl)),(rf 0),(rf 0),rfl,rfl,rfl⟩⟩⟩
open Go.RowKit
def setE (e:Etas) (m k:Nat) (w:Nat->Rat) (t:Nat):Nat×(Nat->Rat):=if t=m then(k,w) else e t
theorem setE_self{e:Etas}{m k:Nat}{w:Nat->Rat}:setE e m k w m=(k,w):=if_pos rfl
theorem setE_ne{e:Etas}{m k t:Nat}{w:Nat->Rat}(h:t≠m):setE e m k w t=e t:=if_neg h
def setC (C:Nat->Nat->Rat) (k:Nat) (v:Nat->Rat) (j:Nat):Nat->Rat:=if j=k then v else C j
theorem setC_self{C:Nat->Nat->Rat}{k:Nat}{v:Nat->Rat}:setC C k v k=v:=if_pos rfl
theorem setC_ne{C:Nat->Nat->Rat}{k j:Nat}{v:Nat->Rat}(h:j≠k):setC C k v j=C j:=if_neg h
theorem sBReplace_arg{D C:Nat->Nat->Rat}{e:Etas}{n m:Nat}{v:Nat->Rat}{k:Int}{l:Nat}(hk:k<0∨(n:Int)<=k):CallOKm Tryz.prog 90 [.one (bV 1 2 (luS n D n) n),cC C n,.one (eE e n m)] [.own 0 0,.ex (.int .i64 k),.sl 3 (λi0=>.rat (v i0)) l] (.ifc 158 (.ep (.agg (c3 (.ex (.string sCol)) (.ex (.int .i64 k)) (.ex (.iface 57 (.int .i64 1))))))) [.one (bV 3 4 (luS n D n) n),.dead,.dead,cC C n,.one (eE e n m)]:=by
 exact zZ (ch:=λB=>[.dec 19 true,.reg 2 [(2,.callS (.ifc 158 (.ep (.agg (c3 (.ex (.string sCol)) (.ex (.int .i64 k)) (.ex (.iface 57 (.int .i64 1))))))) [])],.ret 2 [(0,.id 0),(3,.id 1),(4,.id 2)]]) hMix Tryz.func90 rfl zk zk zk (λB=>_/\_/\_/\_/\_/\_/\((!(decide ((k:Int)<0)))=true->((decide ((k:Int)<0))==false)=true)/\((bif (decide ((k:Int)<0)) then true else(decide ((n:Int)<=k)))=true)/\(CallOK Tryz.prog 60 [.ex (.iface 57 (.int .i64 1)),.ex (.string sCol),.ex (.int .i64 k)] (.ifc 158 (.ep (.agg (c3 (.ex (.string sCol)) (.ex (.int .i64 k)) (.ex (.iface 57 (.int .i64 1))))))) [])/\(((.string sCol:Value)=.string sCol)/\_/\((.iface 57 (.int .i64 1):Value)=.iface 57 (.int .i64 1))/\_/\_/\_/\_/\_/\_/\_/\_/\_/\_/\_/\_/\_/\_)) (λB=>by kernel_rfl)
  (λB=>⟨(idB ((decide ((k:Int)<0))==false)),(idB ((decide ((k:Int)<0))==false)),(idB ((decide ((k:Int)<0))==false)),(idB ((decide ((k:Int)<0))==false)),(idB ((decide ((k:Int)<0))==false)),(idB ((decide ((k:Int)<0))==false)),zs,(by simp;omega),sWrap,rfl,(rf (k:Int)),rfl,(rf (some (B 0))),(rf 0),(rf n),(leS (mE (luS n D n).2.1 n) n),(rf n),(leS (mE ((luS n D n).1) n) n),(rf n),(leS (λi0=>iN ((luS n D n).2.2.1 i0)) n),(rf ((luS n D n).2.2.2.2:Bool)),(rf 0),(rf n),(leS (mE C n) n),(rf m),(leS (λi0=>.agg (c2 (iN ((e i0).1)) (vE (e i0).2 n))) m)⟩)
theorem sBReplace_len{D C:Nat->Nat->Rat}{e:Etas}{n m:Nat}{v:Nat->Rat}{k:Nat}{l:Nat}(hk:k<n)(hl:l≠n):CallOKm Tryz.prog 90 [.one (bV 1 2 (luS n D n) n),cC C n,.one (eE e n m)] [.own 0 0,iN k,.sl 3 (λi0=>.rat (v i0)) l] (.ifc 158 (.ep (.agg (c3 (.ex (.string sCol)) (iN k) (.ex (.iface 57 (.int .i64 2))))))) [.one (bV 3 4 (luS n D n) n),.dead,.dead,cC C n,.one (eE e n m)]:=by
 exact zZ (ch:=λB=>[.dec 19 false,.reg 3 [(2,.callM [0,1,2] [.one (bV 1 2 (luS n D n) n (some (B 0))),cC C n,.one (eE e n m)] [.own 0 0,.sl 3 (λi0=>.rat (v i0)) l] (c2 (.sl 3 (λ_=>.rat 0) 0) (bX false)) [.one (bV 3 4 (luS n D n) n (some (B 0))),.dead,.dead,cC C n,.one (eE e n m)])],.dec 30 true,.reg 5 [(2,.callS (.ifc 158 (.ep (.agg (c3 (.ex (.string sCol)) (iN k) (.ex (.iface 57 (.int .i64 2))))))) [])],.ret 5 [(0,.id 0),(3,.id 3),(4,.id 4)]]) hMix Tryz.func90 rfl zk zk zk (λB=>_/\_/\_/\_/\_/\_/\((!(decide ((k:Int)<0)))=true->((decide ((k:Int)<0))==false)=true)/\((bif (decide ((k:Int)<0)) then true else(decide ((n:Int)<=(k:Int))))=false)/\_/\_/\_/\_/\_/\_/\_/\_/\((!false)=true)/\(CallOK Tryz.prog 60 [.ex (.iface 57 (.int .i64 2)),.ex (.string sCol),iN k] (.ifc 158 (.ep (.agg (c3 (.ex (.string sCol)) (iN k) (.ex (.iface 57 (.int .i64 2))))))) [])/\(((.string sCol:Value)=.string sCol)/\_/\((.iface 57 (.int .i64 2):Value)=.iface 57 (.int .i64 2))/\_/\_/\_/\_/\_/\_/\_/\_/\_/\_/\_/\_/\_/\_)) (λB=>by kernel_rfl)
  (λB=>⟨(idB ((decide ((k:Int)<0))==false)),(idB ((decide ((k:Int)<0))==false)),(idB ((decide ((k:Int)<0))==false)),(idB ((decide ((k:Int)<0))==false)),(idB ((decide ((k:Int)<0))==false)),(idB ((decide ((k:Int)<0))==false)),zs,(by simp;omega),((sBSolve_no (D:=D) (C:=C) (e:=e) (m:=m) (n:=n) (v:=v) hl)).tag0 (b:=B 0),(rf (.one (bV 1 2 (luS n D n) n (some (B 0))):Hl)),(rf (cC C n:Hl)),(rf (.one (eE e n m):Hl)),(rf 0),(rf 0),(rf l),(leS (λi0=>.rat (v i0)) l),rfl,sWrap,rfl,(rf (k:Int)),rfl,(rf (some (B 0))),(rf 0),(rf n),(leS (mE (luS n D n).2.1 n) n),(rf n),(leS (mE ((luS n D n).1) n) n),(rf n),(leS (λi0=>iN ((luS n D n).2.2.1 i0)) n),(rf ((luS n D n).2.2.2.2:Bool)),(rf 0),(rf n),(leS (mE C n) n),(rf m),(leS (λi0=>.agg (c2 (iN ((e i0).1)) (vE (e i0).2 n))) m)⟩)
theorem sBReplace_sing{D C:Nat->Nat->Rat}{e:Etas}{n m:Nat}{v:Nat->Rat}{k:Nat}(hn:n<=6)(hok:luOK n D n)(hD:HtB n n 3 D)(H:EtaOK n e m)(hw:∀t,t<m->∀j,j<n->htq ((e t).2 j)<=4000)(hm:m<=8)(hv:∀j,j<n->htq (v j)<=3)(hx:∀t,t<=m->∀j,j<n->htq (zK (basX n D v) e t j)<=4000)(hk:k<n)(hz:(zK (basX n D v) e m) k=0):CallOKm Tryz.prog 90 [.one (bV 1 2 (luS n D n) n),cC C n,.one (eE e n m)] [.own 0 0,iN k,.sl 3 (λi0=>.rat (v i0)) n] (.ifc 158 (.ep (.agg (c3 (.ex (.string sCol)) (iN k) (.ex (.iface 57 (.int .i64 140))))))) [.one (bV 3 4 (luS n D n) n),.dead,.dead,cC C n,.one (eE e n m)]:=by
 exact zZ (ch:=λB=>[.dec 19 false,.reg 3 [(2,.callM [0,1,2] [.one (bV 1 2 (luS n D n) n (some (B 0))),cC C n,.one (eE e n m)] [.own 0 0,.sl 3 (λi0=>.rat (v i0)) n] (c2 (.own 5 0) (bX true)) [.one (bV 3 4 (luS n D n) n (some (B 0))),.dead,.dead,cC C n,.one (eE e n m),.one (.row 76 3 (λi0=>.rat ((zK (basX n D v) e m) i0)) n)])],.dec 30 false,.reg 6 [(2,.k k),(4,.callS (bX (decide ((zK (basX n D v) e m) k=0))) [])],.dec 38 true,.reg 7 [(2,.callS (.ifc 158 (.ep (.agg (c3 (.ex (.string sCol)) (iN k) (.ex (.iface 57 (.int .i64 140))))))) [])],.ret 7 [(0,.id 0),(3,.id 3),(4,.id 4)]]) hMix Tryz.func90 rfl zk zk zk (λB=>_/\_/\_/\_/\_/\_/\((!(decide ((k:Int)<0)))=true->((decide ((k:Int)<0))==false)=true)/\((bif (decide ((k:Int)<0)) then true else(decide ((n:Int)<=(k:Int))))=false)/\_/\_/\_/\_/\_/\_/\_/\_/\((!true)=false)/\_/\(k<n)/\(k<n)/\_/\((decide ((zK (basX n D v) e m) k=0))=true)/\(CallOK Tryz.prog 60 [.ex (.iface 57 (.int .i64 140)),.ex (.string sCol),iN k] (.ifc 158 (.ep (.agg (c3 (.ex (.string sCol)) (iN k) (.ex (.iface 57 (.int .i64 140))))))) [])/\(((.string sCol:Value)=.string sCol)/\_/\((.iface 57 (.int .i64 140):Value)=.iface 57 (.int .i64 140))/\_/\_/\_/\_/\_/\_/\_/\_/\_/\_/\_/\_/\_/\_)) (λB=>by kernel_rfl)
  (λB=>⟨(idB ((decide ((k:Int)<0))==false)),(idB ((decide ((k:Int)<0))==false)),(idB ((decide ((k:Int)<0))==false)),(idB ((decide ((k:Int)<0))==false)),(idB ((decide ((k:Int)<0))==false)),(idB ((decide ((k:Int)<0))==false)),zs,(by simp;omega),((sBSolve (D:=D) (C:=C) (e:=e) (m:=m) (n:=n) (v:=v) hn hok hD H hw zo hv hx)).tag0 (b:=B 0),(rf (.one (bV 1 2 (luS n D n) n (some (B 0))):Hl)),(rf (cC C n:Hl)),(rf (.one (eE e n m):Hl)),(rf 0),(rf 0),(rf n),(leS (λi0=>.rat (v i0)) n),rfl,(rf (k:Int)),zo,zo,sRatZero (q:=(zK (basX n D v) e m) k),(decide_eq_true hz),sWrap,rfl,(rf (k:Int)),rfl,(rf (some (B 0))),(rf 0),(rf n),(leS (mE (luS n D n).2.1 n) n),(rf n),(leS (mE ((luS n D n).1) n) n),(rf n),(leS (λi0=>iN ((luS n D n).2.2.1 i0)) n),(rf ((luS n D n).2.2.2.2:Bool)),(rf 0),(rf n),(leS (mE C n) n),(rf m),(leS (λi0=>.agg (c2 (iN ((e i0).1)) (vE (e i0).2 n))) m)⟩)
theorem sBReplace{D C:Nat->Nat->Rat}{e:Etas}{n m:Nat}{v:Nat->Rat}{k:Nat}(hn:n<=6)(hok:luOK n D n)(hD:HtB n n 3 D)(H:EtaOK n e m)(hw:∀t,t<m->∀j,j<n->htq ((e t).2 j)<=4000)(hm:m<=8)(hv:∀j,j<n->htq (v j)<=3)(hx:∀t,t<=m->∀j,j<n->htq (zK (basX n D v) e t j)<=4000)(hk:k<n)(hz:(zK (basX n D v) e m) k≠0)(hm2:m<8):CallOKm Tryz.prog 90 [.one (bV 1 2 (luS n D n) n),cC C n,.one (eE e n m)] [.own 0 0,iN k,.sl 3 (λi0=>.rat (v i0)) n] (.ex (.nilIface)) [.one (bV 3 4 (luS n D n) n),.dead,.dead,cC (setC C k v) n,.one (eE (setE e m k (zK (basX n D v) e m)) n (m+1))]:=by
 exact zZ (ch:=λB=>[.dec 19 false,.reg 3 [(2,.callM [0,1,2] [.one (bV 1 2 (luS n D n) n (some (B 0))),cC C n,.one (eE e n m)] [.own 0 0,.sl 3 (λi0=>.rat (v i0)) n] (c2 (.own 5 0) (bX true)) [.one (bV 3 4 (luS n D n) n (some (B 0))),.dead,.dead,cC C n,.one (eE e n m),.one (.row 76 3 (λi0=>.rat ((zK (basX n D v) e m) i0)) n)])],.dec 30 false,.reg 6 [(2,.k k),(4,.callS (bX (decide ((zK (basX n D v) e m) k=0))) [])],.dec 38 false,.conv 8 [(0,.id 0),(1,.id 3),(2,.id 4)] ⟨[(0,.own 0 0),(1,iN k),(2,.sl 3 (λi0=>.rat (v i0)) n),(7,.sl 3 (λi0=>.rat ((zK (basX n D v) e m) i0)) n)],[(0,.one (bV 1 2 (luS n D n) n (some (B 0)))),(1,cC C n),(2,.one (eE e n m))],3⟩,.reg 8 [(6,.callS (vE v n) []),(7,.k k),(8,.row 0 (mE (setC C k v) n))],.reg 9 [(9,.row 0 (λi0=>.agg (c2 (iN (((setE e m k (zK (basX n D v) e m)) i0).1)) (vE ((setE e m k (zK (basX n D v) e m)) i0).2 n))))],.dec 67 false,.ret 12 [(0,.id 0),(3,.id 1),(4,.id 3)]]) hMix Tryz.func90 rfl zk zk zk (λB=>_/\_/\_/\_/\_/\_/\((!(decide ((k:Int)<0)))=true->((decide ((k:Int)<0))==false)=true)/\((bif (decide ((k:Int)<0)) then true else(decide ((n:Int)<=(k:Int))))=false)/\_/\_/\_/\_/\_/\_/\_/\_/\((!true)=false)/\_/\(k<n)/\(k<n)/\_/\((decide ((zK (basX n D v) e m) k=0))=false)/\_/\_/\_/\_/\_/\_/\_/\_/\_/\_/\_/\_/\_/\_/\_/\_/\_/\_/\_/\_/\_/\_/\(k<n)/\(k<n)/\(((n:Nat)=n)/\(∀j0,j0<n->((v j0:Rat)=((setC C k v) k j0))))/\(∀t,t<n->t≠k->(.sl 3 (λi0=>.rat ((setC C k v) t i0)) n:SV)=.sl 3 (λi0=>.rat (C t i0)) n)/\(m+1<=68719476736)/\(∀j0,j0<m->(.agg (c2 (iN (((setE e m k (zK (basX n D v) e m)) j0).1)) (vE ((setE e m k (zK (basX n D v) e m)) j0).2 n)):SV)=.agg (c2 (iN ((e j0).1)) (vE (e j0).2 n)))/\(∀j0,j0<1->((k:Int)=((((setE e m k (zK (basX n D v) e m)) (m+j0)).1:Nat):Int))/\((n:Nat)=n)/\(∀j1,j1<n->(((zK (basX n D v) e m) j1:Rat)=(((setE e m k (zK (basX n D v) e m)) (m+j0)).2 j1))))/\((decide ((8:Int)<((m+1:Nat):Int)))=false)/\(((.nilIface:Value)=.nilIface)/\_/\_/\_/\_/\_/\_/\_/\_/\_/\_/\_/\_/\_/\_)) (λB=>by kernel_rfl)
  (λB=>⟨(idB ((decide ((k:Int)<0))==false)),(idB ((decide ((k:Int)<0))==false)),(idB ((decide ((k:Int)<0))==false)),(idB ((decide ((k:Int)<0))==false)),(idB ((decide ((k:Int)<0))==false)),(idB ((decide ((k:Int)<0))==false)),zs,(by simp;omega),((sBSolve (D:=D) (C:=C) (e:=e) (m:=m) (n:=n) (v:=v) hn hok hD H hw zo hv hx)).tag0 (b:=B 0),(rf (.one (bV 1 2 (luS n D n) n (some (B 0))):Hl)),(rf (cC C n:Hl)),(rf (.one (eE e n m):Hl)),(rf 0),(rf 0),(rf n),(leS (λi0=>.rat (v i0)) n),rfl,(rf (k:Int)),zo,zo,sRatZero (q:=(zK (basX n D v) e m) k),(decide_eq_false hz),(rf 0),(rf (k:Int)),(rf n),(leS (λi0=>.rat (v i0)) n),(rf n),(leS (λi0=>.rat ((zK (basX n D v) e m) i0)) n),(rf (some (B 0))),(rf 0),(rf n),(leS (mE (luS n D n).2.1 n) n),(rf n),(leS (mE ((luS n D n).1) n) n),(rf n),(leS (λi0=>iN ((luS n D n).2.2.1 i0)) n),(rf ((luS n D n).2.2.2.2:Bool)),(rf 0),(rf n),(leS (mE C n) n),(rf m),(leS (λi0=>.agg (c2 (iN ((e i0).1)) (vE (e i0).2 n))) m),(kS (n:=n) (q:=v) zo).frzV,(rf (k:Int)),zo,zo,⟨rfl,(λj0 hj0=>(by rw[setC_self]))⟩,(λt ht hne=>by simp only[setC_ne hne]),zo,(λj0 hj0=>by simp only[setE_ne (Nat.ne_of_lt hj0)]),(λj0 hj0=>by obtain rfl:j0=0:=zo;simp[setE_self]),(by simp;omega),rfl,(rf (some (B 0))),(rf 0),(rf n),(leS (mE (luS n D n).2.1 n) n),(rf n),(leS (mE ((luS n D n).1) n) n),(rf n),(leS (λi0=>iN ((luS n D n).2.2.1 i0)) n),(rf ((luS n D n).2.2.2.2:Bool)),(rf 0),(rf n),(leS (mE (setC C k v) n) n),(rf (m+1:Nat)),(leS (λi0=>.agg (c2 (iN (((setE e m k (zK (basX n D v) e m)) i0).1)) (vE ((setE e m k (zK (basX n D v) e m)) i0).2 n))) (m+1))⟩)
theorem sBReplace_new{D C:Nat->Nat->Rat}{e:Etas}{n m:Nat}{v:Nat->Rat}{k:Nat}(hn:n<=6)(hok:luOK n D n)(hD:HtB n n 3 D)(H:EtaOK n e m)(hw:∀t,t<m->∀j,j<n->htq ((e t).2 j)<=4000)(hv:∀j,j<n->htq (v j)<=3)(hx:∀t,t<=m->∀j,j<n->htq (zK (basX n D v) e t j)<=4000)(hk:k<n)(hz:(zK (basX n D v) e m) k≠0)(hm2:m=8)(hD2:HtB n n 3 (trM (setC C k v)))(hok2:luOK n (trM (setC C k v)) n):CallOKm Tryz.prog 90 [.one (bV 1 2 (luS n D n) n),cC C n,.one (eE e n m)] [.own 0 0,iN k,.sl 3 (λi0=>.rat (v i0)) n] (.ex (.nilIface)) [.one (bV 3 4 (luS n (trM (setC C k v)) n) n),.dead,.dead,cC (setC C k v) n,.one (eE e n 0)]:=by
 exact zZ (ch:=λB=>[.dec 19 false,.reg 3 [(2,.callM [0,1,2] [.one (bV 1 2 (luS n D n) n (some (B 0))),cC C n,.one (eE e n m)] [.own 0 0,.sl 3 (λi0=>.rat (v i0)) n] (c2 (.own 5 0) (bX true)) [.one (bV 3 4 (luS n D n) n (some (B 0))),.dead,.dead,cC C n,.one (eE e n m),.one (.row 76 3 (λi0=>.rat ((zK (basX n D v) e m) i0)) n)])],.dec 30 false,.reg 6 [(2,.k k),(4,.callS (bX (decide ((zK (basX n D v) e m) k=0))) [])],.dec 38 false,.conv 8 [(0,.id 0),(1,.id 3),(2,.id 4)] ⟨[(0,.own 0 0),(1,iN k),(2,.sl 3 (λi0=>.rat (v i0)) n),(7,.sl 3 (λi0=>.rat ((zK (basX n D v) e m) i0)) n)],[(0,.one (bV 1 2 (luS n D n) n (some (B 0)))),(1,cC C n),(2,.one (eE e n m))],3⟩,.reg 8 [(6,.callS (vE v n) []),(7,.k k),(8,.row 0 (mE (setC C k v) n))],.reg 9 [(9,.row 0 (λi0=>.agg (c2 (iN (((setE e m k (zK (basX n D v) e m)) i0).1)) (vE ((setE e m k (zK (basX n D v) e m)) i0).2 n))))],.dec 67 true,.reg 11 [(1,.callM [0,1,3] [.one (bV 1 2 (luS n D n) n (some (B 0))),cC (setC C k v) n,.one (eE (setE e m k (zK (basX n D v) e m)) n (m+1))] [.own 0 0] (bX true) [.one (.var 164 (.agg (c3 (.own 3 0) (.ep (lvE (luS n (trM (setC C k v)) n) n)) (.ex sN))) (some (B 0))),.dead,.dead,cC (setC C k v) n])],.ret 12 [(0,.id 0),(3,.id 4),(4,.nil)]]) hMix Tryz.func90 rfl zk zk zk (λB=>_/\_/\_/\_/\_/\_/\((!(decide ((k:Int)<0)))=true->((decide ((k:Int)<0))==false)=true)/\((bif (decide ((k:Int)<0)) then true else(decide ((n:Int)<=(k:Int))))=false)/\_/\_/\_/\_/\_/\_/\_/\_/\((!true)=false)/\_/\(k<n)/\(k<n)/\_/\((decide ((zK (basX n D v) e m) k=0))=false)/\_/\_/\_/\_/\_/\_/\_/\_/\_/\_/\_/\_/\_/\_/\_/\_/\_/\_/\_/\_/\_/\_/\(k<n)/\(k<n)/\(((n:Nat)=n)/\(∀j0,j0<n->((v j0:Rat)=((setC C k v) k j0))))/\(∀t,t<n->t≠k->(.sl 3 (λi0=>.rat ((setC C k v) t i0)) n:SV)=.sl 3 (λi0=>.rat (C t i0)) n)/\(m+1<=68719476736)/\(∀j0,j0<m->(.agg (c2 (iN (((setE e m k (zK (basX n D v) e m)) j0).1)) (vE ((setE e m k (zK (basX n D v) e m)) j0).2 n)):SV)=.agg (c2 (iN ((e j0).1)) (vE (e j0).2 n)))/\(∀j0,j0<1->((k:Int)=((((setE e m k (zK (basX n D v) e m)) (m+j0)).1:Nat):Int))/\((n:Nat)=n)/\(∀j1,j1<n->(((zK (basX n D v) e m) j1:Rat)=(((setE e m k (zK (basX n D v) e m)) (m+j0)).2 j1))))/\((decide ((8:Int)<((m+1:Nat):Int)))=true)/\_/\_/\_/\_/\_/\_/\(((.nilIface:Value)=.nilIface)/\_/\_/\_/\_/\_/\_/\_/\_/\_/\_/\_/\_/\_)) (λB=>by kernel_rfl)
  (λB=>⟨(idB ((decide ((k:Int)<0))==false)),(idB ((decide ((k:Int)<0))==false)),(idB ((decide ((k:Int)<0))==false)),(idB ((decide ((k:Int)<0))==false)),(idB ((decide ((k:Int)<0))==false)),(idB ((decide ((k:Int)<0))==false)),zs,(by simp;omega),((sBSolve (D:=D) (C:=C) (e:=e) (m:=m) (n:=n) (v:=v) hn hok hD H hw zo hv hx)).tag0 (b:=B 0),(rf (.one (bV 1 2 (luS n D n) n (some (B 0))):Hl)),(rf (cC C n:Hl)),(rf (.one (eE e n m):Hl)),(rf 0),(rf 0),(rf n),(leS (λi0=>.rat (v i0)) n),rfl,(rf (k:Int)),zo,zo,sRatZero (q:=(zK (basX n D v) e m) k),(decide_eq_false hz),(rf 0),(rf (k:Int)),(rf n),(leS (λi0=>.rat (v i0)) n),(rf n),(leS (λi0=>.rat ((zK (basX n D v) e m) i0)) n),(rf (some (B 0))),(rf 0),(rf n),(leS (mE (luS n D n).2.1 n) n),(rf n),(leS (mE ((luS n D n).1) n) n),(rf n),(leS (λi0=>iN ((luS n D n).2.2.1 i0)) n),(rf ((luS n D n).2.2.2.2:Bool)),(rf 0),(rf n),(leS (mE C n) n),(rf m),(leS (λi0=>.agg (c2 (iN ((e i0).1)) (vE (e i0).2 n))) m),(kS (n:=n) (q:=v) zo).frzV,(rf (k:Int)),zo,zo,⟨rfl,(λj0 hj0=>(by rw[setC_self]))⟩,(λt ht hne=>by simp only[setC_ne hne]),zo,(λj0 hj0=>by simp only[setE_ne (Nat.ne_of_lt hj0)]),(λj0 hj0=>by obtain rfl:j0=0:=zo;simp[setE_self]),(by simp;omega),((sBFactor (D:=D) (C:=(setC C k v)) (e:=(setE e m k (zK (basX n D v) e m))) (m:=m+1) (n:=n) hn hD2 hok2)).tag0 (b:=B 0),(rf (.one (bV 1 3 (luS n D n) n (some (B 0))):Hl)),(rf (cC (setC C k v) n:Hl)),(rf (.one (eE (setE e m k (zK (basX n D v) e m)) n (m+1)):Hl)),(rf 0),(rf 0),rfl,(rf (some (B 0))),(rf 0),(rf n),(leS (mE (luS n (trM (setC C k v)) n).2.1 n) n),(rf n),(leS (mE ((luS n (trM (setC C k v)) n).1) n) n),(rf n),(leS (λi0=>iN ((luS n (trM (setC C k v)) n).2.2.1 i0)) n),(rf ((luS n (trM (setC C k v)) n).2.2.2.2:Bool)),(rf 0),(rf n),(leS (mE (setC C k v) n) n),(rf 0)⟩)
open Go.RowKit
theorem dB3:∀n,n<=5->dB 3 n<=1951
 | 0,_=>by decide
 | 1,_ | 2,_ | 3,_ | 4,_ | 5,_=>by decide
 | n+6,h=>by omega
theorem sol_ht{n:Nat}{A:Nat->Nat->Rat}{b x:Nat->Rat}(hn:n<=5)(hA:HtB n n 3 A)(hb:∀i,i<n->htq (b i)<=3)(hd:cdet n A≠0)(h:∀r,r<n->sumQ (λj=>A r j*x j) n=b r):∀j,j<n->htq (x j)<=3910:=λj hj=>by
 have hd':det n A≠0:=by rw[xL];exact hd
 rw[←cram_div hd' h hj]
 have h1:=(det_ht n (E:=3) (q:=A) λi hi k hk=>by have:=hA i hi k hk;omega).1
 have h2:=(det_ht n (E:=3) (q:=putC A j b) λi hi k hk=>by
  unfold putC
  split
  ·exact hb i hi
  ·have:=hA i hi k hk;omega).1
 have h3:=ht_div (det n (putC A j b)) (det n A)
 have h4:=dB3 n hn
 omega
theorem uB(a b:Nat->Rat):∀n,dotQ a b n=sumQ (λi=>a i*b i) n
 | 0=>rfl
 | n+1=>by show dotQ a b n+a n*b n=sumQ _ n+a n*b n;rw[uB a b n]
theorem sum_ht{a b:Nat->Rat}{S T:Nat}(n:Nat)(ha:∀i,i<n->htq (a i)<=S)(hb:∀i,i<n->htq (b i)<=T):htq (sumQ (λi=>a i*b i) n)<=n*(S+T+1)+1:=by
 rw[←uB];exact ht_dot n ha hb
theorem sz3{n:Nat}{A:Nat->Nat->Rat}(h:HtB n n 3 A):∀i,i<n->∀j,j<n->szq (A i j)<=4:=λi hi j hj=>by
 have:=h i hi j hj
 have:=xP (A i j)
 omega
theorem HtB.tr{n B:Nat}{A:Nat->Nat->Rat}(h:HtB n n B A):HtB n n B (trM A):=λi hi j hj=>h j hj i hi
structure BOK (n:Nat) (D C:Nat->Nat->Rat) (e:Etas) (m:Nat):Prop where
 ok:luOK n D n
 H:EtaOK n e m
 hm:m<=8
 ht:∀t,t<=m->HtB n n 3 (etaM n D e t)
 is:∀c,c<n->∀r,r<n->C c r=etaM n D e m r c
 w:∀t,t<m->∀j,j<n->htq ((e t).2 j)<=4000
section
variable {n m:Nat} {D C:Nat->Nat->Rat} {e:Etas} {v:Nat->Rat}
theorem BOK.hD(h:BOK n D C e m):HtB n n 3 D:=h.ht 0 (Nat.zero_le _)
theorem BOK.det(h:BOK n D C e m){t:Nat}(ht:t<=m):cdet n (etaM n D e t)≠0:=etaM_det h.H (by rw[←xL];exact lu_det_ne (sz3 h.hD) h.ok) t ht
theorem BOK.detC(h:BOK n D C e m):cdet n (trM C)≠0:=by
 rw[yY n (A:=trM C) λi hi j hj=>h.is j hj i hi]
 exact h.det (Nat.le_refl m)
theorem BOK.step(h:BOK n D C e m)(v:Nat->Rat){t:Nat}(ht:t<=m){r:Nat}(hr:r<n):sumQ (λj=>etaM n D e t r j*zK (basX n D v) e t j) n=v r:=
 (etaXs_ok h.H (basX n D v) r t ht).trans (lu_solves h.ok hr)
theorem BOK.x(h:BOK n D C e m)(hn:n<=5)(hv:∀j,j<n->htq (v j)<=3):∀t,t<=m->∀j,j<n->htq (zK (basX n D v) e t j)<=4000:=λt ht j hj=>
 Nat.le_trans (sol_ht hn (h.ht t ht) hv (h.det ht) (λr hr=>h.step v ht hr) j hj) zd
theorem BOK.sol(h:BOK n D C e m)(v:Nat->Rat){r:Nat}(hr:r<n):sumQ (λj=>C j r*zK (basX n D v) e m j) n=v r:=by
 rw[←h.step v (Nat.le_refl m) hr]
 exact zF n λj hj=>by rw[h.is j hj r hr]
theorem BOK.back(h:BOK n D C e m)(v:Nat->Rat){t:Nat}(ht:t<=m){j:Nat}(hj:j<n):rowM n (etaM n D e t) (basY n D (yF n m v e m)) j=yF n m v e (m-t) j:=
 etaZs_back h.H (λ_ hj=>lu_solvesT h.ok hj) t ht j hj
theorem BOK.rowS(h:BOK n D C e m)(v:Nat->Rat){j:Nat}(hj:j<n):sumQ (λi=>basY n D (yF n m v e m) i*C j i) n=v j:=by
 have h1:=h.back v (Nat.le_refl m) hj
 rw[Nat.sub_self] at h1
 refine Eq.trans (zF n λi hi=>by rw[h.is j hj i hi]) h1
theorem BOK.y(h:BOK n D C e m)(hn:n<=5)(hv:∀j,j<n->htq (v j)<=3):∀j,j<n->htq (basY n D (yF n m v e m) j)<=3910:=
 sol_ht hn (HtB.tr (h.ht m (Nat.le_refl m))) hv (by rw[cdet_trM];exact h.det (Nat.le_refl m)) λr hr=>by
  have h1:=h.back v (Nat.le_refl m) hr
  rw[Nat.sub_self] at h1
  refine Eq.trans (zF n λi hi=>?_) h1
  show etaM n D e m i r*_=_*etaM n D e m i r
  grind
theorem BOK.z(h:BOK n D C e m)(hn:n<=5)(hv:∀j,j<n->htq (v j)<=3):∀t,t<=m->∀j,j<n->htq (yF n m v e t j)<=20000:=λt ht j hj=>by
 have h1:=h.back v (t:=m-t) zo hj
 rw[show m-(m-t)=t by omega] at h1
 rw[←h1]
 have h2:=sum_ht n (h.y hn hv) (b:=λi=>etaM n D e (m-t) i j) (T:=3) λi hi=>by
  have:=h.ht (m-t) zo i hi j hj
  omega
 exact Nat.le_trans h2 (Nat.le_trans (Nat.succ_le_succ (Nat.mul_le_mul_right _ hn)) zd)
theorem BOK.fresh{e:Etas}(hn:luOK n (trM C) n)(hC:HtB n n 3 (trM C)):BOK n (trM C) C e 0:=
 ⟨hn,⟨λt ht=>absurd ht (Nat.not_lt_zero t),λt ht=>absurd ht (Nat.not_lt_zero t)⟩,by omega,λt ht=>by rw[Nat.le_zero.1 ht];exact hC,λc _ r _=>rfl,λt ht=>absurd ht (Nat.not_lt_zero t)⟩
theorem luOK_of{A:Nat->Nat->Rat}(hA:HtB n n 3 A)(hd:cdet n A≠0):luOK n A n:=(lu_or (sz3 hA) n (Nat.le_refl n)).resolve_right hd
theorem luOK_iff{A:Nat->Nat->Rat}(hA:HtB n n 3 A):luOK n A n↔cdet n A≠0:=⟨λh=>by rw[←xL];exact lu_det_ne (sz3 hA) h,luOK_of hA⟩
variable {k:Nat}
theorem BOK.mul(h:BOK n D C e m)(v:Nat->Rat){r:Nat}(hr:r<n):mulV n (etaM n D e m) (zK (basX n D v) e m) r=v r:=h.step v (Nat.le_refl m) hr
theorem BOK.htC(h:BOK n D C e m)(hv:∀j,j<n->htq (v j)<=2):HtB n n 3 (trM (setC C k v)):=λi hi j hj=>by
 show htq (setC C k v j i)+1<=3
 by_cases e1:j=k
 ·rw[e1,setC_self];have:=hv i hi;omega
 ·rw[setC_ne e1,h.is j hj i hi];exact h.ht m (Nat.le_refl m) i hi j hj
theorem BOK.setI(h:BOK n D C e m){i j:Nat}(hi:i<n)(hj:j<n):setC C k v j i=putC (etaM n D e m) k (mulV n (etaM n D e m) (zK (basX n D v) e m)) i j:=by
 by_cases e1:j=k
 ·rw[e1,setC_self,putC_self,h.mul v hi]
 ·rw[setC_ne e1,putC_ne e1,h.is j hj i hi]
theorem BOK.detS(h:BOK n D C e m)(hk:k<n):cdet n (trM (setC C k v))=zK (basX n D v) e m k*cdet n (trM C):=by
 rw[yY n (A:=trM (setC C k v)) λi hi j hj=>h.setI hi hj,cramer (A:=etaM n D e m) (b:=mulV n (etaM n D e m) (zK (basX n D v) e m)) (x:=zK (basX n D v) e m) (λr _=>rfl) hk,
  yY n (A:=trM C) λi hi j hj=>h.is j hj i hi]
theorem BOK.put(h:BOK n D C e m)(hn:n<=5)(hk:k<n)(hv:∀j,j<n->htq (v j)<=2)(hz:zK (basX n D v) e m k≠0)(hm:m<8):BOK n D (setC C k v) (setE e m k (zK (basX n D v) e m)) (m+1):=by
 have hc:∀t,t<=m->etaM n D (setE e m k (zK (basX n D v) e m)) t=etaM n D e t:=λt ht=>etaM_cong t λi hi=>setE_ne zo
 have hl:etaM n D (setE e m k (zK (basX n D v) e m)) (m+1)=putC (etaM n D e m) k (mulV n (etaM n D e m) (zK (basX n D v) e m)):=by
  show putC (etaM n D _ m) (setE e m k _ m).1 (mulV n (etaM n D _ m) (setE e m k _ m).2)=_
  rw[hc m (Nat.le_refl m),setE_self]
 refine⟨h.ok,⟨λt ht=>?_,λt ht=>?_⟩,by omega,λt ht=>?_,λc hc2 r hr=>?_,λt ht j hj=>?_⟩
 ·by_cases e1:t=m
  ·rw[e1,setE_self];exact hk
  ·rw[setE_ne e1];exact h.H.at_ t zo
 ·by_cases e1:t=m
  ·rw[e1,setE_self];exact hz
  ·rw[setE_ne e1];exact h.H.ne t zo
 ·by_cases e1:t=m+1
  ·rw[e1,hl]
   intro i hi j hj
   rw[←h.setI hi hj]
   exact h.htC hv i hi j hj
  ·rw[hc t zo];exact h.ht t zo
 ·rw[hl];exact h.setI hr hc2
 ·by_cases e1:t=m
  ·rw[e1,setE_self];exact h.x hn (λj hj=>Nat.le_trans (hv j hj) zd) m (Nat.le_refl m) j hj
  ·rw[setE_ne e1];exact h.w t zo j hj
theorem BOK.anew(h:BOK n D C e m)(hk:k<n)(hv:∀j,j<n->htq (v j)<=2)(hz:zK (basX n D v) e m k≠0):luOK n (trM (setC C k v)) n:=
 luOK_of (h.htC hv) (by rw[h.detS hk];exact rat_mul_ne hz h.detC)
end
open Go.RowKit
structure BS where
 D:Nat->Nat->Rat
 C:Nat->Nat->Rat
 e:Etas
 m:Nat
abbrev BSK (n:Nat) (s:BS):Prop:=BOK n s.D s.C s.e s.m
def repN (n:Nat) (s:BS) (k:Int) (v:Nat->Rat) (l:Nat):Int:=if k<0∨(n:Int)<=k then 1 else if l≠n then 2 else if zK (basX n s.D v) s.e s.m k.toNat=0 then 140 else 0
def repS (n:Nat) (s:BS) (k:Int) (v:Nat->Rat) (l:Nat):BS:=
 if repN n s k v l=0 then if s.m<8 then⟨s.D,setC s.C k.toNat v,setE s.e s.m k.toNat (zK (basX n s.D v) s.e s.m),s.m+1⟩ else⟨trM (setC s.C k.toNat v),setC s.C k.toNat v,s.e,0⟩ else s
section
variable {n l:Nat} {s:BS} {k:Int} {v:Nat->Rat}
theorem repN_arg(h:k<0∨(n:Int)<=k):repN n s k v l=1:=if_pos h
theorem repN_len(h:¬(k<0∨(n:Int)<=k))(hl:l≠n):repN n s k v l=2:=by unfold repN;rw[if_neg h,if_pos hl]
theorem repN_zero(h:¬(k<0∨(n:Int)<=k))(hl:¬l≠n)(hz:zK (basX n s.D v) s.e s.m k.toNat=0):repN n s k v l=140:=by unfold repN;rw[if_neg h,if_neg hl,if_pos hz]
theorem repN_ok(h:¬(k<0∨(n:Int)<=k))(hl:¬l≠n)(hz:zK (basX n s.D v) s.e s.m k.toNat≠0):repN n s k v l=0:=by unfold repN;rw[if_neg h,if_neg hl,if_neg hz]
theorem repN_ok'(h:repN n s k v l=0):¬(k<0∨(n:Int)<=k)/\l=n/\zK (basX n s.D v) s.e s.m k.toNat≠0:=by
 unfold repN at h
 split at h
 ·cases h
 ·split at h
  ·cases h
  ·split at h
   ·cases h
   ·rename_i h1 h2 h3
    exact⟨h1,Classical.not_not.1 h2,h3⟩
theorem repS_no(h:repN n s k v l≠0):repS n s k v l=s:=if_neg h
theorem repS_put(h:repN n s k v l=0)(hm:s.m<8):repS n s k v l=⟨s.D,setC s.C k.toNat v,setE s.e s.m k.toNat (zK (basX n s.D v) s.e s.m),s.m+1⟩:=by unfold repS;rw[if_pos h,if_pos hm]
theorem repS_new(h:repN n s k v l=0)(hm:¬s.m<8):repS n s k v l=⟨trM (setC s.C k.toNat v),setC s.C k.toNat v,s.e,0⟩:=by unfold repS;rw[if_pos h,if_neg hm]
theorem repS_C(h:repN n s k v l=0):(repS n s k v l).C=setC s.C k.toNat v:=by
 by_cases hm:s.m<8
 ·rw[repS_put h hm]
 ·rw[repS_new h hm]
theorem repS_ok(h:BSK n s)(hn:n<=5)(hv:∀j,j<n->htq (v j)<=2):BSK n (repS n s k v l):=by
 by_cases h0:repN n s k v l=0
 ·obtain⟨h1,h2,h3⟩:=repN_ok' h0
  by_cases hm:s.m<8
  ·rw[repS_put h0 hm];exact h.put hn zo hv h3 hm
  ·rw[repS_new h0 hm];exact .fresh (h.anew zo hv h3) (h.htC hv)
 ·rw[repS_no h0];exact h
theorem CallOKm.res{P:Program}{f:FuncId}{ins outs:List Hl}{A:List SV}{R R':SV}(h:CallOKm P f ins A R outs)(hR:∀η A w v,R.R η A w v->R'.R η A w v):CallOKm P f ins A R' outs:=
 ⟨h.cal,λη0 M F w vals H hA=>(h.run η0 M F w vals H hA).mono λ_ _ ⟨v,η,e1,hp,hr,hx⟩=>⟨v,η,e1,hp,hR _ _ _ _ hr,hx⟩⟩
theorem alt_no{c:Bool}{a b:SV}{η:Eta}{A:Nat->Prop}{w:World}{u:Value}(hc:c=false)(h:b.R η A w u):(SV.alt c a b).R η A w u:=⟨λe=>(by rw[hc] at e;cases e),λ_=>h⟩
theorem alt_yes{c:Bool}{a b:SV}{η:Eta}{A:Nat->Prop}{w:World}{u:Value}(hc:c=true)(h:a.R η A w u):(SV.alt c a b).R η A w u:=⟨λ_=>h,λe=>(by rw[hc] at e;cases e)⟩
theorem sBReplaceT(hK:BSK n s)(hn:n<=5)(hv:l=n->∀j,j<n->htq (v j)<=2):CallOKm Tryz.prog 90 [.one (bV 1 2 (luS n s.D n) n),cC s.C n,.one (eE s.e n s.m)] [.own 0 0,.ex (.int .i64 k),.sl 3 (λi0=>.rat (v i0)) l] (.alt (decide (repN n s k v l=0)) (.ex (.nilIface)) (.ifc 158 (.ep (.agg (c3 (.ex (.string sCol)) (.ex (.int .i64 k)) (.ex (.iface 57 (.int .i64 (repN n s k v l))))))))) [.one (bV 3 4 (luS n (repS n s k v l).D n) n),.dead,.dead,.one (.row 41 1 (mE (repS n s k v l).C n) n),.one (eE (repS n s k v l).e n ((repS n s k v l).m))]:=by
 by_cases h1:k<0∨(n:Int)<=k
 ·have e:=repN_arg (s:=s) (v:=v) (l:=l) h1
  rw[repS_no (by rw[e];decide)]
  exact(sBReplace_arg h1).res λη A w u h=>alt_no (by rw[e];rfl) (by rw[e];exact h)
 ·obtain⟨kk,rfl⟩:∃kk:Nat,k=(kk:Int):=⟨k.toNat,by omega⟩
  by_cases h2:l≠n
  ·have e:=repN_len (s:=s) (v:=v) h1 h2
   rw[repS_no (by rw[e];decide)]
   exact(sBReplace_len zo h2).res λη A w u h=>alt_no (by rw[e];rfl) (by rw[e];exact h)
  ·have hl:l=n:=Classical.not_not.1 h2
   subst hl
   have hv:=hv rfl
   have hv3:∀j,j<l->htq (v j)<=3:=λj hj=>Nat.le_trans (hv j hj) zd
   have hk:kk<l:=by omega
   by_cases h3:zK (basX l s.D v) s.e s.m kk=0
   ·have e:=repN_zero (s:=s) (v:=v) h1 h2 h3
    rw[repS_no (by rw[e];decide)]
    exact(sBReplace_sing zo hK.ok hK.hD hK.H hK.w hK.hm hv3 (hK.x hn hv3) hk h3).res λη A w u h=>alt_no (by rw[e];rfl) (by rw[e];exact h)
   ·have e:=repN_ok (s:=s) (v:=v) h1 h2 h3
    by_cases hm:s.m<8
    ·rw[repS_put e hm]
     exact(sBReplace zo hK.ok hK.hD hK.H hK.w hK.hm hv3 (hK.x hn hv3) hk h3 hm).res λη A w u h=>alt_yes (decide_eq_true e) h
    ·have h8:=hK.hm
     rw[repS_new e hm]
     exact(sBReplace_new zo hK.ok hK.hD hK.H hK.w hv3 (hK.x hn hv3) hk h3 zo (hK.htC hv) (hK.anew hk hv h3)).res λη A w u h=>alt_yes (decide_eq_true e) h
end
open Go.RowKit
theorem sBSolveT{D C:Nat->Nat->Rat}{e:Etas}{n m:Nat}{v:Nat->Rat}(hn:n<=6)(hok:luOK n D n)(hD:HtB n n 3 D)(H:EtaOK n e m)(hw:∀t,t<m->∀j,j<n->htq ((e t).2 j)<=4000)(hm:m<=64)(hz:∀t,t<=m->∀j,j<n->htq (yF n m v e t j)<=20000):CallOKm Tryz.prog 77 [.one (bV 1 2 (luS n D n) n),cC C n,.one (eE e n m)] [.own 0 0,.sl 3 (λi0=>.rat (v i0)) n] (c2 (.sl 3 (λi0=>.rat (basY n D (yF n m v e m) i0)) n) (bX true)) [.one (bV 3 4 (luS n D n) n),.dead,.dead,cC C n,.one (eE e n m)]:=by
 exact zZ (ch:=λB=>[.dec 17 false,.reg 3 [(1,.callS (.own 0 0) [.one (.row 76 3 (λi0=>.rat (v i0)) n)])],.conv 4 [(0,.id 0),(1,.id 1),(2,.id 2),(3,.id 3)] ⟨[(0,.own 0 0),(6,.own 3 0)],[(0,.one (bV 1 2 (luS n D n) n (some (B 0)))),(1,cC C n),(2,.one (eE e n m)),(3,.one (.row 76 3 (λi0=>.rat ((yF n m v e 0) i0)) n))],4⟩,.reg 4 [(5,.z ((m:Int)-1-((0:Nat):Int)))],.loop 5 (Nat) (λg=>g<=m) (λg=>m-g) (λg=>⟨[(0,.own 0 0),(6,.own 3 0),(7,iZ ((m:Int)-1-(g:Int)))],[(0,.one (bV 1 2 (luS n D n) n (some (B 0)))),(1,cC C n),(2,.one (eE e n m)),(3,.one (.row 76 3 (λi0=>.rat ((yF n m v e g) i0)) n))],4⟩) [(0,.id 0),(1,.id 1),(2,.id 2),(3,.id 3)] (λ_=>[(0,.id 0),(1,.id 1),(2,.id 2),(3,.id 3)]) (λg=>[.reg 7 [(5,.k (m-1-g))],.loop 9 (Nat) (λh=>h<=n) (λh=>n-h) (λh=>⟨[(0,.own 0 0),(6,.own 3 0),(7,iZ ((m:Int)-1-(g:Int))),(8,.own 4 0),(38,iN n),(39,iN h)],[(0,.one (bV 1 2 (luS n D n) n (some (B 0)))),(1,cC C n),(2,.one (eE e n m)),(3,.one (.row 76 3 (λi0=>.rat (etaJ (e (m-1-g)).1 (e (m-1-g)).2 (yF n m v e g) h i0)) n)),(4,.one (.var 166 (.agg (c2 (iN ((e (m-1-g)).1)) (vE (e (m-1-g)).2 n)))))],5⟩) [(0,.id 0),(1,.id 1),(2,.id 2),(3,.id 3),(4,.id 4)] (λ_=>[(0,.id 0),(1,.id 1),(2,.id 2),(3,.id 3),(4,.id 4)]) (λh=>[.reg 12 [(6,.k ((e (m-1-g)).1)),(11,.k h),(15,.k h),(17,.callS (.rat (((e (m-1-g)).2 h)*(etaJ (e (m-1-g)).1 (e (m-1-g)).2 (yF n m v e g) h h))) []),(18,.callS (.rat ((etaJ (e (m-1-g)).1 (e (m-1-g)).2 (yF n m v e g) h ((e (m-1-g)).1))-(((e (m-1-g)).2 h)*(etaJ (e (m-1-g)).1 (e (m-1-g)).2 (yF n m v e g) h h)))) []),(19,.k ((e (m-1-g)).1)),(20,.row 0 (λi0=>.rat (etaJ (e (m-1-g)).1 (e (m-1-g)).2 (yF n m v e g) (h+1) i0)))],.reg 13 [(0,.z ((h+1:Nat):Int))],.reg 13 [(0,.z ((h+1:Nat):Int))],.reg 14 [(6,.k ((e (m-1-g)).1)),(12,.k ((e (m-1-g)).1)),(14,.callS (c2 (.rat ((etaJ (e (m-1-g)).1 (e (m-1-g)).2 (yF n m v e g) h ((e (m-1-g)).1))/((e (m-1-g)).2 ((e (m-1-g)).1)))) (bX (!decide (((e (m-1-g)).2 ((e (m-1-g)).1))=0)))) []),(18,.k ((e (m-1-g)).1)),(19,.row 0 (λi0=>.rat (etaZ n (e (m-1-g)).1 (e (m-1-g)).2 (yF n m v e g) i0)))],.reg 6 [(1,.z ((m:Int)-1-((g+1:Nat):Int)))]]),.conv 15 [(0,.id 0),(1,.id 1),(2,.id 2)] ⟨[(0,.own 0 0),(6,.sl 3 (λi0=>.rat ((yF n m v e m) i0)) n)],[(0,.one (bV 1 2 (luS n D n) n (some (B 0)))),(1,cC C n),(2,.one (eE e n m))],3⟩,.reg 15 [(5,.callS (c2 (.sl 3 (λi0=>.rat (luW n (luS n D n).1 (luS n D n).2.1 (yF n m v e m) ((luS n D n).2.2.2.1 i0))) n) (bX true)) [])],.ret 15 [(0,.id 0),(3,.id 1),(4,.id 2)]])]) hMix Tryz.func77 rfl zk zk zk (λB=>((!decide ((n:Int)=(n:Int)))=false)/\_/\_/\_/\_/\_/\_/\_/\_/\_/\_/\_/\_/\_/\_/\_/\_/\_/\_/\(∀j0,j0<n->((v j0:Rat)=((yF n m v e 0) j0)))/\(IntKind.wrap .i64 ((m:Int)-1)=((m:Int)-1-((0:Nat):Int)))/\(((λX1 X2 X3 X4 X5 X6 X7 X8 X9 X10 X11 X12 X13 X14 X15 X16 X17:Prop=>∃g0:Nat,X1/\X2/\(((m:Int)-1-((0:Nat):Int):Int)=((m:Int)-1-(g0:Int)))/\X3/\X4/\X5/\X6/\X7/\X8/\X9/\X10/\X11/\X12/\X13/\X14/\X15/\X16/\X17/\(∀j0,j0<n->(((yF n m v e 0) j0:Rat)=((yF n m v e g0) j0)))/\(g0<=m)) _ _ _ _ _ _ _ _ _ _ _ _ _ _ _ _ _)/\∀g:Nat,(g<=m)->(((decide ((0:Int)<=((m:Int)-1-(g:Int))))=true->(((m:Int)-1-(g:Int):Int)=((m-1-g:Nat):Int))/\((m-1-g)<m)/\((m-1-g)<m)/\(((λX1 X2 X3 X4 X5 X6 X7 X8 X9 X10 X11 X12 X13 X14 X15 X16 X17 X18 X19 X20 X21 X22 X23:Prop=>∃h0:Nat,X1/\X2/\X3/\X4/\X5/\((0:Int)=(h0:Int))/\X6/\X7/\X8/\X9/\X10/\X11/\X12/\X13/\X14/\X15/\X16/\X17/\X18/\X19/\X20/\(∀j0,j0<n->(((yF n m v e g) j0:Rat)=(etaJ (e (m-1-g)).1 (e (m-1-g)).2 (yF n m v e g) h0 j0)))/\X21/\X22/\X23/\(h0<=n)) _ _ _ _ _ _ _ _ _ _ _ _ _ _ _ _ _ _ _ _ _ _ _)/\∀h:Nat,(h<=n)->(((decide ((h:Int)<(n:Int)))=true->(((!decide ((h:Int)=(((e (m-1-g)).1:Nat):Int)))=true->_/\(((e (m-1-g)).1)<n)/\(((e (m-1-g)).1)<n)/\_/\(h<n)/\_/\(h<n)/\(h<n)/\_/\_/\_/\(((e (m-1-g)).1)<n)/\(((e (m-1-g)).1)<n)/\((((etaJ (e (m-1-g)).1 (e (m-1-g)).2 (yF n m v e g) h ((e (m-1-g)).1))-(((e (m-1-g)).2 h)*(etaJ (e (m-1-g)).1 (e (m-1-g)).2 (yF n m v e g) h h)):Rat)=(etaJ (e (m-1-g)).1 (e (m-1-g)).2 (yF n m v e g) (h+1) ((e (m-1-g)).1))))/\(∀t,t<n->t≠((e (m-1-g)).1)->(.rat (etaJ (e (m-1-g)).1 (e (m-1-g)).2 (yF n m v e g) (h+1) t):SV)=.rat (etaJ (e (m-1-g)).1 (e (m-1-g)).2 (yF n m v e g) h t))/\_/\((λX1 X2 X3 X4 X5 X6 X7 X8 X9 X10 X11 X12 X13 X14 X15 X16 X17 X18 X19 X20 X21 X22 X23:Prop=>∃h1:Nat,X1/\X2/\X3/\X4/\X5/\(((h+1:Nat):Int)=(h1:Int))/\X6/\X7/\X8/\X9/\X10/\X11/\X12/\X13/\X14/\X15/\X16/\X17/\X18/\X19/\X20/\(∀j0,j0<n->((etaJ (e (m-1-g)).1 (e (m-1-g)).2 (yF n m v e g) (h+1) j0:Rat)=(etaJ (e (m-1-g)).1 (e (m-1-g)).2 (yF n m v e g) h1 j0)))/\X21/\X22/\X23/\(h1<=n)/\(n-h1<n-h)) _ _ _ _ _ _ _ _ _ _ _ _ _ _ _ _ _ _ _ _ _ _ _))/\((!decide ((h:Int)=(((e (m-1-g)).1:Nat):Int)))=false->_/\((λX1 X2 X3 X4 X5 X6 X7 X8 X9 X10 X11 X12 X13 X14 X15 X16 X17 X18 X19 X20 X21 X22 X23:Prop=>∃h1:Nat,X1/\X2/\X3/\X4/\X5/\(((h+1:Nat):Int)=(h1:Int))/\X6/\X7/\X8/\X9/\X10/\X11/\X12/\X13/\X14/\X15/\X16/\X17/\X18/\X19/\X20/\(∀j0,j0<n->((etaJ (e (m-1-g)).1 (e (m-1-g)).2 (yF n m v e g) h j0:Rat)=(etaJ (e (m-1-g)).1 (e (m-1-g)).2 (yF n m v e g) h1 j0)))/\X21/\X22/\X23/\(h1<=n)/\(n-h1<n-h)) _ _ _ _ _ _ _ _ _ _ _ _ _ _ _ _ _ _ _ _ _ _ _))))/\((decide ((h:Int)<(n:Int)))=false->_/\(((e (m-1-g)).1)<n)/\(((e (m-1-g)).1)<n)/\_/\(((e (m-1-g)).1)<n)/\_/\_/\(((e (m-1-g)).1)<n)/\(((e (m-1-g)).1)<n)/\((((etaJ (e (m-1-g)).1 (e (m-1-g)).2 (yF n m v e g) h ((e (m-1-g)).1))/((e (m-1-g)).2 ((e (m-1-g)).1)):Rat)=(etaZ n (e (m-1-g)).1 (e (m-1-g)).2 (yF n m v e g) ((e (m-1-g)).1))))/\(∀t,t<n->t≠((e (m-1-g)).1)->(.rat (etaZ n (e (m-1-g)).1 (e (m-1-g)).2 (yF n m v e g) t):SV)=.rat (etaJ (e (m-1-g)).1 (e (m-1-g)).2 (yF n m v e g) h t))/\(IntKind.wrap .i64 (((m:Int)-1-(g:Int):Int)-1)=((m:Int)-1-((g+1:Nat):Int)))/\((λX1 X2 X3 X4 X5 X6 X7 X8 X9 X10 X11 X12 X13 X14 X15 X16 X17:Prop=>∃g1:Nat,X1/\X2/\(((m:Int)-1-((g+1:Nat):Int):Int)=((m:Int)-1-(g1:Int)))/\X3/\X4/\X5/\X6/\X7/\X8/\X9/\X10/\X11/\X12/\X13/\X14/\X15/\X16/\X17/\(∀j0,j0<n->((etaZ n (e (m-1-g)).1 (e (m-1-g)).2 (yF n m v e g) j0:Rat)=((yF n m v e g1) j0)))/\(g1<=m)/\(m-g1<m-g)) _ _ _ _ _ _ _ _ _ _ _ _ _ _ _ _ _)))))/\((decide ((0:Int)<=((m:Int)-1-(g:Int))))=false->_/\_/\(∀j0,j0<n->(((yF n m v e g) j0:Rat)=((yF n m v e m) j0)))/\_/\_/\_/\_/\_/\_/\_/\_/\_/\_/\_/\_/\_/\_/\_/\(_/\(∀j0,j0<n->((luW n (luS n D n).1 (luS n D n).2.1 (yF n m v e m) ((luS n D n).2.2.2.1 j0):Rat)=(basY n D (yF n m v e m) j0)))/\_/\_/\_/\_/\_/\_/\_/\_/\_/\_/\_/\_/\_/\_/\_))))) (λB=>by kernel_rfl)
  (λB=>⟨zs,kS (n:=n) (q:=v) zo,(rf 0),(rf 0),(rf (some (B 0))),(rf 0),(rf n),(leS (mE (luS n D n).2.1 n) n),(rf n),(leS (mE ((luS n D n).1) n) n),(rf n),(leS (λi0=>iN ((luS n D n).2.2.1 i0)) n),(rf ((luS n D n).2.2.2.2:Bool)),(rf 0),(rf n),(leS (mE C n) n),(rf m),(leS (λi0=>.agg (c2 (iN ((e i0).1)) (vE (e i0).2 n))) m),(rf n),(λj0 hj0=>rfl),(by rw[IntKind.wrap_i64];omega),⟨0,(rf 0),(rf 0),zo,(rf (some (B 0))),(rf 0),(rf n),(leS (mE (luS n D n).2.1 n) n),(rf n),(leS (mE ((luS n D n).1) n) n),(rf n),(leS (λi0=>iN ((luS n D n).2.2.1 i0)) n),(rf ((luS n D n).2.2.2.2:Bool)),(rf 0),(rf n),(leS (mE C n) n),(rf m),(leS (λi0=>.agg (c2 (iN ((e i0).1)) (vE (e i0).2 n))) m),(rf n),(λj0 hj0=>rfl),zo⟩,λg hg=>⟨λhc27=>have hc27:=dT hc27;have hgm:g<m:=zo;have hk:=H.at_ (m-1-g) zo;have hw1:=hw (m-1-g) zo;have hz1:=hz g zo;have hdv:=etaP_div hz1 hw1 hk zo;⟨zo,zo,zo,⟨0,(rf 0),(rf 0),(rf ((m:Int)-1-(g:Int):Int)),(rf 0),(rf (n:Int)),zo,(rf (some (B 0))),(rf 0),(rf n),(leS (mE (luS n D n).2.1 n) n),(rf n),(leS (mE ((luS n D n).1) n) n),(rf n),(leS (λi0=>iN ((luS n D n).2.2.1 i0)) n),(rf ((luS n D n).2.2.2.2:Bool)),(rf 0),(rf n),(leS (mE C n) n),(rf m),(leS (λi0=>.agg (c2 (iN ((e i0).1)) (vE (e i0).2 n))) m),(rf n),(λj0 hj0=>etaJ_zero),(rf (((e (m-1-g)).1:Nat):Int)),(rf n),(leS (λi0=>.rat ((e (m-1-g)).2 i0)) n),zo⟩,λh hh=>⟨λhc40=>have hc40:=dT hc40;have hhn:h<n:=zo;⟨λhc45=>have hne:h≠(e (m-1-g)).1:=(by simp at hc45;omega);have hr:=etaP_room hz1 hw1 hk zo hhn hne;⟨(rf (((e (m-1-g)).1:Nat):Int)),zo,zo,(rf (h:Int)),zo,(rf (h:Int)),zo,zo,sRatMul (p:=(e (m-1-g)).2 h) (q:=etaJ (e (m-1-g)).1 (e (m-1-g)).2 (yF n m v e g) h h) hr.1,sRatSub (p:=etaJ (e (m-1-g)).1 (e (m-1-g)).2 (yF n m v e g) h ((e (m-1-g)).1)) (q:=((e (m-1-g)).2 h)*(etaJ (e (m-1-g)).1 (e (m-1-g)).2 (yF n m v e g) h h)) hr.2,(rf (((e (m-1-g)).1:Nat):Int)),zo,zo,(etaP_at hne),(λt ht hne2=>by rw[etaJ_ne hne2,etaJ_ne hne2]),(wI (g:=h) zo),h+1,(rf 0),(rf 0),(rf ((m:Int)-1-(g:Int):Int)),(rf 0),(rf (n:Int)),zo,(rf (some (B 0))),(rf 0),(rf n),(leS (mE (luS n D n).2.1 n) n),(rf n),(leS (mE ((luS n D n).1) n) n),(rf n),(leS (λi0=>iN ((luS n D n).2.2.1 i0)) n),(rf ((luS n D n).2.2.2.2:Bool)),(rf 0),(rf n),(leS (mE C n) n),(rf m),(leS (λi0=>.agg (c2 (iN ((e i0).1)) (vE (e i0).2 n))) m),(rf n),(λj0 hj0=>(by first | rfl | exact etaJ_skip hne)),(rf (((e (m-1-g)).1:Nat):Int)),(rf n),(leS (λi0=>.rat ((e (m-1-g)).2 i0)) n),zo,zo⟩,λhc45=>have hne:h=(e (m-1-g)).1:=(by simp at hc45;omega);⟨(wI (g:=h) zo),h+1,(rf 0),(rf 0),(rf ((m:Int)-1-(g:Int):Int)),(rf 0),(rf (n:Int)),zo,(rf (some (B 0))),(rf 0),(rf n),(leS (mE (luS n D n).2.1 n) n),(rf n),(leS (mE ((luS n D n).1) n) n),(rf n),(leS (λi0=>iN ((luS n D n).2.2.1 i0)) n),(rf ((luS n D n).2.2.2.2:Bool)),(rf 0),(rf n),(leS (mE C n) n),(rf m),(leS (λi0=>.agg (c2 (iN ((e i0).1)) (vE (e i0).2 n))) m),(rf n),(λj0 hj0=>(by first | rfl | exact etaJ_skip hne)),(rf (((e (m-1-g)).1:Nat):Int)),(rf n),(leS (λi0=>.rat ((e (m-1-g)).2 i0)) n),zo,zo⟩⟩,λhc40=>have hc40:=dF hc40;have hi3:h=n:=zo;⟨(rf (((e (m-1-g)).1:Nat):Int)),zo,zo,(rf (((e (m-1-g)).1:Nat):Int)),zo,sRatDiv (p:=etaJ (e (m-1-g)).1 (e (m-1-g)).2 (yF n m v e g) h ((e (m-1-g)).1)) (q:=(e (m-1-g)).2 ((e (m-1-g)).1)) (by rw[hi3];exact hdv),(rf (((e (m-1-g)).1:Nat):Int)),zo,zo,(by rw[hi3];exact etaJ_div),(λt ht hne2=>by rw[hi3,etaJ_all hne2]),(by rw[IntKind.wrap_i64];omega),g+1,(rf 0),(rf 0),zo,(rf (some (B 0))),(rf 0),(rf n),(leS (mE (luS n D n).2.1 n) n),(rf n),(leS (mE ((luS n D n).1) n) n),(rf n),(leS (λi0=>iN ((luS n D n).2.2.1 i0)) n),(rf ((luS n D n).2.2.2.2:Bool)),(rf 0),(rf n),(leS (mE C n) n),(rf m),(leS (λi0=>.agg (c2 (iN ((e i0).1)) (vE (e i0).2 n))) m),(rf n),(λj0 hj0=>rfl),zo,zo⟩⟩⟩,λhc27=>have hc27:=dF hc27;have hi2:g=m:=zo;⟨(rf 0),(rf n),(λj0 hj0=>(by rw[hi2])),(rf (some (B 0))),(rf 0),(rf n),(leS (mE (luS n D n).2.1 n) n),(rf n),(leS (mE ((luS n D n).1) n) n),(rf n),(leS (λi0=>iN ((luS n D n).2.2.1 i0)) n),(rf ((luS n D n).2.2.2.2:Bool)),(rf 0),(rf n),(leS (mE C n) n),(rf m),(leS (λi0=>.agg (c2 (iN ((e i0).1)) (vE (e i0).2 n))) m),(sLuSolveT (U:=(luS n D n).1) (L:=(luS n D n).2.1) (P:=(luS n D n).2.2.1) (o:=(luS n D n).2.2.2.2) (n:=n) (b:=(yF n m v e m)) (ρ:=(luS n D n).2.2.2.1) hn (lu_bij n (Nat.le_refl n) hok) (lu_hL hD hn hok) (lu_hU hD hn hok) (λj hj=>Nat.le_trans (hz m (Nat.le_refl m) j hj) zd)).frzV2,(rf n),(λj0 hj0=>rfl),(rf (true:Bool)),(rf (some (B 0))),(rf 0),(rf n),(leS (mE (luS n D n).2.1 n) n),(rf n),(leS (mE ((luS n D n).1) n) n),(rf n),(leS (λi0=>iN ((luS n D n).2.2.1 i0)) n),(rf ((luS n D n).2.2.2.2:Bool)),(rf 0),(rf n),(leS (mE C n) n),(rf m),(leS (λi0=>.agg (c2 (iN ((e i0).1)) (vE (e i0).2 n))) m)⟩⟩⟩)
open Go.RowKit
def noE:Etas:=λ_=>(0,λ_=>0)
open Go.RowKit
theorem sMatCol{q:Nat->Nat->Rat}{m n c:Nat}(hm:m<=68719476736)(hc:c<n):CallOK Tryz.prog 58 [.agg (c2 (.sl 1 (mE q n) m) (iN n)),iN c] (c2 (.sl 3 (λi0=>.rat (q i0 c)) m) (bX true)) []:=by
 exact kP (ch:=[.dec 16 false,.reg 3 [(3,.row m (λ_=>.rat 0))],.loop 5 (Nat) (λg=>g<=m) (λg=>m-g) (λg=>⟨[(1,iN c),(6,.own 1 0),(22,.sl 1 (mE q n) m),(23,iN m),(24,iN g)],[(1,.one (.row 76 3 (λi0=>.rat (upto g (λk=>q k c) i0)) m)),(0,.one (.var 39 (.agg (c2 (.sl 1 (mE q n) m) (iN n)))))],2⟩) [(1,.id 1),(0,.id 0)] (λ_=>[(1,.id 1),(0,.id 0)]) (λg=>[.reg 6 [(1,.k g)],.reg 7 [(4,.k c),(6,.k g),(7,.row 0 (λi0=>.rat (upto (g+1) (λk=>q k c) i0)))],.reg 8 [(0,.z ((g+1:Nat):Int))]])]) Tryz.func58 ((∀j0,j0<m->(∀j1,j1<n->True))/\_/\_/\_/\((!(decide ((c:Int)<0)))=true->((decide ((c:Int)<0))==false)=true)/\((bif (decide ((c:Int)<0)) then true else(decide ((n:Int)<=(c:Int))))=false)/\_/\_/\(m<=68719476736)/\(∀j0,j0<m->((0:Rat)=0))/\(((λX1 X2 X3 X4 X5 X6 X7 X8 X9:Prop=>∃g0:Nat,X1/\X2/\X3/\X4/\X5/\((0:Int)=(g0:Int))/\X6/\(∀j0,j0<m->((0:Rat)=(upto g0 (λk=>q k c) j0)))/\X7/\X8/\X9/\(g0<=m)) _ _ _ _ _ _ _ _ _)/\∀g:Nat,(g<=m)->(((decide ((g:Int)<(m:Int)))=true->_/\(g<m)/\_/\(c<n)/\_/\(g<m)/\(g<m)/\(((q g c:Rat)=(upto (g+1) (λk=>q k c) g)))/\(∀t,t<m->t≠g->(.rat (upto (g+1) (λk=>q k c) t):SV)=.rat (upto g (λk=>q k c) t))/\_/\((λX1 X2 X3 X4 X5 X6 X7 X8 X9:Prop=>∃g1:Nat,X1/\X2/\X3/\X4/\X5/\(((g+1:Nat):Int)=(g1:Int))/\X6/\(∀j0,j0<m->((upto (g+1) (λk=>q k c) j0:Rat)=(upto g1 (λk=>q k c) j0)))/\X7/\X8/\X9/\(g1<=m)/\(m-g1<m-g)) _ _ _ _ _ _ _ _ _))/\((decide ((g:Int)<(m:Int)))=false->(_/\(∀j0,j0<m->((upto g (λk=>q k c) j0:Rat)=(q j0 c)))/\_)))))
  ⟨(λ_ _=>(λ_ _=>trivial)),(idB ((decide ((c:Int)<0))==false)),(idB ((decide ((c:Int)<0))==false)),(idB ((decide ((c:Int)<0))==false)),(by first | (simp;done) | (simp;omega)),(by simp;omega),(rf (m:Int)),(rf (m:Int)),zo,(λj0 hj0=>rfl),⟨0,(rf (c:Int)),(rf 0),(rf m),(leS (mE q n) m),(rf (m:Int)),zo,(rf m),(λj0 hj0=>(by rw[upto_zero])),(rf m),(leS (mE q n) m),(rf (n:Int)),zo⟩,λg hg=>⟨λhc25=>have hc25:=dT hc25;⟨(rf (g:Int)),zo,(rf (c:Int)),zo,(rf (g:Int)),zo,zo,(by rw[upto_at]),(λt ht hne=>by rw[upto_ne hne]),(wI (g:=g) zo),g+1,(rf (c:Int)),(rf 0),(rf m),(leS (mE q n) m),(rf (m:Int)),zo,(rf m),(λj0 hj0=>rfl),(rf m),(leS (mE q n) m),(rf (n:Int)),zo,zo⟩,λhc25=>have hc25:=dF hc25;have hi2:g=m:=zo;⟨(rf m),(λj0 hj0=>(by rw[hi2];exact upto_all (by assumption))),(rf (true:Bool))⟩⟩⟩
theorem BOK.hC{n m:Nat}{D C:Nat->Nat->Rat}{e:Etas}(h:BOK n D C e m){c r:Nat}(hc:c<n)(hr:r<n):htq (C c r)<=2:=by
 have:=h.ht m (Nat.le_refl m) r hr c hc
 rw[h.is c hc r hr];omega
section
variable {n l:Nat} {s:BS} {k:Int} {v:Nat->Rat}
theorem repS_okT(h:BSK n s)(hn:n<=5)(hv:l=n->∀j,j<n->htq (v j)<=2):BSK n (repS n s k v l):=by
 by_cases e:l=n
 ·exact repS_ok h hn (hv e)
 ·by_cases h0:repN n s k v l=0
  ·exact absurd (repN_ok' h0).2.1 e
  ·rw[repS_no h0];exact h
theorem sBReplaceOk(hK:BSK n s)(hn:n<=5)(hv:l=n->∀j,j<n->htq (v j)<=2)(hr:repN n s k v l=0):CallOKm Tryz.prog 90 [.one (bV 1 2 (luS n s.D n) n),cC s.C n,.one (eE s.e n s.m)] [.own 0 0,.ex (.int .i64 k),.sl 3 (λi0=>.rat (v i0)) l] (.ex (.nilIface)) [.one (bV 3 4 (luS n (repS n s k v l).D n) n),.dead,.dead,.one (.row 41 1 (mE (repS n s k v l).C n) n),.one (eE (repS n s k v l).e n ((repS n s k v l).m))]:=
 (sBReplaceT (k:=k) hK hn hv).res λ_ _ _ _ h=>h.1 (decide_eq_true hr)
end
open Go.RowKit
def cntK (kd:Nat->Int):Nat->Nat
 | 0=>0
 | g+1=>if kd g=3 then cntK kd g else cntK kd g+1
def stL (n:Nat) (kd:Nat->Int) (i:Nat):Int:=if kd i=3 then-1 else((n+cntK kd i:Nat):Int)
def stS (k:Int):Int:=if k=1 then 1 else-1
def stA (n:Nat) (kd:Nat->Int) (q:Nat->Nat->Rat) (i j:Nat):Rat:=if j<n then q i j else if stL n kd i=(j:Int) then((stS (kd i):Int):Rat) else 0
def stC (n:Nat) (c:Nat->Rat) (j:Nat):Rat:=if j<n then c j else 0
section
variable {n m g:Nat} {kd:Nat->Int} {q:Nat->Nat->Rat} {c:Nat->Rat}
theorem jU:∀g,cntK kd g<=g
 | 0=>Nat.le_refl 0
 | g+1=>by have:=jU g;unfold cntK;split<;>omega
theorem cntK_eq(h:kd g=3):cntK kd (g+1)=cntK kd g:=if_pos h
theorem jT(h:¬kd g=3):cntK kd (g+1)=cntK kd g+1:=if_neg h
theorem cntK_mono:∀{i j:Nat},i<=j->cntK kd i<=cntK kd j:=λ{i j} h=>by
 induction j with
 | zero=>obtain rfl:=Nat.le_zero.1 h;exact Nat.le_refl _
 | succ j ih=>
  rcases Nat.lt_or_eq_of_le h with e | e
  ·have:=ih zo
   by_cases h3:kd j=3
   ·rw[cntK_eq h3];exact this
   ·rw[jT h3];omega
  ·rw[e];exact Nat.le_refl _
theorem stL_eq(h:kd g=3):stL n kd g=-1:=if_pos h
theorem stL_ne(h:¬kd g=3):stL n kd g=((n+cntK kd g:Nat):Int):=if_neg h
theorem stL_lt(hg:g<m)(h:0<=stL n kd g):∃k,stL n kd g=((n+k:Nat):Int)/\k<cntK kd m:=by
 unfold stL at h⊢
 split
 ·rename_i e;rw[if_pos e] at h;omega
 ·rename_i e
  refine⟨_,rfl,?_⟩
  have:=cntK_mono (kd:=kd) (show g+1<=m by omega)
  rw[jT e] at this
  omega
theorem stA_in{i j:Nat}(h:j<n):stA n kd q i j=q i j:=if_pos h
theorem stA_out{i j:Nat}(h:n<=j)(e:stL n kd i≠(j:Int)):stA n kd q i j=0:=by unfold stA;rw[if_neg zo,if_neg e]
theorem stA_at{i j:Nat}(h:n<=j)(e:stL n kd i=(j:Int)):stA n kd q i j=((stS (kd i):Int):Rat):=by unfold stA;rw[if_neg zo,if_pos e]
theorem stC_in{j:Nat}(h:j<n):stC n c j=c j:=if_pos h
theorem stC_out{j:Nat}(h:n<=j):stC n c j=0:=if_neg zo
end
def lvC (q:Rat) (s:Int×Rat):Int:=if 0<=s.1 then cmpQ q s.2 else-1
def lvS (X c:Nat->Rat) (L:Nat->Nat):Nat->Int×Rat
  | 0=>(-1,0)
  | g + 1 => if (c g).num.sign <= 0 then lvS X c L g else
      if lvC (X g/c g) (lvS X c L g)<0∨(lvC (X g/c g) (lvS X c L g)=0/\L g<L (lvS X c L g).1.toNat) then((g:Int),X g/c g) else lvS X c L g
abbrev lvD (X c:Nat->Rat) (L:Nat->Nat) (g:Nat):Int:=lvC (X g/c g) (lvS X c L g)
section
variable {X c:Nat->Rat} {L:Nat->Nat}
structure LvOK (X c:Nat->Rat) (L:Nat->Nat) (g:Nat) (s:Int×Rat):Prop where
 no:s.1<0->s.1=-1/\∀i,i<g->(c i).num.sign<=0
 yes:0<=s.1->∃b:Nat,s.1=(b:Int)/\b<g/\¬(c b).num.sign<=0/\s.2=X b/c b/\∀i,i<g->¬(c i).num.sign<=0->0<=cmpQ (X i/c i) (X b/c b)/\(cmpQ (X i/c i) (X b/c b)=0->L b<=L i)
theorem cmpQ_self(p:Rat):cmpQ p p=0:=(cmpQ_zero p p).2 rfl
theorem cmpQ_chain{p q r:Rat}(h1:0<=cmpQ p q)(h2:cmpQ r q<=0):0<=cmpQ p r/\(cmpQ p r=0->cmpQ p q=0/\cmpQ r q=0):=by
 unfold cmpQ at*
 grind
theorem lv_ok:∀g,LvOK X c L g (lvS X c L g)
 | 0=>⟨λ_=>⟨rfl,λi hi=>absurd hi (Nat.not_lt_zero i)⟩,λh=>absurd h (show¬(0:Int)<=-1 by decide)⟩
 | g+1=>by
  have ih:=lv_ok g
  unfold lvS
  by_cases hs:(c g).num.sign<=0
  ·rw[if_pos hs]
   refine⟨λh=>?_,λh=>?_⟩
   ·obtain⟨e,h2⟩:=ih.no h
    exact⟨e,λi hi=>by rcases Nat.lt_succ_iff_lt_or_eq.1 hi with k | k;exact h2 i k;rw[k];exact hs⟩
   ·obtain⟨b,e,hb,h1,h2,h3⟩:=ih.yes h
    exact⟨b,e,by omega,h1,h2,λi hi hci=>by rcases Nat.lt_succ_iff_lt_or_eq.1 hi with k | k;exact h3 i k hci;rw[k] at hci;exact absurd hs hci⟩
  ·rw[if_neg hs]
   split
   ·rename_i ht
    refine⟨λh=>absurd h (by show¬((g:Int)<0);omega),λ_=>⟨g,rfl,Nat.lt_succ_self g,hs,rfl,λi hi hci=>?_⟩⟩
    rcases Nat.lt_succ_iff_lt_or_eq.1 hi with k | k
    ·by_cases h0:0<=(lvS X c L g).1
     ·unfold lvC at ht;rw[if_pos h0] at ht
      obtain⟨b,e,hb,h1,h2,h3⟩:=ih.yes h0
      rw[h2,e,Int.toNat_natCast] at ht
      obtain⟨a1,a2⟩:=h3 i k hci
      obtain⟨d1,d2⟩:=cmpQ_chain (r:=X g/c g) a1 (by rcases ht with h | h<;>omega)
      refine⟨d1,λe0=>?_⟩
      obtain⟨f1,f2⟩:=d2 e0
      rcases ht with h | h
      ·omega
      ·exact Nat.le_trans (Nat.le_of_lt h.2) (a2 f1)
     ·exact absurd ((ih.no zo).2 i k) hci
    ·rw[k,cmpQ_self];exact⟨Int.le_refl 0,λ_=>Nat.le_refl _⟩
   ·rename_i ht
    by_cases h0:0<=(lvS X c L g).1
    ·unfold lvC at ht;rw[if_pos h0] at ht
     refine⟨λh=>absurd h zo,λ_=>?_⟩
     obtain⟨b,e,hb,h1,h2,h3⟩:=ih.yes h0
     refine⟨b,e,by omega,h1,h2,λi hi hci=>?_⟩
     rcases Nat.lt_succ_iff_lt_or_eq.1 hi with k | k
     ·exact h3 i k hci
     ·rw[h2,e,Int.toNat_natCast] at ht
      rw[k]
      constructor
      ·apply Int.not_lt.1;exact λh=>ht (.inl h)
      ·intro e0;apply Nat.le_of_not_lt;exact λh=>ht (.inr ⟨e0,h⟩)
    ·unfold lvC at ht;rw[if_neg h0] at ht;exact absurd (.inl zd) ht
variable {g:Nat}
theorem lv_skip(h:(c g).num.sign<=0):lvS X c L (g+1)=lvS X c L g:=if_pos h
theorem lv_take(h:¬(c g).num.sign<=0)(ht:lvD X c L g<0∨(lvD X c L g=0/\L g<L (lvS X c L g).1.toNat)):lvS X c L (g+1)=((g:Int),X g/c g):=by
 show(if(c g).num.sign<=0 then _ else _)=_
 rw[if_neg h,if_pos ht]
theorem lv_stay(h:¬(c g).num.sign<=0)(ht:¬(lvD X c L g<0∨(lvD X c L g=0/\L g<L (lvS X c L g).1.toNat))):lvS X c L (g+1)=lvS X c L g:=by
 show(if(c g).num.sign<=0 then _ else _)=_
 rw[if_neg h,if_neg ht]
theorem lv_T(h:(bif decide (lvD X c L g<0) then true else(bif decide (lvD X c L g=0) then decide (((L g:Nat):Int)<(L (lvS X c L g).1.toNat:Int)) else false))=true):lvD X c L g<0∨(lvD X c L g=0/\L g<L (lvS X c L g).1.toNat):=by
 by_cases h1:lvD X c L g<0
 ·exact .inl h1
 ·by_cases h2:lvD X c L g=0
  ·rw[decide_eq_false h1,decide_eq_true h2] at h
   exact .inr ⟨h2,by have:=of_decide_eq_true h;omega⟩
  ·rw[decide_eq_false h1,decide_eq_false h2] at h;cases h
theorem lv_F(h:(bif decide (lvD X c L g<0) then true else(bif decide (lvD X c L g=0) then decide (((L g:Nat):Int)<(L (lvS X c L g).1.toNat:Int)) else false))=false):¬(lvD X c L g<0∨(lvD X c L g=0/\L g<L (lvS X c L g).1.toNat)):=by
 rintro(h1 | ⟨h1,h2⟩)
 ·rw[decide_eq_true h1] at h;cases h
 ·rw[decide_eq_true h1,decide_eq_true (show(L g:Int)<(L (lvS X c L g).1.toNat:Int) by omega)] at h
  cases hd:decide (lvD X c L g<0)<;>rw[hd] at h<;>cases h
theorem lv_in(h:0<=(lvS X c L g).1):∃b:Nat,(lvS X c L g).1=(b:Int)/\b<g/\(lvS X c L g).2=X b/c b:=by
 obtain⟨b,e,hb,_,h2,_⟩:=(lv_ok g).yes h
 exact⟨b,e,hb,h2⟩
theorem lv_sz{M:Nat}(hs:∀i j,i<M->j<M->szq (X i/c i)+szq (X j/c j)<=17179869184)(hg:g<M)(h:0<=(lvS X c L g).1):szq (X g/c g)+szq (lvS X c L g).2<=17179869184:=by
 obtain⟨b,_,hb,e⟩:=lv_in h
 rw[e];exact hs g b hg zo
theorem lv_pos{p:Prop}(h:p/\lvD X c L g=0):0<=(lvS X c L g).1:=by
 by_cases h0:0<=(lvS X c L g).1
 ·exact h0
 ·have h1:=h.2
  unfold lvD lvC at h1
  rw[if_neg h0] at h1;cases h1
theorem lv_z{p:Prop}(h:p/\lvD X c L g=0):(lvS X c L g).1=(((lvS X c L g).1.toNat:Nat):Int):=by have:=lv_pos h;omega
theorem lv_l{p:Prop}{m:Nat}(h:p/\lvD X c L g=0)(hm:g<=m):(lvS X c L g).1.toNat<m:=by
 obtain⟨b,e,hb,_⟩:=lv_in (lv_pos h)
 rw[e,Int.toNat_natCast];omega
end
open Go.RowKit
abbrev smS (cz:Nat) (cs:Nat->Int) (R:Nat->Nat->Int) (lr:Nat):SV:=.agg (.cn (.ex (.int .u8 (cz:Int))) (.cn (.agg (.cn (.ex (.int .i8 (cs 0))) (.cn (.ex (.int .i8 (cs 1))) (.cn (.ex (.int .i8 (cs 2))) .nl)))) (.cn (.sl 5 (λi=>.agg (.cn (.ex (.int .i8 (R i 0))) (.cn (.ex (.int .i8 (R i 1))) (.cn (.ex (.int .i8 (R i 2))) (.cn (.ex (.int .i8 (R i 3))) (.cn (.ex (.int .i8 (R i 4))) .nl)))))) lr) .nl)))
abbrev zE (X:Nat->Nat->Int) (N:Nat):Nat->SV:=λi=>.sl 1 (λj=>iZ (X i j)) N
abbrev s16 (A:Nat->Nat->Int) (B C:Nat->Int) (n N m:Nat):SV:=.agg (.cn (.sl 1 (zE A N) m) (.cn (.sl 1 (λi=>iZ (B i)) m) (.cn (.sl 1 (λi=>iZ (C i)) N) (.cn (iN n) .nl))))
abbrev fz (q:Rat):SV:=.agg (.cn (.ex (.int .i64 q.num)) (.cn (iN (q.den)) .nl))
def sumZ (f:Nat->Int):Nat->Int
 | 0=>0
 | n+1=>sumZ f n+f n
def sgz:Nat->Int
 | 0=>1
 | n+1=>-sgz n
def minZ (a:Nat->Nat->Int) (c i j:Nat):Int:=a (i+1) (skp c j)
def detZ:Nat->(Nat->Nat->Int)->Int
 | 0,_=>1
 | n+1,a=>sumZ (λc=>sgz c*a 0 c*detZ n (minZ a c)) (n+1)
def cZ (a:Nat->Nat->Int) (i j:Nat):Rat:=((a i j:Int):Rat)
theorem sgz_cast:∀n,((sgz n:Int):Rat)=sgn n
 | 0=>by decide+kernel
 | n+1=>by show((-sgz n:Int):Rat)=-sgn n;rw[Rat.intCast_neg,sgz_cast n]
theorem sumZ_cast{f:Nat->Int}{g:Nat->Rat}:∀n,(∀i,i<n->((f i:Int):Rat)=g i)->((sumZ f n:Int):Rat)=sumQ g n
 | 0,_=>by show((0:Int):Rat)=0;decide+kernel
 | n+1,h=>by show((sumZ f n+f n:Int):Rat)=sumQ g n+g n;rw[Rat.intCast_add,sumZ_cast n λi hi=>h i zo,h n zo]
theorem skp_0(i:Nat):skp 0 i=i+1:=if_neg (Nat.not_lt_zero i)
theorem jP:∀n (a:Nat->Nat->Int),((detZ n a:Int):Rat)=det n (cZ a)
 | 0,_=>by show((1:Int):Rat)=1;decide+kernel
 | n+1,a=>sumZ_cast (n+1) λc _=>by
  rw[Rat.intCast_mul,Rat.intCast_mul,sgz_cast,jP n]
  show sgn c*cZ a 0 c*det n (cZ (minZ a c))=sgn c*cZ a 0 c*det n (yE (cZ a) 0 c)
  rw[det_congr n (A:=cZ (minZ a c)) (B:=yE (cZ a) 0 c) λi _ j _=>by show cZ a (i+1) (skp c j)=cZ a (skp 0 i) (skp c j);rw[skp_0]]
theorem detZ_zero{n:Nat}{a:Nat->Nat->Int}:detZ n a=0↔det n (cZ a)=0:=by
 rw[←jP]
 exact⟨λh=>by rw[h];decide+kernel,λh=>by exact_mod_cast h⟩
def bz:Nat->Nat
 | 0=>1
 | n+1=>(n+1)*(9*bz n)
theorem sgz_abs:∀n,(sgz n).natAbs=1
 | 0=>rfl
 | n+1=>by show(-sgz n).natAbs=1;rw[Int.natAbs_neg,sgz_abs n]
theorem sumZ_abs{f:Nat->Int}{K:Nat}:∀n,(∀i,i<n->(f i).natAbs<=K)->(sumZ f n).natAbs<=n*K
 | 0,_=>by show(0:Int).natAbs<=_;omega
 | n+1,h=>by
  have h1:=sumZ_abs n λi hi=>h i zo
  have h2:=h n zo
  have h3:=Int.natAbs_add_le (sumZ f n) (f n)
  show(sumZ f n+f n).natAbs<=_
  rw[Nat.succ_mul];omega
def Nine (m n:Nat) (a:Nat->Nat->Int):Prop:=∀i,i<m->∀j,j<n->-9<=a i j/\a i j<=9
theorem Nine.min{n:Nat}{a:Nat->Nat->Int}(h:Nine (n+1) (n+1) a)(c:Nat):Nine n n (minZ a c):=λi hi j hj=>h _ zo _ (skp_lt hj)
theorem mul_abs9{x y:Int}{K:Nat}(hx:-9<=x/\x<=9)(hy:y.natAbs<=K):(x*y).natAbs<=9*K:=by
 rw[Int.natAbs_mul];exact Nat.mul_le_mul zo hy
theorem jJ:∀n {a:Nat->Nat->Int},Nine n n a->(detZ n a).natAbs<=bz n
 | 0,_,_=>by show(1:Int).natAbs<=1;decide
 | n+1,a,h=>sumZ_abs (n+1) λc hc=>by
  rw[Int.mul_assoc,Int.natAbs_mul,sgz_abs,Nat.one_mul];exact mul_abs9 (h 0 zo c hc) (jJ n (h.min c))
theorem bz_le{n:Nat}(h:n<=3):bz n<=4374:=by
 rcases n with _ | _ | _ | _ | n
 ·decide
 ·decide
 ·decide
 ·decide
 ·omega
theorem bz_le2{n:Nat}(h:n<=2):9*bz n<=1458:=by
 rcases n with _ | _ | _ | n
 ·decide
 ·decide
 ·decide
 ·omega
section
variable {n g:Nat} {a:Nat->Nat->Int}
theorem det_r1(hn:n<=2)(h:Nine (n+1) (n+1) a)(hg:g<n+1):-1458<=a 0 g*detZ n (minZ a g)/\a 0 g*detZ n (minZ a g)<=1458:=by
 have h1:=mul_abs9 (h 0 zo g hg) (jJ n (h.min g))
 have h2:=bz_le2 hn
 omega
theorem det_r2(hn:n<=2)(h:Nine (n+1) (n+1) a)(hg:g<=n+1):-4374<=sumZ (λc=>sgz c*a 0 c*detZ n (minZ a c)) g/\sumZ (λc=>sgz c*a 0 c*detZ n (minZ a c)) g<=4374:=by
 have h1:(sumZ (λc=>sgz c*a 0 c*detZ n (minZ a c)) g).natAbs<=g*1458:=sumZ_abs g λc hc=>by
  rw[Int.mul_assoc,Int.natAbs_mul,sgz_abs,Nat.one_mul]
  exact Nat.le_trans (mul_abs9 (h 0 zo c zo) (jJ n (h.min c))) (bz_le2 hn)
 have h2:g*1458<=3*1458:=Nat.mul_le_mul_right _ zo
 omega
theorem sgz_even:∀n,n%2=0->sgz n=1
 | 0,_=>rfl
 | 1,h=>by omega
 | n+2,h=>by show- -sgz n=1;rw[sgz_even n zo];rfl
theorem sgz_odd{n:Nat}(h:n%2≠0):sgz n=-1:=by
 obtain⟨k,rfl⟩:∃k,n=k+1:=⟨n-1,by omega⟩
 show-sgz k=-1;rw[sgz_even k zo]
theorem sum_even(h:g%2=0):sumZ (λc=>sgz c*a 0 c*detZ n (minZ a c)) g+a 0 g*detZ n (minZ a g)=sumZ (λc=>sgz c*a 0 c*detZ n (minZ a c)) (g+1):=by
 show _=_+sgz g*a 0 g*detZ n (minZ a g);rw[sgz_even g h,Int.one_mul]
theorem sum_odd(h:g%2≠0):sumZ (λc=>sgz c*a 0 c*detZ n (minZ a c)) g-a 0 g*detZ n (minZ a g)=sumZ (λc=>sgz c*a 0 c*detZ n (minZ a c)) (g+1):=by
 show _=_+sgz g*a 0 g*detZ n (minZ a g);rw[sgz_odd h,Int.neg_mul,Int.one_mul,Int.neg_mul];rfl
theorem sum_none(h:a 0 g=0):sumZ (λc=>sgz c*a 0 c*detZ n (minZ a c)) g=sumZ (λc=>sgz c*a 0 c*detZ n (minZ a c)) (g+1):=by
 show _=_+sgz g*a 0 g*detZ n (minZ a g);rw[h,Int.mul_zero,Int.zero_mul,Int.add_zero]
theorem wz{x:Int}(h:-1000000<=x/\x<=1000000):IntKind.wrap .i64 x=x:=by rw[IntKind.wrap_i64];omega
end
def tz (x:Int):Int:=x.tmod 10
theorem tz_in(x:Int):-9<=tz x/\tz x<=9:=by
 unfold tz
 have h1:=Int.natAbs_tmod x 10
 have h2:x.natAbs%10<10:=Nat.mod_lt _ zd
 have h3:(10:Int).natAbs=10:=rfl
 rw[h3] at h1
 omega
theorem tz_w(x:Int):IntKind.wrap .i64 (tz x)=tz x:=wz (by have:=tz_in x;omega)
def kz (x:Int):Int:=1+(x%256)%3
theorem kz_in(x:Int):1<=kz x/\kz x<=3:=by unfold kz;omega
def zA (n:Nat) (kd:Nat->Int) (a:Nat->Nat->Int) (i j:Nat):Int:=if j<n then a i j else if stL n kd i=(j:Int) then stS (kd i) else 0
def zC (n:Nat) (c:Nat->Int) (j:Nat):Int:=if j<n then c j else 0
def zx (kd:Nat->Int) (g h:Nat):Int:=if h=g then 3-2*kd g else 0
def zlen (N h r:Nat):Nat:=if r<h then N+1 else N
section
variable {n g h m r N:Nat} {kd:Nat->Int} {a:Nat->Nat->Int} {c:Nat->Int}
theorem zA_in{i j:Nat}(h:j<n):zA n kd a i j=a i j:=if_pos h
theorem zC_in{j:Nat}(h:j<n):zC n c j=c j:=if_pos h
theorem zC_out{j:Nat}(h:n<=j):zC n c j=0:=if_neg zo
theorem zA_cast(i j:Nat):((zA n kd a i j:Int):Rat)=stA n kd (cZ a) i j:=by
 unfold zA stA
 split
 ·rfl
 ·split
  ·rfl
  ·decide+kernel
theorem zA_new(hk:¬kd g=3)(hg:1<=kd g/\kd g<=3):zx kd g h=zA n kd a h (n+cntK kd g):=by
 unfold zx zA
 rw[if_neg (show¬n+cntK kd g<n by omega)]
 by_cases e:h=g
 ·rw[if_pos e,e,if_pos (stL_ne hk)]
  unfold stS
  split<;>omega
 ·rw[if_neg e,if_neg]
  intro q
  by_cases h3:kd h=3
  ·rw[stL_eq h3] at q;omega
  ·rw[stL_ne h3] at q
   rcases Nat.lt_or_gt_of_ne e with l | l
   ·have:=cntK_mono (kd:=kd) (show h+1<=g by omega);rw[jT h3] at this;omega
   ·have:=cntK_mono (kd:=kd) (show g+1<=h by omega);rw[jT hk] at this;omega
theorem zlen_0:zlen N 0 r=N:=if_neg (Nat.not_lt_zero r)
theorem zlen_lt(h1:r<h):zlen N h r=N+1:=if_pos h1
theorem zlen_at:zlen N h h=N:=if_neg (Nat.lt_irrefl h)
theorem zlen_next(hne:r≠h):zlen N h r=zlen N (h+1) r:=by
 unfold zlen
 by_cases e:r<h
 ·rw[if_pos e,if_pos zo]
 ·rw[if_neg e,if_neg zo]
end
def goodZ (c:Nat->Int) (N i:Nat):Prop:=0<=c i/\c i<(N:Int)/\∀t,t<i->c t≠c i
instance (c:Nat->Int) (N i:Nat):Decidable (goodZ c N i):=by unfold goodZ;infer_instance
def IsZ (A:Nat->Nat->Int) (m N:Nat) (c:Nat->Int) (l:Nat):Prop:=(∀i,i<l->goodZ c N i)/\l=m/\detZ m (λi j=>A i (c j).toNat)≠0
instance (A:Nat->Nat->Int) (m N:Nat) (c:Nat->Int) (l:Nat):Decidable (IsZ A m N c l):=by unfold IsZ;infer_instance
open Go.RowKit
section
variable {n m g t:Nat} {kd:Nat->Int} {q:Nat->Nat->Rat}
theorem stL_at(hg:g<m)(h:0<=stL n kd g):(stL n kd g).toNat<n+cntK kd m/\n<=(stL n kd g).toNat:=by
 obtain⟨k,e,hk⟩:=stL_lt hg h
 rw[e,Int.toNat_natCast];omega
theorem stA_oth(h:0<=stL n kd g)(hne:t≠(stL n kd g).toNat):stA n kd q g t=stC n (q g) t:=by
 by_cases e:t<n
 ·rw[stA_in e,stC_in e]
 ·rw[stA_out zo zo,stC_out zo]
theorem stA_neg(h:¬0<=stL n kd g):stA n kd q g t=stC n (q g) t:=by
 by_cases e:t<n
 ·rw[stA_in e,stC_in e]
 ·rw[stA_out zo zo,stC_out zo]
end
theorem sMay{c b:Nat->Rat}{q:Nat->Nat->Rat}{kd:Nat->Int}{n m:Nat}(hn:n<=24)(hm:m<=20)(hk:∀i,i<m->1<=kd i/\kd i<=3):CallOK Tryz.prog 54 [.agg (c2 (vE c n) (.sl 5 (λi0=>.agg (c3 (.sl 3 (λi1=>.rat (q i0 i1)) n) (iZ (kd i0)) (.rat (b i0)))) m))] (.ex (.nilIface)) []:=by
 exact kP (ch:=[.dec 14 false,.loop 4 (Nat) (λg=>g<=m) (λg=>m-g) (λg=>⟨[(1,.own 0 0),(17,.sl 5 (λi0=>.agg (c3 (.sl 3 (λi1=>.rat (q i0 i1)) n) (iZ (kd i0)) (.rat (b i0)))) m),(18,iN m),(19,iN g)],[(0,.one (.var 50 (.agg (c2 (vE c n) (.sl 5 (λi0=>.agg (c3 (.sl 3 (λi1=>.rat (q i0 i1)) n) (iZ (kd i0)) (.rat (b i0)))) m)))))],1⟩) [(0,.id 0)] (λ_=>[(0,.id 0)]) (λg=>[.reg 5 [(1,.k g)],.dec 24 false,.dec 35 false,.reg 10 [(0,.z ((g+1:Nat):Int))]])]) Tryz.func54 ((∀j0,j0<n->True)/\(∀j0,j0<m->(∀j1,j1<n->True))/\_/\_/\_/\((!(decide ((24:Int)<(n:Int))))=true->((decide ((24:Int)<(n:Int)))==false)=true)/\((bif (decide ((24:Int)<(n:Int))) then true else(decide ((20:Int)<(m:Int))))=false)/\(((λX1 X2 X3 X4 X5 X6 X7 X8:Prop=>∃g0:Nat,X1/\X2/\X3/\X4/\((0:Int)=(g0:Int))/\X5/\X6/\X7/\X8/\(g0<=m)) _ _ _ _ _ _ _ _)/\∀g:Nat,(g<=m)->(((decide ((g:Int)<(m:Int)))=true->_/\(g<m)/\((!decide ((n:Int)=(n:Int)))=false)/\_/\_/\((!(decide ((kd g:Int)<1)))=true->((decide ((kd g:Int)<1))==false)=true)/\((bif (decide ((kd g:Int)<1)) then true else(decide ((3:Int)<(kd g))))=false)/\_/\((λX1 X2 X3 X4 X5 X6 X7 X8:Prop=>∃g1:Nat,X1/\X2/\X3/\X4/\(((g+1:Nat):Int)=(g1:Int))/\X5/\X6/\X7/\X8/\(g1<=m)/\(m-g1<m-g)) _ _ _ _ _ _ _ _))/\((decide ((g:Int)<(m:Int)))=false->(((.nilIface:Value)=.nilIface))))))
  ⟨(λ_ _=>trivial),(λ_ _=>(λ_ _=>trivial)),(idB ((decide ((24:Int)<(n:Int)))==false)),(idB ((decide ((24:Int)<(n:Int)))==false)),(idB ((decide ((24:Int)<(n:Int)))==false)),zs,(by simp;omega),⟨0,(rf 0),(rf m),(leS (λi0=>.agg (c3 (.sl 3 (λi1=>.rat (q i0 i1)) n) (iZ (kd i0)) (.rat (b i0)))) m),(rf (m:Int)),zo,(rf n),(leS (λi0=>.rat (c i0)) n),(rf m),(leS (λi0=>.agg (c3 (.sl 3 (λi1=>.rat (q i0 i1)) n) (iZ (kd i0)) (.rat (b i0)))) m),zo⟩,λg hg=>⟨λhc20=>have hc20:=dT hc20;have hgm:g<m:=zo;⟨(rf (g:Int)),zo,zs,(idB ((decide ((kd g:Int)<1))==false)),(idB ((decide ((kd g:Int)<1))==false)),zs,(by have:=hk g hgm;simp;omega),(wI (g:=g) zo),g+1,(rf 0),(rf m),(leS (λi0=>.agg (c3 (.sl 3 (λi1=>.rat (q i0 i1)) n) (iZ (kd i0)) (.rat (b i0)))) m),(rf (m:Int)),zo,(rf n),(leS (λi0=>.rat (c i0)) n),(rf m),(leS (λi0=>.agg (c3 (.sl 3 (λi1=>.rat (q i0 i1)) n) (iZ (kd i0)) (.rat (b i0)))) m),zo,zo⟩,λhc20=>have hc20:=dF hc20;rfl⟩⟩
theorem sSign{k:Int}:CallOK Tryz.prog 56 [.ex (.int .i64 k)] (iZ (stS k)) []:=by
 exact kP (ch:=[]) Tryz.func56 ((((decide ((k:Int)=1))=true->(((1:Int)=(stS k))))/\((decide ((k:Int)=1))=false->(((-1:Int)=(stS k))))))
  ⟨λhc4=>have hc4:=dT hc4;(if_pos hc4).symm,λhc4=>have hc4:=dF hc4;(if_neg hc4).symm⟩
theorem sStandard{c b:Nat->Rat}{q:Nat->Nat->Rat}{kd:Nat->Int}{n m:Nat}(hn:n<=24)(hm:m<=20)(hk:∀i,i<m->1<=kd i/\kd i<=3):CallOK Tryz.prog 12 [.agg (c2 (vE c n) (.sl 5 (λi0=>.agg (c3 (.sl 3 (λi1=>.rat (q i0 i1)) n) (iZ (kd i0)) (.rat (b i0)))) m))] (c2 (.agg (.cn (.agg (c2 (.sl 1 (mE (stA n kd q) (n+cntK kd m)) m) (iN (n+cntK kd m)))) (.cn (vE b m) (c3 (vE (stC n c) (n+cntK kd m)) (iN n) (.sl 1 (λi0=>iZ ((stL n kd) i0)) m))))) (.ex (.nilIface))) []:=by
 have hcm:=jU (kd:=kd) m
 exact kP (ch:=[.reg 1 [(1,.callS (.ex (.nilIface)) [])],.dec 19 false,.loop 8 (Nat) (λg=>g<=m) (λg=>m-g) (λg=>⟨[(1,.own 0 0),(2,.own 1 0),(5,iN n),(6,.own 2 0),(7,iN (n+cntK kd g)),(29,.sl 5 (λi0=>.agg (c3 (.sl 3 (λi1=>.rat (q i0 i1)) n) (iZ (kd i0)) (.rat (b i0)))) m),(30,iN m),(31,iN g)],[(0,.one (.var 50 (.agg (c2 (vE c n) (.sl 5 (λi0=>.agg (c3 (.sl 3 (λi1=>.rat (q i0 i1)) n) (iZ (kd i0)) (.rat (b i0)))) m))))),(1,.one (.var 43 (.ex (.agg #[.slice none 0 0,.int .i64 0,.slice none 0 0,.slice none 0 0,.int .i64 0,.slice none 0 0])))),(2,.one (.var 43 (.agg (.cn (.ex sN) (.cn (.ex (.int .i64 0)) (.cn (.own 3 0) (c3 (.ex sN) (iN n) (.own 4 0)))))))),(3,.one (.row 76 3 (λi0=>.rat (b i0)) g)),(4,.one (.row 3 1 (λi0=>iZ (stL n kd i0)) g))],5⟩) [(0,.id 0),(1,.id 1),(2,.id 2),(3,.nil),(4,.nil)] (λ_=>[(0,.id 0),(1,.id 1),(2,.id 2),(3,.id 7),(4,.id 6)]) (λg=>[.reg 9 [(0,.k g)],.reg 13 [(1,.z ((n+cntK kd g+1:Nat):Int))],.reg 14 [(4,.row 0 (λi0=>iZ (stL n kd i0)))],.reg 15 [(5,.row 0 (λi0=>.rat (b i0)))],.reg 16 [(0,.z ((g+1:Nat):Int))],.reg 14 [(4,.row 0 (λi0=>iZ (stL n kd i0)))],.reg 15 [(5,.row 0 (λi0=>.rat (b i0)))],.reg 16 [(0,.z ((g+1:Nat):Int))],.conv 17 [(0,.id 0),(1,.id 1),(2,.id 2),(3,.id 3),(4,.id 4)] ⟨[(1,.own 0 0),(2,.own 1 0),(5,iN n),(6,.own 2 0),(7,iN (n+cntK kd m))],[(0,.one (.var 50 (.agg (c2 (vE c n) (.sl 5 (λi0=>.agg (c3 (.sl 3 (λi1=>.rat (q i0 i1)) n) (iZ (kd i0)) (.rat (b i0)))) m))))),(1,.one (.var 43 (.ex (.agg #[.slice none 0 0,.int .i64 0,.slice none 0 0,.slice none 0 0,.int .i64 0,.slice none 0 0])))),(2,.one (.var 43 (.agg (.cn (.ex sN) (.cn (.ex (.int .i64 0)) (.cn (.own 3 0) (c3 (.ex sN) (iN n) (.own 4 0)))))))),(3,.one (.row 76 3 (λi0=>.rat (b i0)) m)),(4,.one (.row 3 1 (λi0=>iZ (stL n kd i0)) m))],5⟩,.reg 17 [(2,.callS (.own 0 0) [.one (.row 76 3 (λi0=>.rat (c i0)) n)]),(5,.z (cntK kd m:Int)),(6,.row (cntK kd m) (λi0=>.rat (stC n c i0)))],.loop 20 (Nat) (λg=>g<=m) (λg=>m-g) (λg=>⟨[(2,.own 0 0),(5,iN n),(6,.own 1 0),(7,iN (n+cntK kd m)),(11,.own 5 0),(64,.sl 5 (λi0=>.agg (c3 (.sl 3 (λi1=>.rat (q i0 i1)) n) (iZ (kd i0)) (.rat (b i0)))) m),(65,iN m),(66,iN g)],[(0,.one (.var 43 (.ex (.agg #[.slice none 0 0,.int .i64 0,.slice none 0 0,.slice none 0 0,.int .i64 0,.slice none 0 0])))),(1,.one (.var 43 (.agg (.cn (.ex sN) (.cn (.ex (.int .i64 0)) (.cn (.own 2 0) (c3 (.own 3 0) (iN n) (.own 4 0)))))))),(2,.one (.row 76 3 (λi0=>.rat (b i0)) m)),(3,.one (.row 76 3 (λi0=>.rat (stC n c i0)) (n+cntK kd m))),(4,.one (.row 3 1 (λi0=>iZ (stL n kd i0)) m)),(5,.one (.row 41 1 (λi0=>.own 6 i0) g)),(6,.fam g (λi0=>.row 76 3 (λi1=>.rat (stA n kd q i0 i1)) (n+cntK kd m)))],7⟩) [(0,.id 1),(1,.id 2),(2,.id 3),(3,.id 6),(4,.id 4),(5,.nil),(6,.emp)] (λg=>[(0,.id 0),(1,.id 1),(2,.id 2),(3,.id 3),(4,.id 4),(5,.id 8),(6,.put 6 g 7)]) (λg=>[.reg 21 [(1,.k g)],.reg 22 [(2,.callS (.own 0 0) [.one (.row 76 3 (λi0=>.rat (q g i0)) n)]),(5,.z (cntK kd m:Int)),(6,.row (cntK kd m) (λi0=>.rat (stC n (q g) i0)))],.reg 23 [(3,.k g)],.reg 25 [(4,.callS (iZ (stS (kd g))) []),(5,.callS (.rat ((stS (kd g):Int):Rat)) []),(6,.k ((stL n kd g).toNat)),(7,.row 0 (λi0=>.rat (stA n kd q g i0)))],.conv 26 [(0,.id 0),(1,.id 1),(2,.id 2),(3,.id 3),(4,.id 4),(5,.id 5),(6,.id 6),(7,.id 9)] ⟨[(2,.own 0 0),(5,iN n),(6,.own 1 0),(7,iN (n+cntK kd m)),(11,.own 5 0),(64,.sl 5 (λi0=>.agg (c3 (.sl 3 (λi1=>.rat (q i0 i1)) n) (iZ (kd i0)) (.rat (b i0)))) m),(65,iN m),(66,iN g),(12,iN g),(14,.own 7 0)],[(0,.one (.var 43 (.ex (.agg #[.slice none 0 0,.int .i64 0,.slice none 0 0,.slice none 0 0,.int .i64 0,.slice none 0 0])))),(1,.one (.var 43 (.agg (.cn (.ex sN) (.cn (.ex (.int .i64 0)) (.cn (.own 2 0) (c3 (.own 3 0) (iN n) (.own 4 0)))))))),(2,.one (.row 76 3 (λi0=>.rat (b i0)) m)),(3,.one (.row 76 3 (λi0=>.rat (stC n c i0)) (n+cntK kd m))),(4,.one (.row 3 1 (λi0=>iZ (stL n kd i0)) m)),(5,.one (.row 41 1 (λi0=>.own 6 i0) g)),(6,.fam g (λi0=>.row 76 3 (λi1=>.rat (stA n kd q i0 i1)) (n+cntK kd m))),(7,.one (.row 76 3 (λi0=>.rat (stA n kd q g i0)) (n+cntK kd m)))],8⟩,.reg 26 [(3,.row 0 (λi0=>.own (if i0<g then 6 else 7) (if i0<g then i0 else 0)))],.reg 27 [(0,.z ((g+1:Nat):Int))],.conv 26 [(0,.id 0),(1,.id 1),(2,.id 2),(3,.id 3),(4,.id 4),(5,.id 5),(6,.id 6),(7,.id 9)] ⟨[(2,.own 0 0),(5,iN n),(6,.own 1 0),(7,iN (n+cntK kd m)),(11,.own 5 0),(64,.sl 5 (λi0=>.agg (c3 (.sl 3 (λi1=>.rat (q i0 i1)) n) (iZ (kd i0)) (.rat (b i0)))) m),(65,iN m),(66,iN g),(12,iN g),(14,.own 7 0)],[(0,.one (.var 43 (.ex (.agg #[.slice none 0 0,.int .i64 0,.slice none 0 0,.slice none 0 0,.int .i64 0,.slice none 0 0])))),(1,.one (.var 43 (.agg (.cn (.ex sN) (.cn (.ex (.int .i64 0)) (.cn (.own 2 0) (c3 (.own 3 0) (iN n) (.own 4 0)))))))),(2,.one (.row 76 3 (λi0=>.rat (b i0)) m)),(3,.one (.row 76 3 (λi0=>.rat (stC n c i0)) (n+cntK kd m))),(4,.one (.row 3 1 (λi0=>iZ (stL n kd i0)) m)),(5,.one (.row 41 1 (λi0=>.own 6 i0) g)),(6,.fam g (λi0=>.row 76 3 (λi1=>.rat (stA n kd q i0 i1)) (n+cntK kd m))),(7,.one (.row 76 3 (λi0=>.rat (stA n kd q g i0)) (n+cntK kd m)))],8⟩,.reg 26 [(3,.row 0 (λi0=>.own (if i0<g then 6 else 7) (if i0<g then i0 else 0)))],.reg 27 [(0,.z ((g+1:Nat):Int))],.conv 28 [(0,.id 0),(1,.id 1),(2,.id 2),(3,.id 3),(4,.id 4)] ⟨[(2,.own 0 0),(6,.own 1 0),(7,iN (n+cntK kd m)),(11,.sl 1 (λi0=>.sl 3 (λi1=>.rat (stA n kd q i0 i1)) (n+cntK kd m)) m)],[(0,.one (.var 43 (.ex (.agg #[.slice none 0 0,.int .i64 0,.slice none 0 0,.slice none 0 0,.int .i64 0,.slice none 0 0])))),(1,.one (.var 43 (.agg (.cn (.ex sN) (.cn (.ex (.int .i64 0)) (.cn (.own 2 0) (c3 (.own 3 0) (iN n) (.own 4 0)))))))),(2,.one (.row 76 3 (λi0=>.rat (b i0)) m)),(3,.one (.row 76 3 (λi0=>.rat (stC n c i0)) (n+cntK kd m))),(4,.one (.row 3 1 (λi0=>iZ (stL n kd i0)) m))],5⟩,.reg 28 [(2,.callS (c2 (.agg (c2 (.sl 1 (λi0=>.sl 3 (λi1=>.rat (stA n kd q i0 i1)) (n+cntK kd m)) m) (iN (n+cntK kd m)))) (bX true)) [])]])])]) Tryz.func12 ((∀j0,j0<n->True)/\(∀j0,j0<m->(∀j1,j1<n->True))/\(CallOK Tryz.prog 54 [.agg (c2 (vE c n) (.sl 5 (λi0=>.agg (c3 (.sl 3 (λi1=>.rat (q i0 i1)) n) (iZ (kd i0)) (.rat (b i0)))) m))] (.ex (.nilIface)) [])/\((!true)=false)/\(((λX1 X2 X3 X4 X5 X6 X7 X8 X9 X10 X11 X12 X13 X14 X15:Prop=>∃g0:Nat,X1/\X2/\X3/\X4/\((n:Int)=((n+cntK kd g0:Nat):Int))/\X5/\X6/\X7/\((0:Int)=(g0:Int))/\X8/\X9/\X10/\X11/\((.agg #[.slice none 0 0,.int .i64 0,.slice none 0 0,.slice none 0 0,.int .i64 0,.slice none 0 0]:Value)=.agg #[.slice none 0 0,.int .i64 0,.slice none 0 0,.slice none 0 0,.int .i64 0,.slice none 0 0])/\X12/\X13/\X14/\X15/\((g0:Nat)=0)/\((g0:Nat)=0)/\(g0<=m)) _ _ _ _ _ _ _ _ _ _ _ _ _ _ _)/\∀g:Nat,(g<=m)->(((decide ((g:Int)<(m:Int)))=true->_/\(g<m)/\(((!decide ((kd g:Int)=3))=true->(IntKind.wrap .i64 (((n+cntK kd g:Nat):Int)+1)=(((n+cntK kd g+1:Nat):Int)))/\(g+1<=68719476736)/\_/\(∀j0,j0<1->(((n+cntK kd g:Nat):Int)=(stL n kd (g+j0))))/\(g+1<=68719476736)/\_/\_/\_/\((λX1 X2 X3 X4 X5 X6 X7 X8 X9 X10 X11 X12 X13 X14 X15 X16 X17:Prop=>∃g1:Nat,X1/\X2/\X3/\X4/\(((n+cntK kd g+1:Nat):Int)=((n+cntK kd g1:Nat):Int))/\X5/\X6/\X7/\(((g+1:Nat):Int)=(g1:Int))/\X8/\X9/\X10/\X11/\((.agg #[.slice none 0 0,.int .i64 0,.slice none 0 0,.slice none 0 0,.int .i64 0,.slice none 0 0]:Value)=.agg #[.slice none 0 0,.int .i64 0,.slice none 0 0,.slice none 0 0,.int .i64 0,.slice none 0 0])/\X12/\X13/\X14/\X15/\((g+1:Nat)=g1)/\X16/\((g+1:Nat)=g1)/\X17/\(g1<=m)/\(m-g1<m-g)) _ _ _ _ _ _ _ _ _ _ _ _ _ _ _ _ _))/\((!decide ((kd g:Int)=3))=false->(g+1<=68719476736)/\_/\(∀j0,j0<1->((-1:Int)=(stL n kd (g+j0))))/\(g+1<=68719476736)/\_/\_/\_/\((λX1 X2 X3 X4 X5 X6 X7 X8 X9 X10 X11 X12 X13 X14 X15 X16 X17:Prop=>∃g1:Nat,X1/\X2/\X3/\X4/\(((n+cntK kd g:Nat):Int)=((n+cntK kd g1:Nat):Int))/\X5/\X6/\X7/\(((g+1:Nat):Int)=(g1:Int))/\X8/\X9/\X10/\X11/\((.agg #[.slice none 0 0,.int .i64 0,.slice none 0 0,.slice none 0 0,.int .i64 0,.slice none 0 0]:Value)=.agg #[.slice none 0 0,.int .i64 0,.slice none 0 0,.slice none 0 0,.int .i64 0,.slice none 0 0])/\X12/\X13/\X14/\X15/\((g+1:Nat)=g1)/\X16/\((g+1:Nat)=g1)/\X17/\(g1<=m)/\(m-g1<m-g)) _ _ _ _ _ _ _ _ _ _ _ _ _ _ _ _ _))))/\((decide ((g:Int)<(m:Int)))=false->_/\_/\_/\_/\(((n+cntK kd g:Nat):Int)=((n+cntK kd m:Nat):Int))/\_/\_/\_/\_/\((.agg #[.slice none 0 0,.int .i64 0,.slice none 0 0,.slice none 0 0,.int .i64 0,.slice none 0 0]:Value)=.agg #[.slice none 0 0,.int .i64 0,.slice none 0 0,.slice none 0 0,.int .i64 0,.slice none 0 0])/\_/\_/\_/\_/\((g:Nat)=m)/\_/\((g:Nat)=m)/\_/\_/\(IntKind.wrap .i64 (((n+cntK kd m:Nat):Int)-(n:Int))=(((cntK kd m:Nat):Int)))/\(n+(cntK kd m)<=68719476736)/\(∀j0,j0<n->(.rat (stC n c j0):SV)=.rat (c j0))/\(∀j0,j0<(cntK kd m)->((stC n c (n+j0):Rat)=0))/\_/\((cntK kd m)<=68719476736)/\(((λX1 X2 X3 X4 X5 X6 X7 X8 X9 X10 X11 X12 X13 X14 X15 X16 X17 X18:Prop=>∃g0:Nat,X1/\X2/\X3/\X4/\X5/\X6/\X7/\X8/\((0:Int)=(g0:Int))/\((.agg #[.slice none 0 0,.int .i64 0,.slice none 0 0,.slice none 0 0,.int .i64 0,.slice none 0 0]:Value)=.agg #[.slice none 0 0,.int .i64 0,.slice none 0 0,.slice none 0 0,.int .i64 0,.slice none 0 0])/\X9/\X10/\X11/\X12/\X13/\X14/\X15/\((n+(cntK kd m):Nat)=(n+cntK kd m))/\X16/\X17/\X18/\((g0:Nat)=0)/\((g0:Nat)=0)/\(g0<=m)) _ _ _ _ _ _ _ _ _ _ _ _ _ _ _ _ _ _)/\∀g:Nat,(g<=m)->(((decide ((g:Int)<(m:Int)))=true->_/\(g<m)/\_/\(IntKind.wrap .i64 (((n+cntK kd m:Nat):Int)-(n:Int))=(((cntK kd m:Nat):Int)))/\(n+(cntK kd m)<=68719476736)/\(∀j0,j0<n->(.rat (stC n (q g) j0):SV)=.rat (q g j0))/\(∀j0,j0<(cntK kd m)->((stC n (q g) (n+j0):Rat)=0))/\_/\((cntK kd m)<=68719476736)/\_/\(g<m)/\(g<m)/\(((decide ((0:Int)<=(stL n kd g)))=true->(CallOK Tryz.prog 56 [iZ (kd g)] (iZ (stS (kd g))) [])/\_/\((stL n kd g:Int)=(((stL n kd g).toNat:Nat):Int))/\(((stL n kd g).toNat)<(n+(cntK kd m)))/\(((stL n kd g).toNat)<(n+(cntK kd m)))/\(((((stS (kd g):Int):Rat):Rat)=(stA n kd q g ((stL n kd g).toNat))))/\(∀t,t<(n+(cntK kd m))->t≠((stL n kd g).toNat)->(.rat (stA n kd q g t):SV)=.rat (stC n (q g) t))/\_/\_/\_/\_/\_/\_/\_/\_/\_/\_/\_/\((.agg #[.slice none 0 0,.int .i64 0,.slice none 0 0,.slice none 0 0,.int .i64 0,.slice none 0 0]:Value)=.agg #[.slice none 0 0,.int .i64 0,.slice none 0 0,.slice none 0 0,.int .i64 0,.slice none 0 0])/\_/\_/\_/\_/\_/\_/\_/\_/\_/\_/\_/\_/\(∀j0,j0<g->((j0:Nat)=j0))/\_/\(∀j0,j0<g->((n+cntK kd m:Nat)=(n+cntK kd m))/\(∀j1,j1<(n+cntK kd m)->((stA n kd q j0 j1:Rat)=(stA n kd q j0 j1))))/\((n+(cntK kd m):Nat)=(n+cntK kd m))/\_/\(g+1<=68719476736)/\(∀j0,j0<g->(.own (if j0<g then 6 else 7) (if j0<g then j0 else 0):SV)=.own 6 j0)/\(∀j0,j0<1->((7:Nat)=(if g+j0<g then 6 else 7))/\((0:Nat)=(if g+j0<g then g+j0 else 0)))/\_/\((λX1 X2 X3 X4 X5 X6 X7 X8 X9 X10 X11 X12 X13 X14 X15 X16 X17 X18 X19 X20:Prop=>∃g1:Nat,X1/\X2/\X3/\X4/\X5/\X6/\X7/\X8/\(((g+1:Nat):Int)=(g1:Int))/\((.agg #[.slice none 0 0,.int .i64 0,.slice none 0 0,.slice none 0 0,.int .i64 0,.slice none 0 0]:Value)=.agg #[.slice none 0 0,.int .i64 0,.slice none 0 0,.slice none 0 0,.int .i64 0,.slice none 0 0])/\X9/\X10/\X11/\X12/\X13/\X14/\X15/\X16/\X17/\X18/\X19/\((g+1:Nat)=g1)/\(∀j0,j0<(g+1)->(((if j0<g then 6 else 7:Nat)=7/\(if j0<g then j0 else 0:Nat)=0/\(j0:Nat)=g)∨((if j0<g then 6 else 7:Nat)=6/\(if j0<g then j0 else 0:Nat)=j0/\(j0:Nat)≠g)))/\((g1:Nat)=g+1)/\X20/\(((n+cntK kd m:Nat)=(n+cntK kd m))/\(∀j1,j1<(n+cntK kd m)->((stA n kd q g j1:Rat)=(stA n kd q g j1))))/\(∀j0,j0<g->((n+cntK kd m:Nat)=(n+cntK kd m))/\(∀j1,j1<(n+cntK kd m)->((stA n kd q j0 j1:Rat)=(stA n kd q j0 j1))))/\(g1<=m)/\(m-g1<m-g)) _ _ _ _ _ _ _ _ _ _ _ _ _ _ _ _ _ _ _ _))/\((decide ((0:Int)<=(stL n kd g)))=false->_/\_/\_/\_/\_/\_/\_/\_/\_/\_/\_/\((.agg #[.slice none 0 0,.int .i64 0,.slice none 0 0,.slice none 0 0,.int .i64 0,.slice none 0 0]:Value)=.agg #[.slice none 0 0,.int .i64 0,.slice none 0 0,.slice none 0 0,.int .i64 0,.slice none 0 0])/\_/\_/\_/\_/\_/\_/\_/\_/\_/\_/\_/\_/\(∀j0,j0<g->((j0:Nat)=j0))/\_/\(∀j0,j0<g->((n+cntK kd m:Nat)=(n+cntK kd m))/\(∀j1,j1<(n+cntK kd m)->((stA n kd q j0 j1:Rat)=(stA n kd q j0 j1))))/\((n+(cntK kd m):Nat)=(n+cntK kd m))/\(∀j0,j0<(n+(cntK kd m))->((stC n (q g) j0:Rat)=(stA n kd q g j0)))/\(g+1<=68719476736)/\(∀j0,j0<g->(.own (if j0<g then 6 else 7) (if j0<g then j0 else 0):SV)=.own 6 j0)/\(∀j0,j0<1->((7:Nat)=(if g+j0<g then 6 else 7))/\((0:Nat)=(if g+j0<g then g+j0 else 0)))/\_/\((λX1 X2 X3 X4 X5 X6 X7 X8 X9 X10 X11 X12 X13 X14 X15 X16 X17 X18 X19 X20:Prop=>∃g1:Nat,X1/\X2/\X3/\X4/\X5/\X6/\X7/\X8/\(((g+1:Nat):Int)=(g1:Int))/\((.agg #[.slice none 0 0,.int .i64 0,.slice none 0 0,.slice none 0 0,.int .i64 0,.slice none 0 0]:Value)=.agg #[.slice none 0 0,.int .i64 0,.slice none 0 0,.slice none 0 0,.int .i64 0,.slice none 0 0])/\X9/\X10/\X11/\X12/\X13/\X14/\X15/\X16/\X17/\X18/\X19/\((g+1:Nat)=g1)/\(∀j0,j0<(g+1)->(((if j0<g then 6 else 7:Nat)=7/\(if j0<g then j0 else 0:Nat)=0/\(j0:Nat)=g)∨((if j0<g then 6 else 7:Nat)=6/\(if j0<g then j0 else 0:Nat)=j0/\(j0:Nat)≠g)))/\((g1:Nat)=g+1)/\X20/\(((n+cntK kd m:Nat)=(n+cntK kd m))/\(∀j1,j1<(n+cntK kd m)->((stA n kd q g j1:Rat)=(stA n kd q g j1))))/\(∀j0,j0<g->((n+cntK kd m:Nat)=(n+cntK kd m))/\(∀j1,j1<(n+cntK kd m)->((stA n kd q j0 j1:Rat)=(stA n kd q j0 j1))))/\(g1<=m)/\(m-g1<m-g)) _ _ _ _ _ _ _ _ _ _ _ _ _ _ _ _ _ _ _ _))))/\((decide ((g:Int)<(m:Int)))=false->_/\_/\_/\((g:Nat)=m)/\(∀j0,j0<g->((n+cntK kd m:Nat)=(n+cntK kd m))/\(∀j1,j1<(n+cntK kd m)->((stA n kd q j0 j1:Rat)=(stA n kd q j0 j1)))/\(j0<g))/\((.agg #[.slice none 0 0,.int .i64 0,.slice none 0 0,.slice none 0 0,.int .i64 0,.slice none 0 0]:Value)=.agg #[.slice none 0 0,.int .i64 0,.slice none 0 0,.slice none 0 0,.int .i64 0,.slice none 0 0])/\_/\_/\_/\_/\_/\_/\_/\_/\_/\_/\_/\_/\(_/\(∀j0,j0<m->((n+cntK kd m:Nat)=(n+cntK kd m))/\(∀j1,j1<(n+cntK kd m)->((stA n kd q j0 j1:Rat)=((stA n kd q) j0 j1))))/\_/\_/\_/\_/\(∀j0,j0<(n+cntK kd m)->((stC n c j0:Rat)=((stC n c) j0)))/\_/\_/\(∀j0,j0<m->((stL n kd j0:Int)=((stL n kd) j0)))/\((.nilIface:Value)=.nilIface)))))))))
  ⟨(λ_ _=>trivial),(λ_ _=>(λ_ _=>trivial)),(sMay hn hm hk),rfl,⟨0,(rf 0),(rf 0),(rf (n:Int)),(rf 0),(by rfl),(rf m),(leS (λi0=>.agg (c3 (.sl 3 (λi1=>.rat (q i0 i1)) n) (iZ (kd i0)) (.rat (b i0)))) m),(rf (m:Int)),zo,(rf n),(leS (λi0=>.rat (c i0)) n),(rf m),(leS (λi0=>.agg (c3 (.sl 3 (λi1=>.rat (q i0 i1)) n) (iZ (kd i0)) (.rat (b i0)))) m),rfl,(rf (0:Int)),(rf 0),(rf (n:Int)),(rf 0),zo,zo,zo⟩,λg hg=>⟨λhc32=>have hc32:=dT hc32;have hgm:g<m:=zo;have hcl:=jU (kd:=kd) g;⟨(rf (g:Int)),zo,λhc37=>have hk3:¬kd g=3:=(by simpa using hc37);⟨(by rw[IntKind.wrap_i64];omega),zo,(oldS (λi0=>iZ (stL n kd i0)) g),(λj0 hj0=>(by rw[show j0=0 by omega];first | exact(stL_ne hk3).symm | exact(stL_eq hk3).symm)),zo,(oldS (λi0=>.rat (b i0)) g),(newS (λi0=>.rat (b i0)) g),(wI (g:=g) zo),g+1,(rf 0),(rf 0),(rf (n:Int)),(rf 0),(by first | (have:=jT (kd:=kd) hk3;omega) | (have:=cntK_eq (kd:=kd) hk3;omega)),(rf m),(leS (λi0=>.agg (c3 (.sl 3 (λi1=>.rat (q i0 i1)) n) (iZ (kd i0)) (.rat (b i0)))) m),(rf (m:Int)),zo,(rf n),(leS (λi0=>.rat (c i0)) n),(rf m),(leS (λi0=>.agg (c3 (.sl 3 (λi1=>.rat (q i0 i1)) n) (iZ (kd i0)) (.rat (b i0)))) m),rfl,(rf (0:Int)),(rf 0),(rf (n:Int)),(rf 0),zo,(leS (λi0=>.rat (b i0)) (g+1)),zo,(leS (λi0=>iZ (stL n kd i0)) (g+1)),zo,zo⟩,λhc37=>have hk3:kd g=3:=(by simpa using hc37);⟨zo,(oldS (λi0=>iZ (stL n kd i0)) g),(λj0 hj0=>(by rw[show j0=0 by omega];first | exact(stL_ne hk3).symm | exact(stL_eq hk3).symm)),zo,(oldS (λi0=>.rat (b i0)) g),(newS (λi0=>.rat (b i0)) g),(wI (g:=g) zo),g+1,(rf 0),(rf 0),(rf (n:Int)),(rf 0),(by first | (have:=jT (kd:=kd) hk3;omega) | (have:=cntK_eq (kd:=kd) hk3;omega)),(rf m),(leS (λi0=>.agg (c3 (.sl 3 (λi1=>.rat (q i0 i1)) n) (iZ (kd i0)) (.rat (b i0)))) m),(rf (m:Int)),zo,(rf n),(leS (λi0=>.rat (c i0)) n),(rf m),(leS (λi0=>.agg (c3 (.sl 3 (λi1=>.rat (q i0 i1)) n) (iZ (kd i0)) (.rat (b i0)))) m),rfl,(rf (0:Int)),(rf 0),(rf (n:Int)),(rf 0),zo,(leS (λi0=>.rat (b i0)) (g+1)),zo,(leS (λi0=>iZ (stL n kd i0)) (g+1)),zo,zo⟩⟩,λhc32=>have hc32:=dF hc32;have hi2:g=m:=zo;⟨(rf 0),(rf 0),(rf (n:Int)),(rf 0),(by rw[hi2]),(rf n),(leS (λi0=>.rat (c i0)) n),(rf m),(leS (λi0=>.agg (c3 (.sl 3 (λi1=>.rat (q i0 i1)) n) (iZ (kd i0)) (.rat (b i0)))) m),rfl,(rf (0:Int)),(rf 0),(rf (n:Int)),(rf 0),hi2,(leS (λi0=>.rat (b i0)) g),hi2,(leS (λi0=>iZ (stL n kd i0)) g),kS (n:=n) (q:=c) zo,(by rw[IntKind.wrap_i64];omega),zo,(λj0 hj0=>by rw[stC_in hj0]),(λj0 hj0=>(stC_out zo)),(rf (cntK kd m:Int)),zo,⟨0,(rf 0),(rf (n:Int)),(rf 0),(rf ((n+cntK kd m:Nat):Int)),(rf 0),(rf m),(leS (λi0=>.agg (c3 (.sl 3 (λi1=>.rat (q i0 i1)) n) (iZ (kd i0)) (.rat (b i0)))) m),(rf (m:Int)),zo,rfl,(rf (0:Int)),(rf 0),(rf 0),(rf (n:Int)),(rf 0),(rf m),(leS (λi0=>.rat (b i0)) m),zo,(leS (λi0=>.rat (stC n c i0)) (n+(cntK kd m))),(rf m),(leS (λi0=>iZ (stL n kd i0)) m),zo,zo,zo⟩,λg hg=>⟨λhc67=>have hc67:=dT hc67;have hgm:g<m:=zo;⟨(rf (g:Int)),zo,kS (n:=n) (q:=(λi=>q g i)) zo,(by rw[IntKind.wrap_i64];omega),zo,(λj0 hj0=>by rw[stC_in hj0]),(λj0 hj0=>(stC_out zo)),(rf (cntK kd m:Int)),zo,(rf (g:Int)),zo,zo,λhc84=>have hc84:=dT hc84;have hlt:=stL_at (n:=n) hgm hc84;⟨sSign,uM (x:=stS (kd g)) (by unfold stS;split<;>omega) (by unfold stS;split<;>omega),zo,hlt.1,zo,(stA_at hlt.2 zo).symm,(λt ht hne=>by rw[stA_oth hc84 hne]),(rf 0),(rf (n:Int)),(rf 0),(rf ((n+cntK kd m:Nat):Int)),(rf 0),(rf m),(leS (λi0=>.agg (c3 (.sl 3 (λi1=>.rat (q i0 i1)) n) (iZ (kd i0)) (.rat (b i0)))) m),(rf (m:Int)),(rf (g:Int)),(rf (g:Int)),(rf 0),rfl,(rf (0:Int)),(rf 0),(rf 0),(rf (n:Int)),(rf 0),(rf m),(leS (λi0=>.rat (b i0)) m),(rf (n+cntK kd m:Nat)),(leS (λi0=>.rat (stC n c i0)) (n+cntK kd m)),(rf m),(leS (λi0=>iZ (stL n kd i0)) m),(rf g),(λj0 hj0=>rfl),(rf g),(λj0 hj0=>⟨rfl,(λj1 hj1=>rfl)⟩),zo,(leS (λi0=>.rat (stA n kd q g i0)) (n+(cntK kd m))),zo,(λj0 hj0=>by rw[if_pos hj0,if_pos hj0]),(λj0 hj0=>⟨(by rw[if_neg zo]),(by rw[if_neg zo])⟩),(wI (g:=g) zo),g+1,(rf 0),(rf (n:Int)),(rf 0),(rf ((n+cntK kd m:Nat):Int)),(rf 0),(rf m),(leS (λi0=>.agg (c3 (.sl 3 (λi1=>.rat (q i0 i1)) n) (iZ (kd i0)) (.rat (b i0)))) m),(rf (m:Int)),zo,rfl,(rf (0:Int)),(rf 0),(rf 0),(rf (n:Int)),(rf 0),(rf m),(leS (λi0=>.rat (b i0)) m),(rf (n+cntK kd m:Nat)),(leS (λi0=>.rat (stC n c i0)) (n+cntK kd m)),(rf m),(leS (λi0=>iZ (stL n kd i0)) m),zo,(λj0 hj0=>(by first | omega | (split<;>omega))),zo,(rf g),⟨rfl,(λj1 hj1=>rfl)⟩,(λj0 hj0=>⟨rfl,(λj1 hj1=>rfl)⟩),zo,zo⟩,λhc84=>have hc84:=dF hc84;⟨(rf 0),(rf (n:Int)),(rf 0),(rf ((n+cntK kd m:Nat):Int)),(rf 0),(rf m),(leS (λi0=>.agg (c3 (.sl 3 (λi1=>.rat (q i0 i1)) n) (iZ (kd i0)) (.rat (b i0)))) m),(rf (m:Int)),(rf (g:Int)),(rf (g:Int)),(rf 0),rfl,(rf (0:Int)),(rf 0),(rf 0),(rf (n:Int)),(rf 0),(rf m),(leS (λi0=>.rat (b i0)) m),(rf (n+cntK kd m:Nat)),(leS (λi0=>.rat (stC n c i0)) (n+cntK kd m)),(rf m),(leS (λi0=>iZ (stL n kd i0)) m),(rf g),(λj0 hj0=>rfl),(rf g),(λj0 hj0=>⟨rfl,(λj1 hj1=>rfl)⟩),zo,(λj0 hj0=>(by first | rfl | exact(stA_neg hc84).symm)),zo,(λj0 hj0=>by rw[if_pos hj0,if_pos hj0]),(λj0 hj0=>⟨(by rw[if_neg zo]),(by rw[if_neg zo])⟩),(wI (g:=g) zo),g+1,(rf 0),(rf (n:Int)),(rf 0),(rf ((n+cntK kd m:Nat):Int)),(rf 0),(rf m),(leS (λi0=>.agg (c3 (.sl 3 (λi1=>.rat (q i0 i1)) n) (iZ (kd i0)) (.rat (b i0)))) m),(rf (m:Int)),zo,rfl,(rf (0:Int)),(rf 0),(rf 0),(rf (n:Int)),(rf 0),(rf m),(leS (λi0=>.rat (b i0)) m),(rf (n+cntK kd m:Nat)),(leS (λi0=>.rat (stC n c i0)) (n+cntK kd m)),(rf m),(leS (λi0=>iZ (stL n kd i0)) m),zo,(λj0 hj0=>(by first | omega | (split<;>omega))),zo,(rf g),⟨rfl,(λj1 hj1=>rfl)⟩,(λj0 hj0=>⟨rfl,(λj1 hj1=>rfl)⟩),zo,zo⟩⟩,λhc67=>have hc67:=dF hc67;have hi3:g=m:=zo;⟨(rf 0),(rf 0),(rf ((n+cntK kd m:Nat):Int)),hi3,(λj0 hj0=>⟨rfl,(λj1 hj1=>rfl),zo⟩),rfl,(rf (0:Int)),(rf 0),(rf 0),(rf (n:Int)),(rf 0),(rf m),(leS (λi0=>.rat (b i0)) m),(rf (n+cntK kd m:Nat)),(leS (λi0=>.rat (stC n c i0)) (n+cntK kd m)),(rf m),(leS (λi0=>iZ (stL n kd i0)) m),(sMatOf (m:=m) (n:=n+cntK kd m) (q:=λr c=>stA n kd q r c) zo zo),(rf m),(λj0 hj0=>⟨rfl,(λj1 hj1=>rfl)⟩),(rf ((n+cntK kd m:Nat):Int)),(rf m),(leS (λi0=>.rat (b i0)) m),(rf (n+cntK kd m:Nat)),(λj0 hj0=>rfl),(rf (n:Int)),(rf m),(λj0 hj0=>rfl),rfl⟩⟩⟩⟩⟩
open Go.RowKit
def oC (cs:Nat->Int) (j:Nat):Int:=tz (cs j)
def oA (R:Nat->Nat->Int) (i j:Nat):Int:=tz (R i j)
def oK (R:Nat->Nat->Int) (i:Nat):Int:=kz (R i 3)
def oB (R:Nat->Nat->Int) (i:Nat):Int:=tz (R i 4)
theorem sOne16{cz lr n m:Nat}{cs:Nat->Int}{R:Nat->Nat->Int}(hn:cz%4=n)(hm:min lr 3=m):CallOK Tryz.prog 11 [smS cz cs R lr] (.agg (c2 (.sl 1 (λi0=>iZ ((oC cs) i0)) n) (.sl 3 (λi0=>.agg (c3 (.sl 1 (λi1=>iZ ((oA R) i0 i1)) n) (iZ (oK R i0)) (iZ (oB R i0)))) m))) []:=by
 have hn3:n<=3:=by omega
 have hm3:m<=3:=by omega
 exact kP (ch:=[.conv 1 [(0,.id 1)] ⟨[(1,.ep (smS cz cs R lr)),(2,.own 0 0)],[(0,.one (.var 35 (.ex (.agg #[.slice none 0 0,.slice none 0 0]))))],1⟩,.reg 1 [(2,.z (n:Int)),(3,.z (n:Int))],.loop 4 (Nat) (λg=>g<=n) (λg=>n-g) (λg=>⟨[(1,.ep (smS cz cs R lr)),(2,.own 0 0),(3,iN n),(4,.own 1 0),(5,iN g)],[(0,.one (.var 35 (.ex (.agg #[.slice none 0 0,.slice none 0 0])))),(1,.one (.var 35 (.agg (c2 (.own 2 0) (.ex sN))))),(2,.one (.row 3 1 (λi0=>iZ ((oC cs) i0)) g))],3⟩) [(0,.id 0),(1,.id 1),(2,.nil)] (λ_=>[(0,.id 0),(1,.id 1),(2,.id 3)]) (λg=>[.reg 6 [(4,.row g (λi0=>.ex (.int .i8 (cs i0)))),(6,.z (oC cs g)),(7,.z (oC cs g)),(9,.row 0 (λi0=>iZ ((oC cs) i0)))],.reg 5 [(1,.z ((g+1:Nat):Int))],.loop 8 (Nat) (λg=>g<=m) (λg=>m-g) (λg=>⟨[(1,.ep (smS cz cs R lr)),(2,.own 0 0),(3,iN n),(4,.own 1 0),(6,iN g)],[(0,.one (.var 35 (.ex (.agg #[.slice none 0 0,.slice none 0 0])))),(1,.one (.var 35 (.agg (c2 (.own 2 0) (.own 3 0))))),(2,.one (.row 3 1 (λi0=>iZ ((oC cs) i0)) n)),(3,.one (.row 113 3 (λi0=>.agg (c3 (.sl 1 (λi1=>iZ ((oA R) i0 i1)) n) (iZ (oK R i0)) (iZ (oB R i0)))) g))],4⟩) [(0,.id 0),(1,.id 1),(2,.id 2),(3,.nil)] (λ_=>[(0,.id 0),(1,.id 1),(2,.id 2),(3,.id 5)]) (λg=>[.loop 12 (Nat) (λh=>h<=n) (λh=>n-h) (λh=>⟨[(1,.ep (smS cz cs R lr)),(2,.own 0 0),(3,iN n),(4,.own 1 0),(6,iN g),(7,.own 4 0),(8,iN h)],[(0,.one (.var 35 (.ex (.agg #[.slice none 0 0,.slice none 0 0])))),(1,.one (.var 35 (.agg (c2 (.own 2 0) (.own 3 0))))),(2,.one (.row 3 1 (λi0=>iZ ((oC cs) i0)) n)),(3,.one (.row 113 3 (λi0=>.agg (c3 (.sl 1 (λi1=>iZ ((oA R) i0 i1)) n) (iZ (oK R i0)) (iZ (oB R i0)))) g)),(4,.one (.var 113 (.agg (c3 (.own 5 0) (.ex (.int .i64 0)) (.ex (.int .i64 0)))))),(5,.one (.row 3 1 (λi0=>iZ ((oA R) g i0)) h))],6⟩) [(0,.id 0),(1,.id 1),(2,.id 2),(3,.id 3),(4,.id 4),(5,.nil)] (λ_=>[(0,.id 0),(1,.id 1),(2,.id 2),(3,.id 3),(4,.id 4),(5,.id 6)]) (λh=>[.reg 14 [(6,.k g),(7,.row h (λi0=>.ex (.int .i8 (R g i0)))),(9,.z (oA R g h)),(10,.z (oA R g h)),(12,.row 0 (λi0=>iZ ((oA R) g i0)))],.reg 13 [(1,.z ((h+1:Nat):Int))],.reg 15 [(3,.k g),(4,.row 3 (λi0=>.ex (.int .i8 (R g i0)))),(6,.z (R g 3%256)),(7,.z (R g 3%256%3)),(8,.z (R g 3%256%3)),(9,.z (oK R g))],.reg 16 [(3,.k g),(4,.row 4 (λi0=>.ex (.int .i8 (R g i0)))),(6,.z (oB R g)),(7,.z (oB R g))],.conv 17 [(0,.id 0),(1,.id 1),(2,.id 2),(3,.id 3),(4,.id 4)] ⟨[(1,.ep (smS cz cs R lr)),(2,.own 0 0),(3,iN n),(4,.own 1 0),(6,iN g),(7,.own 4 0)],[(0,.one (.var 35 (.ex (.agg #[.slice none 0 0,.slice none 0 0])))),(1,.one (.var 35 (.agg (c2 (.own 2 0) (.own 3 0))))),(2,.one (.row 3 1 (λi0=>iZ ((oC cs) i0)) n)),(3,.one (.row 113 3 (λi0=>.agg (c3 (.sl 1 (λi1=>iZ ((oA R) i0 i1)) n) (iZ (oK R i0)) (iZ (oB R i0)))) g)),(4,.one (.var 113 (.agg (c3 (.sl 1 (λi0=>iZ ((oA R) g i0)) n) (iZ (oK R g)) (iZ (oB R g))))))],5⟩,.reg 17 [(4,.row 0 (λi0=>.agg (c3 (.sl 1 (λi1=>iZ ((oA R) i0 i1)) n) (iZ (oK R i0)) (iZ (oB R i0)))))],.reg 9 [(1,.z ((g+1:Nat):Int))]])])])]) Tryz.func11 ((∀j0,j0<lr->True)/\_/\_/\_/\_/\_/\_/\_/\((.agg #[.slice none 0 0,.slice none 0 0]:Value)=.agg #[.slice none 0 0,.slice none 0 0])/\((4:Int)≠0)/\((cz:Int).tmod 4=((n:Int)))/\(IntKind.wrap .i64 (n:Int)=((n:Int)))/\(((λX1 X2 X3 X4 X5 X6 X7 X8 X9 X10:Prop=>∃g0:Nat,X1/\X2/\X3/\X4/\X5/\X6/\X7/\X8/\X9/\((0:Int)=(g0:Int))/\((.agg #[.slice none 0 0,.slice none 0 0]:Value)=.agg #[.slice none 0 0,.slice none 0 0])/\X10/\((g0:Nat)=0)/\(g0<=n)) _ _ _ _ _ _ _ _ _ _)/\∀g:Nat,(g<=n)->(((decide ((g:Int)<(n:Int)))=true->_/\(g<3)/\_/\_/\_/\((10:Int)≠0)/\((cs g:Int).tmod 10=((oC cs g)))/\(IntKind.wrap .i64 ((oC cs g):Int)=((oC cs g)))/\(g+1<=68719476736)/\_/\_/\_/\((λX1 X2 X3 X4 X5 X6 X7 X8 X9 X10 X11:Prop=>∃g1:Nat,X1/\X2/\X3/\X4/\X5/\X6/\X7/\X8/\X9/\(((g+1:Nat):Int)=(g1:Int))/\((.agg #[.slice none 0 0,.slice none 0 0]:Value)=.agg #[.slice none 0 0,.slice none 0 0])/\X10/\((g+1:Nat)=g1)/\X11/\(g1<=n)/\(n-g1<n-g)) _ _ _ _ _ _ _ _ _ _ _))/\((decide ((g:Int)<(n:Int)))=false->(((λX1 X2 X3 X4 X5 X6 X7 X8 X9 X10 X11 X12:Prop=>∃g0:Nat,X1/\X2/\X3/\X4/\X5/\X6/\X7/\X8/\X9/\((0:Int)=(g0:Int))/\((.agg #[.slice none 0 0,.slice none 0 0]:Value)=.agg #[.slice none 0 0,.slice none 0 0])/\X10/\X11/\((g:Nat)=n)/\X12/\((g0:Nat)=0)/\(g0<=m)) _ _ _ _ _ _ _ _ _ _ _ _)/\∀g:Nat,(g<=m)->_/\((decide ((g:Int)<(lr:Int)))=true->((decide ((g:Int)<(lr:Int)))==true)=true)/\(((bif (decide ((g:Int)<(lr:Int))) then(decide ((g:Int)<3)) else false)=true->(((λX1 X2 X3 X4 X5 X6 X7 X8 X9 X10 X11 X12 X13 X14 X15 X16 X17 X18 X19 X20:Prop=>∃h0:Nat,X1/\X2/\X3/\X4/\X5/\X6/\X7/\X8/\X9/\X10/\X11/\((0:Int)=(h0:Int))/\((.agg #[.slice none 0 0,.slice none 0 0]:Value)=.agg #[.slice none 0 0,.slice none 0 0])/\X12/\X13/\X14/\X15/\X16/\X17/\X18/\X19/\X20/\((h0:Nat)=0)/\(h0<=n)) _ _ _ _ _ _ _ _ _ _ _ _ _ _ _ _ _ _ _ _)/\∀h:Nat,(h<=n)->(((decide ((h:Int)<(n:Int)))=true->_/\(g<lr)/\_/\(h<5)/\_/\_/\_/\_/\_/\((10:Int)≠0)/\((R g h:Int).tmod 10=((oA R g h)))/\(IntKind.wrap .i64 ((oA R g h):Int)=((oA R g h)))/\(h+1<=68719476736)/\_/\_/\_/\((λX1 X2 X3 X4 X5 X6 X7 X8 X9 X10 X11 X12 X13 X14 X15 X16 X17 X18 X19 X20 X21:Prop=>∃h1:Nat,X1/\X2/\X3/\X4/\X5/\X6/\X7/\X8/\X9/\X10/\X11/\(((h+1:Nat):Int)=(h1:Int))/\((.agg #[.slice none 0 0,.slice none 0 0]:Value)=.agg #[.slice none 0 0,.slice none 0 0])/\X12/\X13/\X14/\X15/\X16/\X17/\X18/\X19/\X20/\((h+1:Nat)=h1)/\X21/\(h1<=n)/\(n-h1<n-h)) _ _ _ _ _ _ _ _ _ _ _ _ _ _ _ _ _ _ _ _ _))/\((decide ((h:Int)<(n:Int)))=false->_/\(g<lr)/\((3:Int)=((3:Nat):Int))/\(3<5)/\_/\_/\_/\_/\_/\(IntKind.wrap .u8 (R g 3:Int)=((R g 3%256)))/\((3:Int)≠0)/\(((R g 3%256):Int).tmod 3=((R g 3%256%3)))/\(IntKind.wrap .i64 ((R g 3%256%3):Int)=((R g 3%256%3)))/\(IntKind.wrap .i64 ((1:Int)+(R g 3%256%3))=((oK R g)))/\_/\(g<lr)/\((4:Int)=((4:Nat):Int))/\(4<5)/\_/\_/\_/\_/\_/\((10:Int)≠0)/\((R g 4:Int).tmod 10=((oB R g)))/\(IntKind.wrap .i64 ((oB R g):Int)=((oB R g)))/\_/\_/\_/\_/\_/\_/\_/\_/\_/\_/\_/\((.agg #[.slice none 0 0,.slice none 0 0]:Value)=.agg #[.slice none 0 0,.slice none 0 0])/\_/\_/\_/\_/\_/\_/\((h:Nat)=n)/\_/\_/\_/\(g+1<=68719476736)/\_/\_/\_/\((λX1 X2 X3 X4 X5 X6 X7 X8 X9 X10 X11 X12 X13 X14:Prop=>∃g1:Nat,X1/\X2/\X3/\X4/\X5/\X6/\X7/\X8/\X9/\(((g+1:Nat):Int)=(g1:Int))/\((.agg #[.slice none 0 0,.slice none 0 0]:Value)=.agg #[.slice none 0 0,.slice none 0 0])/\X10/\X11/\X12/\X13/\((g+1:Nat)=g1)/\X14/\(g1<=m)/\(m-g1<m-g)) _ _ _ _ _ _ _ _ _ _ _ _ _ _)))))/\((bif (decide ((g:Int)<(lr:Int))) then(decide ((g:Int)<3)) else false)=false->(_/\_/\((g:Nat)=m)/\_))))))))
  ⟨(λ_ _=>trivial),(rf (cz:Int)),(rf (cs 0:Int)),(rf (cs 1:Int)),(rf (cs 2:Int)),(rf lr),(leS (λi0=>.agg (.cn (.ex (.int .i8 (R i0 0))) (.cn (.ex (.int .i8 (R i0 1))) (c3 (.ex (.int .i8 (R i0 2))) (.ex (.int .i8 (R i0 3))) (.ex (.int .i8 (R i0 4))))))) lr),(rf 0),rfl,zd,(by rw[←hn];rfl),(by rw[IntKind.wrap_i64];omega),⟨0,(rf (cz:Int)),(rf (cs 0:Int)),(rf (cs 1:Int)),(rf (cs 2:Int)),(rf lr),(leS (λi0=>.agg (.cn (.ex (.int .i8 (R i0 0))) (.cn (.ex (.int .i8 (R i0 1))) (c3 (.ex (.int .i8 (R i0 2))) (.ex (.int .i8 (R i0 3))) (.ex (.int .i8 (R i0 4))))))) lr),(rf 0),(rf (n:Int)),(rf 0),zo,rfl,(rf 0),zo,zo⟩,λg hg=>⟨λhc15=>have hc15:=dT hc15;have hgn:g<n:=zo;⟨(rf (g:Int)),zo,(rf (cs 0:Int)),(rf (cs 1:Int)),(rf (cs 2:Int)),zd,rfl,(tz_w _),zo,(oldS (λi0=>iZ ((oC cs) i0)) g),(newS (λi0=>iZ ((oC cs) i0)) g),(wI (g:=g) zo),g+1,(rf (cz:Int)),(rf (cs 0:Int)),(rf (cs 1:Int)),(rf (cs 2:Int)),(rf lr),(leS (λi0=>.agg (.cn (.ex (.int .i8 (R i0 0))) (.cn (.ex (.int .i8 (R i0 1))) (c3 (.ex (.int .i8 (R i0 2))) (.ex (.int .i8 (R i0 3))) (.ex (.int .i8 (R i0 4))))))) lr),(rf 0),(rf (n:Int)),(rf 0),zo,rfl,(rf 0),zo,(leS (λi0=>iZ ((oC cs) i0)) (g+1)),zo,zo⟩,λhc15=>have hc15:=dF hc15;have hi2:g=n:=zo;⟨⟨0,(rf (cz:Int)),(rf (cs 0:Int)),(rf (cs 1:Int)),(rf (cs 2:Int)),(rf lr),(leS (λi0=>.agg (.cn (.ex (.int .i8 (R i0 0))) (.cn (.ex (.int .i8 (R i0 1))) (c3 (.ex (.int .i8 (R i0 2))) (.ex (.int .i8 (R i0 3))) (.ex (.int .i8 (R i0 4))))))) lr),(rf 0),(rf (n:Int)),(rf 0),zo,rfl,(rf 0),(rf 0),hi2,(leS (λi0=>iZ ((oC cs) i0)) g),zo,zo⟩,λg hg=>⟨(idB ((decide ((g:Int)<(lr:Int)))==true)),(by first | exact id | (simp;done)),λhc37=>have hl:=bif_and2 hc37;have hgm:g<m:=zo;⟨⟨0,(rf (cz:Int)),(rf (cs 0:Int)),(rf (cs 1:Int)),(rf (cs 2:Int)),(rf lr),(leS (λi0=>.agg (.cn (.ex (.int .i8 (R i0 0))) (.cn (.ex (.int .i8 (R i0 1))) (c3 (.ex (.int .i8 (R i0 2))) (.ex (.int .i8 (R i0 3))) (.ex (.int .i8 (R i0 4))))))) lr),(rf 0),(rf (n:Int)),(rf 0),(rf (g:Int)),(rf 0),zo,rfl,(rf 0),(rf 0),(rf n),(leS (λi0=>iZ ((oC cs) i0)) n),(rf g),(leS (λi0=>.agg (c3 (.sl 1 (λi1=>iZ ((oA R) i0 i1)) n) (iZ (oK R i0)) (iZ (oB R i0)))) g),(rf 0),(rf (0:Int)),(rf (0:Int)),zo,zo⟩,λh hh=>⟨λhc42=>have hc42:=dT hc42;have hhn:h<n:=zo;⟨(rf (g:Int)),zo,(rf (h:Int)),zo,(rf (R g 0:Int)),(rf (R g 1:Int)),(rf (R g 2:Int)),(rf (R g 3:Int)),(rf (R g 4:Int)),zd,rfl,(tz_w _),zo,(oldS (λi0=>iZ ((oA R) g i0)) h),(newS (λi0=>iZ ((oA R) g i0)) h),(wI (g:=h) zo),h+1,(rf (cz:Int)),(rf (cs 0:Int)),(rf (cs 1:Int)),(rf (cs 2:Int)),(rf lr),(leS (λi0=>.agg (.cn (.ex (.int .i8 (R i0 0))) (.cn (.ex (.int .i8 (R i0 1))) (c3 (.ex (.int .i8 (R i0 2))) (.ex (.int .i8 (R i0 3))) (.ex (.int .i8 (R i0 4))))))) lr),(rf 0),(rf (n:Int)),(rf 0),(rf (g:Int)),(rf 0),zo,rfl,(rf 0),(rf 0),(rf n),(leS (λi0=>iZ ((oC cs) i0)) n),(rf g),(leS (λi0=>.agg (c3 (.sl 1 (λi1=>iZ ((oA R) i0 i1)) n) (iZ (oK R i0)) (iZ (oB R i0)))) g),(rf 0),(rf (0:Int)),(rf (0:Int)),zo,(leS (λi0=>iZ ((oA R) g i0)) (h+1)),zo,zo⟩,λhc42=>have hc42:=dF hc42;have hi3:h=n:=zo;⟨(rf (g:Int)),zo,rfl,zo,(rf (R g 0:Int)),(rf (R g 1:Int)),(rf (R g 2:Int)),(rf (R g 3:Int)),(rf (R g 4:Int)),(by rw[IntKind.wrap_u8]),zd,(Int.tmod_eq_emod_of_nonneg (Int.emod_nonneg _ zd)),(by rw[IntKind.wrap_i64];omega),(by unfold oK kz;rw[IntKind.wrap_i64];omega),(rf (g:Int)),zo,rfl,zo,(rf (R g 0:Int)),(rf (R g 1:Int)),(rf (R g 2:Int)),(rf (R g 3:Int)),(rf (R g 4:Int)),zd,rfl,(tz_w _),(rf (cz:Int)),(rf (cs 0:Int)),(rf (cs 1:Int)),(rf (cs 2:Int)),(rf lr),(leS (λi0=>.agg (.cn (.ex (.int .i8 (R i0 0))) (.cn (.ex (.int .i8 (R i0 1))) (c3 (.ex (.int .i8 (R i0 2))) (.ex (.int .i8 (R i0 3))) (.ex (.int .i8 (R i0 4))))))) lr),(rf 0),(rf (n:Int)),(rf 0),(rf (g:Int)),(rf 0),rfl,(rf 0),(rf 0),(rf n),(leS (λi0=>iZ ((oC cs) i0)) n),(rf g),(leS (λi0=>.agg (c3 (.sl 1 (λi1=>iZ ((oA R) i0 i1)) n) (iZ (oK R i0)) (iZ (oB R i0)))) g),hi3,(leS (λi0=>iZ ((oA R) g i0)) h),(rf ((oK R g):Int)),(rf ((oB R g):Int)),zo,(oldS (λi0=>.agg (c3 (.sl 1 (λi1=>iZ ((oA R) i0 i1)) n) (iZ (oK R i0)) (iZ (oB R i0)))) g),(newS (λi0=>.agg (c3 (.sl 1 (λi1=>iZ ((oA R) i0 i1)) n) (iZ (oK R i0)) (iZ (oB R i0)))) g),(wI (g:=g) zo),g+1,(rf (cz:Int)),(rf (cs 0:Int)),(rf (cs 1:Int)),(rf (cs 2:Int)),(rf lr),(leS (λi0=>.agg (.cn (.ex (.int .i8 (R i0 0))) (.cn (.ex (.int .i8 (R i0 1))) (c3 (.ex (.int .i8 (R i0 2))) (.ex (.int .i8 (R i0 3))) (.ex (.int .i8 (R i0 4))))))) lr),(rf 0),(rf (n:Int)),(rf 0),zo,rfl,(rf 0),(rf 0),(rf n),(leS (λi0=>iZ ((oC cs) i0)) n),zo,(leS (λi0=>.agg (c3 (.sl 1 (λi1=>iZ ((oA R) i0 i1)) n) (iZ (oK R i0)) (iZ (oB R i0)))) (g+1)),zo,zo⟩⟩⟩,λhc37=>have hl:=bif_nand hc37;have hi4:g=m:=zo;⟨(rf n),(leS (λi0=>iZ ((oC cs) i0)) n),hi4,(leS (λi0=>.agg (c3 (.sl 1 (λi1=>iZ ((oA R) i0 i1)) n) (iZ (oK R i0)) (iZ (oB R i0)))) g)⟩⟩⟩⟩⟩
theorem sSame16{cz lr n m:Nat}{cs:Nat->Int}{R:Nat->Nat->Int}(hn:cz%4=n)(hm:min lr 3=m):CallOK Tryz.prog 13 [smS cz cs R lr] (.agg (c2 (.sl 3 (λi0=>.rat ((oC cs i0:Int):Rat)) n) (.sl 5 (λi0=>.agg (c3 (.sl 3 (λi1=>.rat ((oA R i0 i1:Int):Rat)) n) (iZ (oK R i0)) (.rat ((oB R i0:Int):Rat)))) m))) []:=by
 have hn3:n<=3:=by omega
 have hm3:m<=3:=by omega
 exact kP (ch:=[.reg 1 [(1,.callS (.agg (c2 (.sl 1 (λi0=>iZ ((oC cs) i0)) n) (.sl 3 (λi0=>.agg (c3 (.sl 1 (λi1=>iZ ((oA R) i0 i1)) n) (iZ (oK R i0)) (iZ (oB R i0)))) m))) [])],.reg 2 [(2,.callS (.sl 3 (λi0=>.rat (((oC cs) i0:Int):Rat)) n) [])],.loop 4 (Nat) (λg=>g<=m) (λg=>m-g) (λg=>⟨[(1,.own 0 0),(2,.own 1 0),(3,.own 2 0),(4,.own 3 0),(5,iN g)],[(0,.one (.var 26 (smS cz cs R lr))),(1,.one (.var 50 (.ex (.agg #[.slice none 0 0,.slice none 0 0])))),(2,.one (.var 35 (.agg (c2 (.sl 1 (λi0=>iZ ((oC cs) i0)) n) (.sl 3 (λi0=>.agg (c3 (.sl 1 (λi1=>iZ ((oA R) i0 i1)) n) (iZ (oK R i0)) (iZ (oB R i0)))) m))))),(3,.one (.var 50 (.agg (c2 (.sl 3 (λi0=>.rat ((oC cs i0:Int):Rat)) n) (.own 4 0))))),(4,.one (.row 111 5 (λi0=>.agg (c3 (.sl 3 (λi1=>.rat ((oA R i0 i1:Int):Rat)) n) (iZ (oK R i0)) (.rat ((oB R i0:Int):Rat)))) g))],5⟩) [(0,.id 0),(1,.id 1),(2,.id 2),(3,.id 3),(4,.nil)] (λ_=>[(0,.id 0),(1,.id 1),(2,.id 2),(3,.id 3),(4,.id 5)]) (λg=>[.reg 6 [(5,.k g),(8,.callS (.sl 3 (λi0=>.rat ((((λi=>(oA R) g i)) i0:Int):Rat)) n) []),(12,.k g),(18,.k g),(21,.callS (.rat ((oB R g:Int):Rat)) []),(24,.row 0 (λi0=>.agg (c3 (.sl 3 (λi1=>.rat ((oA R i0 i1:Int):Rat)) n) (iZ (oK R i0)) (.rat ((oB R i0:Int):Rat)))))],.reg 5 [(1,.z ((g+1:Nat):Int))]])]) Tryz.func13 ((∀j0,j0<lr->True)/\(CallOK Tryz.prog 11 [smS cz cs R lr] (.agg (c2 (.sl 1 (λi0=>iZ ((oC cs) i0)) n) (.sl 3 (λi0=>.agg (c3 (.sl 1 (λi1=>iZ ((oA R) i0 i1)) n) (iZ (oK R i0)) (iZ (oB R i0)))) m))) [])/\_/\(((λX1 X2 X3 X4 X5 X6 X7 X8 X9 X10 X11 X12 X13 X14 X15 X16:Prop=>∃g0:Nat,X1/\X2/\X3/\X4/\((0:Int)=(g0:Int))/\X5/\X6/\X7/\X8/\X9/\X10/\((.agg #[.slice none 0 0,.slice none 0 0]:Value)=.agg #[.slice none 0 0,.slice none 0 0])/\X11/\X12/\X13/\X14/\X15/\(∀j0,j0<n->(((((oC cs) j0:Int):Rat):Rat)=((oC cs j0:Int):Rat)))/\X16/\((g0:Nat)=0)/\(g0<=m)) _ _ _ _ _ _ _ _ _ _ _ _ _ _ _ _)/\∀g:Nat,(g<=m)->(((decide ((g:Int)<(m:Int)))=true->_/\(g<m)/\_/\_/\(g<m)/\_/\(g<m)/\_/\(g+1<=68719476736)/\_/\_/\_/\((λX1 X2 X3 X4 X5 X6 X7 X8 X9 X10 X11 X12 X13 X14 X15 X16 X17 X18:Prop=>∃g1:Nat,X1/\X2/\X3/\X4/\(((g+1:Nat):Int)=(g1:Int))/\X5/\X6/\X7/\X8/\X9/\X10/\((.agg #[.slice none 0 0,.slice none 0 0]:Value)=.agg #[.slice none 0 0,.slice none 0 0])/\X11/\X12/\X13/\X14/\X15/\X16/\X17/\((g+1:Nat)=g1)/\X18/\(g1<=m)/\(m-g1<m-g)) _ _ _ _ _ _ _ _ _ _ _ _ _ _ _ _ _ _))/\((decide ((g:Int)<(m:Int)))=false->(_/\_/\((g:Nat)=m)/\_)))))
  ⟨(λ_ _=>trivial),(sOne16 (cz:=cz) (lr:=lr) (cs:=cs) (R:=R) hn hm),(uE (n:=n) (a:=(oC cs)) zo (λj hj=>by have:=tz_in (cs j);show-9223372036854775808<=tz _/\tz _<9223372036854775808;omega)).frzV,⟨0,(rf 0),(rf 0),(rf 0),(rf 0),zo,(rf (cz:Int)),(rf (cs 0:Int)),(rf (cs 1:Int)),(rf (cs 2:Int)),(rf lr),(leS (λi0=>.agg (.cn (.ex (.int .i8 (R i0 0))) (.cn (.ex (.int .i8 (R i0 1))) (c3 (.ex (.int .i8 (R i0 2))) (.ex (.int .i8 (R i0 3))) (.ex (.int .i8 (R i0 4))))))) lr),rfl,(rf n),(leS (λi0=>iZ ((oC cs) i0)) n),(rf m),(leS (λi0=>.agg (c3 (.sl 1 (λi1=>iZ ((oA R) i0 i1)) n) (iZ (oK R i0)) (iZ (oB R i0)))) m),(rf n),(λj0 hj0=>rfl),(rf 0),zo,zo⟩,λg hg=>⟨λhc16=>have hc16:=dT hc16;have hgm:g<m:=zo;⟨(rf (g:Int)),zo,(uE (n:=n) (a:=(λi=>(oA R) g i)) zo (λj hj=>by have:=tz_in (R g j);show-9223372036854775808<=tz _/\tz _<9223372036854775808;omega)).frzV,(rf (g:Int)),zo,(rf (g:Int)),zo,uM (x:=oB R g) (by have:=tz_in (R g 4);show _<=tz _;omega) (by have:=tz_in (R g 4);show tz _<_;omega),zo,(oldS (λi0=>.agg (c3 (.sl 3 (λi1=>.rat ((oA R i0 i1:Int):Rat)) n) (iZ (oK R i0)) (.rat ((oB R i0:Int):Rat)))) g),(newS (λi0=>.agg (c3 (.sl 3 (λi1=>.rat ((oA R i0 i1:Int):Rat)) n) (iZ (oK R i0)) (.rat ((oB R i0:Int):Rat)))) g),(wI (g:=g) zo),g+1,(rf 0),(rf 0),(rf 0),(rf 0),zo,(rf (cz:Int)),(rf (cs 0:Int)),(rf (cs 1:Int)),(rf (cs 2:Int)),(rf lr),(leS (λi0=>.agg (.cn (.ex (.int .i8 (R i0 0))) (.cn (.ex (.int .i8 (R i0 1))) (c3 (.ex (.int .i8 (R i0 2))) (.ex (.int .i8 (R i0 3))) (.ex (.int .i8 (R i0 4))))))) lr),rfl,(rf n),(leS (λi0=>iZ ((oC cs) i0)) n),(rf m),(leS (λi0=>.agg (c3 (.sl 1 (λi1=>iZ ((oA R) i0 i1)) n) (iZ (oK R i0)) (iZ (oB R i0)))) m),(rf n),(leS (λi0=>.rat ((oC cs i0:Int):Rat)) n),(rf 0),zo,(leS (λi0=>.agg (c3 (.sl 3 (λi1=>.rat ((oA R i0 i1:Int):Rat)) n) (iZ (oK R i0)) (.rat ((oB R i0:Int):Rat)))) (g+1)),zo,zo⟩,λhc16=>have hc16:=dF hc16;have hi2:g=m:=zo;⟨(rf n),(leS (λi0=>.rat ((oC cs i0:Int):Rat)) n),hi2,(leS (λi0=>.agg (c3 (.sl 3 (λi1=>.rat ((oA R i0 i1:Int):Rat)) n) (iZ (oK R i0)) (.rat ((oB R i0:Int):Rat)))) g)⟩⟩⟩
theorem sStd16{c b kd:Nat->Int}{a:Nat->Nat->Int}{n m:Nat}(hn:n<=24)(hm:m<=20)(hk:∀i,i<m->1<=kd i/\kd i<=3):CallOK Tryz.prog 10 [.agg (c2 (.sl 1 (λi0=>iZ (c i0)) n) (.sl 3 (λi0=>.agg (c3 (.sl 1 (λi1=>iZ (a i0 i1)) n) (iZ (kd i0)) (iZ (b i0)))) m))] (s16 (zA n kd a) b (zC n c) n (n+cntK kd m) m) []:=by
 have hcm:=jU (kd:=kd) m
 exact kP (ch:=[.conv 1 [(0,.id 1)] ⟨[(1,.ep (.agg (c2 (.sl 1 (λi0=>iZ (c i0)) n) (.sl 3 (λi0=>.agg (c3 (.sl 1 (λi1=>iZ (a i0 i1)) n) (iZ (kd i0)) (iZ (b i0)))) m)))),(2,.own 0 0)],[(0,.one (.var 31 (.ex (.agg #[.slice none 0 0,.slice none 0 0,.slice none 0 0,.int .i64 0]))))],1⟩,.reg 2 [(4,.row 0 (λi0=>iZ (c i0)))],.loop 4 (Nat) (λg=>g<=m) (λg=>m-g) (λg=>⟨[(1,.ep (.agg (c2 (.sl 1 (λi0=>iZ (c i0)) n) (.sl 3 (λi0=>.agg (c3 (.sl 1 (λi1=>iZ (a i0 i1)) n) (iZ (kd i0)) (iZ (b i0)))) m)))),(2,.own 0 0),(3,.own 1 0),(4,iN g)],[(0,.one (.var 31 (.ex (.agg #[.slice none 0 0,.slice none 0 0,.slice none 0 0,.int .i64 0])))),(1,.one (.var 31 (.agg (.cn (.own 2 0) (c3 (.own 3 0) (.own 4 0) (iN n)))))),(2,.one (.row 27 1 (λi0=>.own 5 i0) g)),(3,.one (.row 3 1 (λi0=>iZ (b i0)) g)),(4,.one (.row 3 1 (λi0=>iZ (c i0)) n)),(5,.fam g (λi0=>.row 3 1 (λi1=>iZ (a i0 i1)) n))],6⟩) [(0,.id 0),(1,.id 1),(2,.nil),(3,.nil),(4,.id 2),(5,.emp)] (λg=>[(0,.id 0),(1,.id 1),(2,.id 7),(3,.id 8),(4,.id 4),(5,.put 5 g 6)]) (λg=>[.reg 7 [(4,.k g),(7,.row 0 (λi0=>iZ (a g i0)))],.reg 8 [(4,.row 0 (λi0=>.own (if i0<g then 5 else 6) (if i0<g then i0 else 0)))],.reg 9 [(5,.k g),(9,.row 0 (λi0=>iZ (b i0)))],.reg 5 [(1,.z ((g+1:Nat):Int))],.loop 11 (Nat) (λg=>g<=m) (λg=>m-g) (λg=>⟨[(1,.ep (.agg (c2 (.sl 1 (λi0=>iZ (c i0)) n) (.sl 3 (λi0=>.agg (c3 (.sl 1 (λi1=>iZ (a i0 i1)) n) (iZ (kd i0)) (iZ (b i0)))) m)))),(2,.own 0 0),(3,.own 1 0),(6,iN g)],[(0,.one (.var 31 (.ex (.agg #[.slice none 0 0,.slice none 0 0,.slice none 0 0,.int .i64 0])))),(1,.one (.var 31 (.agg (.cn (.own 2 0) (c3 (.own 3 0) (.own 4 0) (iN n)))))),(2,.one (.row 27 1 (λi0=>.own 5 i0) m)),(3,.one (.row 3 1 (λi0=>iZ (b i0)) m)),(4,.one (.row 3 1 (λi0=>iZ ((zC n c) i0)) (n+cntK kd g))),(5,.fam m (λi0=>.row 3 1 (λi1=>iZ ((zA n kd a) i0 i1)) (n+cntK kd g)))],6⟩) [(0,.id 0),(1,.id 1),(2,.id 2),(3,.id 3),(4,.id 4),(5,.id 5)] (λ_=>[(0,.id 0),(1,.id 1),(2,.id 2),(3,.id 3),(4,.id 4),(5,.id 5)]) (λg=>[.reg 13 [(3,.k g)],.reg 12 [(1,.z ((g+1:Nat):Int))],.reg 14 [(3,.row 0 (λi0=>iZ ((zC n c) i0)))],.loop 16 (Nat) (λh=>h<=m) (λh=>m-h) (λh=>⟨[(1,.ep (.agg (c2 (.sl 1 (λi0=>iZ (c i0)) n) (.sl 3 (λi0=>.agg (c3 (.sl 1 (λi1=>iZ (a i0 i1)) n) (iZ (kd i0)) (iZ (b i0)))) m)))),(2,.own 0 0),(3,.own 1 0),(6,iN g),(7,iN h)],[(0,.one (.var 31 (.ex (.agg #[.slice none 0 0,.slice none 0 0,.slice none 0 0,.int .i64 0])))),(1,.one (.var 31 (.agg (.cn (.own 2 0) (c3 (.own 3 0) (.own 4 0) (iN n)))))),(2,.one (.row 27 1 (λi0=>.own 5 i0) m)),(3,.one (.row 3 1 (λi0=>iZ (b i0)) m)),(4,.one (.row 3 1 (λi0=>iZ ((zC n c) i0)) (n+cntK kd g+1))),(5,.fam m (λi0=>.row 3 1 (λi1=>iZ ((zA n kd a) i0 i1)) (zlen (n+cntK kd g) h i0)))],6⟩) [(0,.id 0),(1,.id 1),(2,.id 2),(3,.id 3),(4,.id 6),(5,.id 5)] (λh=>[(0,.id 0),(1,.id 1),(2,.id 2),(3,.id 3),(4,.id 4),(5,.put 5 h 6)]) (λh=>[.reg 20 [(3,.k g),(6,.z (2*kd g)),(7,.z (zx kd g h))],.join 21 0 [(0,.id 0),(1,.id 1),(2,.id 2),(3,.id 3),(4,.id 4),(5,.id 5)] [(0,.id 0),(1,.id 1),(2,.id 2),(3,.id 3),(4,.id 4),(5,.id 5)] ⟨[(1,.ep (.agg (c2 (.sl 1 (λi0=>iZ (c i0)) n) (.sl 3 (λi0=>.agg (c3 (.sl 1 (λi1=>iZ (a i0 i1)) n) (iZ (kd i0)) (iZ (b i0)))) m)))),(2,.own 0 0),(3,.own 1 0),(6,iN g),(7,iN h),(8,iZ (zx kd g h))],[(0,.one (.var 31 (.ex (.agg #[.slice none 0 0,.slice none 0 0,.slice none 0 0,.int .i64 0])))),(1,.one (.var 31 (.agg (.cn (.own 2 0) (c3 (.own 3 0) (.own 4 0) (iN n)))))),(2,.one (.row 27 1 (λi0=>.own 5 i0) m)),(3,.one (.row 3 1 (λi0=>iZ (b i0)) m)),(4,.one (.row 3 1 (λi0=>iZ ((zC n c) i0)) (n+cntK kd g+1))),(5,.fam m (λi0=>.row 3 1 (λi1=>iZ ((zA n kd a) i0 i1)) (zlen (n+cntK kd g) h i0)))],6⟩ (True),.reg 21 [(6,.k h),(10,.row 0 (λi0=>iZ ((zA n kd a) h i0))),(11,.k h),(12,.row 0 (λi0=>.own (if i0=h then 6 else 5) (if i0=h then 0 else i0)))],.reg 17 [(1,.z ((h+1:Nat):Int))],.reg 12 [(1,.z ((g+1:Nat):Int))]])])])]) Tryz.func10 ((∀j0,j0<n->True)/\(∀j0,j0<m->(∀j1,j1<n->True))/\_/\_/\_/\_/\_/\((.agg #[.slice none 0 0,.slice none 0 0,.slice none 0 0,.int .i64 0]:Value)=.agg #[.slice none 0 0,.slice none 0 0,.slice none 0 0,.int .i64 0])/\(n<=68719476736)/\_/\(((λX1 X2 X3 X4 X5 X6 X7 X8 X9 X10 X11 X12:Prop=>∃g0:Nat,X1/\X2/\X3/\X4/\X5/\X6/\((0:Int)=(g0:Int))/\((.agg #[.slice none 0 0,.slice none 0 0,.slice none 0 0,.int .i64 0]:Value)=.agg #[.slice none 0 0,.slice none 0 0,.slice none 0 0,.int .i64 0])/\X7/\X8/\X9/\X10/\((g0:Nat)=0)/\((g0:Nat)=0)/\X11/\X12/\((g0:Nat)=0)/\(g0<=m)) _ _ _ _ _ _ _ _ _ _ _ _)/\∀g:Nat,(g<=m)->(((decide ((g:Int)<(m:Int)))=true->_/\(g<m)/\(n<=68719476736)/\_/\(g+1<=68719476736)/\(∀j0,j0<g->(.own (if j0<g then 5 else 6) (if j0<g then j0 else 0):SV)=.own 5 j0)/\(∀j0,j0<1->((6:Nat)=(if g+j0<g then 5 else 6))/\((0:Nat)=(if g+j0<g then g+j0 else 0)))/\_/\(g<m)/\(g+1<=68719476736)/\_/\_/\_/\((λX1 X2 X3 X4 X5 X6 X7 X8 X9 X10 X11 X12 X13 X14:Prop=>∃g1:Nat,X1/\X2/\X3/\X4/\X5/\X6/\(((g+1:Nat):Int)=(g1:Int))/\((.agg #[.slice none 0 0,.slice none 0 0,.slice none 0 0,.int .i64 0]:Value)=.agg #[.slice none 0 0,.slice none 0 0,.slice none 0 0,.int .i64 0])/\X7/\X8/\X9/\X10/\((g+1:Nat)=g1)/\(∀j0,j0<(g+1)->(((if j0<g then 5 else 6:Nat)=6/\(if j0<g then j0 else 0:Nat)=0/\(j0:Nat)=g)∨((if j0<g then 5 else 6:Nat)=5/\(if j0<g then j0 else 0:Nat)=j0/\(j0:Nat)≠g)))/\((g+1:Nat)=g1)/\X11/\X12/\X13/\((g1:Nat)=g+1)/\X14/\(((n:Nat)=n)/\(∀j1,j1<n->((a g j1:Int)=(a g j1))))/\(∀j0,j0<g->((n:Nat)=n)/\(∀j1,j1<n->((a j0 j1:Int)=(a j0 j1))))/\(g1<=m)/\(m-g1<m-g)) _ _ _ _ _ _ _ _ _ _ _ _ _ _))/\((decide ((g:Int)<(m:Int)))=false->(((λX1 X2 X3 X4 X5 X6 X7 X8 X9 X10 X11:Prop=>∃g0:Nat,X1/\X2/\X3/\X4/\X5/\X6/\((0:Int)=(g0:Int))/\((.agg #[.slice none 0 0,.slice none 0 0,.slice none 0 0,.int .i64 0]:Value)=.agg #[.slice none 0 0,.slice none 0 0,.slice none 0 0,.int .i64 0])/\X7/\X8/\X9/\X10/\((g:Nat)=m)/\(∀j0,j0<g->((j0:Nat)=j0))/\((g:Nat)=m)/\X11/\((n:Nat)=(n+cntK kd g0))/\(∀j0,j0<n->((c j0:Int)=((zC n c) j0)))/\((g:Nat)=m)/\(∀j0,j0<g->((n:Nat)=(n+cntK kd g0))/\(∀j1,j1<n->((a j0 j1:Int)=((zA n kd a) j0 j1))))/\(g0<=m)) _ _ _ _ _ _ _ _ _ _ _)/\∀g:Nat,(g<=m)->(((decide ((g:Int)<(m:Int)))=true->_/\(g<m)/\(((decide ((kd g:Int)=3))=true->_/\((λX1 X2 X3 X4 X5 X6 X7 X8 X9 X10 X11 X12 X13 X14 X15:Prop=>∃g1:Nat,X1/\X2/\X3/\X4/\X5/\X6/\(((g+1:Nat):Int)=(g1:Int))/\((.agg #[.slice none 0 0,.slice none 0 0,.slice none 0 0,.int .i64 0]:Value)=.agg #[.slice none 0 0,.slice none 0 0,.slice none 0 0,.int .i64 0])/\X7/\X8/\X9/\X10/\X11/\(∀j0,j0<m->((j0:Nat)=j0))/\X12/\X13/\((n+cntK kd g:Nat)=(n+cntK kd g1))/\X14/\X15/\(∀j0,j0<m->((n+cntK kd g:Nat)=(n+cntK kd g1))/\(∀j1,j1<(n+cntK kd g)->(((zA n kd a) j0 j1:Int)=((zA n kd a) j0 j1))))/\(g1<=m)/\(m-g1<m-g)) _ _ _ _ _ _ _ _ _ _ _ _ _ _ _))/\((decide ((kd g:Int)=3))=false->((n+cntK kd g)+1<=68719476736)/\_/\(∀j0,j0<1->((0:Int)=((zC n c) ((n+cntK kd g)+j0))))/\(((λX1 X2 X3 X4 X5 X6 X7 X8 X9 X10 X11 X12 X13 X14 X15 X16:Prop=>∃h0:Nat,X1/\X2/\X3/\X4/\X5/\X6/\X7/\((0:Int)=(h0:Int))/\((.agg #[.slice none 0 0,.slice none 0 0,.slice none 0 0,.int .i64 0]:Value)=.agg #[.slice none 0 0,.slice none 0 0,.slice none 0 0,.int .i64 0])/\X8/\X9/\X10/\X11/\X12/\(∀j0,j0<m->((j0:Nat)=j0))/\X13/\X14/\(((n+cntK kd g)+1:Nat)=(n+cntK kd g+1))/\X15/\X16/\(∀j0,j0<m->((n+cntK kd g:Nat)=(zlen (n+cntK kd g) h0 j0))/\(∀j1,j1<(n+cntK kd g)->(((zA n kd a) j0 j1:Int)=((zA n kd a) j0 j1))))/\(h0<=m)) _ _ _ _ _ _ _ _ _ _ _ _ _ _ _ _)/\∀h:Nat,(h<=m)->(((decide ((h:Int)<(m:Int)))=true->(((((decide ((h:Int)=(g:Int)))=true->_/\(g<m)/\(IntKind.wrap .i64 ((2:Int)*(kd g))=((2*kd g)))/\(IntKind.wrap .i64 ((3:Int)-(2*kd g))=((zx kd g h)))/\_/\_/\_/\_/\_/\_/\_/\_/\(((zx kd g h):Int)=(zx kd g h))/\((.agg #[.slice none 0 0,.slice none 0 0,.slice none 0 0,.int .i64 0]:Value)=.agg #[.slice none 0 0,.slice none 0 0,.slice none 0 0,.int .i64 0])/\_/\_/\_/\_/\_/\(∀j0,j0<m->((j0:Nat)=j0))/\_/\_/\_/\_/\_/\(∀j0,j0<m->((zlen (n+cntK kd g) h j0:Nat)=(zlen (n+cntK kd g) h j0))/\(∀j1,j1<(zlen (n+cntK kd g) h j0)->(((zA n kd a) j0 j1:Int)=((zA n kd a) j0 j1))))/\True)/\((decide ((h:Int)=(g:Int)))=false->_/\_/\_/\_/\_/\_/\_/\_/\((0:Int)=(zx kd g h))/\((.agg #[.slice none 0 0,.slice none 0 0,.slice none 0 0,.int .i64 0]:Value)=.agg #[.slice none 0 0,.slice none 0 0,.slice none 0 0,.int .i64 0])/\_/\_/\_/\_/\_/\(∀j0,j0<m->((j0:Nat)=j0))/\_/\_/\_/\_/\_/\(∀j0,j0<m->((zlen (n+cntK kd g) h j0:Nat)=(zlen (n+cntK kd g) h j0))/\(∀j1,j1<(zlen (n+cntK kd g) h j0)->(((zA n kd a) j0 j1:Int)=((zA n kd a) j0 j1))))/\True)))/\(True->_/\(h<m)/\(h<m)/\((zlen (n+cntK kd g) h h)+1<=68719476736)/\_/\(∀j0,j0<1->((zx kd g h:Int)=((zA n kd a) h ((zlen (n+cntK kd g) h h)+j0))))/\(h<m)/\_/\(h<m)/\(h<m)/\(((6:Nat)=(if h=h then 6 else 5))/\((0:Nat)=(if h=h then 0 else h)))/\(∀t,t<m->t≠h->(.own (if t=h then 6 else 5) (if t=h then 0 else t):SV)=.own 5 t)/\_/\((λX1 X2 X3 X4 X5 X6 X7 X8 X9 X10 X11 X12 X13 X14 X15 X16 X17 X18:Prop=>∃h1:Nat,X1/\X2/\X3/\X4/\X5/\X6/\X7/\(((h+1:Nat):Int)=(h1:Int))/\((.agg #[.slice none 0 0,.slice none 0 0,.slice none 0 0,.int .i64 0]:Value)=.agg #[.slice none 0 0,.slice none 0 0,.slice none 0 0,.int .i64 0])/\X8/\X9/\X10/\X11/\X12/\(∀j0,j0<m->(((if j0=h then 6 else 5:Nat)=6/\(if j0=h then 0 else j0:Nat)=0/\(j0:Nat)=h)∨((if j0=h then 6 else 5:Nat)=5/\(if j0=h then 0 else j0:Nat)=j0/\(j0:Nat)≠h)))/\X13/\X14/\X15/\X16/\X17/\X18/\(h<m)/\((((zlen (n+cntK kd g) h h)+1:Nat)=(zlen (n+cntK kd g) h1 h))/\(∀j1,j1<((zlen (n+cntK kd g) h h)+1)->(((zA n kd a) h j1:Int)=((zA n kd a) h j1))))/\(∀j0,j0<m->j0≠h->((zlen (n+cntK kd g) h j0:Nat)=(zlen (n+cntK kd g) h1 j0))/\(∀j1,j1<(zlen (n+cntK kd g) h j0)->(((zA n kd a) j0 j1:Int)=((zA n kd a) j0 j1))))/\(h1<=m)/\(m-h1<m-h)) _ _ _ _ _ _ _ _ _ _ _ _ _ _ _ _ _ _))))/\((decide ((h:Int)<(m:Int)))=false->_/\((λX1 X2 X3 X4 X5 X6 X7 X8 X9 X10 X11 X12 X13 X14 X15:Prop=>∃g1:Nat,X1/\X2/\X3/\X4/\X5/\X6/\(((g+1:Nat):Int)=(g1:Int))/\((.agg #[.slice none 0 0,.slice none 0 0,.slice none 0 0,.int .i64 0]:Value)=.agg #[.slice none 0 0,.slice none 0 0,.slice none 0 0,.int .i64 0])/\X7/\X8/\X9/\X10/\X11/\(∀j0,j0<m->((j0:Nat)=j0))/\X12/\X13/\((n+cntK kd g+1:Nat)=(n+cntK kd g1))/\X14/\X15/\(∀j0,j0<m->((zlen (n+cntK kd g) h j0:Nat)=(n+cntK kd g1))/\(∀j1,j1<(zlen (n+cntK kd g) h j0)->(((zA n kd a) j0 j1:Int)=((zA n kd a) j0 j1))))/\(g1<=m)/\(m-g1<m-g)) _ _ _ _ _ _ _ _ _ _ _ _ _ _ _)))))))/\((decide ((g:Int)<(m:Int)))=false->(_/\(∀j0,j0<m->((n+cntK kd g:Nat)=(n+cntK kd m))/\(∀j1,j1<(n+cntK kd g)->(((zA n kd a) j0 j1:Int)=((zA n kd a) j0 j1)))/\(j0<m))/\_/\_/\((n+cntK kd g:Nat)=(n+cntK kd m))/\_/\_))))))))
  ⟨(λ_ _=>trivial),(λ_ _=>(λ_ _=>trivial)),(rf n),(leS (λi0=>iZ (c i0)) n),(rf m),(leS (λi0=>.agg (c3 (.sl 1 (λi1=>iZ (a i0 i1)) n) (iZ (kd i0)) (iZ (b i0)))) m),(rf 0),rfl,zo,(leS (λi0=>iZ (c i0)) n),⟨0,(rf n),(leS (λi0=>iZ (c i0)) n),(rf m),(leS (λi0=>.agg (c3 (.sl 1 (λi1=>iZ (a i0 i1)) n) (iZ (kd i0)) (iZ (b i0)))) m),(rf 0),(rf 0),zo,rfl,(rf 0),(rf 0),(rf 0),(rf (n:Int)),zo,zo,(rf n),(leS (λi0=>iZ (c i0)) n),zo,zo⟩,λg hg=>⟨λhc23=>have hc23:=dT hc23;have hgm:g<m:=zo;⟨(rf (g:Int)),zo,zo,(leS (λi0=>iZ (a g i0)) n),zo,(λj0 hj0=>by rw[if_pos hj0,if_pos hj0]),(λj0 hj0=>⟨(by rw[if_neg zo]),(by rw[if_neg zo])⟩),(rf (g:Int)),zo,zo,(oldS (λi0=>iZ (b i0)) g),(newS (λi0=>iZ (b i0)) g),(wI (g:=g) zo),g+1,(rf n),(leS (λi0=>iZ (c i0)) n),(rf m),(leS (λi0=>.agg (c3 (.sl 1 (λi1=>iZ (a i0 i1)) n) (iZ (kd i0)) (iZ (b i0)))) m),(rf 0),(rf 0),zo,rfl,(rf 0),(rf 0),(rf 0),(rf (n:Int)),zo,(λj0 hj0=>(by first | omega | (split<;>omega))),zo,(leS (λi0=>iZ (b i0)) (g+1)),(rf n),(leS (λi0=>iZ (c i0)) n),zo,(rf g),⟨rfl,(λj1 hj1=>rfl)⟩,(λj0 hj0=>⟨rfl,(λj1 hj1=>rfl)⟩),zo,zo⟩,λhc23=>have hc23:=dF hc23;have hi2:g=m:=zo;⟨⟨0,(rf n),(leS (λi0=>iZ (c i0)) n),(rf m),(leS (λi0=>.agg (c3 (.sl 1 (λi1=>iZ (a i0 i1)) n) (iZ (kd i0)) (iZ (b i0)))) m),(rf 0),(rf 0),zo,rfl,(rf 0),(rf 0),(rf 0),(rf (n:Int)),hi2,(λj0 hj0=>rfl),hi2,(leS (λi0=>iZ (b i0)) g),(by rfl),(λj0 hj0=>(zC_in (by assumption)).symm),hi2,(λj0 hj0=>⟨(by rfl),(λj1 hj1=>(zA_in (by assumption)).symm)⟩),zo⟩,λg hg=>⟨λhc55=>have hc55:=dT hc55;have hgm:g<m:=zo;have hkg:=hk g hgm;have hcg:=jU (kd:=kd) g;⟨(rf (g:Int)),zo,λhc64=>have hc64:=dT hc64;have hk3:kd g=3:=hc64;⟨(wI (g:=g) zo),g+1,(rf n),(leS (λi0=>iZ (c i0)) n),(rf m),(leS (λi0=>.agg (c3 (.sl 1 (λi1=>iZ (a i0 i1)) n) (iZ (kd i0)) (iZ (b i0)))) m),(rf 0),(rf 0),zo,rfl,(rf 0),(rf 0),(rf 0),(rf (n:Int)),(rf m),(λj0 hj0=>rfl),(rf m),(leS (λi0=>iZ (b i0)) m),(by first | rw[cntK_eq hk3] | (rw[jT hk3];omega)),(leS (λi0=>iZ ((zC n c) i0)) (n+cntK kd g)),(rf m),(λj0 hj0=>⟨(by first | rw[cntK_eq hk3] | (rw[jT hk3,hi4,zlen_lt (by assumption)];omega)),(λj1 hj1=>rfl)⟩),zo,zo⟩,λhc64=>have hc64:=dF hc64;have hk3:¬kd g=3:=hc64;⟨zo,(oldS (λi0=>iZ ((zC n c) i0)) (n+cntK kd g)),(λj0 hj0=>(zC_out zo).symm),⟨0,(rf n),(leS (λi0=>iZ (c i0)) n),(rf m),(leS (λi0=>.agg (c3 (.sl 1 (λi1=>iZ (a i0 i1)) n) (iZ (kd i0)) (iZ (b i0)))) m),(rf 0),(rf 0),(rf (g:Int)),zo,rfl,(rf 0),(rf 0),(rf 0),(rf (n:Int)),(rf m),(λj0 hj0=>rfl),(rf m),(leS (λi0=>iZ (b i0)) m),zo,(leS (λi0=>iZ ((zC n c) i0)) ((n+cntK kd g)+1)),(rf m),(λj0 hj0=>⟨zlen_0.symm,(λj1 hj1=>rfl)⟩),zo⟩,λh hh=>⟨λhc74=>have hc74:=dT hc74;have hhm:h<m:=zo;⟨⟨λhc79=>have hc79:=dT hc79;have hc79:h=g:=zo;⟨(rf (g:Int)),zo,(by rw[IntKind.wrap_i64];omega),(by unfold zx;rw[if_pos hc79,IntKind.wrap_i64];omega),(rf n),(leS (λi0=>iZ (c i0)) n),(rf m),(leS (λi0=>.agg (c3 (.sl 1 (λi1=>iZ (a i0 i1)) n) (iZ (kd i0)) (iZ (b i0)))) m),(rf 0),(rf 0),(rf (g:Int)),(rf (h:Int)),(by first | rfl | exact(if_neg hc79).symm),rfl,(rf 0),(rf 0),(rf 0),(rf (n:Int)),(rf m),(λj0 hj0=>rfl),(rf m),(leS (λi0=>iZ (b i0)) m),(rf (n+cntK kd g+1:Nat)),(leS (λi0=>iZ ((zC n c) i0)) (n+cntK kd g+1)),(rf m),(λj0 hj0=>⟨rfl,(λj1 hj1=>rfl)⟩),trivial⟩,λhc79=>have hc79:=dF hc79;have hc79:¬h=g:=zo;⟨(rf n),(leS (λi0=>iZ (c i0)) n),(rf m),(leS (λi0=>.agg (c3 (.sl 1 (λi1=>iZ (a i0 i1)) n) (iZ (kd i0)) (iZ (b i0)))) m),(rf 0),(rf 0),(rf (g:Int)),(rf (h:Int)),(by first | rfl | exact(if_neg hc79).symm),rfl,(rf 0),(rf 0),(rf 0),(rf (n:Int)),(rf m),(λj0 hj0=>rfl),(rf m),(leS (λi0=>iZ (b i0)) m),(rf (n+cntK kd g+1:Nat)),(leS (λi0=>iZ ((zC n c) i0)) (n+cntK kd g+1)),(rf m),(λj0 hj0=>⟨rfl,(λj1 hj1=>rfl)⟩),trivial⟩⟩,λ_=>⟨(rf (h:Int)),zo,zo,(by rw[zlen_at];omega),(oldS (λi0=>iZ ((zA n kd a) h i0)) (zlen (n+cntK kd g) h h)),(λj0 hj0=>(by rw[show j0=0 by omega,zlen_at];exact zA_new hk3 hkg)),zo,(rf (h:Int)),zo,zo,⟨(if_pos rfl).symm,(if_pos rfl).symm⟩,(λt ht hne=>by rw[if_neg hne,if_neg hne]),(wI (g:=h) zo),h+1,(rf n),(leS (λi0=>iZ (c i0)) n),(rf m),(leS (λi0=>.agg (c3 (.sl 1 (λi1=>iZ (a i0 i1)) n) (iZ (kd i0)) (iZ (b i0)))) m),(rf 0),(rf 0),(rf (g:Int)),zo,rfl,(rf 0),(rf 0),(rf 0),(rf (n:Int)),(rf m),(λj0 hj0=>(by first | omega | (split<;>omega))),(rf m),(leS (λi0=>iZ (b i0)) m),(rf (n+cntK kd g+1:Nat)),(leS (λi0=>iZ ((zC n c) i0)) (n+cntK kd g+1)),(rf m),(rf h),zo,⟨(by rw[zlen_at,zlen_lt (Nat.lt_succ_self h)]),(λj1 hj1=>rfl)⟩,(λj0 hj0 hne=>⟨(zlen_next hne),(λj1 hj1=>rfl)⟩),zo,zo⟩⟩,λhc74=>have hc74:=dF hc74;have hi4:h=m:=zo;⟨(wI (g:=g) zo),g+1,(rf n),(leS (λi0=>iZ (c i0)) n),(rf m),(leS (λi0=>.agg (c3 (.sl 1 (λi1=>iZ (a i0 i1)) n) (iZ (kd i0)) (iZ (b i0)))) m),(rf 0),(rf 0),zo,rfl,(rf 0),(rf 0),(rf 0),(rf (n:Int)),(rf m),(λj0 hj0=>rfl),(rf m),(leS (λi0=>iZ (b i0)) m),(by first | rw[cntK_eq hk3] | (rw[jT hk3];omega)),(leS (λi0=>iZ ((zC n c) i0)) (n+cntK kd g+1)),(rf m),(λj0 hj0=>⟨(by first | rw[cntK_eq hk3] | (rw[jT hk3,hi4,zlen_lt (by assumption)];omega)),(λj1 hj1=>rfl)⟩),zo,zo⟩⟩⟩⟩,λhc55=>have hc55:=dF hc55;have hi3:g=m:=zo;⟨(rf m),(λj0 hj0=>⟨(by rw[hi3]),(λj1 hj1=>rfl),zo⟩),(rf m),(leS (λi0=>iZ (b i0)) m),(by rw[hi3]),(leS (λi0=>iZ ((zC n c) i0)) (n+cntK kd g)),(rf (n:Int))⟩⟩⟩⟩⟩
open Go.RowKit
theorem sDet16S{a:Nat->Nat->Int}{n:Nat}(hn:n<=2)(ha:Nine (n+1) (n+1) a)(ih:∀{a':Nat->Nat->Int},Nine n n a'->CallOK Tryz.prog 64 [.sl 1 (zE a' n) n] (iZ (detZ n a')) []):CallOK Tryz.prog 64 [.sl 1 (zE a (n+1)) (n+1)] (iZ (detZ (n+1) a)) []:=by
 have hr1:=λg (hg:g<n+1)=>det_r1 hn ha hg
 have hr2:=λg (hg:g<=n+1)=>det_r2 hn ha hg
 exact kP (ch:=[.dec 10 false,.loop 5 (Nat) (λg=>g<=n+1) (λg=>n+1-g) (λg=>⟨[(0,.sl 1 (zE a (n+1)) (n+1)),(3,iZ (sumZ (λc=>sgz c*a 0 c*detZ n (minZ a c)) g)),(4,iN g)],[],0⟩) [] (λ_=>[]) (λg=>[.reg 7 [(1,.k 0),(4,.k g)],.reg 6 [(1,.z ((g+1:Nat):Int))],.loop 10 (Nat) (λh=>h<=n) (λh=>n-h) (λh=>⟨[(0,.sl 1 (zE a (n+1)) (n+1)),(3,iZ (sumZ (λc=>sgz c*a 0 c*detZ n (minZ a c)) g)),(4,iN g),(5,.own 0 0),(6,iN (h+1))],[(0,.one (.row 27 1 (λi0=>.sl 1 (λi1=>iZ (minZ a g i0 i1)) n) h))],1⟩) [(0,.nil)] (λ_=>[(0,.id 1)]) (λh=>[.reg 13 [(3,.k (h+1)),(6,.kk 0 g),(7,.row 0 (λi0=>iZ (a (h+1) i0)))],.reg 14 [(3,.k (h+1)),(6,.z ((g+1:Nat):Int)),(7,.kk (g+1) (n+1)),(8,.row 0 (λi0=>iZ (minZ a g h i0)))],.conv 15 [(0,.id 0)] ⟨[(0,.sl 1 (zE a (n+1)) (n+1)),(3,iZ (sumZ (λc=>sgz c*a 0 c*detZ n (minZ a c)) g)),(4,iN g),(5,.own 0 0),(6,iN (h+1)),(7,.sl 1 (λi0=>iZ (minZ a g h i0)) n)],[(0,.one (.row 27 1 (λi0=>.sl 1 (λi1=>iZ (minZ a g i0 i1)) n) h))],1⟩,.reg 15 [(3,.row 0 (λi0=>.sl 1 (λi1=>iZ (minZ a g i0 i1)) n))],.reg 11 [(1,.z ((h+1+1:Nat):Int))],.conv 16 [] ⟨[(0,.sl 1 (zE a (n+1)) (n+1)),(3,iZ (sumZ (λc=>sgz c*a 0 c*detZ n (minZ a c)) g)),(4,iN g),(5,.sl 1 (zE (minZ a g) n) n)],[],0⟩,.reg 16 [(1,.z ((g%2:Nat):Int))],.reg 17 [(2,.k 0),(5,.k g),(8,.callS (iZ (detZ n (minZ a g))) []),(9,.z (a 0 g*detZ n (minZ a g))),(10,.z (sumZ (λc=>sgz c*a 0 c*detZ n (minZ a c)) (g+1)))],.reg 6 [(1,.z ((g+1:Nat):Int))],.reg 18 [(2,.k 0),(5,.k g),(8,.callS (iZ (detZ n (minZ a g))) []),(9,.z (a 0 g*detZ n (minZ a g))),(10,.z (sumZ (λc=>sgz c*a 0 c*detZ n (minZ a c)) (g+1)))],.reg 6 [(1,.z ((g+1:Nat):Int))]])])]) Tryz.func64 ((∀j0,j0<(n+1)->(∀j1,j1<(n+1)->True))/\((decide (((n+1:Nat):Int)=0))=false)/\(((λX1 X2:Prop=>∃g0:Nat,X1/\X2/\((0:Int)=(sumZ (λc=>sgz c*a 0 c*detZ n (minZ a c)) g0))/\((0:Int)=(g0:Int))/\(g0<=n+1)) _ _)/\∀g:Nat,(g<=n+1)->(((decide ((g:Int)<((n+1:Nat):Int)))=true->((0:Int)=((0:Nat):Int))/\(0<(n+1))/\_/\(g<(n+1))/\(((decide ((a 0 g:Int)=0))=true->_/\((λX1 X2:Prop=>∃g1:Nat,X1/\X2/\((sumZ (λc=>sgz c*a 0 c*detZ n (minZ a c)) g:Int)=(sumZ (λc=>sgz c*a 0 c*detZ n (minZ a c)) g1))/\(((g+1:Nat):Int)=(g1:Int))/\(g1<=n+1)/\(n+1-g1<n+1-g)) _ _))/\((decide ((a 0 g:Int)=0))=false->(((λX1 X2 X3 X4 X5:Prop=>∃h0:Nat,X1/\X2/\X3/\X4/\X5/\((1:Int)=((h0+1:Nat):Int))/\((h0:Nat)=0)/\(h0<=n)) _ _ _ _ _)/\∀h:Nat,(h<=n)->(((decide (((h+1:Nat):Int)<((n+1:Nat):Int)))=true->_/\((h+1)<(n+1))/\_/\(g<=(n+1))/\(g<=68719476736)/\_/\_/\((h+1)<(n+1))/\(IntKind.wrap .i64 ((g:Int)+1)=(((g+1:Nat):Int)))/\_/\((g+1)<=(n+1))/\(g+((n+1)-(g+1))<=68719476736)/\(∀j0,j0<g->(iZ (minZ a g h j0):SV)=iZ (a (h+1) j0))/\(∀j0,j0<((n+1)-(g+1))->((a (h+1) ((g+1)+j0):Int)=(minZ a g h (g+j0))))/\_/\_/\_/\_/\_/\_/\((g+((n+1)-(g+1)):Nat)=n)/\_/\_/\_/\(h+1<=68719476736)/\_/\_/\(IntKind.wrap .i64 (((h+1:Nat):Int)+1)=(((h+1+1:Nat):Int)))/\((λX1 X2 X3 X4 X5 X6:Prop=>∃h1:Nat,X1/\X2/\X3/\X4/\X5/\(((h+1+1:Nat):Int)=((h1+1:Nat):Int))/\((h+1:Nat)=h1)/\X6/\(h1<=n)/\(n-h1<n-h)) _ _ _ _ _ _))/\((decide (((h+1:Nat):Int)<((n+1:Nat):Int)))=false->_/\_/\_/\_/\((h:Nat)=n)/\(∀j0,j0<h->((n:Nat)=n)/\(∀j1,j1<n->((minZ a g j0 j1:Int)=((minZ a g) j0 j1))))/\((2:Int)≠0)/\((g:Int).tmod 2=(((g%2:Nat):Int)))/\(((decide (((g%2:Nat):Int)=0))=true->((0:Int)=((0:Nat):Int))/\(0<(n+1))/\_/\(g<(n+1))/\(CallOK Tryz.prog 64 [.sl 1 (zE (minZ a g) n) n] (iZ (detZ n (minZ a g))) [])/\(IntKind.wrap .i64 ((a 0 g:Int)*(detZ n (minZ a g)))=((a 0 g*detZ n (minZ a g))))/\(IntKind.wrap .i64 ((sumZ (λc=>sgz c*a 0 c*detZ n (minZ a c)) g:Int)+(a 0 g*detZ n (minZ a g)))=((sumZ (λc=>sgz c*a 0 c*detZ n (minZ a c)) (g+1))))/\_/\((λX1 X2:Prop=>∃g1:Nat,X1/\X2/\(((sumZ (λc=>sgz c*a 0 c*detZ n (minZ a c)) (g+1)):Int)=(sumZ (λc=>sgz c*a 0 c*detZ n (minZ a c)) g1))/\(((g+1:Nat):Int)=(g1:Int))/\(g1<=n+1)/\(n+1-g1<n+1-g)) _ _))/\((decide (((g%2:Nat):Int)=0))=false->((0:Int)=((0:Nat):Int))/\(0<(n+1))/\_/\(g<(n+1))/\(CallOK Tryz.prog 64 [.sl 1 (zE (minZ a g) n) n] (iZ (detZ n (minZ a g))) [])/\(IntKind.wrap .i64 ((a 0 g:Int)*(detZ n (minZ a g)))=((a 0 g*detZ n (minZ a g))))/\(IntKind.wrap .i64 ((sumZ (λc=>sgz c*a 0 c*detZ n (minZ a c)) g:Int)-(a 0 g*detZ n (minZ a g)))=((sumZ (λc=>sgz c*a 0 c*detZ n (minZ a c)) (g+1))))/\_/\((λX1 X2:Prop=>∃g1:Nat,X1/\X2/\(((sumZ (λc=>sgz c*a 0 c*detZ n (minZ a c)) (g+1)):Int)=(sumZ (λc=>sgz c*a 0 c*detZ n (minZ a c)) g1))/\(((g+1:Nat):Int)=(g1:Int))/\(g1<=n+1)/\(n+1-g1<n+1-g)) _ _)))))))))/\((decide ((g:Int)<((n+1:Nat):Int)))=false->(((sumZ (λc=>sgz c*a 0 c*detZ n (minZ a c)) g:Int)=(detZ (n+1) a)))))))
  ⟨(λ_ _=>(λ_ _=>trivial)),(decide_eq_false zo),⟨0,(rf (n+1:Nat)),(leS (zE a (n+1)) (n+1)),rfl,zo,zo⟩,λg hg=>⟨λhc14=>have hc14:=dT hc14;have hgn:g<n+1:=zo;⟨rfl,zo,(rf (g:Int)),zo,λhc23=>have hc23:=dT hc23;⟨(wI (g:=g) zo),g+1,(rf (n+1:Nat)),(leS (zE a (n+1)) (n+1)),(by first | rfl | exact sum_none hc23),zo,zo,zo⟩,λhc23=>have hc23:=dF hc23;⟨⟨0,(rf (n+1:Nat)),(leS (zE a (n+1)) (n+1)),(rf (sumZ (λc=>sgz c*a 0 c*detZ n (minZ a c)) g:Int)),(rf (g:Int)),(rf 0),zo,zo,zo⟩,λh hh=>⟨λhc27=>have hc27:=dT hc27;have hhn:h<n:=zo;⟨(rf ((h+1:Nat):Int)),zo,(rf (g:Int)),zo,zo,(leS (λi0=>iZ (a (h+1) i0)) g),(rf ((h+1:Nat):Int)),zo,(by rw[IntKind.wrap_i64];omega),(rf ((g+1:Nat):Int)),zo,zo,(λj0 hj0=>by unfold minZ skp;rw[if_pos hj0]),(λj0 hj0=>(by unfold minZ skp;rw[if_neg zo];congr 1;omega)),(rf (n+1:Nat)),(leS (zE a (n+1)) (n+1)),(rf (sumZ (λc=>sgz c*a 0 c*detZ n (minZ a c)) g:Int)),(rf (g:Int)),(rf 0),(rf ((h+1:Nat):Int)),zo,(leS (λi0=>iZ (minZ a g h i0)) (g+((n+1)-(g+1)))),(rf h),(leS (λi0=>.sl 1 (λi1=>iZ (minZ a g i0 i1)) n) h),zo,(oldS (λi0=>.sl 1 (λi1=>iZ (minZ a g i0 i1)) n) h),(newS (λi0=>.sl 1 (λi1=>iZ (minZ a g i0 i1)) n) h),(by rw[IntKind.wrap_i64];omega),h+1,(rf (n+1:Nat)),(leS (zE a (n+1)) (n+1)),(rf (sumZ (λc=>sgz c*a 0 c*detZ n (minZ a c)) g:Int)),(rf (g:Int)),(rf 0),zo,zo,(leS (λi0=>.sl 1 (λi1=>iZ (minZ a g i0 i1)) n) (h+1)),zo,zo⟩,λhc27=>have hc27:=dF hc27;have hi3:h=n:=zo;⟨(rf (n+1:Nat)),(leS (zE a (n+1)) (n+1)),(rf (sumZ (λc=>sgz c*a 0 c*detZ n (minZ a c)) g:Int)),(rf (g:Int)),hi3,(λj0 hj0=>⟨rfl,(λj1 hj1=>rfl)⟩),zd,rfl,λhc53=>have hc53:=dT hc53;⟨rfl,zo,(rf (g:Int)),zo,(ih (ha.min g)),(wz (by have:=hr1 g hgn;omega)),((wz (by have:=hr1 g hgn;have:=hr2 g zo;omega)).trans (sum_even zo)),(wI (g:=g) zo),g+1,(rf (n+1:Nat)),(leS (zE a (n+1)) (n+1)),(by first | rfl | exact sum_none hc23),zo,zo,zo⟩,λhc53=>have hc53:=dF hc53;⟨rfl,zo,(rf (g:Int)),zo,(ih (ha.min g)),(wz (by have:=hr1 g hgn;omega)),((wz (by have:=hr1 g hgn;have:=hr2 g zo;omega)).trans (sum_odd zo)),(wI (g:=g) zo),g+1,(rf (n+1:Nat)),(leS (zE a (n+1)) (n+1)),(by first | rfl | exact sum_none hc23),zo,zo,zo⟩⟩⟩⟩⟩,λhc14=>have hc14:=dF hc14;have hi2:g=n+1:=zo;(by rw[hi2];rfl)⟩⟩
theorem sDet160{a:Nat->Nat->Int}:CallOK Tryz.prog 64 [.sl 1 (zE a 0) 0] (iZ (detZ 0 a)) []:=by
 exact kP (ch:=[.dec 10 true]) Tryz.func64 ((∀j0,j0<0->(∀j1,j1<0->True))/\((decide (((0:Nat):Int)=0))=true)/\(((1:Int)=(detZ 0 a))))
  ⟨(λ_ _=>(λ_ _=>trivial)),rfl,rfl⟩
theorem sDet16:∀(n:Nat),n<=3->∀{a:Nat->Nat->Int},Nine n n a->CallOK Tryz.prog 64 [.sl 1 (zE a n) n] (iZ (detZ n a)) []
 | 0,_,_,_=>sDet160
 | n+1,h,_,ha=>sDet16S zo ha λh2=>sDet16 n zo h2
theorem sAll16{A:Nat->Nat->Int}{Bz Cz:Nat->Int}{n N m:Nat}(hm:m<=64):CallOK Tryz.prog 27 [s16 A Bz Cz n N m] (.sl 1 (λi0=>iN i0) m) []:=by
 exact kP (ch:=[.loop 3 (Nat) (λg=>g<=m) (λg=>m-g) (λg=>⟨[(1,.own 0 0),(3,.own 1 0),(4,iN g)],[(0,.one (.var 31 (s16 A Bz Cz n N m))),(1,.one (.row 3 1 (λi0=>iN i0) g))],2⟩) [(0,.id 0),(1,.nil)] (λ_=>[(0,.id 0),(1,.id 2)]) (λg=>[.reg 5 [(3,.row 0 (λi0=>iN i0))],.reg 4 [(1,.z ((g+1:Nat):Int))]])]) Tryz.func27 ((∀j0,j0<m->(∀j1,j1<N->True))/\(∀j0,j0<m->True)/\(∀j0,j0<N->True)/\(((λX1 X2 X3 X4 X5 X6 X7 X8 X9:Prop=>∃g0:Nat,X1/\X2/\((0:Int)=(g0:Int))/\X3/\X4/\X5/\X6/\X7/\X8/\X9/\((g0:Nat)=0)/\(g0<=m)) _ _ _ _ _ _ _ _ _)/\∀g:Nat,(g<=m)->(((decide ((g:Int)<(m:Int)))=true->(g+1<=68719476736)/\_/\(∀j0,j0<1->((g:Int)=((g+j0:Nat):Int)))/\_/\((λX1 X2 X3 X4 X5 X6 X7 X8 X9 X10:Prop=>∃g1:Nat,X1/\X2/\(((g+1:Nat):Int)=(g1:Int))/\X3/\X4/\X5/\X6/\X7/\X8/\X9/\((g+1:Nat)=g1)/\X10/\(g1<=m)/\(m-g1<m-g)) _ _ _ _ _ _ _ _ _ _))/\((decide ((g:Int)<(m:Int)))=false->(((g:Nat)=m)/\_)))))
  ⟨(λ_ _=>(λ_ _=>trivial)),(λ_ _=>trivial),(λ_ _=>trivial),⟨0,(rf 0),(rf 0),zo,(rf m),(leS (zE A N) m),(rf m),(leS (λi0=>iZ (Bz i0)) m),(rf N),(leS (λi0=>iZ (Cz i0)) N),(rf (n:Int)),zo,zo⟩,λg hg=>⟨λhc9=>have hc9:=dT hc9;have hgm:g<m:=zo;⟨zo,(oldS (λi0=>iN i0) g),(λj0 hj0=>zo),(wI (g:=g) zo),g+1,(rf 0),(rf 0),zo,(rf m),(leS (zE A N) m),(rf m),(leS (λi0=>iZ (Bz i0)) m),(rf N),(leS (λi0=>iZ (Cz i0)) N),(rf (n:Int)),zo,(leS (λi0=>iN i0) (g+1)),zo,zo⟩,λhc9=>have hc9:=dF hc9;have hi2:g=m:=zo;⟨hi2,(leS (λi0=>iN i0) g)⟩⟩⟩
theorem sPart16{A:Nat->Nat->Int}{L:Nat->Nat}{N m k:Nat}(hm:m<=64)(hk:k<=64)(hL:∀j,j<k->L j<N):CallOK Tryz.prog 65 [.sl 1 (zE A N) m,.sl 1 (λi0=>iN i0) m,.sl 1 (λi0=>iN (L i0)) k] (.sl 1 (λi0=>.sl 1 (λi1=>iZ (A i0 (L i1))) k) m) []:=by
 exact kP (ch:=[.loop 3 (Nat) (λg=>g<=m) (λg=>m-g) (λg=>⟨[(0,.sl 1 (zE A N) m),(1,.sl 1 (λi0=>iN i0) m),(2,.sl 1 (λi0=>iN (L i0)) k),(7,.own 0 0),(8,iN g)],[(0,.one (.row 27 1 (λi0=>.sl 1 (λi1=>iZ (A i0 (L i1))) k) g))],1⟩) [(0,.nil)] (λ_=>[(0,.id 1)]) (λg=>[.loop 7 (Nat) (λh=>h<=k) (λh=>k-h) (λh=>⟨[(0,.sl 1 (zE A N) m),(1,.sl 1 (λi0=>iN i0) m),(2,.sl 1 (λi0=>iN (L i0)) k),(7,.own 0 0),(8,iN g),(9,.own 1 0),(10,iN h)],[(0,.one (.row 27 1 (λi0=>.sl 1 (λi1=>iZ (A i0 (L i1))) k) g)),(1,.one (.row 3 1 (λi0=>iZ (A g (L i0))) h))],2⟩) [(0,.id 0),(1,.nil)] (λ_=>[(0,.id 0),(1,.id 2)]) (λh=>[.reg 9 [(4,.k g),(6,.k g),(10,.k h),(12,.k (L h)),(15,.row 0 (λi0=>iZ (A g (L i0))))],.reg 8 [(1,.z ((h+1:Nat):Int))],.conv 10 [(0,.id 0)] ⟨[(0,.sl 1 (zE A N) m),(1,.sl 1 (λi0=>iN i0) m),(2,.sl 1 (λi0=>iN (L i0)) k),(7,.own 0 0),(8,iN g),(9,.sl 1 (λi0=>iZ (A g (L i0))) k)],[(0,.one (.row 27 1 (λi0=>.sl 1 (λi1=>iZ (A i0 (L i1))) k) g))],1⟩,.reg 10 [(3,.row 0 (λi0=>.sl 1 (λi1=>iZ (A i0 (L i1))) k))],.reg 4 [(1,.z ((g+1:Nat):Int))]])])]) Tryz.func65 ((∀j0,j0<m->(∀j1,j1<N->True))/\(∀j0,j0<m->True)/\(∀j0,j0<k->True)/\(((λX1 X2 X3 X4 X5 X6 X7:Prop=>∃g0:Nat,X1/\X2/\X3/\X4/\X5/\X6/\X7/\((0:Int)=(g0:Int))/\((g0:Nat)=0)/\(g0<=m)) _ _ _ _ _ _ _)/\∀g:Nat,(g<=m)->(((decide ((g:Int)<(m:Int)))=true->(((λX1 X2 X3 X4 X5 X6 X7 X8 X9 X10 X11:Prop=>∃h0:Nat,X1/\X2/\X3/\X4/\X5/\X6/\X7/\X8/\X9/\((0:Int)=(h0:Int))/\X10/\X11/\((h0:Nat)=0)/\(h0<=k)) _ _ _ _ _ _ _ _ _ _ _)/\∀h:Nat,(h<=k)->(((decide ((h:Int)<(k:Int)))=true->_/\(g<m)/\_/\(g<m)/\_/\(h<k)/\(((L h:Nat):Int)=(((L h):Nat):Int))/\((L h)<N)/\(h+1<=68719476736)/\_/\_/\_/\((λX1 X2 X3 X4 X5 X6 X7 X8 X9 X10 X11 X12:Prop=>∃h1:Nat,X1/\X2/\X3/\X4/\X5/\X6/\X7/\X8/\X9/\(((h+1:Nat):Int)=(h1:Int))/\X10/\X11/\((h+1:Nat)=h1)/\X12/\(h1<=k)/\(k-h1<k-h)) _ _ _ _ _ _ _ _ _ _ _ _))/\((decide ((h:Int)<(k:Int)))=false->_/\_/\_/\_/\_/\_/\_/\_/\((h:Nat)=k)/\_/\_/\_/\(g+1<=68719476736)/\_/\_/\_/\((λX1 X2 X3 X4 X5 X6 X7 X8:Prop=>∃g1:Nat,X1/\X2/\X3/\X4/\X5/\X6/\X7/\(((g+1:Nat):Int)=(g1:Int))/\((g+1:Nat)=g1)/\X8/\(g1<=m)/\(m-g1<m-g)) _ _ _ _ _ _ _ _)))))/\((decide ((g:Int)<(m:Int)))=false->(((g:Nat)=m)/\_)))))
  ⟨(λ_ _=>(λ_ _=>trivial)),(λ_ _=>trivial),(λ_ _=>trivial),⟨0,(rf m),(leS (zE A N) m),(rf m),(leS (λi0=>iN i0) m),(rf k),(leS (λi0=>iN (L i0)) k),(rf 0),zo,zo,zo⟩,λg hg=>⟨λhc14=>have hc14:=dT hc14;have hgm:g<m:=zo;⟨⟨0,(rf m),(leS (zE A N) m),(rf m),(leS (λi0=>iN i0) m),(rf k),(leS (λi0=>iN (L i0)) k),(rf 0),(rf (g:Int)),(rf 0),zo,(rf g),(leS (λi0=>.sl 1 (λi1=>iZ (A i0 (L i1))) k) g),zo,zo⟩,λh hh=>⟨λhc20=>have hc20:=dT hc20;have hhk:h<k:=zo;⟨(rf (g:Int)),zo,(rf (g:Int)),hgm,(rf (h:Int)),zo,rfl,(hL h hhk),zo,(oldS (λi0=>iZ (A g (L i0))) h),(newS (λi0=>iZ (A g (L i0))) h),(wI (g:=h) zo),h+1,(rf m),(leS (zE A N) m),(rf m),(leS (λi0=>iN i0) m),(rf k),(leS (λi0=>iN (L i0)) k),(rf 0),(rf (g:Int)),(rf 0),zo,(rf g),(leS (λi0=>.sl 1 (λi1=>iZ (A i0 (L i1))) k) g),zo,(leS (λi0=>iZ (A g (L i0))) (h+1)),zo,zo⟩,λhc20=>have hc20:=dF hc20;have hi3:h=k:=zo;⟨(rf m),(leS (zE A N) m),(rf m),(leS (λi0=>iN i0) m),(rf k),(leS (λi0=>iN (L i0)) k),(rf 0),(rf (g:Int)),hi3,(leS (λi0=>iZ (A g (L i0))) h),(rf g),(leS (λi0=>.sl 1 (λi1=>iZ (A i0 (L i1))) k) g),zo,(oldS (λi0=>.sl 1 (λi1=>iZ (A i0 (L i1))) k) g),(newS (λi0=>.sl 1 (λi1=>iZ (A i0 (L i1))) k) g),(wI (g:=g) zo),g+1,(rf m),(leS (zE A N) m),(rf m),(leS (λi0=>iN i0) m),(rf k),(leS (λi0=>iN (L i0)) k),(rf 0),zo,zo,(leS (λi0=>.sl 1 (λi1=>iZ (A i0 (L i1))) k) (g+1)),zo,zo⟩⟩⟩,λhc14=>have hc14:=dF hc14;have hi2:g=m:=zo;⟨hi2,(leS (λi0=>.sl 1 (λi1=>iZ (A i0 (L i1))) k) g)⟩⟩⟩
section
variable {c:Nat->Int} {N g u:Nat}
theorem good_T(h:(bif decide (c g<0) then true else decide ((N:Int)<=c g))=true):¬goodZ c N g:=λ⟨h1,h2,_⟩=>by
 rw[decide_eq_false (show¬c g<0 by omega),decide_eq_false (show¬(N:Int)<=c g by omega)] at h;cases h
theorem good_F(h:(bif decide (c g<0) then true else decide ((N:Int)<=c g))=false):0<=c g/\c g<(N:Int):=by
 by_cases h1:c g<0
 ·rw[decide_eq_true h1] at h;cases h
 ·rw[decide_eq_false h1] at h;have:=of_decide_eq_false h;omega
theorem is_lm{l m:Nat}(h:(decide ((l:Int)=(m:Int))==true)=true):l=m:=by have:=of_decide_eq_true (beq_iff_eq.1 h);omega
theorem good_lt(h:goodZ c N g):(c g).toNat<N:=by obtain⟨h1,h2,_⟩:=h;omega
theorem good_eq(h:goodZ c N g):c g=(((c g).toNat:Nat):Int):=by obtain⟨h1,h2,_⟩:=h;omega
theorem is_no{A:Nat->Nat->Int}{m l:Nat}(hg:g<l)(h:¬goodZ c N g):false=decide (IsZ A m N c l):=(decide_eq_false λq=>h (q.1 g hg)).symm
theorem is_fin{A:Nat->Nat->Int}{m l:Nat}(h:∀i,i<l->goodZ c N i):(bif decide ((l:Int)=(m:Int)) then !decide (detZ m (λi j=>A i (c j).toNat)=0) else false)=decide (IsZ A m N c l):=by
 by_cases h1:l=m
 ·rw[decide_eq_true (show(l:Int)=(m:Int) by omega)]
  by_cases h2:detZ m (λi j=>A i (c j).toNat)=0
  ·rw[decide_eq_true h2,decide_eq_false λq:IsZ A m N c l=>q.2.2 h2];rfl
  ·rw[decide_eq_false h2,decide_eq_true (show IsZ A m N c l from⟨h,h1,h2⟩)];rfl
 ·rw[decide_eq_false (show¬(l:Int)=(m:Int) by omega),decide_eq_false λq:IsZ A m N c l=>h1 q.2.1];rfl
end
theorem sIs16{A:Nat->Nat->Int}{Bz Cz:Nat->Int}{n N m:Nat}{c:Nat->Int}{l:Nat}(hm:m<=3)(hl:l<=68719476736)(hA:Nine m N A):CallOK Tryz.prog 15 [s16 A Bz Cz n N m,.sl 1 (λi0=>iZ (c i0)) l] (bX (decide (IsZ A m N c l))) []:=by
 exact kP (ch:=[.conv 1 [] ⟨[(1,.sl 1 (λi0=>iZ (c i0)) l),(2,.ep (s16 A Bz Cz n N m))],[],0⟩,.loop 2 (Nat) (λg=>g<=l/\∀i,i<g->goodZ c N i) (λg=>l-g) (λg=>⟨[(1,.sl 1 (λi0=>iZ (c i0)) l),(2,.ep (s16 A Bz Cz n N m)),(5,iN g)],[],0⟩) [] (λ_=>[]) (λg=>[.reg 4 [(2,.k g),(8,.k g)],.loop 7 (Nat) (λu=>u<=g/\∀i,i<u->c i≠c g) (λu=>g-u) (λu=>⟨[(1,.sl 1 (λi0=>iZ (c i0)) l),(2,.ep (s16 A Bz Cz n N m)),(5,iN g),(6,iN u)],[],0⟩) [] (λ_=>[]) (λu=>[.reg 9 [(2,.k u),(6,.k g)],.reg 8 [(1,.z ((u+1:Nat):Int))],.reg 3 [(1,.z ((g+1:Nat):Int))]]),.reg 11 [(10,.callS (.sl 1 (λi0=>iN i0) m) []),(12,.call [.sl 1 (zE A N) m,.sl 1 (λi0=>iN i0) m,.sl 1 (λi0=>iN ((λj=>(c j).toNat) i0)) m] (.sl 1 (λi0=>.sl 1 (λi1=>iZ (A i0 ((λj=>(c j).toNat) i1))) m) m) []),(13,.call [.sl 1 (zE (λi j=>A i (c j).toNat) m) m] (iZ (detZ m (λi j=>A i (c j).toNat))) [])]])]) Tryz.func15 (let y1:=(decide ((l:Int)=(m:Int)));let y0:=(y1==true);let y2:=(decide (IsZ A m N c l));(∀j0,j0<m->(∀j1,j1<N->True))/\(∀j0,j0<m->True)/\(∀j0,j0<N->True)/\(∀j0,j0<l->True)/\_/\_/\_/\_/\_/\_/\_/\_/\_/\(((λX1 X2 X3 X4 X5 X6 X7 X8 X9:Prop=>∃g0:Nat,X1/\X2/\X3/\X4/\X5/\X6/\X7/\X8/\X9/\((0:Int)=(g0:Int))/\(g0<=l/\∀i,i<g0->goodZ c N i)) _ _ _ _ _ _ _ _ _)/\∀g:Nat,(g<=l/\∀i,i<g->goodZ c N i)->(((decide ((g:Int)<(l:Int)))=true->_/\(g<l)/\_/\_/\(((decide ((c g:Int)<0))==false)=true->_)/\(((decide ((c g:Int)<0))==false)=true->g<l)/\_/\_/\_/\_/\_/\((!(decide ((c g:Int)<0)))=true->((decide ((c g:Int)<0))==false)=true)/\(((bif (decide ((c g:Int)<0)) then true else(decide ((N:Int)<=(c g))))=true->(((false:Bool)=y2)))/\((bif (decide ((c g:Int)<0)) then true else(decide ((N:Int)<=(c g))))=false->(((λX1 X2 X3 X4 X5 X6 X7 X8 X9 X10:Prop=>∃u0:Nat,X1/\X2/\X3/\X4/\X5/\X6/\X7/\X8/\X9/\X10/\((0:Int)=(u0:Int))/\(u0<=g/\∀i,i<u0->c i≠c g)) _ _ _ _ _ _ _ _ _ _)/\∀u:Nat,(u<=g/\∀i,i<u->c i≠c g)->(((decide ((u:Int)<(g:Int)))=true->_/\(u<l)/\_/\(g<l)/\(((decide ((c u:Int)=(c g)))=true->(((false:Bool)=y2)))/\((decide ((c u:Int)=(c g)))=false->_/\((λX1 X2 X3 X4 X5 X6 X7 X8 X9 X10:Prop=>∃u1:Nat,X1/\X2/\X3/\X4/\X5/\X6/\X7/\X8/\X9/\X10/\(((u+1:Nat):Int)=(u1:Int))/\(u1<=g/\∀i,i<u1->c i≠c g)/\(g-u1<g-u)) _ _ _ _ _ _ _ _ _ _))))/\((decide ((u:Int)<(g:Int)))=false->_/\((λX1 X2 X3 X4 X5 X6 X7 X8 X9:Prop=>∃g1:Nat,X1/\X2/\X3/\X4/\X5/\X6/\X7/\X8/\X9/\(((g+1:Nat):Int)=(g1:Int))/\(g1<=l/\∀i,i<g1->goodZ c N i)/\(l-g1<l-g)) _ _ _ _ _ _ _ _ _)))))))/\((decide ((g:Int)<(l:Int)))=false->(y0=true->y0=true)/\(y0=true->y0=true)/\(y0=true->CallOK Tryz.prog 27 [s16 A Bz Cz n N m] (.sl 1 (λi0=>iN i0) m) [])/\(y0=true->y0=true)/\(y0=true->y0=true)/\(y0=true->y0=true)/\(y0=true->CallOK Tryz.prog 65 [.sl 1 (zE A N) m,.sl 1 (λi0=>iN i0) m,.sl 1 (λi0=>iN ((λj=>(c j).toNat) i0)) m] (.sl 1 (λi0=>.sl 1 (λi1=>iZ (A i0 ((λj=>(c j).toNat) i1))) m) m) [])/\(y0=true->_)/\(y0=true->_)/\(y0=true->_)/\(y0=true->_)/\(y0=true->(l:Nat)=m)/\(y0=true->∀j0,j0<l->((c j0:Int)=(((λj=>(c j).toNat) j0:Nat):Int)))/\(y0=true->y0=true)/\(y0=true->CallOK Tryz.prog 64 [.sl 1 (zE (λi j=>A i (c j).toNat) m) m] (iZ (detZ m (λi j=>A i (c j).toNat))) [])/\(y0=true->_)/\(y0=true->∀j0,j0<m->((m:Nat)=m)/\(∀j1,j1<m->((A j0 ((λj=>(c j).toNat) j1):Int)=((λi j=>A i (c j).toNat) j0 j1))))/\(y0=true->y0=true)/\(y1=true->y0=true)/\(((bif y1 then(!decide ((detZ m (λi j=>A i (c j).toNat):Int)=0)) else false:Bool)=y2))))))
  ⟨(λ_ _=>(λ_ _=>trivial)),(λ_ _=>trivial),(λ_ _=>trivial),(λ_ _=>trivial),(rf l),(leS (λi0=>iZ (c i0)) l),(rf m),(leS (zE A N) m),(rf m),(leS (λi0=>iZ (Bz i0)) m),(rf N),(leS (λi0=>iZ (Cz i0)) N),(rf (n:Int)),⟨0,(rf l),(leS (λi0=>iZ (c i0)) l),(rf m),(leS (zE A N) m),(rf m),(leS (λi0=>iZ (Bz i0)) m),(rf N),(leS (λi0=>iZ (Cz i0)) N),(rf (n:Int)),zo,Nat.zero_le _,λi hi=>absurd hi (Nat.not_lt_zero i)⟩,λg hg=>⟨λhc10=>have hc10:=dT hc10;have hgl:g<l:=zo;⟨(rf (g:Int)),zo,(idB ((decide ((c g:Int)<0))==false)),(idB ((decide ((c g:Int)<0))==false)),(λhg=>(rf (g:Int))),(λhg=>zo),(idB ((decide ((c g:Int)<0))==false)),(idB ((decide ((c g:Int)<0))==false)),(idB ((decide ((c g:Int)<0))==false)),(idB ((decide ((c g:Int)<0))==false)),(idB ((decide ((c g:Int)<0))==false)),(by first | exact id | (simp;done)),λhc27=>have hbd:=good_T hc27;(is_no hgl hbd),λhc27=>have hgd:=good_F hc27;⟨⟨0,(rf l),(leS (λi0=>iZ (c i0)) l),(rf m),(leS (zE A N) m),(rf m),(leS (λi0=>iZ (Bz i0)) m),(rf N),(leS (λi0=>iZ (Cz i0)) N),(rf (n:Int)),(rf (g:Int)),zo,Nat.zero_le _,λi hi=>absurd hi (Nat.not_lt_zero i)⟩,λu hu=>⟨λhc30=>have hc30:=dT hc30;have hug:u<g:=zo;⟨(rf (u:Int)),zo,(rf (g:Int)),zo,λhc41=>have hc41:=dT hc41;have hbd:¬goodZ c N g:=(λq=>q.2.2 u hug hc41);(is_no hgl hbd),λhc41=>have hc41:=dF hc41;⟨(wI (g:=u) zo),u+1,(rf l),(leS (λi0=>iZ (c i0)) l),(rf m),(leS (zE A N) m),(rf m),(leS (λi0=>iZ (Bz i0)) m),(rf N),(leS (λi0=>iZ (Cz i0)) N),(rf (n:Int)),(rf (g:Int)),zo,⟨by omega,λi hi=>by rcases Nat.lt_succ_iff_lt_or_eq.1 hi with q | q;exact hu.2 i q;rw[q];exact hc41⟩,zo⟩⟩,λhc30=>have hc30:=dF hc30;have hug:u=g:=(by have:=hu.1;omega);⟨(wI (g:=g) zo),g+1,(rf l),(leS (λi0=>iZ (c i0)) l),(rf m),(leS (zE A N) m),(rf m),(leS (λi0=>iZ (Bz i0)) m),(rf N),(leS (λi0=>iZ (Cz i0)) N),(rf (n:Int)),zo,⟨by omega,λi hi=>by rcases Nat.lt_succ_iff_lt_or_eq.1 hi with q | q;exact hg.2 i q;rw[q];exact⟨hgd.1,hgd.2,λt ht=>hu.2 t zo⟩⟩,zo⟩⟩⟩⟩,λhc10=>have hc10:=dF hc10;have hgl:g=l:=(by have:=hg.1;omega);have hall:∀i,i<l->goodZ c N i:=(by rw[←hgl];exact hg.2);⟨id,id,(λhg=>(sAll16 zo)),id,id,id,(λhg=>(sPart16 (A:=A) (L:=(λj=>(c j).toNat)) (N:=N) (m:=m) (k:=m) zo zo (λj hj=>by have hlm:l=m:=(is_lm hg);exact good_lt (hall j zo)))),(λhg=>(rf m)),(λhg=>(leS (zE A N) m)),(λhg=>(rf m)),(λhg=>(leS (λi0=>iN i0) m)),(λhg=>(is_lm hg)),(λhg=>(λj0 hj0=>(good_eq (hall j0 hj0)))),id,(λhg=>(sDet16 m zo (λi hi j hj=>by have hlm:l=m:=(is_lm hg);exact hA i hi _ (good_lt (hall j zo))))),(λhg=>(rf m)),(λhg=>(λj0 hj0=>⟨rfl,(λj1 hj1=>rfl)⟩)),id,(by first | exact id | (simp;done)),(is_fin hall)⟩⟩⟩
open Go.RowKit
theorem sIndexNo{a:Nat->Int}{n:Nat}{v:Int}(hn:n<=68719476736)(h:∀i,i<n->a i≠v):CallOK Tryz.prog 95 [.sl 1 (λi0=>iZ (a i0)) n,.ex (.int .i64 v)] (iZ (-1)) []:=by
 exact kP (ch:=[.loop 2 (Nat) (λg=>g<=n) (λg=>n-g) (λg=>⟨[(0,.sl 1 (λi0=>iZ (a i0)) n),(1,.ex (.int .i64 v)),(7,iN n),(8,iN g)],[],0⟩) [] (λ_=>[]) (λg=>[.reg 4 [(3,.k g)],.dec 16 false,.reg 6 [(0,.z ((g+1:Nat):Int))]])]) Tryz.func95 ((∀j0,j0<n->True)/\(((λX1 X2 X3 X4:Prop=>∃g0:Nat,X1/\X2/\X3/\X4/\((0:Int)=(g0:Int))/\(g0<=n)) _ _ _ _)/\∀g:Nat,(g<=n)->(((decide ((g:Int)<(n:Int)))=true->_/\(g<n)/\((decide ((v:Int)=(a g)))=false)/\_/\((λX1 X2 X3 X4:Prop=>∃g1:Nat,X1/\X2/\X3/\X4/\(((g+1:Nat):Int)=(g1:Int))/\(g1<=n)/\(n-g1<n-g)) _ _ _ _))/\((decide ((g:Int)<(n:Int)))=false->(_)))))
  ⟨(λ_ _=>trivial),⟨0,(rf n),(leS (λi0=>iZ (a i0)) n),(rf (v:Int)),(rf (n:Int)),zo,zo⟩,λg hg=>⟨λhc9=>have hc9:=dT hc9;have hgn:g<n:=zo;⟨(rf (g:Int)),zo,(decide_eq_false λe=>h g hgn e.symm),(wI (g:=g) zo),g+1,(rf n),(leS (λi0=>iZ (a i0)) n),(rf (v:Int)),(rf (n:Int)),zo,zo,zo⟩,λhc9=>have hc9:=dF hc9;(rf (-1:Int))⟩⟩
theorem sIndexYes{a:Nat->Int}{n k:Nat}{v:Int}(hn:n<=68719476736)(hk:k<n)(h:∀i,i<k->a i≠v)(e:a k=v):CallOK Tryz.prog 95 [.sl 1 (λi0=>iZ (a i0)) n,.ex (.int .i64 v)] (iN k) []:=by
 exact kP (ch:=[.loop 2 (Nat) (λg=>g<=k) (λg=>n-g) (λg=>⟨[(0,.sl 1 (λi0=>iZ (a i0)) n),(1,.ex (.int .i64 v)),(7,iN n),(8,iN g)],[],0⟩) [] (λ_=>[]) (λg=>[.reg 4 [(3,.k g)],.reg 6 [(0,.z ((g+1:Nat):Int))]])]) Tryz.func95 ((∀j0,j0<n->True)/\(((λX1 X2 X3 X4:Prop=>∃g0:Nat,X1/\X2/\X3/\X4/\((0:Int)=(g0:Int))/\(g0<=k)) _ _ _ _)/\∀g:Nat,(g<=k)->(((decide ((g:Int)<(n:Int)))=true->_/\(g<n)/\(((decide ((v:Int)=(a g)))=true->(((g:Int)=(k:Int))))/\((decide ((v:Int)=(a g)))=false->_/\((λX1 X2 X3 X4:Prop=>∃g1:Nat,X1/\X2/\X3/\X4/\(((g+1:Nat):Int)=(g1:Int))/\(g1<=k)/\(n-g1<n-g)) _ _ _ _))))/\((decide ((g:Int)<(n:Int)))=false->(((-1:Int)=(k:Int)))))))
  ⟨(λ_ _=>trivial),⟨0,(rf n),(leS (λi0=>iZ (a i0)) n),(rf (v:Int)),(rf (n:Int)),zo,zo⟩,λg hg=>⟨λhc9=>have hc9:=dT hc9;⟨(rf (g:Int)),zo,λhc16=>have hc16:=dT hc16;have hgk:g=k:=(by rcases Nat.lt_or_eq_of_le hg with q | q;exact absurd hc16.symm (h g q);exact q);(by rw[hgk]),λhc16=>have hc16:=dF hc16;have hgk:g<k:=(by rcases Nat.lt_or_eq_of_le hg with q | q;exact q;rw[q] at hc16;exact absurd e.symm hc16);⟨(wI (g:=g) zo),g+1,(rf n),(leS (λi0=>iZ (a i0)) n),(rf (v:Int)),(rf (n:Int)),zo,zo,zo⟩⟩,λhc9=>have hc9:=dF hc9;have hx:False:=zo;hx.elim⟩⟩
theorem sContNo{a:Nat->Int}{n:Nat}{v:Int}(hn:n<=68719476736)(h:∀i,i<n->a i≠v):CallOK Tryz.prog 59 [.sl 1 (λi0=>iZ (a i0)) n,.ex (.int .i64 v)] (bX false) []:=by
 exact kP (ch:=[.reg 1 [(2,.callS (iZ (-1)) [])]]) Tryz.func59 ((∀j0,j0<n->True)/\(CallOK Tryz.prog 95 [.sl 1 (λi0=>iZ (a i0)) n,.ex (.int .i64 v)] (iZ (-1)) [])/\(((decide ((0:Int)<=(-1)):Bool)=false)))
  ⟨(λ_ _=>trivial),(sIndexNo hn h),rfl⟩
theorem sContYes0{a:Nat->Int}{n k:Nat}{v:Int}(hn:n<=68719476736)(hk:k<n)(h:∀i,i<k->a i≠v)(e:a k=v):CallOK Tryz.prog 59 [.sl 1 (λi0=>iZ (a i0)) n,.ex (.int .i64 v)] (bX true) []:=by
 exact kP (ch:=[.reg 1 [(2,.callS (iN k) [])]]) Tryz.func59 ((∀j0,j0<n->True)/\(CallOK Tryz.prog 95 [.sl 1 (λi0=>iZ (a i0)) n,.ex (.int .i64 v)] (iN k) [])/\(((decide ((0:Int)<=(k:Int)):Bool)=true)))
  ⟨(λ_ _=>trivial),(sIndexYes (k:=k) hn hk h e),(decide_eq_true zo)⟩
theorem least_k{P:Nat->Prop}(h:∃k,P k):∃k,P k/\∀i,i<k->¬P i:=by
 obtain⟨k,hk⟩:=h
 induction k using Nat.strongRecOn with
 | _ k ih=>
  by_cases e:∃i,i<k/\P i
  ·obtain⟨i,hi,hp⟩:=e;exact ih i hi hp
  ·exact⟨k,hk,λi hi hp=>e ⟨i,hi,hp⟩⟩
theorem sContYes{a:Nat->Int}{n:Nat}{v:Int}(hn:n<=68719476736)(h:∃k,k<n/\a k=v):CallOK Tryz.prog 59 [.sl 1 (λi0=>iZ (a i0)) n,.ex (.int .i64 v)] (bX true) []:=by
 obtain⟨k,⟨hk,e⟩,hl⟩:=least_k h
 exact sContYes0 hn hk (λi hi q=>hl i hi ⟨by omega,q⟩) e
abbrev sBas:ByteArray:=⟨#[98,97,115,105,115]⟩
def colA (A:Nat->Nat->Rat) (L:Nat->Nat) (k r:Nat):Rat:=A r (L k)
theorem sTNew_len{A:Nat->Nat->Rat}{Bv Cs:Nat->Rat}{Lf:Nat->Int}{n N m:Nat}{L:Nat->Nat}{l:Nat}(hl:l≠m):CallOK Tryz.prog 14 [.agg (.cn (.agg (c2 (.sl 1 (mE A N) m) (iN N))) (.cn (vE Bv m) (c3 (vE Cs N) (iN n) (.sl 1 (λi0=>iZ (Lf i0)) m)))),.sl 1 (λi0=>iN (L i0)) l] (c2 (.ex (.pointer none)) (.ex (.iface 57 (.int .i64 170)))) []:=by
 exact kP (ch:=[.reg 1 [(4,.callS (iN m) []),(12,.callS (iN m) [])],.dec 28 true]) Tryz.func14 ((∀j0,j0<m->(∀j1,j1<N->True))/\(∀j0,j0<m->True)/\(∀j0,j0<N->True)/\(∀j0,j0<m->True)/\(∀j0,j0<l->True)/\_/\_/\_/\_/\_/\(((!decide ((l:Int)=(m:Int)))==false)=true->_)/\_/\_/\((!(!decide ((l:Int)=(m:Int))))=true->((!decide ((l:Int)=(m:Int)))==false)=true)/\((bif (!decide ((l:Int)=(m:Int))) then true else(!decide ((m:Int)=(m:Int))))=true)/\(((.pointer none:Value)=.pointer none)/\((.iface 57 (.int .i64 170):Value)=.iface 57 (.int .i64 170))))
  ⟨(λ_ _=>(λ_ _=>trivial)),(λ_ _=>trivial),(λ_ _=>trivial),(λ_ _=>trivial),(λ_ _=>trivial),kT (m:=m) (n:=N) (q:=A),(idB ((!decide ((l:Int)=(m:Int)))==false)),(idB ((!decide ((l:Int)=(m:Int)))==false)),(idB ((!decide ((l:Int)=(m:Int)))==false)),(idB ((!decide ((l:Int)=(m:Int)))==false)),(λhg=>kT (m:=m) (n:=N) (q:=A)),(idB ((!decide ((l:Int)=(m:Int)))==false)),(idB ((!decide ((l:Int)=(m:Int)))==false)),zs,(by simp;omega),rfl,rfl⟩
theorem sTNew_sing{A:Nat->Nat->Rat}{Bv Cs:Nat->Rat}{Lf:Nat->Int}{n N m:Nat}{L:Nat->Nat}(hm:m<=5)(hL:∀k,k<m->L k<N)(hd:∀k,k<m->∀i,i<k->L i≠L k)(hH:HtB m m 3 (trM (colA A L)))(hok:¬luOK m (trM (colA A L)) m):CallOK Tryz.prog 14 [.agg (.cn (.agg (c2 (.sl 1 (mE A N) m) (iN N))) (.cn (vE Bv m) (c3 (vE Cs N) (iN n) (.sl 1 (λi0=>iZ (Lf i0)) m)))),.sl 1 (λi0=>iN (L i0)) m] (c2 (.ex (.pointer none)) (.ifc 158 (.ep (.agg (c3 (.ex (.string sBas)) (.ex (.int .i64 0)) (.ex (.iface 57 (.int .i64 140)))))))) []:=by
 exact kP (ch:=[.reg 1 [(4,.callS (iN m) []),(12,.callS (iN m) [])],.dec 28 false,.loop 5 (Nat) (λg=>g<=m) (λg=>m-g) (λg=>⟨[(1,.sl 1 (λi0=>iN (L i0)) m),(2,.own 0 0),(6,.own 1 0),(30,.sl 1 (λi0=>iN (L i0)) m),(31,iN m),(32,iN g)],[(0,.one (.var 43 (.agg (.cn (.agg (c2 (.sl 1 (mE A N) m) (iN N))) (.cn (vE Bv m) (c3 (vE Cs N) (iN n) (.sl 1 (λi0=>iZ (Lf i0)) m))))))),(1,.one (.row 41 1 (λi0=>.sl 3 (λi1=>.rat (colA A L i0 i1)) m) g))],2⟩) [(0,.id 0),(1,.nil)] (λ_=>[(0,.id 0),(1,.id 2)]) (λg=>[.reg 6 [(1,.k g)],.reg 7 [(3,.callS (c2 (.sl 3 (λi0=>.rat (A i0 (L g))) m) (bX true)) [])],.reg 8 [(5,.kk 0 g),(7,.callS (bX false) [])],.dec 52 false,.reg 10 [(3,.row 0 (λi0=>.sl 3 (λi1=>.rat (colA A L i0 i1)) m))],.reg 11 [(0,.z ((g+1:Nat):Int))],.conv 12 [(0,.id 0)] ⟨[(1,.sl 1 (λi0=>iN (L i0)) m),(2,.own 0 0),(6,.sl 1 (λi0=>.sl 3 (λi1=>.rat (colA A L i0 i1)) m) m)],[(0,.one (.var 43 (.agg (.cn (.agg (c2 (.sl 1 (mE A N) m) (iN N))) (.cn (vE Bv m) (c3 (vE Cs N) (iN n) (.sl 1 (λi0=>iZ (Lf i0)) m)))))))],1⟩,.reg 12 [(1,.call [.sl 1 (mE (colA A L) m) m] (c2 (.ex (.pointer none)) (.ex (.iface 57 (.int .i64 140)))) [])],.dec 67 true,.reg 14 [(1,.callS (.ifc 158 (.ep (.agg (c3 (.ex (.string sBas)) (.ex (.int .i64 0)) (.ex (.iface 57 (.int .i64 140))))))) [])]])]) Tryz.func14 (let y0:=((!decide ((m:Int)=(m:Int)))==false);let y1:=((!true)==false);(∀j0,j0<m->(∀j1,j1<N->True))/\(∀j0,j0<m->True)/\(∀j0,j0<N->True)/\(∀j0,j0<m->True)/\(∀j0,j0<m->True)/\_/\(y0=true->y0=true)/\(y0=true->y0=true)/\(y0=true->y0=true)/\(y0=true->y0=true)/\(y0=true->_)/\(y0=true->y0=true)/\(y0=true->y0=true)/\((!(!decide ((m:Int)=(m:Int))))=true->y0=true)/\((bif (!decide ((m:Int)=(m:Int))) then true else(!decide ((m:Int)=(m:Int))))=false)/\(((λX1 X2 X3 X4 X5 X6 X7 X8 X9 X10 X11 X12 X13 X14 X15 X16 X17:Prop=>∃g0:Nat,X1/\X2/\X3/\X4/\X5/\X6/\X7/\((0:Int)=(g0:Int))/\X8/\X9/\X10/\X11/\X12/\X13/\X14/\X15/\X16/\X17/\((g0:Nat)=0)/\(g0<=m)) _ _ _ _ _ _ _ _ _ _ _ _ _ _ _ _ _)/\∀g:Nat,(g<=m)->(((decide ((g:Int)<(m:Int)))=true->_/\(g<m)/\_/\(y1=true->y1=true)/\(y1=true->y1=true)/\(y1=true->_)/\(y1=true->g<=m)/\(y1=true->y1=true)/\(y1=true->y1=true)/\(y1=true->CallOK Tryz.prog 59 [.sl 1 (λi0=>iN (L i0)) g,iN (L g)] (bX false) [])/\((!(!true))=true->y1=true)/\((bif (!true) then true else false)=false)/\(g+1<=68719476736)/\_/\_/\_/\((λX1 X2 X3 X4 X5 X6 X7 X8 X9 X10 X11 X12 X13 X14 X15 X16 X17 X18:Prop=>∃g1:Nat,X1/\X2/\X3/\X4/\X5/\X6/\X7/\(((g+1:Nat):Int)=(g1:Int))/\X8/\X9/\X10/\X11/\X12/\X13/\X14/\X15/\X16/\X17/\((g+1:Nat)=g1)/\X18/\(g1<=m)/\(m-g1<m-g)) _ _ _ _ _ _ _ _ _ _ _ _ _ _ _ _ _ _))/\((decide ((g:Int)<(m:Int)))=false->_/\_/\_/\((g:Nat)=m)/\_/\_/\_/\_/\_/\_/\_/\_/\_/\_/\_/\(CallOK Tryz.prog 61 [.sl 1 (mE (colA A L) m) m] (c2 (.ex (.pointer none)) (.ex (.iface 57 (.int .i64 140)))) [])/\_/\(∀j0,j0<m->((m:Nat)=m)/\(∀j1,j1<m->((colA A L j0 j1:Rat)=((colA A L) j0 j1))))/\((!false)=true)/\(CallOK Tryz.prog 60 [.ex (.iface 57 (.int .i64 140)),.ex (.string sBas),.ex (.int .i64 0)] (.ifc 158 (.ep (.agg (c3 (.ex (.string sBas)) (.ex (.int .i64 0)) (.ex (.iface 57 (.int .i64 140))))))) [])/\(((.pointer none:Value)=.pointer none)/\((.string sBas:Value)=.string sBas)/\_/\((.iface 57 (.int .i64 140):Value)=.iface 57 (.int .i64 140)))))))
  ⟨(λ_ _=>(λ_ _=>trivial)),(λ_ _=>trivial),(λ_ _=>trivial),(λ_ _=>trivial),(λ_ _=>trivial),kT (m:=m) (n:=N) (q:=A),id,id,id,id,(λhg=>kT (m:=m) (n:=N) (q:=A)),id,id,zs,zs,⟨0,(rf m),(leS (λi0=>iN (L i0)) m),(rf 0),(rf 0),(rf m),(leS (λi0=>iN (L i0)) m),(rf (m:Int)),zo,(rf m),(leS (mE A N) m),(rf (N:Int)),(rf m),(leS (λi0=>.rat (Bv i0)) m),(rf N),(leS (λi0=>.rat (Cs i0)) N),(rf (n:Int)),(rf m),(leS (λi0=>iZ (Lf i0)) m),zo,zo⟩,λg hg=>⟨λhc33=>have hc33:=dT hc33;have hgm:g<m:=zo;⟨(rf (g:Int)),zo,(sMatCol (m:=m) (n:=N) (q:=A) (c:=L g) zo (hL g hgm)),id,id,(λhg=>(rf (g:Int))),(λhg=>zo),id,id,(λhg=>(sContNo (a:=(λi=>(L i:Int))) zo (λi hi e=>hd g hgm i hi zo))),zs,rfl,zo,(oldS (λi0=>.sl 3 (λi1=>.rat (colA A L i0 i1)) m) g),(newS (λi0=>.sl 3 (λi1=>.rat (colA A L i0 i1)) m) g),(wI (g:=g) zo),g+1,(rf m),(leS (λi0=>iN (L i0)) m),(rf 0),(rf 0),(rf m),(leS (λi0=>iN (L i0)) m),(rf (m:Int)),zo,(rf m),(leS (mE A N) m),(rf (N:Int)),(rf m),(leS (λi0=>.rat (Bv i0)) m),(rf N),(leS (λi0=>.rat (Cs i0)) N),(rf (n:Int)),(rf m),(leS (λi0=>iZ (Lf i0)) m),zo,(leS (λi0=>.sl 3 (λi1=>.rat (colA A L i0 i1)) m) (g+1)),zo,zo⟩,λhc33=>have hc33:=dF hc33;have hi2:g=m:=zo;⟨(rf m),(leS (λi0=>iN (L i0)) m),(rf 0),hi2,(leS (λi0=>.sl 3 (λi1=>.rat (colA A L i0 i1)) m) g),(rf m),(leS (mE A N) m),(rf (N:Int)),(rf m),(leS (λi0=>.rat (Bv i0)) m),(rf N),(leS (λi0=>.rat (Cs i0)) N),(rf (n:Int)),(rf m),(leS (λi0=>iZ (Lf i0)) m),(sBNew_sing (C:=(colA A L)) zo hH hok),(rf m),(λj0 hj0=>⟨rfl,(λj1 hj1=>rfl)⟩),rfl,sWrap,rfl,rfl,(rf (0:Int)),rfl⟩⟩⟩
theorem sTNew{A:Nat->Nat->Rat}{Bv Cs:Nat->Rat}{Lf:Nat->Int}{n N m:Nat}{L:Nat->Nat}(hm:m<=5)(hL:∀k,k<m->L k<N)(hd:∀k,k<m->∀i,i<k->L i≠L k)(hK:BOK m (trM (colA A L)) (colA A L) noE 0)(hB:∀j,j<m->htq (Bv j)<=3):CallOK Tryz.prog 14 [.agg (.cn (.agg (c2 (.sl 1 (mE A N) m) (iN N))) (.cn (vE Bv m) (c3 (vE Cs N) (iN n) (.sl 1 (λi0=>iZ (Lf i0)) m)))),.sl 1 (λi0=>iN (L i0)) m] (c2 (.own 0 0) (.ex (.nilIface))) [.one (.var 126 (.agg (.cn (.agg (.cn (.agg (c2 (.sl 1 (mE A N) m) (iN N))) (.cn (vE Bv m) (c3 (vE Cs N) (iN n) (.sl 1 (λi0=>iZ (Lf i0)) m))))) (c3 (.own 1 0) (.own 2 0) (vE (zK (basX m (trM (colA A L)) Bv) noE 0) m))))),.one (.row 3 1 (λi0=>iN (L i0)) m),.one (bV 3 4 (luS m (trM (colA A L)) m) m),cC (colA A L) m,.one (eE noE m 0)]:=by
 exact kP (ch:=[.reg 1 [(4,.callS (iN m) []),(12,.callS (iN m) [])],.dec 28 false,.loop 5 (Nat) (λg=>g<=m) (λg=>m-g) (λg=>⟨[(1,.sl 1 (λi0=>iN (L i0)) m),(2,.own 0 0),(6,.own 1 0),(30,.sl 1 (λi0=>iN (L i0)) m),(31,iN m),(32,iN g)],[(0,.one (.var 43 (.agg (.cn (.agg (c2 (.sl 1 (mE A N) m) (iN N))) (.cn (vE Bv m) (c3 (vE Cs N) (iN n) (.sl 1 (λi0=>iZ (Lf i0)) m))))))),(1,.one (.row 41 1 (λi0=>.sl 3 (λi1=>.rat (colA A L i0 i1)) m) g))],2⟩) [(0,.id 0),(1,.nil)] (λ_=>[(0,.id 0),(1,.id 2)]) (λg=>[.reg 6 [(1,.k g)],.reg 7 [(3,.callS (c2 (.sl 3 (λi0=>.rat (A i0 (L g))) m) (bX true)) [])],.reg 8 [(5,.kk 0 g),(7,.callS (bX false) [])],.dec 52 false,.reg 10 [(3,.row 0 (λi0=>.sl 3 (λi1=>.rat (colA A L i0 i1)) m))],.reg 11 [(0,.z ((g+1:Nat):Int))],.conv 12 [(0,.id 0)] ⟨[(1,.sl 1 (λi0=>iN (L i0)) m),(2,.own 0 0),(6,.sl 1 (λi0=>.sl 3 (λi1=>.rat (colA A L i0 i1)) m) m)],[(0,.one (.var 43 (.agg (.cn (.agg (c2 (.sl 1 (mE A N) m) (iN N))) (.cn (vE Bv m) (c3 (vE Cs N) (iN n) (.sl 1 (λi0=>iZ (Lf i0)) m)))))))],1⟩,.reg 12 [(1,.call [.sl 1 (mE (colA A L) m) m] (c2 (.own 0 0) (.ex (.nilIface))) [.one (bV 1 2 (luS m (trM (colA A L)) m) m),cC (colA A L) m,.one (eE noE m 0)])],.dec 67 false,.reg 15 [(2,.callS (.own 0 0) [.one (.row 3 1 (λi0=>iN (L i0)) m)])],.reg 16 [(4,.callM [1,2,3] [.one (bV 1 2 (luS m (trM (colA A L)) m) m),cC (colA A L) m,.one (eE noE m 0)] [.own 0 0,.sl 3 (λi0=>.rat (Bv i0)) m] (c2 (.own 5 0) (bX true)) [.one (bV 3 4 (luS m (trM (colA A L)) m) m),.dead,.dead,cC (colA A L) m,.one (eE noE m 0),.one (.row 76 3 (λi0=>.rat ((zK (basX m (trM (colA A L)) Bv) noE 0) i0)) m)])],.ret 17 [(0,.id 5),(1,.id 4),(2,.id 1),(3,.id 6),(4,.id 7)]])]) Tryz.func14 (let y0:=((!decide ((m:Int)=(m:Int)))==false);let y1:=((!true)==false);(∀j0,j0<m->(∀j1,j1<N->True))/\(∀j0,j0<m->True)/\(∀j0,j0<N->True)/\(∀j0,j0<m->True)/\(∀j0,j0<m->True)/\_/\(y0=true->y0=true)/\(y0=true->y0=true)/\(y0=true->y0=true)/\(y0=true->y0=true)/\(y0=true->_)/\(y0=true->y0=true)/\(y0=true->y0=true)/\((!(!decide ((m:Int)=(m:Int))))=true->y0=true)/\((bif (!decide ((m:Int)=(m:Int))) then true else(!decide ((m:Int)=(m:Int))))=false)/\(((λX1 X2 X3 X4 X5 X6 X7 X8 X9 X10 X11 X12 X13 X14 X15 X16 X17:Prop=>∃g0:Nat,X1/\X2/\X3/\X4/\X5/\X6/\X7/\((0:Int)=(g0:Int))/\X8/\X9/\X10/\X11/\X12/\X13/\X14/\X15/\X16/\X17/\((g0:Nat)=0)/\(g0<=m)) _ _ _ _ _ _ _ _ _ _ _ _ _ _ _ _ _)/\∀g:Nat,(g<=m)->(((decide ((g:Int)<(m:Int)))=true->_/\(g<m)/\_/\(y1=true->y1=true)/\(y1=true->y1=true)/\(y1=true->_)/\(y1=true->g<=m)/\(y1=true->y1=true)/\(y1=true->y1=true)/\(y1=true->CallOK Tryz.prog 59 [.sl 1 (λi0=>iN (L i0)) g,iN (L g)] (bX false) [])/\((!(!true))=true->y1=true)/\((bif (!true) then true else false)=false)/\(g+1<=68719476736)/\_/\_/\_/\((λX1 X2 X3 X4 X5 X6 X7 X8 X9 X10 X11 X12 X13 X14 X15 X16 X17 X18:Prop=>∃g1:Nat,X1/\X2/\X3/\X4/\X5/\X6/\X7/\(((g+1:Nat):Int)=(g1:Int))/\X8/\X9/\X10/\X11/\X12/\X13/\X14/\X15/\X16/\X17/\((g+1:Nat)=g1)/\X18/\(g1<=m)/\(m-g1<m-g)) _ _ _ _ _ _ _ _ _ _ _ _ _ _ _ _ _ _))/\((decide ((g:Int)<(m:Int)))=false->_/\_/\_/\((g:Nat)=m)/\_/\_/\_/\_/\_/\_/\_/\_/\_/\_/\_/\(CallOK Tryz.prog 61 [.sl 1 (mE (colA A L) m) m] (c2 (.own 0 0) (.ex (.nilIface))) [.one (bV 1 2 (luS m (trM (colA A L)) m) m),cC (colA A L) m,.one (eE noE m 0)])/\_/\(∀j0,j0<m->((m:Nat)=m)/\(∀j1,j1<m->((colA A L j0 j1:Rat)=((colA A L) j0 j1))))/\((!true)=false)/\(CallOK Tryz.prog 62 [.sl 1 (λi0=>iN (L i0)) m] (.own 0 0) [.one (.row 3 1 (λi0=>iN (L i0)) m)])/\_/\_/\_/\_/\_/\_/\_/\_/\(_/\((.nilIface:Value)=.nilIface)/\_/\_/\_/\_/\_/\_/\_/\_/\_/\_/\_/\_/\_/\_/\_/\_/\_/\_/\_/\_/\_/\_/\_/\_/\_/\_/\_/\_/\_)))))
  ⟨(λ_ _=>(λ_ _=>trivial)),(λ_ _=>trivial),(λ_ _=>trivial),(λ_ _=>trivial),(λ_ _=>trivial),kT (m:=m) (n:=N) (q:=A),id,id,id,id,(λhg=>kT (m:=m) (n:=N) (q:=A)),id,id,zs,zs,⟨0,(rf m),(leS (λi0=>iN (L i0)) m),(rf 0),(rf 0),(rf m),(leS (λi0=>iN (L i0)) m),(rf (m:Int)),zo,(rf m),(leS (mE A N) m),(rf (N:Int)),(rf m),(leS (λi0=>.rat (Bv i0)) m),(rf N),(leS (λi0=>.rat (Cs i0)) N),(rf (n:Int)),(rf m),(leS (λi0=>iZ (Lf i0)) m),zo,zo⟩,λg hg=>⟨λhc33=>have hc33:=dT hc33;have hgm:g<m:=zo;⟨(rf (g:Int)),zo,(sMatCol (m:=m) (n:=N) (q:=A) (c:=L g) zo (hL g hgm)),id,id,(λhg=>(rf (g:Int))),(λhg=>zo),id,id,(λhg=>(sContNo (a:=(λi=>(L i:Int))) zo (λi hi e=>hd g hgm i hi zo))),zs,rfl,zo,(oldS (λi0=>.sl 3 (λi1=>.rat (colA A L i0 i1)) m) g),(newS (λi0=>.sl 3 (λi1=>.rat (colA A L i0 i1)) m) g),(wI (g:=g) zo),g+1,(rf m),(leS (λi0=>iN (L i0)) m),(rf 0),(rf 0),(rf m),(leS (λi0=>iN (L i0)) m),(rf (m:Int)),zo,(rf m),(leS (mE A N) m),(rf (N:Int)),(rf m),(leS (λi0=>.rat (Bv i0)) m),(rf N),(leS (λi0=>.rat (Cs i0)) N),(rf (n:Int)),(rf m),(leS (λi0=>iZ (Lf i0)) m),zo,(leS (λi0=>.sl 3 (λi1=>.rat (colA A L i0 i1)) m) (g+1)),zo,zo⟩,λhc33=>have hc33:=dF hc33;have hi2:g=m:=zo;⟨(rf m),(leS (λi0=>iN (L i0)) m),(rf 0),hi2,(leS (λi0=>.sl 3 (λi1=>.rat (colA A L i0 i1)) m) g),(rf m),(leS (mE A N) m),(rf (N:Int)),(rf m),(leS (λi0=>.rat (Bv i0)) m),(rf N),(leS (λi0=>.rat (Cs i0)) N),(rf (n:Int)),(rf m),(leS (λi0=>iZ (Lf i0)) m),(sBNew (C:=(colA A L)) (e:=noE) zo hK.hD hK.ok),(rf m),(λj0 hj0=>⟨rfl,(λj1 hj1=>rfl)⟩),rfl,(sClone (a:=(λi=>(L i:Int))) zo),(sBSolve (D:=(trM (colA A L))) (C:=(colA A L)) (e:=noE) (m:=0) (n:=m) (v:=Bv) zo hK.ok hK.hD hK.H hK.w zd hB (hK.x hm hB)),(rf (.one (bV 2 3 (luS m (trM (colA A L)) m) m):Hl)),(rf (cC (colA A L) m:Hl)),(rf (.one (eE noE m 0):Hl)),(rf 1),(rf 0),(rf m),(leS (λi0=>.rat (Bv i0)) m),(rf 0),rfl,(rf m),(leS (mE A N) m),(rf (N:Int)),(rf m),(leS (λi0=>.rat (Bv i0)) m),(rf N),(leS (λi0=>.rat (Cs i0)) N),(rf (n:Int)),(rf m),(leS (λi0=>iZ (Lf i0)) m),(rf 0),(rf 0),(rf m),(leS (λi0=>.rat ((zK (basX m (trM (colA A L)) Bv) noE 0) i0)) m),(rf m),(leS (λi0=>iN (L i0)) m),(rf 0),(rf m),(leS (mE (luS m (trM (colA A L)) m).2.1 m) m),(rf m),(leS (mE ((luS m (trM (colA A L)) m).1) m) m),(rf m),(leS (λi0=>iN ((luS m (trM (colA A L)) m).2.2.1 i0)) m),(rf ((luS m (trM (colA A L)) m).2.2.2.2:Bool)),(rf 0),(rf m),(leS (mE (colA A L) m) m),(rf 0),(leS (λi0=>.agg (c2 (iN ((noE i0).1)) (vE (noE i0).2 m))) 0)⟩⟩⟩
open Go.RowKit
theorem CallOKm.tag2 [Fz]{P:Program}{f:FuncId}{T:TypeId}{a a':SV}{ins outs:List Hl}{A:List SV}{R:SV}{b:Nat}{c0 c1 d0 d1:Hl}(h:CallOKm P f (c0::c1::.one (.var T a)::ins) A R (d0::d1::.one (.var T a')::outs)):CallOKm P f (c0::c1::.one (.var T a (some b))::ins) A R (d0::d1::.one (.var T a' (some b))::outs):=by
 refine⟨h.cal,λη0 M F w vals H hA=>?_⟩
 obtain⟨H1,hv1⟩:=H.retell (own':=zM 0 (c0::c1::.one (.var T a)::ins)) (λk i o' hk=>by
  rw[xW] at hk⊢
  match k,hk with
  | 0,hk=>exact⟨o',hk,λ_ _ _ h=>h⟩
  | 1,hk=>exact⟨o',hk,λ_ _ _ h=>h⟩
  | 2,hk=>
   cases i with
   | zero=>
    obtain rfl:=Option.some.inj hk
    exact⟨_,rfl,λA h e ⟨b1,v,e1,e2,e3,e4,e5⟩=>⟨b1,v,e1,e2,e3,e4,λb0 hb=>by cases hb⟩⟩
   | succ i=>cases hk
  | k+3,hk=>exact⟨o',hk,λ_ _ _ h=>h⟩) (λk i o hk=>by
  rw[xW] at hk⊢
  match k,hk with
  | 0,hk=>exact⟨o,hk⟩
  | 1,hk=>exact⟨o,hk⟩
  | 2,hk=>
   cases i with
   | zero=>exact⟨_,rfl⟩
   | succ i=>cases hk
  | k+3,hk=>exact⟨o,hk⟩) (λk i hk=>by
  rw[xW] at hk⊢
  match k,hk with
  | 0,hk=>exact hk
  | 1,hk=>exact hk
  | 2,hk=>exact hk
  | k+3,hk=>exact hk)
 rw[←hv1] at hA
 refine(h.run η0 M F w vals H1 hA).mono λe w'=>?_
 rintro⟨v,η',rfl,H2,hR,hx⟩
 obtain⟨hd,he,b1,u1,e1,e2,e3,e4,e5⟩:=H.ob 2 0 (.var T a (some b)) rfl
 have hbb:=e5 b rfl
 obtain⟨H3,hv3⟩:=H2.retell (own':=zM 0 (d0::d1::.one (.var T a' (some b))::outs)) (λk i o' hk=>by
  rw[xW] at hk⊢
  match k,hk with
  | 0,hk=>exact⟨o',hk,λ_ _ _ h=>h⟩
  | 1,hk=>exact⟨o',hk,λ_ _ _ h=>h⟩
  | 2,hk=>
   cases i with
   | zero=>
    obtain rfl:=Option.some.inj hk
    refine⟨_,rfl,λA h eh ⟨b2,v2,q1,q2,q3,q4,q5⟩=>⟨b2,v2,q1,q2,q3,q4,λb0 hb=>?_⟩⟩
    have h6:=hx 2 zs 0 h eh
    rw[he] at h6
    have h7:=(Option.some.inj h6).symm
    rw[q1,e1] at h7
    have h8:b2=b1:=by injection h7 with h7;injection h7 with h7;injection h7
    obtain rfl:=Option.some.inj hb
    rw[h8,hbb]
   | succ i=>cases hk
  | k+3,hk=>exact⟨o',hk,λ_ _ _ h=>h⟩) (λk i o hk=>by
  rw[xW] at hk⊢
  match k,hk with
  | 0,hk=>exact⟨o,hk⟩
  | 1,hk=>exact⟨o,hk⟩
  | 2,hk=>
   cases i with
   | zero=>exact⟨_,rfl⟩
   | succ i=>cases hk
  | k+3,hk=>exact⟨o,hk⟩) (λk i hk=>by
  rw[xW] at hk⊢
  match k,hk with
  | 0,hk=>exact hk
  | 1,hk=>exact hk
  | 2,hk=>exact hk
  | k+3,hk=>exact hk)
 exact⟨v,η',rfl,H3,by rw[hv3];exact hR,λk hk=>hx k (by simpa using hk)⟩
open Go.RowKit
structure TabS where
 A:Nat->Nat->Rat
 Bv:Nat->Rat
 Cs:Nat->Rat
 Lf:Nat->Int
 n:Nat
 N:Nat
 m:Nat
 L:Nat->Nat
 b:BS
def TabS.x (s:TabS) (v:Nat->Rat):Nat->Rat:=zK (basX s.m s.b.D v) s.b.e s.b.m
def TabS.X (s:TabS):Nat->Rat:=s.x s.Bv
def TabS.y (s:TabS) (v:Nat->Rat):Nat->Rat:=basY s.m s.b.D (yF s.m s.b.m v s.b.e s.b.m)
abbrev stT (s:TabS):SV:=.agg (.cn (.agg (.cn (.sl 1 (mE s.A s.N) s.m) (.cn (iN (s.N)) .nl))) (.cn (.sl 3 (λi=>.rat (s.Bv i)) s.m) (.cn (.sl 3 (λi=>.rat (s.Cs i)) s.N) (.cn (iN (s.n)) (.cn (.sl 1 (λi=>iZ (s.Lf i)) s.m) .nl)))))
abbrev tbV (s:TabS) (a b:Nat) (t:Option Nat:=none):Hl:=.one (.var 126 (.agg (.cn (stT s) (.cn (.own a 0) (.cn (.own b 0) (.cn (.sl 3 (λi=>.rat (s.X i)) s.m) .nl))))) t)
abbrev tbL (s:TabS):Hl:=.one (.row 3 1 (λi=>iN (s.L i)) s.m)
abbrev tbB (s:TabS) (a b:Nat) (t:Option Nat:=none):Hl:=.one (.var 164 (.agg (.cn (.own a 0) (.cn (.ep (lvE (luS s.m s.b.D s.m) s.m)) (.cn (.own b 0) .nl)))) t)
abbrev tbC (s:TabS):Hl:=cC s.b.C s.m
abbrev tbE (s:TabS):Hl:=.one (eE s.b.e s.m s.b.m)
abbrev tabI (s:TabS):List Hl:=[tbV s 1 2,tbL s,tbB s 3 4,tbC s,tbE s]
abbrev tabO (s:TabS):List Hl:=[tbV s 5 2,.dead,tbB s 6 7,.dead,.dead,tbL s,tbC s,tbE s]
abbrev tq1 (s:TabS) {R:Prop} (r:R):=And.intro (rf (s.m:Nat)) (And.intro (leS (mE s.A s.N) s.m) (And.intro (rf ((s.N:Nat):Int)) (And.intro (rf (s.m:Nat)) (And.intro (leS (λi0=>.rat (s.Bv i0)) s.m) (And.intro (rf (s.N:Nat)) (And.intro (leS (λi0=>.rat (s.Cs i0)) s.N) (And.intro (rf ((s.n:Nat):Int)) (And.intro (rf (s.m:Nat)) (And.intro (leS (λi0=>iZ (s.Lf i0)) s.m) r)))))))))
abbrev tq2 (s:TabS) {R:Prop} (r:R):=And.intro (rf 0) (And.intro (rf 0) (And.intro (rf (s.m:Nat)) (And.intro (leS (λi0=>.rat (s.X i0)) s.m) (And.intro (rf (s.m:Nat)) (And.intro (leS (λi0=>iN (s.L i0)) s.m) r)))))
abbrev tq3 (s:TabS) {R:Prop} (r:R):=And.intro (rf 0) (And.intro (rf (s.m:Nat)) (And.intro (leS (mE (luS s.m s.b.D s.m).2.1 s.m) s.m) (And.intro (rf (s.m:Nat)) (And.intro (leS (mE ((luS s.m s.b.D s.m).1) s.m) s.m) (And.intro (rf (s.m:Nat)) (And.intro (leS (λi0=>iN ((luS s.m s.b.D s.m).2.2.1 i0)) s.m) (And.intro (rf ((luS s.m s.b.D s.m).2.2.2.2:Bool)) (And.intro (rf 0) (And.intro (rf (s.m:Nat)) (And.intro (leS (mE s.b.C s.m) s.m) (And.intro (rf (s.b.m:Nat)) (And.intro (leS (λi0=>.agg (.cn (iN ((s.b.e i0).1)) (.cn (vE (s.b.e i0).2 s.m) .nl))) s.b.m) r))))))))))))
def cLq (c:Nat->Rat) (L:Nat->Nat) (k:Nat):Rat:=c (L k)
def uQ (k i:Nat):Rat:=if i=k then 1 else 0
def putL (L:Nat->Nat) (k j i:Nat):Nat:=if i=k then j else L i
theorem putL_at{L:Nat->Nat}{k j:Nat}:putL L k j k=j:=if_pos rfl
theorem putL_ne{L:Nat->Nat}{k j i:Nat}(h:i≠k):putL L k j i=L i:=if_neg h
def TabS.put (s:TabS) (k j:Nat):TabS:={s with L:=putL s.L k j,b:=repS s.m s.b (k:Int) (λr=>s.A r j) s.m}
structure TOK (s:TabS):Prop where
 hm:s.m<=5
 hN:s.N<=24
 hK:BSK s.m s.b
 hL:∀k,k<s.m->s.L k<s.N
 hd:∀k,k<s.m->∀i,i<k->s.L i≠s.L k
 hC:∀k,k<s.m->∀r,r<s.m->s.b.C k r=s.A r (s.L k)
 hA:∀r,r<s.m->∀c,c<s.N->htq (s.A r c)<=2
 hB:∀r,r<s.m->htq (s.Bv r)<=2
section
variable {s:TabS} {y c:Nat->Rat}
theorem TOK.hx(h:TOK s){v:Nat->Rat}(hv:∀j,j<s.m->htq (v j)<=3):∀t,t<=s.b.m->∀j,j<s.m->htq (zK (basX s.m s.b.D v) s.b.e t j)<=4000:=h.hK.x h.hm hv
theorem TOK.xh(h:TOK s){v:Nat->Rat}(hv:∀j,j<s.m->htq (v j)<=3){j:Nat}(hj:j<s.m):htq (s.x v j)<=4000:=h.hx hv _ (Nat.le_refl _) j hj
theorem TOK.yh(h:TOK s){v:Nat->Rat}(hv:∀j,j<s.m->htq (v j)<=3){j:Nat}(hj:j<s.m):htq (s.y v j)<=4000:=Nat.le_trans (h.hK.y h.hm hv j hj) zd
theorem TOK.B3(h:TOK s):∀j,j<s.m->htq (s.Bv j)<=3:=λj hj=>Nat.le_trans (h.hB j hj) zd
theorem TOK.cL3(h:TOK s)(hc:∀j,j<s.N->htq (c j)<=3):∀j,j<s.m->htq (cLq c s.L j)<=3:=λj hj=>hc _ (h.hL j hj)
theorem u_ht(k i:Nat):htq (uQ k i)<=3:=by
 unfold uQ
 split
 ·decide+kernel
 ·decide+kernel
theorem dot_room{a b:Nat->Rat}{m:Nat}(hm:m<=64)(ha:∀i,i<m->htq (a i)<=25000)(hb:∀i,i<m->htq (b i)<=25000):∀i,i<m->szq (a i)+szq (b i)<=17179869184/\szq (dotQ a b i)+szq (a i*b i)<=17179869184:=λi hi=>by
 have h1:=ht_dot i (λt ht=>ha t zo) (λt ht=>hb t zo)
 have h2:=uG (a i) (b i)
 have h3:=xP (dotQ a b i)
 have h4:=xP (a i*b i)
 have h5:=xP (a i)
 have h6:=xP (b i)
 have h7:=ha i hi
 have h8:=hb i hi
 have h9:i*(25000+25000+1)<=64*(25000+25000+1):=Nat.mul_le_mul_right _ zo
 omega
theorem TOK.byR(h:TOK s)(hy:∀j,j<s.m->htq (y j)<=4000):∀t,t<s.m->∀i,i<s.N->szq (y t)+szq (s.A t i)<=17179869184/\szq (dotQ y (λr=>s.A r i) t)+szq (y t*s.A t i)<=17179869184:=λt ht i hi=>
 dot_room (b:=λr=>s.A r i) (by have:=h.hm;omega) (λj hj=>Nat.le_trans (hy j hj) zd) (λj hj=>Nat.le_trans (h.hA j hj i hi) zd) t ht
theorem TOK.byH(h:TOK s)(hy:∀j,j<s.m->htq (y j)<=4000){i:Nat}(hi:i<s.N):htq (dotQ y (λr=>s.A r i) s.m)<=24000:=by
 have h1:=ht_dot (b:=λr=>s.A r i) s.m hy (λt ht=>h.hA t ht i hi)
 have h2:s.m*(4000+2+1)<=5*(4000+2+1):=Nat.mul_le_mul_right _ h.hm
 omega
theorem sub_room{a b:Rat}(ha:htq a<=25000)(hb:htq b<=25000):szq ((-1:Int):Rat)+szq b<=17179869184/\szq a+szq (((-1:Int):Rat)*b)<=17179869184:=by
 have h1:szq ((-1:Int):Rat)<=2:=by decide+kernel
 have h2:=uG ((-1:Int):Rat) b
 have h3:htq ((-1:Int):Rat)<=1:=by decide+kernel
 have h4:=xP a
 have h5:=xP b
 have h6:=xP (((-1:Int):Rat)*b)
 omega
end
end Go.Proofs.YtjhfkgpjcdbjaaaGreatDoor
