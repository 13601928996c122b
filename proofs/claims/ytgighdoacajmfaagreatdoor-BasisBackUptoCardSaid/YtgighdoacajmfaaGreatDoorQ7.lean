/- The parts Err, Err2, BA, BS, BF, BE, BN, BR, BP, BQ, BT, BG, BL, BM, BO, BW, BK, Row, SO, SO2. -/
import Derived.Test.YtgighdoacajmfaaGreatDoorQ6
set_option maxRecDepth 100000
namespace Go.Proofs.YtgighdoacajmfaaGreatDoor
open Go.RowKit Go.Extern.Stop Go.Stop Go.Extern
namespace Er
theorem rlm(z:Sem Value)(f:TypeId→Addr→Nat→Nat→Sem Value)(v:Value):
  ReflectliteValue.method z f #[v]=(do match←ReflectliteValue.parts v with | none=>z | some (t,a,fl)=>f t a fl (fl%32)):=rfl
theorem rls(v x:Value):ReflectliteValue.set #[v,x]=(do
  let (some (dst,a,fl),some (src,b,_)):=(←ReflectliteValue.parts v,←ReflectliteValue.parts x)
   | unsupported (.noEntry "extern/(internal/reflectlite.Value).Set.zeroValue")
  if fl/ReflectliteValue.flagAddr%2==0 then unsupported (.noEntry "extern/(internal/reflectlite.Value).Set.unaddressable")
  let val←loadVar src b
  if←Rtype.directlyAssignable dst src then storeVar dst a val
  else if←Rtype.implements dst src then
   if(←Rtype.kind src)==20 then
    match val with
    | .nilIface=>unsupported (.noEntry "extern/reflectlite: a nil value of one interface type handed on as a value of another")
    | _=>storeVar dst a val
   else storeVar dst a (.iface src val)
  else panicString ("reflectlite.Set: value of type " ++(←Rtype.spelt src)++ " is not assignable to type " ++(←Rtype.spelt dst))
  pure (.tuple #[])):=rfl
theorem methodKind(h:Value)(w:World):(Go.method 377 169 (.agg #[h]) "Kind").run Tryz.prog w=.ok (199,h) w:=by kernel_rfl
theorem methodElem(h:Value)(w:World):(Go.method 377 169 (.agg #[h]) "Elem").run Tryz.prog w=.ok (215,.agg #[h]) w:=by kernel_rfl
theorem methodImplements(h:Value)(w:World):(Go.method 377 169 (.agg #[h]) "Implements").run Tryz.prog w=.ok (216,.agg #[h]) w:=by kernel_rfl
theorem methodAssignableTo(h:Value)(w:World):(Go.method 377 169 (.agg #[h]) "AssignableTo").run Tryz.prog w=.ok (213,.agg #[h]) w:=by kernel_rfl
theorem valueOfTF(t:Addr)(w:World):(ReflectliteValue.unpack (.iface 115 (.pointer (some t)))).run Tryz.prog w
  =.ok (.agg #[.pointer (some ⟨1,115,none⟩),.pointer (some ⟨w.heap.size,0,none⟩),.int .u64 150]) (w.alloc (.cells #[.pointer (some t)] 115)):=by kernel_rfl
theorem typeTF(a:Addr)(w:World):(ReflectliteValue.methodAny (ReflectliteValue.valueError "reflectlite.Value.Type" 0) (fun t _ _ _=>ReflectliteType.toType t) #[.agg #[.pointer (some ⟨1,115,none⟩),.pointer (some a),.int .u64 150]]).run Tryz.prog w=.ok (.iface 169 (.agg #[.pointer (some ⟨1,115,none⟩)])) w:=by kernel_rfl
theorem kindTF(w:World):((ReflectliteType.abiMethod fun t=>(fun a:Nat=>Value.int IntKind.u8 (a:Int))<$>Rtype.kind t) #[.pointer (some ⟨1,115,none⟩)]).run Tryz.prog w=.ok (.int .u8 22) w:=by kernel_rfl
theorem kindF(w:World):((ReflectliteType.abiMethod fun t=>(fun a:Nat=>Value.int IntKind.u8 (a:Int))<$>Rtype.kind t) #[.pointer (some ⟨1,113,none⟩)]).run Tryz.prog w=.ok (.int .u8 22) w:=by kernel_rfl
theorem partsTF(a:Addr)(w:World):(ReflectliteValue.parts (.agg #[.pointer (some ⟨1,115,none⟩),.pointer (some a),.int .u64 150])).run Tryz.prog w=.ok (some (115,a,150)) w:=by kernel_rfl
theorem isNilTF(a p:Addr)(W:World)(ha:W.cell? a=some (.pointer (some p))):
  (ReflectliteValue.method (ReflectliteValue.valueError "reflectlite.Value.IsNil" 0) ReflectliteValue.isNil #[.agg #[.pointer (some ⟨1,115,none⟩),.pointer (some a),.int .u64 150]]).run Tryz.prog W=.ok (.bool false) W:=by
 rw[rlm]
 simp only[Sem.run_bind,partsTF,Result.andThen]
 simp[ReflectliteValue.isNil,loadVar,isAgg,underlying,Tryz.underlying115,ha,Result.andThen]
theorem elemTF(w:World):(ReflectliteType.method ReflectliteType.elem #[.agg #[.pointer (some ⟨1,115,none⟩)]]).run Tryz.prog w=.ok (.iface 169 (.agg #[.pointer (some ⟨1,113,none⟩)])) w:=by kernel_rfl
theorem implementsF(w:World):(ReflectliteType.relation "Implements" ReflectliteType.implements_ #[.agg #[.pointer (some ⟨1,113,none⟩)],.iface 169 (.agg #[.pointer (some ⟨1,37,none⟩)])]).run Tryz.prog w=.ok (.bool true) w:=by kernel_rfl
theorem typeOfF(v:Value)(w:World):(ReflectliteType.typeOf #[.iface 113 v]).run Tryz.prog w=.ok (.iface 169 (.agg #[.pointer (some ⟨1,113,none⟩)])) w:=by kernel_rfl
theorem assignableFF(w:World):(ReflectliteType.relation "AssignableTo" ReflectliteType.assignableTo #[.agg #[.pointer (some ⟨1,113,none⟩)],.iface 169 (.agg #[.pointer (some ⟨1,113,none⟩)])]).run Tryz.prog w=.ok (.bool true) w:=by kernel_rfl
theorem assignableEF(w:World):(ReflectliteType.relation "AssignableTo" ReflectliteType.assignableTo #[.agg #[.pointer (some ⟨1,63,none⟩)],.iface 169 (.agg #[.pointer (some ⟨1,113,none⟩)])]).run Tryz.prog w=.ok (.bool false) w:=by kernel_rfl
theorem valueOfF(e:Addr)(w:World):(ReflectliteValue.unpack (.iface 113 (.pointer (some e)))).run Tryz.prog w
  =.ok (.agg #[.pointer (some ⟨1,113,none⟩),.pointer (some ⟨w.heap.size,0,none⟩),.int .u64 150]) (w.alloc (.cells #[.pointer (some e)] 113)):=by kernel_rfl
theorem elemOfTF(w:World):(Rtype.elem? 115).run Tryz.prog w=.ok (some 113) w:=by kernel_rfl
theorem mkF(p:Addr)(w:World):(ReflectliteValue.mk 113 p ReflectliteValue.flagAddr).run Tryz.prog w=.ok (.agg #[.pointer (some ⟨1,113,none⟩),.pointer (some p),.int .u64 406]) w:=by kernel_rfl
theorem elemVTF(a p:Addr)(W:World)(ha:W.cell? a=some (.pointer (some p))):
  (ReflectliteValue.method (ReflectliteValue.valueError "reflectlite.Value.Elem" 0) ReflectliteValue.elem #[.agg #[.pointer (some ⟨1, 115, none⟩), .pointer (some a), .int .u64 150]]).run Tryz.prog W
   =.ok (.agg #[.pointer (some ⟨1,113,none⟩),.pointer (some p),.int .u64 406]) W:=by
 rw[rlm]
 simp only[Sem.run_bind,partsTF,Result.andThen]
 simp[ReflectliteValue.elem,loadVar,isAgg,underlying,Tryz.underlying115,ha,Result.andThen,elemOfTF,mkF]
theorem partsAF(a:Addr)(w:World):(ReflectliteValue.parts (.agg #[.pointer (some ⟨1,113,none⟩),.pointer (some a),.int .u64 406])).run Tryz.prog w=.ok (some (113,a,406)) w:=by kernel_rfl
theorem partsF(a:Addr)(w:World):(ReflectliteValue.parts (.agg #[.pointer (some ⟨1,113,none⟩),.pointer (some a),.int .u64 150])).run Tryz.prog w=.ok (some (113,a,150)) w:=by kernel_rfl
theorem directF(w:World):(Rtype.directlyAssignable 113 113).run Tryz.prog w=.ok true w:=by kernel_rfl
theorem setF(ta b:Addr)(e:Addr)(old:Value)(W:World)(hb:W.cell? b=some (.pointer (some e)))(ht:W.cell? ta=some old)(hf:W.frozen? ta=false):
  (ReflectliteValue.set #[.agg #[.pointer (some ⟨1, 113, none⟩), .pointer (some ta), .int .u64 406], .agg #[.pointer (some ⟨1, 113, none⟩), .pointer (some b), .int .u64 150]]).run Tryz.prog W
   =.ok (.tuple #[]) (W.setCell ta (.pointer (some e))):=by
 rw[rls]
 simp only[Sem.run_bind,partsAF,partsF,Result.andThen]
 simp[ReflectliteValue.flagAddr,loadVar,isAgg,underlying,Tryz.underlying113,hb,Result.andThen,directF,storeVar,Value.cells,storeCells,Addr.add]
 rw[run_store Tryz.prog W ta _ _ (by rfl)]
 simp[ht,hf]
theorem valueOfTE(t:Addr)(w:World):(ReflectliteValue.unpack (.iface 165 (.pointer (some t)))).run Tryz.prog w
  =.ok (.agg #[.pointer (some ⟨1,165,none⟩),.pointer (some ⟨w.heap.size,0,none⟩),.int .u64 150]) (w.alloc (.cells #[.pointer (some t)] 165)):=by kernel_rfl
theorem typeTE(a:Addr)(w:World):(ReflectliteValue.methodAny (ReflectliteValue.valueError "reflectlite.Value.Type" 0) (fun t _ _ _=>ReflectliteType.toType t) #[.agg #[.pointer (some ⟨1,165,none⟩),.pointer (some a),.int .u64 150]]).run Tryz.prog w=.ok (.iface 169 (.agg #[.pointer (some ⟨1,165,none⟩)])) w:=by kernel_rfl
theorem kindTE(w:World):((ReflectliteType.abiMethod fun t=>(fun a:Nat=>Value.int IntKind.u8 (a:Int))<$>Rtype.kind t) #[.pointer (some ⟨1,165,none⟩)]).run Tryz.prog w=.ok (.int .u8 22) w:=by kernel_rfl
theorem kindE(w:World):((ReflectliteType.abiMethod fun t=>(fun a:Nat=>Value.int IntKind.u8 (a:Int))<$>Rtype.kind t) #[.pointer (some ⟨1,63,none⟩)]).run Tryz.prog w=.ok (.int .u8 2) w:=by kernel_rfl
theorem partsTE(a:Addr)(w:World):(ReflectliteValue.parts (.agg #[.pointer (some ⟨1,165,none⟩),.pointer (some a),.int .u64 150])).run Tryz.prog w=.ok (some (165,a,150)) w:=by kernel_rfl
theorem isNilTE(a p:Addr)(W:World)(ha:W.cell? a=some (.pointer (some p))):
  (ReflectliteValue.method (ReflectliteValue.valueError "reflectlite.Value.IsNil" 0) ReflectliteValue.isNil #[.agg #[.pointer (some ⟨1,165,none⟩),.pointer (some a),.int .u64 150]]).run Tryz.prog W=.ok (.bool false) W:=by
 rw[rlm]
 simp only[Sem.run_bind,partsTE,Result.andThen]
 simp[ReflectliteValue.isNil,loadVar,isAgg,underlying,Tryz.underlying165,ha,Result.andThen]
theorem elemTE(w:World):(ReflectliteType.method ReflectliteType.elem #[.agg #[.pointer (some ⟨1,165,none⟩)]]).run Tryz.prog w=.ok (.iface 169 (.agg #[.pointer (some ⟨1,63,none⟩)])) w:=by kernel_rfl
theorem implementsE(w:World):(ReflectliteType.relation "Implements" ReflectliteType.implements_ #[.agg #[.pointer (some ⟨1,63,none⟩)],.iface 169 (.agg #[.pointer (some ⟨1,37,none⟩)])]).run Tryz.prog w=.ok (.bool true) w:=by kernel_rfl
theorem typeOfE(v:Value)(w:World):(ReflectliteType.typeOf #[.iface 63 v]).run Tryz.prog w=.ok (.iface 169 (.agg #[.pointer (some ⟨1,63,none⟩)])) w:=by kernel_rfl
theorem assignableFE(w:World):(ReflectliteType.relation "AssignableTo" ReflectliteType.assignableTo #[.agg #[.pointer (some ⟨1,113,none⟩)],.iface 169 (.agg #[.pointer (some ⟨1,63,none⟩)])]).run Tryz.prog w=.ok (.bool false) w:=by kernel_rfl
theorem assignableEE(w:World):(ReflectliteType.relation "AssignableTo" ReflectliteType.assignableTo #[.agg #[.pointer (some ⟨1,63,none⟩)],.iface 169 (.agg #[.pointer (some ⟨1,63,none⟩)])]).run Tryz.prog w=.ok (.bool true) w:=by kernel_rfl
theorem valueOfE(n:Int)(w:World):(ReflectliteValue.unpack (.iface 63 (.int .i64 n))).run Tryz.prog w
  =.ok (.agg #[.pointer (some ⟨1,63,none⟩),.pointer (some ⟨w.heap.size,0,none⟩),.int .u64 130]) (w.alloc (.cells #[.int .i64 n] 63)):=by kernel_rfl
theorem elemOfTE(w:World):(Rtype.elem? 165).run Tryz.prog w=.ok (some 63) w:=by kernel_rfl
theorem mkE(p:Addr)(w:World):(ReflectliteValue.mk 63 p ReflectliteValue.flagAddr).run Tryz.prog w=.ok (.agg #[.pointer (some ⟨1,63,none⟩),.pointer (some p),.int .u64 386]) w:=by kernel_rfl
theorem elemVTE(a p:Addr)(W:World)(ha:W.cell? a=some (.pointer (some p))):
  (ReflectliteValue.method (ReflectliteValue.valueError "reflectlite.Value.Elem" 0) ReflectliteValue.elem #[.agg #[.pointer (some ⟨1, 165, none⟩), .pointer (some a), .int .u64 150]]).run Tryz.prog W
   =.ok (.agg #[.pointer (some ⟨1,63,none⟩),.pointer (some p),.int .u64 386]) W:=by
 rw[rlm]
 simp only[Sem.run_bind,partsTE,Result.andThen]
 simp[ReflectliteValue.elem,loadVar,isAgg,underlying,Tryz.underlying165,ha,Result.andThen,elemOfTE,mkE]
theorem partsAE(a:Addr)(w:World):(ReflectliteValue.parts (.agg #[.pointer (some ⟨1,63,none⟩),.pointer (some a),.int .u64 386])).run Tryz.prog w=.ok (some (63,a,386)) w:=by kernel_rfl
theorem partsE(a:Addr)(w:World):(ReflectliteValue.parts (.agg #[.pointer (some ⟨1,63,none⟩),.pointer (some a),.int .u64 130])).run Tryz.prog w=.ok (some (63,a,130)) w:=by kernel_rfl
theorem directE(w:World):(Rtype.directlyAssignable 63 63).run Tryz.prog w=.ok true w:=by kernel_rfl
theorem setE(ta b:Addr)(n:Int)(old:Value)(W:World)(hb:W.cell? b=some (.int .i64 n))(ht:W.cell? ta=some old)(hf:W.frozen? ta=false):
  (ReflectliteValue.set #[.agg #[.pointer (some ⟨1, 63, none⟩), .pointer (some ta), .int .u64 386], .agg #[.pointer (some ⟨1, 63, none⟩), .pointer (some b), .int .u64 130]]).run Tryz.prog W
   =.ok (.tuple #[]) (W.setCell ta (.int .i64 n)):=by
 rw[rls]
 simp only[Sem.run_bind,partsAE,partsE,Result.andThen]
 simp[ReflectliteValue.flagAddr,loadVar,isAgg,underlying,Tryz.underlying63,hb,Result.andThen,directE,storeVar,Value.cells,storeCells,Addr.add]
 rw[run_store Tryz.prog W ta _ _ (by rfl)]
 simp[ht,hf]
theorem noAsF(v:Value)(xT:TypeId)(w:World):(Instr.typeAssert (.iface 113 v) xT 203 true).run Tryz.prog w=.ok (.tuple #[.nilIface,.bool false]) w:=run_typeAssert_lacksB Tryz.underlying203 (by kernel_rfl) (by kernel_rfl) v xT w
theorem hasUnF(v:Value)(xT:TypeId)(w:World):(Instr.typeAssert (.iface 113 v) xT 174 true).run Tryz.prog w=.ok (.tuple #[.iface 113 v,.bool true]) w:=run_typeAssert_hasB Tryz.underlying174 (by kernel_rfl) v xT w
theorem noAsE(v:Value)(xT:TypeId)(w:World):(Instr.typeAssert (.iface 63 v) xT 203 true).run Tryz.prog w=.ok (.tuple #[.nilIface,.bool false]) w:=run_typeAssert_lacksB Tryz.underlying203 (by kernel_rfl) (by kernel_rfl) v xT w
theorem noUnE(v:Value)(xT:TypeId)(w:World):(Instr.typeAssert (.iface 63 v) xT 174 true).run Tryz.prog w=.ok (.tuple #[.nilIface,.bool false]) w:=run_typeAssert_lacksB Tryz.underlying174 (by kernel_rfl) (by kernel_rfl) v xT w
theorem noUnsE(v:Value)(xT:TypeId)(w:World):(Instr.typeAssert (.iface 63 v) xT 176 true).run Tryz.prog w=.ok (.tuple #[.nilIface,.bool false]) w:=run_typeAssert_lacksB Tryz.underlying176 (by kernel_rfl) (by kernel_rfl) v xT w
theorem methodUnwrap(v:Value)(w:World):(Go.method 377 113 v "Unwrap").run Tryz.prog w=.ok (208,v) w:=by kernel_rfl
set_option maxHeartbeats 4000000 in
theorem as_FF(e:Addr)(t:Addr)(old:Value)(w:World)(hg:w.cell? ⟨0,0,none⟩=some (.iface 169 (.agg #[.pointer (some ⟨1,37,none⟩)])))(ht0:w.cell? t=some old)(hf0:w.frozen? t=false):
  Calls Tryz.prog 60 #[.iface 113 (.pointer (some e)),.iface 115 (.pointer (some t))] w fun ev w'=>ev=.returned (.bool true)∧w'=((((w.alloc (.cells #[.pointer (some t)] 115)).alloc (.cells #[.pointer (some ⟨1,115,none⟩),.pointer (some ⟨w.heap.size,0,none⟩),.int .u64 150] 158)).alloc (.cells #[.pointer (some ⟨1,115,none⟩),.pointer (some ⟨w.heap.size,0,none⟩),.int .u64 150] 158)).alloc (.cells #[.pointer (some e)] 113)).setCell t (.pointer (some e)):=by
 have hVO:=@run_callFunc_extern Tryz.prog 98 _ (fun args=>ReflectliteValue.unpack (args.getD 0 (.tuple #[]))) Tryz.func98 (by kernel_rfl) (by kernel_rfl) (by kernel_rfl) (by kernel_rfl)
 have hTy:=@run_callFunc_extern Tryz.prog 99 _ (ReflectliteValue.methodAny (ReflectliteValue.valueError "reflectlite.Value.Type" 0) (fun t _ _ _=>ReflectliteType.toType t)) Tryz.func99 (by kernel_rfl) (by kernel_rfl) (by kernel_rfl) (by kernel_rfl)
 have hIN:=@run_callFunc_extern Tryz.prog 100 _ (ReflectliteValue.method (ReflectliteValue.valueError "reflectlite.Value.IsNil" 0) ReflectliteValue.isNil) Tryz.func100 (by kernel_rfl) (by kernel_rfl) (by kernel_rfl) (by kernel_rfl)
 have hKi:=@run_callFunc_extern Tryz.prog 199 _ (ReflectliteType.abiMethod fun t=>do pure (.int .u8 (←Rtype.kind t))) Tryz.func199 (by kernel_rfl) (by kernel_rfl) (by kernel_rfl) (by kernel_rfl)
 have hEl:=@run_callFunc_extern Tryz.prog 215 _ (ReflectliteType.method ReflectliteType.elem) Tryz.func215 (by kernel_rfl) (by kernel_rfl) (by kernel_rfl) (by kernel_rfl)
 have hIm:=@run_callFunc_extern Tryz.prog 216 _ (ReflectliteType.relation "Implements" ReflectliteType.implements_) Tryz.func216 (by kernel_rfl) (by kernel_rfl) (by kernel_rfl) (by kernel_rfl)
 have hTO:=@run_callFunc_extern Tryz.prog 67 _ ReflectliteType.typeOf Tryz.func67 (by kernel_rfl) (by kernel_rfl) (by kernel_rfl) (by kernel_rfl)
 have hAT:=@run_callFunc_extern Tryz.prog 213 _ (ReflectliteType.relation "AssignableTo" ReflectliteType.assignableTo) Tryz.func213 (by kernel_rfl) (by kernel_rfl) (by kernel_rfl) (by kernel_rfl)
 have hEV:=@run_callFunc_extern Tryz.prog 134 _ (ReflectliteValue.method (ReflectliteValue.valueError "reflectlite.Value.Elem" 0) ReflectliteValue.elem) Tryz.func134 (by kernel_rfl) (by kernel_rfl) (by kernel_rfl) (by kernel_rfl)
 have hSe:=@run_callFunc_extern Tryz.prog 135 _ ReflectliteValue.set Tryz.func135 (by kernel_rfl) (by kernel_rfl) (by kernel_rfl) (by kernel_rfl)
 have xvalueOfTF:=valueOfTF
 have xtypeTF:=typeTF
 have xmethodKind:=methodKind
 have xmethodElem:=methodElem
 have xmethodImplements:=methodImplements
 have xmethodAssignableTo:=methodAssignableTo
 have xkindTF:=kindTF
 have xkindF:=kindF
 have xelemTF:=elemTF
 have ximplementsF:=implementsF
 have xvalueOfF:=valueOfF
 have xtypeOfF:=typeOfF
 have xassignableFF:=assignableFF
 have xnoAsF:=noAsF
 have xhasUnF:=hasUnF
 have xtypeOfE:=typeOfE
 have xassignableEF:=assignableEF
 have xnoAsE:=noAsE
 have xnoUnE:=noUnE
 have xnoUnsE:=noUnsE
 have n8:=isNilTF ⟨w.heap.size,0,none⟩ t ((w.alloc (.cells #[.pointer (some t)] 115)).alloc (.cells #[.pointer (some ⟨1,115,none⟩),.pointer (some ⟨w.heap.size,0,none⟩),.int .u64 150] 158)) (by simp)
 have hlt:0<w.heap.size:=by
  rcases Nat.eq_zero_or_pos w.heap.size with h0 | h
  ·simp[World.cell?,h0] at hg
  ·exact h
 have hg2:((w.alloc (.cells #[.pointer (some t)] 115)).alloc (.cells #[.pointer (some ⟨1,115,none⟩),.pointer (some ⟨w.heap.size,0,none⟩),.int .u64 150] 158)).cell? ⟨0,0,none⟩=some (.iface 169 (.agg #[.pointer (some ⟨1,37,none⟩)])):=by
  rw[World.cell?_alloc_lt _ _ ⟨0,0,none⟩ (by simp),World.cell?_alloc_lt _ _ ⟨0,0,none⟩ hlt];exact hg
 have htl:t.block<w.heap.size:=by
  rcases Nat.lt_or_ge t.block w.heap.size with h | h
  ·exact h
  ·simp[World.cell?,Array.getElem?_eq_none h] at ht0
 have el:=elemVTF ⟨w.heap.size,0,none⟩ t (((w.alloc (.cells #[.pointer (some t)] 115)).alloc (.cells #[.pointer (some ⟨1,115,none⟩),.pointer (some ⟨w.heap.size,0,none⟩),.int .u64 150] 158)).alloc (.cells #[.pointer (some ⟨1,115,none⟩),.pointer (some ⟨w.heap.size,0,none⟩),.int .u64 150] 158)) (by rw[World.cell?_alloc_lt _ _ ⟨w.heap.size,0,none⟩ (by simp;omega)];simp)
 have st:=setF t ⟨w.heap.size+1+1+1,0,none⟩ e old (((((w.alloc (.cells #[.pointer (some t)] 115)).alloc (.cells #[.pointer (some ⟨1,115,none⟩),.pointer (some ⟨w.heap.size,0,none⟩),.int .u64 150] 158)).alloc (.cells #[.pointer (some ⟨1,115,none⟩),.pointer (some ⟨w.heap.size,0,none⟩),.int .u64 150] 158)).alloc (.cells #[.pointer (some e)] 113)))
  (by rw[World.cell?_alloc_at _ _ _ _ (by simp)];rfl)
  (by rw[World.cell?_alloc_lt _ _ t (by simp;omega),World.cell?_alloc_lt _ _ t (by simp;omega),World.cell?_alloc_lt _ _ t (by simp;omega),World.cell?_alloc_lt _ _ t htl];exact ht0)
  (by rw[World.frozen?_alloc_old _ _ t (by simp;omega),World.frozen?_alloc_old _ _ t (by simp;omega),World.frozen?_alloc_old _ _ t (by simp;omega),World.frozen?_alloc_old _ _ t (Nat.ne_of_lt htl)];exact hf0)
 go_enter Tryz.func60,Tryz.ntmps60
 go_wp2
 refine wp_loop_rounds 1 ?_
 rw[rounds_succ]
 go_wp2
 go_ret
 exact⟨rfl,rfl⟩
set_option maxHeartbeats 4000000 in
theorem as_FE(n:Int)(g o:Nat)(t:Addr)(old:Value)(w:World)(hg:w.cell? ⟨0,0,none⟩=some (.iface 169 (.agg #[.pointer (some ⟨1,37,none⟩)])))(ht0:w.cell? t=some old)(hf0:w.frozen? t=false)(he:w.cell? ⟨g,o+2,none⟩=some (.iface 63 (.int .i64 n))):
  Calls Tryz.prog 60 #[.iface 113 (.pointer (some ⟨g,o,none⟩)),.iface 165 (.pointer (some t))] w fun ev w'=>ev=.returned (.bool true)∧w'=((((w.alloc (.cells #[.pointer (some t)] 165)).alloc (.cells #[.pointer (some ⟨1,165,none⟩),.pointer (some ⟨w.heap.size,0,none⟩),.int .u64 150] 158)).alloc (.cells #[.pointer (some ⟨1,165,none⟩),.pointer (some ⟨w.heap.size,0,none⟩),.int .u64 150] 158)).alloc (.cells #[.int .i64 n] 63)).setCell t (.int .i64 n):=by
 have hVO:=@run_callFunc_extern Tryz.prog 98 _ (fun args=>ReflectliteValue.unpack (args.getD 0 (.tuple #[]))) Tryz.func98 (by kernel_rfl) (by kernel_rfl) (by kernel_rfl) (by kernel_rfl)
 have hTy:=@run_callFunc_extern Tryz.prog 99 _ (ReflectliteValue.methodAny (ReflectliteValue.valueError "reflectlite.Value.Type" 0) (fun t _ _ _=>ReflectliteType.toType t)) Tryz.func99 (by kernel_rfl) (by kernel_rfl) (by kernel_rfl) (by kernel_rfl)
 have hIN:=@run_callFunc_extern Tryz.prog 100 _ (ReflectliteValue.method (ReflectliteValue.valueError "reflectlite.Value.IsNil" 0) ReflectliteValue.isNil) Tryz.func100 (by kernel_rfl) (by kernel_rfl) (by kernel_rfl) (by kernel_rfl)
 have hKi:=@run_callFunc_extern Tryz.prog 199 _ (ReflectliteType.abiMethod fun t=>do pure (.int .u8 (←Rtype.kind t))) Tryz.func199 (by kernel_rfl) (by kernel_rfl) (by kernel_rfl) (by kernel_rfl)
 have hEl:=@run_callFunc_extern Tryz.prog 215 _ (ReflectliteType.method ReflectliteType.elem) Tryz.func215 (by kernel_rfl) (by kernel_rfl) (by kernel_rfl) (by kernel_rfl)
 have hIm:=@run_callFunc_extern Tryz.prog 216 _ (ReflectliteType.relation "Implements" ReflectliteType.implements_) Tryz.func216 (by kernel_rfl) (by kernel_rfl) (by kernel_rfl) (by kernel_rfl)
 have hTO:=@run_callFunc_extern Tryz.prog 67 _ ReflectliteType.typeOf Tryz.func67 (by kernel_rfl) (by kernel_rfl) (by kernel_rfl) (by kernel_rfl)
 have hAT:=@run_callFunc_extern Tryz.prog 213 _ (ReflectliteType.relation "AssignableTo" ReflectliteType.assignableTo) Tryz.func213 (by kernel_rfl) (by kernel_rfl) (by kernel_rfl) (by kernel_rfl)
 have hEV:=@run_callFunc_extern Tryz.prog 134 _ (ReflectliteValue.method (ReflectliteValue.valueError "reflectlite.Value.Elem" 0) ReflectliteValue.elem) Tryz.func134 (by kernel_rfl) (by kernel_rfl) (by kernel_rfl) (by kernel_rfl)
 have hSe:=@run_callFunc_extern Tryz.prog 135 _ ReflectliteValue.set Tryz.func135 (by kernel_rfl) (by kernel_rfl) (by kernel_rfl) (by kernel_rfl)
 have xvalueOfTE:=valueOfTE
 have xtypeTE:=typeTE
 have xmethodKind:=methodKind
 have xmethodElem:=methodElem
 have xmethodImplements:=methodImplements
 have xmethodAssignableTo:=methodAssignableTo
 have xkindTE:=kindTE
 have xkindE:=kindE
 have xelemTE:=elemTE
 have ximplementsE:=implementsE
 have xvalueOfE:=valueOfE
 have xtypeOfF:=typeOfF
 have xassignableFE:=assignableFE
 have xnoAsF:=noAsF
 have xhasUnF:=hasUnF
 have xtypeOfE:=typeOfE
 have xassignableEE:=assignableEE
 have xnoAsE:=noAsE
 have xnoUnE:=noUnE
 have xnoUnsE:=noUnsE
 have xmethodUnwrap:=methodUnwrap
 have n8:=isNilTE ⟨w.heap.size,0,none⟩ t ((w.alloc (.cells #[.pointer (some t)] 165)).alloc (.cells #[.pointer (some ⟨1,165,none⟩),.pointer (some ⟨w.heap.size,0,none⟩),.int .u64 150] 158)) (by simp)
 have hlt:0<w.heap.size:=by
  rcases Nat.eq_zero_or_pos w.heap.size with h0 | h
  ·simp[World.cell?,h0] at hg
  ·exact h
 have hg2:((w.alloc (.cells #[.pointer (some t)] 165)).alloc (.cells #[.pointer (some ⟨1,165,none⟩),.pointer (some ⟨w.heap.size,0,none⟩),.int .u64 150] 158)).cell? ⟨0,0,none⟩=some (.iface 169 (.agg #[.pointer (some ⟨1,37,none⟩)])):=by
  rw[World.cell?_alloc_lt _ _ ⟨0,0,none⟩ (by simp),World.cell?_alloc_lt _ _ ⟨0,0,none⟩ hlt];exact hg
 have htl:t.block<w.heap.size:=by
  rcases Nat.lt_or_ge t.block w.heap.size with h | h
  ·exact h
  ·simp[World.cell?,Array.getElem?_eq_none h] at ht0
 have el:=elemVTE ⟨w.heap.size,0,none⟩ t (((w.alloc (.cells #[.pointer (some t)] 165)).alloc (.cells #[.pointer (some ⟨1,165,none⟩),.pointer (some ⟨w.heap.size,0,none⟩),.int .u64 150] 158)).alloc (.cells #[.pointer (some ⟨1,165,none⟩),.pointer (some ⟨w.heap.size,0,none⟩),.int .u64 150] 158)) (by rw[World.cell?_alloc_lt _ _ ⟨w.heap.size,0,none⟩ (by simp;omega)];simp)
 have st:=setE t ⟨w.heap.size+1+1+1,0,none⟩ n old (((((w.alloc (.cells #[.pointer (some t)] 165)).alloc (.cells #[.pointer (some ⟨1,165,none⟩),.pointer (some ⟨w.heap.size,0,none⟩),.int .u64 150] 158)).alloc (.cells #[.pointer (some ⟨1,165,none⟩),.pointer (some ⟨w.heap.size,0,none⟩),.int .u64 150] 158)).alloc (.cells #[.int .i64 n] 63)))
  (by rw[World.cell?_alloc_at _ _ _ _ (by simp)];rfl)
  (by rw[World.cell?_alloc_lt _ _ t (by simp;omega),World.cell?_alloc_lt _ _ t (by simp;omega),World.cell?_alloc_lt _ _ t (by simp;omega),World.cell?_alloc_lt _ _ t htl];exact ht0)
  (by rw[World.frozen?_alloc_old _ _ t (by simp;omega),World.frozen?_alloc_old _ _ t (by simp;omega),World.frozen?_alloc_old _ _ t (by simp;omega),World.frozen?_alloc_old _ _ t (Nat.ne_of_lt htl)];exact hf0)
 have xmethodUnwrap:=methodUnwrap
 have hgl:g<w.heap.size:=by
  rcases Nat.lt_or_ge g w.heap.size with h | h
  ·exact h
  ·simp[World.cell?,Array.getElem?_eq_none h] at he
 have he2:(((w.alloc (.cells #[.pointer (some t)] 165)).alloc (.cells #[.pointer (some ⟨1,165,none⟩),.pointer (some ⟨w.heap.size,0,none⟩),.int .u64 150] 158)).alloc (.cells #[.pointer (some ⟨1,165,none⟩),.pointer (some ⟨w.heap.size,0,none⟩),.int .u64 150] 158)).cell? ⟨g,o+2,none⟩=some (.iface 63 (.int .i64 n)):=by
  rw[World.cell?_alloc_lt _ _ ⟨g,o+2,none⟩ (by simp;omega),World.cell?_alloc_lt _ _ ⟨g,o+2,none⟩ (by simp;omega),World.cell?_alloc_lt _ _ ⟨g,o+2,none⟩ hgl];exact he
 go_enter Tryz.func60,Tryz.ntmps60
 go_wp2
 refine wp_loop_rounds 2 ?_
 rw[rounds_succ]
 go_wp2
 rw[rounds_succ]
 go_wp2
 go_ret
 exact⟨rfl,rfl⟩
end Er
open Go.RowKit Go.Extern.Stop Go.Stop Go.Extern
abbrev sNo:ByteArray:=⟨#[]⟩
abbrev sCol:ByteArray:=⟨#[99,111,108,117,109,110]⟩
namespace Er
set_option maxHeartbeats 4000000 in
theorem number_F(s:ByteArray)(k n:Int)(g o:Nat)(w:World)(hg:w.cell? ⟨0,0,none⟩=some (.iface 169 (.agg #[.pointer (some ⟨1,37,none⟩)])))(_:w.cell? ⟨g,o+0,none⟩=some (.string s))(_:w.cell? ⟨g,o+1,none⟩=some (.int .i64 k))(h2:w.cell? ⟨g,o+2,none⟩=some (.iface 63 (.int .i64 n))):Calls Tryz.prog 63 #[.iface 113 (.pointer (some ⟨g,o,none⟩))] w fun e w'=>e=.returned (.int .i64 n)∧Grow w w':=by
 have hgl:g<w.heap.size:=by
  rcases Nat.lt_or_ge g w.heap.size with h | h
  ·exact h
  ·simp[World.cell?,Array.getElem?_eq_none h] at h2
 have hlt:0<w.heap.size:=by
  rcases Nat.eq_zero_or_pos w.heap.size with h0 | h
  ·simp[World.cell?,h0] at hg
  ·exact h
 have hgA:(w.alloc (.cells #[.int .i64 0] 63)).cell? ⟨0,0,none⟩=some (.iface 169 (.agg #[.pointer (some ⟨1,37,none⟩)])):=by
  rw[World.cell?_alloc_lt _ _ ⟨0,0,none⟩ hlt];exact hg
 have htA:(w.alloc (.cells #[.int .i64 0] 63)).cell? ⟨w.heap.size,0,none⟩=some (.int .i64 0):=by simp
 have hfA:(w.alloc (.cells #[.int .i64 0] 63)).frozen? ⟨w.heap.size,0,none⟩=false:=by simp
 have c2:(w.alloc (.cells #[.int .i64 0] 63)).cell? ⟨g,o+2,none⟩=some (.iface 63 (.int .i64 n)):=by
  rw[World.cell?_alloc_lt _ _ ⟨g,o+2,none⟩ hgl];exact h2
 go_enter Tryz.func63,Tryz.ntmps63
 go_wp2_with (go_at_call 60;refine(as_FE n g o _ _ _ hgA htA hfA c2).mono ?_;rintro e w' ⟨rfl,rfl⟩)
 go_ret
 refine⟨rfl,?_⟩
 exact Wz
set_option maxHeartbeats 4000000 in
theorem place_F(s:ByteArray)(k n:Int)(g o:Nat)(w:World)(hg:w.cell? ⟨0,0,none⟩=some (.iface 169 (.agg #[.pointer (some ⟨1,37,none⟩)])))(h0:w.cell? ⟨g,o+0,none⟩=some (.string s))(h1:w.cell? ⟨g,o+1,none⟩=some (.int .i64 k))(h2:w.cell? ⟨g,o+2,none⟩=some (.iface 63 (.int .i64 n))):Calls Tryz.prog 23 #[.iface 113 (.pointer (some ⟨g,o,none⟩))] w fun e w'=>e=.returned (.tuple #[.string s,.int .i64 k,.bool true])∧Grow w w':=by
 have hgl:g<w.heap.size:=by
  rcases Nat.lt_or_ge g w.heap.size with h | h
  ·exact h
  ·simp[World.cell?,Array.getElem?_eq_none h] at h2
 have hlt:0<w.heap.size:=by
  rcases Nat.eq_zero_or_pos w.heap.size with h0 | h
  ·simp[World.cell?,h0] at hg
  ·exact h
 have hgA:(w.alloc (.cells #[.pointer none] 113)).cell? ⟨0,0,none⟩=some (.iface 169 (.agg #[.pointer (some ⟨1,37,none⟩)])):=by
  rw[World.cell?_alloc_lt _ _ ⟨0,0,none⟩ hlt];exact hg
 have htA:(w.alloc (.cells #[.pointer none] 113)).cell? ⟨w.heap.size,0,none⟩=some (.pointer none):=by simp
 have hfA:(w.alloc (.cells #[.pointer none] 113)).frozen? ⟨w.heap.size,0,none⟩=false:=by simp
 have d0:(((((w.alloc (.cells #[.pointer (some ⟨g,o,none⟩)] 113)).alloc (.cells #[.pointer (some ⟨w.heap.size,0,none⟩)] 115)).alloc (.cells #[.pointer (some ⟨1,115,none⟩),.pointer (some ⟨w.heap.size+1,0,none⟩),.int .u64 150] 158)).alloc (.cells #[.pointer (some ⟨1,115,none⟩),.pointer (some ⟨w.heap.size+1,0,none⟩),.int .u64 150] 158)).alloc (.cells #[.pointer (some ⟨g,o,none⟩)] 113)).cell? ⟨g,o,none⟩=some (.string s):=by
  rw[World.cell?_alloc_lt _ _ ⟨g,o,none⟩ (by simp;omega),World.cell?_alloc_lt _ _ ⟨g,o,none⟩ (by simp;omega),World.cell?_alloc_lt _ _ ⟨g,o,none⟩ (by simp;omega),World.cell?_alloc_lt _ _ ⟨g,o,none⟩ (by simp;omega),World.cell?_alloc_lt _ _ ⟨g,o,none⟩ hgl];exact h0
 have d1:(((((w.alloc (.cells #[.pointer (some ⟨g,o,none⟩)] 113)).alloc (.cells #[.pointer (some ⟨w.heap.size,0,none⟩)] 115)).alloc (.cells #[.pointer (some ⟨1,115,none⟩),.pointer (some ⟨w.heap.size+1,0,none⟩),.int .u64 150] 158)).alloc (.cells #[.pointer (some ⟨1,115,none⟩),.pointer (some ⟨w.heap.size+1,0,none⟩),.int .u64 150] 158)).alloc (.cells #[.pointer (some ⟨g,o,none⟩)] 113)).cell? ⟨g,o+1,none⟩=some (.int .i64 k):=by
  rw[World.cell?_alloc_lt _ _ ⟨g,o+1,none⟩ (by simp;omega),World.cell?_alloc_lt _ _ ⟨g,o+1,none⟩ (by simp;omega),World.cell?_alloc_lt _ _ ⟨g,o+1,none⟩ (by simp;omega),World.cell?_alloc_lt _ _ ⟨g,o+1,none⟩ (by simp;omega),World.cell?_alloc_lt _ _ ⟨g,o+1,none⟩ hgl];exact h1
 go_enter Tryz.func23,Tryz.ntmps23
 go_wp2_with (go_at_call 60;refine(as_FF ⟨g,o,none⟩ _ _ _ hgA htA hfA).mono ?_;rintro e w' ⟨rfl,rfl⟩)
 have dT:(((((w.alloc (.cells #[.pointer (some ⟨g,o,none⟩)] 113)).alloc (.cells #[.pointer (some ⟨w.heap.size,0,none⟩)] 115)).alloc (.cells #[.pointer (some ⟨1,115,none⟩),.pointer (some ⟨w.heap.size+1,0,none⟩),.int .u64 150] 158)).alloc (.cells #[.pointer (some ⟨1,115,none⟩),.pointer (some ⟨w.heap.size+1,0,none⟩),.int .u64 150] 158)).alloc (.cells #[.pointer (some ⟨g,o,none⟩)] 113)).cell? ⟨w.heap.size,0,none⟩=some (.pointer (some ⟨g,o,none⟩)):=by
  rw[World.cell?_alloc_lt _ _ ⟨w.heap.size,0,none⟩ (by simp;omega),World.cell?_alloc_lt _ _ ⟨w.heap.size,0,none⟩ (by simp;omega),World.cell?_alloc_lt _ _ ⟨w.heap.size,0,none⟩ (by simp;omega),World.cell?_alloc_lt _ _ ⟨w.heap.size,0,none⟩ (by simp)];simp
 go_region_held3 (fun w'=>w'.cell? ⟨w.heap.size,0,none⟩=some (.pointer (some ⟨g,o,none⟩))∧w'.cell? ⟨g,o,none⟩=some (.string s)∧w'.cell? ⟨g,o+1,none⟩=some (.int .i64 k))
  (first | exact⟨dT,d0,d1⟩ | go_keep) (fail)
 go_wp2
 refine bodyPost_ret (v:=.tuple #[.string s,.int .i64 k,.bool true]) (by simp[results,go_sem]) rfl ⟨rfl,?_⟩
 exact Wz
end Er
theorem CallOK.of_raw{P:Program}{f:FuncId}{As:List SV}{R:SV}{u:Value}(cal:Callable P f)(hR:∀(η:Eta) (A:Nat→Prop) (w:World),R.R η A w u)
  (h:∀(η:Eta) (F:Nat→Prop) (w:World) (vals:List Value),Gl w→ArgsR As η F w vals→Calls P f vals.toArray w fun e w'=>e=.returned u∧Grow w w'):CallOK P f As R []:=
 ⟨cal, fun η0 F w vals hF hA => (h η0 F w vals hF.gl hA).mono fun e w' ⟨e1, g⟩ => ⟨u, fun _ _ => none, e1,
  ⟨.of_grow g,(fun k i o hk=>by rw[ownsOf_nil] at hk;cases hk),(fun k i o _ _ hk=>by rw[ownsOf_nil] at hk;cases hk),(fun k i o _ _ _ _ _ _ hk=>by rw[ownsOf_nil] at hk;cases hk),fun _ _ _=>rfl,hF.lt,hF.gl,fun _ h=>h⟩,hR _ _ _⟩⟩
abbrev fltS (s:ByteArray) (k n:Int):SV:=.ifc 113 (.ep (.agg (.cn (.ex (.string s)) (.cn (.ex (.int .i64 k)) (.cn (.ex (.iface 63 (.int .i64 n))) .nl)))))
theorem flt_open{s:ByteArray}{k n:Int}{η:Eta}{A:Nat→Prop}{w:World}{v:Value}(h:(fltS s k n).R η A w v):∃g o,v=.iface 113 (.pointer (some ⟨g,o,none⟩))∧w.cell? ⟨g,o+0,none⟩=some (.string s)∧w.cell? ⟨g,o+1,none⟩=some (.int .i64 k)∧w.cell? ⟨g,o+2,none⟩=some (.iface 63 (.int .i64 n)):=by
 obtain⟨u,rfl,g,o,rfl,_,_,e,⟨vs,rfl,x,xs,e1,hx,y,ys,e2,hy,z,zs,e3,hz,hn⟩,hc⟩:=h
 obtain rfl:=hx
 obtain rfl:=hy
 obtain rfl:=hz
 have hn:Value.tuple zs.toArray=.tuple #[]:=hn
 simp only[Value.tuple.injEq] at e1 e2 e3 hn
 obtain rfl:zs=[]:=by simpa using congrArg Array.toList hn
 obtain rfl:ys=_:=by simpa using congrArg Array.toList e3
 obtain rfl:xs=_:=by simpa using congrArg Array.toList e2
 obtain rfl:vs=_:=by simpa using congrArg Array.toList e1
 exact⟨g,o,rfl,hc 0 _ rfl,hc 1 _ rfl,hc 2 _ rfl⟩
abbrev PLC (s:ByteArray) (k:Int) (b:Bool):SV:=.cn (.ex (.string s)) (.cn (.ex (.int .i64 k)) (.cn (.ex (.bool b)) .nl))
theorem plc_R{s:ByteArray}{k:Int}{b:Bool}(η:Eta)(A:Nat→Prop)(w:World):(PLC s k b).R η A w (.tuple #[.string s,.int .i64 k,.bool b]):=
 ⟨.string s,[.int .i64 k,.bool b],rfl,rfl,.int .i64 k,[.bool b],rfl,rfl,.bool b,[],rfl,rfl,rfl⟩
theorem sPlaceF{s:ByteArray}{k n:Int}:CallOK Tryz.prog 23 [.ifc 113 (.ep (.agg (.cn (.ex (.string s)) (.cn (.ex (.int .i64 k)) (.cn (.ex (.iface 63 (.int .i64 n))) (.nl))))))] (.cn (.ex (.string s)) (.cn (.ex (.int .i64 k)) (.cn (.ex (.bool true)) (.nl)))) []:=
 .of_raw (callable_of Tryz.func23 rfl (by kernel_rfl)) plc_R fun η F w vals hg hA=>by
  match vals,hA with
  | [v0],hA=>obtain⟨g,o,rfl,h0,h1,h2⟩:=flt_open hA.1;exact Er.place_F s k n g o w (hg _ rfl).2 h0 h1 h2
theorem sNumberF{s:ByteArray}{k n:Int}:CallOK Tryz.prog 63 [.ifc 113 (.ep (.agg (.cn (.ex (.string s)) (.cn (.ex (.int .i64 k)) (.cn (.ex (.iface 63 (.int .i64 n))) (.nl))))))] (.ex (.int .i64 n)) []:=
 .of_raw (callable_of Tryz.func63 rfl (by kernel_rfl)) (fun _ _ _=>rfl) fun η F w vals hg hA=>by
  match vals,hA with
  | [v0],hA=>obtain⟨g,o,rfl,h0,h1,h2⟩:=flt_open hA.1;exact Er.number_F s k n g o w (hg _ rfl).2 h0 h1 h2
theorem CallOKm.tag0 [Fz]{P:Program}{f:FuncId}{T:TypeId}{a a':SV}{ins outs:List Hl}{A:List SV}{R:SV}{b:Nat}(h:CallOKm P f (.one (.var T a)::ins) A R (.one (.var T a')::outs)):CallOKm P f (.one (.var T a (some b))::ins) A R (.one (.var T a' (some b))::outs):=by
 refine⟨h.cal,fun η0 M F w vals H hA=>?_⟩
 obtain⟨H1,hv1⟩:=H.retell (own':=ownsOf 0 (.one (.var T a)::ins)) (fun k i o' hk=>by
  rw[owns0] at hk⊢
  cases k with
  | zero=>
   cases i with
   | zero=>
    obtain rfl:=Option.some.inj hk
    exact⟨_,rfl,fun A h e ⟨b1,v,e1,e2,e3,e4,e5⟩=>⟨b1,v,e1,e2,e3,e4,fun b0 hb=>by cases hb⟩⟩
   | succ i=>cases hk
  | succ k=>exact⟨o',hk,fun _ _ _ h=>h⟩) (fun k i o hk=>by
  rw[owns0] at hk⊢
  cases k with
  | zero=>
   cases i with
   | zero=>exact⟨_,rfl⟩
   | succ i=>cases hk
  | succ k=>exact⟨o,hk⟩) (fun k i hk=>by
  rw[owns0] at hk⊢
  cases k with
  | zero=>exact hk
  | succ k=>exact hk)
 rw[←hv1] at hA
 refine(h.run η0 M F w vals H1 hA).mono fun e w'=>?_
 rintro⟨v,η',rfl,H2,hR,hx⟩
 obtain⟨hd,he,b1,u1,e1,e2,e3,e4,e5⟩:=H.ob 0 0 (.var T a (some b)) rfl
 have hbb:=e5 b rfl
 obtain⟨H3,hv3⟩:=H2.retell (own':=ownsOf 0 (.one (.var T a' (some b))::outs)) (fun k i o' hk=>by
  rw[owns0] at hk⊢
  cases k with
  | zero=>
   cases i with
   | zero=>
    obtain rfl:=Option.some.inj hk
    refine⟨_,rfl,fun A h eh ⟨b2,v2,q1,q2,q3,q4,q5⟩=>⟨b2,v2,q1,q2,q3,q4,fun b0 hb=>?_⟩⟩
    have h6:=hx 0 (by simp) 0 h eh
    rw[he] at h6
    have h7:=(Option.some.inj h6).symm
    rw[q1,e1] at h7
    have h8:b2=b1:=by injection h7 with h7;injection h7 with h7;injection h7
    obtain rfl:=Option.some.inj hb
    rw[h8,hbb]
   | succ i=>cases hk
  | succ k=>exact⟨o',hk,fun _ _ _ h=>h⟩) (fun k i o hk=>by
  rw[owns0] at hk⊢
  cases k with
  | zero=>
   cases i with
   | zero=>exact⟨_,rfl⟩
   | succ i=>cases hk
  | succ k=>exact⟨o,hk⟩) (fun k i hk=>by
  rw[owns0] at hk⊢
  cases k with
  | zero=>exact hk
  | succ k=>exact hk)
 exact⟨v,η',rfl,H3,by rw[hv3];exact hR,fun k hk=>hx k (by simpa using hk)⟩
open Go.RowKit
abbrev bV (a b:Nat) (S:LuS) (n:Nat) (t:Option Nat:=none):OB:=.var 100 (.agg (.cn (.own a 0) (.cn (.ep (lvE S n)) (.cn (.own b 0) .nl)))) t
abbrev eE (e:Etas) (n m:Nat):OB:=.row 108 2 (fun i0=>.agg (.cn (iN ((e i0).1)) (.cn (vE (e i0).2 n) .nl))) m
def basX (n:Nat) (D:Nat→Nat→Rat) (v:Nat→Rat) (j:Nat):Rat:=luX n (luS n D n).1 (luS n D n).2.1 (fun i=>v ((luS n D n).2.2.1 i)) j
def basY (n:Nat) (D:Nat→Nat→Rat) (v:Nat→Rat) (j:Nat):Rat:=luW n (luS n D n).1 (luS n D n).2.1 v ((luS n D n).2.2.2.1 j)
def etaI (k:Nat) (w x:Nat→Rat) (h j:Nat):Rat:=if j=k then x k/w k else if j<h then x j-w j*(x k/w k) else x j
def etaJ (k:Nat) (w z:Nat→Rat) (h j:Nat):Rat:=if j=k then etaP k w z h else z j
section
variable {k h j n:Nat} {w x z:Nat→Rat}
theorem etaI_put:x k/w k=etaI k w x 0 k:=(if_pos rfl).symm
theorem etaI_zero(e:j≠k):etaI k w x 0 j=x j:=by unfold etaI;rw[if_neg e,if_neg (Nat.not_lt_zero j)]
theorem etaI_self:etaI k w x h k=x k/w k:=if_pos rfl
theorem etaI_here(e:h≠k):etaI k w x h h=x h:=by unfold etaI;rw[if_neg e,if_neg (Nat.lt_irrefl h)]
theorem etaI_at(e:h≠k):etaI k w x h h-w h*etaI k w x h k=etaI k w x (h+1) h:=by
 rw[etaI_here e,etaI_self]
 unfold etaI
 rw[if_neg e,if_pos (Nat.lt_succ_self h)]
theorem etaI_ne(e:j≠h):etaI k w x (h+1) j=etaI k w x h j:=by
 unfold etaI
 by_cases e1:j=k
 ·rw[if_pos e1,if_pos e1]
 ·rw[if_neg e1,if_neg e1]
  by_cases e2:j<h
  ·rw[if_pos e2,if_pos zo]
  ·rw[if_neg e2,if_neg zo]
theorem etaI_skip(e:h=k):etaI k w x h j=etaI k w x (h+1) j:=by
 by_cases e1:j=h
 ·unfold etaI
  rw[if_pos zo,if_pos zo]
 ·exact(etaI_ne e1).symm
theorem etaI_all(hj:j<n):etaI k w x n j=etaX k w x j:=by
 unfold etaI etaX
 by_cases e1:j=k
 ·rw[if_pos e1,if_pos e1]
 ·rw[if_neg e1,if_neg e1,if_pos hj]
theorem eta_div(hx:htq (x k)≤30000)(hw:htq (w k)≤4000):szq (x k)+szq (w k)+1≤17179869184:=by
 have:=sz_ht (x k)
 have:=sz_ht (w k)
 omega
theorem eta_room(e:h≠k)(hx:htq (x k)≤4000)(hw:htq (w k)≤4000)(hx2:htq (x h)≤4000)(hw2:htq (w h)≤4000):szq (w h)+szq (etaI k w x h k)≤17179869184∧szq (etaI k w x h h)+szq (w h*etaI k w x h k)≤17179869184:=by
 rw[etaI_here e,etaI_self]
 have:=ht_div (x k) (w k)
 exact ht_room2 (S:=8000) zo zo zo (by decide)
theorem etaJ_zero:z j=etaJ k w z 0 j:=by
 unfold etaJ etaP
 split
 ·rename_i e;subst e;show z j=z j-0;grind
 ·rfl
theorem etaJ_self:etaJ k w z h k=etaP k w z h:=if_pos rfl
theorem etaJ_ne(e:j≠k):etaJ k w z h j=z j:=if_neg e
theorem etaP_at(e:h≠k):etaJ k w z h k-w h*etaJ k w z h h=etaJ k w z (h+1) k:=by
 rw[etaJ_self,etaJ_self,etaJ_ne e]
 show z k-sumQ _ h-w h*z h=z k-(sumQ _ h+offQ k (fun l=>w l*z l) h)
 rw[off_ne e];grind
theorem etaJ_skip(e:h=k):etaJ k w z h j=etaJ k w z (h+1) j:=by
 unfold etaJ
 split
 ·unfold etaP
  show z k-sumQ _ h=z k-(sumQ _ h+offQ k (fun l=>w l*z l) h)
  rw[show offQ k (fun l=>w l*z l) h=0 by rw[e];exact off_self];grind
 ·rfl
theorem etaJ_div:etaJ k w z n k/w k=etaZ n k w z k:=by rw[etaJ_self];exact(if_pos rfl).symm
theorem etaJ_all(e:j≠k):etaZ n k w z j=etaJ k w z n j:=by rw[etaJ_ne e];exact if_neg e
theorem etaP_ht(hz:∀j,j<n→htq (z j)≤20000)(hw:∀j,j<n→htq (w j)≤4000)(hk:k<n):∀h,h≤n→htq (etaP k w z h)≤20000+h*24001
 | 0,_=>by
  unfold etaP
  rw[show z k-sumQ (offQ k fun l=>w l*z l) 0=z k by show z k-0=_;grind]
  have:=hz k hk;exact Nat.le_trans this (Nat.le_add_right _ _)
 | h+1,hh=>by
  have ih:=etaP_ht hz hw hk h zo
  by_cases e:h=k
  ·have:=etaJ_skip (j:=k) (w:=w) (z:=z) e
   rw[etaJ_self,etaJ_self] at this
   rw[←this,Nat.succ_mul];exact Nat.le_trans ih zo
  ·have h1:=etaP_at (w:=w) (z:=z) e
   rw[etaJ_self,etaJ_self,etaJ_ne e] at h1
   rw[←h1]
   have h2:=ht_sub (etaP k w z h) (w h*z h)
   have h3:=ht_mul (w h) (z h)
   have h4:=hz h zo
   have h5:=hw h zo
   rw[Nat.succ_mul]
   generalize h*24001=T at*
   omega
theorem etaP_room(hz:∀j,j<n→htq (z j)≤20000)(hw:∀j,j<n→htq (w j)≤4000)(hk:k<n)(hn:n≤64)(hh:h<n)(e:h≠k):szq (w h)+szq (etaJ k w z h h)≤17179869184∧szq (etaJ k w z h k)+szq (w h*etaJ k w z h h)≤17179869184:=by
 rw[etaJ_ne e,etaJ_self]
 have h1:=etaP_ht hz hw hk h zo
 have h2:=hz h hh
 have h3:=hw h hh
 have h4:h*24001≤64*24001:=Nat.mul_le_mul_right _ zo
 exact ht_room2 (S:=2000000) zo zo zo (by decide)
theorem etaP_div(hz:∀j,j<n→htq (z j)≤20000)(hw:∀j,j<n→htq (w j)≤4000)(hk:k<n)(hn:n≤64):szq (etaJ k w z n k)+szq (w k)+1≤17179869184:=by
 rw[etaJ_self]
 have h1:=etaP_ht hz hw hk n (Nat.le_refl n)
 have h2:=hw k hk
 have h4:n*24001≤64*24001:=Nat.mul_le_mul_right _ hn
 have:=sz_ht (etaP k w z n)
 have:=sz_ht (w k)
 omega
end
theorem sMatOfM{D C:Nat→Nat→Rat}{e:Etas}{n m:Nat}(hn:n≤64):CallOKm Tryz.prog 58 [.one (bV 1 2 (luS n D n) n),.one (.row 33 1 (mE C n) n),.one (eE e n m)] [iN n,.own 1 0] (c2 (.agg (c2 (.sl 1 (mE C n) n) (iN n))) (bX true)) [.one (bV 3 4 (luS n D n) n),.dead,.dead,.one (.row 33 1 (mE C n) n),.one (eE e n m)]:=by
 exact callOKm_P (ch:=fun B=>[.reg 1 [(3,.callS (c2 (.agg (c2 (.own 0 0) (iN n))) (bX true)) [.one (.row 33 1 (fun i0=>.own 1 i0) n),.fam n (fun _=>.row 47 3 (fun _=>.rat 0) n)])],.dec 18 false,.loop 5 (Nat) (fun g=>g≤n) (fun g=>n-g) (fun g=>⟨[(0,iN n),(4,.own 3 0),(6,.own 6 0),(20,.own 1 0),(21,iN n),(22,iN g)],[(0,.one (bV 1 2 (luS n D n) n (some (B 0)))),(1,.one (.row 33 1 (mE C n) n)),(2,.one (eE e n m)),(3,.one (.var 53 (.ex (.agg #[.slice none 0 0,.int .i64 0])))),(4,.one (.row 33 1 (fun i0=>.own 5 i0) n)),(5,.fam n (fun i0=>.row 47 3 (fun i1=>.rat (uptoR g C i0 i1)) n)),(6,.one (.var 53 (.agg (c2 (.own 4 0) (iN n)))))],7⟩) [(0,.id 0),(1,.id 1),(2,.id 2),(3,.id 3),(4,.id 4),(5,.id 5),(6,.id 6)] (fun _=>[(0,.id 0),(1,.id 1),(2,.id 2),(3,.id 3),(4,.id 4),(5,.id 5),(6,.id 6)]) (fun g=>[.reg 6 [(1,.k g)],.dec 30 false,.reg 9 [(3,.k g),(6,.rowF (fun i0=>.rat (uptoR (g+1) C g i0)) (fun i0=>.row 47 3 (fun i1=>.rat (uptoR (g+1) C i0 i1)) n))],.reg 10 [(0,.z ((g+1:Nat):Int))],.ret 11 [(0,.id 0),(3,.id 1),(4,.id 2)]])]) hMix Tryz.func58 rfl (by kernel_rfl) (by kernel_rfl) (by kernel_rfl) (fun B=>_∧((!true)=false)∧(((fun X1 X2 X3 X4 X5 X6 X7 X8 X9 X10 X11 X12 X13 X14 X15 X16 X17 X18 X19 X20 X21 X22 X23:Prop=>∃g0:Nat,X1∧X2∧X3∧X4∧X5∧((0:Int)=(g0:Int))∧X6∧X7∧X8∧X9∧X10∧X11∧X12∧X13∧X14∧X15∧X16∧X17∧X18∧X19∧((.agg #[.slice none 0 0,.int .i64 0]:Value)=.agg #[.slice none 0 0,.int .i64 0])∧X20∧(∀j0,j0<n→((j0:Nat)=j0))∧X21∧(∀j0,j0<n→((n:Nat)=n)∧(∀j1,j1<n→((0:Rat)=(uptoR g0 C j0 j1))))∧X22∧X23∧(g0≤n)) _ _ _ _ _ _ _ _ _ _ _ _ _ _ _ _ _ _ _ _ _ _ _)∧∀g:Nat,(g≤n)→(((decide ((g:Int)<(n:Int)))=true→_∧(g<n)∧(g<n)∧((!decide ((n:Int)=(n:Int)))=false)∧_∧(g<n)∧(g<n)∧(n≤n)∧(∀j0,j0<n→n≤j0→(.rat (uptoR (g+1) C g j0):SV)=.rat (uptoR g C g j0))∧(∀j0,j0<n→((C g j0:Rat)=(uptoR (g+1) C g j0)))∧(g<n)∧((.row 47 3 (fun i0=>.rat (uptoR (g+1) C g i0)) n:OB)=.row 47 3 (fun i0=>.rat (uptoR (g+1) C g i0)) n)∧(∀t,t<n→t≠g→(.row 47 3 (fun i0=>.rat (uptoR (g+1) C t i0)) n:OB)=.row 47 3 (fun i0=>.rat (uptoR g C t i0)) n)∧_∧((fun X1 X2 X3 X4 X5 X6 X7 X8 X9 X10 X11 X12 X13 X14 X15 X16 X17 X18 X19 X20 X21 X22 X23:Prop=>∃g1:Nat,X1∧X2∧X3∧X4∧X5∧(((g+1:Nat):Int)=(g1:Int))∧X6∧X7∧X8∧X9∧X10∧X11∧X12∧X13∧X14∧X15∧X16∧X17∧X18∧X19∧((.agg #[.slice none 0 0,.int .i64 0]:Value)=.agg #[.slice none 0 0,.int .i64 0])∧X20∧(∀j0,j0<n→((j0:Nat)=j0))∧X21∧(∀j0,j0<n→((n:Nat)=n)∧(∀j1,j1<n→((uptoR (g+1) C j0 j1:Rat)=(uptoR g1 C j0 j1))))∧X22∧X23∧(g1≤n)∧(n-g1<n-g)) _ _ _ _ _ _ _ _ _ _ _ _ _ _ _ _ _ _ _ _ _ _ _))∧((decide ((g:Int)<(n:Int)))=false→(_∧(∀j0,j0<n→((n:Nat)=n)∧(∀j1,j1<n→((uptoR g C j0 j1:Rat)=(C j0 j1)))∧(j0<n))∧_∧_∧_∧_∧_∧_∧_∧_∧_∧_∧_∧_∧_∧_∧_∧_))))) (fun B=>by kernel_rfl)
  (fun B=>⟨sMatNew (m:=n) (n:=n) zo zo,rfl,⟨0,(rf (n:Int)),(rf 0),(rf 0),(rf 0),(rf (n:Int)),zo,(rf (some (B 0))),(rf 0),(rf n),(leS (mE (luS n D n).2.1 n) n),(rf n),(leS (mE ((luS n D n).1) n) n),(rf n),(leS (fun i0=>iN ((luS n D n).2.2.1 i0)) n),(rf ((luS n D n).2.2.2.2:Bool)),(rf 0),(rf n),(leS (mE C n) n),(rf m),(leS (fun i0=>.agg (c2 (iN ((e i0).1)) (vE (e i0).2 n))) m),rfl,(rf n),(fun j0 hj0=>rfl),(rf n),(fun j0 hj0=>⟨rfl,(fun j1 hj1=>(by rw[uptoR_zero]))⟩),(rf 0),(rf (n:Int)),zo⟩,fun g hg=>⟨fun hc23=>have hc23:=dT hc23;⟨(rf (g:Int)),zo,zo,(by simp),(rf (g:Int)),zo,zo,zo,(fun j0 hj0 hm=>absurd hj0 (Nat.not_lt.2 hm)),(fun j0 hj0=>(by rw[uptoR_at])),zo,rfl,(fun t ht hne=>by simp only[uptoR_ne hne]),(wI (g:=g) zo),g+1,(rf (n:Int)),(rf 0),(rf 0),(rf 0),(rf (n:Int)),zo,(rf (some (B 0))),(rf 0),(rf n),(leS (mE (luS n D n).2.1 n) n),(rf n),(leS (mE ((luS n D n).1) n) n),(rf n),(leS (fun i0=>iN ((luS n D n).2.2.1 i0)) n),(rf ((luS n D n).2.2.2.2:Bool)),(rf 0),(rf n),(leS (mE C n) n),(rf m),(leS (fun i0=>.agg (c2 (iN ((e i0).1)) (vE (e i0).2 n))) m),rfl,(rf n),(fun j0 hj0=>rfl),(rf n),(fun j0 hj0=>⟨rfl,(fun j1 hj1=>rfl)⟩),(rf 0),(rf (n:Int)),zo,zo⟩,fun hc23=>have hc23:=dF hc23;have hi2:g=n:=zo;⟨(rf n),(fun j0 hj0=>⟨rfl,(fun j1 hj1=>(by rw[hi2];exact uptoR_all zo)),zo⟩),(rf (n:Int)),(rf (true:Bool)),(rf (some (B 0))),(rf 0),(rf n),(leS (mE (luS n D n).2.1 n) n),(rf n),(leS (mE ((luS n D n).1) n) n),(rf n),(leS (fun i0=>iN ((luS n D n).2.2.1 i0)) n),(rf ((luS n D n).2.2.2.2:Bool)),(rf 0),(rf n),(leS (mE C n) n),(rf m),(leS (fun i0=>.agg (c2 (iN ((e i0).1)) (vE (e i0).2 n))) m)⟩⟩⟩)
theorem sBMatrix{D C:Nat→Nat→Rat}{e:Etas}{n m:Nat}(hn:n≤64):CallOKm Tryz.prog 21 [.one (bV 1 2 (luS n D n) n),.one (.row 33 1 (mE C n) n),.one (eE e n m)] [.own 0 0] (.agg (c2 (.sl 1 (mE (trM C) n) n) (iN n))) [.one (bV 3 4 (luS n D n) n),.dead,.dead,.one (.row 33 1 (mE C n) n),.one (eE e n m)]:=by
 exact callOKm_P (ch:=fun B=>[.reg 1 [(9,.callM [0,1,2] [.one (bV 1 2 (luS n D n) n (some (B 0))),.one (.row 33 1 (mE C n) n),.one (eE e n m)] [iN n,.own 1 0] (c2 (.agg (c2 (.sl 1 (mE C n) n) (iN n))) (bX true)) [.one (bV 3 4 (luS n D n) n (some (B 0))),.dead,.dead,.one (.row 33 1 (mE C n) n),.one (eE e n m)])],.reg 2 [(1,.callS (.agg (c2 (.sl 1 (fun i0=>.sl 3 (fun i1=>.rat (C i1 i0)) n) n) (iN n))) [])],.ret 2 [(0,.id 0),(3,.id 4),(4,.id 5)]]) hMix Tryz.func21 rfl (by kernel_rfl) (by kernel_rfl) (by kernel_rfl) (fun B=>(CallOKm Tryz.prog 58 [.one (bV 1 2 (luS n D n) n (some (B 0))),.one (.row 33 1 (mE C n) n),.one (eE e n m)] [iN n,.own 1 0] (c2 (.agg (c2 (.sl 1 (mE C n) n) (iN n))) (bX true)) [.one (bV 3 4 (luS n D n) n (some (B 0))),.dead,.dead,.one (.row 33 1 (mE C n) n),.one (eE e n m)])∧_∧_∧_∧_∧_∧_∧_∧(_∧(∀j0,j0<n→((n:Nat)=n)∧(∀j1,j1<n→((C j1 j0:Rat)=((trM C) j0 j1))))∧_∧_∧_∧_∧_∧_∧_∧_∧_∧_∧_∧_∧_∧_∧_)) (fun B=>by kernel_rfl)
  (fun B=>⟨((sMatOfM (D:=D) (C:=C) (e:=e) (m:=m) (n:=n) zo)).tag0 (b:=B 0),(rf (.one (bV 1 2 (luS n D n) n (some (B 0))):Hl)),(rf (.one (.row 33 1 (mE C n) n):Hl)),(rf (.one (eE e n m):Hl)),(rf (n:Int)),(rf 1),(rf 0),sMatTurned (m:=n) (n:=n) (q:=C) zo zo,(rf n),(fun j0 hj0=>⟨rfl,(fun j1 hj1=>rfl)⟩),(rf (n:Int)),(rf (some (B 0))),(rf 0),(rf n),(leS (mE (luS n D n).2.1 n) n),(rf n),(leS (mE ((luS n D n).1) n) n),(rf n),(leS (fun i0=>iN ((luS n D n).2.2.1 i0)) n),(rf ((luS n D n).2.2.2.2:Bool)),(rf 0),(rf n),(leS (mE C n) n),(rf m),(leS (fun i0=>.agg (c2 (iN ((e i0).1)) (vE (e i0).2 n))) m)⟩)
theorem sBSize{D C:Nat→Nat→Rat}{e:Etas}{n m:Nat}:CallOKm Tryz.prog 11 [.one (bV 1 2 (luS n D n) n),.one (.row 33 1 (mE C n) n),.one (eE e n m)] [.own 0 0] (iN n) [.one (bV 3 4 (luS n D n) n),.dead,.dead,.one (.row 33 1 (mE C n) n),.one (eE e n m)]:=by
 exact callOKm_P (ch:=fun B=>[.ret 1 [(0,.id 0),(3,.id 1),(4,.id 2)]]) hMix Tryz.func11 rfl (by kernel_rfl) (by kernel_rfl) (by kernel_rfl) (fun B=>(_∧_∧_∧_∧_∧_∧_∧_∧_∧_∧_∧_∧_∧_∧_)) (fun B=>by kernel_rfl)
  (fun B=>⟨(rf (n:Int)),(rf (some (B 0))),(rf 0),(rf n),(leS (mE (luS n D n).2.1 n) n),(rf n),(leS (mE ((luS n D n).1) n) n),(rf n),(leS (fun i0=>iN ((luS n D n).2.2.1 i0)) n),(rf ((luS n D n).2.2.2.2:Bool)),(rf 0),(rf n),(leS (mE C n) n),(rf m),(leS (fun i0=>.agg (c2 (iN ((e i0).1)) (vE (e i0).2 n))) m)⟩)
theorem sBEtas{D C:Nat→Nat→Rat}{e:Etas}{n m:Nat}:CallOKm Tryz.prog 14 [.one (bV 1 2 (luS n D n) n),.one (.row 33 1 (mE C n) n),.one (eE e n m)] [.own 0 0] (iN m) [.one (bV 3 4 (luS n D n) n),.dead,.dead,.one (.row 33 1 (mE C n) n),.one (eE e n m)]:=by
 exact callOKm_P (ch:=fun B=>[.ret 1 [(0,.id 0),(3,.id 1),(4,.id 2)]]) hMix Tryz.func14 rfl (by kernel_rfl) (by kernel_rfl) (by kernel_rfl) (fun B=>(_∧_∧_∧_∧_∧_∧_∧_∧_∧_∧_∧_∧_∧_∧_)) (fun B=>by kernel_rfl)
  (fun B=>⟨(rf (m:Int)),(rf (some (B 0))),(rf 0),(rf n),(leS (mE (luS n D n).2.1 n) n),(rf n),(leS (mE ((luS n D n).1) n) n),(rf n),(leS (fun i0=>iN ((luS n D n).2.2.1 i0)) n),(rf ((luS n D n).2.2.2.2:Bool)),(rf 0),(rf n),(leS (mE C n) n),(rf m),(leS (fun i0=>.agg (c2 (iN ((e i0).1)) (vE (e i0).2 n))) m)⟩)
open Go.RowKit
theorem sBSolve{D C:Nat→Nat→Rat}{e:Etas}{n m:Nat}{v:Nat→Rat}(hn:n≤6)(hok:luOK n D n)(hD:HtB n n 3 D)(H:EtaOK n e m)(hw:∀t,t<m→∀j,j<n→htq ((e t).2 j)≤4000)(hm:m≤64)(hv:∀j,j<n→htq (v j)≤3)(hx:∀t,t≤m→∀j,j<n→htq (etaXs (basX n D v) e t j)≤4000):CallOKm Tryz.prog 17 [.one (bV 1 2 (luS n D n) n),.one (.row 33 1 (mE C n) n),.one (eE e n m)] [.own 0 0,.sl 3 (fun i0=>.rat (v i0)) n] (c2 (.own 5 0) (bX true)) [.one (bV 3 4 (luS n D n) n),.dead,.dead,.one (.row 33 1 (mE C n) n),.one (eE e n m),.one (.row 47 3 (fun i0=>.rat (etaXs (basX n D v) e m i0)) n)]:=by
 exact callOKm_P (ch:=fun B=>[.reg 1 [(5,.callS (c2 (.own 0 0) (bX true)) [.one (.row 47 3 (fun i0=>.rat (luX n (luS n D n).1 (luS n D n).2.1 (fun i=>v ((luS n D n).2.2.1 i)) i0)) n)])],.dec 21 false,.conv 4 [(0,.id 0),(1,.id 1),(2,.id 2),(3,.id 3)] ⟨[(0,.own 0 0),(6,.own 3 0)],[(0,.one (bV 1 2 (luS n D n) n (some (B 0)))),(1,.one (.row 33 1 (mE C n) n)),(2,.one (eE e n m)),(3,.one (.row 47 3 (fun i0=>.rat ((etaXs (basX n D v) e 0) i0)) n))],4⟩,.loop 5 (Nat) (fun g=>g≤m) (fun g=>m-g) (fun g=>⟨[(6,.own 3 0),(25,.own 2 0),(26,iN m),(27,iN g)],[(0,.one (bV 1 2 (luS n D n) n (some (B 0)))),(1,.one (.row 33 1 (mE C n) n)),(2,.one (eE e n m)),(3,.one (.row 47 3 (fun i0=>.rat ((etaXs (basX n D v) e g) i0)) n))],4⟩) [(0,.id 0),(1,.id 1),(2,.id 2),(3,.id 3)] (fun _=>[(0,.id 0),(1,.id 1),(2,.id 2),(3,.id 3)]) (fun g=>[.reg 6 [(0,.k g)],.reg 7 [(6,.k ((e g).1)),(12,.k ((e g).1)),(14,.callS (c2 (.rat (((etaXs (basX n D v) e g) ((e g).1))/((e g).2 ((e g).1)))) (bX (!decide (((e g).2 ((e g).1))=0)))) []),(18,.k ((e g).1)),(19,.row 0 (fun i0=>.rat (etaI (e g).1 (e g).2 (etaXs (basX n D v) e g) 0 i0)))],.loop 9 (Nat) (fun h=>h≤n) (fun h=>n-h) (fun h=>⟨[(6,.own 3 0),(25,.own 2 0),(26,iN m),(9,.own 4 0),(27,iN g),(51,iN n),(52,iN h)],[(0,.one (bV 1 2 (luS n D n) n (some (B 0)))),(1,.one (.row 33 1 (mE C n) n)),(2,.one (eE e n m)),(3,.one (.row 47 3 (fun i0=>.rat (etaI (e g).1 (e g).2 (etaXs (basX n D v) e g) h i0)) n)),(4,.one (.var 108 (.agg (c2 (iN ((e g).1)) (vE (e g).2 n)))))],5⟩) [(0,.id 0),(1,.id 1),(2,.id 2),(3,.id 3),(4,.id 4)] (fun _=>[(0,.id 0),(1,.id 1),(2,.id 2),(3,.id 3),(4,.id 4)]) (fun h=>[.reg 12 [(4,.k h),(9,.k h),(14,.k ((e g).1)),(16,.callS (.rat (((e g).2 h)*(etaI (e g).1 (e g).2 (etaXs (basX n D v) e g) h ((e g).1)))) []),(17,.callS (.rat ((etaI (e g).1 (e g).2 (etaXs (basX n D v) e g) h h)-(((e g).2 h)*(etaI (e g).1 (e g).2 (etaXs (basX n D v) e g) h ((e g).1))))) []),(18,.k h),(19,.row 0 (fun i0=>.rat (etaI (e g).1 (e g).2 (etaXs (basX n D v) e g) (h+1) i0)))],.reg 13 [(0,.z ((h+1:Nat):Int))],.reg 13 [(0,.z ((h+1:Nat):Int))],.reg 14 [(0,.z ((g+1:Nat):Int))]]),.ret 15 [(0,.id 0),(3,.id 1),(4,.id 2),(5,.id 3)]])]) hMix Tryz.func17 rfl (by kernel_rfl) (by kernel_rfl) (by kernel_rfl) (fun B=>_∧((!true)=false)∧_∧_∧_∧_∧_∧_∧_∧_∧_∧_∧_∧_∧_∧_∧_∧_∧_∧(∀j0,j0<n→((luX n (luS n D n).1 (luS n D n).2.1 (fun i=>v ((luS n D n).2.2.1 i)) j0:Rat)=((etaXs (basX n D v) e 0) j0)))∧(((fun X1 X2 X3 X4 X5 X6 X7 X8 X9 X10 X11 X12 X13 X14 X15 X16 X17 X18:Prop=>∃g0:Nat,X1∧X2∧X3∧((0:Int)=(g0:Int))∧X4∧X5∧X6∧X7∧X8∧X9∧X10∧X11∧X12∧X13∧X14∧X15∧X16∧X17∧X18∧(∀j0,j0<n→(((etaXs (basX n D v) e 0) j0:Rat)=((etaXs (basX n D v) e g0) j0)))∧(g0≤m)) _ _ _ _ _ _ _ _ _ _ _ _ _ _ _ _ _ _)∧∀g:Nat,(g≤m)→(((decide ((g:Int)<(m:Int)))=true→_∧(g<m)∧(g<m)∧_∧(((e g).1)<n)∧(((e g).1)<n)∧_∧(((e g).1)<n)∧_∧_∧(((e g).1)<n)∧(((e g).1)<n)∧(((((etaXs (basX n D v) e g) ((e g).1))/((e g).2 ((e g).1)):Rat)=(etaI (e g).1 (e g).2 (etaXs (basX n D v) e g) 0 ((e g).1))))∧(∀t,t<n→t≠((e g).1)→(.rat (etaI (e g).1 (e g).2 (etaXs (basX n D v) e g) 0 t):SV)=.rat ((etaXs (basX n D v) e g) t))∧(((fun X1 X2 X3 X4 X5 X6 X7 X8 X9 X10 X11 X12 X13 X14 X15 X16 X17 X18 X19 X20 X21 X22 X23 X24:Prop=>∃h0:Nat,X1∧X2∧X3∧X4∧X5∧X6∧((0:Int)=(h0:Int))∧X7∧X8∧X9∧X10∧X11∧X12∧X13∧X14∧X15∧X16∧X17∧X18∧X19∧X20∧X21∧(∀j0,j0<n→((etaI (e g).1 (e g).2 (etaXs (basX n D v) e g) 0 j0:Rat)=(etaI (e g).1 (e g).2 (etaXs (basX n D v) e g) h0 j0)))∧X22∧X23∧X24∧(h0≤n)) _ _ _ _ _ _ _ _ _ _ _ _ _ _ _ _ _ _ _ _ _ _ _ _)∧∀h:Nat,(h≤n)→(((decide ((h:Int)<(n:Int)))=true→(((!decide ((h:Int)=(((e g).1:Nat):Int)))=true→_∧(h<n)∧(h<n)∧_∧(h<n)∧_∧(((e g).1)<n)∧(((e g).1)<n)∧_∧_∧_∧(h<n)∧(h<n)∧((((etaI (e g).1 (e g).2 (etaXs (basX n D v) e g) h h)-(((e g).2 h)*(etaI (e g).1 (e g).2 (etaXs (basX n D v) e g) h ((e g).1))):Rat)=(etaI (e g).1 (e g).2 (etaXs (basX n D v) e g) (h+1) h)))∧(∀t,t<n→t≠h→(.rat (etaI (e g).1 (e g).2 (etaXs (basX n D v) e g) (h+1) t):SV)=.rat (etaI (e g).1 (e g).2 (etaXs (basX n D v) e g) h t))∧_∧((fun X1 X2 X3 X4 X5 X6 X7 X8 X9 X10 X11 X12 X13 X14 X15 X16 X17 X18 X19 X20 X21 X22 X23 X24:Prop=>∃h1:Nat,X1∧X2∧X3∧X4∧X5∧X6∧(((h+1:Nat):Int)=(h1:Int))∧X7∧X8∧X9∧X10∧X11∧X12∧X13∧X14∧X15∧X16∧X17∧X18∧X19∧X20∧X21∧(∀j0,j0<n→((etaI (e g).1 (e g).2 (etaXs (basX n D v) e g) (h+1) j0:Rat)=(etaI (e g).1 (e g).2 (etaXs (basX n D v) e g) h1 j0)))∧X22∧X23∧X24∧(h1≤n)∧(n-h1<n-h)) _ _ _ _ _ _ _ _ _ _ _ _ _ _ _ _ _ _ _ _ _ _ _ _))∧((!decide ((h:Int)=(((e g).1:Nat):Int)))=false→_∧((fun X1 X2 X3 X4 X5 X6 X7 X8 X9 X10 X11 X12 X13 X14 X15 X16 X17 X18 X19 X20 X21 X22 X23 X24:Prop=>∃h1:Nat,X1∧X2∧X3∧X4∧X5∧X6∧(((h+1:Nat):Int)=(h1:Int))∧X7∧X8∧X9∧X10∧X11∧X12∧X13∧X14∧X15∧X16∧X17∧X18∧X19∧X20∧X21∧(∀j0,j0<n→((etaI (e g).1 (e g).2 (etaXs (basX n D v) e g) h j0:Rat)=(etaI (e g).1 (e g).2 (etaXs (basX n D v) e g) h1 j0)))∧X22∧X23∧X24∧(h1≤n)∧(n-h1<n-h)) _ _ _ _ _ _ _ _ _ _ _ _ _ _ _ _ _ _ _ _ _ _ _ _))))∧((decide ((h:Int)<(n:Int)))=false→_∧((fun X1 X2 X3 X4 X5 X6 X7 X8 X9 X10 X11 X12 X13 X14 X15 X16 X17 X18:Prop=>∃g1:Nat,X1∧X2∧X3∧(((g+1:Nat):Int)=(g1:Int))∧X4∧X5∧X6∧X7∧X8∧X9∧X10∧X11∧X12∧X13∧X14∧X15∧X16∧X17∧X18∧(∀j0,j0<n→((etaI (e g).1 (e g).2 (etaXs (basX n D v) e g) h j0:Rat)=((etaXs (basX n D v) e g1) j0)))∧(g1≤m)∧(m-g1<m-g)) _ _ _ _ _ _ _ _ _ _ _ _ _ _ _ _ _ _)))))∧((decide ((g:Int)<(m:Int)))=false→(_∧_∧_∧_∧_∧_∧_∧_∧_∧_∧_∧_∧_∧_∧_∧_∧_∧(∀j0,j0<n→(((etaXs (basX n D v) e g) j0:Rat)=(etaXs (basX n D v) e m j0)))))))) (fun B=>by kernel_rfl)
  (fun B=>⟨(sLuSolve (U:=(luS n D n).1) (L:=(luS n D n).2.1) (o:=(luS n D n).2.2.2.2) (n:=n) (b:=v) (P:=(luS n D n).2.2.1) hn (lu_bij n (Nat.le_refl n) hok).lt (lu_hL hD hn hok) (lu_hU hD hn hok) (fun j hj=>Nat.le_trans (hv j hj) (by decide))),rfl,(rf 0),(rf 0),(rf (some (B 0))),(rf 0),(rf n),(leS (mE (luS n D n).2.1 n) n),(rf n),(leS (mE ((luS n D n).1) n) n),(rf n),(leS (fun i0=>iN ((luS n D n).2.2.1 i0)) n),(rf ((luS n D n).2.2.2.2:Bool)),(rf 0),(rf n),(leS (mE C n) n),(rf m),(leS (fun i0=>.agg (c2 (iN ((e i0).1)) (vE (e i0).2 n))) m),(rf n),(fun j0 hj0=>rfl),⟨0,(rf 0),(rf 0),(rf (m:Int)),zo,(rf (some (B 0))),(rf 0),(rf n),(leS (mE (luS n D n).2.1 n) n),(rf n),(leS (mE ((luS n D n).1) n) n),(rf n),(leS (fun i0=>iN ((luS n D n).2.2.1 i0)) n),(rf ((luS n D n).2.2.2.2:Bool)),(rf 0),(rf n),(leS (mE C n) n),(rf m),(leS (fun i0=>.agg (c2 (iN ((e i0).1)) (vE (e i0).2 n))) m),(rf n),(fun j0 hj0=>rfl),zo⟩,fun g hg=>⟨fun hc28=>have hc28:=dT hc28;have hgm:g<m:=zo;have hk:=H.at_ g hgm;have hdv:=eta_div (Nat.le_trans (hx g zo _ hk) (by decide)) (hw g hgm _ hk);⟨(rf (g:Int)),zo,zo,(rf (((e g).1:Nat):Int)),zo,zo,(rf (((e g).1:Nat):Int)),zo,sRatDiv (p:=(etaXs (basX n D v) e g) ((e g).1)) (q:=(e g).2 ((e g).1)) hdv,(rf (((e g).1:Nat):Int)),zo,zo,etaI_put,(fun t ht hne=>by rw[etaI_zero hne]),⟨0,(rf 0),(rf 0),(rf (m:Int)),(rf 0),(rf (g:Int)),(rf (n:Int)),zo,(rf (some (B 0))),(rf 0),(rf n),(leS (mE (luS n D n).2.1 n) n),(rf n),(leS (mE ((luS n D n).1) n) n),(rf n),(leS (fun i0=>iN ((luS n D n).2.2.1 i0)) n),(rf ((luS n D n).2.2.2.2:Bool)),(rf 0),(rf n),(leS (mE C n) n),(rf m),(leS (fun i0=>.agg (c2 (iN ((e i0).1)) (vE (e i0).2 n))) m),(rf n),(fun j0 hj0=>rfl),(rf (((e g).1:Nat):Int)),(rf n),(leS (fun i0=>.rat ((e g).2 i0)) n),zo⟩,fun h hh=>⟨fun hc53=>have hc53:=dT hc53;have hhn:h<n:=zo;⟨fun hc58=>have hne:h≠(e g).1:=(by simp at hc58;omega);have hr:=eta_room hne (hx g zo _ hk) (hw g hgm _ hk) (hx g zo h hhn) (hw g hgm h hhn);⟨(rf (h:Int)),zo,zo,(rf (h:Int)),zo,(rf (((e g).1:Nat):Int)),zo,zo,sRatMul (p:=(e g).2 h) (q:=etaI (e g).1 (e g).2 (etaXs (basX n D v) e g) h ((e g).1)) hr.1,sRatSub (p:=etaI (e g).1 (e g).2 (etaXs (basX n D v) e g) h h) (q:=((e g).2 h)*(etaI (e g).1 (e g).2 (etaXs (basX n D v) e g) h ((e g).1))) hr.2,(rf (h:Int)),zo,zo,(etaI_at hne),(fun t ht hne=>by rw[etaI_ne hne]),(wI (g:=h) zo),h+1,(rf 0),(rf 0),(rf (m:Int)),(rf 0),(rf (g:Int)),(rf (n:Int)),zo,(rf (some (B 0))),(rf 0),(rf n),(leS (mE (luS n D n).2.1 n) n),(rf n),(leS (mE ((luS n D n).1) n) n),(rf n),(leS (fun i0=>iN ((luS n D n).2.2.1 i0)) n),(rf ((luS n D n).2.2.2.2:Bool)),(rf 0),(rf n),(leS (mE C n) n),(rf m),(leS (fun i0=>.agg (c2 (iN ((e i0).1)) (vE (e i0).2 n))) m),(rf n),(fun j0 hj0=>(by first | rfl | exact etaI_skip hne)),(rf (((e g).1:Nat):Int)),(rf n),(leS (fun i0=>.rat ((e g).2 i0)) n),zo,zo⟩,fun hc58=>have hne:h=(e g).1:=(by simp at hc58;omega);⟨(wI (g:=h) zo),h+1,(rf 0),(rf 0),(rf (m:Int)),(rf 0),(rf (g:Int)),(rf (n:Int)),zo,(rf (some (B 0))),(rf 0),(rf n),(leS (mE (luS n D n).2.1 n) n),(rf n),(leS (mE ((luS n D n).1) n) n),(rf n),(leS (fun i0=>iN ((luS n D n).2.2.1 i0)) n),(rf ((luS n D n).2.2.2.2:Bool)),(rf 0),(rf n),(leS (mE C n) n),(rf m),(leS (fun i0=>.agg (c2 (iN ((e i0).1)) (vE (e i0).2 n))) m),(rf n),(fun j0 hj0=>(by first | rfl | exact etaI_skip hne)),(rf (((e g).1:Nat):Int)),(rf n),(leS (fun i0=>.rat ((e g).2 i0)) n),zo,zo⟩⟩,fun hc53=>have hc53:=dF hc53;have hi3:h=n:=zo;⟨(wI (g:=g) zo),g+1,(rf 0),(rf 0),(rf (m:Int)),zo,(rf (some (B 0))),(rf 0),(rf n),(leS (mE (luS n D n).2.1 n) n),(rf n),(leS (mE ((luS n D n).1) n) n),(rf n),(leS (fun i0=>iN ((luS n D n).2.2.1 i0)) n),(rf ((luS n D n).2.2.2.2:Bool)),(rf 0),(rf n),(leS (mE C n) n),(rf m),(leS (fun i0=>.agg (c2 (iN ((e i0).1)) (vE (e i0).2 n))) m),(rf n),(fun j0 hj0=>(by rw[hi3];exact etaI_all (by assumption))),zo,zo⟩⟩⟩,fun hc28=>have hc28:=dF hc28;have hi2:g=m:=zo;⟨(rf 0),(rf (true:Bool)),(rf (some (B 0))),(rf 0),(rf n),(leS (mE (luS n D n).2.1 n) n),(rf n),(leS (mE ((luS n D n).1) n) n),(rf n),(leS (fun i0=>iN ((luS n D n).2.2.1 i0)) n),(rf ((luS n D n).2.2.2.2:Bool)),(rf 0),(rf n),(leS (mE C n) n),(rf m),(leS (fun i0=>.agg (c2 (iN ((e i0).1)) (vE (e i0).2 n))) m),(rf n),(fun j0 hj0=>(by rw[hi2]))⟩⟩⟩)
theorem sBSolve_no{D C:Nat→Nat→Rat}{e:Etas}{n m:Nat}{v:Nat→Rat}{l:Nat}(h:l≠n):CallOKm Tryz.prog 17 [.one (bV 1 2 (luS n D n) n),.one (.row 33 1 (mE C n) n),.one (eE e n m)] [.own 0 0,.sl 3 (fun i0=>.rat (v i0)) l] (c2 (.sl 3 (fun _=>.rat 0) 0) (bX false)) [.one (bV 3 4 (luS n D n) n),.dead,.dead,.one (.row 33 1 (mE C n) n),.one (eE e n m)]:=by
 exact callOKm_P (ch:=fun B=>[.reg 1 [(5,.callS (c2 (.sl 3 (fun _=>.rat 0) 0) (bX false)) [])],.dec 21 true,.ret 3 [(0,.id 0),(3,.id 1),(4,.id 2)]]) hMix Tryz.func17 rfl (by kernel_rfl) (by kernel_rfl) (by kernel_rfl) (fun B=>_∧((!false)=true)∧(_∧_∧_∧_∧_∧_∧_∧_∧_∧_∧_∧_∧_∧_∧_∧_)) (fun B=>by kernel_rfl)
  (fun B=>⟨(sLuSolve_no (U:=(luS n D n).1) (L:=(luS n D n).2.1) (P:=(luS n D n).2.2.1) (o:=(luS n D n).2.2.2.2) (n:=n) (k:=l) (b:=v) h),rfl,(rf 0),(rf (false:Bool)),(rf (some (B 0))),(rf 0),(rf n),(leS (mE (luS n D n).2.1 n) n),(rf n),(leS (mE ((luS n D n).1) n) n),(rf n),(leS (fun i0=>iN ((luS n D n).2.2.1 i0)) n),(rf ((luS n D n).2.2.2.2:Bool)),(rf 0),(rf n),(leS (mE C n) n),(rf m),(leS (fun i0=>.agg (c2 (iN ((e i0).1)) (vE (e i0).2 n))) m)⟩)
open Go.RowKit
theorem sMatOfF{C:Nat→Nat→Rat}{n:Nat}(hn:n≤64):CallOKm Tryz.prog 58 [.one (.var 100 (.agg (c3 (.own 1 0) (.ex (.pointer none)) (.ex (.slice none 0 0))))),.one (.row 33 1 (mE C n) n)] [iN n,.own 1 0] (c2 (.agg (c2 (.sl 1 (mE C n) n) (iN n))) (bX true)) [.one (.var 100 (.agg (c3 (.own 2 0) (.ex (.pointer none)) (.ex (.slice none 0 0))))),.dead,.one (.row 33 1 (mE C n) n)]:=by
 exact callOKm_P (ch:=fun B=>[.reg 1 [(3,.callS (c2 (.agg (c2 (.own 0 0) (iN n))) (bX true)) [.one (.row 33 1 (fun i0=>.own 1 i0) n),.fam n (fun _=>.row 47 3 (fun _=>.rat 0) n)])],.dec 18 false,.loop 5 (Nat) (fun g=>g≤n) (fun g=>n-g) (fun g=>⟨[(0,iN n),(4,.own 2 0),(6,.own 5 0),(20,.own 1 0),(21,iN n),(22,iN g)],[(0,.one (.var 100 (.agg (c3 (.own 1 0) (.ex (.pointer none)) (.ex (.slice none 0 0)))) (some (B 0)))),(1,.one (.row 33 1 (mE C n) n)),(2,.one (.var 53 (.ex (.agg #[.slice none 0 0,.int .i64 0])))),(3,.one (.row 33 1 (fun i0=>.own 4 i0) n)),(4,.fam n (fun i0=>.row 47 3 (fun i1=>.rat (uptoR g C i0 i1)) n)),(5,.one (.var 53 (.agg (c2 (.own 3 0) (iN n)))))],6⟩) [(0,.id 0),(1,.id 1),(2,.id 2),(3,.id 3),(4,.id 4),(5,.id 5)] (fun _=>[(0,.id 0),(1,.id 1),(2,.id 2),(3,.id 3),(4,.id 4),(5,.id 5)]) (fun g=>[.reg 6 [(1,.k g)],.dec 30 false,.reg 9 [(3,.k g),(6,.rowF (fun i0=>.rat (uptoR (g+1) C g i0)) (fun i0=>.row 47 3 (fun i1=>.rat (uptoR (g+1) C i0 i1)) n))],.reg 10 [(0,.z ((g+1:Nat):Int))],.ret 11 [(0,.id 0),(2,.id 1)]])]) hMix Tryz.func58 rfl (by kernel_rfl) (by kernel_rfl) (by kernel_rfl) (fun B=>_∧((!true)=false)∧(((fun X1 X2 X3 X4 X5 X6 X7 X8 X9 X10 X11 X12 X13:Prop=>∃g0:Nat,X1∧X2∧X3∧X4∧X5∧((0:Int)=(g0:Int))∧X6∧X7∧((.pointer none:Value)=.pointer none)∧X8∧X9∧((.agg #[.slice none 0 0,.int .i64 0]:Value)=.agg #[.slice none 0 0,.int .i64 0])∧X10∧(∀j0,j0<n→((j0:Nat)=j0))∧X11∧(∀j0,j0<n→((n:Nat)=n)∧(∀j1,j1<n→((0:Rat)=(uptoR g0 C j0 j1))))∧X12∧X13∧(g0≤n)) _ _ _ _ _ _ _ _ _ _ _ _ _)∧∀g:Nat,(g≤n)→(((decide ((g:Int)<(n:Int)))=true→_∧(g<n)∧(g<n)∧((!decide ((n:Int)=(n:Int)))=false)∧_∧(g<n)∧(g<n)∧(n≤n)∧(∀j0,j0<n→n≤j0→(.rat (uptoR (g+1) C g j0):SV)=.rat (uptoR g C g j0))∧(∀j0,j0<n→((C g j0:Rat)=(uptoR (g+1) C g j0)))∧(g<n)∧((.row 47 3 (fun i0=>.rat (uptoR (g+1) C g i0)) n:OB)=.row 47 3 (fun i0=>.rat (uptoR (g+1) C g i0)) n)∧(∀t,t<n→t≠g→(.row 47 3 (fun i0=>.rat (uptoR (g+1) C t i0)) n:OB)=.row 47 3 (fun i0=>.rat (uptoR g C t i0)) n)∧_∧((fun X1 X2 X3 X4 X5 X6 X7 X8 X9 X10 X11 X12 X13:Prop=>∃g1:Nat,X1∧X2∧X3∧X4∧X5∧(((g+1:Nat):Int)=(g1:Int))∧X6∧X7∧((.pointer none:Value)=.pointer none)∧X8∧X9∧((.agg #[.slice none 0 0,.int .i64 0]:Value)=.agg #[.slice none 0 0,.int .i64 0])∧X10∧(∀j0,j0<n→((j0:Nat)=j0))∧X11∧(∀j0,j0<n→((n:Nat)=n)∧(∀j1,j1<n→((uptoR (g+1) C j0 j1:Rat)=(uptoR g1 C j0 j1))))∧X12∧X13∧(g1≤n)∧(n-g1<n-g)) _ _ _ _ _ _ _ _ _ _ _ _ _))∧((decide ((g:Int)<(n:Int)))=false→(_∧(∀j0,j0<n→((n:Nat)=n)∧(∀j1,j1<n→((uptoR g C j0 j1:Rat)=(C j0 j1)))∧(j0<n))∧_∧_∧_∧_∧((.pointer none:Value)=.pointer none)∧_∧_))))) (fun B=>by kernel_rfl)
  (fun B=>⟨sMatNew (m:=n) (n:=n) zo zo,rfl,⟨0,(rf (n:Int)),(rf 0),(rf 0),(rf 0),(rf (n:Int)),zo,(rf (some (B 0))),(rf 0),rfl,(rf n),(leS (mE C n) n),rfl,(rf n),(fun j0 hj0=>rfl),(rf n),(fun j0 hj0=>⟨rfl,(fun j1 hj1=>(by rw[uptoR_zero]))⟩),(rf 0),(rf (n:Int)),zo⟩,fun g hg=>⟨fun hc23=>have hc23:=dT hc23;⟨(rf (g:Int)),zo,zo,(by simp),(rf (g:Int)),zo,zo,zo,(fun j0 hj0 hm=>absurd hj0 (Nat.not_lt.2 hm)),(fun j0 hj0=>(by rw[uptoR_at])),zo,rfl,(fun t ht hne=>by simp only[uptoR_ne hne]),(wI (g:=g) zo),g+1,(rf (n:Int)),(rf 0),(rf 0),(rf 0),(rf (n:Int)),zo,(rf (some (B 0))),(rf 0),rfl,(rf n),(leS (mE C n) n),rfl,(rf n),(fun j0 hj0=>rfl),(rf n),(fun j0 hj0=>⟨rfl,(fun j1 hj1=>rfl)⟩),(rf 0),(rf (n:Int)),zo,zo⟩,fun hc23=>have hc23:=dF hc23;have hi2:g=n:=zo;⟨(rf n),(fun j0 hj0=>⟨rfl,(fun j1 hj1=>(by rw[hi2];exact uptoR_all zo)),zo⟩),(rf (n:Int)),(rf (true:Bool)),(rf (some (B 0))),(rf 0),rfl,(rf n),(leS (mE C n) n)⟩⟩⟩)
theorem sBMatrixF{C:Nat→Nat→Rat}{n:Nat}(hn:n≤64):CallOKm Tryz.prog 21 [.one (.var 100 (.agg (c3 (.own 1 0) (.ex (.pointer none)) (.ex (.slice none 0 0))))),.one (.row 33 1 (mE C n) n)] [.own 0 0] (.agg (c2 (.sl 1 (mE (trM C) n) n) (iN n))) [.one (.var 100 (.agg (c3 (.own 2 0) (.ex (.pointer none)) (.ex (.slice none 0 0))))),.dead,.one (.row 33 1 (mE C n) n)]:=by
 exact callOKm_P (ch:=fun B=>[.reg 1 [(9,.callM [0,1] [.one (.var 100 (.agg (c3 (.own 1 0) (.ex (.pointer none)) (.ex (.slice none 0 0)))) (some (B 0))),.one (.row 33 1 (mE C n) n)] [iN n,.own 1 0] (c2 (.agg (c2 (.sl 1 (mE C n) n) (iN n))) (bX true)) [.one (.var 100 (.agg (c3 (.own 2 0) (.ex (.pointer none)) (.ex (.slice none 0 0)))) (some (B 0))),.dead,.one (.row 33 1 (mE C n) n)])],.reg 2 [(1,.callS (.agg (c2 (.sl 1 (fun i0=>.sl 3 (fun i1=>.rat (C i1 i0)) n) n) (iN n))) [])],.ret 2 [(0,.id 0),(2,.id 3)]]) hMix Tryz.func21 rfl (by kernel_rfl) (by kernel_rfl) (by kernel_rfl) (fun B=>(CallOKm Tryz.prog 58 [.one (.var 100 (.agg (c3 (.own 1 0) (.ex (.pointer none)) (.ex (.slice none 0 0)))) (some (B 0))),.one (.row 33 1 (mE C n) n)] [iN n,.own 1 0] (c2 (.agg (c2 (.sl 1 (mE C n) n) (iN n))) (bX true)) [.one (.var 100 (.agg (c3 (.own 2 0) (.ex (.pointer none)) (.ex (.slice none 0 0)))) (some (B 0))),.dead,.one (.row 33 1 (mE C n) n)])∧_∧_∧_∧_∧_∧_∧(_∧(∀j0,j0<n→((n:Nat)=n)∧(∀j1,j1<n→((C j1 j0:Rat)=((trM C) j0 j1))))∧_∧_∧_∧((.pointer none:Value)=.pointer none)∧_∧_)) (fun B=>by kernel_rfl)
  (fun B=>⟨((sMatOfF (C:=C) zo)).tag0 (b:=B 0),(rf (.one (.var 100 (.agg (c3 (.own 1 0) (.ex (.pointer none)) (.ex (.slice none 0 0)))) (some (B 0))):Hl)),(rf (.one (.row 33 1 (mE C n) n):Hl)),(rf (n:Int)),(rf 1),(rf 0),sMatTurned (m:=n) (n:=n) (q:=C) zo zo,(rf n),(fun j0 hj0=>⟨rfl,(fun j1 hj1=>rfl)⟩),(rf (n:Int)),(rf (some (B 0))),(rf 0),rfl,(rf n),(leS (mE C n) n)⟩)
theorem sBFactorF{C:Nat→Nat→Rat}{n:Nat}(hn:n≤6)(hD:HtB n n 3 (trM C))(hok:luOK n (trM C) n):CallOKm Tryz.prog 49 [.one (.var 100 (.agg (c3 (.own 1 0) (.ex (.pointer none)) (.ex (.slice none 0 0))))),.one (.row 33 1 (mE C n) n)] [.own 0 0] (bX true) [.one (.var 100 (.agg (c3 (.own 2 0) (.ep (lvE (luS n (trM C) n) n)) (.ex (.slice none 0 0))))),.dead,.one (.row 33 1 (mE C n) n)]:=by
 exact callOKm_P (ch:=fun B=>[.reg 1 [(1,.callM [0,1] [.one (.var 100 (.agg (c3 (.own 1 0) (.ex (.pointer none)) (.ex (.slice none 0 0)))) (some (B 0))),.one (.row 33 1 (mE C n) n)] [.own 0 0] (.agg (c2 (.sl 1 (mE (trM C) n) n) (iN n))) [.one (.var 100 (.agg (c3 (.own 2 0) (.ex (.pointer none)) (.ex (.slice none 0 0)))) (some (B 0))),.dead,.one (.row 33 1 (mE C n) n)]),(2,.callS (c2 (.ep (lvE (luS n (trM C) n) n)) (bX true)) [])],.dec 11 true,.ret 4 [(0,.id 0),(2,.id 2)]]) hMix Tryz.func49 rfl (by kernel_rfl) (by kernel_rfl) (by kernel_rfl) (fun B=>(CallOKm Tryz.prog 21 [.one (.var 100 (.agg (c3 (.own 1 0) (.ex (.pointer none)) (.ex (.slice none 0 0)))) (some (B 0))),.one (.row 33 1 (mE C n) n)] [.own 0 0] (.agg (c2 (.sl 1 (mE (trM C) n) n) (iN n))) [.one (.var 100 (.agg (c3 (.own 2 0) (.ex (.pointer none)) (.ex (.slice none 0 0)))) (some (B 0))),.dead,.one (.row 33 1 (mE C n) n)])∧_∧_∧_∧_∧_∧(true=true)∧(_∧_∧_∧_∧_∧_∧_∧_∧_∧_∧_∧_)) (fun B=>by kernel_rfl)
  (fun B=>⟨((sBMatrixF (C:=C) zo)).tag0 (b:=B 0),(rf (.one (.var 100 (.agg (c3 (.own 1 0) (.ex (.pointer none)) (.ex (.slice none 0 0)))) (some (B 0))):Hl)),(rf (.one (.row 33 1 (mE C n) n):Hl)),(rf 0),(rf 0),(sLuFactor (n:=n) (q:=(trM C)) zo (lu_hH hD hn) hok),rfl,(rf (true:Bool)),(rf (some (B 0))),(rf 0),(rf n),(leS (mE (luS n (trM C) n).2.1 n) n),(rf n),(leS (mE ((luS n (trM C) n).1) n) n),(rf n),(leS (fun i0=>iN ((luS n (trM C) n).2.2.1 i0)) n),(rf ((luS n (trM C) n).2.2.2.2:Bool)),(rf n),(leS (mE C n) n)⟩)
theorem sBFactorX{C:Nat→Nat→Rat}{n:Nat}(hn:n≤6)(hD:HtB n n 3 (trM C))(hok:¬luOK n (trM C) n):CallOKm Tryz.prog 49 [.one (.var 100 (.agg (c3 (.own 1 0) (.ex (.pointer none)) (.ex (.slice none 0 0))))),.one (.row 33 1 (mE C n) n)] [.own 0 0] (bX false) [.one (.var 100 (.agg (c3 (.own 2 0) (.ex (.pointer none)) (.ex (.slice none 0 0))))),.dead,.one (.row 33 1 (mE C n) n)]:=by
 exact callOKm_P (ch:=fun B=>[.reg 1 [(1,.callM [0,1] [.one (.var 100 (.agg (c3 (.own 1 0) (.ex (.pointer none)) (.ex (.slice none 0 0)))) (some (B 0))),.one (.row 33 1 (mE C n) n)] [.own 0 0] (.agg (c2 (.sl 1 (mE (trM C) n) n) (iN n))) [.one (.var 100 (.agg (c3 (.own 2 0) (.ex (.pointer none)) (.ex (.slice none 0 0)))) (some (B 0))),.dead,.one (.row 33 1 (mE C n) n)]),(2,.callS (c2 (.ex (.pointer none)) (bX false)) [])],.dec 11 false,.ret 4 [(0,.id 0),(2,.id 2)]]) hMix Tryz.func49 rfl (by kernel_rfl) (by kernel_rfl) (by kernel_rfl) (fun B=>(CallOKm Tryz.prog 21 [.one (.var 100 (.agg (c3 (.own 1 0) (.ex (.pointer none)) (.ex (.slice none 0 0)))) (some (B 0))),.one (.row 33 1 (mE C n) n)] [.own 0 0] (.agg (c2 (.sl 1 (mE (trM C) n) n) (iN n))) [.one (.var 100 (.agg (c3 (.own 2 0) (.ex (.pointer none)) (.ex (.slice none 0 0)))) (some (B 0))),.dead,.one (.row 33 1 (mE C n) n)])∧_∧_∧_∧_∧_∧(false=false)∧(_∧_∧_∧((.pointer none:Value)=.pointer none)∧_∧_)) (fun B=>by kernel_rfl)
  (fun B=>⟨((sBMatrixF (C:=C) zo)).tag0 (b:=B 0),(rf (.one (.var 100 (.agg (c3 (.own 1 0) (.ex (.pointer none)) (.ex (.slice none 0 0)))) (some (B 0))):Hl)),(rf (.one (.row 33 1 (mE C n) n):Hl)),(rf 0),(rf 0),(sLuFactorSing (n:=n) (q:=(trM C)) zo (lu_hH hD hn) hok),rfl,(rf (false:Bool)),(rf (some (B 0))),(rf 0),rfl,(rf n),(leS (mE C n) n)⟩)
theorem sBFactor{D C:Nat→Nat→Rat}{e:Etas}{n m:Nat}(hn:n≤6)(hD:HtB n n 3 (trM C))(hok:luOK n (trM C) n):CallOKm Tryz.prog 49 [.one (bV 1 2 (luS n D n) n),.one (.row 33 1 (mE C n) n),.one (eE e n m)] [.own 0 0] (bX true) [.one (.var 100 (.agg (c3 (.own 3 0) (.ep (lvE (luS n (trM C) n) n)) (.ex (.slice none 0 0))))),.dead,.dead,.one (.row 33 1 (mE C n) n)]:=by
 exact callOKm_P (ch:=fun B=>[.reg 1 [(1,.callM [0,1,2] [.one (bV 1 2 (luS n D n) n (some (B 0))),.one (.row 33 1 (mE C n) n),.one (eE e n m)] [.own 0 0] (.agg (c2 (.sl 1 (fun i0=>.sl 3 (fun i1=>.rat (trM C i0 i1)) n) n) (iN n))) [.one (bV 3 4 (luS n D n) n (some (B 0))),.dead,.dead,.one (.row 33 1 (mE C n) n),.one (eE e n m)]),(2,.callS (c2 (.ep (lvE (luS n (trM C) n) n)) (bX true)) [])],.dec 11 true,.ret 4 [(0,.id 0),(3,.id 3)]]) hMix Tryz.func49 rfl (by kernel_rfl) (by kernel_rfl) (by kernel_rfl) (fun B=>_∧_∧_∧_∧_∧_∧_∧(true=true)∧(_∧_∧_∧_∧_∧_∧_∧_∧_∧_∧_∧_)) (fun B=>by kernel_rfl)
  (fun B=>⟨((sBMatrix (D:=D) (C:=C) (e:=e) (m:=m) (n:=n) zo)).tag0 (b:=B 0),(rf (.one (bV 1 2 (luS n D n) n (some (B 0))):Hl)),(rf (.one (.row 33 1 (mE C n) n):Hl)),(rf (.one (eE e n m):Hl)),(rf 0),(rf 0),(sLuFactor (n:=n) (q:=(trM C)) zo (lu_hH hD hn) hok),rfl,(rf (true:Bool)),(rf (some (B 0))),(rf 0),(rf n),(leS (mE (luS n (trM C) n).2.1 n) n),(rf n),(leS (mE ((luS n (trM C) n).1) n) n),(rf n),(leS (fun i0=>iN ((luS n (trM C) n).2.2.1 i0)) n),(rf ((luS n (trM C) n).2.2.2.2:Bool)),(rf n),(leS (mE C n) n)⟩)
open Go.RowKit
@[simp] theorem sCol_sCol:(sCol.toList==sCol.toList)=true:=beq_self_eq_true _
@[simp] theorem sNo_sNo:(sNo.toList==sNo.toList)=true:=beq_self_eq_true _
@[simp] theorem sCol_sNo:(sCol.toList==sNo.toList)=false:=by
 have h1:sNo.toList=[]:=by simp[ByteArray.toList,ByteArray.toList.loop,ByteArray.size]
 have h2:sCol.toList.length≠0:=by simp[ByteArray.toList,ByteArray.toList.loop,ByteArray.size]
 rw[h1]
 cases h:sCol.toList with
 | nil=>rw[h] at h2;exact absurd rfl h2
 | cons a l=>rfl
theorem sWrap{s:ByteArray}{k n:Int}:CallOK Tryz.prog 48 [.ex (.iface 63 (.int .i64 n)),.ex (.string s),.ex (.int .i64 k)] (.ifc 113 (.ep (.agg (c3 (.ex (.string s)) (.ex (.int .i64 k)) (.ex (.iface 63 (.int .i64 n))))))) []:=by
 exact kP (ch:=[.dec 8 false]) Tryz.func48 ((false=false)∧(((.string s:Value)=.string s)∧_∧((.iface 63 (.int .i64 n):Value)=.iface 63 (.int .i64 n))))
  ⟨rfl,rfl,(rf (k:Int)),rfl⟩
theorem sToldF{n k:Int}:CallOK Tryz.prog 27 [.ifc 113 (.ep (.agg (c3 (.ex (.string sCol)) (.ex (.int .i64 k)) (.ex (.iface 63 (.int .i64 n)))))),.ex (.int .i64 n),.ex (.string sCol),.ex (.int .i64 k)] (bX true) []:=by
 exact kP (ch:=[.reg 1 [(1,.callS (c3 (.ex (.string sCol)) (.ex (.int .i64 k)) (bX true)) [])],.reg 2 [(1,.callS (.ex (.int .i64 n)) []),(9,.skip)],.dec 27 false,.reg 4 [(10,.sure .no),(11,.skip)]]) Tryz.func27 ((CallOK Tryz.prog 23 [.ifc 113 (.ep (.agg (c3 (.ex (.string sCol)) (.ex (.int .i64 k)) (.ex (.iface 63 (.int .i64 n))))))] (c3 (.ex (.string sCol)) (.ex (.int .i64 k)) (bX true)) [])∧(CallOK Tryz.prog 63 [.ifc 113 (.ep (.agg (c3 (.ex (.string sCol)) (.ex (.int .i64 k)) (.ex (.iface 63 (.int .i64 n))))))] (.ex (.int .i64 n)) [])∧(((!decide ((n:Int)=n))==false)=true→((!decide ((n:Int)=n))==false)=true)∧(((!decide ((n:Int)=n))==false)=true→((!decide ((n:Int)=n))==false)=true)∧(((!decide ((n:Int)=n))==false)=true→((!decide ((n:Int)=n))==false)=true)∧((!decide ((n:Int)=n))=false)∧(((!decide ((n:Int)=n))==false)=true)∧((!(true==(!((sCol).toList==(sNo).toList))))=false)∧(((!true)==false)=true→((!true)==false)=true)∧(((!true)==false)=true→((!true)==false)=true)∧(((!true)==false)=true→((!true)==false)=true)∧(((((!true)==false)&&true)&&(((sCol).toList==(sCol).toList)==true))=true→((((!true)==false)&&true)&&(((sCol).toList==(sCol).toList)==true))=true)∧(((((!true)==false)&&true)&&(((sCol).toList==(sCol).toList)==true))=true→((((!true)==false)&&true)&&(((sCol).toList==(sCol).toList)==true))=true)∧(((!true)==false)=true→((!true)==false)=true)∧(((!true)==false)=true→((sCol).toList==(sCol).toList)=true)∧(((!true)==false)=true→((((!true)==false)&&true)&&(((sCol).toList==(sCol).toList)==true))=true)∧((!true)=false)∧(((!true)==false)=true)∧(((decide ((k:Int)=k):Bool)=true)))
  ⟨sPlaceF,sNumberF,id,id,id,(by first | (simp;done) | (simp at hg)),(by first | (simp;done) | (simp at hg)),(by first | (simp;done) | (simp at hg)),id,id,id,id,id,id,(fun hg=>(by first | (simp;done) | (simp at hg))),(fun hg=>(by first | (simp;done) | (simp at hg))),(by first | (simp;done) | (simp at hg)),(by first | (simp;done) | (simp at hg)),(by first | (simp;done) | (simp at hg))⟩
open Go.RowKit
theorem sBNew{C:Nat→Nat→Rat}{e:Etas}{n:Nat}(hn:n≤6)(hD:HtB n n 3 (trM C))(hok:luOK n (trM C) n):CallOK Tryz.prog 13 [.sl 1 (mE C n) n] (c2 (.own 0 0) (.ex (.nilIface))) [.one (bV 1 2 (luS n (trM C) n) n),.one (.row 33 1 (mE C n) n),.one (eE e n 0)]:=by
 exact kP (ch:=[.loop 3 (Nat) (fun g=>g≤n) (fun g=>n-g) (fun g=>⟨[(0,.sl 1 (mE C n) n),(4,.own 0 0),(9,.sl 1 (mE C n) n),(10,iN n),(11,iN g)],[(0,.one (.var 100 (.agg (c3 (.own 1 0) (.ex (.pointer none)) (.ex (.slice none 0 0)))))),(1,.one (.row 33 1 (mE C n) g))],2⟩) [(0,.id 0),(1,.nil)] (fun _=>[(0,.id 0),(1,.id 2)]) (fun g=>[.reg 4 [(1,.k g)],.dec 25 false,.reg 7 [(6,.callS (.sl 3 (fun i0=>.rat (C g i0)) n) []),(8,.row 0 (mE C n))],.reg 8 [(0,.z ((g+1:Nat):Int))],.conv 9 [(0,.id 0),(1,.id 1)] ⟨[(4,.own 0 0)],[(0,.one (.var 100 (.agg (c3 (.own 1 0) (.ex (.pointer none)) (.ex (.slice none 0 0)))))),(1,.one (.row 33 1 (mE C n) n))],2⟩,.reg 9 [(1,.callM [0,1] [.one (.var 100 (.agg (c3 (.own 1 0) (.ex (.pointer none)) (.ex (.slice none 0 0))))),.one (.row 33 1 (mE C n) n)] [.own 0 0] (bX true) [.one (.var 100 (.agg (c3 (.own 2 0) (.ep (lvE (luS n (trM C) n) n)) (.ex (.slice none 0 0))))),.dead,.one (.row 33 1 (mE C n) n)])],.dec 43 false,.ret 11 [(0,.id 0),(1,.id 2),(2,.nil)]])]) Tryz.func13 ((∀j0,j0<n→(∀j1,j1<n→True))∧(((fun X1 X2 X3 X4 X5 X6 X7:Prop=>∃g0:Nat,X1∧X2∧X3∧X4∧X5∧X6∧((0:Int)=(g0:Int))∧X7∧((.pointer none:Value)=.pointer none)∧((g0:Nat)=0)∧(g0≤n)) _ _ _ _ _ _ _)∧∀g:Nat,(g≤n)→(((decide ((g:Int)<(n:Int)))=true→_∧(g<n)∧(((!decide ((n:Int)=(n:Int)))==false)=true→((!decide ((n:Int)=(n:Int)))==false)=true)∧(((!decide ((n:Int)=(n:Int)))==false)=true→((!decide ((n:Int)=(n:Int)))==false)=true)∧((!(!decide ((n:Int)=(n:Int))))=true→((!decide ((n:Int)=(n:Int)))==false)=true)∧((bif (!decide ((n:Int)=(n:Int))) then true else(decide ((64:Int)<(n:Int))))=false)∧_∧(g+1≤68719476736)∧_∧_∧_∧((fun X1 X2 X3 X4 X5 X6 X7 X8:Prop=>∃g1:Nat,X1∧X2∧X3∧X4∧X5∧X6∧(((g+1:Nat):Int)=(g1:Int))∧X7∧((.pointer none:Value)=.pointer none)∧((g+1:Nat)=g1)∧X8∧(g1≤n)∧(n-g1<n-g)) _ _ _ _ _ _ _ _))∧((decide ((g:Int)<(n:Int)))=false→_∧_∧((.pointer none:Value)=.pointer none)∧((g:Nat)=n)∧_∧(CallOKm Tryz.prog 49 [.one (.var 100 (.agg (c3 (.own 1 0) (.ex (.pointer none)) (.ex (.slice none 0 0))))),.one (.row 33 1 (mE C n) n)] [.own 0 0] (bX true) [.one (.var 100 (.agg (c3 (.own 2 0) (.ep (lvE (luS n (trM C) n) n)) (.ex (.slice none 0 0))))),.dead,.one (.row 33 1 (mE C n) n)])∧_∧_∧_∧_∧((!true)=false)∧(_∧((.nilIface:Value)=.nilIface)∧_∧_∧_∧_∧_∧_∧_∧_∧_∧_∧_∧_)))))
  ⟨(fun _ _=>(fun _ _=>trivial)),⟨0,(rf n),(leS (mE C n) n),(rf 0),(rf n),(leS (mE C n) n),(rf (n:Int)),zo,(rf 0),rfl,zo,zo⟩,fun g hg=>⟨fun hc12=>have hc12:=dT hc12;⟨(rf (g:Int)),zo,id,id,(by simp),(by simp;omega),(sVecCopy (n:=n) (q:=(fun i=>C g i)) zo).frzV,zo,(oldS (mE C n) g),(newS (mE C n) g),(wI (g:=g) zo),g+1,(rf n),(leS (mE C n) n),(rf 0),(rf n),(leS (mE C n) n),(rf (n:Int)),zo,(rf 0),rfl,zo,(leS (mE C n) (g+1)),zo,zo⟩,fun hc12=>have hc12:=dF hc12;have hi2:g=n:=zo;⟨(rf 0),(rf 0),rfl,hi2,(leS (mE C n) g),(sBFactorF hn hD hok),(rf (.one (.var 100 (.agg (c3 (.own 1 0) (.ex (.pointer none)) (.ex (.slice none 0 0))))):Hl)),(rf (.one (.row 33 1 (mE C n) n):Hl)),(rf 0),(rf 0),rfl,(rf 0),rfl,(rf 0),(rf n),(leS (mE (luS n (trM C) n).2.1 n) n),(rf n),(leS (mE ((luS n (trM C) n).1) n) n),(rf n),(leS (fun i0=>iN ((luS n (trM C) n).2.2.1 i0)) n),(rf ((luS n (trM C) n).2.2.2.2:Bool)),(rf 0),(rf n),(leS (mE C n) n),(rf 0)⟩⟩⟩
theorem sBNew_sing{C:Nat→Nat→Rat}{n:Nat}(hn:n≤6)(hD:HtB n n 3 (trM C))(hok:¬luOK n (trM C) n):CallOK Tryz.prog 13 [.sl 1 (mE C n) n] (c2 (.ex (.pointer none)) (.ex (.iface 63 (.int .i64 140)))) []:=by
 exact kP (ch:=[.loop 3 (Nat) (fun g=>g≤n) (fun g=>n-g) (fun g=>⟨[(0,.sl 1 (mE C n) n),(4,.own 0 0),(9,.sl 1 (mE C n) n),(10,iN n),(11,iN g)],[(0,.one (.var 100 (.agg (c3 (.own 1 0) (.ex (.pointer none)) (.ex (.slice none 0 0)))))),(1,.one (.row 33 1 (mE C n) g))],2⟩) [(0,.id 0),(1,.nil)] (fun _=>[(0,.id 0),(1,.id 2)]) (fun g=>[.reg 4 [(1,.k g)],.dec 25 false,.reg 7 [(6,.callS (.sl 3 (fun i0=>.rat (C g i0)) n) []),(8,.row 0 (mE C n))],.reg 8 [(0,.z ((g+1:Nat):Int))],.conv 9 [(0,.id 0),(1,.id 1)] ⟨[(4,.own 0 0)],[(0,.one (.var 100 (.agg (c3 (.own 1 0) (.ex (.pointer none)) (.ex (.slice none 0 0)))))),(1,.one (.row 33 1 (mE C n) n))],2⟩,.reg 9 [(1,.callM [0,1] [.one (.var 100 (.agg (c3 (.own 1 0) (.ex (.pointer none)) (.ex (.slice none 0 0))))),.one (.row 33 1 (mE C n) n)] [.own 0 0] (bX false) [.one (.var 100 (.agg (c3 (.own 2 0) (.ex (.pointer none)) (.ex (.slice none 0 0))))),.dead,.one (.row 33 1 (mE C n) n)])],.dec 43 true])]) Tryz.func13 ((∀j0,j0<n→(∀j1,j1<n→True))∧(((fun X1 X2 X3 X4 X5 X6 X7:Prop=>∃g0:Nat,X1∧X2∧X3∧X4∧X5∧X6∧((0:Int)=(g0:Int))∧X7∧((.pointer none:Value)=.pointer none)∧((g0:Nat)=0)∧(g0≤n)) _ _ _ _ _ _ _)∧∀g:Nat,(g≤n)→(((decide ((g:Int)<(n:Int)))=true→_∧(g<n)∧(((!decide ((n:Int)=(n:Int)))==false)=true→((!decide ((n:Int)=(n:Int)))==false)=true)∧(((!decide ((n:Int)=(n:Int)))==false)=true→((!decide ((n:Int)=(n:Int)))==false)=true)∧((!(!decide ((n:Int)=(n:Int))))=true→((!decide ((n:Int)=(n:Int)))==false)=true)∧((bif (!decide ((n:Int)=(n:Int))) then true else(decide ((64:Int)<(n:Int))))=false)∧_∧(g+1≤68719476736)∧_∧_∧_∧((fun X1 X2 X3 X4 X5 X6 X7 X8:Prop=>∃g1:Nat,X1∧X2∧X3∧X4∧X5∧X6∧(((g+1:Nat):Int)=(g1:Int))∧X7∧((.pointer none:Value)=.pointer none)∧((g+1:Nat)=g1)∧X8∧(g1≤n)∧(n-g1<n-g)) _ _ _ _ _ _ _ _))∧((decide ((g:Int)<(n:Int)))=false→_∧_∧((.pointer none:Value)=.pointer none)∧((g:Nat)=n)∧_∧(CallOKm Tryz.prog 49 [.one (.var 100 (.agg (c3 (.own 1 0) (.ex (.pointer none)) (.ex (.slice none 0 0))))),.one (.row 33 1 (mE C n) n)] [.own 0 0] (bX false) [.one (.var 100 (.agg (c3 (.own 2 0) (.ex (.pointer none)) (.ex (.slice none 0 0))))),.dead,.one (.row 33 1 (mE C n) n)])∧_∧_∧_∧_∧((!false)=true)∧(((.pointer none:Value)=.pointer none)∧((.iface 63 (.int .i64 140):Value)=.iface 63 (.int .i64 140)))))))
  ⟨(fun _ _=>(fun _ _=>trivial)),⟨0,(rf n),(leS (mE C n) n),(rf 0),(rf n),(leS (mE C n) n),(rf (n:Int)),zo,(rf 0),rfl,zo,zo⟩,fun g hg=>⟨fun hc12=>have hc12:=dT hc12;⟨(rf (g:Int)),zo,id,id,(by simp),(by simp;omega),(sVecCopy (n:=n) (q:=(fun i=>C g i)) zo).frzV,zo,(oldS (mE C n) g),(newS (mE C n) g),(wI (g:=g) zo),g+1,(rf n),(leS (mE C n) n),(rf 0),(rf n),(leS (mE C n) n),(rf (n:Int)),zo,(rf 0),rfl,zo,(leS (mE C n) (g+1)),zo,zo⟩,fun hc12=>have hc12:=dF hc12;have hi2:g=n:=zo;⟨(rf 0),(rf 0),rfl,hi2,(leS (mE C n) g),(sBFactorX hn hD hok),(rf (.one (.var 100 (.agg (c3 (.own 1 0) (.ex (.pointer none)) (.ex (.slice none 0 0))))):Hl)),(rf (.one (.row 33 1 (mE C n) n):Hl)),(rf 0),(rf 0),rfl,rfl,rfl⟩⟩⟩
theorem sBNew_len{C:Nat→Nat→Rat}{len:Nat→Nat}{n k:Nat}(hn:n≤6)(hk:k<n)(hlen:∀i,i<k→len i=n)(hne:len k≠n):CallOK Tryz.prog 13 [.sl 1 (fun i0=>.sl 3 (fun i1=>.rat (C i0 i1)) (len i0)) n] (c2 (.ex (.pointer none)) (.ifc 113 (.ep (.agg (c3 (.ex (.string sCol)) (iN k) (.ex (.iface 63 (.int .i64 2)))))))) []:=by
 exact kP (ch:=[.loop 3 (Nat) (fun g=>g≤k) (fun g=>n-g) (fun g=>⟨[(0,.sl 1 (fun i0=>.sl 3 (fun i1=>.rat (C i0 i1)) (len i0)) n),(4,.own 0 0),(9,.sl 1 (fun i0=>.sl 3 (fun i1=>.rat (C i0 i1)) (len i0)) n),(10,iN n),(11,iN g)],[(0,.one (.var 100 (.agg (c3 (.own 1 0) (.ex (.pointer none)) (.ex (.slice none 0 0)))))),(1,.one (.row 33 1 (fun i0=>.sl 3 (fun i1=>.rat (C i0 i1)) (len i0)) g))],2⟩) [(0,.id 0),(1,.nil)] (fun _=>[(0,.id 0),(1,.id 2)]) (fun g=>[.reg 4 [(1,.k g)],.reg 6 [(2,.callS (.ifc 113 (.ep (.agg (c3 (.ex (.string sCol)) (iN g) (.ex (.iface 63 (.int .i64 2))))))) [])],.reg 7 [(6,.callS (.sl 3 (fun i0=>.rat (C g i0)) (len g)) []),(8,.row 0 (fun i0=>.sl 3 (fun i1=>.rat (C i0 i1)) (len i0)))],.reg 8 [(0,.z ((g+1:Nat):Int))],.conv 9 [(0,.id 0),(1,.id 1)] ⟨[(4,.own 0 0)],[(0,.one (.var 100 (.agg (c3 (.own 1 0) (.ex (.pointer none)) (.ex (.slice none 0 0)))))),(1,.one (.row 33 1 (mE C n) n))],2⟩,.reg 9 [(1,.callM [0,1] [.one (.var 100 (.agg (c3 (.own 1 0) (.ex (.pointer none)) (.ex (.slice none 0 0))))),.one (.row 33 1 (mE C n) n)] [.own 0 0] (bX false) [.one (.var 100 (.agg (c3 (.own 2 0) (.ex (.pointer none)) (.ex (.slice none 0 0))))),.dead,.one (.row 33 1 (mE C n) n)])],.dec 43 false])]) Tryz.func13 ((∀j0,j0<n→(∀j1,j1<(len j0)→True))∧(((fun X1 X2 X3 X4 X5 X6 X7:Prop=>∃g0:Nat,X1∧X2∧X3∧X4∧X5∧X6∧((0:Int)=(g0:Int))∧X7∧((.pointer none:Value)=.pointer none)∧((g0:Nat)=0)∧(g0≤k)) _ _ _ _ _ _ _)∧∀g:Nat,(g≤k)→(((decide ((g:Int)<(n:Int)))=true→_∧(g<n)∧(((!decide (((len g:Nat):Int)=(n:Int)))==false)=true→((!decide (((len g:Nat):Int)=(n:Int)))==false)=true)∧(((!decide (((len g:Nat):Int)=(n:Int)))==false)=true→((!decide (((len g:Nat):Int)=(n:Int)))==false)=true)∧((!(!decide (((len g:Nat):Int)=(n:Int))))=true→((!decide (((len g:Nat):Int)=(n:Int)))==false)=true)∧(((bif (!decide (((len g:Nat):Int)=(n:Int))) then true else(decide ((64:Int)<(n:Int))))=true→(CallOK Tryz.prog 48 [.ex (.iface 63 (.int .i64 2)),.ex (.string sCol),iN g] (.ifc 113 (.ep (.agg (c3 (.ex (.string sCol)) (iN g) (.ex (.iface 63 (.int .i64 2))))))) [])∧(((.pointer none:Value)=.pointer none)∧((.string sCol:Value)=.string sCol)∧((g:Int)=(k:Int))∧((.iface 63 (.int .i64 2):Value)=.iface 63 (.int .i64 2))))∧((bif (!decide (((len g:Nat):Int)=(n:Int))) then true else(decide ((64:Int)<(n:Int))))=false→_∧(g+1≤68719476736)∧_∧_∧_∧((fun X1 X2 X3 X4 X5 X6 X7 X8:Prop=>∃g1:Nat,X1∧X2∧X3∧X4∧X5∧X6∧(((g+1:Nat):Int)=(g1:Int))∧X7∧((.pointer none:Value)=.pointer none)∧((g+1:Nat)=g1)∧X8∧(g1≤k)∧(n-g1<n-g)) _ _ _ _ _ _ _ _))))∧((decide ((g:Int)<(n:Int)))=false→_∧_∧((.pointer none:Value)=.pointer none)∧((g:Nat)=n)∧(∀j0,j0<g→((len j0:Nat)=n)∧(∀j1,j1<(len j0)→((C j0 j1:Rat)=(C j0 j1))))∧(CallOKm Tryz.prog 49 [.one (.var 100 (.agg (c3 (.own 1 0) (.ex (.pointer none)) (.ex (.slice none 0 0))))),.one (.row 33 1 (mE C n) n)] [.own 0 0] (bX false) [.one (.var 100 (.agg (c3 (.own 2 0) (.ex (.pointer none)) (.ex (.slice none 0 0))))),.dead,.one (.row 33 1 (mE C n) n)])∧_∧_∧_∧_∧((!false)=false)∧((False)∧(False))))))
  ⟨(fun _ _=>(fun _ _=>trivial)),⟨0,(rf n),(leS (fun i0=>.sl 3 (fun i1=>.rat (C i0 i1)) (len i0)) n),(rf 0),(rf n),(leS (fun i0=>.sl 3 (fun i1=>.rat (C i0 i1)) (len i0)) n),(rf (n:Int)),zo,(rf 0),rfl,zo,zo⟩,fun g hg=>⟨fun hc12=>have hc12:=dT hc12;have hgn:g<n:=zo;⟨(rf (g:Int)),zo,id,id,(by simp),fun hc25=>have hgk:g=k:=(by rcases Nat.lt_or_eq_of_le hg with h | h;exact absurd hc25 (by rw[hlen g h];simp;omega);exact h);⟨sWrap,(by first | rfl | rw[hgk]),(by first | rfl | rw[hgk]),(by first | rfl | rw[hgk]),(by first | rfl | rw[hgk])⟩,fun hc25=>have hgk:g<k:=(by rcases Nat.lt_or_eq_of_le hg with h | h;exact h;subst h;simp at hc25;omega);⟨(sVecCopy (n:=len g) (q:=(fun i=>C g i)) (by rw[hlen g hgk];omega)).frzV,zo,(oldS (fun i0=>.sl 3 (fun i1=>.rat (C i0 i1)) (len i0)) g),(newS (fun i0=>.sl 3 (fun i1=>.rat (C i0 i1)) (len i0)) g),(wI (g:=g) zo),g+1,(rf n),(leS (fun i0=>.sl 3 (fun i1=>.rat (C i0 i1)) (len i0)) n),(rf 0),(rf n),(leS (fun i0=>.sl 3 (fun i1=>.rat (C i0 i1)) (len i0)) n),(rf (n:Int)),zo,(rf 0),rfl,zo,(leS (fun i0=>.sl 3 (fun i1=>.rat (C i0 i1)) (len i0)) (g+1)),zo,zo⟩⟩,fun hc12=>have hc12:=dF hc12;have hx:False:=zo;⟨(rf 0),(rf 0),rfl,hx.elim,(fun j0 hj0=>⟨hx.elim,(fun j1 hj1=>rfl)⟩),(sBFactorX hx.elim hx.elim hx.elim),(rf (.one (.var 100 (.agg (c3 (.own 1 0) (.ex (.pointer none)) (.ex (.slice none 0 0))))):Hl)),(rf (.one (.row 33 1 (mE C n) n):Hl)),(rf 0),(rf 0),hx.elim,hx.elim,hx.elim⟩⟩⟩
open Go.RowKit
def setE (e:Etas) (m k:Nat) (w:Nat→Rat) (t:Nat):Nat×(Nat→Rat):=if t=m then(k,w) else e t
theorem setE_self{e:Etas}{m k:Nat}{w:Nat→Rat}:setE e m k w m=(k,w):=if_pos rfl
theorem setE_ne{e:Etas}{m k t:Nat}{w:Nat→Rat}(h:t≠m):setE e m k w t=e t:=if_neg h
def setC (C:Nat→Nat→Rat) (k:Nat) (v:Nat→Rat) (j:Nat):Nat→Rat:=if j=k then v else C j
theorem setC_self{C:Nat→Nat→Rat}{k:Nat}{v:Nat→Rat}:setC C k v k=v:=if_pos rfl
theorem setC_ne{C:Nat→Nat→Rat}{k j:Nat}{v:Nat→Rat}(h:j≠k):setC C k v j=C j:=if_neg h
theorem sBReplace_arg{D C:Nat→Nat→Rat}{e:Etas}{n m:Nat}{v:Nat→Rat}{k:Int}{l:Nat}(hk:k<0∨(n:Int)≤k):CallOKm Tryz.prog 22 [.one (bV 1 2 (luS n D n) n),.one (.row 33 1 (mE C n) n),.one (eE e n m)] [.own 0 0,.ex (.int .i64 k),.sl 3 (fun i0=>.rat (v i0)) l] (.ifc 113 (.ep (.agg (c3 (.ex (.string sCol)) (.ex (.int .i64 k)) (.ex (.iface 63 (.int .i64 1))))))) [.one (bV 3 4 (luS n D n) n),.dead,.dead,.one (.row 33 1 (mE C n) n),.one (eE e n m)]:=by
 exact callOKm_P (ch:=fun B=>[.dec 19 true,.reg 2 [(2,.callS (.ifc 113 (.ep (.agg (c3 (.ex (.string sCol)) (.ex (.int .i64 k)) (.ex (.iface 63 (.int .i64 1))))))) [])],.ret 2 [(0,.id 0),(3,.id 1),(4,.id 2)]]) hMix Tryz.func22 rfl (by kernel_rfl) (by kernel_rfl) (by kernel_rfl) (fun B=>(((decide ((k:Int)<0))==false)=true→((decide ((k:Int)<0))==false)=true)∧(((decide ((k:Int)<0))==false)=true→((decide ((k:Int)<0))==false)=true)∧(((decide ((k:Int)<0))==false)=true→((decide ((k:Int)<0))==false)=true)∧(((decide ((k:Int)<0))==false)=true→((decide ((k:Int)<0))==false)=true)∧(((decide ((k:Int)<0))==false)=true→((decide ((k:Int)<0))==false)=true)∧(((decide ((k:Int)<0))==false)=true→((decide ((k:Int)<0))==false)=true)∧((!(decide ((k:Int)<0)))=true→((decide ((k:Int)<0))==false)=true)∧((bif (decide ((k:Int)<0)) then true else(decide ((n:Int)≤k)))=true)∧(CallOK Tryz.prog 48 [.ex (.iface 63 (.int .i64 1)),.ex (.string sCol),.ex (.int .i64 k)] (.ifc 113 (.ep (.agg (c3 (.ex (.string sCol)) (.ex (.int .i64 k)) (.ex (.iface 63 (.int .i64 1))))))) [])∧(((.string sCol:Value)=.string sCol)∧_∧((.iface 63 (.int .i64 1):Value)=.iface 63 (.int .i64 1))∧_∧_∧_∧_∧_∧_∧_∧_∧_∧_∧_∧_∧_∧_)) (fun B=>by kernel_rfl)
  (fun B=>⟨id,id,id,id,id,id,(by simp),(by simp;omega),sWrap,rfl,(rf (k:Int)),rfl,(rf (some (B 0))),(rf 0),(rf n),(leS (mE (luS n D n).2.1 n) n),(rf n),(leS (mE ((luS n D n).1) n) n),(rf n),(leS (fun i0=>iN ((luS n D n).2.2.1 i0)) n),(rf ((luS n D n).2.2.2.2:Bool)),(rf 0),(rf n),(leS (mE C n) n),(rf m),(leS (fun i0=>.agg (c2 (iN ((e i0).1)) (vE (e i0).2 n))) m)⟩)
theorem sBReplace_len{D C:Nat→Nat→Rat}{e:Etas}{n m:Nat}{v:Nat→Rat}{k:Nat}{l:Nat}(hk:k<n)(hl:l≠n):CallOKm Tryz.prog 22 [.one (bV 1 2 (luS n D n) n),.one (.row 33 1 (mE C n) n),.one (eE e n m)] [.own 0 0,iN k,.sl 3 (fun i0=>.rat (v i0)) l] (.ifc 113 (.ep (.agg (c3 (.ex (.string sCol)) (iN k) (.ex (.iface 63 (.int .i64 2))))))) [.one (bV 3 4 (luS n D n) n),.dead,.dead,.one (.row 33 1 (mE C n) n),.one (eE e n m)]:=by
 exact callOKm_P (ch:=fun B=>[.dec 19 false,.reg 3 [(2,.callM [0,1,2] [.one (bV 1 2 (luS n D n) n (some (B 0))),.one (.row 33 1 (mE C n) n),.one (eE e n m)] [.own 0 0,.sl 3 (fun i0=>.rat (v i0)) l] (c2 (.sl 3 (fun _=>.rat 0) 0) (bX false)) [.one (bV 3 4 (luS n D n) n (some (B 0))),.dead,.dead,.one (.row 33 1 (mE C n) n),.one (eE e n m)])],.dec 30 true,.reg 5 [(2,.callS (.ifc 113 (.ep (.agg (c3 (.ex (.string sCol)) (iN k) (.ex (.iface 63 (.int .i64 2))))))) [])],.ret 5 [(0,.id 0),(3,.id 3),(4,.id 4)]]) hMix Tryz.func22 rfl (by kernel_rfl) (by kernel_rfl) (by kernel_rfl) (fun B=>(((decide ((k:Int)<0))==false)=true→((decide ((k:Int)<0))==false)=true)∧(((decide ((k:Int)<0))==false)=true→((decide ((k:Int)<0))==false)=true)∧(((decide ((k:Int)<0))==false)=true→((decide ((k:Int)<0))==false)=true)∧(((decide ((k:Int)<0))==false)=true→((decide ((k:Int)<0))==false)=true)∧(((decide ((k:Int)<0))==false)=true→((decide ((k:Int)<0))==false)=true)∧(((decide ((k:Int)<0))==false)=true→((decide ((k:Int)<0))==false)=true)∧((!(decide ((k:Int)<0)))=true→((decide ((k:Int)<0))==false)=true)∧((bif (decide ((k:Int)<0)) then true else(decide ((n:Int)≤(k:Int))))=false)∧_∧_∧_∧_∧_∧_∧_∧_∧((!false)=true)∧(CallOK Tryz.prog 48 [.ex (.iface 63 (.int .i64 2)),.ex (.string sCol),iN k] (.ifc 113 (.ep (.agg (c3 (.ex (.string sCol)) (iN k) (.ex (.iface 63 (.int .i64 2))))))) [])∧(((.string sCol:Value)=.string sCol)∧_∧((.iface 63 (.int .i64 2):Value)=.iface 63 (.int .i64 2))∧_∧_∧_∧_∧_∧_∧_∧_∧_∧_∧_∧_∧_∧_)) (fun B=>by kernel_rfl)
  (fun B=>⟨id,id,id,id,id,id,(by simp),(by simp;omega),((sBSolve_no (D:=D) (C:=C) (e:=e) (m:=m) (n:=n) (v:=v) hl)).tag0 (b:=B 0),(rf (.one (bV 1 2 (luS n D n) n (some (B 0))):Hl)),(rf (.one (.row 33 1 (mE C n) n):Hl)),(rf (.one (eE e n m):Hl)),(rf 0),(rf 0),(rf l),(leS (fun i0=>.rat (v i0)) l),rfl,sWrap,rfl,(rf (k:Int)),rfl,(rf (some (B 0))),(rf 0),(rf n),(leS (mE (luS n D n).2.1 n) n),(rf n),(leS (mE ((luS n D n).1) n) n),(rf n),(leS (fun i0=>iN ((luS n D n).2.2.1 i0)) n),(rf ((luS n D n).2.2.2.2:Bool)),(rf 0),(rf n),(leS (mE C n) n),(rf m),(leS (fun i0=>.agg (c2 (iN ((e i0).1)) (vE (e i0).2 n))) m)⟩)
theorem sBReplace_sing{D C:Nat→Nat→Rat}{e:Etas}{n m:Nat}{v:Nat→Rat}{k:Nat}(hn:n≤6)(hok:luOK n D n)(hD:HtB n n 3 D)(H:EtaOK n e m)(hw:∀t,t<m→∀j,j<n→htq ((e t).2 j)≤4000)(hm:m≤8)(hv:∀j,j<n→htq (v j)≤3)(hx:∀t,t≤m→∀j,j<n→htq (etaXs (basX n D v) e t j)≤4000)(hk:k<n)(hz:(etaXs (basX n D v) e m) k=0):CallOKm Tryz.prog 22 [.one (bV 1 2 (luS n D n) n),.one (.row 33 1 (mE C n) n),.one (eE e n m)] [.own 0 0,iN k,.sl 3 (fun i0=>.rat (v i0)) n] (.ifc 113 (.ep (.agg (c3 (.ex (.string sCol)) (iN k) (.ex (.iface 63 (.int .i64 140))))))) [.one (bV 3 4 (luS n D n) n),.dead,.dead,.one (.row 33 1 (mE C n) n),.one (eE e n m)]:=by
 exact callOKm_P (ch:=fun B=>[.dec 19 false,.reg 3 [(2,.callM [0,1,2] [.one (bV 1 2 (luS n D n) n (some (B 0))),.one (.row 33 1 (mE C n) n),.one (eE e n m)] [.own 0 0,.sl 3 (fun i0=>.rat (v i0)) n] (c2 (.own 5 0) (bX true)) [.one (bV 3 4 (luS n D n) n (some (B 0))),.dead,.dead,.one (.row 33 1 (mE C n) n),.one (eE e n m),.one (.row 47 3 (fun i0=>.rat ((etaXs (basX n D v) e m) i0)) n)])],.dec 30 false,.reg 6 [(2,.k k),(4,.callS (bX (decide ((etaXs (basX n D v) e m) k=0))) [])],.dec 38 true,.reg 7 [(2,.callS (.ifc 113 (.ep (.agg (c3 (.ex (.string sCol)) (iN k) (.ex (.iface 63 (.int .i64 140))))))) [])],.ret 7 [(0,.id 0),(3,.id 3),(4,.id 4)]]) hMix Tryz.func22 rfl (by kernel_rfl) (by kernel_rfl) (by kernel_rfl) (fun B=>(((decide ((k:Int)<0))==false)=true→((decide ((k:Int)<0))==false)=true)∧(((decide ((k:Int)<0))==false)=true→((decide ((k:Int)<0))==false)=true)∧(((decide ((k:Int)<0))==false)=true→((decide ((k:Int)<0))==false)=true)∧(((decide ((k:Int)<0))==false)=true→((decide ((k:Int)<0))==false)=true)∧(((decide ((k:Int)<0))==false)=true→((decide ((k:Int)<0))==false)=true)∧(((decide ((k:Int)<0))==false)=true→((decide ((k:Int)<0))==false)=true)∧((!(decide ((k:Int)<0)))=true→((decide ((k:Int)<0))==false)=true)∧((bif (decide ((k:Int)<0)) then true else(decide ((n:Int)≤(k:Int))))=false)∧_∧_∧_∧_∧_∧_∧_∧_∧((!true)=false)∧_∧(k<n)∧(k<n)∧_∧((decide ((etaXs (basX n D v) e m) k=0))=true)∧(CallOK Tryz.prog 48 [.ex (.iface 63 (.int .i64 140)),.ex (.string sCol),iN k] (.ifc 113 (.ep (.agg (c3 (.ex (.string sCol)) (iN k) (.ex (.iface 63 (.int .i64 140))))))) [])∧(((.string sCol:Value)=.string sCol)∧_∧((.iface 63 (.int .i64 140):Value)=.iface 63 (.int .i64 140))∧_∧_∧_∧_∧_∧_∧_∧_∧_∧_∧_∧_∧_∧_)) (fun B=>by kernel_rfl)
  (fun B=>⟨id,id,id,id,id,id,(by simp),(by simp;omega),((sBSolve (D:=D) (C:=C) (e:=e) (m:=m) (n:=n) (v:=v) hn hok hD H hw zo hv hx)).tag0 (b:=B 0),(rf (.one (bV 1 2 (luS n D n) n (some (B 0))):Hl)),(rf (.one (.row 33 1 (mE C n) n):Hl)),(rf (.one (eE e n m):Hl)),(rf 0),(rf 0),(rf n),(leS (fun i0=>.rat (v i0)) n),rfl,(rf (k:Int)),zo,zo,sRatZero (q:=(etaXs (basX n D v) e m) k),(decide_eq_true hz),sWrap,rfl,(rf (k:Int)),rfl,(rf (some (B 0))),(rf 0),(rf n),(leS (mE (luS n D n).2.1 n) n),(rf n),(leS (mE ((luS n D n).1) n) n),(rf n),(leS (fun i0=>iN ((luS n D n).2.2.1 i0)) n),(rf ((luS n D n).2.2.2.2:Bool)),(rf 0),(rf n),(leS (mE C n) n),(rf m),(leS (fun i0=>.agg (c2 (iN ((e i0).1)) (vE (e i0).2 n))) m)⟩)
theorem sBReplace{D C:Nat→Nat→Rat}{e:Etas}{n m:Nat}{v:Nat→Rat}{k:Nat}(hn:n≤6)(hok:luOK n D n)(hD:HtB n n 3 D)(H:EtaOK n e m)(hw:∀t,t<m→∀j,j<n→htq ((e t).2 j)≤4000)(hm:m≤8)(hv:∀j,j<n→htq (v j)≤3)(hx:∀t,t≤m→∀j,j<n→htq (etaXs (basX n D v) e t j)≤4000)(hk:k<n)(hz:(etaXs (basX n D v) e m) k≠0)(hm2:m<8):CallOKm Tryz.prog 22 [.one (bV 1 2 (luS n D n) n),.one (.row 33 1 (mE C n) n),.one (eE e n m)] [.own 0 0,iN k,.sl 3 (fun i0=>.rat (v i0)) n] (.ex (.nilIface)) [.one (bV 3 4 (luS n D n) n),.dead,.dead,.one (.row 33 1 (mE (setC C k v) n) n),.one (eE (setE e m k (etaXs (basX n D v) e m)) n (m+1))]:=by
 exact callOKm_P (ch:=fun B=>[.dec 19 false,.reg 3 [(2,.callM [0,1,2] [.one (bV 1 2 (luS n D n) n (some (B 0))),.one (.row 33 1 (mE C n) n),.one (eE e n m)] [.own 0 0,.sl 3 (fun i0=>.rat (v i0)) n] (c2 (.own 5 0) (bX true)) [.one (bV 3 4 (luS n D n) n (some (B 0))),.dead,.dead,.one (.row 33 1 (mE C n) n),.one (eE e n m),.one (.row 47 3 (fun i0=>.rat ((etaXs (basX n D v) e m) i0)) n)])],.dec 30 false,.reg 6 [(2,.k k),(4,.callS (bX (decide ((etaXs (basX n D v) e m) k=0))) [])],.dec 38 false,.conv 8 [(0,.id 0),(1,.id 3),(2,.id 4)] ⟨[(0,.own 0 0),(1,iN k),(2,.sl 3 (fun i0=>.rat (v i0)) n),(7,.sl 3 (fun i0=>.rat ((etaXs (basX n D v) e m) i0)) n)],[(0,.one (bV 1 2 (luS n D n) n (some (B 0)))),(1,.one (.row 33 1 (mE C n) n)),(2,.one (eE e n m))],3⟩,.reg 8 [(6,.callS (vE v n) []),(7,.k k),(8,.row 0 (mE (setC C k v) n))],.reg 9 [(9,.row 0 (fun i0=>.agg (c2 (iN (((setE e m k (etaXs (basX n D v) e m)) i0).1)) (vE ((setE e m k (etaXs (basX n D v) e m)) i0).2 n))))],.dec 67 false,.ret 12 [(0,.id 0),(3,.id 1),(4,.id 3)]]) hMix Tryz.func22 rfl (by kernel_rfl) (by kernel_rfl) (by kernel_rfl) (fun B=>(((decide ((k:Int)<0))==false)=true→((decide ((k:Int)<0))==false)=true)∧(((decide ((k:Int)<0))==false)=true→((decide ((k:Int)<0))==false)=true)∧(((decide ((k:Int)<0))==false)=true→((decide ((k:Int)<0))==false)=true)∧(((decide ((k:Int)<0))==false)=true→((decide ((k:Int)<0))==false)=true)∧(((decide ((k:Int)<0))==false)=true→((decide ((k:Int)<0))==false)=true)∧(((decide ((k:Int)<0))==false)=true→((decide ((k:Int)<0))==false)=true)∧((!(decide ((k:Int)<0)))=true→((decide ((k:Int)<0))==false)=true)∧((bif (decide ((k:Int)<0)) then true else(decide ((n:Int)≤(k:Int))))=false)∧_∧_∧_∧_∧_∧_∧_∧_∧((!true)=false)∧_∧(k<n)∧(k<n)∧_∧((decide ((etaXs (basX n D v) e m) k=0))=false)∧_∧_∧_∧_∧_∧_∧_∧_∧_∧_∧_∧_∧_∧_∧_∧_∧_∧_∧_∧_∧_∧_∧(k<n)∧(k<n)∧(((n:Nat)=n)∧(∀j0,j0<n→((v j0:Rat)=((setC C k v) k j0))))∧(∀t,t<n→t≠k→(.sl 3 (fun i0=>.rat ((setC C k v) t i0)) n:SV)=.sl 3 (fun i0=>.rat (C t i0)) n)∧(m+1≤68719476736)∧(∀j0,j0<m→(.agg (c2 (iN (((setE e m k (etaXs (basX n D v) e m)) j0).1)) (vE ((setE e m k (etaXs (basX n D v) e m)) j0).2 n)):SV)=.agg (c2 (iN ((e j0).1)) (vE (e j0).2 n)))∧(∀j0,j0<1→((k:Int)=((((setE e m k (etaXs (basX n D v) e m)) (m+j0)).1:Nat):Int))∧((n:Nat)=n)∧(∀j1,j1<n→(((etaXs (basX n D v) e m) j1:Rat)=(((setE e m k (etaXs (basX n D v) e m)) (m+j0)).2 j1))))∧((decide ((8:Int)<((m+1:Nat):Int)))=false)∧(((.nilIface:Value)=.nilIface)∧_∧_∧_∧_∧_∧_∧_∧_∧_∧_∧_∧_∧_∧_)) (fun B=>by kernel_rfl)
  (fun B=>⟨id,id,id,id,id,id,(by simp),(by simp;omega),((sBSolve (D:=D) (C:=C) (e:=e) (m:=m) (n:=n) (v:=v) hn hok hD H hw zo hv hx)).tag0 (b:=B 0),(rf (.one (bV 1 2 (luS n D n) n (some (B 0))):Hl)),(rf (.one (.row 33 1 (mE C n) n):Hl)),(rf (.one (eE e n m):Hl)),(rf 0),(rf 0),(rf n),(leS (fun i0=>.rat (v i0)) n),rfl,(rf (k:Int)),zo,zo,sRatZero (q:=(etaXs (basX n D v) e m) k),(decide_eq_false hz),(rf 0),(rf (k:Int)),(rf n),(leS (fun i0=>.rat (v i0)) n),(rf n),(leS (fun i0=>.rat ((etaXs (basX n D v) e m) i0)) n),(rf (some (B 0))),(rf 0),(rf n),(leS (mE (luS n D n).2.1 n) n),(rf n),(leS (mE ((luS n D n).1) n) n),(rf n),(leS (fun i0=>iN ((luS n D n).2.2.1 i0)) n),(rf ((luS n D n).2.2.2.2:Bool)),(rf 0),(rf n),(leS (mE C n) n),(rf m),(leS (fun i0=>.agg (c2 (iN ((e i0).1)) (vE (e i0).2 n))) m),(sVecCopy (n:=n) (q:=v) zo).frzV,(rf (k:Int)),zo,zo,⟨rfl,(fun j0 hj0=>(by rw[setC_self]))⟩,(fun t ht hne=>by simp only[setC_ne hne]),zo,(fun j0 hj0=>by simp only[setE_ne (Nat.ne_of_lt hj0)]),(fun j0 hj0=>by obtain rfl:j0=0:=zo;simp[setE_self]),(by simp;omega),rfl,(rf (some (B 0))),(rf 0),(rf n),(leS (mE (luS n D n).2.1 n) n),(rf n),(leS (mE ((luS n D n).1) n) n),(rf n),(leS (fun i0=>iN ((luS n D n).2.2.1 i0)) n),(rf ((luS n D n).2.2.2.2:Bool)),(rf 0),(rf n),(leS (mE (setC C k v) n) n),(rf (m+1:Nat)),(leS (fun i0=>.agg (c2 (iN (((setE e m k (etaXs (basX n D v) e m)) i0).1)) (vE ((setE e m k (etaXs (basX n D v) e m)) i0).2 n))) (m+1))⟩)
theorem sBReplace_new{D C:Nat→Nat→Rat}{e:Etas}{n m:Nat}{v:Nat→Rat}{k:Nat}(hn:n≤6)(hok:luOK n D n)(hD:HtB n n 3 D)(H:EtaOK n e m)(hw:∀t,t<m→∀j,j<n→htq ((e t).2 j)≤4000)(hv:∀j,j<n→htq (v j)≤3)(hx:∀t,t≤m→∀j,j<n→htq (etaXs (basX n D v) e t j)≤4000)(hk:k<n)(hz:(etaXs (basX n D v) e m) k≠0)(hm2:m=8)(hD2:HtB n n 3 (trM (setC C k v)))(hok2:luOK n (trM (setC C k v)) n):CallOKm Tryz.prog 22 [.one (bV 1 2 (luS n D n) n),.one (.row 33 1 (mE C n) n),.one (eE e n m)] [.own 0 0,iN k,.sl 3 (fun i0=>.rat (v i0)) n] (.ex (.nilIface)) [.one (bV 3 4 (luS n (trM (setC C k v)) n) n),.dead,.dead,.one (.row 33 1 (mE (setC C k v) n) n),.one (eE e n 0)]:=by
 exact callOKm_P (ch:=fun B=>[.dec 19 false,.reg 3 [(2,.callM [0,1,2] [.one (bV 1 2 (luS n D n) n (some (B 0))),.one (.row 33 1 (mE C n) n),.one (eE e n m)] [.own 0 0,.sl 3 (fun i0=>.rat (v i0)) n] (c2 (.own 5 0) (bX true)) [.one (bV 3 4 (luS n D n) n (some (B 0))),.dead,.dead,.one (.row 33 1 (mE C n) n),.one (eE e n m),.one (.row 47 3 (fun i0=>.rat ((etaXs (basX n D v) e m) i0)) n)])],.dec 30 false,.reg 6 [(2,.k k),(4,.callS (bX (decide ((etaXs (basX n D v) e m) k=0))) [])],.dec 38 false,.conv 8 [(0,.id 0),(1,.id 3),(2,.id 4)] ⟨[(0,.own 0 0),(1,iN k),(2,.sl 3 (fun i0=>.rat (v i0)) n),(7,.sl 3 (fun i0=>.rat ((etaXs (basX n D v) e m) i0)) n)],[(0,.one (bV 1 2 (luS n D n) n (some (B 0)))),(1,.one (.row 33 1 (mE C n) n)),(2,.one (eE e n m))],3⟩,.reg 8 [(6,.callS (vE v n) []),(7,.k k),(8,.row 0 (mE (setC C k v) n))],.reg 9 [(9,.row 0 (fun i0=>.agg (c2 (iN (((setE e m k (etaXs (basX n D v) e m)) i0).1)) (vE ((setE e m k (etaXs (basX n D v) e m)) i0).2 n))))],.dec 67 true,.reg 11 [(1,.callM [0,1,3] [.one (bV 1 2 (luS n D n) n (some (B 0))),.one (.row 33 1 (mE (setC C k v) n) n),.one (eE (setE e m k (etaXs (basX n D v) e m)) n (m+1))] [.own 0 0] (bX true) [.one (.var 100 (.agg (c3 (.own 3 0) (.ep (lvE (luS n (trM (setC C k v)) n) n)) (.ex (.slice none 0 0)))) (some (B 0))),.dead,.dead,.one (.row 33 1 (mE (setC C k v) n) n)])],.ret 12 [(0,.id 0),(3,.id 4),(4,.nil)]]) hMix Tryz.func22 rfl (by kernel_rfl) (by kernel_rfl) (by kernel_rfl) (fun B=>(((decide ((k:Int)<0))==false)=true→((decide ((k:Int)<0))==false)=true)∧(((decide ((k:Int)<0))==false)=true→((decide ((k:Int)<0))==false)=true)∧(((decide ((k:Int)<0))==false)=true→((decide ((k:Int)<0))==false)=true)∧(((decide ((k:Int)<0))==false)=true→((decide ((k:Int)<0))==false)=true)∧(((decide ((k:Int)<0))==false)=true→((decide ((k:Int)<0))==false)=true)∧(((decide ((k:Int)<0))==false)=true→((decide ((k:Int)<0))==false)=true)∧((!(decide ((k:Int)<0)))=true→((decide ((k:Int)<0))==false)=true)∧((bif (decide ((k:Int)<0)) then true else(decide ((n:Int)≤(k:Int))))=false)∧_∧_∧_∧_∧_∧_∧_∧_∧((!true)=false)∧_∧(k<n)∧(k<n)∧_∧((decide ((etaXs (basX n D v) e m) k=0))=false)∧_∧_∧_∧_∧_∧_∧_∧_∧_∧_∧_∧_∧_∧_∧_∧_∧_∧_∧_∧_∧_∧_∧(k<n)∧(k<n)∧(((n:Nat)=n)∧(∀j0,j0<n→((v j0:Rat)=((setC C k v) k j0))))∧(∀t,t<n→t≠k→(.sl 3 (fun i0=>.rat ((setC C k v) t i0)) n:SV)=.sl 3 (fun i0=>.rat (C t i0)) n)∧(m+1≤68719476736)∧(∀j0,j0<m→(.agg (c2 (iN (((setE e m k (etaXs (basX n D v) e m)) j0).1)) (vE ((setE e m k (etaXs (basX n D v) e m)) j0).2 n)):SV)=.agg (c2 (iN ((e j0).1)) (vE (e j0).2 n)))∧(∀j0,j0<1→((k:Int)=((((setE e m k (etaXs (basX n D v) e m)) (m+j0)).1:Nat):Int))∧((n:Nat)=n)∧(∀j1,j1<n→(((etaXs (basX n D v) e m) j1:Rat)=(((setE e m k (etaXs (basX n D v) e m)) (m+j0)).2 j1))))∧((decide ((8:Int)<((m+1:Nat):Int)))=true)∧_∧_∧_∧_∧_∧_∧(((.nilIface:Value)=.nilIface)∧_∧_∧_∧_∧_∧_∧_∧_∧_∧_∧_∧_∧_)) (fun B=>by kernel_rfl)
  (fun B=>⟨id,id,id,id,id,id,(by simp),(by simp;omega),((sBSolve (D:=D) (C:=C) (e:=e) (m:=m) (n:=n) (v:=v) hn hok hD H hw zo hv hx)).tag0 (b:=B 0),(rf (.one (bV 1 2 (luS n D n) n (some (B 0))):Hl)),(rf (.one (.row 33 1 (mE C n) n):Hl)),(rf (.one (eE e n m):Hl)),(rf 0),(rf 0),(rf n),(leS (fun i0=>.rat (v i0)) n),rfl,(rf (k:Int)),zo,zo,sRatZero (q:=(etaXs (basX n D v) e m) k),(decide_eq_false hz),(rf 0),(rf (k:Int)),(rf n),(leS (fun i0=>.rat (v i0)) n),(rf n),(leS (fun i0=>.rat ((etaXs (basX n D v) e m) i0)) n),(rf (some (B 0))),(rf 0),(rf n),(leS (mE (luS n D n).2.1 n) n),(rf n),(leS (mE ((luS n D n).1) n) n),(rf n),(leS (fun i0=>iN ((luS n D n).2.2.1 i0)) n),(rf ((luS n D n).2.2.2.2:Bool)),(rf 0),(rf n),(leS (mE C n) n),(rf m),(leS (fun i0=>.agg (c2 (iN ((e i0).1)) (vE (e i0).2 n))) m),(sVecCopy (n:=n) (q:=v) zo).frzV,(rf (k:Int)),zo,zo,⟨rfl,(fun j0 hj0=>(by rw[setC_self]))⟩,(fun t ht hne=>by simp only[setC_ne hne]),zo,(fun j0 hj0=>by simp only[setE_ne (Nat.ne_of_lt hj0)]),(fun j0 hj0=>by obtain rfl:j0=0:=zo;simp[setE_self]),(by simp;omega),((sBFactor (D:=D) (C:=(setC C k v)) (e:=(setE e m k (etaXs (basX n D v) e m))) (m:=m+1) (n:=n) hn hD2 hok2)).tag0 (b:=B 0),(rf (.one (bV 1 3 (luS n D n) n (some (B 0))):Hl)),(rf (.one (.row 33 1 (mE (setC C k v) n) n):Hl)),(rf (.one (eE (setE e m k (etaXs (basX n D v) e m)) n (m+1)):Hl)),(rf 0),(rf 0),rfl,(rf (some (B 0))),(rf 0),(rf n),(leS (mE (luS n (trM (setC C k v)) n).2.1 n) n),(rf n),(leS (mE ((luS n (trM (setC C k v)) n).1) n) n),(rf n),(leS (fun i0=>iN ((luS n (trM (setC C k v)) n).2.2.1 i0)) n),(rf ((luS n (trM (setC C k v)) n).2.2.2.2:Bool)),(rf 0),(rf n),(leS (mE (setC C k v) n) n),(rf 0)⟩)
open Go.RowKit
theorem dB3:∀n,n≤5→dB 3 n≤1951
 | 0,_=>by decide
 | 1,_ | 2,_ | 3,_ | 4,_ | 5,_=>by decide
 | n+6,h=>by omega
theorem sol_ht{n:Nat}{A:Nat→Nat→Rat}{b x:Nat→Rat}(hn:n≤5)(hA:HtB n n 3 A)(hb:∀i,i<n→htq (b i)≤3)(hd:cdet n A≠0)(h:∀r,r<n→sumQ (fun j=>A r j*x j) n=b r):∀j,j<n→htq (x j)≤3910:=fun j hj=>by
 have hd':det n A≠0:=by rw[det_cdet];exact hd
 rw[←cram_div hd' h hj]
 have h1:=(det_ht n (E:=3) (q:=A) fun i hi k hk=>by have:=hA i hi k hk;omega).1
 have h2:=(det_ht n (E:=3) (q:=putC A j b) fun i hi k hk=>by
  unfold putC
  split
  ·exact hb i hi
  ·have:=hA i hi k hk;omega).1
 have h3:=ht_div (det n (putC A j b)) (det n A)
 have h4:=dB3 n hn
 omega
theorem dot_sumB(a b:Nat→Rat):∀n,dotQ a b n=sumQ (fun i=>a i*b i) n
 | 0=>rfl
 | n+1=>by show dotQ a b n+a n*b n=sumQ _ n+a n*b n;rw[dot_sumB a b n]
theorem sum_ht{a b:Nat→Rat}{S T:Nat}(n:Nat)(ha:∀i,i<n→htq (a i)≤S)(hb:∀i,i<n→htq (b i)≤T):htq (sumQ (fun i=>a i*b i) n)≤n*(S+T+1)+1:=by
 rw[←dot_sumB];exact ht_dot n ha hb
theorem sz3{n:Nat}{A:Nat→Nat→Rat}(h:HtB n n 3 A):∀i,i<n→∀j,j<n→szq (A i j)≤4:=fun i hi j hj=>by
 have:=h i hi j hj
 have:=sz_ht (A i j)
 omega
theorem HtB.tr{n B:Nat}{A:Nat→Nat→Rat}(h:HtB n n B A):HtB n n B (trM A):=fun i hi j hj=>h j hj i hi
structure BOK (n:Nat) (D C:Nat→Nat→Rat) (e:Etas) (m:Nat):Prop where
 ok:luOK n D n
 H:EtaOK n e m
 hm:m≤8
 ht:∀t,t≤m→HtB n n 3 (etaM n D e t)
 is:∀c,c<n→∀r,r<n→C c r=etaM n D e m r c
 w:∀t,t<m→∀j,j<n→htq ((e t).2 j)≤4000
section
variable {n m:Nat} {D C:Nat→Nat→Rat} {e:Etas} {v:Nat→Rat}
theorem BOK.hD(h:BOK n D C e m):HtB n n 3 D:=h.ht 0 (Nat.zero_le _)
theorem BOK.det(h:BOK n D C e m){t:Nat}(ht:t≤m):cdet n (etaM n D e t)≠0:=etaM_det h.H (by rw[←det_cdet];exact lu_det_ne (sz3 h.hD) h.ok) t ht
theorem BOK.detC(h:BOK n D C e m):cdet n (trM C)≠0:=by
 rw[cdet_congr n (A:=trM C) fun i hi j hj=>h.is j hj i hi]
 exact h.det (Nat.le_refl m)
theorem BOK.step(h:BOK n D C e m)(v:Nat→Rat){t:Nat}(ht:t≤m){r:Nat}(hr:r<n):sumQ (fun j=>etaM n D e t r j*etaXs (basX n D v) e t j) n=v r:=
 (etaXs_ok h.H (basX n D v) r t ht).trans (lu_solves h.ok hr)
theorem BOK.x(h:BOK n D C e m)(hn:n≤5)(hv:∀j,j<n→htq (v j)≤3):∀t,t≤m→∀j,j<n→htq (etaXs (basX n D v) e t j)≤4000:=fun t ht j hj=>
 Nat.le_trans (sol_ht hn (h.ht t ht) hv (h.det ht) (fun r hr=>h.step v ht hr) j hj) (by decide)
theorem BOK.sol(h:BOK n D C e m)(v:Nat→Rat){r:Nat}(hr:r<n):sumQ (fun j=>C j r*etaXs (basX n D v) e m j) n=v r:=by
 rw[←h.step v (Nat.le_refl m) hr]
 exact sumQ_congr n fun j hj=>by rw[h.is j hj r hr]
theorem BOK.back(h:BOK n D C e m)(v:Nat→Rat){t:Nat}(ht:t≤m){j:Nat}(hj:j<n):rowM n (etaM n D e t) (basY n D (etaZs n m v e m)) j=etaZs n m v e (m-t) j:=
 etaZs_back h.H (fun _ hj=>lu_solvesT h.ok hj) t ht j hj
theorem BOK.rowS(h:BOK n D C e m)(v:Nat→Rat){j:Nat}(hj:j<n):sumQ (fun i=>basY n D (etaZs n m v e m) i*C j i) n=v j:=by
 have h1:=h.back v (Nat.le_refl m) hj
 rw[Nat.sub_self] at h1
 refine Eq.trans (sumQ_congr n fun i hi=>by rw[h.is j hj i hi]) h1
theorem BOK.y(h:BOK n D C e m)(hn:n≤5)(hv:∀j,j<n→htq (v j)≤3):∀j,j<n→htq (basY n D (etaZs n m v e m) j)≤3910:=
 sol_ht hn (HtB.tr (h.ht m (Nat.le_refl m))) hv (by rw[cdet_trM];exact h.det (Nat.le_refl m)) fun r hr=>by
  have h1:=h.back v (Nat.le_refl m) hr
  rw[Nat.sub_self] at h1
  refine Eq.trans (sumQ_congr n fun i hi=>?_) h1
  show etaM n D e m i r*_=_*etaM n D e m i r
  grind
theorem BOK.z(h:BOK n D C e m)(hn:n≤5)(hv:∀j,j<n→htq (v j)≤3):∀t,t≤m→∀j,j<n→htq (etaZs n m v e t j)≤20000:=fun t ht j hj=>by
 have h1:=h.back v (t:=m-t) zo hj
 rw[show m-(m-t)=t by omega] at h1
 rw[←h1]
 have h2:=sum_ht n (h.y hn hv) (b:=fun i=>etaM n D e (m-t) i j) (T:=3) fun i hi=>by
  have:=h.ht (m-t) zo i hi j hj
  omega
 exact Nat.le_trans h2 (Nat.le_trans (Nat.succ_le_succ (Nat.mul_le_mul_right _ hn)) (by decide))
theorem BOK.fresh{e:Etas}(hn:luOK n (trM C) n)(hC:HtB n n 3 (trM C)):BOK n (trM C) C e 0:=
 ⟨hn,⟨fun t ht=>absurd ht (Nat.not_lt_zero t),fun t ht=>absurd ht (Nat.not_lt_zero t)⟩,by omega,fun t ht=>by rw[Nat.le_zero.1 ht];exact hC,fun c _ r _=>rfl,fun t ht=>absurd ht (Nat.not_lt_zero t)⟩
theorem luOK_of{A:Nat→Nat→Rat}(hA:HtB n n 3 A)(hd:cdet n A≠0):luOK n A n:=(lu_or (sz3 hA) n (Nat.le_refl n)).resolve_right hd
variable {k:Nat}
theorem BOK.mul(h:BOK n D C e m)(v:Nat→Rat){r:Nat}(hr:r<n):mulV n (etaM n D e m) (etaXs (basX n D v) e m) r=v r:=h.step v (Nat.le_refl m) hr
theorem BOK.htC(h:BOK n D C e m)(hv:∀j,j<n→htq (v j)≤2):HtB n n 3 (trM (setC C k v)):=fun i hi j hj=>by
 show htq (setC C k v j i)+1≤3
 by_cases e1:j=k
 ·rw[e1,setC_self];have:=hv i hi;omega
 ·rw[setC_ne e1,h.is j hj i hi];exact h.ht m (Nat.le_refl m) i hi j hj
theorem BOK.setI(h:BOK n D C e m){i j:Nat}(hi:i<n)(hj:j<n):setC C k v j i=putC (etaM n D e m) k (mulV n (etaM n D e m) (etaXs (basX n D v) e m)) i j:=by
 by_cases e1:j=k
 ·rw[e1,setC_self,putC_self,h.mul v hi]
 ·rw[setC_ne e1,putC_ne e1,h.is j hj i hi]
theorem BOK.detS(h:BOK n D C e m)(hk:k<n):cdet n (trM (setC C k v))=etaXs (basX n D v) e m k*cdet n (trM C):=by
 rw[cdet_congr n (A:=trM (setC C k v)) fun i hi j hj=>h.setI hi hj,cramer (A:=etaM n D e m) (b:=mulV n (etaM n D e m) (etaXs (basX n D v) e m)) (x:=etaXs (basX n D v) e m) (fun r _=>rfl) hk,
  cdet_congr n (A:=trM C) fun i hi j hj=>h.is j hj i hi]
theorem BOK.put(h:BOK n D C e m)(hn:n≤5)(hk:k<n)(hv:∀j,j<n→htq (v j)≤2)(hz:etaXs (basX n D v) e m k≠0)(hm:m<8):BOK n D (setC C k v) (setE e m k (etaXs (basX n D v) e m)) (m+1):=by
 have hc:∀t,t≤m→etaM n D (setE e m k (etaXs (basX n D v) e m)) t=etaM n D e t:=fun t ht=>etaM_cong t fun i hi=>setE_ne zo
 have hl:etaM n D (setE e m k (etaXs (basX n D v) e m)) (m+1)=putC (etaM n D e m) k (mulV n (etaM n D e m) (etaXs (basX n D v) e m)):=by
  show putC (etaM n D _ m) (setE e m k _ m).1 (mulV n (etaM n D _ m) (setE e m k _ m).2)=_
  rw[hc m (Nat.le_refl m),setE_self]
 refine⟨h.ok,⟨fun t ht=>?_,fun t ht=>?_⟩,by omega,fun t ht=>?_,fun c hc2 r hr=>?_,fun t ht j hj=>?_⟩
 ·by_cases e1:t=m
  ·rw[e1,setE_self];exact hk
  ·rw[setE_ne e1];exact h.H.at_ t zo
 ·by_cases e1:t=m
  ·rw[e1,setE_self];exact hz
  ·rw[setE_ne e1];exact h.H.ne t zo
 ·by_cases e1:t=m+1
  ·rw[e1,hl]
   intro i hi j hj
   rw[←h.setI hi hj]
   exact h.htC hv i hi j hj
  ·rw[hc t zo];exact h.ht t zo
 ·rw[hl];exact h.setI hr hc2
 ·by_cases e1:t=m
  ·rw[e1,setE_self];exact h.x hn (fun j hj=>Nat.le_trans (hv j hj) (by decide)) m (Nat.le_refl m) j hj
  ·rw[setE_ne e1];exact h.w t zo j hj
theorem BOK.anew(h:BOK n D C e m)(hk:k<n)(hv:∀j,j<n→htq (v j)≤2)(hz:etaXs (basX n D v) e m k≠0):luOK n (trM (setC C k v)) n:=
 luOK_of (h.htC hv) (by rw[h.detS hk];exact rat_mul_ne hz h.detC)
end
open Go.RowKit
structure BS where
 D:Nat→Nat→Rat
 C:Nat→Nat→Rat
 e:Etas
 m:Nat
abbrev BSK (n:Nat) (s:BS):Prop:=BOK n s.D s.C s.e s.m
def repN (n:Nat) (s:BS) (k:Int) (v:Nat→Rat) (l:Nat):Int:=if k<0∨(n:Int)≤k then 1 else if l≠n then 2 else if etaXs (basX n s.D v) s.e s.m k.toNat=0 then 140 else 0
def repS (n:Nat) (s:BS) (k:Int) (v:Nat→Rat) (l:Nat):BS:=
 if repN n s k v l=0 then if s.m<8 then⟨s.D,setC s.C k.toNat v,setE s.e s.m k.toNat (etaXs (basX n s.D v) s.e s.m),s.m+1⟩ else⟨trM (setC s.C k.toNat v),setC s.C k.toNat v,s.e,0⟩ else s
section
variable {n l:Nat} {s:BS} {k:Int} {v:Nat→Rat}
theorem repN_arg(h:k<0∨(n:Int)≤k):repN n s k v l=1:=if_pos h
theorem repN_len(h:¬(k<0∨(n:Int)≤k))(hl:l≠n):repN n s k v l=2:=by unfold repN;rw[if_neg h,if_pos hl]
theorem repN_zero(h:¬(k<0∨(n:Int)≤k))(hl:¬l≠n)(hz:etaXs (basX n s.D v) s.e s.m k.toNat=0):repN n s k v l=140:=by unfold repN;rw[if_neg h,if_neg hl,if_pos hz]
theorem repN_ok(h:¬(k<0∨(n:Int)≤k))(hl:¬l≠n)(hz:etaXs (basX n s.D v) s.e s.m k.toNat≠0):repN n s k v l=0:=by unfold repN;rw[if_neg h,if_neg hl,if_neg hz]
theorem repN_ok'(h:repN n s k v l=0):¬(k<0∨(n:Int)≤k)∧l=n∧etaXs (basX n s.D v) s.e s.m k.toNat≠0:=by
 unfold repN at h
 split at h
 ·cases h
 ·split at h
  ·cases h
  ·split at h
   ·cases h
   ·rename_i h1 h2 h3
    exact⟨h1,Classical.not_not.1 h2,h3⟩
theorem repS_no(h:repN n s k v l≠0):repS n s k v l=s:=if_neg h
theorem repS_put(h:repN n s k v l=0)(hm:s.m<8):repS n s k v l=⟨s.D,setC s.C k.toNat v,setE s.e s.m k.toNat (etaXs (basX n s.D v) s.e s.m),s.m+1⟩:=by unfold repS;rw[if_pos h,if_pos hm]
theorem repS_new(h:repN n s k v l=0)(hm:¬s.m<8):repS n s k v l=⟨trM (setC s.C k.toNat v),setC s.C k.toNat v,s.e,0⟩:=by unfold repS;rw[if_pos h,if_neg hm]
theorem repS_ok(h:BSK n s)(hn:n≤5)(hv:∀j,j<n→htq (v j)≤2):BSK n (repS n s k v l):=by
 by_cases h0:repN n s k v l=0
 ·obtain⟨h1,h2,h3⟩:=repN_ok' h0
  by_cases hm:s.m<8
  ·rw[repS_put h0 hm];exact h.put hn zo hv h3 hm
  ·rw[repS_new h0 hm];exact .fresh (h.anew zo hv h3) (h.htC hv)
 ·rw[repS_no h0];exact h
theorem CallOKm.res{P:Program}{f:FuncId}{ins outs:List Hl}{A:List SV}{R R':SV}(h:CallOKm P f ins A R outs)(hR:∀η A w v,R.R η A w v→R'.R η A w v):CallOKm P f ins A R' outs:=
 ⟨h.cal,fun η0 M F w vals H hA=>(h.run η0 M F w vals H hA).mono fun _ _ ⟨v,η,e1,hp,hr,hx⟩=>⟨v,η,e1,hp,hR _ _ _ _ hr,hx⟩⟩
theorem alt_no{c:Bool}{a b:SV}{η:Eta}{A:Nat→Prop}{w:World}{u:Value}(hc:c=false)(h:b.R η A w u):(SV.alt c a b).R η A w u:=⟨fun e=>(by rw[hc] at e;cases e),fun _=>h⟩
theorem alt_yes{c:Bool}{a b:SV}{η:Eta}{A:Nat→Prop}{w:World}{u:Value}(hc:c=true)(h:a.R η A w u):(SV.alt c a b).R η A w u:=⟨fun _=>h,fun e=>(by rw[hc] at e;cases e)⟩
theorem sBReplaceT(hK:BSK n s)(hn:n≤5)(hv:l=n→∀j,j<n→htq (v j)≤2):CallOKm Tryz.prog 22 [.one (bV 1 2 (luS n s.D n) n),.one (.row 33 1 (mE s.C n) n),.one (eE s.e n s.m)] [.own 0 0,.ex (.int .i64 k),.sl 3 (fun i0=>.rat (v i0)) l] (.alt (decide (repN n s k v l=0)) (.ex (.nilIface)) (.ifc 113 (.ep (.agg (c3 (.ex (.string sCol)) (.ex (.int .i64 k)) (.ex (.iface 63 (.int .i64 (repN n s k v l))))))))) [.one (bV 3 4 (luS n (repS n s k v l).D n) n),.dead,.dead,.one (.row 33 1 (mE (repS n s k v l).C n) n),.one (eE (repS n s k v l).e n ((repS n s k v l).m))]:=by
 by_cases h1:k<0∨(n:Int)≤k
 ·have e:=repN_arg (s:=s) (v:=v) (l:=l) h1
  rw[repS_no (by rw[e];decide)]
  exact(sBReplace_arg h1).res fun η A w u h=>alt_no (by rw[e];rfl) (by rw[e];exact h)
 ·obtain⟨kk,rfl⟩:∃kk:Nat,k=(kk:Int):=⟨k.toNat,by omega⟩
  by_cases h2:l≠n
  ·have e:=repN_len (s:=s) (v:=v) h1 h2
   rw[repS_no (by rw[e];decide)]
   exact(sBReplace_len zo h2).res fun η A w u h=>alt_no (by rw[e];rfl) (by rw[e];exact h)
  ·have hl:l=n:=Classical.not_not.1 h2
   subst hl
   have hv:=hv rfl
   have hv3:∀j,j<l→htq (v j)≤3:=fun j hj=>Nat.le_trans (hv j hj) (by decide)
   have hk:kk<l:=by omega
   by_cases h3:etaXs (basX l s.D v) s.e s.m kk=0
   ·have e:=repN_zero (s:=s) (v:=v) h1 h2 h3
    rw[repS_no (by rw[e];decide)]
    exact(sBReplace_sing zo hK.ok hK.hD hK.H hK.w hK.hm hv3 (hK.x hn hv3) hk h3).res fun η A w u h=>alt_no (by rw[e];rfl) (by rw[e];exact h)
   ·have e:=repN_ok (s:=s) (v:=v) h1 h2 h3
    by_cases hm:s.m<8
    ·rw[repS_put e hm]
     exact(sBReplace zo hK.ok hK.hD hK.H hK.w hK.hm hv3 (hK.x hn hv3) hk h3 hm).res fun η A w u h=>alt_yes (decide_eq_true e) h
    ·have h8:=hK.hm
     rw[repS_new e hm]
     exact(sBReplace_new zo hK.ok hK.hD hK.H hK.w hv3 (hK.x hn hv3) hk h3 zo (hK.htC hv) (hK.anew hk hv h3)).res fun η A w u h=>alt_yes (decide_eq_true e) h
end
open Go.RowKit
theorem sBSolveT{D C:Nat→Nat→Rat}{e:Etas}{n m:Nat}{v:Nat→Rat}(hn:n≤6)(hok:luOK n D n)(hD:HtB n n 3 D)(H:EtaOK n e m)(hw:∀t,t<m→∀j,j<n→htq ((e t).2 j)≤4000)(hm:m≤64)(hz:∀t,t≤m→∀j,j<n→htq (etaZs n m v e t j)≤20000):CallOKm Tryz.prog 18 [.one (bV 1 2 (luS n D n) n),.one (.row 33 1 (mE C n) n),.one (eE e n m)] [.own 0 0,.sl 3 (fun i0=>.rat (v i0)) n] (c2 (.sl 3 (fun i0=>.rat (basY n D (etaZs n m v e m) i0)) n) (bX true)) [.one (bV 3 4 (luS n D n) n),.dead,.dead,.one (.row 33 1 (mE C n) n),.one (eE e n m)]:=by
 exact callOKm_P (ch:=fun B=>[.dec 17 false,.reg 3 [(1,.callS (.own 0 0) [.one (.row 47 3 (fun i0=>.rat (v i0)) n)])],.conv 4 [(0,.id 0),(1,.id 1),(2,.id 2),(3,.id 3)] ⟨[(0,.own 0 0),(6,.own 3 0)],[(0,.one (bV 1 2 (luS n D n) n (some (B 0)))),(1,.one (.row 33 1 (mE C n) n)),(2,.one (eE e n m)),(3,.one (.row 47 3 (fun i0=>.rat ((etaZs n m v e 0) i0)) n))],4⟩,.reg 4 [(5,.z ((m:Int)-1-((0:Nat):Int)))],.loop 5 (Nat) (fun g=>g≤m) (fun g=>m-g) (fun g=>⟨[(0,.own 0 0),(6,.own 3 0),(7,.ex (.int .i64 ((m:Int)-1-(g:Int))))],[(0,.one (bV 1 2 (luS n D n) n (some (B 0)))),(1,.one (.row 33 1 (mE C n) n)),(2,.one (eE e n m)),(3,.one (.row 47 3 (fun i0=>.rat ((etaZs n m v e g) i0)) n))],4⟩) [(0,.id 0),(1,.id 1),(2,.id 2),(3,.id 3)] (fun _=>[(0,.id 0),(1,.id 1),(2,.id 2),(3,.id 3)]) (fun g=>[.reg 7 [(5,.k (m-1-g))],.loop 9 (Nat) (fun h=>h≤n) (fun h=>n-h) (fun h=>⟨[(0,.own 0 0),(6,.own 3 0),(7,.ex (.int .i64 ((m:Int)-1-(g:Int)))),(8,.own 4 0),(38,iN n),(39,iN h)],[(0,.one (bV 1 2 (luS n D n) n (some (B 0)))),(1,.one (.row 33 1 (mE C n) n)),(2,.one (eE e n m)),(3,.one (.row 47 3 (fun i0=>.rat (etaJ (e (m-1-g)).1 (e (m-1-g)).2 (etaZs n m v e g) h i0)) n)),(4,.one (.var 108 (.agg (c2 (iN ((e (m-1-g)).1)) (vE (e (m-1-g)).2 n)))))],5⟩) [(0,.id 0),(1,.id 1),(2,.id 2),(3,.id 3),(4,.id 4)] (fun _=>[(0,.id 0),(1,.id 1),(2,.id 2),(3,.id 3),(4,.id 4)]) (fun h=>[.reg 12 [(6,.k ((e (m-1-g)).1)),(11,.k h),(15,.k h),(17,.callS (.rat (((e (m-1-g)).2 h)*(etaJ (e (m-1-g)).1 (e (m-1-g)).2 (etaZs n m v e g) h h))) []),(18,.callS (.rat ((etaJ (e (m-1-g)).1 (e (m-1-g)).2 (etaZs n m v e g) h ((e (m-1-g)).1))-(((e (m-1-g)).2 h)*(etaJ (e (m-1-g)).1 (e (m-1-g)).2 (etaZs n m v e g) h h)))) []),(19,.k ((e (m-1-g)).1)),(20,.row 0 (fun i0=>.rat (etaJ (e (m-1-g)).1 (e (m-1-g)).2 (etaZs n m v e g) (h+1) i0)))],.reg 13 [(0,.z ((h+1:Nat):Int))],.reg 13 [(0,.z ((h+1:Nat):Int))],.reg 14 [(6,.k ((e (m-1-g)).1)),(12,.k ((e (m-1-g)).1)),(14,.callS (c2 (.rat ((etaJ (e (m-1-g)).1 (e (m-1-g)).2 (etaZs n m v e g) h ((e (m-1-g)).1))/((e (m-1-g)).2 ((e (m-1-g)).1)))) (bX (!decide (((e (m-1-g)).2 ((e (m-1-g)).1))=0)))) []),(18,.k ((e (m-1-g)).1)),(19,.row 0 (fun i0=>.rat (etaZ n (e (m-1-g)).1 (e (m-1-g)).2 (etaZs n m v e g) i0)))],.reg 6 [(1,.z ((m:Int)-1-((g+1:Nat):Int)))]]),.conv 15 [(0,.id 0),(1,.id 1),(2,.id 2)] ⟨[(0,.own 0 0),(6,.sl 3 (fun i0=>.rat ((etaZs n m v e m) i0)) n)],[(0,.one (bV 1 2 (luS n D n) n (some (B 0)))),(1,.one (.row 33 1 (mE C n) n)),(2,.one (eE e n m))],3⟩,.reg 15 [(5,.callS (c2 (.sl 3 (fun i0=>.rat (luW n (luS n D n).1 (luS n D n).2.1 (etaZs n m v e m) ((luS n D n).2.2.2.1 i0))) n) (bX true)) [])],.ret 15 [(0,.id 0),(3,.id 1),(4,.id 2)]])]) hMix Tryz.func18 rfl (by kernel_rfl) (by kernel_rfl) (by kernel_rfl) (fun B=>((!decide ((n:Int)=(n:Int)))=false)∧_∧_∧_∧_∧_∧_∧_∧_∧_∧_∧_∧_∧_∧_∧_∧_∧_∧_∧(∀j0,j0<n→((v j0:Rat)=((etaZs n m v e 0) j0)))∧(IntKind.wrap .i64 ((m:Int)-1)=((m:Int)-1-((0:Nat):Int)))∧(((fun X1 X2 X3 X4 X5 X6 X7 X8 X9 X10 X11 X12 X13 X14 X15 X16 X17:Prop=>∃g0:Nat,X1∧X2∧(((m:Int)-1-((0:Nat):Int):Int)=((m:Int)-1-(g0:Int)))∧X3∧X4∧X5∧X6∧X7∧X8∧X9∧X10∧X11∧X12∧X13∧X14∧X15∧X16∧X17∧(∀j0,j0<n→(((etaZs n m v e 0) j0:Rat)=((etaZs n m v e g0) j0)))∧(g0≤m)) _ _ _ _ _ _ _ _ _ _ _ _ _ _ _ _ _)∧∀g:Nat,(g≤m)→(((decide ((0:Int)≤((m:Int)-1-(g:Int))))=true→(((m:Int)-1-(g:Int):Int)=((m-1-g:Nat):Int))∧((m-1-g)<m)∧((m-1-g)<m)∧(((fun X1 X2 X3 X4 X5 X6 X7 X8 X9 X10 X11 X12 X13 X14 X15 X16 X17 X18 X19 X20 X21 X22 X23:Prop=>∃h0:Nat,X1∧X2∧X3∧X4∧X5∧((0:Int)=(h0:Int))∧X6∧X7∧X8∧X9∧X10∧X11∧X12∧X13∧X14∧X15∧X16∧X17∧X18∧X19∧X20∧(∀j0,j0<n→(((etaZs n m v e g) j0:Rat)=(etaJ (e (m-1-g)).1 (e (m-1-g)).2 (etaZs n m v e g) h0 j0)))∧X21∧X22∧X23∧(h0≤n)) _ _ _ _ _ _ _ _ _ _ _ _ _ _ _ _ _ _ _ _ _ _ _)∧∀h:Nat,(h≤n)→(((decide ((h:Int)<(n:Int)))=true→(((!decide ((h:Int)=(((e (m-1-g)).1:Nat):Int)))=true→_∧(((e (m-1-g)).1)<n)∧(((e (m-1-g)).1)<n)∧_∧(h<n)∧_∧(h<n)∧(h<n)∧_∧_∧_∧(((e (m-1-g)).1)<n)∧(((e (m-1-g)).1)<n)∧((((etaJ (e (m-1-g)).1 (e (m-1-g)).2 (etaZs n m v e g) h ((e (m-1-g)).1))-(((e (m-1-g)).2 h)*(etaJ (e (m-1-g)).1 (e (m-1-g)).2 (etaZs n m v e g) h h)):Rat)=(etaJ (e (m-1-g)).1 (e (m-1-g)).2 (etaZs n m v e g) (h+1) ((e (m-1-g)).1))))∧(∀t,t<n→t≠((e (m-1-g)).1)→(.rat (etaJ (e (m-1-g)).1 (e (m-1-g)).2 (etaZs n m v e g) (h+1) t):SV)=.rat (etaJ (e (m-1-g)).1 (e (m-1-g)).2 (etaZs n m v e g) h t))∧_∧((fun X1 X2 X3 X4 X5 X6 X7 X8 X9 X10 X11 X12 X13 X14 X15 X16 X17 X18 X19 X20 X21 X22 X23:Prop=>∃h1:Nat,X1∧X2∧X3∧X4∧X5∧(((h+1:Nat):Int)=(h1:Int))∧X6∧X7∧X8∧X9∧X10∧X11∧X12∧X13∧X14∧X15∧X16∧X17∧X18∧X19∧X20∧(∀j0,j0<n→((etaJ (e (m-1-g)).1 (e (m-1-g)).2 (etaZs n m v e g) (h+1) j0:Rat)=(etaJ (e (m-1-g)).1 (e (m-1-g)).2 (etaZs n m v e g) h1 j0)))∧X21∧X22∧X23∧(h1≤n)∧(n-h1<n-h)) _ _ _ _ _ _ _ _ _ _ _ _ _ _ _ _ _ _ _ _ _ _ _))∧((!decide ((h:Int)=(((e (m-1-g)).1:Nat):Int)))=false→_∧((fun X1 X2 X3 X4 X5 X6 X7 X8 X9 X10 X11 X12 X13 X14 X15 X16 X17 X18 X19 X20 X21 X22 X23:Prop=>∃h1:Nat,X1∧X2∧X3∧X4∧X5∧(((h+1:Nat):Int)=(h1:Int))∧X6∧X7∧X8∧X9∧X10∧X11∧X12∧X13∧X14∧X15∧X16∧X17∧X18∧X19∧X20∧(∀j0,j0<n→((etaJ (e (m-1-g)).1 (e (m-1-g)).2 (etaZs n m v e g) h j0:Rat)=(etaJ (e (m-1-g)).1 (e (m-1-g)).2 (etaZs n m v e g) h1 j0)))∧X21∧X22∧X23∧(h1≤n)∧(n-h1<n-h)) _ _ _ _ _ _ _ _ _ _ _ _ _ _ _ _ _ _ _ _ _ _ _))))∧((decide ((h:Int)<(n:Int)))=false→_∧(((e (m-1-g)).1)<n)∧(((e (m-1-g)).1)<n)∧_∧(((e (m-1-g)).1)<n)∧_∧_∧(((e (m-1-g)).1)<n)∧(((e (m-1-g)).1)<n)∧((((etaJ (e (m-1-g)).1 (e (m-1-g)).2 (etaZs n m v e g) h ((e (m-1-g)).1))/((e (m-1-g)).2 ((e (m-1-g)).1)):Rat)=(etaZ n (e (m-1-g)).1 (e (m-1-g)).2 (etaZs n m v e g) ((e (m-1-g)).1))))∧(∀t,t<n→t≠((e (m-1-g)).1)→(.rat (etaZ n (e (m-1-g)).1 (e (m-1-g)).2 (etaZs n m v e g) t):SV)=.rat (etaJ (e (m-1-g)).1 (e (m-1-g)).2 (etaZs n m v e g) h t))∧(IntKind.wrap .i64 (((m:Int)-1-(g:Int):Int)-1)=((m:Int)-1-((g+1:Nat):Int)))∧((fun X1 X2 X3 X4 X5 X6 X7 X8 X9 X10 X11 X12 X13 X14 X15 X16 X17:Prop=>∃g1:Nat,X1∧X2∧(((m:Int)-1-((g+1:Nat):Int):Int)=((m:Int)-1-(g1:Int)))∧X3∧X4∧X5∧X6∧X7∧X8∧X9∧X10∧X11∧X12∧X13∧X14∧X15∧X16∧X17∧(∀j0,j0<n→((etaZ n (e (m-1-g)).1 (e (m-1-g)).2 (etaZs n m v e g) j0:Rat)=((etaZs n m v e g1) j0)))∧(g1≤m)∧(m-g1<m-g)) _ _ _ _ _ _ _ _ _ _ _ _ _ _ _ _ _)))))∧((decide ((0:Int)≤((m:Int)-1-(g:Int))))=false→_∧_∧(∀j0,j0<n→(((etaZs n m v e g) j0:Rat)=((etaZs n m v e m) j0)))∧_∧_∧_∧_∧_∧_∧_∧_∧_∧_∧_∧_∧_∧_∧_∧(_∧(∀j0,j0<n→((luW n (luS n D n).1 (luS n D n).2.1 (etaZs n m v e m) ((luS n D n).2.2.2.1 j0):Rat)=(basY n D (etaZs n m v e m) j0)))∧_∧_∧_∧_∧_∧_∧_∧_∧_∧_∧_∧_∧_∧_∧_))))) (fun B=>by kernel_rfl)
  (fun B=>⟨(by simp),sVecCopy (n:=n) (q:=v) zo,(rf 0),(rf 0),(rf (some (B 0))),(rf 0),(rf n),(leS (mE (luS n D n).2.1 n) n),(rf n),(leS (mE ((luS n D n).1) n) n),(rf n),(leS (fun i0=>iN ((luS n D n).2.2.1 i0)) n),(rf ((luS n D n).2.2.2.2:Bool)),(rf 0),(rf n),(leS (mE C n) n),(rf m),(leS (fun i0=>.agg (c2 (iN ((e i0).1)) (vE (e i0).2 n))) m),(rf n),(fun j0 hj0=>rfl),(by rw[IntKind.wrap_i64];omega),⟨0,(rf 0),(rf 0),zo,(rf (some (B 0))),(rf 0),(rf n),(leS (mE (luS n D n).2.1 n) n),(rf n),(leS (mE ((luS n D n).1) n) n),(rf n),(leS (fun i0=>iN ((luS n D n).2.2.1 i0)) n),(rf ((luS n D n).2.2.2.2:Bool)),(rf 0),(rf n),(leS (mE C n) n),(rf m),(leS (fun i0=>.agg (c2 (iN ((e i0).1)) (vE (e i0).2 n))) m),(rf n),(fun j0 hj0=>rfl),zo⟩,fun g hg=>⟨fun hc27=>have hc27:=dT hc27;have hgm:g<m:=zo;have hk:=H.at_ (m-1-g) zo;have hw1:=hw (m-1-g) zo;have hz1:=hz g zo;have hdv:=etaP_div hz1 hw1 hk zo;⟨zo,zo,zo,⟨0,(rf 0),(rf 0),(rf ((m:Int)-1-(g:Int):Int)),(rf 0),(rf (n:Int)),zo,(rf (some (B 0))),(rf 0),(rf n),(leS (mE (luS n D n).2.1 n) n),(rf n),(leS (mE ((luS n D n).1) n) n),(rf n),(leS (fun i0=>iN ((luS n D n).2.2.1 i0)) n),(rf ((luS n D n).2.2.2.2:Bool)),(rf 0),(rf n),(leS (mE C n) n),(rf m),(leS (fun i0=>.agg (c2 (iN ((e i0).1)) (vE (e i0).2 n))) m),(rf n),(fun j0 hj0=>etaJ_zero),(rf (((e (m-1-g)).1:Nat):Int)),(rf n),(leS (fun i0=>.rat ((e (m-1-g)).2 i0)) n),zo⟩,fun h hh=>⟨fun hc40=>have hc40:=dT hc40;have hhn:h<n:=zo;⟨fun hc45=>have hne:h≠(e (m-1-g)).1:=(by simp at hc45;omega);have hr:=etaP_room hz1 hw1 hk zo hhn hne;⟨(rf (((e (m-1-g)).1:Nat):Int)),zo,zo,(rf (h:Int)),zo,(rf (h:Int)),zo,zo,sRatMul (p:=(e (m-1-g)).2 h) (q:=etaJ (e (m-1-g)).1 (e (m-1-g)).2 (etaZs n m v e g) h h) hr.1,sRatSub (p:=etaJ (e (m-1-g)).1 (e (m-1-g)).2 (etaZs n m v e g) h ((e (m-1-g)).1)) (q:=((e (m-1-g)).2 h)*(etaJ (e (m-1-g)).1 (e (m-1-g)).2 (etaZs n m v e g) h h)) hr.2,(rf (((e (m-1-g)).1:Nat):Int)),zo,zo,(etaP_at hne),(fun t ht hne2=>by rw[etaJ_ne hne2,etaJ_ne hne2]),(wI (g:=h) zo),h+1,(rf 0),(rf 0),(rf ((m:Int)-1-(g:Int):Int)),(rf 0),(rf (n:Int)),zo,(rf (some (B 0))),(rf 0),(rf n),(leS (mE (luS n D n).2.1 n) n),(rf n),(leS (mE ((luS n D n).1) n) n),(rf n),(leS (fun i0=>iN ((luS n D n).2.2.1 i0)) n),(rf ((luS n D n).2.2.2.2:Bool)),(rf 0),(rf n),(leS (mE C n) n),(rf m),(leS (fun i0=>.agg (c2 (iN ((e i0).1)) (vE (e i0).2 n))) m),(rf n),(fun j0 hj0=>(by first | rfl | exact etaJ_skip hne)),(rf (((e (m-1-g)).1:Nat):Int)),(rf n),(leS (fun i0=>.rat ((e (m-1-g)).2 i0)) n),zo,zo⟩,fun hc45=>have hne:h=(e (m-1-g)).1:=(by simp at hc45;omega);⟨(wI (g:=h) zo),h+1,(rf 0),(rf 0),(rf ((m:Int)-1-(g:Int):Int)),(rf 0),(rf (n:Int)),zo,(rf (some (B 0))),(rf 0),(rf n),(leS (mE (luS n D n).2.1 n) n),(rf n),(leS (mE ((luS n D n).1) n) n),(rf n),(leS (fun i0=>iN ((luS n D n).2.2.1 i0)) n),(rf ((luS n D n).2.2.2.2:Bool)),(rf 0),(rf n),(leS (mE C n) n),(rf m),(leS (fun i0=>.agg (c2 (iN ((e i0).1)) (vE (e i0).2 n))) m),(rf n),(fun j0 hj0=>(by first | rfl | exact etaJ_skip hne)),(rf (((e (m-1-g)).1:Nat):Int)),(rf n),(leS (fun i0=>.rat ((e (m-1-g)).2 i0)) n),zo,zo⟩⟩,fun hc40=>have hc40:=dF hc40;have hi3:h=n:=zo;⟨(rf (((e (m-1-g)).1:Nat):Int)),zo,zo,(rf (((e (m-1-g)).1:Nat):Int)),zo,sRatDiv (p:=etaJ (e (m-1-g)).1 (e (m-1-g)).2 (etaZs n m v e g) h ((e (m-1-g)).1)) (q:=(e (m-1-g)).2 ((e (m-1-g)).1)) (by rw[hi3];exact hdv),(rf (((e (m-1-g)).1:Nat):Int)),zo,zo,(by rw[hi3];exact etaJ_div),(fun t ht hne2=>by rw[hi3,etaJ_all hne2]),(by rw[IntKind.wrap_i64];omega),g+1,(rf 0),(rf 0),zo,(rf (some (B 0))),(rf 0),(rf n),(leS (mE (luS n D n).2.1 n) n),(rf n),(leS (mE ((luS n D n).1) n) n),(rf n),(leS (fun i0=>iN ((luS n D n).2.2.1 i0)) n),(rf ((luS n D n).2.2.2.2:Bool)),(rf 0),(rf n),(leS (mE C n) n),(rf m),(leS (fun i0=>.agg (c2 (iN ((e i0).1)) (vE (e i0).2 n))) m),(rf n),(fun j0 hj0=>rfl),zo,zo⟩⟩⟩,fun hc27=>have hc27:=dF hc27;have hi2:g=m:=zo;⟨(rf 0),(rf n),(fun j0 hj0=>(by rw[hi2])),(rf (some (B 0))),(rf 0),(rf n),(leS (mE (luS n D n).2.1 n) n),(rf n),(leS (mE ((luS n D n).1) n) n),(rf n),(leS (fun i0=>iN ((luS n D n).2.2.1 i0)) n),(rf ((luS n D n).2.2.2.2:Bool)),(rf 0),(rf n),(leS (mE C n) n),(rf m),(leS (fun i0=>.agg (c2 (iN ((e i0).1)) (vE (e i0).2 n))) m),(sLuSolveT (U:=(luS n D n).1) (L:=(luS n D n).2.1) (P:=(luS n D n).2.2.1) (o:=(luS n D n).2.2.2.2) (n:=n) (b:=(etaZs n m v e m)) (ρ:=(luS n D n).2.2.2.1) hn (lu_bij n (Nat.le_refl n) hok) (lu_hL hD hn hok) (lu_hU hD hn hok) (fun j hj=>Nat.le_trans (hz m (Nat.le_refl m) j hj) (by decide))).frzV2,(rf n),(fun j0 hj0=>rfl),(rf (true:Bool)),(rf (some (B 0))),(rf 0),(rf n),(leS (mE (luS n D n).2.1 n) n),(rf n),(leS (mE ((luS n D n).1) n) n),(rf n),(leS (fun i0=>iN ((luS n D n).2.2.1 i0)) n),(rf ((luS n D n).2.2.2.2:Bool)),(rf 0),(rf n),(leS (mE C n) n),(rf m),(leS (fun i0=>.agg (c2 (iN ((e i0).1)) (vE (e i0).2 n))) m)⟩⟩⟩)
open Go.RowKit
def growC (n:Nat) (C:Nat→Nat→Rat) (w v:Nat→Rat) (k r:Nat):Rat:=if k<n then if r<n then C k r else w k else v r
section
variable {n k r:Nat} {C:Nat→Nat→Rat} {w v:Nat→Rat}
theorem growC_in(hk:k<n)(hr:r<n):growC n C w v k r=C k r:=by unfold growC;rw[if_pos hk,if_pos hr]
theorem growC_row(hk:k<n)(hr:n≤r):growC n C w v k r=w k:=by unfold growC;rw[if_pos hk,if_neg zo]
theorem growC_col(hk:n≤k):growC n C w v k r=v r:=by unfold growC;rw[if_neg zo]
end
theorem sBNewM{C:Nat→Nat→Rat}{e:Etas}{n:Nat}(hn:n≤6)(hD:HtB n n 3 (trM C))(hok:luOK n (trM C) n):CallOKm Tryz.prog 13 [.one (.row 33 1 (mE C n) n)] [.own 0 0] (c2 (.own 1 0) (.ex (.nilIface))) [.dead,.one (bV 2 3 (luS n (trM C) n) n),.one (.row 33 1 (mE C n) n),.one (eE e n 0)]:=by
 exact callOKm_P (ch:=fun B=>[.loop 3 (Nat) (fun g=>g≤n) (fun g=>n-g) (fun g=>⟨[(0,.own 0 0),(4,.own 1 0),(9,.own 0 0),(10,iN n),(11,iN g)],[(0,.one (.row 33 1 (mE C n) n)),(1,.one (.var 100 (.agg (c3 (.own 2 0) (.ex (.pointer none)) (.ex (.slice none 0 0)))))),(2,.one (.row 33 1 (mE C n) g))],3⟩) [(0,.id 0),(1,.id 1),(2,.nil)] (fun _=>[(0,.id 0),(1,.id 1),(2,.id 3)]) (fun g=>[.reg 4 [(1,.k g)],.dec 25 false,.reg 7 [(6,.callS (.sl 3 (fun i0=>.rat (C g i0)) n) []),(8,.row 0 (mE C n))],.reg 8 [(0,.z ((g+1:Nat):Int))],.conv 9 [(0,.id 1),(1,.id 2)] ⟨[(4,.own 0 0)],[(0,.one (.var 100 (.agg (c3 (.own 1 0) (.ex (.pointer none)) (.ex (.slice none 0 0)))))),(1,.one (.row 33 1 (mE C n) n))],2⟩,.reg 9 [(1,.callM [0,1] [.one (.var 100 (.agg (c3 (.own 1 0) (.ex (.pointer none)) (.ex (.slice none 0 0))))),.one (.row 33 1 (mE C n) n)] [.own 0 0] (bX true) [.one (.var 100 (.agg (c3 (.own 2 0) (.ep (lvE (luS n (trM C) n) n)) (.ex (.slice none 0 0))))),.dead,.one (.row 33 1 (mE C n) n)])],.dec 43 false,.ret 11 [(1,.id 0),(2,.id 2),(3,.nil)]])]) hMix Tryz.func13 rfl (by kernel_rfl) (by kernel_rfl) (by kernel_rfl) (fun B=>(((fun X1 X2 X3 X4 X5 X6 X7:Prop=>∃g0:Nat,X1∧X2∧X3∧X4∧((0:Int)=(g0:Int))∧X5∧X6∧X7∧((.pointer none:Value)=.pointer none)∧((g0:Nat)=0)∧(g0≤n)) _ _ _ _ _ _ _)∧∀g:Nat,(g≤n)→(((decide ((g:Int)<(n:Int)))=true→_∧(g<n)∧(g<n)∧(((!decide ((n:Int)=(n:Int)))==false)=true→((!decide ((n:Int)=(n:Int)))==false)=true)∧(((!decide ((n:Int)=(n:Int)))==false)=true→((!decide ((n:Int)=(n:Int)))==false)=true)∧((!(!decide ((n:Int)=(n:Int))))=true→((!decide ((n:Int)=(n:Int)))==false)=true)∧((bif (!decide ((n:Int)=(n:Int))) then true else(decide ((64:Int)<(n:Int))))=false)∧_∧(g+1≤68719476736)∧_∧_∧_∧((fun X1 X2 X3 X4 X5 X6 X7 X8:Prop=>∃g1:Nat,X1∧X2∧X3∧X4∧(((g+1:Nat):Int)=(g1:Int))∧X5∧X6∧X7∧((.pointer none:Value)=.pointer none)∧((g+1:Nat)=g1)∧X8∧(g1≤n)∧(n-g1<n-g)) _ _ _ _ _ _ _ _))∧((decide ((g:Int)<(n:Int)))=false→_∧_∧((.pointer none:Value)=.pointer none)∧((g:Nat)=n)∧_∧(CallOKm Tryz.prog 49 [.one (.var 100 (.agg (c3 (.own 1 0) (.ex (.pointer none)) (.ex (.slice none 0 0))))),.one (.row 33 1 (mE C n) n)] [.own 0 0] (bX true) [.one (.var 100 (.agg (c3 (.own 2 0) (.ep (lvE (luS n (trM C) n) n)) (.ex (.slice none 0 0))))),.dead,.one (.row 33 1 (mE C n) n)])∧_∧_∧_∧_∧((!true)=false)∧(_∧((.nilIface:Value)=.nilIface)∧_∧_∧_∧_∧_∧_∧_∧_∧_∧_∧_∧_))))) (fun B=>by kernel_rfl)
  (fun B=>⟨⟨0,(rf 0),(rf 0),(rf 0),(rf (n:Int)),zo,(rf n),(leS (mE C n) n),(rf 0),rfl,zo,zo⟩,fun g hg=>⟨fun hc12=>have hc12:=dT hc12;⟨(rf (g:Int)),zo,zo,id,id,(by simp),(by simp;omega),(sVecCopy (n:=n) (q:=(fun i=>C g i)) zo).frzV,zo,(oldS (mE C n) g),(newS (mE C n) g),(wI (g:=g) zo),g+1,(rf 0),(rf 0),(rf 0),(rf (n:Int)),zo,(rf n),(leS (mE C n) n),(rf 0),rfl,zo,(leS (mE C n) (g+1)),zo,zo⟩,fun hc12=>have hc12:=dF hc12;have hi2:g=n:=zo;⟨(rf 0),(rf 0),rfl,hi2,(leS (mE C n) g),(sBFactorF hn hD hok),(rf (.one (.var 100 (.agg (c3 (.own 1 0) (.ex (.pointer none)) (.ex (.slice none 0 0))))):Hl)),(rf (.one (.row 33 1 (mE C n) n):Hl)),(rf 0),(rf 0),rfl,(rf 0),rfl,(rf 0),(rf n),(leS (mE (luS n (trM C) n).2.1 n) n),(rf n),(leS (mE ((luS n (trM C) n).1) n) n),(rf n),(leS (fun i0=>iN ((luS n (trM C) n).2.2.1 i0)) n),(rf ((luS n (trM C) n).2.2.2.2:Bool)),(rf 0),(rf n),(leS (mE C n) n),(rf 0)⟩⟩⟩)
theorem sBGrow{D C:Nat→Nat→Rat}{e:Etas}{n m:Nat}{a v:Nat→Rat}{e2:Etas}(hn:n+1≤6)(hD:HtB (n+1) (n+1) 3 (trM (growC n C a v)))(hok:luOK (n+1) (trM (growC n C a v)) (n+1)):CallOKm Tryz.prog 40 [.one (bV 1 2 (luS n D n) n),.one (.row 33 1 (mE C n) n),.one (eE e n m)] [.own 0 0,.sl 3 (fun i0=>.rat (a i0)) n,.sl 3 (fun i0=>.rat (v i0)) (n+1)] (c2 (.own 5 0) (.ex (.nilIface))) [.one (bV 3 4 (luS n D n) n),.dead,.dead,.one (.row 33 1 (mE C n) n),.one (eE e n m),.one (bV 6 7 (luS (n+1) (trM (growC n C a v)) (n+1)) (n+1)),.one (.row 33 1 (mE (growC n C a v) (n+1)) (n+1)),.one (eE e2 (n+1) 0)]:=by
 exact callOKm_P (ch:=fun B=>[.reg 2 [(8,.z ((n+1:Nat):Int))],.dec 31 false,.loop 6 (Nat) (fun g=>g≤n) (fun g=>n-g) (fun g=>⟨[(0,.own 0 0),(1,.sl 3 (fun i0=>.rat (a i0)) n),(2,.sl 3 (fun i0=>.rat (v i0)) (n+1)),(9,.own 3 0),(36,.own 1 0),(37,iN n),(38,iN g)],[(0,.one (bV 1 2 (luS n D n) n (some (B 0)))),(1,.one (.row 33 1 (mE C n) n)),(2,.one (eE e n m)),(3,.one (.row 33 1 (fun i0=>.own 4 i0) g)),(4,.fam g (fun i0=>.row 47 3 (fun i1=>.rat (growC n C a v i0 i1)) (n+1)))],5⟩) [(0,.id 0),(1,.id 1),(2,.id 2),(3,.nil),(4,.emp)] (fun g=>[(0,.id 0),(1,.id 1),(2,.id 2),(3,.id 7),(4,.put 4 g 6)]) (fun g=>[.reg 7 [(1,.k g)],.reg 8 [(2,.callS (.own 0 0) [.one (.row 47 3 (fun i0=>.rat (C g i0)) n)]),(5,.k g),(8,.row 0 (fun i0=>.rat (growC n C a v g i0))),(10,.row 0 (fun i0=>.own (if i0<g then 4 else 6) (if i0<g then i0 else 0)))],.reg 9 [(0,.z ((g+1:Nat):Int))],.conv 10 [(0,.id 0),(1,.id 1),(2,.id 2),(3,.id 3)] ⟨[(0,.own 0 0),(2,.sl 3 (fun i0=>.rat (v i0)) (n+1)),(9,.own 3 0)],[(0,.one (bV 1 2 (luS n D n) n (some (B 0)))),(1,.one (.row 33 1 (mE C n) n)),(2,.one (eE e n m)),(3,.one (.row 33 1 (fun i0=>.sl 3 (fun i1=>.rat (growC n C a v i0 i1)) (n+1)) n))],4⟩,.reg 10 [(3,.row 0 (fun i0=>.sl 3 (fun i1=>.rat (growC n C a v i0 i1)) (n+1))),(4,.callM [4] [.one (.row 33 1 (fun i0=>.sl 3 (fun i1=>.rat (growC n C a v i0 i1)) (n+1)) (n+1))] [.own 0 0] (c2 (.own 1 0) (.ex (.nilIface))) [.dead,.one (bV 2 3 (luS (n+1) (trM (growC n C a v)) (n+1)) (n+1)),.one (.row 33 1 (mE (growC n C a v) (n+1)) (n+1)),.one (eE e2 (n+1) 0)])],.ret 10 [(0,.id 0),(3,.id 1),(4,.id 2),(5,.id 5),(6,.id 6),(7,.id 7)]])]) hMix Tryz.func40 rfl (by kernel_rfl) (by kernel_rfl) (by kernel_rfl) (fun B=>let y0:=((!decide ((n:Int)=(n:Int)))==false);let y1:=(bif (!decide ((n:Int)=(n:Int))) then true else(!decide (((n+1:Nat):Int)=((n+1:Nat):Int))));(y0=true→y0=true)∧(y0=true→y0=true)∧(y0=true→IntKind.wrap .i64 ((n:Int)+1)=(((n+1:Nat):Int)))∧(y0=true→y0=true)∧(y0=true→y0=true)∧((!(!decide ((n:Int)=(n:Int))))=true→y0=true)∧((y1==false)=true→(y1==false)=true)∧((!y1)=true→(y1==false)=true)∧((bif y1 then true else(decide ((64:Int)≤(n:Int))))=false)∧(((fun X1 X2 X3 X4 X5 X6 X7 X8 X9 X10 X11 X12 X13 X14 X15 X16 X17 X18 X19 X20 X21 X22:Prop=>∃g0:Nat,X1∧X2∧X3∧X4∧X5∧X6∧X7∧X8∧((0:Int)=(g0:Int))∧X9∧X10∧X11∧X12∧X13∧X14∧X15∧X16∧X17∧X18∧X19∧X20∧X21∧X22∧((g0:Nat)=0)∧((g0:Nat)=0)∧(g0≤n)) _ _ _ _ _ _ _ _ _ _ _ _ _ _ _ _ _ _ _ _ _ _)∧∀g:Nat,(g≤n)→(((decide ((g:Int)<(n:Int)))=true→_∧(g<n)∧(g<n)∧_∧_∧(g<n)∧(n+1≤68719476736)∧(∀j0,j0<n→(.rat (growC n C a v g j0):SV)=.rat (C g j0))∧(∀j0,j0<1→((a g:Rat)=(growC n C a v g (n+j0))))∧(g+1≤68719476736)∧(∀j0,j0<g→(.own (if j0<g then 4 else 6) (if j0<g then j0 else 0):SV)=.own 4 j0)∧(∀j0,j0<1→((6:Nat)=(if g+j0<g then 4 else 6))∧((0:Nat)=(if g+j0<g then g+j0 else 0)))∧_∧((fun X1 X2 X3 X4 X5 X6 X7 X8 X9 X10 X11 X12 X13 X14 X15 X16 X17 X18 X19 X20 X21 X22 X23:Prop=>∃g1:Nat,X1∧X2∧X3∧X4∧X5∧X6∧X7∧X8∧(((g+1:Nat):Int)=(g1:Int))∧X9∧X10∧X11∧X12∧X13∧X14∧X15∧X16∧X17∧X18∧X19∧X20∧X21∧X22∧((g+1:Nat)=g1)∧(∀j0,j0<(g+1)→(((if j0<g then 4 else 6:Nat)=6∧(if j0<g then j0 else 0:Nat)=0∧(j0:Nat)=g)∨((if j0<g then 4 else 6:Nat)=4∧(if j0<g then j0 else 0:Nat)=j0∧(j0:Nat)≠g)))∧((g1:Nat)=g+1)∧X23∧(((n+1:Nat)=(n+1))∧(∀j1,j1<(n+1)→((growC n C a v g j1:Rat)=(growC n C a v g j1))))∧(∀j0,j0<g→((n+1:Nat)=(n+1))∧(∀j1,j1<(n+1)→((growC n C a v j0 j1:Rat)=(growC n C a v j0 j1))))∧(g1≤n)∧(n-g1<n-g)) _ _ _ _ _ _ _ _ _ _ _ _ _ _ _ _ _ _ _ _ _ _ _))∧((decide ((g:Int)<(n:Int)))=false→_∧_∧_∧_∧_∧_∧_∧_∧_∧_∧_∧_∧_∧_∧_∧_∧_∧_∧((g:Nat)=n)∧(∀j0,j0<g→((n+1:Nat)=(n+1))∧(∀j1,j1<(n+1)→((growC n C a v j0 j1:Rat)=(growC n C a v j0 j1)))∧(j0<g))∧(n+1≤68719476736)∧_∧(∀j0,j0<1→((n+1:Nat)=(n+1))∧(∀j1,j1<(n+1)→((v j1:Rat)=(growC n C a v (n+j0) j1))))∧(CallOKm Tryz.prog 13 [.one (.row 33 1 (fun i0=>.sl 3 (fun i1=>.rat (growC n C a v i0 i1)) (n+1)) (n+1))] [.own 0 0] (c2 (.own 1 0) (.ex (.nilIface))) [.dead,.one (bV 2 3 (luS (n+1) (trM (growC n C a v)) (n+1)) (n+1)),.one (.row 33 1 (mE (growC n C a v) (n+1)) (n+1)),.one (eE e2 (n+1) 0)])∧_∧_∧_∧(_∧((.nilIface:Value)=.nilIface)∧_∧_∧_∧_∧_∧_∧_∧_∧_∧_∧_∧_∧_∧_∧_∧_∧_∧_∧_∧_∧_∧_∧_∧_∧_∧_∧_))))) (fun B=>by kernel_rfl)
  (fun B=>⟨id,id,(fun hg=>(by rw[IntKind.wrap_i64];omega)),id,id,(by simp),id,(by simp),(by simp;omega),⟨0,(rf 0),(rf n),(leS (fun i0=>.rat (a i0)) n),(rf (n+1:Nat)),(leS (fun i0=>.rat (v i0)) (n+1)),(rf 0),(rf 0),(rf (n:Int)),zo,(rf (some (B 0))),(rf 0),(rf n),(leS (mE (luS n D n).2.1 n) n),(rf n),(leS (mE ((luS n D n).1) n) n),(rf n),(leS (fun i0=>iN ((luS n D n).2.2.1 i0)) n),(rf ((luS n D n).2.2.2.2:Bool)),(rf 0),(rf n),(leS (mE C n) n),(rf m),(leS (fun i0=>.agg (c2 (iN ((e i0).1)) (vE (e i0).2 n))) m),zo,zo,zo⟩,fun g hg=>⟨fun hc39=>have hc39:=dT hc39;have hgn:g<n:=zo;⟨(rf (g:Int)),zo,zo,sVecCopy (n:=n) (q:=(fun i=>C g i)) zo,(rf (g:Int)),zo,zo,(fun j0 hj0=>by rw[growC_in hgn hj0]),(fun j0 hj0=>(growC_row hgn (Nat.le_add_right n j0)).symm),zo,(fun j0 hj0=>by rw[if_pos hj0,if_pos hj0]),(fun j0 hj0=>⟨(by rw[if_neg zo]),(by rw[if_neg zo])⟩),(wI (g:=g) zo),g+1,(rf 0),(rf n),(leS (fun i0=>.rat (a i0)) n),(rf (n+1:Nat)),(leS (fun i0=>.rat (v i0)) (n+1)),(rf 0),(rf 0),(rf (n:Int)),zo,(rf (some (B 0))),(rf 0),(rf n),(leS (mE (luS n D n).2.1 n) n),(rf n),(leS (mE ((luS n D n).1) n) n),(rf n),(leS (fun i0=>iN ((luS n D n).2.2.1 i0)) n),(rf ((luS n D n).2.2.2.2:Bool)),(rf 0),(rf n),(leS (mE C n) n),(rf m),(leS (fun i0=>.agg (c2 (iN ((e i0).1)) (vE (e i0).2 n))) m),zo,(fun j0 hj0=>(by first | omega | (split<;>omega))),zo,(rf g),⟨rfl,(fun j1 hj1=>rfl)⟩,(fun j0 hj0=>⟨rfl,(fun j1 hj1=>rfl)⟩),zo,zo⟩,fun hc39=>have hc39:=dF hc39;have hi2:g=n:=zo;⟨(rf 0),(rf (n+1:Nat)),(leS (fun i0=>.rat (v i0)) (n+1)),(rf 0),(rf (some (B 0))),(rf 0),(rf n),(leS (mE (luS n D n).2.1 n) n),(rf n),(leS (mE ((luS n D n).1) n) n),(rf n),(leS (fun i0=>iN ((luS n D n).2.2.1 i0)) n),(rf ((luS n D n).2.2.2.2:Bool)),(rf 0),(rf n),(leS (mE C n) n),(rf m),(leS (fun i0=>.agg (c2 (iN ((e i0).1)) (vE (e i0).2 n))) m),hi2,(fun j0 hj0=>⟨rfl,(fun j1 hj1=>rfl),zo⟩),zo,(oldS (fun i0=>.sl 3 (fun i1=>.rat (growC n C a v i0 i1)) (n+1)) n),(fun j0 hj0=>by obtain rfl:j0=0:=zo;exact⟨rfl,fun j1 _=>(growC_col (Nat.le_refl n)).symm⟩),(sBNewM (C:=(growC n C a v)) (e:=e2) hn hD hok),(rf (.one (.row 33 1 (fun i0=>.sl 3 (fun i1=>.rat (growC n C a v i0 i1)) (n+1)) (n+1)):Hl)),(rf 4),(rf 0),(rf 0),rfl,(rf (some (B 0))),(rf 0),(rf n),(leS (mE (luS n D n).2.1 n) n),(rf n),(leS (mE ((luS n D n).1) n) n),(rf n),(leS (fun i0=>iN ((luS n D n).2.2.1 i0)) n),(rf ((luS n D n).2.2.2.2:Bool)),(rf 0),(rf n),(leS (mE C n) n),(rf m),(leS (fun i0=>.agg (c2 (iN ((e i0).1)) (vE (e i0).2 n))) m),(rf 0),(rf (n+1:Nat)),(leS (mE (luS (n+1) (trM (growC n C a v)) (n+1)).2.1 (n+1)) (n+1)),(rf (n+1:Nat)),(leS (mE ((luS (n+1) (trM (growC n C a v)) (n+1)).1) (n+1)) (n+1)),(rf (n+1:Nat)),(leS (fun i0=>iN ((luS (n+1) (trM (growC n C a v)) (n+1)).2.2.1 i0)) (n+1)),(rf ((luS (n+1) (trM (growC n C a v)) (n+1)).2.2.2.2:Bool)),(rf 0),(rf (n+1:Nat)),(leS (mE (growC n C a v) (n+1)) (n+1)),(rf 0),(leS (fun i0=>.agg (c2 (iN ((e2 i0).1)) (vE (e2 i0).2 (n+1)))) 0)⟩⟩⟩)
open Go.RowKit
theorem sRowsCut{k0:Nat→Nat}{p0 d0:Nat→Nat→Int}{n m:Nat}(hn:n≤6)(hm:m≤6):CallOK Tryz.prog 65 [.agg (c2 (.ex (.int .u8 (n:Int))) (.sl 1 (gE k0 p0 d0) m))] (c2 (.sl 1 (fun i0=>.sl 2 (fun i1=>.agg (c2 (.ex (.int .i64 (padZ (k0 i0) (p0 i0) i1))) (.ex (.int .i64 (padZ (k0 i0) (d0 i0) i1))))) n) m) (iN n)) []:=by
 have h:=sRows11 (z:=n) (l:=m) (k:=k0) (p:=p0) (d:=d0)
 rw[Nat.mod_eq_of_lt (show n<7 by omega),Nat.min_eq_left (show m≤6 by omega)] at h
 exact h
theorem gQ_wd{l:Nat}{k:Nat→Nat}{p d:Nat→Nat→Int}(h:∀r,r<l→∀c,c<k r→Wd64 (p r c)∧Wd64 (d r c)){r c:Nat}(hr:r<l):Wd64 (padZ (k r) (p r) c)∧Wd64 (padZ (k r) (d r) c):=⟨padZ_wd fun hc=>(h r hr c hc).1,padZ_wd fun hc=>(h r hr c hc).2⟩
theorem sColumns{z0 l0:Nat}{k0:Nat→Nat}{p0 d0:Nat→Nat→Int}{n m:Nat}(h0:∀r,r<l0→∀c,c<k0 r→Wd64 (p0 r c)∧Wd64 (d0 r c))(hn:z0%5=n)(hm:min l0 n=m):CallOK Tryz.prog 29 [.agg (c2 (.ex (.int .u8 (z0:Int))) (.sl 1 (gE k0 p0 d0) l0))] (c2 (.sl 1 (fun i0=>.sl 3 (fun i1=>.rat (gQ k0 p0 d0 i0 i1)) n) m) (.agg (c2 (.sl 1 (fun i0=>.sl 3 (fun i1=>.qt (gQ k0 p0 d0 i0 i1)) n) m) (iN n)))) []:=by
 have hn5:n≤5:=by omega
 exact kP (ch:=[.reg 1 [(2,.z (n:Int))],.reg 2 [(5,.z (n:Int))],.reg 3 [(4,.kk 0 m)],.join 4 0 [(0,.id 0),(1,.id 1)] [(0,.id 0),(1,.id 1)] ⟨[(1,.own 0 0),(3,.own 1 0)],[(0,.one (.var 24 (.agg (c2 (.ex (.int .u8 (n:Int))) (.sl 1 (gE k0 p0 d0) m))))),(1,.one (.var 68 (.ex (.agg #[.slice none 0 0,.int .i64 0]))))],2⟩ (True),.reg 4 [(1,.callS (c2 (.sl 1 (fun i0=>.sl 2 (fun i1=>.agg (c2 (.ex (.int .i64 (padZ (k0 i0) (p0 i0) i1))) (.ex (.int .i64 (padZ (k0 i0) (d0 i0) i1))))) n) m) (iN n)) [])],.loop 7 (Nat) (fun g=>g≤m) (fun g=>m-g) (fun g=>⟨[(1,.own 0 0),(3,.own 1 0),(4,.sl 1 (fun i0=>.sl 2 (fun i1=>.agg (c2 (.ex (.int .i64 (padZ (k0 i0) (p0 i0) i1))) (.ex (.int .i64 (padZ (k0 i0) (d0 i0) i1))))) n) m),(6,.own 2 0),(7,iN g)],[(0,.one (.var 24 (.agg (c2 (.ex (.int .u8 (n:Int))) (.sl 1 (gE k0 p0 d0) m))))),(1,.one (.var 68 (.ex (.agg #[.slice none 0 0,.int .i64 0])))),(2,.one (.row 33 1 (fun i0=>.sl 3 (fun i1=>.rat (gQ k0 p0 d0 i0 i1)) n) g))],3⟩) [(0,.id 0),(1,.id 1),(2,.nil)] (fun _=>[(0,.id 0),(1,.id 1),(2,.id 3)]) (fun g=>[.reg 9 [(3,.k g),(5,.callS (.sl 3 (fun i0=>.rat (oneQ (padZ (k0 g) (p0 g) i0) (padZ (k0 g) (d0 g) i0))) n) []),(7,.row 0 (fun i0=>.sl 3 (fun i1=>.rat (gQ k0 p0 d0 i0 i1)) n))],.reg 8 [(1,.z ((g+1:Nat):Int))],.reg 10 [(2,.callS (.agg (c2 (.sl 1 (fun i0=>.sl 3 (fun i1=>.qt (gQ k0 p0 d0 i0 i1)) n) m) (iN n))) [])]])]) Tryz.func29 (let y0:=(decide ((n:Int)<(l0:Int)));(∀j0,j0<l0→(∀j1,j1<(k0 j0)→True))∧((5:Int)≠0)∧((z0:Int).tmod 5=((n:Int)))∧(((IntKind.wrap .i64 (n:Int)=((n:Int)))∧((y0=true→((n:Int)=(m:Int))∧(m≤l0)∧_∧_∧_∧_∧_∧((.agg #[.slice none 0 0,.int .i64 0]:Value)=.agg #[.slice none 0 0,.int .i64 0])∧True)∧(y0=false→_∧_∧_∧((l0:Nat)=m)∧_∧((.agg #[.slice none 0 0,.int .i64 0]:Value)=.agg #[.slice none 0 0,.int .i64 0])∧True)))∧(True→(CallOK Tryz.prog 65 [.agg (c2 (.ex (.int .u8 (n:Int))) (.sl 1 (gE k0 p0 d0) m))] (c2 (.sl 1 (fun i0=>.sl 2 (fun i1=>.agg (c2 (.ex (.int .i64 (padZ (k0 i0) (p0 i0) i1))) (.ex (.int .i64 (padZ (k0 i0) (d0 i0) i1))))) n) m) (iN n)) [])∧(((fun X1 X2 X3 X4 X5 X6 X7 X8:Prop=>∃g0:Nat,X1∧X2∧X3∧X4∧X5∧((0:Int)=(g0:Int))∧X6∧X7∧X8∧((.agg #[.slice none 0 0,.int .i64 0]:Value)=.agg #[.slice none 0 0,.int .i64 0])∧((g0:Nat)=0)∧(g0≤m)) _ _ _ _ _ _ _ _)∧∀g:Nat,(g≤m)→(((decide ((g:Int)<(m:Int)))=true→_∧(g<m)∧_∧(g+1≤68719476736)∧_∧_∧_∧((fun X1 X2 X3 X4 X5 X6 X7 X8 X9:Prop=>∃g1:Nat,X1∧X2∧X3∧X4∧X5∧(((g+1:Nat):Int)=(g1:Int))∧X6∧X7∧X8∧((.agg #[.slice none 0 0,.int .i64 0]:Value)=.agg #[.slice none 0 0,.int .i64 0])∧((g+1:Nat)=g1)∧X9∧(g1≤m)∧(m-g1<m-g)) _ _ _ _ _ _ _ _ _))∧((decide ((g:Int)<(m:Int)))=false→(CallOK Tryz.prog 66 [.agg (c2 (.ex (.int .u8 (n:Int))) (.sl 1 (gE k0 p0 d0) m))] (.agg (c2 (.sl 1 (fun i0=>.sl 3 (fun i1=>.qt (gQ k0 p0 d0 i0 i1)) n) m) (iN n))) [])∧(((g:Nat)=m)∧_∧_∧_∧_)))))))
  ⟨(fun _ _=>(fun _ _=>trivial)),(by decide),(by rw[←hn];rfl),⟨(by rw[IntKind.wrap_i64];omega),fun hc18=>have hc18:=dT hc18;have hc:=hc18;⟨zo,zo,(rf 0),(rf 0),(rf (n:Int)),(rf m),(leS (gE k0 p0 d0) m),rfl,trivial⟩,fun hc18=>have hc18:=dF hc18;have hc:=hc18;⟨(rf 0),(rf 0),(rf (n:Int)),zo,(leS (gE k0 p0 d0) l0),rfl,trivial⟩⟩,fun _=>⟨(sRowsCut (k0:=k0) (p0:=p0) (d0:=d0) zo zo),⟨0,(rf 0),(rf 0),(rf m),(leS (fun i0=>.sl 2 (fun i1=>.agg (c2 (.ex (.int .i64 (padZ (k0 i0) (p0 i0) i1))) (.ex (.int .i64 (padZ (k0 i0) (d0 i0) i1))))) n) m),(rf 0),zo,(rf (n:Int)),(rf m),(leS (gE k0 p0 d0) m),rfl,zo,zo⟩,fun g hg=>⟨fun hc33=>have hc33:=dT hc33;have hgm:g<m:=zo;⟨(rf (g:Int)),zo,(sMake (n:=n) (p:=fun i=>padZ (k0 g) (p0 g) i) (d:=fun i=>padZ (k0 g) (d0 g) i) zo (fun c hc=>(gQ_wd h0 (show g<l0 by omega)))).frzV,zo,(oldS (fun i0=>.sl 3 (fun i1=>.rat (gQ k0 p0 d0 i0 i1)) n) g),(newS (fun i0=>.sl 3 (fun i1=>.rat (gQ k0 p0 d0 i0 i1)) n) g),(wI (g:=g) zo),g+1,(rf 0),(rf 0),(rf m),(leS (fun i0=>.sl 2 (fun i1=>.agg (c2 (.ex (.int .i64 (padZ (k0 i0) (p0 i0) i1))) (.ex (.int .i64 (padZ (k0 i0) (d0 i0) i1))))) n) m),(rf 0),zo,(rf (n:Int)),(rf m),(leS (gE k0 p0 d0) m),rfl,zo,(leS (fun i0=>.sl 3 (fun i1=>.rat (gQ k0 p0 d0 i0 i1)) n) (g+1)),zo,zo⟩,fun hc33=>have hc33:=dF hc33;have hi2:g=m:=zo;⟨(sRefCut h0 zo hm),hi2,(leS (fun i0=>.sl 3 (fun i1=>.rat (gQ k0 p0 d0 i0 i1)) n) g),(rf m),(leS (fun i0=>.sl 3 (fun i1=>.qt (gQ k0 p0 d0 i0 i1)) n) m),(rf (n:Int))⟩⟩⟩⟩
open Go.RowKit
def acQ (p d:Nat→Nat→Int) (i c:Nat):Rat:=oneQ (p i c) (d i c)
def noE:Etas:=fun _=>(0,fun _=>0)
def plS (m:Nat) (k:Nat→Nat) (p d:Nat→Nat→Int) (K:Nat→Int) (L:Nat→Nat) (p1 d1:Nat→Nat→Int):Nat→BS
 | 0=>⟨trM (gQ k p d),gQ k p d,noE,0⟩
 | g+1=>repS m (plS m k p d K L p1 d1 g) (K g) (acQ p1 d1 g) (L g)
theorem gQ_htB{l:Nat}{k:Nat→Nat}{p d:Nat→Nat→Int}(h:∀r,r<l→∀c,c<k r→Wd64 (p r c)∧Wd64 (d r c)){m:Nat}(hm:m≤6)(hl:m≤l):HtB m m 3 (trM (gQ k p d)):=fun i hi j hj=>by
 have h1:=gQ_sz h (r:=j) (c:=i) zo
 have h2:=ht_sz (gQ k p d j i)
 show htq (gQ k p d j i)+1≤3
 omega
theorem ac_ht{N:Nat}{L:Nat→Nat}{p d:Nat→Nat→Int}(w:∀i,i<N→∀c,c<L i→Wd64 (p i c)∧Wd64 (d i c)){i m:Nat}(hi:i<N):L i=m→∀j,j<m→htq (acQ p d i j)≤2:=fun e j hj=>
 Nat.le_trans (ht_sz _) (szq_one (w i hi j zo).1 (w i hi j zo).2)
theorem pl_ok{m N l:Nat}{k:Nat→Nat}{p d p1 d1:Nat→Nat→Int}{K:Nat→Int}{L:Nat→Nat}(hm:m≤5)(hl:m≤l)(h:∀r,r<l→∀c,c<k r→Wd64 (p r c)∧Wd64 (d r c))(hok:luOK m (trM (gQ k p d)) m)(w:∀i,i<N→∀c,c<L i→Wd64 (p1 i c)∧Wd64 (d1 i c)):∀g,g≤N→BSK m (plS m k p d K L p1 d1 g)
 | 0,_=>.fresh hok (gQ_htB h zo hl)
 | g+1,hg=>by
  have ih:=pl_ok (K:=K) hm hl h hok w g zo
  by_cases e:L g=m
  ·exact repS_ok ih hm (ac_ht w zo e)
  ·by_cases h0:repN m (plS m k p d K L p1 d1 g) (K g) (acQ p1 d1 g) (L g)=0
   ·exact absurd (repN_ok' h0).2.1 e
   ·show BSK m (repS m _ _ _ _);rw[repS_no h0];exact ih
theorem sPlayed{z0 l0:Nat}{k0:Nat→Nat}{p0 d0:Nat→Nat→Int}{n m:Nat}{N1:Nat}{K1:Nat→Int}{L1:Nat→Nat}{p1 d1:Nat→Nat→Int}(h0:∀r,r<l0→∀c,c<k0 r→Wd64 (p0 r c)∧Wd64 (d0 r c))(hn:z0%5=n)(hm:min l0 n=m)(hmn:m=0∨m=n)(hok:luOK m (trM (gQ k0 p0 d0)) m)(hN:N1≤68719476736)(hL1:∀i,i<N1→L1 i≤68719476736)(w1:∀i,i<N1→∀c,c<L1 i→Wd64 (p1 i c)∧Wd64 (d1 i c)):CallOK Tryz.prog 10 [.agg (c2 (.ex (.int .u8 (z0:Int))) (.sl 1 (gE k0 p0 d0) l0)),.sl 2 (fun i0=>.agg (c2 (.ex (.int .i64 (K1 i0))) (.sl 2 (fun i1=>.agg (c2 (.ex (.int .i64 (p1 i0 i1))) (.ex (.int .i64 (d1 i0 i1))))) (L1 i0)))) N1] (.own 0 0) [.one (bV 1 2 (luS m (plS m k0 p0 d0 K1 L1 p1 d1 N1).D m) m),.one (.row 33 1 (mE (plS m k0 p0 d0 K1 L1 p1 d1 N1).C m) m),.one (eE (plS m k0 p0 d0 K1 L1 p1 d1 N1).e m ((plS m k0 p0 d0 K1 L1 p1 d1 N1).m))]:=by
 have hn5:n≤5:=by omega
 have hK:=fun g hg=>pl_ok (K:=K1) (show m≤5 by omega) (show m≤l0 by omega) h0 hok w1 g hg
 exact kP (ch:=[.reg 1 [(1,.callS (c2 (.sl 1 (fun i0=>.sl 3 (fun i1=>.rat (gQ k0 p0 d0 i0 i1)) n) m) (.agg (c2 (.sl 1 (fun i0=>.sl 3 (fun i1=>.qt (gQ k0 p0 d0 i0 i1)) n) m) (iN n)))) [])],.reg 2 [(1,.call [.sl 1 (mE (gQ k0 p0 d0) m) m] (c2 (.own 0 0) (.ex (.nilIface))) [.one (bV 1 2 (luS m (trM (gQ k0 p0 d0)) m) m),.one (.row 33 1 (mE (gQ k0 p0 d0) m) m),.one (eE noE m 0)])],.dec 25 false,.loop 6 (Nat) (fun g=>g≤N1) (fun g=>N1-g) (fun g=>⟨[(1,.sl 2 (fun i0=>.agg (c2 (.ex (.int .i64 (K1 i0))) (.sl 2 (fun i1=>.agg (c2 (.ex (.int .i64 (p1 i0 i1))) (.ex (.int .i64 (d1 i0 i1))))) (L1 i0)))) N1),(7,.own 0 0),(9,iN g)],[(0,.one (bV 1 2 (luS m (plS m k0 p0 d0 K1 L1 p1 d1 g).D m) m)),(1,.one (.row 33 1 (mE (plS m k0 p0 d0 K1 L1 p1 d1 g).C m) m)),(2,.one (eE (plS m k0 p0 d0 K1 L1 p1 d1 g).e m ((plS m k0 p0 d0 K1 L1 p1 d1 g).m)))],3⟩) [(0,.id 2),(1,.id 3),(2,.id 4)] (fun _=>[(0,.id 0),(1,.id 3),(2,.id 4)]) (fun g=>[.reg 8 [(3,.k g),(8,.k g),(11,.callS (.sl 3 (fun i0=>.rat (oneQ (p1 g i0) (d1 g i0))) (L1 g)) []),(12,.callM [0,1,2] [.one (bV 1 2 (luS m (plS m k0 p0 d0 K1 L1 p1 d1 g).D m) m),.one (.row 33 1 (mE (plS m k0 p0 d0 K1 L1 p1 d1 g).C m) m),.one (eE (plS m k0 p0 d0 K1 L1 p1 d1 g).e m ((plS m k0 p0 d0 K1 L1 p1 d1 g).m))] [.own 0 0,.ex (.int .i64 (K1 g)),.sl 3 (fun i0=>.rat ((acQ p1 d1 g) i0)) (L1 g)] (.alt (decide (repN m (plS m k0 p0 d0 K1 L1 p1 d1 g) (K1 g) (acQ p1 d1 g) (L1 g)=0)) (.ex (.nilIface)) (.ifc 113 (.ep (.agg (c3 (.ex (.string sCol)) (.ex (.int .i64 (K1 g))) (.ex (.iface 63 (.int .i64 (repN m (plS m k0 p0 d0 K1 L1 p1 d1 g) (K1 g) (acQ p1 d1 g) (L1 g)))))))))) [.one (bV 3 4 (luS m (repS m (plS m k0 p0 d0 K1 L1 p1 d1 g) (K1 g) (acQ p1 d1 g) (L1 g)).D m) m),.dead,.dead,.one (.row 33 1 (mE (repS m (plS m k0 p0 d0 K1 L1 p1 d1 g) (K1 g) (acQ p1 d1 g) (L1 g)).C m) m),.one (eE (repS m (plS m k0 p0 d0 K1 L1 p1 d1 g) (K1 g) (acQ p1 d1 g) (L1 g)).e m ((repS m (plS m k0 p0 d0 K1 L1 p1 d1 g) (K1 g) (acQ p1 d1 g) (L1 g)).m))])],.reg 7 [(1,.z ((g+1:Nat):Int))],.ret 9 [(0,.id 0),(1,.id 1),(2,.id 2)]])]) Tryz.func10 ((∀j0,j0<l0→(∀j1,j1<(k0 j0)→True))∧(∀j0,j0<N1→(∀j1,j1<(L1 j0)→True))∧(CallOK Tryz.prog 29 [.agg (c2 (.ex (.int .u8 (z0:Int))) (.sl 1 (gE k0 p0 d0) l0))] (c2 (.sl 1 (fun i0=>.sl 3 (fun i1=>.rat (gQ k0 p0 d0 i0 i1)) n) m) (.agg (c2 (.sl 1 (fun i0=>.sl 3 (fun i1=>.qt (gQ k0 p0 d0 i0 i1)) n) m) (iN n)))) [])∧(CallOK Tryz.prog 13 [.sl 1 (mE (gQ k0 p0 d0) m) m] (c2 (.own 0 0) (.ex (.nilIface))) [.one (bV 1 2 (luS m (trM (gQ k0 p0 d0)) m) m),.one (.row 33 1 (mE (gQ k0 p0 d0) m) m),.one (eE noE m 0)])∧_∧(∀j0,j0<m→((n:Nat)=m)∧(∀j1,j1<n→((gQ k0 p0 d0 j0 j1:Rat)=((gQ k0 p0 d0) j0 j1))))∧(((!true)==false)=true→((!true)==false)=true)∧((!(!true))=true→((!true)==false)=true)∧((bif (!true) then true else(false&&true))=false)∧(((fun X1 X2 X3 X4 X5 X6 X7 X8 X9:Prop=>∃g0:Nat,X1∧X2∧X3∧((0:Int)=(g0:Int))∧X4∧X5∧(∀j0,j0<m→((m:Nat)=m)∧(∀j1,j1<m→(((luS m (trM (gQ k0 p0 d0)) m).2.1 j0 j1:Rat)=((luS m (plS m k0 p0 d0 K1 L1 p1 d1 g0).D m).2.1 j0 j1))))∧X6∧(∀j0,j0<m→((m:Nat)=m)∧(∀j1,j1<m→((((luS m (trM (gQ k0 p0 d0)) m).1) j0 j1:Rat)=(((luS m (plS m k0 p0 d0 K1 L1 p1 d1 g0).D m).1) j0 j1))))∧X7∧(∀j0,j0<m→((((luS m (trM (gQ k0 p0 d0)) m).2.2.1 j0:Nat):Int)=(((luS m (plS m k0 p0 d0 K1 L1 p1 d1 g0).D m).2.2.1 j0:Nat):Int)))∧(((luS m (trM (gQ k0 p0 d0)) m).2.2.2.2:Bool)=((luS m (plS m k0 p0 d0 K1 L1 p1 d1 g0).D m).2.2.2.2))∧X8∧X9∧(∀j0,j0<m→((m:Nat)=m)∧(∀j1,j1<m→(((gQ k0 p0 d0) j0 j1:Rat)=((plS m k0 p0 d0 K1 L1 p1 d1 g0).C j0 j1))))∧((0:Nat)=((plS m k0 p0 d0 K1 L1 p1 d1 g0).m))∧(∀j0,j0<0→((((noE j0).1:Nat):Int)=((((plS m k0 p0 d0 K1 L1 p1 d1 g0).e j0).1:Nat):Int))∧((m:Nat)=m)∧(∀j1,j1<m→(((noE j0).2 j1:Rat)=(((plS m k0 p0 d0 K1 L1 p1 d1 g0).e j0).2 j1))))∧(g0≤N1)) _ _ _ _ _ _ _ _ _)∧∀g:Nat,(g≤N1)→(((decide ((g:Int)<(N1:Int)))=true→_∧(g<N1)∧_∧(g<N1)∧_∧_∧_∧_∧_∧_∧_∧_∧_∧(∀j0,j0<(L1 g)→((oneQ (p1 g j0) (d1 g j0):Rat)=((acQ p1 d1 g) j0)))∧_∧((fun X1 X2 X3 X4 X5 X6 X7 X8 X9:Prop=>∃g1:Nat,X1∧X2∧X3∧(((g+1:Nat):Int)=(g1:Int))∧X4∧X5∧(∀j0,j0<m→((m:Nat)=m)∧(∀j1,j1<m→(((luS m (repS m (plS m k0 p0 d0 K1 L1 p1 d1 g) (K1 g) (acQ p1 d1 g) (L1 g)).D m).2.1 j0 j1:Rat)=((luS m (plS m k0 p0 d0 K1 L1 p1 d1 g1).D m).2.1 j0 j1))))∧X6∧(∀j0,j0<m→((m:Nat)=m)∧(∀j1,j1<m→((((luS m (repS m (plS m k0 p0 d0 K1 L1 p1 d1 g) (K1 g) (acQ p1 d1 g) (L1 g)).D m).1) j0 j1:Rat)=(((luS m (plS m k0 p0 d0 K1 L1 p1 d1 g1).D m).1) j0 j1))))∧X7∧(∀j0,j0<m→((((luS m (repS m (plS m k0 p0 d0 K1 L1 p1 d1 g) (K1 g) (acQ p1 d1 g) (L1 g)).D m).2.2.1 j0:Nat):Int)=(((luS m (plS m k0 p0 d0 K1 L1 p1 d1 g1).D m).2.2.1 j0:Nat):Int)))∧(((luS m (repS m (plS m k0 p0 d0 K1 L1 p1 d1 g) (K1 g) (acQ p1 d1 g) (L1 g)).D m).2.2.2.2:Bool)=((luS m (plS m k0 p0 d0 K1 L1 p1 d1 g1).D m).2.2.2.2))∧X8∧X9∧(∀j0,j0<m→((m:Nat)=m)∧(∀j1,j1<m→(((repS m (plS m k0 p0 d0 K1 L1 p1 d1 g) (K1 g) (acQ p1 d1 g) (L1 g)).C j0 j1:Rat)=((plS m k0 p0 d0 K1 L1 p1 d1 g1).C j0 j1))))∧(((repS m (plS m k0 p0 d0 K1 L1 p1 d1 g) (K1 g) (acQ p1 d1 g) (L1 g)).m:Nat)=((plS m k0 p0 d0 K1 L1 p1 d1 g1).m))∧(∀j0,j0<((repS m (plS m k0 p0 d0 K1 L1 p1 d1 g) (K1 g) (acQ p1 d1 g) (L1 g)).m)→(((((repS m (plS m k0 p0 d0 K1 L1 p1 d1 g) (K1 g) (acQ p1 d1 g) (L1 g)).e j0).1:Nat):Int)=((((plS m k0 p0 d0 K1 L1 p1 d1 g1).e j0).1:Nat):Int))∧((m:Nat)=m)∧(∀j1,j1<m→((((repS m (plS m k0 p0 d0 K1 L1 p1 d1 g) (K1 g) (acQ p1 d1 g) (L1 g)).e j0).2 j1:Rat)=(((plS m k0 p0 d0 K1 L1 p1 d1 g1).e j0).2 j1))))∧(g1≤N1)∧(N1-g1<N1-g)) _ _ _ _ _ _ _ _ _))∧((decide ((g:Int)<(N1:Int)))=false→(_∧_∧_∧(∀j0,j0<m→((m:Nat)=m)∧(∀j1,j1<m→(((luS m (plS m k0 p0 d0 K1 L1 p1 d1 g).D m).2.1 j0 j1:Rat)=((luS m (plS m k0 p0 d0 K1 L1 p1 d1 N1).D m).2.1 j0 j1))))∧_∧(∀j0,j0<m→((m:Nat)=m)∧(∀j1,j1<m→((((luS m (plS m k0 p0 d0 K1 L1 p1 d1 g).D m).1) j0 j1:Rat)=(((luS m (plS m k0 p0 d0 K1 L1 p1 d1 N1).D m).1) j0 j1))))∧_∧(∀j0,j0<m→((((luS m (plS m k0 p0 d0 K1 L1 p1 d1 g).D m).2.2.1 j0:Nat):Int)=(((luS m (plS m k0 p0 d0 K1 L1 p1 d1 N1).D m).2.2.1 j0:Nat):Int)))∧(((luS m (plS m k0 p0 d0 K1 L1 p1 d1 g).D m).2.2.2.2:Bool)=((luS m (plS m k0 p0 d0 K1 L1 p1 d1 N1).D m).2.2.2.2))∧_∧_∧(∀j0,j0<m→((m:Nat)=m)∧(∀j1,j1<m→(((plS m k0 p0 d0 K1 L1 p1 d1 g).C j0 j1:Rat)=((plS m k0 p0 d0 K1 L1 p1 d1 N1).C j0 j1))))∧(((plS m k0 p0 d0 K1 L1 p1 d1 g).m:Nat)=((plS m k0 p0 d0 K1 L1 p1 d1 N1).m))∧(∀j0,j0<((plS m k0 p0 d0 K1 L1 p1 d1 g).m)→(((((plS m k0 p0 d0 K1 L1 p1 d1 g).e j0).1:Nat):Int)=((((plS m k0 p0 d0 K1 L1 p1 d1 N1).e j0).1:Nat):Int))∧((m:Nat)=m)∧(∀j1,j1<m→((((plS m k0 p0 d0 K1 L1 p1 d1 g).e j0).2 j1:Rat)=(((plS m k0 p0 d0 K1 L1 p1 d1 N1).e j0).2 j1)))))))))
  ⟨(fun _ _=>(fun _ _=>trivial)),(fun _ _=>(fun _ _=>trivial)),(sColumns h0 hn hm),(sBNew (C:=(gQ k0 p0 d0)) (e:=noE) zo (gQ_htB h0 zo zo) hok),(rf m),(fun j0 hj0=>⟨zo,(fun j1 hj1=>rfl)⟩),id,(by simp),rfl,⟨0,(rf N1),(leS (fun i0=>.agg (c2 (.ex (.int .i64 (K1 i0))) (.sl 2 (fun i1=>.agg (c2 (.ex (.int .i64 (p1 i0 i1))) (.ex (.int .i64 (d1 i0 i1))))) (L1 i0)))) N1),(rf 0),zo,(rf 0),(rf m),(fun j0 hj0=>⟨rfl,(fun j1 hj1=>rfl)⟩),(rf m),(fun j0 hj0=>⟨rfl,(fun j1 hj1=>rfl)⟩),(rf m),(fun j0 hj0=>rfl),rfl,(rf 0),(rf m),(fun j0 hj0=>⟨rfl,(fun j1 hj1=>rfl)⟩),rfl,(fun j0 hj0=>⟨rfl,rfl,(fun j1 hj1=>rfl)⟩),zo⟩,fun g hg=>⟨fun hc29=>have hc29:=dT hc29;have hgN:g<N1:=zo;⟨(rf (g:Int)),zo,(rf (g:Int)),zo,(sMake (n:=L1 g) (p:=fun i=>p1 g i) (d:=fun i=>d1 g i) (hL1 g hgN) (fun c hc=>w1 g hgN c hc)).frzV,(sBReplaceT (s:=(plS m k0 p0 d0 K1 L1 p1 d1 g)) (k:=K1 g) (v:=(acQ p1 d1 g)) (l:=L1 g) (hK g zo) zo (ac_ht w1 hgN)),(rf (.one (bV 1 2 (luS m (plS m k0 p0 d0 K1 L1 p1 d1 g).D m) m):Hl)),(rf (.one (.row 33 1 (mE (plS m k0 p0 d0 K1 L1 p1 d1 g).C m) m):Hl)),(rf (.one (eE (plS m k0 p0 d0 K1 L1 p1 d1 g).e m ((plS m k0 p0 d0 K1 L1 p1 d1 g).m)):Hl)),(rf 0),(rf 0),(rf (K1 g:Int)),(rf (L1 g:Nat)),(fun j0 hj0=>rfl),(wI (g:=g) zo),g+1,(rf N1),(leS (fun i0=>.agg (c2 (.ex (.int .i64 (K1 i0))) (.sl 2 (fun i1=>.agg (c2 (.ex (.int .i64 (p1 i0 i1))) (.ex (.int .i64 (d1 i0 i1))))) (L1 i0)))) N1),(rf 0),zo,(rf 0),(rf m),(fun j0 hj0=>⟨rfl,(fun j1 hj1=>rfl)⟩),(rf m),(fun j0 hj0=>⟨rfl,(fun j1 hj1=>rfl)⟩),(rf m),(fun j0 hj0=>rfl),rfl,(rf 0),(rf m),(fun j0 hj0=>⟨rfl,(fun j1 hj1=>rfl)⟩),rfl,(fun j0 hj0=>⟨rfl,rfl,(fun j1 hj1=>rfl)⟩),zo,zo⟩,fun hc29=>have hc29:=dF hc29;have hi2:g=N1:=zo;⟨(rf 0),(rf 0),(rf m),(fun j0 hj0=>⟨rfl,(fun j1 hj1=>(by rw[hi2]))⟩),(rf m),(fun j0 hj0=>⟨rfl,(fun j1 hj1=>(by rw[hi2]))⟩),(rf m),(fun j0 hj0=>(by rw[hi2])),(by rw[hi2]),(rf 0),(rf m),(fun j0 hj0=>⟨rfl,(fun j1 hj1=>(by rw[hi2]))⟩),(by rw[hi2]),(fun j0 hj0=>⟨(by rw[hi2]),rfl,(fun j1 hj1=>(by rw[hi2]))⟩)⟩⟩⟩
open Go.RowKit
theorem sPlayed_len{z0 l0:Nat}{k0:Nat→Nat}{p0 d0:Nat→Nat→Int}{n m:Nat}{N1:Nat}{K1:Nat→Int}{L1:Nat→Nat}{p1 d1:Nat→Nat→Int}(h0:∀r,r<l0→∀c,c<k0 r→Wd64 (p0 r c)∧Wd64 (d0 r c))(hn:z0%5=n)(hm:min l0 n=m)(h1:m≠0)(h2:m≠n):CallOK Tryz.prog 10 [.agg (c2 (.ex (.int .u8 (z0:Int))) (.sl 1 (gE k0 p0 d0) l0)),.sl 2 (fun i0=>.agg (c2 (.ex (.int .i64 (K1 i0))) (.sl 2 (fun i1=>.agg (c2 (.ex (.int .i64 (p1 i0 i1))) (.ex (.int .i64 (d1 i0 i1))))) (L1 i0)))) N1] (.ex (.pointer none)) []:=by
 have hn5:n≤5:=by omega
 exact kP (ch:=[.reg 1 [(1,.callS (c2 (.sl 1 (fun i0=>.sl 3 (fun i1=>.rat (gQ k0 p0 d0 i0 i1)) n) m) (.agg (c2 (.sl 1 (fun i0=>.sl 3 (fun i1=>.qt (gQ k0 p0 d0 i0 i1)) n) m) (iN n)))) [])],.reg 2 [(1,.call [.sl 1 (mE (gQ k0 p0 d0) n) m] (c2 (.ex (.pointer none)) (.ifc 113 (.ep (.agg (c3 (.ex (.string sCol)) (iN 0) (.ex (.iface 63 (.int .i64 2)))))))) [])],.dec 25 true]) Tryz.func10 ((∀j0,j0<l0→(∀j1,j1<(k0 j0)→True))∧(∀j0,j0<N1→(∀j1,j1<(L1 j0)→True))∧(CallOK Tryz.prog 29 [.agg (c2 (.ex (.int .u8 (z0:Int))) (.sl 1 (gE k0 p0 d0) l0))] (c2 (.sl 1 (fun i0=>.sl 3 (fun i1=>.rat (gQ k0 p0 d0 i0 i1)) n) m) (.agg (c2 (.sl 1 (fun i0=>.sl 3 (fun i1=>.qt (gQ k0 p0 d0 i0 i1)) n) m) (iN n)))) [])∧(CallOK Tryz.prog 13 [.sl 1 (mE (gQ k0 p0 d0) n) m] (c2 (.ex (.pointer none)) (.ifc 113 (.ep (.agg (c3 (.ex (.string sCol)) (iN 0) (.ex (.iface 63 (.int .i64 2)))))))) [])∧_∧(∀j0,j0<m→((n:Nat)=n)∧(∀j1,j1<n→((gQ k0 p0 d0 j0 j1:Rat)=((gQ k0 p0 d0) j0 j1))))∧(((!false)==false)=true→((!false)==false)=true)∧((!(!false))=true→((!false)==false)=true)∧((bif (!false) then true else(true&&true))=true)∧(((.pointer none:Value)=.pointer none)))
  ⟨(fun _ _=>(fun _ _=>trivial)),(fun _ _=>(fun _ _=>trivial)),(sColumns h0 hn hm),(sBNew_len (C:=(gQ k0 p0 d0)) (len:=fun _=>n) (k:=0) zo zo (fun i hi=>absurd hi (Nat.not_lt_zero i)) (fun e=>h2 e.symm)),(rf m),(fun j0 hj0=>⟨rfl,(fun j1 hj1=>rfl)⟩),id,(by simp),rfl,rfl⟩
theorem sPlayed_sing{z0 l0:Nat}{k0:Nat→Nat}{p0 d0:Nat→Nat→Int}{n m:Nat}{N1:Nat}{K1:Nat→Int}{L1:Nat→Nat}{p1 d1:Nat→Nat→Int}(h0:∀r,r<l0→∀c,c<k0 r→Wd64 (p0 r c)∧Wd64 (d0 r c))(hn:z0%5=n)(hm:min l0 n=m)(hmn:m=0∨m=n)(hok:¬luOK m (trM (gQ k0 p0 d0)) m):CallOK Tryz.prog 10 [.agg (c2 (.ex (.int .u8 (z0:Int))) (.sl 1 (gE k0 p0 d0) l0)),.sl 2 (fun i0=>.agg (c2 (.ex (.int .i64 (K1 i0))) (.sl 2 (fun i1=>.agg (c2 (.ex (.int .i64 (p1 i0 i1))) (.ex (.int .i64 (d1 i0 i1))))) (L1 i0)))) N1] (.ex (.pointer none)) []:=by
 have hn5:n≤5:=by omega
 exact kP (ch:=[.reg 1 [(1,.callS (c2 (.sl 1 (fun i0=>.sl 3 (fun i1=>.rat (gQ k0 p0 d0 i0 i1)) n) m) (.agg (c2 (.sl 1 (fun i0=>.sl 3 (fun i1=>.qt (gQ k0 p0 d0 i0 i1)) n) m) (iN n)))) [])],.reg 2 [(1,.call [.sl 1 (mE (gQ k0 p0 d0) m) m] (c2 (.ex (.pointer none)) (.ex (.iface 63 (.int .i64 140)))) [])],.dec 25 true]) Tryz.func10 ((∀j0,j0<l0→(∀j1,j1<(k0 j0)→True))∧(∀j0,j0<N1→(∀j1,j1<(L1 j0)→True))∧(CallOK Tryz.prog 29 [.agg (c2 (.ex (.int .u8 (z0:Int))) (.sl 1 (gE k0 p0 d0) l0))] (c2 (.sl 1 (fun i0=>.sl 3 (fun i1=>.rat (gQ k0 p0 d0 i0 i1)) n) m) (.agg (c2 (.sl 1 (fun i0=>.sl 3 (fun i1=>.qt (gQ k0 p0 d0 i0 i1)) n) m) (iN n)))) [])∧(CallOK Tryz.prog 13 [.sl 1 (mE (gQ k0 p0 d0) m) m] (c2 (.ex (.pointer none)) (.ex (.iface 63 (.int .i64 140)))) [])∧_∧(∀j0,j0<m→((n:Nat)=m)∧(∀j1,j1<n→((gQ k0 p0 d0 j0 j1:Rat)=((gQ k0 p0 d0) j0 j1))))∧(((!false)==false)=true→((!false)==false)=true)∧((!(!false))=true→((!false)==false)=true)∧((bif (!false) then true else(true&&true))=true)∧(((.pointer none:Value)=.pointer none)))
  ⟨(fun _ _=>(fun _ _=>trivial)),(fun _ _=>(fun _ _=>trivial)),(sColumns h0 hn hm),(sBNew_sing (C:=(gQ k0 p0 d0)) zo (gQ_htB h0 zo zo) hok),(rf m),(fun j0 hj0=>⟨zo,(fun j1 hj1=>rfl)⟩),id,(by simp),rfl,rfl⟩
def basOK (m n:Nat) (C:Nat→Nat→Rat):Prop:=(m=0∨m=n)∧luOK m (trM C) m
theorem sPlayedNo{z0 l0:Nat}{k0:Nat→Nat}{p0 d0:Nat→Nat→Int}{n m:Nat}{N1:Nat}{K1:Nat→Int}{L1:Nat→Nat}{p1 d1:Nat→Nat→Int}(h0:∀r,r<l0→∀c,c<k0 r→Wd64 (p0 r c)∧Wd64 (d0 r c))(hn:z0%5=n)(hm:min l0 n=m)(hno:¬basOK m n (gQ k0 p0 d0)):CallOK Tryz.prog 10 [.agg (c2 (.ex (.int .u8 (z0:Int))) (.sl 1 (gE k0 p0 d0) l0)),.sl 2 (fun i0=>.agg (c2 (.ex (.int .i64 (K1 i0))) (.sl 2 (fun i1=>.agg (c2 (.ex (.int .i64 (p1 i0 i1))) (.ex (.int .i64 (d1 i0 i1))))) (L1 i0)))) N1] (.ex (.pointer none)) []:=by
 by_cases h1:m=0∨m=n
 ·exact sPlayed_sing h0 hn hm h1 fun h=>hno ⟨h1,h⟩
 ·exact sPlayed_len h0 hn hm (fun e=>h1 (.inl e)) fun e=>h1 (.inr e)
open Go.RowKit
def aC (k r:Nat):Rat:=((litLL [[1,0],[1,1]] k r:Int):Rat)
def aW (i:Nat):Rat:=((litI [0,5] i:Int):Rat)
def a22 (i:Nat):Rat:=((litI [2,2] i:Int):Rat)
def a16 (i:Nat):Rat:=((litI [1,6] i:Int):Rat)
def a00 (i:Nat):Rat:=((litI [0,0] i:Int):Rat)
def a772 (i:Nat):Rat:=((litI [7,7,2] i:Int):Rat)
def a32 (i:Nat):Rat:=((litI [3,2] i:Int):Rat)
abbrev aC1:Nat→Nat→Rat:=setC aC 0 aW
abbrev aE1:Etas:=setE noE 0 0 (etaXs (basX 2 (trM aC) aW) noE 0)
theorem aK0:BOK 2 (trM aC) aC noE 0:=.fresh (by unfold luOK;decide+kernel) (by unfold HtB;decide+kernel)
theorem aK1:BOK 2 (trM aC) aC1 aE1 (0+1):=aK0.put (by decide) (by decide) (by decide+kernel) (by decide+kernel) (by decide)
theorem sAwake14:CallOK Tryz.prog 9 [] (bX true) []:=by
 exact kP (ch:=[.reg 1 [(0,.row 0 (fun i0=>.ex (.int .i64 (litI [1,0] i0)))),(1,.callS (.sl 3 (fun i0=>.rat (((litI [1,0]) i0:Int):Rat)) 2) []),(2,.row 0 (fun i0=>.ex (.int .i64 (litI [1,1] i0)))),(3,.callS (.sl 3 (fun i0=>.rat (((litI [1,1]) i0:Int):Rat)) 2) []),(4,.row 0 (mE aC 2)),(5,.callS (c2 (.own 0 0) (.ex (.nilIface))) [.one (bV 1 2 (luS 2 (trM aC) 2) 2),.one (.row 33 1 (mE aC 2) 2),.one (eE noE 2 0)])],.reg 2 [(5,.skip)],.dec 27 false,.reg 4 [(1,.row 0 (fun i0=>.ex (.int .i64 (litI [3,2] i0)))),(2,.callS (.sl 3 (fun i0=>.rat (((litI [3,2]) i0:Int):Rat)) 2) []),(3,.callM [0,1,2] [.one (bV 1 2 (luS 2 (trM aC) 2) 2),.one (.row 33 1 (mE aC 2) 2),.one (eE noE 2 0)] [.own 0 0,.sl 3 (fun i0=>.rat (a32 i0)) 2] (c2 (.own 5 0) (bX true)) [.one (bV 3 4 (luS 2 (trM aC) 2) 2),.dead,.dead,.one (.row 33 1 (mE aC 2) 2),.one (eE noE 2 0),.one (.row 47 3 (fun i0=>.rat ((etaXs (basX 2 (trM aC) a32) noE 0) i0)) 2)])],.reg 5 [(1,.row 0 (fun i0=>.ex (.int .i64 (litI [3,2] i0)))),(2,.callS (.sl 3 (fun i0=>.rat (((litI [3,2]) i0:Int):Rat)) 2) []),(3,.callM [0,3,4] [.one (bV 1 2 (luS 2 (trM aC) 2) 2),.one (.row 33 1 (mE aC 2) 2),.one (eE noE 2 0)] [.own 0 0,.sl 3 (fun i0=>.rat (a32 i0)) 2] (c2 (.sl 3 (fun i0=>.rat (basY 2 (trM aC) (etaZs 2 0 a32 noE 0) i0)) 2) (bX true)) [.one (bV 3 4 (luS 2 (trM aC) 2) 2),.dead,.dead,.one (.row 33 1 (mE aC 2) 2),.one (eE noE 2 0)])],.reg 6 [(1,.row 0 (fun i0=>.ex (.int .i64 (litI [2,2] i0)))),(2,.callS (.sl 3 (fun i0=>.rat (((litI [2,2]) i0:Int):Rat)) 2) []),(3,.callM [0,7,8] [.one (bV 1 2 (luS 2 (trM aC) 2) 2),.one (.row 33 1 (mE aC 2) 2),.one (eE noE 2 0)] [.own 0 0,iN 0,.sl 3 (fun i0=>.rat (a22 i0)) 2] (.ifc 113 (.ep (.agg (c3 (.ex (.string sCol)) (iN 0) (.ex (.iface 63 (.int .i64 140))))))) [.one (bV 3 4 (luS 2 (trM aC) 2) 2),.dead,.dead,.one (.row 33 1 (mE aC 2) 2),.one (eE noE 2 0)])],.reg 7 [(1,.row 0 (fun i0=>.ex (.int .i64 (litI [0,5] i0)))),(2,.callS (.sl 3 (fun i0=>.rat (((litI [0,5]) i0:Int):Rat)) 2) []),(3,.callM [0,10,11] [.one (bV 1 2 (luS 2 (trM aC) 2) 2),.one (.row 33 1 (mE aC 2) 2),.one (eE noE 2 0)] [.own 0 0,iN 0,.sl 3 (fun i0=>.rat (aW i0)) 2] (.ex (.nilIface)) [.one (bV 3 4 (luS 2 (trM aC) 2) 2),.dead,.dead,.one (.row 33 1 (mE (setC aC 0 aW) 2) 2),.one (eE (setE noE 0 0 (etaXs (basX 2 (trM aC) aW) noE 0)) 2 (0+1))])],.reg 8 [(1,.row 0 (fun i0=>.ex (.int .i64 (litI [1,6] i0)))),(2,.callS (.sl 3 (fun i0=>.rat (((litI [1,6]) i0:Int):Rat)) 2) []),(3,.callM [0,13,14] [.one (bV 1 2 (luS 2 (trM aC) 2) 2),.one (.row 33 1 (mE aC1 2) 2),.one (eE aE1 2 (0+1))] [.own 0 0,.sl 3 (fun i0=>.rat (a16 i0)) 2] (c2 (.own 5 0) (bX true)) [.one (bV 3 4 (luS 2 (trM aC) 2) 2),.dead,.dead,.one (.row 33 1 (mE aC1 2) 2),.one (eE aE1 2 (0+1)),.one (.row 47 3 (fun i0=>.rat ((etaXs (basX 2 (trM aC) a16) aE1 (0+1)) i0)) 2)])],.reg 9 [(1,.row 0 (fun i0=>.ex (.int .i64 (litI [0,0] i0)))),(2,.callS (.sl 3 (fun i0=>.rat (((litI [0,0]) i0:Int):Rat)) 2) []),(3,.row 0 (fun i0=>.ex (.int .i64 (litI [7,7,2] i0)))),(4,.callS (.sl 3 (fun i0=>.rat (((litI [7,7,2]) i0:Int):Rat)) 3) []),(5,.callM [0,16,17] [.one (bV 1 2 (luS 2 (trM aC) 2) 2),.one (.row 33 1 (mE aC1 2) 2),.one (eE aE1 2 (0+1))] [.own 0 0,.sl 3 (fun i0=>.rat (a00 i0)) 2,.sl 3 (fun i0=>.rat (a772 i0)) (2+1)] (c2 (.own 5 0) (.ex (.nilIface))) [.one (bV 3 4 (luS 2 (trM aC) 2) 2),.dead,.dead,.one (.row 33 1 (mE aC1 2) 2),.one (eE aE1 2 (0+1)),.one (bV 6 7 (luS (2+1) (trM (growC 2 aC1 a00 a772)) (2+1)) (2+1)),.one (.row 33 1 (mE (growC 2 aC1 a00 a772) (2+1)) (2+1)),.one (eE noE (2+1) 0)])],.reg 10 [(3,.row 0 (fun i0=>.ex (.int .i64 (litI [1,2] i0)))),(4,.callS (.sl 3 (fun i0=>.rat (((litI [1,2]) i0:Int):Rat)) 2) []),(5,.callS (bX (decide (2=2∧∀j:Nat,j<2→((etaXs (basX 2 (trM aC) a32) noE 0) j:Rat)=(((litI [1,2]) j:Int):Rat)))) []),(6,.sure .no),(9,.sure .no),(12,.row 0 (fun i0=>.ex (.int .i64 (litI [3,-1] i0)))),(13,.callS (.sl 3 (fun i0=>.rat (((litI [3,-1]) i0:Int):Rat)) 2) []),(14,.callS (bX (decide (2=2∧∀j:Nat,j<2→(basY 2 (trM aC) (etaZs 2 0 a32 noE 0) j:Rat)=(((litI [3,-1]) j:Int):Rat)))) []),(15,.sure .no),(18,.callS (bX true) []),(19,.sure .no),(23,.sure .no),(26,.callM [0,20,21] [.one (bV 1 2 (luS 2 (trM aC) 2) 2),.one (.row 33 1 (mE aC1 2) 2),.one (eE aE1 2 (0+1))] [.own 0 0] (iN (0+1)) [.one (bV 3 4 (luS 2 (trM aC) 2) 2),.dead,.dead,.one (.row 33 1 (mE aC1 2) 2),.one (eE aE1 2 (0+1))]),(28,.sure .no),(31,.sure .no),(34,.row 0 (fun i0=>.ex (.int .i64 (litI [1,1] i0)))),(35,.callS (.sl 3 (fun i0=>.rat (((litI [1,1]) i0:Int):Rat)) 2) []),(36,.callS (bX (decide (2=2∧∀j:Nat,j<2→((etaXs (basX 2 (trM aC) a16) aE1 (0+1)) j:Rat)=(((litI [1,1]) j:Int):Rat)))) []),(37,.sure .no),(41,.sure .no),(45,.sure .no),(48,.callM [22,23,24] [.one (bV 1 2 (luS (2+1) (trM (growC 2 aC1 a00 a772)) (2+1)) (2+1)),.one (.row 33 1 (mE (growC 2 aC1 a00 a772) (2+1)) (2+1)),.one (eE noE (2+1) 0)] [.own 0 0] (iN (2+1)) [.one (bV 3 4 (luS (2+1) (trM (growC 2 aC1 a00 a772)) (2+1)) (2+1)),.dead,.dead,.one (.row 33 1 (mE (growC 2 aC1 a00 a772) (2+1)) (2+1)),.one (eE noE (2+1) 0)]),(50,.sure .no)]]) Tryz.func9 (let y0:=(true==true);let y1:=(decide (2=2∧∀j:Nat,j<2→(basY 2 (trM aC) (etaZs 2 0 a32 noE 0) j:Rat)=(((litI [3,-1]) j:Int):Rat)));let y2:=(decide (2=2∧∀j:Nat,j<2→((etaXs (basX 2 (trM aC) a16) aE1 (0+1)) j:Rat)=(((litI [1,1]) j:Int):Rat)));let y5:=(false&&true);let y3:=((!y5)==true);let y4:=(decide (2=2∧∀j:Nat,j<2→((etaXs (basX 2 (trM aC) a32) noE 0) j:Rat)=(((litI [1,2]) j:Int):Rat)));((1:Int)=(litI [1,0] 0))∧((0:Int)=(litI [1,0] 1))∧_∧((1:Int)=(litI [1,1] 0))∧((1:Int)=(litI [1,1] 1))∧_∧_∧(∀j0,j0<2→(((((litI [1,0]) j0:Int):Rat):Rat)=(aC 0 j0)))∧_∧(∀j0,j0<2→(((((litI [1,1]) j0:Int):Rat):Rat)=(aC 1 j0)))∧(CallOK Tryz.prog 13 [.sl 1 (mE aC 2) 2] (c2 (.own 0 0) (.ex (.nilIface))) [.one (bV 1 2 (luS 2 (trM aC) 2) 2),.one (.row 33 1 (mE aC 2) 2),.one (eE noE 2 0)])∧((y5==false)=true→(y5==false)=true)∧(y5=false)∧((y5==false)=true)∧((!true)=false)∧((3:Int)=(litI [3,2] 0))∧((2:Int)=(litI [3,2] 1))∧_∧_∧_∧_∧_∧_∧_∧_∧(∀j0,j0<2→(((((litI [3,2]) j0:Int):Rat):Rat)=(a32 j0)))∧((3:Int)=(litI [3,2] 0))∧((2:Int)=(litI [3,2] 1))∧_∧_∧_∧_∧_∧_∧_∧_∧(∀j0,j0<2→(((((litI [3,2]) j0:Int):Rat):Rat)=(a32 j0)))∧((2:Int)=(litI [2,2] 0))∧((2:Int)=(litI [2,2] 1))∧_∧_∧_∧_∧_∧_∧_∧((0:Int)=((0:Nat):Int))∧_∧(∀j0,j0<2→(((((litI [2,2]) j0:Int):Rat):Rat)=(a22 j0)))∧((0:Int)=(litI [0,5] 0))∧((5:Int)=(litI [0,5] 1))∧_∧_∧_∧_∧_∧_∧_∧((0:Int)=((0:Nat):Int))∧_∧(∀j0,j0<2→(((((litI [0,5]) j0:Int):Rat):Rat)=(aW j0)))∧((1:Int)=(litI [1,6] 0))∧((6:Int)=(litI [1,6] 1))∧_∧_∧_∧_∧_∧_∧_∧_∧(∀j0,j0<2→(((((litI [1,6]) j0:Int):Rat):Rat)=(a16 j0)))∧((0:Int)=(litI [0,0] 0))∧((0:Int)=(litI [0,0] 1))∧_∧((7:Int)=(litI [7,7,2] 0))∧((7:Int)=(litI [7,7,2] 1))∧((2:Int)=(litI [7,7,2] 2))∧_∧_∧_∧_∧_∧_∧_∧_∧(∀j0,j0<2→(((((litI [0,0]) j0:Int):Rat):Rat)=(a00 j0)))∧((3:Nat)=(2+1))∧(∀j0,j0<3→(((((litI [7,7,2]) j0:Int):Rat):Rat)=(a772 j0)))∧(y0=true→(1:Int)=(litI [1,2] 0))∧(y0=true→(2:Int)=(litI [1,2] 1))∧(y0=true→y0=true)∧(y0=true→_)∧(y0=true→y0=true)∧(y0=true→y0=true)∧(y0=true→_)∧(true=true)∧(y0=true)∧(y4=true)∧((y4==true)=true)∧(y0=true→(3:Int)=(litI [3,-1] 0))∧(y0=true→(-1:Int)=(litI [3,-1] 1))∧(y0=true→y0=true)∧(y0=true→_)∧(y0=true→y0=true)∧(y0=true→y0=true)∧(y0=true→_)∧(true=true)∧(y0=true)∧((y1==true)=true→(y1==true)=true)∧((y1==true)=true→CallOK Tryz.prog 27 [.ifc 113 (.ep (.agg (c3 (.ex (.string sCol)) (iN 0) (.ex (.iface 63 (.int .i64 140)))))),.ex (.int .i64 140),.ex (.string sCol),.ex (.int .i64 0)] (bX true) [])∧(y1=true)∧((y1==true)=true)∧(y0=true→y0=true)∧(true=true)∧(y0=true)∧(y0=true)∧(y0=true→y0=true)∧_∧_∧_∧_∧_∧_∧(y0=true→y0=true)∧(true=true)∧(y0=true)∧((decide (((0+1:Nat):Int)=1))=true)∧(((decide (((0+1:Nat):Int)=1))==true)=true)∧(y0=true→(1:Int)=(litI [1,1] 0))∧(y0=true→(1:Int)=(litI [1,1] 1))∧(y0=true→y0=true)∧(y0=true→_)∧(y0=true→y0=true)∧(y0=true→y0=true)∧(y0=true→_)∧(true=true)∧(y0=true)∧((y2==true)=true→(y2==true)=true)∧(y2=true)∧((y2==true)=true)∧(y0=true→y0=true)∧(true=true)∧(y0=true)∧(y3=true)∧(y3=true→y3=true)∧_∧_∧_∧_∧_∧_∧(y3=true→y3=true)∧((!y5)=true)∧(y3=true)∧(((decide (((2+1:Nat):Int)=3):Bool)=true)))
  ⟨rfl,rfl,(sVecOf (n:=2) (a:=(litI [1,0])) (by decide) (by decide+kernel)).frzV,rfl,rfl,(sVecOf (n:=2) (a:=(litI [1,1])) (by decide) (by decide+kernel)).frzV,(rf 2),(fun j0 hj0=>rfl),(rf 2),(fun j0 hj0=>rfl),(sBNew (C:=aC) (e:=noE) (by decide) aK0.hD aK0.ok),id,(by decide+kernel),(by decide+kernel),rfl,rfl,rfl,(sVecOf (n:=2) (a:=(litI [3,2])) (by decide) (by decide+kernel)).frzV,(sBSolve (D:=(trM aC)) (C:=aC) (e:=noE) (m:=0) (n:=2) (v:=a32) (by decide) aK0.ok aK0.hD aK0.H aK0.w (by decide) (by decide+kernel) (aK0.x (by decide) (by decide+kernel))),(rf (.one (bV 1 2 (luS 2 (trM aC) 2) 2):Hl)),(rf (.one (.row 33 1 (mE aC 2) 2):Hl)),(rf (.one (eE noE 2 0):Hl)),(rf 0),(rf 0),(rf 2),(fun j0 hj0=>rfl),rfl,rfl,(sVecOf (n:=2) (a:=(litI [3,2])) (by decide) (by decide+kernel)).frzV,(sBSolveT (D:=(trM aC)) (C:=aC) (e:=noE) (m:=0) (n:=2) (v:=a32) (by decide) aK0.ok aK0.hD aK0.H aK0.w (by decide) (aK0.z (by decide) (by decide+kernel))),(rf (.one (bV 3 4 (luS 2 (trM aC) 2) 2):Hl)),(rf (.one (.row 33 1 (mE aC 2) 2):Hl)),(rf (.one (eE noE 2 0):Hl)),(rf 0),(rf 0),(rf 2),(fun j0 hj0=>rfl),rfl,rfl,(sVecOf (n:=2) (a:=(litI [2,2])) (by decide) (by decide+kernel)).frzV,(sBReplace_sing (D:=(trM aC)) (C:=aC) (e:=noE) (m:=0) (n:=2) (v:=a22) (k:=0) (by decide) aK0.ok aK0.hD aK0.H aK0.w (by decide) (by decide+kernel) (aK0.x (by decide) (by decide+kernel)) (by decide) (by decide+kernel)),(rf (.one (bV 7 8 (luS 2 (trM aC) 2) 2):Hl)),(rf (.one (.row 33 1 (mE aC 2) 2):Hl)),(rf (.one (eE noE 2 0):Hl)),(rf 0),(rf 0),rfl,(rf 2),(fun j0 hj0=>rfl),rfl,rfl,(sVecOf (n:=2) (a:=(litI [0,5])) (by decide) (by decide+kernel)).frzV,(sBReplace (D:=(trM aC)) (C:=aC) (e:=noE) (m:=0) (n:=2) (v:=aW) (k:=0) (by decide) aK0.ok aK0.hD aK0.H aK0.w (by decide) (by decide+kernel) (aK0.x (by decide) (by decide+kernel)) (by decide) (by decide+kernel) (by decide)),(rf (.one (bV 10 11 (luS 2 (trM aC) 2) 2):Hl)),(rf (.one (.row 33 1 (mE aC 2) 2):Hl)),(rf (.one (eE noE 2 0):Hl)),(rf 0),(rf 0),rfl,(rf 2),(fun j0 hj0=>rfl),rfl,rfl,(sVecOf (n:=2) (a:=(litI [1,6])) (by decide) (by decide+kernel)).frzV,(sBSolve (D:=(trM aC)) (C:=aC1) (e:=aE1) (m:=0+1) (n:=2) (v:=a16) (by decide) aK1.ok aK1.hD aK1.H aK1.w (by decide) (by decide+kernel) (aK1.x (by decide) (by decide+kernel))),(rf (.one (bV 13 14 (luS 2 (trM aC) 2) 2):Hl)),(rf (.one (.row 33 1 (mE (setC aC 0 aW) 2) 2):Hl)),(rf (.one (eE (setE noE 0 0 (etaXs (basX 2 (trM aC) aW) noE 0)) 2 (0+1)):Hl)),(rf 0),(rf 0),(rf 2),(fun j0 hj0=>rfl),rfl,rfl,(sVecOf (n:=2) (a:=(litI [0,0])) (by decide) (by decide+kernel)).frzV,rfl,rfl,rfl,(sVecOf (n:=3) (a:=(litI [7,7,2])) (by decide) (by decide+kernel)).frzV,(sBGrow (D:=(trM aC)) (C:=aC1) (e:=aE1) (m:=0+1) (n:=2) (a:=a00) (v:=a772) (e2:=noE) (by decide) (by unfold HtB;decide+kernel) (by unfold luOK;decide+kernel)),(rf (.one (bV 16 17 (luS 2 (trM aC) 2) 2):Hl)),(rf (.one (.row 33 1 (mE aC1 2) 2):Hl)),(rf (.one (eE aE1 2 (0+1)):Hl)),(rf 0),(rf 0),(rf 2),(fun j0 hj0=>rfl),rfl,(fun j0 hj0=>rfl),(fun hg=>rfl),(fun hg=>rfl),id,(fun hg=>(sVecOf (n:=2) (a:=(litI [1,2])) (by decide) (by decide+kernel)).frzV),id,id,(fun hg=>(sVecSame (n:=2) (m:=2) (a:=(etaXs (basX 2 (trM aC) a32) noE 0)) (b:=(fun i=>(((litI [1,2]) i:Int):Rat))) (by decide) (by decide+kernel))),(by decide+kernel),(by decide+kernel),(by decide+kernel),(by decide+kernel),(fun hg=>rfl),(fun hg=>rfl),id,(fun hg=>(sVecOf (n:=2) (a:=(litI [3,-1])) (by decide) (by decide+kernel)).frzV),id,id,(fun hg=>(sVecSame (n:=2) (m:=2) (a:=(fun i=>basY 2 (trM aC) (etaZs 2 0 a32 noE 0) i)) (b:=(fun i=>(((litI [3,-1]) i:Int):Rat))) (by decide) (by decide+kernel))),(by decide+kernel),(by decide+kernel),id,(fun hg=>sToldF),(by decide+kernel),(by decide+kernel),id,(by decide+kernel),(by decide+kernel),(by decide+kernel),id,(sBEtas (D:=(trM aC)) (C:=aC1) (e:=aE1) (m:=0+1) (n:=2)),(rf (.one (bV 20 21 (luS 2 (trM aC) 2) 2):Hl)),(rf (.one (.row 33 1 (mE aC1 2) 2):Hl)),(rf (.one (eE aE1 2 (0+1)):Hl)),(rf 0),(rf 0),id,(by decide+kernel),(by decide+kernel),(by decide+kernel),(by decide+kernel),(fun hg=>rfl),(fun hg=>rfl),id,(fun hg=>(sVecOf (n:=2) (a:=(litI [1,1])) (by decide) (by decide+kernel)).frzV),id,id,(fun hg=>(sVecSame (n:=2) (m:=2) (a:=(etaXs (basX 2 (trM aC) a16) aE1 (0+1))) (b:=(fun i=>(((litI [1,1]) i:Int):Rat))) (by decide) (by decide+kernel))),(by decide+kernel),(by decide+kernel),id,(by decide+kernel),(by decide+kernel),id,(by decide+kernel),(by decide+kernel),(by decide+kernel),id,(sBSize (D:=(trM (growC 2 aC1 a00 a772))) (C:=(growC 2 aC1 a00 a772)) (e:=noE) (m:=0) (n:=2+1)),(rf (.one (bV 23 24 (luS (2+1) (trM (growC 2 aC1 a00 a772)) (2+1)) (2+1)):Hl)),(rf (.one (.row 33 1 (mE (growC 2 aC1 a00 a772) (2+1)) (2+1)):Hl)),(rf (.one (eE noE (2+1) 0):Hl)),(rf 22),(rf 0),id,(by decide+kernel),(by decide+kernel),(by decide+kernel)⟩
open Go.RowKit
theorem dotSumB(a b:Nat→Rat):∀n,dotQ a b n=sumQ (fun i=>a i*b i) n
 | 0=>rfl
 | n+1=>by show dotQ a b n+a n*b n=sumQ _ n+a n*b n;rw[dotSumB a b n]
theorem small_room{a b:Nat→Rat}{n:Nat}(hn:n≤6)(ha:∀i,i<n→htq (a i)≤4000)(hb:∀i,i<n→htq (b i)≤4000):∀i,i<n→szq (a i)+szq (b i)≤17179869184∧szq (dotQ a b i)+szq (a i*b i)≤17179869184:=fun i hi=>by
 have h1:=ht_dot i (fun j hj=>ha j zo) (fun j hj=>hb j zo)
 have h2:=ht_mul (a i) (b i)
 have h3:=ha i hi
 have h4:=hb i hi
 have h5:i*(4000+4000+1)≤6*(4000+4000+1):=Nat.mul_le_mul_right _ zo
 have h6:htq (dotQ a b i)≤50000:=Nat.le_trans h1 (Nat.le_trans (Nat.succ_le_succ h5) (by decide))
 have:=sz_ht (a i)
 have:=sz_ht (b i)
 have:=sz_ht (dotQ a b i)
 have:=sz_ht (a i*b i)
 omega
theorem sBasisBack_no{z0 l0:Nat}{k0:Nat→Nat}{p0 d0:Nat→Nat→Int}{n m:Nat}{N1:Nat}{K1:Nat→Int}{L1:Nat→Nat}{p1 d1:Nat→Nat→Int}{n2:Nat}{p2 d2:Nat→Int}(h0:∀r,r<l0→∀c,c<k0 r→Wd64 (p0 r c)∧Wd64 (d0 r c))(hn:z0%5=n)(hm:min l0 n=m)(hno:¬basOK m n (gQ k0 p0 d0)):CallOK Tryz.prog 5 [.agg (c2 (.ex (.int .u8 (z0:Int))) (.sl 1 (gE k0 p0 d0) l0)),.sl 2 (fun i0=>.agg (c2 (.ex (.int .i64 (K1 i0))) (.sl 2 (fun i1=>.agg (c2 (.ex (.int .i64 (p1 i0 i1))) (.ex (.int .i64 (d1 i0 i1))))) (L1 i0)))) N1,.sl 2 (fun i0=>.agg (c2 (.ex (.int .i64 (p2 i0))) (.ex (.int .i64 (d2 i0))))) n2] (bX true) []:=by
 exact kP (ch:=[.reg 1 [(0,.callS (bX true) [])],.dec 18 false,.reg 3 [(2,.callS (.ex (.pointer none)) [])],.dec 23 true]) Tryz.func5 ((∀j0,j0<l0→(∀j1,j1<(k0 j0)→True))∧(∀j0,j0<N1→(∀j1,j1<(L1 j0)→True))∧(∀j0,j0<n2→True)∧(CallOK Tryz.prog 9 [] (bX true) [])∧((!true)=false)∧(CallOK Tryz.prog 10 [.agg (c2 (.ex (.int .u8 (z0:Int))) (.sl 1 (gE k0 p0 d0) l0)),.sl 2 (fun i0=>.agg (c2 (.ex (.int .i64 (K1 i0))) (.sl 2 (fun i1=>.agg (c2 (.ex (.int .i64 (p1 i0 i1))) (.ex (.int .i64 (d1 i0 i1))))) (L1 i0)))) N1] (.ex (.pointer none)) [])∧((true&&true)=true)∧(_))
  ⟨(fun _ _=>(fun _ _=>trivial)),(fun _ _=>(fun _ _=>trivial)),(fun _ _=>trivial),sAwake14,rfl,(sPlayedNo h0 hn hm hno),rfl,(rf (true:Bool))⟩
theorem sBasisBack_yes{z0 l0:Nat}{k0:Nat→Nat}{p0 d0:Nat→Nat→Int}{n m:Nat}{N1:Nat}{K1:Nat→Int}{L1:Nat→Nat}{p1 d1:Nat→Nat→Int}{n2:Nat}{p2 d2:Nat→Int}{s:BS}(h0:∀r,r<l0→∀c,c<k0 r→Wd64 (p0 r c)∧Wd64 (d0 r c))(hn:z0%5=n)(hm:min l0 n=m)(hN:N1≤68719476736)(hL1:∀i,i<N1→L1 i≤68719476736)(w1:∀i,i<N1→∀c,c<L1 i→Wd64 (p1 i c)∧Wd64 (d1 i c))(hn2:n2≤68719476736)(w2:∀i,i<n2→Wd64 (p2 i)∧Wd64 (d2 i))(hB:basOK m n (gQ k0 p0 d0))(hs:s=(plS m k0 p0 d0 K1 L1 p1 d1 N1)):CallOK Tryz.prog 5 [.agg (c2 (.ex (.int .u8 (z0:Int))) (.sl 1 (gE k0 p0 d0) l0)),.sl 2 (fun i0=>.agg (c2 (.ex (.int .i64 (K1 i0))) (.sl 2 (fun i1=>.agg (c2 (.ex (.int .i64 (p1 i0 i1))) (.ex (.int .i64 (d1 i0 i1))))) (L1 i0)))) N1,.sl 2 (fun i0=>.agg (c2 (.ex (.int .i64 (p2 i0))) (.ex (.int .i64 (d2 i0))))) n2] (bX true) []:=by
 have hn5:n≤5:=by omega
 have hm5:m≤5:=by omega
 have hK:BSK m s:=by rw[hs];exact pl_ok hm5 (show m≤l0 by omega) h0 hB.2 w1 N1 (Nat.le_refl _)
 have hw:∀i,i<m→szq (fillQ n2 p2 d2 i)≤2:=fun i hi=>fillQ_sz w2 zo
 have hv:∀i,i<m→htq (fillQ n2 p2 d2 i)≤3:=fun i hi=>Nat.le_trans (ht_sz _) (Nat.le_trans (hw i hi) (by decide))
 have hX:=hK.x hm5 hv
 have hXs:∀r,r<m→dotQ (trM s.C r) (etaXs (basX m s.D (fillQ n2 p2 d2)) s.e s.m) m=fillQ n2 p2 d2 r:=fun r hr=>(dotSumB _ _ _).trans (hK.sol _ hr)
 have hYs:∀j,j<m→dotQ (basY m s.D (etaZs m s.m (fillQ n2 p2 d2) s.e s.m)) (fun r=>trM s.C r j) m=fillQ n2 p2 d2 j:=fun j hj=>(dotSumB _ _ _).trans (hK.rowS _ hj)
 have hC:∀i,i<m→∀j,j<m→htq (trM s.C i j)≤4000:=fun i hi j hj=>by have:=hK.ht _ (Nat.le_refl _) i hi j hj;rw[←hK.is j hj i hi] at this;show htq (_)≤4000;exact Nat.le_trans (Nat.le_of_succ_le this) (by decide)
 exact kP (ch:=[.reg 1 [(0,.callS (bX true) [])],.dec 18 false,.reg 3 [(2,.callS (.own 0 0) [.one (bV 1 2 (luS m s.D m) m),.one (.row 33 1 (mE s.C m) m),.one (eE s.e m s.m)])],.dec 23 false,.reg 6 [(1,.callS (.own 0 0) [.one (.row 47 3 (fun i0=>.rat (oneQ (p2 i0) (d2 i0))) n2)])],.loop 7 (Nat) (fun g=>n2≤g∧(g≤m∨g=n2)) (fun g=>m-g) (fun g=>⟨[(7,.own 0 0),(8,.own 3 0)],[(0,.one (bV 1 2 (luS m s.D m) m)),(1,.one (.row 33 1 (mE s.C m) m)),(2,.one (eE s.e m s.m)),(3,.one (.row 47 3 (fun i0=>.rat (fillQ n2 p2 d2 i0)) g))],4⟩) [(0,.id 1),(1,.id 2),(2,.id 3),(3,.id 4)] (fun _=>[(0,.id 0),(1,.id 4),(2,.id 5),(3,.id 7)]) (fun g=>[.reg 7 [(3,.callM [0,1,2] [.one (bV 1 2 (luS m s.D m) m),.one (.row 33 1 (mE s.C m) m),.one (eE s.e m s.m)] [.own 0 0] (iN m) [.one (bV 3 4 (luS m s.D m) m),.dead,.dead,.one (.row 33 1 (mE s.C m) m),.one (eE s.e m s.m)])],.reg 8 [(3,.callS (.rat (((g:Int):Int):Rat)) []),(5,.row 0 (fun i0=>.rat (fillQ n2 p2 d2 i0)))],.conv 9 [(0,.id 0),(1,.id 4),(2,.id 5)] ⟨[(7,.own 0 0),(8,.sl 3 (fun i0=>.rat (fillQ n2 p2 d2 i0)) g)],[(0,.one (bV 1 2 (luS m s.D m) m)),(1,.one (.row 33 1 (mE s.C m) m)),(2,.one (eE s.e m s.m))],3⟩,.reg 9 [(2,.callM [0,1,2] [.one (bV 1 2 (luS m s.D m) m),.one (.row 33 1 (mE s.C m) m),.one (eE s.e m s.m)] [.own 0 0] (iN m) [.one (bV 3 4 (luS m s.D m) m),.dead,.dead,.one (.row 33 1 (mE s.C m) m),.one (eE s.e m s.m)]),(3,.kk 0 m)],.reg 10 [(2,.callM [0,3,4] [.one (bV 1 2 (luS m s.D m) m),.one (.row 33 1 (mE s.C m) m),.one (eE s.e m s.m)] [.own 0 0,.sl 3 (fun i0=>.rat ((fillQ n2 p2 d2) i0)) m] (c2 (.own 5 0) (bX true)) [.one (bV 3 4 (luS m s.D m) m),.dead,.dead,.one (.row 33 1 (mE s.C m) m),.one (eE s.e m s.m),.one (.row 47 3 (fun i0=>.rat ((etaXs (basX m s.D (fillQ n2 p2 d2)) s.e s.m) i0)) m)])],.reg 11 [(2,.callM [0,6,7] [.one (bV 1 2 (luS m s.D m) m),.one (.row 33 1 (mE s.C m) m),.one (eE s.e m s.m)] [.own 0 0,.sl 3 (fun i0=>.rat ((fillQ n2 p2 d2) i0)) m] (c2 (.sl 3 (fun i0=>.rat (basY m s.D (etaZs m s.m (fillQ n2 p2 d2) s.e s.m) i0)) m) (bX true)) [.one (bV 3 4 (luS m s.D m) m),.dead,.dead,.one (.row 33 1 (mE s.C m) m),.one (eE s.e m s.m)])],.conv 12 [(0,.id 0),(1,.id 10),(2,.id 11)] ⟨[(7,.own 0 0),(8,.sl 3 (fun i0=>.rat (fillQ n2 p2 d2 i0)) m),(9,.sl 3 (fun i0=>.rat ((etaXs (basX m s.D (fillQ n2 p2 d2)) s.e s.m) i0)) m),(10,bX true),(11,.sl 3 (fun i0=>.rat (basY m s.D (etaZs m s.m (fillQ n2 p2 d2) s.e s.m) i0)) m),(12,bX true)],[(0,.one (bV 1 2 (luS m s.D m) m)),(1,.one (.row 33 1 (mE s.C m) m)),(2,.one (eE s.e m s.m))],3⟩,.reg 12 [(1,.callM [0,1,2] [.one (bV 1 2 (luS m s.D m) m),.one (.row 33 1 (mE s.C m) m),.one (eE s.e m s.m)] [.own 0 0] (.agg (c2 (.sl 1 (fun i0=>.sl 3 (fun i1=>.rat (trM s.C i0 i1)) m) m) (iN m))) [.one (bV 3 4 (luS m s.D m) m),.dead,.dead,.one (.row 33 1 (mE s.C m) m),.one (eE s.e m s.m)]),(3,.callS (c2 (.sl 3 (fun i0=>.rat (dotQ ((trM s.C) i0) (etaXs (basX m s.D (fillQ n2 p2 d2)) s.e s.m) m)) m) (bX true)) [])],.reg 13 [(1,.callM [0,3,4] [.one (bV 1 2 (luS m s.D m) m),.one (.row 33 1 (mE s.C m) m),.one (eE s.e m s.m)] [.own 0 0] (.agg (c2 (.sl 1 (fun i0=>.sl 3 (fun i1=>.rat (trM s.C i0 i1)) m) m) (iN m))) [.one (bV 3 4 (luS m s.D m) m),.dead,.dead,.one (.row 33 1 (mE s.C m) m),.one (eE s.e m s.m)]),(3,.callS (c2 (.sl 3 (fun i0=>.rat (dotQ (fun i=>basY m s.D (etaZs m s.m (fillQ n2 p2 d2) s.e s.m) i) (fun r=>trM s.C r i0) m)) m) (bX true)) [])],.reg 14 [(13,.callS (bX (decide (m=m∧∀j:Nat,j<m→(dotQ ((trM s.C) j) (etaXs (basX m s.D (fillQ n2 p2 d2)) s.e s.m) m:Rat)=(fillQ n2 p2 d2 j)))) []),(18,.callS (bX (decide (m=m∧∀j:Nat,j<m→(dotQ (fun i=>basY m s.D (etaZs m s.m (fillQ n2 p2 d2) s.e s.m) i) (fun r=>trM s.C r j) m:Rat)=(fillQ n2 p2 d2 j)))) [])]])]) Tryz.func5 (let y2:=(bif true then true else false);let y3:=(bif y2 then true else false);let y1:=(bif y3 then true else false);let y0:=(bif y1 then(decide (m=m∧∀j:Nat,j<m→(dotQ ((trM s.C) j) (etaXs (basX m s.D (fillQ n2 p2 d2)) s.e s.m) m:Rat)=(fillQ n2 p2 d2 j))) else false);(∀j0,j0<l0→(∀j1,j1<(k0 j0)→True))∧(∀j0,j0<N1→(∀j1,j1<(L1 j0)→True))∧(∀j0,j0<n2→True)∧(CallOK Tryz.prog 9 [] (bX true) [])∧((!true)=false)∧(CallOK Tryz.prog 10 [.agg (c2 (.ex (.int .u8 (z0:Int))) (.sl 1 (gE k0 p0 d0) l0)),.sl 2 (fun i0=>.agg (c2 (.ex (.int .i64 (K1 i0))) (.sl 2 (fun i1=>.agg (c2 (.ex (.int .i64 (p1 i0 i1))) (.ex (.int .i64 (d1 i0 i1))))) (L1 i0)))) N1] (.own 0 0) [.one (bV 1 2 (luS m s.D m) m),.one (.row 33 1 (mE s.C m) m),.one (eE s.e m s.m)])∧((false&&true)=false)∧_∧(((fun X1 X2 X3 X4 X5 X6 X7 X8 X9 X10 X11 X12 X13 X14 X15:Prop=>∃g0:Nat,X1∧X2∧X3∧X4∧X5∧X6∧X7∧X8∧X9∧X10∧X11∧X12∧X13∧X14∧X15∧((n2:Nat)=g0)∧(∀j0,j0<n2→((oneQ (p2 j0) (d2 j0):Rat)=(fillQ n2 p2 d2 j0)))∧(n2≤g0∧(g0≤m∨g0=n2))) _ _ _ _ _ _ _ _ _ _ _ _ _ _ _)∧∀g:Nat,(n2≤g∧(g≤m∨g=n2))→_∧_∧_∧_∧_∧_∧(((decide ((g:Int)<(m:Int)))=true→_∧(g+1≤68719476736)∧_∧(∀j0,j0<1→(((((g:Int):Int):Rat):Rat)=(fillQ n2 p2 d2 (g+j0))))∧((fun X1 X2 X3 X4 X5 X6 X7 X8 X9 X10 X11 X12 X13 X14 X15 X16:Prop=>∃g1:Nat,X1∧X2∧X3∧X4∧X5∧X6∧X7∧X8∧X9∧X10∧X11∧X12∧X13∧X14∧X15∧((g+1:Nat)=g1)∧X16∧(n2≤g1∧(g1≤m∨g1=n2))∧(m-g1<m-g)) _ _ _ _ _ _ _ _ _ _ _ _ _ _ _ _))∧((decide ((g:Int)<(m:Int)))=false→_∧_∧_∧_∧_∧_∧_∧_∧_∧_∧_∧_∧_∧_∧_∧_∧_∧_∧_∧_∧_∧_∧_∧(m≤g)∧_∧_∧_∧_∧_∧_∧_∧(∀j0,j0<m→((fillQ n2 p2 d2 j0:Rat)=((fillQ n2 p2 d2) j0)))∧_∧_∧_∧_∧_∧_∧_∧(∀j0,j0<m→((fillQ n2 p2 d2 j0:Rat)=((fillQ n2 p2 d2) j0)))∧_∧_∧_∧_∧_∧_∧_∧_∧_∧_∧_∧_∧_∧_∧_∧_∧_∧_∧_∧_∧_∧_∧_∧_∧_∧_∧_∧_∧_∧_∧_∧_∧_∧_∧_∧_∧(true=true→(true==true)=true)∧(y2=true→(y2==true)=true)∧(y3=true→(y3==true)=true)∧((y1==true)=true→(y1==true)=true)∧((y1==true)=true→(y1==true)=true)∧((y1==true)=true→_)∧(y1=true→(y1==true)=true)∧((y0==true)=true→(y0==true)=true)∧((y0==true)=true→(y0==true)=true)∧((y0==true)=true→_)∧(y0=true→(y0==true)=true)∧(((bif y0 then(decide (m=m∧∀j:Nat,j<m→(dotQ (fun i=>basY m s.D (etaZs m s.m (fillQ n2 p2 d2) s.e s.m) i) (fun r=>trM s.C r j) m:Rat)=(fillQ n2 p2 d2 j))) else false:Bool)=true))))))
  ⟨(fun _ _=>(fun _ _=>trivial)),(fun _ _=>(fun _ _=>trivial)),(fun _ _=>trivial),sAwake14,rfl,(by rw[hs];exact sPlayed h0 hn hm hB.1 hB.2 hN hL1 w1),rfl,sMake (n:=n2) (p:=fun i=>p2 i) (d:=fun i=>d2 i) zo w2,⟨n2,(rf 0),(rf 0),(rf 0),(rf m),(leS (mE (luS m s.D m).2.1 m) m),(rf m),(leS (mE ((luS m s.D m).1) m) m),(rf m),(leS (fun i0=>iN ((luS m s.D m).2.2.1 i0)) m),(rf ((luS m s.D m).2.2.2.2:Bool)),(rf 0),(rf m),(leS (mE s.C m) m),(rf (s.m:Nat)),(leS (fun i0=>.agg (c2 (iN ((s.e i0).1)) (vE (s.e i0).2 m))) s.m),zo,(fun j0 hj0=>(fillQ_lt (by assumption))),Nat.le_refl _,.inr rfl⟩,fun g hg=>have hg1:=hg.1;have hg2:=hg.2;⟨(sBSize (D:=s.D) (C:=s.C) (e:=s.e) (m:=s.m) (n:=m)),(rf (.one (bV 1 2 (luS m s.D m) m):Hl)),(rf (.one (.row 33 1 (mE s.C m) m):Hl)),(rf (.one (eE s.e m s.m):Hl)),(rf 0),(rf 0),fun hc30=>have hc30:=dT hc30;⟨sRatInt (x:=(g:Int)) zo zo,zo,(oldS (fun i0=>.rat (fillQ n2 p2 d2 i0)) g),(fun j0 hj0=>(by rw[show j0=0 by omega];exact fillQ_ge hg1)),g+1,(rf 0),(rf 0),(rf 0),(rf m),(leS (mE (luS m s.D m).2.1 m) m),(rf m),(leS (mE ((luS m s.D m).1) m) m),(rf m),(leS (fun i0=>iN ((luS m s.D m).2.2.1 i0)) m),(rf ((luS m s.D m).2.2.2.2:Bool)),(rf 0),(rf m),(leS (mE s.C m) m),(rf (s.m:Nat)),(leS (fun i0=>.agg (c2 (iN ((s.e i0).1)) (vE (s.e i0).2 m))) s.m),zo,(leS (fun i0=>.rat (fillQ n2 p2 d2 i0)) (g+1)),⟨by omega,.inl zo⟩,zo⟩,fun hc30=>have hc30:=dF hc30;have hng:m≤g:=zo;⟨(rf 0),(rf g),(leS (fun i0=>.rat (fillQ n2 p2 d2 i0)) g),(rf 0),(rf m),(leS (mE (luS m s.D m).2.1 m) m),(rf m),(leS (mE ((luS m s.D m).1) m) m),(rf m),(leS (fun i0=>iN ((luS m s.D m).2.2.1 i0)) m),(rf ((luS m s.D m).2.2.2.2:Bool)),(rf 0),(rf m),(leS (mE s.C m) m),(rf (s.m:Nat)),(leS (fun i0=>.agg (c2 (iN ((s.e i0).1)) (vE (s.e i0).2 m))) s.m),(sBSize (D:=s.D) (C:=s.C) (e:=s.e) (m:=s.m) (n:=m)),(rf (.one (bV 1 2 (luS m s.D m) m):Hl)),(rf (.one (.row 33 1 (mE s.C m) m):Hl)),(rf (.one (eE s.e m s.m):Hl)),(rf 0),(rf 0),(rf (m:Int)),hng,(sBSolve (D:=s.D) (C:=s.C) (e:=s.e) (m:=s.m) (n:=m) (v:=(fillQ n2 p2 d2)) zo hK.ok hK.hD hK.H hK.w (Nat.le_trans hK.hm (by decide)) hv hX),(rf (.one (bV 3 4 (luS m s.D m) m):Hl)),(rf (.one (.row 33 1 (mE s.C m) m):Hl)),(rf (.one (eE s.e m s.m):Hl)),(rf 0),(rf 0),(rf m),(fun j0 hj0=>rfl),(sBSolveT (D:=s.D) (C:=s.C) (e:=s.e) (m:=s.m) (n:=m) (v:=(fillQ n2 p2 d2)) zo hK.ok hK.hD hK.H hK.w (Nat.le_trans hK.hm (by decide)) (hK.z hm5 hv)),(rf (.one (bV 6 7 (luS m s.D m) m):Hl)),(rf (.one (.row 33 1 (mE s.C m) m):Hl)),(rf (.one (eE s.e m s.m):Hl)),(rf 0),(rf 0),(rf m),(fun j0 hj0=>rfl),(rf 0),(rf m),(leS (fun i0=>.rat (fillQ n2 p2 d2 i0)) m),(rf m),(leS (fun i0=>.rat ((etaXs (basX m s.D (fillQ n2 p2 d2)) s.e s.m) i0)) m),(rf (true:Bool)),(rf m),(leS (fun i0=>.rat (basY m s.D (etaZs m s.m (fillQ n2 p2 d2) s.e s.m) i0)) m),(rf (true:Bool)),(rf 0),(rf m),(leS (mE (luS m s.D m).2.1 m) m),(rf m),(leS (mE ((luS m s.D m).1) m) m),(rf m),(leS (fun i0=>iN ((luS m s.D m).2.2.1 i0)) m),(rf ((luS m s.D m).2.2.2.2:Bool)),(rf 0),(rf m),(leS (mE s.C m) m),(rf (s.m:Nat)),(leS (fun i0=>.agg (c2 (iN ((s.e i0).1)) (vE (s.e i0).2 m))) s.m),(sBMatrix (D:=s.D) (C:=s.C) (e:=s.e) (m:=s.m) (n:=m) zo),(rf (.one (bV 1 2 (luS m s.D m) m):Hl)),(rf (.one (.row 33 1 (mE s.C m) m):Hl)),(rf (.one (eE s.e m s.m):Hl)),(rf 0),(rf 0),(sMatTimes (m:=m) (n:=m) (q:=(trM s.C)) (v:=(etaXs (basX m s.D (fillQ n2 p2 d2)) s.e s.m)) zo zo (fun r hr=>small_room zo (hC r hr) (hX _ (Nat.le_refl _)))).frzV2,(sBMatrix (D:=s.D) (C:=s.C) (e:=s.e) (m:=s.m) (n:=m) zo),(rf (.one (bV 3 4 (luS m s.D m) m):Hl)),(rf (.one (.row 33 1 (mE s.C m) m):Hl)),(rf (.one (eE s.e m s.m):Hl)),(rf 0),(rf 0),(sMatBy (m:=m) (n:=m) (q:=(fun r c=>trM s.C r c)) (v:=(fun i=>basY m s.D (etaZs m s.m (fillQ n2 p2 d2) s.e s.m) i)) zo zo (fun t ht i hi=>small_room zo (fun j hj=>Nat.le_trans (hK.y hm5 hv j hj) (by decide)) (fun r hr=>hC r hr i hi) t ht)),(by simp),(by simp),(by simp),id,id,(fun hg=>(sVecSame (n:=m) (m:=m) (a:=(fun i=>dotQ ((trM s.C) i) (etaXs (basX m s.D (fillQ n2 p2 d2)) s.e s.m) m)) (b:=(fun i=>fillQ n2 p2 d2 i)) zo (fun i hi _=>by rw[hXs i hi];have:=hw i hi;omega))),(by simp),id,id,(fun hg=>(sVecSame (n:=m) (m:=m) (a:=(fun i=>dotQ (fun i=>basY m s.D (etaZs m s.m (fillQ n2 p2 d2) s.e s.m) i) (fun r=>trM s.C r i) m)) (b:=(fun i=>fillQ n2 p2 d2 i)) zo (fun i hi _=>by rw[hYs i hi];have:=hw i hi;omega))),(by simp),(back_test ⟨rfl,fun j hj=>hXs j hj⟩ ⟨rfl,fun j hj=>hYs j hj⟩)⟩⟩⟩
theorem sBasisBack{z0 l0:Nat}{k0:Nat→Nat}{p0 d0:Nat→Nat→Int}{N1:Nat}{K1:Nat→Int}{L1:Nat→Nat}{p1 d1:Nat→Nat→Int}{n2:Nat}{p2 d2:Nat→Int}(h0:∀r,r<l0→∀c,c<k0 r→Wd64 (p0 r c)∧Wd64 (d0 r c))(hN:N1≤68719476736)(hL1:∀i,i<N1→L1 i≤68719476736)(w1:∀i,i<N1→∀c,c<L1 i→Wd64 (p1 i c)∧Wd64 (d1 i c))(hn2:n2≤68719476736)(w2:∀i,i<n2→Wd64 (p2 i)∧Wd64 (d2 i)):CallOK Tryz.prog 5 [.agg (c2 (.ex (.int .u8 (z0:Int))) (.sl 1 (gE k0 p0 d0) l0)),.sl 2 (fun i0=>.agg (c2 (.ex (.int .i64 (K1 i0))) (.sl 2 (fun i1=>.agg (c2 (.ex (.int .i64 (p1 i0 i1))) (.ex (.int .i64 (d1 i0 i1))))) (L1 i0)))) N1,.sl 2 (fun i0=>.agg (c2 (.ex (.int .i64 (p2 i0))) (.ex (.int .i64 (d2 i0))))) n2] (bX true) []:=by
 by_cases hB:basOK (min l0 (z0%5)) (z0%5) (gQ k0 p0 d0)
 ·exact sBasisBack_yes h0 rfl rfl hN hL1 w1 hn2 w2 hB rfl
 ·exact sBasisBack_no h0 rfl rfl hB
open Go.ChangeShapes Go.WideShapes Go.ChangeAt Go.RowKit
section
variable {H:Type} {enc:TypeId×Value→H} {P:Program}
theorem trodAll_below(hl:laidOutB P=true){W W':World}(hb:Below W.heap.size W W'):∀{ts:List TypeId} {vs:List Value} {ds:List (DataW H)} {ps:List MemPlace},
  (∀t∈ts,P.readableRec t=true∧t<P.types.size)→DataW.TrodAll enc P W 0 (fun _=>true) true ts vs ds ps→(∀x∈ps,x.block<W.heap.size)→
  DataW.TrodAll enc P W' 0 (fun b=>decide (b<W.heap.size)) true ts vs ds ps
 | [],_,_,_,_,h,_=>by
  obtain⟨rfl,rfl,rfl⟩:=trodAll_nil h
  exact trodAll_mk0
 | t::ts,_,_,_,ht,h,hlt=>by
  obtain⟨v,vs1,d,ds1,a,b,rfl,rfl,rfl,h1,h2⟩:=trodAll_cons h
  have ht0:=ht t (List.mem_cons_self ..)
  exact trodAll_cons_mk (Below.trod hl ht0.1 ht0.2 h1 hb (fun x hx=>hlt x (List.mem_append.2 (.inl hx))))
   (trodAll_below hl hb (fun t' h'=>ht t' (List.mem_cons_of_mem _ h')) h2 (fun x hx=>hlt x (List.mem_append.2 (.inr hx))))
theorem law_post{f:Func}{s:ChangeSpec}{W W':World}{args:Array Value}{ds gs:List (DataW H)}{before:List MemPlace}{tb:TypeId}(hl:laidOutB P=true)
  (hts:∀t∈f.params.toList,P.readableRec t=true∧t<P.types.size)(hvars:s.vars=[])(hrt:f.resultTypes=#[tb])(htb:P.underlying tb=some .bool)
  (hW:DataW.Whole enc P f.params.toList s.vars false W args.toList ds gs before)(hfr:(s.fn H (ds++gs)).results=[.lit (.bool true)])(hfa:(s.fn H (ds++gs)).args=ds)(hfv:(s.fn H (ds++gs)).vars=[])
  (hb:Below W.heap.size W W'):s.post enc P f false true false false W args (.bool true) W':=by
 have hW0:=hW
 obtain⟨p,q,hA,hV,rfl,hz,hn⟩:=hW
 rw[hvars] at hV
 obtain⟨rfl,rfl⟩:=trodVars_none hV
 have hlt:∀x∈p++[],x.block<W.heap.size:=fun x hx=>hW0.lt x hx
 refine⟨ds,[],p++[],[],p,[],hW0,?_,?_,?_,hb.frame _,fun h=>by cases h⟩
 ·rw[hfr,hrt]
  exact trodAll_mk1 (shut_bool htb true)
 ·rw[hfa]
  exact trodAll_below hl hb hts hA (fun x hx=>hlt x (by simpa using hx))
 ·rw[hvars,hfv]
  rfl
end
theorem TryzlaidOut:laidOutB Tryz.prog=true:=by kernel_rfl
theorem Tryzown:ownKnob Tryz.prog.godebug=none:=by kernel_rfl
open Go.ChangeShapes Go.WideShapes Go.ChangeAt Go.RowKit Go.Deep
def R0 (a:SV) (W:World) (v:Value):Prop:=a.R (fun _ _=>none) (fun _=>False) W v
section
variable {H:Type} {enc:TypeId×Value→H} {W:World} {fuel base:Nat} {cs:List Value} {x:DataW H×List MemPlace}
def LongC (n:Nat) (d:DataW H) (C:Nat→DataW H→Prop):Prop:=(n=0∧d=.nil)∨∃(D:Nat→DataW H) (sp:List (DataW H)),d=.slice ((List.range n).map D) sp∧∀i,i<n→C i (D i)
def Opens (enc:TypeId×Value→H) (W:World) (T:TypeId) (s:Nat) {α:Type} (E:α→SV) (C:α→DataW H→Prop):Prop:=∀fuel cs x,DataW.trod enc Tryz.prog W 0 (fun _=>true) true fuel T cs=some x→∃(t:α) (ev:Value),cs=ev.cells.toList∧ev.cells.size=s∧One ev∧R0 (E t) W ev∧C t x.1
theorem choose_nat{α:Type}(d:α){p:Nat→α→Prop}{n:Nat}(h:∀i,i<n→∃t,p i t):∃t:Nat→α,∀i,i<n→p i (t i):=by
 classical
 exact⟨fun i=>if hi:i<n then(h i hi).choose else d,fun i hi=>by simpa [hi] using(h i hi).choose_spec⟩
theorem cellLt{a:Addr}{v:Value}(h:W.cell? a=some v):a.block<W.heap.size:=by
 unfold World.cell? at h
 split at h
 ·rename_i hh
  exact(Array.getElem?_eq_some_iff.1 hh).1
 all_goals cases h
theorem opens_sl{T e:TypeId}{s:Nat}{α:Type}{E:α→SV}{C:α→DataW H→Prop}(d:α)(hT:Tryz.prog.underlying T=some (.slice e))(hs:Tryz.prog.cellsOf e=s)(h0:0<s)(h:Opens enc W e s E C):
  Opens enc W T 1 (fun t:Nat×(Nat→α)=>.sl s (fun i=>E (t.2 i)) t.1) (fun t d=>LongC t.1 d fun i d'=>C (t.2 i) d'):=by
 intro fuel cs x hr
 rcases open_slice hT hr with⟨rfl,rfl⟩ | ⟨a,len,cap,m,k,D,Pl,rfl,_,hl,hm,hmm,rfl,hx⟩
 ·exact⟨(0,fun _=>d),.slice none 0 0,rfl,rfl,by simp[One,Value.cells,Value.oneCell'],⟨none,0,rfl,fun _=>⟨rfl,rfl⟩,Nat.le_refl _,Nat.zero_le _,fun i hi=>by omega⟩,.inl ⟨rfl,rfl⟩⟩
 ·have hm':m=cap:=by rw[hmm];rfl
  subst hs
  rcases Nat.eq_zero_or_pos len with rfl | hpos
  ·exact⟨(0,fun _=>d),.slice (some a) 0 cap,rfl,rfl,by simp[One,Value.cells,Value.oneCell'],⟨some a,cap,rfl,(fun e=>by cases e),Nat.zero_le _,hm,fun i hi=>by omega⟩,.inr ⟨D,_,rfl,fun i hi=>by omega⟩⟩
  have hspot:a.spot=none:=by
   obtain⟨cs',hc,_⟩:=hx 0 zo
   obtain⟨_,hlen,hcell⟩:=World.cells?_some hc
   have h1:=hcell 0 h0
   rw[List.getElem?_eq_getElem (by rw[hlen];exact h0)] at h1
   have:=World.cell?_spot h1
   simpa [Addr.add] using this
  obtain⟨g,o,sp⟩:=a
  simp only at hspot
  subst hspot
  have hone:∀i,i<len→∃t:α,(∃g' o',some (⟨g,o,none⟩:Addr)=some ⟨g',o',none⟩∧g'<W.heap.size∧∃ev:Value,(ev.cells.size=Tryz.prog.cellsOf e∧One ev)∧R0 (E t) W ev∧∀j u,ev.cells[j]?=some u→W.cell? ⟨g',(o'+Tryz.prog.cellsOf e*i)+j,none⟩=some u)∧C t (D i):=fun i hi=>by
   obtain⟨cs',hc,ht⟩:=hx i zo
   obtain⟨t,ev,rfl,k1,k2,k3,k4⟩:=h _ _ _ ht
   obtain⟨_,hlen,hcell⟩:=World.cells?_some hc
   have hcell:∀j,j<Tryz.prog.cellsOf e→W.cell? ⟨g,o+Tryz.prog.cellsOf e*i+j,none⟩=ev.cells.toList[j]?:=fun j hj=>by
    have:=hcell j hj
    rw[add_plain,add_plain] at this
    rw[←this,Nat.mul_comm i]
   have hg:g<W.heap.size:=by
    have h1:=hcell 0 h0
    rw[List.getElem?_eq_getElem (by rw[hlen];exact h0)] at h1
    exact cellLt h1
   refine⟨t,⟨g,o,rfl,hg,ev,⟨k1,k2⟩,k3,fun j u hj=>?_⟩,k4⟩
   have hj3:j<ev.cells.size:=(Array.getElem?_eq_some_iff.1 hj).1
   rw[hcell j zo]
   simpa using hj
  obtain⟨t,ht⟩:=choose_nat d hone
  refine⟨(len,t),.slice (some ⟨g,o,none⟩) len cap,rfl,rfl,by simp[One,Value.cells,Value.oneCell'],⟨some ⟨g,o,none⟩,cap,rfl,(fun e=>by cases e),hl,hm,fun i hi=>?_⟩,.inr ⟨_,_,rfl,fun i hi=>(ht i hi).2⟩⟩
  obtain⟨g,o,e1,e2,ev,e3,e4,e5⟩:=(ht i hi).1
  exact⟨g,o,e1,id,e2,ev,e3,e4,e5⟩
theorem opens_int{T:TypeId}(hT:Tryz.prog.underlying T=some (.int .i64)):Opens enc W T 1 (fun z:Int=>.ex (.int .i64 z)) (fun z _=>Wd64 z):=by
 intro fuel cs x hx
 obtain⟨p,hp,_,wp⟩:=DataW.trod_int hT hx
 have:-9223372036854775808≤p∧p≤9223372036854775807:=by simpa [Lit.wf,IntKind.min,IntKind.max,IntKind.signed,IntKind.bits] using wp
 exact⟨p,.int .i64 p,hp,rfl,by simp[One,Value.cells,Value.oneCell'],rfl,this.1,by omega⟩
theorem flat_agg{vs:List Value}(h:∀v∈vs,One v):One (.agg (flat vs).toArray):=by
 intro u hu
 rw[agg_cells] at hu
 obtain⟨v,hv,hu⟩:=List.mem_flatMap.1 hu
 exact h v hv u hu
theorem opens_pair{T:TypeId}{f0 f1:Field}{s0 s1:Nat}{α β:Type}{E0:α→SV}{E1:β→SV}{C0:α→DataW H→Prop}{C1:β→DataW H→Prop}(hT:Tryz.prog.underlying T=some (.struct #[f0,f1]))(h0:f0.offset=0)(h1:f1.offset=s0)(c0:Tryz.prog.cellsOf f0.type=s0)(c1:Tryz.prog.cellsOf f1.type=s1)(c:Tryz.prog.cellsOf T=s0+s1)
  (k0:Opens enc W f0.type s0 E0 C0)(k1:Opens enc W f1.type s1 E1 C1):Opens enc W T (s0+s1) (fun t:α×β=>.agg (.cn (E0 t.1) (.cn (E1 t.2) .nl))) (fun t d=>∃d0 d1,d=.agg [d0,d1]∧C0 t.1 d0∧C1 t.2 d1):=by
 intro fuel cs x hr
 obtain⟨y0,y1,n,rfl,hl,r0,r1⟩:=trod_struct2 hT hr
 obtain⟨t0,e0,z0,a0,o0,b0,g0⟩:=k0 _ _ _ r0
 obtain⟨t1,e1,z1,a1,o1,b1,g1⟩:=k1 _ _ _ r1
 rw[h0,c0,List.drop_zero] at z0
 rw[h1,c1] at z1
 have hcs:cs=flat [e0,e1]:=by
  show cs=e0.cells.toList++(e1.cells.toList++[])
  rw[←z0,←z1,List.append_nil,List.take_of_length_le (l:=List.drop s0 cs) (by rw[List.length_drop];omega),List.take_append_drop]
 refine⟨(t0,t1),.agg (flat [e0,e1]).toArray,by rw[agg_cells,hcs],?_,flat_agg fun v hv=>?_,⟨[e0,e1],rfl,e0,[e1],rfl,b0,e1,[],rfl,b1,rfl⟩,_,_,rfl,g0,g1⟩
 ·show(flat [e0,e1]).toArray.size=_
  rw[←hcs]
  simp only[List.size_toArray]
  omega
 ·simp only[List.mem_cons,List.not_mem_nil,or_false] at hv
  rcases hv with rfl | rfl
  ·exact o0
  ·exact o1
theorem opens_slV{T e:TypeId}{s:Nat}{α:Type}{E:α→SV}{C:α→DataW H→Prop}{v:Value}{d:DataW H}{ps:List MemPlace}(hT:Tryz.prog.underlying T=some (.slice e))(hv:Value.okWide Tryz.prog W .any base T v)(h:DataW.Trod enc Tryz.prog W 0 (fun _=>true) true T v d ps)
  (k:Opens enc W T 1 (fun t:Nat×(Nat→α)=>.sl s (fun i=>E (t.2 i)) t.1) (fun t d=>LongC t.1 d fun i d'=>C (t.2 i) d')):∃(n:Nat) (t:Nat→α),R0 (.sl s (fun i=>E (t i)) n) W v∧LongC n d fun i d'=>C (t i) d':=by
 obtain⟨a,len,cap,rfl⟩:=okWide_slice hT hv
 obtain⟨fuel,hf⟩:=h
 obtain⟨t,ev,e,_,_,hR,hC⟩:=k _ _ _ hf
 have hev:ev=.slice a len cap:=by
  obtain⟨A0,c,rfl,_⟩:=hR
  have e:[Value.slice a len cap]=[Value.slice A0 t.1 c]:=e
  exact(List.cons.inj e).1.symm
 subst hev
 exact⟨t.1,t.2,hR,hC⟩
theorem opens_aggV{T:TypeId}{fs:Array Field}{s:Nat}{α:Type}{E:α→SV}{C:α→DataW H→Prop}{v:Value}{d:DataW H}{ps:List MemPlace}(hT:Tryz.prog.underlying T=some (.struct fs))(hv:Value.okWide Tryz.prog W .any base T v)(h:DataW.Trod enc Tryz.prog W 0 (fun _=>true) true T v d ps)
  (k:Opens enc W T s (fun t:α=>.agg (E t)) C):∃t:α,R0 (.agg (E t)) W v∧C t d:=by
 obtain⟨cs,rfl,_⟩:=okWide_struct hT hv
 obtain⟨fuel,hf⟩:=h
 obtain⟨t,ev,e,_,_,hR,hC⟩:=k _ _ _ hf
 have hev:ev=.agg cs:=by
  obtain⟨vs,rfl,_⟩:=hR
  rw[agg_cells] at e
  have e:cs.toList=flat vs:=e
  rw[←e]
 subst hev
 exact⟨t,hR,hC⟩
end
def fracS (t:Int×Int):SV:=.agg (.cn (.ex (.int .i64 t.1)) (.cn (.ex (.int .i64 t.2)) .nl))
theorem opens_frac{H:Type}{enc:TypeId×Value→H}{W:World}:Opens enc W 105 2 fracS (fun t d=>∃d0 d1,d=.agg [d0,d1]∧Wd64 t.1∧Wd64 t.2):=
 opens_pair (s0:=1) (s1:=1) Tryz.underlying105 rfl rfl (by kernel_rfl) (by kernel_rfl) (by kernel_rfl) (opens_int Tryz.underlying3) (opens_int Tryz.underlying3)
def rowS (t:Nat×(Nat→Int×Int)):SV:=.sl 2 (fun i=>fracS (t.2 i)) t.1
def RowC {H:Type} (t:Nat×(Nat→Int×Int)) (d:DataW H):Prop:=LongC t.1 d fun i d'=>∃d0 d1,d'=.agg [d0,d1]∧Wd64 (t.2 i).1∧Wd64 (t.2 i).2
theorem opens_fracs{H:Type}{enc:TypeId×Value→H}{W:World}:Opens enc W 26 1 rowS RowC:=
 opens_sl (E:=fracS) (C:=fun t d=>∃d0 d1,d=.agg [d0,d1]∧Wd64 t.1∧Wd64 t.2) (0,0) Tryz.underlying26 (by kernel_rfl) (by decide) opens_frac
theorem opens_rows{H:Type}{enc:TypeId×Value→H}{W:World}:Opens enc W 22 1 (fun t:Nat×(Nat→Nat×(Nat→Int×Int))=>.sl 1 (fun i=>rowS (t.2 i)) t.1) (fun t d=>LongC t.1 d fun i d'=>RowC (t.2 i) d'):=
 opens_sl (E:=rowS) (C:=RowC) (0,fun _=>(0,0)) Tryz.underlying22 (by kernel_rfl) (by decide) opens_fracs
section
variable {H:Type} {enc:TypeId×Value→H} {W:World} {base:Nat} {v:Value} {d:DataW H} {ps:List MemPlace}
theorem top_fracs(hv:Value.okWide Tryz.prog W .any base 26 v)(h:DataW.Trod enc Tryz.prog W 0 (fun _=>true) true 26 v d ps):∃(n:Nat) (t:Nat→Int×Int),R0 (.sl 2 (fun i=>fracS (t i)) n) W v∧LongC n d fun i d'=>∃d0 d1,d'=.agg [d0,d1]∧Wd64 (t i).1∧Wd64 (t i).2:=
 opens_slV (E:=fracS) (C:=fun t d=>∃d0 d1,d=.agg [d0,d1]∧Wd64 t.1∧Wd64 t.2) Tryz.underlying26 hv h opens_fracs
end
theorem CallOK.law{f:FuncId}{As:List SV}(h:CallOK Tryz.prog f As (bX true) []){W:World}{vals:List Value}(hA:ArgsR As (fun _ _=>none) (fun _=>False) W vals)(hg:Gl W:=by intro _ e;cases e):Calls Tryz.prog f vals.toArray W fun e W'=>∃v,e=.returned v∧Below W.heap.size W W'∧v=.bool true:=
 (h.run (fun _ _=>none) (fun _=>False) W vals ⟨fun _ h=>h.elim,hg⟩ hA).mono fun _ _ ⟨v,_,e1,hp,hR⟩=>⟨v,e1,hp.mod.grow,hR⟩
open Go.ChangeShapes Go.WideShapes Go.ChangeAt Go.RowKit Go.Deep
section
variable {H:Type} {enc:TypeId×Value→H} {W:World} {base:Nat} {v:Value} {d:DataW H} {ps:List MemPlace}
theorem LongC.at{n:Nat}{d:DataW H}{C:Nat→DataW H→Prop}(h:LongC n d C):∀i,i<n→∃d',C i d':=fun i hi=>by
 rcases h with⟨rfl,_⟩ | ⟨D,_,_,k⟩
 ·omega
 ·exact⟨D i,k i hi⟩
theorem opens_u8{T:TypeId}(hT:Tryz.prog.underlying T=some (.int .u8)):Opens enc W T 1 (fun z:Nat=>.ex (.int .u8 (z:Int))) (fun z _=>z<256):=by
 intro fuel cs x hx
 obtain⟨p,hp,_,wp⟩:=DataW.trod_int hT hx
 have:0≤p∧p≤255:=by simpa [Lit.wf,IntKind.min,IntKind.max,IntKind.signed,IntKind.bits] using wp
 exact⟨p.toNat,.int .u8 p,hp,rfl,by simp[One,Value.cells,Value.oneCell'],by show Value.int .u8 p=.int .u8 ((p.toNat:Nat):Int);rw[Int.toNat_of_nonneg this.1],by omega⟩
end
theorem opens_grid{H:Type}{enc:TypeId×Value→H}{W:World}:Opens enc W 24 2 (fun t:Nat×(Nat×(Nat→Nat×(Nat→Int×Int)))=>.agg (.cn (.ex (.int .u8 ((t.1:Nat):Int))) (.cn (.sl 1 (fun i=>rowS (t.2.2 i)) t.2.1) .nl))) (fun t d=>∃d0 d1,d=.agg [d0,d1]∧t.1<256∧LongC t.2.1 d1 fun i d'=>RowC (t.2.2 i) d'):=
 opens_pair (s0:=1) (s1:=1) Tryz.underlying24 rfl rfl (by kernel_rfl) (by kernel_rfl) (by kernel_rfl) (opens_u8 Tryz.underlying5) opens_rows
section
variable {H:Type} {enc:TypeId×Value→H} {W:World} {base:Nat} {v:Value} {d:DataW H} {ps:List MemPlace}
theorem LongC.wf{n:Nat}{d:DataW H}{f:Nat→Nat}(h:LongC n d fun i _=>f i<18446744073709551616):Wf f n:=fun i hi=>by
 obtain⟨_,k⟩:=h.at i hi
 exact k
theorem top_grid(hv:Value.okWide Tryz.prog W .any base 24 v)(h:DataW.Trod enc Tryz.prog W 0 (fun _=>true) true 24 v d ps):∃(t:Nat×(Nat×(Nat→Nat×(Nat→Int×Int)))),R0 (.agg (.cn (.ex (.int .u8 ((t.1:Nat):Int))) (.cn (.sl 1 (fun i=>rowS (t.2.2 i)) t.2.1) .nl))) W v∧t.1<256∧∀r,r<t.2.1→∀c,c<(t.2.2 r).1→Wd64 ((t.2.2 r).2 c).1∧Wd64 ((t.2.2 r).2 c).2:=by
 obtain⟨t,hR,_,_,_,h8,hL⟩:=opens_aggV (E:=fun t:Nat×(Nat×(Nat→Nat×(Nat→Int×Int)))=>.cn (.ex (.int .u8 ((t.1:Nat):Int))) (.cn (.sl 1 (fun i=>rowS (t.2.2 i)) t.2.1) .nl)) Tryz.underlying24 hv h opens_grid
 refine⟨t,hR,h8,fun r hr c hc=>?_⟩
 obtain⟨_,k⟩:=hL.at r hr
 obtain⟨_,_,_,_,k2⟩:=k.at c hc
 exact k2
end
end Go.Proofs.YtgighdoacajmfaaGreatDoor
