import Derived.LaidEql
import Derived.Stop.Asserts
import Derived.RowKitTokens
import Derived.Test.YtlihkblppjgebaaGreatDoorZAa
set_option linter.all false
set_option maxRecDepth 100000
set_option maxHeartbeats 0
namespace Go.Proofs.YtlihkblppjgebaaGreatDoor
open Go.RowKit Go.Proofs.Tryz
section
open Go.Extern Go.Extern.Stop Go.Stop
theorem DW(t:Value)(w:World):
 Calls prog 146 #[.nilIface,t] w fun e w'=>e=.returned (.bool false)/\w'=w:=by
 go_wp2
 go_ret;exact⟨rfl,rfl⟩
theorem hK.wX(t:Addr)(w:World):(ReflectliteValue.unpack (.iface 303 (.pointer (some t)))).run prog w
 =.ok (.agg #[(4,303),(w.heap.size,0),.int .u64 150]) (w.alloc (.cells #[.pointer (some t)] 303)):=by kernel_rfl
theorem hK.type27(a:Addr)(w:World):(ReflectliteValue.methodAny (ReflectliteValue.valueError "reflectlite.Value.Type" 0) (fun t _ _ _=>ReflectliteType.toType t) #[.agg #[(4,303),.pointer (some a),.int .u64 150]]).run prog w
 =.ok (.iface 390 (.agg #[(4,303)])) w:=by kernel_rfl
theorem hK.tY(h:Value)(w:World):(Go.method 546 390 (.agg #[h]) "Kind").run prog w=.ok (273,h) w:=by kernel_rfl
theorem hK.DX(w:World):((ReflectliteType.abiMethod fun t=>(fun a:Nat=>Value.int IntKind.u8 (a:Int))<$>Rtype.kind t) #[(4,303)]).run prog w=.ok (.int .u8 22) w:=by kernel_rfl
theorem hK.DY(w:World):((ReflectliteType.abiMethod fun t=>(fun a:Nat=>Value.int IntKind.u8 (a:Int))<$>Rtype.kind t) #[(4,247)]).run prog w=.ok (.int .u8 22) w:=by kernel_rfl
theorem Hr(z:Sem Value)(f:TypeId->Addr->Nat->Nat->Sem Value)(v:Value):
 ReflectliteValue.method z f #[v]=(do match<-ReflectliteValue.parts v with|none=>z|some (t,a,b)=>f t a b (b%32)):=rfl
theorem hK.vI(a:Addr)(w:World):(ReflectliteValue.parts (.agg #[(4,303),.pointer (some a),.int .u64 150])).run prog w=.ok (some (303,a,150)) w:=by kernel_rfl
theorem hK.BO(a p:Addr)(W:World)(b:W.cell? a=some (.pointer (some p))):
 (ReflectliteValue.method (ReflectliteValue.valueError "reflectlite.Value.IsNil" 0) ReflectliteValue.isNil #[.agg #[(4,303),.pointer (some a),.int .u64 150]]).run prog W=.ok (.bool false) W:=by
 rw[Hr];simp only[Sem.run_bind,hK.vI,Result.andThen];simp[ReflectliteValue.isNil,loadVar,isAgg,underlying,underlying303,b,Result.andThen]
theorem hK.tZ(h:Value)(w:World):(Go.method 546 390 (.agg #[h]) "Elem").run prog w=.ok (303,.agg #[h]) w:=by kernel_rfl
theorem hK.lF(h:Value)(w:World):(Go.method 546 390 (.agg #[h]) "Implements").run prog w=.ok (304,.agg #[h]) w:=by kernel_rfl
theorem hK.j9(h:Value)(w:World):(Go.method 546 390 (.agg #[h]) "AssignableTo").run prog w=.ok (301,.agg #[h]) w:=by kernel_rfl
theorem hK.DZ(w:World):(ReflectliteType.method ReflectliteType.elem #[.agg #[(4,303)]]).run prog w=.ok (.iface 390 (.agg #[(4,247)])) w:=by kernel_rfl
theorem hK.qi(w:World):(ReflectliteType.relation "Implements" ReflectliteType.implements_ #[.agg #[(4,247)],.iface 390 (.agg #[(4,85)])]).run prog w=.ok (.bool true) w:=by kernel_rfl
theorem hK.zi(v:Value)(w:World):(ReflectliteType.typeOf #[.iface 247 v]).run prog w=.ok (.iface 390 (.agg #[(4,247)])) w:=by kernel_rfl
theorem hK.qj(w:World):(ReflectliteType.relation "AssignableTo" ReflectliteType.assignableTo #[.agg #[(4,247)],.iface 390 (.agg #[(4,247)])]).run prog w=.ok (.bool true) w:=by kernel_rfl
theorem hK.wY(e:Addr)(w:World):(ReflectliteValue.unpack (.iface 247 (.pointer (some e)))).run prog w
 =.ok (.agg #[(4,247),(w.heap.size,0),.int .u64 150]) (w.alloc (.cells #[.pointer (some e)] 247)):=by kernel_rfl
theorem hK.zj(w:World):(Rtype.elem? 303).run prog w=.ok (some 247) w:=by kernel_rfl
theorem hK.GM(p:Addr)(w:World):(ReflectliteValue.mk 247 p ReflectliteValue.flagAddr).run prog w=.ok (.agg #[(4,247),.pointer (some p),.int .u64 406]) w:=by kernel_rfl
theorem hK.BP(a p:Addr)(W:World)(b:W.cell? a=some (.pointer (some p))):
 (ReflectliteValue.method (ReflectliteValue.valueError "reflectlite.Value.Elem" 0) ReflectliteValue.elem #[.agg #[(4,303),.pointer (some a),.int .u64 150]]).run prog W
  =.ok (.agg #[(4,247),.pointer (some p),.int .u64 406]) W:=by
 rw[Hr];simp only[Sem.run_bind,hK.vI,Result.andThen];simp[ReflectliteValue.elem,loadVar,isAgg,underlying,underlying303,b,Result.andThen,hK.zj,hK.GM]
theorem HC(v x:Value):ReflectliteValue.set #[v,x]=(do
 let(some (dst,a,c),some (src,b,_)):=(<-ReflectliteValue.parts v,<-ReflectliteValue.parts x)
  |unsupported (.noEntry "extern/(internal/reflectlite.Value).Set.zeroValue")
 if c/ReflectliteValue.flagAddr%2==0 then unsupported (.noEntry "extern/(internal/reflectlite.Value).Set.unaddressable")
 let val<-loadVar src b
 if<-Rtype.directlyAssignable dst src then storeVar dst a val
 else if<-Rtype.implements dst src then
  if(<-Rtype.kind src)==20 then
   match val with
   |.nilIface=>unsupported (.noEntry "extern/reflectlite: a nil value of one interface type handed on as a value of another")
   |_=>storeVar dst a val
  else storeVar dst a (.iface src val)
 else panicString ("reflectlite.Set: value of type " ++(<-Rtype.spelt src)++ " is not assignable to type " ++(<-Rtype.spelt dst))
 pure (.tuple #[])):=rfl
theorem hK.zk(a:Addr)(w:World):(ReflectliteValue.parts (.agg #[(4,247),.pointer (some a),.int .u64 406])).run prog w=.ok (some (247,a,406)) w:=by kernel_rfl
theorem hK.BQ(a:Addr)(w:World):(ReflectliteValue.parts (.agg #[(4,247),.pointer (some a),.int .u64 150])).run prog w=.ok (some (247,a,150)) w:=by kernel_rfl
theorem hK.zl(w:World):(Rtype.directlyAssignable 247 247).run prog w=.ok true w:=by kernel_rfl
theorem hK.Fw(a b e:Addr)(f:Value)(W:World)(hb:W.cell? b=some (.pointer (some e)))(d:W.cell? a=some f)(c:W.frozen? a=false):
 (ReflectliteValue.set #[.agg #[(4,247),.pointer (some a),.int .u64 406],.agg #[(4,247),.pointer (some b),.int .u64 150]]).run prog W
  =.ok (.tuple #[]) (W.setCell a (.pointer (some e))):=by
 rw[HC];simp only[Sem.run_bind,hK.zk,hK.BQ,Result.andThen];simp[ReflectliteValue.flagAddr,loadVar,isAgg,underlying,underlying247,hb,Result.andThen,hK.zl,storeVar,Value.cells,storeCells,Addr.add];rw[run_store prog W a _ _ (by rfl)];simp[d,c]
theorem D0(e t:Addr)(d:Value)(w:World)(a:w.cell? (0,0)=some (.iface 390 (.agg #[(4,85)])))(b:w.cell? t=some d)(i:w.frozen? t=false):
 Calls prog 146 #[.iface 247 (.pointer (some e)),.iface 303 (.pointer (some t))] w fun f w'=>f=.returned (.bool true)/\w'=((((w.alloc (.cells #[.pointer (some t)] 303)).alloc (.cells #[(4,303),(w.heap.size,0),.int .u64 150] 357)).alloc (.cells #[(4,303),(w.heap.size,0),.int .u64 150] 357)).alloc (.cells #[.pointer (some e)] 247)).setCell t (.pointer (some e)):=by
 have u:= @run_callFunc_extern prog 192 _ (fun args=>ReflectliteValue.unpack (args.getD 0 (.tuple #[]))) func192 (by kernel_rfl) (by kernel_rfl) (by kernel_rfl) (by kernel_rfl);have v:= @run_callFunc_extern prog 193 _ (ReflectliteValue.methodAny (ReflectliteValue.valueError "reflectlite.Value.Type" 0) (fun t _ _ _=>ReflectliteType.toType t)) func193 (by kernel_rfl) (by kernel_rfl) (by kernel_rfl) (by kernel_rfl);have x:= @run_callFunc_extern prog 194 _ (ReflectliteValue.method (ReflectliteValue.valueError "reflectlite.Value.IsNil" 0) ReflectliteValue.isNil) func194 (by kernel_rfl) (by kernel_rfl) (by kernel_rfl) (by kernel_rfl);have p:= @run_callFunc_extern prog 273 _ (ReflectliteType.abiMethod fun t=>do pure (.int .u8 (<-Rtype.kind t))) func273 (by kernel_rfl) (by kernel_rfl) (by kernel_rfl) (by kernel_rfl);have r:= @run_callFunc_extern prog 303 _ (ReflectliteType.method ReflectliteType.elem) func303 (by kernel_rfl) (by kernel_rfl) (by kernel_rfl) (by kernel_rfl);have s:= @run_callFunc_extern prog 304 _ (ReflectliteType.relation "Implements" ReflectliteType.implements_) func304 (by kernel_rfl) (by kernel_rfl) (by kernel_rfl) (by kernel_rfl);have m:= @run_callFunc_extern prog 234 _ ReflectliteType.typeOf func234 (by kernel_rfl) (by kernel_rfl) (by kernel_rfl) (by kernel_rfl);have q:= @run_callFunc_extern prog 301 _ (ReflectliteType.relation "AssignableTo" ReflectliteType.assignableTo) func301 (by kernel_rfl) (by kernel_rfl) (by kernel_rfl) (by kernel_rfl);have n:= @run_callFunc_extern prog 235 _ (ReflectliteValue.method (ReflectliteValue.valueError "reflectlite.Value.Elem" 0) ReflectliteValue.elem) func235 (by kernel_rfl) (by kernel_rfl) (by kernel_rfl) (by kernel_rfl);have o:= @run_callFunc_extern prog 236 _ ReflectliteValue.set func236 (by kernel_rfl) (by kernel_rfl) (by kernel_rfl) (by kernel_rfl);have G:=hK.zi;have B:=hK.j9;have k:=hK.qj;have H:=hK.wY;have f6:=hK.wX;have f7:=hK.type27;have E:=hK.tY;have C:=hK.tZ;have D:=hK.lF;have A:=hK.DX;have z:=hK.DY;have l:=hK.DZ;have i25:=hK.qi;have F:=hK.BO ⟨w.heap.size,0,none⟩ t ((w.alloc (.cells #[.pointer (some t)] 303)).alloc (.cells #[(4,303),(w.heap.size,0),.int .u64 150] 357)) (by simp);have j:0<w.heap.size:=by
  rcases Nat.eq_zero_or_pos w.heap.size with g|h
  ·simp[World.cell?,g]at a
  ·exact h
 have y:((w.alloc (.cells #[.pointer (some t)] 303)).alloc (.cells #[(4,303),(w.heap.size,0),.int .u64 150] 357)).cell? (0,0)=some (.iface 390 (.agg #[(4,85)])):=by
  rw[World.cell?_alloc_lt _ _ ⟨0,0,none⟩ (by simp),World.cell?_alloc_lt _ _ ⟨0,0,none⟩ j];exact a
 have c:t.block<w.heap.size:=by
  rcases Nat.lt_or_ge t.block w.heap.size with h|h
  ·exact h
  ·simp[World.cell?,Array.getElem?_eq_none h]at b
 have el:=hK.BP ⟨w.heap.size,0,none⟩ t (((w.alloc (.cells #[.pointer (some t)] 303)).alloc (.cells #[(4,303),(w.heap.size,0),.int .u64 150] 357)).alloc (.cells #[(4,303),(w.heap.size,0),.int .u64 150] 357)) (by rw[World.cell?_alloc_lt _ _ ⟨w.heap.size,0,none⟩ (by simp;omega)];simp);have st:=hK.Fw t ⟨w.heap.size+1+1+1,0,none⟩ e d ((((w.alloc (.cells #[.pointer (some t)] 303)).alloc (.cells #[(4,303),(w.heap.size,0),.int .u64 150] 357)).alloc (.cells #[(4,303),(w.heap.size,0),.int .u64 150] 357)).alloc (.cells #[.pointer (some e)] 247))
  (by rw[World.cell?_alloc_at _ _ _ _ (by simp)];rfl)
  (by rw[World.cell?_alloc_lt _ _ t (by simp;omega),World.cell?_alloc_lt _ _ t (by simp;omega),World.cell?_alloc_lt _ _ t (by simp;omega),World.cell?_alloc_lt _ _ t c];exact b)
  (by rw[World.frozen?_alloc_old _ _ t (by simp;omega),World.frozen?_alloc_old _ _ t (by simp;omega),World.frozen?_alloc_old _ _ t (by simp;omega),World.frozen?_alloc_old _ _ t (Nat.ne_of_lt c)];exact i)
 go_wp2
 refine wp_loop_rounds 1 ?_;rw[rounds_succ];go_wp2
 go_ret;exact⟨rfl,rfl⟩
end
variable{w:World}{v:Value}
def aS(w:World)(v v':Value):Prop:=∀g,v'.ownBlock=some g->v.ownBlock=some g∨w.heap.size<=g
theorem aS.refl(w:World)(v:Value):aS w v v:=fun _ h=>Or.inl h
theorem aS.of_eq{v':Value}(h:v'.ownBlock=v.ownBlock):aS w v v':=fun _ a=>Or.inl (h▸a)
theorem aS.trans{w1:World}{a b c:Value}(h:aS w a b)(f:w.heap.size<=w1.heap.size)(k:aS w1 b c):aS w a c:=fun g e=>by
 rcases k g e with d|d
 ·exact h g d
 ·exact Or.inr (Nat.le_trans f d)
theorem aS.nil(w:World)(v:Value):aS w v (.slice none 0 0):=fun g a=>by cases a
theorem aS.at{a n c:Nat}(h:v.ownBlock=some a∨w.heap.size<=a):aS w v (.slice (some (a,0)) n c):=fun i b=>by
 have:a=i:=by simpa[Value.ownBlock]using b
 subst this;exact h
