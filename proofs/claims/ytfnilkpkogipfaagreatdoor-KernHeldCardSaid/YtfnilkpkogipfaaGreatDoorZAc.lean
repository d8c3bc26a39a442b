import Derived.LaidEql
import Derived.Stop.Asserts
import Derived.RowKitTokens
import Derived.Test.YtfnilkpkogipfaaGreatDoorZAb
set_option linter.unusedVariables false
set_option linter.unusedSimpArgs false
set_option maxRecDepth 100000
set_option maxHeartbeats 8000000
namespace Go.Proofs.YtfnilkpkogipfaaGreatDoor
open Go.RowKit Go.Proofs.Tryz
section
open Go.Extern Go.Extern.Stop Go.Stop
theorem Ck(t:Value)(w:World):
 Calls prog 125 #[.nilIface,t] w fun e w'=>e=.returned (.bool false)/\w'=w:=by
 go_enter func125,ntmps125
 go_wp2
 go_ret;exact⟨rfl,rfl⟩
theorem g'.vx(t:Addr)(w:World):(ReflectliteValue.unpack (.iface 264 (.pointer (some t)))).run prog w
 =.ok (.agg #[(1,264),(w.heap.size,0),.int .u64 150]) (w.alloc (.cells #[.pointer (some t)] 264)):=by kernel_rfl
theorem g'.type27(a:Addr)(w:World):(ReflectliteValue.methodAny (ReflectliteValue.valueError "reflectlite.Value.Type" 0) (fun t _ _ _=>ReflectliteType.toType t) #[.agg #[(1,264),.pointer (some a),.int .u64 150]]).run prog w
 =.ok (.iface 335 (.agg #[(1,264)])) w:=by kernel_rfl
theorem g'.sT(h:Value)(w:World):(Go.method 494 335 (.agg #[h]) "Kind").run prog w=.ok (226,h) w:=by kernel_rfl
theorem g'.Cl(w:World):((ReflectliteType.abiMethod fun t=>(fun a:Nat=>Value.int IntKind.u8 (a:Int))<$>Rtype.kind t) #[(1,264)]).run prog w=.ok (.int .u8 22) w:=by kernel_rfl
theorem g'.Cm(w:World):((ReflectliteType.abiMethod fun t=>(fun a:Nat=>Value.int IntKind.u8 (a:Int))<$>Rtype.kind t) #[(1,197)]).run prog w=.ok (.int .u8 22) w:=by kernel_rfl
theorem Fc(z:Sem Value)(f:TypeId->Addr->Nat->Nat->Sem Value)(v:Value):
 ReflectliteValue.method z f #[v]=(do match<-ReflectliteValue.parts v with|none=>z|some (t,a,b)=>f t a b (b%32)):=rfl
theorem g'.ux(a:Addr)(w:World):(ReflectliteValue.parts (.agg #[(1,264),.pointer (some a),.int .u64 150])).run prog w=.ok (some (264,a,150)) w:=by kernel_rfl
theorem g'.Ar(a p:Addr)(b:World)(c:b.cell? a=some (.pointer (some p))):
 (ReflectliteValue.method (ReflectliteValue.valueError "reflectlite.Value.IsNil" 0) ReflectliteValue.isNil #[.agg #[(1,264),.pointer (some a),.int .u64 150]]).run prog b=.ok (.bool false) b:=by
 rw[Fc];simp only[Sem.run_bind,g'.ux,Result.andThen];simp[ReflectliteValue.isNil,loadVar,isAgg,underlying,underlying264,c,Result.andThen]
theorem g'.sU(h:Value)(w:World):(Go.method 494 335 (.agg #[h]) "Elem").run prog w=.ok (256,.agg #[h]) w:=by kernel_rfl
theorem g'.k8(h:Value)(w:World):(Go.method 494 335 (.agg #[h]) "Implements").run prog w=.ok (257,.agg #[h]) w:=by kernel_rfl
theorem g'.jO(h:Value)(w:World):(Go.method 494 335 (.agg #[h]) "AssignableTo").run prog w=.ok (254,.agg #[h]) w:=by kernel_rfl
theorem g'.Cn(w:World):(ReflectliteType.method ReflectliteType.elem #[.agg #[(1,264)]]).run prog w=.ok (.iface 335 (.agg #[(1,197)])) w:=by kernel_rfl
theorem g'.pJ(w:World):(ReflectliteType.relation "Implements" ReflectliteType.implements_ #[.agg #[(1,197)],.iface 335 (.agg #[(1,40)])]).run prog w=.ok (.bool true) w:=by kernel_rfl
theorem g'.xT(v:Value)(w:World):(ReflectliteType.typeOf #[.iface 197 v]).run prog w=.ok (.iface 335 (.agg #[(1,197)])) w:=by kernel_rfl
theorem g'.pK(w:World):(ReflectliteType.relation "AssignableTo" ReflectliteType.assignableTo #[.agg #[(1,197)],.iface 335 (.agg #[(1,197)])]).run prog w=.ok (.bool true) w:=by kernel_rfl
theorem g'.vy(e:Addr)(w:World):(ReflectliteValue.unpack (.iface 197 (.pointer (some e)))).run prog w
 =.ok (.agg #[(1,197),(w.heap.size,0),.int .u64 150]) (w.alloc (.cells #[.pointer (some e)] 197)):=by kernel_rfl
theorem g'.xU(w:World):(Rtype.elem? 264).run prog w=.ok (some 197) w:=by kernel_rfl
theorem g'.EF(p:Addr)(w:World):(ReflectliteValue.mk 197 p ReflectliteValue.flagAddr).run prog w=.ok (.agg #[(1,197),.pointer (some p),.int .u64 406]) w:=by kernel_rfl
theorem g'.As(a p:Addr)(b:World)(c:b.cell? a=some (.pointer (some p))):
 (ReflectliteValue.method (ReflectliteValue.valueError "reflectlite.Value.Elem" 0) ReflectliteValue.elem #[.agg #[(1,264),.pointer (some a),.int .u64 150]]).run prog b
  =.ok (.agg #[(1,197),.pointer (some p),.int .u64 406]) b:=by
 rw[Fc];simp only[Sem.run_bind,g'.ux,Result.andThen];simp[ReflectliteValue.elem,loadVar,isAgg,underlying,underlying264,c,Result.andThen,g'.xU,g'.EF]
theorem Fq(v x:Value):ReflectliteValue.set #[v,x]=(do
 let(some (dst,a,c),some (src,b,_)):=(<-ReflectliteValue.parts v,<-ReflectliteValue.parts x)
  |unsupported (.noEntry "extern/(internal/reflectlite.Value).Set.zeroValue")
 if c/ReflectliteValue.flagAddr%2==0 then unsupported (.noEntry "extern/(internal/reflectlite.Value).Set.unaddressable")
 let val<-loadVar src b
 if<-Rtype.directlyAssignable dst src then storeVar dst a val
 else if<-Rtype.implements dst src then
  if(<-Rtype.kind src)==20 then
   match val with
   |.nilIface=>unsupported (.noEntry "extern/reflectlite: a nil value of one interface type handed on as a value of another")
   |_=>storeVar dst a val
  else storeVar dst a (.iface src val)
 else panicString ("reflectlite.Set: value of type " ++(<-Rtype.spelt src)++ " is not assignable to type " ++(<-Rtype.spelt dst))
 pure (.tuple #[])):=rfl
theorem g'.xV(a:Addr)(w:World):(ReflectliteValue.parts (.agg #[(1,197),.pointer (some a),.int .u64 406])).run prog w=.ok (some (197,a,406)) w:=by kernel_rfl
theorem g'.Au(a:Addr)(w:World):(ReflectliteValue.parts (.agg #[(1,197),.pointer (some a),.int .u64 150])).run prog w=.ok (some (197,a,150)) w:=by kernel_rfl
theorem g'.xW(w:World):(Rtype.directlyAssignable 197 197).run prog w=.ok true w:=by kernel_rfl
theorem g'.DC(c b e:Addr)(g:Value)(a:World)(hb:a.cell? b=some (.pointer (some e)))(f:a.cell? c=some g)(d:a.frozen? c=false):
 (ReflectliteValue.set #[.agg #[(1,197),.pointer (some c),.int .u64 406],.agg #[(1,197),.pointer (some b),.int .u64 150]]).run prog a
  =.ok (.tuple #[]) (a.setCell c (.pointer (some e))):=by
 rw[Fq];simp only[Sem.run_bind,g'.xV,g'.Au,Result.andThen];simp[ReflectliteValue.flagAddr,loadVar,isAgg,underlying,underlying197,hb,Result.andThen,g'.xW,storeVar,Value.cells,storeCells,Addr.add];rw[run_store prog a c _ _ (by rfl)];simp[f,d]
theorem Co(e t:Addr)(d:Value)(w:World)(a:w.cell? (0,0)=some (.iface 335 (.agg #[(1,40)])))(b:w.cell? t=some d)(i:w.frozen? t=false):
 Calls prog 125 #[.iface 197 (.pointer (some e)),.iface 264 (.pointer (some t))] w fun f w'=>f=.returned (.bool true)/\w'=((((w.alloc (.cells #[.pointer (some t)] 264)).alloc (.cells #[(1,264),(w.heap.size,0),.int .u64 150] 302)).alloc (.cells #[(1,264),(w.heap.size,0),.int .u64 150] 302)).alloc (.cells #[.pointer (some e)] 197)).setCell t (.pointer (some e)):=by
 have u:= @run_callFunc_extern prog 150 _ (fun args=>ReflectliteValue.unpack (args.getD 0 (.tuple #[]))) func150 (by kernel_rfl) (by kernel_rfl) (by kernel_rfl) (by kernel_rfl);have v:= @run_callFunc_extern prog 151 _ (ReflectliteValue.methodAny (ReflectliteValue.valueError "reflectlite.Value.Type" 0) (fun t _ _ _=>ReflectliteType.toType t)) func151 (by kernel_rfl) (by kernel_rfl) (by kernel_rfl) (by kernel_rfl);have x:= @run_callFunc_extern prog 152 _ (ReflectliteValue.method (ReflectliteValue.valueError "reflectlite.Value.IsNil" 0) ReflectliteValue.isNil) func152 (by kernel_rfl) (by kernel_rfl) (by kernel_rfl) (by kernel_rfl);have p:= @run_callFunc_extern prog 226 _ (ReflectliteType.abiMethod fun t=>do pure (.int .u8 (<-Rtype.kind t))) func226 (by kernel_rfl) (by kernel_rfl) (by kernel_rfl) (by kernel_rfl);have r:= @run_callFunc_extern prog 256 _ (ReflectliteType.method ReflectliteType.elem) func256 (by kernel_rfl) (by kernel_rfl) (by kernel_rfl) (by kernel_rfl);have s:= @run_callFunc_extern prog 257 _ (ReflectliteType.relation "Implements" ReflectliteType.implements_) func257 (by kernel_rfl) (by kernel_rfl) (by kernel_rfl) (by kernel_rfl);have m:= @run_callFunc_extern prog 178 _ ReflectliteType.typeOf func178 (by kernel_rfl) (by kernel_rfl) (by kernel_rfl) (by kernel_rfl);have q:= @run_callFunc_extern prog 254 _ (ReflectliteType.relation "AssignableTo" ReflectliteType.assignableTo) func254 (by kernel_rfl) (by kernel_rfl) (by kernel_rfl) (by kernel_rfl);have n:= @run_callFunc_extern prog 179 _ (ReflectliteValue.method (ReflectliteValue.valueError "reflectlite.Value.Elem" 0) ReflectliteValue.elem) func179 (by kernel_rfl) (by kernel_rfl) (by kernel_rfl) (by kernel_rfl);have o:= @run_callFunc_extern prog 180 _ ReflectliteValue.set func180 (by kernel_rfl) (by kernel_rfl) (by kernel_rfl) (by kernel_rfl);have G:=g'.xT;have B:=g'.jO;have k:=g'.pK;have H:=g'.vy;have f6:=g'.vx;have f7:=g'.type27;have E:=g'.sT;have C:=g'.sU;have D:=g'.k8;have A:=g'.Cl;have z:=g'.Cm;have l:=g'.Cn;have i25:=g'.pJ;have F:=g'.Ar ⟨w.heap.size,0,none⟩ t ((w.alloc (.cells #[.pointer (some t)] 264)).alloc (.cells #[(1,264),(w.heap.size,0),.int .u64 150] 302)) (by simp);have j:0<w.heap.size:=by
  rcases Nat.eq_zero_or_pos w.heap.size with g|h
  ·simp[World.cell?,g]at a
  ·exact h
 have y:((w.alloc (.cells #[.pointer (some t)] 264)).alloc (.cells #[(1,264),(w.heap.size,0),.int .u64 150] 302)).cell? (0,0)=some (.iface 335 (.agg #[(1,40)])):=by
  rw[World.cell?_alloc_lt _ _ ⟨0,0,none⟩ (by simp),World.cell?_alloc_lt _ _ ⟨0,0,none⟩ j];exact a
 have c:t.block<w.heap.size:=by
  rcases Nat.lt_or_ge t.block w.heap.size with h|h
  ·exact h
  ·simp[World.cell?,Array.getElem?_eq_none h]at b
 have el:=g'.As ⟨w.heap.size,0,none⟩ t (((w.alloc (.cells #[.pointer (some t)] 264)).alloc (.cells #[(1,264),(w.heap.size,0),.int .u64 150] 302)).alloc (.cells #[(1,264),(w.heap.size,0),.int .u64 150] 302)) (by rw[World.cell?_alloc_lt _ _ ⟨w.heap.size,0,none⟩ (by simp;omega)];simp);have st:=g'.DC t ⟨w.heap.size+1+1+1,0,none⟩ e d ((((w.alloc (.cells #[.pointer (some t)] 264)).alloc (.cells #[(1,264),(w.heap.size,0),.int .u64 150] 302)).alloc (.cells #[(1,264),(w.heap.size,0),.int .u64 150] 302)).alloc (.cells #[.pointer (some e)] 197))
  (by rw[World.cell?_alloc_at _ _ _ _ (by simp)];rfl)
  (by rw[World.cell?_alloc_lt _ _ t (by simp;omega),World.cell?_alloc_lt _ _ t (by simp;omega),World.cell?_alloc_lt _ _ t (by simp;omega),World.cell?_alloc_lt _ _ t c];exact b)
  (by rw[World.frozen?_alloc_old _ _ t (by simp;omega),World.frozen?_alloc_old _ _ t (by simp;omega),World.frozen?_alloc_old _ _ t (by simp;omega),World.frozen?_alloc_old _ _ t (Nat.ne_of_lt c)];exact i)
 go_enter func125,ntmps125
 go_wp2
 refine wp_loop_rounds 1 ?_;rw[rounds_succ];go_wp2
 go_ret;exact⟨rfl,rfl⟩
end
theorem bk(n:Int)(t:TypeId)(x:Value)(w:World):
 Calls prog 88 #[n,.iface t x] w fun e w'=>
  e=.returned (.iface 197 (.pointer (some (w.heap.size,0))))/\w.alloc (.cells #[.string ⟨#[99,111,100,101]⟩,n,.iface t x] 199)=w':=by
 go_enter func88,ntmps88
 go_wp2
 go_ret;exact⟨rfl,rfl⟩
def gE(n:Int)(a:Bool):List aV->Nat->Option Nat
 |[],_=>none
 |X::l,i=>if ep X n a then gE n a l (i+1)else some i
def xX(r:Option Nat)(w:World)(e:Ending)(w':World):Prop:=
 match r with
 |none=>e=.returned .nilIface/\Below w.heap.size w w'
 |some i=>∃b,e=.returned (.iface 197 (.pointer (some ⟨b,0,none⟩)))/\w.heap.size<=b/\w'.heap[b]?=some (.cells #[.string ⟨#[99,111,100,101]⟩,.int .i64 i,.iface 123 (.int .i64 5)] 199 (0,0))/\Below w.heap.size w w'
theorem oR(l:List aV)(a:Option Addr)(c:Nat)(b:Bool)(E:l.length<=2048)(B:l.length<=c)(w:World)(v:l≠[]->∃g,a=some ⟨g,0,none⟩/\eE w g l):
 Calls prog 115 #[.slice a l.length c,.bool b] w (xX (gE l.length b l 0) w):=by
 have z:=Z v;clear v;obtain⟨N,i⟩:=mn l.length;rw[<-i];have t:=Z i;rw[<-i]at E B;have y:=Z (fun X w=>Aq X N (by omega) b w);clear i;go_enter func115,ntmps115
 go_wp2
 go_loopw [14] (fun s G=>∃k:Nat,s=.int .i64 k/\k<=N/\Below w.heap.size w G/\Hid (gE N b (l.drop k) k=gE N b l 0)) (fun s _=>N-(intOf s).toNat)
 case atStart=>exact⟨0,rfl,Nat.zero_le _,Below.refl _ _,rfl⟩
 case round=>
  obtain⟨k,rfl,L,hb,n⟩:=hrel;have r:=Z hb;have A:=hb.size;by_cases D:k<N
  ·have q:k<l.length:=by rw[<-t];exact D
   obtain⟨g,rfl,x⟩:=z (by intro e;subst e;simp at q);have o:l[k]?=some l[k]:=List.getElem?_eq_getElem q;have m:Hid (l.drop k=l[k]::l.drop (k+1)):=List.drop_eq_getElem_cons q;obtain⟨X,u⟩:=mn (l[k]);rw[<-u]at o m;obtain⟨f0,f1,f2,f3,f4,f5,f6⟩:=eJ l k X o;have d:=x.below hb;have a0:=d.cell _ _ f0;have a1:=d.cell _ _ f1;have a2:=d.cell _ _ f2;have a3:=d.cell _ _ f3;have H:=d.cell _ _ f4;have I:=d.cell _ _ f5;have J:=d.cell _ _ f6;have C:(k:Int)<(N:Int):=by omega
   have K:=d.lt;clear u o f0 f1 f2 f3 f4 f5 f6 hb d x;go_wp2_with fail
   refine(y X _).mono ?_;rintro e w2 ⟨rfl,p⟩;have F:=p.size;have h:Hid (Below w.heap.size w w2):=(r.alloc A _).trans (p.mono (by simp;omega));clear p;cases j:ep X N b
   ·have f:Hid (gE N b l 0=some k):=by
     show _=_;rw[<-n,m,gE,j];rfl
    clear j;simp at F;go_wp2_with (go_at_call 88;refine(bk _ _ _ _).mono ?_;rintro e w' ⟨rfl,rfl⟩)
    go_ret;rw[f];exact⟨_,rfl,h.size,hs,h.alloc h.size _⟩
   ·have f:Hid (gE N b (l.drop (k+1)) (k+1)=gE N b l 0):=by
     show _=_;rw[<-n,m,gE,j];rfl
    clear j;go_wp2
    go_roundw
    case rel=>exact⟨k+1,by go_num,by omega,h,f⟩
    case measure=>simp[intOf];omega
  ·have C:¬(k:Int)<(N:Int):=by omega
   have f:Hid (gE N b l 0=none):=by
    show _=_;rw[<-n,List.drop_eq_nil_of_le (by rw[<-t];omega)];rfl
   clear hb;go_wp2
   go_ret;rw[f];exact⟨rfl,r⟩
structure fj(w:World)(b o:Nat)(pc:Int)(r:Nat->Int):Prop where
 pc:w.cell? (b,o)=some (.int .i64 pc)
 oD:∀k,k<32->w.cell? ⟨b,o+1+k,none⟩=some (.int .u64 (r k))
def hZ(n:Int):Bool:=decide (0<=n)&&decide (n<32)
theorem oS(n:Int)(w:World):Calls prog 120 #[n] w (d' (.bool (hZ n)) w):=by
 by_cases a:0<=n
 ·have E:Hid (hZ n=decide (n<32)):=Z (by unfold hZ;simp[a])
  go_enter func120,ntmps120
  go_wp2
  go_ret;exact d'.mk (by rw[E];rfl)
 ·have b:decide (0<=n)=false:=by simpa using a
  have E:Hid (hZ n=false):=Z (by unfold hZ;simp[a]);go_enter func120,ntmps120
  go_wp2
  go_ret;exact d'.mk (by rw[E];rfl)
def gF(r:Nat->Int)(n:Int):Int:=if 0<=n/\n<32 then r n.toNat else 0
theorem m3(b f:Nat)(pc:Int)(r:Nat->Int)(n:Int)(w:World)(h:fj w b f pc r):Calls prog 72 #[(b,f),n] w (d' (.int .u64 (gF r n)) w):=by
 by_cases c:0<=n/\n<32
 ·have E:Hid (gF r n=r n.toNat):=Z (by unfold gF;rw[if_pos c])
  have a:hZ n=true:=by unfold hZ;simp[c]
  have d:=Z a;obtain⟨g,i⟩:=c;have j:=h.oD n.toNat (by omega);clear a;go_enter func72,ntmps72
  go_wp2_with (go_at_call 120;refine(oS _ _).mono ?_;rw[d];rintro e w' ⟨rfl,rfl⟩)
  go_ret;exact d'.mk (by rw[E];rfl)
 ·have E:Hid (gF r n=0):=Z (by unfold gF;rw[if_neg c])
  have a:hZ n=false:=by unfold hZ;simp;omega
  have d:=Z a;clear a;go_enter func72,ntmps72
  go_wp2_with (go_at_call 120;refine(oS _ _).mono ?_;rw[d];rintro e w' ⟨rfl,rfl⟩)
  go_ret;exact d'.mk (by rw[E];rfl)
def h'(r:Nat->Int)(x:aV):Int:=if x.c=-1 then x.v else gF r x.c
theorem fj.alloc{w:World}{b a:Nat}{pc:Int}{r:Nat->Int}(h:fj w b a pc r)(x:Obj):fj (w.alloc x) b a pc r:=
 ⟨mU h.pc x,fun k c=>mU (h.oD k c) x⟩
theorem vz(b c:Nat)(pc:Int)(r:Nat->Int)(x:aV)(w:World)(h:fj w b c pc r):Calls prog 73 #[(b,c),aI x] w (dt (.int .u64 (h' r x)) w):=by
 have H:=Z (h.alloc (.cells (aC x) 121 (0,0)));unfold aI aC;by_cases a:x.c=-1
 ·have E:Hid (h' r x=x.v):=Z (by unfold h';rw[if_pos a])
  go_enter func73,ntmps73
  go_wp2
  go_ret;exact dt.mk (by rw[E];rfl) ((Ch.refl _ _).alloc _)
 ·have E:Hid (h' r x=gF r x.c):=Z (by unfold h';rw[if_neg a])
  have hb:(x.c==-1)=false:=by simpa using a
  go_enter func73,ntmps73
  go_wp2_with (go_at_call 72;refine(m3 b c pc r _ _ H).mono ?_;rintro e w' ⟨rfl,rfl⟩)
  go_ret;exact dt.mk (by rw[E];rfl) ((Ch.refl _ _).alloc _)
theorem fj.ch{w w':World}{D:Nat->Prop}{b e:Nat}{pc:Int}{r:Nat->Int}(h:fj w b e pc r)(c:Ch D w w')(a:¬D b):fj w' b e pc r:=
 ⟨(c.cell (aE h.pc) a).trans h.pc,fun k d=>(c.cell (aE (h.oD k d)) a).trans (h.oD k d)⟩
theorem fj.drew{w:World}{b a:Nat}{pc:Int}{r:Nat->Int}(h:fj w b a pc r):fj w.drew b a pc r:=⟨h.pc,h.oD⟩
def du(r:Nat->Int)(x:aV):Int:=if x.b=-1 then x.v else sQ 64 (gF r x.b) x.v
theorem ke(b c:Nat)(pc:Int)(r:Nat->Int)(x:aV)(w:World)(h:fj w b c pc r):Calls prog 116 #[(b,c),aI x] w (dt (.int .u64 (du r x)) w):=by
 have H:=Z (h.alloc (.cells (aC x) 121 (0,0)));unfold aI aC;by_cases d:x.b=-1
 ·have E:Hid (du r x=x.v):=Z (by unfold du;rw[if_pos d])
  go_enter func116,ntmps116
  go_wp2
  go_ret;exact dt.mk (by rw[E];rfl) ((Ch.refl _ _).alloc _)
 ·have E:Hid (du r x=sQ 64 (gF r x.b) x.v):=Z (by unfold du;rw[if_neg d])
  have hb:(x.b==-1)=false:=by simpa using d
  clear d;go_enter func116,ntmps116
  go_wp2
  obtain⟨w1,a⟩:=nm (w.alloc (.cells #[x.op,x.a,x.b,x.c,.int .u64 x.v,x.m,x.wh] 121));have e:Hid (fj w1 b c pc r):=Z (by rw[<-a];exact H);have g:=Z (Ch.al (D:=ag) a);have t2:w1.cell? (w.heap.size,2)=some (.int .i64 x.b):=by rw[<-a];simp
  have t4:w1.cell? (w.heap.size,4)=some (.int .u64 x.v):=by rw[<-a];simp
  rw[a];clear a;obtain⟨tb,f⟩:=mn w.heap.size;rw[<-f]at t2 t4⊢;clear f;go_quiet ((first|(go_at_call 72;exact Calls.quiet_of_same (bZ (m3 b c pc r _ _ (show fj _ b c pc r from⟨e.pc,e.oD⟩))))|(go_at_call 117;exact Calls.quiet_of_same (bZ (pH _ _ _ _)))))
  go_wp2
  go_ret;exact dt.mk (by rw[E];rfl) (g.drewN _)
def uy(b:Bool):Int:=if b then 1 else 0
theorem xY(b:Bool)(w:World):Calls prog 119 #[.bool b] w (d' (.int .u64 (uy b)) w):=by
 cases b
 all_goals
  go_enter func119,ntmps119
  go_wp2
  go_ret;exact d'.mk rfl
end Go.Proofs.YtfnilkpkogipfaaGreatDoor
