import Derived.Laws.MakeOwn
import Derived.RegionTactic
import Derived.ChangeAlike
import Derived.Test.YtlihkblppjgebaaGreatDoorZAt
set_option linter.all false
set_option maxRecDepth 100000
set_option maxHeartbeats 8000000
namespace Go.Proofs.YtlihkblppjgebaaGreatDoor
open Go.RowKit Go.Proofs.Tryz
section
section
variable{w:World}{χ:Nat->a4}{L:cw}{Y:Var}{C:KC}{K:KS}
theorem e8(n:Int)(t:TypeId)(x:Value)(w:World):Calls prog 59 #[.int .i64 n,.iface t x] w (fun e w'=>e=.returned (.iface 247 (.pointer (some ⟨w.heap.size,0,none⟩)))/\w.alloc (.cells #[.string ⟨#[107,101,114,110]⟩,.int .i64 n,.iface t x] 249)=w'):=by
 go_enter func59,ntmps59
 go_wp2
 go_ret;exact⟨rfl,rfl⟩
theorem yP(op:Int)(w:World):Calls prog 171 #[.int .i64 op] w (d' (.bool (iD op)) w):=by
 have g:=Z (m0 op);obtain⟨p,f⟩:=nm (eV op);have E:Hid (iD op=p.1):=Z (by unfold iD;rw[f]);rw[f]at g;clear f;obtain⟨a,b,c,d⟩:=p;go_enter func171,ntmps171
 go_wp2_with (go_at_call 218;refine(g.out _).mono ?_;rintro e w' ⟨rfl,rfl⟩)
 go_ret;rw[E.out];exact d'.mk rfl
theorem o5(i:Int)(a:0<=i)(b:i<=100)(p:Value)(w:World):Calls prog 50 #[p,.int .i64 i] w (d' (.int .u64 (gY i)) w):=by
 have E:Hid (gY i=17+3*i):=Z (by unfold gY IntKind.wrap IntKind.bits IntKind.signed;simp;omega);go_enter func50,ntmps50
 go_wp2
 go_ret;rw[E.out];exact d'.mk rfl
theorem cZ(id:Int)(hid:aH id)(h:ae w χ L Y C K):Calls prog 86 #[.pointer (some ⟨L.mb,0,none⟩),.int .u64 id] w (dt (.int .i64 (cx K id)) w):=by
 have c:=h.eh;have a:=Z (kv id hid h);obtain⟨t,b⟩:=nm (fq K.table id);rw[b]at a;have E:Hid (cx K id=t.1.state):=Z (by unfold cx;rw[b]);obtain⟨⟨t0,t1,t2,t3,t4,t5,t6⟩,tb⟩:=t;unfold lV.val at a;dsimp only at a E;clear h b;go_enter func86,ntmps86
 go_wp2_with (refine a.out.mono ?_;rintro e w' ⟨rfl,d⟩;have f:=Z d;clear d)
 go_ret;rw[E.out];exact⟨rfl,f.out.alloc _⟩
theorem e9(id:Int)(hid:aH id)(h:ae w χ L Y C K):Calls prog 87 #[.pointer (some ⟨L.mb,0,none⟩),.int .u64 id] w (de (.tuple #[]) χ L Y C K (cc K id) w):=by
 have c:=h.eh;have H:=Z h;have k:=Z hid;clear h hid;go_enter func87,ntmps87
 go_wp2_with fail
 refine(p9 id 1 k.out H.out).mono ?_;rintro e w1 ⟨⟨v,rfl,_⟩,r,o,b⟩;have c:=b.at_.nr;have f:=Z b;clear b;go_wp2_with fail
 refine(yH id f.out.at_).mono ?_;rintro e w2 ⟨⟨v,rfl,_⟩,s,p,d⟩;have c:=d.at_.cP;have g:=Z (f.out.trans (Gr.of_eq rfl) d);clear d;go_wp2_with fail
 refine(EO 0 1 ⟨by decide,by decide⟩ ⟨by decide,by decide⟩ g.out.at_).mono ?_;rintro e q ⟨a,n,l,i⟩;have j:=Z (g.out.trans (Gr.of_eq rfl) i);clear i;have m:∃v,e=.returned v:=by
  split at a
  ·exact⟨_,a⟩
  ·obtain⟨v,h,_⟩:=a;exact⟨_,h⟩
 obtain⟨v,rfl⟩:=m;clear a;go_wp2_with fail
 go_end0
 exact⟨rfl,n,l,j.out⟩
end
end
theorem gP{α:Type}{enc:α->List Value}{k:Nat}(a:∀x,(enc x).length=k)(m:0<k)(x:α)(z:Array Value)(g:z.toList=enc x)(c:Nat):(madeCells z (c*k)).toList=(List.replicate c x).flatMap enc:=by
 have d:z.size=k:=by rw[<-Array.length_toList,g,a]
 apply List.ext_getElem?;intro i;by_cases f:i<c*k
 ·have e:i=(i/k)*k+i%k:=by rw[Nat.mul_comm];exact(Nat.div_add_mod i k).symm
  have l:i/k<c:=Nat.div_lt_of_lt_mul (by rw[Nat.mul_comm];exact f);have b:i%k<k:=Nat.mod_lt _ m;have h:((List.replicate c x).flatMap enc)[i]?=(enc x)[i%k]?:=by
   conv=>lhs;rw[e]
   exact bP a (by simp[l]) b
  rw[h,<-g];have j:(madeCells z (c*k))[i]?=z[i%k]?:=by
   unfold madeCells;rw[Array.getElem?_map,Array.getElem?_range,if_pos f];simp only[Option.map_some,d];rw[getElem!_pos z (i%k) (by rw[d];exact b),Array.getElem?_eq_getElem (by rw[d];exact b)]
  simpa using j
 ·rw[List.getElem?_eq_none (by simp[size_madeCells];omega),List.getElem?_eq_none (by rw[a7 a,List.length_replicate];omega)]
theorem nW(z:Value)(c:Nat):(madeCells #[z] c).toList=List.replicate c z:=by
 have:=gP (enc:=fun v:Value=>[v]) (k:=1) (fun _=>rfl) (by omega) z #[z] rfl c;rw[Nat.mul_one]at this;rw[this];simp[List.flatMap_replicate]
theorem zu:(prog.info? 210).map (fun i=>(i.zero,i.size,i.bytes))=some (some (.agg #[.int .u64 0,.bool false,.bool false,.int .u64 0,.int .i64 0,.int .u64 0,.int .u64 0,.int .u64 0,.bool false,.bool false]),10,64):=by kernel_rfl
theorem zv:(prog.info? 237).map (fun i=>(i.zero,i.size,i.bytes))=some (some (.agg #[.int .u64 0,.int .u64 0,.int .i64 0,.int .u64 0]),4,32):=by kernel_rfl
theorem Bs:(prog.info? 217).map (fun i=>(i.zero,i.size,i.bytes))=some (some (.agg #[.pointer none,.pointer none]),2,16):=by kernel_rfl
theorem C8:(prog.info? 5).map (fun i=>(i.zero,i.size,i.bytes))=some (some (.int .u8 0),1,1):=by kernel_rfl
def aD.zero:aD:=⟨0,false,false,lV.zero⟩
def bC.zero:bC:=⟨0,0,0,0⟩
theorem qx(w:World):Calls prog 65 #[.int .i64 64] w (fun e w'=>e=.returned (.tuple #[.pointer (some ⟨w.heap.size+1,0,none⟩),.nilIface])/\aU w' (w.heap.size+1) w.heap.size (List.replicate 64 aD.zero)/\Ch ag w w'):=by
 obtain⟨g,b,c,d,f⟩:=info_parts zu;have j:=run_make (P:=prog) w 206 210 g _ underlying206 b c .i64 .i64 64 64 (by omega) (by omega) (by rw[f];decide) (by omega);obtain⟨cs,a⟩:=nm (madeCells (Value.agg #[.int .u64 0,.bool false,.bool false,.int .u64 0,.int .i64 0,.int .u64 0,.int .u64 0,.int .u64 0,.bool false,.bool false]).cells ((64:Int).toNat*g.size));rw[a]at j;rw[d]at a;have h:=Z a;clear a b c d f;go_enter func65,ntmps65
 go_wp2
 go_ret2;have i:=gP (enc:=aD.cells) aD.len (by omega) aD.zero #[.int .u64 0,.bool false,.bool false,.int .u64 0,.int .i64 0,.int .u64 0,.int .u64 0,.int .u64 0,.bool false,.bool false] rfl 64;have k:Row (w.alloc (.cells cs 210)) w.heap.size 210 ((List.replicate 64 aD.zero).flatMap aD.cells):=by
  have:=Row.new w cs 210;rw[<-h.out]at this⊢;rw[<-i];exact this
 refine⟨by simp,⟨?_,k.alloc _,by simp⟩,((Ch.refl _ _).alloc _).alloc _⟩;have:=Row.new (w.alloc (.cells cs 210)) #[.slice (some ⟨w.heap.size,0,none⟩) 64 64] 208;rw[World.size_alloc]at this;exact this
theorem nX(w:World):Calls prog 66 #[.int .i64 64] w (fun e w'=>e=.returned (.tuple #[.pointer (some ⟨w.heap.size+1,0,none⟩),.nilIface])/\bL w' (w.heap.size+1) w.heap.size (List.replicate 64 bC.zero)/\Ch ag w w'):=by
 obtain⟨g,b,c,d,f⟩:=info_parts zv;have j:=run_make (P:=prog) w 233 237 g _ underlying233 b c .i64 .i64 64 64 (by omega) (by omega) (by rw[f];decide) (by omega);obtain⟨cs,a⟩:=nm (madeCells (Value.agg #[.int .u64 0,.int .u64 0,.int .i64 0,.int .u64 0]).cells ((64:Int).toNat*g.size));rw[a]at j;rw[d]at a;have h:=Z a;clear a b c d f;go_enter func66,ntmps66
 go_wp2
 go_ret2;have i:=gP (enc:=bC.cells) bC.len (by omega) bC.zero #[.int .u64 0,.int .u64 0,.int .i64 0,.int .u64 0] rfl 64;have k:Row (w.alloc (.cells cs 237)) w.heap.size 237 ((List.replicate 64 bC.zero).flatMap bC.cells):=by
  have:=Row.new w cs 237;rw[<-h.out]at this⊢;rw[<-i];exact this
 refine⟨by simp,⟨?_,k.alloc _,by simp⟩,((Ch.refl _ _).alloc _).alloc _⟩;have:=Row.new (w.alloc (.cells cs 237)) #[.slice (some ⟨w.heap.size,0,none⟩) 64 64] 235;rw[World.size_alloc]at this;exact this
theorem sg(w:World):Calls prog 63 #[.int .i64 64] w (fun e w'=>e=.returned (.tuple #[.pointer (some ⟨w.heap.size+1,0,none⟩),.nilIface])/\eH w' (w.heap.size+1) w.heap.size []/\Ch ag w w'):=by
 obtain⟨g,b,c,d,f⟩:=info_parts jt;have i:=run_make (P:=prog) w 29 39 g _ underlying29 b c .i64 .i64 64 64 (by omega) (by omega) (by rw[f];decide) (by omega);obtain⟨cs,a⟩:=nm (madeCells (Value.int .u64 0).cells ((64:Int).toNat*g.size));rw[a]at i;rw[d]at a;have h:=Z a;clear a b c d f;go_enter func63,ntmps63
 go_wp2
 go_ret2;have j:Row (w.alloc (.cells cs 39)) w.heap.size 39 ((List.replicate 64 (0:Int)).map (Value.int .u64)):=by
  have:=Row.new w cs 39;rw[<-h.out]at this⊢;rw[List.map_replicate,<-nW (.int .u64 0) 64];exact this
 refine⟨by simp,⟨List.replicate 64 0,0,⟨?_,j.alloc _,by simp,by omega,by simp⟩,by simp⟩,((Ch.refl _ _).alloc _).alloc _⟩;have:=Row.new (w.alloc (.cells cs 39)) #[.slice (some ⟨w.heap.size,0,none⟩) 64 64,.int .i64 0,.int .i64 0] 229;rw[World.size_alloc]at this;exact this
theorem qy(m fr tt:Nat)(h:fr<=tt)(c:tt<=1000000)(w:World):Calls prog 111 #[.pointer (some ⟨m,0,none⟩),.int .i64 fr,.int .i64 tt] w (fun e w'=>e=.returned (.tuple #[.pointer (some ⟨w.heap.size,0,none⟩),.nilIface])/\aR w' w.heap.size m (.slice none 0 0) ⟨fr,tt,[]⟩/\Ch ag w w'):=by
 have a:(fr:Int)<=(tt:Int):=by omega
 have b:¬(tt:Int)<(fr:Int):=by omega
 clear h;go_enter func111,ntmps111
 go_wp2
 go_ret2;exact⟨rfl,⟨Row.new w #[.pointer (some ⟨m,0,none⟩),.int .i64 fr,.int .i64 tt,.slice none 0 0] 314,rfl,Or.inl ⟨rfl,rfl⟩⟩,(Ch.refl _ _).alloc _⟩
theorem oJ(w:World):Calls prog 64 #[.int .i64 8] w (fun e w'=>∃qb lb mb,e=.returned (.tuple #[.pointer (some ⟨qb,0,none⟩),.nilIface])/\ig w' qb lb mb (List.replicate 8 [])/\w.heap.size<=qb/\w.heap.size<=lb/\w.heap.size<=mb/\Ch ag w w'):=by
 obtain⟨j,c,f,g,i⟩:=info_parts Bs;have o:=run_make (P:=prog) w 211 217 j _ underlying211 c f .i64 .i64 8 8 (by omega) (by omega) (by rw[i];decide) (by omega);obtain⟨cs,a⟩:=nm (madeCells (Value.agg #[.pointer none,.pointer none]).cells ((8:Int).toNat*j.size));rw[a]at o;rw[g]at a;have m:=Z a;have q:= @run_makeMap prog;clear a c f g i;go_enter func64,ntmps64
 go_wp2
 go_ret2;have n:=gP (enc:=fun _:Unit=>[Value.pointer none,Value.pointer none]) (k:=2) (fun _=>rfl) (by omega) () #[.pointer none,.pointer none] rfl 8;have p:Row (w.alloc (.cells cs 217)) w.heap.size 217 ((List.replicate 8 ([]:List Sl)).flatMap bO):=by
  have:=Row.new w cs 217;rw[<-m.out]at this⊢;rw[show(List.replicate 8 ([]:List Sl)).flatMap bO=(List.replicate 8 ()).flatMap (fun _:Unit=>[Value.pointer none,Value.pointer none])from rfl,<-n];exact this
 have b:∀(k:Nat) (l:List Sl),(List.replicate 8 ([]:List Sl))[k]?=some l->l=[]:=fun k l h=>by
  have:=List.mem_of_getElem? h;simpa using this
 refine⟨w.heap.size+2,w.heap.size,w.heap.size+1,by simp,⟨?_,(p.alloc _).alloc _,by simp,?_,⟨[],⟨#[],0,?_,rfl⟩,List.nodup_nil,fun id=>rfl⟩,by simp,by simp,?_⟩,by omega,by omega,by omega,(((Ch.refl _ _).alloc _).alloc _).alloc _⟩
 ·have:=Row.new ((w.alloc (.cells cs 217)).alloc (.map #[] 0)) #[.slice (some ⟨w.heap.size,0,none⟩) 8 8,.map (some (w.heap.size+1))] 214
  rw[World.size_alloc,World.size_alloc]at this;exact this
 ·intro k l h;rw[b k l h];trivial
 ·rw[Below.heap_alloc _ _ _ (by simp)]
  have:=heap_alloc_new (w.alloc (.cells cs 217)) (.map #[] 0);rw[World.size_alloc]at this;exact this
 ·intro k l h s d;rw[b k l h]at d;cases d
def aF.new(n:Nat):aF:=⟨List.replicate n 0,List.replicate n 0⟩
theorem aO.new{w:World}{m c d n:Nat}(f:n<=65536)(a:Row w m 310 [.slice (some ⟨c,0,none⟩) n n,.slice (some ⟨d,0,none⟩) n n,.int .i64 0,.int .i64 0])
 (b:Row w c 39 (List.replicate n (.int .u64 0))) (e:Row w d 5 (List.replicate n (.int .u8 0))):aO w m c d (aF.new n) where
 hd:=⟨_,_,by unfold aF.new;simpa using a⟩
 cells:=by unfold aF.new;simpa using b
 width:=by unfold aF.new;simpa using e
 len:=by simp[aF.new]
 oP:=by simpa[aF.new]using f
 ok:=fun i x h=>by
  have:=List.mem_of_getElem? h;simp[aF.new]at this;omega
 u64:=fun i x h=>by
  have:=List.mem_of_getElem? h;simp[aF.new]at this;rw[this.2];exact⟨by decide,by decide⟩
def C9(n:Nat)(w:World)(e:Ending)(w':World):Prop:=∃m c d,e=.returned (.tuple #[.pointer (some ⟨m,0,none⟩),.nilIface])/\aO w' m c d (aF.new n)/\w.heap.size<=m/\w.heap.size<=c/\w.heap.size<=d/\Ch ag w w'
theorem tN(n:Nat)(x:1<=n)(f:n<=65536)(w:World):Calls prog 108 #[.int .i64 n] w (C9 n w):=by
 obtain⟨u,j,r,s,t⟩:=info_parts jt;obtain⟨v,k,o,p,q⟩:=info_parts C8;have l:=fun w=>run_make (P:=prog) w 29 39 u _ underlying29 j r .i64 .i64 (n:Int) (n:Int) (by omega) (by omega) (by rw[t];omega) (by omega)
 have m:=fun w=>run_make (P:=prog) w 308 5 v _ underlying308 k o .i64 .i64 (n:Int) (n:Int) (by omega) (by omega) (by rw[q];omega) (by omega)
 simp only[Int.toNat_natCast]at l m;obtain⟨cs,b⟩:=nm (madeCells (Value.int .u64 0).cells (n*u.size));obtain⟨a,c⟩:=nm (madeCells (Value.int .u8 0).cells (n*v.size));have h:cs.toList=List.replicate n (.int .u64 0):=by
  rw[<-b,s,Nat.mul_one];exact nW (.int .u64 0) n
 have i:a.toList=List.replicate n (.int .u8 0):=by
  rw[<-c,p,Nat.mul_one];exact nW (.int .u8 0) n
 simp only[b]at l;simp only[c]at m;have d:=Z h;have e:=Z i;have y:(1:Int)<=n:=by omega
 have z:(n:Int)<=65536:=by omega
 have g:=Z f;clear b c j r s t k o p q h i x f;go_enter func108,ntmps108
 go_wp2_with fail
 go_region
 all_goals
  go_wp2
  go_ret2
 ·refine⟨w.heap.size+1+1,w.heap.size,w.heap.size+1,rfl,aO.new g.out ?_ ?_ ?_,by omega,by omega,by omega,((((Ch.refl _ _).alloc _).alloc _).alloc _).drew⟩
  ·have:=Row.new ((w.alloc (.cells cs 39)).alloc (.cells a 5)) #[.slice (some ⟨w.heap.size,0,none⟩) n n,.slice (some ⟨w.heap.size+1,0,none⟩) n n,.int .i64 0,.int .i64 0] 310
   rw[World.size_alloc,World.size_alloc]at this;exact this
  ·have:=Row.new w cs 39
   rw[d.out]at this;exact(this.alloc _).alloc _
  ·have:=Row.new (w.alloc (.cells cs 39)) a 5
   rw[e.out,World.size_alloc]at this;exact this.alloc _
 ·refine⟨w.heap.size+1+1,w.heap.size+1,w.heap.size,rfl,aO.new g.out ?_ ?_ ?_,by omega,by omega,by omega,((((Ch.refl _ _).alloc _).alloc _).alloc _).drew⟩
  ·have:=Row.new ((w.alloc (.cells a 5)).alloc (.cells cs 39)) #[.slice (some ⟨w.heap.size+1,0,none⟩) n n,.slice (some ⟨w.heap.size,0,none⟩) n n,.int .i64 0,.int .i64 0] 310
   rw[World.size_alloc,World.size_alloc]at this;exact this
  ·have:=Row.new (w.alloc (.cells a 5)) cs 39
   rw[d.out,World.size_alloc]at this;exact this.alloc _
  ·have:=Row.new w a 5
   rw[e.out]at this;exact(this.alloc _).alloc _
end Go.Proofs.YtlihkblppjgebaaGreatDoor
