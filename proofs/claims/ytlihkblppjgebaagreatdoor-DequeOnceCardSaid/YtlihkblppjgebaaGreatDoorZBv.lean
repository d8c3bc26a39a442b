import Derived.Test.YtlihkblppjgebaaGreatDoorZBu
set_option linter.all false
set_option maxRecDepth 100000
set_option maxHeartbeats 8000000
namespace Go.Proofs.YtlihkblppjgebaaGreatDoor
open Go.RowKit Go.Proofs.Tryz
section
section
variable{w w':World}{χ:Nat->a4}{L:cw}{Y:Var}{C:KC}{K:KS}
theorem oW{N:Nat}(a:Inv N 0 K)(S:N<=300000)(wk draw:Int)(v:aH draw)(u:∀i,χ i≠ .out)(h:ae w χ L Y C K):
 Calls prog 13 #[.pointer (some ⟨L.mb,0,none⟩),.agg #[.int .i64 2,.int .i64 wk,.int .u64 draw]] w (B6 (gM C K 2 wk draw) χ L C w):=by
 obtain⟨k,j⟩:=nm (w.alloc (.cells #[.int .i64 2,.int .i64 wk,.int .u64 draw] 41));have q:=Z (Ch.al (D:=ag) j);have b:=Z (h.hg q.out);have l:Hid (Row k w.heap.size 41 [.int .i64 2,.int .i64 wk,.int .u64 draw]/\χ w.heap.size=.no):=Z ⟨by rw[<-j];exact Row.new w _ _,h.fresh (Nat.le_refl _)⟩;obtain⟨t0,t1,t2⟩:=l.out.1.c3;obtain⟨en,m⟩:=nm K.entries;have n:=b.out.at_.setAt en;have o:=n.at_.BZ (-1);have z:=o.at_.A5 draw;have p:=(n.trans (Gr.of_eq rfl) o).trans (Gr.of_eq rfl) z;have A:=p.at_.CH (wrap64 (en+1));have B:=dB.af (p.trans (Gr.of_eq rfl) A) (Ch.refl _ _).drew;obtain⟨K1,d⟩:=nm (({K with at_:=en,w:=-1,draw:=draw,entries:=wrap64 (en+1)}:KS));have c:Inv N 0 K1:=by rw[<-d];exact⟨a.core,a.nd,a.q,a.bW,a.bB,a.mem,a.obj,v,a.w0,a.w1,a.out⟩
 have f:Hid (dB χ L Y C K K1 k χ Y (((((k.setCell ⟨L.mb,1017,none⟩ (.int .i64 en)).setCell ⟨L.mb,1018,none⟩ (.int .i64 (-1))).setCell ⟨L.mb,1019,none⟩ (.int .u64 draw)).setCell ⟨L.mb,1016,none⟩ (.int .i64 (wrap64 (en+1)))).drew)):=Z (by rw[<-d];exact B);have r:=b.out.at_.DM;rw[m]at r;have H:=b.out.at_.Fg;have I:=b.out.at_.Eu;have J:=b.out.at_.BV;have f1:=b.out.at_.fz 1016;have f2:=b.out.at_.fz 1017;have f3:=b.out.at_.fz 1018;have f4:=b.out.at_.fz 1019;have M:L.mb≠w.heap.size:=Nat.ne_of_lt h.EN;have T:=M.symm;have y:K1.wk.length=K.wk.length:=by rw[<-d]
 have E:Hid (gM C K 2 wk draw=((gZ K1).out,{gZ K1 with out:=[]})):=Z (by unfold gM;dsimp only;rw[if_pos rfl,<-d,<-m]);have F:=Z u;obtain⟨P,t⟩:=nm K.wk.length;rw[t]at y;clear n o z p A B h u d m;have G:=Z (fun w (h:ae w χ L Y C K1)=>nk (c.bW.ok (by omega)) c.bW.tick.2.1 (by have:=c.bW.tick.2.2;omega) (by have:=c.out;omega) h);clear a c v t y;go_enter func13,ntmps13
 go_wp2_with fail
 try rw[j]
 clear j;go_region
 go_wp2_with fail
 obtain⟨U,x⟩:=nm ((((((k.setCell ⟨L.mb,1017,none⟩ (.int .i64 en)).setCell ⟨L.mb,1018,none⟩ (.int .i64 (-1))).setCell ⟨L.mb,1019,none⟩ (.int .u64 draw)).setCell ⟨L.mb,1016,none⟩ (.int .i64 (wrap64 (en+1)))).drew));rw[x]at f⊢;clear x r H I J f1 f2 f3 f4 t0 t1 t2;have O:=Z (f.out.nx.row l.out.1 l.out.2);with_reducible refine(G.out _ f.out.at_).mono ?_
 rintro e V ⟨rfl,W,Q,s⟩;have g:=Z s;clear s;have co:=g.out.at_.rr;have R:=g.out.at_.fz 1020;go_wp2_with fail
 go_ret;rw[E.out];exact ae.sf g.out.at_ (((Nx.af q.out).trans f.out.nx).trans g.out.nx) F.out
theorem pj{mb N:Nat}(j:Inv N 0 K)(k:N<=300000)(wk draw:Int)(l:aH draw)(h:MS w χ mb C K):
 Calls prog 13 #[.pointer (some ⟨mb,0,none⟩),.agg #[.int .i64 2,.int .i64 wk,.int .u64 draw]] w (Fo (gM C K 2 wk draw) χ mb C w):=by
 obtain⟨L,Y,rfl,a,b⟩:=h;refine(oW j k wk draw l b a).mono ?_;rintro e w' ⟨v,aW,Y',rfl,c,d,f,g,i⟩;exact⟨v,aW,rfl,c,d,⟨L,Y',rfl,f,i⟩,g⟩
end
end
section
section
variable{base:Nat}{C:KC}{K:KS}{a:AS}{nb:Nat}{l:List aD}
theorem nU(h:HF nb l)(id:Int):(fq l id).1.state≠3:=by
 unfold fq;cases b:dS l id with
 |none=>intro e;cases e
 |some p=>
  dsimp only;cases f:l[p]? with
  |none=>intro e;cases e
  |some r=>
   dsimp only;have g:r.taken=true:=by
    unfold dS at b;cases d:l[(id%64).toNat]? with
    |none=>rw[d]at b;cases b
    |some r'=>
     rw[d]at b;dsimp only at b;split at b
     ·rename_i c
      obtain rfl:=Option.some.inj b;obtain rfl:r'=r:=Option.some.inj (d.symm.trans f);simp at c;exact c.1
     ·cases b
   rcases Nat.lt_or_ge p nb with q|q
   ·rw[((h.row p r f).1 q).2.2];decide
   ·rw[((h.row p r f).2 q).1]at g;cases g
theorem mq(K:KS)(h:HF nb K.table)(id:Int):(cv K id).ds=K.ds:=by
 rw[i'];have e:(iz {K with q:=(dy K.q id).2} id 110).ds=K.ds:=by
  unfold iz
  split<;>rfl
 have b:cx (iz {K with q:=(dy K.q id).2} id 110) id≠3:=by
  have t:(iz {K with q:=(dy K.q id).2} id 110).table=K.table:=congrArg DS.tab e;unfold cx;rw[t];exact nU h id
 rw[if_neg b];exact e
theorem lu:∀(l:List Int) (K:KS),HF nb K.table->(l.foldl cv K).ds=K.ds
 |[],K,_=>rfl
 |x::l,K,h=>by
  have e:=mq K h x;have t:(cv K x).table=K.table:=congrArg DS.tab e;rw[List.foldl_cons,lu l _ (by rw[t];exact h),e]
theorem mE(h:cR base K.ds a)(wk d:Int):(gM C K 2 wk d).2.ds=K.ds:=by
 unfold gM;dsimp only;rw[if_pos rfl];show(gZ _).ds=_
 unfold gZ;dsimp only;refine(lu (nb:=a.nb) _ _ ?_).trans rfl;exact h.tab
theorem lB{N:Nat}(h:Inv N 0 K)(wk d:Int)(e:aH d):Inv (N+1) 0 (gM C K 2 wk d).2:=by
 unfold gM;dsimp only;rw[if_pos rfl];have c:Inv N 0 ({K with at_:=K.entries,w:=-1,draw:=d,entries:=wrap64 (K.entries+1)}:KS):=⟨h.core,h.nd,h.q,h.bW,h.bB,h.mem,h.obj,e,h.w0,h.w1,h.out⟩;have b:=(oy c).more (Nat.le_succ _) (Nat.le_refl _);exact⟨b.core,b.nd,b.q,b.bW,b.bB,b.mem,b.obj,b.draw,b.w0,b.w1,Nat.le_refl _⟩
end
end
theorem pt:(prog.info? 48).map (fun i=>(i.zero,i.size,i.bytes))=some (some (.agg #[.int .u64 0,.int .i64 0,.int .u64 0,.int .u64 0,.int .u64 0,.bool false,.bool false]),7,48):=by kernel_rfl
def jY(l:List aD):List lV:=(l.filter aD.taken).map aD.t
theorem jv{l:List aD}{k:Nat}{r:aD}(h:l[k]?=some r):jY (l.take (k+1))=jY (l.take k)++(if r.taken then [r.t]else []):=by
 rw[List.take_succ,h];unfold jY;rw[List.filter_append,List.map_append];cases a:r.taken<;>simp[a]
def oY(l:List lV)(w:World)(e:Ending)(w':World):Prop:=∃v,e=.returned v/\w'.ownsRow w.heap.size 48 7 v l.length (l.flatMap lV.cells)/\Ch ag w w'
theorem mF(b g:Nat)(l:List aD)(w:World)(h:aU w b g l):Calls prog 44 #[.pointer (some ⟨b,0,none⟩)] w (oY (jY l) w):=by
 obtain⟨J,p,F,G,I⟩:=info_parts pt;have y:=Z p;have H:=Z h;have V:=h.head.c1;clear p h;go_enter func44,ntmps44
 go_wp2_with fail
 go_loopw [3,10] (fun K j wr=>∃k n:Nat,k<=64/\n<=k/\j=.int .i64 k/\n=(jY (l.take k)).length/\Ch ag w wr/\wr.ownsRow w.heap.size 48 7 K n ((jY (l.take k)).flatMap lV.cells)) (fun _ j _=>64-(intOf j).toNat)
 case atStart=>exact⟨0,0,by omega,by omega,rfl,rfl,Ch.refl _ _,⟨by simp[jY],Or.inl ⟨rfl,rfl⟩⟩⟩
 case round=>
  obtain⟨k,n,a0,a3,rfl,q,d,e⟩:=hrel;have a:=Z (And.intro d (And.intro e q));obtain⟨U,X,rfl⟩:=aA e;have W:=((H.out.ch d (fun h=>h) (fun h=>h)).head).cell (i:=0) rfl;clear d e q;by_cases C:k<64
  ·obtain⟨r,f⟩:∃r,l[k]?=some r:=⟨_,List.getElem?_eq_getElem (by rw[H.out.len];exact C)⟩
   have c:=Z f;obtain⟨times,taken,ab,⟨tid,state,home,value,u,loose,v⟩⟩:=r;obtain⟨y0,L,M,N,O,P,Q,R,S,T,fr,a2⟩:=(H.out.ch a.out.1 (fun h=>h) (fun h=>h)).cells f;dsimp only at L N O P Q R S T;have a1:(k:Int)<64:=(by omega);clear fr f y0 M;cases taken with
   |false=>
    go_wp2_with fail
    go_roundw
    case rel=>exact⟨k+1,n,by omega,by omega,by go_num,by rw[jv c.out];simpa using a.out.2.2,a.out.1,by rw[jv c.out];simpa using a.out.2.1⟩
    case measure=>simp[intOf];omega
   |true=>
    have E:=a.out.1.size;go_wp2_with (at_builtin;refine wpList_append_lies _ rfl _ _ _ rfl w.heap.size 48 J _ 7 48 underlying43 y.out F G I rfl (by omega) _ n ((jY (l.take k)).flatMap lV.cells) rfl (a.out.2.1.alloc _) ⟨wr.heap.size,0,none⟩ 1 1 [.int .u64 tid,.int .i64 state,.int .u64 home,.int .u64 value,.int .u64 u,.bool loose,.bool v] rfl rfl (World.news_of_block (cs:=#[.int .u64 tid,.int .i64 state,.int .u64 home,.int .u64 value,.int .u64 u,.bool loose,.bool v]) (t:=48) (fr:=(0,0)) (heap_alloc_new wr _)) (by simp[Value.oneCell']) (by omega) (by unfold maxLen;omega) (by omega) (by simp;omega) (wr.heap.size+1) (by simp) ?_)
    intro Y cap ad s o B D;have m:=ax o;have z:=Z s;have x:=Z (iP a.out.1 a.out.2.1 (Nat.le_refl _) m);clear o m s B D E;go_wp2_with fail
    go_roundw
    case rel=>exact⟨k+1,n+1,by omega,by omega,by go_num,by rw[jv c.out];simpa using a.out.2.2,x.out,by rw[jv c.out,List.flatMap_append];simpa[lV.cells]using z.out⟩
    case measure=>simp[intOf];omega
  ·obtain rfl:k=64:=by omega
   go_wp2_with fail
   go_ret;refine⟨_,rfl,?_,a.out.1⟩;have A:=a.out.2.1;rw[a.out.2.2,List.take_of_length_le (by rw[H.out.len];omega)]at A
   rwa [a.out.2.2,List.take_of_length_le (by rw[H.out.len];omega)]
theorem oZ{w:World}{χ:Nat->a4}{L:cw}{Y:Var}{C:KC}{K:KS}(h:ae w χ L Y C K):Calls prog 15 #[.pointer (some ⟨L.mb,0,none⟩)] w (oY (jY K.table) w):=by
 have c:=h.eh;have f:=Z (mF L.tb L.tg K.table w (h.tab (by simp)).is);clear h;go_enter func15,ntmps15
 go_wp2_with (go_at_call 44;refine f.out.mono ?_;rintro e w' ⟨v,rfl,d,b⟩;have a:=Z (And.intro d b);clear d b)
 go_ret;exact⟨v,rfl,a.out.1,a.out.2⟩
section
section
variable{n mb N nb:Nat}{s:AS}{w W w':World}{F:kG}{l:List aD}
theorem pB(h:LW F w mb n N s W)(wk d:Int)(j:aH d)(o:N<=300000):
 Calls prog 13 #[.pointer (some ⟨mb,0,none⟩),.agg #[.int .i64 2,.int .i64 wk,.int .u64 d]] W (Oe F w mb n (N+1) s):=by
 obtain⟨χ,K,M,m,a,g,c⟩:=h.d;refine(pj a.iv (by omega) wk d j a.ms).mono ?_;rintro e w' ⟨v,aW,rfl,-,-,k,b⟩;have i:=a.ar;rw[<-mE (C:=NY) a.ar wk d]at i;exact⟨v,rfl,⟨aW,_,M+1,by omega,⟨k,lB a.iv wk d j,i⟩,mO g b h.c.size,fun x f=>⟨(b.same _ (c x f).2.lt).trans (c x f).1,(c x f).2.ch b.ch (fun q=>q (c x f).1)⟩⟩,jl g b h.c⟩
theorem o0(h:HF nb l):(jY l).length=nb/\∀p r,(jY l)[p]?=some r->r.id=((64+p:Nat):Int)/\r.state=1:=by
 have j:=h.len;have hle:=h.le;have e:jY l=(l.take nb).map aD.t:=by
  unfold jY;have d:l.filter aD.taken=l.take nb:=by
   have f:l.filter aD.taken=(l.take nb++l.drop nb).filter aD.taken:=(by rw[List.take_append_drop]);rw[f,List.filter_append];have g:(l.take nb).filter aD.taken=l.take nb:=List.filter_eq_self.2 (fun r a=>by
    obtain⟨p,b,q⟩:=List.mem_iff_getElem.1 a;rw[List.length_take]at b;rw[List.getElem_take]at q;exact((h.row p r (by rw[List.getElem?_eq_getElem (by omega),q])).1 (by omega)).1)
   have i:(l.drop nb).filter aD.taken=[]:=List.filter_eq_nil_iff.2 (fun r a=>by
    obtain⟨p,b,q⟩:=List.mem_iff_getElem.1 a;rw[List.length_drop]at b;rw[List.getElem_drop]at q;rw[((h.row (nb+p) r (by rw[List.getElem?_eq_getElem (by omega),q])).2 (by omega)).1]
    decide)
   rw[g,i,List.append_nil]
  rw[d]
 rw[e];refine⟨by rw[List.length_map,List.length_take];omega,fun p r a=> ?_⟩;rw[List.getElem?_map,List.getElem?_take]at a;split at a
 ·rename_i b
  cases c:l[p]? with
  |none=>rw[c]at a;cases a
  |some x=>
   rw[c]at a;obtain rfl:=Option.some.inj a;exact⟨((h.row p x c).1 b).2.1,((h.row p x c).1 b).2.2⟩
 ·cases a
def qw(F:kG)(w:World)(mb n N:Nat)(s:AS)(W:World)(e:Ending)(w':World):Prop:=
 ∃(v:Value) (T:List lV),e=.returned v/\w'.ownsRow W.heap.size 48 7 v s.nb (T.flatMap lV.cells)/\T.length=s.nb/\(∀p r,T[p]?=some r->r.id=((64+p:Nat):Int)/\r.state=1)/\LW F w mb n N s w'/\Ch ag W w'
theorem p'(h:LW F w mb n N s W):Calls prog 15 #[.pointer (some ⟨mb,0,none⟩)] W (qw F w mb n N s W):=by
 obtain⟨χ,K,M,f,a,g,i⟩:=h.d;obtain⟨L,Y,rfl,d,j⟩:=a.ms;obtain⟨t1,t2⟩:=o0 (show HF s.nb K.table from a.ar.tab);refine(oZ d).mono ?_;rintro e w' ⟨v,rfl,c,b⟩;rw[t1]at c;exact⟨v,_,rfl,c,t1,t2,h.af b,b⟩
end
end
section
theorem iV{P:Program}{ops:Array Oper}{rest:List Oper}{c:Oper}{a:Act}{w:World}{Q:Exit->Act->World->Prop}
 (j:c.guard=none) (s x:Operand) (t:TypeId) (Gf:c.op=Op.call {callee:=Callee.builtin Builtin.append,args:=#[s,x],argTypes:=#[t,t]})
 (e:TypeId) (i:TypeInfo) (d:P.underlying t=some (.slice e)) (f:P.info? e=some i) (b:Option Addr) (n cap:Nat) (o:a.eval s=.slice b n cap) (k:n<=cap) (p:a.eval x=.slice none 0 0)
 (g:wpList P ops Q rest (a.put c.dst (.slice b n cap)) w):wpList P ops Q (c::rest) a w:=by
 refine wpList_plain j fun K h=> ?_
 have m:(Builtin.append_ #[t,t] c.type #[.slice b n cap,.slice none 0 0]).run P w=.ok (.slice b n cap) w:=by
  simp[Builtin.append_,run_underlying d,sizeOf,typeInfo,f,Builtin.lenOf,Builtin.firstCells,k,storeCells];cases b<;>rfl
 unfold Oper.wp;simp[execOp,Gf,resolve,invoke,builtin,o,p,m,Result.andThen];exact h _ _ g
theorem lC{cs:List Value}:∀(b:List Value) (a:Nat) (cs:List Value),a+b.length<=cs.length->(yf cs a b).length=cs.length/\∀k,(yf cs a b)[k]?=if a<=k/\k<a+b.length then b[k-a]? else cs[k]?:=fun b a cs h=>by
 rw[uG b cs a h];refine⟨by simp;omega,fun k=> ?_⟩;by_cases c:k<a
 ·rw[if_neg (by omega),List.getElem?_append_left (by rw[List.length_append,List.length_take];omega),List.getElem?_append_left (by rw[List.length_take];omega),List.getElem?_take,if_pos c]
 ·by_cases d:k<a+b.length
  ·rw[if_pos ⟨by omega,d⟩,List.getElem?_append_left (by rw[List.length_append,List.length_take];omega),List.getElem?_append_right (by rw[List.length_take];omega),List.length_take]
   congr 1
   omega
  ·rw[if_neg (by omega),List.getElem?_append_right (by rw[List.length_append,List.length_take];omega),List.getElem?_drop,List.length_append,List.length_take]
   congr 1
   omega
section
variable{n mb N B B2:Nat}{s:AS}{w W w':World}{F:kG}{v v2:Value}{l l2:List Int}
theorem jy{ops:Array Oper}{rest:List Oper}{p:Oper}{a:Act}{Q:Exit->Act->World->Prop}
 (C:p.guard=none) (f h:Operand) (t:TypeId) (Gf:p.op=Op.call {callee:=Callee.builtin Builtin.append,args:=#[f,h],argTypes:=#[t,t]})
 (i:TypeInfo) (z:Value) (y:prog.underlying t=some (.slice 39)) (A:prog.info? 39=some i) (a2:i.zero=some z) (a3:i.size=1) (ab:i.bytes=8) (ad:z.cells.size=1)
 (D:a.eval f=v) (hw:jI B v l F) (H:LW F w mb n N s W) (ci:w.heap.size<=B) (cl:B<=W.heap.size) (am:l.length+l2.length<=1000)
 (d:a.eval h=v2) (O:W.ownsRow B2 39 1 v2 l2.length (l2.map (Value.int .u64)))
 (o:∀c a1 R,jI B c (l++l2) a1->LW a1 w mb n N s R->W.heap.size<=R.heap.size->wpList prog ops Q rest (a.put p.dst c) R):wpList prog ops Q (p::rest) a W:=by
 have grow:∀(c:Value) (w':World),0<l.length+l2.length->w'.ownsRow W.heap.size 39 1 c (l.length+l2.length) (l.map (Value.int .u64)++l2.map (Value.int .u64))->W.grownBy w' none->wpList prog ops Q rest (a.put p.dst c) w':=fun c w' m O c1=>by
  obtain⟨g',cap,c6,rfl,E,G,c8,c9,cb⟩:=aS O m;have q:Ch ag W w':=(Ch.bQ c1).mono (fun i c2=>by cases c2);refine o _ [(g',39,l.map (Value.int .u64)++l2.map (Value.int .u64)++c6)] w' (Or.inr ⟨g',0,cap,_,by rw[List.length_append],rfl,by omega,by rw[List.length_append];exact G,c8,by rw[cb];omega,fun k x e=> ?_⟩) (H.new q (fun x d=> ?_)) q.size
  ·rw[Nat.zero_add,List.getElem?_append_left (by rw[List.length_append,List.length_map,List.length_map];have:=(List.getElem?_eq_some_iff.1 e).1;rw[List.length_append]at this;exact this)]
   rw[<-List.map_append,List.getElem?_map,e];rfl
  ·obtain rfl:=List.mem_singleton.1 d
   exact⟨E,c9⟩
 rcases O.2 with⟨P,m⟩|⟨r,V,ch,P,_⟩
 ·obtain rfl:l2=[]:=List.eq_nil_of_length_eq_zero m
  rw[P]at d;rw[List.append_nil]at o;rcases hw with⟨rfl,rfl,rfl⟩|⟨g,of,L,cs,rfl,rfl,X,S,T,U,J⟩
  ·exact iV C f h t Gf 39 i y A none 0 0 D (Nat.le_refl _) d (o _ _ _ (Or.inl ⟨rfl,rfl,rfl⟩) H (Nat.le_refl _))
  ·exact iV C f h t Gf 39 i y A _ _ _ D S d (o _ _ _ (Or.inr ⟨g,of,L,cs,rfl,rfl,X,S,T,U,J⟩) H (Nat.le_refl _))
 ·have al:∀j u,(l2.map (Value.int .u64))[j]?=some u->W.cell? ((⟨r,0,none⟩:Addr).add j)=some u:=fun j u hj=>by
   have ap:=(List.getElem?_eq_some_iff.1 hj).1;rw[List.length_map]at ap;obtain⟨bw,ce,cq,M,_,_,_,cd,_⟩:=aS O (by omega);rw[P]at M;injection M with M _ _
   obtain rfl:r=bw:=by simpa using M
   rw[show(⟨r,0,none⟩:Addr).add j=⟨r,j,none⟩by unfold Addr.add;split<;>simp_all];exact cd.cell (by rw[List.getElem?_append_left (by rw[List.length_map];exact ap)];exact hj)
  have bi:∀u∈l2.map (Value.int .u64),u.oneCell'=true:=fun u a0=>by
   obtain⟨x,_,rfl⟩:=List.mem_map.1 a0;simp[Value.oneCell']
  have av:(l2.map (Value.int .u64)).length=l2.length*1:=by rw[List.length_map,Nat.mul_one]
  rw[P]at d;rcases hw with⟨rfl,rfl,rfl⟩|⟨g,of,L,cs,rfl,rfl,X,S,T,U,J⟩
  ·by_cases m:l2=[]
   ·subst m
    have c5:(Builtin.append_ #[t,t] p.type #[.slice none 0 0,.slice (some ⟨r,0,none⟩) 0 V]).run prog W=.ok (.slice none 0 0) W:=by
     simp[Builtin.append_,run_underlying y,sizeOf,typeInfo,A,Builtin.lenOf,Builtin.firstCells,storeCells,loadCells,loadCellsFrom]
    refine wpList_plain C fun K c0=> ?_
    unfold Oper.wp;simp[execOp,Gf,resolve,invoke,builtin,D,d,c5,Result.andThen];exact c0 _ _ (o _ [] W (Or.inl ⟨rfl,rfl,rfl⟩) H (Nat.le_refl _))
   ·have cm:0<l2.length:=List.length_pos_iff.2 m
    exact wpList_append_grows W C f h t Gf 39 i z 1 8 y A a2 a3 ab ad (by decide) none 0 0 [] D (fun _=>⟨rfl,rfl⟩) rfl (fun b hb=>by cases hb) _ l2.length V (l2.map (Value.int .u64)) d av al bi (by omega) (by unfold maxLen;simp at am;omega) (by simp at am;omega) (fun c w' E G=>grow c w' (by simp;omega) E G)
  ·have I:=H.row (List.mem_singleton.2 rfl)
   have c7:∀j u,(l.map (Value.int .u64))[j]?=some u->W.cell? ⟨g,of+j,none⟩=some u:=fun j u hj=>by
    rw[List.getElem?_map]at hj;cases Y:l[j]? with
    |none=>rw[Y]at hj;cases hj
    |some x=>
     rw[Y]at hj;obtain rfl:=Option.some.inj hj;exact I.cell (J j x Y)
   refine wpList_append_arg W C f h t Gf 39 i z 1 8 y A a2 a3 ab ad (by decide) g of l.length L (l.map (Value.int .u64)) D (by rw[List.length_map,Nat.mul_one]) c7 _ l2.length V (l2.map (Value.int .u64)) d av al bi (fun Z j hj=> ?_) (by unfold maxLen;omega) (by omega) (fun Z=> ?_) (fun Z c w' E G=>grow c w' (by omega) E G)
   ·rw[List.length_map]at hj
    obtain⟨u,a0⟩:∃u,cs[of+l.length*1+j]?=some u:=⟨_,List.getElem?_eq_getElem (by omega)⟩;exact⟨by rw[I.cell a0];rfl,I.free _⟩
   ·have q:Ch (fun i=>i=g) W (W.setCells g (of+l.length*1) (l2.map (Value.int .u64))):=uH _ _ _
    have bv:=Row.vH (g:=g) (l2.map (Value.int .u64)) (of+l.length*1) W cs I;obtain⟨s1,s2⟩:=lC (cs:=cs) (l2.map (Value.int .u64)) (of+l.length*1) cs (by rw[List.length_map];omega);refine o _ [(g,39,yf cs (of+l.length*1) (l2.map (Value.int .u64)))] _ (Or.inr ⟨g,of,L,_,by rw[List.length_append],rfl,X,by rw[List.length_append];exact Z,T,by rw[s1];exact U,fun k x e=> ?_⟩) (H.wr (by omega) q bv) q.size;rw[s2,List.length_map];by_cases c4:k<l.length
    ·rw[if_neg (by omega)]
     rw[List.getElem?_append_left c4]at e;exact J k x e
    ·have c3:=(List.getElem?_eq_some_iff.1 e).1
     rw[List.length_append]at c3;rw[List.getElem?_append_right (by omega)]at e;rw[if_pos (by omega),List.getElem?_map,show of+k-(of+l.length*1)=k-l.length by omega,e];rfl
end
end
end Go.Proofs.YtlihkblppjgebaaGreatDoor
