import Derived.Test.YtfnilkpkogipfaaGreatDoorZBs
set_option linter.all false
set_option maxRecDepth 100000
set_option maxHeartbeats 8000000
namespace Go.Proofs.YtfnilkpkogipfaaGreatDoor
open Go.RowKit Go.Proofs.Tryz
structure fe where
 Al:Int
 a:Int
 b:Int
 c:Int
 d:Int
def Ds(x:fe):List Value:=[.int .i64 x.Al,.int .u64 x.a,.int .u64 x.b,.int .u64 x.c,.int .u64 x.d]
def gJ(b:Int):Int:=if b%5=0 then 18446744073709551615 else b%60
theorem sE(b:Int)(hb:aH b)(w:World):Calls prog 86 #[.int .u64 b] w (d' (.int .u64 (gJ b)) w):=by
 have d:=hb.1;have e:=hb.2;by_cases h:b%5=0
 ·have a:Hid (gJ b=18446744073709551615):=Z (by unfold gJ;rw[if_pos h])
  have c:(b%5==0)=true:=by rw[beq_iff_eq];exact h
  clear h;go_enter func86,ntmps86
  go_wp2
  go_ret;exact d'.mk (congrArg (Value.int .u64) a)
 ·have a:Hid (gJ b=b%60):=Z (by unfold gJ;rw[if_neg h])
  have c:(b%5==0)=false:=by rw[beq_eq_false_iff_ne];exact h
  clear h;go_enter func86,ntmps86
  go_wp2
  go_ret;exact d'.mk (congrArg (Value.int .u64) a)
def mQ:List Int:=[900,901,902,903,904,70,71,72,73]
def z1(w:World)(e:Ending)(w':World):Prop:=∃g cap,e=.returned (.slice (some ⟨g,0,none⟩) 9 cap)/\9<=cap/\(∀k v,mQ[k]?=some v->w'.cell? ⟨g,k,none⟩=some (.int .i64 v))/\Ch ag w w'
theorem xA(w:World):Calls prog 85 #[.int .i64 16] w (z1 w):=by
 obtain⟨G,j,C,E,F⟩:=info_parts kN;go_enter func85,ntmps85
 go_upto_region 3 with fail
 obtain⟨w1,c⟩:=nm (w.alloc (.cells #[.int .i64 900,.int .i64 901,.int .i64 902,.int .i64 903,.int .i64 904] 3));have g:=Z (Ch.al (D:=ag) c);have d:w1.ownsRow w.heap.size 3 1 (.slice (some (w.heap.size,0)) 5 5) 5 [.int .i64 900,.int .i64 901,.int .i64 902,.int .i64 903,.int .i64 904]:=mm (by rw[<-c];exact Row.new _ _ _) rfl (by decide) (Nat.le_refl _);have o:=Z j;have B:w.heap.size<=w1.heap.size:=g.size;obtain⟨f,b⟩:=nm w.heap.size;have q:=Z b;rw[c,b];rw[b]at d B;clear c b j;go_wp2_with (at_builtin;refine wpList_append_lies _ rfl _ _ _ rfl f 3 G _ 1 8 underlying79 o C E F rfl (by omega) (.slice (some (f,0)) 5 5) 5 [.int .i64 900,.int .i64 901,.int .i64 902,.int .i64 903,.int .i64 904] rfl (d.alloc _) ⟨w1.heap.size,0,none⟩ 4 4 [.int .i64 70,.int .i64 71,.int .i64 72,.int .i64 73] rfl rfl (World.news_of_block (cs:=#[.int .i64 70,.int .i64 71,.int .i64 72,.int .i64 73]) (t:=3) (fr:=(0,0)) (heap_alloc_new w1 _)) (by simp[Value.oneCell']) (by omega) (by unfold maxLen;omega) (by omega) (by simp;omega) (w1.heap.size+1) (by simp) ?_)
 intro u r w2 l h x M;have p:=Z l;have n:=Z h;clear l h x d;go_wp2_with fail
 go_ret;obtain⟨J,H,N,z,_,y,_,A,_⟩:=aS p (by decide);injection z with a _ s
 injection a with a
 injection a with a
 subst a;subst s;refine⟨u,r,rfl,y,fun k v m=>A.cell ?_,g.fresh (Ch.bQ (ax n)) (fun i K e=>by
  have I:f=i:=by simpa[Value.ownBlock]using e
  have:=q.out;omega)⟩
 have L:k<9:=(List.getElem?_eq_some_iff.1 m).1;rw[List.getElem?_append_left (by simp;omega)];have:(mQ.map (Value.int .i64))[k]?=some (.int .i64 v):=by rw[List.getElem?_map,m];rfl
 exact this
def z2(w:World)(e:Ending)(w':World):Prop:=(∃v,e=.returned (.tuple #[.pointer none,v])/\aq v)/\Ch ag w w'
theorem uh(n tt:Int)(l:List aV)(m:Option Addr)(o:Nat)(loop:Int)(calls:List br)(k:Option Addr)(r:Nat)(p:List aV)(pa:Option Addr)(pc:Nat)(en j f:Int)
 (P:l.length<=o) (R:p.length<=pc) (M:calls.length<=100000) (w:World) (O:l≠[]->∃g,m=some ⟨g,0,none⟩/\eE w g l) (Q:p≠[]->∃g,pa=some ⟨g,0,none⟩/\eE w g p)
 (N:calls≠[]->∃g F,k=some ⟨g,0,none⟩/\Row w g 49 (calls.flatMap br.cells++F))
 (d:¬(1<=n/\n<=64/\1<=tt/\tt<=65536/\e2 l loop calls=true/\ei p en j f=true))
 (L:w.cell? (0,0)=some (.iface 335 (.agg #[(1,40)]))):
 Calls prog 11 #[.agg #[n,tt],.agg #[.slice m l.length o,loop,.slice k calls.length r],.agg #[.slice pa p.length pc,en,j,f]] w (z2 w):=by
 obtain⟨w1,u⟩:=nm (((w.alloc (.cells #[n,tt] 43)).alloc (.cells #[.slice m l.length o,loop,.slice k calls.length r] 33)).alloc (.cells #[.slice pa p.length pc,en,j,f] 36));have a:Hid (Ch ag w w1):=Z (by rw[<-u];exact(((Ch.refl _ _).alloc _).alloc _).alloc _);have T:Hid (Row w1 w.heap.size 43 [n,tt]):=Z (by rw[<-u];exact((Row.new w _ _).alloc _).alloc _);have H:Hid (Row w1 (w.heap.size+1) 33 [.slice m l.length o,loop,.slice k calls.length r]):=Z (by
  rw[<-u];have:=Row.new (w.alloc (.cells #[n,tt] 43)) #[.slice m l.length o,loop,.slice k calls.length r] 33;rw[World.size_alloc]at this;exact this.alloc _)
 have s:Hid (Row w1 (w.heap.size+2) 36 [.slice pa p.length pc,en,j,f]):=Z (by
  rw[<-u];have:=Row.new ((w.alloc (.cells #[n,tt] 43)).alloc (.cells #[.slice m l.length o,loop,.slice k calls.length r] 33)) #[.slice pa p.length pc,en,j,f] 36;rw[World.size_alloc,World.size_alloc]at this;exact this)
 have z:Hid (w1.cell? (0,0)=some (.iface 335 (.agg #[(1,40)]))):=Z (a.k L);have q:=jc l m o loop calls k r P M w1 (fun h=>by obtain⟨g,e,t⟩:=O h;exact⟨g,e,t.ch a (fun h=>h)⟩) (fun h=>by obtain⟨g,F,e,t⟩:=N h;exact⟨g,F,e,t.ch a (fun h=>h)⟩) z;obtain⟨U,D⟩:∃b,e2 l loop calls=b:=⟨_,rfl⟩;obtain⟨I,E⟩:∃b,ei p en j f=b:=⟨_,rfl⟩;rw[D]at q;have q:=Z q;have G:Hid (∀w2,Ch ag w1 w2->Calls prog 51 #[.agg #[.slice pa p.length pc,en,j,f]] w2 (qz I w2)):=Z (fun w2 J=>by
  have:=jd p pa pc en j f R w2 (fun h=>by obtain⟨g,e,t⟩:=Q h;exact⟨g,e,(t.ch a (fun h=>h)).ch J (fun h=>h)⟩) ((J.cell (aE z) (fun h=>h)).trans z)
  rwa [E]at this)
 rw[D,E]at d;obtain⟨X,B⟩:=mn l.length;obtain⟨W,A⟩:=mn calls.length;obtain⟨Y,C⟩:=mn p.length;rw[<-B,<-A]at H q;rw[<-C]at s G;rw[<-B,<-A,<-C]at u⊢;obtain⟨a2,a3⟩:=T.c2;obtain⟨t10,t11,t12⟩:=H.c3;clear B A C P R M O Q N L D E;by_cases i1:n<1
 ·clear d
  go_enter func11,ntmps11
  go_wp2_with (go_at_call 49;refine(e8 _ _ _ _).mono ?_;rintro e w' ⟨rfl,rfl⟩)
  go_ret2;exact⟨⟨_,rfl,aq.mk _ _⟩,a.alloc _⟩
 by_cases i2:64<n
 ·clear d
  go_enter func11,ntmps11
  go_wp2_with (go_at_call 49;refine(e8 _ _ _ _).mono ?_;rintro e w' ⟨rfl,rfl⟩)
  go_ret2;exact⟨⟨_,rfl,aq.mk _ _⟩,a.alloc _⟩
 by_cases a0:tt<1
 ·clear d
  go_enter func11,ntmps11
  go_wp2_with (go_at_call 49;refine(e8 _ _ _ _).mono ?_;rintro e w' ⟨rfl,rfl⟩)
  go_ret2;exact⟨⟨_,rfl,aq.mk _ _⟩,a.alloc _⟩
 by_cases a1:65536<tt
 ·clear d
  go_enter func11,ntmps11
  go_wp2_with (go_at_call 49;refine(e8 _ _ _ _).mono ?_;rintro e w' ⟨rfl,rfl⟩)
  go_ret2;exact⟨⟨_,rfl,aq.mk _ _⟩,a.alloc _⟩
 cases U
 ·clear d
  go_enter func11,ntmps11
  go_wp2_with (first|(go_at_call 50;refine q.mono ?_;rintro e w2 ⟨⟨y,rfl,v⟩,c⟩;obtain⟨ty,V,rfl⟩:aq y:=v;have x:=Z c;clear c)|(go_at_call 49;refine(e8 _ _ _ _).mono ?_;rintro e w' ⟨rfl,rfl⟩))
  go_ret2;exact⟨⟨_,rfl,aq.mk _ _⟩,(a.trans x).alloc _⟩
 cases I
 ·clear d
  go_enter func11,ntmps11
  go_wp2_with (first|(go_at_call 50;refine q.mono ?_;rintro e w2 ⟨⟨y,rfl,v⟩,c⟩;obtain rfl:y=.nilIface:=v;have x:=Z c;have u20:=(s.ch c (fun h=>h)).cell (i:=0) rfl;have u21:=(s.ch c (fun h=>h)).cell (i:=1) rfl;have u22:=(s.ch c (fun h=>h)).cell (i:=2) rfl;have u23:=(s.ch c (fun h=>h)).cell (i:=3) rfl;clear c)|(go_at_call 51;refine(G _ x).mono ?_;rintro e ab ⟨⟨y,rfl,v⟩,K⟩;obtain⟨ty,V,rfl⟩:aq y:=v;have S:=Z (x.trans K);clear K)|(go_at_call 49;refine(e8 _ _ _ _).mono ?_;rintro e w' ⟨rfl,rfl⟩))
  go_ret2;exact⟨⟨_,rfl,aq.mk _ _⟩,(a.trans S).alloc _⟩
 exact absurd ⟨by omega,by omega,by omega,by omega,rfl,rfl⟩ d
def cN(v n:Int):Int:=if n<1 then 0 else if Int.tmod v n<0 then Int.tmod v n+n else Int.tmod v n
theorem ot(v n:Int)(d:n<=1000000)(w:World):Calls prog 27 #[v,n] w (fun e w'=>e=.returned (.int .i64 (cN v n))/\w=w'):=by
 go_enter func27,ntmps27
 by_cases b:n<1
 ·have a:Hid (cN v n=0):=by show _=_;unfold cN;rw[if_pos b]
  go_wp2
  go_ret;rw[a];exact⟨rfl,rfl⟩
 ·have f:¬n=0:=by omega
  have g:=Int.tmod_lt_of_pos v (show 0<n by omega);have h:-n<Int.tmod v n:=by
   have:=Int.tmod_lt_of_pos (-v) (show 0<n by omega);rw[Int.neg_tmod]at this;omega
  by_cases c:Int.tmod v n<0
  ·have a:Hid (cN v n=Int.tmod v n+n):=by show _=_;unfold cN;rw[if_neg b,if_pos c]
   go_wp2
   go_ret;rw[a];exact⟨rfl,rfl⟩
  ·have a:Hid (cN v n=Int.tmod v n):=by show _=_;unfold cN;rw[if_neg b,if_neg c]
   go_wp2
   go_ret;rw[a];exact⟨rfl,rfl⟩
theorem dJ(v n:Int)(h:1<=n):0<=cN v n/\cN v n<n:=by
 unfold cN;have a:=Int.tmod_lt_of_pos v (show 0<n by omega);have b:-n<Int.tmod v n:=by
  have:=Int.tmod_lt_of_pos (-v) (show 0<n by omega);rw[Int.neg_tmod]at this;omega
 split
 ·omega
 ·split<;>omega
def ct(wk a:Int):Int×Int:=(1+cN wk 5,if Int.tmod a 5=0 then 60+cN a 90 else 200+cN a 400)
theorem kU(wk a:Int):1<=(ct wk a).1/\(ct wk a).1<=64/\1<=(ct wk a).2/\(ct wk a).2<=65536:=by
 have b:=dJ wk 5 (by decide);have c:=dJ a 90 (by decide);have d:=dJ a 400 (by decide);unfold ct;dsimp only
 split<;>omega
theorem ou(wk d:Int)(w:World):Calls prog 12 #[.agg #[wk,d]] w (dt (.agg #[.int .i64 (ct wk d).1,.int .i64 (ct wk d).2]) w):=by
 have y:=dJ wk 5 (by decide);have z:=dJ d 90 (by decide);have A:=dJ d 400 (by decide);have h:=Z (fun v n B w=>ot v n B w);have l:Hid ((ct wk d).1=1+cN wk 5):=Z rfl;obtain⟨a,s⟩:=nm (cN wk 5);obtain⟨b,hb⟩:=nm (cN d 90);obtain⟨c,o⟩:=nm (cN d 400);have i:=Z (h wk 5 (by decide));have r:=Z (h d 90 (by decide));have j:=Z (h d 400 (by decide));rw[s]at i y l;rw[hb]at r z;rw[o]at j A;have u:=Z hb;have x:=Z o;clear s hb o h;have w1:IntKind.i64.wrap (200+c)=200+c:=IntWalk.i64_in _ (by omega);have w2:IntKind.i64.wrap (60+b)=60+b:=IntWalk.i64_in _ (by omega);have E:IntKind.i64.wrap (1+a)=1+a:=IntWalk.i64_in _ (by omega);by_cases p:Int.tmod d 5=0
 ·have m:Hid ((ct wk d).2=60+b):=Z (by unfold ct;rw[if_pos p,u])
  go_enter func12,ntmps12
  go_wp2_with (first|(go_at_call 27;(with_reducible refine(j.out _).mono ?_);rintro e w' ⟨rfl,rfl⟩)|(go_at_call 27;(with_reducible refine(r.out _).mono ?_);rintro e w' ⟨rfl,rfl⟩)|(go_at_call 27;(with_reducible refine(i.out _).mono ?_);rintro e w' ⟨rfl,rfl⟩))
  obtain⟨C,g⟩:=nm ((w.alloc (.cells #[wk,d] 23)).alloc (.cells #[.int .i64 (1+a),.int .i64 (60+b)] 43));have f:=fB (w.alloc (.cells #[wk,d] 23)) (k:=w.heap.size+1) (by simp) (cs:=#[.int .i64 (1+a),.int .i64 (60+b)]) (t:=43) rfl;rw[g]at f⊢;obtain⟨y0,q⟩:=f.c2;refine bodyPost_ret (v:=.agg #[.int .i64 (1+a),.int .i64 (60+b)]) ?_ rfl ?_
  ·simp[results,Tryz.f12,go_sem,y0,q]
  ·rw[l,m,<-g]
   exact⟨rfl,((Ch.refl _ _).alloc _).alloc _⟩
 ·have m:Hid ((ct wk d).2=200+c):=Z (by unfold ct;rw[if_neg p,x])
  have D:(Int.tmod d 5==0)=false:=by simpa using p
  go_enter func12,ntmps12
  go_wp2_with (first|(go_at_call 27;(with_reducible refine(j.out _).mono ?_);rintro e w' ⟨rfl,rfl⟩)|(go_at_call 27;(with_reducible refine(i.out _).mono ?_);rintro e w' ⟨rfl,rfl⟩))
  obtain⟨C,g⟩:=nm ((w.alloc (.cells #[wk,d] 23)).alloc (.cells #[.int .i64 (1+a),.int .i64 (200+c)] 43));have f:=fB (w.alloc (.cells #[wk,d] 23)) (k:=w.heap.size+1) (by simp) (cs:=#[.int .i64 (1+a),.int .i64 (200+c)]) (t:=43) rfl;rw[g]at f⊢;obtain⟨y0,q⟩:=f.c2;refine bodyPost_ret (v:=.agg #[.int .i64 (1+a),.int .i64 (200+c)]) ?_ rfl ?_
  ·simp[results,Tryz.f12,go_sem,y0,q]
  ·rw[l,m,<-g]
   exact⟨rfl,((Ch.refl _ _).alloc _).alloc _⟩
end Go.Proofs.YtfnilkpkogipfaaGreatDoor
