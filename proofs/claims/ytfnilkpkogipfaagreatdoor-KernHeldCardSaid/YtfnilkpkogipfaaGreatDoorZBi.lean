import Derived.Test.YtfnilkpkogipfaaGreatDoorZAa
set_option linter.unusedVariables false
set_option linter.unusedSimpArgs false
set_option maxRecDepth 100000
set_option maxHeartbeats 8000000
namespace Go.Proofs.YtfnilkpkogipfaaGreatDoor
open Go.RowKit Go.Proofs.Tryz
def b3(s:ByteArray)(i:Nat):Int:=((s.data.toList.getD i 0).toNat:Int)
theorem b6(s:ByteArray)(i:Nat)(h:i<s.size):(s[i].toNat:Int)=b3 s i:=by
 unfold b3;rw[List.getD_eq_getElem?_getD,List.getElem?_eq_getElem (by simpa using h)];rfl
theorem drop_cons(s:ByteArray)(k:Nat)(h:k<s.size):s.data.toList.drop k=s[k]::s.data.toList.drop (k+1):=by
 rw[List.drop_eq_getElem_cons (by simpa using h)];rfl
theorem hP(s:ByteArray)(k:Nat)(h:s.size<=k):s.data.toList.drop k=[]:=by
 rw[List.drop_eq_nil_iff];simpa using h
theorem ve(b:UInt8):0<=(b.toNat:Int):=Int.natCast_nonneg _
theorem vf(b:UInt8):(b.toNat:Int)<=255:=by have:=b.toNat_lt;omega
def B8(k:IntKind)(p:Int×Bool)(w:World)(e:Ending)(w':World):Prop:=e=.returned (.tuple #[.int k p.1,.bool p.2])/\w=w'
theorem B8.mk{k:IntKind}{p:Int×Bool}{n:Int}{b:Bool}{w:World}(h:p=(n,b)):B8 k p w (.returned (.tuple #[.int k n,.bool b])) w:=⟨by rw[h],rfl⟩
def Bv(k:IntKind)(n:Int)(w:World)(e:Ending)(w':World):Prop:=e=.returned (.int k n)/\w=w'
theorem Bv.mk{k:IntKind}{n m:Int}{w:World}(h:n=m):Bv k n w (.returned (.int k m)) w:=⟨by rw[h],rfl⟩
def xN(k:IntKind)(p:Int×Bool)(w:World)(e:Ending)(w':World):Prop:=e=.returned (.tuple #[.int k p.1,.bool p.2])/\∃n,w'=w.drewN n
theorem xN.mk{k:IntKind}{p:Int×Bool}{n:Int}{b:Bool}{w:World}(m:Nat)(h:p=(n,b)):xN k p w (.returned (.tuple #[.int k n,.bool b])) (w.drewN m):=⟨by rw[h],m,rfl⟩
theorem xN.B9{k:IntKind}{p:Int×Bool}{n:Int}{b:Bool}{w:World}(h:p=(n,b)):xN k p w (.returned (.tuple #[.int k n,.bool b])) w:=⟨by rw[h],0,rfl⟩
def dP(s:ByteArray):Int×Bool:=
 if(s.size:Int)=2/\b3 s 0=114/\48<=b3 s 1/\b3 s 1<=57 then(b3 s 1-48,true)
 else if(s.size:Int)=3/\b3 s 0=114/\49<=b3 s 1/\b3 s 1<=51/\48<=b3 s 2/\b3 s 2<=57 then(10*(b3 s 1-48)+(b3 s 2-48),decide (10*(b3 s 1-48)+(b3 s 2-48)<32))
 else(0,false)
theorem sk(s:ByteArray)(n:s.size<=maxLen)(w:World):Calls prog 154 #[.string s] w (xN .i64 (dP s) w):=by
 unfold maxLen at n;by_cases p:s.size=2
 ·have g:0<s.size:=by omega
  have p1:1<s.size:=by omega
  have b:=b6 s 0 g;have c:=b6 s 1 p1;have a:=Z (show dP s=_ from by unfold dP;rw[<-b,<-c]);clear b c;go_enter func154,ntmps154
  go_wp2
  all_goals
   go_ret2;refine xN.B9 ?_;rw[a]
   first
    |(rw[if_pos (by omega)])
    |(rw[if_neg (by omega),if_neg (by omega)])
 ·by_cases q:s.size=3
  ·have g:0<s.size:=by omega
   have p1:1<s.size:=by omega
   have p2:2<s.size:=by omega
   have b:=b6 s 0 g;have c:=b6 s 1 p1;have i:=b6 s 2 p2;have a:=Z (show dP s=_ from by unfold dP;rw[<-b,<-c,<-i]);clear b c i;go_enter func154,ntmps154
   by_cases f:(s[0].toNat:Int)=114/\49<=(s[1].toNat:Int)/\(s[1].toNat:Int)<=51/\48<=(s[2].toNat:Int)/\(s[2].toNat:Int)<=57
   ·obtain⟨e,j,k,l,m⟩:=f
    have o:((s[0].toNat:Int)==114)=true:=by rw[e];rfl
    have d:=Z (And.intro e (And.intro j (And.intro k (And.intro l m))));have u1:IntKind.u8.wrap ((s[1].toNat:Int)-48)=(s[1].toNat:Int)-48:=IntWalk.u8_in _ (by omega);have u2:IntKind.u8.wrap ((s[2].toNat:Int)-48)=(s[2].toNat:Int)-48:=IntWalk.u8_in _ (by omega);have u3:IntKind.i64.wrap (10*((s[1].toNat:Int)-48))=10*((s[1].toNat:Int)-48):=IntWalk.i64_in _ (by omega);have u4:IntKind.i64.wrap (10*((s[1].toNat:Int)-48)+((s[2].toNat:Int)-48))=10*((s[1].toNat:Int)-48)+((s[2].toNat:Int)-48):=IntWalk.i64_in _ (by omega);have u5:IntKind.i64.wrap ((s[1].toNat:Int)-48)=(s[1].toNat:Int)-48:=IntWalk.i64_in _ (by omega);have u6:IntKind.i64.wrap ((s[2].toNat:Int)-48)=(s[2].toNat:Int)-48:=IntWalk.i64_in _ (by omega);clear e;go_wp2
    go_quiet (fail)
    go_wp2
    go_ret2;refine xN.mk _ ?_;have h:=d.out;rw[a,if_neg (by omega),if_pos (by omega)]
   ·have d:=Z f
    clear f;go_wp2
    all_goals
     first
      |(exfalso;exact d ⟨by assumption,by assumption,by assumption,by assumption,by assumption⟩)
      |(go_ret2
        refine xN.B9 ?_;have h:=d.out;rw[a,if_neg (by omega),if_neg (by omega)])
  ·have a:=Z (show dP s=(0,false)from by unfold dP;rw[if_neg (by omega),if_neg (by omega)])
   go_enter func154,ntmps154
   go_wp2
   all_goals
    go_ret2;exact xN.B9 a
def QB(b:Bool)(w:World)(e:Ending)(w':World):Prop:=e=.returned (.bool b)/\∃n,w'=w.drewN n
theorem QB.B9{b c:Bool}{w:World}(h:b=c):QB b w (.returned (.bool c)) w:=⟨by rw[h],0,rfl⟩
theorem QB.mk{b c:Bool}{w:World}(n:Nat)(h:b=c):QB b w (.returned (.bool c)) (w.drewN n):=⟨by rw[h],n,rfl⟩
def hE(c:UInt8):Bool:=decide ((97<=(c.toNat:Int)/\(c.toNat:Int)<=122)∨(48<=(c.toNat:Int)/\(c.toNat:Int)<=57))
def mM(s:ByteArray):Bool:=decide ((s.size:Int)<1∨16<(s.size:Int)∨b3 s 0<97∨122<b3 s 0)
def fR(s:ByteArray):Bool:=if mM s then false else if s.data.toList.all hE then !(dP s).2 else false
theorem xg(s:ByteArray)(m:s.size<=maxLen)(w:World):Calls prog 130 #[.string s] w (QB (fR s) w):=by
 have o:s.size<=maxLen:=m;have q:=Z o;clear o;unfold maxLen at m;by_cases hb:mM s=true
 ·have b:Hid (fR s=false):=by show _=_;unfold fR;rw[if_pos hb]
  unfold mM at hb
  replace hb:=of_decide_eq_true hb
  have p:=Z hb;clear hb;go_enter func130,ntmps130
  go_wp2
  all_goals first
   |(go_ret;exact QB.B9 b)
   |(exfalso;have hb:=p.out;simp only[b6]at*;omega)
 ·have b:Hid (fR s=if s.data.toList.all hE then !(dP s).2 else false):=by show _=_;unfold fR;rw[if_neg hb]
  unfold mM at hb;simp only[decide_eq_true_eq]at hb;have x:1<=s.size:=by omega
  have y:s.size<=16:=by omega
  have A:0<s.size:=by omega
  have t:97<=(s[0].toNat:Int):=by rw[b6];omega
  have u:(s[0].toNat:Int)<=122:=by rw[b6];omega
  clear hb;go_enter func130,ntmps130
  go_wp2
  go_loop [3] (fun i=>∃(k:Nat),k<=s.size/\i=.int .i64 k/\Hid (s.data.toList.all hE=(s.data.toList.drop k).all hE)) (fun i=>s.size-(intOf i).toNat)
  case atStart=>exact⟨0,by omega,rfl,rfl⟩
  case round=>
   obtain⟨k,z,rfl,d⟩:=hrel;by_cases r:k<s.size
   ·have f:Hid (s.data.toList.drop k=s[k]::s.data.toList.drop (k+1)):=drop_cons s k r
    by_cases a:hE s[k]=true
    ·have c:Hid ((s.data.toList.drop k).all hE=(s.data.toList.drop (k+1)).all hE):=by
      show _=_
      rw[f,List.all_cons,a,Bool.true_and]
     unfold hE at a;rw[decide_eq_true_eq]at a;have j:((97<=(s[k].toNat:Int))/\(s[k].toNat:Int)<=122)∨((s[k].toNat:Int)<97/\48<=(s[k].toNat:Int)/\(s[k].toNat:Int)<=57):=by omega
     clear a;rcases j with⟨g,h⟩|⟨g,h,l⟩
     all_goals
      go_wp2
      go_round
      case rel=>exact⟨k+1,by omega,by go_num,d.trans c⟩
      case measure=>simp[intOf];omega
    ·have c:Hid ((s.data.toList.drop k).all hE=false):=by
      show _=_
      rw[f,List.all_cons];simp only[Bool.not_eq_true]at a;rw[a,Bool.false_and]
     unfold hE at a;rw[decide_eq_true_eq]at a;have j:(s[k].toNat:Int)<48∨(57<(s[k].toNat:Int)/\(s[k].toNat:Int)<97)∨(122<(s[k].toNat:Int)):=by omega
     clear a;rcases j with g|⟨g,h⟩|g
     ·have h:(s[k].toNat:Int)<97:=by omega
      go_wp2
      all_goals first
       |(exfalso;simp only[Bool.not_eq_false',decide_eq_true_eq]at*;omega)
       |(go_ret;exact QB.B9 (by rw[b,d,c];rfl))
     ·have l:48<=(s[k].toNat:Int):=by omega
      go_wp2
      all_goals first
       |(exfalso;simp only[Bool.not_eq_false',decide_eq_true_eq]at*;omega)
       |(go_ret;exact QB.B9 (by rw[b,d,c];rfl))
     ·have h:97<=(s[k].toNat:Int):=by omega
      have l:48<=(s[k].toNat:Int):=by omega
      have v:57<(s[k].toNat:Int):=by omega
      go_wp2
      all_goals first
       |(exfalso;simp only[Bool.not_eq_false',decide_eq_true_eq]at*;omega)
       |(go_ret;exact QB.B9 (by rw[b,d,c];rfl))
   ·have f:Hid (s.data.toList.drop k=[]):=hP s k (by omega)
    go_wp2_with (go_at_call 154;refine(sk _ q _).mono ?_;rintro e w' ⟨rfl,n,rfl⟩)
    go_ret;exact QB.mk _ (by rw[b,d,f];rfl)
def mz(c:Int):Int:=
 if 48<=c/\c<=57 then c-48 else if 97<=c/\c<=102 then c-87 else if 65<=c/\c<=70 then c-55 else 99
theorem vg(c:Int):0<=mz c:=by unfold mz;split;omega;split;omega;split;omega;omega
theorem nZ(c:Int)(a:0<=c)(b:c<=255)(w:World):Calls prog 205 #[.int .u8 c] w (Bv .u64 (mz c) w):=by
 go_enter func205,ntmps205
 go_wp2
 all_goals(go_ret;refine Bv.mk ?_)
 all_goals(first
  |(unfold mz;rw[if_pos (by omega)])
  |(unfold mz;rw[if_neg (by omega),if_pos (by omega)];omega)
  |(unfold mz;rw[if_neg (by omega),if_neg (by omega),if_pos (by omega)];omega)
  |(unfold mz;rw[if_neg (by omega),if_neg (by omega),if_neg (by omega)]))
def sm:List UInt8->Int->Int->Option Int
 |[],_,v=>some v
 |c::cs,j,v=>if mz c.toNat<10/\j<20/\v<=1844674407370955161/\v*10<=18446744073709551615-mz c.toNat then sm cs (j+1) (v*10+mz c.toNat)else none
def xh(s:ByteArray):Option Int:=if 2<=(s.size:Int)/\b3 s 0=48/\b3 s 1=120 then none else if s.size=0 then none else sm s.data.toList 0 0
def Ea(v:Int)(w:World)(e:Ending)(w':World):Prop:=e=.returned (.tuple #[.int .u64 v,.pointer none])/\aH v/\w=w'
theorem tV(s:ByteArray)(I:s.size<=maxLen)(v:Int)(h:xh s=some v)(w:World):Calls prog 181 #[.string s] w (Ea v w):=by
 unfold maxLen at I;unfold xh at h;split at h
 ·cases h
 ·rename_i y
  split at h
  ·cases h
  ·rename_i L
   have x:=Z h;clear h;have J:1<=s.size:=by omega
   have M:0<s.size:=by omega
   have z:=Z y;clear y;by_cases p:2<=s.size/\b3 s 0=48
   ·obtain⟨K,q⟩:=p
    have p1:1<s.size:=by omega
    have f:((s[0].toNat:Int)==48)=true:=by rw[b6,beq_iff_eq];exact q
    have A:((s[1].toNat:Int)==120)=false:=by rw[b6,beq_eq_false_iff_ne];intro e;exact z ⟨by omega,q,e⟩
    clear q;go_enter func181,ntmps181
    go_wp2
    clear f A p1;go_loop [7,8] (fun n i=>∃(k:Nat) (m:Int),k<=s.size/\i=.int .i64 k/\n=.int .u64 m/\0<=m/\m<=18446744073709551615/\Hid (sm (s.data.toList.drop k) k m=some v)) (fun _ i=>s.size-(intOf i).toNat)
    case atStart=>exact⟨0,0,by omega,rfl,rfl,by omega,by omega,x⟩
    case round=>
     obtain⟨k,m,F,rfl,rfl,u,H,b⟩:=hrel;by_cases t:k<s.size
     ·have a:Hid (s.data.toList.drop k=s[k]::s.data.toList.drop (k+1)):=drop_cons s k t
      have h:=b.out;rw[a,sm]at h;split at h
      ·rename_i j
       have d:=Z h;clear h;have r:=vg s[k].toNat;obtain⟨l,g⟩:=nm (mz s[k].toNat);have c:=Z (fun w=>nZ s[k].toNat (ve _) (vf _) w);rw[g]at c j r d;obtain⟨B,C,D,E⟩:=j;have G:k<=19:=by omega
       clear g;go_wp2_with (go_at_call 205;refine(c _).mono ?_;rintro e w' ⟨rfl,rfl⟩)
       go_round
       case rel=>exact⟨k+1,m*10+l,by omega,by go_num,rfl,by omega,by omega,d⟩
       case measure=>simp[intOf];omega
      ·cases h
     ·have a:Hid (s.data.toList.drop k=[]):=hP s k (by omega)
      have h:=b.out;rw[a,sm]at h;obtain rfl:m=v:=Option.some.inj h;clear h b;go_wp2
      go_ret2;exact⟨rfl,⟨u,by omega⟩,rfl⟩
   ·have f:(2<=s.size->((s[0].toNat:Int)==48)=false):=fun o=>by rw[b6,beq_eq_false_iff_ne];intro e;exact p ⟨o,e⟩
    clear p;by_cases o:2<=s.size
    all_goals
     (try have f:=f o)
     go_enter func181,ntmps181
     go_wp2
     clear f;go_loop [7,8] (fun n i=>∃(k:Nat) (m:Int),k<=s.size/\i=.int .i64 k/\n=.int .u64 m/\0<=m/\m<=18446744073709551615/\Hid (sm (s.data.toList.drop k) k m=some v)) (fun _ i=>s.size-(intOf i).toNat)
     case atStart=>exact⟨0,0,by omega,rfl,rfl,by omega,by omega,x⟩
     case round=>
      obtain⟨k,m,F,rfl,rfl,u,H,b⟩:=hrel;by_cases t:k<s.size
      ·have a:Hid (s.data.toList.drop k=s[k]::s.data.toList.drop (k+1)):=drop_cons s k t
       have h:=b.out;rw[a,sm]at h;split at h
       ·rename_i j
        have d:=Z h;clear h;have r:=vg s[k].toNat;obtain⟨l,g⟩:=nm (mz s[k].toNat);have c:=Z (fun w=>nZ s[k].toNat (ve _) (vf _) w);rw[g]at c j r d;obtain⟨B,C,D,E⟩:=j;have G:k<=19:=by omega
        clear g;go_wp2_with (go_at_call 205;refine(c _).mono ?_;rintro e w' ⟨rfl,rfl⟩)
        go_round
        case rel=>exact⟨k+1,m*10+l,by omega,by go_num,rfl,by omega,by omega,d⟩
        case measure=>simp[intOf];omega
       ·cases h
      ·have a:Hid (s.data.toList.drop k=[]):=hP s k (by omega)
       have h:=b.out;rw[a,sm]at h;obtain rfl:m=v:=Option.some.inj h;clear h b;go_wp2
       go_ret2;exact⟨rfl,⟨u,by omega⟩,rfl⟩
theorem Bw(t:ByteArray)(n:Int)(w:World):Calls prog 182 #[.string t,n,.pointer none] w (d' (.pointer none) w):=by
 go_enter func182,ntmps182
 go_wp2
 go_ret;exact⟨rfl,rfl⟩
theorem cR(s:ByteArray)(a:s.size<=maxLen)(v:Int)(h:xh s=some v)(p:Nat)(line:Int)(w:World)(f:w.cell? (p,4)=some (.int .i64 line)):
 Calls prog 158 #[(p,0),.string s] w (Ea v w):=by
 have c:=Z (tV s a v h);clear h a;go_enter func158,ntmps158
 go_wp2_with (first|(go_at_call 181;refine(c _).mono ?_;rintro e w' ⟨rfl,b,rfl⟩;have d:=Z b;clear b)|(go_at_call 182;refine(Bw _ _ _).mono ?_;rintro e w' ⟨rfl,rfl⟩))
 go_ret2;exact⟨rfl,d,rfl⟩
def ao(w:World)(b:Nat)(X:aV):Prop:=Row w b 121 (aC X).toList
theorem ao.Eb{w:World}{b:Nat}{X:aV}(h:ao w b X)(n:Int):ao (w.setCell (b,1) (.int .i64 n)) b {X with a:=n}:=Row.a' h _ _ rfl
theorem ao.n3{w:World}{b:Nat}{X:aV}(h:ao w b X)(n:Int):ao (w.setCell (b,2) (.int .i64 n)) b {X with b:=n}:=Row.a' h _ _ rfl
theorem ao.vh{w:World}{b:Nat}{X:aV}(h:ao w b X)(n:Int):ao (w.setCell (b,3) (.int .i64 n)) b {X with c:=n}:=Row.a' h _ _ rfl
theorem ao.mi{w:World}{b:Nat}{X:aV}(h:ao w b X)(n:Int):ao (w.setCell (b,4) (.int .u64 n)) b {X with v:=n}:=Row.a' h _ _ rfl
theorem ao.vi{w:World}{b:Nat}{X:aV}(h:ao w b X)(n:Int):ao (w.setCell (b,5) (.int .i64 n)) b {X with m:=n}:=Row.a' h _ _ rfl
theorem ao.zB{w:World}{b:Nat}{X:aV}(h:ao w b X)(n:Int):ao (w.setCell (b,6) (.int .i64 n)) b {X with wh:=n}:=Row.a' h _ _ rfl
theorem ao.drewN{w:World}{b:Nat}{X:aV}(h:ao w b X)(n:Nat):ao (w.drewN n) b X:=h
theorem ao.drew{w:World}{b:Nat}{X:aV}(h:ao w b X):ao w.drew b X:=h
def Fk(X:aV)(a:Nat)(w:World)(e:Ending)(w':World):Prop:=e=.returned (.pointer none)/\ao w' a X/\Ch (aK a) w w'
def g3:List UInt8->Int->Int
 |[],_=>-1
 |c::cs,i=>if(c.toNat:Int)=43 then i else g3 cs (i+1)
theorem zC(l:List UInt8):∀i,g3 l i=-1∨(i<=g3 l i/\g3 l i<i+l.length):=by
 induction l with
 |nil=>intro i;exact Or.inl rfl
 |cons c l ih=>
  intro i;unfold g3;split
  ·right;simp only[List.length_cons];omega
  ·rcases ih (i+1)with h|h
   ·exact Or.inl h
   ·right;simp only[List.length_cons];omega
def Fl(s:ByteArray):ByteArray:=s.extract 1 (s.size-1)
def vj(t:ByteArray)(X:aV):Option aV:=
 if(dP t).2 then some {X with b:=(dP t).1}
 else if 0<=g3 t.data.toList 0 then
  (if(dP (t.extract 0 (g3 t.data.toList 0).toNat)).2 then(xh (t.extract ((g3 t.data.toList 0).toNat+1) t.size)).map fun v=>{X with b:=(dP (t.extract 0 (g3 t.data.toList 0).toNat)).1,v:=v}else none)
 else(xh t).map fun v=>{X with b:=-1,v:=v}
def tW(s:ByteArray)(X:aV):Option aV:=
 if(s.size:Int)<2∨b3 s 0≠91∨b3 s (s.size-1)≠93 then none else vj (Fl s) X
theorem jA(s:ByteArray)(a:s.size<=maxLen)(n:Int)(b:Bool)(h:dP s=(n,b))(w:World):Calls prog 154 #[.string s] w (xN .i64 (n,b) w):=by rw[<-h];exact sk s a w
theorem xi(s:ByteArray)(bv:s.size<=65536)(X g:aV)(h:tW s X=some g)(p j:Nat)(line:Int)(w:World)(N:w.cell? (p,4)=some (.int .i64 line))(f:ao w j X):
 Calls prog 157 #[(p,0),.string s,(j,0)] w (Fk g j w):=by
 unfold tW at h;split at h
 ·cases h
 ·rename_i a1
  have am:2<=s.size:=by omega
  have c0:0<s.size:=by omega
  have p1:s.size-1<s.size:=by omega
  have V:((s[0].toNat:Int) !=91)=false:=by rw[b6,bne_eq_false_iff_eq];omega
  have W:((s[s.size-1].toNat:Int) !=93)=false:=by rw[b6,bne_eq_false_iff_eq];omega
  clear a1;have f1:=f.free 2;have f2:=f.free 4;have ad:w.cell? (j,2)=some (.int .i64 X.b):=f.cell rfl;have al:w.cell? (j,4)=some (.int .u64 X.v):=f.cell rfl;have F:=Z f;clear f;obtain⟨t,H⟩:=nm (s.extract 1 (s.size-1));have bw:t.size<=65536:=by rw[<-H];simp;omega
  have K:Fl s=t:=H;rw[K]at h;have U:=Z h;clear h K;go_enter func157,ntmps157
  go_upto_block 0 with fail
  clear H V W;obtain⟨P,G⟩:=nm (g3 t.data.toList 0);have r:=zC t.data.toList 0;rw[G]at r;have L:t.data.toList.length=t.size:=by simp
  rw[L]at r;have J:=Z G;clear G L;go_cut [7] (fun q wc=>q=.int .i64 P/\w=wc)
  case first=>
   go_wp2_with fail
   go_loop [7,8] (fun q i=>∃(k:Nat) (m:Int),k<=t.size/\i=.int .i64 k/\q=.int .i64 m/\((m<0/\-1<=m/\Hid (g3 (t.data.toList.drop k) k=P))∨(0<=m/\m<t.size/\Hid (m=P)))) (fun _ i=>t.size-(intOf i).toNat)
   case atStart=>exact⟨0,-1,by omega,rfl,rfl,Or.inl ⟨by omega,by omega,J⟩⟩
   case round=>
    obtain⟨k,m,ap,rfl,rfl,a2⟩:=hrel;rcases a2 with⟨R,S,C⟩|⟨R,S,c⟩
    ·by_cases M:k<t.size
     ·have o:Hid (t.data.toList.drop k=t[k]::t.data.toList.drop (k+1)):=drop_cons t k M
      by_cases d:(t[k].toNat:Int)=43
      ·have c:Hid ((k:Int)=P):=by
        show _=_
        have:=C.out;rw[o,g3,if_pos d]at this;exact this
       have a0:((t[k].toNat:Int)==43)=true:=by rw[d];rfl
       clear d;go_wp2
       go_round
       case rel=>exact⟨k+1,k,by omega,by go_num,rfl,Or.inr ⟨by omega,by omega,c⟩⟩
       case measure=>simp[intOf];omega
      ·have c:Hid (g3 (t.data.toList.drop (k+1)) ((k+1:Nat):Int)=P):=by
        show _=_
        have:=C.out;rw[o,g3,if_neg d]at this;exact this
       have a0:((t[k].toNat:Int)==43)=false:=by simpa using d
       clear d;go_wp2
       go_round
       case rel=>exact⟨k+1,m,by omega,by go_num,rfl,Or.inl ⟨R,S,c⟩⟩
       case measure=>simp[intOf];omega
     ·have o:Hid (t.data.toList.drop k=[]):=hP t k (by omega)
      have c:Hid (m=P):=by
       show _=_
       have:=C.out;rw[o,g3]at this;omega
      go_wp2
      go_meet
      exact⟨by rw[c],rfl⟩
    ·by_cases M:k<t.size
     all_goals
      go_wp2
      go_meet
      exact⟨by rw[c],rfl⟩
  case rest=>
   obtain⟨rfl,rfl⟩:=hcut;have h:=U.out;unfold vj at h;rw[J]at h;have A:t.size<=maxLen:=by unfold maxLen;omega
   rcases u:dP t with⟨n,b⟩
   have E:=Z (jA t A n b u);rw[u]at h;cases b with
   |true=>
    obtain rfl:g={X with b:=n}:=(Option.some.inj h).symm;clear h u;go_wp2_with (go_at_call 154;(with_reducible refine(E.out _).mono ?_);rintro e w' ⟨rfl,I,rfl⟩)
    go_ret;exact⟨rfl,(F.drewN I).n3 n,((Ch.refl _ _).drewN _).only _ _⟩
   |false=>
    simp only[Bool.false_eq_true,if_false]at h;clear u;by_cases l:0<=P
    ·rw[if_pos l]at h
     obtain⟨q,rfl⟩:=Int.eq_ofNat_of_zero_le l;have bi:q<t.size:=by omega
     simp only[Int.toNat_natCast]at h;rcases x:dP (t.extract 0 q)with⟨B,Y⟩
     rw[x]at h;cases Y with
     |false=>cases h
     |true=>
      simp only[if_true]at h;obtain⟨y,O⟩:=nm (t.extract 0 q);obtain⟨z,Q⟩:=nm (t.extract (q+1) t.size);have a3:y.size<=maxLen:=by rw[<-O];unfold maxLen;simp;omega
      have ab:z.size<=maxLen:=by rw[<-Q];unfold maxLen;simp;omega
      rw[O]at x;rw[Q]at h;have T:=Z (jA y a3 B true x);cases a:xh z with
      |none=>rw[a]at h;cases h
      |some v=>
       rw[a]at h;obtain rfl:g={X with b:=B,v:=v}:=(Option.some.inj h).symm;have D:=Z (cR z ab v a p line);clear h x a r l;go_wp2_with (first|(go_at_call 154;(with_reducible refine(E.out _).mono ?_);rintro e w' ⟨rfl,I,rfl⟩)|(go_at_call 154;(with_reducible refine(T.out _).mono ?_);rintro e w' ⟨rfl,nq,rfl⟩)|(go_at_call 158;(with_reducible refine(D.out _ ?_).mono ?_);exact N;rintro e w' ⟨rfl,A,rfl⟩))
       go_ret;refine⟨rfl,?_,by repeat(first|exact Ch.refl _ _|with_reducible refine Ch.drewN ?_ _|with_reducible refine Ch.drew ?_|with_reducible refine Ch.only ?_ _ _)⟩
       (repeat(first|with_reducible refine ao.drewN ?_ _|with_reducible refine ao.drew ?_))
       refine ao.mi (X:={X with b:=B}) ?_ v
       (repeat(first|with_reducible refine ao.drewN ?_ _|with_reducible refine ao.drew ?_))
       refine ao.n3 (X:=X) ?_ B
       (repeat(first|with_reducible refine ao.drewN ?_ _|with_reducible refine ao.drew ?_))
       exact F
    ·rw[if_neg l]at h
     have av:P<0:=by omega
     cases a:xh t with
     |none=>rw[a]at h;cases h
     |some v=>
      rw[a]at h;obtain rfl:g={X with b:=-1,v:=v}:=(Option.some.inj h).symm;have D:=Z (cR t A v a p line);clear h a r l;go_wp2_with (first|(go_at_call 154;(with_reducible refine(E.out _).mono ?_);rintro e w' ⟨rfl,I,rfl⟩)|(go_at_call 158;(with_reducible refine(D.out _ ?_).mono ?_);exact N;rintro e w' ⟨rfl,A,rfl⟩))
      go_ret;refine⟨rfl,?_,by repeat(first|exact Ch.refl _ _|with_reducible refine Ch.drewN ?_ _|with_reducible refine Ch.drew ?_|with_reducible refine Ch.only ?_ _ _)⟩
      (repeat(first|with_reducible refine ao.drewN ?_ _|with_reducible refine ao.drew ?_))
      refine ao.mi (X:={X with b:=-1}) ?_ v
      (repeat(first|with_reducible refine ao.drewN ?_ _|with_reducible refine ao.drew ?_))
      refine ao.n3 (X:=X) ?_ (-1)
      (repeat(first|with_reducible refine ao.drewN ?_ _|with_reducible refine ao.drew ?_))
      exact F
def fA(t:ByteArray)(a:Int):Int×ByteArray:=
 if 2<=t.size/\((t.extract (t.size-2) t.size).data.toList==[61,48])=true then(1,t.extract 0 (t.size-2))
 else if 2<=t.size/\((t.extract (t.size-2) t.size).data.toList==[62,48])=true then(2,t.extract 0 (t.size-2))
 else(a,t)
def jf(X:aV)(p:Int×ByteArray):Option aV:=
 match xh p.2 with
 |none=>none
 |some v=>if v<1∨99<v then none else some {X with wh:=p.1,m:=v}
def qC(s:ByteArray)(X:aV):Option aV:=jf X (fA (s.extract 1 s.size) X.wh)
theorem xj(s:ByteArray)(E:s.size<=65536)(D:1<=s.size)(X i:aV)(h:qC s X=some i)(p j:Nat)(line:Int)(w:World)(o:w.cell? (p,4)=some (.int .i64 line))(A:p≠j)(k:ao w j X):
 Calls prog 135 #[(p,0),.string s,(j,0)] w (Fk i j w):=by
 have B:w.cell? (j,5)=some (.int .i64 X.m):=k.cell rfl;have C:w.cell? (j,6)=some (.int .i64 X.wh):=k.cell rfl;have f5:=k.free 5;have f6:=k.free 6;have l:=Z k;clear k;unfold qC at h;obtain⟨t,r⟩:=nm (s.extract 1 s.size);have F:t.size<=65536:=by rw[<-r];simp;omega
 rw[r]at h;go_enter func135,ntmps135
 go_upto_region 2 with fail
 clear r;by_cases n:2<=t.size
 ·cases q:(t.extract (t.size-2) t.size).toList==[61,48]with
  |true=>
   have c:fA t X.wh=(1,t.extract 0 (t.size-2)):=by unfold fA;rw[if_pos ⟨n,ByteArray.toList_eq (t.extract (t.size-2) t.size)▸q⟩]
   rw[c]at h;clear c;unfold jf at h;dsimp only at h;cases a:xh (t.extract 0 (t.size-2))with
   |none=>rw[a]at h;cases h
   |some v=>
    rw[a]at h;dsimp only at h;split at h
    ·cases h
    ·rename_i g
     obtain rfl:i={X with wh:=1,m:=v}:=(Option.some.inj h).symm;have d:=Z (cR (t.extract 0 (t.size-2)) (by unfold maxLen;first|omega|(simp;omega)) v a p line);have x:1<=v:=by omega
     have y:v<=99:=by omega
     clear h a g;go_upto_region 3 with fail
     obtain⟨u,f⟩:=nm (t.extract 0 (t.size-2));rw[f]at d;go_region
     go_wp2_with (go_at_call 158;(with_reducible refine(d.out _ ?_).mono ?_);(simp[go_sem,A,o]);rintro e w' ⟨rfl,f,rfl⟩)
     go_ret;refine⟨rfl,?_,by repeat(first|exact Ch.refl _ _|with_reducible refine Ch.drewN ?_ _|with_reducible refine Ch.drew ?_|with_reducible refine Ch.only ?_ _ _)⟩
     (repeat(first|with_reducible refine ao.drewN ?_ _|with_reducible refine ao.drew ?_))
     refine ao.vi (X:={X with wh:=1}) ?_ v
     (repeat(first|with_reducible refine ao.drewN ?_ _|with_reducible refine ao.drew ?_))
     refine ao.zB (X:=X) ?_ 1
     (repeat(first|with_reducible refine ao.drewN ?_ _|with_reducible refine ao.drew ?_))
     exact l
  |false=>
   cases z:(t.extract (t.size-2) t.size).toList==[62,48]with
   |true=>
    have c:fA t X.wh=(2,t.extract 0 (t.size-2)):=by unfold fA;rw[if_neg (fun b=>by rw[<-ByteArray.toList_eq,q]at b;cases b.2),if_pos ⟨n,ByteArray.toList_eq (t.extract (t.size-2) t.size)▸z⟩]
    rw[c]at h;clear c;unfold jf at h;dsimp only at h;cases a:xh (t.extract 0 (t.size-2))with
    |none=>rw[a]at h;cases h
    |some v=>
     rw[a]at h;dsimp only at h;split at h
     ·cases h
     ·rename_i g
      obtain rfl:i={X with wh:=2,m:=v}:=(Option.some.inj h).symm;have d:=Z (cR (t.extract 0 (t.size-2)) (by unfold maxLen;first|omega|(simp;omega)) v a p line);have x:1<=v:=by omega
      have y:v<=99:=by omega
      clear h a g;go_upto_region 5 with fail
      obtain⟨u,f⟩:=nm (t.extract 0 (t.size-2));rw[f]at d;go_region
      go_wp2_with (go_at_call 158;(with_reducible refine(d.out _ ?_).mono ?_);(simp[go_sem,A,o]);rintro e w' ⟨rfl,f,rfl⟩)
      go_ret;refine⟨rfl,?_,by repeat(first|exact Ch.refl _ _|with_reducible refine Ch.drewN ?_ _|with_reducible refine Ch.drew ?_|with_reducible refine Ch.only ?_ _ _)⟩
      (repeat(first|with_reducible refine ao.drewN ?_ _|with_reducible refine ao.drew ?_))
      refine ao.vi (X:={X with wh:=2}) ?_ v
      (repeat(first|with_reducible refine ao.drewN ?_ _|with_reducible refine ao.drew ?_))
      refine ao.zB (X:=X) ?_ 2
      (repeat(first|with_reducible refine ao.drewN ?_ _|with_reducible refine ao.drew ?_))
      exact l
   |false=>
    have c:fA t X.wh=(X.wh,t):=by unfold fA;rw[if_neg (fun b=>by rw[<-ByteArray.toList_eq,q]at b;cases b.2),if_neg (fun b=>by rw[<-ByteArray.toList_eq,z]at b;cases b.2)]
    rw[c]at h;clear c;unfold jf at h;dsimp only at h;cases a:xh t with
    |none=>rw[a]at h;cases h
    |some v=>
     rw[a]at h;dsimp only at h;split at h
     ·cases h
     ·rename_i g
      obtain rfl:i={X with wh:=X.wh,m:=v}:=(Option.some.inj h).symm;have d:=Z (cR t (by unfold maxLen;first|omega|(simp;omega)) v a p line);have x:1<=v:=by omega
      have y:v<=99:=by omega
      clear h a g;go_wp2_with (go_at_call 158;(with_reducible refine(d.out _ ?_).mono ?_);exact o;rintro e w' ⟨rfl,f,rfl⟩)
      go_ret;refine⟨rfl,?_,by repeat(first|exact Ch.refl _ _|with_reducible refine Ch.drewN ?_ _|with_reducible refine Ch.drew ?_|with_reducible refine Ch.only ?_ _ _)⟩
      (repeat(first|with_reducible refine ao.drewN ?_ _|with_reducible refine ao.drew ?_))
      refine ao.vi (X:={X with wh:=X.wh}) ?_ v
      (repeat(first|with_reducible refine ao.drewN ?_ _|with_reducible refine ao.drew ?_))
      exact l
 ·have c:fA t X.wh=(X.wh,t):=by unfold fA;rw[if_neg (fun b=>n b.1),if_neg (fun b=>n b.1)]
  rw[c]at h;clear c;unfold jf at h;dsimp only at h;cases a:xh t with
  |none=>rw[a]at h;cases h
  |some v=>
   rw[a]at h;dsimp only at h;split at h
   ·cases h
   ·rename_i g
    obtain rfl:i={X with wh:=X.wh,m:=v}:=(Option.some.inj h).symm;have d:=Z (cR t (by unfold maxLen;first|omega|(simp;omega)) v a p line);have x:1<=v:=by omega
    have y:v<=99:=by omega
    clear h a g;go_wp2_with (go_at_call 158;(with_reducible refine(d.out _ ?_).mono ?_);exact o;rintro e w' ⟨rfl,f,rfl⟩)
    go_ret;refine⟨rfl,?_,by repeat(first|exact Ch.refl _ _|with_reducible refine Ch.drewN ?_ _|with_reducible refine Ch.drew ?_|with_reducible refine Ch.only ?_ _ _)⟩
    (repeat(first|with_reducible refine ao.drewN ?_ _|with_reducible refine ao.drew ?_))
    refine ao.vi (X:={X with wh:=X.wh}) ?_ v
    (repeat(first|with_reducible refine ao.drewN ?_ _|with_reducible refine ao.drew ?_))
    exact l
end Go.Proofs.YtfnilkpkogipfaaGreatDoor
