import Derived.Test.YtfnilkpkogipfaaGreatDoorZBg
import Derived.Test.YtfnilkpkogipfaaGreatDoorZBl
set_option linter.all false
set_option maxRecDepth 100000
set_option maxHeartbeats 8000000
namespace Go.Proofs.YtfnilkpkogipfaaGreatDoor
open Go.RowKit Go.Proofs.Tryz
def BC(r:List aV×List (ByteArray×Int))(w:World)(e:Ending)(w':World):Prop:=
 ∃a b,e=.returned (.tuple #[a,b,.pointer none])/\w'.ownsRow w.heap.size 121 7 a r.1.length (r.1.flatMap dg)/\w'.ownsRow w.heap.size 238 2 b r.2.length (r.2.flatMap oK)/\Ch ag w w'
structure ss(k:Nat)(S:gm):Prop where
 c:S.code.length<=k
 l:S.labels.length<=k
 n:S.lines.length<=k
 w:S.bp.length<=3*k
 a0:0<=S.line
 a1:S.line<=k
theorem ss.more{k:Nat}{S d:gm}{e:List ByteArray}(h:ss k S)(a:ji S e=some d):ss (k+1) d:=by
 have:=h.c;have:=h.l;have:=h.n;have:=h.w;have:=h.a0;have:=h.a1;cases e with
 |nil=>
  obtain rfl:=Option.some.inj a;exact⟨by show S.code.length<=_;omega,by show S.labels.length<=_;omega,by show S.lines.length<=_;omega,by show S.bp.length<=_;omega,by show 0<=S.line+1;omega,by show S.line+1<=_;omega⟩
 |cons w l=>
  unfold ji at a;dsimp only at a;cases c:lK S (w::l)with
  |none=>rw[c]at a;cases a
  |some b=>
   rw[c]at a;obtain rfl:=Option.some.inj a;obtain⟨a1,a2,a3,f,g⟩:=jj c;exact⟨by show b.code.length<=_;omega,by show b.labels.length<=_;omega,by show b.lines.length<=_;omega,by show b.bp.length<=_;omega,by show 0<=b.line+1;omega,by show b.line+1<=_;omega⟩
theorem ss.mono{k a:Nat}{S:gm}(h:ss k S)(b:k<=a):ss a S:=by
 have:=h.c;have:=h.l;have:=h.n;have:=h.w;have:=h.a0;have:=h.a1;exact⟨by omega,by omega,by omega,by omega,by omega,by omega⟩
def fT(s:ByteArray)(f k:Nat):List UInt8:=(s.data.toList.drop f).take (k-f)
theorem oc(s:ByteArray)(k:Nat):fT s k k=[]:=by unfold fT;rw[Nat.sub_self];rfl
theorem xm(s:ByteArray)(f k:Nat)(b:f<=k)(a:k<s.size):fT s f (k+1)=fT s f k++[s[k]]:=by
 unfold fT;rw[show k+1-f=(k-f)+1 from by omega,List.take_add_one,List.getElem?_drop,show f+(k-f)=k from by omega,List.getElem?_eq_getElem (by simpa using a)];rfl
theorem su(s:ByteArray)(f k:Nat)(a:f<=k)(b:k<=s.size):eY (s.extract f k)=kM (fT s f k) []:=by
 unfold eY fT;rw[ByteArray.data_extract,Array.toList_extract,List.extract_eq_take_drop]
theorem kQ(s:ByteArray)(f k:Nat):(fT s f k).length<=k-f:=by unfold fT;rw[List.length_take];omega
theorem BD(s:ByteArray)(f k:Nat)(a:f<k)(b:k<=s.size):fT s f k≠[]:=by
 intro h;have:(fT s f k).length=k-f:=by unfold fT;rw[List.length_take,List.length_drop];simp;omega
 rw[h]at this;simp at this;omega
theorem below_drewN{B:Nat}{w w':World}(h:Below B w w')(n:Nat):Below B w (w'.drewN n):=⟨h.os,h.tape,h.output,h.size,h.block⟩
theorem sv{w:World}{B:Nat}{v:Value}{a:List ByteArray}(h:w.ownsRow B 9 1 v a.length (a.map Value.string))(b:0<a.length):∃g cap,v=.slice (some ⟨g,0,none⟩) a.length cap/\a.length<=cap/\dY w g a:=by
 obtain⟨g,cap,f,d,i,c,j,e,_⟩:=aS h b;exact⟨g,cap,d,c,f,e⟩
theorem lL(s:ByteArray)(r:List aV×List (ByteArray×Int))(h:ix s=some r)(w:World):Calls prog 60 #[.string s] w (BC r w):=by
 unfold ix at h;split at h
 ·rename_i os
  cases z:gA s.data.toList [] ⟨[],[],[],[],0⟩with
  |none=>rw[z]at h;cases h
  |some a=>
   rw[z]at h;dsimp only at h;cases al:oa a.bp a.labels a.code with
   |none=>rw[al]at h;cases h
   |some ap=>
    rw[al]at h;dsimp only at h;have kw:=Z z;have kT:=Z al;have l0:=Z h;clear h z al;have ov:(s.size:Int)<=65536:=by omega
    obtain⟨B,gf⟩:=nm w.heap.size;have R:=Z gf;go_enter func60,ntmps60
    go_upto_block 0 with fail
    obtain⟨kf,ex⟩:=nm (w.alloc (.cells #[.slice none 0 0,.slice none 0 0,.slice none 0 0,.slice none 0 0,.int .i64 0] 232));have lo:Hid (dD kf B B B ⟨[],[],[],[],0⟩):=Z (by
     have r:=Row.new w #[.slice none 0 0,.slice none 0 0,.slice none 0 0,.slice none 0 0,.int .i64 0] 232;rw[ex,gf]at r;exact⟨_,_,_,_,r,Nat.le_refl _,World.ownsRow_nil _ _ _ _,(fun e=>by cases e),World.ownsRow_nil _ _ _ _,World.ownsRow_nil _ _ _ _,World.ownsRow_nil _ _ _ _⟩)
    have lb:Hid (Below B w kf):=Z (by rw[<-ex];exact(Below.refl _ _).alloc (by omega) _);rw[ex];clear ex gf;go_cut [] (fun wc=>dD wc B B B a/\Below B w wc/\ss 65537 a)
    case first=>
     go_wp2_with fail
     go_loopw [6,7] (fun fr i wr=>∃(f k:Nat) (S:gm),fr=.int .i64 f/\i=.int .i64 k/\dD wr B B B S/\Below B w wr/\((k<=s.size/\f<=k/\ss k S/\gA (s.data.toList.drop k) (fT s f k) S=some a)∨(k=s.size+1/\ss k S/\S=a))) (fun _ i _=>s.size+1-(intOf i).toNat)
     case atStart=>exact⟨0,0,_,rfl,rfl,lo,lb,Or.inl ⟨by omega,by omega,⟨by simp,by simp,by simp,by simp,by simp,by simp⟩,by rw[oc];exact kw⟩⟩
     case round=>
      obtain⟨f,k,S,rfl,rfl,c,p,hrel⟩:=hrel;rcases hrel with⟨c4,a1,q,d⟩|⟨rfl,q,rfl⟩
      ·have Q:=Z q
       have c6:=Z c;have P:=Z p;by_cases cA:k<s.size
       ·have dr:Hid (s.data.toList.drop k=s[k]::s.data.toList.drop (k+1)):=drop_cons s k cA
        by_cases am:(s[k].toNat:Int)=10
        ·rw[dr,gA,if_pos am]at d
         have md:((s[k].toNat:Int) !=10)=false:=by rw[am];rfl
         have mA:((k:Int)==s.size)=false:=by rw[beq_eq_false_iff_ne];omega
         cases F:ji S (kM (fT s f k) [])with
         |none=>rw[F]at d;cases d
         |some l=>
          rw[F]at d;dsimp only at d;have I:Hid ((k+1<=s.size/\(k+1)<=(k+1)/\ss (k+1) l/\gA (s.data.toList.drop (k+1)) (fT s (k+1) (k+1)) l=some a)∨(k+1=s.size+1/\ss (k+1) l/\l=a)):=Z (Or.inl ⟨by omega,Nat.le_refl _,q.more F,by rw[oc];exact d⟩);have av:=Z (su s f k a1 c4);obtain⟨t,cC⟩:=nm (s.extract f k);have hl:t.size<=65536:=by rw[<-cC];simp;omega
          have V:=Z (fun w=>n6 t hl w);rw[cC]at av;rw[av]at V;have cf:Hid (∀x∈kM (fT s f k) [],1<=x.size/\x.size<=65536):=Z (fun x ab=>by
           have z:=sr _ _ x ab;have al:=kQ s f k;simp only[List.length_nil]at z;omega)
          have c9:Hid ((kM (fT s f k) []).length<=65537):=Z (by
           have z:=vn (fT s f k) [];have al:=kQ s f k;omega)
          have A:Hid (k<=65536):=Z (by omega);obtain⟨O,cL⟩:=nm (kM (fT s f k) []);rw[cL]at V cf c9 F;have c8:=Z F;have mL:t.size<=maxLen:=by unfold maxLen;omega
          clear cL d q c p F am;cases O with
          |nil=>
           have bi:Hid (l=n' S):=Z (Option.some.inj c8).symm;go_upto_region 15 with(go_at_call 103;(with_reducible refine(V.out _).mono ?_);rintro e w2 ⟨hB,rfl,L,K⟩;obtain⟨a2,fz,rfl⟩:=aA L;have H:=Z K;clear L K;simp only[List.length_nil])
           have u:Hid (dD w2 B B B S):=Z (c6.out.af (Ch.bY H));have T:Hid (Below B w w2):=Z (P.out.trans (H.mono (by have:=P.out.size;have:=R.out;omega)));have hw:w2.cell? (B,4)=some (.int .i64 S.line):=by
            obtain⟨_,_,_,_,b⟩:=u.out;exact b.row.cell rfl
           have ge:w2.frozen? (B,4)=false:=by
            obtain⟨_,_,_,_,b⟩:=u.out;exact b.row.free 4
           have i2:=Q.out.a0;have i3:=Q.out.a1;have ne:=A.out;go_wp2_with fail
           go_roundw
           case rel=>exact⟨k+1,k+1,l,by go_num,by go_num,by rw[bi];exact u.more,T.setCell (by simp) _,I⟩
           case measure=>simp[intOf];omega
          |cons x O=>
           have y:=c8.out;unfold ji at y;dsimp only at y;cases M:lK S (x::O)with
           |none=>rw[M]at y;cases y
           |some J=>
            rw[M]at y;have bi:Hid (l=n' J):=Z (Option.some.inj y).symm;have N:=Q.out;have cb:=Z (jj M).2.2.2.2;have ce:=Z (fun g cap w hm gs c gk=>pt (x::O) (by simp) cf (by have:=c9.out;omega) g cap B B S J w hm gs c gk M (by have:=N.c;have:=A.out;omega) (by have:=N.w;have:=A.out;omega) (by have:=N.l;have:=A.out;omega) (by have:=N.n;have:=A.out;omega));obtain⟨D,E⟩:=mn ((x::O).length);have U:=Z E;have mb:0<D:=by rw[E];simp
            have mc:(0:Int)<D:=by omega
            rw[<-E]at ce;clear M y N E;go_wp2_with fail
            with_reducible refine(V.out _).mono ?_
            rintro e w2 ⟨hB,rfl,L,K⟩;obtain⟨l',fz,rfl,cq,G⟩:=sv L (by simp);have eW:=Z cq;have ch:=Z G;have H:=Z K;rw[<-U];have u:Hid (dD w2 B B B S):=Z (c6.out.af (Ch.bY H));have T:Hid (Below B w w2):=Z (P.out.trans (H.mono (by have:=P.out.size;have:=R.out;omega)));clear L K cq G;go_wp2_with fail
            with_reducible refine(ce.out _ _ _ ch.out (by have:=eW.out;rw[U.out];exact this) u.out (by have:=T.out.size;have:=R.out;omega)).mono ?_
            rintro e cS ⟨rfl,a3,cm⟩;have fd:=Z a3;have eS:=Z (T.trans cm);have hw:cS.cell? (B,4)=some (.int .i64 J.line):=by
             obtain⟨_,_,_,_,b⟩:=a3;exact b.row.cell rfl
            have ge:cS.frozen? (B,4)=false:=by
             obtain⟨_,_,_,_,b⟩:=a3;exact b.row.free 4
            have i2:0<=J.line:=by rw[cb];exact Q.out.a0
            have i3:J.line<=65536:=by rw[cb];have:=Q.out.a1;have:=A.out;omega
            clear a3 cm;go_wp2_with fail
            go_roundw
            case rel=>exact⟨k+1,k+1,l,by go_num,by go_num,by rw[bi];exact fd.more,eS.setCell (by simp) _,by first|exact I|exact I.imp (fun h=>h) (fun h=>⟨h.1,h.2.1,rfl⟩)⟩
            case measure=>simp[intOf];omega
        ·have I:Hid ((k+1<=s.size/\f<=k+1/\ss (k+1) S/\gA (s.data.toList.drop (k+1)) (fT s f (k+1)) S=some a)∨(k+1=s.size+1/\ss (k+1) S/\S=a)):=Z (Or.inl ⟨by omega,by omega,q.mono (by omega),by
          rw[dr,gA,if_neg am]at d;rw[xm s f k a1 cA];exact d⟩)
         have md:((s[k].toNat:Int) !=10)=true:=by simpa using am
         clear am q c p d;go_wp2_with fail
         go_roundw
         case rel=>exact⟨f,k+1,S,rfl,by go_num,c6.out,P.out,I⟩
         case measure=>simp[intOf];omega
       ·have k0:k=s.size:=by omega
        have dr:Hid (s.data.toList.drop k=[]):=hP s k (by omega);rw[dr,gA]at d;have mA:((k:Int)==s.size)=true:=by rw[beq_iff_eq];omega
        by_cases hb:f=k
        ·have I:Hid ((k+1<=s.size/\f<=k+1/\ss (k+1) S/\gA (s.data.toList.drop (k+1)) (fT s f (k+1)) S=some a)∨(k+1=s.size+1/\ss (k+1) S/\S=a)):=Z (Or.inr ⟨by omega,q.mono (by omega),by
          rw[hb,oc,if_pos rfl]at d;exact Option.some.inj d⟩)
         have ms:((f:Int)==(k:Int))=true:=by rw[beq_iff_eq];omega
         clear k0 q c p d hb;go_wp2_with fail
         go_roundw
         case rel=>exact⟨f,k+1,S,rfl,by go_num,c6.out,P.out,I⟩
         case measure=>simp[intOf];omega
        ·rw[if_neg (BD s f k (by omega) c4)]at d
         cases F:ji S (kM (fT s f k) [])with
         |none=>rw[F]at d;cases d
         |some l=>
          rw[F]at d;obtain rfl:=Option.some.inj d;have I:Hid ((k+1<=s.size/\(k+1)<=(k+1)/\ss (k+1) l/\gA (s.data.toList.drop (k+1)) (fT s (k+1) (k+1)) l=some l)∨(k+1=s.size+1/\ss (k+1) l/\l=l)):=Z (Or.inr ⟨by omega,q.more F,rfl⟩);have ms:((f:Int)==(k:Int))=false:=by rw[beq_eq_false_iff_ne];omega
          clear k0;have av:=Z (su s f k a1 c4);obtain⟨t,cC⟩:=nm (s.extract f k);have hl:t.size<=65536:=by rw[<-cC];simp;omega
          have V:=Z (fun w=>n6 t hl w);rw[cC]at av;rw[av]at V;have cf:Hid (∀x∈kM (fT s f k) [],1<=x.size/\x.size<=65536):=Z (fun x ab=>by
           have z:=sr _ _ x ab;have al:=kQ s f k;simp only[List.length_nil]at z;omega)
          have c9:Hid ((kM (fT s f k) []).length<=65537):=Z (by
           have z:=vn (fT s f k) [];have al:=kQ s f k;omega)
          have A:Hid (k<=65536):=Z (by omega);obtain⟨O,cL⟩:=nm (kM (fT s f k) []);rw[cL]at V cf c9 F;have c8:=Z F;have mL:t.size<=maxLen:=by unfold maxLen;omega
          clear cL d q c p F hb;cases O with
          |nil=>
           have bi:Hid (l=n' S):=Z (Option.some.inj c8).symm;go_upto_region 15 with(go_at_call 103;(with_reducible refine(V.out _).mono ?_);rintro e w2 ⟨hB,rfl,L,K⟩;obtain⟨a2,fz,rfl⟩:=aA L;have H:=Z K;clear L K;simp only[List.length_nil])
           have u:Hid (dD w2 B B B S):=Z (c6.out.af (Ch.bY H));have T:Hid (Below B w w2):=Z (P.out.trans (H.mono (by have:=P.out.size;have:=R.out;omega)));have hw:w2.cell? (B,4)=some (.int .i64 S.line):=by
            obtain⟨_,_,_,_,b⟩:=u.out;exact b.row.cell rfl
           have ge:w2.frozen? (B,4)=false:=by
            obtain⟨_,_,_,_,b⟩:=u.out;exact b.row.free 4
           have i2:=Q.out.a0;have i3:=Q.out.a1;have ne:=A.out;go_wp2_with fail
           go_roundw
           case rel=>exact⟨k+1,k+1,l,by go_num,by go_num,by rw[bi];exact u.more,T.setCell (by simp) _,I⟩
           case measure=>simp[intOf];omega
          |cons x O=>
           have y:=c8.out;unfold ji at y;dsimp only at y;cases M:lK S (x::O)with
           |none=>rw[M]at y;cases y
           |some J=>
            rw[M]at y;have bi:Hid (l=n' J):=Z (Option.some.inj y).symm;have N:=Q.out;have cb:=Z (jj M).2.2.2.2;have ce:=Z (fun g cap w hm gs c gk=>pt (x::O) (by simp) cf (by have:=c9.out;omega) g cap B B S J w hm gs c gk M (by have:=N.c;have:=A.out;omega) (by have:=N.w;have:=A.out;omega) (by have:=N.l;have:=A.out;omega) (by have:=N.n;have:=A.out;omega));obtain⟨D,E⟩:=mn ((x::O).length);have U:=Z E;have mb:0<D:=by rw[E];simp
            have mc:(0:Int)<D:=by omega
            rw[<-E]at ce;clear M y N E;go_wp2_with fail
            with_reducible refine(V.out _).mono ?_
            rintro e w2 ⟨hB,rfl,L,K⟩;obtain⟨l',fz,rfl,cq,G⟩:=sv L (by simp);have eW:=Z cq;have ch:=Z G;have H:=Z K;rw[<-U];have u:Hid (dD w2 B B B S):=Z (c6.out.af (Ch.bY H));have T:Hid (Below B w w2):=Z (P.out.trans (H.mono (by have:=P.out.size;have:=R.out;omega)));clear L K cq G;go_wp2_with fail
            with_reducible refine(ce.out _ _ _ ch.out (by have:=eW.out;rw[U.out];exact this) u.out (by have:=T.out.size;have:=R.out;omega)).mono ?_
            rintro e cS ⟨rfl,a3,cm⟩;have fd:=Z a3;have eS:=Z (T.trans cm);have hw:cS.cell? (B,4)=some (.int .i64 J.line):=by
             obtain⟨_,_,_,_,b⟩:=a3;exact b.row.cell rfl
            have ge:cS.frozen? (B,4)=false:=by
             obtain⟨_,_,_,_,b⟩:=a3;exact b.row.free 4
            have i2:0<=J.line:=by rw[cb];exact Q.out.a0
            have i3:J.line<=65536:=by rw[cb];have:=Q.out.a1;have:=A.out;omega
            clear a3 cm;go_wp2_with fail
            go_roundw
            case rel=>exact⟨k+1,k+1,l,by go_num,by go_num,by rw[bi];exact fd.more,eS.setCell (by simp) _,by first|exact I|exact I.imp (fun h=>h) (fun h=>⟨h.1,h.2.1,rfl⟩)⟩
            case measure=>simp[intOf];omega
      ·have fn:=Z c
       have cW:=Z p;have dN:=Z q;clear c p q;go_wp2_with fail
       go_meet
       exact⟨fn,cW,dN.mono (by omega)⟩
    case rest=>
     obtain⟨c,p,q⟩:=hcut;have cW:=Z p;have dN:=Z q;have mW:a.bp.length<=200000:=by have:=q.w;omega
     have i7:=Z c;obtain⟨w1,k1⟩:=nm wc;rw[k1]at i7 cW⊢;clear c p q k1;obtain⟨D,E⟩:=mn a.bp.length;have U:=Z E;rw[<-E]at mW;clear E;go_upto_block 2 with fail
     go_cut [] (fun wc=>dD wc B B B {a with code:=ap}/\Below B w wc/\ap.length=a.code.length)
     case first=>
      go_wp2_with fail
      go_loopw [10] (fun i wr=>∃(k:Nat) (C:List aV),k<=D/\i=.int .i64 k/\dD wr B B B {a with code:=C}/\Below B w wr/\oa (a.bp.drop k) a.labels C=some ap/\C.length=a.code.length) (fun i _=>D-(intOf i).toNat)
      case atStart=>exact⟨0,a.code,by omega,rfl,i7,cW,kT,rfl⟩
      case round=>
       obtain⟨k,C,c4,rfl,c,p,o,en⟩:=hrel;have fn:=Z c;have i4:=Z p;have i5:=Z en;obtain⟨c0,c7,kd,hF,b⟩:=c;have dC:=Z b;have k5:wr.cell? (B,3)=some hF:=b.row.cell rfl;have hi:wr.ownsRow B 236 3 hF D (a.bp.flatMap n4):=by rw[U];exact b.bp
       have lm:=Z hi;obtain⟨lv,gc,rfl⟩:=aA hi;clear hi b p en;by_cases cA:k<D
       ·have c5:k<a.bp.length:=by have:=U.out;omega
        rw[List.drop_eq_getElem_cons c5]at o;obtain⟨x,ab⟩:=nm (a.bp[k]);have hv:a.bp[k]?=some x:=by rw[List.getElem?_eq_getElem c5,ab]
        rw[ab,oa]at o;cases a1:cM a.labels x.2.2 with
        |none=>rw[a1]at o;cases o
        |some at_=>
         rw[a1]at o;dsimp only at o;obtain⟨x0,n8,i0⟩:=x;dsimp only at o a1;cases c3:C[n8.toNat]? with
         |none=>rw[c3]at o;cases o
         |some X=>
          rw[c3]at o;dsimp only at o;split at o
          ·rename_i ip
           obtain⟨bw,rfl⟩:=Int.eq_ofNat_of_zero_le ip;rw[Int.toNat_natCast]at c3 o;have ob:bw<C.length:=(List.getElem?_eq_some_iff.1 c3).1;have i9:=Z c3;have ls:=Z o;obtain⟨c2,lw,n0,k4,_,p1,_,hu,_⟩:=aS lm (by omega);obtain⟨rfl,rfl⟩:lv=some ⟨c2,0,none⟩/\gc=lw:=by injection k4 with z _ Y;exact⟨z,Y⟩
           have k2:wr.cell? ⟨c2,k*3+1,none⟩=some (.int .i64 bw):=hu.cell (by
            rw[List.getElem?_append_left (by rw[a7 (k:=3) (fun _=>rfl)];omega)];exact(bP (k:=3) (enc:=n4) (fun _=>rfl) hv (j:=1) (by omega)).trans rfl)
           have mS:wr.cell? ⟨c2,k*3+2,none⟩=some (.string i0):=hu.cell (by
            rw[List.getElem?_append_left (by rw[a7 (k:=3) (fun _=>rfl)];omega)];exact(bP (k:=3) (enc:=n4) (fun _=>rfl) hv (j:=2) (by omega)).trans rfl)
           have ad:wr.cell? (B,0)=some c0:=dC.row.cell rfl;have eA:wr.cell? (B,1)=some c7:=dC.row.cell rfl;have le:Hid (∀n,Calls prog 82 #[c7,.string i0] (wr.drewN n) (fun e w'=>e=.returned (.tuple #[at_,.bool true])/\∃m,w'=(wr.drewN n).drewN m)):=
            Z (fun n=>g4 a.labels i0 (at_,true) (by rw[a1];rfl) c7 B (wr.drewN n) dC.labels (by have:=dN.l;omega))
           have ok:(k:Int)<D:=by omega
           clear o a1 k4 hu hv ab ip c5 c3;go_wp2_with fail
           go_quiet ((go_at_call 82;exact Calls.quiet_of (le _)))
           obtain⟨w2,G⟩:=nm (wr.drewN nq);have ch:Hid (Below B w w2):=Z (by rw[<-G];exact below_drewN i4 nq);have u:Hid (n5 w2 B B B c0 c7 kd (.slice (some (c2,0)) D gc) {a with code:=C}):=Z (by rw[<-G];exact dC.af ((Ch.refl _ _).drewN _));have i1:w2.cell? ⟨c2,k*3+1,none⟩=some (.int .i64 bw):=by rw[<-G];exact k2
           have y0:w2.cell? (B,0)=some c0:=by rw[<-G];exact ad
           have p3:w2.cell? (B,3)=some (.slice (some (c2,0)) D gc):=by rw[<-G];exact k5
           rw[G];obtain⟨io,ih,p2,cs,_,it,_,gt,_⟩:=aS u.code (by show 0<C.length;omega);have cl:Hid (c0=.slice (some (io,0)) C.length ih):=Z cs;obtain⟨c1,gr⟩:=mn C.length;have cd:=Z gr;have og:(bw:Int)<c1:=by omega
           have p8:w2.cell? (io,bw*7+4)=some (.int .u64 X.v):=gt.cell (by
            rw[List.getElem?_append_left (by show _<(C.flatMap dg).length;rw[a7 ej];omega)];exact(bP ej i9 (j:=4) (by omega)).trans rfl)
           have f4:=gt.free (bw*7+4);have nC:c1<=ih:=by rw[gr];exact it
           rw[cl,<-cd]at y0 u;clear G k2 mS ad eA k5 cs it gt gr;go_wp2_with fail
           go_still_tail 14,(by kernel_rfl)
           change wpList _ _ _ _ _ w2.drew;go_wp2_with fail
           go_roundw
           obtain⟨kb,n1⟩:=n5.mi u i9 cd (IntKind.u64.wrap at_)
           case rel=>
            refine⟨k+1,C.set bw {X with v:=IntKind.u64.wrap at_},by omega,by go_num,?_,?_,ls,by rw[List.length_set];exact i5⟩
            ·first|exact kb|exact kb.af ((Ch.refl _ _).drew)
            ·have a0:=ch.trans n1
             exact⟨a0.os,a0.tape,a0.output,a0.size,a0.block⟩
           case measure=>simp[intOf];omega
          ·cases o
       ·have es:a.bp.drop k=[]:=List.drop_of_length_le (by have:=U.out;omega)
        rw[es]at o;have av:Hid (C=ap):=Z (Option.some.inj o);clear o es;go_wp2_with fail
        go_meet
        rw[<-av];exact⟨fn,i4,i5⟩
     case rest=>
      obtain⟨c,p,en⟩:=hcut;obtain⟨w4,k3⟩:=nm wc;rw[k3]at c p⊢;have Y:=l0.out;unfold B' at Y;split at Y
      ·rename_i es
       obtain⟨mk,jp⟩:=es;obtain rfl:=Option.some.inj Y;have no:=Z c;have lc:=Z p;obtain⟨c0,c7,kd,hF,b⟩:=c;have ni:=Z b;have he:w4.ownsRow B 121 7 c0 ap.length (ap.flatMap dg):=b.code;have hf:=b.labels;have ad:w4.cell? (B,0)=some c0:=b.row.cell rfl;have eA:w4.cell? (B,1)=some c7:=b.row.cell rfl;have ll:=Z he;have i6:=Z hf;obtain⟨ac,ii,rfl⟩:=aA he;obtain⟨ci,ck,rfl⟩:=aA hf;obtain⟨c1,cl⟩:=mn ap.length;obtain⟨W,go⟩:=mn a.labels.length;have cd:=Z cl;have fb:=Z go;have nw:W<=65537:=by have:=dN.l;omega
       rw[<-cl]at ad mk;have cQ:w4.cell? (B,1)=some (.slice ci W ck):=by rw[go];exact eA
       have l1:Hid (∀k,k<W->∃(ec:Nat) (at_:Int),ci=some ⟨ec,0,none⟩/\W<=ck/\(at_==(c1:Int))=false/\w4.cell? ⟨ec,k*2+1,none⟩=some (.int .i64 at_)):=Z (fun k c4=>by
        have c5:k<a.labels.length:=by have:=fb.out;omega
        obtain⟨g,cap,n0,mp,_,am,_,mC,_⟩:=aS i6 (by show 0<a.labels.length;omega);have ab:a.labels[k]?=some a.labels[k]:=List.getElem?_eq_getElem c5;obtain⟨rfl,rfl⟩:ci=some ⟨g,0,none⟩/\ck=cap:=by injection mp with z _ Y;exact⟨z,Y⟩
        refine⟨g,a.labels[k].2,rfl,by have:=fb.out;rw[this];exact am,?_,?_⟩
        ·have:=List.all_eq_true.1 jp _ (List.getElem_mem c5)
         rw[<-cd]at this;rw[bne_iff_ne]at this;rw[beq_eq_false_iff_ne];exact this
        ·refine mC.cell ?_
         rw[List.getElem?_append_left (by show _<(a.labels.flatMap oK).length;rw[a7 hS];omega)];exact(bP hS ab (j:=1) (by omega)).trans rfl)
       clear k3 b he hf cl go eA p en Y jp;go_upto_block 4 with fail
       go_cut [] (fun wc=>∃m,wc=w4.drewN m)
       case first=>
        go_wp2_with fail
        go_loopw [13] (fun i wr=>∃(k m:Nat),k<=W/\i=.int .i64 k/\wr=w4.drewN m) (fun i _=>W-(intOf i).toNat)
        case atStart=>exact⟨0,0,by omega,rfl,rfl⟩
        case round=>
         obtain⟨k,m,c4,rfl,rfl⟩:=hrel;obtain⟨eC,bv⟩:=nm (w4.drewN m);have i8:=Z bv;have y0:eC.cell? (B,0)=some (.slice ac c1 ii):=by rw[<-bv];exact ad
         have i1:eC.cell? (B,1)=some (.slice ci W ck):=by rw[<-bv];exact cQ
         rw[bv];by_cases cA:k<W
         ·obtain⟨ec,at_,rfl,on,nx,cs⟩:=l1 k cA
          have nd:eC.cell? ⟨ec,k*2+1,none⟩=some (.int .i64 at_):=by rw[<-bv];exact cs
          clear bv cs ad cQ;go_wp2_with fail
          go_quiet (fail)
          obtain⟨n2,hn⟩:=nm (eC.drewN nq);have lt:Hid (n2=w4.drewN (m+nq)):=Z (by rw[<-hn,<-i8,World.drewN_drewN]);rw[hn];clear hn y0 i1 nd;go_wp2_with fail
          go_roundw
          case rel=>exact⟨k+1,m+nq,by omega,by go_num,lt⟩
          case measure=>simp[intOf];omega
         ·clear bv ad cQ
          go_wp2_with fail
          go_meet
          exact⟨m,i8.symm⟩
       case rest=>
        obtain⟨m,et⟩:=hcut;have li:=Z et;have y0:wc.cell? (B,0)=some (.slice ac c1 ii):=by rw[et];exact ad
        have i1:wc.cell? (B,1)=some (.slice ci W ck):=by rw[et];exact cQ
        clear et ad cQ;go_wp2_with fail
        go_quiet (fail)
        go_wp2_with fail
        go_ret3;have eL:Ch ag w4 (wc.drewN nq):=by rw[li];exact((Ch.refl _ _).drewN _).drewN _
        refine⟨_,_,rfl,?_,?_,?_⟩
        ·have a0:=ar ll eL (fun _ _ e=>e)
         rw[cd,R];exact a0
        ·have a0:=ar i6 eL (fun _ _ e=>e)
         rw[fb,R];exact a0
        ·exact(Ch.bY (by rw[R];exact lc)).trans eL
      ·cases Y
 ·cases h
def Ec(w:World)(B:Nat)(v:Value)(l:List aV)(loop:Int)(calls:List br):Prop:=
 ∃a b,v=.agg #[a,loop,b]/\w.ownsRow B 121 7 a l.length (l.flatMap dg)/\w.ownsRow B 49 6 b calls.length (calls.flatMap br.cells)
def od(l:List aV)(loop:Int)(calls:List br)(w:World)(e:Ending)(w':World):Prop:=∃v,e=.returned v/\Ec w' w.heap.size v l loop calls/\Ch ag w w'
def jk:List aV×List (ByteArray×Int):=(ix ⟨#[108,111,111,112,58,10,105,106,116,32,114,49,10,114,117,110,32,114,49,10,106,109,112,32,108,111,111,112,10,121,105,101,108,100,58,10,121,108,100,10,102,105,110,10]⟩).getD ([],[])
theorem xn:ix ⟨#[108,111,111,112,58,10,105,106,116,32,114,49,10,114,117,110,32,114,49,10,106,109,112,32,108,111,111,112,10,121,105,101,108,100,58,10,121,108,100,10,102,105,110,10]⟩=some jk:=by kernel_rfl
theorem mm{w:World}{g B n:Nat}{e:TypeId}{s:Nat}{a:List Value}(h:Row w g e a)(b:a.length=n*s)(d:n<=1000000000)(c:B<=g):w.ownsRow B e s (.slice (some (g,0)) n n) n a:=
 ⟨b,Or.inr ⟨g,n,a.toArray,rfl,c,h,Nat.le_refl _,by unfold maxLen;omega,by simpa using b,by simp[<-b]⟩⟩
theorem xo(w:World):Calls prog 24 #[] w (od jk.1 0 [⟨6,3,0,0,0,0⟩] w):=by
 have z:=Z (fun w=>lL _ _ xn w);go_enter func24,ntmps24
 go_wp2_with fail
 obtain⟨s,c⟩:=nm (w.alloc (.cells #[.slice none 0 0,.int .i64 0,.slice none 0 0] 33));obtain⟨a,d⟩:=nm w.heap.size;have B:Hid (Row s a 33 [.slice none 0 0,.int .i64 0,.slice none 0 0]):=Z (by rw[<-c,<-d];exact Row.new _ _ _);have t:=Z (Ch.al (D:=ag) c);have A:Hid (s.heap.size=a+1):=Z (by rw[<-c,<-d];simp);have E:=Z d;rw[c,d];clear c d;refine(z _).mono ?_;rintro e w1 ⟨P,Q,rfl,l,H,m⟩;have p:=Z l;have u:=Z m;obtain⟨ac,h,rfl⟩:=aA l;have b:=Z (B.ch m (fun e=>e));obtain⟨y0,R,S⟩:=b.c3;have f0:=b.free 0;have f1:=b.free 1;have f2:=b.free 2;have M:a<w1.heap.size:=b.lt;obtain⟨f,k⟩:=nm jk.1.length;rw[k];have y:=Z k;clear l H m k;go_wp2_with fail
 obtain⟨n,j⟩:=nm ((((w1.setCell (a,0) (.slice ac f h)).setCell (a,1) (.int .i64 0)).setCell (a,2) (.slice (some (w1.heap.size,0)) 1 1)).alloc (.cells #[.int .i64 6,.int .i64 3,.int .i64 0,.int .i64 0,.int .i64 0,.int .i64 0] 49));rw[j];have o:Ch (aK a) w1 n:=by rw[<-j];exact((((Ch.refl _ _).only _ _).only _ _).only _ _).alloc _
 have C:Row n a 33 [.slice ac f h,.int .i64 0,.slice (some (w1.heap.size,0)) 1 1]:=by rw[<-j];exact(((b.set 0 _).set 1 _).set 2 _).alloc _
 have x:Row n w1.heap.size 49 [.int .i64 6,.int .i64 3,.int .i64 0,.int .i64 0,.int .i64 0,.int .i64 0]:=by
  rw[<-j];have r:=Row.new (((w1.setCell (a,0) (.slice ac f h)).setCell (a,1) (.int .i64 0)).setCell (a,2) (.slice (some (w1.heap.size,0)) 1 1)) #[.int .i64 6,.int .i64 3,.int .i64 0,.int .i64 0,.int .i64 0,.int .i64 0] 49;simpa using r
 obtain⟨I,J,K⟩:=C.c3;refine bodyPost_ret (v:=.agg #[.slice ac f h,.int .i64 0,.slice (some (w1.heap.size,0)) 1 1]) ?_ rfl ?_
 ·simp[results,Tryz.f24,go_sem,I,J,K]
 ·have N:=A.out
  have O:=E.out;refine⟨_,rfl,⟨_,_,rfl,?_,?_⟩,?_⟩
  ·have q:=ar p o (fun g G e=>by have F:g=a:=e;have:=(bJ p G).1;omega)
   rw[y]at q⊢;exact dM q (by omega)
  ·exact mm x rfl (by decide) (by have:=b.lt;omega)
  ·exact(t.trans u).fresh o (fun i L e=>by have F:i=a:=e;omega)
end Go.Proofs.YtfnilkpkogipfaaGreatDoor
