/- A part of this proof. -/
import Derived.Lib.ItoaLen
import Derived.Test.YthbhmjdcfocphaaGreatDoorKW
import Derived.Test.YthbhmjdcfocphaaGreatDoorKX
import Derived.Test.YthbhmjdcfocphaaGreatDoorG4
set_option linter.all false
set_option maxHeartbeats 16000000
set_option maxRecDepth 100000
namespace Go.Proofs.YthbhmjdcfocphaaGreatDoor
open Go.Value renaming string→H, slice→δ, pointer→ε, int→θ
open Go.Obj renaming cells→ζ
open Go.Ending renaming returned→η
open Go.IntKind renaming i64→ι
open _root_ renaming ByteArray→I, List→L, Int→J, UInt8→aE
open Go.Lib renaming hid→G, decDigits→Y, itoa_length_le→Λ
open Go renaming run_string_add_sum→π, World→aN, Calls→aP
open Go.Proofs.Tryz renaming prog→υ
open Mo renaming Fd→M, yT→V, s_→az, AG→aA, Ja→aG, DO→aI, En→aL, okF→aM
open Jv renaming pZ→N, yR→U, enc→Z, qN→aK, jA→aO, uN→aQ, BE→aR, jF→aS, jE→aT
open List renaming length→Δ
open Js renaming quote→Θ
open Go.IntWalk renaming i64_in→ah
open Go.ByteArray renaming toList_eq→aj
open Bool renaming true→O, false→aJ
open UInt8 renaming ofNat→ay
open Me renaming JB→aH
namespace R2
open RowKit Rw Vf Mw
def tm(n:J):(0<=n/\n.tmod 10=n%10/\n.tdiv 10=n/10)\/(n<0/\n.tmod 10=-((-n)%10)/\n.tdiv 10=-((-n)/10)):=by
 by_cases a:0<=n
 ·exact .inl ⟨a,iA a,jB a⟩
 ·have e:n=-(-n):=by omega
  refine .inr ⟨by omega,?_,?_⟩
  ·rw[e,Int.neg_tmod,iA (by omega)];simp
  ·rw[e,Int.neg_tdiv,jB (by omega)];simp
def Xx{m:J}(d: -10<m)(e:m<10):Y m.natAbs=[ay (48+(m.tmod 10).natAbs)]:=by
 rw[Y,iD (by omega)];rcases tm m with⟨b,a,c⟩|⟨b,a,c⟩
 ·rw[a,show(m%10).natAbs=m.natAbs by omega]
 ·rw[a,show(-(-m%10)).natAbs=m.natAbs by omega]
def Xy{m:J}(c:¬(-10<m/\m<10)):Y m.natAbs=Y (m.tdiv 10).natAbs++[ay (48+(m.tmod 10).natAbs)]:=by
 rw[Y,iC (by omega)];rcases tm m with⟨c,a,b⟩|⟨c,a,b⟩
 ·rw[a,b,show(m%10).natAbs=m.natAbs%10 by omega,show(m/10).natAbs=m.natAbs/10 by omega]
 ·rw[a,b,show(-(-m%10)).natAbs=m.natAbs%10 by omega,show(-(-m/10)).natAbs=m.natAbs/10 by omega]
def rd_one(w:aN)(b:aE):Rd (w.alloc (ζ #[.int .u8 b.toNat] 5)) (δ (some ⟨w.heap.size,0,none⟩) 1 1) [b]:=
 .inr ⟨w.heap.size,1,#[.int .u8 b.toNat],_,rfl,pG w _,by simp,rfl⟩
def G1(n:J)(Q: -9223372036854775808<=n)(R:n<=9223372036854775807)(W:aN):
 aP υ 149 #[θ ι n] W λe w'=>e=η (H ⟨(U n).toArray⟩)/\Below W.heap.size W w':=by
 have ad:=G (Λ n Q R)
 have t:Hid (U n=if n<0 then 45::Y n.natAbs else Y n.natAbs):=G (by
  unfold U Lib.itoa
  by_cases b:n<0
  ·rw[oD b,oD b]
  ·rw[oU b,oU b,show n.toNat=n.natAbs by omega])
 go_enter Tryz.func149,Tryz.ntmps149
 go_wp2_with fail
 go_loopw [3,4] (λx a2 wr=>∃(s:I)(m:J),x=H s/\a2=θ ι m/\Hid ((-9223372036854775808<=m/\m<=9223372036854775807)/\Y n.natAbs=Y m.natAbs++s.data.toList)/\Hid (Below W.heap.size W wr)) (λx a2 _=>(intOf a2).natAbs)
 case atStart=>exact⟨_,n,rfl,rfl,G ⟨⟨Q,R⟩,by simp⟩,G (pH _ _)⟩
 case round=>
  obtain⟨s,m,rfl,rfl,al,a6⟩:=hrel;obtain⟨⟨ax,aB⟩,a0⟩:=al.o;have D:=G a0;have an:=a6.o;obtain⟨d,a1,au⟩:∃d:Nat,d=(m.tmod 10).natAbs/\d<10:=⟨_,rfl,by rcases tm m with⟨b,S,T⟩|⟨b,S,T⟩<;>omega⟩;obtain⟨r,ar⟩:=pL (m.tmod 10);obtain⟨q,aq⟩:=pL (m.tdiv 10);have o:=G (show(-9223372036854775808<=q/\q<=9223372036854775807)/\(¬(-10<m/\m<10)->q.natAbs<m.natAbs) by rcases tm m with⟨b,S,T⟩|⟨b,S,T⟩<;>omega);have p:=G (Xy (m:=m));have u:=G (Xx (m:=m));rw[ar] at a1 p u;rw[aq] at p;rw[<-a1] at p u;have aC: -10<r:=(by omega);have aD:r<10:=(by omega);have aF:IntKind.i64.wrap r=r:=ah _ (by omega);have aU:IntKind.i64.wrap q=q:=ah _ (by have:=o.o;omega);have aV:IntKind.i64.wrap (48+(d:J))=48+(d:J):=ah _ (by omega)
  have aW:IntKind.u8.wrap (48+(d:J))=48+(d:J):=by have:(48+(d:J))=((48+d:Nat):J):=(by omega);rw[this];exact IntWalk.u8_in _ (by omega)
  have ab:((ay (48+d)).toNat:J)=48+(d:J):=by rw[UInt8.toNat_ofNat'];omega
  have a3:=G (rd_one wr (ay (48+d)));rw[ab] at a3;have a9:=a3.o.conv;have a7:=pM wr (ζ #[.int .u8 (48+(d:J))] 5);have i:=pR a6 a7;obtain⟨c,a8⟩:=pL (ay (48+d));rw[a8] at a9 p u
  have F:=G (show s.size<=30 by
   have ai:=nT Δ a0;have ak:=ad.o;have X:(U n).length<=21:=ak;rw[t.o] at X;have av:s.data.toList.length=s.size:=(by simp);rw[o_] at ai
   split at X
   ·rw[oJ] at X;omega
   ·omega)
  have aa:(⟨([c]:L aE).toArray⟩:I).size=1:=rfl;have a5:=λw=>π (P:=υ) w ⟨([c]:L aE).toArray⟩ s (by rw[aa];have:=F.o;omega)
  have j:=G (show((⟨([c]:L aE).toArray⟩:I)++s).data.toList=c::s.data.toList by simp);generalize(⟨([c]:L aE).toArray⟩:I)=C at a9 a5 j;generalize C++s=a at a5 j;have a4:=G (show(r<0-> -r=(d:J))/\(¬r<0->r=(d:J)) from⟨λb=>by omega,λb=>by omega⟩);clear a7 a8 ab aa a0 an a1 Q R
  have ao:(r<0/\IntKind.i64.wrap (-r)=(d:J))\/(¬r<0/\r=(d:J)):=by
   by_cases k:r<0
   ·exact .inl ⟨k,by rw[a4.o.1 k];exact ah _ (by omega)⟩
   ·exact .inr ⟨k,a4.o.2 k⟩
  rcases ao with⟨k,ac⟩|⟨k,ac⟩
  ·by_cases f: -10<m/\m<10
   ·obtain⟨g,A⟩:=f
    have z:=G (show Y n.natAbs=a.data.toList by rw[D.o,u.o g A,j.o];rfl)
    have E:=G (show a.size<=31 by have ae:a.data.toList.length=a.size:=(by simp);have af:s.data.toList.length=s.size:=(by simp);have K:=nT Δ j.o;have:=F.o;rw[oJ] at K;omega)
    by_cases h:n<0
    ·have B:(⟨#[45]⟩:I).size=1:=rfl
     have am:=λw=>π (P:=υ) w ⟨#[45]⟩ a (by rw[B];have:=E.o;omega)
     have l:=G (show(⟨#[45]⟩:I)++a=⟨(U n).toArray⟩ by apply Bs.vo;rw[t.o,oD h,z.o];simp)
     clear B
     go_wp2_with fail
     go_ret;exact⟨by rw[l.o];rfl,i.o⟩
    ·have ap:decide (n<0)=aJ:=o9 h
     have l:=G (show a=⟨(U n).toArray⟩ by apply Bs.vo;rw[t.o,oU h,z.o])
     clear h
     go_wp2_with fail
     go_ret;exact⟨by rw[l.o];rfl,i.o⟩
   ·have y:=G (show Y n.natAbs=Y q.natAbs++a.data.toList by rw[D.o,p.o f,j.o];simp)
    have v:=G (o.o.2 f)
    by_cases g: -10<m
    ·have A:decide (m<10)=aJ:=o9 (λb=>f ⟨g,b⟩)
     clear f
     go_wp2_with fail
     go_roundw
     case rel=>exact⟨a,q,rfl,rfl,G ⟨o.o.1,y.o⟩,i⟩
     case measure=>simp only[intOf];exact v.o
    ·have ag:decide (-10<m)=aJ:=o9 g
     clear f g
     go_wp2_with fail
     go_roundw
     case rel=>exact⟨a,q,rfl,rfl,G ⟨o.o.1,y.o⟩,i⟩
     case measure=>simp only[intOf];exact v.o
  ·have aw:decide (r<0)=aJ:=o9 k
   clear k;subst ac
   by_cases f: -10<m/\m<10
   ·obtain⟨g,A⟩:=f
    have z:=G (show Y n.natAbs=a.data.toList by rw[D.o,u.o g A,j.o];rfl)
    have E:=G (show a.size<=31 by have ae:a.data.toList.length=a.size:=(by simp);have af:s.data.toList.length=s.size:=(by simp);have K:=nT Δ j.o;have:=F.o;rw[oJ] at K;omega)
    by_cases h:n<0
    ·have B:(⟨#[45]⟩:I).size=1:=rfl
     have am:=λw=>π (P:=υ) w ⟨#[45]⟩ a (by rw[B];have:=E.o;omega)
     have l:=G (show(⟨#[45]⟩:I)++a=⟨(U n).toArray⟩ by apply Bs.vo;rw[t.o,oD h,z.o];simp)
     clear B
     go_wp2_with fail
     go_ret;exact⟨by rw[l.o];rfl,i.o⟩
    ·have ap:decide (n<0)=aJ:=o9 h
     have l:=G (show a=⟨(U n).toArray⟩ by apply Bs.vo;rw[t.o,oU h,z.o])
     clear h
     go_wp2_with fail
     go_ret;exact⟨by rw[l.o];rfl,i.o⟩
   ·have y:=G (show Y n.natAbs=Y q.natAbs++a.data.toList by rw[D.o,p.o f,j.o];simp)
    have v:=G (o.o.2 f)
    by_cases g: -10<m
    ·have A:decide (m<10)=aJ:=o9 (λb=>f ⟨g,b⟩)
     clear f
     go_wp2_with fail
     go_roundw
     case rel=>exact⟨a,q,rfl,rfl,G ⟨o.o.1,y.o⟩,i⟩
     case measure=>simp only[intOf];exact v.o
    ·have ag:decide (-10<m)=aJ:=o9 g
     clear f g
     go_wp2_with fail
     go_roundw
     case rel=>exact⟨a,q,rfl,rfl,G ⟨o.o.1,y.o⟩,i⟩
     case measure=>simp only[intOf];exact v.o
end R2
namespace Ms
def zM{b:Type}(f:b->Nat):∀{l:L b}{x:b},x∈l->f x<=(l.map f).sum
 |y::r,x,a=>by
  rw[ou,mu];rcases List.mem_cons.1 a with rfl|a
  ·omega
  ·have:=zM f a
   omega
def tX{b:Type}(f:b->Nat)(a:∀x,1<=f x):∀l:L b,l.length<=(l.map f).sum
 |[]=>by simp
 |y::r=>by
  rw[ou,mu,oJ];have:=tX f a r;have:=a y;omega
def D5{a:Type}(f g:a->Nat)(c:Nat):∀(l:L a),(∀x∈l,f x<=c*g x)->(l.map f).sum<=c*(l.map g).sum
 |[],_=>by simp
 |y::r,h=>by
  rw[ou,mu,ou,mu,Nat.mul_add];have d:=D5 f g c r (λx b=>h x (oH _ b));have e:=h y (oL ..);omega
def rN(s:I):(Θ s.data.toList).length<=6*s.size+2:=by
 have a:=(Js.GM s.data.toList).2;have e:s.data.toList.length=s.size:=by simp
 unfold Θ;rw[e] at a;simp only[oJ,o_,oh];omega
def k_len:(Θ Jv.Vz.data.toList).length=4/\(Θ Jv.wv.data.toList).length=7/\(Θ Jv.Aq.data.toList).length=6/\(Θ Jv.xO.data.toList).length=9/\(Θ Jv.tP.data.toList).length=9/\(Θ Jv.GO.data.toList).length=6/\(Θ Jv.xP.data.toList).length=9:=by decide+kernel
def KU(e:aL):1<=aI e:=by unfold aI;omega
def wtP_pos(p:I):1<=aG p:=by unfold aG;omega
def RT(f:M):1<=V f:=by unfold V;omega
def Cz(u:J):Prop:=-9223372036854775808<=u/\u<=9223372036854775807
structure Sz(f:M):Prop where
 s:f.id.size+f.title.size+f.link.size<=5000
 p:∀p∈f.path,p.size<=5000
 e:∀e∈f.pU,e.id.size+e.title.size+e.link.size+e.content.size<=5000
def sz_of{f:M}(a:V f<=5000):Sz f:=by
 unfold V at a;refine⟨by omega,λp d=>?_,λe c=>?_⟩
 ·have b:=zM aG d
  unfold aG at b a;omega
 ·have b:=zM aI c
  unfold aI at b a;omega
def sz_all{a:L M}(b:aA a<=5000):∀f∈a,Sz f:=λf c=>by
 have d:=zM V c;unfold aA at b;exact sz_of (by omega)
def XB(e:aL)(i:e.id.size+e.title.size+e.link.size+e.content.size<=5000)(a:Cz e.upd):(Z (aT e)).length+1<=76*aI e:=by obtain⟨b,c,f,g,h,-,-⟩:=k_len;have d:=Λ e.upd a.1 a.2;have j:=rN e.id;have k:=rN e.title;have l:=rN e.link;have m:=rN e.content;unfold aI;rw[nM (by omega)];unfold aT;simp only[Z,Jv.wS,Jv.yf,N,U,oJ,o_,oh,b,c,f,g,h];omega
def XC(f:M)(a:Sz f)(c:Cz f.upd)(g:∀e∈f.pU,Cz e.upd):(Z (aS f)).length+1<=87*V f:=by
 obtain⟨i,j,k,-,l,m,n⟩:=k_len;have d:=Λ f.upd c.1 c.2;have v:=rN f.id;have w:=rN f.title;have x:=rN f.link
 have t:(N (aK (f.path.map Jv.J.str))).length<=6*(f.path.map aG).sum:=by refine pF (aR _) ?_;rw[aQ,mL,mL];refine D5 _ aG 6 f.path (λp h=>?_);have o:=a.p p h;have q:=rN p;unfold aG;rw[nM (by omega)];simp only[Function.comp,Z];omega
 have r:(N (aK (f.pU.map aT))).length<=76*(f.pU.map aI).sum:=by refine pF (aR _) ?_;rw[aQ,mL,mL];refine D5 _ aI 76 f.pU (λe b=>?_);exact XB e (a.e e b) (g e b)
 unfold V;have u:=a.s;rw[nM (by omega)];unfold aS;simp only[Z,Jv.wS,Jv.yf,N,U,oJ,o_,oh,i,j,k,l,m,n];omega
def XD(a:L M)(d:aA a<=10000)(g:∀f∈a,Sz f)(c:∀f∈a,Cz f.upd/\∀e∈f.pU,Cz e.upd):(Z (aO a)).length<=1000000:=by
 have h:(N (aK (a.map aS))).length<=87*(a.map V).sum:=by refine pF (aR _) ?_;rw[aQ,mL,mL];refine D5 _ V 87 a (λf b=>?_);exact XC f (g f b) (c f b).1 (c f b).2
 unfold aA at d;unfold aO;simp only[Z,oJ,o_,oh];omega
def Ba{s:I}(a:s.size<=1000000):aH (.str s):=by unfold aH;exact a
def XE{n:J}(a:Cz n):aH (.int n):=by unfold aH;exact a
def key_ok:Jv.Vz.size<=1000000/\Jv.wv.size<=1000000/\Jv.Aq.size<=1000000/\Jv.xO.size<=1000000/\Jv.tP.size<=1000000/\Jv.GO.size<=1000000/\Jv.xP.size<=1000000:=by decide+kernel
def jA_jb(a:L M)(n:aA a<=10000)(d:∀f∈a,Sz f)(i:∀f∈a,Cz f.upd/\∀e∈f.pU,Cz e.upd):aH (aO a):=by
 obtain⟨j,k,l,u,m,v,w⟩:=key_ok;have A:=tX V RT a;unfold aA at n;unfold aO;unfold aH;rw[Me.wV];refine⟨by rw[oS];omega,λx t=>?_⟩;obtain⟨f,b,rfl⟩:=List.mem_map.1 t;have C:=zM V b;have r:V f<=10000:=by omega
 have h:=(d f b).s;have B:=tX aG wtP_pos f.path;have z:=tX aI KU f.pU;have q:=r;unfold V at q;unfold aS;unfold aH;simp only[Me.JBM,Me.JBP];refine⟨by simp,⟨v,?_⟩,⟨j,Ba (by omega)⟩,⟨k,Ba (by omega)⟩,⟨l,Ba (by omega)⟩,⟨m,XE (i f b).1⟩,⟨w,?_⟩,trivial⟩
 ·unfold aH
  rw[Me.wV];refine⟨by rw[oS];omega,λy c=>?_⟩;obtain⟨s,h,rfl⟩:=List.mem_map.1 c;have o:=(d f b).p s h;exact Ba (by omega)
 ·unfold aH
  rw[Me.wV];refine⟨by rw[oS];omega,λy c=>?_⟩;obtain⟨e,g,rfl⟩:=List.mem_map.1 c;have o:=(d f b).e e g;unfold aT;unfold aH;simp only[Me.JBM,Me.JBP];exact⟨by simp,⟨j,Ba (by omega)⟩,⟨k,Ba (by omega)⟩,⟨l,Ba (by omega)⟩,⟨u,Ba (by omega)⟩,⟨m,XE ((i f b).2 e g)⟩,trivial⟩
end Ms
namespace Ke
open RowKit Rw Vf Mw Me
def bsz(t:I):t.data.toList.length=t.size:=by simp
def sQ(l:L aE):(⟨l.toArray⟩:I).data.toList=l:=by simp
def xR(a b:I):(a++b).data.toList=a.data.toList++b.data.toList:=by simp
abbrev qt(s:I):L aE:=Θ s.data.toList
def Qs(s:I):Prop:=s.size<=1000000/\Lib.validD s.data.toList=O
def G3(l:L I)(v:Value)(W:aN)(a2:Rw W v 1 (l.map p_))(a6:∀s∈l,Qs s)(ak:l.length<=1000000)(B:(N (l.map qt)).length<=1000000000):
 aP υ 218 #[v] W λe w'=>e=η (H ⟨(N (l.map qt)).toArray⟩)/\Below W.heap.size W w':=by
 obtain⟨g,ax,ao,cap,rfl,A,a4⟩:=qp a2;obtain⟨S,f⟩:=pL (l.map qt);have p:Hid (S.length=l.length/\∀j(ai:j<l.length)(ae:j<S.length),S[j]=qt l[j]):=G ⟨by rw[<-f];simp,λj ai ae=>by simp only[<-f,oG]⟩;rw[f] at B|-;have R:=G B;obtain⟨m,C⟩:=pL l.length;rw[C] at A ak|-;have X:=G C;have a7:=G A;have a8:=G a4;have ab:=G a6;clear a2 A a4 C f B a6
 go_enter Tryz.func218,Tryz.ntmps218
 go_wp2_with fail
 go_loopw [3,4] (λx F wr=>∃(t:I)(i:Nat),i<=m/\x=H t/\F=θ ι i/\Hid (t.data.toList=N (S.take i))/\Hid (Below W.heap.size W wr)) (λx F _=>m-(intOf F).toNat)
 case atStart=>exact⟨_,0,oM _,rfl,rfl,G (by simp[N]),G (pH _ _)⟩
 case round=>
  obtain⟨t,i,au,rfl,rfl,h,k⟩:=hrel
  by_cases al:i<m
  ·obtain rfl:=a7.o (by omega)
   have n:i<l.length:=(by rw[X.o];exact al);have a5:i<S.length:=(by rw[p.o.1];exact n);have K:=pI (a8.o i n) k.o;have D:=ab.o _ (pq n);have b:=G (λu=>Jw.P0 l[i] u (by have:=D.1;omega) D.2);have q:=G (p.o.2 i n a5);generalize l[i]=s at K b q;have r:=G (Jv.Cy S i a5);have T:=G (xS S (i+1));generalize S[i]=am at q r;obtain⟨Q,z⟩:∃Q:I,(⟨(qt s).toArray⟩:I)=Q:=⟨_,rfl⟩;have a0:=G (show Q.data.toList=am by rw[<-z,sQ,q.o]);change Hid (∀u,aP _ _ _ u λe w'=>e=η (.tuple #[H ⟨(qt s).toArray⟩,_])/\_) at b;rw[z] at b;clear z D;have aw:(i:J)<(m:J):=(by omega);have av:(0:J)<=(i:J):=by omega
   by_cases d:i=0
   ·have ad:decide ((0:J)<(i:J))=aJ:=o9 (by omega)
    have ap:¬(0:J)<(i:J):=(by omega);have ac:¬0<i:=(by omega)
    have a:Hid ((t++Q).data.toList=N (S.take (i+1))):=G (by rw[xR,h.o,a0.o,r.o,oD d,d];simp[N])
    have E:t.size+Q.size<=1000000000:=by have y:=nT Δ a.o;rw[xR,o_,bsz,bsz] at y;have:=T.o;have:=R.o;omega
    have af:=λw=>π (P:=υ) w t Q (by omega)
    generalize t++Q=t2 at a af;clear d E
    go_wp2_with fail
    refine(b.o _).mono ?_;rintro e an⟨rfl,c⟩;have o:=pR k c;clear c b K
    go_wp2_with fail
    go_roundw
    case rel=>exact⟨t2,i+1,by omega,rfl,by go_num,a,o⟩
    case measure=>simp[intOf];omega
   ·have ad:decide ((0:J)<(i:J))=O:=nK (by omega)
    have aq:(0:J)<(i:J):=(by omega);have ac:0<i:=(by omega)
    have a:Hid ((t++(⟨#[44]⟩:I)++Q).data.toList=N (S.take (i+1))):=G (by rw[xR,xR,h.o,a0.o,r.o,oU d];simp)
    have E:t.size+1+Q.size<=1000000000:=by have y:=nT Δ a.o;rw[xR,xR,o_,o_,bsz,bsz,bsz] at y;have a1:(⟨#[44]⟩:I).size=1:=rfl;have:=T.o;have:=R.o;omega
    have ag:=λw=>π (P:=υ) w t ⟨#[44]⟩ (by have a1:(⟨#[44]⟩:I).size=1:=rfl;omega)
    have a3:=λw=>π (P:=υ) w (t++⟨#[44]⟩) Q (by rw[nW];have a1:(⟨#[44]⟩:I).size=1:=rfl;omega)
    generalize t++(⟨#[44]⟩:I)=t1 at a ag a3;generalize t1++Q=t2 at a a3;clear d E
    go_wp2_with fail
    refine(b.o _).mono ?_;rintro e an⟨rfl,c⟩;have o:=pR k c;clear c b K
    go_wp2_with fail
    go_roundw
    case rel=>exact⟨t2,i+1,by omega,rfl,by go_num,a,o⟩
    case measure=>simp[intOf];omega
  ·have ar:decide ((i:J)<(m:J))=aJ:=o9 (by omega)
   have aa:Hid (S.take i=S):=G (oP (by rw[p.o.1,X.o];omega));rw[aa.o] at h;have a9:Hid (t=⟨(N S).toArray⟩):=G (Bs.vo (by rw[h.o,sQ]))
   go_wp2_with fail
   go_ret;exact⟨by rw[a9.o];rfl,k.o⟩
def RU(e:aL):Mg.vE e=91::(N ([e.id,e.title,e.link,e.content].map qt)++44::(U e.upd++[93])):=by unfold Mg.vE;simp[Z,aK,N]
def RV(f:M):Mg.gL f=91::91::(N (f.path.map qt)++93::44::(N ([f.id,f.title,f.link].map qt)++44::(U f.upd++[93]))):=by
 unfold Mg.gL;have:(f.path.map Jv.J.str).map Z=f.path.map qt:=by rw[mL];apply mV;intro s _;simp[Z]
 simp[Z,aK,N,aQ,this]
structure AD(e:aL):Prop where
 id:Qs e.id
 title:Qs e.title
 link:Qs e.link
 content:Qs e.content
 upd: -9223372036854775808<=e.upd/\e.upd<=9223372036854775807
 len:(Mg.vE e).length<=1000000
structure KH(f:M):Prop where
 id:Qs f.id
 title:Qs f.title
 link:Qs f.link
 yc:f.path.length<=64
 path:∀p∈f.path,Qs p
 upd: -9223372036854775808<=f.upd/\f.upd<=9223372036854775807
 len:(Mg.gL f).length<=1000000
def G5(l:L aE):Θ l≠[]:=by simp[Θ]
def K_{a:L aE}{r:L (L aE)}(c:a≠[]):N (a::r)≠[]:=by
 cases r with
 |nil=>exact c
 |cons b r=>simp[N]
def ba_mk{b:I}{l:L aE}(a:b.data.toList=l):b=⟨l.toArray⟩:=Bs.vo (by rw[a,sQ])
def cat{a b:I}(c:a.size+b.size<=2000000000):∃t:I,(∀w,(Op.stringOp .add a b).run υ w= .ok (H t) w)/\t.data.toList=a.data.toList++b.data.toList/\t.size=a.size+b.size:=
 ⟨a++b,λw=>π (P:=υ) w a b (by omega),xR a b,nW⟩
def ne_nil{b:I}{l:L aE}(c:b.data.toList=l)(d:l≠[]):b.toList.isEmpty=aJ/\¬b.toList=[]:=by
 rw[aj,c]
 cases l with
 |nil=>exact absurd rfl d
 |cons a r=>exact⟨rfl,by simp⟩
def VJ{w:aN}{X:Nat}(a:w.heap.size=X)(l:L I)(t:TypeId)(cap:Nat):Rw (w.alloc (ζ (l.map Value.string).toArray t)) (δ (some ⟨X,0,none⟩) l.length cap) 1 (l.map p_):=by subst a;exact sL w l t cap
def XF(e:aL)(d:AD e)(w:aN):
 aP υ 217 #[.agg (pO e).toArray] w λx w'=>x=η (H ⟨(Mg.vE e).toArray⟩)/\Below w.heap.size w w':=by
 rw[RU];have f:=d.len;rw[RU] at f;obtain⟨i,t,l,c,u⟩:=e;have a4:=vh (w:=w) (x0:=H i) (x1:=H t) (x2:=H l) (x3:=H c) (x4:=θ ι u) (t:=53);have K:=pM w (ζ #[H i,H t,H l,H c,θ ι u] 53)
 have T:∀s∈[i,t,l,c],Qs s:=by
  intro s W;simp only[ox,oy,nw] at W;rcases W with rfl|rfl|rfl|rfl
  all_goals first|exact d.id|exact d.title|exact d.link|exact d.content
 simp only at f|-;have k:=K_ (r:=[t,l,c].map qt) (G5 i.data.toList);change N ([i,t,l,c].map qt)≠[] at k;have h:=G (λ(u:aN) (g:Nat) (a7:u.heap.size=g)=>G3 [i,t,l,c] (δ (some ⟨g,0,none⟩) 4 4) (u.alloc (ζ #[H i,H t,H l,H c] 9)) (VJ a7 [i,t,l,c] 9 4) T (by simp) (by simp at f|-;omega));have z:=G (λv=>R2.G1 u d.upd.1 d.upd.2 v);obtain⟨n,F⟩:=pL (N ([i,t,l,c].map qt));rw[F] at h f k|-;obtain⟨Q,p⟩:∃Q:I,(⟨n.toArray⟩:I)=Q:=⟨_,rfl⟩;obtain⟨j,o⟩:∃j:I,(⟨(U u).toArray⟩:I)=j:=⟨_,rfl⟩;have m:Q.data.toList=n:=by rw[<-p,sQ]
 have y:j.data.toList=U u:=by rw[<-o,sQ]
 rw[p] at h;rw[o] at z;obtain⟨al,am⟩:=ne_nil m k;have X:=nT Δ m;have a0:=nT Δ y;rw[bsz] at X a0;simp only[oJ,o_,oh] at f;have ac:(⟨#[91]⟩:I).size=1:=rfl;have ad:(⟨#[44]⟩:I).size=1:=rfl;have ae:(⟨#[93]⟩:I).size=1:=rfl;obtain⟨a8,af,B,c1⟩:=cat (a:=⟨#[91]⟩) (b:=Q) (by omega);obtain⟨a9,ag,C,c2⟩:=cat (a:=a8) (b:=⟨#[44]⟩) (by omega);obtain⟨aa,ai,D,a5⟩:=cat (a:=a9) (b:=j) (by omega);obtain⟨ab,ak,E,a6⟩:=cat (a:=aa) (b:=⟨#[93]⟩) (by omega);have a3:Hid (ab=⟨(91::(n++44::(U u++[93]))).toArray⟩):=G (ba_mk (by rw[E,D,C,B,m,y];simp));have A:=G K;clear d T f F p o m y k X a0 ac ad ae B C D E c1 c2 a5 a6 K
 show aP υ 217 #[.agg #[H i,H t,H l,H c,θ ι u]] w _
 go_enter Tryz.func217,Tryz.ntmps217
 obtain⟨x0,x1,x2,x3,x4⟩:=a4
 go_wp2_with fail
 refine(h.o _ _ (nI _)).mono ?_;rintro e an⟨rfl,P⟩;have R:=(pH (w.alloc (ζ #[H i,H t,H l,H c,θ ι u] 53)).heap.size (w.alloc (ζ #[H i,H t,H l,H c,θ ι u] 53))).alloc (oZ _) (ζ #[H i,H t,H l,H c] 9);have q:=pK R P;replace x4:=pI x4 q;have a1:=pR A q;clear P R q x0 x1 x2 x3 h A
 go_wp2_with fail
 refine(z.o _).mono ?_;rintro e ao⟨rfl,S⟩;have a2:=pR a1 S;clear S x4
 go_wp2_with fail
 go_ret;exact⟨by rw[a3.o];rfl,a2.o⟩
def XG(f:M)(vp ve:Value)(g:KH f)(w:aN)(F:Rw w vp 1 (f.path.map p_))(aY:∃a n c,ve=δ a n c):
 aP υ 141 #[.agg (pX f vp ve).toArray] w λx w'=>x=η (H ⟨(Mg.gL f).toArray⟩)/\Below w.heap.size w w':=by
 rw[RV];have j:=g.len;rw[RV] at j;obtain⟨p,i,t,l,u,es⟩:=f;obtain⟨a3,a5,a4,rfl⟩:=aY;obtain⟨bj,bk,R,S,rfl,-,-⟩:=qp F;simp only at j F|-;obtain⟨k,z⟩:=pL p.length;have aC:=uS (w:=w) (x0:=δ R k S) (x1:=H i) (x2:=H t) (x3:=H l) (x4:=θ ι u) (x5:=δ a3 a5 a4) (t:=51);have al:=pM w (ζ #[δ R k S,H i,H t,H l,θ ι u,δ a3 a5 a4] 51)
 have aq:∀s∈[i,t,l],Qs s:=by
  intro s ar;simp only[ox,oy,nw] at ar;rcases ar with rfl|rfl|rfl
  all_goals first|exact g.id|exact g.title|exact g.link
 have E:=K_ (r:=[t,l].map qt) (G5 i.data.toList);change N ([i,t,l].map qt)≠[] at E;have q:=G (λu (au:Below w.heap.size w u)=>G3 p (δ R p.length S) u (F.under au) g.path (pF g.yc (by decide)) (by simp at j|-;omega));have A:=G (λu (au:Below w.heap.size w u)=>G3 [i,t,l] (δ (some ⟨u.heap.size,0,none⟩) 3 3) (u.alloc (ζ #[H i,H t,H l] 9)) (sL u [i,t,l] 9 3) aq (by simp) (by simp at j|-;omega));have T:=G (λv=>R2.G1 u g.upd.1 g.upd.2 v)
 have ao:(k=0/\p.map qt=[])\/(0<k/\N (p.map qt)≠[]):=by
  cases p with
  |nil=>exact .inl ⟨by rw[<-z];rfl,rfl⟩
  |cons a r=>exact .inr ⟨by rw[<-z];simp,K_ (G5 _)⟩
 obtain⟨K,C⟩:=pL (N (p.map qt));have ap:(k=0/\K=[])\/(0<k/\K≠[]):=ao.imp (λd=>⟨d.1,by rw[<-C,d.2];rfl⟩) λd=>⟨d.1,by rw[<-C];exact d.2⟩
 obtain⟨a2,ak⟩:=pL (N ([i,t,l].map qt));rw[ak] at A j E|-;rw[C] at q j|-;rw[z] at q;obtain⟨Q,a7⟩:∃Q:I,(⟨a2.toArray⟩:I)=Q:=⟨_,rfl⟩;obtain⟨h,a8⟩:∃h:I,(⟨K.toArray⟩:I)=h:=⟨_,rfl⟩;obtain⟨B,a6⟩:∃B:I,(⟨(U u).toArray⟩:I)=B:=⟨_,rfl⟩;have P:Q.data.toList=a2:=by rw[<-a7,sQ]
 have o:h.data.toList=K:=by rw[<-a8,sQ]
 have a9:B.data.toList=U u:=by rw[<-a6,sQ]
 rw[a7] at A;rw[a8] at q;rw[a6] at T;obtain⟨bg,bh⟩:=ne_nil P E;have aw:=nT Δ P;have ax:=nT Δ a9;have aB:=nT Δ o;rw[bsz] at aw ax aB;simp only[oJ,o_,oh] at j;have b6:(⟨#[91,91]⟩:I).size=2:=rfl;have b7:(⟨#[44]⟩:I).size=1:=rfl;have b8:(⟨#[93]⟩:I).size=1:=rfl;have b9:(⟨#[93,44]⟩:I).size=2:=rfl;obtain⟨aZ,ba,ac,c1⟩:=cat (a:=⟨#[91,91]⟩) (b:=h) (by omega);obtain⟨b0,bb,ad,c2⟩:=cat (a:=aZ) (b:=⟨#[93,44]⟩) (by omega);obtain⟨b1,bc,ae,aD⟩:=cat (a:=b0) (b:=Q) (by omega);obtain⟨b2,bd,af,aF⟩:=cat (a:=b1) (b:=⟨#[44]⟩) (by omega);obtain⟨s5,be,ag,aU⟩:=cat (a:=b2) (b:=B) (by omega);obtain⟨b3,bf,ai,aV⟩:=cat (a:=s5) (b:=⟨#[93]⟩) (by omega);have ab:Hid (b3=⟨(91::91::(K++93::44::(a2++44::(U u++[93])))).toArray⟩):=G (ba_mk (by rw[ai,ag,af,ae,ad,ac,P,a9,o];simp));have av:(k=0/\h.toList.isEmpty=O/\h.toList=[])\/(0<k/\h.toList.isEmpty=aJ/\¬h.toList=[]):=ap.imp (λd=>⟨d.1,by rw[aj,o,d.2];rfl,by rw[aj,o,d.2]⟩) λd=>⟨d.1,ne_nil o d.2⟩
 have W:=G al;have a1:=G av;clear g aq j ak a7 a6 a8 C P a9 o E aw ax aB b6 b7 b8 b9 ac ad ae af ag ai c1 c2 aD aF aU aV al ao ap av F
 show aP υ 141 #[.agg #[δ R p.length S,H i,H t,H l,θ ι u,δ a3 a5 a4]] w _
 rw[z];clear z
 go_enter Tryz.func141,Tryz.ntmps141
 obtain⟨x0,x1,x2,x3,x4,x5⟩:=aC
 go_wp2_with fail
 refine(q.o _ W.o).mono ?_;rintro e b4⟨rfl,m⟩;replace x0:=pI x0 m;replace x1:=pI x1 m;replace x2:=pI x2 m;replace x3:=pI x3 m;replace x4:=pI x4 m;have X:=pR W m;clear m x5 q W
 go_wp2_with fail
 refine(A.o _ X.o).mono ?_;rintro e bl⟨rfl,am⟩;have an:=pM b4 (ζ #[H i,H t,H l] 9);have D:=pK an am;replace x0:=pI x0 D;replace x4:=pI x4 D;have aa:=pR X D;clear am an D x1 x2 x3 A X;rcases a1.o with⟨rfl,aW,aX⟩|⟨bi,aW,aX⟩
 ·clear a1
  go_wp2_with fail
  refine(T.o _).mono ?_;rintro e b5⟨rfl,y⟩;have a0:=pR aa y;clear y x4 x0
  go_wp2_with fail
  go_ret;exact⟨by rw[ab.o];rfl,a0.o⟩
 ·clear a1
  go_wp2_with fail
  refine(T.o _).mono ?_;rintro e b5⟨rfl,y⟩;have a0:=pR aa y;clear y x4 x0
  go_wp2_with fail
  go_ret;exact⟨by rw[ab.o];rfl,a0.o⟩
end Ke
namespace Ms
structure Fit(l:L M):Prop where
 ok:Mo.Dt l=O
 sz:∀f∈l,Sz f
 wt:aA l<=10000
def Fit.of{l:L M}(ok:Mo.Dt l=O)(a:aA l<=5000):Fit l:=⟨ok,sz_all a,by omega⟩
def Fit.okf{l:L M}(a:Fit l){f:M}(b:f∈l):aM f=O:=(Mg.tE Mg.Fi a.ok).1 f b
def Fit.srt{l:L M}(c:Fit l):l.Pairwise λa b=>Mo.tM a b<0:=(Mg.tE Mg.Fi c.ok).2.1
def sz_lat{a b:M}(j:aM a=O)(f:Sz a)(g:Sz b):Sz (Mg.rI a b):=by
 have d:Sz (Mg.sx a b):=by
  unfold Mg.sx
  split
  ·exact g
  ·exact f
 have i:∀h∈b.pU.foldl Mg.yh a.pU,(λe:aL=>e.id.size+e.title.size+e.link.size+e.content.size<=5000) h:=
  (Mg.RW (b:=b) j).prop (λx h c k=>by
    unfold Mg.rQ
    split
    ·exact k
    ·exact c) λx c=>by
    rcases List.mem_append.1 c with c|c
    ·exact f.e x c
    ·exact g.e x c
 exact⟨d.s,d.p,i⟩
def Fit.ER{a b:L M}(d:Fit a)(e:Fit b)(k:aA a<=5000)(l:aA b<=5000):Fit (Mg.ER a b):=by
 have j:=Mg.wt_mrg a b;refine⟨Mg.okA_mrg d.ok e.ok,λf h=>?_,by omega⟩;refine((Mg.XH a b).prop (P:=λf=>aM f=O/\Sz f) (λx i c g=>⟨Mg.RX x i c.1 g.1,sz_lat c.1 c.2 g.2⟩) (λx c=>?_) f h).2;rcases List.mem_append.1 c with c|c
 ·exact⟨d.okf c,d.sz x c⟩
 ·exact⟨e.okf c,e.sz x c⟩
structure OkFd(f:M):Prop where
 yc:f.path.length<=64
 path:∀p∈f.path,az p=O
 id:az f.id=O
 title:az f.title=O
 link:az f.link=O
 upd:Cz f.upd
 pU:∀e∈f.pU,az e.id=O/\az e.title=O/\az e.link=O/\az e.content=O/\Cz e.upd
def up_of{t:J}(a:Mo.IB t=O):Cz t:=by unfold Mo.IB at a;simp only[oz,nP] at a;unfold Cz;omega
def Pz{f:M}(a:aM f=O):OkFd f:=by unfold aM at a;simp only[oz,nP,mF] at a;obtain⟨⟨⟨⟨⟨⟨⟨j,k⟩,u⟩,l⟩,m⟩,n⟩,o⟩,q⟩:=a;refine⟨j,λp s=>(k p s).2,m,n,o,up_of l,λe r=>?_⟩;have b:=(Mg.tE Mg.AA q).1 e r;unfold Mo.zv at b;simp only[oz] at b;obtain⟨⟨⟨⟨⟨t,c⟩,d⟩,g⟩,h⟩,i⟩:=b;exact⟨d,g,h,i,up_of c⟩
def Fit.len{l:L M}(a:Fit l):l.length<=10000:=by have c:=tX V RT l;have b:=a.wt;unfold aA at b;omega
def Fit.each{l:L M}(a:Fit l){f:M}(c:f∈l):f.pU.length<=10000/\f.path.length<=64/\V f<=10000:=by
 have g:=zM V c;have d:=a.wt;have h:=tX aI KU f.pU;have e:=(Pz (a.okf c)).yc;unfold aA at d;have b:V f<=10000:=by omega
 refine⟨?_,e,b⟩;unfold V at b;omega
def Fit.bd{l:L M}(a:Fit l):Mw.IA l:=by refine⟨by have:=a.len;omega,λf b=>?_⟩;have c:=a.sz f b;have g:=Pz (a.okf b);have k:=a.each b;have i:=c.s;refine⟨by omega,by omega,by omega,by omega,λp h=>by have:=c.p p h;omega,by omega,λe d=>?_,g.upd⟩;have j:=c.e e d;exact⟨by omega,by omega,by omega,by omega,(g.pU e d).2.2.2.2⟩
def Fit.up{l:L M}(a:Fit l):∀f∈l,Cz f.upd/\∀e∈f.pU,Cz e.upd:=λf b=>⟨(Pz (a.okf b)).upd,λe c=>((Pz (a.okf b)).pU e c).2.2.2.2⟩
def Fit.enc{l:L M}(a:Fit l):Me.Enc l:=⟨a.ok,a.bd,by have:=a.len;omega,λf b=>by have:=(a.each b).1;omega,λf b=>by have:=(a.each b).2.1;omega⟩
def Fit.jb{l:L M}(a:Fit l):aH (aO l):=jA_jb l a.wt a.sz a.up
def Fit.Iz{l:L M}(a:Fit l):(Z (aO l)).length<=1000000:=XD l a.wt a.sz a.up
def Fit.okF{l:L M}(b:Fit l):∀f∈l,Xm.ZM f:=λf c=>by
 have d:=b.sz f c;have a:=Pz (b.okf c);have e:=d.s;exact⟨⟨by omega,by omega,by omega,d.p⟩,a.id,a.title,a.link,a.path⟩
def EU{s:I}(b:s.size<=5000)(a:az s=O):Ke.Qs s:=⟨by omega,Jv.tD a⟩
def enq_of{e:aL}(b:e.id.size+e.title.size+e.link.size+e.content.size<=5000)(a:az e.id=O/\az e.title=O/\az e.link=O/\az e.content=O/\Cz e.upd):Ke.AD e:=by refine⟨EU (by omega) a.1,EU (by omega) a.2.1,EU (by omega) a.2.2.1,EU (by omega) a.2.2.2.1,a.2.2.2.2,?_⟩;have d:=Λ e.upd a.2.2.2.2.1 a.2.2.2.2.2;have c:=rN e.id;have f:=rN e.title;have g:=rN e.link;have h:=rN e.content;unfold Mg.vE;simp only[Z,aK,N,U,oJ,o_,oh];omega
def fdq_of{f:M}(c:Sz f)(a:OkFd f)(e:V f<=10000):Ke.KH f:=by
 have g:=c.s;refine⟨EU (by omega) a.id,EU (by omega) a.title,EU (by omega) a.link,a.yc,λp b=>EU (c.p p b) (a.path p b),a.upd,?_⟩;have d:=Λ f.upd a.upd.1 a.upd.2;have k:=rN f.id;have l:=rN f.title;have m:=rN f.link
 have j:(N (aK (f.path.map Jv.J.str))).length<=6*(f.path.map aG).sum:=by refine pF (aR _) ?_;rw[aQ,mL,mL];refine D5 _ aG 6 f.path (λp b=>?_);have h:=c.p p b;have i:=rN p;unfold aG;rw[nM (by omega)];simp only[Function.comp,Z];omega
 unfold V at e;unfold Mg.gL;simp only[Z,aK,N,U,oJ,o_,oh];omega
end Ms
end Go.Proofs.YthbhmjdcfocphaaGreatDoor
