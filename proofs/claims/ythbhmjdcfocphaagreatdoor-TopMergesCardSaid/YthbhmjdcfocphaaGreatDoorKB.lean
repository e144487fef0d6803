/- A part of this proof. -/
import Derived.Test.YthbhmjdcfocphaaGreatDoorKA0
import Derived.Lib.ItoaNum
import Derived.WalkKit
set_option linter.all false
set_option maxHeartbeats 16000000
namespace Go.Proofs.YthbhmjdcfocphaaGreatDoor
open _root_ renaming ByteArray→M, List→K, UInt8→G, Nat→H, absurd→Δ, Int→X
open pY renaming dec→I, enc→Ω
open Go renaming Value→N, World→U
open Go.Lib renaming validD→π
open Bool renaming true→O, false→Y
open Option renaming some→V, none→Z
open Go.RowKit renaming Below→Ξ
namespace Js
def vD(n:H):G:=if n<10 then UInt8.ofNat (48+n) else UInt8.ofNat (87+n)
def esc(c:G):K G:=
 if c=34\/c=92 then [92,c] else if 32<=c.toNat then [] else if c=8 then [92,98] else if c=12 then [92,102] else if c=10 then [92,110]
 else if c=13 then [92,114] else if c=9 then [92,116] else [92,117,48,48,vD (c.toNat/16),vD (c.toNat%16)]
def q(c:G):K G:=if esc c=[] then [c] else esc c
def body(l:K G):K G:=l.flatMap q
def quote(l:K G):K G:=34::(body l++[34])
def Nv:body []=[]:=rfl
def yE(a b:K G):body (a++b)=body a++body b:=by unfold body;rw[lS]
def xd(c:G)(l:K G):body (c::l)=q c++body l:=rfl
def wP(c:G):(esc c).length<=6:=by unfold esc;repeat' split
                                  all_goals simp
def q_len(c:G):1<=(q c).length/\(q c).length<=6:=by
 unfold q
 by_cases a:esc c=[]
 ·rw[oD a];simp
 ·rw[oU a];exact⟨List.length_pos_iff.2 a,wP c⟩
def GM(l:K G):l.length<=(body l).length/\(body l).length<=6*l.length:=by
 induction l with
 |nil=>simp[body]
 |cons c l ih=>rw[xd];have:=q_len c;simp only[o_,oJ];omega
def Ay(c:H):Option H:=if 48<=c/\c<=57 then V (c-48) else if 97<=c/\c<=102 then V (c-87) else if 65<=c/\c<=70 then V (c-55) else Z
def hx(l:K G):H->Option H
 |0=>V 0
 |i+1=>(hx l i).bind λn=>(Ay (l.getD (2+i) 0).toNat).map λd=>n*16+d
def sI(l:K G):Option H:=if l.length<6\/l.getD 0 0≠92\/l.getD 1 0≠117 then Z else hx l 4
def tj(l:K G):H×H:=
 if l.getD 1 0=34\/l.getD 1 0=92\/l.getD 1 0=47 then((l.getD 1 0).toNat,2)
 else if l.getD 1 0=98 then(8,2) else if l.getD 1 0=102 then(12,2) else if l.getD 1 0=110 then(10,2) else if l.getD 1 0=114 then(13,2) else if l.getD 1 0=116 then(9,2)
 else match sI l with
  |none=>(0,0)
  |some r=>if 56320<=r/\r<=57343 then(0,0) else if r<55296\/57343<r then(r,6)
   else match sI (l.drop 6) with
    |none=>(0,0)
    |some m=>if m<56320\/57343<m then(0,0) else((r-55296)*1024+(m-56320)+65536,12)
def Nw:H->K G->H×H×K G
 |0,_=>(8,0,[])
 |f+1,l=>
  if l=[] then(8,0,[])
  else if(I l).2=0 then(5,0,[])
  else if(I l).1<32 then(6,0,[])
  else if(I l).1=34 then(0,1,[])
  else if(I l).1=92 then
   (if l.length=1 then(8,0,[])
    else if(tj l).2=0 then(16,0,[])
    else((Nw f (l.drop (tj l).2)).1,(tj l).2+(Nw f (l.drop (tj l).2)).2.1,Ω (tj l).1++(Nw f (l.drop (tj l).2)).2.2))
  else((Nw f (l.drop (I l).2)).1,(I l).2+(Nw f (l.drop (I l).2)).2.1,Ω (I l).1++(Nw f (l.drop (I l).2)).2.2)
def parse(l:K G):H×H×K G:=Nw l.length l
def RL{c d:H}(a:Ay c=V d):d<16:=by
 unfold Ay at a
 by_cases b:48<=c/\c<=57
 ·rw[oD b] at a;cases a;omega
 ·rw[oU b] at a
  by_cases e:97<=c/\c<=102
  ·rw[oD e] at a;cases a;omega
  ·rw[oU e] at a
   by_cases f:65<=c/\c<=70
   ·rw[oD f] at a;cases a;omega
   ·rw[oU f] at a;cases a
def Xg(l:K G):∀(i n:H),hx l i=V n->n<16^i
 |0,n,h=>by simp[hx] at h;omega
 |i+1,n,h=>by
  simp only[hx,Option.bind_eq_some_iff,Option.map_eq_some_iff] at h;obtain⟨m,b,d,a,rfl⟩:=h;have:=Xg l i m b;have c:=RL a;rw[Nat.pow_succ];omega
def GN{l:K G}{n:H}(a:sI l=V n):n<65536/\6<=l.length:=by
 unfold sI at a
 split at a
 ·cases a
 ·rename_i b
  exact⟨Xg l 4 n a,by omega⟩
def seqV_bd(l:K G)(e:2<=l.length):(tj l).2<=l.length/\(tj l).1<=1114111/\((tj l).2≠0->(tj l).1<55296\/57343<(tj l).1)/\(tj l).2<=12:=by
 have h:=mY (l.getD 1 0);unfold tj
 split
 ·exact⟨e,by simp only;omega,λ_=>by left;simp only;omega,by simp⟩
 ·split
  ·exact⟨e,by simp,λ_=>by left;simp,by simp⟩
  ·split
   ·exact⟨e,by simp,λ_=>by left;simp,by simp⟩
   ·split
    ·exact⟨e,by simp,λ_=>by left;simp,by simp⟩
    ·split
     ·exact⟨e,by simp,λ_=>by left;simp,by simp⟩
     ·split
      ·exact⟨e,by simp,λ_=>by left;simp,by simp⟩
      ·split
       ·simp
       ·rename_i r g
        obtain⟨a,b⟩:=GN g
        split
        ·simp
        ·split
         ·exact⟨b,by simp only;omega,λ_=>by simp only;omega,by simp⟩
         ·split
          ·simp
          ·rename_i m f
           obtain⟨c,d⟩:=GN f;rw[nN] at d
           split
           ·simp
           ·exact⟨by simp only;omega,by simp only;omega,λ_=>by simp only;omega,by simp⟩
def zq:∀(f g:H)(l:K G),l.length<=f->l.length<=g->Nw f l=Nw g l
 |0,g,l,hf,_=>by
  have:l=[]:=oK (by omega);subst this
  cases g<;>simp[Nw]
 |f+1,0,l,_,hg=>by
  have:l=[]:=oK (by omega);subst this
  simp[Nw]
 |f+1,g+1,l,hf,hg=>by
  unfold Nw
  by_cases a:l=[]
  ·simp[a]
  ·by_cases b:(I l).2=0
   ·simp[a,b]
   ·by_cases c:(tj l).2=0
    ·rw[zq f g (l.drop (I l).2) (by rw[nN];omega) (by rw[nN];omega)]
     simp[c]
    ·rw[zq f g (l.drop (I l).2) (by rw[nN];omega) (by rw[nN];omega),
      zq f g (l.drop (tj l).2) (by rw[nN];omega) (by rw[nN];omega)]
def sO(l:K G)(a:l≠[]):parse l=
 if(I l).2=0 then(5,0,[])
 else if(I l).1<32 then(6,0,[])
 else if(I l).1=34 then(0,1,[])
 else if(I l).1=92 then
  (if l.length=1 then(8,0,[])
   else if(tj l).2=0 then(16,0,[])
   else((parse (l.drop (tj l).2)).1,(tj l).2+(parse (l.drop (tj l).2)).2.1,Ω (tj l).1++(parse (l.drop (tj l).2)).2.2))
 else((parse (l.drop (I l).2)).1,(I l).2+(parse (l.drop (I l).2)).2.1,Ω (I l).1++(parse (l.drop (I l).2)).2.2):=by
 have g:0<l.length:=List.length_pos_iff.2 a;obtain⟨n,b⟩:∃n,l.length=n+1:=⟨l.length-1,by omega⟩;unfold parse
 by_cases e:(I l).2=0
 ·rw[b];simp[Nw,a,e]
 ·by_cases f:(tj l).2=0
  ·rw[b]
   simp only[Nw];rw[oU a,zq n (l.drop (I l).2).length (l.drop (I l).2) (by rw[nN];omega) (oZ _)];rw[b];simp[f]
  ·have c:=zq n (l.drop (I l).2).length (l.drop (I l).2) (by rw[nN];omega) (oZ _)
   have d:=zq n (l.drop (tj l).2).length (l.drop (tj l).2) (by rw[nN];omega) (oZ _);rw[show Nw l.length l=Nw (n+1) l by rw[b]];simp only[Nw];rw[oU a,c,d]
def JJ(n:H)(a:n<16):Ay (vD n).toNat=V n:=by rcases(show n=0\/n=1\/n=2\/n=3\/n=4\/n=5\/n=6\/n=7\/n=8\/n=9\/n=10\/n=11\/n=12\/n=13\/n=14\/n=15 by omega) with rfl|rfl|rfl|rfl|rfl|rfl|rfl|rfl|rfl|rfl|rfl|rfl|rfl|rfl|rfl|rfl<;>rfl
def Eb(c:G)(t:K G)(a:c.toNat<128):I (c::t)=(c.toNat,1):=by unfold I;rw[oU (by simp),Lib.decodeL_ascii c t a,oU (by simp;omega)]
def JK(c:G)(a:c.toNat<128):Ω (c.toNat:X)=[c]:=by apply pY.Cc;rw[pY.w_,pY.K0 a];rfl
def Xh(a b c d:G)(t:K G):sI (92::117::a::b::c::d::t)=
 (Ay a.toNat).bind λx=>(Ay b.toNat).bind λe=>(Ay c.toNat).bind λz=>(Ay d.toNat).map λu=>((x*16+e)*16+z)*16+u:=by
 unfold sI;rw[oU (by simp)];simp only[hx,kC,oI,oF];cases Ay a.toNat<;>simp
 cases Ay b.toNat<;>simp
 cases Ay c.toNat<;>simp
def seq_esc(c:G)(t:K G)(a:esc c≠[]):tj (esc c++t)=(c.toNat,(esc c).length)/\(esc c).getD 0 0=92/\2<=(esc c).length/\c.toNat<128:=by
 unfold esc at a|-
 by_cases b:c=34\/c=92
 ·rw[oD b]
  rcases b with rfl|rfl<;>exact⟨rfl,rfl,by simp,by decide⟩
 ·rw[oU b] at a|-
  by_cases d:32<=c.toNat
  ·rw[oD d] at a;exact Δ rfl a
  ·rw[oU d]
   by_cases e:c=8
   ·subst e;exact⟨rfl,rfl,by simp,by decide⟩
   ·rw[oU e]
    by_cases f:c=12
    ·subst f;exact⟨rfl,rfl,by simp,by decide⟩
    ·rw[oU f]
     by_cases g:c=10
     ·subst g;exact⟨rfl,rfl,by simp,by decide⟩
     ·rw[oU g]
      by_cases h:c=13
      ·subst h;exact⟨rfl,rfl,by simp,by decide⟩
      ·rw[oU h]
       by_cases i:c=9
       ·subst i;exact⟨rfl,rfl,by simp,by decide⟩
       ·rw[oU i]
        refine⟨?_,rfl,by simp,by omega⟩
        have j:sI (92::117::48::48::vD (c.toNat/16)::vD (c.toNat%16)::t)=V c.toNat:=by
         rw[Xh,JJ _ (by omega),JJ _ (by omega)]
         show V ((((48-48)*16+(48-48))*16+c.toNat/16)*16+c.toNat%16)=V c.toNat
         congr 1
         omega
        show tj (92::117::48::48::vD (c.toNat/16)::vD (c.toNat%16)::t)=_
        unfold tj;rw[oU (by simp),oU (by simp),oU (by simp),oU (by simp),oU (by simp),oU (by simp),j]
        show(if 56320<=c.toNat/\c.toNat<=57343 then((0,0):H×H) else if c.toNat<55296\/57343<c.toNat then(c.toNat,6) else _)=_
        rw[oU (by omega),oD (by omega)];rfl
def RM{c:G}(a:esc c=[]):q c=[c]/\32<=c.toNat/\c≠34/\c≠92:=by
 refine⟨by unfold q;rw[oD a],?_,?_,?_⟩
 ·unfold esc at a
  by_cases b:c=34\/c=92
  ·rw[oD b] at a;cases a
  ·rw[oU b] at a
   by_cases d:32<=c.toNat
   ·exact d
   ·rw[oU d] at a
    repeat' split at a
    all_goals cases a
 ·intro e;subst e;exact Δ a (by decide)
 ·intro e;subst e;exact Δ a (by decide)
def Xi{c:G}(a:128<=c.toNat):esc c=[]:=by
 unfold esc
 rw[oU (by
  rintro(rfl|rfl)
  ·exact Δ a (by decide)
  ·exact Δ a (by decide)),oD (by omega)]
def JL:∀(l:K G),(∀c∈l,128<=c.toNat)->body l=l
 |[],_=>rfl
 |c::l,h=>by
  rw[xd,(RM (Xi (h c (by simp)))).1,JL l (λx hx=>h x (by simp[hx]))];rfl
def Xj(r:H)(d:128<=r):∀c∈Ω (r:X),128<=c.toNat:=by
 intro c b;have a:c.toNat∈(Ω (r:X)).map UInt8.toNat:=jG b;rw[pY.w_] at a;unfold pY.vZ at a
 repeat' split at a
 all_goals simp at a
 all_goals omega
def word(l:K G)(b:(I l).2≠0)(h:(I l).1<128):∃c t,l=c::t/\c.toNat=(I l).1/\c.toNat<128/\(I l).2=1:=by
 have e:=pY.K2 l b;obtain⟨i,_,_⟩:=pY.yB b
 cases l with
 |nil=>exact Δ rfl i
 |cons c t=>have f:=pY.D6 (c::t);have a:((c::t).take (I (c::t)).2).map UInt8.toNat=[(I (c::t)).1]:=(by rw[<-e,pY.w_,pY.K0 h]);have g:=nT List.length a;simp only[oS,nQ,oJ,oh] at g;have d:(I (c::t)).2=1:=(by simp only[oJ] at f;omega);rw[d] at a;simp at a;exact⟨c,t,rfl,a,by omega,d⟩
def PL(l:K G)(k:l≠[])(i:π l=O):
 (∃c t,l=c::t/\c.toNat<128/\π t=O)\/
 (∃r a t,l=a++t/\a≠[]/\128<=r/\Ω ((r:H):X)=a/\I a=(r,a.length)/\π t=O):=by
 obtain⟨g,_,b⟩:=pY.JF k i
 by_cases n:(I l).1<128
 ·obtain⟨c,t,rfl,p,m,o⟩:=word l g n
  rw[o] at b;exact .inl ⟨c,t,rfl,m,b⟩
 ·have e:=pY.K2 l g
  have q:=pY.D6 l
  have f:l.take (I l).2≠[]:=by intro h;have j:=nT List.length h;rw[nQ,oh] at j;omega
  have d:=pY.GD (I l).1 _ [] e f;rw[nC] at d;exact .inr ⟨(I l).1,l.take (I l).2,l.drop (I l).2,(l_ _ _).symm,f,by omega,e,d,b⟩
def PM(c:G)(t:K G)(d:c.toNat<128):parse (q c++t)=((parse t).1,(q c).length+(parse t).2.1,c::(parse t).2.2):=by
 by_cases b:esc c=[]
 ·obtain⟨f,r,j,k⟩:=RM b
  have o:c.toNat≠34:=λe=>j (UInt8.toNat_inj.1 e)
  have p:c.toNat≠92:=λe=>k (UInt8.toNat_inj.1 e)
  rw[f]
  show parse (c::t)=_
  rw[sO _ (by simp),Eb c t d];simp only;rw[oU (by omega),oU (by omega),oU o,oU p,JK c d];rfl
 ·obtain⟨n,g,h,_⟩:=seq_esc c t b
  have f:q c=esc c:=(by unfold q;rw[oU b]);rw[f];obtain⟨x,a,i⟩:∃x a,esc c=x::a:=List.exists_cons_of_ne_nil b;have hx:x=92:=(by rw[i] at g;simpa using g);subst hx;rw[sO _ (by simp[b])];rw[n];rw[i] at h|-;rw[mq,Eb 92 (a++t) (by decide)];have m:(92::(a++t)).length≠1:=(by simp only[oJ,o_] at h|-;omega);simp only;rw[oU (by omega),oU (by decide),oU (by decide),oD (by decide),oU m,oU (by simp),JK c d]
  have l:(92::(a++t)).drop (92::a).length=t:=by rw[<-mq,iW]
  rw[l];rfl
def PN(r:H)(a t:K G)(f:128<=r)(b:Ω (r:X)=a)(d:a≠[]):body a=a/\parse (a++t)=((parse t).1,a.length+(parse t).2.1,a++(parse t).2.2):=by
 have e:∀c∈a,128<=c.toNat:=by rw[<-b];exact Xj r f
 refine⟨JL a e,?_⟩;rw[sO _ (by simp[d]),pY.GD r a t b d];have:0<a.length:=List.length_pos_iff.2 d;simp only;rw[oU (by omega),oU (by omega),oU (by omega),oU (by omega),iW,b]
def PO(n:H):∀(s t:K G),s.length<=n->π s=O->parse (body s++t)=((parse t).1,(body s).length+(parse t).2.1,s++(parse t).2.2):=by
 induction n with
 |zero=>
  intro s t b _;have:s=[]:=oK (by omega)
  subst this;simp[body]
 |succ n ih=>
  intro s t b l
  by_cases e:s=[]
  ·subst e;simp[body]
  ·rcases PL s e l with⟨c,u,rfl,h,d⟩|⟨r,a,u,rfl,f,k,i,_,d⟩
   ·rw[xd,m_,PM c _ h,ih u t (by simpa using b) d]
    simp;omega
   ·obtain⟨g,j⟩:=PN r a (body u++t) k i f
    have:0<a.length:=List.length_pos_iff.2 f;rw[yE,g,m_,j,ih u t (by simp at b;omega) d];simp;omega
def Nx(s t:K G)(a:π s=O):parse (body s++34::t)=(0,(body s).length+1,s):=by
 have e:parse (34::t)=(0,1,[]):=by rw[sO _ (by simp),Eb 34 t (by decide)];rfl
 rw[PO _ s _ (oZ _) a,e];simp
def cut(x:H×H×K G):Prop:=x.1=5\/x.1=8\/x.1=16
def PS{l:K G}(a:l.length<6):sI l=Z:=by unfold sI;rw[oD (.inl a)]
end Js
namespace Mo
structure En where
 id:M
 title:M
 link:M
 content:M
 upd:X
structure Fd where
 path:K M
 id:M
 title:M
 link:M
 upd:X
 pU:K En
def IB(t:X):Bool:=decide (-62135596800<=t)&&decide (t<=253402300799)
def s_(s:M):Bool:=decide ((pY.sW s.data.toList).2=0)&&(pY.tC s.data.toList==s.data.toList)
def IV(s:M):Bool:= !s.toList.isEmpty
def tS(a b:M):X:=if Op.bytesLess a.toList b.toList=O then-1 else if(a.toList==b.toList)=O then 0 else 1
def q8:K M->K M->X
 |[],[]=>0
 |[],_::_=>-1
 |_::_,[]=>1
 |a::r,b::s=>if(a.toList==b.toList)=O then q8 r s else tS a b
def tM(f g:Fd):X:=if q8 f.path g.path=0 then tS f.id g.id else q8 f.path g.path
def rS(a b:En):X:=if b.upd<a.upd then-1 else if a.upd<b.upd then 1 else tS a.id b.id
section
variable {α:Type}(sW:α->Bool)(cmp:α->α->X)(id:α->M)
def uu(l:K α)(k:H):Bool:=
 match l[k]? with
 |none=>O
 |some x=>sW x&&(match(if k=0 then Z else l[k-1]?) with|Z=>O|V a=>decide (cmp a x<0))&& !((l.take k).any λa=>((id a).toList==(id x).toList))
def Az(l:K α):H->Bool
 |0=>O
 |k+1=>Az l k&&uu sW cmp id l k
def u6(l:K α):Bool:=Az sW cmp id l l.length
def Cx{l:K α}{k:H}(a:Az sW cmp id l k=Y):∀m,k<=m->Az sW cmp id l m=Y
 |0,hm=>by obtain rfl:k=0:=by omega
           exact a
 |m+1,hm=>by
  by_cases e:k=m+1
  ·rw[<-e];exact a
  ·show(Az sW cmp id l m&&_)=Y
   rw[Cx a m (by omega)];rfl
def uv{l:K α}{k:H}(b:k<l.length)(a:uu sW cmp id l k=Y):u6 sW cmp id l=Y:=
 Cx sW cmp id (k:=k+1) (by show(_&&uu sW cmp id l k)=Y;rw[a,jy]) _ b
def vI{l:K α}(c:u6 sW cmp id l=O):∀x∈l,sW x=O:=by
 have b:∀k,k<=l.length->Az sW cmp id l k=O:=λk b=>by
  cases e:Az sW cmp id l k with
  |true=>rfl
  |false=>have:=Cx sW cmp id e l.length b;unfold u6 at c;rw[c] at this;cases this
 intro x h;obtain⟨i,f,rfl⟩:=mj h;have g:=b (i+1) f;have d:(Az sW cmp id l i&&uu sW cmp id l i)=O:=g;rw[oz] at d;have a:=d.2;unfold uu at a;rw[oW f] at a;simp only[oz] at a;exact a.1.1
end
def zv(e:En):Bool:=IV e.id&&IB e.upd&&s_ e.id&&s_ e.title&&s_ e.link&&s_ e.content
def okF(f:Fd):Bool:=decide (f.path.length<=64)&&f.path.all (λp=>IV p&&s_ p)&&IV f.id&&IB f.upd&&s_ f.id&&s_ f.title&&s_ f.link&&u6 zv rS (·.id) f.pU
def Dt(a:K Fd):Bool:=u6 okF tM (·.id) a
def Ja(p:M):H:=1+min p.size 9000
def DO(e:En):H:=1+min (e.id.size+e.title.size+e.link.size+e.content.size) 9000
def yT(f:Fd):H:=1+min (f.id.size+f.title.size+f.link.size) 9000+(f.path.map Ja).sum+(f.pU.map DO).sum
def AG(a:K Fd):H:=(a.map yT).sum
end Mo
namespace Jv
inductive J where
 |null
 |bool (b:Bool)
 |int (n:X)
 |str (s:M)
 |arr (l:K J)
 |obj (l:K (M×J))
def yR(n:X):K G:=Lib.itoa n
def pZ:K (K G)->K G
 |[]=>[]
 |[a]=>a
 |a::b::r=>a++44::pZ (b::r)
mutual
def enc:J->K G
 | .null=>[110,117,108,108]
 | .bool O=>[116,114,117,101]
 | .bool Y=>[102,97,108,115,101]
 | .int n=>yR n
 | .str s=>Js.quote s.data.toList
 | .arr l=>91::(pZ (qN l)++[93])
 | .obj l=>123::(pZ (wS l)++[125])
def qN:K J->K (K G)
 |[]=>[]
 |a::r=>enc a::qN r
def wS:K (M×J)->K (K G)
 |[]=>[]
 |a::r=>yf a::wS r
def yf:M×J->K G
 |(k,a)=>Js.quote k.data.toList++58::enc a
end
def uN(l:K J):qN l=l.map enc:=by
 induction l with
 |nil=>simp[qN]
 |cons a r ih=>simp[qN,ih]
def A6(l:K (M×J)):wS l=l.map λp=>Js.quote p.1.data.toList++58::enc p.2:=by
 induction l with
 |nil=>simp[wS]
 |cons a r ih=>obtain⟨k,a⟩:=a;simp[wS,yf,ih]
def PT(l:K (K G))(a:K G):pZ (l++[a])=if l=[] then a else pZ l++44::a:=by
 induction l with
 |nil=>simp[pZ]
 |cons b r ih=>
  cases r with
  |nil=>simp[pZ]
  |cons c r=>simp only[mq,pZ] at ih|-;rw[ih];simp
def Cy(l:K (K G))(k:H)(b:k<l.length):pZ (l.take (k+1))=if k=0 then l[k] else pZ (l.take k)++44::l[k]:=by
 rw[mM,oW b];simp only[Option.toList_some];rw[PT]
 by_cases a:k=0
 ·subst a;simp
 ·have:l.take k≠[]:=by
   intro e;have:=nT List.length e;rw[nQ,oh] at this;omega
  rw[oU this,oU a]
def BE(l:K (K G)):(pZ l).length<=(l.map (·.length+1)).sum:=by
 induction l with
 |nil=>simp[pZ]
 |cons a r ih=>
  cases r with
  |nil=>simp[pZ]
  |cons b r=>
   have e:(pZ (a::b::r)).length=a.length+(1+(pZ (b::r)).length):=by
    show(a++44::pZ (b::r)).length=_
    rw[o_,oJ];omega
   rw[e,ou,mu];omega
mutual
def Ok:H->J->Prop
 |d,.str s=>d<=100/\π s.data.toList=O
 |d,.arr l=>d<=100/\OkL (d+1) l
 |d,.obj l=>d<=100/\(l.map (·.1)).Nodup/\OkM (d+1) l
 |d,_=>d<=100
def OkL:H->K J->Prop
 |_,[]=>True
 |d,a::r=>Ok d a/\OkL d r
def OkM:H->K (M×J)->Prop
 |_,[]=>True
 |d,a::r=>OkP d a/\OkM d r
def OkP:H->M×J->Prop
 |d,(k,a)=>π k.data.toList=O/\Ok d a
end
def wU(d:H)(l:K J):OkL d l↔∀x∈l,Ok d x:=by
 induction l with
 |nil=>simp[OkL]
 |cons a r ih=>simp[OkL,ih]
def K5(d:H)(l:K (M×J)):OkM d l↔∀p∈l,π p.1.data.toList=O/\Ok d p.2:=by
 induction l with
 |nil=>simp[OkM]
 |cons a r ih=>obtain⟨k,a⟩:=a;simp[OkM,OkP,ih]
def Vz:M:=⟨#[105,100]⟩
def wv:M:=⟨#[116,105,116,108,101]⟩
def Aq:M:=⟨#[108,105,110,107]⟩
def xO:M:=⟨#[99,111,110,116,101,110,116]⟩
def tP:M:=⟨#[117,112,100,97,116,101,100]⟩
def GO:M:=⟨#[112,97,116,104]⟩
def xP:M:=⟨#[101,110,116,114,105,101,115]⟩
def jE(e:Mo.En):J:= .obj [(Vz,.str e.id),(wv,.str e.title),(Aq,.str e.link),(xO,.str e.content),(tP,.int e.upd)]
def jF(f:Mo.Fd):J:= .obj [(GO,.arr (f.path.map .str)),(Vz,.str f.id),(wv,.str f.title),(Aq,.str f.link),(tP,.int f.upd),(xP,.arr (f.pU.map jE))]
def jA(a:K Mo.Fd):J:= .arr (a.map jF)
def Uc(n:H):∀l:K G,l.length<=n->(pY.sW l).2=0->π l=O:=by
 induction n with
 |zero=>intro l e _;obtain rfl:l=[]:=oK (by omega);rfl
 |succ n ih=>
  intro l e a
  by_cases c:l=[]
  ·subst c;rfl
  ·rw[pY.GF l c] at a
   by_cases b:(I l).2=0
   ·rw[oD b] at a;cases a
   ·rw[oU b] at a
    by_cases d:pY.wR (I l).1=Y
    ·rw[oD d] at a;cases a
    ·rw[oU d] at a
     rw[pY.DG b];refine ih _ ?_ a;rw[nN];omega
def tD{s:M}(a:Mo.s_ s=O):π s.data.toList=O:=by unfold Mo.s_ at a;rw[oz] at a;exact Uc _ _ (oZ _) (mX a.1)
def jE_ok{e:Mo.En}(a:Mo.zv e=O)(d:H)(h:d<=98):Ok d (jE e):=by unfold Mo.zv at a;simp only[oz] at a;obtain⟨⟨⟨⟨⟨-,-⟩,b⟩,c⟩,f⟩,g⟩:=a;unfold jE;simp only[Ok,OkM,OkP];exact⟨by omega,(show [Vz,wv,Aq,xO,tP].Nodup by decide),⟨by decide,by omega,tD b⟩,⟨by decide,by omega,tD c⟩,⟨by decide,by omega,tD f⟩,⟨by decide,by omega,tD g⟩,⟨by decide,by omega⟩,trivial⟩
def jF_ok{f:Mo.Fd}(a:Mo.okF f=O):Ok 2 (jF f):=by
 unfold Mo.okF at a;simp only[oz] at a;obtain⟨⟨⟨⟨⟨⟨⟨-,j⟩,-⟩,-⟩,d⟩,g⟩,h⟩,i⟩:=a
 have k:OkL 4 (f.path.map J.str):=by rw[wU];intro x c;obtain⟨s,l,rfl⟩:=List.mem_map.1 c;have:=List.all_eq_true.1 j s l;rw[oz] at this;simp only[Ok];exact⟨by omega,tD this.2⟩
 have b:OkL 4 (f.pU.map jE):=by rw[wU];intro x c;obtain⟨e,b,rfl⟩:=List.mem_map.1 c;exact jE_ok (Mo.vI _ _ _ i e b) 4 (by omega)
 unfold jF;simp only[Ok,OkM,OkP];exact⟨by omega,(show [GO,Vz,wv,Aq,tP,xP].Nodup by decide),⟨by decide,by omega,k⟩,⟨by decide,by omega,tD d⟩,⟨by decide,by omega,tD g⟩,⟨by decide,by omega,tD h⟩,⟨by decide,by omega⟩,⟨by decide,by omega,b⟩,trivial⟩
def jA_ok{a:K Mo.Fd}(b:Mo.Dt a=O):Ok 1 (jA a):=by unfold jA;simp only[Ok];refine⟨by omega,?_⟩;rw[wU];intro x d;obtain⟨f,c,rfl⟩:=List.mem_map.1 d;exact jF_ok (Mo.vI _ _ _ b f c)
end Jv
namespace Rw
open RowKit
def lt_of_cell{w:U}{a:Addr}{v:N}(b:w.cell? a=V v):a.block<w.heap.size:=by
 rcases mC a.block w.heap.size with c|c
 ·exact c
 ·unfold World.cell? at b
  rw[lT c] at b;cases b
def lt_of_heap{w:U}{g:H}{x:Obj}(b:w.heap[g]?=V x):g<w.heap.size:=by
 rcases mC g w.heap.size with a|a
 ·exact a
 ·rw[lT a] at b
  cases b
def pK{u v w:U}(a:Ξ u.heap.size u v)(k:Ξ v.heap.size v w):Ξ u.heap.size u w:=a.trans (k.mono a.size)
def below_drewN{S:H}{W w:U}(a:Ξ S W w)(n:H):Ξ S W (w.drewN n):=⟨a.os,a.tape,a.output,a.size,a.block⟩
def pI{w w':U}{a:Addr}{v:N}(b:w.cell? a=V v)(c:Ξ w.heap.size w w'):w'.cell? a=V v:=(c.cell (lt_of_cell b)).trans b
def Rw(w:U)(v:N)(sz:H)(L:K (K N)):Prop:=
 ∃g b a cap,v= .slice a L.length cap/\(0<L.length->a=V ⟨g,b,Z⟩)/\∀j(c:j<L.length) k(d:k<sz),∃x,L[j][k]?=V x/\w.cell? ⟨g,b+j*sz+k,Z⟩=V x
def Rw.under{w w':U}{v:N}{sz:H}{L:K (K N)}(b:Rw w v sz L)(i:Ξ w.heap.size w w'):Rw w' v sz L:=by obtain⟨g,n,a,cap,c,d,e⟩:=b;refine⟨g,n,a,cap,c,d,λj l k m=>?_⟩;obtain⟨x,f,h⟩:=e j l k m;exact⟨x,f,pI h i⟩
def Rw.nil(w:U)(sz:H):Rw w (.slice Z 0 0) sz []:=⟨0,0,Z,0,rfl,λa=>Δ a (by simp),λj b=>Δ b (by simp)⟩
def Rw.uT{w:U}{base sz n:H}{t:TypeId}{v:N}{L:K (K N)}{h:K N}(i:w.ownsRow base t sz v n h)(r:L.length=n)(u:∀j(a:j<L.length) k,k<sz->h[j*sz+k]?=L[j][k]?)(p:∀j(a:j<L.length),L[j].length=sz):Rw w v sz L:=by
 subst r;rcases i.2 with⟨e,l⟩|⟨g,cap,x,e,_,o,y,_,_,s⟩
 ·exact⟨0,0,Z,0,by rw[e,l],λz=>by omega,λj a=>by omega⟩
 ·refine⟨g,0,_,cap,e,λ_=>rfl,λj a k d=>?_⟩
  have f:k<L[j].length:=(by rw[p j a];exact d);refine⟨L[j][k],by rw[oW f],?_⟩;have b:=u j a k d;rw[oW f] at b
  have q:j*sz+k<L.length*sz:=by have:(j+1)*sz<=L.length*sz:=lZ _ a;rw[jP,iY] at this;omega
  unfold World.cell?;simp only[o,nh];have c:=nT (λm:K N=>m[j*sz+k]?) s;simp only[mG,oD q] at c;rw[<-b,<-c];simp
def p_(p:M):K N:=[.string p]
def pO(e:Mo.En):K N:=[.string e.id,.string e.title,.string e.link,.string e.content,.int .i64 e.upd]
def pX(f:Mo.Fd)(vp ve:N):K N:=[vp,.string f.id,.string f.title,.string f.link,.int .i64 f.upd,ve]
def vT(w:U)(f:Mo.Fd)(cs:K N):Prop:=∃vp ve,cs=pX f vp ve/\Rw w vp 1 (f.path.map p_)/\Rw w ve 5 (f.pU.map pO)
def rY(w:U)(v:N)(a:K Mo.Fd):Prop:=∃L:K (K N),L.length=a.length/\Rw w v 6 L/\∀j(c:j<a.length)(b:j<L.length),vT w a[j] L[j]
def vT.under{w w':U}{f:Mo.Fd}{cs:K N}(b:vT w f cs)(a:Ξ w.heap.size w w'):vT w' f cs:=by obtain⟨vp,ve,c,d,e⟩:=b;exact⟨vp,ve,c,d.under a,e.under a⟩
def rY.under{w w':U}{v:N}{a:K Mo.Fd}(c:rY w v a)(b:Ξ w.heap.size w w'):rY w' v a:=by obtain⟨L,d,e,f⟩:=c;exact⟨L,d,e.under b,λj h g=>(f j h g).under b⟩
def rG:N:= .slice Z 0 0
def qh(k:X)(b:Bool)(n:X)(s:M)(a c:N)(at':X):K N:=[.int .i64 k,.bool b,.int .i64 n,.string s,a,c,.int .i64 at']
mutual
def Jv(w:U):Jv.J->K N->Prop
 | .null,cs=>∃p,cs=qh 0 Y 0 ⟨#[]⟩ rG rG p
 | .bool b,cs=>∃p,cs=qh 1 b 0 ⟨#[]⟩ rG rG p
 | .int n,cs=>∃p,cs=qh 2 Y n ⟨#[]⟩ rG rG p
 | .str s,cs=>∃p,cs=qh 3 Y 0 s rG rG p
 | .arr l,cs=>∃p v L,cs=qh 4 Y 0 ⟨#[]⟩ v rG p/\Rw w v 7 L/\Ny w l L
 | .obj l,cs=>∃p v L,cs=qh 5 Y 0 ⟨#[]⟩ rG v p/\Rw w v 9 L/\Nz w l L
def Ny(w:U):K Jv.J->K (K N)->Prop
 |[],L=>L=[]
 |a::r,L=>∃c T,L=c::T/\Jv w a c/\Ny w r T
def Nz(w:U):K (M×Jv.J)->K (K N)->Prop
 |[],L=>L=[]
 |a::r,L=>∃c T,L=c::T/\BQ w a c/\Nz w r T
def BQ(w:U):M×Jv.J->K N->Prop
 |(k,a),c=>∃d p,c=(.string k::d)++[.int .i64 p]/\Jv w a d
end
mutual
def Jv.under{w w':U}(a:Ξ w.heap.size w w'):∀(j:Jv.J)(cs:K N),Jv w j cs->Jv w' j cs
 | .null,cs,h=>by unfold Jv at h|-;exact h
 | .bool b,cs,h=>by unfold Jv at h|-;exact h
 | .int n,cs,h=>by unfold Jv at h|-;exact h
 | .str s,cs,h=>by unfold Jv at h|-;exact h
 | .arr l,cs,h=>by
   unfold Jv at h|-;obtain⟨p,v,L,c,d,e⟩:=h
   exact⟨p,v,L,c,d.under a,Ny.under a l L e⟩
 | .obj l,cs,h=>by
   unfold Jv at h|-;obtain⟨p,v,L,c,d,e⟩:=h;exact⟨p,v,L,c,d.under a,Nz.under a l L e⟩
def Ny.under{w w':U}(b:Ξ w.heap.size w w'):∀(l:K Jv.J)(L:K (K N)),Ny w l L->Ny w' l L
 |[],L,h=>by unfold Ny at h|-;exact h
 |a::r,L,h=>by
  unfold Ny at h|-;obtain⟨c,T,d,e,f⟩:=h;exact⟨c,T,d,Jv.under b a c e,Ny.under b r T f⟩
def Nz.under{w w':U}(b:Ξ w.heap.size w w'):∀(l:K (M×Jv.J))(L:K (K N)),Nz w l L->Nz w' l L
 |[],L,h=>by unfold Nz at h|-;exact h
 |a::r,L,h=>by
  unfold Nz at h|-;obtain⟨c,T,d,e,f⟩:=h;exact⟨c,T,d,BQ.under b a c e,Nz.under b r T f⟩
def BQ.under{w w':U}(f:Ξ w.heap.size w w'):∀(p:M×Jv.J)(c:K N),BQ w p c->BQ w' p c
 |(k,a),c,h=>by
  unfold BQ at h|-;obtain⟨d,p,b,e⟩:=h;exact⟨d,p,b,Jv.under f a d e⟩
end
def Ga{w:U}:∀{l:K Jv.J}{L:K (K N)},Ny w l L->L.length=l.length/\∀j(b:j<l.length)(d:j<L.length),Jv w l[j] L[j]
 |[],L,h=>by unfold Ny at h;subst h;exact⟨rfl,λj b=>Δ b (by simp)⟩
 |a::r,L,h=>by
  unfold Ny at h;obtain⟨c,T,rfl,e,f⟩:=h;obtain⟨g,i⟩:=Ga f;refine⟨by simp[g],λj b d=>?_⟩
  cases j with
  |zero=>exact e
  |succ j=>exact i j (by simpa using b) (by simpa using d)
def K6{w:U}:∀{l:K (M×Jv.J)}{L:K (K N)},Nz w l L->L.length=l.length/\∀j(b:j<l.length)(d:j<L.length),BQ w l[j] L[j]
 |[],L,h=>by unfold Nz at h;subst h;exact⟨rfl,λj b=>Δ b (by simp)⟩
 |a::r,L,h=>by
  unfold Nz at h;obtain⟨c,T,rfl,e,f⟩:=h;obtain⟨g,i⟩:=K6 f;refine⟨by simp[g],λj b d=>?_⟩
  cases j with
  |zero=>exact e
  |succ j=>exact i j (by simpa using b) (by simpa using d)
def Xk{w:U}:∀{l:K Jv.J}{L:K (K N)},L.length=l.length->(∀j(b:j<l.length)(f:j<L.length),Jv w l[j] L[j])->Ny w l L
 |[],L,h,_=>by unfold Ny;exact oK h
 |a::r,[],h,_=>Δ h (by simp)
 |a::r,c::T,h,b=>by
  unfold Ny;exact⟨c,T,rfl,b 0 (by simp) (by simp),Xk (by simpa using h) λj d e=>b (j+1) (by simpa using d) (by simpa using e)⟩
def Xl{w:U}:∀{l:K (M×Jv.J)}{L:K (K N)},L.length=l.length->(∀j(b:j<l.length)(f:j<L.length),BQ w l[j] L[j])->Nz w l L
 |[],L,h,_=>by unfold Nz;exact oK h
 |a::r,[],h,_=>Δ h (by simp)
 |a::r,c::T,h,b=>by
  unfold Nz;exact⟨c,T,rfl,b 0 (by simp) (by simp),Xl (by simpa using h) λj d e=>b (j+1) (by simpa using d) (by simpa using e)⟩
def Jv_len{w:U}{j:Jv.J}{cs:K N}(a:Jv w j cs):cs.length=7:=by
 cases j<;>unfold Jv at a
 ·obtain⟨p,rfl⟩:=a;rfl
 ·obtain⟨p,rfl⟩:=a;rfl
 ·obtain⟨p,rfl⟩:=a;rfl
 ·obtain⟨p,rfl⟩:=a;rfl
 ·obtain⟨p,v,L,rfl,-⟩:=a;rfl
 ·obtain⟨p,v,L,rfl,-⟩:=a;rfl
end Rw
end Go.Proofs.YthbhmjdcfocphaaGreatDoor
