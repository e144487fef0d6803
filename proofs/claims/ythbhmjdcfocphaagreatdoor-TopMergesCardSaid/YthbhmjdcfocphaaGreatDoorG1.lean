/- A part of this proof. -/
import Derived.Test.YthbhmjdcfocphaaGreatDoorProg
import Derived.Test.YthbhmjdcfocphaaGreatDoorKB
import Derived.Lib.MinMax
import Derived.Laws.Cover1
import Derived.BigQuiet
set_option linter.all false
set_option maxHeartbeats 16000000
set_option maxRecDepth 100000
namespace Go.Proofs.YthbhmjdcfocphaaGreatDoor
open Go.Value renaming string→I, slice→Y, pointer→ε, int→O
open Go.Obj renaming cells→ζ
open Go.Ending renaming returned→η
open Go.IntKind renaming i64→U
open Go.Lib renaming hid→J
open And renaming intro→ν
open _root_ renaming Int→K, List→N, ByteArray→Θ, Nat→M
open Option renaming none→G, some→H
open Mo renaming q8→V, yT→X, DO→Ω, Ja→ο, AG→ah, Fd→aj, tS→ay
open Rw renaming below_drewN→Λ
open Go renaming World→Ξ, Value→ς
namespace Mw
open RowKit Rw
def yJ{a:Type}(g:a->M)(l:N a)(k:M):M:=((l.take k).map g).sum
def I9{a:Type}(g:a->M)(l:N a):yJ g l 0=0:=rfl
def Bq{a:Type}(g:a->M)(l:N a)(k:M)(b:k<l.length):yJ g l (k+1)=yJ g l k+g l[k]:=by unfold yJ;rw[mM,nv,jV,oW b];simp
def Dn{a:Type}(g:a->M)(l:N a){k:M}(b:l.length<=k):yJ g l k=(l.map g).sum:=by unfold yJ;rw[oP b]
def QY{a:Type}(g:a->M)(l:N a)(k:M):yJ g l k<=(l.map g).sum:=by
 have:(l.map g).sum=yJ g l k+((l.drop k).map g).sum:=by unfold yJ;rw[<-jV,<-nv,l_]
 omega
structure Zs(e:Mo.En):Prop where
 id:e.id.size<=140737488355327
 title:e.title.size<=140737488355327
 link:e.link.size<=140737488355327
 content:e.content.size<=140737488355327
 upd: -9223372036854775808<=e.upd/\e.upd<=9223372036854775807
structure QZ(f:aj):Prop where
 id:f.id.size<=140737488355327
 title:f.title.size<=140737488355327
 link:f.link.size<=140737488355327
 yc:f.path.length<=8796093022208
 path:∀p∈f.path,p.size<=140737488355327
 Iz:f.pU.length<=8796093022208
 pU:∀e∈f.pU,Zs e
 upd: -9223372036854775808<=f.upd/\f.upd<=9223372036854775807
structure IA(a:N aj):Prop where
 len:a.length<=8796093022208
 each:∀f∈a,QZ f
def yK(a:N aj):K:=if 5000<ah a then 1 else 0
def qY{w:Ξ}{v:ς}{sz n:M}{L:N (N ς)}(c:Rw w v sz L)(d:L.length=n):∃g b a cap,v=Y a n cap/\(0<n->a=H ⟨g,b,G⟩)/\∀j(e:j<L.length) k(f:k<sz),∃x,L[j][k]?=H x/\w.cell? ⟨g,b+j*sz+k,G⟩=H x:=by subst d;exact c
def qp{w:Ξ}{v:ς}{p:N Θ}(e:Rw w v 1 (p.map p_)):∃g b a cap,v=Y a p.length cap/\(0<p.length->a=H ⟨g,b,G⟩)/\∀j(d:j<p.length),w.cell? ⟨g,b+j,G⟩=H (.string p[j]):=by obtain⟨g,b,a,cap,f,h,i⟩:=qY e (n:=p.length) (by simp);refine⟨g,b,a,cap,f,h,λj d=>?_⟩;obtain⟨x,c,k⟩:=i j (by simpa using d) 0 (by omega);rw[oG] at c;simp only[p_,mS,nk] at c;rw[c];simpa using k
def qO{w:Ξ}{v:ς}{p:N Mo.En}(f:Rw w v 5 (p.map pO)):∃g a b cap,v=Y b p.length cap/\(0<p.length->b=H ⟨g,a,G⟩)/\∀j(d:j<p.length),w.cell? ⟨g,a+j*5,G⟩=H (.string p[j].id)/\w.cell? ⟨g,a+j*5+1,G⟩=H (.string p[j].title)/\w.cell? ⟨g,a+j*5+2,G⟩=H (.string p[j].link)/\w.cell? ⟨g,a+j*5+3,G⟩=H (.string p[j].content)/\w.cell? ⟨g,a+j*5+4,G⟩=H (O U p[j].upd):=by
 obtain⟨g,a,b,cap,h,i,l⟩:=qY f (n:=p.length) (by simp);refine⟨g,a,b,cap,h,i,λj d=>?_⟩;have o:j<(p.map pO).length:=by simpa using d
 have key:∀k(e:k<5),w.cell? ⟨g,a+j*5+k,G⟩=(pO p[j])[k]?:=λk e=>by
  obtain⟨x,c,m⟩:=l j o k e;rw[oG] at c;rw[m,c]
 exact⟨key 0 (by omega),key 1 (by omega),key 2 (by omega),key 3 (by omega),key 4 (by omega)⟩
def qF{w:Ξ}{v:ς}{a:N aj}(i:rY w v a):∃g b c cap,v=Y c a.length cap/\(0<a.length->c=H ⟨g,b,G⟩)/\∀j(f:j<a.length),∃vp ve,Rw w vp 1 (a[j].path.map p_)/\Rw w ve 5 (a[j].pU.map pO)/\w.cell? ⟨g,b+j*6,G⟩=H vp/\w.cell? ⟨g,b+j*6+1,G⟩=H (.string a[j].id)/\w.cell? ⟨g,b+j*6+2,G⟩=H (.string a[j].title)/\w.cell? ⟨g,b+j*6+3,G⟩=H (.string a[j].link)/\w.cell? ⟨g,b+j*6+4,G⟩=H (O U a[j].upd)/\w.cell? ⟨g,b+j*6+5,G⟩=H ve:=by
 obtain⟨L,q,r,p⟩:=i;obtain⟨g,b,c,cap,l,m,n⟩:=qY r q;refine⟨g,b,c,cap,l,m,λj f=>?_⟩;obtain⟨vp,ve,e,t,s⟩:=p j f (by omega)
 have key:∀k(h:k<6),w.cell? ⟨g,b+j*6+k,G⟩=(pX a[j] vp ve)[k]?:=λk h=>by
  obtain⟨x,d,o⟩:=n j (by omega) k h;rw[e] at d;rw[o,d]
 exact⟨vp,ve,t,s,key 0 (by omega),key 1 (by omega),key 2 (by omega),key 3 (by omega),key 4 (by omega),key 5 (by omega)⟩
def Z5{a:N aj}{k x:M}(b:k<a.length)(e:x<=X a[k]):yJ X a k+x<=ah a:=by have c:=Bq X a k b;have d:yJ X a (k+1)<=ah a:=QY X a (k+1);omega
def Dp{a:N aj}(b:5000<ah a):yK a=1:=by unfold yK;rw[oD b]
def uS{w:Ξ}{x0 x1 x2 x3 x4 x5:ς}{t:TypeId}:(w.alloc (ζ #[x0,x1,x2,x3,x4,x5] t)).cell? ⟨w.heap.size,0,G⟩=H x0/\(w.alloc (ζ #[x0,x1,x2,x3,x4,x5] t)).cell? ⟨w.heap.size,1,G⟩=H x1/\(w.alloc (ζ #[x0,x1,x2,x3,x4,x5] t)).cell? ⟨w.heap.size,2,G⟩=H x2/\(w.alloc (ζ #[x0,x1,x2,x3,x4,x5] t)).cell? ⟨w.heap.size,3,G⟩=H x3/\(w.alloc (ζ #[x0,x1,x2,x3,x4,x5] t)).cell? ⟨w.heap.size,4,G⟩=H x4/\(w.alloc (ζ #[x0,x1,x2,x3,x4,x5] t)).cell? ⟨w.heap.size,5,G⟩=H x5:=by unfold World.cell?;simp only[pG];exact⟨rfl,rfl,rfl,rfl,rfl,rfl⟩
def sY(W:Ξ)(v:ς)(a:N aj)(a5:rY W v a)(ax:IA a):
 Calls Tryz.prog 5 #[.agg #[v]] W λe w'=>e=η (O U (yK a))/\Below W.heap.size W w':=by
 obtain⟨g,ce,an,cap,rfl,aw,ba⟩:=qF a5;obtain⟨m,aa⟩:=pL a.length;rw[aa] at aw|-;have c6:m<=8796093022208:=by rw[<-aa];exact ax.len
 have aO:=J aa;have bm:=J aw;have bq:=J ba;have bn:=J ax;have bo:=J (pM W (ζ #[Y an m cap] 24));have x0:(W.alloc (ζ #[Y an m cap] 24)).cell? ⟨W.heap.size,0,G⟩=H (Y an m cap):=by unfold World.cell?;simp only[pG];rfl
 clear a5 aw ba ax aa
 go_enter Tryz.func5,Tryz.ntmps5
 go_wp2_with fail
 clear x0
 go_loopw [3,13] (λx i wr=>∃k n:M,k<=m/\x=O U n/\i=O U k/\n<=5000/\Hid (n=yJ X a k)/\Hid (Below W.heap.size W wr)) (λ_ i _=>m-(intOf i).toNat)
 case atStart=>exact⟨0,0,oM _,rfl,rfl,oM _,rfl,bo.o⟩
 case round=>
  obtain⟨k,n,c4,rfl,rfl,ca,P,o⟩:=hrel
  by_cases bE:k<m
  ·obtain rfl:=bm.o (by omega)
   have a9:k<a.length:=(by rw[aO.o];exact bE);obtain⟨vp,ve,aE,az,aJ,y1,y2,y3,y4,y5⟩:=bq.o k a9;have b9:=bn.o.each _ (pq a9);have al:Hid (∀x,x<=X a[k]->yJ X a k+x<=ah a):=λx P=>Z5 a9 P
   have aT:=J (Bq X a k a9);generalize a[k]=f at aE az y1 y2 y3 y4 b9 al aT;obtain⟨c,id,D,B,Q,pU⟩:=f;obtain⟨bJ,bK,aH,aI,rfl,ab,aF⟩:=qp aE;obtain⟨bQ,bR,ao,ap,rfl,a7,aA⟩:=qO az;obtain⟨bi,bj,bk,aK,aL,bl,aM,-⟩:=b9;simp only at y1 y2 y3 y4 bi bj bk aK aL bl aM ab aF a7 aA;replace aJ:=pI aJ o.o;replace y1:=pI y1 o.o;replace y2:=pI y2 o.o;replace y3:=pI y3 o.o;replace y4:=pI y4 o.o;replace y5:=pI y5 o.o;obtain⟨y,aY⟩:=pL id.size;obtain⟨z,aZ⟩:=pL D.size;obtain⟨A,b0⟩:=pL B.size;obtain⟨h,ac⟩:=pL c.length;obtain⟨l,a8⟩:=pL pU.length;rw[aY] at bi;rw[aZ] at bj;rw[b0] at bk;rw[ac] at aK ab;rw[a8] at bl a7;obtain⟨C,c8⟩:∃C:K,min ((y:K)+(z:K)+(A:K)) 9000=C:=⟨_,rfl⟩;have cf:0<=C:=(by omega);have cg:C<=9000:=(by omega);have bs:Hid (C=((min (y+z+A) 9000:M):K)):=(by show C=_;omega)
   have aV:Hid (X ⟨c,id,D,B,Q,pU⟩=1+min (y+z+A) 9000+yJ ο c h+yJ Ω pU l):=by
    show _=_
    unfold X;rw[Dn _ _ (by omega),Dn _ _ (by omega)];simp only[aY,aZ,b0]
   have Z:=J (ν ac (ν ab (ν aF aL)));have S:=J (ν a8 (ν a7 aA));have bp:=J aM;have aW:=P;have u:=J (pK o.o (pM wr (ζ #[Y aH c.length aI,I id,I D,I B,O U Q,Y ao pU.length ap] 51)));rw[ac] at aJ u;rw[a8] at y5 u;obtain⟨bw,c1,c2,bx,bz,bA⟩:=uS (w:=wr) (x0:=Y aH h aI) (x1:=I id) (x2:=I D) (x3:=I B) (x4:=O U Q) (x5:=Y ao l ap) (t:=51);clear aE az ab aF a7 aA ac a8 P o aL aM
   go_wp2_with fail
   have cb:h<=8796093022208:=aK;generalize(wr.alloc (ζ #[Y aH h aI,I id,I D,I B,O U Q,Y ao l ap] 51))=ak at u bw c1 c2 bx bz bA|-;have bt:Hid (∀j(aB:j<c.length),ak.cell? ⟨bJ,bK+j,G⟩=H (.string c[j])):=λj aB=>pI (Z.o.2.2.1 j aB) u.o
   go_loopw [3,35] (λx i bN=>∃j q:M,j<=h/\x=O U q/\i=O U j/\q<=14001+j*9001/\Hid (q=n+(1+min (y+z+A) 9000)+yJ ο c j)/\bN=ak) (λ_ i _=>h-(intOf i).toNat)
   case atStart=>exact⟨0,n+(1+min (y+z+A) 9000),oM _,by rw[bs.o];rfl,rfl,by omega,by rw[I9];rfl,rfl⟩
   case round=>
    obtain⟨j,q,aB,rfl,rfl,bH,aG,bc⟩:=hrel;rw[bc];clear bc
    by_cases bF:j<h
    ·obtain rfl:=Z.o.2.1 (by omega)
     have aC:j<c.length:=(by rw[Z.o.1];exact bF);have bP:=bt.o j aC;have bd:=Z.o.2.2.2 _ (pq aC);have aS:=J (Bq ο c j aC);generalize c[j]=p at bP bd aS;obtain⟨ai,b1⟩:=pL p.size;rw[b1] at bd;obtain⟨d,c7⟩:∃d:K,min (ai:K) 9000=d:=⟨_,rfl⟩;have bL:0<=d:=(by omega);have bM:d<=9000:=(by omega);have br:Hid (d=((min ai 9000:M):K)):=(by show d=_;omega);have bv:Hid (ο p=1+min ai 9000):=by show _=_;unfold ο;rw[b1]
     go_wp2_with fail
     go_roundw
     case rel=>
      refine⟨j+1,q+(1+min ai 9000),by omega,?_,by go_num,by omega,?_,trivial⟩
      ·rw[br.o];congr 1
      ·show _=_
       rw[aS.o,bv.o,aG.o];omega
     case measure=>simp[intOf];omega
    ·have bT:decide ((j:K)<(h:K))=false:=o9 (by omega)
     have bb:j=h:=(by omega);have aP:Hid (q=n+(1+min (y+z+A) 9000)+yJ ο c h):=(by rw[<-bb];exact aG.o);have bI:q<=79173633292908209:=(by omega);clear aG bH bb
     go_wp2_with fail
     go_loopw [3,49] (λx i bO=>∃b r:M,b<=l/\x=O U r/\i=O U b/\r<=79173633292908209/\(0<b->r<=5000)/\Hid (r=q+yJ Ω pU b)/\Hid (Below ak.heap.size ak bO)) (λ_ i _=>l-(intOf i).toNat)
     case atStart=>exact⟨0,q,oM _,rfl,rfl,bI,λa5=>absurd a5 (by omega),by rw[I9];rfl,pH _ _⟩
     case round=>
      obtain⟨b,r,c3,rfl,rfl,cc,cd,ad,L⟩:=hrel
      by_cases bG:b<l
      ·obtain rfl:=S.o.2.1 (by omega)
       have aD:b<pU.length:=(by rw[S.o.1];exact bG);have E:=J (pK u.o L.o);obtain⟨a0,a1,a2,a3,a4⟩:=S.o.2.2 b aD;replace a0:=pI a0 E.o;replace a1:=pI a1 E.o;replace a2:=pI a2 E.o;replace a3:=pI a3 E.o;replace a4:=pI a4 E.o;have b8:=bp.o _ (pq aD);have am:=J (Bq Ω pU b aD);generalize pU[b]=e at a0 a1 a2 a3 a4 b8 am;obtain⟨ar,av,au,aq,b2⟩:=e;obtain⟨be,bf,bg,bh,-⟩:=b8;simp only at a0 a1 a2 a3 a4 be bf bg bh;obtain⟨ae,b3⟩:=pL ar.size;obtain⟨d,b4⟩:=pL av.size;obtain⟨af,b5⟩:=pL au.size;obtain⟨ag,b6⟩:=pL aq.size;rw[b3] at be;rw[b4] at bf;rw[b5] at bg;rw[b6] at bh;obtain⟨s,c9⟩:∃s:K,min ((ae:K)+(d:K)+(af:K)+(ag:K)) 9000=s:=⟨_,rfl⟩;have bL:0<=s:=(by omega);have bM:s<=9000:=(by omega);have T:Hid (s=((min (ae+d+af+ag) 9000:M):K)):=(by show s=_;omega);have aU:Hid (Ω ⟨ar,av,au,aq,b2⟩=1+min (ae+d+af+ag) 9000):=(by show _=_;unfold Ω;simp only[b3,b4,b5,b6]);have aN:=J (pK L.o (pM wr (ζ #[I ar,I av,I au,I aq,O U b2] 53)));have aR:=ad
       have bu:Hid (5000<(r:K)+(1+s)->5000<ah a):=λc0=>by
        have a6:=al.o (1+min (y+z+A) 9000+yJ ο c h+yJ Ω pU (b+1)) (by rw[aV.o];have:=QY Ω pU (b+1);have bW:=Dn Ω pU (k:=l) (by rw[S.o.1];exact oZ _);omega);have b7:=am.o;have bC:=aU.o;have bV:=aR.o;have bX:=aP.o;have bY:=aW.o;have bZ:=T.o;omega
       clear ad L
       by_cases aX:5000<(r:K)+(1+s)
       ·have F:=J (Dp (bu.o aX))
        have R:=J (pK u.o aN.o)
        go_wp2_with fail
        go_ret;exact⟨by rw[F.o];rfl,R.o⟩
       ·go_wp2_with fail
        go_roundw
        case rel=>
         refine⟨b+1,r+(1+min (ae+d+af+ag) 9000),by omega,?_,by go_num,?_,?_,?_,aN.o⟩
         ·rw[T.o];congr 1
         ·have:=T.o;omega
         ·intro _;have:=T.o;omega
         ·show _=_
          rw[am.o,aU.o,aR.o];omega
        case measure=>simp[intOf];omega
      ·have bU:decide ((b:K)<(l:K))=false:=o9 (by omega)
       have bD:b=l:=(by omega)
       have aQ:Hid (yJ X a k+X ⟨c,id,D,B,Q,pU⟩=r):=by
        show _=_
        have a6:=ad.o;have b7:=aP.o;have bC:=aW.o;rw[bD] at a6;rw[aV.o];omega
       have R:=J (pK u.o L.o);clear ad L
       by_cases aX:5000<r
       ·have F:Hid (yK a=1):=Dp (by have a6:=al.o _ (oZ _);have b7:=aQ.o;omega)
        have bB:(5000:K)<(r:K):=by omega
        go_wp2_with fail
        go_ret;exact⟨by rw[F.o];rfl,R.o⟩
       ·have bB:¬(5000:K)<(r:K):=by omega
        go_wp2_with fail
        go_roundw
        case rel=>exact⟨k+1,r,by omega,rfl,by go_num,by omega,by show r=_;rw[aT.o];exact aQ.o.symm,R.o⟩
        case measure=>simp[intOf];omega
  ·have c5:k=m:=by omega
   have bS:decide ((k:K)<(m:K))=false:=o9 (by omega)
   have F:Hid (yK a=0):=by
    have a6:n=ah a:=by rw[P.o];exact Dn _ _ (by rw[aO.o];omega)
    show yK a=0
    unfold yK;rw[oU (by omega)]
   go_wp2_with fail
   go_ret;exact⟨by rw[F.o];rfl,o.o⟩
def F4(t:K)(w:Ξ):
 Calls Tryz.prog 35 #[O U t] w λe w'=>e=η (.bool (Mo.IB t))/\w'=w:=by
 unfold Mo.IB;obtain⟨a,c⟩:=pL (decide ((-62135596800:K)<=t));obtain⟨b,d⟩:=pL (decide (t<=(253402300799:K)));rw[c,d];cases a<;>cases b
 all_goals
  go_enter Tryz.func35,Tryz.ntmps35
  go_wp2_with fail
  go_ret;exact⟨rfl,rfl⟩
def AH(a b:Θ)(w:Ξ):
 Calls Tryz.prog 39 #[I a,I b] w λe w'=>e=η (O U (ay a b))/\w'=w:=by
 obtain⟨L,f⟩:=pL (Op.bytesLess a.toList b.toList);obtain⟨c,d⟩:=pL ((a.toList==b.toList));have e:ay a b=if L=true then-1 else if c=true then 0 else 1:=by unfold ay;rw[f,d]
 rw[e];clear e;cases L<;>cases c
 all_goals
  go_enter Tryz.func39,Tryz.ntmps39
  go_wp2_with fail
  go_ret
  first|exact⟨rfl,rfl⟩|simp
def Jc{p q:N Θ}{k:M}(a:k<p.length)(b:k<q.length):V (p.drop k) (q.drop k)=if(p[k].toList==q[k].toList)=true then V (p.drop (k+1)) (q.drop (k+1)) else ay p[k] q[k]:=by rw[mO a,mO b];rfl
def Dr{p q:N Θ}{k n m:M}(d:p.length=n)(c:q.length=m)(e:k<=n)(f:k<=m)(b:k=n\/k=m):V (p.drop k) (q.drop k)=if n<m then-1 else if m<n then 1 else 0:=by
 subst d c;rcases b with rfl|rfl
 ·rw[mB (oZ p.length)]
  by_cases a:p.length<q.length
  ·rw[oD a,mO a]
   rfl
  ·rw[oU a,oU (by omega),mB (by omega)]
   rfl
 ·rw[mB (oZ q.length)]
  by_cases a:q.length<p.length
  ·rw[oU (by omega),oD a,mO a]
   rfl
  ·rw[oU (by omega),oU a,mB (by omega)]
   rfl
def Jd(p q:N Θ)(vp P:ς)(W:Ξ)(D:Rw W vp 1 (p.map p_))(F:Rw W P 1 (q.map p_))(a0:p.length<=8796093022208)(a1:q.length<=8796093022208):
 Calls Tryz.prog 38 #[vp,P] W λe w'=>e=η (O U (V p q))/\Below W.heap.size W w':=by
 obtain⟨a2,a3,ab,ac,rfl,x,E⟩:=qp D;obtain⟨a4,a5,ad,ae,rfl,y,L⟩:=qp F;obtain⟨n,w⟩:=pL p.length;obtain⟨m,v⟩:=pL q.length;rw[w] at a0 x|-;rw[v] at a1 y|-;have j:=J (ν w (ν x E));have l:=J (ν v (ν y L));clear D F w v x y E L
 go_enter Tryz.func38,Tryz.ntmps38
 go_wp2_with fail
 go_loopw [5] (λi wr=>∃k:M,k<=n/\k<=m/\i=O U k/\Hid (V p q=V (p.drop k) (q.drop k))/\Hid (Below W.heap.size W wr)) (λi _=>n-(intOf i).toNat)
 case atStart=>exact⟨0,oM _,oM _,rfl,rfl,pH _ _⟩
 case round=>
  obtain⟨k,A,z,rfl,h,f⟩:=hrel
  by_cases S:k<n
  ·by_cases T:k<m
   ·obtain rfl:=j.o.2.1 (by omega)
    obtain rfl:=l.o.2.1 (by omega);have B:k<p.length:=(by rw[j.o.1];exact S);have C:k<q.length:=(by rw[l.o.1];exact T);have x0:=pI (j.o.2.2 k B) f.o;have t:=pI (l.o.2.2 k C) f.o;have o:=J (Jc B C);generalize p[k]=a at x0 o;generalize q[k]=b at t o;obtain⟨Q,Z⟩:=pL ((a.toList==b.toList));rw[Z] at o;have a8:(k:K)<(n:K):=(by omega);have a9:(k:K)<(m:K):=(by omega);have aa:(0:K)<=(k:K):=(by omega)
    cases Q with
    |true=>
     go_wp2_with fail
     go_quiet(fail)
     have s:=J (Λ f.o nq)
     go_wp2_with fail
     go_roundw
     case rel=>exact⟨k+1,by omega,by omega,by go_num,h.o.trans (o.o.trans (by simp)),s.o⟩
     case measure=>simp[intOf];omega
    |false=>
     go_wp2_with fail
     go_quiet(fail)
     have s:=J (Λ f.o nq);replace x0:(wr.drewN nq).cell? ⟨a2,a3+k,G⟩=H (I a):=x0;replace t:(wr.drewN nq).cell? ⟨a4,a5+k,G⟩=H (I b):=t
     go_wp2_with fail
     generalize wr.drewN nq=af at x0 t s|-
     go_quiet((go_at_call 39;exact Calls.quiet_of_same (AH a b _)))
     have R:=J (Λ s.o nq);have c:Hid (V p q=ay a b):=h.o.trans (o.o.trans (by simp))
     go_wp2_with fail
     go_ret;exact⟨by rw[c.o];rfl,R.o⟩
   ·have a7:decide ((k:K)<(m:K))=false:=o9 (by omega)
    have c:Hid (V p q=if n<m then-1 else if m<n then 1 else 0):=h.o.trans (Dr j.o.1 l.o.1 A z (by omega));have g:=J f.o;clear h f
    by_cases c1:n<m
    ·have d:Hid (V p q=-1):=c.o.trans (oD c1)
     have r:(n:K)<(m:K):=(by omega);clear c
     go_wp2_with fail
     go_ret;exact⟨by rw[d.o];rfl,g.o⟩
    ·by_cases c2:m<n
     ·have d:Hid (V p q=1):=c.o.trans ((oU c1).trans (oD c2))
      have r:¬(n:K)<(m:K):=(by omega);have u:(m:K)<(n:K):=(by omega);clear c
      go_wp2_with fail
      go_ret;exact⟨by rw[d.o];rfl,g.o⟩
     ·have d:Hid (V p q=0):=c.o.trans ((oU c1).trans (oU c2))
      have r:¬(n:K)<(m:K):=(by omega);have u:¬(m:K)<(n:K):=(by omega);clear c
      go_wp2_with fail
      go_ret;exact⟨by rw[d.o];rfl,g.o⟩
  ·have a6:decide ((k:K)<(n:K))=false:=o9 (by omega)
   have c:Hid (V p q=if n<m then-1 else if m<n then 1 else 0):=h.o.trans (Dr j.o.1 l.o.1 A z (by omega));have g:=J f.o;clear h f
   by_cases c1:n<m
   ·have d:Hid (V p q=-1):=c.o.trans (oD c1)
    have r:(n:K)<(m:K):=(by omega);clear c
    go_wp2_with fail
    go_ret;exact⟨by rw[d.o];rfl,g.o⟩
   ·by_cases c2:m<n
    ·have d:Hid (V p q=1):=c.o.trans ((oU c1).trans (oD c2))
     have r:¬(n:K)<(m:K):=(by omega);have u:(m:K)<(n:K):=(by omega);clear c
     go_wp2_with fail
     go_ret;exact⟨by rw[d.o];rfl,g.o⟩
    ·have d:Hid (V p q=0):=c.o.trans ((oU c1).trans (oU c2))
     have r:¬(n:K)<(m:K):=(by omega);have u:¬(m:K)<(n:K):=(by omega);clear c
     go_wp2_with fail
     go_ret;exact⟨by rw[d.o];rfl,g.o⟩
end Mw
end Go.Proofs.YthbhmjdcfocphaaGreatDoor
