/- A part of this proof. -/
import Derived.Test.YthbhmjdcfocphaaGreatDoorKW
set_option linter.all false
set_option maxHeartbeats 16000000
set_option maxRecDepth 100000
namespace Go.Proofs.YthbhmjdcfocphaaGreatDoor
open Go.Value renaming string→H, slice→I, pointer→ε, int→K
open Go.Obj renaming cells→Z
open Go.Ending renaming returned→η
open Go.IntKind renaming i64→G
open Go.Lib renaming hid→N
open Go.Proofs.Tryz renaming prog→ν, underlying107→av
open Go renaming cell_regrown→ξ, Value→Y, Calls→Ξ, World→ς, Ending→aA, TypeId→aE, below_regrown→aG
open Go.RowKit renaming Below→J
open _root_ renaming ByteArray→υ, List→X, Int→aj, Nat→az
open Bool renaming false→O, true→aC
open Me renaming pJ→V
open Option renaming none→U, some→ay
open List renaming take→Λ, all→ο
open And renaming intro→ah
namespace Me
open RowKit Rw Vf
def GP{w:ς}{base size b n cap j:az}{t:aE}{d:X Y}(a:w.ownsRow base t size (I (ay ⟨b,0,U⟩) n cap) n d)(v:Y):(w.setCell ⟨b,j,U⟩ v).ownsRow base t size (I (ay ⟨b,0,U⟩) n cap) n (d.set j v):=by
 refine⟨by rw[lD];exact a.1,?_⟩;rcases a.2 with⟨e,_⟩|⟨g,c,f,e,k,q,r,m,o,s⟩
 ·cases e
 ·have h:b=g:=by injection e with e;injection e with e;injection e
  have i:cap=c:=(by injection e);subst h i;refine .inr ⟨b,cap,f.setIfInBounds j v,rfl,k,oO w b j _ _ v q,r,m,by simpa using o,?_⟩;rw[<-s,Array.toList_setIfInBounds,List.take_set]
def sets(a:X Y):az->X Y->X Y
 |_,[]=>a
 |o,v::r=>sets (a.set o v) (o+1) r
def yz(c:X Y):∀(a zs:X Y),zs.length=c.length->sets (a++zs) a.length c=a++c:=by
 induction c with
 |nil=>intro a zs b;obtain rfl:zs=[]:=oK b;rfl
 |cons v r ih=>
  intro a zs b
  cases zs with
  |nil=>simp at b
  |cons z t=>
   show sets ((a++z::t).set a.length v) (a.length+1) r=_
   rw[List.set_append_right _ _ (oZ _),jg,List.set_cons_zero];have:=ih (a++[v]) t (by simpa using b);simpa using this
def DD{base size b n cap:az}{t:aE}(d:X Y):∀(o:az)(w:ς)(a:X Y),w.ownsRow base t size (I (ay ⟨b,0,U⟩) n cap) n a->(w.setCells b o d).ownsRow base t size (I (ay ⟨b,0,U⟩) n cap) n (sets a o d):=by
 induction d with
 |nil=>intro o w a c;exact c
 |cons v r ih=>intro o w a c;exact ih (o+1) _ _ (GP c v)
def qZ(b:az)(a:X Y):∀(o:az)(w:ς),(w.setCells b o a).os=w.os/\(w.setCells b o a).tape=w.tape/\(w.setCells b o a).output=w.output/\(w.setCells b o a).heap.size=w.heap.size/\∀k,k≠b->(w.setCells b o a).heap[k]?=w.heap[k]?:=by
 induction a with
 |nil=>intro o w;exact⟨rfl,rfl,rfl,rfl,λ_ _=>rfl⟩
 |cons v r ih=>intro o w;obtain⟨d,e,f,g,h⟩:=ih (o+1) (w.setCell ⟨b,o,U⟩ v);exact⟨d,e,f,g.trans (by simp[World.setCell]),λk c=>(h k c).trans (pz _ _ _ _ c)⟩
end Me
namespace De
open RowKit Rw Mw Me
def yM{P:Program}{a:Func}{p q:Tmp}{ty:aE}(c:a.results=#[.cell p ty,.tmp q])(tmps:Array Y)(w:ς)(g:az)(t:aE)(cs:Array Y)(b:az×az)(d:TypeDesc)
 (i:tmps.getD p undef=ε (ay ⟨g,0,U⟩)) (f:w.heap[g]?=ay (Z cs t b))
 (k:P.underlying ty=ay d) (e:(match d with| .struct _| .array _ _=>aC|_=>O)=aC) (h:(P.info? ty).map (·.size)=ay cs.size):
 (results a tmps).run P w= .ok (.tuple #[.agg cs,tmps.getD q undef]) w:=by
 have j:tmps[p]?.getD undef=ε (ay ⟨g,0,U⟩):=by simpa using i
 simp[results,c,j,asAddr,iq w g t ty cs b d f k e h]
abbrev zV:Obj:=Z #[K G 0,.bool O,K G 0,H ByteArray.empty,I U 0 0,I U 0 0,K G 0] 107
def GtT(W:ς)(j:Jv.J)(e:aA):Prop:=∃k b n t a d c1 c f c2 q,e=η (.tuple #[.agg #[K G k,.bool b,K G n,H t,I a d c1,I c f c2,K G q],.bool aC])/\Jv W j (qh k b n t (I a d c1) (I c f c2) q)
def GtA(W:ς)(j:Jv.J)(e:aA):Prop:=∃k b n t a d c1 c f c2 q,e=η (.agg #[K G k,.bool b,K G n,H t,I a d c1,I c f c2,K G q])/\Jv W j (qh k b n t (I a d c1) (I c f c2) q)
def jget_is(l:X (υ×Jv.J))(i:az)(an:i<l.length)(key:υ)(a9:l[i].1=key)(ab:∀j(ao:j<l.length),j<i->(l[j].1.toList==key.toList)=O)(vm:Y)(L:X (X Y))(p:aj)(W a:ς)(a5:J W.heap.size W a)(s:Rw W vm 9 L)(a3:tG BQ W l L)(ap:l.length<=1000000):
 Ξ ν 72 #[.agg #[K G 5,.bool O,K G 0,H ⟨#[]⟩,I U 0 0,vm,K G p],H key] a λe w'=>GtT W l[i].2 e/\J a.heap.size a w':=by
 obtain⟨g,ar,a2,cap,rfl,C,a7⟩:=BF s a3;obtain⟨m,D⟩:=pL l.length;have u:=pM a (Z #[K G 5,.bool O,K G 0,H ⟨#[]⟩,I U 0 0,I a2 m cap,K G p] 107);obtain⟨x0,x1,x2,x3,x4,x5,x6⟩:=xQ (w:=a) (x0:=K G 5) (x1:= .bool O) (x2:=K G 0) (x3:=H ⟨#[]⟩) (x4:=I U 0 0) (x5:=I a2 m cap) (x6:=K G p) (t:=107);rw[D] at C ap|-;have T:=N D;have af:=N (C (by omega));have ai:=N a7;have a0:=N (ah a9 ab);have S:=N an;have z:=N u;have am:=N a5;clear s a3 C a7 a9 ab D u a5;obtain rfl:=af.o
 go_enter Tryz.func72,Tryz.ntmps72
 go_wp2_with fail
 generalize E:(a.alloc (Z #[K G 5,.bool O,K G 0,H ⟨#[]⟩,I U 0 0,I (ay ⟨g,ar,U⟩) m cap,K G p] 107)).alloc (Z #[K G 0,.bool O,K G 0,H ⟨#[]⟩,I U 0 0,I U 0 0,K G 0] 107)=v;have a4:v.heap[a.heap.size+1]?=ay (Obj.cells #[K G 0,.bool O,K G 0,H ⟨#[]⟩,I U 0 0,I U 0 0,K G 0] 107 (0,0)):=by rw[<-E];exact lV _ _ _
 have M:=N (show J a.heap.size a v by rw[<-E];exact z.o.alloc z.o.size _);have A:=N a4;obtain⟨R,s⟩:=pL (a.heap.size+1);have al:=N (show a.heap.size<=R by omega);rw[s] at A|-;clear E a4 z x0 x1 x2 x3 x4 x5 x6 s
 go_loopw [15] (λx wr=>∃j:az,j<=i/\x=K G j/\Hid (J v.heap.size v wr)) (λx _=>m-(intOf x).toNat)
 case atStart=>exact⟨0,oM _,rfl,N (pH _ _)⟩
 case round=>
  obtain⟨j,ao,rfl,a6⟩:=hrel;have a8:j<l.length:=(by have:=S.o;omega);have ax:(j:aj)<(m:aj):=(by have:=T.o;omega);have aw:(0:aj)<=(j:aj):=(by omega);have b:=pK am.o (pK M.o a6.o);obtain⟨n,vb,o,q,d,h,c1,f,k,c2,vp,ad,r,F,y1,y2,y3,y4,y5,y6,y7,ae⟩:=ai.o j a8;replace F:=pI F b;replace y1:=pI y1 b;replace y2:=pI y2 b;replace y3:=pI y3 b;replace y4:=pI y4 b;replace y5:=pI y5 b;replace y6:=pI y6 b;replace y7:=pI y7 b;replace ae:=pI ae b;have P:=N (λB:j=i=>(show l[j].1=key/\Jv W l[i].2 (qh n vb o q (I d h c1) (I f k c2) vp) by subst B;exact⟨a0.o.1,r⟩));have Q:=N (λB:j<i=>a0.o.2 j a8 B);clear r;generalize l[j].1=ac at F P Q;have u:=pM wr (Z #[H ac,K G n,.bool vb,K G o,H q,I d h c1,I f k c2,K G vp,K G ad] 156);have c:=pG wr (Z #[H ac,K G n,.bool vb,K G o,H q,I d h c1,I f k c2,K G vp,K G ad] 156);have y:=pR a6 u;have aB:=V (j:=0) c rfl;have aD:=V (j:=1) c rfl;have aF:=V (j:=2) c rfl;have aH:=V (j:=3) c rfl;have aI:=V (j:=4) c rfl;have aJ:=V (j:=5) c rfl;have aK:=V (j:=6) c rfl;have aL:=V (j:=7) c rfl;clear u c b
  by_cases aa:j<i
  ·have au:=Q.o aa
   go_wp2_with fail
   go_roundw
   case rel=>exact⟨j+1,by omega,by go_num,y⟩
   case measure=>have:=T.o;have:=S.o;simp[intOf];omega
  ·obtain⟨rfl,r⟩:=P.o (by omega)
   have ak:=N r;have a1:=N ((y.o.block R (Rw.lt_of_heap A.o)).trans A.o);have ag:=N (pK M.o y.o);clear r aa
   go_wp2_with(refine oN rfl 107 _ _ rfl R #[K G n,.bool vb,K G o,H q,I d h c1,I f k c2,K G vp] rfl rfl 107 _ a1.o (by kernel_rfl) rfl (by simp[Value.oneCell']) ?_)
   go_wp2_with fail
   have aq:=og _ R _ #[K G n,.bool vb,K G o,H q,I d h c1,I f k c2,K G vp] _ _ a1.o;refine ow (yM rfl _ _ R _ _ _ _ rfl aq av rfl (by kernel_rfl)) rfl ?_;exact⟨⟨n,vb,o,q,d,h,c1,f,k,c2,vp,rfl,ak.o⟩,pS ag.o al.o _⟩
def jget_of(l:X (υ×Jv.J))(i:az)(c:i<l.length)(key:υ)(d:l[i].1=key)(g:∀j(k:j<l.length),j<i->(l[j].1.toList==key.toList)=O)(vm:Y)(L:X (X Y))(p:aj)(W:ς)(b:Rw W vm 9 L)(a:tG BQ W l L)(f:l.length<=1000000):
 ∀u,J W.heap.size W u->Ξ ν 72 #[.agg #[K G 5,.bool O,K G 0,H ⟨#[]⟩,I U 0 0,vm,K G p],H key] u λe w'=>GtT W l[i].2 e/\J u.heap.size u w':=
 λu h=>jget_is l i c key d g vm L p W u h b a f
def PU(l:X (υ×Jv.J))(i:az)(a1:i<l.length)(key:υ)(E:l[i].1=key)(M:∀j(a4:j<l.length),j<i->(l[j].1.toList==key.toList)=O)(vm:Y)(L:X (X Y))(p:aj)(b W:ς)(D:J b.heap.size b W)(c:Rw b vm 9 L)(x:tG BQ b l L)(F:l.length<=1000000):
 Ξ ν 71 #[.agg #[K G 5,.bool O,K G 0,H ⟨#[]⟩,I U 0 0,vm,K G p],H key] W λe w'=>(GtA b l[i].2 e/\J W.heap.size W w'):=by
 obtain⟨g,a5,n,cap,rfl,-,-⟩:=BF c x;have y:=pM W (Z #[K G 5,.bool O,K G 0,H ⟨#[]⟩,I U 0 0,I n l.length cap,K G p] 107);have d:=y.alloc y.size (Z #[K G 0,.bool O,K G 0,H ⟨#[]⟩,I U 0 0,I U 0 0,K G 0] 107);have a:=ld W (Z #[K G 5,.bool O,K G 0,H ⟨#[]⟩,I U 0 0,I n l.length cap,K G p] 107) (Z #[K G 0,.bool O,K G 0,H ⟨#[]⟩,I U 0 0,I U 0 0,K G 0] 107);have P:=lV W (Z #[K G 5,.bool O,K G 0,H ⟨#[]⟩,I U 0 0,I n l.length cap,K G p] 107) (Z #[K G 0,.bool O,K G 0,H ⟨#[]⟩,I U 0 0,I U 0 0,K G 0] 107);have x0:=V (j:=0) a rfl;have x1:=V (j:=1) a rfl;have x2:=V (j:=2) a rfl;have x3:=V (j:=3) a rfl;have x4:=V (j:=4) a rfl;have x5:=V (j:=5) a rfl;have x6:=V (j:=6) a rfl;have u:=N (jget_of l i a1 key E M (I n l.length cap) L p b c x F);have f:=N d;have a0:=N D;have w:=N P;generalize l.length=m at x5 u f w|-;clear c x y d a P E M F D
 go_enter Tryz.func71,Tryz.ntmps71
 go_wp2_with fail
 refine(u.o _ (pK a0.o f.o)).mono ?_;rintro e a3⟨⟨r,vb,s,t,h,o,c1,k,q,c2,vp,rfl,C⟩,d⟩;have S:=N C;have A:=pR f d;have B:=N (pW d w.o);clear C d u x0 x1 x2 x3 x4 x5 x6 w f;have z:=pM a3 (Z #[K G r,.bool vb,K G s,H t,I h o c1,I k q c2,K G vp] 107);have v:=N (pW z B.o);have Q:=pR A z;clear z B A;obtain⟨R,c⟩:=pL (W.heap.size+1);have T:=N (show W.heap.size<=R by omega);rw[c] at v|-;clear c
 go_wp2_with(refine oN rfl 107 _ _ rfl R #[K G r,.bool vb,K G s,H t,I h o c1,I k q c2,K G vp] rfl rfl 107 _ v.o (by kernel_rfl) rfl (by simp[Value.oneCell']) ?_)
 go_wp2_with fail
 have a2:=og _ R _ #[K G r,.bool vb,K G s,H t,I h o c1,I k q c2,K G vp] _ _ v.o;refine ow (nL rfl _ _ R _ _ _ _ rfl a2 av rfl (by kernel_rfl)) rfl ?_;exact⟨⟨r,vb,s,t,h,o,c1,k,q,c2,vp,rfl,S.o⟩,pS Q.o T.o _⟩
def Ob(W:ς)(l:X (υ×Jv.J))(vm:Y):Prop:=∃L,Rw W vm 9 L/\tG BQ W l L
def Ob.under{W u:ς}{l:X (υ×Jv.J)}{vm:Y}(c:Ob W l vm)(b:J W.heap.size W u):Ob u l vm:=by obtain⟨L,d,a⟩:=c;exact⟨L,d.under b,a.1,λj f e=>BQ.under b _ _ (a.2 j f e)⟩
def Ob.of{W:ς}{l:X (υ×Jv.J)}{c:X Y}(a:Jv W (.obj l) c):∃p vm,c=qh 5 O 0 ⟨#[]⟩ rG vm p/\Ob W l vm:=by unfold Jv at a;obtain⟨p,v,L,b,d,e⟩:=a;exact⟨p,v,b,L,d,K6 e⟩
def GS(t:υ)(e:aA):Prop:=∃p,e=η (.agg #[K G 3,.bool O,K G 0,H t,I U 0 0,I U 0 0,K G p])
def GI(n:aj)(e:aA):Prop:=∃p,e=η (.agg #[K G 2,.bool O,K G n,H ⟨#[]⟩,I U 0 0,I U 0 0,K G p])
def GL(W:ς)(l:X Jv.J)(e:aA):Prop:=∃p a cap L,e=η (.agg #[K G 4,.bool O,K G 0,H ⟨#[]⟩,I a l.length cap,I U 0 0,K G p])/\Rw W (I a l.length cap) 7 L/\tG Jv W l L
section
variable {l:X (υ×Jv.J)}{key:υ}{vm:Y}{p:aj}{W:ς}
def PV(i:az)(m:i<l.length)(o:l[i].1=key)(v:∀j(a:j<l.length),j<i->(l[j].1.toList==key.toList)=O)(d:Ob W l vm)(r:l.length<=1000000)(t:υ)(w:l[i].2= .str t):
 ∀u,J W.heap.size W u->Ξ ν 71 #[.agg #[K G 5,.bool O,K G 0,H ⟨#[]⟩,I U 0 0,vm,K G p],H key] u λe w'=>GS t e/\J u.heap.size u w':=by
 intro u x;obtain⟨L,f,g⟩:=d;refine(PU l i m key o v vm L p W u x f g r).mono ?_;rintro e w'⟨⟨k,b,n,s,y,A,c1,z,B,c2,q,rfl,a⟩,h⟩;rw[w] at a;unfold Jv at a;obtain⟨C,c⟩:=a;simp only[qh,rG,nG,kf,kH,kR,kK,kO,nU] at c;obtain⟨rfl,rfl,rfl,rfl,⟨rfl,rfl,rfl⟩,⟨rfl,rfl,rfl⟩,rfl⟩:=c;exact⟨⟨_,rfl⟩,h⟩
def geti(i:az)(m:i<l.length)(o:l[i].1=key)(v:∀j(a:j<l.length),j<i->(l[j].1.toList==key.toList)=O)(d:Ob W l vm)(r:l.length<=1000000)(t:aj)(w:l[i].2= .int t):
 ∀u,J W.heap.size W u->Ξ ν 71 #[.agg #[K G 5,.bool O,K G 0,H ⟨#[]⟩,I U 0 0,vm,K G p],H key] u λe w'=>GI t e/\J u.heap.size u w':=by
 intro u x;obtain⟨L,f,g⟩:=d;refine(PU l i m key o v vm L p W u x f g r).mono ?_;rintro e w'⟨⟨k,b,n,s,y,A,c1,z,B,c2,q,rfl,a⟩,h⟩;rw[w] at a;unfold Jv at a;obtain⟨C,c⟩:=a;simp only[qh,rG,nG,kf,kH,kR,kK,kO,nU] at c;obtain⟨rfl,rfl,rfl,rfl,⟨rfl,rfl,rfl⟩,⟨rfl,rfl,rfl⟩,rfl⟩:=c;exact⟨⟨_,rfl⟩,h⟩
def getl(i:az)(y:i<l.length)(z:l[i].1=key)(B:∀j(a:j<l.length),j<i->(l[j].1.toList==key.toList)=O)(m:Ob W l vm)(A:l.length<=1000000)(t:X Jv.J)(C:l[i].2= .arr t):
 ∀u,J W.heap.size W u->Ξ ν 71 #[.agg #[K G 5,.bool O,K G 0,H ⟨#[]⟩,I U 0 0,vm,K G p],H key] u λe w'=>GL W t e/\J u.heap.size u w':=by
 intro u D;obtain⟨L,o,r⟩:=m;refine(PU l i y key z B vm L p W u D o r A).mono ?_;rintro e w'⟨⟨k,b,n,s,h,R,c1,E,S,c2,q,rfl,a⟩,x⟩;rw[C] at a;unfold Jv at a;obtain⟨a0,v,M,f,d,w⟩:=a;have c:=Ga w;obtain⟨g,T,F,cap,rfl,P,Q⟩:=id d;simp only[qh,rG,nG,kf,kH,kR,kK,kO,nU] at f;obtain⟨rfl,rfl,rfl,rfl,⟨rfl,rfl,rfl⟩,⟨rfl,rfl,rfl⟩,rfl⟩:=f;rw[c.1] at d;exact⟨⟨_,h,c1,M,by rw[<-c.1],d,c⟩,x⟩
end
def eL(e:Mo.En):X (υ×Jv.J):=[(Jv.Vz,.str e.id),(Jv.wv,.str e.title),(Jv.Aq,.str e.link),(Jv.xO,.str e.content),(Jv.tP,.int e.upd)]
def fL(f:Mo.Fd):X (υ×Jv.J):=[(Jv.GO,.arr (f.path.map .str)),(Jv.Vz,.str f.id),(Jv.wv,.str f.title),(Jv.Aq,.str f.link),(Jv.tP,.int f.upd),(Jv.xP,.arr (f.pU.map Jv.jE))]
def GQ{l:X (υ×Jv.J)}{i:az}{key:υ}(a:(l.take i).all (λx=> !(x.1.toList==key.toList))=aC):∀j(b:j<l.length),j<i->(l[j].1.toList==key.toList)=O:=by intro j b c;have:=List.all_eq_true.1 a l[j] (by rw[mP];exact⟨j,by omega,rfl⟩);simpa using this
abbrev Dc:FuncId:=71
abbrev oV(vm:Y)(p:aj):Y:= .agg #[K G 5,.bool O,K G 0,H ⟨#[]⟩,I U 0 0,vm,K G p]
def eget(e:Mo.En)(vm:Y)(p:aj)(W:ς)(a:Ob W (eL e) vm):
 (∀u,J W.heap.size W u->Ξ ν Dc #[oV vm p,H ⟨#[105,100]⟩] u λx w'=>GS e.id x/\J u.heap.size u w')/\
 (∀u,J W.heap.size W u->Ξ ν Dc #[oV vm p,H ⟨#[116,105,116,108,101]⟩] u λx w'=>GS e.title x/\J u.heap.size u w')/\
 (∀u,J W.heap.size W u->Ξ ν Dc #[oV vm p,H ⟨#[108,105,110,107]⟩] u λx w'=>GS e.link x/\J u.heap.size u w')/\
 (∀u,J W.heap.size W u->Ξ ν Dc #[oV vm p,H ⟨#[99,111,110,116,101,110,116]⟩] u λx w'=>GS e.content x/\J u.heap.size u w')/\
 (∀u,J W.heap.size W u->Ξ ν Dc #[oV vm p,H ⟨#[117,112,100,97,116,101,100]⟩] u λx w'=>GI e.upd x/\J u.heap.size u w'):=
 ⟨PV (l:=eL e) (key:=Jv.Vz) 0 (by simp[eL]) rfl (GQ (by rfl)) a (by simp[eL]) _ rfl,
  PV (l:=eL e) (key:=Jv.wv) 1 (by simp[eL]) rfl (GQ (by simp only[eL,Λ,ο];change _=_;kernel_rfl)) a (by simp[eL]) _ rfl,
  PV (l:=eL e) (key:=Jv.Aq) 2 (by simp[eL]) rfl (GQ (by simp only[eL,Λ,ο];change _=_;kernel_rfl)) a (by simp[eL]) _ rfl,
  PV (l:=eL e) (key:=Jv.xO) 3 (by simp[eL]) rfl (GQ (by simp only[eL,Λ,ο];change _=_;kernel_rfl)) a (by simp[eL]) _ rfl,
  geti (l:=eL e) (key:=Jv.tP) 4 (by simp[eL]) rfl (GQ (by simp only[eL,Λ,ο];change _=_;kernel_rfl)) a (by simp[eL]) _ rfl⟩
def fget(f:Mo.Fd)(vm:Y)(p:aj)(W:ς)(a:Ob W (fL f) vm):
 (∀u,J W.heap.size W u->Ξ ν Dc #[oV vm p,H ⟨#[112,97,116,104]⟩] u λx w'=>GL W (f.path.map .str) x/\J u.heap.size u w')/\
 (∀u,J W.heap.size W u->Ξ ν Dc #[oV vm p,H ⟨#[105,100]⟩] u λx w'=>GS f.id x/\J u.heap.size u w')/\
 (∀u,J W.heap.size W u->Ξ ν Dc #[oV vm p,H ⟨#[116,105,116,108,101]⟩] u λx w'=>GS f.title x/\J u.heap.size u w')/\
 (∀u,J W.heap.size W u->Ξ ν Dc #[oV vm p,H ⟨#[108,105,110,107]⟩] u λx w'=>GS f.link x/\J u.heap.size u w')/\
 (∀u,J W.heap.size W u->Ξ ν Dc #[oV vm p,H ⟨#[117,112,100,97,116,101,100]⟩] u λx w'=>GI f.upd x/\J u.heap.size u w')/\
 (∀u,J W.heap.size W u->Ξ ν Dc #[oV vm p,H ⟨#[101,110,116,114,105,101,115]⟩] u λx w'=>GL W (f.pU.map Jv.jE) x/\J u.heap.size u w'):=
 ⟨getl (l:=fL f) (key:=Jv.GO) 0 (by simp[fL]) rfl (GQ (by rfl)) a (by simp[fL]) _ rfl,
  PV (l:=fL f) (key:=Jv.Vz) 1 (by simp[fL]) rfl (GQ (by simp only[fL,Λ,ο];change _=_;kernel_rfl)) a (by simp[fL]) _ rfl,
  PV (l:=fL f) (key:=Jv.wv) 2 (by simp[fL]) rfl (GQ (by simp only[fL,Λ,ο];change _=_;kernel_rfl)) a (by simp[fL]) _ rfl,
  PV (l:=fL f) (key:=Jv.Aq) 3 (by simp[fL]) rfl (GQ (by simp only[fL,Λ,ο];change _=_;kernel_rfl)) a (by simp[fL]) _ rfl,
  geti (l:=fL f) (key:=Jv.tP) 4 (by simp[fL]) rfl (GQ (by simp only[fL,Λ,ο];change _=_;kernel_rfl)) a (by simp[fL]) _ rfl,
  getl (l:=fL f) (key:=Jv.xP) 5 (by simp[fL]) rfl (GQ (by simp only[fL,Λ,ο];change _=_;kernel_rfl)) a (by simp[fL]) _ rfl⟩
end De
namespace Eqw
open RowKit Rw Mw
def ent_neq(a b c d:υ)(n:aj)(w:ς):(binOp .neq 53 (.agg #[H a,H b,H c,H d,K G n]) (.agg #[H a,H b,H c,H d,K G n])).run ν w= .ok (.bool O) w:=by
 have f:Tryz.prog.stoodInHeld 53=O:=by kernel_rfl
 have g:=Tryz.underlying53;have h:=Tryz.underlying9;have i:=Tryz.underlying2;rw[run_neq_struct]
 have e:(Op.equalIn 10000 53 (.agg #[H a,H b,H c,H d,K G n]) (.agg #[H a,H b,H c,H d,K G n])).run ν w= .ok aC w:=by rw[show(10000:az)=9999+1 from rfl,run_equalIn_agg w _ _ _ _ (by kernel_rfl) f];simp[go_sem,g,h,i]
 rw[e];rfl
def Ud(p:X υ):Mo.q8 p p=0:=by
 induction p with
 |nil=>rfl
 |cons a r ih=>simp[Mo.q8,ih]
def same_is(f:Mo.Fd)(vp ve a6 al:Y)(W:ς)(a3:Rw W vp 1 (f.path.map p_))(ae:Rw W ve 5 (f.pU.map pO))(L:Rw W a6 1 (f.path.map p_))(af:Rw W al 5 (f.pU.map pO))(ak:f.path.length<=1000000)(le:f.pU.length<=1000000):
 Ξ ν 33 #[.agg #[vp,H f.id,H f.title,H f.link,K G f.upd,ve],.agg #[a6,H f.id,H f.title,H f.link,K G f.upd,al]] W λx w'=>x=η (.bool aC)/\J W.heap.size W w':=by
 have a0:=λu (ai:J W.heap.size W u)=>Jd f.path f.path vp a6 u (a3.under ai) (L.under ai) (by omega) (by omega)
 rw[Ud] at a0;have k:=N a0;obtain⟨-,-,M,P,rfl,-,-⟩:=qp a3;obtain⟨-,-,Q,R,rfl,-,-⟩:=qp L;obtain⟨aD,aF,y,z,rfl,D,a1⟩:=qO ae;obtain⟨aH,aI,A,B,rfl,F,a2⟩:=qO af;obtain⟨a5,i,t,l,u,pU⟩:=f;simp only at ak le D a1 F a2 k|-;obtain⟨g,a4⟩:=pL a5.length;obtain⟨a,E⟩:=pL pU.length;rw[a4] at k;rw[E] at D F le;have ao:=N E;have ab:=N (ah D F);have ac:=N (ah a1 a2)
 show Ξ ν 33 #[.agg #[I M a5.length P,H i,H t,H l,K G u,I y pU.length z],.agg #[I Q a5.length R,H i,H t,H l,K G u,I A pU.length B]] W _
 rw[a4,E];clear a3 ae L af a0 D F a1 a2 a4 E ak;have T:=pM W (Z #[I M g P,H i,H t,H l,K G u,I y a z] 51);have ad:=T.alloc T.size (Z #[I Q g R,H i,H t,H l,K G u,I A a B] 51);have c:=ld W (Z #[I M g P,H i,H t,H l,K G u,I y a z] 51) (Z #[I Q g R,H i,H t,H l,K G u,I A a B] 51);have d:=lV W (Z #[I M g P,H i,H t,H l,K G u,I y a z] 51) (Z #[I Q g R,H i,H t,H l,K G u,I A a B] 51);have a9:=N c;have aa:=N d;have x0:=V (j:=0) c rfl;have an:=V (j:=0) d rfl;have a7:=N ad;clear T ad c d
 go_enter Tryz.func33,Tryz.ntmps33
 go_wp2_with fail
 refine(k.o _ a7.o).mono ?_;rintro e am⟨rfl,C⟩;have a8:=pR a7 C;have c:=pW C a9.o;have d:=pW C aa.o;replace x0:=V (j:=0) c rfl;have x1:=V (j:=1) c rfl;have x2:=V (j:=2) c rfl;have x3:=V (j:=3) c rfl;have x4:=V (j:=4) c rfl;have x5:=V (j:=5) c rfl;replace an:=V (j:=0) d rfl;have y1:=V (j:=1) d rfl;have y2:=V (j:=2) d rfl;have y3:=V (j:=3) d rfl;have y4:=V (j:=4) d rfl;have y5:=V (j:=5) d rfl;clear c d C k a9 aa
 go_wp2_with fail
 go_loopw [5] (λx wr=>∃j:az,j<=a/\x=K G j/\Hid (J am.heap.size am wr)) (λx _=>a-(intOf x).toNat)
 case atStart=>exact⟨0,oM _,rfl,N (pH _ _)⟩
 case round=>
  obtain⟨j,aL,rfl,h⟩:=hrel;replace x5:=pI x5 h.o;replace y5:=pI y5 h.o
  by_cases aB:j<a
  ·obtain rfl:=ab.o.1 (by omega)
   obtain rfl:=ab.o.2 (by omega);have ag:j<pU.length:=(by rw[ao.o];exact aB);have b:=pK a8.o h.o;obtain⟨m,c1,c2,n,o⟩:=ac.o.1 j ag;obtain⟨q,r,s,v,w⟩:=ac.o.2 j ag;replace m:=pI m b;replace c1:=pI c1 b;replace c2:=pI c2 b;replace n:=pI n b;replace o:=pI o b;replace q:=pI q b;replace r:=pI r b;replace s:=pI s b;replace v:=pI v b;replace w:=pI w b;generalize pU[j]=au at m c1 c2 n o q r s v w;obtain⟨aq,aw,ar,ap,ax⟩:=au;simp only at m c1 c2 n o q r s v w;have aN:(j:aj)<(a:aj):=(by omega);have aM:(0:aj)<=(j:aj):=(by omega);have aK:Tryz.prog.eqGuardType Tryz.prog.depth 53=O:=(by kernel_rfl);have L:=ent_neq aq aw ar ap ax;clear b x0 x1 x2 x3 x4 an y1 y2 y3 y4
   go_wp2_with fail
   go_quiet(fail)
   have S:=N (Rw.below_drewN h.o nq)
   go_wp2_with fail
   go_roundw
   case rel=>exact⟨j+1,by omega,by go_num,S⟩
   case measure=>simp[intOf];omega
  ·have aJ:decide ((j:aj)<(a:aj))=O:=o9 (by omega)
   have S:=N (pK a8.o h.o)
   go_wp2_with fail
   go_ret;exact⟨rfl,S.o⟩
def No(ar:X Mo.Fd)(va vb:Y)(W:ς)(ao:rY W va ar)(b:rY W vb ar)(aL:ar.length<=1000000)(au:∀f∈ar,f.path.length<=1000000/\f.pU.length<=1000000):
 Ξ ν 14 #[.agg #[va],.agg #[vb]] W λx w'=>x=η (.bool aC)/\J W.heap.size W w':=by
 obtain⟨b0,b1,h,k,rfl,D,ap⟩:=qF ao;obtain⟨b2,b3,n,o,rfl,E,aq⟩:=qF b;obtain⟨m,M⟩:=pL ar.length;rw[M] at D E aL|-;have aF:=N M;have a6:=N (ah D E);have a7:=N (ah ap aq);have a8:=N au;have C:=pM W (Z #[I h m k] 24);have a9:=C.alloc C.size (Z #[I n m o] 24);have aw:=ld W (Z #[I h m k] 24) (Z #[I n m o] 24);have ax:=lV W (Z #[I h m k] 24) (Z #[I n m o] 24);have x0:=V (j:=0) aw rfl;have z:=V (j:=0) ax rfl;have A:=N a9;clear ao b D E ap aq M au C a9 aw ax
 go_enter Tryz.func14,Tryz.ntmps14
 go_wp2_with fail
 generalize(W.alloc (Z #[I h m k] 24)).alloc (Z #[I n m o] 24)=aD at x0 z A|-
 go_loopw [5] (λx wr=>∃j:az,j<=m/\x=K G j/\Hid (J aD.heap.size aD wr)) (λx _=>m-(intOf x).toNat)
 case atStart=>exact⟨0,oM _,rfl,N (pH _ _)⟩
 case round=>
  obtain⟨j,b5,rfl,b⟩:=hrel;replace x0:=pI x0 b.o;replace z:=pI z b.o
  by_cases aM:j<m
  ·obtain rfl:=a6.o.1 (by omega)
   obtain rfl:=a6.o.2 (by omega);have q:j<ar.length:=(by rw[aF.o];exact aM);have a:=pK A.o b.o;obtain⟨vp,ve,P,F,aa,c1,c2,ab,ac,ad⟩:=a7.o.1 j q;obtain⟨aY,aX,Q,L,af,ag,ai,ak,al,am⟩:=a7.o.2 j q;have c:=N (λu (r:J W.heap.size W u)=>same_is ar[j] vp ve aY aX u (P.under r) (F.under r) (Q.under r) (L.under r) (a8.o _ (pq q)).1 (a8.o _ (pq q)).2);obtain⟨-,-,aQ,aS,rfl,-,-⟩:=qp P;obtain⟨-,-,aT,aU,rfl,-,-⟩:=qp Q;obtain⟨-,-,aH,aI,rfl,-,-⟩:=qO F;obtain⟨-,-,aJ,aK,rfl,-,-⟩:=qO L;have w:=ξ (pI aa a);have a2:=ξ (pI c1 a);have a3:=ξ (pI c2 a);have a4:=ξ (pI ab a);have a5:=ξ (pI ac a);have y:=ξ (pI ad a);have s:=ξ (pI af a);have S:=ξ (pI ag a);have T:=ξ (pI ai a);have a0:=ξ (pI ak a);have a1:=ξ (pI al a);have v:=ξ (pI am a);have aV:=ξ x0;have aW:=ξ z;clear P F Q L aa c1 c2 ab ac ad af ag ai ak al am;generalize ar[j]=f at c w a2 a3 a4 a5 y s S T a0 a1 v;obtain⟨aR,i,t,l,u,pU⟩:=f;simp only at w a2 a3 a4 a5 y s S T a0 a1 v c;generalize aR.length=aB at c w s;generalize pU.length=an at c y v;have ae:∀(g:az)(R:Array Obj),Ξ ν 33 #[.agg #[I aQ aB aS,H i,H t,H l,K G u,I aH an aI],.agg #[I aT aB aU,H i,H t,H l,K G u,I aJ an aK]] (Sort.grow (redrawn wr g) R) λe aZ=>e=η (.bool aC)/\∃p:Regrown,aZ=Sort.grow (redrawn wr p.d) p.os:=λg R=>Calls.regrown_of (c.o _ (pK a (aG wr g R)))
   have b7:(j:aj)<(m:aj):=(by omega);have b6:(0:aj)<=(j:aj):=by omega
   go_wp2_with fail
   refine wp_region_quiet_below (by kernel_rfl) (by kernel_rfl) ?_
   repeat(first|go_big_quiet_step (fail)|quiet_step (exact ae _ _)|quiet_step (fail))
   refine wpQuiet_nil ?_;intro _ aN;obtain⟨⟨g,aP⟩,aO⟩:=aN;subst aO;have B:=pR b (aG wr g aP);clear w a2 a3 a4 a5 y s S T a0 a1 v aV aW ae
   go_wp2_with fail
   go_roundw
   case rel=>exact⟨j+1,by omega,by go_num,B⟩
   case measure=>simp[intOf];omega
  ·have b4:decide ((j:aj)<(m:aj))=O:=o9 (by omega)
   have B:=N (pK A.o b.o)
   go_wp2_with fail
   go_ret;exact⟨rfl,B.o⟩
end Eqw
end Go.Proofs.YthbhmjdcfocphaaGreatDoor
