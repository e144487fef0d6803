/- A part of this proof. -/
import Derived.Test.YthbhmjdcfocphaaGreatDoorKL
import Derived.Test.YthbhmjdcfocphaaGreatDoorKG
set_option linter.all false
set_option maxHeartbeats 16000000
set_option maxRecDepth 100000
namespace Go.Proofs.YthbhmjdcfocphaaGreatDoor
open Go.Value renaming string→U, slice→G, pointer→ε, int→θ
open Go.Obj renaming cells→ζ
open Go.Ending renaming returned→η
open Go.IntKind renaming i64→E
open Go.Lib renaming hid→K
open _root_ renaming ByteArray→Y, List→J, Int→N, Nat→V
open Option renaming some→H, none→I
open Go renaming Value→O, World→Z, TypeId→aH, Calls→aJ, typeInfo→aK
open Go.RowKit renaming Below→Δ
open Rw renaming lt_of_heap→Θ
open Go.Value renaming oneCell'→Λ, slice→aI
open And renaming intro→Ξ
open Go.World renaming setRow→Ω
open Go.Proofs.Tryz renaming prog→ς, underlying100→ο
open Me.Row renaming slice→aj, below→aE
open Go.Builtin renaming copy_→av, firstCells→az, lenOf→aC
open List renaming map→aA, range→aG
namespace Nd
open RowKit Rw Vf Mw Me Gr Xm
def tN(a:Y×Y):J O:=[U ⟨#[]⟩,U a.1,U a.2,θ E 0]
def qA(n:Y)(va a:O):J O:=[θ E 0,U ⟨#[]⟩,U n,va,a,U ⟨#[]⟩,θ E 0]
mutual
def tQ(w:Z):T->J O->Prop
 | .el n a ks,c=>∃va b L,c=qA n va b/\Rw w va 4 (a.map tN)/\Rw w b 7 L/\NL w ks L
def NL(w:Z):J T->J (J O)->Prop
 |[],L=>L=[]
 |k::r,L=>∃c M,L=c::M/\tQ w k c/\NL w r M
end
mutual
def tQ.under{w w':Z}(b:Δ w.heap.size w w'):∀(t:T)(c:J O),tQ w t c->tQ w' t c
 | .el n a ks,c,h=>by
   unfold tQ at h|-;obtain⟨va,i,L,d,e,f,g⟩:=h;exact⟨va,i,L,d,e.under b,f.under b,NL.under b ks L g⟩
def NL.under{w w':Z}(a:Δ w.heap.size w w'):∀(l:J T)(L:J (J O)),NL w l L->NL w' l L
 |[],L,h=>by unfold NL at h|-;exact h
 |k::r,L,h=>by
  unfold NL at h|-;obtain⟨c,M,b,d,e⟩:=h;exact⟨c,M,b,tQ.under a k c d,NL.under a r M e⟩
end
def AR{w:Z}:∀{l:J T}{L:J (J O)},NL w l L->tG tQ w l L
 |[],L,h=>by unfold NL at h;subst h;exact⟨rfl,λj b=>absurd b (by simp)⟩
 |a::r,L,h=>by
  unfold NL at h;obtain⟨c,M,rfl,d,e⟩:=h;obtain⟨f,g⟩:=AR e;refine⟨by simp[f],λj b i=>?_⟩
  cases j with
  |zero=>exact d
  |succ j=>exact g j (by simpa using b) (by simpa using i)
def NL_mk{w:Z}:∀{l:J T}{L:J (J O)},tG tQ w l L->NL w l L
 |[],L,h=>by unfold NL;exact oK h.1
 |a::r,[],h=>absurd h.1 (by simp)
 |a::r,c::M,h=>by
  unfold NL;exact⟨c,M,rfl,h.2 0 (by simp) (by simp),NL_mk ⟨by simpa using h.1,λj b d=>h.2 (j+1) (by simpa using b) (by simpa using d)⟩⟩
def nis{w:Z}{n:Y}{a:J (Y×Y)}{ks:J T}{va b:O}{L:J (J O)}(c:Rw w va 4 (a.map tN))(d:Rw w b 7 L)(e:tG tQ w ks L):tQ w (.el n a ks) (qA n va b):=by unfold tQ;exact⟨va,b,L,rfl,c,d,NL_mk e⟩
def tQ.form{w:Z}{t:T}{c:J O}(a:tQ w t c):∃n b e c1 d f c2,c=qA n (G b e c1) (G d f c2):=by
 cases t;unfold tQ at a;obtain⟨va,g,L,rfl,⟨_,_,_,_,rfl,-⟩,⟨_,_,_,_,rfl,-⟩,-⟩:=a;exact⟨_,_,_,_,_,_,_,rfl⟩
def tQ.one{w:Z}{t:T}{c:J O}(b:tQ w t c):∀u∈c,u.oneCell'=true:=by obtain⟨n,d,f,c1,e,g,c2,rfl⟩:=b.form;intro u a;simp only[qA,ox,oy,nw] at a;rcases a with rfl|rfl|rfl|rfl|rfl|rfl|rfl<;>rfl
def tQ.len{w:Z}{t:T}{c:J O}(a:tQ w t c):c.length=7:=by obtain⟨n,b,e,c1,d,f,c2,rfl⟩:=a.form;rfl
def AEl(w:Z)(x:Y×Y)(c:J O):Prop:=c=tN x
def MR(x:Y×Y):∀u∈tN x,u.oneCell'=true:=λu a=>by
 simp only[tN,ox,oy,nw] at a;rcases a with rfl|rfl|rfl|rfl<;>rfl
abbrev wk(S:V)(w:Z)(v:O)(l:J (Y×Y)):Prop:=Row AEl 4 220 S w v l
abbrev tA(S:V)(w:Z)(v:O)(l:J T):Prop:=Row tQ 7 100 S w v l
def wk.rw{S:V}{w:Z}{v:O}{l:J (Y×Y)}(a:wk S w v l):Rw w v 4 (l.map tN):=De.yP (C:=tN) (λ_ _ _ a=>a) a
def tiA:TI 97 220 4 56:=Dx Tryz.underlying97 (by kernel_rfl) (by decide)
def tiN:TI 98 100 7 112:=Dx Tryz.underlying98 (by kernel_rfl) (by decide)
def NV(S:V)(w:Z)(t:T)(c:J O):Prop:=∀u,Agree S w u I->tQ u t c
def NV.here{S:V}{w:Z}{t:T}{c:J O}(a:NV S w t c):tQ w t c:=a w λ_ _ _ _=>rfl
def NV.below{S:V}{w w':Z}{t:T}{c:J O}(a:NV S w t c)(b:Δ w.heap.size w w'):NV S w' t c:=λu d=>a u (Agree.below b d)
def NV.base{S R:V}{w:Z}{t:T}{c:J O}(a:NV R w t c)(g:S<=R):NV S w t c:=λu e=>a u λk f b d=>e k (by omega) b d
def Ao{S:V}{w:Z}{n:Y}{a:J (Y×Y)}{ks:J T}{va e:O}(l:wk S w va a)(m:tA S w e ks):NV S w (.el n a ks) (qA n va e):=λu c=>by
 have f:=De.r_ (λ_ _ _ _ i=>i) l c;obtain⟨L,c1,c2,g⟩:=m;have d:=g u λk p q _=>c k p q (by simp)
 have h:=vJ c2 c;exact nis (wk.rw f) (Rw.uT h d.1 (λj b k o=>r8 c1.1 j b k o) λj b=>c1.1 _ (pq b)) d
def ql{w u:Z}{h:V}{a b c d e f g:O}{t:aH}{l:V×V}(m:Δ w.heap.size w u)(k:w.heap[h]?=H (ζ #[a,b,c,d,e,f,g] t l)):
 u.cell? ⟨h,0,I⟩=H a/\u.cell? ⟨h,1,I⟩=H b/\u.cell? ⟨h,2,I⟩=H c/\u.cell? ⟨h,3,I⟩=H d/\u.cell? ⟨h,4,I⟩=H e/\u.cell? ⟨h,5,I⟩=H f/\u.cell? ⟨h,6,I⟩=H g:=by
 have i:=(m.block h (Θ k)).trans k;exact⟨pJ (j:=0) i rfl,pJ (j:=1) i rfl,pJ (j:=2) i rfl,pJ (j:=3) i rfl,pJ (j:=4) i rfl,pJ (j:=5) i rfl,pJ (j:=6) i rfl⟩
def xD{w:Z}{v:O}{ks:J T}{L:J (J O)}(t:Rw w v 7 L)(r:tG tQ w ks L):∃g a h cap,v=G h ks.length cap/\(0<ks.length->h=H ⟨g,a,I⟩)/\∀j(p:j<ks.length)(i:j<L.length),∃n b d c1 c f c2,L[j]=qA n (G b d c1) (G c f c2)/\tQ w ks[j] L[j]/\
 w.cell? ⟨g,a+j*7,I⟩=H (θ E 0)/\w.cell? ⟨g,a+j*7+1,I⟩=H (U ⟨#[]⟩)/\w.cell? ⟨g,a+j*7+2,I⟩=H (U n)/\w.cell? ⟨g,a+j*7+3,I⟩=H (G b d c1)/\w.cell? ⟨g,a+j*7+4,I⟩=H (G c f c2)/\w.cell? ⟨g,a+j*7+5,I⟩=H (U ⟨#[]⟩)/\w.cell? ⟨g,a+j*7+6,I⟩=H (θ E 0):=by
 obtain⟨g,a,h,cap,l,m,u⟩:=t;rw[r.1] at l m;refine⟨g,a,h,cap,l,m,λj p i=>?_⟩;have s:=r.2 j p i;obtain⟨n,b,d,c1,c,f,c2,e⟩:=s.form
 have at':∀k(q:k<7) x,(qA n (G b d c1) (G c f c2))[k]?=H x->w.cell? ⟨g,a+j*7+k,I⟩=H x:=λk q x z=>by
  obtain⟨A,o,y⟩:=u j i k q;rw[e,z] at o;cases o;exact y
 exact⟨n,b,d,c1,c,f,c2,e,s,at' 0 (by omega) _ rfl,at' 1 (by omega) _ rfl,at' 2 (by omega) _ rfl,at' 3 (by omega) _ rfl,at' 4 (by omega) _ rfl,at' 5 (by omega) _ rfl,at' 6 (by omega) _ rfl⟩
def vW{w:Z}{v:O}{l:J (Y×Y)}(i:Rw w v 4 (l.map tN)):∃g a b cap,v=G b l.length cap/\(0<l.length->b=H ⟨g,a,I⟩)/\∀j(f:j<l.length),
 w.cell? ⟨g,a+j*4,I⟩=H (U ⟨#[]⟩)/\w.cell? ⟨g,a+j*4+1,I⟩=H (.string l[j].1)/\w.cell? ⟨g,a+j*4+2,I⟩=H (.string l[j].2)/\w.cell? ⟨g,a+j*4+3,I⟩=H (θ E 0):=by
 obtain⟨g,a,b,cap,c,d,m⟩:=i;rw[oS] at c d;refine⟨g,a,b,cap,c,d,λj f=>?_⟩
 have at':∀k(h:k<4) x,(tN l[j])[k]?=H x->w.cell? ⟨g,a+j*4+k,I⟩=H x:=λk h x o=>by
  obtain⟨p,e,n⟩:=m j (by rw[oS];exact f) k h;rw[oG,o] at e;cases e;exact n
 exact⟨at' 0 (by omega) _ rfl,at' 1 (by omega) _ rfl,at' 2 (by omega) _ rfl,at' 3 (by omega) _ rfl⟩
end Nd
namespace Nd
open RowKit Rw Vf Mw Me Gr Rg Xm
def NX(X:Z->Prop)(w:Z)(t:T)(c:J O):Prop:=X w->tQ w t c
def Rk{X:Z->Prop}{S d:V}{w:Z}{v:O}{ks:J T}(g:Row (NX X) 7 100 d w v ks)(m:S<=d)(n:∀u,Agree S w u v.ownBlock->X u):tA S w v ks:=by
 obtain⟨L,h,i,l⟩:=g;refine⟨L,h,rK i m,λu f=>?_⟩;have e:=l u λk a b c=>f k (by omega) b c
 exact⟨e.1,λj a b=>e.2 j a b (n u f)⟩
abbrev zN:Array O:=#[θ E 0,U ⟨#[]⟩,U ⟨#[]⟩,G I 0 0,G I 0 0,U ⟨#[]⟩,θ E 0]
abbrev bN(n:Y)(va a:O):Obj:=ζ #[θ E 0,U ⟨#[]⟩,U n,va,a,U ⟨#[]⟩,θ E 0] (100:V)
def Wz{a:Type}{El:Z->a->J O->Prop}{sz S:V}{t:aH}{w:Z}{v:O}{l:J a}(b:Row El sz t S w v l)(q:V)(e:v.ownBlock=H q):S<=q:=by obtain⟨L,-,c,-⟩:=b;exact(qq c e).1
def Dy(n:Y)(ks:J T)(aP:O)(S:V)(W:Z)(a7:tA S W aP ks)(aw:S<=W.heap.size)(b9:ks.length<=1000000):
 aJ ς 83 #[U n,aP] W λe w'=>(∃aO,e=η (.agg (qA n (G I 0 0) aO).toArray)/\tA S w' aO ks)/\Δ W.heap.size W w':=by
 obtain⟨L,o,z,p⟩:=a7;have a3:=p W λ_ _ _ _=>rfl
 obtain⟨g,aM,b4,cap,rfl,af,ax⟩:=xD (Rw.uT z a3.1 (λj ak k a7=>r8 o.1 j ak k a7) λj ak=>o.1 _ (pq ak)) a3;obtain⟨aN,aB⟩:=pL ((aI b4 ks.length cap).ownBlock);rw[aB] at p;obtain⟨m,a8⟩:=pL ks.length;rw[a8] at af b9|-;have i:=K a8;have am:=K (a3.1.trans a8);have aS:=K af;have aT:=K ax;have aQ:=K p;have b0:=K aw;obtain⟨a1,a0,ag⟩:=sM W (ζ zN (100:V)) (bN n (G I 0 0) (G I 0 0));clear o z p a3 af ax a8 aB aw
 go_enter Tryz.func83,Tryz.ntmps83
 go_wp2_with(refine EN rfl 100 _ _ rfl _ _ rfl rfl (by kernel_rfl) rfl (by simp[Λ]) ?_)
 generalize(W.alloc _).alloc _=b3 at a1 a0 ag|-;generalize ae:W.heap.size=B at a1 a0|-;have R:=K ae;have aY:=K a1;have aX:=K a0;have aU:=K (show Δ B W b3 by rw[<-ae];exact ag);clear ae a1 a0 ag
 go_loopw [6] (λx wr=>∃(k:V)(r:O),k<=m/\x=θ E k/\Hid (wr.heap[B+1]?=H (bN n (G I 0 0) r))/\Hid (wr.heap[B]?=H (ζ zN (100:V)))/\Hid (Row (NX λu=>Agree S W u aN) 7 100 (B+2) wr r (ks.take k))/\Hid (Δ B W wr)) (λx _=>m-(intOf x).toNat)
 case atStart=>exact⟨0,_,oM _,rfl,aX,aY,K Row.nil,aU⟩
 case round=>
  obtain⟨k,r,a7,rfl,ai,ay,al,ah⟩:=hrel;obtain⟨bc,bd,aD⟩:=aj al.o;rw[show(ks.take k).length=k from List.length_take.trans (nM (by have:=i.o;omega))] at aD;subst aD;have ao:=K (show(ks.take k).length=k from List.length_take.trans (nM (by have:=i.o;omega)));have ac:=K ai.o;have aa:=K ay.o;have X:=K al.o;have ab:=K ah.o;have P:=K (Θ ai.o);have h:Δ W.heap.size W wr:=(by rw[R.o];exact ah.o);clear ai ay al ah
  by_cases s:k<m
  ·obtain rfl:=aS.o (by omega)
   obtain⟨F,t,C,c1,y,D,c2,e,ba,Q,y1,y2,y3,y4,y5,y6⟩:=aT.o k (by rw[i.o];exact s) (by rw[am.o];exact s);replace Q:=pI Q h;replace y1:=pI y1 h;replace y2:=pI y2 h;replace y3:=pI y3 h;replace y4:=pI y4 h;replace y5:=pI y5 h;replace y6:=pI y6 h;have b1:=K (Mg.qi (l:=ks) (show k<ks.length by rw[i.o];exact s))
   have an:=K (show∀u,Agree S W u aN->tQ u (ks[k]'(by rw[i.o];exact s)) (qA F (G t C c1) (G y D c2)) fromλu f=>by
    have:=(aQ.o u f).2 k (by rw[i.o];exact s) (by rw[am.o];exact s)
    rwa [e] at this)
   have bp:(k:N)<(m:N):=(by omega);have bo:(0:N)<=(k:N):=(by omega);have b2:=K (λu (f:Δ wr.heap.size wr u)=>Ξ (ql f ac.o) (Ξ (pI Q f) (Ξ (pI y1 f) (Ξ (pI y2 f) (Ξ (pI y3 f) (Ξ (pI y4 f) (Ξ (pI y5 f) (pI y6 f))))))));clear h e ba y1 y2 y3 y4 y5 y6
   go_wp2_with fail
   refine qQ 7 [[],[0],[],[],[2,3],[4],[5]] [H 29,H 30,H 31,H 32,H 33,H 34,H 35] (by kernel_rfl) (by kernel_rfl) (by kernel_rfl)
    [eqv (ptr (B+1) 4),eqv (G bc k bd),eqv (G (H ⟨g,aM,I⟩) m cap),eqv (θ E k),eqv (ptr g (aM+k*7)),eqv (.agg #[θ E 0,U ⟨#[]⟩,U F,G t C c1,G y D c2,U ⟨#[]⟩,θ E 0]),
     λ_ v w=>∃q,v=G (H ⟨q,0,I⟩) 1 1/\w.heap[q]?=H (bN F (G t C c1) (G y D c2))] ?bb ?step ?fin
   case bb=>
    refine⟨?_,?_,?_,?_,?_,?_,?_,trivial⟩
    all_goals intro d u w w' b6 a2
    all_goals first|exact a2|(obtain⟨q,e,a2⟩:=a2;exact⟨q,e,pW b6 a2⟩)
   case step=>
    refine⟨?_,?_,?_,?_,?_,?_,?_,trivial⟩
    all_goals
     intro x w a4 a6;simp only[oI,oF,fr,qD,Fv,Fa,eqv,ptr,aA,nU] at a6|-;obtain⟨⟨-,-,-,-,ap,-,-⟩,Q,y1,y2,y3,y4,y5,y6⟩:=b2.o w a4;unfold gives
    case refine_7=>go_simp;obtain⟨_,a9⟩:=Array.getElem?_eq_some_iff.1 (pG w (bN F (G t C c1) (G y D c2)));exact⟨a9,pM _ _⟩
    all_goals(go_simp;exact pH _ _)
   case fin=>
    intro x w a4 a6;simp only[show aG 7=[0,1,2,3,4,5,6] from rfl,oI,oF,fr,qD,Fv,Fa,eqv,ptr,aA,nU,nS,nO] at a6|-;obtain⟨aq,o,z,p,ar,au,q,A,a9⟩:=a6;rw[aq,o,z,p,ar,au,A];have M:=K a4;have aZ:=K a9;clear a4 aq o z p ar au A a9 Q;go_simp;refine rz (n:=k) w rfl (.tmp 30) (.tmp 35) rfl tiN ao.o rfl (aE X.o M.o) (G (H ⟨q,0,I⟩) 1 1) 1 [ks[k]'(by rw[i.o];exact s)] [qA F (G t C c1) (G y D c2)] rfl (DU (cs:=qA F (G t C c1) (G y D c2)) aZ.o rfl) rfl rfl (λu f=>tG.one λb5=>an.o u b5) (Flat.one rfl (tQ.one (an.o W λ_ _ _ _=>rfl))) (by have o:=P.o;have z:=M.o.size;omega) (by omega) (by decide) ?_;intro bq br A a5 b7;obtain⟨be,bl,aL⟩:=aj A;rw[o_,ao.o,lR] at aL;subst aL;have aR:=K A;have ad:=K ((a5.block (B+1) (by omega)).trans ((M.o.block _ P.o).trans ac.o));have aW:=K ((a5.block B (by omega)).trans ((M.o.block _ (by have:=P.o;omega)).trans aa.o));have aV:=K (ab.o.trans ((M.o.mono (by have:=P.o;omega)).trans (a5.mono (by omega))));have ap:=(ql (pH _ _) ad.o).2.2.2.2.1;have bm:=yY ad.o 4;clear A a5 b7
    go_wp2_with fail
    go_roundw
    case rel=>exact⟨k+1,_,by omega,by go_num,K (oO _ _ 4 _ _ _ ad.o),K ((pz _ _ _ _ (by show _≠B+1;omega)).trans aW.o),by rw[b1.o];exact K (qK aR.o (by simp) λq a=>pz _ _ _ _ (by show _≠B+1;omega)),K (aV.o.trans ⟨rfl,rfl,rfl,by simp,λq a=>pz _ _ _ _ (by show _≠B+1;omega)⟩)⟩
    case measure=>simp[intOf];omega
  ·have bn:decide ((k:N)<(m:N))=false:=o9 (by omega)
   have aF:ks.take k=ks:=oP (by rw[i.o];omega);rw[aF] at X;obtain⟨bf,bg,bh,bi,ap,bj,bk⟩:=ql (pH _ _) ac.o;clear aF h
   go_wp2_with(refine oN rfl 100 _ _ rfl _ _ rfl rfl 100 _ aa.o (by kernel_rfl) rfl (by simp[Λ]) ?_)
   refine ow (nL rfl _ _ B _ _ _ _ rfl (og _ _ _ _ _ _ aa.o) ο rfl (by kernel_rfl)) rfl ?_;refine⟨⟨_,rfl,Rk (qK X.o (by simp[Ω]) λq a=>oo _ _ _ _ (by omega)) (by have:=b0.o;have:=R.o;omega) λu f k a b c=>?_⟩,by rw[R.o];exact pS ab.o (oZ _) _⟩;have b8:k<B:=(by rw[<-R.o];exact b);rw[f k a (by simp[Ω];have:=P.o;omega) (λe=>by have:=Wz X.o k e.symm;omega),oo _ _ _ _ (by omega)];exact ab.o.block k b8
def tB(ps:J (Y×Y)):J Y:=ps.flatMap λp=>[p.1,p.2]
def TE(ps:J (Y×Y)):(tB ps).length=2*ps.length:=by
 induction ps with
 |nil=>rfl
 |cons p r ih=>simp only[tB,mE,o_,oJ,oh] at ih|-;omega
def MU:∀(ps:J (Y×Y))(k:V)(a:k<ps.length),(tB ps)[2*k]?=H ps[k].1/\(tB ps)[2*k+1]?=H ps[k].2
 |[],k,a=>absurd a (by simp)
 |p::r,0,a=>⟨rfl,rfl⟩
 |p::r,k+1,a=>by
  obtain⟨b,c⟩:=MU r k (by simpa using a);have e:tB (p::r)=p.1::p.2::tB r:=rfl;rw[e,show 2*(k+1)=2*k+1+1 by omega];simp only[l7,jN];exact⟨b,c⟩
def MV{w:Z}{v:O}{ps:J (Y×Y)}(c:Rw w v 1 ((tB ps).map p_)):∃g a b cap,v=G b (2*ps.length) cap/\(0<ps.length->b=H ⟨g,a,I⟩)/\∀k(h:k<ps.length),w.cell? ⟨g,a+2*k,I⟩=H (.string ps[k].1)/\w.cell? ⟨g,a+(2*k+1),I⟩=H (.string ps[k].2):=by
 obtain⟨g,a,b,cap,d,e,j⟩:=c;rw[oS,TE] at d e;refine⟨g,a,b,cap,d,λc=>e (by omega),λk h=>?_⟩
 have at':∀i(s:Y),(tB ps)[i]?=H s->w.cell? ⟨g,a+i,I⟩=H (U s):=λi s q=>by
  obtain⟨p,o⟩:=List.getElem?_eq_some_iff.1 q;obtain⟨x,f,l⟩:=j i (by rw[oS];exact p) 0 (by omega);rw[oG,o] at f;cases f;simpa using l
 obtain⟨m,n⟩:=MU ps k h;exact⟨at' _ _ m,at' _ _ n⟩
abbrev bA(x a:Y):Obj:=ζ #[U ⟨#[]⟩,U x,U a,θ E 0] (220:V)
def AU(n:Y)(a ps:J (Y×Y))(va aO vp:O)(W:Z)(aq:Rw W va 4 (a.map tN))(bb:∃x m c,aO=G x m c)(bc:Rw W vp 1 ((tB ps).map p_))(bz:a.length<=1000)(bF:ps.length<=1000):
 aJ ς 84 #[.agg (qA n va aO).toArray,vp] W λe w'=>(∃bg,e=η (.agg (qA n bg aO).toArray)/\wk W.heap.size w' bg (a++ps))/\Δ W.heap.size W w':=by
 obtain⟨g,ah,bx,cap,rfl,ar,b9⟩:=MV bc;obtain⟨m,aF⟩:=pL ps.length;obtain⟨M,ap⟩:=pL (2*m);rw[aF] at ar bF|-;rw[ap];obtain⟨x1,x2,x3,rfl⟩:=bb;obtain⟨bU,bV,ai,ak,rfl,-,-⟩:=vW aq;have aU:=K aF;have aV:=K ap;have bj:=K ar;have bk:=K b9;have aP:=K aq;obtain⟨l,au⟩:=pL a.length;have P:=K au;rw[au] at aP bz|-;obtain⟨F,L,a9⟩:=sM W (bN n (G ai l ak) (G x1 x2 x3)) (ζ zN (100:V));clear bc aF ap ar b9 aq au
 show aJ ς 84 #[.agg #[θ E 0,U ⟨#[]⟩,U n,G ai l ak,G x1 x2 x3,U ⟨#[]⟩,θ E 0],G bx M cap] W _
 go_enter Tryz.func84,Tryz.ntmps84
 go_upto_region 1 with fail
 have aQ:=K (aP.o.under a9);generalize(W.alloc _).alloc _=T at L F a9 aQ|-;generalize ao:W.heap.size=B at L F|-;have al:=K ao;have bs:=K L;have bq:=K F;have an:=K (show B+2<=T.heap.size from Θ L);have bl:=K (show Δ B W T by rw[<-ao];exact a9);have aw:=pM T (ζ #[] (220:V));have z:=K aw;obtain⟨X,a0,a1,D,a2,a3,a4⟩:=ql aw F;clear ao L F a9 aw
 go_wp2_with(refine rz (El:=AEl) (n:=0) (T.alloc (ζ #[] (220:V))) rfl (.tmp 7) (.tmp 9) rfl tiA rfl rfl (y_ an.o) (G ai l ak) l a (a.map tN) rfl (aQ.o.under z.o) (by rw[oS];exact P.o) P.o (λu _=>all_map (El:=AEl) (C:=tN) (λ_=>rfl) a) (za (C:=tN) (λ_=>rfl) MR a) (pF an.o z.o.size) (by omega) (by decide) ?_)
 intro bI bJ t aa bC;obtain⟨aY,aZ,aN⟩:=aj t;replace aN:bI=G aY l aZ:=aN.trans (by rw[<-P.o]);subst aN;have bh:=K (show wk (B+2) bJ (G aY l aZ) (a++ps.take 0) by simpa using t);have bt:=K ((aa.block (B+1) (by omega)).trans (pW z.o bs.o));have br:=K ((aa.block B (by omega)).trans (pW z.o bq.o));have bm:=K (bl.o.trans ((z.o.mono (by have:=an.o;omega)).trans (aa.mono (by omega))));clear t aa bC X a0 a1 D a2 a3 a4
 go_wp2_with fail
 go_loopw [5,6] (λr x wr=>∃(k i:V),k<=m/\Hid (2*k=i)/\x=θ E i/\Hid (wk (B+2) wr r (a++ps.take k))/\Hid (wr.heap[B]?=H (bN n (G ai l ak) (G x1 x2 x3)))/\Hid (wr.heap[B+1]?=H (ζ zN (100:V)))/\Hid (Δ B W wr)) (λ_ x _=>M-(intOf x).toNat)
 case atStart=>exact⟨0,0,oM _,K rfl,rfl,bh,br,bt,bm⟩
 case round=>
  obtain⟨k,i,bb,aB,rfl,af,ba,ax,ay⟩:=hrel;obtain⟨f,h,bG⟩:=aj af.o;subst bG;obtain⟨b,ae⟩:=pL ((a++ps.take k).length);rw[ae] at af|-;have bv:=K ae
  have bM:b<=2000:=by rw[<-ae,o_,P.o];have:=mZ k ps;omega
  have R:=K aB.o;have bL:i<=2000:=(by have:=aB.o;omega);have Q:=K ba.o;have aS:=K ax.o;have am:=K af.o;have aT:=K ay.o;have S:=K (show B+2<=wr.heap.size from Θ ax.o);have ag:Δ W.heap.size W wr:=(by rw[al.o];exact ay.o);clear ba ax af ay ae aB
  by_cases bE:k<m
  ·obtain rfl:=bj.o (by omega)
   have aD:k<ps.length:=(by rw[aU.o];exact bE);obtain⟨j,y1⟩:=bk.o k aD;rw[R.o] at j y1;replace j:=pI j ag;replace y1:=pI y1 ag;have aX:=K (show a++ps.take (k+1)=(a++ps.take k)++[ps[k]] by rw[Mg.qi aD,m_]);generalize ps[k]=p at j y1 aX;obtain⟨o,s⟩:=p;simp only at j y1;have bf:(i:N)+1<(M:N):=(by have a6:=R.o;have a7:=aV.o;omega);have bQ:(i:N)<(M:N):=(by omega);have bO:(0:N)<=(i:N):=(by omega);have bP:(0:N)<=(i:N)+1:=(by omega);have bw:=K (λu (aM:Δ wr.heap.size wr u)=>Ξ (pI j aM) (pI y1 aM));clear ag aD j y1
   go_wp2_with fail
   refine qQ 12 [[],[],[],[1,2],[3],[],[],[6],[5,7],[8],[4,9],[10]] [H 18,H 19,H 20,H 21,H 22,H 23,H 24,H 25,H 26,H 27,H 28,H 29] (by kernel_rfl) (by kernel_rfl) (by kernel_rfl)
    [eqv (G f b h),eqv (G (H ⟨g,ah,I⟩) M cap),eqv (θ E i),eqv (ptr g (ah+i)),eqv (U o),eqv (G (H ⟨g,ah,I⟩) M cap),eqv (θ E i),eqv (θ E ((i:N)+1)),eqv (ptr g (ah+(i+1))),eqv (U s),eqv (.agg #[U ⟨#[]⟩,U o,U s,θ E 0]),
     λ_ v w=>∃q,v=G (H ⟨q,0,I⟩) 1 1/\w.heap[q]?=H (bA o s)] ?bH ?step ?fin
   case bH=>
    refine⟨?_,?_,?_,?_,?_,?_,?_,?_,?_,?_,?_,?_,trivial⟩
    all_goals intro d u w w' bB a5
    all_goals first|exact a5|(obtain⟨q,e,a5⟩:=a5;exact⟨q,e,pW bB a5⟩)
   case step=>
    refine⟨?_,?_,?_,?_,?_,?_,?_,?_,?_,?_,?_,?_,trivial⟩
    all_goals
     intro x w a8 ac;simp only[oI,oF,fr,qD,Fv,Fa,eqv,ptr,aA,nU] at ac|-;obtain⟨j,y1⟩:=bw.o w a8;unfold gives
    case refine_12=>go_simp;obtain⟨_,ad⟩:=Array.getElem?_eq_some_iff.1 (pG w (bA o s));exact⟨ad,pM _ _⟩
    case refine_8=>go_simp;exact⟨IntWalk.i64_in _ (by omega),pH _ _⟩
    all_goals(go_simp;exact pH _ _)
   case fin=>
    intro x w a8 ac;simp only[show aG 12=[0,1,2,3,4,5,6,7,8,9,10,11] from rfl,oI,oF,fr,qD,Fv,Fa,eqv,ptr,aA,nU,nS,nO] at ac|-;obtain⟨b1,a6,a7,b4,b5,t,y,b6,b7,b8,b2,q,b3,ad⟩:=ac;rw[b1,a6,a7,b4,b5,t,y,b6,b7,b8,b2,b3];have A:=K a8;have bu:=K ad;clear a8 b1 a6 a7 b4 b5 t y b6 b7 b8 b2 b3 ad;go_simp;refine rz (El:=AEl) (n:=b) w rfl (.tmp 18) (.tmp 29) rfl tiA bv.o rfl (aE am.o A.o) (G (H ⟨q,0,I⟩) 1 1) 1 [(o,s)] [tN (o,s)] rfl (DU (cs:=tN (o,s)) bu.o rfl) rfl rfl (λu aM=>tG.one rfl) (Flat.one rfl (MR _)) (pF S.o A.o.size) (by omega) (by decide) ?_;intro bR bS y ab bD;rw[<-aX.o] at y;have bi:=K y;have bp:=K ((ab.block B (by omega)).trans ((A.o.block _ (by have:=S.o;omega)).trans Q.o));have bo:=K ((ab.block (B+1) (by omega)).trans ((A.o.block _ (by have:=S.o;omega)).trans aS.o));have bn:=K (aT.o.trans ((A.o.mono (by have:=S.o;omega)).trans (ab.mono (by omega))));clear y ab bD
    go_wp2_with fail
    go_roundw
    case rel=>exact⟨k+1,i+2,by omega,K (by have:=R.o;omega),by go_num,bi,bp,bo,bn⟩
    case measure=>simp[intOf];omega
  ·have bf:¬(i:N)+1<(M:N):=by have a6:=R.o;have a7:=aV.o;omega
   have bK:decide ((i:N)+1<(M:N))=false:=o9 bf;have bd:ps.take k=ps:=oP (by rw[aU.o];omega);rw[bd] at am;obtain⟨X,a0,a1,D,a2,a3,a4⟩:=ql (pH _ _) Q.o;have b0:=yY Q.o 3;have be:=oO wr B 3 _ _ (G f b h) Q.o;have aL:=(pz wr ⟨B,3,I⟩ (B+1) (G f b h) (by show _≠B;omega)).trans aS.o;have aW:=K (qK (w':=wr.setCell ⟨B,3,I⟩ (G f b h)) am.o (by simp) λq a=>pz _ _ _ _ (by show _≠B;omega));have aR:=K (aT.o.trans (show Δ B wr (wr.setCell ⟨B,3,I⟩ (G f b h)) from⟨rfl,rfl,rfl,by simp,λq a=>pz wr ⟨B,3,I⟩ q (G f b h) (by show q≠B;omega)⟩));clear bd ag
   go_wp2_with(first
    |(refine xC rfl 97 _ _ rfl B 3 (G f b h) _ rfl rfl rfl D b0 (by kernel_rfl) ?_
      clear X a0 a1 D a2 a3 a4 b0;generalize wr.setCell ⟨B,3,I⟩ (G f b h)=bT at be aL aW aR|-
      obtain⟨X,a0,a1,D,a2,a3,a4⟩:=ql (pH _ _) be)
    |refine oN rfl 100 _ _ rfl _ _ rfl rfl 100 _ aL (by kernel_rfl) rfl (by simp[Λ]) ?_)
   refine ow (nL rfl _ _ (B+1) _ _ _ _ rfl (og _ _ _ _ _ _ aL) ο rfl (by kernel_rfl)) rfl ?_;refine⟨⟨_,rfl,(qK aW.o (by simp[Ω]) λq a=>oo _ _ _ _ (by omega)).base (by have:=al.o;omega)⟩,by rw[al.o];exact pS aR.o (nu _) _⟩
def AO(n:Y)(ks:J T)(ax:O)(S:V)(W:Z)(Q:tA S W ax ks)(ak:S<=W.heap.size)(b4:ks.length<=1000000):
 aJ ς 191 #[U n,ax] W λe w'=>(∃aw,e=η (.agg (qA n (G I 0 0) aw).toArray)/\tA S w' aw ks)/\Δ W.heap.size W w':=by
 obtain⟨L,D,a3,F⟩:=Q;have M:=F W λ_ _ _ _=>rfl
 obtain⟨g,bj,b0,cap,rfl,a6,al⟩:=xD (Rw.uT a3 M.1 (λj ab k Q=>r8 D.1 j ab k Q) λj ab=>D.1 _ (pq ab)) M;obtain⟨au,an⟩:=pL ((aI b0 ks.length cap).ownBlock);rw[an] at F;obtain⟨m,R⟩:=pL ks.length;rw[R] at a6 b4|-;have f:=K R;have af:=K (M.1.trans R);have aQ:=K a6;have aR:=K al;have aO:=K F;have aX:=K ak;obtain⟨C,A,a7⟩:=sM W (ζ zN (100:V)) (bN n (G I 0 0) (G I 0 0));clear D a3 F M a6 al R an ak
 go_enter Tryz.func191,Tryz.ntmps191
 go_wp2_with(refine EN rfl 100 _ _ rfl _ _ rfl rfl (by kernel_rfl) rfl (by simp[Λ]) ?_)
 generalize(W.alloc _).alloc _=aZ at C A a7|-;generalize a5:W.heap.size=B at C A|-;have w:=K a5;have aW:=K C;have aV:=K A;have aS:=K (show Δ B W aZ by rw[<-a5];exact a7);clear a5 C A a7
 go_loopw [12] (λx wr=>∃(k:V)(r:O),k<=m/\x=θ E k/\Hid (wr.heap[B+1]?=H (bN n (G I 0 0) r))/\Hid (wr.heap[B]?=H (ζ zN (100:V)))/\Hid (Row (NX λu=>Agree S W u au) 7 100 (B+2) wr r (ks.take k))/\Hid (Δ B W wr)) (λx _=>m-(intOf x).toNat)
 case atStart=>exact⟨0,_,oM _,rfl,aV,aW,K Row.nil,aS⟩
 case round=>
  obtain⟨k,r,Q,rfl,aa,am,ac,a9⟩:=hrel;obtain⟨bk,bl,ao⟩:=aj ac.o;rw[show(ks.take k).length=k from List.length_take.trans (nM (by have:=f.o;omega))] at ao;subst ao;have aY:=K (show(ks.take k).length=k from List.length_take.trans (nM (by have:=f.o;omega)));have ag:=K aa.o;have a0:=K am.o;have y:=K ac.o;have a1:=K a9.o;have v:=K (Θ aa.o);have d:Δ W.heap.size W wr:=(by rw[w.o];exact a9.o);clear aa am ac a9
  by_cases l:k<m
  ·obtain rfl:=aQ.o (by omega)
   obtain⟨s,h,o,c1,i,p,c2,e,b5,ae,y1,y2,y3,y4,y5,y6⟩:=aR.o k (by rw[f.o];exact l) (by rw[af.o];exact l);replace ae:=pI ae d;replace y1:=pI y1 d;replace y2:=pI y2 d;replace y3:=pI y3 d;replace y4:=pI y4 d;replace y5:=pI y5 d;replace y6:=pI y6 d
   have ah:=K (show∀u,Agree S W u au->tQ u (ks[k]'(by rw[f.o];exact l)) (qA s (G h o c1) (G i p c2)) fromλu X=>by
    have:=(aO.o u X).2 k (by rw[f.o];exact l) (by rw[af.o];exact l)
    rwa [e] at this)
   have bi:(k:N)<(m:N):=(by omega);have bh:(0:N)<=(k:N):=(by omega);have a8:=pM wr (bN s (G h o c1) (G i p c2));have t:=K a8;have ar:=pG wr (bN s (G h o c1) (G i p c2));have ad:=(a8.block (B+1) v.o).trans ag.o;have ai:=K ad;clear d e b5 a8
   go_upto_region 5 with fail
   change Code.wp _ _ _ _ (wr.alloc (bN s (G h o c1) (G i p c2)));clear ae y1 y2 y3 y4 y5 y6;obtain⟨ay,aB,aD,aF,aL,aM,aN⟩:=ql (pH _ _) ar;obtain⟨-,-,-,-,z,-,-⟩:=ql (pH _ _) ad;clear ar ad;generalize wr.alloc (bN s (G h o c1) (G i p c2))=b6 at t ai ay aB aD aF aL aM aN z|-
   go_wp2_with(refine qu (n:=k) b6 rfl (.tmp 25) (.tmp 27) rfl tiN aY.o rfl (aE y.o t.o) (ks[k]'(by rw[f.o];exact l)) (qA s (G h o c1) (G i p c2)) rfl (λu X b1=>ah.o u b1) rfl (tQ.one (ah.o W λ_ _ _ _=>rfl)) (by have D:=v.o;have a3:=t.o.size;omega) (by omega) (by decide) ?_)
   intro bm bn a4 P b2;obtain⟨b7,be,aq⟩:=aj a4;rw[show(ks.take (k+1)).length=k+1 from List.length_take.trans (nM (by have:=f.o;omega))] at aq;subst aq;have aP:=K a4;have a2:=K ((P.block (B+1) (by omega)).trans ai.o);have aU:=K ((P.block B (by omega)).trans ((t.o.block _ (by have:=v.o;omega)).trans a0.o));have aT:=K (a1.o.trans ((t.o.mono (by have:=v.o;omega)).trans (P.mono (by omega))));clear z ay aB aD aF aL aM aN;have z:=(ql (pH _ _) a2.o).2.2.2.2.1;have bf:=yY a2.o 4;clear a4 P b2
   go_wp2_with fail
   go_roundw
   case rel=>exact⟨k+1,_,by omega,by go_num,K (oO _ _ 4 _ _ _ a2.o),K ((pz _ _ _ _ (by show _≠B+1;omega)).trans aU.o),K (qK aP.o (by simp) λq a=>pz _ _ _ _ (by show _≠B+1;omega)),K (aT.o.trans ⟨rfl,rfl,rfl,by simp,λq a=>pz _ _ _ _ (by show _≠B+1;omega)⟩)⟩
   case measure=>simp[intOf];omega
  ·have bg:decide ((k:N)<(m:N))=false:=o9 (by omega)
   have ap:ks.take k=ks:=oP (by rw[f.o];omega);rw[ap] at y;obtain⟨b8,b9,ba,bb,z,bc,bd⟩:=ql (pH _ _) ag.o;clear ap d
   go_wp2_with(refine oN rfl 100 _ _ rfl _ _ rfl rfl 100 _ a0.o (by kernel_rfl) rfl (by simp[Λ]) ?_)
   refine ow (nL rfl _ _ B _ _ _ _ rfl (og _ _ _ _ _ _ a0.o) ο rfl (by kernel_rfl)) rfl ?_;refine⟨⟨_,rfl,Rk (qK y.o (by simp[Ω]) λq a=>oo _ _ _ _ (by omega)) (by have:=aX.o;have:=w.o;omega) λu X k a b c=>?_⟩,by rw[w.o];exact pS a1.o (oZ _) _⟩;have b3:k<B:=(by rw[<-w.o];exact b);rw[X k a (by simp[Ω];have:=v.o;omega) (λe=>by have:=Wz y.o k e.symm;omega),oo _ _ _ _ (by omega)];exact a1.o.block k b3
def KK{P:Program}(w:Z)(x a5 ty m:aH)(sz n c a7:V)(z:Array O)(C:O)(L:J (J O))(t:aH)
 (u:P.underlying x=H (.slice m)) (A:(P.info? m).map (·.size)=H sz) (a4:z.size=c*sz) (s:L.length=n) (a1:n<=c) (a3:Rw w C sz L) (p:Flat sz L):
 (av #[x,a5] ty #[G (H ⟨w.heap.size,0,I⟩) n c,C]).run P (w.alloc (ζ z t))=
   .ok (goInt n) (w.alloc (ζ (L.flatten++z.toList.drop (n*sz)).toArray t)):=by
 obtain⟨g,l,D,cap,rfl,S,T⟩:=a3;have q:=vl p.1;have a6:n*sz<=z.size:=by rw[a4];exact lZ _ a1
 have k:=run_storeCells_at P w.heap.size 0 t L.flatten 0 z (w.alloc (ζ z t)) (pG _ _) (by rw[q,s];omega) p.2;rw[su] at k;have a0:Nat.min L.length n=n:=by rw[s];exact Nat.min_self _
 cases b:P.info? m with
 |none=>simp[b] at A
 |some i=>
  have X:i.size=sz:=by simpa [b] using A
  by_cases F:n=0
  ·have R:L=[]:=oK (by omega)
   subst R;subst F;have e:(w.alloc (ζ z t))=w.alloc (ζ (([]:J (J O)).flatten++z.toList.drop (0*sz)).toArray t):=(by simp);rw[<-e]
   cases D with
   |none=>simp[av,mh u,aC,az,sizeOf,aK,b,storeCells]
   |some a=>have f:=iM (P:=P) (w.alloc (ζ z t)) a [] (λj v d=>by simp at d);simp only[oh] at f;simp[av,mh u,aC,az,sizeOf,aK,b,f,storeCells]
  ·obtain rfl:=S (by omega)
   have a2:∀j v,L.flatten[j]?=H v->(w.alloc (ζ z t)).cell? ((⟨g,l,I⟩:Addr).add j)=H v:=λj v y=>by
    have r:j<L.flatten.length:=(List.getElem?_eq_some_iff.1 y).1;rw[q] at r
    have B:0<sz:=by
     rcases jR sz with d|d
     ·rw[d] at r;omega
     ·exact d
    have b:j/sz<L.length:=j9 (by rw[lN];exact r);obtain⟨a8,M,Q⟩:=T (j/sz) b (j%sz) (jS _ B);have h:=r8 p.1 (j/sz) b (j%sz) (jS _ B);have o:=jH j sz;rw[lN] at o;rw[o,y,M] at h;injection h with h
    rw[h,<-pI Q ((pH _ w).alloc (oZ _) _)];rw[show(⟨g,l,I⟩:Addr).add j=⟨g,l+j,I⟩ by simp[Addr.add],kZ,o]
   have f:=iM (P:=P) (w.alloc (ζ z t)) ⟨g,l,I⟩ L.flatten a2;have W:L.flatten.length=n*sz:=(by rw[q,s]);rw[W] at f k;simp only[nh,lP,mw] at k;simp[av,mh u,aC,az,sizeOf,aK,b,X,a0,f,k]
def O7{g:Type}{C:g->J O}{w:Z}{sz c:V}{t:aH}{l:J g}{z:Array O}(i:∀x,(C x).length=sz)(h:∀x,∀u∈C x,u.oneCell'=true)(m:z.size=c*sz)(f:l.length<=c)(k:c<=maxLen):
 Row (λ_ x cs=>cs=C x) sz t w.heap.size (w.alloc (ζ ((l.map C).flatten++z.toList.drop (l.length*sz)).toArray t)) (G (H ⟨w.heap.size,0,I⟩) l.length c) l:=by
 have e:Flat sz (l.map C):=za i h l;have d:(l.map C).flatten.length=l.length*sz:=by rw[vl e.1,oS]
 have n:l.length*sz<=c*sz:=lZ _ f;refine⟨l.map C,e,⟨d,.inr ⟨w.heap.size,c,_,rfl,oZ _,pG _ _,f,k,?_,?_⟩⟩,λu _=>⟨by simp,λj a b=>by rw[oG]⟩⟩
 ·simp only[List.size_toArray,o_,nN,d,jW,m]
  omega
 ·rw[<-d]
  simp
def Du(n:Y)(a ps:J (Y×Y))(va aZ:O)(a2:Option Addr)(cap:V)(W:Z)(am:Rw W va 4 (a.map tN))(bq:∃x m c,aZ=G x m c)(br:Rw W (G a2 (2*ps.length) cap) 1 ((tB ps).map p_))(a5:2*ps.length<=cap)(bT:a.length<=1000)(ca:ps.length<=1000):
 aJ ς 193 #[.agg (qA n va aZ).toArray,G a2 (2*ps.length) cap] W λe w'=>(∃bx,e=η (.agg (qA n bx aZ).toArray)/\wk W.heap.size w' bx (a++ps))/\Δ W.heap.size W w':=by
 obtain⟨g,a0,bQ,bS,bo,aQ,bl⟩:=MV br;obtain⟨rfl,rfl⟩:a2=bQ/\cap=bS:=by injection bo with R _ S;exact⟨R,S⟩
 obtain⟨m,aV⟩:=pL ps.length;obtain⟨M,aN⟩:=pL (2*m);rw[aV] at aQ ca a5|-;rw[aN] at a5|-;obtain⟨x1,x2,x3,rfl⟩:=bq;obtain⟨cu,cv,aB,a6,rfl,-,-⟩:=vW am;obtain⟨b,aR⟩:=pL a.length;have b9:=K aV;have ad:=K aN;have bB:=K aQ;have bD:=K bl;have a7:=K aR;rw[aR] at am bT|-;have bz:=K am;have bG:=K a5;obtain⟨Q,a4,an⟩:=sM W (bN n (G aB b a6) (G x1 x2 x3)) (ζ zN (100:V));clear br aV aN aQ bl am aR bo a5
 show aJ ς 193 #[.agg #[θ E 0,U ⟨#[]⟩,U n,G aB b a6,G x1 x2 x3,U ⟨#[]⟩,θ E 0],G a2 M cap] W _
 go_enter Tryz.func193,Tryz.ntmps193
 go_upto_region 1 with fail
 have b2:=K (bz.o.under an);generalize(W.alloc _).alloc _=f at a4 Q an b2|-;generalize aM:W.heap.size=B at a4 Q|-;have aD:=K aM;have bJ:=K a4;have bH:=K Q;have bc:=K (show B+2<=f.heap.size from Θ a4);have bE:=K (show Δ B W f by rw[<-aM];exact an);obtain⟨ae,af,ag,a3,ah,ai,ak⟩:=ql (pH _ _) Q;have ce:(M:N).tdiv 2=(m:N):=by rw[jB (by omega)];have:=ad.o;omega
 obtain⟨c,a5⟩:=pL (b+m);have cg:c<=2000:=by omega
 obtain⟨i,z,D,X,bu,ax,bv,cc,-⟩:=tiA;have aW:=run_makeSlice (P:=ς) (w:=f) 97 220 i z D X bu .i64 .i64 (b:N) ((b:N)+(m:N)) (by omega) (by omega) (by rw[ax];omega) (by rw[bv];omega) (by omega);rw[show((b:N)+(m:N)).toNat=c by omega,show(b:N).toNat=b by omega] at aW;obtain⟨A,aO⟩:=pL (madeCells z.cells (c*i.size));have aP:A.size=c*4:=by rw[<-aO,size_madeCells,ax]
 rw[aO] at aW;have bm:=pM f (ζ A (220:V));have bW:=λty=>KK (P:=ς) f 97 97 ty 220 4 b c a6 A (G aB b a6) (a.map tN) (220:V) D (by rw[X];simp[ax]) aP (by rw[oS];exact a7.o) (by omega) b2.o (za (C:=tN) (λ_=>rfl) MR a)
 have bR:=(ql bm Q).2.2.2.1;have bZ:(m:N)<=1000:=by omega
 have bU:(b:N)<=1000:=by omega
 have a8:=K (pM f (ζ ((a.map tN).flatten++A.toList.drop (b*4)).toArray (220:V)))
 have b0:=K (show wk (B+2) (f.alloc (ζ ((a.map tN).flatten++A.toList.drop (b*4)).toArray (220:V))) (G (H ⟨f.heap.size,0,I⟩) b c) (a++ps.take 0) from by have h:=O7 (C:=tN) (w:=f) (sz:=4) (c:=c) (t:=220) (l:=a) (z:=A) (λ_=>rfl) MR aP (by rw[a7.o];omega) (by unfold maxLen;omega);rw[a7.o] at h;rw[lP,nC];exact Row.base h bc.o)
 clear aM a4 Q an bm aP aO X D bu ax bv cc
 go_wp2_with fail
 generalize f.alloc (ζ ((a.map tN).flatten++A.toList.drop (b*4)).toArray (220:V))=cq at a8 b0|-;have bK:=K (pW a8.o bJ.o);have bI:=K (pW a8.o bH.o);have bF:=K (bE.o.trans (a8.o.mono (by have:=bc.o;omega)));clear aW bW ae af ag a3 ah ai ak bR ce bZ bU
 go_loopw [1,5] (λx r wr=>∃(k i d:V)(aL:Option Addr),k<=m/\Hid (2*k+i=M)/\x=G aL i d/\Hid (0<i->aL=H ⟨g,a0+2*k,I⟩)/\Hid (i<=d)/\Hid (wk (B+2) wr r (a++ps.take k))/\Hid (wr.heap[B]?=H (bN n (G aB b a6) (G x1 x2 x3)))/\Hid (wr.heap[B+1]?=H (ζ zN (100:V)))/\Hid (Δ B W wr)) (λx _ _=>(match x with|G _ n _=>n|_=>0))
 case atStart=>exact⟨0,M,cap,a2,oM _,K (by omega),rfl,K λh=>by rw[bB.o (by have:=ad.o;omega)];rfl,bG,b0,bI,bK,bF⟩
 case round=>
  obtain⟨k,i,d,aL,bq,X,rfl,bk,bp,au,bn,aS,aT⟩:=hrel;obtain⟨o,s,cb⟩:=aj au.o;subst cb;obtain⟨j,ar⟩:=pL ((a++ps.take k).length);rw[ar] at au|-;have bO:=K ar
  have cl:j<=2000:=by rw[<-ar,o_,a7.o];have:=mZ k ps;omega
  have aa:=K X.o;have bC:=K bk.o;have ab:=K bp.o;have a9:=K bn.o;have b5:=K aS.o;have aF:=K au.o;have b7:=K aT.o;have ac:=K (show B+2<=wr.heap.size from Θ aS.o);have aw:Δ W.heap.size W wr:=(by rw[aD.o];exact aT.o);clear bn aS au aT ar X bk bp
  by_cases bY:k<m
  ·have ci:2<=i:=by have R:=aa.o;have S:=ad.o;omega
   obtain rfl:=bC.o (by omega);have aU:k<ps.length:=(by rw[b9.o];exact bY);obtain⟨y,y1⟩:=bD.o k aU;replace y:=pI y aw;replace y1:=pI y1 aw;rw[show a0+(2*k+1)=a0+2*k+1 by omega] at y1;have bb:=K (show a++ps.take (k+1)=(a++ps.take k)++[ps[k]] by rw[Mg.qi aU,m_]);generalize ps[k]=p at y y1 bb;obtain⟨F,L⟩:=p;simp only at y y1;obtain⟨ay,aX⟩:=pL (a0+2*k);rw[aX] at y y1|-;have bL:=K aX;have bw:(1:N)<(i:N):=(by omega);have cm:(0:N)<(i:N):=(by omega);have cn:0<i:=(by omega);have co:(2:N)<=(i:N):=(by omega);have bP:=K (λu (D:Δ wr.heap.size wr u)=>Ξ (pI y D) (pI y1 D));clear aw aU y y1 aX
   go_wp2_with fail
   refine qQ 9 [[],[],[1],[2],[],[4],[5],[3,6],[7]] [H 26,H 27,H 28,H 29,H 30,H 31,H 32,H 33,H 34] (by kernel_rfl) (by kernel_rfl) (by kernel_rfl)
    [eqv (G o j s),eqv (G (H ⟨g,ay,I⟩) i d),eqv (ptr g ay),eqv (U F),eqv (G (H ⟨g,ay,I⟩) i d),eqv (ptr g (ay+1)),eqv (U L),eqv (.agg #[U ⟨#[]⟩,U F,U L,θ E 0]),
     λ_ v w=>∃q,v=G (H ⟨q,0,I⟩) 1 1/\w.heap[q]?=H (bA F L)] ?cd ?step ?fin
   case cd=>
    refine⟨?_,?_,?_,?_,?_,?_,?_,?_,?_,trivial⟩
    all_goals intro d u w w' bV h
    all_goals first|exact h|(obtain⟨q,e,h⟩:=h;exact⟨q,e,pW bV h⟩)
   case step=>
    refine⟨?_,?_,?_,?_,?_,?_,?_,?_,?_,trivial⟩
    all_goals
     intro x w al ap;simp only[oI,oF,fr,qD,Fv,Fa,eqv,ptr,aA,nU] at ap|-;obtain⟨y,y1⟩:=bP.o w al;unfold gives
    case refine_9=>go_simp;obtain⟨_,aq⟩:=Array.getElem?_eq_some_iff.1 (pG w (bA F L));exact⟨aq,pM _ _⟩
    all_goals(go_simp;exact pH _ _)
   case fin=>
    intro x w al ap;simp only[show aG 9=[0,1,2,3,4,5,6,7,8] from rfl,oI,oF,fr,qD,Fv,Fa,eqv,ptr,aA,nU,nS,nO] at ap|-;obtain⟨be,R,S,bf,bg,bh,T,bi,q,bj,aq⟩:=ap;rw[be,R,S,bf,bg,bh,T,bi,bj];have a1:=K al;have bM:=K aq;clear al be R S bf bg bh T bi bj aq;go_simp;refine rz (El:=AEl) (n:=j) w rfl (.tmp 26) (.tmp 34) rfl tiA bO.o rfl (aE aF.o a1.o) (G (H ⟨q,0,I⟩) 1 1) 1 [(F,L)] [tN (F,L)] rfl (DU (cs:=tN (F,L)) bM.o rfl) rfl rfl (λu D=>tG.one rfl) (Flat.one rfl (MR _)) (pF ac.o a1.o.size) (by omega) (by decide) ?_;intro cp cr T ao bX;rw[<-bb.o] at T;have b1:=K T;have b8:=K ((ao.block B (by omega)).trans ((a1.o.block _ (by have:=ac.o;omega)).trans a9.o));have b6:=K ((ao.block (B+1) (by omega)).trans ((a1.o.block _ (by have:=ac.o;omega)).trans b5.o));have b3:=K (b7.o.trans ((a1.o.mono (by have:=ac.o;omega)).trans (ao.mono (by omega))));have cj:(i:N)<=(d:N):=(by have:=ab.o;omega);have ck:((i:N) -2).toNat=i-2:=(by omega);clear T ao bX
    by_cases ch:d=2
    ·go_wp2_with fail
     go_roundw
     case rel=>exact⟨k+1,i-2,0,_,by omega,K (by have:=aa.o;omega),rfl,K (λh=>by have:=ab.o;omega),K (by have:=ab.o;omega),b1,b8,b6,b3⟩
     case measure=>show i-2<i;omega
    ·go_wp2_with fail
     go_roundw
     case rel=>exact⟨k+1,i-2,d-2,_,by omega,K (by have:=aa.o;omega),rfl,K (λh=>by rw[<-bL.o,show a0+2*k+2=a0+2*(k+1) by omega]),K (by have:=ab.o;omega),b1,b8,b6,b3⟩
     case measure=>show i-2<i;omega
  ·have bw:¬(1:N)<(i:N):=by have R:=aa.o;have S:=ad.o;omega
   have cf:decide ((1:N)<(i:N))=false:=o9 bw;have bs:ps.take k=ps:=oP (by rw[b9.o];omega);rw[bs] at aF;obtain⟨ae,af,ag,a3,ah,ai,ak⟩:=ql (pH _ _) a9.o;have bd:=yY a9.o 3;have bt:=oO wr B 3 _ _ (G o j s) a9.o;have aY:=(pz wr ⟨B,3,I⟩ (B+1) (G o j s) (by show _≠B;omega)).trans b5.o;have ba:=K (qK (w':=wr.setCell ⟨B,3,I⟩ (G o j s)) aF.o (by simp) λq a=>pz _ _ _ _ (by show _≠B;omega));have b4:=K (b7.o.trans (show Δ B wr (wr.setCell ⟨B,3,I⟩ (G o j s)) from⟨rfl,rfl,rfl,by simp,λq a=>pz wr ⟨B,3,I⟩ q (G o j s) (by show q≠B;omega)⟩));clear bs aw
   go_wp2_with(first
    |(refine xC rfl 97 _ _ rfl B 3 (G o j s) _ rfl rfl rfl a3 bd (by kernel_rfl) ?_
      clear ae af ag a3 ah ai ak bd;generalize wr.setCell ⟨B,3,I⟩ (G o j s)=ct at bt aY ba b4|-
      obtain⟨ae,af,ag,a3,ah,ai,ak⟩:=ql (pH _ _) bt)
    |refine oN rfl 100 _ _ rfl _ _ rfl rfl 100 _ aY (by kernel_rfl) rfl (by simp[Λ]) ?_)
   refine ow (nL rfl _ _ (B+1) _ _ _ _ rfl (og _ _ _ _ _ _ aY) ο rfl (by kernel_rfl)) rfl ?_;refine⟨⟨_,rfl,(qK ba.o (by simp[Ω]) λq a=>oo _ _ _ _ (by omega)).base (by have:=aD.o;omega)⟩,by rw[aD.o];exact pS b4.o (nu _) _⟩
end Nd
end Go.Proofs.YthbhmjdcfocphaaGreatDoor
