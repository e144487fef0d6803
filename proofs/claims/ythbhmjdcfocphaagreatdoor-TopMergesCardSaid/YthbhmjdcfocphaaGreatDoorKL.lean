/- A part of this proof. -/
import Derived.Test.YthbhmjdcfocphaaGreatDoorKI
import Derived.Test.YthbhmjdcfocphaaGreatDoorKK
import Derived.Great.BuildSlice
set_option linter.all false
set_option maxHeartbeats 16000000
set_option maxRecDepth 100000
namespace Go.Proofs.YthbhmjdcfocphaaGreatDoor
open Go.Value renaming string→γ, slice→X, pointer→ε, int→θ
open Go.Obj renaming cells→V
open Go.Ending renaming returned→η
open Go.IntKind renaming i64→ι
open Go.Proofs.Tryz renaming prog→O
open Go.Builtin renaming append_→Z, firstCells→Δ, lenOf→Λ
open Go renaming World→G, Value→N, bytes→U, TypeId→Y, typeInfo→ο, maxLen→ay, run_append_room_cells→az, run_append_arg_grows→aA, wpList→aC, storeCells→aE, sizeOf→aG, run_append_own_at→aH, Operand→aI
open Option renaming none→K, some→J
open _root_ renaming List→H, Nat→I, Option→av
open List renaming range→ς, take→aJ
open Rg renaming gives→ah, Steps→aj
namespace Gr
open RowKit Rw Vf Mw Me Rg
section
variable {α:Type}{El:G->α->H N->Prop}{t e:Y}{sz U base n:I}{v:N}{l:H α}
def X2(w:G)(ty:Y)(aP:TI t e sz U)(b2:l.length=n)(aO:Row El sz e base w v l)(g:I)(W:α)(cs:H N)(aR:w.heap[g]?=J (V cs.toArray e))(aN:∀w w' x c,El w x c->El w' x c)
 (aM:∀u,El u W cs) (D:cs.length=sz) (a1:∀u∈cs,u.oneCell'=true) (ag:base<=w.heap.size) (b1:n+1<=1000000000) (aQ:U<=100000):
 ∃h w',(Z #[t,t] ty #[v,X (J ⟨g,0,K⟩) 1 1]).run O w= .ok h w'/\Row El sz e base w' h (l++[W])/\w.grownBy w' v.ownBlock/\(h.ownBlock=v.ownBlock\/∃q,h.ownBlock=J q/\w.heap.size<=q)/\Row El sz e base w' v l:=by
 obtain⟨i,z,ab,a7,aq,F,ak,ar,ap⟩:=aP;obtain⟨L,a3,B,aL⟩:=aO;have ad:=aL w λ_ _ _ _=>rfl
 have a4:∀u,tG El u l L:=λu=>⟨ad.1,λj a b=>aN _ _ _ _ (ad.2 j a b)⟩
 have af:∀u,tG El u (l++[W]) (L++[cs]):=λu=>(a4 u).append (tG.one (aM u))
 have ae:=a3.append (Flat.one D a1);have al:(L++[cs]).flatten=L.flatten++cs:=by simp
 have a9:∀j u,cs[j]?=J u->w.cell? ((⟨g,0,K⟩:Addr).add j)=J u:=λj u p=>by
  rw[show(⟨g,0,K⟩:Addr).add j=⟨g,0+j,K⟩ by unfold Addr.add;split<;>simp_all,nh];exact pJ aR (by simpa using p)
 have ai:(l.length+1)*U<=140737488355328:=by have:(l.length+1)*U<=1000000000*100000:=j_ (by omega) aQ;omega
 by_cases an:∃f cap o,v=X (J ⟨f,0,K⟩) l.length cap/\base<=f/\w.heap[f]?=J (V o e (0,0))/\cap<=ay/\o.size=cap*sz/\o.toList.take (l.length*sz)=L.flatten/\l.length+1<=cap
 ·obtain⟨f,cap,o,rfl,a5,A,a6,E,R,a8⟩:=an
  have aT:(l.length+1)*sz<=cap*sz:=lZ _ a8;rw[k9] at aT
  have ao:=az (P:=O) (w:=w) t ty e i ab a7 f 0 l.length cap ⟨g,0,K⟩ 1 1 cs (by rw[D,F,iY]) a9 a1 a8 (λj p=>by
   unfold World.cell?;simp only[A,nh,F];have:l.length*sz+j<o.size:=(by omega);simp[this]) (λj p=>Lib.frozen_of_heap A _)
  rw[nh,F] at ao;have s:L.flatten.length=l.length*sz:=B.1
  have aU:w.ownsRow base e sz (X (J ⟨f,0,K⟩) (l.length+1) cap) (l.length+1) (L.flatten++(o.toList.drop (l.length*sz)).take sz):=
   ⟨by simp[s,E,k9];omega,.inr ⟨f,cap,o,rfl,a5,A,a8,a6,E,by rw[k9,g_,R]⟩⟩
  have aa:=DD cs (l.length*sz) w _ aU;rw[show l.length*sz=L.flatten.length from s.symm,yz cs _ _ (by simp[E,D,s];omega),s] at aa;obtain⟨aw,ax,aB,aD,aF⟩:=qZ f cs (l.length*sz) w;refine⟨_,_,ao,⟨L++[cs],ae,by rw[al,o_];exact aa,λu _=>af u⟩,⟨aw,ax,aB,by rw[aD];exact oZ _,λk am aW=>aF k λd=>aW (by rw[d];rfl)⟩,.inl rfl,⟨L,a3,?_,λu _=>a4 u⟩⟩;rcases aa.2 with⟨d,-⟩|⟨y,M,Q,d,S,T,ac,aX,aY,aZ⟩
  ·cases d
  ·have m:f=y:=by injection d with d;injection d with d;injection d
   have au:cap=M:=(by injection d);subst m au;refine⟨s,.inr ⟨f,cap,Q,rfl,S,T,by omega,aX,aY,?_⟩⟩;have:=nT (aJ (l.length*sz)) aZ;rw[jC,nM (by rw[k9];omega),<-s,iB] at this;rw[<-s];exact this
 ·have aS:∃h w',(Z #[t,t] ty #[v,X (J ⟨g,0,K⟩) 1 1]).run O w= .ok h w'/\w'.ownsRow w.heap.size e sz h (l.length+1) (L.flatten++cs)/\w.grownBy w' K:=by
   rcases B.2 with⟨rfl,b0⟩|⟨f,cap,o,rfl,a5,A,b3,a6,E,R⟩
   ·obtain⟨h,w',a2,C,r,-,aK⟩:=aH (P:=O) (w:=w) base t ty e i z sz U ab a7 aq F ak ar ap _ l.length L.flatten B ⟨g,0,K⟩ 1 1 cs (by rw[D,iY]) a9 a1 (by unfold ay;omega) ai ag
    refine⟨h,w',a2,⟨C.1,?_⟩,r⟩;rcases C.2 with⟨d,m⟩|⟨y,M,Q,d,S,T,ac⟩
    ·omega
    ·subst d
     rcases aK with m|m
     ·cases m
     ·exact .inr ⟨y,M,Q,rfl,by injection m with m;have m:y=w.heap.size:=m;omega,T,ac⟩
   ·exact aA (P:=O) w t ty e i z sz U ab a7 aq F ak ar ap ⟨f,0,K⟩ l.length cap L.flatten B.1 (λj u p=>by
     rw[show(⟨f,0,K⟩:Addr).add j=⟨f,0+j,K⟩ by unfold Addr.add;split<;>simp_all,nh];exact pJ A (by rw[<-R] at p;rw[mG] at p;split at p;exact(by simpa using p);cases p)) ⟨g,0,K⟩ 1 1 cs (by rw[D,iY]) a9 (by
     rcases mC cap (l.length+1) with a0|a0
     ·exact a0
     ·exact absurd ⟨f,cap,o,rfl,a5,A,a6,E,R,a0⟩ an) (by unfold ay;omega) ai
  obtain⟨h,w',a2,C,r⟩:=aS;refine⟨h,w',a2,⟨L++[cs],ae,by rw[al,o_];exact rK C ag,λu _=>af u⟩,⟨r.os,r.tape,r.output,r.size,λk am _=>r.block k am (by simp)⟩,.inr ?_,⟨L,a3,qj B λq aV=>r.block q (qq B aV).2 (by simp),λu _=>a4 u⟩⟩;rcases C.2 with⟨d,m⟩|⟨y,M,Q,d,S,T,ac⟩
  ·omega
  ·subst d
   exact⟨y,rfl,S⟩
def Ho(w:G){o:Oper}{a:Act}{F:N->G->Prop}(s x:aI)
 (M:o.op= .call {callee:= .builtin .append,args:=#[s,x],argTypes:=#[t,t]}) (z:TI t e sz U) (L:l.length=n) (R:a.eval s=v) (y:Row El sz e base w v l) (g:I) (d:α) (cs:H N) (D:w.heap[g]?=J (V cs.toArray e)) (S:a.eval x=X (J ⟨g,0,K⟩) 1 1) (r:∀w w' x c,El w x c->El w' x c)
 (p:∀u,El u d cs) (C:cs.length=sz) (h:∀u∈cs,u.oneCell'=true) (A:base<=w.heap.size) (E:n+1<=1000000000) (B:U<=100000)
 (f:∀b w',Row El sz e base w' b (l++[d])->w.grownBy w' v.ownBlock->(b.ownBlock=v.ownBlock\/∃q,b.ownBlock=J q/\w.heap.size<=q)->Row El sz e base w' v l->F b w'):ah O o a w F:=by
 obtain⟨b,w',Q,i,j,k,m⟩:=X2 w o.type z L y g d cs D r p C h A E B;unfold ah Oper.wp execOp;simp only[M,resolve,invoke,builtin,kW,kX,l6,kY,ou,mU,R,S,Q];exact⟨b,rfl,f b w' i j k m⟩
end
def su(w:G)(a b:Array N)(t:Y)(fr:I×I):(w.alloc (V a t fr)).setRow w.heap.size b=w.alloc (V b t fr):=by
 have e:((w.alloc (V a t fr)).setRow w.heap.size b).heap=(w.alloc (V b t fr)).heap:=by
  apply jQ;intro i
  by_cases c:i=w.heap.size
  ·subst c;rw[og _ _ a b t fr (pG _ _),pG]
  ·rw[oo _ _ _ _ c]
   unfold World.alloc;simp[kJ,c]
 have d:(w.alloc (V a t fr)).setRow w.heap.size b={w.alloc (V b t fr) with heap:=((w.alloc (V a t fr)).setRow w.heap.size b).heap}:=rfl;rw[d,e]
def EN{ops:Array Oper}{d:H Oper}{o:Oper}{a:Act}{w:G}{Q:Exit->Act->G->Prop}(h:o.guard=K)(ty:Y)(x c:aI)(j:o.op= .store ty x c)(cells b:Array N)(m:a.eval x=ε (J ⟨w.heap.size,0,K⟩))(p:a.eval c= .agg cells)(i:(Tryz.prog.info? ty).map (·.size)=J cells.size)
 (k:b.size=cells.size) (g:cells.all (·.oneCell')=true) (f:aC O ops Q d (a.put o.dst undef) (w.alloc (V cells ty))):aC O ops Q (o::d) a (w.alloc (V b ty)):=
 oN h ty x c j w.heap.size cells m p ty b (pG _ _) i k g (by rw[su];exact f)
def xC{ops:Array Oper}{h:H Oper}{o:Oper}{a:Act}{w:G}{Q:Exit->Act->G->Prop}(u:o.guard=K)(ty:Y)(x k:aI)(y:o.op= .store ty x k)(g j:I)(v c:N)(C:a.eval x=ε (J ⟨g,j,K⟩))(D:a.eval k=v)(d:v.oneCell'=true)
 (r:w.cell? ⟨g,j,K⟩=J c) (s:w.frozen? ⟨g,j,K⟩=false) (f:(Tryz.prog.info? ty).map (·.size)=J 1) (m:aC O ops Q h (a.put o.dst undef) (w.setCell ⟨g,j,K⟩ v)):aC O ops Q (o::h) a w:=by
 have B:v.cells=#[v]:=by cases v<;>first|rfl|cases d
 have A:(storeVar ty ⟨g,j,K⟩ v).run O w= .ok () (w.setCell ⟨g,j,K⟩ v):=by
  cases b:Tryz.prog.info? ty with
  |none=>simp[b] at f
  |some i=>have z:i.size=1:=(by simpa [b] using f);have q:(⟨g,j,K⟩:Addr).add 0=⟨g,j,K⟩:=(by simp[Addr.add]);simp[storeVar,aG,ο,b,B,z,aE,q,run_store O w _ v _ d,r,s]
 refine iZ u λ_ p=>?_
 unfold Oper.wp execOp;simp only[y,C,D,Instr.storeAt,Instr.sureAddr,kW,kX,l6,A];exact p _ _ m
def qK{α:Type}{El:G->α->H N->Prop}{sz S:I}{t:Y}{w w':G}{v:N}{l:H α}(g:Row El sz t S w v l)(m:w'.heap.size=w.heap.size)(f:∀q,S<=q->w'.heap[q]?=w.heap[q]?):Row El sz t S w' v l:=by obtain⟨L,h,d,i⟩:=g;exact⟨L,h,qj d λq e=>f q (qq d e).1,λu j=>i u λk a b c=>(j k a (by omega) c).trans (f k a)⟩
def DU{w:G}{q sz:I}{cs:H N}{t:Y}{fr:I×I}(c:w.heap[q]?=J (V cs.toArray t fr))(a:cs.length=sz):Rw w (X (J ⟨q,0,K⟩) 1 1) sz [cs]:=by
 refine⟨q,0,_,1,rfl,λ_=>rfl,λj d k b=>?_⟩;obtain rfl:j=0:=by simpa using d
 refine⟨cs[k]'(by rw[a];exact b),oW _,?_⟩;have:=pJ (j:=k) (x:=cs[k]'(by rw[a];exact b)) c (by simp);simpa using this
def z_(w:G)(row:av I):w.grownBy w row:=⟨rfl,rfl,rfl,oZ _,λ_ _ _=>rfl⟩
def yt{w w':G}{row:av I}(a:Below w.heap.size w w'):w.grownBy w' row:=⟨a.os,a.tape,a.output,a.size,λk b _=>a.block k b⟩
def yu{u v w:G}{row:av I}(a:u.grownBy v row)(k:v.grownBy w row):u.grownBy w row:=
 ⟨k.os.trans a.os,k.tape.trans a.tape,k.output.trans a.output,pF a.size k.size,λi b c=>(k.block i (oQ b a.size) c).trans (a.block i b c)⟩
section
variable {P:Program}
def PeK(R:G->G->Prop)(m:I):I->H Fact->Prop
 |_,[]=>True
 |k,F::r=>(∀d u w w',(if k=m then Below w.heap.size w w' else R w w')->F d u w->F d u w')/\PeK R m (k+1) r
def X3{R:G->G->Prop}{m:I}:∀{Pr:H Fact}(k j:I),PeK R m k Pr->∀d u w w',(if k+j=m then Below w.heap.size w w' else R w w')->Fa Pr j d u w->Fa Pr j d u w'
 |[],k,j,_,d,u,w,w',_,h=>trivial
 |F::r,k,0,hp,d,u,w,w',hb,h=>hp.1 d u w w' hb h
 |F::r,k,j+1,hp,d,u,w,w',hb,h=>X3 (Pr:=r) (k+1) j hp.2 d u w w' (by rw[show k+1+j=k+(j+1) by omega];exact hb) h
def any_k{Q:Exit->Act->G->Prop}{a:Act}{b:G}{l:H Oper}(n m:I)(dp:H (H I))(dt:H (av Tmp))(A:Lf .any l.toArray n a.tmps.size=true)(B:dpB l.toArray n dp dt=true)
 (R:G->G->Prop) (p:∀w w',Below w.heap.size w w'->R w w') (D:∀u v w,R u v->R v w->R u w) (Pr:H Fact) (M:PeK (λw w'=>R b w/\R w w') m 0 Pr)
 (T:aj (λi o=>∀(x:I->N) w,R b w->qD Pr dp x w (dp.getD i [])->ah P o (fr dt x a (dp.getD i [])) w λv w'=>Fa Pr i ((dp.getD i []).map x) v w'/\if i=m then R w w' else Below w.heap.size w w') 0 (l.take n))
 (C:∀s y,HeadInv .any l.toArray n s->y<n->s.getD y true=false->∀i,n<=i->i∉Region.ready .any l.toArray s)
 (F:∀x w,R b w->qD Pr dp x w (ς n)->wpAny P .any l.toArray Q (l.toArray.size-n) (Array.ofFn λi:Fin l.toArray.size=>decide (i.val<n)) (fr dt x a (ς n)) w):wpAny P .any l.toArray Q l.toArray.size (Array.replicate l.toArray.size false) a b.drew:=by
 have S:∀(l:H Oper)(k:I),aj (λi o=>∀(x:I->N) w,R b w->qD Pr dp x w (dp.getD i [])->ah P o (fr dt x a (dp.getD i [])) w λv w'=>Fa Pr i ((dp.getD i []).map x) v w'/\if i=m then R w w' else Below w.heap.size w w') k l->
  aj (λi o=>∀(x:I->N) w,R b w->qD Pr dp x w (dp.getD i [])->ah P o (fr dt x a (dp.getD i [])) w λv w'=>R b w'/\Fa Pr i ((dp.getD i []).map x) v w'/\if i=m then R w w' else Below w.heap.size w w') k l:=by
  intro l
  induction l with
  |nil=>intro k c;trivial
  |cons o r ih=>
   intro k c;refine⟨λx w h E=>?_,ih (k+1) c.2⟩;refine Oper.wp_mono ?_ (c.1 x w h E);rintro a' w'⟨v,rfl,z,g⟩;refine⟨v,rfl,D _ _ _ h ?_,z,g⟩
   split at g
   ·exact g
   ·exact p _ _ g
 refine any_g n dp dt A B (λw=>R b w) (λi w w'=>if i=m then R w w' else Below w.heap.size w w') Pr (p _ _ (pH _ _).drew) (λi j _ _ L d u w w' h f c=>?_) (S _ _ T) C F;refine X3 0 j M d u w w' ?_ c;rw[nh]
 by_cases q:j=m
 ·rw[oD q]
  rw[oU (λe=>L (e.trans q.symm))] at f;exact f
 ·rw[oU q]
  refine⟨h,?_⟩
  split at f
  ·exact f
  ·exact p _ _ f
def AQ{id:I}{Q:Exit->Act->G->Prop}{a:Act}{b:G}{l:H Oper}(n m:I)(dp:H (H I))(dt:H (av Tmp))(r:P.follows .mixedOrders=true)(d:okB .any l.toArray n a.tmps.size=true)(g:dpB l.toArray n dp dt=true)
 (R:G->G->Prop) (j:∀w w',Below w.heap.size w w'->R w w') (p:∀u v w,R u v->R v w->R u w) (Pr:H Fact) (s:PeK (λw w'=>R b w/\R w w') m 0 Pr)
 (z:aj (λi o=>∀(x:I->N) w,R b w->qD Pr dp x w (dp.getD i [])->ah P o (fr dt x a (dp.getD i [])) w λv w'=>Fa Pr i ((dp.getD i []).map x) v w'/\if i=m then R w w' else Below w.heap.size w w') 0 (l.take n))
 (q:∀x w,R b w->qD Pr dp x w (ς n)->aC P l.toArray Q (l.drop n) (fr dt x a (ς n)) w):(Code.region id l.toArray true).wp P Q a b:=
 Be n r d λc k y=>any_k n m dp dt c g R j p Pr s z k λx w f h=>y _ _ (q x w f h)
end
abbrev eqv(x:N):H N->N->G->Prop:=λ_ v _=>v=x
abbrev ptr(b j:I):N:=ε (J ⟨b,j,K⟩)
section
variable {α:Type}{El:G->α->H N->Prop}{t e:Y}{sz U base n:I}{v:N}{l:H α}
def vY{S:I}{w w' u:G}{r:av I}(d:w.grownBy w' r)(f:Agree S w' u r):Agree S w u r:=λk a b c=>(f k a (oQ b d.size) c).trans (d.block k b c)
def X4(w:G)(ty:Y)(b4:TI t e sz U)(bi:l.length=n)(b3:Row El sz e base w v l)(x:N)(m:I)(l2:H α)(M:H (H N))(b5:Rw w x sz M)(bb:M.length=m)(aM:l2.length=m)
 (aw:∀u,Agree base w u v.ownBlock->tG El u l2 M) (W:Flat sz M) (aB:base<=w.heap.size) (bh:n+m<=1000000000) (b7:U<=100000):
 ∃h w',(Z #[t,t] ty #[v,x]).run O w= .ok h w'/\Row El sz e base w' h (l++l2)/\w.grownBy w' v.ownBlock/\Row El sz e base w' v l/\(h.ownBlock=v.ownBlock\/∃q,h.ownBlock=J q/\w.heap.size<=q):=by
 obtain⟨i,z,Q,E,aP,a7,aF,aQ,ad⟩:=b4;obtain⟨L,a0,A,T⟩:=b3;obtain⟨g,R,ar,a3,rfl,b6,b8⟩:=b5;have C:=vl W.1
 by_cases bg:m=0
 ·obtain rfl:M=[]:=oK (by omega)
  obtain rfl:l2=[]:=oK (by omega)
  have aq:(Z #[t,t] ty #[v,X ar ([]:H (H N)).length a3]).run O w= .ok v w:=by
   cases ar with
   |none=>
    rcases A.2 with⟨rfl,au⟩|⟨aZ,aR,o,rfl,_,_,ab,_⟩
    ·simp[Z,mh Q,aG,ο,E,Λ,Δ]
    ·simp[Z,mh Q,aG,ο,E,Λ,Δ,ab,aE]
   |some a=>
    have am:=iM (P:=O) w a [] (λj v a5=>by simp at a5);simp only[oh] at am;rcases A.2 with⟨rfl,au⟩|⟨aZ,aR,o,rfl,_,_,ab,_⟩
    ·simp[Z,mh Q,aG,ο,E,Λ,Δ,am]
    ·simp[Z,mh Q,aG,ο,E,Λ,Δ,ab,aE,am]
  refine⟨v,w,aq,?_,z_ _ _,⟨L,a0,A,T⟩,.inl rfl⟩;rw[nC];exact⟨L,a0,A,T⟩
 ·obtain rfl:=b6 (by omega)
  have ao:∀j u,M.flatten[j]?=J u->w.cell? ((⟨g,R,K⟩:Addr).add j)=J u:=λj u r=>by
   have aL:j<M.flatten.length:=(List.getElem?_eq_some_iff.1 r).1;rw[C] at aL;have ac:j/sz<M.length:=j9 (by rw[lN];exact aL);obtain⟨bj,b1,b2⟩:=b8 (j/sz) ac (j%sz) (jS _ ad);have aa:=r8 W.1 (j/sz) ac (j%sz) (jS _ ad);have al:=jH j sz;rw[lN] at al;rw[al,r,b1] at aa;injection aa with aa
   rw[aa,<-b2];rw[show(⟨g,R,K⟩:Addr).add j=⟨g,R+j,K⟩ by simp[Addr.add],kZ,al]
  rw[bb] at C|-
  have aD:(l.length+m)*U<=140737488355328:=by have:(l.length+m)*U<=1000000000*100000:=j_ (by omega) b7;omega
  by_cases aN:∃f cap o,v=X (J ⟨f,0,K⟩) l.length cap/\base<=f/\w.heap[f]?=J (V o e (0,0))/\cap<=ay/\o.size=cap*sz/\o.toList.take (l.length*sz)=L.flatten/\l.length+m<=cap
  ·obtain⟨f,cap,o,rfl,ai,a1,ak,a6,ae,an⟩:=aN
   have ba:(l.length+m)*sz<=cap*sz:=lZ _ an;rw[jP] at ba
   have aO:=az (P:=O) (w:=w) t ty e i Q E f 0 l.length cap ⟨g,R,K⟩ m a3 M.flatten (by rw[C,a7]) ao W.2 an (λj r=>by
    unfold World.cell?;simp only[a1,nh,a7];have:l.length*sz+j<o.size:=(by rw[C] at r;omega);simp[this]) (λj r=>Lib.frozen_of_heap a1 _)
   rw[nh,a7] at aO;have F:L.flatten.length=l.length*sz:=A.1
   have bc:w.ownsRow base e sz (X (J ⟨f,0,K⟩) (l.length+m) cap) (l.length+m) (L.flatten++(o.toList.drop (l.length*sz)).take (m*sz)):=
    ⟨by simp[F,a6,jP];omega,.inr ⟨f,cap,o,rfl,ai,a1,an,ak,a6,by rw[jP,g_,ae]⟩⟩
   have ap:=DD M.flatten (l.length*sz) w _ bc;rw[show l.length*sz=L.flatten.length from F.symm,yz M.flatten _ _ (by simp[a6,C,F];omega),F] at ap;obtain⟨aU,aV,aW,aX,aY⟩:=qZ f M.flatten (l.length*sz) w;have D:w.grownBy (w.setCells f (l.length*sz) M.flatten) (Value.slice (J ⟨f,0,K⟩) l.length cap).ownBlock:=⟨aU,aV,aW,by rw[aX];exact oZ _,λk aK aq=>aY k λd=>aq (by rw[d];rfl)⟩;refine⟨_,_,aO,⟨L++M,a0.append W,?_,λu s=>(T u (vY D s)).append (aw u (vY D s))⟩,D,⟨L,a0,?_,λu s=>T u (vY D s)⟩,.inl rfl⟩
   ·rw[ni,o_,aM]
    exact ap
   ·rcases ap.2 with⟨d,-⟩|⟨B,a2,a4,d,a8,a9,af,bd,be,bf⟩
    ·cases d
    ·have p:f=B:=by injection d with d;injection d with d;injection d
     have aS:cap=a2:=(by injection d);subst p aS;refine⟨F,.inr ⟨f,cap,a4,rfl,a8,a9,by omega,bd,be,?_⟩⟩;have:=nT (aJ (l.length*sz)) bf;rw[jC,nM (by rw[jP];omega),<-F,iB] at this;rw[<-F];exact this
  ·have b9:∃h w',(Z #[t,t] ty #[v,X (J ⟨g,R,K⟩) m a3]).run O w= .ok h w'/\w'.ownsRow w.heap.size e sz h (l.length+m) (L.flatten++M.flatten)/\w.grownBy w' K:=by
    rcases A.2 with⟨rfl,au⟩|⟨f,cap,o,rfl,ai,a1,ab,ak,a6,ae⟩
    ·obtain⟨h,w',ag,S,y,-,b0⟩:=aH (P:=O) (w:=w) base t ty e i z sz U Q E aP a7 aF aQ ad _ l.length L.flatten A ⟨g,R,K⟩ m a3 M.flatten C ao W.2 (by unfold ay;omega) aD aB
     refine⟨h,w',ag,⟨S.1,?_⟩,y⟩;rcases S.2 with⟨d,p⟩|⟨B,a2,a4,d,a8,a9,af⟩
     ·omega
     ·subst d
      rcases b0 with p|p
      ·cases p
      ·exact .inr ⟨B,a2,a4,rfl,by injection p with p;have p:B=w.heap.size:=p;omega,a9,af⟩
    ·exact aA (P:=O) w t ty e i z sz U Q E aP a7 aF aQ ad ⟨f,0,K⟩ l.length cap L.flatten A.1 (λj u r=>by
      rw[show(⟨f,0,K⟩:Addr).add j=⟨f,0+j,K⟩ by unfold Addr.add;split<;>simp_all,nh];exact pJ a1 (by rw[<-ae] at r;rw[mG] at r;split at r;exact(by simpa using r);cases r)) ⟨g,R,K⟩ m a3 M.flatten C ao (by
      rcases mC cap (l.length+m) with a5|a5
      ·exact a5
      ·exact absurd ⟨f,cap,o,rfl,ai,a1,ak,a6,ae,a5⟩ aN) (by unfold ay;omega) aD
   obtain⟨h,w',ag,S,y⟩:=b9;have D:w.grownBy w' v.ownBlock:=⟨y.os,y.tape,y.output,y.size,λk aK _=>y.block k aK (by simp)⟩
   have ax:∀u,Agree base w' u h.ownBlock->Agree base w u v.ownBlock:=λu s k a b c=>(s k a (oQ b y.size) (λe=>by
    rcases S.2 with⟨d,p⟩|⟨B,a2,a4,d,a8,a9,af⟩
    ·omega
    ·subst d;have aT:J k=J B:=e;have:=nV aT;omega)).trans (y.block k b (by simp))
   refine⟨h,w',ag,⟨L++M,a0.append W,by rw[ni,o_,aM];exact rK S aB,λu s=>(T u (ax u s)).append (aw u (ax u s))⟩,D,⟨L,a0,qj A λq ac=>y.block q (qq A ac).2 (by simp),λu s=>T u (vY D s)⟩,.inr ?_⟩;rcases S.2 with⟨d,p⟩|⟨B,a2,a4,d,a8,a9,af⟩
   ·omega
   ·subst d
    exact⟨B,rfl,a8⟩
def Ck(w:G){o:Oper}{a:Act}{F:N->G->Prop}(s x:aI)
 (E:o.op= .call {callee:= .builtin .append,args:=#[s,x],argTypes:=#[t,t]}) (p:TI t e sz U) (D:l.length=n) (Q:a.eval s=v) (k:Row El sz e base w v l) (x':N) (m:I) (l2:H α) (M:H (H N)) (R:a.eval x=x') (r:Rw w x' sz M) (A:M.length=m) (C:l2.length=m)
 (i:∀u,Agree base w u v.ownBlock->tG El u l2 M) (j:Flat sz M) (y:base<=w.heap.size) (B:n+m<=1000000000) (z:U<=100000)
 (c:∀b w',Row El sz e base w' b (l++l2)->w.grownBy w' v.ownBlock->Row El sz e base w' v l->(b.ownBlock=v.ownBlock\/∃q,b.ownBlock=J q/\w.heap.size<=q)->F b w'):ah O o a w F:=by
 obtain⟨b,w',L,d,f,g,h⟩:=X4 w o.type p D k x' m l2 M r A C i j y B z;unfold ah Oper.wp execOp;simp only[E,resolve,invoke,builtin,kW,kX,l6,kY,ou,mU,Q,R,L];exact⟨b,rfl,c b w' d f g h⟩
end
end Gr
end Go.Proofs.YthbhmjdcfocphaaGreatDoor
