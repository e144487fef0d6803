/- A part of this proof. -/
import Derived.Test.YthbhmjdcfocphaaGreatDoorKP
set_option linter.all false
set_option maxHeartbeats 16000000
set_option maxRecDepth 100000
namespace Go.Proofs.YthbhmjdcfocphaaGreatDoor
open Go.Value renaming string→G, slice→I, pointer→ε, int→E
open Go.Obj renaming cells→Z
open Go.Ending renaming returned→η
open Go.IntKind renaming i64→ι
open Go.Lib renaming hid→H
open Go renaming below_regrown→ν, World→O, heap_alloc_old→Δ, Value→X, bytes→ah, TypeId→aG, Calls→aI, redrawn→aK, wpList→aP, wp_region_quiet_below→aR, resolve→aV, builtin→aW, Operand→a_, invoke→bh, execOp→bz
open Go.Proofs.Tryz renaming prog→ξ, underlying51→aQ
open Go.Op renaming bytesLess→π
open Option renaming none→J, some→N
open _root_ renaming ByteArray→Θ, List→U, Nat→V, Array→aU
open Rw renaming lt_of_heap→Λ
open Go.Builtin renaming append_→Ξ, firstCells→aM, lenOf→aS
open Go.ByteArray renaming toList_eq→ς
open Go.RowKit renaming Below→aj
open Bool renaming false→av, true→Y
open Go.Value renaming oneCell'→az, ownBlock→aT
open Go.Sort renaming grow→aA
open Mg renaming gL→aC, vE→aE, sx→aH, rQ→aN
open Mo renaming En→aL, Fd→aX
open Me renaming Agree→aO, pJ→aY
namespace Gr
open RowKit Rw Vf Mw Me
def TI(t e:aG)(sz ah:V):Prop:=∃i z,Tryz.prog.underlying t=N (.slice e)/\Tryz.prog.info? e=N i/\i.zero=N z/\i.size=sz/\i.bytes=ah/\z.cells.size=sz/\0<sz
def Dx{t e:aG}{s b:V}(k:Tryz.prog.underlying t=N (.slice e))(a:(Tryz.prog.info? e).map (λi=>(i.zero.map (λz=>z.cells.size),i.size,i.bytes))=N (N s,s,b))(c:0<s):TI t e s b:=by obtain⟨i,z,d,f,g,h,j⟩:=uP a;exact⟨i,z,k,d,f,g,h,j,c⟩
def tiS:TI 48 9 1 16:=Dx Tryz.underlying48 (by kernel_rfl) (by decide)
def Wn:TI 49 53 5 72:=Dx Tryz.underlying49 (by kernel_rfl) (by decide)
def Rb:TI 22 51 6 104:=Dx Tryz.underlying22 (by kernel_rfl) (by decide)
def tiV:TI 104 107 7 96:=Dx Tryz.underlying104 (by kernel_rfl) (by decide)
def Kept(w w':O)(row:Option V):Prop:=∀k,k<w.heap.size->N k≠row->w'.heap[k]?=w.heap[k]?
section
variable {α:Type}{El:O->α->U X->Prop}{t e:aG}{sz ah base n:V}{v:X}{l:U α}
def JO(a:O)(ty:aG)(C:TI t e sz ah)(a2:l.length=n)(B:Row El sz e base a v l)(h:α)(cs:U X)
 (y:∀u,aO base a u v.ownBlock->El u h cs) (p:cs.length=sz) (j:∀u∈cs,u.oneCell'=Y) (o:base<=a.heap.size) (a1:n+1<=1000000000) (D:ah<=100000):
 ∃b w',(Ξ #[t,t] ty #[v,I (N ⟨a.heap.size,0,J⟩) 1 1]).run ξ (a.alloc (Z cs.toArray e))= .ok b w'/\Row El sz e base w' b (l++[h])/\aj base a w'/\Kept a w' v.ownBlock/\(b.ownBlock=v.ownBlock\/b.ownBlock=N (a.heap.size+1)):=by
 obtain⟨i,z,T,K,W,Q,F,a0,S⟩:=C;obtain⟨L,A,q,x⟩:=B;have c:=pM a (Z cs.toArray e);have r:(a.alloc (Z cs.toArray e)).ownsRow base e sz v l.length L.flatten:=zw _ q;have R:(a.alloc (Z cs.toArray e)).heap.size=a.heap.size+1:=nI _
 obtain⟨b,w',s,w,d,m⟩:=A7 (P:=ξ) _ base a.heap.size t ty e i z sz ah T K W Q F a0 S v l.length L.flatten r _ 1 cs (q9 (t:=e) p) j (by unfold maxLen;omega) (by have:(l.length+1)*ah<=1000000000*100000:=j_ (by omega) D;omega) (by omega)
 refine⟨b,w',s,?_,qI d (c.mono o) (λk f=>(qq q f).1) (pF o c.size),?_,by rwa [R] at m⟩
 ·refine De.G6 A (λu g=>x u (Agree.below c g)) rfl (λu g=>y u (Agree.below c g)) p j w d m
 ·intro k f M
  rw[d.block k (by omega) M];exact c.block k f
def NF(f:O)(ty:aG)(m:TI t e sz ah)(s:l.length=n)(k:Row El sz e base f v l)(h:α)(cs:U X)
 (j:∀u,aO base f u v.ownBlock->El u h cs) (q:cs.length=sz) (i:∀u∈cs,u.oneCell'=Y) (o:base<=f.heap.size) (r:n+1<=1000000000) (p:ah<=100000):
 ∃g w',(Ξ #[t,t] ty #[v,I (N ⟨f.heap.size,0,J⟩) 1 1]).run ξ (f.alloc (Z cs.toArray e))= .ok g w'/\Row El sz e base w' g (l++[h])/\aj base f w'/\Kept f w' v.ownBlock:=by
 obtain⟨g,w',a,b,c,d,-⟩:=JO f ty m s k h cs j q i o r p;exact⟨g,w',a,b,c,d⟩
def qu(b:O){ops:aU Oper}{f:U Oper}{o:Oper}{a:Act}{Q:Exit->Act->O->Prop}(A:o.guard=J)(s x:a_)
 (D:o.op= .call {callee:= .builtin .append,args:=#[s,x],argTypes:=#[t,t]}) (r:TI t e sz ah) (C:l.length=n) (K:a.eval s=v) (q:Row El sz e base b v l) (d:α) (cs:U X)
 (L:a.eval x=I (N ⟨b.heap.size,0,J⟩) 1 1) (m:∀u,aO base b u v.ownBlock->El u d cs) (z:cs.length=sz) (h:∀u∈cs,u.oneCell'=Y) (w:base<=b.heap.size) (B:n+1<=1000000000) (y:ah<=100000)
 (g:∀c w',Row El sz e base w' c (l++[d])->aj base b w'->Kept b w' v.ownBlock->aP ξ ops Q f (a.put o.dst c) w'):aP ξ ops Q (o::f) a (b.alloc (Z cs.toArray e)):=by
 refine iZ A λ_ p=>?_
 obtain⟨c,w',F,i,j,k⟩:=NF b o.type r C q d cs m z h w B y;unfold Oper.wp bz;simp only[D,aV,bh,aW,kW,kX,l6,kY,ou,mU,K,L,F];exact p _ _ (g c w' i j k)
def La(b:O){ops:aU Oper}{f:U Oper}{o:Oper}{a:Act}{Q:Exit->Act->O->Prop}(B:o.guard=J)(s x:a_)
 (F:o.op= .call {callee:= .builtin .append,args:=#[s,x],argTypes:=#[t,t]}) (w:TI t e sz ah) (D:l.length=n) (L:a.eval s=v) (r:Row El sz e base b v l) (d:α) (cs:U X)
 (M:a.eval x=I (N ⟨b.heap.size,0,J⟩) 1 1) (p:∀u,aO base b u v.ownBlock->El u d cs) (A:cs.length=sz) (h:∀u∈cs,u.oneCell'=Y) (y:base<=b.heap.size) (C:n+1<=1000000000) (z:ah<=100000)
 (g:∀c w',Row El sz e base w' c (l++[d])->aj base b w'->Kept b w' v.ownBlock->(c.ownBlock=v.ownBlock\/c.ownBlock=N (b.heap.size+1))->aP ξ ops Q f (a.put o.dst c) w'):aP ξ ops Q (o::f) a (b.alloc (Z cs.toArray e)):=by
 refine iZ B λ_ q=>?_
 obtain⟨c,w',K,i,j,k,m⟩:=JO b o.type w D r d cs p A h y C z;unfold Oper.wp bz;simp only[F,aV,bh,aW,kW,kX,l6,kY,ou,mU,L,M,K];exact q _ _ (g c w' i j k m)
def P4(b:O){ops:aU Oper}{o:Oper}{a:Act}{K:Act->O->Prop}{Q:Exit->Act->O->Prop}{f:Prop}(z:o.guard=J)(s x:a_)
 (C:o.op= .call {callee:= .builtin .append,args:=#[s,x],argTypes:=#[t,t]}) (q:TI t e sz ah) (B:l.length=n) (F:a.eval s=v) (p:Row El sz e base b v l) (d:α) (cs:U X)
 (M:a.eval x=I (N ⟨b.heap.size,0,J⟩) 1 1) (m:∀u,aO base b u v.ownBlock->El u d cs) (y:cs.length=sz) (h:∀u∈cs,u.oneCell'=Y) (r:base<=b.heap.size) (A:n+1<=1000000000) (w:ah<=100000)
 (g:∀c w',Row El sz e base w' c (l++[d])->aj base b w'->Kept b w' v.ownBlock->K (a.put o.dst c) w'):
 if Region.wanted o (yielded ops a.tmps)=Y then Oper.wp ξ o a (b.alloc (Z cs.toArray e)) K Q else f:=by
 have L:Region.wanted o (yielded ops a.tmps)=Y:=by simp[Region.wanted,z]
 rw[oD L];obtain⟨c,w',D,i,j,k⟩:=NF b o.type q B p d cs m y h r A w;unfold Oper.wp bz;simp only[C,aV,bh,aW,kW,kX,l6,kY,ou,mU,F,M,D];exact g c w' i j k
def run_app(w:O)(ty:aG)(a8:TI t e sz ah)(aw:l.length=n)(a7:Row El sz e base w v l)(x:X)(m:V)(l2:U α)(M:U (U X))(a9:Rw w x sz M)(ad:M.length=m)(ae:l2.length=m)
 (a5:∀u,aO base w u v.ownBlock->tG El u l2 M) (h:Flat sz M) (K:base<=w.heap.size) (au:n+m<=1000000000) (aa:ah<=100000):
 ∃b w',(Ξ #[t,t] ty #[v,x]).run ξ w= .ok b w'/\Row El sz e base w' b (l++l2)/\aj base w w'/\Kept w w' v.ownBlock:=by
 obtain⟨i,z,C,s,am,al,ab,an,B⟩:=a8;obtain⟨L,a6,o,a4⟩:=a7;obtain⟨g,T,D,cap,rfl,F,ac⟩:=a9;subst ad;have Q:M.flatten.length=M.length*sz:=vl h.1
 have key:∃b w',(Ξ #[t,t] ty #[v,I D M.length cap]).run ξ w= .ok b w'/\w'.ownsRow base e sz b (l.length+M.length) (L.flatten++M.flatten)/\w.grownBy w' v.ownBlock/\(b.ownBlock=v.ownBlock\/b.ownBlock=N w.heap.size):=by
  cases D with
  |none=>
   have W:M.length=0:=by
    rcases jR M.length with c|c
    ·exact c
    ·cases F c
   obtain rfl:=oK W;refine⟨v,w,?_,by simpa using o,⟨rfl,rfl,rfl,oZ _,λ_ _ _=>rfl⟩,.inl rfl⟩;rcases o.2 with⟨rfl,ar⟩|⟨aq,ao,ap,rfl,_,_,af,_⟩
   ·simp[Ξ,mh C,sizeOf,typeInfo,s,aS,aM]
   ·simp[Ξ,mh C,sizeOf,typeInfo,s,aS,aM,af,storeCells]
  |some a=>
   have ag:∀j u,M.flatten[j]?=N u->w.cell? (a.add j)=N u:=λj u R=>by
    have A:j<M.flatten.length:=(List.getElem?_eq_some_iff.1 R).1;rw[Q] at A
    have ai:0<M.length:=by rcases jR M.length with c|c
                           ·rw[c] at A;omega
                           ·exact c
    cases F ai;have S:j/sz<M.length:=j9 (by rw[lN];exact A);obtain⟨ax,a2,a3⟩:=ac (j/sz) S (j%sz) (jS _ B);have f:=r8 h.1 (j/sz) S (j%sz) (jS _ B);have r:=jH j sz;rw[lN] at r;rw[r,R,a2] at f;injection f with f
    rw[f,<-a3];rw[show(⟨g,T,J⟩:Addr).add j=⟨g,T+j,J⟩ by simp[Addr.add],kZ,r]
   obtain⟨b,w',p,q,d,-,a1⟩:=run_append_own_at (P:=ξ) (w:=w) base t ty e i z sz ah C s am al ab an B v l.length L.flatten o a M.length cap M.flatten Q ag h.2 (by unfold maxLen;omega) (by have:(l.length+M.length)*ah<=1000000000*100000:=j_ (by omega) aa;omega) K
   exact⟨b,w',p,q,d,a1⟩
 obtain⟨b,w',p,q,d,a0⟩:=key;refine⟨b,w',p,Row.appended a6 a4 h a5 (by rw[ae];exact q) d a0,qI d (pH _ _) (λk y=>(qq o y).1) K,λk y ak=>d.block k y ak⟩
def rz(w:O){ops:aU Oper}{c:U Oper}{o:Oper}{a:Act}{Q:Exit->Act->O->Prop}(A:o.guard=J)(s x:a_)
 (K:o.op= .call {callee:= .builtin .append,args:=#[s,x],argTypes:=#[t,t]}) (q:TI t e sz ah) (F:l.length=n) (P:a.eval s=v) (p:Row El sz e base w v l) (x':X) (m:V) (l2:U α) (M:U (U X)) (R:a.eval x=x') (r:Rw w x' sz M) (B:M.length=m) (D:l2.length=m)
 (i:∀u,aO base w u v.ownBlock->tG El u l2 M) (j:Flat sz M) (y:base<=w.heap.size) (C:n+m<=1000000000) (z:ah<=100000)
 (d:∀b w',Row El sz e base w' b (l++l2)->aj base w w'->Kept w w' v.ownBlock->aP ξ ops Q c (a.put o.dst b) w'):aP ξ ops Q (o::c) a w:=by
 refine iZ A λ_ k=>?_
 obtain⟨b,w',L,f,g,h⟩:=run_app w o.type q F p x' m l2 M r B D i j y C z;unfold Oper.wp bz;simp only[K,aV,bh,aW,kW,kX,l6,kY,ou,mU,P,R,L];exact k _ _ (d b w' f g h)
def y_{w:O}(a:base<=w.heap.size):Row El sz e base (w.alloc (Z #[] e)) (I (N ⟨w.heap.size,0,J⟩) 0 0) []:=
 ⟨[],⟨λc b=>absurd b (by simp),λu f=>absurd f (by simp)⟩,BG (pG w _) a,λw' _=>⟨rfl,λj d=>absurd d (by simp)⟩⟩
def row_one{w:O}{x:α}{cs:U X}(b:base<=w.heap.size)(a:cs.length=sz)(c:∀u∈cs,u.oneCell'=Y)(d:∀u,aO base w u J->El u x cs):Row El sz e base (w.alloc (Z cs.toArray e)) (I (N ⟨w.heap.size,0,J⟩) 1 1) [x]:=by have m:(w.alloc (Z cs.toArray e)).heap.size=w.heap.size+1:=nI _;refine⟨[cs],Flat.one a c,by simpa using rK (q9 (t:=e) a) b,λu i=>tG.one (d u λk g h _=>?_)⟩;rw[i k g (by omega) (λf=>by have j:k=w.heap.size:=nV f;omega)];exact Δ w _ h
def za{C:α->U X}(f:∀x,(C x).length=sz)(d:∀x,∀u∈C x,u.oneCell'=Y)(l:U α):Flat sz (l.map C):=
 ⟨λc a=>by obtain⟨x,-,rfl⟩:=List.mem_map.1 a;exact f x,λu b=>by
   obtain⟨c,a,b⟩:=List.mem_flatten.1 b;obtain⟨x,-,rfl⟩:=List.mem_map.1 a;exact d x u b⟩
def all_map{C:α->U X}{w:O}(a:∀x,El w x (C x))(l:U α):tG El w l (l.map C):=⟨by simp,λj c b=>by rw[oG];exact a _⟩
end
def s_one(x:Θ):∀u∈p_ x,u.oneCell'=Y:=λu a=>by rw[List.mem_singleton.1 a];rfl
def Bb(x:aL):∀u∈pO x,u.oneCell'=Y:=λu a=>by
 simp only[pO,ox,oy,nw] at a;rcases a with rfl|rfl|rfl|rfl|rfl<;>rfl
abbrev CY(S:V)(w:O)(v:X)(l:U Θ):Prop:=Row De.PEl 1 9 S w v l
abbrev xB(S:V)(w:O)(v:X)(l:U aL):Prop:=Row De.EEl 5 53 S w v l
abbrev FRow(S:V)(w:O)(v:X)(l:U aX):Prop:=Row vT 6 51 S w v l
def CY.rw{S:V}{w:O}{v:X}{l:U Θ}(a:CY S w v l):Rw w v 1 (l.map p_):=De.yP (C:=p_) (λ_ _ _ a=>a) a
def xB.rw{S:V}{w:O}{v:X}{l:U aL}(a:xB S w v l):Rw w v 5 (l.map pO):=De.yP (C:=pO) (λ_ _ _ a=>a) a
def sM(w:O)(a b:Obj):((w.alloc a).alloc b).heap[w.heap.size]?=N a/\((w.alloc a).alloc b).heap[w.heap.size+1]?=N b/\aj w.heap.size w ((w.alloc a).alloc b):=by
 have c:(w.alloc a).heap.size=w.heap.size+1:=nI _;refine⟨?_,?_,(pM _ _).alloc (pM w _).size _⟩
 ·rw[Δ _ _ (by omega)];exact pG w a
 ·rw[<-c];exact pG _ b
def zR(w:O)(a b c:Obj):(((w.alloc a).alloc b).alloc c).heap[w.heap.size]?=N a/\(((w.alloc a).alloc b).alloc c).heap[w.heap.size+1]?=N b/\(((w.alloc a).alloc b).alloc c).heap[w.heap.size+1+1]?=N c/\aj w.heap.size w (((w.alloc a).alloc b).alloc c):=by
 have g:(w.alloc a).heap.size=w.heap.size+1:=nI _;have j:((w.alloc a).alloc b).heap.size=w.heap.size+1+1:=by rw[show((w.alloc a).alloc b).heap.size=(w.alloc a).heap.size+1 from nI _,g]
 have h:((w.alloc a).alloc b).heap[w.heap.size]?=N a:=by rw[Δ _ _ (by omega)];exact pG w a
 have i:((w.alloc a).alloc b).heap[w.heap.size+1]?=N b:=by rw[<-g];exact pG _ b
 have d:=pM w a;have f:=d.alloc d.size b;exact⟨by rw[Δ _ _ (by omega)];exact h,by rw[Δ _ _ (by omega)];exact i,by rw[<-j];exact pG _ c,f.alloc f.size c⟩
def boxes4(w:O)(a b c d:Obj):((((w.alloc a).alloc b).alloc c).alloc d).heap[w.heap.size]?=N a/\((((w.alloc a).alloc b).alloc c).alloc d).heap[w.heap.size+1]?=N b/\((((w.alloc a).alloc b).alloc c).alloc d).heap[w.heap.size+1+1]?=N c/\((((w.alloc a).alloc b).alloc c).alloc d).heap[w.heap.size+1+1+1]?=N d/\aj w.heap.size w ((((w.alloc a).alloc b).alloc c).alloc d):=by
 obtain⟨g,h,i,f⟩:=zR w a b c
 have z:(((w.alloc a).alloc b).alloc c).heap.size=w.heap.size+1+1+1:=by rw[show(((w.alloc a).alloc b).alloc c).heap.size=((w.alloc a).alloc b).heap.size+1 from nI _,show((w.alloc a).alloc b).heap.size=(w.alloc a).heap.size+1 from nI _,show(w.alloc a).heap.size=w.heap.size+1 from nI _]
 exact⟨by rw[Δ _ _ (by omega)];exact g,by rw[Δ _ _ (by omega)];exact h,by rw[Δ _ _ (by omega)];exact i,by rw[<-z];exact pG _ d,f.alloc f.size d⟩
def pN{w u:O}{g:V}{a b c d e f:X}{t:aG}{k:V×V}(m:aj w.heap.size w u)(i:w.heap[g]?=N (Z #[a,b,c,d,e,f] t k)):
 u.cell? ⟨g,0,J⟩=N a/\u.cell? ⟨g,1,J⟩=N b/\u.cell? ⟨g,2,J⟩=N c/\u.cell? ⟨g,3,J⟩=N d/\u.cell? ⟨g,4,J⟩=N e/\u.cell? ⟨g,5,J⟩=N f:=by
 have h:=(m.block g (Λ i)).trans i;exact⟨aY (j:=0) h rfl,aY (j:=1) h rfl,aY (j:=2) h rfl,aY (j:=3) h rfl,aY (j:=4) h rfl,aY (j:=5) h rfl⟩
def yY{w:O}{a:V}{cs:aU X}{t:aG}(b:w.heap[a]?=N (Z cs t (0,0)))(j:V):w.frozen? ⟨a,j,J⟩=av:=Lib.frozen_of_heap b j
def Cv(l:U Θ):Flat 1 (l.map p_):=za (C:=p_) (λ_=>rfl) s_one l
def Wo(l:U aL):Flat 5 (l.map pO):=za (C:=pO) (λ_=>rfl) Bb l
def Gx(l:U Θ)(w:O):tG De.PEl w l (l.map p_):=all_map (C:=p_) (λ_=>rfl) l
def all_e(l:U aL)(w:O):tG De.EEl w l (l.map pO):=all_map (C:=pO) (λ_=>rfl) l
end Gr
namespace Ke
open RowKit Rw Vf Mw Me Gr
def G7(a b:aL):(decide (a.upd<b.upd)=Y/\aN a b=b)\/(decide (a.upd<b.upd)=av/\(b.upd==a.upd)=Y/\π (aE a) (aE b)=Y/\aN a b=b)\/
 (decide (a.upd<b.upd)=av/\(b.upd==a.upd)=Y/\π (aE a) (aE b)=av/\aN a b=a)\/(decide (a.upd<b.upd)=av/\(b.upd==a.upd)=av/\aN a b=a):=by
 unfold aN
 by_cases c:a.upd<b.upd
 ·exact .inl ⟨by simpa using c,oD (.inl c)⟩
 ·refine .inr ?_
  by_cases d:b.upd=a.upd
  ·cases f:π (aE a) (aE b) with
   |true=>exact .inl ⟨by simpa using c,by simpa using d,rfl,oD (.inr ⟨d.symm,rfl⟩)⟩
   |false=>exact .inr (.inl ⟨by simpa using c,by simpa using d,rfl,oU (by rintro(g|⟨-,g⟩)<;>first|exact c g|cases g)⟩)
  ·exact .inr (.inr ⟨by simpa using c,by simpa using d,oU (by rintro(g|⟨g,-⟩)<;>first|exact c g|exact d g.symm)⟩)
def gt_bl(l m:U UInt8):(!π m l&& !(m==l))=π l m:=by
 cases a:π l m with
 |true=>
  have c:π m l=av:=by
   cases d:π m l with
   |false=>rfl
   |true=>have:=Mg.XI a d;rw[Mg.G8] at this;cases this
  have f:(m==l)=av:=by
   cases b:(m==l) with
   |false=>rfl
   |true=>rw[kG] at b;rw[b,Mg.G8] at a;cases a
  rw[c,f];rfl
 |false=>
  by_cases e:m=l
  ·rw[e];simp
  ·rcases Mg.P5 e with g|g
   ·rw[g];rfl
   ·rw[g] at a;cases a
def qv{w u:O}{g:V}{a b c d e:X}{t:aG}{f:V×V}(k:aj w.heap.size w u)(i:w.heap[g]?=N (Z #[a,b,c,d,e] t f)):
 u.cell? ⟨g,0,J⟩=N a/\u.cell? ⟨g,1,J⟩=N b/\u.cell? ⟨g,2,J⟩=N c/\u.cell? ⟨g,3,J⟩=N d/\u.cell? ⟨g,4,J⟩=N e:=by
 have h:=(k.block g (Λ i)).trans i;exact⟨aY (j:=0) h rfl,aY (j:=1) h rfl,aY (j:=2) h rfl,aY (j:=3) h rfl,aY (j:=4) h rfl⟩
def RY(e:aL)(b:AD e){K:Θ}(a:(⟨(aE e).toArray⟩:Θ)=K)(w:O)(d:V)(c:aU Obj):
 aI ξ 217 #[.agg (pO e).toArray] (aA (aK w d) c) λe f=>e=η (G K)/\∃p:Regrown,f=aA (aK w p.d) p.os:=by
 subst a;exact Calls.regrown_of (XF e b _)
def XJ(a b:aL)(a7:AD a)(a8:AD b)(w:O):
 aI ξ 140 #[.agg (pO a).toArray,.agg (pO b).toArray] w λx w'=>x=η (.agg (pO (aN a b)).toArray)/\aj w.heap.size w w':=by
 have q:=G7 a b;obtain⟨ag,P⟩:=pL ((⟨(aE a).toArray⟩:Θ));obtain⟨ai,Q⟩:=pL ((⟨(aE b).toArray⟩:Θ));have a3:ag.toList=aE a:=by rw[ς,<-P,sQ]
 have a4:ai.toList=aE b:=by rw[ς,<-Q,sQ]
 rw[<-a3,<-a4] at q;have g:=λw=>RY a a7 P w
 have h:=λw=>RY b a8 Q w
 generalize aN a b=r at q|-;obtain⟨B,at',C,z,D⟩:=a;obtain⟨K,L,bl,F,M⟩:=b;clear P Q a3 a4 a7 a8;simp only at q;change∀w d c,aI _ _ #[.agg #[G B,G at',G C,G z,E ι D]] _ _ at g;change∀w d c,aI _ _ #[.agg #[G K,G L,G bl,G F,E ι M]] _ _ at h;obtain⟨o,p,u,R⟩:=zR w (Z #[G B,G at',G C,G z,E ι D] 53) (Z #[G K,G L,G bl,G F,E ι M] 53) (Z #[G ⟨#[]⟩,G ⟨#[]⟩,G ⟨#[]⟩,G ⟨#[]⟩,E ι 0] 53);have a1:=H q;clear q
 show aI ξ 140 #[.agg #[G B,G at',G C,G z,E ι D],.agg #[G K,G L,G bl,G F,E ι M]] w _
 go_enter Tryz.func140,Tryz.ntmps140
 go_wp2_with fail
 generalize((w.alloc _).alloc _).alloc _=f at o p u R|-;generalize ak:w.heap.size=A at o p u|-;have ac:=H (show w.heap.size<=A+1+1 by omega);clear ak;have W:=H R;have ad:=H o;have ae:=H p;have af:=H u;have i:=λd c=>qv (ν f d c) o
 have j:=λd c=>qv (ν f d c) p
 have S:=H g;have T:=H h;clear R o p u g h;have an:=λd c=>(i d c).1
 have ao:=λd c=>(i d c).2.1
 have ap:=λd c=>(i d c).2.2.1
 have aq:=λd c=>(i d c).2.2.2.1
 have ar:=λd c=>(i d c).2.2.2.2
 have au:=λd c=>(j d c).1
 have aw:=λd c=>(j d c).2.1
 have ax:=λd c=>(j d c).2.2.1
 have ay:=λd c=>(j d c).2.2.2.1
 have aB:=λd c=>(j d c).2.2.2.2
 clear i j;rcases a1.o with⟨s,m⟩|⟨s,a5,a6,m⟩|⟨s,a5,a6,m⟩|⟨s,a5,m⟩
 all_goals
  have ab:=H m;clear m a1
  try rw[<-gt_bl] at a6
  have h:=T.o f;have g:=S.o f;refine aR (by kernel_rfl) (by kernel_rfl) ?_
  repeat(first|go_big_quiet_step (fail)|quiet_step (fail))
  try(quiet_step (exact h _ _);clear h;repeat(first|go_big_quiet_step (fail)|quiet_step (fail)))
  try(quiet_step (exact g _ _);clear g;repeat(first|go_big_quiet_step (fail)|quiet_step (fail)))
  refine wpQuiet_nil ?_;intro _ al;obtain⟨⟨a2,aa⟩,am⟩:=al;subst am;clear an ao ap aq ar au aw ax ay aB S T;have k:=H (ν f a2 aa);obtain⟨x0,x1,x2,x3,x4⟩:=qv k.o ad.o;obtain⟨aD,y1,y2,y3,y4⟩:=qv k.o ae.o;have a9:=pW k.o af.o;have a0:=H (W.o.trans (k.o.mono W.o.size));have y:=H a9;generalize aA (aK f a2) aa=aF at x0 x1 x2 x3 x4 aD y1 y2 y3 y4 y a0|-;clear a9 k s
  go_wp2_with(refine oN rfl 53 _ _ rfl _ _ rfl rfl 53 _ y.o (by kernel_rfl) rfl (by simp[az]) ?_)
  go_wp2_with fail
  refine ow (nL rfl _ _ (A+1+1) _ _ _ _ rfl (og _ _ _ _ _ _ y.o) Tryz.underlying53 rfl (by kernel_rfl)) rfl ?_;exact⟨by rw[ab.o];rfl,pS a0.o ac.o _⟩
def G9(a b:aX):(decide (a.upd<b.upd)=Y/\aH a b=b)\/(decide (a.upd<b.upd)=av/\(b.upd==a.upd)=Y/\π (aC a) (aC b)=Y/\aH a b=b)\/
 (decide (a.upd<b.upd)=av/\(b.upd==a.upd)=Y/\π (aC a) (aC b)=av/\aH a b=a)\/(decide (a.upd<b.upd)=av/\(b.upd==a.upd)=av/\aH a b=a):=by
 unfold aH
 by_cases c:a.upd<b.upd
 ·exact .inl ⟨by simpa using c,oD (.inl c)⟩
 ·refine .inr ?_
  by_cases d:b.upd=a.upd
  ·cases f:π (aC a) (aC b) with
   |true=>exact .inl ⟨by simpa using c,by simpa using d,rfl,oD (.inr ⟨d.symm,rfl⟩)⟩
   |false=>exact .inr (.inl ⟨by simpa using c,by simpa using d,rfl,oU (by rintro(g|⟨-,g⟩)<;>first|exact c g|cases g)⟩)
  ·exact .inr (.inr ⟨by simpa using c,by simpa using d,oU (by rintro(g|⟨g,-⟩)<;>first|exact c g|exact d g.symm)⟩)
def RZ(f:aX)(vp ve:X)(j:KH f){K:Θ}(g:(⟨(aC f).toArray⟩:Θ)=K)(w:O)(i:Rw w vp 1 (f.path.map p_))(h:∃a n c,ve=I a n c)(d:V)(b:aU Obj):
 aI ξ 141 #[.agg (pX f vp ve).toArray] (aA (aK w d) b) λe k=>e=η (G K)/\∃p:Regrown,k=aA (aK w p.d) p.os:=by
 subst g;exact Calls.regrown_of (XG f vp ve j _ (i.under (ν w d b)) h)
def LF(S:V)(f:aX)(e:Ending)(w':O):Prop:=∃a cap,e=η (.agg #[I a f.path.length cap,G f.id,G f.title,G f.link,E ι f.upd,I J 0 0])/\CY S w' (I a f.path.length cap) f.path
def XL(a b:aX)(vp ve bt bs:X)(bm:KH a)(bp:KH b)(w:O)(a7:Rw w vp 1 (a.path.map p_))(bD:∃a n c,ve=I a n c)(a8:Rw w bt 1 (b.path.map p_))(bE:∃a n c,bs=I a n c):
 aI ξ 80 #[.agg (pX a vp ve).toArray,.agg (pX b bt bs).toArray] w λx w'=>LF w.heap.size (aH a b) x w'/\aj w.heap.size w w':=by
 have ap:=G9 a b;obtain⟨bL,bj⟩:=pL ((⟨(aC a).toArray⟩:Θ));obtain⟨bM,bk⟩:=pL ((⟨(aC b).toArray⟩:Θ));have bC:bL.toList=aC a:=by rw[ς,<-bj,sQ]
 have a6:bM.toList=aC b:=by rw[ς,<-bk,sQ]
 rw[<-bC,<-a6] at ap
 have br:(aH a b).path.length<=64:=by
  unfold aH
  split
  ·exact bp.yc
  ·exact bm.yc
 have R:=λu (aq:aj w.heap.size w u)=>RZ a vp ve bm bj u (a7.under aq) bD
 have S:=λu (aq:aj w.heap.size w u)=>RZ b bt bs bp bk u (a8.under aq) bE
 obtain⟨ay,aD,aB,rfl⟩:=bD;obtain⟨T,a0,W,rfl⟩:=bE;obtain⟨-,-,b0,b1,rfl,-,-⟩:=qp a7;obtain⟨-,-,a2,a3,rfl,-,-⟩:=qp a8;generalize aH a b=r at ap br|-;obtain⟨P,af,at',ag,ai,cj⟩:=a;obtain⟨Q,C,D,bl,F,ck⟩:=b;clear bj bk bC a6 bm bp;simp only at ap a7 a8;change∀u(aq:aj w.heap.size w u) d f,aI _ _ #[.agg #[I b0 P.length b1,G af,G at',G ag,E ι ai,I ay aD aB]] _ _ at R;change∀u(aq:aj w.heap.size w u) d f,aI _ _ #[.agg #[I a2 Q.length a3,G C,G D,G bl,E ι F,I T a0 W]] _ _ at S
 show aI ξ 80 #[.agg #[I b0 P.length b1,G af,G at',G ag,E ι ai,I ay aD aB],.agg #[I a2 Q.length a3,G C,G D,G bl,E ι F,I T a0 W]] w _
 obtain⟨q,bo⟩:=pL P.length;obtain⟨bn,bq⟩:=pL Q.length;have a4:=H bo;have a5:=H bq;rw[bo] at R a7|-;rw[bq] at S a8|-;obtain⟨y,m,aZ,gF,an⟩:=boxes4 w (Z #[I b0 q b1,G af,G at',G ag,E ι ai,I ay aD aB] 51) (Z #[I a2 bn a3,G C,G D,G bl,E ι F,I T a0 W] 51) (Z #[I J 0 0,G ⟨#[]⟩,G ⟨#[]⟩,G ⟨#[]⟩,E ι 0,I J 0 0] 51) (Z #[I b0 q b1,G af,G at',G ag,E ι ai,I ay aD aB] 51);have bx:=H ap;have bA:=H br;have bJ:=H a7;have bK:=H a8;clear ap br a7 a8 bo bq
 go_enter Tryz.func80,Tryz.ntmps80
 go_wp2_with fail
 generalize(((w.alloc _).alloc _).alloc _).alloc _=g at y m aZ gF an|-;generalize bS:w.heap.size=A at y m aZ gF|-;have K:=H (show w.heap.size<=A+1+1/\w.heap.size<=A+1+1+1 by omega);clear bS;have bw:=H an;have bG:=H m;have bI:=H aZ;have bH:=H gF;have ca:=λd f=>(pN (ν g d f) y).2.2.2.2.1
 have bW:=λd f=>(pN (ν g d f) y).1
 have bX:=λd f=>(pN (ν g d f) y).2.1
 have bY:=λd f=>(pN (ν g d f) y).2.2.1
 have bZ:=λd f=>(pN (ν g d f) y).2.2.2.1
 have cb:=λd f=>(pN (ν g d f) y).2.2.2.2.2
 have cc:=λd f=>(pN (ν g d f) m).1
 have cd:=λd f=>(pN (ν g d f) m).2.1
 have ce:=λd f=>(pN (ν g d f) m).2.2.1
 have cf:=λd f=>(pN (ν g d f) m).2.2.2.1
 have cg:=λd f=>(pN (ν g d f) m).2.2.2.2.1
 have s5:=λd f=>(pN (ν g d f) m).2.2.2.2.2
 have bu:=H (R g an);have bv:=H (S g an);clear an y m aZ gF R S;rcases bx.o with⟨aF,aJ⟩|⟨aF,bc,bd,aJ⟩|⟨aF,bc,bd,aJ⟩|⟨aF,bc,aJ⟩
 all_goals
  subst aJ;clear bx
  try rw[<-gt_bl] at bd
  have S:=bv.o;have R:=bu.o;refine aR (by kernel_rfl) (by kernel_rfl) ?_
  repeat(first|go_big_quiet_step (fail)|quiet_step (fail))
  try(quiet_step (exact S _ _);clear S;repeat(first|go_big_quiet_step (fail)|quiet_step (fail)))
  try(quiet_step (exact R _ _);clear R;repeat(first|go_big_quiet_step (fail)|quiet_step (fail)))
  refine wpQuiet_nil ?_;intro _ bU;obtain⟨⟨bB,bF⟩,bV⟩:=bU;subst bV;clear bW bX bY bZ ca cb cc cd ce cf cg s5 bu bv aF;have aa:=H (ν g bB bF);have bb:=H (pW aa.o bI.o);have ax:=H (pW aa.o bH.o);have b4:=H (bw.o.trans (aa.o.mono bw.o.size));obtain⟨ci,y1,y2,y3,y4,y5⟩:=pN aa.o bG.o;generalize aA (aK g bB) bF=a9 at ci y1 y2 y3 y4 y5 bb ax b4|-;clear aa
  try clear bd
  try clear bc
 iterate 2
  focus
   go_wp2_with(first
    |(refine oN rfl 51 _ _ rfl _ _ rfl rfl 51 _ ax.o (by kernel_rfl) rfl (by simp[az]) ?_;have B:=H (og _ _ _ #[I a2 bn a3,G C,G D,G bl,E ι F,I T a0 W] _ _ ax.o);have aw:=H ((oo a9 (A+1+1+1) (A+1+1) #[I a2 bn a3,G C,G D,G bl,E ι F,I T a0 W] (by omega)).trans bb.o);have j:=H (pS b4.o K.o.2 #[I a2 bn a3,G C,G D,G bl,E ι F,I T a0 W]);generalize a9.setRow (A+1+1+1) #[I a2 bn a3,G C,G D,G bl,E ι F,I T a0 W]=b2 at B aw j|-;obtain⟨s,c1,c2,ak,h,al⟩:=pN (pH _ _) B.o;have b9:=H (y_ (El:=De.PEl) (sz:=1) (e:=(9:V)) (w:=b2) (oZ _));have i:=pM b2 (Z #[] (9:V));have au:=H i.size;have ab:=H (j.o.trans (i.mono j.o.size));have ac:=H (pW i B.o);have ad:=H (pW i aw.o);have M:=H (Λ B.o);have b6:=H (show 0+bn<=1000000000 by have bf:=bA.o;have bR:=a5.o;(try simp only at bf);omega);have b7:=H (bK.o.under ab.o);have b5:=H (show aT (I (N ⟨b2.heap.size,0,J⟩) 0 0)=N b2.heap.size from rfl);replace s:=pI s i;clear i c1 c2 ak h al)
    |(have bQ:=au;clear bQ;refine rz (n:=0) _ rfl (.tmp 27) (.tmp 29) rfl tiS rfl rfl b9.o _ bn Q (Q.map p_) rfl b7.o (by rw[oS];exact a5.o) a5.o (λu _=>Gx _ u) (Cv _) au.o b6.o (by decide) ?_))
   intro ch ar a1 ao z;rw[b5.o] at z;have L:=H ((z _ (Λ ac.o) (λe=>by have a6:=nV e;have:=M.o;omega)).trans ac.o);have b8:=H ((z _ (Λ ad.o) (λe=>by have a6:=nV e;have:=M.o;omega)).trans ad.o);have b3:=H (ab.o.trans (ao.mono j.o.size));obtain⟨o,h,am⟩:=Row.slice a1;rw[a5.o] at am;subst am;have ba:=H a1;have ae:=H ((pz _ ⟨A+1+1+1,5,J⟩ (A+1+1) (I J 0 0) (by simp)).trans ((pz ar ⟨A+1+1+1,0,J⟩ (A+1+1) (I o bn h) (by simp)).trans b8.o));clear a1 ao z s;obtain⟨s,c1,c2,ak,al,bN⟩:=pN (pH _ _) L.o;have bO:=yY L.o 0;have bP:=yY L.o 5
   go_wp2_with(refine oN rfl 51 _ _ rfl _ _ rfl rfl 51 _ ae.o (by kernel_rfl) rfl (by simp[az]) ?_)
   go_wp2_with fail
   refine ow (nL rfl _ _ (A+1+1) _ _ _ _ rfl (og _ _ _ _ _ _ ae.o) aQ rfl (by kernel_rfl)) rfl ?_;refine⟨⟨o,h,by rw[show Q.length=bn from a5.o],?_⟩,pS ((b3.o.setCell (p:=⟨A+1+1+1,0,J⟩) K.o.2 _).setCell (p:=⟨A+1+1+1,5,J⟩) K.o.2 _) K.o.1 _⟩
   have bg:=De.r_ (λ_ _ _ _ be=>be) ba.o (u:=((ar.setCell ⟨A+1+1+1,0,J⟩ (I o bn h)).setCell ⟨A+1+1+1,5,J⟩ (I J 0 0)).setRow (A+1+1) #[I o bn h,G C,G D,G bl,E ι F,I J 0 0]) (λk bT _ _=>by
    have:=M.o;rw[oo _ _ _ _ (by omega),pz _ _ _ _ (by simp only;omega),pz _ _ _ _ (by simp only;omega)])
   have bi:=bg.base j.o.size;rw[show Q.length=bn from a5.o];exact bi
 iterate 2
  focus
   have B:=ax;have aw:=bb;have j:=b4;obtain⟨s,c1,c2,ak,h,al⟩:=pN (pH _ _) B.o;have b9:=H (y_ (El:=De.PEl) (sz:=1) (e:=(9:V)) (w:=a9) (oZ _));have i:=pM a9 (Z #[] (9:V));have au:=H i.size;have ab:=H (j.o.trans (i.mono j.o.size));have ac:=H (pW i B.o);have ad:=H (pW i aw.o);have M:=H (Λ B.o);have b6:=H (show 0+q<=1000000000 by have bf:=bA.o;have bR:=a4.o;(try simp only at bf);omega);have b7:=H (bJ.o.under ab.o);have b5:=H (show aT (I (N ⟨a9.heap.size,0,J⟩) 0 0)=N a9.heap.size from rfl);replace s:=pI s i;clear i c1 c2 ak h al
   go_wp2_with(refine rz (n:=0) _ rfl (.tmp 27) (.tmp 29) rfl tiS rfl rfl b9.o _ q P (P.map p_) rfl b7.o (by rw[oS];exact a4.o) a4.o (λu _=>Gx _ u) (Cv _) au.o b6.o (by decide) ?_)
   intro ch ar a1 ao z;rw[b5.o] at z;have L:=H ((z _ (Λ ac.o) (λe=>by have a6:=nV e;have:=M.o;omega)).trans ac.o);have b8:=H ((z _ (Λ ad.o) (λe=>by have a6:=nV e;have:=M.o;omega)).trans ad.o);have b3:=H (ab.o.trans (ao.mono j.o.size));obtain⟨o,h,am⟩:=Row.slice a1;rw[a4.o] at am;subst am;have ba:=H a1;have ae:=H ((pz _ ⟨A+1+1+1,5,J⟩ (A+1+1) (I J 0 0) (by simp)).trans ((pz ar ⟨A+1+1+1,0,J⟩ (A+1+1) (I o q h) (by simp)).trans b8.o));clear a1 ao z s;obtain⟨s,c1,c2,ak,al,bN⟩:=pN (pH _ _) L.o;have bO:=yY L.o 0;have bP:=yY L.o 5
   go_wp2_with(refine oN rfl 51 _ _ rfl _ _ rfl rfl 51 _ ae.o (by kernel_rfl) rfl (by simp[az]) ?_)
   go_wp2_with fail
   refine ow (nL rfl _ _ (A+1+1) _ _ _ _ rfl (og _ _ _ _ _ _ ae.o) aQ rfl (by kernel_rfl)) rfl ?_;refine⟨⟨o,h,by rw[show P.length=q from a4.o],?_⟩,pS ((b3.o.setCell (p:=⟨A+1+1+1,0,J⟩) K.o.2 _).setCell (p:=⟨A+1+1+1,5,J⟩) K.o.2 _) K.o.1 _⟩
   have bg:=De.r_ (λ_ _ _ _ be=>be) ba.o (u:=((ar.setCell ⟨A+1+1+1,0,J⟩ (I o q h)).setCell ⟨A+1+1+1,5,J⟩ (I J 0 0)).setRow (A+1+1) #[I o q h,G af,G at',G ag,E ι ai,I J 0 0]) (λk bT _ _=>by
    have:=M.o;rw[oo _ _ _ _ (by omega),pz _ _ _ _ (by simp only;omega),pz _ _ _ _ (by simp only;omega)])
   have bi:=bg.base j.o.size;rw[show P.length=q from a4.o];exact bi
end Ke
end Go.Proofs.YthbhmjdcfocphaaGreatDoor
