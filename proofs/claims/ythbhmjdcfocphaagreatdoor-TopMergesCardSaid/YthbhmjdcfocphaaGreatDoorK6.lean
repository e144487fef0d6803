/- A part of this proof. -/
import Derived.RangeFuncNested
import Derived.Test.YthbhmjdcfocphaaGreatDoorK4
set_option linter.all false
set_option maxHeartbeats 16000000
set_option maxRecDepth 100000
namespace Go.Proofs.YthbhmjdcfocphaaGreatDoor
open Go.Value renaming string→γ, slice→δ, pointer→ε, int→θ
open Go.Obj renaming cells→Y
open Go.Ending renaming returned→η
open Go.IntKind renaming i64→ι
open Go.Lib renaming hid→J
open Option renaming some→G, none→I
open Go.Region renaming ready→D, Mode→aC
open Go renaming World→O, Value→X, TypeId→aA, Program→aE, undef→aJ, execOp→aK, Operand→aL, wpIn_wide→aM
open Go.World renaming putObj_heap_other→χ, putObj_heap_same→ς, alloc_heap_new→aH
open Bool renaming true→U, false→az
open _root_ renaming Nat→H, List→V, ByteArray→ah, Array→aj, Option→aG, Int→Z
open Go.Proofs.Tryz renaming prog→Λ
open Go.Proofs renaming below_drewN→Ω
open Rg renaming gives→E
open Go.Fence renaming wide→av
open Mo renaming Fd→ay
namespace Rn
open RowKit Rg
section
variable {P:aE}{ops:aj Oper}
def noDf(ops:aj Oper):Bool:=ops.all λo=>match o.op with| .defer _=>az|_=>U
def noDf_at{i:H}{o:Oper}(a:noDf ops=U)(b:ops[i]?=G o):∀c,o.op≠ .defer c:=by unfold noDf at a;rw[jL] at a;have:=a o (gU b);intro c e;rw[e] at this;cases this
def WN{l n:H}{o:Oper}{a:Act}{w:O}{K:Act->O->Prop}{Q:Exit->Act->O->Prop}(g:∀c,o.op≠ .defer c)(b:o.wp P a w K Q):o.wpIn (Fence.wide.inRound l) n P a w K Q:=by
 refine⟨λf _=>trivial,?_⟩;rw[show o.semAt (Fence.wide.inRound l).round a.eval=aK a.eval o from Oper.semAt_some l a.eval o g];unfold Oper.wp at b;generalize(aK a.eval o).run P w=r at b
 cases r with
 |ok x w'=>
  cases x with
  |enter f args=>exact⟨λe=>(by cases e),CallsIn.inRound l (callsIn_wide.2 b)⟩
  |row row args=>exact⟨λe=>(by cases e),λc cs _=>let⟨v,w',r,s⟩:=b c cs;⟨v,w',r,stepsIn_wide.2 s⟩⟩
  |value v=>exact b
  |skip=>exact b
  |defer d=>exact b
  |_=>exact b.elim
 |halt x w'=>cases x<;>first|exact b|exact b.elim
def By{l n:H}{md:aC}{Q:Exit->Act->O->Prop}(g:noDf ops=U)(e:¬LetsOut Q):∀(c:H)(k:aj Bool)(a:Act)(w:O),wpAny P md ops Q c k a w->wpAnyIn (Fence.wide.inRound l) n P md ops Q c k a w
 |0,_,_,_,d=>d
 |c+1,k,a,w,d=>by
  refine⟨d.1,λi m=>?_⟩;have b:=d.2 i m;unfold wpOp at b;unfold wpOpIn
  cases h:ops[i]? with
  |none=>
   rw[h] at b
   exact By g e c _ _ _ b
  |some o=>
   rw[h] at b;simp only at b|-
   split
   ·rename_i j
    rw[oD j] at b;rcases b with b|b
    ·exact WN (noDf_at g h) (Oper.wp_mono (λa w d=>By g e c _ a w d) b)
    ·exact absurd b.2 e
   ·rename_i j
    rw[oU j] at b;exact⟨λf _=>trivial,By g e c _ _ _ b⟩
def KF{l n id:H}{Q:Exit->Act->O->Prop}{a:Act}{w:O}(e:P.follows .mixedOrders=U)(d:noDf ops=U)(c:¬LetsOut Q)(b:wpAny P .any ops Q ops.size (Array.replicate ops.size az) a w.drew):(Code.region id ops U).wpIn (Fence.wide.inRound l) n P Q a w:=
 wpIn_region_any e (By d c _ _ _ _ b)
end
section
variable {P:aE}
def Wd{g:aL}{ps:aj Tmp}{u x:Code}{Q:Exit->Act->O->Prop}{a:Act}{w:O}{gf:H}{lb:aj X}(af:a.eval g= .func (.func gf) #[] lb)(a4:∀args w,(callFunc gf args).run P w= .ok (.enter gf args) w)
 {N:H} {encs:H->aj X} (ao:∀k,(encs k).size=ps.size) (c:H->O->Prop) (a5:c 0 w)
 (B:∀k W b row,c k W->W.grownBy b row->(∀r,row=G r->w.heap.size<=r/\∃o:Obj,W.heap[r]?=G o/\o.isCells=az)->c k b)
 (M:H->Prop) (ai:∀q,M q->q<w.heap.size)
 (ap:∀(l:H)(f:H->O->Prop)(W:O),f 0 W->(∀k W,f k W->c k W)->(∀k W b,f k W->c k b->W.heap.size<=b.heap.size->(∀q o,w.heap.size<=q->W.heap[q]?=G o->o.isCells=az->b.heap[q]?=G o)->f k b)->
   (∀k W,k<N->f k W->YieldAt av 0 P l (encs k) W λe b=>e=η (.bool U)/\f (k+1) b/\∀q,M q->b.heap[q]?=W.heap[q]?)->
   CallsIn av 0 P gf (#[.func (.yield l) #[] #[]]++lb) W λe b=>(∃v,e=η v)/\f N b)
 (T:H->Act) (a9:∀(l k:H)(W:O)(K:Act->O->Prop),k<N->K (T k) W->u.wpIn (Fence.wide.inRound l) 0 P (Exit.then K λ_ _ _=>False) {tmps:=(ps.zip (encs k)).foldl (λt (p,v)=>t.setIfInBounds p v) a.tmps,defers:=[]} W)
 (aa:∀(l k:H)(W:O),k<N->c k W->x.wpIn (Fence.wide.inRound l) 0 P (λe _ b=>e= .normal/\c (k+1) b/\(∀q,M q->b.heap[q]?=W.heap[q]?)/\∀q o,w.heap.size<=q->W.heap[q]?=G o->o.isCells=az->b.heap[q]?=G o) (T k) W)
 (ae:∀(A:H)(W:O),c N W->w.heap.size<=A->W.heap[A]?=G (.deferred (G []))->Q .normal {a with defers:={target:= .collected A,args:=#[]}::a.defers} W):
 (Code.rangeFunc g ps u x).wp P Q a w:=by
 refine aM (n:=0)|>.1 ?_;refine wpIn_rangeFunc λa0 ax=>?_
 obtain⟨d,m⟩:∃d:LoopState->aG Code->Loop,d=λaq pe=>{state:=aq,pending:=pe,fn:=a0,tmps:=a.tmps,params:=ps,assign:=u,body:=x,defers:=w.heap.size}:=⟨_,rfl⟩
 obtain⟨h,z⟩:=pL ((w.alloc (.deferred (G []))).alloc (.loop (d .ready I)))
 have a8:h.heap[w.heap.size+1]?=G (.loop (d .ready I)):=by rw[<-z];have:=aH (w.alloc (.deferred (G []))) (.loop (d .ready I));rwa [World.size_alloc] at this
 have a7:h.heap[w.heap.size]?=G (.deferred (G [])):=by rw[<-z];exact(Below.heap_alloc _ _ _ (by simp)).trans (aH w _)
 have a6:c 0 h:=by rw[<-z];exact B _ _ _ I (B _ _ _ I a5 (iQ w _ I) λr e=>by cases e) (iQ _ _ I) λr e=>by cases e
 have L:∀k W(o R:Obj),c k W->W.heap[w.heap.size+1]?=G o->o.isCells=az->c k (W.putObj (w.heap.size+1) R):=λk W o R i an ab=>B k W _ (G (w.heap.size+1)) i (grownBy_putObj' W _ R) λr e=>by cases e;exact⟨nu _,o,an,ab⟩
 refine⟨w.heap.size+1,[{target:= .collected w.heap.size,args:=#[]}],h,{target:= .fn (.func gf) lb,args:=#[.func (.yield (w.heap.size+1)) #[] #[]]},h,gf,
  #[.func (.yield (w.heap.size+1)) #[] #[]]++lb,h,?_,?_,λ_ _=>trivial,?_,λe=>(by cases e),?_⟩
 ·rw[<-z,m];exact run_enterLoop_outer _ _ _ _ _
 ·simp only[resolve,af]
  simp[go_sem]
 ·simp[invoke,go_sem,a4]
 ·refine(ap (w.heap.size+1) (λk W=>c k W/\W.heap[w.heap.size+1]?=G (.loop (d .ready I))/\W.heap[w.heap.size]?=G (.deferred (G []))) h ⟨a6,a8,a7⟩ (λk W y=>y.1) (λk W b y i aB s=>⟨i,s _ _ (nu _) y.2.1 rfl,s _ _ (oZ _) y.2.2 rfl⟩) ?_).mono ?_
  ·rintro k W s ⟨i,j,C⟩
   have a3:=run_yield (P:=P) (args:=encs k) j (by rw[m];exact ao k);rw[m] at a3;refine⟨a0,_,u,x,a3,roundIn_of_wpIn trivial (a9 _ k W _ s ⟨_,run_beginRound j (by rw[m]),?_⟩)⟩;have am:w.heap.size+1<W.heap.size:=(Array.getElem?_eq_some_iff.1 j).1;have al:(W.putObj (w.heap.size+1) (.loop {d .ready I with state:= .busy})).heap[w.heap.size+1]?=G (.loop {d .ready I with state:= .busy}):=ς am;have ac:(W.putObj (w.heap.size+1) (.loop {d .ready I with state:= .busy})).heap[w.heap.size]?=G (.deferred (G [])):=(χ (by omega)).trans C;refine wpIn_mono (aa _ k _ s (L _ _ _ _ i j rfl)) ?_;rintro e aw au⟨rfl,ag,ak,a1⟩;have F:=a1 _ _ (nu _) al rfl;have ad:=a1 _ _ (oZ _) ac rfl;refine⟨_,_,run_endRound I F,rfl,⟨L _ _ _ _ ag F rfl,?_,(χ (by omega)).trans ad⟩,λq a2=>?_⟩
   rotate_left
   ·have:=ai q a2
    exact(χ (by omega)).trans ((ak q a2).trans (χ (by omega)))
   rw[ς (Array.getElem?_eq_some_iff.1 F).1,m];rfl
  ·rintro e ar ⟨⟨v,rfl⟩,i,j,C⟩
   refine⟨I,_,by have:=run_endLoop (P:=P) j (by rw[m];simp);rw[m] at this;exact this,ae _ _ (L _ _ _ _ i j rfl) (oZ _) ((χ (by omega)).trans C)⟩
end
end Rn
namespace Nd
open RowKit Rw Vf Mw Me Gr Rg Xm
attribute [local go_sem] Oper.semAt_some
def Cm(a:V (ah×V ay))(k:H):H:=((a.take k).flatMap (·.2)).length
def Vn(a:V (ah×V ay))(k:H):ah×V ay:=a[k]?.getD (⟨#[]⟩,[])
def MH(g b cap:H)(a:V (ah×V ay))(k:H):aj X:=#[γ (Vn a k).1,δ (G ⟨g,b+Cm a k*6,I⟩) (Vn a k).2.length (cap-Cm a k)]
def Rt{a dn r:V (ah×V ay)}{x:ah×V ay}(b:a=dn++x::r):Vn a dn.length=x:=by subst b;simp[Vn]
def Nc{a dn r:V (ah×V ay)}(b:a=dn++r):Cm a dn.length=(dn.flatMap (·.2)).length:=by subst b;simp[Cm]
def uL{w:O}{B:H}{v:X}{t:aA}(a:X)(b:w.heap[B]?=G (Y #[v] t (0,0))):(w.setCell ⟨B,0,I⟩ a).heap[B]?=G (Y #[a] t (0,0)):=oO w B 0 #[v] t a b
def it_is(d:H)(L:V ay)(a5:O)(g K cap:H)(aQ:aG Addr)(bZ:d<=64)(bP:L.length<=1000000)(bM:L.length<=cap)
 (aT:0<L.length->aQ=G ⟨g,K,I⟩)
 (a8:∀j(F:j<L.length),∃vp,Rw a5 vp 1 (L[j].path.map p_)/\a5.cell? ⟨g,K+j*6,I⟩=G vp)
 (bh:∀f∈L,d<f.path.length) (Bl c:H) (cd:Bl≠c) (bK:a5.heap.size<=Bl)
 (l:H) (p:H->O->Prop) (bc:∀k W,p k W->Below a5.heap.size a5 W)
 (be:∀k W v bX,p (k+1) W->W.heap[Bl]?=G (Y #[v] (22:H))->p (k+1) (W.setCell ⟨Bl,0,I⟩ bX))
 (bd:∀k W n,p k W->p k (W.drewN n))
 (W:O) (b9:p 0 W) (bg:W.heap[Bl]?=G (Y #[δ aQ L.length cap] (22:H))) (bL:W.heap[c]?=G (Y #[θ ι d] (3:H)))
 (aS:∀k W,k<(tW (nth d) L).length->p k W->YieldAt av 0 Λ l (MH g K cap (tW (nth d) L) k) W λe af=>e=η (.bool U)/\p (k+1) af/\af.heap[Bl]?=W.heap[Bl]?/\af.heap[c]?=W.heap[c]?):
 CallsIn av 0 Λ 306 #[.func (.yield l) #[] #[],ε (G ⟨Bl,0,I⟩),ε (G ⟨c,0,I⟩)] W λe af=>(∃v,e=η v)/\p (tW (nth d) L).length af:=by
 refine callsIn_wide.2 ?_;obtain⟨m,aX⟩:=pL L.length;rw[aX] at bP bM aT bg;obtain⟨aB,aV⟩:=pL (tW (nth d) L);rw[aV] at aS|-;have ad:=J aX;have bv:=J aT;have bw:=J a8;have bz:=J bh;have b6:=J bc;have aO:=J be;have au:=J bd;have b8:=J aS;have bA:=J aV;have bu:=J b9;clear aX aT a8 bh bc be bd aS aV bK b9
 go_enter Tryz.func306,Tryz.ntmps306
 go_wp2_with fail
 go_loopw [4,5] (λr x wr=>∃(i:H)(dn:V (ah×V ay))(a:aG Addr),i<=m/\(i<m->a=G ⟨g,K+i*6,I⟩)/\Hid (aB=dn++tW (nth d) (L.drop i))/\Hid ((dn.flatMap (·.2)).length=i)/\Hid (p dn.length wr)/\Hid (wr.heap[Bl]?=G (Y #[δ a (m-i) (cap-i)] (22:H)))/\Hid (wr.heap[c]?=G (Y #[θ ι d] (3:H)))) (λ_ _ wr=>match wr.heap[Bl]? with|G (Y #[δ _ n _] _ _)=>n|_=>0)
 case atStart=>exact⟨0,[],aQ,oM _,λaD=>by rw[bv.o aD];simp,J bA.o.symm,J rfl,bu,J (by simpa using bg),J bL⟩
 case round=>
  obtain⟨i,dn,a,cb,bf,br,bn,F,a2,bb⟩:=hrel;obtain⟨ap,rfl⟩:∃w,w=wr:=⟨_,rfl⟩;have b7:=J br.o;have ac:=J bn.o;have aa:=b6.o _ _ F.o;have aN:=J F.o;clear br bn F;obtain⟨b,b0⟩:=pL (m-i);obtain⟨z,a4⟩:=pL (cap-i);replace a2:=a2.o;rw[b0,a4] at a2;have cf:b<=z:=(by omega);have cg:b<=1000000:=(by omega);have h:=J b0;have ae:=J a4;clear b0 a4
  by_cases bo:i<m
  ·obtain rfl:=bf bo
   obtain⟨o,aF⟩:=pL (K+i*6);rw[aF] at a2;have aW:i<L.length:=(by rw[ad.o];exact bo)
   have a8:∀w,Below a5.heap.size a5 w->∀j(F:j<L.length),i<=j->∃ao an aI,w.cell? ⟨g,o+(j-i)*6,I⟩=G (.slice (G ⟨an,ao,I⟩) L[j].path.length aI)/\w.cell? ⟨an,ao+d,I⟩=G (γ (nth d L[j]))/\d<L[j].path.length:=λw aa j F cc=>by
    obtain⟨vp,bI,a6⟩:=bw.o j F;obtain⟨an,ao,cq,aI,rfl,bT,bU⟩:=qp bI;have ak:=bz.o _ (pq F);obtain rfl:=bT (by omega);refine⟨ao,an,aI,?_,?_,ak⟩
    ·rw[<-aF,show K+i*6+(j-i)*6=K+j*6 by omega];exact pI a6 aa
    ·rw[show nth d L[j]=L[j].path[d] by unfold nth;rw[om,oW ak];rfl]
     exact pI (bU d ak) aa
   have u:=pJ (j:=0) a2 rfl;have C:=pJ (j:=0) bb.o rfl;have aq:=J a2;have aP:=J aF;have bx:=J a8;obtain⟨ao,an,aI,a6,y1,ak⟩:=a8 ap aa i aW (oZ _);rw[jg,jh,kC] at a6;have bi:L.drop i=L[i]::L.drop (i+1):=mO aW;obtain⟨s,b1⟩:=pL (nth d L[i]);rw[b1] at y1;obtain⟨q,a9⟩:=pL ((Xm.ahead (nth d) s (L.drop (i+1))).1.length)
   have ce:i+1+q<=m:=by have a7:=Xm.M9 (nth d) s (L.drop (i+1));rw[a9,nN,ad.o] at a7;omega
   have a4:=Gv (nth d) L[i] (L.drop (i+1));rw[b1,a9,<-bi,lE] at a4;obtain⟨ax,aU⟩:=pL (L[i]::(L.drop (i+1)).take q);have bj:ax.length=q+1:=(by rw[<-aU,oJ,nQ,nN,ad.o];omega);rw[aU] at a4;have al:=b7.o;rw[a4] at al;have a1:=J al;have ab:=J bj
   have bB:=J (show∀j(F:j<L.length),i<j->j<=i+1+q->(nth d L[j]=s↔j<i+1+q) fromλj F a7 ba=>by
    have aR:=Xm.D3 (nth d) s (L.drop (i+1)) (j-(i+1)) (by rw[nN];omega) (by rw[a9];omega);rw[a9,lM] at aR;simp only[show i+1+(j-(i+1))=j by omega] at aR;rw[aR];omega)
   obtain⟨bW,bp⟩:=pL (L[i].path.length);rw[bp] at a6 ak;have ch:0<b:=(by have:=h.o;omega);have ci:(d:Z)<(bW:Z):=(by omega);have cj:(0:Z)<=(d:Z):=(by omega);have ck:(0:Z)<(b:Z):=(by omega);clear a2 a8 aF bi b1 a9 a4 aU bj al bp aW bf aa
   go_wp2_with fail
   go_quiet(fail)
   go_wp2_with fail
   have A:=J (au.o _ _ nq aN.o);have Q:=J (show(ap.drewN nq).heap[Bl]?=G (Y #[δ (G ⟨g,o,I⟩) b z] (22:H)) from aq.o);have R:=J (show(ap.drewN nq).heap[c]?=G (Y #[θ ι d] (3:H)) from bb.o);clear a6 y1 aN u C;generalize ap.drewN nq=cu at Q R A|-
   go_loopw [5] (λx b5=>∃n,1<=n/\n<=q+1/\x=θ ι n/\Hid (p dn.length b5)/\Hid (b5.heap[Bl]?=G (Y #[δ (G ⟨g,o,I⟩) b z] (22:H)))/\Hid (b5.heap[c]?=G (Y #[θ ι d] (3:H)))) (λx _=>q+1-(intOf x).toNat)
   case atStart=>exact⟨1,by omega,by omega,rfl,A,Q,R⟩
   case round=>
    clear Q R A;obtain⟨n,bQ,bR,rfl,bk,aY,aZ⟩:=hrel;have A:=J bk.o;have Q:=J aY.o;have R:=J aZ.o;have u:=pJ (j:=0) aY.o rfl;have C:=pJ (j:=0) aZ.o rfl;have bq:q+1<=b:=(by have:=h.o;omega);clear bk aY aZ
    by_cases bS:n<b
    ·have bl:i+n<L.length:=by have:=h.o;rw[ad.o];omega
     obtain⟨ct,cs,cr,a6,y1,ca⟩:=bx.o wr (b6.o _ _ A.o) (i+n) bl (by omega);rw[show i+n-i=n by omega] at a6;have bm:=bB.o (i+n) bl (by omega) (by omega);have bt:(n:Z)<(b:Z):=(by omega);have co:(0:Z)<=(n:Z):=(by omega);have cp:(d:Z)<(L[i+n].path.length:Z):=by omega
     by_cases a9:n<q+1
     ·rw[bm.2 (by omega)] at y1
      have bH:(s.toList==s.toList)=U:=by simp
      go_wp2_with fail
      go_quiet(fail)
      go_wp2_with fail
      have M:=J (au.o _ _ nq A.o);have T:=J (show(wr.drewN nq).heap[Bl]?=G (Y #[δ (G ⟨g,o,I⟩) b z] (22:H)) from Q.o);have a0:=J (show(wr.drewN nq).heap[c]?=G (Y #[θ ι d] (3:H)) from R.o)
      go_roundw
      case rel=>exact⟨n+1,by omega,by omega,by go_num,M,T,a0⟩
      case measure=>simp[intOf];omega
     ·have bH:((nth d L[i+n]).toList==s.toList)=az:=by
       rw[oq];intro e;have:=bm.1 (by rw[ByteArray.toList_eq,ByteArray.toList_eq] at e;exact Bs.vo e);omega
      go_wp2_with fail
      go_quiet(fail)
      go_upto_region 5 with fail
      have M:=J (au.o _ _ nq A.o);have T:=J (show(wr.drewN nq).heap[Bl]?=G (Y #[δ (G ⟨g,o,I⟩) b z] (22:H)) from Q.o);have a0:=J (show(wr.drewN nq).heap[c]?=G (Y #[θ ι d] (3:H)) from R.o);clear u C A Q R;generalize wr.drewN nq=b4 at T a0 M|-;obtain rfl:n=q+1:=by omega
      have u:=pJ (j:=0) T.o rfl;have C:=pJ (j:=0) a0.o rfl;have am:=b8.o dn.length b4 (by rw[a1.o];simp) M.o
      have b3:MH g K cap aB dn.length=#[γ s,δ (G ⟨g,o,I⟩) (q+1) z]:=by unfold MH;rw[Rt a1.o,Nc a1.o,ac.o,aP.o,ae.o,ab.o]
      rw[b3] at am;obtain⟨bG,tmps,bE,bF,b2,ai⟩:=am;refine aM (n:=0)|>.1 ?_
      gi_wp2
      refine⟨rfl,ai.mono ?_⟩;rintro e bD⟨rfl,ag,y,a3⟩;rw[T.o] at y;rw[a0.o] at a3;have ar:=J ag;have B:=J y;have aw:=J a3;clear u C ag ai b2 M;have u:=pJ (j:=0) y rfl;have C:=pJ (j:=0) a3 rfl;have bN:=yY y 0;have cl:q+1<=b:=bq;have cm:(q:Z)+1<=(b:Z):=(by omega);have cn:(0:Z)<=(q:Z)+1:=(by omega);clear y a3
      gi_wp2
      go_wp2_with fail
      show _/\_
      refine⟨?_,?measure⟩
      (repeat apply Exists.intro)
      refine⟨?rel,rfl⟩
      case rel=>exact⟨i+(q+1),dn++[(s,ax)],G ⟨g,o+(q+1)*6,I⟩,by have:=h.o;omega,λaD=>(by rw[show K+(i+(q+1))*6=o+(q+1)*6 by have a7:=aP.o;omega]),J (by rw[a1.o,show i+1+q=i+(q+1) by omega,m_];rfl),J (by rw[lS,o_,ac.o];simp[ab.o]),J (by rw[o_];exact aO.o dn.length _ _ _ ar.o B.o),J (by rw[show m-(i+(q+1))=b-(q+1) by have:=h.o;omega,show cap-(i+(q+1))=z-(q+1) by have:=ae.o;omega];exact uL _ B.o),J ((pz _ _ _ _ (by show c≠Bl;omega)).trans aw.o)⟩
      case measure=>
       rw[aq.o,uL _ B.o]
       show b-(q+1)<b
       omega
    ·have bt:decide ((n:Z)<(b:Z))=az:=o9 (by omega)
     go_wp2_with fail
     go_quiet(fail)
     go_upto_region 5 with fail
     have M:=J (au.o _ _ nq A.o);have T:=J (show(wr.drewN nq).heap[Bl]?=G (Y #[δ (G ⟨g,o,I⟩) b z] (22:H)) from Q.o);have a0:=J (show(wr.drewN nq).heap[c]?=G (Y #[θ ι d] (3:H)) from R.o);clear u C A Q R;generalize wr.drewN nq=b4 at T a0 M|-;obtain rfl:b=n:=by omega
     have N:=J (show b=q+1 by omega);have u:=pJ (j:=0) T.o rfl;have C:=pJ (j:=0) a0.o rfl;have am:=b8.o dn.length b4 (by rw[a1.o];simp) M.o
     have b3:MH g K cap aB dn.length=#[γ s,δ (G ⟨g,o,I⟩) b z]:=by unfold MH;rw[Rt a1.o,Nc a1.o,ac.o,aP.o,ae.o,ab.o,N.o]
     rw[b3] at am;obtain⟨bG,tmps,bE,bF,b2,ai⟩:=am;refine aM (n:=0)|>.1 ?_
     gi_wp2
     refine⟨rfl,ai.mono ?_⟩;rintro e bD⟨rfl,ag,y,a3⟩;rw[T.o] at y;rw[a0.o] at a3;have ar:=J ag;have B:=J y;have aw:=J a3;clear u C ag ai b2 M;have u:=pJ (j:=0) y rfl;have C:=pJ (j:=0) a3 rfl;have bN:=yY y 0;clear bq bQ bR;clear y a3;clear bS bt
     by_cases bs:z=b
     ·have al:=bs.symm
      clear bs;subst al
      gi_wp2
      go_wp2_with fail
      show _/\_
      refine⟨?_,?_⟩
      ·(repeat apply Exists.intro)
       refine⟨?_,rfl⟩;exact⟨i+(q+1),dn++[(s,ax)],G ⟨g,o,I⟩,by have:=h.o;have:=N.o;omega,λaD=>(by have ba:=h.o;have bJ:=N.o;omega),J (by rw[a1.o,show i+1+q=i+(q+1) by omega,m_];rfl),J (by rw[lS,o_,ac.o];simp[ab.o]),J (by rw[o_];exact aO.o dn.length _ _ _ ar.o B.o),J (by rw[show m-(i+(q+1))=0 by have:=h.o;have:=N.o;omega,show cap-(i+(q+1))=0 by have bY:=ae.o;have:=N.o;omega];exact uL _ B.o),J ((pz _ _ _ _ (by show c≠Bl;omega)).trans aw.o)⟩
      ·rw[aq.o,uL _ B.o]
       show 0<b
       omega
     ·gi_wp2
      go_wp2_with fail
      show _/\_
      refine⟨?_,?_⟩
      ·(repeat apply Exists.intro)
       refine⟨?_,rfl⟩;exact⟨i+(q+1),dn++[(s,ax)],G ⟨g,o+b*6,I⟩,by have:=h.o;have:=N.o;omega,λaD=>(by have ba:=h.o;have bJ:=N.o;omega),J (by rw[a1.o,show i+1+q=i+(q+1) by omega,m_];rfl),J (by rw[lS,o_,ac.o];simp[ab.o]),J (by rw[o_];exact aO.o dn.length _ _ _ ar.o B.o),J (by rw[show m-(i+(q+1))=0 by have:=h.o;have:=N.o;omega,show cap-(i+(q+1))=z-b by have:=ae.o;have:=N.o;omega];exact uL _ B.o),J ((pz _ _ _ _ (by show c≠Bl;omega)).trans aw.o)⟩
      ·rw[aq.o,uL _ B.o]
       show 0<b
       omega
  ·have bO:i=m:=by omega
   have bV:b=0:=(by have:=h.o;omega);subst bV;have u:=pJ (j:=0) a2 rfl
   have bC:=J (show p aB.length ap from by have a7:=b7.o;rw[show L.drop i=[] from gV (by rw[ad.o];omega),Jx,nC] at a7;rw[a7];exact aN.o)
   clear a2 aa bO
   go_wp2_with fail
   go_end0
   exact⟨⟨_,rfl⟩,bC.o⟩
end Nd
namespace Nd
open RowKit Rw Vf Mw Me Gr Rg Xm
def Big(u a:O):Prop:=∀(k:H)(cs:aj X)(t:aA)(fr:H×H),u.heap[k]?=G (Y cs t fr)->2<=cs.size->a.heap[k]?=u.heap[k]?
def wY{u:O}{g o:H}{c:X}(a:u.cell? ⟨g,o+1,I⟩=G c):∃cs t fr,u.heap[g]?=G (Y cs t fr)/\2<=cs.size:=by
 unfold World.cell? at a
 cases e:u.heap[g]? with
 |none=>simp[e] at a
 |some b=>
  cases b with
  |cells cs t fr=>
   refine⟨cs,t,fr,rfl,?_⟩;simp only[e] at a;have:=(Array.getElem?_eq_some_iff.1 a).1
   omega
  |_=>simp[e] at a
def WO{u c:O}{v:X}{sz:H}{L:V (V X)}(s:Big u c)(h:2<=sz)(e:Rw u v sz L):Rw c v sz L:=by obtain⟨g,y,d,cap,f,i,a⟩:=e;refine⟨g,y,d,cap,f,i,λj b k x=>?_⟩;obtain⟨z,m,n⟩:=a j b k x;obtain⟨y1,-,o⟩:=a j b 1 h;obtain⟨cs,t,fr,p,q⟩:=wY o;exact⟨z,m,(mI (s g cs t fr p q)).trans n⟩
mutual
def tQ.big{u d:O}(b:Big u d):∀(t:T)(c:V X),tQ u t c->tQ d t c
 | .el n a ks,c,h=>by
   unfold tQ at h|-;obtain⟨va,j,L,e,f,g,i⟩:=h;exact⟨va,j,L,e,WO b (by decide) f,WO b (by decide) g,NL.big b ks L i⟩
def NL.big{u b:O}(a:Big u b):∀(l:V T)(L:V (V X)),NL u l L->NL b l L
 |[],L,h=>by unfold NL at h|-;exact h
 |k::r,L,h=>by
  unfold NL at h|-;obtain⟨c,M,d,e,f⟩:=h;exact⟨c,M,d,tQ.big a k c e,NL.big a r M f⟩
end
def Small(o:Obj):Prop:=∀(cs:aj X)(t:aA)(fr:H×H),o=Y cs t fr->cs.size<2
def Gj{o:Obj}(a:o.isCells=az):Small o:=λcs t fr e=>by subst e;cases a
def Cn{S q:H}{w w':O}{v:X}{l:V T}{o:Obj}(y:tA S w v l)(s:w.heap[q]?=G o)(K:Small o)(p:v.ownBlock≠G q)(Q:w.heap.size<=w'.heap.size)(g:∀k,k≠q->k<w.heap.size->w'.heap[k]?=w.heap[k]?):tA S w' v l:=by
 obtain⟨L,z,f,i⟩:=y;refine⟨L,z,qj f λk e=>g k (λd=>p (d▸e)) (qq f e).2,λu h=>?_⟩;have N:=Rw.lt_of_heap s
 by_cases M:q<S
 ·exact i u λk a b c=>(h k a (by omega) c).trans (g k (by omega) b)
 ·have x:q<u.heap.size:=by
   have m:=h q (by omega) (by omega) λe=>p e.symm
   have A:w'.heap[q]?=G (w'.heap[q]'(by omega)):=ig _;rw[A] at m;exact(Array.getElem?_eq_some_iff.1 m).1
  have n:=i (u.putObj q o) λk a b c=>by
   by_cases e:k=q
   ·subst e
    rw[ς x,s]
   ·rw[χ e]
    exact(h k a (by omega) c).trans (g k e b)
  have B:Big (u.putObj q o) u:=λk cs t fr e f=>by
   by_cases d:k=q
   ·subst d
    rw[ς x] at e;have:=K cs t fr (nV e);omega
   ·exact(χ d).symm
  exact⟨n.1,λj F C=>tQ.big B _ _ (n.2 j F C)⟩
def Gi{α:Type}{El:O->α->V X->Prop}{sz S:H}{t:aA}{w:O}{v:X}{l:V α}{q:H}{o:Obj}(d:Row El sz t S w v l)(b:w.heap[q]?=G o)(i:∀cs fr,o≠Y cs t fr):v.ownBlock≠G q:=λe=>by
 obtain⟨L,-,f,-⟩:=d;rcases f.2 with⟨a,_⟩|⟨g,c,j,a,_,h,_⟩
 ·rw[a] at e;cases e
 ·rw[a] at e
  obtain rfl:g=q:=by simpa [Value.ownBlock] using e
  rw[h] at b;exact i _ _ (nV b).symm
structure RI(W:O)(d B:H)(l:V T)(u:O):Prop where
 hB:W.heap.size+2<=B
 ot:∃r,u.heap[W.heap.size+1]?=G (Y #[r] (98:H))/\tA (W.heap.size+2) u r l
 dp:u.heap[W.heap.size]?=G (Y #[θ ι d] (3:H))
 bl:∃v,u.heap[B]?=G (Y #[v] (22:H))
 bd:u.heap[B+1]?=G (Y #[θ ι d] (3:H))
 bw:Below W.heap.size W u
def OY{u:O}{q k:H}{o c:Obj}(f:u.heap[q]?=G o)(b:o.isCells=az)(a:u.heap[k]?=G c)(d:c.isCells=U):k≠q:=λe=>by
 subst e;rw[f] at a;rw[nV a,d] at b;cases b
def RI.grown{W u i:O}{d B:H}{l:V T}{row:aG H}(b:RI W d B l u)(a:u.grownBy i row)(h:∀q,row=G q->W.heap.size<=q/\∃o:Obj,u.heap[q]?=G o/\o.isCells=az):RI W d B l i:=by
 have key:∀(k:H)(o:Obj),u.heap[k]?=G o->o.isCells=U->i.heap[k]?=G o:=λk o c p=>(a.block k (Rw.lt_of_heap c) λe=>by
  obtain⟨-,x,g,f⟩:=h k e.symm;exact OY g f c p rfl).trans c
 obtain⟨r,g,f⟩:=b.ot;obtain⟨v,n⟩:=b.bl;refine⟨b.hB,⟨r,key _ _ g rfl,?_⟩,key _ _ b.dp rfl,⟨v,key _ _ n rfl⟩,key _ _ b.bd rfl,a.os.trans b.bw.os,a.tape.trans b.bw.tape,a.output.trans b.bw.output,pF b.bw.size a.size,λk c=>(a.block k (oQ c b.bw.size) λe=>by have:=(h k e.symm).1;omega).trans (b.bw.block k c)⟩
 cases row with
 |none=>exact Row.below f ⟨a.os,a.tape,a.output,a.size,λk c=>a.block k c (by simp)⟩
 |some q=>obtain⟨-,o,j,m⟩:=h q rfl;exact Cn f j (Gj m) (Gi f j λcs fr e=>by subst e;cases m) a.size λk s c=>a.block k c (by simpa using s)
def RI.setBl{W u:O}{d B:H}{l:V T}(a:RI W d B l u)(x:X):RI W d B l (u.setCell ⟨B,0,I⟩ x):=by obtain⟨r,f,c⟩:=a.ot;obtain⟨v,b⟩:=a.bl;have g:=a.hB;refine⟨g,⟨r,(pz _ _ _ _ (by show W.heap.size+1≠B;omega)).trans f,?_⟩,(pz _ _ _ _ (by show W.heap.size≠B;omega)).trans a.dp,⟨x,uL _ b⟩,(pz _ _ _ _ (by show B+1≠B;omega)).trans a.bd,a.bw.setCell (p:=⟨B,0,I⟩) (by show W.heap.size<=B;omega) _⟩;exact Cn c b (λcs t fr e=>by cases e;simp) (Gi c b λcs fr e=>by injection e with e1 e2;cases e2) (lG (mA ..).symm) λk h i=>pz _ _ _ _ h
def RI.drawn{W u:O}{d B:H}{l:V T}(a:RI W d B l u)(n:H):RI W d B l (u.drewN n):=
 a.grown (row:=I) ⟨(Ω u n).os,(Ω u n).tape,(Ω u n).output,(Ω u n).size,λ_ _ _=>rfl⟩ λq e=>by cases e
def ME{P:aE}{f:FuncId}{a:Func}{c:Code}{args:aj X}{w:O}{R:Ending->O->Prop}(e:P.funcs[f]?=G a)(d:a.body=G c)
 (b:c.wp P (bodyPostM av 0 P a R) {tmps:=args++Array.replicate (a.ntmps-args.size) aJ,defers:=[]} w):Calls P f args w R:=
 callsIn_wide.1 (callsIn_of_wp_marks (n:=0) e d trivial (wpIn_wide.2 b))
section
variable {α:Type}{El:O->α->V X->Prop}{sz S:H}{t:aA}{w w':O}{v:X}{l:V α}{r:aG H}
def JA{u:O}{row:aG H}(d:w.grownBy w' r)(g:∀k,r=G k->k<S)(f:Agree S w' u row):Agree S w u row:=λk a b c=>(f k a (oQ b d.size) c).trans (d.block k b λe=>by have:=g k e.symm;omega)
def row_grn(f:Row El sz t S w v l)(b:w.grownBy w' r)(c:∀k,r=G k->k<S):Row El sz t S w' v l:=by obtain⟨L,g,a,h⟩:=f;exact⟨L,g,qj a λq e=>b.block q (qq a e).2 λd=>by have j:=c q d.symm;have m:=(qq a e).1;omega,λu i=>h u (JA b c i)⟩
end
def nv_grn{S:H}{w w':O}{r:aG H}{t:T}{c:V X}(a:NV S w t c)(b:w.grownBy w' r)(d:∀k,r=G k->k<S):NV S w' t c:=λu e=>a u (JA b d e)
def ar_sub{W:O}{g d m cap:H}{l:V ay}(q:rY W (δ (G ⟨g,d,I⟩) m cap) l)(i c n:H)(Q:i+c<=l.length)(R:0<l.length):rY W (δ (G ⟨g,d+i*6,I⟩) c n) ((l.drop i).take c):=by
 obtain⟨L,N,⟨p,C,K,M,e,s,u⟩,x⟩:=q;have y:=s (by omega);subst y;obtain⟨rfl,rfl⟩:g=p/\d=C:=by injection e with e;injection e with e;injection e with a b;exact⟨a,b⟩
 have f:((L.drop i).take c).length=c:=by rw[nQ,nN];omega
 refine⟨(L.drop i).take c,by rw[f,nQ,nN];omega,⟨g,d+i*6,_,n,by rw[f],λ_=>rfl,λj o k B=>?_⟩,λj o A=>?_⟩
 ·rw[f] at o
  obtain⟨F,h,z⟩:=u (i+j) (by omega) k B;refine⟨F,?_,?_⟩
  ·rw[jv,lM];exact h
  ·rw[show d+i*6+j*6+k=d+(i+j)*6+k by omega];exact z
 ·rw[f] at A
  have h:=x (i+j) (by omega) (by omega);rw[jv,lM,jv,lM];exact h
def rw_str2{w:O}{b:H}{x c:ah}{t:aA}{fr:H×H}(a:w.heap[b]?=G (Y #[γ x,γ c] t fr)):Rw w (δ (G ⟨b,0,I⟩) 2 2) 1 ((tB [(x,c)]).map p_):=by
 refine⟨b,0,_,2,rfl,λ_=>rfl,λj d k e=>?_⟩;obtain rfl:k=0:=by omega
 match j,d with
 |0,_=>exact⟨_,rfl,pJ (j:=0) a rfl⟩
 |1,_=>exact⟨_,rfl,pJ (j:=1) a rfl⟩
def run_at{d:H}{L:V ay}{q:H}(h:q<(tW (nth d) L).length):∃s b,(tW (nth d) L)[q]=(s,b)/\Vn (tW (nth d) L) q=(s,b)/\b=(L.drop (Cm (tW (nth d) L) q)).take b.length/\Cm (tW (nth d) L) q+b.length<=L.length/\0<b.length/\∀f∈b,nth d f=s/\f∈L:=by
 obtain⟨a,c⟩:=pL (tW (nth d) L);have m:a.flatMap (·.2)=L:=by rw[<-c];exact zh _ _ _ (oZ _)
 have n:∀g∈a,g.2≠[]/\(∀x∈g.2,nth d x=g.1)/\∀x∈g.2,x∈L:=by rw[<-c];exact xH _ _ _
 rw[c] at h;simp only[c];have e:=n _ (pq h);have k:a=a.take q++a[q]::a.drop (q+1):=by rw[List.getElem_cons_drop,l_]
 have i:L=(a.take q).flatMap (·.2)++(a[q].2++(a.drop (q+1)).flatMap (·.2)):=by
  rw[<-m]
  conv=>lhs;rw[k]
  rw[lS,mE]
 refine⟨a[q].1,a[q].2,rfl,by simp[Vn,oW h],?_,?_,List.length_pos_iff.2 e.1,λf j=>⟨e.2.1 f j,e.2.2 f j⟩⟩
 ·conv=>rhs;rw[i]
  unfold Cm;rw[iW,iB]
 ·have:=nT List.length i
  rw[o_,o_] at this;unfold Cm;omega
def Jl(w:O){o:Oper}{a:Act}{F:X->O->Prop}(ty:aA)(x f:aL)(p:o.op= .store ty x f)(g j:H)(v c:X)(y:a.eval x=ε (G ⟨g,j,I⟩))(z:a.eval f=v)(d:v.oneCell'=U)
 (m:w.cell? ⟨g,j,I⟩=G c) (n:w.frozen? ⟨g,j,I⟩=az) (e:(Tryz.prog.info? ty).map (·.size)=G 1) (h:F aJ (w.setCell ⟨g,j,I⟩ v)):E Λ o a w F:=by
 have u:v.cells=#[v]:=by cases v<;>first|rfl|cases d
 have s:(storeVar ty ⟨g,j,I⟩ v).run Λ w= .ok () (w.setCell ⟨g,j,I⟩ v):=by
  cases b:Tryz.prog.info? ty with
  |none=>simp[b] at e
  |some i=>have q:i.size=1:=(by simpa [b] using e);have k:(⟨g,j,I⟩:Addr).add 0=⟨g,j,I⟩:=(by simp[Addr.add]);simp[storeVar,sizeOf,typeInfo,b,u,q,storeCells,k,run_store Λ w _ v _ d,m,n]
 unfold E Oper.wp aK;simp only[p,y,z,Instr.storeAt,Instr.sureAddr,kW,kX,l6,s];exact⟨aJ,rfl,h⟩
def TT(w:O){o:Oper}{a:Act}{F:X->O->Prop}(ty:aA)(x c:aL)(g:o.op= .store ty x c)(b k:H)(cells:aj X)(i:a.eval x=ε (G ⟨b,k,I⟩))(j:a.eval c= .agg cells)(h:w.there b k cells.size)
 (f:(Tryz.prog.info? ty).map (·.size)=G cells.size) (e:cells.all (·.oneCell')=U) (d:F aJ (w.setCells b k cells.toList)):E Λ o a w F:=by
 unfold E Oper.wp aK;simp only[g,i,j,Instr.storeAt,Instr.sureAddr,kW,kX,l6,run_storeVar_mid w b k ty cells h f e];exact⟨aJ,rfl,d⟩
def Pt{P:aE}{o:Oper}{a:Act}{w:O}{F c:X->O->Prop}(b:E P o a w F)(k:∀v w',F v w'->c v w'):E P o a w c:=
 Oper.wp_mono (λa' w' ⟨v,e,b⟩=>⟨v,e,k v w' b⟩) b
def Pu{P:aE}{md:aC}{Q:Exit->Act->O->Prop}{a:Act}{w:O}{L:aj Bool}{l:V Oper}(n:H){A B C:Oper}{t:Tmp}(e:l.drop n=[A,B,C])(m:A.guard=I)(o:B.guard=I)(p:C.guard=I)(i:A.dst=G t)(j:B.dst=I)(k:C.dst=I)(N:t<a.tmps.size)
 (q:D md l.toArray L=[n,n+2]) (s:D md l.toArray (L.setIfInBounds n U)=[n+1,n+2]) (u:D md l.toArray (L.setIfInBounds (n+2) U)=[n]) (x:D md l.toArray ((L.setIfInBounds n U).setIfInBounds (n+1) U)=[n+2]) (y:D md l.toArray ((L.setIfInBounds n U).setIfInBounds (n+2) U)=[n+1]) (z:D md l.toArray ((L.setIfInBounds (n+2) U).setIfInBounds n U)=[n+1])
 (F:D md l.toArray (((L.setIfInBounds n U).setIfInBounds (n+1) U).setIfInBounds (n+2) U)=[]) (K:D md l.toArray (((L.setIfInBounds n U).setIfInBounds (n+2) U).setIfInBounds (n+1) U)=[]) (M:D md l.toArray (((L.setIfInBounds (n+2) U).setIfInBounds n U).setIfInBounds (n+1) U)=[])
 (R:E P A a w λv d=>E P B (a.put (G t) v) d (λ_ b=>E P C (a.put (G t) v) b λ_ c=>Q .normal (a.put (G t) v) c)/\E P C (a.put (G t) v) d λ_ b=>E P B (a.put (G t) v) b λ_ c=>Q .normal (a.put (G t) v) c)
 (T:E P C a w λ_ d=>E P A a d λv b=>E P B (a.put (G t) v) b λ_ c=>Q .normal (a.put (G t) v) c):wpAny P md l.toArray Q 3 L a w:=by
 have f:=nT (·[0]?) e;have g:=nT (·[1]?) e;have h:=nT (·[2]?) e;simp only[kU,kC,mS,l7] at f g h;exact TV (by simpa using f) (by simpa using g) (by simpa using h) m o p i j k N q s u x y z F K M R T
def vX{P:aE}{o:Oper}{a:Act}{w:O}{F:X->O->Prop}(x:X)(b:O)(c:E P o a w λv w'=>v=x/\w'=b)(k:F x b):E P o a w F:=
 Pt c λv w' e=>by rw[e.1,e.2];exact k
def TW(w:O){o:Oper}{a:Act}(x c:aL)(d:o.op= .indexAddr 98 x c)(b k cap:H)(e:a.eval x=δ (G ⟨b,0,I⟩) (k+1) cap)(f:a.eval c=θ ι k):E Λ o a w λv w'=>v=ε (G ⟨b,k*7,I⟩)/\w'=w:=by
 have g:(0:Z)<=(k:Z):=by omega
 have h:(k:Z)<((k+1:H):Z):=by omega
 unfold E Oper.wp aK;simp only[d,e,f];go_simp;rw[oD (by omega)];exact⟨_,rfl,rfl,rfl⟩
def MJ{S:H}{w:O}{v:X}{l:V T}{ac t:T}{c:V X}(W:tA S w v (l++[ac]))(i:∀u,Agree S w u v.ownBlock->tQ u t c):
 ∃b cap,v=δ (G ⟨b,0,I⟩) (l.length+1) cap/\v.ownBlock=G b/\S<=b/\b<w.heap.size/\w.there b (l.length*7) 7/\tA S (w.setCells b (l.length*7) c) v (l++[t])/\w.grownBy (w.setCells b (l.length*7) c) (G b):=by
 obtain⟨L,f,g,n⟩:=W;have a4:=n w λ_ _ _ _=>rfl
 have a7:L.length=l.length+1:=by have:=a4.1;simpa using this
 have s:=(i w λ_ _ _ _=>rfl).len;have a1:=(i w λ_ _ _ _=>rfl).one;rcases g.2 with⟨-,a0⟩|⟨b,cap,m,rfl,a5,h,C,ae,af,a9⟩
 ·simp at a0
 simp only[o_,lR] at C a9 g|-
 obtain⟨d,x0,rfl⟩:∃d x0,L=d++[x0]:=⟨L.take l.length,L[l.length]'(by omega),by
  have:=Mg.qi (l:=L) (k:=l.length) (by omega);rw[oP (by omega)] at this;exact this⟩
 have B:d.length=l.length:=by simpa using a7
 have ab:=f.1 x0 (by simp);have y:d.flatten.length=l.length*7:=by rw[vl λq a=>f.1 q (kL _ a),B]
 have ai:(l.length+1)*7<=cap*7:=lZ _ C;obtain⟨K,M,N,Q,R⟩:=qZ b c (l.length*7) w;have z:w.grownBy (w.setCells b (l.length*7) c) (G b):=⟨K,M,N,by rw[Q];exact oZ _,λk ag a8=>R k λe=>a8 (by rw[e])⟩;have F:=DD c (l.length*7) w _ g;rw[ni,je,<-y,yz c _ _ (by rw[ab,s]),y] at F;refine⟨b,cap,rfl,rfl,a5,Rw.lt_of_heap h,λj A=>⟨?_,Lib.frozen_of_heap h _⟩,⟨d++[c],?_,?_,λu aa=>?_⟩,z⟩
 ·have:l.length*7+j<m.size:=by omega
  rw[pJ (j:=l.length*7+j) (x:=m[l.length*7+j]) h (by simp[this])];rfl
 ·refine⟨λq a=>?_,λq a=>?_⟩
  ·rcases List.mem_append.1 a with a|a
   ·exact f.1 q (kL _ a)
   ·rw[mW] at a;rw[a];exact s
  ·rw[ni,je] at a
   rcases List.mem_append.1 a with a|a
   ·exact f.2 q (by rw[ni];exact kL _ a)
   ·exact a1 q a
 ·rw[ni,je,o_]
  exact F
 ·have p:Agree S w u (Value.slice (G ⟨b,0,I⟩) (l.length+1) cap).ownBlock:=vY z aa
  have a2:=n u (by simpa using p);have a3:=i u p;refine⟨by simp[B],λj A ad=>?_⟩
  by_cases a6:j<l.length
  ·have o:=a2.2 j (by simp;omega) (by simp;omega)
   rw[n_ a6,n_ (by omega)] at o|-;exact o
  ·obtain rfl:j=l.length:=by simp at A;omega
   rw[nJ (oZ _),nJ (by omega)];simpa using a3
def eval_put{a:Act}{t r:Tmp}(b:X)(c:t≠r):(a.put (G t) b).eval (.tmp r)=a.eval (.tmp r):=WQ a (G t) b r λe=>c (nV e)
def TX{a:Act}{t:Tmp}(b:X)(c:t<a.tmps.size):(a.put (G t) b).eval (.tmp t)=b:=by
 show(a.tmps.setIfInBounds t b).getD t aJ=b
 simp[c]
def IG{md:aC}{Q:Exit->Act->O->Prop}{a:Act}{w:O}{L:aj Bool}{l:V Oper}(n:H){A B C:Oper}{t r j v x:Tmp}{b k cap g:H}{cells:aj X}{vr c:X}{p:aA}(ai:l.drop n=[A,B,C])(a3:A.guard=I)(a4:B.guard=I)(a5:C.guard=I)(N:A.dst=G t)(R:B.dst=I)(T:C.dst=I)
 (am:A.op= .indexAddr 98 (.tmp r) (.tmp j)) (an:B.op= .store 100 (.tmp t) (.tmp v)) (ao:C.op= .store 98 (.tmp x) (.tmp r)) (tr:t≠r) (ar:t≠v) (M:t≠x) (y:t<a.tmps.size)
 (a6:D md l.toArray L=[n,n+2]) (a7:D md l.toArray (L.setIfInBounds n U)=[n+1,n+2]) (a8:D md l.toArray (L.setIfInBounds (n+2) U)=[n]) (a9:D md l.toArray ((L.setIfInBounds n U).setIfInBounds (n+1) U)=[n+2]) (aa:D md l.toArray ((L.setIfInBounds n U).setIfInBounds (n+2) U)=[n+1]) (ab:D md l.toArray ((L.setIfInBounds (n+2) U).setIfInBounds n U)=[n+1])
 (ac:D md l.toArray (((L.setIfInBounds n U).setIfInBounds (n+1) U).setIfInBounds (n+2) U)=[]) (ad:D md l.toArray (((L.setIfInBounds n U).setIfInBounds (n+2) U).setIfInBounds (n+1) U)=[]) (ae:D md l.toArray (((L.setIfInBounds (n+2) U).setIfInBounds n U).setIfInBounds (n+1) U)=[])
 (e:a.eval (.tmp r)=vr) (q:vr=δ (G ⟨b,0,I⟩) (k+1) cap) (a1:a.eval (.tmp j)=θ ι k) (a2:a.eval (.tmp v)= .agg cells) (h:a.eval (.tmp x)=ε (G ⟨g,0,I⟩)) (u:cells.size=7) (ak:cells.all (·.oneCell')=U)
 (aq:w.there b (k*7) 7) (K:(w.setCell ⟨g,0,I⟩ vr).there b (k*7) 7) (o:w.heap[g]?=G (Y #[c] p (0,0))) (ag:g≠b)
 (ap:Q .normal (a.put (G t) (ε (G ⟨b,k*7,I⟩))) ((w.setCells b (k*7) cells.toList).setCell ⟨g,0,I⟩ vr)) (z:Q .normal (a.put (G t) (ε (G ⟨b,k*7,I⟩))) ((w.setCell ⟨g,0,I⟩ vr).setCells b (k*7) cells.toList)):wpAny Λ md l.toArray Q 3 L a w:=by
 have al:vr.oneCell'=U:=by rw[q];rfl
 have s:∀w',E Λ A a w' λv d=>v=ε (G ⟨b,k*7,I⟩)/\d=w':=λw'=>TW w' _ _ am b k cap (e.trans q) a1
 have i:∀w',w'.there b (k*7) 7->E Λ B (a.put (G t) (ε (G ⟨b,k*7,I⟩))) w' λv d=>v=aJ/\d=w'.setCells b (k*7) cells.toList:=λw' f=>TT w' _ _ _ an b (k*7) cells (TX _ y) ((eval_put _ ar).trans a2) (by rw[u];exact f) (by rw[u];kernel_rfl) ak ⟨rfl,rfl⟩
 have m:∀(F:Act) w',F.eval (.tmp x)=ε (G ⟨g,0,I⟩)->F.eval (.tmp r)=vr->w'.heap[g]?=G (Y #[c] p (0,0))->E Λ C F w' λv d=>v=aJ/\d=w'.setCell ⟨g,0,I⟩ vr:=λF w' W a0 f=>Jl w' _ _ _ ao g 0 vr c W a0 al (pJ (j:=0) f rfl) (yY f 0) (by kernel_rfl) ⟨rfl,rfl⟩
 have af:(w.setCells b (k*7) cells.toList).heap[g]?=G (Y #[c] p (0,0)):=((qZ b cells.toList (k*7) w).2.2.2.2 g ag).trans o;refine Pu n ai a3 a4 a5 N R T y a6 a7 a8 a9 aa ab ac ad ae ?_ ?_
 ·refine vX _ _ (s w) ⟨vX _ _ (i w aq) (vX _ _ (m _ _ ((eval_put _ M).trans h) ((eval_put _ tr).trans e) af) ap),vX _ _ (m _ _ ((eval_put _ M).trans h) ((eval_put _ tr).trans e) o) (vX _ _ (i _ K) z)⟩
 ·exact vX _ _ (m _ _ h e o) (vX _ _ (s _) (vX _ _ (i _ K) z))
end Nd
end Go.Proofs.YthbhmjdcfocphaaGreatDoor
