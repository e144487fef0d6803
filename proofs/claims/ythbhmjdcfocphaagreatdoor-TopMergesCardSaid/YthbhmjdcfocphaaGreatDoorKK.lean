/- A part of this proof. -/
import Derived.StillTail
import Derived.WalkKit
import Derived.Test.YthbhmjdcfocphaaGreatDoorKz
set_option linter.all false
set_option maxHeartbeats 16000000
namespace Go.Proofs.YthbhmjdcfocphaaGreatDoor
open Go.Value renaming string→γ, slice→δ, pointer→ε, int→θ
open Go.Obj renaming cells→ζ
open Go.Ending renaming returned→η
open Go.IntKind renaming i64→ι
open List renaming range→O, length_range→aQ, mem_filter→aS
open Go.Region renaming waitsFor→V, ready→X, waitsFor_spec→Θ, Mode→ο, wanted→ay, binds→az, noSelect_spec→aN, noSelect→aR
open Bool renaming true→G, false→I
open Go renaming getD_replicate_false→χ, World→M, Value→U, HeadInv→av, getD_set_ne→aA, wpAny→Z, getD_both→aG, undef→aH, getD_in→aM, wpList→aU
open _root_.Array renaming replicate→Δ, ofFn→ah, getElem_ofFn→aO, ext→aT
open _root_ renaming List→J, Nat→H, Option→aC, Array→aJ, absurd→aP
open Option renaming some→N, none→Y
open Go.Oper renaming wp_mono→aj, upon→aL
open Go.Code renaming region→aK
namespace Rg
open RowKit
section
variable {P:Program}{ops:aJ Oper}
def ds(ops:aJ Oper)(i:H):aC Tmp:=(ops[i]?).bind (·.dst)
def lay(ops:aJ Oper)(L:H->Bool)(x:H->U):Act->J H->Act
 |a,[]=>a
 |a,i::r=>lay ops L x (if L i=G then a.put (ds ops i) (x i) else a) r
def up(x:H->U)(i:H)(v:U)(k:H):U:=if k=i then v else x k
def on(L:H->Bool)(i k:H):Bool:=k==i||L k
def xh{L L':H->Bool}{x x':H->U}:∀(r:J H)(a:Act),(∀k∈r,L k=L' k/\x k=x' k)->lay ops L x a r=lay ops L' x' a r
 |[],a,_=>rfl
 |i::r,a,h=>by
  unfold lay;rw[(h i (oL ..)).1,(h i (oL ..)).2];exact xh r _ λk b=>h k (oH _ b)
def Dis(ops:aJ Oper)(n:H):Prop:=∀i j,i<n->j<n->i≠j->∀d,ds ops i=N d->ds ops j≠N d
def R_{n:H}(c:Dis ops n){L:H->Bool}{x:H->U}{i:H}(f:i<n)(v:U):∀(r:J H)(a:Act),(∀k∈r,k<n/\k≠i)->(lay ops L x a r).put (ds ops i) v=lay ops L x (a.put (ds ops i) v) r
 |[],a,_=>rfl
 |k::r,a,h=>by
  obtain⟨l,m⟩:=h k (oL ..);unfold lay;rw[R_ c f v r _ λj g=>h j (oH _ g)]
  congr 1
  by_cases b:L k=G
  ·rw[oD b,oD b]
   exact Act.put_comm _ _ _ λd e=>c k i l f m d e
  ·rw[oU b,oU b]
def Qb{n:H}(f:Dis ops n){L:H->Bool}{x:H->U}{i:H}(h:i<n)(g:L i=I)(v:U):∀(r:J H)(a:Act),r.Nodup->(∀k∈r,k<n)->i∈r->(lay ops L x a r).put (ds ops i) v=lay ops (on L i) (up x i v) a r
 |[],a,_,_,b=>by cases b
 |k::r,a,hn,hr,b=>by
  rw[iF] at hn
  by_cases e:k=i
  ·subst e
   have d:∀j∈r,j<n/\j≠k:=λj c=>⟨hr j (oH _ c),λe=>hn.1 (e▸c)⟩
   unfold lay;rw[oU (by rw[g];simp),oD (by simp[on]),R_ f h v r a d];rw[show up x k v k=v by simp[up]];exact xh r _ λj c=>⟨by simp[on,(d j c).2],by simp[up,(d j c).2]⟩
  ·have l:i∈r:=by rcases List.mem_cons.1 b with b|b
                  ·exact aP b.symm e
                  ·exact b
   unfold lay;rw[show on L i k=L k by simp[on,e],show up x i v k=x k by simp[up,e]];exact Qb f h g v r _ hn.2 (λj c=>hr j (oH _ c)) l
def Dw(a:Act)(d:aC Tmp)(v:U):(a.put d v).tmps.size=a.tmps.size:=by cases d<;>simp[Act.put]
def Hj{L:H->Bool}{x:H->U}:∀(r:J H)(a:Act),(lay ops L x a r).tmps.size=a.tmps.size
 |[],a=>rfl
 |i::r,a=>by
  unfold lay;rw[Hj r]
  split
  ·exact Dw _ _ _
  ·rfl
def WQ(a:Act)(d:aC Tmp)(v:U)(t:Tmp)(b:d≠N t):(a.put d v).tmps.getD t aH=a.tmps.getD t aH:=by
 cases d with
 |none=>rfl
 |some d=>
  have c:d≠t:=λe=>b (e▸rfl)
  simp[Act.put,Array.getElem?_setIfInBounds_ne c]
def Qc{L L':H->Bool}{x:H->U}{t:Tmp}:∀(r:J H)(a b:Act),a.tmps.size=b.tmps.size->a.tmps.getD t aH=b.tmps.getD t aH->(∀i∈r,ds ops i=N t->L i=L' i)->
 (lay ops L x a r).tmps.getD t aH=(lay ops L' x b r).tmps.getD t aH
 |[],a,b,_,h,_=>h
 |i::r,a,b,hs,h,hi=>by
  unfold lay;refine Qc r _ _ ?_ ?_ λj c=>hi j (oH _ c)
  ·split<;>split<;>simp only[Dw,hs]
  ·by_cases e:ds ops i=N t
   ·rw[hi i (oL ..) e,e]
    split
    ·simp only[Act.put,Array.getD_eq_getD_getElem?,Array.getElem?_setIfInBounds_self,hs]
    ·exact h
   ·split<;>split<;>simp only[WQ _ _ _ _ e,h]
def gives(P:Program)(o:Oper)(a:Act)(w:M)(F:U->M->Prop):Prop:=o.wp P a w (λa' w'=>∃v,a'=a.put o.dst v/\F v w') λ_ _ _=>False
def put_inj{a:Act}{d:aC Tmp}{v u:U}(e:∀t,d=N t->t<a.tmps.size)(c:a.put d v=a.put d u):d=Y\/v=u:=by
 cases d with
 |none=>exact .inl rfl
 |some t=>refine .inr ?_;have b:=nT (λa:Act=>a.tmps.getD t aH) c;simpa [Act.put,e t rfl] using b
def C7{o:Oper}{a b:Act}{w:M}{F:U->M->Prop}{Q:Exit->Act->M->Prop}(h:execOp a.eval o=execOp b.eval o)(l:∀t,o.dst=N t->t<b.tmps.size)(g:gives P o b w F):
 o.wp P a w (λa' w'=>∃v,a'=a.put o.dst v/\F v w') Q:=by
 have i:∀v w',(∃u,b.put o.dst v=b.put o.dst u/\F u w')->∃u,a.put o.dst v=a.put o.dst u/\F u w':=by
  rintro v w'⟨u,j,k⟩;rcases put_inj l j with e|e
  ·exact⟨u,by rw[e];rfl,k⟩
  ·exact⟨u,by rw[e],k⟩
 unfold gives Oper.wp at g;unfold Oper.wp;rw[h];generalize(execOp b.eval o).run P w=r at g
 cases r with
 |ok x w'=>
  cases x with
  |value v=>exact i _ _ g
  |skip=>exact i _ _ g
  |defer d=>
   simp only[aL] at g|-;obtain⟨u,j,-⟩:=g
   exfalso
   have:=nT (λa:Act=>a.defers.length) j
   cases m:o.dst<;>simp[Act.put,m] at this
  |enter f args=>
   simp only[aL] at g|-
   exact Calls.mono g λe n h=>by
    cases e with
    |returned v=>exact i _ _ h
    |panicked c=>exact h.elim
    |outgrown=>obtain⟨_,_,g⟩:=h;exact g.elim
  |row row args=>
   simp only[aL] at g|-
   exact Rows.mono g λv n h=>i _ _ h
  |_=>exact g
 |halt x w'=>
  cases x<;>simp only[aL] at g|-
def mk(md:ο)(ops:aJ Oper)(x:H->U)(i k:H):U:=if(k==i||V md ops i k)=G then x k else aH
def Lf(md:ο)(ops:aJ Oper)(n sz:H):Bool:=
 decide (n<ops.size)&&aR ops&&
 (O n).all λi=>match ops[i]? with
  |none=>I
  |some o=>o.guard.isNone&&(match o.dst with|Y=>G|N d=>decide (d<sz)&&(O n).all λj=>decide (j=i)||decide (ds ops j≠N d))&&(o.after.all λe=> !az md e||decide (e.on<i))&&
   o.op.operands.all λz=>match z with| .tmp t=>(O n).all λj=>decide (ds ops j≠N t)||V md ops i j|_=>G
def okB(md:ο)(ops:aJ Oper)(n sz:H):Bool:=
 Lf md ops n sz&&Region.sinkB md ops n&&Region.chainB md ops n&&Region.seqB md ops (ops.size-n) n (ah λi:Fin ops.size=>decide (i.val<n))
def Lg{p p':H->Bool}{i:H}(d:p i=G)(c:∀k,p' k=(p k&& !(k==i))):∀r:J H,r.Nodup->i∈r->(r.filter p').length+1=(r.filter p).length
 |[],_,a=>by cases a
 |k::r,hn,a=>by
  rw[iF] at hn
  by_cases e:k=i
  ·subst e
   rw[mQ (by rw[c];simp),mR d]
   have:r.filter p'=r.filter p:=List.filter_congr λj l=>by
    rw[c,show(j==k)=I by simpa usingλe:j=k=>hn.1 (e▸l)];simp
   rw[this];rfl
  ·have h:i∈r:=by rcases List.mem_cons.1 a with a|a
                  ·exact aP a.symm e
                  ·exact a
   have g:=Lg d c r hn.2 h;have f:p' k=p k:=by rw[c];simp[e]
   by_cases b:p k=G
   ·rw[mR (by rw[f];exact b),mR b,oJ,oJ]
    omega
   ·rw[mQ (by rw[f];exact b),mQ b]
    exact g
structure Okay(md:ο)(ops:aJ Oper)(n sz:H):Prop where
 lt:n<ops.size
 nosel:aR ops=G
 guard:∀i o,i<n->ops[i]?=N o->o.guard=Y
 dst:∀i o,i<n->ops[i]?=N o->∀t,o.dst=N t->t<sz
 dis:Dis ops n
 back:∀i o,i<n->ops[i]?=N o->∀e∈o.after,az md e=G->e.on<i
 look:∀i o,i<n->ops[i]?=N o->∀t,Operand.tmp t∈o.op.operands->∀j,j<n->ds ops j=N t->V md ops i j=G
def DJ{md:ο}{n sz:H}(f:Lf md ops n sz=G):Okay md ops n sz:=by
 unfold Lf at f;simp only[oz,nP,mF,kV] at f;obtain⟨⟨r,p⟩,s⟩:=f
 have key:∀i o,i<n->ops[i]?=N o->o.guard.isNone=G/\(match o.dst with|Y=>G|N d=>decide (d<sz)&&(O n).all λj=>decide (j=i)||decide (ds ops j≠N d))=G/\(o.after.all λe=> !az md e||decide (e.on<i))=G/\
  (o.op.operands.all λz=>match z with| .tmp t=>(O n).all λj=>decide (ds ops j≠N t)||V md ops i j|_=>G)=G:=by
  intro i o b a;have:=s i b;rw[a] at this;simp only[oz] at this;exact⟨this.1.1.1,this.1.1.2,this.1.2,this.2⟩
 refine⟨r,p,λi o b a=>by simpa using(key i o b a).1,λi o b a t g=>?_,λi j b h q d c=>?_,λi o b a e m l=>?_,λi o b a t g j h c=>?_⟩
 ·have:=(key i o b a).2.1
  rw[g] at this;simp only[oz,nP] at this;exact this.1
 ·obtain⟨o,a⟩:∃o,ops[i]?=N o:=by
   cases e:ops[i]? with
   |none=>rw[jx] at e;omega
   |some o=>exact⟨o,rfl⟩
  have k:o.dst=N d:=(by unfold ds at c;rw[a] at c;exact c);have:=(key i o b a).2.1;rw[k] at this;simp only[oz,mF,kV,lg,nP] at this;exact(this.2 j h).resolve_left λe=>q e.symm
 ·have:=(key i o b a).2.2.1
  rw[jL] at this;have:=this e m;rw[l] at this;simpa using this
 ·have:=(key i o b a).2.2.2
  rw[jL] at this;have:=this _ g;simp only[mF,kV,lg,nP] at this;exact(this j h).resolve_left λe=>e c
def XW{md:ο}{n sz:H}{Q:Exit->Act->M->Prop}{l:J Oper}(q:Okay md l.toArray n sz){a0:Act}(au:a0.tmps.size=sz){Cl:M->Prop}{Pr:H->(H->U)->M->Prop}
 (aX:∀i o,l.toArray[i]?=N o->i<n->∀x w,Cl w->(∀j,j<n->V md l.toArray i j=G->Pr j (mk md l.toArray x j) w)->
  gives P o (lay l.toArray (V md l.toArray i) x a0 (O n)) w λv w'=>Cl w'/\Pr i (mk md l.toArray (up x i v) i) w'/\∀j a5,j<n->j≠i->Pr j a5 w->Pr j a5 w')
 (aw:∀b u,av md l.toArray n b->u<n->b.getD u G=I->∀i,n<=i->i∉X md l.toArray b)
 (b0:∀x w,Cl w->(∀j,j<n->Pr j (mk md l.toArray x j) w)->Z P md l.toArray Q (l.toArray.size-n) (ah λi:Fin l.toArray.size=>decide (i.val<n)) (lay l.toArray (λ_=>G) x a0 (O n)) w):
 ∀(f:H)(b:aJ Bool)(x:H->U)(w:M),av md l.toArray n b->((O n).filter λi=> !b.getD i G).length=f->Cl w->(∀j,j<n->b.getD j I=G->Pr j (mk md l.toArray x j) w)->
  Z P md l.toArray Q (f+(l.toArray.size-n)) b (lay l.toArray (λi=>b.getD i I) x a0 (O n)) w:=by
 intro f
 induction f with
 |zero=>
  intro b x w g F a2 E
  have T:∀i,i<n->b.getD i I=G:=λi c=>by
   have a6:=oK F;rw[jM] at a6;have y:=a6 i (List.mem_range.2 c);have A:i<b.size:=(by rw[g.size];exact kN c q.lt);simp[A] at y|-;exact y
  have D:b=ah λi:Fin l.toArray.size=>decide (i.val<n):=by
   apply aT
   ·simp[g.size]
   ·intro i y b1
    rw[aO]
    by_cases c:i<n
    ·have:=T i c
     simp[y] at this;simp[c,this]
    ·have:=g.tail i (by omega) (by rw[<-g.size];exact y)
     simp[y] at this;simp[c,this]
  have ad:lay l.toArray (λi=>b.getD i I) x a0 (O n)=lay l.toArray (λ_=>G) x a0 (O n):=xh _ _ λk s=>⟨T k (List.mem_range.1 s),rfl⟩
  rw[ad];rw[nh,D]
  exact b0 x w a2 λj m=>E j m (T j m)
 |succ f ih=>
  intro b x w g F a2 E;obtain⟨u,aI⟩:∃u,u∈(O n).filter λi=> !b.getD i G:=jw _ λe=>by rw[e] at F;cases F
  obtain⟨a7,ap⟩:=List.mem_filter.1 aI;have aa:b.getD u G=I:=(by simpa using ap)
  have ac:∃i,i<n/\i∈X md l.toArray b:=by
   have:∀d i,i<n->b.getD i G=I->i=d->∃i,i<n/\i∈X md l.toArray b:=by
    intro d
    induction d using Nat.strongRecOn with
    |_ d ihd=>
     intro i c B hid
     by_cases R:i∈X md l.toArray b
     ·exact⟨i,c,R⟩
     ·rw[mem_ready] at R
      obtain⟨o,h⟩:∃o,l.toArray[i]?=N o:=by
       cases e:l.toArray[i]? with
       |none=>rw[jx] at e;have:=q.lt;omega
       |some o=>exact⟨o,rfl⟩
      have aV:¬∀e∈o.after,az md e=G->b.getD e.on I=G:=λan=>R ⟨B,o,h,an⟩
      have⟨e,a4⟩:=Classical.not_forall.1 aV;have⟨hm,he2⟩:=Classical.not_forall.1 a4;have⟨L,W⟩:=Classical.not_forall.1 he2;have A:=q.back i o c h e hm L;have ag:b.getD e.on I=I:=(by simpa using W);have ai:b.getD e.on G=I:=aM (by rw[g.size];have:=q.lt;omega) ag;exact ihd e.on (by omega) e.on (by omega) ai rfl
   exact this u u (List.mem_range.1 a7) aa rfl
  rw[show f+1+(l.toArray.size-n)=(f+(l.toArray.size-n))+1 by omega];obtain⟨b2,-,a8⟩:=ac;refine⟨λC=>(by rw[C] at a8;cases a8),λi c=>?_⟩
  have r:i<n:=by
   rcases mC i n with C|C
   ·exact C
   ·exact aP c (aw b u g (List.mem_range.1 a7) aa i C)
  obtain⟨B,o,h,aB⟩:=mem_ready.1 c
  have a9:∀j,V md l.toArray i j=G->b.getD j I=G:=λj m=>by
   obtain⟨a1,a3,e,a4,L,S⟩:=Θ m;have:a1=o:=nV (a3.symm.trans h);subst this;rw[<-S];exact aB e a4 L
  have ae:=aX i o h r x w a2 λj m K=>E j m (a9 j K)
  unfold wpOp;simp only[h];have aE:ay o (yielded l.toArray (lay l.toArray (λi=>b.getD i I) x a0 (O n)).tmps)=G:=(by simp[ay,q.guard i o r h]);rw[oD aE];refine .inl ?_;have af:ds l.toArray i=o.dst:=(by unfold ds;rw[h];rfl);refine aj ?_ (C7 (a:=lay l.toArray (λi=>b.getD i I) x a0 (O n)) (execOp_congr o (aN q.nosel i o · · h) λz aF=>?_) (λt ak=>by rw[Hj,au];exact q.dst i o r h t ak) ae)
  ·rintro a' w' ⟨v,rfl,aD,aZ,am⟩
   rw[<-af,Qb q.dis r (aG B) v _ _ jk (λk s=>List.mem_range.1 s) (List.mem_range.2 r)]
   have al:∀k,on (λi=>b.getD i I) i k=(b.setIfInBounds i G).getD k I:=λk=>by
    unfold on
    by_cases e:k=i
    ·subst e
     have A:k<b.size:=(by rw[g.size];exact kN r q.lt);simp[A]
    ·rw[aA I (jY e)]
     simp[e]
   rw[xh (L':=λk=>(b.setIfInBounds i G).getD k I) (x':=up x i v) _ _ λk _=>⟨al k,rfl⟩];refine ih (b.setIfInBounds i G) (up x i v) w' (g.set c r) ?_ aD λj m D=>?_
   ·have:=Lg (p:=λk=> !b.getD k G) (p':=λk=> !(b.setIfInBounds i G).getD k G) (i:=i) (by rw[B];rfl) (λk=>by
     by_cases e:k=i
     ·subst e
      have A:k<b.size:=(by rw[g.size];exact kN r q.lt);simp[A]
     ·rw[aA G (jY e)]
      simp[e]) (O n) jk (List.mem_range.2 r)
    omega
   ·by_cases e:j=i
    ·rw[e];exact aZ
    ·rw[aA I (jY e)] at D
     have ax:mk md l.toArray (up x i v) j=mk md l.toArray x j:=by
      funext k
      unfold mk
      split
      ·rename_i s
       have ar:k≠i:=by
        intro aY;subst aY;rw[lg] at s;rcases s with s|s
        ·have ao:k=j:=by simpa using s
         exact e ao.symm
        ·obtain⟨a1,a3,aW,W,aq,S⟩:=Θ s
         have:=g.closed j a1 a3 D aW W aq;rw[S,aG B] at this;cases this
       simp[up,ar]
      ·rfl
     rw[ax];exact am j _ m e (E j m D)
  ·cases z with
   |tmp t=>
    refine Qc _ _ _ rfl rfl λj m ab=>?_
    have K:=q.look i o r h t aF j (List.mem_range.1 m) ab;rw[K]
    exact a9 j K
   |_=>rfl
def Us{Q:Exit->Act->M->Prop}{a:Act}{w:M}{l:J Oper}(n:H)(z:Lf .any l.toArray n a.tmps.size=G)(Cl:M->Prop)(Pr:H->(H->U)->M->Prop)(B:Cl w.drew)
 (m:∀c f,av .any l.toArray n c->f<n->c.getD f G=I->∀i,n<=i->i∉X .any l.toArray c)
 (h:∀i o,l.toArray[i]?=N o->i<n->∀x w,Cl w->(∀j,j<n->V .any l.toArray i j=G->Pr j (mk .any l.toArray x j) w)->
  gives P o (lay l.toArray (V .any l.toArray i) x a (O n)) w λv w'=>Cl w'/\Pr i (mk .any l.toArray (up x i v) i) w'/\∀j g,j<n->j≠i->Pr j g w->Pr j g w')
 (q:∀x w,Cl w->(∀j,j<n->Pr j (mk .any l.toArray x j) w)->Z P .any l.toArray Q (l.toArray.size-n) (ah λi:Fin l.toArray.size=>decide (i.val<n)) (lay l.toArray (λ_=>G) x a (O n)) w):Z P .any l.toArray Q l.toArray.size (Δ l.toArray.size I) a w.drew:=by
 have d:=DJ z
 have k:av .any l.toArray n (Δ l.toArray.size I):=
  ⟨by simp,λj C _ b=>(by rw[χ] at b;cases b),λt _ A=>aM (by simpa using A) (χ _ _)⟩
 have y:((O n).filter λi=> !(Δ l.toArray.size I).getD i G).length=n:=by rw[List.filter_eq_self.2 λi u=>?_,aQ];have s:i<l.toArray.size:=kN (List.mem_range.1 u) d.lt;rw[aM (by simpa using s) (χ _ _)];rfl
 have e:=XW (P:=P) (Q:=Q) d (a0:=a) rfl (Cl:=Cl) (Pr:=Pr) h m q n _ (λ_=>aH) w.drew k y B (λj _ b=>aP b (by rw[χ];simp));rw[show n+(l.toArray.size-n)=l.toArray.size by have:=d.lt;omega] at e
 have p:lay l.toArray (λi=>(Δ l.toArray.size I).getD i I) (λ_=>aH) a (O n)=a:=by
  have:∀r:J H,lay l.toArray (λi=>(Δ l.toArray.size I).getD i I) (λ_=>aH) a r=a:=by
   intro r
   induction r with
   |nil=>rfl
   |cons i r ihr=>unfold lay;rw[oU (by rw[χ];simp)];exact ihr
  exact this _
 rw[p] at e;exact e
def Steps(F:H->Oper->Prop):H->J Oper->Prop
 |_,[]=>True
 |i,o::r=>F i o/\Steps F (i+1) r
def Hl{F:H->Oper->Prop}:∀(l:J Oper)(k i:H)(o:Oper),Steps F k l->l[i]?=N o->F (k+i) o
 |[],k,i,o,_,h=>by cases h
 |a::r,k,0,o,h,e=>by
  simp at e;subst e
  exact h.1
 |a::r,k,i+1,o,h,e=>by
  have:=Hl r (k+1) i o h.2 (by simpa using e)
  rwa [show k+1+i=k+(i+1) by omega] at this
abbrev Fact:=J U->U->M->Prop
def dpB(ops:aJ Oper)(n:H)(dp:J (J H))(dt:J (aC Tmp)):Bool:=
 (O n).all λi=>decide (ds ops i=dt.getD i Y)&&decide (((O n).filter λk=>V .any ops i k)=dp.getD i [])
def fr(dt:J (aC Tmp))(x:H->U):Act->J H->Act
 |a,[]=>a
 |a,k::r=>fr dt x (a.put (dt.getD k Y) (x k)) r
def Ei{dt:J (aC Tmp)}{L:H->Bool}{x:H->U}:∀(r:J H)(a:Act),(∀k∈r,ds ops k=dt.getD k Y)->lay ops L x a r=fr dt x a (r.filter L)
 |[],a,_=>rfl
 |k::r,a,h=>by
  unfold lay
  by_cases e:L k=G
  ·rw[oD e,mR e,Ei r _ λj b=>h j (oH _ b),h k (oL ..)]
   rfl
  ·rw[oU e,mQ e,Ei r _ λj b=>h j (oH _ b)]
def Fa(Pr:J Fact)(j:H):Fact:=Pr.getD j λ_ _ _=>True
def Fv(Pr:J Fact)(dp:J (J H))(x:H->U)(w:M)(j:H):Prop:=Fa Pr j ((dp.getD j []).map x) (x j) w
def qD(Pr:J Fact)(dp:J (J H))(x:H->U)(w:M):J H->Prop
 |[]=>True
 |j::r=>Fv Pr dp x w j/\qD Pr dp x w r
def NP{Pr:J Fact}{dp:J (J H)}{x:H->U}{w:M}:∀r:J H,(∀j∈r,Fv Pr dp x w j)->qD Pr dp x w r
 |[],_=>trivial
 |j::r,h=>⟨h j (oL ..),NP r λk a=>h k (oH _ a)⟩
def any_g{Q:Exit->Act->M->Prop}{a:Act}{E:M}{l:J Oper}(n:H)(dp:J (J H))(dt:J (aC Tmp))(C:Lf .any l.toArray n a.tmps.size=G)(g:dpB l.toArray n dp dt=G)
 (Cl:M->Prop) (A:H->M->M->Prop) (Pr:J Fact) (a0:Cl E.drew)
 (S:∀i j,i<n->j<n->i≠j->∀d u w w',Cl w->A i w w'->Fa Pr j d u w->Fa Pr j d u w')
 (a5:Steps (λi o=>∀(x:H->U) w,Cl w->qD Pr dp x w (dp.getD i [])->gives P o (fr dt x a (dp.getD i [])) w λv w'=>Cl w'/\Fa Pr i ((dp.getD i []).map x) v w'/\A i w w') 0 (l.take n))
 (a2:∀q B,av .any l.toArray n q->B<n->q.getD B G=I->∀i,n<=i->i∉X .any l.toArray q)
 (ab:∀x w,Cl w->qD Pr dp x w (O n)->Z P .any l.toArray Q (l.toArray.size-n) (ah λi:Fin l.toArray.size=>decide (i.val<n)) (fr dt x a (O n)) w):Z P .any l.toArray Q l.toArray.size (Δ l.toArray.size I) a E.drew:=by
 have ac:=DJ C;unfold dpB at g;simp only[mF,kV,oz,nP] at g
 have T:∀i,i<n->V .any l.toArray i i=I:=λi b=>by
  cases e:V .any l.toArray i i with
  |false=>rfl
  |true=>obtain⟨a1,a3,R,a7,F,ad⟩:=Θ e;have:=ac.back i a1 b a3 R a7 F;omega
 have s:∀i,i<n->∀k,k∈dp.getD i []↔k<n/\V .any l.toArray i k=G:=λi b k=>by
  rw[<-(g i b).2,aS,kV]
 have r:∀i,i<n->∀x:H->U,(dp.getD i []).map (mk .any l.toArray x i)=(dp.getD i []).map x:=λi b x=>mV λk f=>by
  unfold mk;rw[oD (by rw[((s i b k).1 f).2];simp)]
 have z:∀i(x:H->U),mk .any l.toArray x i i=x i:=λi x=>by unfold mk;rw[oD (by simp)]
 have W:∀i,i<n->∀(x:H->U) v,(dp.getD i []).map (up x i v)=(dp.getD i []).map x:=λi b x v=>mV λk f=>by
  unfold up;rw[oU];intro e;subst e;have:=((s k b k).1 f).2;rw[T k b] at this;cases this
 refine Us n C Cl (λj t w=>Fa Pr j ((dp.getD j []).map t) (t j) w) a0 a2 ?_ ?_
 ·intro i o a4 b x w m p
  have a9:(l.take n)[i]?=N o:=by rw[mG,oD b];simpa using a4
  have D:=Hl (l.take n) 0 i o a5 a9;rw[nh] at D
  have aa:qD Pr dp x w (dp.getD i []):=NP _ λj h=>by
   obtain⟨c,y⟩:=(s i b j).1 h;have:=p j c y;rw[r j c,z] at this;exact this
  have L:=D x w m aa;rw[Ei (dt:=dt) _ _ λk f=>(g k (List.mem_range.1 f)).1,(g i b).2];refine aj ?_ L;rintro a' w'⟨v,rfl,c,y,a6⟩;refine⟨v,rfl,c,?_,λj t h K a8=>S i j b h (jY K) _ _ w w' m a6 a8⟩;rw[r i b,z,W i b,show up x i v i=v by simp[up]];exact y
 ·intro x w m p
  rw[Ei (dt:=dt) _ _ λk f=>(g k (List.mem_range.1 f)).1,List.filter_eq_self.2 λ_ _=>rfl];refine ab x w m (NP _ λj h=>?_);have c:=List.mem_range.1 h;have:=p j c;rw[r j c,z] at this;exact this
def Be{id:H}{Q:Exit->Act->M->Prop}{a:Act}{f:M}{l:J Oper}(n:H)(o:P.follows .mixedOrders=G)(e:okB .any l.toArray n a.tmps.size=G)
 (d:Lf .any l.toArray n a.tmps.size=G->(∀b c,av .any l.toArray n b->c<n->b.getD c G=I->∀i,n<=i->i∉X .any l.toArray b)->
  (∀a w,aU P l.toArray Q (l.drop n) a w->Z P .any l.toArray Q (l.toArray.size-n) (ah λi:Fin l.toArray.size=>decide (i.val<n)) a w)->Z P .any l.toArray Q l.toArray.size (Δ l.toArray.size I) a f.drew):(aK id l.toArray G).wp P Q a f:=by
 unfold okB at e;simp only[oz] at e;obtain⟨⟨⟨g,r⟩,k⟩,s⟩:=e;refine wp_region_any o (d g (λb c h p m i d=>tail_waits r k (DJ g).lt h _ c rfl p m i d) λa w q=>?_);have:=wpAny_of_seq (P:=P) (md:= .any) (ops:=l.toArray) (Q':=Q) (l.drop n) n _ a w (λj=>by simp[kU]) (by rw[show(l.drop n).length=l.toArray.size-n by simp];exact s) q;rw[show(l.drop n).length=l.toArray.size-n by simp] at this;exact this
def NQ{id:H}{Q:Exit->Act->M->Prop}{a:Act}{c:M}{l:J Oper}(n:H)(dp:J (J H))(dt:J (aC Tmp))(m:P.follows .mixedOrders=G)(q:okB .any l.toArray n a.tmps.size=G)(p:dpB l.toArray n dp dt=G)
 (Cl:M->Prop) (b:H->M->M->Prop) (Pr:J Fact) (y:Cl c.drew)
 (h:∀i j,i<n->j<n->i≠j->∀d u w w',Cl w->b i w w'->Fa Pr j d u w->Fa Pr j d u w')
 (f:Steps (λi o=>∀(x:H->U) w,Cl w->qD Pr dp x w (dp.getD i [])->gives P o (fr dt x a (dp.getD i [])) w λv w'=>Cl w'/\Fa Pr i ((dp.getD i []).map x) v w'/\b i w w') 0 (l.take n))
 (t:∀x w,Cl w->qD Pr dp x w (O n)->aU P l.toArray Q (l.drop n) (fr dt x a (O n)) w):(aK id l.toArray G).wp P Q a c:=
 Be n m q λs g r=>any_g n dp dt s p Cl b Pr y h f g λx w e k=>r _ _ (t x w e k)
def PeB:J Fact->Prop
 |[]=>True
 |F::r=>(∀d u w w',Below w.heap.size w w'->F d u w->F d u w')/\PeB r
def pe_at:∀{Pr:J Fact}(j:H),PeB Pr->∀d u w w',Below w.heap.size w w'->Fa Pr j d u w->Fa Pr j d u w'
 |[],j,_,d,u,w,w',_,h=>trivial
 |F::r,0,hp,d,u,w,w',hb,h=>hp.1 d u w w' hb h
 |F::r,j+1,hp,d,u,w,w',hb,h=>pe_at (Pr:=r) j hp.2 d u w w' hb h
def qQ{id:H}{Q:Exit->Act->M->Prop}{a:Act}{b:M}{l:J Oper}(n:H)(dp:J (J H))(dt:J (aC Tmp))(q:P.follows .mixedOrders=G)(t:okB .any l.toArray n a.tmps.size=G)(s:dpB l.toArray n dp dt=G)
 (Pr:J Fact) (p:PeB Pr)
 (h:Steps (λi o=>∀(x:H->U) w,Below b.heap.size b w->qD Pr dp x w (dp.getD i [])->gives P o (fr dt x a (dp.getD i [])) w λv w'=>Fa Pr i ((dp.getD i []).map x) v w'/\Below w.heap.size w w') 0 (l.take n))
 (A:∀x w,Below b.heap.size b w->qD Pr dp x w (O n)->aU P l.toArray Q (l.drop n) (fr dt x a (O n)) w):(aK id l.toArray G).wp P Q a b:=by
 have y:∀(l:J Oper)(k:H),Steps (λi o=>∀(x:H->U) w,Below b.heap.size b w->qD Pr dp x w (dp.getD i [])->gives P o (fr dt x a (dp.getD i [])) w λv w'=>Fa Pr i ((dp.getD i []).map x) v w'/\Below w.heap.size w w') k l->
  Steps (λi o=>∀(x:H->U) w,Below b.heap.size b w->qD Pr dp x w (dp.getD i [])->gives P o (fr dt x a (dp.getD i [])) w λv w'=>Below b.heap.size b w'/\Fa Pr i ((dp.getD i []).map x) v w'/\Below w.heap.size w w') k l:=by
  intro l
  induction l with
  |nil=>intro k c;trivial
  |cons o r ih=>intro k c;refine⟨λx w e g=>?_,ih (k+1) c.2⟩;refine aj ?_ (c.1 x w e g);rintro a' w'⟨v,rfl,z,f⟩;exact⟨v,rfl,e.trans (f.mono e.size),z,f⟩
 exact NQ n dp dt q t s (λw=>Below b.heap.size b w) (λ_ w w'=>Below w.heap.size w w') Pr (pH _ _).drew (λi j _ _ _ d u w w' _ m c=>pe_at j p d u w w' m c) (y _ _ h) A
end
section
variable {P:Program}{ops:aJ Oper}
def head_l{md:ο}{n sz:H}{Q:Exit->Act->M->Prop}{l:J Oper}(q:Okay md l.toArray n sz){a0:Act}(aB:a0.tmps.size=sz){Cl:(H->Bool)->M->Prop}{Pr:H->(H->U)->M->Prop}
 (b0:∀i o,l.toArray[i]?=N o->i<n->∀L x w,L i=I->(∀j,V md l.toArray j i=G->L j=I)->Cl L w->(∀j,j<n->V md l.toArray i j=G->Pr j (mk md l.toArray x j) w)->
  gives P o (lay l.toArray (V md l.toArray i) x a0 (O n)) w λv w'=>Cl (on L i) w'/\Pr i (mk md l.toArray (up x i v) i) w'/\∀j a6,j<n->j≠i->Pr j a6 w->Pr j a6 w')
 (aD:∀b u,av md l.toArray n b->u<n->b.getD u G=I->∀i,n<=i->i∉X md l.toArray b)
 (b3:∀L x w,(∀i,i<n->L i=G)->Cl L w->(∀j,j<n->Pr j (mk md l.toArray x j) w)->Z P md l.toArray Q (l.toArray.size-n) (ah λi:Fin l.toArray.size=>decide (i.val<n)) (lay l.toArray (λ_=>G) x a0 (O n)) w):
 ∀(f:H)(b:aJ Bool)(x:H->U)(w:M),av md l.toArray n b->((O n).filter λi=> !b.getD i G).length=f->Cl (λj=>b.getD j I) w->(∀j,j<n->b.getD j I=G->Pr j (mk md l.toArray x j) w)->
  Z P md l.toArray Q (f+(l.toArray.size-n)) b (lay l.toArray (λi=>b.getD i I) x a0 (O n)) w:=by
 intro f
 induction f with
 |zero=>
  intro b x w h a1 a5 W
  have T:∀i,i<n->b.getD i I=G:=λi c=>by
   have a8:=oK a1;rw[jM] at a8;have A:=a8 i (List.mem_range.2 c);have B:i<b.size:=(by rw[h.size];exact kN c q.lt);simp[B] at A|-;exact A
  have S:b=ah λi:Fin l.toArray.size=>decide (i.val<n):=by
   apply aT
   ·simp[h.size]
   ·intro i A b4
    rw[aO]
    by_cases c:i<n
    ·have:=T i c
     simp[A] at this;simp[c,this]
    ·have:=h.tail i (by omega) (by rw[<-h.size];exact A)
     simp[A] at this;simp[c,this]
  have af:lay l.toArray (λi=>b.getD i I) x a0 (O n)=lay l.toArray (λ_=>G) x a0 (O n):=xh _ _ λk s=>⟨T k (List.mem_range.1 s),rfl⟩
  rw[af];rw[nh,S]
  exact b3 _ x w T a5 λj g=>W j g (T j g)
 |succ f ih=>
  intro b x w h a1 a5 W;obtain⟨u,aX⟩:∃u,u∈(O n).filter λi=> !b.getD i G:=jw _ λe=>by rw[e] at a1;cases a1
  obtain⟨a9,au⟩:=List.mem_filter.1 aX;have ac:b.getD u G=I:=(by simpa using au)
  have ae:∃i,i<n/\i∈X md l.toArray b:=by
   have:∀d i,i<n->b.getD i G=I->i=d->∃i,i<n/\i∈X md l.toArray b:=by
    intro d
    induction d using Nat.strongRecOn with
    |_ d ihd=>
     intro i c y hid
     by_cases a3:i∈X md l.toArray b
     ·exact⟨i,c,a3⟩
     ·rw[mem_ready] at a3
      obtain⟨o,m⟩:∃o,l.toArray[i]?=N o:=by
       cases e:l.toArray[i]? with
       |none=>rw[jx] at e;have:=q.lt;omega
       |some o=>exact⟨o,rfl⟩
      have aY:¬∀e∈o.after,az md e=G->b.getD e.on I=G:=λaq=>a3 ⟨y,o,m,aq⟩
      have⟨e,R⟩:=Classical.not_forall.1 aY;have⟨hm,he2⟩:=Classical.not_forall.1 R;have⟨C,a4⟩:=Classical.not_forall.1 he2;have B:=q.back i o c m e hm C;have ak:b.getD e.on I=I:=(by simpa using a4);have an:b.getD e.on G=I:=aM (by rw[h.size];have:=q.lt;omega) ak;exact ihd e.on (by omega) e.on (by omega) an rfl
   exact this u u (List.mem_range.1 a9) ac rfl
  rw[show f+1+(l.toArray.size-n)=(f+(l.toArray.size-n))+1 by omega];obtain⟨b5,-,aa⟩:=ae;refine⟨λK=>(by rw[K] at aa;cases aa),λi c=>?_⟩
  have r:i<n:=by
   rcases mC i n with K|K
   ·exact K
   ·exact aP c (aD b u h (List.mem_range.1 a9) ac i K)
  obtain⟨y,o,m,aF⟩:=mem_ready.1 c
  have ab:∀j,V md l.toArray i j=G->b.getD j I=G:=λj g=>by
   obtain⟨E,F,e,R,C,D⟩:=Θ g;have:E=o:=nV (F.symm.trans m);subst this;rw[<-D];exact aF e R C
  have ao:∀j,V md l.toArray j i=G->b.getD j I=I:=λj g=>by
   cases e:b.getD j I with
   |false=>rfl
   |true=>obtain⟨E,F,al,R,C,D⟩:=Θ g;have:=h.closed j E F e al R C;rw[D,aG y] at this;cases this
  have ag:=b0 i o m r (λj=>b.getD j I) x w (aG y) ao a5 λj g a2=>W j g (ab j a2)
  unfold wpOp;simp only[m];have aV:ay o (yielded l.toArray (lay l.toArray (λi=>b.getD i I) x a0 (O n)).tmps)=G:=(by simp[ay,q.guard i o r m]);rw[oD aV];refine .inl ?_;have ai:ds l.toArray i=o.dst:=(by unfold ds;rw[m];rfl);refine aj ?_ (C7 (a:=lay l.toArray (λi=>b.getD i I) x a0 (O n)) (execOp_congr o (aN q.nosel i o · · m) λz aW=>?_) (λt am=>by rw[Hj,aB];exact q.dst i o r m t am) ag)
  ·rintro a' w' ⟨v,rfl,aI,b2,ap⟩
   rw[<-ai,Qb q.dis r (aG y) v _ _ jk (λk s=>List.mem_range.1 s) (List.mem_range.2 r)]
   have a7:∀k,on (λi=>b.getD i I) i k=(b.setIfInBounds i G).getD k I:=λk=>by
    unfold on
    by_cases e:k=i
    ·subst e
     have B:k<b.size:=(by rw[h.size];exact kN r q.lt);simp[B]
    ·rw[aA I (jY e)]
     simp[e]
   rw[xh (L':=λk=>(b.setIfInBounds i G).getD k I) (x':=up x i v) _ _ λk _=>⟨a7 k,rfl⟩];refine ih (b.setIfInBounds i G) (up x i v) w' (h.set c r) ?_ ((funext a7:on (λi=>b.getD i I) i=_)▸aI) λj g S=>?_
   ·have:=Lg (p:=λk=> !b.getD k G) (p':=λk=> !(b.setIfInBounds i G).getD k G) (i:=i) (by rw[y];rfl) (λk=>by
     by_cases e:k=i
     ·subst e
      have B:k<b.size:=(by rw[h.size];exact kN r q.lt);simp[B]
     ·rw[aA G (jY e)]
      simp[e]) (O n) jk (List.mem_range.2 r)
    omega
   ·by_cases e:j=i
    ·rw[e];exact b2
    ·rw[aA I (jY e)] at S
     have aE:mk md l.toArray (up x i v) j=mk md l.toArray x j:=by
      funext k
      unfold mk
      split
      ·rename_i s
       have ax:k≠i:=by
        intro b1;subst b1;rw[lg] at s;rcases s with s|s
        ·have ar:k=j:=by simpa using s
         exact e ar.symm
        ·obtain⟨E,F,aZ,a4,aw,D⟩:=Θ s
         have:=h.closed j E F S aZ a4 aw;rw[D,aG y] at this;cases this
       simp[up,ax]
      ·rfl
     rw[aE];exact ap j _ g e (W j g S)
  ·cases z with
   |tmp t=>
    refine Qc _ _ _ rfl rfl λj g ad=>?_
    have a2:=q.look i o r m t aW j (List.mem_range.1 g) ad;rw[a2]
    exact ab j a2
   |_=>rfl
def gives_l{Q:Exit->Act->M->Prop}{a:Act}{w:M}{l:J Oper}(n:H)(z:Lf .any l.toArray n a.tmps.size=G)(Cl:(H->Bool)->M->Prop)(Pr:H->(H->U)->M->Prop)(B:Cl (λ_=>I) w.drew)
 (m:∀c f,av .any l.toArray n c->f<n->c.getD f G=I->∀i,n<=i->i∉X .any l.toArray c)
 (h:∀i o,l.toArray[i]?=N o->i<n->∀L x w,L i=I->(∀j,V .any l.toArray j i=G->L j=I)->Cl L w->(∀j,j<n->V .any l.toArray i j=G->Pr j (mk .any l.toArray x j) w)->
  gives P o (lay l.toArray (V .any l.toArray i) x a (O n)) w λv w'=>Cl (on L i) w'/\Pr i (mk .any l.toArray (up x i v) i) w'/\∀j g,j<n->j≠i->Pr j g w->Pr j g w')
 (q:∀L x w,(∀i,i<n->L i=G)->Cl L w->(∀j,j<n->Pr j (mk .any l.toArray x j) w)->Z P .any l.toArray Q (l.toArray.size-n) (ah λi:Fin l.toArray.size=>decide (i.val<n)) (lay l.toArray (λ_=>G) x a (O n)) w):Z P .any l.toArray Q l.toArray.size (Δ l.toArray.size I) a w.drew:=by
 have d:=DJ z
 have k:av .any l.toArray n (Δ l.toArray.size I):=
  ⟨by simp,λj C _ b=>(by rw[χ] at b;cases b),λt _ A=>aM (by simpa using A) (χ _ _)⟩
 have y:((O n).filter λi=> !(Δ l.toArray.size I).getD i G).length=n:=by rw[List.filter_eq_self.2 λi u=>?_,aQ];have s:i<l.toArray.size:=kN (List.mem_range.1 u) d.lt;rw[aM (by simpa using s) (χ _ _)];rfl
 have e:=head_l (P:=P) (Q:=Q) d (a0:=a) rfl (Cl:=Cl) (Pr:=Pr) h m q n _ (λ_=>aH) w.drew k y ((funext λj=>(χ _ _).symm:(λ_=>I)=_)▸B) (λj _ b=>aP b (by rw[χ];simp));rw[show n+(l.toArray.size-n)=l.toArray.size by have:=d.lt;omega] at e
 have p:lay l.toArray (λi=>(Δ l.toArray.size I).getD i I) (λ_=>aH) a (O n)=a:=by
  have:∀r:J H,lay l.toArray (λi=>(Δ l.toArray.size I).getD i I) (λ_=>aH) a r=a:=by
   intro r
   induction r with
   |nil=>rfl
   |cons i r ihr=>unfold lay;rw[oU (by rw[χ];simp)];exact ihr
  exact this _
 rw[p] at e;exact e
def any_l{Q:Exit->Act->M->Prop}{a:Act}{F:M}{l:J Oper}(n:H)(dp:J (J H))(dt:J (aC Tmp))(D:Lf .any l.toArray n a.tmps.size=G)(g:dpB l.toArray n dp dt=G)
 (Cl:(H->Bool)->M->Prop) (B:H->M->M->Prop) (Pr:J Fact) (a3:Cl (λ_=>I) F.drew)
 (a0:∀i j,i<n->j<n->i≠j->∀d u w w',B i w w'->Fa Pr j d u w->Fa Pr j d u w')
 (a8:Steps (λi o=>∀(L:H->Bool)(x:H->U) w,L i=I->(∀j,V .any l.toArray j i=G->L j=I)->Cl L w->qD Pr dp x w (dp.getD i [])->gives P o (fr dt x a (dp.getD i [])) w λv w'=>Cl (on L i) w'/\Fa Pr i ((dp.getD i []).map x) v w'/\B i w w') 0 (l.take n))
 (a5:∀p C,av .any l.toArray n p->C<n->p.getD C G=I->∀i,n<=i->i∉X .any l.toArray p)
 (ae:∀L x w,(∀i,i<n->L i=G)->Cl L w->qD Pr dp x w (O n)->Z P .any l.toArray Q (l.toArray.size-n) (ah λi:Fin l.toArray.size=>decide (i.val<n)) (fr dt x a (O n)) w):Z P .any l.toArray Q l.toArray.size (Δ l.toArray.size I) a F.drew:=by
 have af:=DJ D;unfold dpB at g;simp only[mF,kV,oz,nP] at g
 have a1:∀i,i<n->V .any l.toArray i i=I:=λi b=>by
  cases e:V .any l.toArray i i with
  |false=>rfl
  |true=>obtain⟨a4,a6,T,aa,K,ag⟩:=Θ e;have:=af.back i a4 b a6 T aa K;omega
 have r:∀i,i<n->∀k,k∈dp.getD i []↔k<n/\V .any l.toArray i k=G:=λi b k=>by
  rw[<-(g i b).2,aS,kV]
 have q:∀i,i<n->∀x:H->U,(dp.getD i []).map (mk .any l.toArray x i)=(dp.getD i []).map x:=λi b x=>mV λk f=>by
  unfold mk;rw[oD (by rw[((r i b k).1 f).2];simp)]
 have A:∀i(x:H->U),mk .any l.toArray x i i=x i:=λi x=>by unfold mk;rw[oD (by simp)]
 have a2:∀i,i<n->∀(x:H->U) v,(dp.getD i []).map (up x i v)=(dp.getD i []).map x:=λi b x v=>mV λk f=>by
  unfold up;rw[oU];intro e;subst e;have:=((r k b k).1 f).2;rw[a1 k b] at this;cases this
 refine gives_l n D Cl (λj s w=>Fa Pr j ((dp.getD j []).map s) (s j) w) a3 a5 ?_ ?_
 ·intro i o a7 b L x w y W z m
  have ac:(l.take n)[i]?=N o:=by rw[mG,oD b];simpa using a7
  have E:=Hl (l.take n) 0 i o a8 ac;rw[nh] at E
  have ad:qD Pr dp x w (dp.getD i []):=NP _ λj h=>by
   obtain⟨c,t⟩:=(r i b j).1 h;have:=m j c t;rw[q j c,A] at this;exact this
  have S:=E L x w y W z ad;rw[Ei (dt:=dt) _ _ λk f=>(g k (List.mem_range.1 f)).1,(g i b).2];refine aj ?_ S;rintro a' w'⟨v,rfl,c,t,a9⟩;refine⟨v,rfl,c,?_,λj s h R ab=>a0 i j b h (jY R) _ _ w w' a9 ab⟩;rw[q i b,A,a2 i b,show up x i v i=v by simp[up]];exact t
 ·intro L x w y z m
  rw[Ei (dt:=dt) _ _ λk f=>(g k (List.mem_range.1 f)).1,List.filter_eq_self.2 λ_ _=>rfl];refine ae L x w y z (NP _ λj h=>?_);have c:=List.mem_range.1 h;have:=m j c;rw[q j c,A] at this;exact this
def MF{id:H}{Q:Exit->Act->M->Prop}{a:Act}{c:M}{l:J Oper}(n:H)(dp:J (J H))(dt:J (aC Tmp))(p:P.follows .mixedOrders=G)(r:okB .any l.toArray n a.tmps.size=G)(q:dpB l.toArray n dp dt=G)
 (Cl:(H->Bool)->M->Prop) (b:H->M->M->Prop) (Pr:J Fact) (z:Cl (λ_=>I) c.drew)
 (h:∀i j,i<n->j<n->i≠j->∀d u w w',b i w w'->Fa Pr j d u w->Fa Pr j d u w')
 (f:Steps (λi o=>∀(L:H->Bool)(x:H->U) w,L i=I->(∀j,V .any l.toArray j i=G->L j=I)->Cl L w->qD Pr dp x w (dp.getD i [])->gives P o (fr dt x a (dp.getD i [])) w λv w'=>Cl (on L i) w'/\Fa Pr i ((dp.getD i []).map x) v w'/\b i w w') 0 (l.take n))
 (y:∀L x w,(∀i,i<n->L i=G)->Cl L w->qD Pr dp x w (O n)->aU P l.toArray Q (l.drop n) (fr dt x a (O n)) w):(aK id l.toArray G).wp P Q a c:=
 Be n p r λt g s=>any_l n dp dt t q Cl b Pr z h f g λL x w k e m=>s _ _ (y L x w k e m)
def Tt{md:ο}{n:H}(c:((O n).all λi=>(O (ops.size-n)).all λt=>V md ops (n+t) i)=G):∀a b,av md ops n a->b<n->a.getD b G=I->∀i,n<=i->i∉X md ops a:=λa b s o m t v r=>by
 obtain⟨_,k,d,q⟩:=mem_ready.1 r;have u:t<ops.size:=(Array.getElem?_eq_some_iff.1 d).1;simp only[mF,kV] at c;have f:=c b o (t-n) (by omega);rw[show n+(t-n)=t by omega] at f;obtain⟨g,p,e,l,j,h⟩:=Θ f;have:g=k:=nV (p.symm.trans d);subst this;have:=q e l j;rw[h,aG m] at this;cases this
def Bf{md:ο}{Q:Exit->Act->M->Prop}{K:Act->M->Prop}{i:H}{o:Oper}{a:Act}{w:M}(g:ops[i]?=N o)(h:o.guard=Y)(d:∀t,o.dst=N t->t<a.tmps.size){F:U->M->Prop}(c:gives P o a w F)(f:∀v w',F v w'->K (a.put o.dst v) w'):wpOp P ops Q i K a w:=by unfold wpOp;simp only[g];rw[oD (by simp[ay,h])];refine .inl (aj ?_ (C7 (a:=a) (b:=a) rfl d c));rintro a' w'⟨v,rfl,e⟩;exact f v w' e
def TV{md:ο}{Q:Exit->Act->M->Prop}{a:Act}{w:M}{L:aJ Bool}{i j k:H}{A B C:Oper}{t:Tmp}(a2:ops[i]?=N A)(z:ops[j]?=N B)(u:ops[k]?=N C)(W:A.guard=Y)(y:B.guard=Y)(r:C.guard=Y)(p:A.dst=N t)(l:B.dst=Y)(m:C.dst=Y)(E:t<a.tmps.size)
 (R:X md ops L=[i,k]) (K:X md ops (L.setIfInBounds i G)=[j,k]) (F:X md ops (L.setIfInBounds k G)=[i]) (a1:X md ops ((L.setIfInBounds i G).setIfInBounds j G)=[k]) (S:X md ops ((L.setIfInBounds i G).setIfInBounds k G)=[j]) (a0:X md ops ((L.setIfInBounds k G).setIfInBounds i G)=[j])
 (a4:X md ops (((L.setIfInBounds i G).setIfInBounds j G).setIfInBounds k G)=[]) (a3:X md ops (((L.setIfInBounds i G).setIfInBounds k G).setIfInBounds j G)=[]) (a5:X md ops (((L.setIfInBounds k G).setIfInBounds i G).setIfInBounds j G)=[])
 (a7:gives P A a w λv h=>gives P B (a.put (N t) v) h (λ_ g=>gives P C (a.put (N t) v) g λ_ f=>Q .normal (a.put (N t) v) f)/\gives P C (a.put (N t) v) h λ_ g=>gives P B (a.put (N t) v) g λ_ f=>Q .normal (a.put (N t) v) f)
 (a6:gives P C a w λ_ h=>gives P A a h λv g=>gives P B (a.put (N t) v) g λ_ f=>Q .normal (a.put (N t) v) f):Z P md ops Q 3 L a w:=by
 have s:∀v,(a.put (N t) v).tmps.size=a.tmps.size:=λv=>Dw a (N t) v
 refine⟨λc=>(by rw[R] at c;cases c),λx b=>?_⟩;rw[R] at b;simp only[ox,oy,nw] at b;rcases b with rfl|rfl
 ·refine Bf (md:=md) a2 W (λd e=>by rw[p] at e;cases e;exact E) a7 λv h q=>?_
  rw[p];refine⟨λc=>(by rw[K] at c;cases c),λx b=>?_⟩;rw[K] at b;simp only[ox,oy,nw] at b;rcases b with rfl|rfl
  ·refine Bf (md:=md) z y (λd e=>by rw[l] at e;cases e) q.1 λD g n=>?_
   rw[l];refine⟨λc=>(by rw[a1] at c;cases c),λx b=>?_⟩;rw[a1,mW] at b;subst b;refine Bf (md:=md) u r (λd e=>by rw[m] at e;cases e) n λT f o=>?_
   rw[m];exact⟨a4,o⟩
  ·refine Bf (md:=md) u r (λd e=>by rw[m] at e;cases e) q.2 λD g n=>?_
   rw[m];refine⟨λc=>(by rw[S] at c;cases c),λx b=>?_⟩;rw[S,mW] at b;subst b;refine Bf (md:=md) z y (λd e=>by rw[l] at e;cases e) n λT f o=>?_
   rw[l];exact⟨a3,o⟩
 ·refine Bf (md:=md) u r (λd e=>by rw[m] at e;cases e) a6 λv h q=>?_
  rw[m];refine⟨λc=>(by rw[F] at c;cases c),λx b=>?_⟩;rw[F,mW] at b;subst b;refine Bf (md:=md) a2 W (λd e=>by rw[p] at e;cases e;exact E) q λD g n=>?_
  rw[p];refine⟨λc=>(by rw[a0] at c;cases c),λx b=>?_⟩;rw[a0,mW] at b;subst b;refine Bf (md:=md) z y (λd e=>by rw[l] at e;cases e) n λT f o=>?_
  rw[l];exact⟨a5,o⟩
end
end Rg
end Go.Proofs.YthbhmjdcfocphaaGreatDoor
