/- A part of this proof. -/
import Derived.Test.YthbhmjdcfocphaaGreatDoorK6
set_option linter.all false
set_option maxHeartbeats 16000000
set_option maxRecDepth 100000
namespace Go.Proofs.YthbhmjdcfocphaaGreatDoor
open Go.Value renaming string→J, slice→G, pointer→ε, int→M
open Go.Obj renaming cells→Y
open Go.Ending renaming returned→η
open Go.IntKind renaming i64→O
open Go.Lib renaming hid→I
open Rw renaming lt_of_heap→E
open Option renaming some→H, none→U
open Me.Row renaming slice→υ, below→Γ, nil→aA, base→aC
open Go.Value renaming slice→χ, oneCell'→ay
open _root_ renaming Nat→V, ByteArray→Λ, absurd→av, Int→Z, Option→aH, List→aK, Array→aL
open Xm renaming fold→Θ
open Go renaming Value→D, World→ο
open Go.Proofs renaming below_drewN→Ω
open List renaming map→ς, range→az, length→aJ
open Go.RowKit renaming Below→ah
open Rg renaming gives→aj
open Go.World renaming putObj_heap_other→aG, putObj→aI
namespace Nd
open RowKit Rw Vf Mw Me Gr Rg Xm
attribute [local go_sem] Oper.semAt_some
def V9(X:ο)(p:Addr)(v:D):(X.setCell p v).os=X.os:=rfl
def MB(X:ο)(p:Addr)(v:D):(X.setCell p v).tape=X.tape:=rfl
def Gf(X:ο)(p:Addr)(v:D):(X.setCell p v).output=X.output:=rfl
def OT(a:aH Addr)(m c:V)(d:Z)(W:ο):Calls Tryz.prog 258 #[G a m c,M O d] W λe w'=>e=η (.func (.func 306) #[] #[ε (H ⟨W.heap.size,0,U⟩),ε (H ⟨W.heap.size+1,0,U⟩)])/\w'=(W.alloc (Y #[G a m c] (22:V))).alloc (Y #[M O d] (3:V)):=by
 go_enter Tryz.func258,Tryz.ntmps258
 go_wp2_with fail
 go_ret;exact⟨by simp,rfl⟩
def MD{S:V}{w:ο}{v:D}{l:aK (Λ×Λ)}{N:V}{cs:aL D}{fr:V×V}(f:aL D)(h:wk S w v l)(d:w.heap[N]?=H (Y cs (100:V) fr)):wk S (w.setRow N f) v l:=by
 obtain⟨L,i,b,k⟩:=h;refine⟨L,i,qj b λq e=>?_,λu _=>?_⟩
 ·refine oo w N q f (λp=>?_)
  subst p;rcases b.2 with⟨a,_⟩|⟨g,c,r,a,_,n,_⟩
  ·rw[a] at e;cases e
  ·rw[a] at e
   obtain rfl:g=q:=by simpa [Value.ownBlock] using e
   rw[n] at d;simp at d
 ·have:=k w λ_ _ _ _=>rfl
  exact⟨this.1,λj o m=>this.2 j o m⟩
def Q7{S:V}{w:ο}{n:Λ}{a:aK (Λ×Λ)}{va:D}(x:aH Addr)(c:V)(e:wk S w va a):NV S w (.el n a []) (qA n va (G x 0 c)):=λu f=>
 nis (wk.rw (De.r_ (λ_ _ _ _ b=>b) e f)) (L:=[]) ⟨0,0,x,c,rfl,λb=>av b (by simp),λj d=>av d (by simp)⟩ ⟨rfl,λj d=>av d (by simp)⟩
structure Cl6(W w3:ο)(r:D)(l0:aK T)(L:V->Bool)(w:ο):Prop where
 sz:w3.heap.size<=w.heap.size
 bw:ah W.heap.size W w
 kp:∀q,q<w3.heap.size->q≠W.heap.size+1->r.ownBlock≠H q->w.heap[q]?=w3.heap[q]?
 bx:L 6=false->w.heap[W.heap.size+1]?=H (Y #[r] (98:V))
 rw:L 3=false->tA (W.heap.size+2) w r l0
def Q8(W:ο)(r:D)(i:V)(w w':ο):Prop:=if i=3 then w.grownBy w' r.ownBlock else if i=6 then w'.heap.size=w.heap.size/\∀q,q≠W.heap.size+1->w'.heap[q]?=w.heap[q]? else ah w.heap.size w w'
def Cl6.step{W f w w':ο}{r:D}{d:aK T}{L:V->Bool}(i:V)(a:Cl6 W f r d L w)(b:ah w.heap.size w w')(k:i≠6)(h:i≠3):Cl6 W f r d (on L i) w':=by
 have m:on L i 6=L 6:=by unfold on;simp[jY k]
 have l:on L i 3=L 3:=by unfold on;simp[jY h]
 refine⟨pF a.sz b.size,a.bw.trans (b.mono a.bw.size),λq c g j=>(b.block q (oQ c a.sz)).trans (a.kp q c g j),λe=>?_,λe=>Γ (a.rw (l▸e)) b⟩;have:=a.bx (m▸e);exact pW b this
def Q8.of{W:ο}{r:D}{i:V}{w w':ο}(c:ah w.heap.size w w')(b:i≠6)(a:i≠3):Q8 W r i w w':=by unfold Q8;rw[oU a,oU b];exact c
def ROut(n d:V):Prop:=∀(p:aK Λ)(l:aK Mo.Fd)(a:aH Addr)(c:V)(W:ο),p.length=d->ZB W (G a l.length c) p l->l.length<=c->
 Calls Tryz.prog 201 #[G a l.length c,M O d] W λe w'=>(∃b,e=η b/\tA W.heap.size w' b (outs (n+1) d l))/\ah W.heap.size W w'
def EI(n d:V)(fL:d+n=64)(ds:∀bL,n=bL+1->ROut bL (d+1)):ROut n d:=by
 intro p l dt cap W b3 ca eV;obtain⟨g,al,ew,ey,bG,d0,dH⟩:=qF ca.ar;obtain⟨rfl,rfl⟩:dt=ew/\cap=ey:=by injection bG with Q _ y;exact⟨Q,y⟩
 clear bG;obtain⟨m,ch⟩:=pL l.length;rw[ch] at d0 eV|-;have fK:m<=1000000:=by rw[<-ch];exact ca.n
 have eW:d<=64:=by omega
 have cd:=ca.fo;obtain⟨k,cD⟩:=pL ((own d l).length);have cb:=cd.take;have cC:=cd.Q9;have dL:∀f∈l,d<=f.path.length:=λf aS=>by rw[<-b3];exact cd.len aS
 have d9:=nT aJ cd.split;rw[b3] at cb cC d9;rw[cD] at cb cC;rw[o_,cD,ch] at d9;have fJ:k<=m:=by omega
 have dY:l.take k=own d l:=cb.1.symm;have eq:=I dY;clear dY;have cL:=I cb;have dk:=I cC;have dj:=I dL;have b5:=I ch;have bN:=I cD;have df:=I d0;have cI:=I dH;have cm:=I ca;have dn:=I b3;have eh:=I ds;obtain⟨du,dv,dw⟩:=sM W (Y #[M O d] (3:V)) (Y #[G U 0 0] (98:V));have cp:=I dw;have cl:=I du;have co:=I dv;clear ch d0 dH ca b3 ds cb cC dL d9 cD cd du dv dw;refine ME Tryz.func201 rfl ?_;simp only[Tryz.ntmps201,List.size_toArray,oJ,oh,Nat.reduceAdd,Nat.reduceSub,Array.replicate_succ,Array.replicate_zero,List.push_toArray,List.append_toArray,mw,mq]
 go_upto_block 0 with fail
 generalize(W.alloc (Y #[M O d] (3:V))).alloc (Y #[G U 0 0] (98:V))=fT at cp cl co|-
 go_cut [0] from 6 to 49 (λx bc=>∃(a:aH Addr)(r:D),(k<m->a=H ⟨g,al+k*6,U⟩)/\x=G a (m-k) (cap-k)/\Hid (bc.heap[W.heap.size]?=H (Y #[M O d] (3:V)))/\Hid (bc.heap[W.heap.size+1]?=H (Y #[r] (98:V)))/\Hid (tA (W.heap.size+2) bc r ((own d l).map leaf))/\Hid (ah W.heap.size W bc))
 case first=>
  go_wp2_with fail
  go_loopw [0] (λx wr=>∃(i:V)(a:aH Addr)(r:D),i<=k/\(i<m->a=H ⟨g,al+i*6,U⟩)/\x=G a (m-i) (cap-i)/\Hid (wr.heap[W.heap.size]?=H (Y #[M O d] (3:V)))/\Hid (wr.heap[W.heap.size+1]?=H (Y #[r] (98:V)))/\Hid (tA (W.heap.size+2) wr r ((l.take i).map leaf))/\Hid (ah W.heap.size W wr)) (λx _=>match x with|G _ n _=>n|_=>0)
  case atStart=>exact⟨0,dt,_,oM _,λP=>by rw[df.o P];simp,by simp,cl,co,I aA,cp⟩
  case round=>
   clear cp cl co;obtain⟨i,a,r,dN,b8,rfl,bs,aN,aq,aW⟩:=hrel;obtain⟨ac,ad,bp⟩:=υ aq.o;subst bp;obtain⟨ak,ba⟩:=pL ((l.take i).map leaf);have cM:=I ba;rw[ba] at aq aN;clear ba;obtain⟨a8,ci⟩:=pL ak.length;rw[ci] at aN aq;have bO:=I ci;have bP:=I aq.o;have aZ:=I aW.o;have cR:=I bs.o;have aT:=I aN.o;have aM:=aW.o;have b7:=pJ (j:=0) bs.o rfl;have e3:=pJ (j:=0) aN.o rfl;clear aq aW ci bs aN;obtain⟨a1,br⟩:=pL (m-i);obtain⟨a2,bq⟩:=pL (cap-i);rw[br,bq];have fM:a1<=a2:=(by omega);have fN:a1<=1000000:=(by omega);have ao:=I br;have bC:=I bq;clear br bq
   by_cases cg:i<k
   ·obtain rfl:=b8 (by omega)
    have b9:i<l.length:=(by rw[b5.o];omega);have bK:=(dk.o i b9).2 cg;obtain⟨vp,ve,ai,ct,au,y1,y2,y3,-,-⟩:=cI.o i b9;obtain⟨fm,fn,fi,fj,rfl,f3,f4⟩:=qp ai;rw[bK] at au;have dW:=Mg.qi b9;have cQ:=I dW;obtain⟨o,ap⟩:=pL (al+i*6);rw[ap] at au y1 y2 y3|-;have cO:=I ap;replace au:=pI au aM;replace y1:=pI y1 aM;replace y2:=pI y2 aM;replace y3:=pI y3 aM;have e0:0<a1:=(by have:=ao.o;omega);have cF:(0:Z)<(a1:Z):=(by omega);have b2:decide ((0:Z)<(a1:Z))=true:=nK cF;have b1:((d:Z)==(d:Z))=true:=(by simp);clear ai ct f3 f4 dW ap bK b8 aM;generalize l[i]=f at au y1 y2 y3 cQ;clear b9;obtain⟨bV,aP,aQ,aE,bW,bU⟩:=f;simp only at au y1 y2 y3 cQ
    go_wp2_with fail
    go_quiet(fail)
    go_upto_region 3 with fail
    have aY:=I (show ah wr.heap.size wr (wr.drewN nq) from Ω wr nq);have cK:=I (aZ.o.trans (aY.o.mono aZ.o.size));have cT:=I (show∀w,ah wr.heap.size wr w->w.cell? ⟨g,o+1,U⟩=H (J aP)/\w.cell? ⟨g,o+2,U⟩=H (J aQ)/\w.cell? ⟨g,o+3,U⟩=H (J aE) fromλw aM=>⟨pI y1 aM,pI y2 aM,pI y3 aM⟩);have cP:=I (Γ bP.o aY.o);have dq:=I (show(wr.drewN nq).heap[W.heap.size]?=H (Y #[M O d] (3:V)) from cR.o);have cq:=I (show(wr.drewN nq).heap[W.heap.size+1]?=H (Y #[G ac a8 ad] (98:V)) from aT.o);have er:=I (show W.heap.size+2<=wr.heap.size by have:=E aT.o;omega);clear au y1 y2 y3 b7 e3 b2 b1;have bh:=I (show(wr.drewN nq).heap.size=wr.heap.size from rfl);generalize wr.drewN nq=b4 at aY cK cP dq cq bh|-
    refine qQ 12 [[],[],[1],[2],[3],[],[5],[6],[7],[4,8],[0,9],[]] [H 21,H 22,H 23,H 24,H 25,H 26,H 27,H 28,H 29,H 30,H 31,H 6] (by kernel_rfl) (by kernel_rfl) (by kernel_rfl)
     [λ_ v w=>∃a c,v= .agg #[M O 0,J ⟨#[]⟩,J pQ,G U 0 0,G a 0 c,J ⟨#[]⟩,M O 0],
      eqv (G (H ⟨g,o,U⟩) a1 a2),eqv (ptr g o),eqv (ptr g (o+2)),eqv (J aQ),eqv (G (H ⟨g,o,U⟩) a1 a2),eqv (ptr g o),eqv (ptr g (o+1)),eqv (J aP),
      λ_ v w=>∃b,v=G (H ⟨b,0,U⟩) 6 6/\Rw w (G (H ⟨b,0,U⟩) 6 6) 1 ((tB [(sType,E_),(rZ,aQ),(AN,aP)]).map p_),
      λ_ v w=>∃F c1 R c2,v= .agg #[M O 0,J ⟨#[]⟩,J pQ,G F 3 c1,G R 0 c2,J ⟨#[]⟩,M O 0]/\wk b4.heap.size w (G F 3 c1) [(sType,E_),(rZ,aQ),(AN,aP)],
      λ_ v w=>∃b,v=ε (H ⟨b,0,U⟩)/\w.heap[b]?=H (Y #[M O 0,J ⟨#[]⟩,J ⟨#[]⟩,G U 0 0,G U 0 0,J ⟨#[]⟩,M O 0] (100:V))/\b4.heap.size<=b] ?dc ?step ?bD
    case dc=>
     refine⟨?_,?_,?_,?_,?_,?_,?_,?_,?_,?_,?_,?_,trivial⟩
     all_goals intro d u w w' X P
     all_goals first
      |exact P
      |(obtain⟨b,e,P⟩:=P;exact⟨b,e,Rw.under P X⟩)
      |(obtain⟨F,c1,R,c2,e,P⟩:=P;exact⟨F,c1,R,c2,e,Γ P X⟩)
      |(obtain⟨b,e,P,y⟩:=P;exact⟨b,e,pW X P,y⟩)
    case step=>
     refine⟨?_,?_,?_,?_,?_,?_,?_,?_,?_,?_,?_,?_,trivial⟩
     all_goals
      intro x w h a0;simp only[oI,oF,fr,qD,Fv,Fa,eqv,ptr,ς,nU] at a0|-;obtain⟨fu,fv,fw⟩:=cT.o w (aY.o.trans (h.mono aY.o.size));unfold aj
     case refine_1=>go_simp;refine(AO pQ [] (G U 0 0) w.heap.size w aA (oZ _) (by simp)).mono ?_;rintro e w'⟨⟨bb,rfl,y⟩,X⟩;obtain⟨a,c,rfl⟩:=υ y;exact⟨⟨a,c,rfl⟩,X⟩
     case refine_10=>go_simp;exact⟨sL w (tB [(sType,E_),(rZ,aQ),(AN,aP)]) (9:V) 6,pM _ _⟩
     case refine_11=>obtain⟨⟨a,c,cU⟩,⟨b,bT,bm⟩⟩:=a0;rw[cU,bT];go_simp;refine(Du pQ [] [(sType,E_),(rZ,aQ),(AN,aP)] (G U 0 0) (G a 0 c) (H ⟨b,0,U⟩) 6 w (Rw.nil _ 4) ⟨_,_,_,rfl⟩ bm (by simp) (by simp) (by simp)).mono ?_;rintro e w'⟨⟨bb,rfl,y⟩,X⟩;obtain⟨F,c1,rfl⟩:=υ y;exact⟨⟨F,c1,⟨a,c,rfl⟩,aC y h.size⟩,X⟩
     case refine_12=>go_simp;obtain⟨_,a4⟩:=Array.getElem?_eq_some_iff.1 (pG w (Y #[M O 0,J ⟨#[]⟩,J ⟨#[]⟩,G U 0 0,G U 0 0,J ⟨#[]⟩,M O 0] (100:V)));exact⟨⟨a4,h.size⟩,pM _ _⟩
     all_goals(go_simp;exact pH _ _)
    case bD=>
     intro x w h a0;simp only[show az 12=[0,1,2,3,4,5,6,7,8,9,10,11] from rfl,oI,oF,fr,qD,Fv,Fa,eqv,ptr,ς,nU,nS,nO] at a0|-;obtain⟨-,-,-,-,-,-,-,-,-,-,⟨F,c1,R,c2,cv,dC⟩,⟨N,bE,b2,cf⟩⟩:=a0;rw[cv,bE];have bA:=I h;have ck:=I dC;have cn:=I b2;have aD:=I cf;clear h cv bE dC b2 cf;go_simp;refine oN rfl 100 _ _ rfl _ _ rfl rfl 100 _ cn.o (by kernel_rfl) rfl (by simp[ay]) ?_;have b6:=I (og w N _ #[M O 0,J ⟨#[]⟩,J pQ,G F 3 c1,G R 0 c2,J ⟨#[]⟩,M O 0] _ _ cn.o);have bz:=I (MD #[M O 0,J ⟨#[]⟩,J pQ,G F 3 c1,G R 0 c2,J ⟨#[]⟩,M O 0] ck.o cn.o);have am:=I (pS bA.o aD.o #[M O 0,J ⟨#[]⟩,J pQ,G F 3 c1,G R 0 c2,J ⟨#[]⟩,M O 0]);generalize w.setRow N #[M O 0,J ⟨#[]⟩,J pQ,G F 3 c1,G R 0 c2,J ⟨#[]⟩,M O 0]=bv at b6 bz am|-;clear ck cn bA;obtain⟨y1,y2,y3⟩:=cT.o bv (aY.o.trans (am.o.mono aY.o.size));have ae:=I (λq (e:(χ ac a8 ad).ownBlock=H q)=>rlt cP.o e)
     go_upto_if 36 with fail
     clear y1 y2 y3
     go_cut [0] from 9 to 49 (λx bc=>x=G (H ⟨g,o,U⟩) a1 a2/\∃(F R:aH Addr)(aU c1 c2:V)(at':aK (Λ×Λ)),Hid (bc.heap[N]?=H (Y #[M O 0,J ⟨#[]⟩,J pQ,G F aU c1,G R 0 c2,J ⟨#[]⟩,M O 0] (100:V)))/\Hid (leaf ⟨bV,aP,aQ,aE,bW,bU⟩= .el pQ at' [])/\Hid (wk b4.heap.size bc (G F aU c1) at')/\Hid (at'.length=aU)/\Hid (ah b4.heap.size b4 bc))
     case first=>
      cases dR:aE.toList.isEmpty with
      |true=>
       have cN:=I (Wa (f:=⟨bV,aP,aQ,aE,bW,bU⟩) dR)
       go_wp2_with fail
       go_meet
       exact⟨rfl,F,R,3,c1,c2,_,b6,cN,bz,I rfl,am⟩
      |false=>
       have cN:=I (Wb (f:=⟨bV,aP,aQ,aE,bW,bU⟩) dR)
       go_upto_region 5 with fail
       refine qQ 6 [[],[],[1],[2],[3],[4]] [H 37,H 38,H 39,H 40,H 41,H 42] (by kernel_rfl) (by kernel_rfl) (by kernel_rfl)
        [eqv (.agg #[M O 0,J ⟨#[]⟩,J pQ,G F 3 c1,G R 0 c2,J ⟨#[]⟩,M O 0]),eqv (G (H ⟨g,o,U⟩) a1 a2),eqv (ptr g o),eqv (ptr g (o+3)),eqv (J aE),λ_ v w=>∃b,v=G (H ⟨b,0,U⟩) 2 2/\Rw w (G (H ⟨b,0,U⟩) 2 2) 1 ((tB [(gK,aE)]).map p_)] ?fk ?fq ?eK
       case fk=>
        refine⟨?_,?_,?_,?_,?_,?_,trivial⟩
        all_goals intro d u w w' X P
        all_goals first
         |exact P
         |(obtain⟨b,e,P⟩:=P;exact⟨b,e,Rw.under P X⟩)
       case fq=>
        refine⟨?_,?_,?_,?_,?_,?_,trivial⟩
        all_goals
         intro x w h a0;simp only[oI,oF,fr,qD,Fv,Fa,eqv,ptr,ς,nU] at a0|-;obtain⟨fu,fv,fw⟩:=cT.o w (aY.o.trans ((am.o.trans (h.mono am.o.size)).mono aY.o.size));obtain⟨fa,fb,fc,fd,fe,ff,fg⟩:=ql h b6.o;unfold aj
        case refine_6=>rw[a0];go_simp;exact⟨sL w (tB [(gK,aE)]) (9:V) 2,pM _ _⟩
        all_goals(go_simp;exact pH _ _)
       case eK=>
        intro x w h a0;simp only[show az 6=[0,1,2,3,4,5] from rfl,oI,oF,fr,qD,Fv,Fa,eqv,ptr,ς,nU,nS,nO] at a0|-;obtain⟨bk,-,-,-,-,⟨b,an,af⟩⟩:=a0;rw[bk,an];have bA:=I h;have de:=I (Du pQ (at3 ⟨bV,aP,aQ,aE,bW,bU⟩) [(gK,aE)] (G F 3 c1) (G R 0 c2) (H ⟨b,0,U⟩) 2 w ((wk.rw bz.o).under h) ⟨_,_,_,rfl⟩ af (by simp) (by simp[at3]) (by simp));clear h bk an af
        go_wp2_with fail
        refine de.o.mono ?_;rintro e e9⟨⟨ft,bG,a3⟩,dI⟩;obtain⟨bQ,bR,da⟩:=υ a3;replace da:ft=G bQ 4 bR:=da;subst da;obtain rfl:e=η (.agg #[M O 0,J ⟨#[]⟩,J pQ,G bQ 4 bR,G R 0 c2,J ⟨#[]⟩,M O 0]):=bG;have dg:=I (show ah bv.heap.size bv e9 from bA.o.trans (dI.mono bA.o.size));have cS:=I (pW dg.o b6.o);have ea:=I (show wk b4.heap.size e9 (G bQ 4 bR) (at3 ⟨bV,aP,aQ,aE,bW,bU⟩++[(gK,aE)]) from aC a3 (pF am.o.size bA.o.size));clear a3 dI de
        go_wp2_with(refine oN rfl 100 _ _ rfl _ #[M O 0,J ⟨#[]⟩,J pQ,G bQ 4 bR,G R 0 c2,J ⟨#[]⟩,M O 0] rfl rfl 100 _ cS.o (by kernel_rfl) rfl (by simp[ay]) ?_)
        go_wp2_with fail
        go_meet
        exact⟨rfl,bQ,R,4,bR,c2,_,I (og _ _ _ _ _ _ cS.o),cN,I (MD _ ea.o cS.o),I rfl,I (pS (am.o.trans (dg.o.mono am.o.size)) aD.o _)⟩
     case rest=>
      clear b6 bz am;clear F c1 R c2;obtain⟨rfl,F,R,aU,c1,c2,at',b6,ei,bz,fy,am⟩:=hcut;clear bv;obtain⟨bv,rfl⟩:∃w,w=wc:=⟨_,rfl⟩;have dl:=I (Q7 (n:=pQ) R c2 bz.o);have en:=I (Γ cP.o am.o);have ep:=I am.o.size;have cr:=I (pW am.o cq.o);have dr:=I (pW am.o dq.o);have ed:=I (cK.o.trans (am.o.mono cK.o.size))
      go_upto_region 6 with fail
      refine MF 7 [[],[],[1],[0,2],[],[4],[0,1,2,3]] [H 44,H 45,H 46,H 47,H 48,H 49,U] (by kernel_rfl) (by kernel_rfl) (by kernel_rfl)
       (Cl6 W bv (G ac a8 ad) ak) (Q8 W (G ac a8 ad))
       [eqv (G ac a8 ad),eqv (.agg #[M O 0,J ⟨#[]⟩,J pQ,G F aU c1,G R 0 c2,J ⟨#[]⟩,M O 0]),λ_ v w=>∃b,v=G (H ⟨b,0,U⟩) 1 1/\w.heap[b]?=H (Y #[M O 0,J ⟨#[]⟩,J pQ,G F aU c1,G R 0 c2,J ⟨#[]⟩,M O 0] (100:V))/\bv.heap.size<=b,
        λ_ v w=>tA (W.heap.size+2) w v (ak++[.el pQ at' []]),eqv (G (H ⟨g,o,U⟩) a1 a2),λ_ v _=>∃a,v=G a (a1-1) (a2-1)/\(1<a1->a=H ⟨g,o+6,U⟩),λd _ w=>w.heap[W.heap.size+1]?=H (Y #[d.getD 3 undef] (98:V))] ?start ?dc ?step ?bD
      case start=>exact⟨oZ _,Go.Proofs.YthbhmjdcfocphaaGreatDoor.Rw.below_drewN ed.o 1,λ_ _ _ _=>rfl,λ_=>cr.o,λ_=>qK en.o rfl λ_ _=>rfl⟩
      case dc=>
       intro cj bu fI dO cE eA fS w w' ag aV;unfold Q8 at ag;have d5:bu=0\/bu=1\/bu=2\/bu=3\/bu=4\/bu=5\/bu=6:=(by omega);rcases d5 with rfl|rfl|rfl|rfl|rfl|rfl|rfl
       ·exact aV
       ·exact aV
       ·obtain⟨b,e,X,d1⟩:=aV
        refine⟨b,e,Eq.trans ?_ X,d1⟩;have a9:=ep.o;have a3:=cr.o;have an:=E a3
        by_cases ax:cj=3
        ·rw[oD ax] at ag
         exact ag.block b (E X) λbj=>by have:=ae.o b bj.symm;omega
        ·rw[oU ax] at ag
         by_cases bS:cj=6
         ·rw[oD bS] at ag
          exact ag.2 b (by omega)
         ·rw[oU bS] at ag
          exact ag.block b (E X)
       ·by_cases bS:cj=6
        ·rw[oU (by omega),oD bS] at ag
         exact qK aV ag.1 λq a4=>ag.2 q (by omega)
        ·rw[oU (by omega),oU bS] at ag
         exact Γ aV ag
       ·exact aV
       ·exact aV
       ·refine Eq.trans ?_ aV
        by_cases ax:cj=3
        ·rw[oD ax] at ag
         exact ag.block _ (E aV) λbj=>by have:=ae.o _ bj.symm;omega
        ·rw[oU ax,oU (by omega)] at ag
         exact ag.block _ (E aV)
      case step=>
       refine⟨?_,?_,?_,?_,?_,?_,?_,trivial⟩
       all_goals
        intro L x w bn eQ h a0;simp only[oI,oF,fr,qD,Fv,Fa,eqv,ptr,ς,nU] at a0|-
       case refine_1=>have X:=pJ (j:=0) (h.bx (eQ 6 (by kernel_rfl))) rfl;unfold aj;go_simp;exact⟨h.step 0 (pH _ _) (by decide) (by decide),Q8.of (pH _ _) (by decide) (by decide)⟩
       case refine_2=>obtain⟨fa,fb,fc,fd,fe,ff,fg⟩:=ql (pH _ _) ((h.kp N (E b6.o) (by have Q:=E cq.o;have y:=aD.o;omega) (λe=>by have Q:=ae.o N e;have y:=aD.o;omega)).trans b6.o);unfold aj;go_simp;exact⟨h.step 1 (pH _ _) (by decide) (by decide),Q8.of (pH _ _) (by decide) (by decide)⟩
       case refine_3=>
        unfold aj;have dJ:=pM w (Y #[M O 0,J ⟨#[]⟩,J pQ,G F aU c1,G R 0 c2,J ⟨#[]⟩,M O 0] (100:V));obtain⟨_,a4⟩:=Array.getElem?_eq_some_iff.1 (pG w (Y #[M O 0,J ⟨#[]⟩,J pQ,G F aU c1,G R 0 c2,J ⟨#[]⟩,M O 0] (100:V)));go_simp;refine⟨h.step 2 dJ (by decide) (by decide),?_,Q8.of dJ (by decide) (by decide)⟩
        first|exact⟨a4,h.sz⟩|exact h.sz
       case refine_5=>unfold aj;go_simp;exact⟨h.step 4 (pH _ _) (by decide) (by decide),Q8.of (pH _ _) (by decide) (by decide)⟩
       case refine_4=>
        obtain⟨cU,b,b0,X,d1⟩:=a0;rw[cU,b0];refine Ck w (.tmp 44) (.tmp 46) rfl tiN bO.o (by go_simp) (h.rw bn) (G (H ⟨b,0,U⟩) 1 1) 1 [.el pQ at' []] [qA pQ (G F aU c1) (G R 0 c2)] (by go_simp) (DU (cs:=qA pQ (G F aU c1) (G R 0 c2)) X rfl) rfl rfl (λu aF=>tG.one (dl.o u λk Q y _=>?_)) ⟨λc bo=>by rw[mW] at bo;rw[bo];rfl,λu aF=>tQ.one dl.o.here u (by simpa using aF)⟩ ?_ ?_ (by decide) ?_
        ·have an:=er.o
         have af:=bh.o;have cw:=E cq.o;have ap:(χ ac a8 ad).ownBlock≠H k:=λe=>by have:=ae.o k e;omega
         exact(aF k (by omega) (oQ y h.sz) (λe=>ap e.symm)).trans (h.kp k y (by omega) ap)
        ·have:=E cr.o
         have:=h.sz;omega
        ·have:=ao.o
         have bm:=nT aJ cM.o;rw[bO.o,oS,nQ] at bm;omega
        ·intro e8 w' a9 a3 an _
         have fh:on L 3 6=L 6:=(by unfold on;simp);have cw:=E cr.o;refine⟨⟨pF h.sz a3.size,h.bw.grown a3 h.bw.size λk e=>(by have:=ae.o k e;omega),λq Q y af=>(a3.block q (oQ Q h.sz) λe=>af e.symm).trans (h.kp q Q y af),λe=>?_,λe=>av e (by simp[on])⟩,a9,by unfold Q8;rw[oD rfl];exact a3⟩;have bI:=h.bx (fh▸e);exact(a3.block _ (E bI) λe=>by have:=ae.o _ e.symm;omega).trans bI
       case refine_6=>
        rw[a0];have fQ:(1:Z)<=(a1:Z):=(by omega);unfold aj
        by_cases f5:a2=1
        ·subst f5
         go_simp
         first
          |exact⟨h.step 5 (pH _ _) (by decide) (by decide),Q8.of (pH _ _) (by decide) (by decide)⟩
          |exact⟨h.step 5 (pH _ _) (by decide) (by decide),by omega,Q8.of (pH _ _) (by decide) (by decide)⟩
        ·go_simp
         exact⟨h.step 5 (pH _ _) (by decide) (by decide),Q8.of (pH _ _) (by decide) (by decide)⟩
       case refine_7=>
        have a9:=a0.2.2.2;have bI:=h.bx bn;refine Jl w 98 (.tmp 5) (.tmp 47) rfl (W.heap.size+1) 0 (x 3) _ (by go_simp) (by go_simp) ?_ (pJ (j:=0) bI rfl) (yY bI 0) (by kernel_rfl) ⟨?_,?_,?_⟩
        ·obtain⟨eu,bi,ax⟩:=υ a9
         rw[ax];rfl
        ·exact⟨pF h.sz (lG (mA ..).symm),h.bw.setCell (p:=⟨W.heap.size+1,0,U⟩) (nu _) _,λq Q y af=>(pz _ _ _ _ y).trans (h.kp q Q y af),λe=>av e (by simp[on]),λe=>qK (h.rw ((show on L 6 3=L 3 by unfold on;simp)▸e)) (mA ..) λq a4=>pz _ _ _ _ (Nat.ne_of_gt a4)⟩
        ·exact uL _ bI
        ·unfold Q8
         rw[oU (by decide),oD rfl];exact⟨mA ..,λq a4=>pz _ _ _ _ a4⟩
      case bD=>
       intro L x w bn h a0;simp only[show az 7=[0,1,2,3,4,5,6] from rfl,oI,oF,fr,qD,Fv,Fa,eqv,ptr,ς,nU,nS,nO] at a0|-;obtain⟨-,-,-,a9,-,⟨ev,an,dB⟩,af⟩:=a0;obtain⟨eu,bi,ax⟩:=υ a9;rw[an];have bg:=I (show tA (W.heap.size+2) w (x 3) ((l.take (i+1)).map leaf) by rw[cQ.o,nv,cM.o];simp only[ou,mU,ei.o];exact a9);have es:=I af;have eb:=I dB;have ee:=I ((h.kp W.heap.size (E dr.o) (by omega) (λe=>by have:=ae.o _ e;omega)).trans dr.o);have ec:=I h.bw;clear bn h a9 an dB af ax
       go_wp2_with fail
       go_roundw
       case rel=>exact⟨i+1,ev,x 3,by omega,λP=>by have Q:=ao.o;have y:=cO.o;rw[eb.o (by omega),show al+(i+1)*6=o+6 by omega],by have Q:=ao.o;have y:=bC.o;rw[show m-(i+1)=a1-1 by omega,show cap-(i+1)=a2-1 by omega],ee,es,bg,ec⟩
       case measure=>show a1-1<a1;omega
   ·have eY:i=k:=by omega
    subst eY;have bg:=I (show tA (W.heap.size+2) wr (G ac a8 ad) ((own d l).map leaf) by rw[<-eq.o,cM.o];exact bP.o)
    by_cases dQ:i<m
    ·obtain rfl:=b8 dQ
     have b9:i<l.length:=(by rw[b5.o];omega);have bK:=dk.o i b9;obtain⟨vp,ve,ai,ct,au,-,-,-,-,-⟩:=cI.o i b9;obtain⟨fm,fn,fi,fj,rfl,-,-⟩:=qp ai;obtain⟨e5,dT⟩:=pL (l[i].path.length);rw[dT] at au bK;obtain⟨o,ap⟩:=pL (al+i*6);rw[ap] at au|-;replace au:=pI au aM;have e0:0<a1:=(by have:=ao.o;omega);have cF:(0:Z)<(a1:Z):=(by omega);have b2:decide ((0:Z)<(a1:Z))=true:=nK cF
     have b1:((e5:Z)==(d:Z))=false:=by rw[oq];intro e;have:e5=d:=(by omega);exact av (bK.1 this) (by omega)
     have cO:=I ap;clear ai ct dT ap bK b8 aM b9 dN
     go_wp2_with fail
     go_quiet(fail)
     go_wp2_with fail
     go_meet
     exact⟨H ⟨g,o,U⟩,_,λ_=>by rw[cO.o],by rw[ao.o,bC.o],cR,aT,qK bg.o rfl λ_ _=>rfl,I (aZ.o.trans ((Ω wr nq).mono aZ.o.size))⟩
    ·obtain rfl:a1=0:=by have:=ao.o;omega
     have b2:decide ((0:Z)<((0:V):Z))=false:=(by decide);have fG:decide ((0:Z)<0)=false:=(by decide);clear b8 aM dN
     go_wp2_with fail
     go_quiet(fail)
     go_wp2_with fail
     go_meet
     exact⟨a,_,λP=>av P dQ,by rw[ao.o,bC.o],cR,aT,qK bg.o rfl λ_ _=>rfl,I (aZ.o.trans ((Ω wr nq).mono aZ.o.size))⟩
 case rest=>
  clear cp cl co;obtain⟨a,r,b8,rfl,bs,aN,aq,aW⟩:=hcut;obtain⟨L,bn⟩:=pL (deep d l);obtain⟨a7,cf⟩:=pL (tW (nth d) L);obtain⟨a1,br⟩:=pL (m-k);obtain⟨a2,bq⟩:=pL (cap-k);rw[br,bq];have eO:=E aN.o;obtain⟨c1,c2,bi⟩:=sM wc (Y #[G a a1 a2] (22:V)) (Y #[M O d] (3:V))
  have bB:=I (show RI W d wc.heap.size ((own d l).map leaf) ((wc.alloc (Y #[G a a1 a2] (22:V))).alloc (Y #[M O d] (3:V))) from
   ⟨by omega,⟨r,pW bi aN.o,Γ aq.o bi⟩,pW bi bs.o,⟨_,c1⟩,c2,aW.o.trans (bi.mono aW.o.size)⟩)
  have cJ:=I c1;have bh:=I (show wc.heap.size+1<((wc.alloc (Y #[G a a1 a2] (22:V))).alloc (Y #[M O d] (3:V))).heap.size from E c2);have bf:=I bn;have aD:=I cf;have ao:=I br;have bC:=I bq;have ck:=I b8;have b7:=pJ (j:=0) bs.o rfl;have dd:=I (OT a a1 a2 d wc);clear bn cf br bq b8 bs aN aq aW c1 c2 bi eO
  go_wp2_with fail
  refine dd.o.mono ?_;rintro e b4⟨rfl,rfl⟩;generalize(wc.alloc _).alloc _=b4 at bB cJ bh|-;generalize wc.heap.size=B at bB cJ bh|-;clear dd b7
  go_wp2_with fail
  generalize cx:({tmps:=_,defers:=_}:Act)=A
  refine Rn.Wd (gf:=306) (lb:=#[ε (H ⟨B,0,U⟩),ε (H ⟨B+1,0,U⟩)]) (by rw[<-cx];rfl) (enters_of Tryz.func306 (by kernel_rfl) rfl) (N:=a7.length) (encs:=MH g (al+k*6) a2 a7) (λ_=>rfl)
   (λq u=>RI W d B ((own d l).map leaf++(a7.take q).map (Θ n d)) u/\(q=0->u.heap[B]?=H (Y #[G a a1 a2] (22:V)))) ?bk ?bY (λq=>q=B\/q=B+1) ?bJ ?hseq
   (λq=>{tmps:=(((A.tmps.setIfInBounds 53 (J (Vn a7 q).1)).setIfInBounds 54 (G (H ⟨g,al+k*6+Cm a7 q*6,U⟩) (Vn a7 q).2.length (a2-Cm a7 q))).setIfInBounds 7 (J (Vn a7 q).1)).setIfInBounds 8 (G (H ⟨g,al+k*6+Cm a7 q*6,U⟩) (Vn a7 q).2.length (a2-Cm a7 q)),defers:=[]}) ?hassign ?hbody ?hdone
  case bk=>exact⟨by simpa using bB.o,λ_=>cJ.o⟩
  case bY=>
   rintro q u aB row⟨Q,y⟩ b2 bp;have dU:∀x,row=H x->W.heap.size<=x/\∃o:Obj,u.heap[x]?=H o/\o.isCells=false:=λx e=>⟨by have a9:=(bp x e).1;have a3:=bB.o.bw.size;omega,(bp x e).2⟩
   refine⟨Q.grown b2 dU,λe=>(b2.block B (E (y e)) λb0=>?_).trans (y e)⟩;obtain⟨-,o,ax,bj⟩:=dU B b0.symm;exact OY ax bj (y e) rfl rfl
  case bJ=>
   rintro q (rfl|rfl)
   ·have:=bh.o;omega
   ·exact bh.o
  case hseq=>
   intro lb et u bk bZ dF eR
   have aR:L.length=a1:=by rw[<-bf.o,cL.o.2,nN,b5.o];exact ao.o
   have dE:=bZ 0 u bk;have dK:=dE.2 rfl;rw[<-aR] at dK;have P:=it_is d L W g (al+k*6) a2 a eW (by rw[aR];have:=ao.o;omega) (by rw[aR];have:=ao.o;have:=bC.o;omega) (λP=>ck.o (by rw[aR] at P;have:=ao.o;omega)) ?_ ?_ B (B+1) (by omega) (by have:=bB.o.hB;omega) lb et (λq v ab=>(bZ q v ab).1.bw) ?_ ?_ u bk dK dE.1.bd ?_
   ·rw[aD.o] at P;exact P
   ·intro j d5
    have dO:k+j<l.length:=(by rw[aR] at d5;have:=ao.o;have:=b5.o;omega);obtain⟨vp,ve,ai,ct,au,-,-,-,-,-⟩:=cI.o (k+j) dO
    have eP:L[j]=l[k+j]:=by have:L=l.drop k:=(by rw[<-bf.o];exact cL.o.2);subst this;rw[lM]
    exact⟨vp,by rw[eP];exact ai,by rw[show al+k*6+j*6=al+(k+j)*6 by omega];exact au⟩
   ·intro f aS
    rw[<-bf.o] at aS;have Q:=List.mem_filter.1 aS;have y:=dj.o f Q.1;have a9:f.path.length≠d:=(by simpa using Q.2);omega
   ·intro q v x x' ab bG
    refine dF (q+1) v _ ab ⟨(bZ _ _ ab).1.setBl x',λe=>av e (by omega)⟩ (lG (mA ..).symm) λp o _ b3 bo=>?_
    exact(pz _ _ _ _ (λe=>OY b3 bo bG rfl e.symm)).trans b3
   ·intro q v x ab
    exact dF q v _ ab ⟨(bZ _ _ ab).1.drawn x,λe=>(bZ _ _ ab).2 e⟩ (oZ _) λp o _ b3 _=>b3
   ·intro q v a4 ab
    rw[aD.o] at a4|-;exact(eR q v a4 ab).mono λe w P=>⟨P.1,P.2.1,P.2.2 _ (.inl rfl),P.2.2 _ (.inr rfl)⟩
  case hassign=>
   intro lb q u K a4 cy;subst cx;have aS:∀T:aL D,(#[53,54].zip (MH g (al+k*6) a2 a7 q)).foldl (λt (x:Tmp×D)=>t.setIfInBounds x.1 x.2) T=(T.setIfInBounds 53 (J (Vn a7 q).1)).setIfInBounds 54 (G (H ⟨g,al+k*6+Cm a7 q*6,U⟩) (Vn a7 q).2.length (a2-Cm a7 q)):=λT=>by simp[MH]
   rw[aS]
   gi_wp2
   exact cy
  case hbody=>
   rintro lb q u a4⟨aa,-⟩;subst cx;refine wpIn_block ?_;refine Rn.KF (by kernel_rfl) (by kernel_rfl) ?_ ?_
   ·rintro⟨x,C,P⟩
    cases P.1
   obtain⟨r,aN,aq⟩:=aa.ot;obtain⟨ak,ba⟩:=pL ((own d l).map leaf++(a7.take q).map (Θ n d));rw[ba] at aa aq;obtain⟨s,a6,cB,bt,ce,cA,d2,d4⟩:=run_at (d:=d) (L:=L) (by rw[aD.o];exact a4);simp only[aD.o] at cB bt ce cA;simp only[bt];have aR:L=l.drop k:=(by rw[<-bf.o];exact cL.o.2);have f1:L.length=m-k:=(by rw[aR,nN,b5.o])
   have ci:ak.length<=2000000:=by rw[<-ba,o_,oS,oS,nQ,bN.o];have Q:=Jm (nth d) L;rw[aD.o] at Q;omega
   obtain⟨f,aS⟩:∃f,f∈a6:=⟨a6[0],pq d2⟩;have cc:=(d4 f aS).2;have cz:f∈l:=(by rw[aR] at cc;exact iX cc)
   have eX:d<64:=by
    have Q:=cm.o.pl f cz;have y:=dj.o f cz
    have a9:f.path.length≠d:=by rw[<-bf.o] at cc;simpa using(List.mem_filter.1 cc).2
    omega
   obtain⟨bL,d7⟩:∃bL,n=bL+1:=⟨n-1,by omega⟩;obtain⟨ai,dM⟩:=pL (Cm a7 q);obtain⟨cu,bH⟩:=pL a6.length;rw[dM] at ce cA|-;rw[bH] at ce cA d2|-;obtain⟨o,ap⟩:=pL (al+k*6+ai*6);rw[ap]
   have eg:=I (show∀v,ah W.heap.size W v->Calls Tryz.prog 201 #[G (H ⟨g,o,U⟩) cu (a2-ai),M O ((d:Z)+1)] v λe w'=>(∃bb,e=η bb/\tA v.heap.size w' bb (outs n (d+1) a6))/\ah v.heap.size v w' fromλv ab=>by
    have d6:0<l.length:=List.length_pos_of_mem cz
    have eS:rY W (G (H ⟨g,al,U⟩) m cap) l:=by have Q:=cm.o.ar;rw[b5.o,df.o (by rw[b5.o] at d6;exact d6)] at Q;exact Q
    have Q:=ar_sub eS (k+ai) cu (a2-ai) (by rw[b5.o];omega) d6;have y:a6=(l.drop (k+ai)).take cu:=(by rw[ce,aR,lE]);rw[<-y,show al+(k+ai)*6=o by rw[<-ap];omega] at Q;have a9:=cm.o.fo.run (g:=(s,a6)) (by rw[dn.o,bf.o,aD.o,<-cB];exact pq a4);have a3:=eh.o bL d7 (p++[s]) a6 (H ⟨g,o,U⟩) (a2-ai) v (by rw[o_,dn.o];rfl) ⟨by rw[bH];exact Q.under ab,a9,λf aS=>cm.o.pl f (by have an:=(d4 f aS).2;rw[aR] at an;exact iX an),by rw[bH];omega⟩ (by rw[bH];have:=bC.o;omega);rw[bH,<-d7,show((d+1:V):Z)=(d:Z)+1 by omega] at a3;exact a3)
   have ek:=I (show(outs n (d+1) a6).length<=1000000 by have Q:=xA n (d+1) a6;omega);obtain⟨ac,ad,bp⟩:=υ aq;obtain⟨a8,d8⟩:=pL ak.length;rw[d8] at bp ci;subst bp;obtain⟨a5,dS⟩:=pL ((outs n (d+1) a6).length);obtain⟨aO,dD⟩:=pL u.heap.size;have ae:=I (show∀x,(χ ac a8 ad).ownBlock=H x->W.heap.size+2<=x/\x<aO fromλx e=>by have:=rlt aq e;omega);have bO:=I d8;have dm:=I dS;have em:=I aa;have bP:=I aq;have aT:=I aN;have be:=I dD;have aZ:=I aa.bw;have dh:=I aa.dp
   have eo:=I (show(own d l).map leaf++(a7.take (q+1)).map (Θ n d)=ak++[Θ n d (s,a6)] by rw[Mg.qi a4,nv,<-m_,ba,cB];rfl)
   have ef:=I (show Θ n d (s,a6)= .el pQ [(rZ,s)] (outs n (d+1) a6) from rfl);have fF:(d:Z)<=64:=(by omega);have fO:(a8:Z)<=2000000:=(by omega);clear aa aN aq ba cB ce cA d2 d4 aR f1 cc cz aS d7 dM bH ap d8 dS dD a4 eX;simp only[List.setIfInBounds_toArray,List.set_cons_succ,List.set_cons_zero]
   refine any_k 12 11 [[],[],[],[2],[1,3],[4],[],[6],[5,7],[0],[],[0,1,2,3,4,5,6,7,8,9,10]] [H 55,H 56,H 57,H 58,H 59,H 60,H 61,H 62,H 63,H 64,H 65,H 66] (by kernel_rfl) (by kernel_rfl)
    (λw w'=>w.grownBy w' (χ ac a8 ad).ownBlock/\(tA (W.heap.size+2) w (G ac a8 ad) ak->tA (W.heap.size+2) w' (G ac a8 ad) ak)) (λw w' X=>⟨yt X,λP=>Γ P X⟩) (λx C z Q y=>⟨yu Q.1 y.1,λP=>y.2 (Q.2 P)⟩)
    [eqv (G ac a8 ad),eqv (G (H ⟨g,o,U⟩) cu (a2-ai)),eqv (M O d),eqv (M O ((d:Z)+1)),λ_ v w=>∃a c,v=G a a5 c/\tA aO w (G a a5 c) (outs n (d+1) a6),
     λ_ v w=>∃a c,v= .agg #[M O 0,J ⟨#[]⟩,J pQ,G U 0 0,G a a5 c,J ⟨#[]⟩,M O 0]/\tA aO w (G a a5 c) (outs n (d+1) a6),
     eqv (J s),λ_ v w=>∃b,v=G (H ⟨b,0,U⟩) 2 2/\aO<=b/\w.heap[b]?=H (Y #[J rZ,J s] (9:V)),
     λ_ v w=>∃F c1 R c2,v= .agg #[M O 0,J ⟨#[]⟩,J pQ,G F 1 c1,G R a5 c2,J ⟨#[]⟩,M O 0]/\NV aO w (Θ n d (s,a6)) (qA pQ (G F 1 c1) (G R a5 c2)),
     eqv (M O a8),λ_ v w=>∃b,v=G (H ⟨b,0,U⟩) 1 1/\aO<=b/\w.heap[b]?=H (Y #[M O 0,J ⟨#[]⟩,J ⟨#[]⟩,G U 0 0,G U 0 0,J ⟨#[]⟩,M O 0] (100:V)),
     λeB v w=>tA (W.heap.size+2) w v (ak++[.el ⟨#[]⟩ [] []])/\∃F c1 R c2,eB.getD 8 undef= .agg #[M O 0,J ⟨#[]⟩,J pQ,G F 1 c1,G R a5 c2,J ⟨#[]⟩,M O 0]/\∀aB,Agree (W.heap.size+2) w aB v.ownBlock->tQ aB (Θ n d (s,a6)) (qA pQ (G F 1 c1) (G R a5 c2))] ?fl ?fs (Tt (by kernel_rfl)) ?eL
   case fl=>
    have cg:∀k,(χ ac a8 ad).ownBlock=H k->k<aO:=λk e=>(ae.o k e).2
    refine⟨?_,?_,?_,?_,?_,?_,?_,?_,?_,?_,?_,?_,trivial⟩
    all_goals intro eA bb w w' X P
    all_goals first
     |exact P
     |(rw[oU (by decide)] at X;obtain⟨a,c,e,P⟩:=P;exact⟨a,c,e,row_grn P X.2.1 cg⟩)
     |(rw[oU (by decide)] at X;obtain⟨b,e,Q,P⟩:=P;exact⟨b,e,Q,(X.2.1.block b (E P) λe=>by have:=cg b e.symm;omega).trans P⟩)
     |(rw[oU (by decide)] at X;obtain⟨F,c1,R,c2,e,P⟩:=P;exact⟨F,c1,R,c2,e,nv_grn P X.2.1 cg⟩)
     |(rw[oD rfl] at X;obtain⟨Q,F,c1,R,c2,e,P⟩:=P;exact⟨Γ Q X,F,c1,R,c2,e,λaB aF=>P aB (Agree.below X aF)⟩)
   case fs=>
    refine⟨?_,?_,?_,?_,?_,?_,?_,?_,?_,?_,?_,?_,trivial⟩
    all_goals
     intro x w h a0;simp only[oI,oF,fr,qD,Fv,Fa,eqv,ς,nU,Nat.reduceEqDiff,↓reduceIte] at a0|-;have dG:∀b,b<aO->(χ ac a8 ad).ownBlock≠H b->w.heap[b]?=u.heap[b]?:=λb X f2=>h.1.block b (by rw[be.o];exact X) λe=>f2 e.symm
     have cY:aO<=w.heap.size:=(by rw[<-be.o];exact h.1.size);have aW:ah W.heap.size W w:=aZ.o.grown h.1 aZ.o.size λk e=>by have:=ae.o k e;omega
     have e7:=pJ (j:=0) ((dG (W.heap.size+1) (by rw[<-be.o];exact E aT.o) λe=>by have:=ae.o _ e;omega).trans aT.o) rfl;have e6:=pJ (j:=0) ((dG W.heap.size (by rw[<-be.o];exact E dh.o) λe=>by have:=ae.o _ e;omega).trans dh.o) rfl
    case refine_5=>obtain⟨b7,ax⟩:=a0;rw[b7,ax];unfold aj;go_simp;refine(eg.o w aW).mono ?_;rintro e w'⟨⟨bb,rfl,y⟩,X⟩;obtain⟨a,c,ab⟩:=υ y;rw[dm.o] at ab;subst ab;exact⟨⟨a,c,rfl,aC y cY⟩,X⟩
    case refine_6=>obtain⟨a,c,bj,a3⟩:=a0;rw[bj];unfold aj;go_simp;refine(AO pQ _ (G a a5 c) aO w a3 cY ek.o).mono ?_;rintro e w'⟨⟨bb,rfl,y⟩,X⟩;obtain⟨a',ex,ab⟩:=υ y;rw[dm.o] at ab;subst ab;exact⟨⟨a',ex,rfl,y⟩,X⟩
    case refine_8=>rw[a0];unfold aj;go_simp;obtain⟨_,a4⟩:=Array.getElem?_eq_some_iff.1 (pG w (Y #[J rZ,J s] (9:V)));exact⟨a4,pM _ _⟩
    case refine_9=>obtain⟨⟨a,c,eD,an⟩,⟨b,eE,fE,cw⟩⟩:=a0;rw[eD,eE];unfold aj;go_simp;refine(Du pQ [] [(rZ,s)] (G U 0 0) (G a a5 c) (H ⟨b,0,U⟩) 2 w (Rw.nil _ 4) ⟨_,_,_,rfl⟩ (rw_str2 cw) (by simp) (by simp) (by simp)).mono ?_;rintro e w'⟨⟨bb,rfl,y⟩,X⟩;obtain⟨F,c1,rfl⟩:=υ y;exact⟨⟨F,c1,a,c,rfl,by rw[ef.o];exact Ao (aC y cY) (Γ an X)⟩,X⟩
    case refine_11=>unfold aj;go_simp;obtain⟨_,a4⟩:=Array.getElem?_eq_some_iff.1 (pG w (Y #[M O 0,J ⟨#[]⟩,J ⟨#[]⟩,G U 0 0,G U 0 0,J ⟨#[]⟩,M O 0] (100:V)));exact⟨a4,pM _ _⟩
    case refine_12=>
     have bF:=a0.2.2.2.2.2.2.2.2.1;have cv:=a0.2.2.2.2.2.2.2.2.2.2;have f0:tA (W.heap.size+2) w (G ac a8 ad) ak:=h.2 bP.o;obtain⟨b,eC,fD,eT⟩:=cv;obtain⟨F,c1,R,c2,cV,bF⟩:=bF;rw[a0.1,eC];refine Ck w (.tmp 55) (.tmp 65) rfl tiN bO.o (by go_simp) f0 (G (H ⟨b,0,U⟩) 1 1) 1 [.el ⟨#[]⟩ [] []] [qA ⟨#[]⟩ (G U 0 0) (G U 0 0)] (by go_simp) (DU (cs:=qA ⟨#[]⟩ (G U 0 0) (G U 0 0)) eT rfl) rfl rfl (λaB aF=>tG.one ((Ao (S:=0) aA aA:NV 0 aB _ _).here)) ⟨λc bo=>by rw[mW] at bo;rw[bo];rfl,λaB aF=>tQ.one ((Ao (S:=0) (w:=w) (n:=⟨#[]⟩) (a:=[]) (ks:=[]) aA aA).here) aB (by simpa using aF)⟩ (by have:=ae.o;have:=aW.size;have bm:=E aT.o;rw[be.o] at bm;omega) (by omega) (by decide) ?_;intro e8 w' a9 a3 an af;refine⟨⟨a9,F,c1,R,c2,cV,λaB aF=>bF aB λk fR e4 _=>?_⟩,a3,λ_=>an⟩
     have cE:H k≠e8.ownBlock:=λe=>by
      rcases af with af|⟨C,af,cw⟩
      ·rw[af] at e;have:=ae.o k e.symm;omega
      ·rw[af] at e;have:=nV e;omega
     refine(aF k (by have bm:=E aT.o;rw[be.o] at bm;omega) (oQ e4 a3.size) cE).trans (a3.block k e4 λe=>by have:=ae.o k e.symm;omega)
    all_goals(unfold aj;go_simp;first|exact pH _ _|exact⟨IntWalk.i64_in _ (by omega),pH _ _⟩)
   case eL=>
    intro x w h a0;simp only[show az 12=[0,1,2,3,4,5,6,7,8,9,10,11] from rfl,oI,oF,fr,qD,Fv,Fa,eqv,ς,nU] at a0|-;obtain⟨-,-,-,-,-,-,-,-,-,bT,-,bE,F,c1,R,c2,cV,bF⟩:=a0;rw[bO.o.symm] at bT;obtain⟨b,ez,cW,dx,fC,d1,dX,dV,fH⟩:=MJ bE bF;have di:=be.o;have cZ:=aT.o;have eU:W.heap.size+1<aO:=(by rw[<-di];exact E cZ);have db:w.heap[W.heap.size+1]?=H (Y #[G ac a8 ad] (98:V)):=(h.1.block _ (by rw[di];exact eU) λe=>by have:=ae.o _ e.symm;omega).trans cZ
    have key:∀w':ο,w'.heap.size=w.heap.size->(∀C,W.heap.size+2<=C->w'.heap[C]?=w.heap[C]?)->w'.there b (ak.length*7) 7/\tA (W.heap.size+2) (w'.setCells b (ak.length*7) (qA pQ (G F 1 c1) (G R a5 c2))) (x 11) (ak++[Θ n d (s,a6)]):=λw' cG cH=>by
     obtain⟨fz,fA,-,dy,-,-,b1,bX,-⟩:=MJ (qK bE cG cH) (t:=Θ n d (s,a6)) (c:=qA pQ (G F 1 c1) (G R a5 c2)) λaB aF=>bF aB λC b1 bX cX=>(aF C b1 (by rw[cG];exact bX) cX).trans (cH C b1)
     rw[dx] at dy;obtain rfl:=nV dy;exact⟨b1,bX⟩
    have bD:∀aw:ο,aw.os=w.os->aw.tape=w.tape->aw.output=w.output->aw.heap.size=w.heap.size->(∀C,C≠b->C≠W.heap.size+1->aw.heap[C]?=w.heap[C]?)->aw.heap[W.heap.size+1]?=H (Y #[x 11] (98:V))->tA (W.heap.size+2) aw (x 11) (ak++[Θ n d (s,a6)])->
     (RI W d B ((own d l).map leaf++(a7.take (q+1)).map (Θ n d)) aw/\(q+1=0->aw.heap[B]?=H (Y #[G a a1 a2] (22:V))))/\(∀C,C=B\/C=B+1->aw.heap[C]?=u.heap[C]?)/\∀C(o:Obj),b4.heap.size<=C->u.heap[C]?=H o->o.isCells=false->aw.heap[C]?=H o:=λaw cG cH f6 f7 e1 f8 f9=>by
     have aa:=em.o;have eZ:∀C o,u.heap[C]?=H o->(χ ac a8 ad).ownBlock≠H C->w.heap[C]?=H o:=λC o Q y=>(h.1.block C (E Q) λe=>y e.symm).trans Q
     have bJ:∀C o,u.heap[C]?=H o->(∀cs fr,o≠Y cs (100:V) fr)->C≠W.heap.size+1->aw.heap[C]?=H o:=λC o Q y a9=>by
      have a3:=eZ C o Q (Gi bP.o Q y);exact(e1 C (λe=>Gi bE a3 y (by rw[dx,e])) a9).trans a3
     obtain⟨vb,dZ⟩:=aa.bl;have eN:=aa.hB;have kb:=bJ B _ dZ (λcs fr e=>by injection e with b7 b0;cases b0) (by omega);have e2:=bJ (B+1) _ aa.bd (λcs fr e=>by injection e with b7 b0;cases b0) (by omega);refine⟨⟨⟨eN,⟨x 11,f8,by rw[eo.o];exact f9⟩,bJ _ _ aa.dp (λcs fr e=>by injection e with b7 b0;cases b0) (by omega),⟨vb,kb⟩,e2,cG.trans (h.1.os.trans aa.bw.os),cH.trans (h.1.tape.trans aa.bw.tape),f6.trans (h.1.output.trans aa.bw.output),by rw[f7];exact pF aa.bw.size h.1.size,λC bt=>(e1 C (by omega) (by omega)).trans ((h.1.block C (oQ bt aa.bw.size) λe=>by have:=ae.o C e.symm;omega).trans (aa.bw.block C bt))⟩,λe=>av e (by omega)⟩,?_,?_⟩
     ·rintro C (rfl|rfl)
      ·rw[kb,dZ]
      ·rw[e2,aa.bd]
     ·intro C o _ Q y
      exact bJ C o Q (λcs fr e=>by subst e;cases y) (λe=>by subst e;rw[cZ] at Q;cases nV Q;cases y)
    have fP:(x 11).oneCell'=true:=(by rw[cW];rfl);obtain⟨aX,dP⟩:=pL ak.length;rw[dP] at bT cW dX key;have e0:(0:Z)<=(aX:Z):=(by omega);have cF:(aX:Z)<((aX+1:V):Z):=(by omega);have cj:aX<aX+1:=lW _;have d3:W.heap.size+1≠b:=(by omega);have ks:=key (w.setCell ⟨W.heap.size+1,0,U⟩ (x 11)) (mA ..) λC bt=>pz _ _ _ _ (by show C≠W.heap.size+1;omega)
    obtain⟨eG,eH,eI,eJ,dz⟩:=qZ b (qA pQ (G F 1 c1) (G R a5 c2)) (aX*7) w;obtain⟨b1,bX,cX,eM,dA⟩:=qZ b (qA pQ (G F 1 c1) (G R a5 c2)) (aX*7) (w.setCell ⟨W.heap.size+1,0,U⟩ (x 11));rw[dP] at dV
    refine IG (md:= .any) 12 (t:=67) (r:=66) (j:=64) (v:=63) (x:=5) (b:=b) (k:=aX) (cap:=ez) (g:=W.heap.size+1) (cells:=#[M O 0,J ⟨#[]⟩,J pQ,G F 1 c1,G R a5 c2,J ⟨#[]⟩,M O 0]) (vr:=x 11) rfl rfl rfl rfl rfl rfl rfl rfl rfl rfl (by decide) (by decide) (by decide) (by simp[Dw]) (by kernel_rfl) (by kernel_rfl) (by kernel_rfl) (by kernel_rfl) (by kernel_rfl) (by kernel_rfl) (by kernel_rfl) (by kernel_rfl) (by kernel_rfl)
     (by go_simp) cW ?ej ?eF (by go_simp) rfl (by simp[ay]) dX ks.1 db d3 ?e6 ?e7
    case ej=>rw[bT];go_simp
    case eF=>rw[cV];go_simp
    case e6=>rw[show(#[M O 0,J ⟨#[]⟩,J pQ,G F 1 c1,G R a5 c2,J ⟨#[]⟩,M O 0]:aL D).toList=qA pQ (G F 1 c1) (G R a5 c2) from rfl];exact⟨rfl,bD ((w.setCells b (aX*7) (qA pQ (G F 1 c1) (G R a5 c2))).setCell ⟨W.heap.size+1,0,U⟩ (x 11)) ((V9 _ _ _).trans eG) ((MB _ _ _).trans eH) ((Gf _ _ _).trans eI) (by rw[mA];exact eJ) (λC Q y=>(pz _ _ _ _ y).trans (dz C Q)) (uL _ ((dz _ d3).trans db)) (qK dV (mA ..) λC bt=>pz _ _ _ _ (by show C≠W.heap.size+1;omega))⟩
    case e7=>rw[show(#[M O 0,J ⟨#[]⟩,J pQ,G F 1 c1,G R a5 c2,J ⟨#[]⟩,M O 0]:aL D).toList=qA pQ (G F 1 c1) (G R a5 c2) from rfl];exact⟨rfl,bD ((w.setCell ⟨W.heap.size+1,0,U⟩ (x 11)).setCells b (aX*7) (qA pQ (G F 1 c1) (G R a5 c2))) (b1.trans (V9 _ _ _)) (bX.trans (MB _ _ _)) (cX.trans (Gf _ _ _)) (by rw[eM];exact mA ..) (λC Q y=>(dA C Q).trans (pz _ _ _ _ y)) ((dA _ d3).trans (uL _ db)) ks.2⟩
  case hdone=>
   rintro fx u⟨bY,-⟩ fB cy;subst cx;obtain⟨fp,Q,y⟩:=bY.ot;have bN:=I cy;have bg:=I (show tA (W.heap.size+2) u fp (outs (n+1) d l) by rw[Jn,bf.o,aD.o];simpa using y);have bM:=I bY.bw;have e3:=pJ (j:=0) Q rfl;clear bY Q y cy
   go_wp2_with fail
   refine⟨by simp,.inl ⟨_,_,rfl,run_takeDeferred bN.o,?_⟩⟩;refine⟨_,results_tmp rfl _ _ _,⟨⟨_,rfl,?_⟩,?_⟩⟩
   ·exact aC (Cn bg.o bN.o (Gj rfl) (Gi bg.o bN.o λcs fr e=>by cases e) (by simp[aI]) λq cE _=>aG cE) (by omega)
   ·exact⟨bM.o.os,bM.o.tape,bM.o.output,by simpa [aI] using bM.o.size,λq a4=>(aG (by have a9:=bB.o.bw.size;omega)).trans (bM.o.block q a4)⟩
end Nd
end Go.Proofs.YthbhmjdcfocphaaGreatDoor
