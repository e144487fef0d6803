/- A part of this proof. -/
import Derived.Test.YthbhmjdcfocphaaGreatDoorK7
import Derived.Test.YthbhmjdcfocphaaGreatDoorKZ
set_option linter.all false
set_option maxHeartbeats 16000000
set_option maxRecDepth 100000
namespace Go.Proofs.YthbhmjdcfocphaaGreatDoor
open Go.Value renaming string→I, slice→H, pointer→ε, int→U
open Go.Obj renaming cells→O
open Go.Ending renaming returned→η
open Go.IntKind renaming i64→V
open Go.Lib renaming hid→G
open Rw renaming lt_of_heap→ν
open Option renaming some→M, none→N
open Go.Value renaming slice→υ, oneCell'→Γ
open Go.RowKit renaming Below→X
open Mo renaming Fd→Δ, okF→aM
open Mg renaming names→Θ, keep→Ω, yN→ay, sx→aE, qi→aI, of→aJ, rI→aK, hd→aL
open _root_ renaming Nat→J, List→Z, Int→Y
open Go renaming Value→Ξ, World→aj, Calls→aG
open Me.Row renaming below→ς, slice→ah, nil→aH
open Go.Proofs.Tryz renaming prog→av, underlying24→aC
open Me renaming Agree→az
namespace Np
open RowKit Rw Vf Mw Me Gr Ke Nr
abbrev FP:=Δ×(Option Addr×J×J)×(Option Addr×J×J)
def pC(x:FP):Z Ξ:=pX x.1 (H x.2.1.1 x.2.1.2.1 x.2.1.2.2) (H x.2.2.1 x.2.2.2.1 x.2.2.2.2)
def id184(x:FP)(w:aj):aG av 184 #[.agg (pC x).toArray] w λe w'=>e=η (I x.1.id)/\X w.heap.size w w':=by
 obtain⟨⟨p,i,t,l,u,es⟩,⟨a,c,c1⟩,b,d,c2⟩:=x;have f:=pG w (O #[H a c c1,I i,I t,I l,U V u,H b d c2] (51:J));obtain⟨-,x1,-⟩:=pN (pH _ _) f;have g:=G (pM w (O #[H a c c1,I i,I t,I l,U V u,H b d c2] (51:J)));clear f
 show aG av 184 #[.agg #[H a c c1,I i,I t,I l,U V u,H b d c2]] w _
 go_enter Tryz.func184,Tryz.ntmps184
 go_wp2_with fail
 go_ret;exact⟨rfl,g.o⟩
def places:∀{w:aj}{l:Z Δ}{L:Z (Z Ξ)},tG vT w l L->∃d:Z FP,d.map (λx=>x.1)=l/\d.map pC=L
 |w,[],L,h=>⟨[],rfl,by rw[oK h.1];rfl⟩
 |w,f::r,[],h=>absurd h.1 (by simp)
 |w,f::r,c::L,h=>by
  obtain⟨vp,ve,e,n,o⟩:=h.2 0 (by simp) (by simp);obtain⟨-,-,g,c1,rfl,-,-⟩:=qp n;obtain⟨-,-,i,c2,rfl,-,-⟩:=qO o;obtain⟨d,k,m⟩:=places (l:=r) (L:=L) ⟨by simpa using h.1,λj a b=>h.2 (j+1) (Nat.succ_lt_succ a) (Nat.succ_lt_succ b)⟩;refine⟨(f,(g,f.path.length,c1),(i,f.pU.length,c2))::d,by simp[k],?_⟩;simp only[ou,m];simp only[jf] at e;rw[e];rfl
abbrev pP(x:FP):Ξ:=H x.2.1.1 x.2.1.2.1 x.2.1.2.2
abbrev pE(x:FP):Ξ:=H x.2.2.1 x.2.2.2.1 x.2.2.2.2
def innards{u:aj}:∀{b:Z FP},tG vT u (b.map λx=>x.1) (b.map pC)->∀a∈b,Rw u (pP a) 1 (a.1.path.map p_)/\Rw u (pE a) 5 (a.1.pU.map pO):=by intro b g a h;obtain⟨j,c,rfl⟩:=mj h;obtain⟨vp,ve,e,d,f⟩:=g.2 j (by simpa using c) (by simpa using c);simp only[oG] at e d f;simp only[pC,pX,nG,nU,kO] at e;obtain⟨rfl,rfl⟩:=e;exact⟨d,f⟩
def pc_at{w:aj}{v:Ξ}{a:Z FP}(h:Rw w v 6 (a.map pC)):∃g b c cap,v=H c a.length cap/\(0<a.length->c=M ⟨g,b,N⟩)/\∀j(e:j<a.length),w.cell? ⟨g,b+j*6,N⟩=M (pP a[j])/\w.cell? ⟨g,b+j*6+1,N⟩=M (.string a[j].1.id)/\w.cell? ⟨g,b+j*6+2,N⟩=M (.string a[j].1.title)/\w.cell? ⟨g,b+j*6+3,N⟩=M (.string a[j].1.link)/\w.cell? ⟨g,b+j*6+4,N⟩=M (U V a[j].1.upd)/\w.cell? ⟨g,b+j*6+5,N⟩=M (pE a[j]):=by
 obtain⟨g,b,c,cap,i,l,m⟩:=Mw.qY h (oS _);refine⟨g,b,c,cap,i,l,λj e=>?_⟩
 have key:∀k(f:k<6),w.cell? ⟨g,b+j*6+k,N⟩=(pC a[j])[k]?:=λk f=>by
  obtain⟨x,d,n⟩:=m j (by rw[oS];exact e) k f;rw[oG] at d;rw[n,d]
 exact⟨key 0 (by omega),key 1 (by omega),key 2 (by omega),key 3 (by omega),key 4 (by omega),key 5 (by omega)⟩
def Wi{w:aj}{c g j:J}{x v:Ξ}{t:TypeId}(d:w.heap[c]?=M (O #[x] t (0,0)))(b:w.cell? ⟨g,j,N⟩=M v)(a:0<j\/v≠x):g≠c:=by
 rintro rfl;unfold World.cell? at b;simp only[d] at b
 cases j with
 |zero=>
  rcases a with a|a
  ·omega
  ·exact a (by simpa using b.symm)
 |succ j=>simp at b
def keepQ:∀(r:Z Δ)(g:Δ),KH g->(∀b∈r,KH b)->KH (Ω g r)
 |[],g,h,_=>h
 |b::r,g,h,hr=>by
  have a:KH (aE g b):=by
   unfold aE
   split
   ·exact hr b (oL ..)
   ·exact h
  exact keepQ r (aL (aE g b)) ⟨a.id,a.title,a.link,a.yc,a.path,a.upd,a.len⟩ λz c=>hr z (oH _ c)
def Tv(g:Δ)(r:Z Δ)(a:Δ):Ω g (r++[a])=aL (aE (Ω g r) a):=by unfold Ω;rw[lK];rfl
def MK:∀l:Z Δ,(l.flatMap (·.pU)).length=(l.map nE).sum
 |[]=>rfl
 |f::r=>by rw[mE,o_,MK r,ou,mu];rfl
def ML(g:Δ->J)(l:Z Δ)(k:J):((l.take k).map g).sum<=(l.map g).sum:=by
 have a:(l.map g).sum=((l.take k).map g).sum+((l.drop k).map g).sum:=by rw[<-jV,<-nv,l_]
 omega
def sd_more{P:J}{u v w:aj}(a:Pj.Sd P u v)(k:X u.heap.size v w):Pj.Sd P u w:=⟨k.os.trans a.os,k.tape.trans a.tape,k.output.trans a.output,pF a.size k.size,λi b c=>(k.block i b).trans (a.block i b c)⟩
def MM(l:Z Δ)(va:Ξ)(W:aj)(fT:rY W va l)(fZ:l.length<=100000)(eH:∀g∈l,QZ g)(f1:∀g∈l,aM g=true)(dF:∀g∈l,FQ g)(al:(l.map nE).sum<=1000000)(eD:WT W):
 aG av 124 #[va] W λx w'=>(∃dO,x=η (.tuple #[.agg #[dO],U V 0])/\rY w' dO (l.foldl wN []))/\X W.heap.size W w':=by
 obtain⟨L,cr,eC,eB⟩:=fT;obtain⟨g,gx,gg,cap,rfl,di,eG⟩:=Bt eC ⟨cr,eB⟩;obtain⟨m,dy⟩:=pL l.length;rw[dy] at di fZ cr|-;have cf:=G dy;have fC:=G cr;have fj:=G di;have fk:=G eG;have aN:=G dF;have e2:=G al;have fp:=G eH;have e3:=G f1;have ec:=G eD;have cy:=pG W (O #[H N 0 0] (24:J));have dj:=pM W (O #[H N 0 0] (24:J));clear dy di eG dF al eH f1 eD cr eC eB
 go_enter Tryz.func124,Tryz.ntmps124
 go_wp2_with fail
 generalize W.alloc _=fQ at cy dj|-;generalize df:W.heap.size=B at cy|-;have cb:=G df;have fw:=G cy;have fl:=G (show X B W fQ by rw[<-df];exact dj);clear df cy dj
 go_loopw [4,18] (λr x wr=>∃k:J,k<=m/\x=U V k/\Hid (FRow (B+1) wr r (l.take k))/\Hid (wr.heap[B]?=M (O #[H N 0 0] (24:J)))/\Hid (X B W wr)) (λ_ x _=>m-(intOf x).toNat)
 case atStart=>exact⟨0,oM _,rfl,G aH,fw,fl⟩
 case round=>
  obtain⟨k,eW,rfl,aA,dh,dm⟩:=hrel;obtain⟨cR,cS,cG⟩:=ah aA.o;have aU:(l.take k).length=k:=List.length_take.trans (nM (by have:=cf.o;omega));rw[aU] at cG;subst cG;have a9:X W.heap.size W wr:=(by rw[cb.o];exact dm.o);have fq:=G aU;have ad:=G aA.o;have d6:=G dh.o;have dT:=G dm.o;have ap:=G (show B+1<=wr.heap.size from ν dh.o);have e8:=G (λq (e:(υ cR k cS).ownBlock=M q)=>(Tw.qJ aA.o e).2);clear aA dh dm aU
  by_cases eX:k<m
  ·obtain rfl:=fj.o (by omega)
   have cA:k<l.length:=(by rw[cf.o];exact eX);have fY:k<L.length:=(by rw[fC.o];exact eX);obtain⟨aU,ck,cl,cn,co,cp,g0,eS,eR,a5,y1,y2,y3,y4,y5⟩:=fk.o k cA fY;replace a5:=pI a5 a9;replace y1:=pI y1 a9;replace y2:=pI y2 a9;replace y3:=pI y3 a9;replace y4:=pI y4 a9;replace y5:=pI y5 a9;have aY:=pq cA;have f0:nE l[k]<=1000000:=(by have E:=Gk nE cA;have aw:=e2.o;omega);have ee:=G a9;have dY:=G (eS.under a9);have dW:=G (eR.under a9);have cV:=λu (t:X wr.heap.size wr u)=>Wk l[k] (H aU ck cl) (H cn co cp) u (dY.o.under t) (dW.o.under t) (fp.o _ aY) f0 (aN.o _ aY).e (e3.o _ aY) (ec.o.below (ee.o.trans (t.mono ee.o.size)))
   have bl:=G (aI cA);clear g0 eS eR aY f0;generalize l[k]=f at a5 y1 y2 y3 y4 y5 cV bl dY dW;obtain⟨bM,ae,ag,af,ai,bL⟩:=f;simp only at a5 y1 y2 y3 y4 y5;have ga:(k:Y)<(m:Y):=(by omega);have g9:(0:Y)<=(k:Y):=(by omega);have S:=pM wr (O #[H aU ck cl,I ae,I ag,I af,U V ai,H cn co cp] (51:J));have C:=G S;have g7:=pG wr (O #[H aU ck cl,I ae,I ag,I af,U V ai,H cn co cp] (51:J));have fO:=G (pG wr (O #[H N 0 0,I ⟨#[]⟩,I ⟨#[]⟩,I ⟨#[]⟩,U V 0,H N 0 0] (51:J)));have dU:=G (cV _ S);clear S cV a9
   go_wp2_with(refine oN rfl 51 _ _ rfl _ _ rfl rfl 51 _ fO.o (by kernel_rfl) rfl (by simp[Γ]) ?_;rw[su];clear a5 y1 y2 y3 y4 y5;obtain⟨ac,bc,bd,be,bf,bg⟩:=pN (pH _ _) g7)
   refine dU.o.mono ?_;rintro e y⟨⟨gy,dO,rfl,b5⟩,aq⟩;have dv:=b5 y λ_ _ _ _=>rfl
   obtain⟨-,-,b9,bb,rfl,-,-⟩:=qp dv.1;obtain⟨-,-,t1,t3,rfl,-,-⟩:=qO dv.2;obtain⟨ba,ar⟩:=pL bM.length;obtain⟨t2,g4⟩:=pL bL.length;simp only[ar,g4] at b5|-;have bm:=G (pG y (O #[H N 0 0,I ⟨#[]⟩,I ⟨#[]⟩,I ⟨#[]⟩,U V 0,H N 0 0] (51:J)));have S:=pM y (O #[H b9 ba bb,I ae,I ag,I af,U V ai,H t1 t2 t3] (51:J));have a6:=pG y (O #[H b9 ba bb,I ae,I ag,I af,U V ai,H t1 t2 t3] (51:J));have br:=C.o.trans ((aq.trans (S.mono aq.size)).mono C.o.size);have au:=G br
   have dV:=G (show∀u,az (B+1) (y.alloc (O #[H b9 ba bb,I ae,I ag,I af,U V ai,H t1 t2 t3] (51:J))) u (υ cR k cS).ownBlock->vT u ⟨bM,ae,ag,af,ai,bL⟩ (pX ⟨bM,ae,ag,af,ai,bL⟩ (H b9 ba bb) (H t1 t2 t3)) fromλu t=>by
    have gr:wr.heap.size<=(wr.alloc (O #[H aU ck cl,I ae,I ag,I af,U V ai,H cn co cp] (51:J))).heap.size:=C.o.size;have:=b5 u λq a b _=>(t q (by have:=ap.o;omega) (oQ b S.size) (λe=>by have:=e8.o q e.symm;omega)).trans (S.block q b)
    exact⟨_,_,rfl,this.1,this.2⟩)
   clear dU dv b5 aq S br ac bc bd be bf bg
   go_wp2_with(first|(refine oN rfl 51 _ _ rfl _ _ rfl rfl 51 _ bm.o (by kernel_rfl) rfl (by simp[Γ,pX]) ?_;rw[su];change wpList _ _ _ _ _ (y.alloc (O #[H b9 ba bb,I ae,I ag,I af,U V ai,H t1 t2 t3] (51:J)));obtain⟨b3,aP,aQ,aR,aS,aT⟩:=pN (pH _ _) a6;clear a6;generalize y.alloc (O #[H b9 ba bb,I ae,I ag,I af,U V ai,H t1 t2 t3] (51:J))=b0 at au dV b3 aP aQ aR aS aT|-)|(refine qu (n:=k) _ rfl (.tmp 31) (.tmp 33) rfl Rb fq.o rfl (ad.o.below au.o) (⟨bM,ae,ag,af,ai,bL⟩:Δ) (pX ⟨bM,ae,ag,af,ai,bL⟩ (H b9 ba bb) (H t1 t2 t3)) rfl dV.o rfl (by simp[Γ,pX]) (pF ap.o au.o.size) (by omega) (by decide) ?_))
   intro gd fg ax ak dx;have bC:=G ax;have cY:=G (dT.o.trans ((au.o.mono (iO ap.o)).trans (ak.mono (nu _))));have fK:=G ((ak.block B (lW _)).trans (pW au.o d6.o));clear ax ak dx
   go_wp2_with fail
   go_roundw
   case rel=>exact⟨k+1,by omega,by go_num,by rw[bl.o];exact bC,fK,cY⟩
   case measure=>simp[intOf];omega
  ·have go:decide ((k:Y)<(m:Y))=false:=o9 (by omega)
   have bS:l.take k=l:=oP (by rw[cf.o];omega);rw[bS] at ad;obtain⟨gf,c1,c2,db⟩:=ad.o;have dc:=db wr λ_ _ _ _=>rfl
   obtain⟨Q,cI,g6⟩:=places dc;subst g6;obtain⟨R,eF⟩:=pL wr.heap.size;have S:=pM wr (O #[H N 0 0] (24:J));have a3:=pG wr (O #[H N 0 0] (24:J));have aY:∀x∈Q,x.1∈l:=λx bt=>by rw[<-cI];exact List.mem_map.2 ⟨x,bt,rfl⟩
   have f9:Q.length=m:=(by rw[<-cf.o,<-cI,oS])
   have dQ:=Np4.DV pC (λx:FP=>x.1.id) Q (H cR k cS) (wr.alloc (O #[H N 0 0] (24:J))) ((Rw.uT c2 dc.1 (λj b6 k eW=>r8 c1.1 j b6 k eW) (λj b6=>c1.1 _ (pq b6))).under S) (λx bt=>⟨⟨_,_,_,_,_,_,rfl⟩,λu t=>by
    simp only[pC,pX,ox,oy,nw] at t;rcases t with rfl|rfl|rfl|rfl|rfl|rfl<;>rfl,pF (aN.o _ (aY x bt)).q.id.1 (by decide)⟩) (by omega) λx _ w=>id184 x w
   have C:=G S;have ej:=G a3;have bH:=G eF;have ch:=G cI;have ei:=G f9;have bk:=G aY;have e0:=G (λu (t:az (B+1) wr u (υ cR k cS).ownBlock)=>db u t);clear S a3 cI f9 aY c1 c2 db dc eF bS ad
   go_wp2_with fail
   refine dQ.mono ?_;rintro e a4⟨⟨gB,ev,rfl,eT,cz,eU⟩,dk⟩;obtain⟨eu,fS,gm,gn,rfl,dr,eQ⟩:=Mw.qY eT (oS _);obtain⟨bp,ds⟩:=pL ev.length;have fA:=G ds;rw[ds] at dr cz|-;have dX:=G cz;have fy:=G dr;have fz:=G eQ;have dZ:=G eU;have bP:X wr.heap.size wr a4:=C.o.trans (dk.mono C.o.size);have b1:=G (a9.trans (bP.mono a9.size));have bG:=G (pW dk ej.o);have fm:=G (pW bP d6.o);have aO:=G (show B+1<=R/\R<a4.heap.size from⟨by have:=ap.o;have:=bH.o;omega,by rw[<-bH.o];exact ν bG.o⟩)
   have d2:=G (show∀u,az (B+1) a4 u (M R)->∀h∈Q,Rw u (pP h) 1 (h.1.path.map p_)/\Rw u (pE h) 5 (h.1.pU.map pO) fromλu t=>innards (by rw[ch.o];exact e0.o u λq a b c=>(t q a (oQ b bP.size) (by rw[<-bH.o];intro e;have:=nV e;omega)).trans (bP.block q b)))
   rw[bH.o] at bG|-;have gp:bp<=1000000:=(by have v:=Mg.wX (key:=λx:FP=>x.1.id) Q;have aw:=ei.o;rw[s7] at cz;omega);clear dQ eT cz eU dk dr eQ ds bP C ej e0 d6 dT ap e8 a9 bH
   go_wp2_with fail
   go_loopw [39] (λx wr=>∃(k:J)(r:Ξ)(an:Z Δ),k<=bp/\x=U V k/\Hid (wr.heap[R]?=M (O #[r] (24:J)))/\Hid (zL (λu=>az (B+1) a4 u (M R)) a4.heap.size wr r an)/\Hid (an.length=k/\∀j(b6:j<an.length)(al:j<(Θ ay l).length),Mg.cm aK (aJ ay (Θ ay l)[j] l)=M an[j])/\Hid (Pj.Sd R a4 wr)) (λx _=>bp-(intOf x).toNat)
   case atStart=>exact⟨0,_,[],oM _,rfl,bG,G aH,G ⟨rfl,λj b4=>absurd b4 (by simp)⟩,G (Pj.Sd.refl _ _)⟩
   case round=>
    obtain⟨q,r,an,dF,rfl,cu,aA,dD,f4⟩:=hrel;obtain⟨cM,cN,cG⟩:=ah aA.o;subst cG;have aF:=G dD.o.1;rw[aF.o] at aA cu;have cZ:=G cu.o;have ad:=G aA.o;have d4:=G dD.o.2;have D:=G f4.o;have da:=G (ν cu.o);have e5:=G (show q<=1000000 by omega);clear cu aA dD f4
    by_cases eY:q<bp
    ·obtain rfl:=fy.o (by omega)
     have cE:q<ev.length:=(by rw[fA.o];exact eY);have cF:q<(rL (λx:FP=>x.1.id) Q).length:=(by rw[<-dX.o];exact eY);have bs:q<(Θ (λx:FP=>x.1.id) Q).length:=(by rw[<-s7];exact cF);obtain⟨h,fa,b7⟩:=fz.o q (by rw[oS];exact cE) 0 (by omega);rw[oG] at fa;cases fa;have dG:=(dZ.o q cE cF).1;obtain⟨gh,cc,cv,eK⟩:=(dZ.o q cE cF).2
     obtain⟨x,o,dI⟩:∃x o,(rL (λx:FP=>x.1.id) Q)[q]=x::o:=by
      cases eO:(rL (λx:FP=>x.1.id) Q)[q] with
      |nil=>
       exfalso
       simp only[rL,oG] at eO;obtain⟨z,a3,g8⟩:=Mg.yZ.1 (pq bs)
       exact Mg.of_ne a3 g8 eO
      |cons x o=>exact⟨x,o,rfl⟩
     have cC:aJ (λx:FP=>x.1.id) ((Θ (λx:FP=>x.1.id) Q)[q]'bs) Q=x::o:=(by rw[<-dI];simp only[rL,oG]);have aD:=G (λh (am:h∈x::o)=>show h∈Q from by rw[<-cC] at am;exact(List.mem_filter.1 am).1);have dB:Θ ay l=Θ (λx:FP=>x.1.id) Q:=(by rw[<-ch.o];exact Mg.Jo (λ_=>rfl) Q)
     have dC:∀al,aJ ay ((Θ ay l)[q]'al) l=x.1::o.map λh=>h.1:=λal=>by
      rw[List.getElem_of_eq dB al];have v:=Mg.of_map (key:=λx:FP=>x.1.id) (f:=λx:FP=>x.1) (kb:=ay) (λ_=>rfl) ((Θ (λx:FP=>x.1.id) Q)[q]'bs) Q;rw[ch.o,cC] at v;exact v
     have d8:=G (show nE x.1+((o.map λh=>h.1).map nE).sum<=1000000 by have v:=Mg.Bu (key:=ay) nE ((Θ ay l)[q]'(by rw[dB];exact bs)) l;have E:=e2.o;rw[dC,ou,mu] at v;omega)
     have fF:=G dC;rw[dI] at dG cv eK;obtain⟨et,dd,gl,cq,eM,eL,cw⟩:=pc_at dG;rw[eM] at b7 cv;obtain rfl:cq=cc:=by injection cv
     obtain rfl:=eL (by simp);obtain⟨aZ,cH⟩:=pL o.length;rw[oJ,cH] at b7 eK;have eP:eu≠R:=Wi bG.o b7 (.inr (by simp));have aX:et≠R:=Wi bG.o (cw 0 (by simp)).2.1 (.inl (by omega));have a5:wr.cell? ⟨eu,fS+q,N⟩=M (H (M ⟨et,dd,N⟩) (aZ+1) cq):=(by simpa using D.o.cell b7 eP);obtain⟨x0,x1,x2,x3,x4,x5⟩:=cw 0 (by simp);replace x0:=D.o.cell x0 aX;replace x1:=D.o.cell x1 aX;replace x2:=D.o.cell x2 aX;replace x3:=D.o.cell x3 aX;replace x4:=D.o.cell x4 aX;replace x5:=D.o.cell x5 aX;simp only[jh,kC,jf] at x0 x1 x2 x3 x4 x5;have fr:=G cw;have e9:=G cH;have bi:=G aX
     have gq:aZ<=1000000:=by have v:=nT List.length cC;have E:(aJ (λx:FP=>x.1.id) ((Θ (λx:FP=>x.1.id) Q)[q]'bs) Q).length<=Q.length:=ng _ _;have aw:=ei.o;rw[oJ,cH] at v;omega
     have ga:(q:Y)<(bp:Y):=(by omega);have g9:(0:Y)<=(q:Y):=(by omega);have gs:(0:Y)<((aZ+1:J):Y):=(by omega);clear cE cF b7 dG cv dI cC dB dC eM eL cw cH eP aX bs;obtain⟨⟨ab,T,a1,a0,a2,A⟩,⟨cO,cQ,cP⟩,bI,bK,bJ⟩:=x;simp only[pP,pE] at x0 x1 x2 x3 x4 x5;obtain⟨ao,rfl⟩:∃w,w=wr:=⟨_,rfl⟩;have S:=pM ao (O #[H cO cQ cP,I T,I a1,I a0,U V a2,H bI bK bJ] (51:J));have C:=G S;have a3:=pG ao (O #[H cO cQ cP,I T,I a1,I a0,U V a2,H bI bK bJ] (51:J));have d3:=G (λp (e:(υ cM q cN).ownBlock=M p)=>(Tw.qJ ad.o e).2);clear S
     by_cases fV:cq=1
     all_goals
      go_upto_region 15 with fail
      change Code.wp _ _ _ _ (ao.alloc (O #[H cO cQ cP,I T,I a1,I a0,U V a2,H bI bK bJ] (51:J)));clear a5 x0 x1 x2 x3 x4 x5;obtain⟨ac,bc,bd,be,bf,bg⟩:=pN (pH _ _) a3;have bj:=G a3;clear a3;generalize ao.alloc (O #[H cO cQ cP,I T,I a1,I a0,U V a2,H bI bK bJ] (51:J))=cT at C bj ac bc bd be bf bg|-;generalize ey:ao.heap.size=s at C bj d3 da ac bc bd be bf bg|-;have b2:=G ey;clear ey
      go_wp2_with fail
      have ci:=G (show∀u,X s ao u->az (B+1) a4 u (M R) fromλu t p a b c=>(t.block p (by have:=D.o.size;have:=b2.o;omega)).trans (D.o.block p b λe=>c (by rw[e])));have ed:=G (λu (t:X s ao u)=>ec.o.below (b1.o.trans ((D.o.under (show W.heap.size<=R by have v:=aO.o.1;have E:=cb.o;omega) b1.o.size).trans (t.mono (by have v:=b1.o.size;have E:=D.o.size;have aw:=b2.o;omega)))));refine(Ty A (H bI bK bJ) cT (d2.o cT (ci.o cT C.o) _ (aD.o _ (oL ..))).2 (by have:=d8.o;unfold nE at this;simp only at this;omega)).mono ?_;rintro e ge⟨⟨gc,rfl,bN⟩,dl⟩;have fx:=G ((dl.block s (ν bj.o)).trans bj.o);have fn:=G (C.o.trans (dl.mono (mN (ν bj.o))));have fJ:=G (show xB (s+1) ge gc (A++((o.take 0).map λh=>h.1).flatMap (·.pU)) by simpa using bN.base (show s+1<=cT.heap.size from ν bj.o));clear bN dl ac bc bd be bf bg
      go_wp2_with fail
      go_loopw [13,52] (λfd x cU=>∃(j:J)(vp ve:Ξ),j<=aZ/\x=U V j/\Hid (cU.heap[s]?=M (O (pX (Ω ⟨ab,T,a1,a0,a2,A⟩ ((o.take j).map λh=>h.1)) vp ve).toArray (51:J)))/\Hid (∃a n c,ve=H a n c)/\Hid (Md (λu=>az (B+1) a4 u (M R)) (s+1) cU fd.ownBlock λu=>Rw u vp 1 ((Ω ⟨ab,T,a1,a0,a2,A⟩ ((o.take j).map λh=>h.1)).path.map p_))/\Hid (xB (s+1) cU fd (A++((o.take j).map λh=>h.1).flatMap (·.pU)))/\Hid (X s ao cU)) (λ_ x _=>aZ-(intOf x).toNat)
      case atStart=>exact⟨0,_,_,oM _,rfl,fx,G ⟨_,_,_,rfl⟩,G λu t _=>(d2.o u t _ (aD.o _ (oL ..))).1,fJ,fn⟩
      case round=>
       obtain⟨j,vp,ve,b6,rfl,ct,f7,bO,cx,aW⟩:=hrel;obtain⟨va,fe,g5⟩:=ah cx.o;subst g5;obtain⟨cL,cB⟩:=pL ((A++((o.take j).map λh=>h.1).flatMap (·.pU)).length);have ce:=G cB;rw[cB] at cx bO|-;obtain⟨dL,dN,dM,rfl⟩:=f7.o;have dH:=ci.o wr aW.o;obtain⟨-,-,bv,bx,rfl,-,-⟩:=qp (bO.o wr dH λ_ _ _ _=>rfl);obtain⟨bw,cD⟩:=pL ((Ω ⟨ab,T,a1,a0,a2,A⟩ ((o.take j).map λh=>h.1)).path.length);rw[cD] at ct bO;have bE:=G ct.o;have bD:=G bO.o;have bF:=G cx.o;have ap:=G aW.o;have fM:=G dH;have ar:Pj.Sd R a4 wr:=D.o.below (by rw[b2.o];exact aW.o);have fH:=G (λp (e:(υ va cL fe).ownBlock=M p)=>show s+1<=p/\p<wr.heap.size from Tw.qJ bF.o e);have aB:=G (ν ct.o)
       have e1:=G (show cL<=1000000 by have v:=d8.o;have E:=ML nE (o.map λh=>h.1) j;rw[<-iR,<-MK] at E;rw[o_] at cB;rw[show nE (⟨ab,T,a1,a0,a2,A⟩:Δ)=A.length from rfl] at v;omega)
       clear ct bO cx aW dH f7 cB
       by_cases g1:j<aZ
       ·have g2:cq≠1:=by omega
        try exact absurd fV g2
        all_goals
         have bR:j<o.length:=(by rw[e9.o];exact g1);obtain⟨a5,y1,y2,y3,y4,y5⟩:=fr.o (j+1) (by simp;omega);simp only[jN] at a5 y1 y2 y3 y4 y5;rw[show dd+(j+1)*6=dd+6+j*6 by omega] at a5 y1 y2 y3 y4 y5;replace a5:=ar.cell a5 bi.o;replace y1:=ar.cell y1 bi.o;replace y2:=ar.cell y2 bi.o;replace y3:=ar.cell y3 bi.o;replace y4:=ar.cell y4 bi.o;replace y5:=ar.cell y5 bi.o;have dz:=aD.o _ (oH _ (pq bR));have e6:=G (aN.o _ (bk.o _ dz)).q
         have e4:=G (keepQ ((o.take j).map λh=>h.1) ⟨ab,T,a1,a0,a2,A⟩ (aN.o _ (bk.o _ (aD.o _ (oL ..)))).q λh am=>by
          obtain⟨z,a3,rfl⟩:=List.mem_map.1 am;exact(aN.o _ (bk.o _ (aD.o _ (oH _ (lY a3))))).q)
         have bl:=G (show Ω ⟨ab,T,a1,a0,a2,A⟩ ((o.take (j+1)).map λh=>h.1)=aL (aE (Ω ⟨ab,T,a1,a0,a2,A⟩ ((o.take j).map λh=>h.1)) o[j].1) by rw[aI bR,nv];exact Tv _ _ _);have d7:=G (show A++((o.take (j+1)).map λh=>h.1).flatMap (·.pU)=(A++((o.take j).map λh=>h.1).flatMap (·.pU))++o[j].1.pU by rw[aI bR,nv,lS];simp);have cj:=G (λu t=>d2.o u t _ dz)
         have ek:=G (show o[j].1.pU.length<=1000000 by have v:=d8.o;have E:=Ms.zM nE (List.mem_map.2 ⟨o[j],pq bR,rfl⟩:o[j].1∈o.map λh=>h.1);unfold nE at v E;omega)
         generalize Ω ⟨ab,T,a1,a0,a2,A⟩ ((o.take j).map λh=>h.1)=c at cD bE bD e4 bl;generalize A++((o.take j).map λh=>h.1).flatMap (·.pU)=gw at ce bF d7;generalize o[j]=z at a5 y1 y2 y3 y4 y5 e6 bl d7 cj ek;obtain⟨⟨fh,bz,bA,zl,bB,bh⟩,⟨bX,bZ,bY⟩,bn,aV,bo⟩:=z;simp only[pP,pE] at a5 y1 y2 y3 y4 y5;obtain⟨eq,eo,er,ep,es,en⟩:=c;have gt:(j:Y)<(aZ:Y):=(by omega);have gu:(0:Y)<=(j:Y):=(by omega);have S:=pM wr (O #[H bX bZ bY,I bz,I bA,I zl,U V bB,H bn aV bo] (51:J));have bt:=(S.block s aB.o).trans bE.o;have a3:=pG wr (O #[H bX bZ bY,I bz,I bA,I zl,U V bB,H bn aV bo] (51:J));obtain⟨F,ez⟩:=pL wr.heap.size;have ft:=G ez;have C:=G S;have fb:=(cj.o wr fM.o).2;obtain⟨_,_,_,_,f5,_,_⟩:=qO fb;have eN:bh.length=aV:=(by injection f5 with _ b4;exact b4.symm);have d0:=G eN;clear S ar dz bR fb f5 eN
         go_upto_region 19 with fail
         change Code.wp _ _ _ _ (wr.alloc (O #[H bX bZ bY,I bz,I bA,I zl,U V bB,H bn aV bo] (51:J)));clear a5 y1 y2 y3 y4 y5;have dJ:=(pN (pH _ _) a3).2.2.2.2.2;have bm:=G a3;have ef:=G bt;clear a3 bt;generalize wr.alloc (O #[H bX bZ bY,I bz,I bA,I zl,U V bB,H bn aV bo] (51:J))=y at C bm ef dJ|-
         try rw[ez] at bm dJ
         go_wp2_with(refine rz (n:=cL) y rfl (.tmp 56) (.tmp 58) rfl Wn ce.o rfl (ς bF.o C.o) (H bn aV bo) aV bh (bh.map pO) rfl (cj.o y (ci.o y (ap.o.trans (C.o.mono (mN aB.o))))).2 (by rw[oS];exact d0.o) d0.o (λu _=>all_e bh u) (Wo bh) (pF aB.o C.o.size) (by have v:=e1.o;have E:=ek.o;have aw:=d0.o;simp only at E;omega) (by decide) ?_)
         intro gA b0 ex br dw;have b8:=(dw F (ν bm.o) (λe=>by have:=(fH.o F e.symm).2;have:=ft.o;omega)).trans bm.o;have a6:=(br.block s (lW _)).trans ef.o;obtain⟨ac,bc,bd,be,bf,bg⟩:=pN (pH _ _) b8;obtain⟨b3,aP,aQ,aR,aS,aT⟩:=pN (pH _ _) a6;have dR:=G ex;have eg:=G a6;have fB:=G dw;have au:=G (ap.o.trans ((C.o.mono (mN aB.o)).trans (br.mono (nu _))));clear ex br dw b8 a6 dJ
         go_wp2_with fail
         have a6:=ci.o b0 au.o;have cW:=Wp ⟨eq,eo,er,ep,es,en⟩ ⟨fh,bz,bA,zl,bB,bh⟩ (H bv bw bx) (H dL dN dM) (H bX bZ bY) (H bn aV bo) e4.o e6.o b0 (bD.o b0 a6 λp a b c=>(fB.o p (oQ b C.o.size) c).trans (C.o.block p b)) ⟨_,_,_,rfl⟩ (cj.o b0 a6).1 ⟨_,_,_,rfl⟩ (ed.o b0 au.o);obtain⟨d,dn⟩:=pL (aE ⟨eq,eo,er,ep,es,en⟩ ⟨fh,bz,bA,zl,bB,bh⟩);have ea:=G (bl.o.trans (nT aL dn));rw[dn] at cW;clear dn a6 ac bc bd be bf bg b3 aP aQ aR aS aT;obtain⟨dp,gj,dt,gk,du,gi⟩:=d;refine cW.mono ?_;rintro e fg⟨⟨el,em,rfl,ax⟩,ak⟩;have cd:=G (ν eg.o);have eh:=G ((ak.block s cd.o).trans eg.o);have bC:=G ax;have fs:=G (ς dR.o ak);have cY:=G (au.o.trans (ak.mono (mN cd.o)));clear cW ax ak
         go_wp2_with(refine oN rfl 51 _ _ rfl _ _ rfl rfl 51 _ eh.o (by kernel_rfl) rfl (by simp[Γ,pX]) ?_)
         go_wp2_with fail
         go_roundw
         case rel=>exact⟨j+1,H el dp.length em,H N 0 0,by omega,by go_num,by rw[ea.o];exact G (og _ _ _ _ _ _ eh.o),G ⟨_,_,_,rfl⟩,by
          rw[ea.o];exact G λu eE t=>O4 bC.o λp a b _=>(t p (by have:=cd.o;omega) (by simpa [World.setRow] using b) (λe=>by have:=(Tw.qJ dR.o e.symm).2;omega)).trans (oo _ _ _ _ (by have:=cd.o;omega)),by rw[d7.o];exact G (qK fs.o (by simp[World.setRow]) λp a=>oo _ _ _ _ (by omega)),G (pS cY.o (oZ _) _)⟩
         case measure=>simp[intOf];omega
       ·have fX:j=aZ:=by omega
        subst fX;have fR:decide ((j:Y)<(j:Y))=false:=o9 (by omega);have bS:o.take j=o:=oP (by rw[e9.o];omega);rw[bS] at ce bF bD bE cD
        have f3:∀h∈A++(o.map λh=>h.1).flatMap (·.pU),AD h:=λh am=>by
         rcases List.mem_append.1 am with am|am
         ·exact(aN.o _ (bk.o _ (aD.o _ (oL ..)))).e h am
         ·obtain⟨f,dq,b7⟩:=List.mem_flatMap.1 am
          obtain⟨z,a3,rfl⟩:=List.mem_map.1 dq;exact(aN.o _ (bk.o _ (aD.o _ (oH _ a3)))).e h b7
        have dP:=Gl (A++(o.map λh=>h.1).flatMap (·.pU)) (H va cL fe) wr (xB.rw bF.o) (by rw[ce.o];exact e1.o) f3 (ed.o wr ap.o);have f2:aM (⟨ab,T,a1,a0,a2,A⟩:Δ)=true:=e3.o _ (bk.o _ (aD.o _ (oL ..)));have d1:=G (λbu (b4:Mg.Cb Mo.rS Mg.yO Mg.rQ ((⟨ab,T,a1,a0,a2,A⟩:Δ).pU++(o.map λh=>h.1).flatMap (·.pU)) bu)=>Mg.Wq f2 b4);clear f2;obtain⟨K,eA⟩:=pL (Ω ⟨ab,T,a1,a0,a2,A⟩ (o.map λh=>h.1));rw[eA] at d1 bD bE cD;clear eA bS ar f3;obtain⟨dK,bT,bV,bU,bW,gv⟩:=K
        go_wp2_with fail
        refine dP.mono ?_;rintro e y⟨⟨gz,bu,rfl,⟨a7,aa,a8,rfl⟩,b5,eJ⟩,aq⟩;have cJ:=(aq.block s aB.o).trans bE.o;obtain⟨b3,aP,aQ,aR,aS,aT⟩:=pN (pH _ _) cJ;have de:=yY cJ 5;have f8:y.heap[s]?=M (O #[H bv bw bx,I bT,I bV,I bU,U V bW,H dL dN dM] (51:J)):=cJ;have a6:=oO y s 5 #[H bv bw bx,I bT,I bV,I bU,U V bW,H dL dN dM] (51:J) (H a7 aa a8) f8;have cs:X s ao (y.setCell ⟨s,5,N⟩ (H a7 aa a8)):=(ap.o.trans (aq.mono (mN aB.o))).trans ⟨rfl,rfl,rfl,by simp,λp a=>pz y ⟨s,5,N⟩ p (H a7 aa a8) (by show p≠s;omega)⟩;have dS:=G cs;have b8:=(cs.block R da.o).trans cZ.o;have d9:=G (λp (b4:p≠s)=>pz y ⟨s,5,N⟩ p (H a7 aa a8) b4);have cg:=G (show(y.setCell ⟨s,5,N⟩ (H a7 aa a8)).heap.size=y.heap.size by simp);have fu:=G (d1.o bu eJ)
        have d5:=G (show∀u,az a4.heap.size (y.setCell ⟨s,5,N⟩ (H a7 aa a8)) u (υ cM q cN).ownBlock->Fx (λu=>az (B+1) a4 u (M R)) u ((o.map λh=>h.1).foldl aK ⟨ab,T,a1,a0,a2,A⟩) (pX ⟨dK,bT,bV,bU,bW,bu⟩ (H bv bw bx) (H a7 aa a8)) from by
         intro u t eE;rw[<-fu.o];have v:=D.o.size;have E:=b2.o;have aw:=aB.o;refine⟨_,_,rfl,bD.o u eE λp a b c=>?_,b5 u λp a b c=>?_⟩
         ·have dE:p≠s:=by omega
          rw[t p (by omega) (by rw[cg.o];exact oQ b aq.size) (λe=>by have:=d3.o p e.symm;omega),d9.o p dE];exact aq.block p b
         ·have dE:p≠s:=by omega
          rw[t p (by omega) (by rw[cg.o];exact b) (λe=>by have:=d3.o p e.symm;omega),d9.o p dE])
        have eb:=G (show a4.heap.size<=(y.setCell ⟨s,5,N⟩ (H a7 aa a8)).heap.size by rw[cg.o];have v:=D.o.size;have E:=b2.o;have aw:=aB.o;have bq:=aq.size;omega);have e7:=G (ς ad.o (show X ao.heap.size ao (y.setCell ⟨s,5,N⟩ (H a7 aa a8)) by rw[b2.o];exact cs))
        have fG:=G (show∀u∈pX ⟨dK,bT,bV,bU,bW,bu⟩ (H bv bw bx) (H a7 aa a8),u.oneCell'=true from by intro u t;simp only[pX,ox,oy,nw] at t;rcases t with rfl|rfl|rfl|rfl|rfl|rfl<;>rfl)
        simp only at aP aQ aR aS;clear dP d1 b5 aq eJ cs cJ f8 d9 cg;obtain⟨cX,dg⟩:=pL ((o.map λh=>h.1).foldl aK ⟨ab,T,a1,a0,a2,A⟩);rw[dg] at d5;have fv:=G dg;clear dg
        go_wp2_with(first
         |(refine xC rfl 49 _ _ rfl s 5 (H a7 aa a8) _ rfl rfl rfl aT de (by kernel_rfl) ?_
           clear b3 aP aQ aR aS aT de;generalize y.setCell ⟨s,5,N⟩ (H a7 aa a8)=b0 at a6 dS b8 d5 eb e7|-;obtain⟨b3,aP,aQ,aR,aS,aT⟩:=pN (pH _ _) a6
           have ac:=pJ (j:=0) b8 rfl)
         |(refine qu (n:=q) b0 rfl (.tmp 68) (.tmp 70) rfl Rb aF.o rfl e7.o cX (pX ⟨dK,bT,bV,bU,bW,bu⟩ (H bv bw bx) (H a7 aa a8)) rfl d5.o rfl fG.o eb.o (by have:=e5.o;omega) (by decide) ?_))
        intro gd fg ax ak dx;obtain⟨el,em,f6⟩:=ah ax;rw[show(an++[cX]).length=q+1 by rw[o_,aF.o];rfl] at f6;subst f6;have cK:=(ak.block R aO.o.2).trans b8;have fP:=G cK;have bC:=G ax;have fL:=G (sd_more (D.o.below (by rw[b2.o];exact dS.o)) ak);clear b3 aP aQ aR aS aT ac a6 b8 ax ak dx;have ac:=pJ (j:=0) cK rfl;have de:=yY cK 0;clear cK
        go_wp2_with fail
        go_roundw
        case rel=>
         refine⟨q+1,_,an++[cX],by omega,by go_num,G (oO _ _ 0 _ _ _ fP.o),G (qK bC.o (by simp) λp a=>pz _ _ _ _ (by show p≠R;have:=aO.o.2;omega)),G ⟨by rw[o_,aF.o];rfl,λi bQ al=>?_⟩,G (fL.o.set 0 _)⟩
         by_cases eV:i<an.length
         ·rw[n_ eV]
          exact d4.o i eV al
         ·have e:i=q:=by have v:=aF.o;rw[o_] at bQ;simp only[lR] at bQ;omega
          subst e;rw[fF.o al,nJ (by rw[aF.o];exact oZ _)];simp only[mK];exact nT M fv.o
        case measure=>simp[intOf];omega
    ·have g3:q=bp:=by omega
     subst g3;have fR:decide ((q:Y)<(q:Y))=false:=o9 (by omega)
     have dA:(Θ ay l).length=an.length:=by have v:=dX.o;rw[s7] at v;have E:=Mg.Jo (f:=λx:FP=>x.1) (kb:=ay) (key:=λx:FP=>x.1.id) (λ_=>rfl) Q;rw[ch.o] at E;rw[E,<-v,aF.o]
     have fE:=G dA
     have fI:=G (show∀f∈an,f.path.length<=64 fromλf dq=>by
      obtain⟨i,bQ,rfl⟩:=mj dq;have fU:=d4.o i bQ (by rw[dA];exact bQ);have fW:FQ an[i]:=Mg.Rj (P:=FQ) Wu fU λh am=>aN.o h (List.mem_filter.1 am).1
      exact fW.q.yc)
     have fN:=G (show∀u,wr.grownBy u (υ cM q cN).ownBlock->az (B+1) a4 u (M R) fromλu t=>by
      intro p a b c;rw[t.block p (oQ b D.o.size) (λe=>by have:=(Tw.qJ ad.o e.symm).1;omega)];exact D.o.block p b λe=>c (by rw[e]))
     have ac:=pJ (j:=0) cZ.o rfl;clear dA
     go_wp2_with fail
     refine(Wv (λu=>az (B+1) a4 u (M R)) a4.heap.size (H cM q cN) an wr ad.o fN.o (by rw[aF.o];exact e5.o) fI.o).mono ?_;rintro e ff⟨rfl,gb,v,E,aw,bq⟩;have fc:=(bq.block R da.o (λe=>by have ew:=(Tw.qJ ad.o e.symm).1;have bN:=aO.o.2;omega)).trans cZ.o;have aW:wr.heap[B]?=M (O #[H N 0 0] (24:J)):=(D.o.block B (by have:=aO.o;omega) (by have:=aO.o;omega)).trans fm.o;have eI:=(bq.block B (ν aW) (λe=>by have ew:=(Tw.qJ ad.o e.symm).1;have bN:=aO.o;omega)).trans aW;have ca:=G eI;have fi:=G (aw ff bq λ_ _ _ _=>rfl)
     have eZ:gb=l.foldl wN []:=by
      refine Mg.Cb.ext Mg.Fi (Mg.Cb.MP Mg.Fi Mg.kpF (by rw[fE.o]) (λj b6 al=>d4.o j b6 al) v E) ?_;have:=Mg.Cb.TA Mg.Fi Mg.kpF l (Mg.Cb.nil (cmp:=Mo.tM) (key:=ay) (sS:=aK))
      rwa [mw] at this
     have fD:=G eZ;have fo:=G (show X W.heap.size W ff from qI bq (b1.o.trans (D.o.under (by have v:=aO.o.1;have E:=cb.o;omega) b1.o.size)) (λp e=>by have ew:=(Tw.qJ ad.o e).1;have bN:=b1.o.size;omega) (by have v:=b1.o.size;have E:=D.o.size;omega));clear ac v E aw bq aW eI eZ;have ac:=pJ (j:=0) fc rfl;clear fc
     go_wp2_with(refine oN rfl 24 _ _ rfl _ _ rfl rfl 24 _ ca.o (by kernel_rfl) rfl (by simp[Γ]) ?_)
     go_wp2_with fail
     refine ow (qE rfl _ _ B _ _ _ _ rfl (og _ _ _ _ _ _ ca.o) aC rfl (by kernel_rfl)) rfl ?_;refine⟨⟨_,rfl,?_⟩,pS fo.o (by have:=cb.o;omega) _⟩;rw[MQ ca.o,<-fD.o];exact Go.Proofs.YthbhmjdcfocphaaGreatDoor.Ms.O5 ca.o fi.o
end Np
namespace Mr
open RowKit Rw Vf Mw Me Gr Rg Ke Nr Np
abbrev bC(r:Ξ):Obj:=O #[r,U V 0] (190:J)
abbrev X0(a:aj):aj->Prop:=λu=>X a.heap.size a u
def madd_is(c:aj)(C:J)(r:Ξ)(l a:Z Δ)(va:Ξ)(w:aj)(f:c.heap.size<=C)(am:X c.heap.size c w)(a7:w.heap[C]?=M (bC r))(Q:zL (X0 c) (C+1) w r l)(aZ:rY c va a)(b0:IA a)(b3:Mo.Dt a=true)(aY:WT c)(b4:l.length+a.length<=1000000):
 aG av 123 #[ε (M ⟨C,0,N⟩),.agg #[va]] w λe w'=>e=η (.tuple #[])/\(∃aO,w'.heap[C]?=M (bC aO)/\zL (X0 c) (C+1) w' aO (l++a))/\X C w w':=by
 obtain⟨s,t,rfl⟩:=ah Q;obtain⟨x,a8⟩:=pL l.length;obtain⟨L,B,a5,ak⟩:=aZ;obtain⟨g,bf,i,cap,rfl,b1,b2⟩:=Mw.qY a5 B;have F:=pM w (O #[H i a.length cap] (24:J));have h:=pG w (O #[H i a.length cap] (24:J));have ac:=G (λu (o:X c.heap.size c u)=>Br u (H i a.length cap) a ⟨L,B,a5.under o,λj p q=>(ak j p q).under o⟩ (aY.below o).u8 b0 b3);obtain⟨z,D⟩:=pL a.length;rw[a8,D] at b4;rw[a8] at a7 Q;rw[D] at ac F h B|-;have aU:=G a8;have aR:=G D;have K:=G (pW F a7);have ar:=G (ς Q F);have S:=G (am.trans (F.mono am.size));have af:=G F;have T:=G h;have ao:=G f;have ag:=G (ν a7);have a0:=G (λp (e:(υ s x t).ownBlock=M p)=>Tw.qJ Q e)
 have W:=G (show∀u,X c.heap.size c u->Rw u (H i z cap) 6 L/\tG vT u a L fromλu o=>by
  refine⟨by rw[<-D];exact a5.under o,⟨B.trans D.symm,λj p q=>(ak j p q).under o⟩⟩)
 have aT:=G B;clear Q a7 F h b1 b2 B a5 ak am f a8 D
 go_enter Tryz.func123,Tryz.ntmps123
 go_upto_region 1 with fail
 change Code.wp _ _ _ _ (w.alloc (O #[H i z cap] (24:J)));generalize b5:w.alloc (O #[H i z cap] (24:J))=bh at K ar S af T|-;clear b5;generalize aD:w.heap.size=y at T|-;have aq:=G aD;clear aD;have a1:=pJ (j:=0) K.o rfl;have c1:=pJ (j:=1) K.o rfl;have aW:=pJ (j:=0) T.o rfl;have a2:=yY K.o 1
 go_wp2_with fail
 refine(ac.o _ S.o).mono ?_;rintro e k⟨rfl,E⟩;have aa:=pW E K.o;have aF:=pW E T.o;have R:=oO k C 1 _ _ (U V 0) aa;have aX:y≠C:=by have m:=aq.o;have n:=ag.o;omega
 have an:=(pz k ⟨C,1,N⟩ y (U V 0) aX).trans aF;have au:=G (qK (w':=k.setCell ⟨C,1,N⟩ (U V 0)) (ς ar.o E) (by simp) λq a=>pz _ _ _ _ (by show q≠C;omega));have ad:=G (show X C w (k.setCell ⟨C,1,N⟩ (U V 0)) from((af.o.trans (E.mono af.o.size)).mono (mN ag.o)).trans ⟨rfl,rfl,rfl,by simp,λq a=>pz k ⟨C,1,N⟩ q (U V 0) (by show q≠C;omega)⟩);have ae:=G (show X c.heap.size c (k.setCell ⟨C,1,N⟩ (U V 0)) from(S.o.trans (E.mono S.o.size)).trans ⟨rfl,rfl,rfl,by simp,λq a=>pz k ⟨C,1,N⟩ q (U V 0) (by show q≠C;have:=ao.o;omega)⟩);have c1:=pJ (j:=1) aa rfl;have a2:=yY aa 1;clear E aa aF ac
 go_wp2_with(refine xC rfl 36 _ _ rfl C 1 (U V 0) _ rfl rfl rfl c1 a2 (by kernel_rfl) ?_;clear c1 a2;generalize k.setCell ⟨C,1,N⟩ (U V 0)=b8 at R an au ad ae|-;have c1:=pJ (j:=1) R rfl;have a1:=pJ (j:=0) R rfl)
 have P:=G (show b8.heap[C]?=M (bC (H s x t)) from R);have ap:=G an;clear R an c1 a1;have ai:=G (show∀p,(υ s x t).ownBlock=M p->p≠C/\p≠y fromλp e=>⟨by have:=(a0.o p e).1;omega,by have:=(a0.o p e).2;have:=aq.o;omega⟩)
 refine AQ 8 7 [[],[],[1],[2],[3],[],[5],[4,6]] [M 19,M 20,M 21,M 22,M 23,M 24,M 25,M 26] (by kernel_rfl) (by kernel_rfl) (by kernel_rfl)
  (λw w'=>w.grownBy w' (υ s x t).ownBlock/\(zL (X0 c) (C+1) w (H s x t) l->zL (X0 c) (C+1) w' (H s x t) l)) (λw w' a6=>⟨yt a6,λA=>ς A a6⟩) (λu v w a b=>⟨yu a.1 b.1,λA=>b.2 (a.2 A)⟩)
  [eqv (ptr C 0),eqv (ptr C 0),eqv (ptr C 0),eqv (ptr C 0),eqv (H s x t),eqv (ptr y 0),eqv (H i z cap),λ_ v w=>zL (X0 c) (C+1) w v (l++a)] ?b7 ?step ?fin
 case b7=>
  refine⟨?_,?_,?_,?_,?_,?_,?_,?_,trivial⟩
  all_goals intro d u w w' a6 A
  all_goals first|exact A|exact ς A a6
 case step=>
  refine⟨?_,?_,?_,?_,?_,?_,?_,?_,trivial⟩
  all_goals
   intro b9 w f h;simp only[oI,oF,fr,qD,Fv,Fa,eqv,ptr,List.map,nU] at h|-;have a1:=pJ (j:=0) ((f.1.block C (ν P.o) (λe=>(ai.o C e.symm).1 rfl)).trans P.o) rfl;have aW:=pJ (j:=0) ((f.1.block y (ν ap.o) (λe=>(ai.o y e.symm).2 rfl)).trans ap.o) rfl
  case refine_8=>obtain⟨bc,bd⟩:=h;have al:X c.heap.size c w:=qI f.1 ae.o (λp e=>by have:=(a0.o p e).1;have:=ao.o;omega) ae.o.size;refine Ck w (.tmp 23) (.tmp 25) rfl Rb aU.o (by go_simp) (f.2 au.o) (H i z cap) z a L (by go_simp) (W.o w al).1 aT.o aR.o (λu o=>⟨(W.o w al).2.1,λj p q b6=>(W.o u b6).2.2 j p q⟩) (Ww (W.o w al).2) (by have m:=f.1.size;have n:=ν P.o;omega) (by omega) (by decide) ?_;intro bg w' m n a3 _;exact⟨m,by rw[oD trivial];exact⟨n,λ_=>a3⟩⟩
  all_goals(unfold gives;go_simp;exact pH _ _)
 case fin=>
  intro b9 aP f h;simp only[show List.range 8=[0,1,2,3,4,5,6,7] from rfl,oI,oF,fr,qD,Fv,Fa,eqv,ptr,List.map,nU,nS,nO] at h|-;obtain⟨aw,m,n,a3,ax,aA,aB,a4⟩:=h;obtain⟨ba,bb,a9⟩:=ah a4;obtain⟨be,aN⟩:=pL ((l++a).length);rw[aN] at a9;rw[aw,m,n,a3,ax,aA,aB,a9];rw[a9] at a4;have aQ:=G a4;have ab:=(f.1.block C (ν P.o) (λe=>(ai.o C e.symm).1 rfl)).trans P.o;have aV:=G ab;have aS:=G (show X C w aP from qI f.1 ad.o (λp e=>by have:=(a0.o p e).1;omega) (by have m:=ad.o.size;have n:=ag.o;omega));have a1:=pJ (j:=0) ab rfl;have a2:=yY ab 0;clear f aw m n a3 ax aA aB a4 a9 aN ab;go_simp
  go_wp2_with fail
  go_end0
  exact⟨rfl,⟨_,oO _ _ 0 _ _ _ aV.o,qK aQ.o (by simp) λq a=>pz _ _ _ _ (by show q≠C;omega)⟩,aS.o.trans ⟨rfl,rfl,rfl,by simp,λq a=>pz aP ⟨C,0,N⟩ q _ (by show q≠C;omega)⟩⟩
structure Ars(W:aj)(sv:Ξ)(vs:Z Ξ)(As:Z (Z Δ)):Prop where
 row:Rw W sv 1 (vs.map λv=>[v])
 len:vs.length=As.length
 at':∀j(h1:j<vs.length)(h2:j<As.length),rY W vs[j] As[j]
 bd:∀a∈As,IA a
 ok:∀a∈As,Mo.Dt a=true
 n:As.flatten.length<=100000
 m:As.length<=1000
def DW(a:Z (Z Δ))(k:J):(a.take k).flatten.length<=a.flatten.length:=by
 have b:(a.take k).flatten++(a.drop k).flatten=a.flatten:=by rw[<-ni,l_]
 rw[<-b,o_];omega
def Wx(b:aj)(C:J)(a:Z (Z Δ))(u:Z Ξ)(ab:Ξ)(w:aj)(i:Ars b ab u a)(a0:WT b)(W:b.heap.size<=C)(f:X b.heap.size b w)(a2:w.heap[C]?=M (bC (H N 0 0))):
 aG av 122 #[.func (.func 123) #[ε (M ⟨C,0,N⟩)] #[],ab] w λe w'=>e=η (.tuple #[])/\(∃aa,w'.heap[C]?=M (bC aa)/\zL (X0 b) (C+1) w' aa a.flatten)/\X C w w':=by
 obtain⟨g,ao,aq,cap,rfl,D,a4⟩:=Mw.qY i.row (oS _);obtain⟨m,t⟩:=pL u.length;rw[t] at D|-;have Q:=G t;have ae:=G D;have ai:=G a4;have d:=G i;have ak:=G a0;have P:=G W;have af:=G f;have al:=G a2;have ax:m<=1000:=by rw[<-t,i.len];exact i.m
 clear t D a4 i a0 W f a2
 go_enter Tryz.func122,Tryz.ntmps122
 go_wp2_with fail
 go_loopw [8] (λx wr=>∃(k:J)(r:Ξ),k<=m/\x=U V k/\Hid (wr.heap[C]?=M (bC r))/\Hid (zL (X0 b) (C+1) wr r (a.take k).flatten)/\Hid (X C w wr)) (λx _=>m-(intOf x).toNat)
 case atStart=>exact⟨0,_,oM _,rfl,al,G aH,G (pH _ _)⟩
 case round=>
  obtain⟨k,r,aw,rfl,a3,a5,f⟩:=hrel;have z:=G a3.o;have A:=G a5.o;have L:=G f.o;have l:X b.heap.size b wr:=af.o.trans (f.o.mono P.o);clear a3 a5 f
  by_cases an:k<m
  ·obtain rfl:=ae.o (by omega)
   have s:k<u.length:=(by rw[Q.o];exact an);have q:k<a.length:=(by rw[<-d.o.len];exact s);obtain⟨aN,a8,a9⟩:=ai.o k (by rw[oS];exact s) 0 (by omega);rw[oG] at a8;cases a8;have p:=d.o.at' k s q;obtain⟨-,-,va,c,a7,-,-⟩:=qF p;have K:wr.cell? ⟨g,ao+k,N⟩=M u[k]:=(by have:=pI a9 l;simpa using this);rw[a7] at K p;have B:=G (show(a.take (k+1)).flatten=(a.take k).flatten++a[k] by rw[aI q,ni];simp);have E:=pq q;have h:=pM wr (O #[.slice va a[k].length c] (24:J))
   have v:=madd_is b C r (a.take k).flatten a[k] (.slice va a[k].length c) (wr.alloc (O #[.slice va a[k].length c] (24:J))) P.o (l.trans (h.mono l.size)) (pW h z.o) (ς A.o h) p (d.o.bd _ E) (d.o.ok _ E) ak.o (by have am:=DW a (k+1);rw[B.o,o_] at am;have au:=d.o.n;omega)
   rw[<-B.o] at v;have o:=G v;have y:=G (L.o.trans (h.mono (mN (ν z.o))));have F:(wr.alloc (O #[.slice va a[k].length c] (24:J))).cell? ⟨wr.heap.size,0,N⟩=M (.slice va a[k].length c):=pJ (j:=0) (pG wr _) rfl;generalize a[k].length=R at K o y F;have aB:(k:Y)<(m:Y):=(by omega);have aA:(0:Y)<=(k:Y):=(by omega);clear a9 a7 p E h v s l;clear B q
   go_upto_region 3 with fail
   change Code.wp _ _ _ _ (wr.alloc (O #[H va R c] (24:J)));generalize wr.alloc (O #[H va R c] (24:J))=aD at o y F|-;clear K
   go_wp2_with fail
   refine o.o.mono ?_;rintro e aF⟨rfl,⟨ap,S,T⟩,a1⟩;have ac:=G S;have ad:=G T;have ag:=G (y.o.trans a1);clear S T a1 F o
   go_wp2_with fail
   go_roundw
   case rel=>exact⟨k+1,ap,by omega,by go_num,ac,ad,ag⟩
   case measure=>simp[intOf];omega
  ·have ar:decide ((k:Y)<(m:Y))=false:=o9 (by omega)
   have a6:a.take k=a:=oP (by rw[<-d.o.len,Q.o];omega);rw[a6] at A;clear a6 l
   go_wp2_with fail
   go_end0
   exact⟨rfl,⟨r,z.o,A.o⟩,L.o⟩
def TD(b:Z (Z Δ))(a2:Z Ξ)(z:Ξ)(W:aj)(d:Ars W z a2 b)(r:WT W)(S:∀g∈b.flatten,FQ g)(R:(b.flatten.map nE).sum<=1000000):
 aG av 63 #[z] W λx w'=>(∃l,x=η (.tuple #[.agg #[l],U V 0])/\rY w' l (b.flatten.foldl wN []))/\X W.heap.size W w':=by
 obtain⟨F,E,s⟩:=sM W (O #[H N 0 0] (24:J)) (bC (H N 0 0));have A:=G (Wx W (W.heap.size+1) b a2 z _ d r (nu _) s E)
 have y:∀g∈b.flatten,QZ g/\aM g=true:=λg f=>by
  obtain⟨a,K,Q⟩:=List.mem_flatten.1 f;exact⟨(d.bd a K).each g Q,Mo.vI _ _ _ (d.ok a K) g Q⟩
 have B:=G (λ(v:Ξ) u (aa:X W.heap.size W u) (a8:rY u v b.flatten)=>MM b.flatten v u a8 d.n (λg f=>(y g f).1) (λg f=>(y g f).2) S R (r.below aa));obtain⟨g,ag,i,cap,rfl,-,-⟩:=Mw.qY d.row (oS _);have a6:=G F;have a4:=G s;have a9:=d.n;clear F E s d r S R y
 go_enter Tryz.func63,Tryz.ntmps63
 go_wp2_with fail
 refine A.o.mono ?_;rintro e ad⟨rfl,⟨ai,o,p⟩,t⟩;obtain⟨ab,ac,rfl⟩:=ah p;have k:=a4.o.trans (t.mono (nu _));have a7:=G ((t.block _ (lW _)).trans a6.o);obtain⟨L,P⟩:=zL.ax p;obtain⟨T,a0,a1⟩:=P.here k;have m:=G (B.o (H ab b.flatten.length ac) ad k ⟨L,a0,T,a1⟩);have C:=G k;have D:=pJ (j:=0) o rfl;have c1:=pJ (j:=1) o rfl;generalize b.flatten.length=n at D m a9;clear A B o p t k P T a0 a1
 go_wp2_with fail
 refine m.o.mono ?_;rintro e ak⟨⟨l,rfl,q⟩,w⟩
 obtain⟨ae,af,rfl⟩:∃i c,l=H i (b.flatten.foldl wN []).length c:=by obtain⟨_,_,i,c,e,_⟩:=qF q;exact⟨i,c,e⟩
 have h:=G (pW w a7.o);have a3:=G q;have a5:=G (C.o.trans (w.mono C.o.size));clear m q w D c1
 go_wp2_with(refine oN rfl 24 _ _ rfl _ _ rfl rfl 24 _ h.o (by kernel_rfl) rfl (by simp[Γ]) ?_)
 go_wp2_with fail
 refine ow (qE rfl _ _ W.heap.size _ _ _ _ rfl (og _ _ _ _ _ _ h.o) aC rfl (by kernel_rfl)) rfl ?_;refine⟨⟨_,rfl,?_⟩,pS a5.o (oZ _) _⟩;rw[MQ h.o];exact Go.Proofs.YthbhmjdcfocphaaGreatDoor.Ms.O5 h.o a3.o
end Mr
end Go.Proofs.YthbhmjdcfocphaaGreatDoor
