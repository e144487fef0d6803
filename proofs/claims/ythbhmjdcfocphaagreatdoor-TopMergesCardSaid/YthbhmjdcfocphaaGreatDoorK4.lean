/- A part of this proof. -/
import Derived.Test.YthbhmjdcfocphaaGreatDoorK1
import Derived.Test.YthbhmjdcfocphaaGreatDoorKR
set_option linter.all false
set_option maxHeartbeats 16000000
set_option maxRecDepth 100000
namespace Go.Proofs.YthbhmjdcfocphaaGreatDoor
open Go.Value renaming string→I, slice→G, pointer→ε, int→M
open Go.Obj renaming cells→ζ
open Go.Ending renaming returned→η
open Go.IntKind renaming i64→N
open Go.Lib renaming hid→K
open Me.Row renaming slice→Y, below→π, base→aj, nil→ay
open Option renaming none→H, some→O
open Go.RowKit renaming Below→V
open _root_ renaming Int→J, ByteArray→ah, List→aA, Nat→U
open Go renaming Value→X, World→az, Calls→aG
open Mo renaming Fd→Θ
open Go.Value renaming slice→Λ, string→ς
open Go.Proofs renaming intOf→Ξ
open Xm renaming fold→Ω
open Rw renaming lt_of_heap→ο
open Go.Proofs.Tryz renaming prog→av, underlying24→aE
namespace Nd
open RowKit Rw Vf Mw Me Gr Rg Xm
def rlt{a:Type}{El:az->a->aA X->Prop}{sz S:U}{t:TypeId}{w:az}{v:X}{l:aA a}(b:Row El sz t S w v l){q:U}(e:v.ownBlock=O q):S<=q/\q<w.heap.size:=by obtain⟨L,d,c,f⟩:=b;exact qq c e
def at3(f:Θ):aA (ah×ah):=[(sType,E_),(rZ,f.title),(AN,f.id)]
def Wa{f:Θ}(a:f.link.toList.isEmpty=true):leaf f= .el pQ (at3 f) []:=by unfold leaf;rw[oD a];rfl
def Wb{f:Θ}(a:f.link.toList.isEmpty=false):leaf f= .el pQ (at3 f++[(gK,f.link)]) []:=by unfold leaf;rw[a];rfl
def WK(d:U)(l:aA Θ){k:U}(b:k<l.length):own d (l.take (k+1))=own d (l.take k)++if l[k].path.length=d then [l[k]] else []:=by
 unfold own;rw[Mg.qi b,List.filter_append]
 congr 1
 by_cases a:l[k].path.length=d
 ·rw[mR (by simpa using a),oD a];rfl
 ·rw[mQ (by simpa using a),oU a];rfl
def NV.apart{S R:U}{w u:az}{t:T}{c:aA X}{row:Option U}(a:NV R w t c)(h:S<=R)(f:∀k,row=O k->k<R)(d:Agree S w u row):tQ u t c:=
 a u λk g b _=>d k (by omega) b (λe=>by have:=f k e.symm;omega)
structure ZB(W:az)(v:X)(p:aA ah)(l:aA Θ):Prop where
 ar:rY W v l
 fo:Fo p l
 pl:∀f∈l,f.path.length<=64
 n:l.length<=1000000
abbrev bE(vp:X)(i t k:ah)(u:J)(ve:X):Obj:=ζ #[vp,I i,I t,I k,M N u,ve] (51:U)
def RFol(n d:U):Prop:=∀(p:aA ah)(l:aA Θ)(v:X)(W:az),p.length=d->ZB W v p l->
 aG av 91 #[v,M N d] W λe w'=>(∃a,e=η a/\tA W.heap.size w' a (outs (n+1) d l))/\V W.heap.size W w'
def Gt(n d:U)(ea:d+n=64)(d4:∀P,n=P+1->RFol P (d+1)):RFol n d:=by
 intro p l v W dg bF;obtain⟨g,el,e2,cap,rfl,cp,d6⟩:=qF bF.ar;obtain⟨m,bO⟩:=pL l.length;rw[bO] at cp|-;have e9:m<=1000000:=by rw[<-bO];exact bF.n
 have e5:d<=64:=by omega
 have am:=K bO;have cT:=K cp;have ca:=K d6;have bl:=K bF;have bp:=K dg;have cX:=K d4;clear bO cp d6 bF dg d4
 go_enter Tryz.func91,Tryz.ntmps91
 go_wp2_with fail
 go_loopw [5,6] (λr x wr=>∃(k:U),k<=m/\x=M N k/\Hid (tA W.heap.size wr r ((own d (l.take k)).map leaf))/\Hid (V W.heap.size W wr)) (λ_ x _=>m-(Ξ x).toNat)
 case atStart=>exact⟨0,oM _,rfl,K ay,K (pH _ _)⟩
 case round=>
  obtain⟨k,e8,rfl,aH,b2⟩:=hrel;obtain⟨cI,cK,cA⟩:=Y aH.o;subst cA;obtain⟨be,aF⟩:=pL (((own d (l.take k)).map leaf).length);rw[aF] at aH|-
  have ee:be<=1000000:=by rw[<-aF,oS];have E:=ng (λf:Θ=>decide (f.path.length=d)) (l.take k);have T:=mZ k l;unfold own;omega
  have cl:=K aF;have bD:=K aH.o;have cc:=K b2.o;have h:=b2.o;clear aH b2 aF
  by_cases dP:k<m
  ·obtain rfl:=cT.o (by omega)
   have bM:k<l.length:=(by rw[am.o];exact dP);obtain⟨vp,ve,ao,aw,A,y1,y2,y3,y4,y5⟩:=ca.o k bM;obtain⟨bV,bW,bd,aU,rfl,aS,aT⟩:=qp ao;obtain⟨-,-,aY,aZ,rfl,-,-⟩:=qO aw;replace A:=pI A h;replace y1:=pI y1 h;replace y2:=pI y2 h;replace y3:=pI y3 h;replace y4:=pI y4 h;replace y5:=pI y5 h;have aM:=K (WK d l bM);have cj:=K (bl.o.pl _ (pq bM));clear ao aw aS aT;generalize l[k]=f at A y1 y2 y3 y4 y5 aM cj;clear bM;obtain⟨R,B,C,o,D,Q⟩:=f;simp only at A y1 y2 y3 y4 y5 aM cj;obtain⟨ak,bP⟩:=pL R.length;obtain⟨b9,bI⟩:=pL Q.length;rw[bP] at A aM cj;rw[bI] at y5;have bc:=pG wr (bE (G bd ak aU) B C o D (G aY b9 aZ));have cs:=pM wr (bE (G bd ak aU) B C o D (G aY b9 aZ));have bi:=K (cc.o.trans (cs.mono cc.o.size));have ck:=K (π bD.o cs);have ci:=K (λq (e:(Λ cI be cK).ownBlock=O q)=>(rlt bD.o e).2);have dT:(k:J)<(m:J):=(by omega);have dS:(0:J)<=(k:J):=(by omega);clear h cs
   go_upto_region 6 with fail
   change Code.wp _ _ _ _ (wr.alloc (bE (G bd ak aU) B C o D (G aY b9 aZ)));clear A y1 y2 y3 y4 y5;generalize dR:wr.alloc (bE (G bd ak aU) B C o D (G aY b9 aZ))=b6 at bc bi ck|-;have cn:=K (show wr.heap.size<b6.heap.size from ο bc);generalize dD:wr.heap.size=e1 at bc cn ci|-;have dz:=K bc;obtain⟨dW,dX,dY,bX,dZ,e0⟩:=pN (pH _ _) bc;clear dR dD bc
   by_cases aD:ak=d
   ·subst aD
    rw[oD rfl] at aM;have ag:=sL b6 (tB (at3 ⟨R,B,C,o,D,Q⟩)) 9 6;have F:=pM b6 (ζ ((tB (at3 ⟨R,B,C,o,D,Q⟩)).map ς).toArray (9:U));have ab:=K F;have a9:=K (AU pQ [] (at3 ⟨R,B,C,o,D,Q⟩) (G H 0 0) (G H 0 0) _ _ (Rw.nil _ 4) ⟨_,_,_,rfl⟩ ag (by simp) (by simp[at3]));clear ag F
    go_wp2_with fail
    refine a9.o.mono ?_;rintro e a4⟨⟨b5,af,T⟩,d7⟩;obtain⟨an,c2,cC⟩:=Y T;replace cC:b5=G an 3 c2:=cC;subst cC;obtain rfl:e=η (.agg #[M N 0,I ⟨#[]⟩,I pQ,G an 3 c2,G H 0 0,I ⟨#[]⟩,M N 0]):=af;have bq:V b6.heap.size b6 a4:=ab.o.trans (d7.mono ab.o.size);have dq:=K (show wk b6.heap.size a4 (G an 3 c2) (at3 ⟨R,B,C,o,D,Q⟩) from aj T ab.o.size);have dm:=pW bq dz.o;have aV:=K (bi.o.trans (bq.mono bi.o.size));have b7:=K (π ck.o bq);have du:=K bq.size;have bU:=pG a4 (bN pQ (G an 3 c2) (G H 0 0));have bG:=pM a4 (bN pQ (G an 3 c2) (G H 0 0));have aL:=K bG;have d3:=K (pW bG dm);have bY:=K (π dq.o bG);clear T d7 bq a9 dm bG dW dX dY bX dZ e0
    go_upto_region 8 with fail
    change Code.wp _ _ _ _ (a4.alloc (bN pQ (G an 3 c2) (G H 0 0)));generalize a4.alloc (bN pQ (G an 3 c2) (G H 0 0))=ap at bU aL d3 bY|-;have d2:=K bU;have bn:=K (oZ a4.heap.size);obtain⟨x0,x1,x2,x3,x4,x5,x6⟩:=ql (pH _ _) bU;have bX:=(pN (pH _ _) d3.o).2.2.2.1;clear bU
    cases de:o.toList.isEmpty with
    |true=>
     have ac:=K (show∀u,Agree W.heap.size ap u (Λ cI be cK).ownBlock->tQ u (leaf ⟨R,B,C,o,D,Q⟩) (qA pQ (G an 3 c2) (G H 0 0)) fromλu a3=>by
      rw[Wa de];exact NV.apart (Ao bY.o ay) bi.o.size (λq e=>by have E:=ci.o q e;have T:=cn.o;omega) a3)
     go_wp2_with(refine qu (n:=be) ap rfl (.tmp 43) (.tmp 45) rfl tiN cl.o rfl (π b7.o aL.o) (leaf ⟨R,B,C,o,D,Q⟩) (qA pQ (G an 3 c2) (G H 0 0)) rfl ac.o rfl (tQ.one (ac.o ap λ_ _ _ _=>rfl)) (pF aV.o.size aL.o.size) (by omega) (by decide) ?_)
     intro aJ aK a1 a2 aC;have aa:=K (show tA W.heap.size aK aJ ((own ak (l.take (k+1))).map leaf) by rw[aM.o,nv];exact a1);have aq:=K (aV.o.trans ((aL.o.mono aV.o.size).trans a2));clear a1 a2 aC x0 x1 x2 x3 x4 x5 x6 bX
     go_wp2_with fail
     go_roundw
     case rel=>exact⟨k+1,by omega,by go_num,aa,aq⟩
     case measure=>simp[Ξ];omega
    |false=>
     have ag:=sL ap (tB [(gK,o)]) 9 2;have F:=pM ap (ζ ((tB [(gK,o)]).map ς).toArray (9:U));have cb:=K F;have a9:=K (AU pQ (at3 ⟨R,B,C,o,D,Q⟩) [(gK,o)] (G an 3 c2) (G H 0 0) _ _ ((wk.rw bY.o).under F) ⟨_,_,_,rfl⟩ ag (by simp[at3]) (by simp));clear ag F
     go_wp2_with fail
     refine a9.o.mono ?_;rintro e Z⟨⟨cN,af,a8⟩,aQ⟩;obtain⟨t,y,aI⟩:=Y a8;replace aI:cN=G t 4 y:=aI;subst aI;obtain rfl:e=η (.agg #[M N 0,I ⟨#[]⟩,I pQ,G t 4 y,G H 0 0,I ⟨#[]⟩,M N 0]):=af;have cr:V ap.heap.size ap Z:=cb.o.trans (aQ.mono cb.o.size);have cD:=pW cr d2.o;have dy:=K cD;have cR:=K (show wk ap.heap.size Z (G t 4 y) (at3 ⟨R,B,C,o,D,Q⟩++[(gK,o)]) from aj a8 cb.o.size);have ds:=K (ο d2.o);have bB:=K (show V a4.heap.size a4 (Z.setRow a4.heap.size #[M N 0,I ⟨#[]⟩,I pQ,G t 4 y,G H 0 0,I ⟨#[]⟩,M N 0]) from pS (aL.o.trans (cr.mono aL.o.size)) (oZ _) _);have cE:=og Z a4.heap.size _ #[M N 0,I ⟨#[]⟩,I pQ,G t 4 y,G H 0 0,I ⟨#[]⟩,M N 0] _ _ cD;have cS:=K (qK (w':=Z.setRow a4.heap.size #[M N 0,I ⟨#[]⟩,I pQ,G t 4 y,G H 0 0,I ⟨#[]⟩,M N 0]) cR.o (by simp[World.setRow]) λq a=>oo _ _ _ _ (by have:=ds.o;omega));have dv:=K (show W.heap.size<=ap.heap.size by have E:=aV.o.size;have T:=aL.o.size;omega);have dw:=K (show b6.heap.size<=ap.heap.size by have E:=du.o;have T:=aL.o.size;omega);clear a8 aQ cr cD a9 x0 x1 x2 x3 x4 x5 x6 bX cR
     go_wp2_with(first
      |(refine oN rfl 100 _ _ rfl _ #[M N 0,I ⟨#[]⟩,I pQ,G t 4 y,G H 0 0,I ⟨#[]⟩,M N 0] rfl rfl 100 _ dy.o (by kernel_rfl) rfl (by simp[Value.oneCell']) ?_
        generalize Z.setRow a4.heap.size #[M N 0,I ⟨#[]⟩,I pQ,G t 4 y,G H 0 0,I ⟨#[]⟩,M N 0]=cQ at bB cE cS|-;obtain⟨x0,x1,x2,x3,x4,x5,x6⟩:=ql (pH _ _) cE
        have ac:=K (show∀u,Agree W.heap.size cQ u (Λ cI be cK).ownBlock->tQ u (leaf ⟨R,B,C,o,D,Q⟩) (qA pQ (G t 4 y) (G H 0 0)) fromλu a3=>by
         rw[Wb de]
         exact NV.apart (Ao cS.o ay) dv.o (λq e=>by have E:=ci.o q e;have T:=cn.o;have dC:=dw.o;omega) a3))
      |(refine qu (n:=be) cQ rfl (.tmp 43) (.tmp 45) rfl tiN cl.o rfl (π b7.o bB.o) (leaf ⟨R,B,C,o,D,Q⟩) (qA pQ (G t 4 y) (G H 0 0)) rfl ac.o rfl (tQ.one (ac.o cQ λ_ _ _ _=>rfl)) (pF aV.o.size bB.o.size) (by omega) (by decide) ?_))
     intro aJ aK a1 a2 aC;have aa:=K (show tA W.heap.size aK aJ ((own ak (l.take (k+1))).map leaf) by rw[aM.o,nv];exact a1);have aq:=K (aV.o.trans ((bB.o.mono aV.o.size).trans a2));clear a1 a2 aC x0 x1 x2 x3 x4 x5 x6 cE
     go_wp2_with fail
     go_roundw
     case rel=>exact⟨k+1,by omega,by go_num,aa,aq⟩
     case measure=>simp[Ξ];omega
   ·have d5:((ak:J)==(d:J))=false:=by simp;omega
    rw[oU aD,nC] at aM;clear aD
    go_wp2_with fail
    go_roundw
    case rel=>exact⟨k+1,by omega,by go_num,by rw[aM.o];exact ck,bi⟩
    case measure=>simp[Ξ];omega
  ·have dO:k=m:=by omega
   subst dO;have e3:decide ((k:J)<(k:J))=false:=o9 (by omega);have dk:l.take k=l:=oP (by rw[am.o];exact oZ _);rw[dk] at bD cl;have ba:=bl.o.fo;obtain⟨c,cu⟩:=pL ((own d l).length);have bH:=ba.take;have bL:=ba.Q9;have d9:∀f∈l,d<=f.path.length:=λf aR=>by rw[<-bp.o];exact ba.len aR
   have bT:=nT List.length ba.split;rw[bp.o] at bH bL bT;rw[cu] at bH bL;rw[o_,cu,am.o] at bT;have dx:=K bT;have dr:=K bH.2;have cg:=K bL;have cU:=K d9
   have dt:=K (λg (dG:g∈tW (nth d) (deep d l))=>show Fo (p++[g.1]) g.2 from by have a7:=ba.run (g:=g);rw[bp.o] at a7;exact a7 dG)
   clear dk ba bH bL d9 bT h
   go_wp2_with fail
   go_loopw [5,9] (λr x bz=>∃(i:U)(dn:aA (ah×aA Θ)),i<=k/\x=M N i/\Hid (tW (nth d) (deep d l)=dn++tW (nth d) (l.drop (max i c)))/\Hid (tA W.heap.size bz r ((own d l).map leaf++dn.map (Ω n d)))/\Hid (V W.heap.size W bz)) (λ_ x _=>k-(Ξ x).toNat)
   case atStart=>exact⟨0,[],oM _,rfl,K (by rw[dr.o];simp),by simpa using bD,cc⟩
   case round=>
    obtain⟨i,dn,e6,rfl,cB,aH,b2⟩:=hrel;obtain⟨a0,rfl⟩:∃w,w=wr:=⟨_,rfl⟩;obtain⟨cJ,cL,cA⟩:=Y aH.o;subst cA;obtain⟨bf,aF⟩:∃P,((own d l).map leaf++dn.map (Ω n d)).length=P:=⟨_,rfl⟩;rw[aF] at aH|-
    have ef:bf<=1000000:=by rw[<-aF,o_,oS,oS,cu];have E:=nT List.length cB.o;rw[o_] at E;have T:=Jm (nth d) (deep d l);have dC:=dx.o;omega
    have cZ:=K aF;have cm:=K cB.o;have b8:=K aH.o;have a6:=K b2.o;have h:=b2.o;clear aH b2 aF cB
    by_cases dQ:i<k
    ·obtain rfl:=cT.o (by omega)
     have b3:i<l.length:=(by rw[am.o];exact dQ);obtain⟨vp,ve,ao,aw,A,-,-,-,-,-⟩:=ca.o i b3;obtain⟨bV,bW,bd,aU,rfl,aS,aT⟩:=qp ao;replace A:=pI A h;have dT:(i:J)<(k:J):=(by omega);have dS:(0:J)<=(i:J):=by omega
     by_cases dc:i<c
     ·have aD:=(cg.o i b3).2 dc
      rw[aD] at A;clear ao aw aS aT h b3 aD
      go_wp2_with fail
      go_roundw
      case rel=>exact⟨i+1,dn,by omega,by go_num,by rw[show max (i+1) c=max i c by omega];exact cm,b8,a6⟩
      case measure=>simp[Ξ];omega
     ·have aD:l[i].path.length≠d:=λe=>dc ((cg.o i b3).1 e)
      have cw:d<l[i].path.length:=(by have:=cU.o _ (pq b3);omega);have ec:=bl.o.pl _ (pq b3);obtain⟨P,df⟩:∃P,n=P+1:=⟨n-1,by omega⟩;have bC:=K df;clear df;obtain rfl:=aS (by omega);have y1:=pI (aT d cw) h;have bv:nth d l[i]=l[i].path[d]:=(by unfold nth;rw[om,oW cw];rfl);rw[<-bv] at y1;have cv:l.drop i=l[i]::l.drop (i+1):=mO b3;obtain⟨s,bS⟩:=pL (nth d l[i]);rw[bS] at y1;obtain⟨q,bw⟩:=pL ((Xm.ahead (nth d) s (l.drop (i+1))).1.length)
      have ed:i+1+q<=k:=by have E:=Xm.M9 (nth d) s (l.drop (i+1));rw[bw,nN,am.o] at E;omega
      have bR:=Gv (nth d) l[i] (l.drop (i+1));rw[bS,bw,<-cv,lE] at bR;obtain⟨b,cy⟩:=pL (l[i]::(l.drop (i+1)).take q);have bK:b=(l.drop i).take (i+1+q-i):=(by rw[<-cy,cv,show i+1+q-i=q+1 by omega,mm]);rw[cy] at bR;have bQ:=cm.o;rw[show max i c=i by omega,bR] at bQ;have b7:=K bQ;have cW:=K bK;have d8:=dt.o (s,b) (by rw[bQ];simp);have ce:=K d8;have db:∀f∈b,f∈l:=λf aR=>by rw[bK] at aR;exact iX (lY aR)
      have da:b.length=q+1:=(by rw[bK,nQ,nN,am.o];omega);have bn:=K da;have cV:=K db;obtain⟨ak,bP⟩:=pL (l[i].path.length);rw[bP] at A cw aD;have d5:((ak:J)==(d:J))=false:=(by simp;omega);have eg:(d:J)<(ak:J):=(by omega);have eh:(0:J)<=(d:J):=(by omega)
      have cY:=K (show∀j(br:j<l.length),i<=j->j<=i+1+q->(nth d l[j]=s↔j<i+1+q)/\d<l[j].path.length fromλj br E T=>by
       have aB:d<l[j].path.length:=by
        have a8:=cU.o _ (pq br);have aP:l[j].path.length≠d:=λe=>by have:=(cg.o j br).1 e;omega
        omega
       refine⟨?_,aB⟩
       by_cases dL:j=i
       ·subst dL
        exact⟨λ_=>by omega,λ_=>bS⟩
       ·have co:=Xm.D3 (nth d) s (l.drop (i+1)) (j-(i+1)) (by rw[nN];omega) (by rw[bw];omega)
        rw[bw,lM] at co;simp only[show i+1+(j-(i+1))=j by omega] at co;rw[co];omega)
      clear ao aw aT aS bv cv bS bw bR cy bK bQ d8 db da bP aD h
      go_wp2_with fail
      clear A y1 d5
      go_loopw [11,12] (λg x bz=>∃j,i<=j/\j<=i+1+q/\x=M N j/\Hid (Row (Nr.Fx λu=>V W.heap.size W u) 6 51 a0.heap.size bz g ((l.drop i).take (j-i)))/\Hid (V a0.heap.size a0 bz)) (λ_ x _=>i+1+q-(Ξ x).toNat)
      case atStart=>exact⟨i,oZ _,by omega,rfl,by rw[jg];exact K ay,K (pH _ _)⟩
      case round=>
       obtain⟨j,dJ,br,rfl,bJ,ct⟩:=hrel;obtain⟨aN,aO,dl⟩:=Y bJ.o;rw[show((l.drop i).take (j-i)).length=j-i by rw[nQ,nN,am.o];omega] at dl;subst dl;obtain⟨z,cx⟩:=pL (j-i);rw[cx] at bJ|-;have au:=K cx;have cf:=K bJ.o;have al:=K ct.o;have h:V W.heap.size W wr:=a6.o.trans (ct.o.mono a6.o.size);have d1:=K h;clear bJ ct cx
       by_cases dM:j<k
       ·have cz:j<l.length:=by rw[am.o];exact dM
        obtain⟨vp,ve,ao,aw,A,y1,y2,y3,y4,y5⟩:=ca.o j cz;obtain⟨bV,bW,bd,aU,rfl,aS,aT⟩:=qp ao;obtain⟨-,-,aY,aZ,rfl,-,-⟩:=qO aw;obtain⟨bb,bs⟩:=cY.o j cz dJ br;obtain rfl:=aS (by omega);have bA:=pI (aT d bs) h;have bv:nth d l[j]=l[j].path[d]:=(by unfold nth;rw[om,oW bs];rfl);rw[<-bv] at bA;replace A:=pI A h;replace y1:=pI y1 h;replace y2:=pI y2 h;replace y3:=pI y3 h;replace y4:=pI y4 h;replace y5:=pI y5 h;have cd:=K (show∀u,V W.heap.size W u->vT u l[j] (pX l[j] (.slice (O ⟨bV,bW,H⟩) l[j].path.length aU) (.slice aY l[j].pU.length aZ)) fromλu a3=>⟨_,_,rfl,ao.under a3,aw.under a3⟩)
        have d0:=K (show(l.drop i).take (j+1-i)=(l.drop i).take z++[l[j]] by have E:z<(l.drop i).length:=(by rw[nN];have:=au.o;omega);rw[show j+1-i=z+1 by have:=au.o;omega,Mg.qi E,lM];simp only[show i+z=j by have:=au.o;omega])
        clear ao aw aT aS bv;generalize l[j]=f at A y1 y2 y3 y4 y5 bA bb bs cd d0;obtain⟨R,B,C,o,D,Q⟩:=f;simp only at A y1 y2 y3 y4 y5 bs;obtain⟨dp,dh⟩:=pL R.length;obtain⟨b9,bI⟩:=pL Q.length;simp only[dh,bI] at A y5 bs cd;have ej:(j:J)<(k:J):=(by omega);have ei:(0:J)<=(j:J):=(by omega);have ek:(d:J)<(dp:J):=(by omega);obtain⟨dV,di⟩:=pL (nth d ⟨R,B,C,o,D,Q⟩);rw[di] at bA bb;clear di dh bI h cz
        by_cases dd:j<i+1+q
        ·have dj:=bb.2 dd
         rw[dj] at bA;clear bb dj b7 ce cY
         go_wp2_with(refine qu (n:=z) wr rfl (.tmp 88) (.tmp 93) rfl Rb (by rw[nQ,nN,am.o];have:=au.o;omega) rfl cf.o (⟨R,B,C,o,D,Q⟩:Θ) (pX ⟨R,B,C,o,D,Q⟩ (G (O ⟨bV,bW,H⟩) dp aU) (G aY b9 aZ)) rfl (λu a3 dE=>cd.o u dE) rfl (by intro u a3;simp only[pX,ox,oy,nw] at a3;rcases a3 with rfl|rfl|rfl|rfl|rfl|rfl<;>rfl) al.o.size (by have:=au.o;omega) (by decide) ?_)
         intro aJ aK a1 a2 aC;have aa:=K (show Row (Nr.Fx λu=>V W.heap.size W u) 6 51 a0.heap.size aK aJ ((l.drop i).take (j+1-i)) by rw[d0.o];exact a1);have aq:=K (al.o.trans a2);clear a1 a2 aC A y1 y2 y3 y4 y5 bA
         go_wp2_with fail
         go_roundw
         case rel=>exact⟨j+1,by omega,by omega,by go_num,aa,aq⟩
         case measure=>simp[Ξ];omega
        ·have eb:(dV.toList==s.toList)=false:=by
          rw[oq];intro e;refine dd (bb.1 ?_);rw[ByteArray.toList_eq,ByteArray.toList_eq] at e;exact Bs.vo e
         have bm:=K (show i+z=j by have:=au.o;omega);have bo:=K (show j=i+1+q by omega);have dI:z<=1000000:=(by have:=au.o;omega)
         have bZ:=K (show rY wr (G aN z aO) b from by have a7:Row (Nr.Fx λu=>V W.heap.size W u) 6 51 a0.heap.size wr (G aN z aO) b:=(by rw[cW.o,show i+1+q-i=z by have E:=bm.o;have T:=bo.o;omega];exact cf.o);obtain⟨L,cq⟩:=Nr.zL.ax a7;obtain⟨cF,cG,cH⟩:=cq.here d1.o;exact⟨L,cG,cF,cH⟩)
         clear bb
         have bh:aG av 91 #[G aN z aO,M N ((d:J)+1)] wr λe w'=>(∃b5,e=η b5/\tA wr.heap.size w' b5 (outs n (d+1) b))/\V wr.heap.size wr w':=by have a7:=cX.o P bC.o (p++[s]) b (G aN z aO) wr (by rw[o_,bp.o];rfl) ⟨bZ.o,ce.o,λf aR=>bl.o.pl f (cV.o f aR),by rw[bn.o];omega⟩;rw[<-bC.o,show((d+1:U):J)=(d:J)+1 by omega] at a7;exact a7
         have bk:=K bh;have dF:(d:J)<=64:=(by omega);clear bh
         go_wp2_with fail
         refine bk.o.mono ?_;rintro e cP⟨⟨cM,rfl,aB⟩,b0⟩;obtain⟨dA,dB,bx⟩:=Y aB;obtain⟨dU,bt⟩:∃P,(outs n (d+1) b).length=P:=⟨_,rfl⟩;have bg:=K (Dy pQ (outs n (d+1) b) cM wr.heap.size cP aB b0.size (by have E:=xA n (d+1) b;have T:=bn.o;omega));rw[bt] at bx;subst bx;have bj:=K b0;clear aB b0 bt
         go_wp2_with fail
         refine bg.o.mono ?_;rintro e Z⟨⟨cN,af,a8⟩,aQ⟩;obtain⟨t,y,aI⟩:=Y a8;obtain⟨ai,bu⟩:∃P,(outs n (d+1) b).length=P:=⟨_,rfl⟩;rw[bu] at aI;subst aI;obtain rfl:e=η (.agg #[M N 0,I ⟨#[]⟩,I pQ,G H 0 0,G t ai y,I ⟨#[]⟩,M N 0]):=af;have ch:=K a8;have aX:=K (bj.o.trans (aQ.mono bj.o.size));have ag:=sL Z (tB [(rZ,s)]) 9 2;have F:=pM Z (ζ ((tB [(rZ,s)]).map ς).toArray (9:U));have ab:=K F;have a9:=K (AU pQ [] [(rZ,s)] (G H 0 0) (G t ai y) _ _ (Rw.nil _ 4) ⟨_,_,_,rfl⟩ ag (by simp) (by simp));clear a8 aQ bu ag F bg bk
         go_wp2_with fail
         refine a9.o.mono ?_;rintro e a5⟨⟨cO,af,aP⟩,F⟩;obtain⟨ad,ae,b4⟩:=Y aP;replace b4:cO=G ad 1 ae:=b4;subst b4;obtain rfl:e=η (.agg #[M N 0,I ⟨#[]⟩,I pQ,G ad 1 ae,G t ai y,I ⟨#[]⟩,M N 0]):=af;have b1:V Z.heap.size Z a5:=ab.o.trans (F.mono ab.o.size);have aW:=K (show V a0.heap.size a0 a5 from al.o.trans ((aX.o.trans (b1.mono aX.o.size)).mono al.o.size))
         have ac:=K (show∀u,Agree W.heap.size a5 u (Λ cJ bf cL).ownBlock->tQ u (Ω n d (s,b)) (qA pQ (G ad 1 ae) (G t ai y)) fromλu a3=>
          NV.apart (Ao (S:=a0.heap.size) (show wk a0.heap.size a5 (G ad 1 ae) [(rZ,s)] from aj aP (pF al.o.size (pF aX.o.size ab.o.size))) (aj (π ch.o b1) al.o.size)) a6.o.size (λq e=>(rlt b8.o e).2) a3)
         clear aP F b1 a9
         go_wp2_with(refine qu (n:=bf) a5 rfl (.tmp 100) (.tmp 109) rfl tiN cZ.o rfl (π b8.o aW.o) (Ω n d (s,b)) (qA pQ (G ad 1 ae) (G t ai y)) rfl ac.o rfl (tQ.one (ac.o a5 λ_ _ _ _=>rfl)) (pF a6.o.size aW.o.size) (by omega) (by decide) ?_)
         intro aJ aK a1 a2 aC;have aa:=K (show tA W.heap.size aK aJ ((own d l).map leaf++(dn++[(s,b)]).map (Ω n d)) by rw[nv];exact a1);have aq:=K (a6.o.trans ((aW.o.mono a6.o.size).trans a2));clear a1 a2 aC
         go_wp2_with fail
         have dH:=bm.o;have dN:=bo.o
         go_roundw
         case rel=>exact⟨j,dn++[(s,b)],by omega,by go_num,K (by rw[show max j c=i+1+q by omega,m_];exact b7.o),aa,aq⟩
         case measure=>simp[Ξ];omega
       ·have e7:decide ((j:J)<(k:J))=false:=o9 (by omega)
        have bm:=K (show i+z=j by have:=au.o;omega);have bo:=K (show j=i+1+q by omega);have dI:z<=1000000:=(by have:=au.o;omega)
        have bZ:=K (show rY wr (G aN z aO) b from by have a7:Row (Nr.Fx λu=>V W.heap.size W u) 6 51 a0.heap.size wr (G aN z aO) b:=(by rw[cW.o,show i+1+q-i=z by have E:=bm.o;have T:=bo.o;omega];exact cf.o);obtain⟨L,cq⟩:=Nr.zL.ax a7;obtain⟨cF,cG,cH⟩:=cq.here d1.o;exact⟨L,cG,cF,cH⟩)
        clear h
        have bh:aG av 91 #[G aN z aO,M N ((d:J)+1)] wr λe w'=>(∃b5,e=η b5/\tA wr.heap.size w' b5 (outs n (d+1) b))/\V wr.heap.size wr w':=by have a7:=cX.o P bC.o (p++[s]) b (G aN z aO) wr (by rw[o_,bp.o];rfl) ⟨bZ.o,ce.o,λf aR=>bl.o.pl f (cV.o f aR),by rw[bn.o];omega⟩;rw[<-bC.o,show((d+1:U):J)=(d:J)+1 by omega] at a7;exact a7
        have bk:=K bh;have dF:(d:J)<=64:=(by omega);clear bh
        go_wp2_with fail
        refine bk.o.mono ?_;rintro e cP⟨⟨cM,rfl,aB⟩,b0⟩;obtain⟨dA,dB,bx⟩:=Y aB;obtain⟨dU,bt⟩:∃P,(outs n (d+1) b).length=P:=⟨_,rfl⟩;have bg:=K (Dy pQ (outs n (d+1) b) cM wr.heap.size cP aB b0.size (by have E:=xA n (d+1) b;have T:=bn.o;omega));rw[bt] at bx;subst bx;have bj:=K b0;clear aB b0 bt
        go_wp2_with fail
        refine bg.o.mono ?_;rintro e Z⟨⟨cN,af,a8⟩,aQ⟩;obtain⟨t,y,aI⟩:=Y a8;obtain⟨ai,bu⟩:∃P,(outs n (d+1) b).length=P:=⟨_,rfl⟩;rw[bu] at aI;subst aI;obtain rfl:e=η (.agg #[M N 0,I ⟨#[]⟩,I pQ,G H 0 0,G t ai y,I ⟨#[]⟩,M N 0]):=af;have ch:=K a8;have aX:=K (bj.o.trans (aQ.mono bj.o.size));have ag:=sL Z (tB [(rZ,s)]) 9 2;have F:=pM Z (ζ ((tB [(rZ,s)]).map ς).toArray (9:U));have ab:=K F;have a9:=K (AU pQ [] [(rZ,s)] (G H 0 0) (G t ai y) _ _ (Rw.nil _ 4) ⟨_,_,_,rfl⟩ ag (by simp) (by simp));clear a8 aQ bu ag F bg bk
        go_wp2_with fail
        refine a9.o.mono ?_;rintro e a5⟨⟨cO,af,aP⟩,F⟩;obtain⟨ad,ae,b4⟩:=Y aP;replace b4:cO=G ad 1 ae:=b4;subst b4;obtain rfl:e=η (.agg #[M N 0,I ⟨#[]⟩,I pQ,G ad 1 ae,G t ai y,I ⟨#[]⟩,M N 0]):=af;have b1:V Z.heap.size Z a5:=ab.o.trans (F.mono ab.o.size);have aW:=K (show V a0.heap.size a0 a5 from al.o.trans ((aX.o.trans (b1.mono aX.o.size)).mono al.o.size))
        have ac:=K (show∀u,Agree W.heap.size a5 u (Λ cJ bf cL).ownBlock->tQ u (Ω n d (s,b)) (qA pQ (G ad 1 ae) (G t ai y)) fromλu a3=>
         NV.apart (Ao (S:=a0.heap.size) (show wk a0.heap.size a5 (G ad 1 ae) [(rZ,s)] from aj aP (pF al.o.size (pF aX.o.size ab.o.size))) (aj (π ch.o b1) al.o.size)) a6.o.size (λq e=>(rlt b8.o e).2) a3)
        clear aP F b1 a9
        go_wp2_with(refine qu (n:=bf) a5 rfl (.tmp 100) (.tmp 109) rfl tiN cZ.o rfl (π b8.o aW.o) (Ω n d (s,b)) (qA pQ (G ad 1 ae) (G t ai y)) rfl ac.o rfl (tQ.one (ac.o a5 λ_ _ _ _=>rfl)) (pF a6.o.size aW.o.size) (by omega) (by decide) ?_)
        intro aJ aK a1 a2 aC;have aa:=K (show tA W.heap.size aK aJ ((own d l).map leaf++(dn++[(s,b)]).map (Ω n d)) by rw[nv];exact a1);have aq:=K (a6.o.trans ((aW.o.mono a6.o.size).trans a2));clear a1 a2 aC
        go_wp2_with fail
        have dH:=bm.o;have dN:=bo.o
        go_roundw
        case rel=>exact⟨j,dn++[(s,b)],by omega,by go_num,K (by rw[show max j c=i+1+q by omega,m_];exact b7.o),aa,aq⟩
        case measure=>simp[Ξ];omega
    ·have dK:i=k:=by omega
     have e4:decide ((i:J)<(k:J))=false:=o9 (by omega)
     have aa:=K (show tA W.heap.size a0 (G cJ bf cL) (outs (n+1) d l) from by rw[Jn];have E:=cm.o;have T:l.drop (max i c)=[]:=gV (by rw[am.o];omega);rw[T,Jx,nC] at E;rw[E];exact b8.o)
     clear h dK
     go_wp2_with fail
     go_ret;exact⟨⟨_,rfl,aa.o⟩,a6.o⟩
def M_:∀n d,d+n=64->RFol n d
 |0,d,h=>Gt 0 d h λa e=>absurd e (by omega)
 |n+1,d,h=>Gt (n+1) d h λa e=>by
  obtain rfl:n=a:=by omega
  exact M_ n (d+1) (by omega)
end Nd
namespace Nd
open RowKit Rw Vf Mw Me Gr Rg Ke Nr
abbrev ZRow(S:U)(w:az)(v:X)(l:aA Θ):Prop:=zL (λ_=>False) S w v l
abbrev bR(v:X):Obj:=ζ #[v] (24:U)
def Jy{w:az}{B:U}{v:X}{t:TypeId}(a:X)(b:w.heap[B]?=O (ζ #[v] t (0,0))):(w.setCell ⟨B,0,H⟩ a).heap[B]?=O (ζ #[a] t (0,0)):=oO w B 0 #[v] t a b
def Na(l:aA Θ)(v:X)(W:az)(z:rY W v l)(br:l.length<=1000000)(aT:∀f∈l,f.path.length<=64):
 aG av 45 #[.agg #[v]] W λe w'=>(∃x n c,e=η (.agg #[G x n c]))/\V W.heap.size W w':=by
 obtain⟨g,bI,aD,cap,rfl,ao,aN⟩:=qF z;obtain⟨m,ap⟩:=pL l.length;rw[ap] at ao br|-;obtain⟨aH,aI,aJ,aP⟩:=zR W (bR (G aD m cap)) (bR (G H 0 0)) (bR (G H 0 0));have a2:=K ap;have b4:=K ao;have b5:=K aN;have ba:=K aT;have ac:=K aP;have Z:=K aH;have a0:=K aI;have a1:=K aJ;clear z ap ao aN aT aP aH aI aJ
 go_enter Tryz.func45,Tryz.ntmps45
 go_wp2_with fail
 generalize((W.alloc _).alloc _).alloc _=bw at ac Z a0 a1|-;generalize aM:W.heap.size=h at Z a0 a1|-;have ad:=K aM;clear aM
 go_loopw [4] (λx wr=>∃(k:U)(r:X),k<=m/\x=M N k/\Hid (wr.heap[h]?=O (bR (G aD m cap)))/\Hid (wr.heap[h+1]?=O (bR (G H 0 0)))/\Hid (wr.heap[h+1+1]?=O (bR r))/\Hid (ZRow (h+3) wr r (l.take k))/\Hid (V W.heap.size W wr)) (λx _=>m-(Ξ x).toNat)
 case atStart=>exact⟨0,_,oM _,rfl,Z,a0,a1,K ay,ac⟩
 case round=>
  clear Z a0 a1 ac;obtain⟨k,r,bF,rfl,au,aW,aw,ab,aQ⟩:=hrel;obtain⟨aY,aZ,bt⟩:=Y ab.o;subst bt;rw[show(l.take k).length=k from List.length_take.trans (nM (by have:=a2.o;omega))] at ab aw;have bd:=K au.o;have a5:=K aW.o;have af:=K aw.o;have bc:=K ab.o;have y:=K aQ.o;have bh:=pJ (j:=0) au.o rfl;clear au aW aw ab aQ
  by_cases bs:k<m
  ·obtain rfl:=b4.o (by omega)
   have aa:k<l.length:=(by rw[a2.o];exact bs);obtain⟨vp,ve,am,aK,Q,y1,y2,y3,y4,y5⟩:=b5.o k aa;obtain⟨bJ,bK,L,P,rfl,-,-⟩:=qp am;obtain⟨-,-,a6,a7,rfl,-,-⟩:=qO aK;replace Q:=pI Q y.o;replace y1:=pI y1 y.o;replace y2:=pI y2 y.o;replace y3:=pI y3 y.o;replace y4:=pI y4 y.o;replace y5:=pI y5 y.o;have a4:=K (am.under y.o);have a3:=K (ba.o _ (pq aa));have ae:=K (Mg.qi aa);clear am aK;generalize l[k]=f at Q y1 y2 y3 y4 y5 a3 ae a4;clear aa;obtain⟨R,i,s,o,E,al⟩:=f;simp only at Q y1 y2 y3 y4 y5 a3 ae a4;obtain⟨C,aq⟩:=pL R.length;obtain⟨a8,aS⟩:=pL al.length;rw[aq] at Q a3 a4;rw[aS] at y5;have aB:=K aq;have bH:(k:J)<(m:J):=(by omega);have bG:(0:J)<=(k:J):=(by omega);have aX:=pG wr (bE (G L C P) i s o E (G a6 a8 a7));have A:=K (pM wr (bE (G L C P) i s o E (G a6 a8 a7)));have ag:=K aX;have b8:=K (show h+3<=wr.heap.size by have:=ο af.o;omega);clear aX aq aS
   go_upto_region 6 with fail
   change Code.wp _ _ _ _ (wr.alloc (bE (G L C P) i s o E (G a6 a8 a7)));clear Q y1 y2 y3 y4 y5 bh;generalize wr.alloc (bE (G L C P) i s o E (G a6 a8 a7))=bN at A ag|-;have bb:=K (π bc.o A.o);have aC:=K (pW A.o af.o);have bf:=K (pW A.o a5.o);have be:=K (pW A.o bd.o);have ax:=K (y.o.trans (A.o.mono y.o.size));have b9:=K (a4.o.under A.o);have b7:=K (pF b8.o A.o.size);generalize wr.heap.size=T at ag|-
   refine qQ 14 [[],[0],[],[],[3],[2,4],[],[6],[],[8],[],[10],[5,7,9,11],[12]] [O 19,O 20,O 21,O 22,O 23,O 24,O 25,O 26,O 27,O 28,O 29,O 30,O 31,O 32] (by kernel_rfl) (by kernel_rfl) (by kernel_rfl)
    [eqv (ptr (h+1+1) 0),eqv (G aY k aZ),λ_ v w=>∃b,v=G (O ⟨b,0,H⟩) 0 0/\w.heap[b]?=O (ζ #[] (9:U)),eqv (ptr T 0),eqv (G L C P),λ_ v _=>∃x n c,v=G x n c,eqv (ptr T 1),eqv (I i),eqv (ptr T 2),eqv (I s),eqv (ptr T 3),eqv (I o),
     λ_ v _=>∃x n c,v= .agg #[G x n c,I i,I s,I o,M N (-62135596800),G H 0 0],λ_ v w=>∃b x n c,v=G (O ⟨b,0,H⟩) 1 1/\w.heap[b]?=O (bE (G x n c) i s o (-62135596800) (G H 0 0))] ?bv ?step ?fin
   case bv=>
    refine⟨?_,?_,?_,?_,?_,?_,?_,?_,?_,?_,?_,?_,?_,?_,trivial⟩
    all_goals intro d u w w' aO z
    all_goals first
     |exact z
     |(obtain⟨b,e,z⟩:=z;exact⟨b,e,pW aO z⟩)
     |(obtain⟨b,x,n,c,e,z⟩:=z;exact⟨b,x,n,c,e,pW aO z⟩)
   case step=>
    refine⟨?_,?_,?_,?_,?_,?_,?_,?_,?_,?_,?_,?_,?_,?_,trivial⟩
    all_goals
     intro x w t B;simp only[oI,oF,fr,qD,Fv,Fa,eqv,ptr,List.map,nU] at B|-;obtain⟨bP,bQ,bS,bT,bU,bV⟩:=pN t ag.o;have bg:=pJ (j:=0) (pW t aC.o) rfl
    case refine_3=>unfold gives;go_simp;obtain⟨_,ar⟩:=Array.getElem?_eq_some_iff.1 (pG w (ζ #[] (9:U)));exact⟨ar,pM _ _⟩
    case refine_6=>obtain⟨⟨b,bj,bm⟩,bA⟩:=B;refine Gw w (.tmp 21) (.tmp 23) rfl tiS b bm (by go_simp) (G L C P) (by go_simp) C R (R.map p_) (b9.o.under t) (by rw[oS];exact aB.o) aB.o (λu=>Gx _ u) (Cv _) (by have:=a3.o;omega) (by decide) ?_;intro bL w' bn bo;obtain⟨a,c,e⟩:=Y bn;exact⟨⟨_,_,_,e⟩,bo⟩
    case refine_13=>obtain⟨⟨x5,F,D,ak⟩,bk,bl,bi⟩:=B;rw[ak,bk,bl,bi];unfold gives;go_simp;exact pH _ _
    case refine_14=>obtain⟨x5,F,D,ak⟩:=B;rw[ak];unfold gives;go_simp;obtain⟨_,ar⟩:=Array.getElem?_eq_some_iff.1 (pG w (bE (G x5 F D) i s o (-62135596800) (G H 0 0)));exact⟨⟨x5,F,D,ar⟩,pM _ _⟩
    all_goals(unfold gives;go_simp;exact pH _ _)
   case fin=>
    intro x w t B;simp only[show List.range 14=[0,1,2,3,4,5,6,7,8,9,10,11,12,13] from rfl,oI,oF,fr,qD,Fv,Fa,eqv,ptr,List.map,nU,nS,nO] at B|-;obtain⟨-,ai,-,-,-,-,-,-,-,-,-,-,-,b,x5,F,D,aF,aL⟩:=B;rw[ai,aF];refine rz (n:=k) w rfl (.tmp 20) (.tmp 32) rfl Rb (List.length_take.trans (nM (by have:=a2.o;omega))) (by go_simp) (π bb.o t) (G (O ⟨b,0,H⟩) 1 1) 1 [(⟨R,i,s,o,E,al⟩:Θ)] [[G x5 F D,I i,I s,I o,M N (-62135596800),G H 0 0]] (by go_simp) (DU (cs:=[G x5 F D,I i,I s,I o,M N (-62135596800),G H 0 0]) aL rfl) rfl rfl (λu _=>tG.one λbp=>bp.elim) ⟨λc aR=>by rw[mW] at aR;rw[aR];rfl,λu aU=>by simp at aU;rcases aU with rfl|rfl|rfl|rfl|rfl|rfl<;>rfl⟩ (pF b7.o t.size) (by omega) (by decide) ?_;intro bM bO an S bq;obtain⟨bx,bz,aV⟩:=Y an;rw[show(l.take k++[(⟨R,i,s,o,E,al⟩:Θ)]).length=k+1 by rw[o_,nQ,nM (by have:=a2.o;omega)];rfl] at aV;subst aV;have a9:=(S.block (h+1+1) (by omega)).trans (pW t aC.o);have b2:=K a9;have b1:=K ((S.block (h+1) (by omega)).trans (pW t bf.o));have b0:=K ((S.block h (by omega)).trans (pW t be.o));have b3:=K an;have b6:=K ((ax.o.trans (t.mono ax.o.size)).trans (S.mono (by have:=ad.o;omega)));have bg:=pJ (j:=0) a9 rfl;have bC:=yY a9 0;clear t ai aF aL an S bq a9
    go_wp2_with fail
    go_roundw
    case rel=>exact⟨k+1,_,by omega,by go_num,K ((pz _ _ _ _ (by show h≠h+1+1;omega)).trans b0.o),K ((pz _ _ _ _ (by show h+1≠h+1+1;omega)).trans b1.o),K (Jy _ b2.o),K (by rw[ae.o];exact qK b3.o (mA ..) λq a=>pz _ _ _ _ (by show q≠h+1+1;omega)),K (b6.o.setCell (p:=⟨h+1+1,0,H⟩) (by have:=ad.o;show W.heap.size<=h+1+1;omega) _)⟩
    case measure=>simp[Ξ];omega
  ·have bD:decide ((k:J)<(m:J))=false:=o9 (by omega)
   have bj:=pJ (j:=0) af.o rfl;have ai:=pJ (j:=0) a5.o rfl;have bB:=yY a5.o 0
   go_wp2_with fail
   have bu:=oO wr (h+1) 0 _ _ (G aY k aZ) a5.o;refine ow (nL rfl _ _ (h+1) _ _ _ _ rfl bu aE rfl (by kernel_rfl)) rfl ?_;exact⟨⟨_,_,_,rfl⟩,y.o.setCell (p:=⟨h+1,0,H⟩) (by have:=ad.o;show W.heap.size<=h+1;omega) _⟩
def f_set{w:az}{g:U}{a b c d e f:X}{t:TypeId}(x h z:X)(i:w.heap[g]?=O (ζ #[a,b,c,d,e,f] t (0,0))):(((w.setCell ⟨g,0,H⟩ x).setCell ⟨g,4,H⟩ h).setCell ⟨g,5,H⟩ z).heap[g]?=O (ζ #[x,b,c,d,h,z] t (0,0)):=
 oO _ g 5 #[x,b,c,d,h,f] t z (oO _ g 4 #[x,b,c,d,e,f] t h (oO w g 0 #[a,b,c,d,e,f] t x i))
def Nb(l:aA Θ)(v:X)(W:az)(aO:rY W v l)(bj:l.length<=1000000)(aV:∀f∈l,f.path.length<=64):
 aG av 125 #[.agg #[v]] W λe w'=>(∃x n c,e=η (.agg #[G x n c]))/\V W.heap.size W w':=by
 obtain⟨g,bD,bd,cap,rfl,ap,aS⟩:=qF aO;obtain⟨m,au⟩:=pL l.length;rw[au] at ap bj|-;obtain⟨aK,aL,aM,aT⟩:=zR W (bR (G bd m cap)) (bR (G H 0 0)) (bR (G H 0 0));have ad:=K au;have b4:=K ap;have b5:=K aS;have b9:=K aV;have ac:=K aT;have T:=K aL;have Z:=K aM;have al:=pJ (j:=0) aK rfl;clear aO au ap aS aV aT aK aL aM
 go_enter Tryz.func125,Tryz.ntmps125
 go_wp2_with fail
 generalize((W.alloc _).alloc _).alloc _=br at ac T Z al|-;generalize aR:W.heap.size=b at T Z al|-;have S:=K aR;clear aR al
 go_loopw [9] (λx wr=>∃(k:U)(r:X),k<=m/\x=M N k/\Hid (wr.heap[b+1]?=O (bR (G H 0 0)))/\Hid (wr.heap[b+1+1]?=O (bR r))/\Hid (ZRow (b+3) wr r (l.take k))/\Hid (V W.heap.size W wr)) (λx _=>m-(Ξ x).toNat)
 case atStart=>exact⟨0,_,oM _,rfl,T,Z,K ay,ac⟩
 case round=>
  clear T Z ac;obtain⟨k,r,bA,rfl,aY,ax,aa,ar⟩:=hrel;obtain⟨bn,bo,bl⟩:=Y aa.o;subst bl;rw[show(l.take k).length=k from List.length_take.trans (nM (by have:=ad.o;omega))] at aa ax;have a1:=K aY.o;have ag:=K ax.o;have bb:=K aa.o;have d:=K (show V W.heap.size W wr by first|exact ar.o|(rw[S.o];exact ar.o));clear aY ax aa ar
  by_cases bk:k<m
  ·obtain rfl:=b4.o (by omega)
   have a9:k<l.length:=(by rw[ad.o];exact bk);obtain⟨vp,ve,an,aN,y,y1,y2,y3,y4,y5⟩:=b5.o k a9;obtain⟨bF,bG,A,B,rfl,-,-⟩:=qp an;obtain⟨-,-,a3,a4,rfl,-,-⟩:=qO aN;replace y:=pI y d.o;replace y1:=pI y1 d.o;replace y2:=pI y2 d.o;replace y3:=pI y3 d.o;replace y4:=pI y4 d.o;replace y5:=pI y5 d.o;have a0:=K (an.under d.o);have ae:=K (b9.o _ (pq a9));have af:=K (Mg.qi a9);clear an aN;generalize l[k]=f at y y1 y2 y3 y4 y5 ae af a0;clear a9;obtain⟨a6,i,s,o,w,am⟩:=f;simp only at y y1 y2 y3 y4 y5 ae af a0;obtain⟨h,aw⟩:=pL a6.length;obtain⟨a5,aU⟩:=pL am.length;rw[aw] at y a0;rw[aU] at y5;have ba:=K aw;have bC:(k:J)<(m:J):=(by omega);have bB:(0:J)<=(k:J):=(by omega);have aZ:=pG wr (bE (G A h B) i s o w (G a3 a5 a4));have Q:=K (pM wr (bE (G A h B) i s o w (G a3 a5 a4)));have a2:=K aZ;have aC:=K (show b+3<=wr.heap.size by have:=ο ag.o;omega);clear aZ aw aU
   go_upto_region 5 with fail
   change Code.wp _ _ _ _ (wr.alloc (bE (G A h B) i s o w (G a3 a5 a4)));clear y y1 y2 y3 y4 y5;generalize wr.alloc (bE (G A h B) i s o w (G a3 a5 a4))=bp at Q a2|-;have aB:=K (D4 a6 (G A h B) bp (a0.o.under Q.o) (by have:=ae.o;omega));generalize aQ:wr.heap.size=ab at a2 aC|-;have R:=K aQ;clear aQ;obtain⟨C,D,E,F,L,P⟩:=pN (pH _ _) a2.o
   go_wp2_with fail
   refine aB.o.mono ?_;rintro e b0⟨⟨bH,rfl,aP⟩,aq⟩;obtain⟨ai,ak,aJ⟩:=Y aP;rw[ba.o] at aJ;subst aJ;have b6:=K (show V wr.heap.size wr b0 from Q.o.trans (aq.mono Q.o.size));have z:=K (pW aq a2.o);clear aP aq aB C D E F L P;obtain⟨C,D,E,F,L,P⟩:=pN (pH _ _) z.o;have be:=yY z.o 0;have bf:=yY z.o 4;have bg:=yY z.o 5
   go_upto_region 6 with fail
   have aH:=K (f_set (G ai h ak) (M N (-62135596800)) (G H 0 0) z.o);have t:=K (((b6.o.setCell (p:=⟨ab,0,H⟩) (by rw[R.o];exact oZ _) (G ai h ak)).setCell (p:=⟨ab,4,H⟩) (by rw[R.o];exact oZ _) (M N (-62135596800))).setCell (p:=⟨ab,5,H⟩) (by rw[R.o];exact oZ _) (G H 0 0));clear be bf bg C D E F L P;generalize((b0.setCell _ _).setCell _ _).setCell _ _=bq at aH t|-;have aF:=K (pW t.o ag.o);have bc:=K (pW t.o a1.o);have b8:=K (pF (show b+3<=wr.heap.size by rw[R.o];exact aC.o) t.o.size);have aD:=K (show(l.take k).length=k from List.length_take.trans (nM (by have:=ad.o;omega)));have aI:=pJ (j:=0) aF.o rfl;obtain⟨C,D,E,F,L,P⟩:=pN (pH _ _) aH.o
   go_wp2_with(refine qu (n:=k) bq rfl (.tmp 20) (.tmp 22) rfl Rb aD.o rfl (π bb.o t.o) (⟨a6,i,s,o,w,am⟩:Θ) [G ai h ak,I i,I s,I o,M N (-62135596800),G H 0 0] rfl (λu _ bh=>bh.elim) rfl (by intro u aW;simp only[ox,oy,nw] at aW;rcases aW with rfl|rfl|rfl|rfl|rfl|rfl<;>rfl) b8.o (by omega) (by decide) ?_)
   intro bI bJ ao a8 bi;obtain⟨bs,bt,aX⟩:=Y ao;rw[show(l.take k++[(⟨a6,i,s,o,w,am⟩:Θ)]).length=k+1 by rw[o_,aD.o];rfl] at aX;subst aX;have a7:=(a8.block (b+1+1) (by omega)).trans aF.o;have b2:=K a7;have b1:=K ((a8.block (b+1) (by omega)).trans bc.o);have b3:=K ao;have b7:=K ((d.o.trans (t.o.mono d.o.size)).trans (a8.mono (by have:=S.o;omega)));clear aI C D E F L P ao a8 bi;have aI:=pJ (j:=0) a7 rfl;have bx:=yY a7 0;clear a7
   go_wp2_with fail
   go_roundw
   case rel=>exact⟨k+1,_,by omega,by go_num,K ((pz _ _ _ _ (by show b+1≠b+1+1;omega)).trans b1.o),K (Jy _ b2.o),K (by rw[af.o];exact qK b3.o (mA ..) λq a=>pz _ _ _ _ (by show q≠b+1+1;omega)),K (b7.o.setCell (p:=⟨b+1+1,0,H⟩) (by have:=S.o;show _<=b+1+1;omega) _)⟩
   case measure=>simp[Ξ];omega
  ·have bz:decide ((k:J)<(m:J))=false:=o9 (by omega)
   have bv:=pJ (j:=0) ag.o rfl;have bu:=pJ (j:=0) a1.o rfl;have bw:=yY a1.o 0
   go_wp2_with fail
   have bm:=oO wr (b+1) 0 _ _ (G bn k bo) a1.o;refine ow (nL rfl _ _ (b+1) _ _ _ _ rfl bm aE rfl (by kernel_rfl)) rfl ?_;exact⟨⟨_,_,_,rfl⟩,d.o.setCell (p:=⟨b+1,0,H⟩) (by have:=S.o;show _<=b+1;omega) _⟩
end Nd
end Go.Proofs.YthbhmjdcfocphaaGreatDoor
