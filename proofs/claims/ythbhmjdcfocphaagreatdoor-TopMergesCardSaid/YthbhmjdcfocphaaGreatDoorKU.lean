/- A part of this proof. -/
import Derived.Test.YthbhmjdcfocphaaGreatDoorKR
import Derived.Test.YthbhmjdcfocphaaGreatDoorKL
import Derived.Test.YthbhmjdcfocphaaGreatDoorKM2
set_option linter.all false
set_option maxHeartbeats 16000000
set_option maxRecDepth 100000
namespace Go.Proofs.YthbhmjdcfocphaaGreatDoor
open Go.Value renaming string→H, slice→G, pointer→ε, int→O
open Go.Obj renaming cells→Y
open Go.Ending renaming returned→η
open Go.IntKind renaming i64→U
open Go.Lib renaming hid→K
open Go.Value renaming oneCell'→ν, slice→aL
open Option renaming none→I, some→J
open Rw renaming lt_of_heap→π
open Go.RowKit renaming Below→Z
open Mo renaming Fd→Γ, okF→aR, tM→aS, rS→aU, s_→aX, IV→aY
open Me.Row renaming slice→Δ, nil→aM
open Mg renaming yN→Θ, rI→aE, yh→aK, acc→aN, qi→aP, NC→aV
open Me renaming Agree→Λ
open Bool renaming false→Ξ, true→aG
open _root_ renaming Nat→M, List→E, Int→V, Option→aT
open And renaming intro→ς
open Go renaming Value→ah, cell_regrown→aj, World→ay, below_regrown→aI, Calls→aW
open Go.Proofs.Tryz renaming underlying24→av, prog→aJ
open Go.Proofs renaming intOf→az
open Go.World renaming setRow→aA
open List renaming map→aH, range→aO, take_sublist→aQ
namespace Nr
open RowKit Rw Vf Mw Me Gr Rg Ke
def J4{f:Γ}(a:aR f=aG):f.path.length<=64/\(∀p∈f.path,aY p=aG/\aX p=aG)/\aY f.id=aG/\Mo.IB f.upd=aG/\aX f.id=aG/\aX f.title=aG/\aX f.link=aG/\Mo.u6 Mo.zv aU (·.id) f.pU=aG:=by unfold aR at a;simp only[oz,nP,mF] at a;obtain⟨⟨⟨⟨⟨⟨⟨b,c⟩,d⟩,e⟩,g⟩,h⟩,i⟩,j⟩:=a;exact⟨b,c,d,e,g,h,i,j⟩
def J5{l:E Mo.En}(a:Mo.u6 Mo.zv aU (·.id) l=aG)(k:M):(l.take k).foldl aK []=l.take k:=by obtain⟨-,b,c⟩:=Mg.tE Mg.AA a;have c1:=Mg.Cb.TA Mg.AA Mg.kpE (l.take k) (Mg.Cb.nil (cmp:=aU) (key:=Mg.yO) (sS:=Mg.rQ));rw[mw] at c1;have c2:Mg.Cb aU Mg.yO Mg.rQ (l.take k) (l.take k):=Mg.Cb.self (b.sublist (aQ _ _)) (c.sublist ((aQ _ _).map _));exact Mg.Cb.ext Mg.AA c1 c2
def UO{l:E Mo.En}(a:Mo.u6 Mo.zv aU (·.id) l=aG){k:M}(c:k<l.length):aK (l.take k) l[k]=l.take (k+1):=by have b:=J5 a (k+1);rw[aP c,lK,J5 a k] at b;rw[aP c];exact b
def UP(f:Γ)(vp ve:ah)(W:ay)(ak:Rw W vp 1 (f.path.map p_))(ai:Rw W ve 5 (f.pU.map pO))(C:QZ f)(d4:f.pU.length<=1000000)(o:∀e∈f.pU,AD e)(d6:aR f=aG):
 aW aJ 43 #[.agg (pX f vp ve).toArray] W λx w'=>(∃de cm,x=η (.tuple #[.agg (pX f de cm).toArray,O U 0])/\∀u,Λ W.heap.size w' u I->Rw u de 1 (f.path.map p_)/\Rw u cm 5 (f.pU.map pO))/\Z W.heap.size W w':=by
 obtain⟨db,au,cl,al,bl,R,bm,bn⟩:=J4 d6;obtain⟨a1,a2,a3,ao,b5,cP,bR,cQ⟩:=C
 have cb:=λu v (a:Rw u v 1 ((f.path++[f.id,f.title,f.link]).map p_))=>N5 (f.path++[f.id,f.title,f.link]) v u a (by simp;omega) (by
  intro p ak;rcases List.mem_append.1 ak with a|a
  ·exact⟨b5 p a,(au p a).2⟩
  ·simp only[ox,oy,nw] at a
   rcases a with rfl|rfl|rfl
   ·exact⟨a1,bl⟩
   ·exact⟨a2,R⟩
   ·exact⟨a3,bm⟩)
 obtain⟨p,i,t,l,u,es⟩:=f;obtain⟨dc,dd,bo,aw,rfl,ch,ci⟩:=qp ak;obtain⟨dS,dT,cS,cT,rfl,cc,cd⟩:=qO ai;simp only at db au cl al bl R bm bn a1 a2 a3 ao b5 cP bR cQ cb ak ai ch ci cc cd d4 o;have e0:i.toList.isEmpty=Ξ:=by simpa [aY] using cl
 have dk:=K (yH i a1 bl);have dl:=K (yH t a2 R);have dm:=K (yH l a3 bm);have dq:=K (λq o=>yH q (b5 q o) (au q o).2);have du:=K (λq o=>(show(q:ByteArray).toList.isEmpty=Ξ by simpa [aY] using(au q o).1));have dn:=K (λe ai w=>Yx e w (bR e ai) (Mo.vI _ _ _ bn e ai));have dp:=K cb;have dv:=K bn;have cG:=K o
 have dW:decide (u< -62135596800)=Ξ:=by unfold Mo.IB at al;simp only[oz,nP] at al;exact o9 (by omega)
 have dX:decide (253402300799<u)=Ξ:=by unfold Mo.IB at al;simp only[oz,nP] at al;exact o9 (by omega)
 have cF:=K ch;have dw:=K ci;have cy:=K cc;have ds:=K cd;have cD:=K ak;obtain⟨y,bh⟩:=pL p.length;obtain⟨a4,bc⟩:=pL es.length;have ae:=K bh;have aF:=K bc;rw[bh] at cD cF db;rw[bc] at cy d4;clear cb o au cl al bl R bm bn a1 a2 a3 ao b5 cP bR cQ d6 ak ai ch ci cc cd
 show aW aJ 43 #[.agg #[G bo p.length aw,H i,H t,H l,O U u,G cS es.length cT]] W _
 rw[bh,bc];clear bh bc;obtain⟨b7,b8,bb⟩:=sM W (Y #[G bo y aw,H i,H t,H l,O U u,G cS a4 cT] 51) (Y #[G I 0 0,H ⟨#[]⟩,H ⟨#[]⟩,H ⟨#[]⟩,O U 0,G I 0 0] 51)
 go_enter Tryz.func43,Tryz.ntmps43
 go_upto_region 1 with fail
 generalize(W.alloc _).alloc _=b3 at b7 b8 bb|-;generalize cZ:W.heap.size=h at b7 b8|-;have cw:=K cZ;clear cZ;have bG:=K b7;have cA:=K b8;have bA:=K bb;have cE:=K (cD.o.under bb);have ad:=K (λu (D:Z b3.heap.size b3 u)=>pN D bG.o);clear b7 b8 bb
 refine qQ 11 [[],[],[1],[0,2],[],[4],[],[6],[],[8],[5,7,9]] [J 11,J 12,J 13,J 14,J 15,J 16,J 17,J 18,J 19,J 20,J 21] (by kernel_rfl) (by kernel_rfl) (by kernel_rfl)
  [λ_ v w=>∃g,v=G (J ⟨g,0,I⟩) 0 0/\w.heap[g]?=J (Y #[] (9:M))/\b3.heap.size<=g,eqv (ptr h 0),eqv (G bo y aw),λ_ v w=>CY b3.heap.size w v p,
   eqv (ptr h 1),eqv (H i),eqv (ptr h 2),eqv (H t),eqv (ptr h 3),eqv (H l),λ_ v w=>Rw w v 1 ([i,t,l].map p_)] ?ax ?step ?fin
 case ax=>
  refine⟨?_,?_,?_,?_,?_,?_,?_,?_,?_,?_,?_,trivial⟩
  all_goals intro d u w w' C a
  all_goals first|exact a|exact Row.below a C|exact Rw.under a C|(obtain⟨g,e,a,z⟩:=a;exact⟨g,e,pW C a,z⟩)
 case step=>
  refine⟨?_,?_,?_,?_,?_,?_,?_,?_,?_,?_,?_,trivial⟩
  all_goals
   intro x w c m;simp only[oI,oF,fr,qD,Fv,Fa,eqv,ptr,aH,nU] at m|-;have dg:=ad.o w c
  case refine_1=>unfold gives;go_simp;obtain⟨_,o⟩:=Array.getElem?_eq_some_iff.1 (pG w (Y #[] (9:M)));exact⟨⟨o,c.size⟩,pM _ _⟩
  case refine_4=>obtain⟨⟨g,e,A,z⟩,dR⟩:=m;refine Gw w (.tmp 11) (.tmp 13) rfl tiS g A (by go_simp) (G bo y aw) (by go_simp) y p (p.map p_) (cE.o.under c) (by rw[oS];exact ae.o) ae.o (λu=>Gx _ u) (Cv _) (by omega) (by decide) ?_;intro e3 w' b9 P;exact⟨b9.base z,P⟩
  case refine_11=>unfold gives;go_simp;exact⟨sL w [i,t,l] (9:M) 3,pM _ _⟩
  all_goals(unfold gives;go_simp;exact pH _ _)
 case fin=>
  intro x w c m;simp only[show aO 11=[0,1,2,3,4,5,6,7,8,9,10] from rfl,oI,oF,fr,qD,Fv,Fa,eqv,ptr,aH,nU,nS,nO] at m|-;obtain⟨-,-,-,b9,-,-,-,-,-,-,cV⟩:=m;go_simp;refine rz (n:=y) w rfl (.tmp 14) (.tmp 21) rfl tiS ae.o rfl b9 (x 10) 3 [i,t,l] ([i,t,l].map p_) rfl cV rfl rfl (λu _=>Gx _ u) (Cv _) c.size (by omega) (by decide) ?_;intro dO df P ag ce;have s:=c.trans ag;have aB:=K (bA.o.trans (s.mono bA.o.size));have cz:=K (pW s bG.o);have cB:=K (pW s cA.o);have cq:=K (CY.rw P);clear s c b9 cV ag ce P bA bG cA ad cE
  go_wp2_with fail
  refine(dp.o _ _ cq.o).mono ?_;rintro e cn⟨rfl,s⟩;have S:=K (aB.o.trans (s.mono aB.o.size));have aZ:=K (pW s cz.o);have b1:=K (pW s cB.o);clear s aB cz cB cq;have ad:=K (λu (D:Z cn.heap.size cn u)=>pN D aZ.o)
  go_wp2_with fail
  generalize dK:cn=dD at S aZ b1 ad|-;clear dK
  refine qQ 13 [[],[0],[1],[],[3],[2,4],[],[6],[5,7],[],[9],[2,5,8,10],[]] [J 28,J 29,J 30,J 31,J 32,J 33,J 34,J 35,J 36,J 37,J 38,J 39,J 5] (by kernel_rfl) (by kernel_rfl) (by kernel_rfl)
   [eqv (ptr h 1),eqv (H i),eqv (H i),eqv (ptr h 2),eqv (H t),eqv (H t),eqv (ptr h 3),eqv (H l),eqv (H l),eqv (ptr h 4),eqv (O U u),eqv (.agg #[G I 0 0,H i,H t,H l,O U u,G I 0 0]),
    λ_ v w=>∃g,v=ε (J ⟨g,0,I⟩)/\w.heap[g]?=J (Y #[G I 0 0,H ⟨#[]⟩,H ⟨#[]⟩,H ⟨#[]⟩,O U 0,G I 0 0] (51:M))/\dD.heap.size<=g] ?ax ?step ?fin
  case ax=>
   refine⟨?_,?_,?_,?_,?_,?_,?_,?_,?_,?_,?_,?_,?_,trivial⟩
   all_goals intro d u w w' C a
   all_goals first|exact a|(obtain⟨g,e,a,z⟩:=a;exact⟨g,e,pW C a,z⟩)
  case step=>
   refine⟨?_,?_,?_,?_,?_,?_,?_,?_,?_,?_,?_,?_,?_,trivial⟩
   all_goals
    intro x w c m;simp only[oI,oF,fr,qD,Fv,Fa,eqv,ptr,aH,nU] at m|-;have dg:=ad.o w c;unfold gives
   case refine_3=>go_simp;exact(dk.o w).mono λe w' a=>by rw[a.1];exact⟨rfl,a.2⟩
   case refine_6=>go_simp;exact(dl.o w).mono λe w' a=>by rw[a.1];exact⟨rfl,a.2⟩
   case refine_9=>go_simp;exact(dm.o w).mono λe w' a=>by rw[a.1];exact⟨rfl,a.2⟩
   case refine_13=>go_simp;obtain⟨_,o⟩:=Array.getElem?_eq_some_iff.1 (pG w (Y #[G I 0 0,H ⟨#[]⟩,H ⟨#[]⟩,H ⟨#[]⟩,O U 0,G I 0 0] (51:M)));exact⟨⟨o,c.size⟩,pM _ _⟩
   all_goals(go_simp;exact pH _ _)
  case fin=>
   intro x w c m;simp only[show aO 13=[0,1,2,3,4,5,6,7,8,9,10,11,12] from rfl,oI,oF,fr,qD,Fv,Fa,eqv,ptr,aH,nU,nS,nO] at m|-;obtain⟨-,-,-,-,-,-,-,-,-,-,-,cW,N,cX,d2,d3⟩:=m;rw[cW,cX];have aC:=K c;have bF:=K d2;have bH:=K d3;clear c cW cX d2 d3;go_simp;refine oN rfl 51 _ _ rfl _ _ rfl rfl 51 _ bF.o (by kernel_rfl) rfl (by simp[ν]) ?_;have cf:=π b1.o;have F:=K (show h+1<N by have:=bH.o;omega);have bz:=K ((oo w N h #[G I 0 0,H i,H t,H l,O U u,G I 0 0] (by have:=F.o;omega)).trans (pW aC.o aZ.o));have cI:=K ((oo w N (h+1) #[G I 0 0,H i,H t,H l,O U u,G I 0 0] (by have:=F.o;omega)).trans (pW aC.o b1.o));have b2:=K (og w N _ #[G I 0 0,H i,H t,H l,O U u,G I 0 0] _ _ bF.o);have bB:=K (pS (S.o.trans (aC.o.mono S.o.size)) (pF S.o.size bH.o) #[G I 0 0,H i,H t,H l,O U u,G I 0 0]);generalize w.setRow N #[G I 0 0,H i,H t,H l,O U u,G I 0 0]=co at bz cI b2 bB|-;clear cf aC bF bH S aZ b1 ad;obtain⟨T,bW⟩:=pL co.heap.size;have cM:=K bW;have B:=K (show N<T by rw[<-bW];exact π b2.o);have bM:=K (show W.heap.size<=N by have:=cw.o;have:=F.o;omega);clear bW;obtain⟨a7,a8,a9,aa,ab,ac⟩:=pN (pH _ _) b2.o
   go_wp2_with fail
   clear a7 a8 a9 aa ab ac
   go_loopw [6,7] (λb x wr=>∃(k:M)(r:ah),k<=y/\b= .bool Ξ/\x=O U k/\Hid (CY T wr r (p.take k))/\Hid (wr.heap[N]?=J (Y #[r,H i,H t,H l,O U u,G I 0 0] (51:M)))/\Hid (Z N co wr)) (λ_ x _=>y-(az x).toNat)
   case atStart=>exact⟨0,_,oM _,rfl,rfl,K aM,b2,K (pH _ _)⟩
   case round=>
    obtain⟨k,r,dZ,rfl,rfl,a6,a5,ar⟩:=hrel;obtain⟨bp,bq,cj⟩:=Δ a6.o;subst cj;have L:(p.take k).length=k:=List.length_take.trans (nM (by have:=ae.o;omega));rw[L] at a6 a5;have Q:=(ar.o.block h (by have:=F.o;omega)).trans bz.o;have ct:=K ar.o;have bC:=K a5.o;have bK:=K a6.o;have di:=K Q;have dA:=K (bB.o.trans (ar.o.mono bM.o));have cN:=K (show T<=wr.heap.size by have A:=ar.o.size;have z:=cM.o;omega);clear ar a5 a6
    by_cases cf:k<y
    ·obtain rfl:=cF.o (by omega)
     have bf:k<p.length:=(by rw[ae.o];exact cf);have ck:=pI (dw.o k bf) dA.o;have cu:=K (dq.o _ (pq bf));have dJ:=du.o _ (pq bf);have bL:=K (aP bf);have cC:=K (show∀a:k<(p.take (k+1)).length,(p.take (k+1))[k]=p[k] fromλa=>jv);generalize p[k]=q at ck cu dJ bL cC;have dB:=K (λu (D:Z wr.heap.size wr u)=>ς (pI ck D) (ς (pN D bC.o) (pN D di.o)));obtain⟨a0,-⟩:=pN (pH _ _) Q;have dN:(k:V)<(y:V):=(by omega);have dM:(0:V)<=(k:V):=(by omega);clear ck Q
     go_wp2_with fail
     clear a0
     refine qQ 9 [[],[0],[],[2],[],[3,4],[5],[6],[7]] [J 50,J 51,J 52,J 53,J 54,J 55,J 56,J 57,J 58] (by kernel_rfl) (by kernel_rfl) (by kernel_rfl)
      [eqv (ptr N 0),eqv (G bp k bq),eqv (ptr h 0),eqv (G (J ⟨dc,dd,I⟩) y aw),eqv (O U k),eqv (ptr dc (dd+k)),eqv (H q),eqv (H q),λ_ v w=>Rw w v 1 ([q].map p_)] ?ax ?step ?fin
     case ax=>
      refine⟨?_,?_,?_,?_,?_,?_,?_,?_,?_,trivial⟩
      all_goals intro d u w w' C a
      all_goals first|exact a|exact Rw.under a C
     case step=>
      refine⟨?_,?_,?_,?_,?_,?_,?_,?_,?_,trivial⟩
      all_goals
       intro x w c m;simp only[oI,oF,fr,qD,Fv,Fa,eqv,ptr,aH,nU] at m|-;obtain⟨am,dg,e5⟩:=dB.o w c;unfold gives
      case refine_8=>go_simp;exact(cu.o w).mono λe w' a=>by rw[a.1];exact⟨rfl,a.2⟩
      case refine_9=>go_simp;exact⟨sL w [q] (9:M) 1,pM _ _⟩
      all_goals(go_simp;exact pH _ _)
     case fin=>
      intro x w c m;simp only[show aO 9=[0,1,2,3,4,5,6,7,8] from rfl,oI,oF,fr,qD,Fv,Fa,eqv,ptr,aH,nU,nS,nO] at m|-;obtain⟨-,A,-,-,-,-,-,-,cY⟩:=m;rw[A];have bD:=K c;have dh:=K cY;have bJ:=K (bK.o.below c);have cx:=K L;clear c A cY L;go_simp;refine rz (n:=k) w rfl (.tmp 51) (.tmp 58) rfl tiS cx.o rfl bJ.o (x 8) 1 [q] ([q].map p_) rfl dh.o rfl rfl (λu _=>Gx _ u) (Cv _) (pF cN.o bD.o.size) (by omega) (by decide) ?_;intro dO df P ag ce;have s:=ct.o.trans ((bD.o.mono (by have A:=cN.o;have z:=B.o;omega)).trans (ag.mono (mN B.o)));have aB:=K s;have bk:=(ag.block _ B.o).trans (pW bD.o bC.o);obtain⟨X,ap,cR⟩:=Δ P;have bS:(p.take k++[q]).length=k+1:=(by rw[o_,cx.o];rfl);rw[bS] at cR;subst cR;have cO:=K (oO _ N 0 _ _ (G X (k+1) ap) bk);have bi:=De.yq (x:=G X (k+1) ap) (j:=0) P B.o;rw[<-bL.o] at bi;have dy:=K bi;obtain⟨bV,R,dE,dQ,bT,bX,d1⟩:=qp (CY.rw bi);have d5:(p.take (k+1)).length=k+1:=(by rw[bL.o];exact bS);have dH:=d1 k (by omega);rw[cC.o] at dH;rw[d5] at bT bX;obtain rfl:X=dE:=by injection bT
      obtain rfl:=bX (by omega);have dU:=yY bk 0;obtain⟨a7,a8,a9,aa,ab,ac⟩:=pN (pH _ _) bk;have S:=K (s.setCell (p:=⟨N,0,I⟩) (oZ _) (G (J ⟨bV,R,I⟩) (k+1) ap));have e2:(k:V)<((k+1:M):V):=(by omega);have e1:(df.setCell ⟨N,0,I⟩ (G (J ⟨bV,R,I⟩) (k+1) ap)).cell? ⟨N,0,I⟩=J (G (J ⟨bV,R,I⟩) (k+1) ap):=(pN (pH _ _) cO.o).1;clear P ag ce s bk bi bS d1 bT d5 bX
      go_wp2_with fail
      go_roundw
      case rel=>exact⟨k+1,_,by omega,rfl,by go_num,dy,cO,S⟩
      case measure=>simp[az];omega
    ·have cU:decide ((k:V)<(y:V))=Ξ:=o9 (by omega)
     have bj:p.take k=p:=oP (by rw[ae.o];omega);rw[bj] at bK L;obtain rfl:k=y:=by omega
     have dG:decide ((64:V)<(k:V))=Ξ:=o9 (by omega);obtain⟨a0,bN,bO,bP,X,bQ⟩:=pN (pH _ _) Q
     go_wp2_with fail
     clear a0 bN bO bP X bQ Q dG cU L bj
     go_loopw [8] (λx br=>∃(j:M)(bU:ah),j<=a4/\x=O U j/\Hid (CY T br (G bp k bq) p)/\Hid (xB T br bU (es.take j))/\Hid (br.heap[N]?=J (Y #[G bp k bq,H i,H t,H l,O U u,bU] (51:M)))/\Hid (Z N co br)) (λx _=>a4-(az x).toNat)
     case atStart=>exact⟨0,_,oM _,rfl,bK,K aM,bC,ct⟩
     case round=>
      obtain⟨j,bU,dY,rfl,a6,bd,a5,aq⟩:=hrel;obtain⟨d9,da,cj⟩:=Δ bd.o;subst cj;have L:(es.take j).length=j:=List.length_take.trans (nM (by have:=aF.o;omega));rw[L] at bd a5;have Q:=(aq.o.block h (by have:=F.o;omega)).trans bz.o;have cs:=K aq.o;have aD:=K a5.o;have cJ:=K a6.o;have bE:=K bd.o;have af:=K (bB.o.trans (aq.o.mono bM.o));have dz:=K (show T<=wr.heap.size by have A:=aq.o.size;have z:=cM.o;omega);obtain⟨a0,bN,bO,bP,X,bQ⟩:=pN (pH _ _) Q;clear aq a5 a6 bd
      by_cases dI:j<a4
      ·obtain rfl:=cy.o (by omega)
       have be:j<es.length:=(by rw[aF.o];exact dI);obtain⟨am,y1,y2,y3,y4⟩:=ds.o j be;replace am:=pI am af.o;replace y1:=pI y1 af.o;replace y2:=pI y2 af.o;replace y3:=pI y3 af.o;replace y4:=pI y4 af.o;have cv:=K (dn.o _ (pq be));have cH:=K (cG.o _ (pq be));have dx:=K (λx (dL:x∈es.take j)=>cG.o x (lY dL));have cL:=K (UO dv.o be);generalize es[j]=e at am y1 y2 y3 y4 cv cH cL;obtain⟨bt,bv,bu,bs,bw⟩:=e;simp only at am y1 y2 y3 y4;have dN:(j:V)<(a4:V):=(by omega);have dM:(0:V)<=(j:V):=(by omega);clear Q
       go_wp2_with fail
       refine(cv.o _).mono ?_;rintro e cp⟨rfl,d0⟩;have cr:=K d0;have dC:=K (pG cp (Y #[H ⟨#[]⟩,H ⟨#[]⟩,H ⟨#[]⟩,H ⟨#[]⟩,O U 0] (53:M)));clear d0 a0 bN bO bP X bQ am y1 y2 y3 y4
       go_wp2_with(refine oN rfl 53 _ _ rfl _ _ rfl rfl 53 _ dC.o (by kernel_rfl) rfl (by simp[ν,pO]) ?_;rw[su];have bZ:=cr.o.alloc cr.o.size (Y (pO ⟨bt,bv,bu,bs,bw⟩).toArray (53:M));have d8:=pG cp (Y (pO ⟨bt,bv,bu,bs,bw⟩).toArray (53:M));have an:=K bZ;have cg:=(bZ.block N (π aD.o)).trans aD.o;have bI:=K cg;obtain⟨a7,a8,a9,aa,ab,ac⟩:=pN (pH _ _) cg;obtain⟨b0,a1,a2,a3,ao⟩:=qv (pH _ _) d8;clear bZ d8 cg;generalize cp.alloc (Y (pO ⟨bt,bv,bu,bs,bw⟩).toArray (53:M))=dP at an bI a7 a8 a9 aa ab ac b0 a1 a2 a3 ao|-)
       have bx:=N6 (es.take j) ⟨bt,bv,bu,bs,bw⟩ (G (d9) j da) dP (xB.rw (bE.o.below an.o)) (by omega) dx.o cH.o;rw[cL.o] at bx;refine bx.mono ?_;rintro e e4⟨⟨cm,rfl,ba⟩,ca⟩;obtain⟨b4,b6,rfl⟩:=Δ ba;have dF:(es.take (j+1)).length=j+1:=List.length_take.trans (nM (by have:=aF.o;omega));rw[dF] at ba|-;have bY:=an.o.trans (ca.mono an.o.size);have bg:=(ca.block N (π bI.o)).trans bI.o;have dt:=K bg;have bJ:=K (De.yq (x:=G b4 (j+1) b6) (j:=5) (cJ.o.below bY) B.o);have dr:=K (De.yq (x:=G b4 (j+1) b6) (j:=5) (ba.base (pF dz.o an.o.size)) B.o);have dj:=K ((cs.o.trans (bY.mono (mN (π aD.o)))).setCell (p:=⟨N,5,I⟩) (oZ _) (G b4 (j+1) b6));clear bx bY a7 a8 a9 aa ab ac b0 a1 a2 a3 ao ca ba;obtain⟨a7,a8,a9,aa,ab,ac⟩:=pN (pH _ _) bg;have dV:=yY bg 5;clear bg
       go_wp2_with fail
       go_roundw
       case rel=>exact⟨j+1,_,by omega,by go_num,bJ,dr,K (oO _ N 5 _ _ (G b4 (j+1) b6) dt.o),dj⟩
       case measure=>simp[az];omega
      ·have cU:decide ((j:V)<(a4:V))=Ξ:=o9 (by omega)
       have bj:es.take j=es:=oP (by rw[aF.o];omega);rw[bj] at bE L;obtain rfl:j=a4:=by omega
       obtain⟨a7,a8,a9,aa,ab,ac⟩:=pN (pH _ _) aD.o;have cK:=K ((cs.o.block (h+1) F.o).trans cI.o)
       go_wp2_with(refine oN rfl 51 _ _ rfl _ _ rfl rfl 51 _ cK.o (by kernel_rfl) rfl (by simp[ν]) ?_)
       go_wp2_with fail
       refine ow (qE rfl _ _ (h+1) _ _ _ _ rfl (og _ _ _ _ _ _ cK.o) Tryz.underlying51 rfl (by kernel_rfl)) rfl ?_;refine⟨⟨G bp k bq,G d9 j da,rfl,λu D=>?_⟩,pS af.o (by have:=cw.o;omega) _⟩;have d7:=λq (o:T<=q)=>D q (by have A:=B.o;have z:=bM.o;omega)
       exact⟨CY.rw (De.r_ (λ_ _ _ _ a=>a) (De.r_ (λ_ _ _ _ a=>a) cJ.o λq o _ _=>oo _ _ _ _ (by have A:=B.o;have z:=F.o;omega)) d7),
        xB.rw (De.r_ (λ_ _ _ _ a=>a) (De.r_ (λ_ _ _ _ a=>a) bE.o λq o _ _=>oo _ _ _ _ (by have A:=B.o;have z:=F.o;omega)) d7)⟩
abbrev wN:E Γ->Γ->E Γ:=Mg.Fw aS Θ aE
def YR{f:Type}{El:ay->f->E ah->Prop}{sz S:M}{t:TypeId}{w w':ay}{v:ah}{l:E f}(h:Row El sz t S w v l)(n:w'.heap.size=w.heap.size)(e:∀k,S<=k->w'.heap[k]?=w.heap[k]?):Row El sz t S w' v l:=by obtain⟨L,i,d,j⟩:=h;exact⟨L,i,qj d λg m=>e g (qq d m).1,λu o=>j u λk a b c=>(o k a (by rw[n];exact b) c).trans (e k a)⟩
def YS(X:ay->Prop)(N:M)(l:E Γ)(L:E (E ah))(f:Γ)(va:ah)(de:aT Addr)(dE c1:M)(df:aT Addr)(dF c2:M)(W:ay)(e7:N<=W.heap.size)(dn:∀u,Z W.heap.size W u->X u)(cL:AX X N W va l L)(ef:Md X N W I λu=>Rw u (G de dE c1) 1 (f.path.map p_)/\Rw u (G df dF c2) 5 (f.pU.map pO))(fb:l.length<=100000)(ab:∀g∈l,FQ g)(ee:FQ f)(ek:nE f+(l.map nE).sum<=1000000):
 aW aJ 44 #[.agg #[va],.agg (pX f (G de dE c1) (G df dF c2)).toArray] W λx w'=>(∃bA cc,x=η (.agg #[bA])/\AX X N w' bA (wN l f) cc)/\Z W.heap.size W w':=by
 have cg:=cL.here (dn _ (pH _ _));obtain⟨g,fo,e3,cap,rfl,bn,e9⟩:=Bt cg.1 cg.2;obtain⟨m,cP⟩:=pL l.length;rw[cP] at bn fb cL cg|-;have dR:=K cP;have eR:=K (show L.length=m by rw[cg.2.1,cP]);have ev:=K bn;have ex:=K e9;have cB:=K ab;have dN:=K ee;have eT:=K ek;have f0:=K dn;have eD:=K e7;have es:=K cL;have eK:=K ef;obtain⟨cI,gF,cJ,dr⟩:=zR W (Y #[G e3 m cap] 24) (Y (pX f (G de dE c1) (G df dF c2)).toArray 51) (Y #[G I 0 0] 24);clear cP bn e9 ab ee ek dn e7 cL ef cg
 go_enter Tryz.func44,Tryz.ntmps44
 go_upto_region 1 with fail
 generalize e8:((W.alloc _).alloc _).alloc _=f4 at cI gF cJ dr|-;have ep:f4.heap.size=W.heap.size+3:=by rw[<-e8];simp only[World.alloc,nI]
 clear e8;generalize e5:W.heap.size=B at cI gF cJ ep|-;have bs:=K e5;clear e5;have d9:=K (λ(u:ay) (D:Z W.heap.size W u)=>(show X u/\Λ N W u I from⟨f0.o u D,λk _ P _=>D.block k P⟩));have eG:=K (λ(u:ay) (D:X u/\Λ N W u I)=>(es.o u D.1 D.2).2.2);have eM:=K cI;have eN:=K gF;have eQ:=K cJ;have ez:=K dr;clear cI gF cJ dr ep
 go_wp2_with fail
 go_loopw [5,6] (λr x wr=>∃(k:M)(b3:aT Addr)(b4 b5:M)(aD:aT Addr)(a5 aF:M),k<=m/\x=O U k/\Hid (zL (λu=>X u/\Λ N W u I) (B+3) wr r (aV Θ f (l.take k)))/\Hid (wr.heap[B]?=J (Y #[G e3 m cap] (24:M)))/\Hid (wr.heap[B+1]?=J (Y (pX (aN Θ aE f (l.take k)) (G b3 b4 b5) (G aD a5 aF)).toArray (51:M)))/\Hid (wr.heap[B+1+1]?=J (Y #[G I 0 0] (24:M)))/\
  Hid (Md (λu=>X u/\Λ N W u I) (B+3) wr r.ownBlock λu=>Rw u (G b3 b4 b5) 1 ((aN Θ aE f (l.take k)).path.map p_)/\Rw u (G aD a5 aF) 5 ((aN Θ aE f (l.take k)).pU.map pO))/\Hid (Z B W wr)) (λ_ x _=>m-(az x).toNat)
 case atStart=>exact⟨0,_,_,_,_,_,_,oM _,rfl,K aM,eM,eN,eQ,K λu h _=>eK.o u h.1 h.2,K (by rw[<-bs.o];exact ez.o)⟩
 case round=>
  obtain⟨k,b3,b4,b5,aD,a5,aF,fC,rfl,ac,dj,bN,dl,aC,ci⟩:=hrel;obtain⟨dH,dI,fe⟩:=Δ ac.o;subst fe;have bx:(aV Θ f (l.take k)).length<=k:=pF Mg.RQ (mZ _ _);have b9:Z W.heap.size W wr:=(by rw[bs.o];exact ci.o);have dY:=K (d9.o wr b9);have bD:=K bx;have d0:=K dj.o;have cC:=K dl.o
  by_cases ei:k<m
  ·obtain rfl:=ev.o (by omega)
   have bQ:k<l.length:=(by rw[dR.o];exact ei);have eh:k<L.length:=(by rw[eR.o];exact ei);obtain⟨a2,F,a3,a6,a7,a8,ck,cj,dx,t,y1,y2,y3,y4,y5⟩:=ex.o k bQ eh;have af:=K (λu D=>eG.o u D k bQ eh);rw[ck] at af;have eO:=K (cj.under b9);replace t:=pI t b9;replace y1:=pI y1 b9;replace y2:=pI y2 b9;replace y3:=pI y3 b9;replace y4:=pI y4 b9;replace y5:=pI y5 b9;have bG:=K (λ(D:Θ l[k]=Θ f)=>Mg.ND (sS:=aE) (e:=f) bQ D);have bH:=K (λ(D:Θ l[k]≠Θ f)=>Mg.JN (sS:=aE) (e:=f) bQ D);have d5:=K (cB.o _ (pq bQ));have bF:=K (Qx (l:=l.take k) (λx h=>cB.o x (lY h)) dN.o);have cA:=K (show nE (aN Θ aE f (l.take k))+nE l[k]<=1000000 by have a9:=ne_acc (l.take k) f;have P:=Gk nE bQ;have b1:=eT.o;omega);have dA:=Mg.RP (key:=Θ) (sS:=aE) Mg.kpF (e:=f) (l:=l.take k);generalize aN Θ aE f (l.take k)=c at bN aC bG bH bF cA dA;generalize aV Θ f (l.take k)=R at ac aC bG bH bD bx|-;generalize l[k]=bm at t y1 y2 y3 y4 y5 bG bH d5 cA af eO
   have ed:(bm.id.toList==c.id.toList)=decide (bm.id=f.id):=by
    rw[show c.id=f.id from dA]
    by_cases aa:bm.id=f.id
    ·rw[aa];simp
    ·rw[o9 aa,oq]
     exactλF=>aa (Mg.vO F)
   obtain⟨d,cN⟩:∃d,decide (bm.id=f.id)=d:=⟨_,rfl⟩;rw[cN] at ed;have cx:=K cN;clear cN dA bx ck cj dx;obtain⟨ai,bp⟩:=pL R.length;have bZ:=K bp;rw[bp] at ac aC bD|-;clear bp;obtain⟨a4,v,w,s,y,o⟩:=bm;obtain⟨b0,ar,aw,au,aB,i⟩:=c;simp only at t y1 y2 y3 y4 y5 ed;have x0:wr.cell? ⟨B,0,I⟩=J (G (J ⟨g,fo,I⟩) m cap):=pJ (j:=0) d0.o rfl;have fm:(k:V)<(m:V):=(by omega);have fl:(0:V)<=(k:V):=(by omega);have e2:=K (pG wr (Y #[G I 0 0,H ⟨#[]⟩,H ⟨#[]⟩,H ⟨#[]⟩,O U 0,G I 0 0] (51:M)));have bw:=pM wr (Y #[G a2 F a3,H v,H w,H s,O U y,G a6 a7 a8] (51:M));have bP:=pG wr (Y #[G a2 F a3,H v,H w,H s,O U y,G a6 a7 a8] (51:M));have bO:=pW bw bN.o;have bY:=K (ac.o.below bw);have bT:=K (aC.o.below bw);have bC:=K (ci.o.trans (bw.mono (show B<=wr.heap.size by have a9:=ci.o.size;have P:=bs.o;omega)));have bB:=K (pW bw d0.o);have cD:=K (pW bw cC.o);have cz:=K (show B+3<=wr.heap.size by have:=π cC.o;omega);have eo:X (wr.alloc (Y #[G a2 F a3,H v,H w,H s,O U y,G a6 a7 a8] (51:M)))/\Λ N W (wr.alloc (Y #[G a2 F a3,H v,H w,H s,O U y,G a6 a7 a8] (51:M))) I:=d9.o _ (by rw[bs.o];exact bC.o);have cH:=K eo;clear ac aC bw dj dl eo b9
   cases d with
   |false=>
    have aa:=lI cx.o;obtain⟨a0,a1⟩:=bH.o aa;have dd:=K a0;have cd:=K a1;clear cx bG bH aa a0 a1
    go_wp2_with(first|(refine oN rfl 51 _ _ rfl _ _ rfl rfl 51 _ e2.o (by kernel_rfl) rfl (by simp[ν]) ?_;rw[su];obtain⟨al,am,an,ao,ap,aq⟩:=pN (pH _ _) bP;obtain⟨bg,bh,bi,bj,bk,bl⟩:=pN (pH _ _) bO;have bf:=K bP;have bU:=K bO;clear bP bO x0 t y1 y2 y3 y4 y5;generalize f8:wr.heap.size=er at bf cz al am an ao ap aq|-;generalize wr.alloc (Y #[G a2 F a3,H v,H w,H s,O U y,G a6 a7 a8] (51:M))=ae at bf bU bY bT bC bB cD cH al am an ao ap aq bg bh bi bj bk bl|-)|(refine La (n:=ai) _ rfl (.tmp 30) (.tmp 32) rfl Rb bZ.o rfl bY.o (⟨a4,v,w,s,y,o⟩:Γ) (pX ⟨a4,v,w,s,y,o⟩ (G a2 F a3) (G a6 a7 a8)) rfl (λu _ h=>af.o u h) rfl (by simp[ν,pX]) (pF cz.o (mN (π bf.o))) (by have:=bD.o;omega) (by decide) ?_))
    intro cq cr Q A ag el;have d6:=K Q;have ew:=K (bT.o.pushed ag A.size el);have et:=K ((A.block B (by omega)).trans bB.o);have eI:=K ((A.block (B+1) (by omega)).trans bU.o);have eV:=K ((A.block (B+1+1) (by omega)).trans cD.o);have b6:=K (bC.o.trans (A.mono (by omega)));clear Q A ag el al am an ao ap aq bg bh bi bj bk bl
    go_wp2_with fail
    go_roundw
    case rel=>exact⟨k+1,b3,b4,b5,aD,a5,aF,by omega,by go_num,by rw[dd.o];exact d6,et,by rw[cd.o];exact eI,eV,by rw[cd.o];exact ew,b6⟩
    case measure=>simp[az];omega
   |true=>
    have aa:=mX cx.o;obtain⟨a0,a1⟩:=bG.o aa;have dd:=K a0;have cd:=K a1;clear cx bG bH aa a0 a1
    go_wp2_with(refine oN rfl 51 _ _ rfl _ _ rfl rfl 51 _ e2.o (by kernel_rfl) rfl (by simp[ν]) ?_;rw[su];obtain⟨al,am,an,ao,ap,aq⟩:=pN (pH _ _) bP;obtain⟨bg,bh,bi,bj,bk,bl⟩:=pN (pH _ _) bO;have bf:=K bP;have bU:=K bO;clear bP bO x0 t y1 y2 y3 y4 y5;generalize f8:wr.heap.size=er at bf cz al am an ao ap aq|-;generalize wr.alloc (Y #[G a2 F a3,H v,H w,H s,O U y,G a6 a7 a8] (51:M))=ae at bf bU bY bT bC bB cD cH al am an ao ap aq bg bh bi bj bk bl|-)
    have f9:=af.o ae cH.o
    have eF:=K (λu (D:X u/\Λ N W u I)=>show Rw u (G a6 a7 a8) 5 (o.map pO) by obtain⟨vp,ve,e,-,dv⟩:=af.o u D;simp only[pX,nG,nU,kO] at e;rw[e.2];exact dv)
    have ds:=bT.o.here cH.o;obtain⟨fN,fO,fu,fv,e,bn,dt⟩:=qO ds.2;obtain⟨rfl,cR,rfl⟩:aD=fu/\i.length=a5/\aF=fv:=by injection e with a2 F a3;exact⟨a2,F.symm,a3⟩
    try simp only at bn dt cR
    rw[cR] at bn;have dT:=K cR;have f1:=K bn;have f2:=K dt;have eU:=K ds.1;have eP:=K d5.o.e;have dL:=K bF.o.e;have fF:a5<=1000000:=(by have:=cA.o;unfold nE at this;simp only at this;omega);clear f9 ds bn dt cR e;obtain⟨bK,cK⟩:=pL ae.heap.size;have da:=K cK;have cb:=K (show B+3<=bK by rw[<-cK];have:=π bf.o;have:=cz.o;omega);have d2:=K (pH bK ae)
    have dV:=K (λq (e:(aL dH ai dI).ownBlock=J q)=>show q<bK by obtain⟨_,_,P,_⟩:=bY.o;rw[<-cK];exact(qq P e).2)
    clear cK al am an ao ap aq bg bh bi bj bk bl
    go_loopw [8,9] (λfn x cs=>∃(j:M)(a0:aT Addr)(a1 ak:M),j<=a5/\x=O U j/\fn=G a0 a1 ak/\Hid (Md (λu=>X u/\Λ N W u I) (B+3) cs (aL dH ai dI).ownBlock λu=>Rw u (G a0 a1 ak) 5 (((i.take j).foldl aK o).map pO))/\Hid (Z bK ae cs)) (λ_ x _=>a5-(az x).toNat)
    case atStart=>exact⟨0,a6,a7,a8,oM _,rfl,rfl,K λu h _=>eF.o u h,d2⟩
    case round=>
     obtain⟨j,a0,a1,ak,fa,rfl,rfl,ej,b2⟩:=hrel;have b8:Z ae.heap.size ae wr:=(by rw[da.o];exact b2.o);have ba:=(b2.o.block _ (by have:=cb.o;omega)).trans bU.o;have dy:=pW b8 bf.o;have dX:=K (d9.o wr (by rw[bs.o];exact bC.o.trans (b2.o.mono (by have:=cb.o;omega))));have d4:=K ej.o;have be:=K b2.o;have cy:=K ba;have bJ:=K (show bK<=wr.heap.size by have a9:=b2.o.size;have P:=da.o;omega);obtain⟨bg,bh,bi,bj,bk,bl⟩:=pN (pH _ _) ba;clear ej b2 ba
     by_cases cl:j<a5
     ·obtain rfl:=f1.o (by omega)
      have bo:j<i.length:=(by rw[dT.o];exact cl);obtain⟨t,y1,y2,y3,y4⟩:=f2.o j bo;replace t:=pI t b8;replace y1:=pI y1 b8;replace y2:=pI y2 b8;replace y3:=pI y3 b8;replace y4:=pI y4 b8;have ct:=N6 ((i.take j).foldl aK o) i[j] (G a0 a1 ak) wr (d4.o.here dX.o) (by have a9:=N7 (i.take j) o;have P:=mZ j i;have b1:=cA.o;unfold nE at b1;simp only at b1;omega) (Hx eP.o λx h=>dL.o x (lY h)) (dL.o _ (pq bo));have bI:=K (show(i.take (j+1)).foldl aK o=aK ((i.take j).foldl aK o) i[j] by rw[aP bo,lK];rfl);rw[<-bI.o] at ct;generalize i[j]=z at t y1 y2 y3 y4 ct;obtain⟨fQ,fR,zl,fP,fS⟩:=z;simp only at t y1 y2 y3 y4;have fG:(j:V)<(a5:V):=(by omega);have fH:(0:V)<=(j:V):=(by omega);clear b8 dy
      go_wp2_with fail
      refine ct.mono ?_;rintro e bd⟨⟨fL,rfl,di⟩,bu⟩;obtain⟨cS,s5,rfl⟩:=Δ di;have eu:=K (show Md (λu=>X u/\Λ N W u I) (B+3) bd (aL dH ai dI).ownBlock λu=>Rw u (G cS ((i.take (j+1)).foldl aK o).length s5) 5 (((i.take (j+1)).foldl aK o).map pO) fromλu h C=>YD di (UJ C (pF cb.o bJ.o) λq e=>oQ (dV.o q e) bJ.o));have cv:=K (be.o.trans (bu.mono bJ.o));clear ct di bu t y1 y2 y3 y4 bg bh bi bj bk bl
      go_wp2_with fail
      go_roundw
      case rel=>exact⟨j+1,cS,_,s5,by omega,by go_num,rfl,eu,cv⟩
      case measure=>simp[az];omega
     ·have f7:decide ((j:V)<(a5:V))=Ξ:=o9 (by omega)
      have bb:i.take j=i:=oP (by rw[dT.o];omega);rw[bb] at d4;obtain rfl:j=a5:=by omega
      obtain⟨al,am,an,ao,ap,aq⟩:=pN (pH _ _) dy
      have cZ:=XL ⟨a4,v,w,s,y,o⟩ ⟨b0,ar,aw,au,aB,i⟩ (G a2 F a3) (G a6 a7 a8) (G b3 b4 b5) (G aD j aF) d5.o.q bF.o.q wr (show Rw wr (G a2 F a3) 1 (a4.map p_) by obtain⟨vp,ve,e,fc,-⟩:=af.o wr dX.o;simp only[pX,nG,nU,kO] at e;rw[e.1];exact fc) ⟨_,_,_,rfl⟩ (eU.o.under b8) ⟨_,_,_,rfl⟩
      clear bb b8 dy;obtain⟨dJ,dk⟩:=pL (Mg.sx ⟨a4,v,w,s,y,o⟩ ⟨b0,ar,aw,au,aB,i⟩);have dO:=K (show aE ⟨a4,v,w,s,y,o⟩ ⟨b0,ar,aw,au,aB,i⟩={dJ with pU:=i.foldl aK o} by rw[<-dk];rfl);rw[dk] at cZ;clear dk;obtain⟨bS,cm,co,cn,cp,le⟩:=dJ
      go_wp2_with fail
      refine cZ.mono ?_;rintro e bd⟨⟨bL,bM,rfl,dC⟩,bu⟩;have dw:=pW bu cy.o;have eJ:=K dw;have cO:=og bd (B+1) _ #[G bL bS.length bM,H cm,H co,H cn,O U cp,G I 0 0] _ _ dw;have eb:Z ae.heap.size ae bd:=(by rw[da.o];exact be.o.trans (bu.mono bJ.o));have eW:=K dC;have cv:=K bu;have d3:=K eb;have eH:=K cO;simp only at dC;clear dC bu dw eb cZ al am an ao ap aq bg bh bi bj bk bl;obtain⟨al,am,an,ao,ap,aq⟩:=pN (pH _ _) cO;have fp:=yY cO 5;clear cO
      go_wp2_with(refine oN rfl 51 _ _ rfl _ _ rfl rfl 51 _ eJ.o (by kernel_rfl) rfl (by simp[ν]) ?_)
      go_wp2_with fail
      clear al am an ao ap aq fp;have e6:B<=bK:=(by have:=cb.o;omega);have bR:((bd.setRow (B+1) #[G bL bS.length bM,H cm,H co,H cn,O U cp,G I 0 0]).setCell ⟨B+1,5,I⟩ (G a0 a1 ak)).heap.size=bd.heap.size:=(by simp[World.setCell,aA]);have dB:∀q,q≠B+1->((bd.setRow (B+1) #[G bL bS.length bM,H cm,H co,H cn,O U cp,G I 0 0]).setCell ⟨B+1,5,I⟩ (G a0 a1 ak)).heap[q]?=bd.heap[q]?:=λq ab=>(pz _ _ _ _ ab).trans (oo _ _ _ _ ab)
      have dD:=oO _ (B+1) 5 _ _ (G a0 a1 ak) eH.o;have bv:=(pS (B:=B) (bC.o.trans ((be.o.mono e6).trans (cv.o.mono (pF e6 bJ.o)))) (show B<=B+1 by omega) #[G bL bS.length bM,H cm,H co,H cn,O U cp,G I 0 0]).setCell (p:=⟨B+1,5,I⟩) (by simp only;omega) (G a0 a1 ak);generalize(bd.setRow (B+1) #[G bL bS.length bM,H cm,H co,H cn,O U cp,G I 0 0]).setCell ⟨B+1,5,I⟩ (G a0 a1 ak)=fM at bR dB dD bv|-;have d8:=K bR;have bX:=K dB;have eX:=K dD;have eA:=K bv;clear bR dB dD bv
      go_roundw
      case rel=>
       refine⟨k+1,bL,bS.length,bM,a0,a1,ak,by omega,by go_num,by rw[dd.o];exact K (YR (bY.o.below d3.o) d8.o λq ab=>bX.o q (by omega)),K ?_,by rw[cd.o,dO.o];exact eX,K ?_,?_,eA⟩
       ·exact(bX.o B (by omega)).trans (pW d3.o bB.o)
       ·exact(bX.o (B+1+1) (by omega)).trans (pW d3.o cD.o)
       ·rw[cd.o,dO.o]
        refine K λu h C=>⟨O4 eW.o λq a9 P _=>?_,(d4.o.below cv.o) u h λq a9 P b1=>(C q a9 (by rw[d8.o];exact P) b1).trans (bX.o q (by omega))⟩
        have fz:=cb.o;have fA:=bJ.o;exact(C q (by omega) (by rw[d8.o];exact P) (λe=>by have:=dV.o q e.symm;omega)).trans (bX.o q (by omega))
      case measure=>simp[az];omega
  ·have s:decide ((k:V)<(m:V))=Ξ:=o9 (by omega)
   have bb:l.take k=l:=oP (by rw[dR.o];omega);rw[bb] at ac bN aC bD bx;rw[bb];have fE:k<=100000:=(by omega);have cu:=K (Mg.RR (cmp:=aS) (key:=Θ) (sS:=aE) (e:=f) (l:=l));change Hid (wN l f=_) at cu;have dU:=K (show∀x∈aV Θ f l,FQ x fromλx h=>cB.o x (List.mem_filter.1 h).1);have bF:=K (Qx (l:=l) cB.o dN.o);clear bb;generalize aN Θ aE f l=c at bN aC cu bF;generalize aV Θ f l=R at ac aC bD bx cu dU|-;obtain⟨dc,cM⟩:=ac.o.ax;have aa:=cM.here dY.o;obtain⟨fy,fI,fw,fx,F,dp,ea⟩:=Bt aa.1 aa.2;cases F;have ec:=aC.o.here dY.o;obtain⟨ai,bp⟩:=pL R.length;have bZ:=K bp;have eS:=K (show dc.length=ai by rw[aa.2.1,bp]);rw[bp] at dp bx cM|-;have bB:=K dp;have eY:=K ea;have eL:=K bN.o;have eB:=K ci.o;have eC:=K ec;have ey:=K cM
   have d1:=K (show∀u,((X u/\Λ N W u I)/\Λ (B+3) wr u I)->vT u c (pX c (G b3 b4 b5) (G aD a5 aF)) fromλu h=>by
    obtain⟨a9,P⟩:=aC.o u h.1 λq a b _=>h.2 q a b (by simp)
    exact⟨_,_,rfl,a9,P⟩)
   have fD:ai<=1000000:=(by omega);have x0:=pJ (j:=0) d0.o rfl;clear bp ac bN aC ci dp ea bx bD aa ec cM dj dl
   go_wp2_with fail
   obtain⟨T,dm⟩:=pL wr.heap.size;have b7:=K dm;have dK:=K (show B+3<=T by rw[<-dm];have:=π cC.o;omega);have d2:=K (pH T wr);clear dm x0;obtain⟨aZ,rfl⟩:∃aZ:ay,aZ=wr:=⟨_,rfl⟩
   go_loopw [10,11,12] (λr d x cs=>∃(j:M)(db:Bool)(bz:E Γ),j<=ai/\x=O U j/\d= .bool db/\Hid (zL (λu=>(X u/\Λ N W u I)/\Λ (B+3) aZ u I) T cs r bz)/\Hid (Mg.Ins aS c (R.take j) db bz)/\Hid (Z T aZ cs)) (λ_ _ x _=>ai-(az x).toNat)
   case atStart=>exact⟨0,Ξ,[],oM _,rfl,rfl,K aM,K Mg.Ins.nil,d2⟩
   case round=>
    obtain⟨j,db,bz,fa,rfl,rfl,ac,dz,b2⟩:=hrel;obtain⟨fJ,fK,ff⟩:=Δ ac.o;subst ff;obtain⟨on,cQ⟩:=pL bz.length;have bt:=K cQ;have bW:=K (show on<=1000001 by have a9:=dz.o.len;rw[cQ] at a9;have P:=mZ j R;have b1:=bZ.o;split at a9<;>omega);have bV:=K dz.o;rw[cQ] at ac|-;clear cQ dz;have ad:Z aZ.heap.size aZ wr:=(by rw[b7.o];exact b2.o);have ba:=pW ad eL.o;have cF:=K ac.o;have be:=K b2.o;have cy:=K ba;have cG:=K (show T<=wr.heap.size by have a9:=ad.size;have P:=b7.o;omega);clear ac b2
    by_cases cl:j<ai
    ·obtain rfl:=bB.o (by omega)
     have bo:j<R.length:=(by rw[bZ.o];exact cl);have eg:j<dc.length:=(by rw[eS.o];exact cl);obtain⟨a2,F,a3,a6,a7,a8,ck,cj,dx,t,y1,y2,y3,y4,y5⟩:=eY.o j bo eg;have e1:=K (λu (C:Z T aZ u)=>show _/\_/\_/\_/\_/\_ from⟨pI t (by rw[b7.o];exact C),pI y1 (by rw[b7.o];exact C),pI y2 (by rw[b7.o];exact C),pI y3 (by rw[b7.o];exact C),pI y4 (by rw[b7.o];exact C),pI y5 (by rw[b7.o];exact C)⟩);have af:=K (show∀u,((X u/\Λ N W u I)/\Λ (B+3) aZ u I)->vT u R[j] dc[j] fromλu D=>(ey.o u D.1 D.2).2.2 j bo eg);rw[ck] at af;replace t:=pI t ad;replace y1:=pI y1 ad;replace y2:=pI y2 ad;replace y3:=pI y3 ad;replace y4:=pI y4 ad;replace y5:=pI y5 ad;have bE:=K cl;have bI:=K (aP bo);have em:=(dU.o _ (pq bo)).q.yc;have ce:=λd S=>Calls.regrown_of (NT c R[j] (G b3 b4 b5) (G aD a5 aF) (G a2 F a3) (G a6 a7 a8) (Sort.grow (redrawn wr d) S) ((eC.o.1.under ad).under (aI wr d S)) ((cj.under ad).under (aI wr d S)) ⟨_,_,_,rfl⟩ ⟨_,_,_,rfl⟩ (pF bF.o.q.yc (by decide)) (pF em (by decide)))
     clear ck cj dx em;generalize R[j]=bm at t y1 y2 y3 y4 y5 af bI e1 ce;obtain⟨dg,du⟩:=pL (aS c bm);rw[du] at ce;have dM:=K du;have bT:=K d1.o;have fm:(j:V)<(ai:V):=(by omega);have fl:(0:V)<=(j:V):=(by omega);obtain⟨a4,v,w,s,y,o⟩:=bm;obtain⟨b0,ar,aw,au,aB,i⟩:=c;simp only at t y1 y2 y3 y4 y5;change∀d S,aW _ _ #[.agg #[G b3 b4 b5,H ar,H aw,H au,O U aB,G aD a5 aF],.agg #[G a2 F a3,H v,H w,H s,O U y,G a6 a7 a8]] _ _ at ce;have ab:=λd S=>pN (aI wr d S) ba
     have fq:=λd S=>(ab d S).1
     have a0:=λd S=>(ab d S).2.1
     have a1:=λd S=>(ab d S).2.2.1
     have ak:=λd S=>(ab d S).2.2.2.1
     have cS:=λd S=>(ab d S).2.2.2.2.1
     have s5:=λd S=>(ab d S).2.2.2.2.2
     have fr:=aj t;have t1:=aj y1;have t2:=aj y2;have t3:=aj y3;have fs:=aj y4;have ft:=aj y5;have dZ:=K (λu (C:Z wr.heap.size wr u)=>ς (pI t C) (ς (pI y1 C) (ς (pI y2 C) (ς (pI y3 C) (ς (pI y4 C) (ς (pI y5 C) (pN C cy.o)))))));clear ab ba t y1 y2 y3 y4 y5 ad du
     go_wp2_with fail
     have fi:(db=aG)\/(db=Ξ/\decide (dg<0)=aG)\/(db=Ξ/\decide (dg<0)=Ξ):=by
      cases db
      ·by_cases D:dg<0
       ·exact .inr (.inl ⟨rfl,nK D⟩)
       ·exact .inr (.inr ⟨rfl,o9 D⟩)
      ·exact .inl rfl
     rcases fi with rfl|⟨rfl,dh⟩|⟨rfl,dh⟩
     all_goals
      refine wp_region_quiet_below (by kernel_rfl) (by kernel_rfl) ?_
      repeat(first|go_big_quiet_step (fail)|quiet_step (fail))
      try(quiet_step (exact ce _ _);repeat(first|go_big_quiet_step (fail)|quiet_step (fail)))
      refine wpQuiet_nil ?_;intro _ fg;obtain⟨⟨e4,eq⟩,fh⟩:=fg;subst fh;clear fr t1 t2 t3 fs ft fq a0 a1 ak cS s5 ce;have ch:=aI wr e4 eq;have e0:=K (dZ.o _ ch);have cE:=K (cF.o.below ch);have cw:=K (be.o.trans (ch.mono cG.o));have ca:=K (pF cG.o ch.size);generalize Sort.grow (redrawn wr e4) eq=ae at e0 cE cw ca|-;clear ch dZ cF be cG cy;obtain⟨t,y1,y2,y3,y4,y5,cT,cU,cV,cW,cX,cY⟩:=e0.o
     ·skip
      go_wp2_with(refine qu (n:=on) ae rfl (.tmp 76) (.tmp 81) rfl Rb (by exact bt.o) rfl cE.o (⟨a4,v,w,s,y,o⟩:Γ) (pX ⟨a4,v,w,s,y,o⟩ (G a2 F a3) (G a6 a7 a8)) rfl (λu _ h=>af.o u h) rfl (by simp[ν,pX]) ca.o (by have:=bW.o;omega) (by decide) ?_)
      intro cq cr Q A ag;have br:=K Q;have b6:=K (cw.o.trans A);clear Q A ag
      go_wp2_with fail
      go_roundw
      case rel=>exact⟨j+1,aG,bz++[⟨a4,v,w,s,y,o⟩],by have:=bE.o;omega,by go_num,rfl,br,K (by rw[bI.o];exact bV.o.done),b6⟩
      case measure=>have:=bE.o;simp[az];omega
     ·skip
      go_wp2_with(refine qu (n:=on) ae rfl (.tmp 72) (.tmp 74) rfl Rb (by exact bt.o) rfl cE.o (⟨b0,ar,aw,au,aB,i⟩:Γ) (pX ⟨b0,ar,aw,au,aB,i⟩ (G b3 b4 b5) (G aD a5 aF)) rfl (λu _ h=>d1.o u h) rfl (by simp[ν,pX]) ca.o (by have:=bW.o;omega) (by decide) ?_)
      intro cq cr Q A ag;obtain⟨f5,f6,cf⟩:=Δ Q;rw[o_,bt.o,lR] at cf;subst cf;have d6:=K Q;have dQ:=K (cw.o.trans A);have eZ:=K (pF ca.o A.size);clear Q A ag t y1 y2 y3 y4 y5 cT cU cV cW cX cY;obtain⟨t,y1,y2,y3,y4,y5⟩:=e1.o _ dQ.o
      go_wp2_with(refine qu (n:=on+1) cr rfl (.tmp 76) (.tmp 81) rfl Rb (by rw[o_,bt.o];rfl) rfl d6.o (⟨a4,v,w,s,y,o⟩:Γ) (pX ⟨a4,v,w,s,y,o⟩ (G a2 F a3) (G a6 a7 a8)) rfl (λu _ h=>af.o u h) rfl (by simp[ν,pX]) eZ.o (by have:=bW.o;omega) (by decide) ?_)
      intro cq bc Q A ag;have br:=K Q;have b6:=K (dQ.o.trans A);clear Q A ag
      go_wp2_with fail
      go_roundw
      case rel=>exact⟨j+1,aG,bz++[⟨b0,ar,aw,au,aB,i⟩,⟨a4,v,w,s,y,o⟩],by have:=bE.o;omega,by go_num,rfl,br,K (by rw[bI.o];have D:=bV.o.here (x:=⟨a4,v,w,s,y,o⟩) (by rw[dM.o];exact mX dh);rw[m_] at D;exact D),b6⟩
      case measure=>have:=bE.o;simp[az];omega
     ·skip
      go_wp2_with(refine qu (n:=on) ae rfl (.tmp 76) (.tmp 81) rfl Rb (by exact bt.o) rfl cE.o (⟨a4,v,w,s,y,o⟩:Γ) (pX ⟨a4,v,w,s,y,o⟩ (G a2 F a3) (G a6 a7 a8)) rfl (λu _ h=>af.o u h) rfl (by simp[ν,pX]) ca.o (by have:=bW.o;omega) (by decide) ?_)
      intro cq cr Q A ag;have br:=K Q;have b6:=K (cw.o.trans A);clear Q A ag
      go_wp2_with fail
      go_roundw
      case rel=>exact⟨j+1,Ξ,bz++[⟨a4,v,w,s,y,o⟩],by have:=bE.o;omega,by go_num,rfl,br,K (by rw[bI.o];exact bV.o.pass (by rw[dM.o];exact lI dh)),b6⟩
      case measure=>have:=bE.o;simp[az];omega
    ·have f7:decide ((j:V)<(ai:V))=Ξ:=o9 (by omega)
     have bb:R.take j=R:=oP (by rw[bZ.o];omega);rw[bb] at bV;have dP:=K (cu.o.trans bV.o.fin);have d7:=K (pW ad cC.o);have eE:=K (show N<=B by have:=eD.o;have:=bs.o;omega)
     have en:∀(bc:ay)(bq:ah)(dG:E Γ),zL (λu=>(X u/\Λ N W u I)/\Λ (B+3) aZ u I) T bc bq dG->Z T aZ bc->wN l f=dG->(∃bA,Ending.returned (.agg #[bq])=η (.agg #[bA])/\∃cc,AX X N (bc.setRow (B+1+1) #[bq]) bA (wN l f) cc)/\Z W.heap.size W (bc.setRow (B+1+1) #[bq]):=λbc bq dG fd dq dv=>by
      obtain⟨f3,fj⟩:=fd.ax;have fB:=dK.o;have fk:=bs.o;have cN:=eE.o;have bR:(bc.setRow (B+1+1) #[bq]).heap.size=bc.heap.size:=(by simp[aA]);have bv:Z B W (bc.setRow (B+1+1) #[bq]):=pS (eB.o.trans (dq.mono (by omega))) (by omega) _;refine⟨⟨bq,rfl,f3,λu h C=>?_⟩,by rw[fk];exact bv⟩;have a9:Λ N W u I:=λq a b _=>(C q a (by have:=bv.size;omega) (by simp)).trans (bv.block q (by omega))
      have P:Λ (B+3) aZ u I:=λq a b _=>(C q (by omega) (by rw[bR];exact oQ b dq.size) (by simp)).trans ((oo _ _ _ _ (by omega)).trans (dq.block q (by have:=b7.o;omega)))
      have b1:=fj u ⟨⟨h,a9⟩,P⟩ λq a b _=>(C q (by omega) (by rw[bR];exact b) (by simp)).trans (oo _ _ _ _ (by omega))
      rw[dv];exact b1
     have dS:=K en;obtain⟨b0,ar,aw,au,aB,i⟩:=c;obtain⟨cT,cU,cV,cW,cX,cY⟩:=pN (pH _ _) ba;clear en bb ba ad
     cases db with
     |true=>
      go_wp2_with(refine oN rfl 24 _ _ rfl _ _ rfl rfl 24 _ d7.o (by kernel_rfl) rfl (by simp[ν]) ?_)
      go_wp2_with fail
      refine ow (nL rfl _ _ (B+1+1) _ _ _ _ rfl (og _ _ _ _ _ _ d7.o) av rfl (by kernel_rfl)) rfl ?_
      exact dS.o _ _ _ cF.o be.o dP.o
     |false=>
      simp only at cT cU cV cW cX cY
      go_wp2_with(refine qu (n:=on) wr rfl (.tmp 85) (.tmp 87) rfl Rb (by exact bt.o) rfl cF.o (⟨b0,ar,aw,au,aB,i⟩:Γ) (pX ⟨b0,ar,aw,au,aB,i⟩ (G b3 b4 b5) (G aD a5 aF)) rfl (λu _ h=>d1.o u h) rfl (by simp[ν,pX]) cG.o (by have:=bW.o;omega) (by decide) ?_)
      intro cq cr Q A ag;obtain⟨f5,f6,cf⟩:=Δ Q;rw[o_,bt.o,lR] at cf;subst cf;have br:=K Q;have b6:=K (be.o.trans A);have dW:=K ((A.block _ (by have:=dK.o;omega)).trans d7.o);clear Q A ag cT cU cV cW cX cY
      go_wp2_with(refine oN rfl 24 _ _ rfl _ _ rfl rfl 24 _ dW.o (by kernel_rfl) rfl (by simp[ν]) ?_)
      go_wp2_with fail
      refine ow (nL rfl _ _ (B+1+1) _ _ _ _ rfl (og _ _ _ _ _ _ dW.o) av rfl (by kernel_rfl)) rfl ?_;obtain⟨⟨bA,a9,cc,P⟩,b1⟩:=dS.o _ _ _ br.o b6.o dP.o;exact⟨⟨bA,cc,a9,P⟩,b1⟩
def fq_add{l:E Γ}{f:Γ}(a:∀x∈l,FQ x)(c:FQ f):∀x∈wN l f,FQ x:=λx d=>by
 rcases Mg.vP.1 d with rfl|b
 ·exact Qx a c
 ·exact a x (List.mem_filter.1 b).1
def SI:∀{fs l:E Γ},(∀x∈l,FQ x)->(∀x∈fs,FQ x)->∀x∈fs.foldl wN l,FQ x
 |[],l,hl,_=>hl
 |f::fs,l,hl,hf=>SI (fs:=fs) (l:=wN l f) (fq_add hl (hf f (oL ..))) λx a=>hf x (oH _ a)
def UR(fs l:E Γ):(fs.foldl wN l).length<=l.length+fs.length:=by have:=Mg.zA (cmp:=aS) (key:=Θ) (sS:=aE) (λ_=>1) (λ_ _=>by omega) fs l;rw[tX,tX,tX] at this;exact this
def ne_adds(fs l:E Γ):((fs.foldl wN l).map nE).sum<=(l.map nE).sum+(fs.map nE).sum:=Mg.zA (cmp:=aS) (key:=Θ) (sS:=aE) nE YC fs l
def Od{X:ay->Prop}{b:M}{w:ay}{v:ah}{l:E Γ}{L:E (E ah)}(d:AX X b w v l L)(h:X w):∃a c,v=G a l.length c:=by obtain⟨f,g⟩:=d.here h;obtain⟨_,_,a,c,e,_,_⟩:=Mw.qY f g.1;exact⟨a,c,e⟩
def ax_nil{X:ay->Prop}{a:M}{w:ay}:AX X a w (G I 0 0) [] []:=λu _ _=>⟨Rw.nil u 6,rfl,λj b=>absurd b (by simp)⟩
def US(l:E Γ)(va:ah)(W:ay)(bU:rY W va l)(bW:l.length<=100000)(b7:∀g∈l,QZ g)(bc:∀g∈l,aR g=aG)(al:∀g∈l,FQ g)(bb:(l.map nE).sum<=1000000):
 aW aJ 20 #[va] W λx w'=>(∃ar,x=η (.tuple #[.agg #[ar],O U 0])/\∀u,Λ W.heap.size w' u I->rY u ar (l.foldl wN []))/\Z W.heap.size W w':=by
 obtain⟨L,T,b4,b3⟩:=bU;obtain⟨g,ch,cb,cap,rfl,ae,b6⟩:=Bt b4 ⟨T,b3⟩;obtain⟨m,ak⟩:=pL l.length;rw[ak] at ae bW T|-;have aC:=K ak;have bu:=K T;have bk:=K ae;have bl:=K b6;have aD:=K al;have bv:=K bb;have bq:=K b7;have bw:=K bc;clear ak ae b6 al bb b7 bc T b4 b3;obtain⟨Q,P,af⟩:=sM W (Y #[G I 0 0] 24) (Y #[G I 0 0] 24)
 go_enter Tryz.func20,Tryz.ntmps20
 go_wp2_with fail
 generalize(W.alloc _).alloc _=bE at Q P af|-;generalize b2:W.heap.size=B at Q P|-;have w:=K b2;clear b2;have bt:=K Q;have bs:=K P;have bn:=K (show Z B W bE by rw[<-w.o];exact af);clear Q P af
 go_loopw [5] (λx wr=>∃(k:M)(v:ah)(N:E (E ah)),k<=m/\x=O U k/\Hid (AX (λ_=>True) (B+2) wr v ((l.take k).foldl wN []) N)/\Hid (wr.heap[B]?=J (Y #[G I 0 0] (24:M)))/\Hid (wr.heap[B+1]?=J (Y #[v] (24:M)))/\Hid (Z B W wr)) (λx _=>m-(az x).toNat)
 case atStart=>exact⟨0,_,[],oM _,rfl,K ax_nil,bt,bs,bn⟩
 case round=>
  obtain⟨k,v,N,ce,rfl,X,b5,S,ag⟩:=hrel;have c:Z W.heap.size W wr:=(by rw[w.o];exact ag.o);obtain⟨va,bf,rfl⟩:=Od X.o trivial;obtain⟨bg,ao⟩:=pL (((l.take k).foldl wN []).length);rw[ao] at X S;have bA:=K ao;have aq:=pJ (j:=0) S.o rfl;have a7:=K b5.o;have aw:=K S.o;have ax:=K ag.o;have D:=K X.o;clear b5 S ag X ao
  by_cases ba:k<m
  ·obtain rfl:=bk.o (by omega)
   have a2:k<l.length:=(by rw[aC.o];exact ba);have bV:k<L.length:=(by rw[bu.o];exact ba);obtain⟨bM,bN,bO,bP,bQ,bR,bX,b9,b8,C,y1,y2,y3,y4,y5⟩:=bl.o k a2 bV;replace C:=pI C c;replace y1:=pI y1 c;replace y2:=pI y2 c;replace y3:=pI y3 c;replace y4:=pI y4 c;replace y5:=pI y5 c;have a3:=pq a2;have am:=aD.o _ a3
   have F:=K (show nE l[k]+(((l.take k).foldl wN []).map nE).sum<=1000000 by have h:=ne_adds (l.take k) [];have y:=Gk nE a2;have b1:=bv.o;simp only[mU,List.sum_nil] at h;omega)
   have aZ:=K (SI (fs:=l.take k) (l:=[]) (λx ap=>by cases ap) λx ap=>aD.o x (lY ap));have aB:=K (show((l.take k).foldl wN []).length<=100000 by have h:=UR (l.take k) [];have y:=mZ k l;simp only[oh] at h;omega);have a8:=K (show(l.take (k+1)).foldl wN []=wN ((l.take k).foldl wN []) l[k] by rw[aP a2,lK];rfl);have a4:=UP l[k] (G bM bN bO) (G bP bQ bR) wr (b9.under c) (b8.under c) (bq.o _ a3) (by have:=F.o;unfold nE at this;omega) am.e (bw.o _ a3);have aF:=K am;clear bX b9 b8 a3 am;generalize(l.take k).foldl wN []=bF at D bA F aZ aB a8;generalize l[k]=f at C y1 y2 y3 y4 y5 a4 F a8 aF;obtain⟨aa,p,s,r,t,a9⟩:=f;simp only at C y1 y2 y3 y4 y5;have cg:(k:V)<(m:V):=(by omega);have cf:(0:V)<=(k:V):=by omega
   go_wp2_with fail
   refine a4.mono ?_;rintro e d⟨⟨ci,ar,rfl,R⟩,a0⟩;have ai:=R d λ_ _ _ _=>rfl
   obtain⟨-,-,i,o,rfl,-,-⟩:=qp ai.1;obtain⟨-,-,t1,t3,rfl,-,-⟩:=qO ai.2;obtain⟨n,bY⟩:=pL aa.length;obtain⟨t2,bZ⟩:=pL a9.length;simp only[bY,bZ] at R|-;have bC:=K (pG d (Y #[G I 0 0,H ⟨#[]⟩,H ⟨#[]⟩,H ⟨#[]⟩,O U 0,G I 0 0] (51:M)));have A:=pM d (Y #[G i n o,H p,H s,H r,O U t,G t1 t2 t3] (51:M));have be:=pG d (Y #[G i n o,H p,H s,H r,O U t,G t1 t2 t3] (51:M));have z:=a0.trans (A.mono a0.size);have ad:=pW z aw.o;have bj:=K ad;have bx:=K (pW z a7.o);have bo:=K (ax.o.trans (z.mono (show B<=wr.heap.size by have h:=ax.o.size;have y:=w.o;omega)));have bm:=K (D.o.below z);have a6:=K (show B+2<=wr.heap.size by have:=π aw.o;omega);have b0:=K (show wr.heap.size<=d.heap.size/\d.heap.size<=(d.alloc (Y #[G i n o,H p,H s,H r,O U t,G t1 t2 t3] (51:M))).heap.size from⟨a0.size,A.size⟩);have br:=K (show Md (λ_=>True) (B+2) (d.alloc (Y #[G i n o,H p,H s,H r,O U t,G t1 t2 t3] (51:M))) I λu=>Rw u (G i n o) 1 (aa.map p_)/\Rw u (G t1 t2 t3) 5 (a9.map pO) fromλu _ an=>R u λq a b _=>(an q (pF a6.o a) (oQ b A.size) (by simp)).trans (A.block q b));clear a4 ai R a0 A z aq C y1 y2 y3 y4 y5
   go_wp2_with(refine oN rfl 51 _ _ rfl _ _ rfl rfl 51 _ bC.o (by kernel_rfl) rfl (by simp[ν,pX]) ?_;rw[su];change wpList _ _ _ _ _ (d.alloc (Y #[G i n o,H p,H s,H r,O U t,G t1 t2 t3] (51:M)));obtain⟨bG,bH,bI,bJ,bK,bL⟩:=pN (pH _ _) be;have aq:=pJ (j:=0) ad rfl;clear be ad)
   have a5:=YS (λ_=>True) (B+2) bF N ⟨aa,p,s,r,t,a9⟩ (G va bg bf) i n o t1 t2 t3 (d.alloc (Y #[G i n o,H p,H s,H r,O U t,G t1 t2 t3] (51:M))) (by have h:=b0.o;have y:=a6.o;omega) (λ_ _=>trivial) bm.o br.o aB.o aZ.o aF.o F.o;rw[<-a8.o] at a5;refine a5.mono ?_;rintro e bh⟨⟨cj,bD,rfl,ab⟩,a1⟩;have ac:Z B W bh:=bo.o.trans (a1.mono (by have h:=b0.o;have y:=a6.o;omega));have bT:Z W.heap.size W bh:=(by rw[w.o];exact ac);obtain⟨ca,cc,rfl⟩:=Od ab trivial;have au:=K (pW a1 bj.o);have bz:=K (pW a1 bx.o);have bi:=K ab;have bp:=K ac;clear a5 ab a1 ac bT bG bH bI bJ bK bL aq
   go_wp2_with(refine oN rfl 24 _ _ rfl _ _ rfl rfl 24 _ au.o (by kernel_rfl) rfl (by simp[ν]) ?_)
   go_wp2_with fail
   go_roundw
   case rel=>exact⟨k+1,_,bD,by omega,by go_num,K (bi.o.set (by simp[aA]) λq al=>oo _ _ _ _ (by omega)),K ((oo _ _ _ _ (by omega)).trans bz.o),K (og _ _ _ _ _ _ au.o),K (pS bp.o (by omega) _)⟩
   case measure=>simp[az];omega
  ·have cd:decide ((k:V)<(m:V))=Ξ:=o9 (by omega)
   have bd:l.take k=l:=oP (by rw[aC.o];omega);rw[bd] at D;have bB:=K c;clear bd c
   go_wp2_with(refine oN rfl 24 _ _ rfl _ _ rfl rfl 24 _ a7.o (by kernel_rfl) rfl (by simp[ν]) ?_)
   go_wp2_with fail
   refine ow (qE rfl _ _ B _ _ _ _ rfl (og _ _ _ _ _ _ a7.o) av rfl (by kernel_rfl)) rfl ?_;have bS:Z W.heap.size W (wr.setRow B #[G va bg bf]):=pS bB.o (by have:=w.o;omega) _;refine⟨⟨_,rfl,λu an=>?_⟩,bS⟩;obtain⟨h,y,b1⟩:=D.o u trivial λq a b _=>(an q (by have:=w.o;omega) (by simpa [aA] using b) (by simp)).trans (oo _ _ _ _ (by omega))
   exact⟨N,y,h,b1⟩
def Ww{w:ay}{l:E Γ}{L:E (E ah)}(d:tG vT w l L):Flat 6 L:=by
 have a:∀c∈L,∃f,vT w f c:=λc a=>by
  obtain⟨j,e,rfl⟩:=mj a;exact⟨_,d.2 j (by rw[<-d.1];exact e) e⟩
 refine⟨λc b=>?_,λu i=>?_⟩
 ·obtain⟨f,vp,ve,rfl,-⟩:=a c b
  rfl
 ·obtain⟨c,b,g⟩:=List.mem_flatten.1 i
  obtain⟨f,h⟩:=a c b;exact f_one h u g
def MQ{w:ay}{R:M}{d:ah}{t:TypeId}(b:w.heap[R]?=J (Y #[d] t (0,0)))(x:ah):w.setRow R #[x]=w.setCell ⟨R,0,I⟩ x:=by
 have e:(w.setRow R #[x]).heap=(w.setCell ⟨R,0,I⟩ x).heap:=by
  apply jQ;intro i
  by_cases a:i=R
  ·subst a;rw[og _ _ _ _ _ _ b,oO _ i 0 _ _ x b];rfl
  ·rw[oo _ _ _ _ a,pz _ _ _ _ a]
 have c:w.setRow R #[x]={w with heap:=(w.setRow R #[x]).heap}:=rfl;rw[c,e];rfl
def PC(d:E (E Γ))(h:E ah)(bf:ah)(W:ay)(b6:Rw W bf 1 (h.map λv=>[v]))(aa:h.length=d.length)(p:∀j(z:j<h.length)(o:j<d.length),rY W h[j] d[j])(ar:∀a∈d,IA a)(a9:∀a∈d,Mo.Dt a=aG)(b0:d.flatten.length<=100000)(bL:d.length<=1000)(b4:∀g∈d.flatten,FQ g)(b2:(d.flatten.map nE).sum<=1000000):
 aW aJ 8 #[bf] W λx w'=>(∃P,x=η (.tuple #[.agg #[P],O U 0])/\∀u,Λ W.heap.size w' u I->rY u P (d.flatten.foldl wN []))/\Z W.heap.size W w':=by
 obtain⟨g,bE,y,cap,rfl,a4,aC⟩:=Mw.qY b6 (oS _);obtain⟨m,ab⟩:=pL h.length;rw[ab] at a4 aa|-;have bs:=K ab;have an:=K aa;have bj:=K a4;have bo:=K aC;have bi:=K p;have ai:=K ar;have al:=K a9;have S:=K b0;have bu:=K b4;have bt:=K b2;have bM:m<=1000:=by omega
 have D:=pG W (Y #[G I 0 0] (24:M));have a5:=pM W (Y #[G I 0 0] (24:M));clear b6 ab a4 aC p ar a9 b0 b4 b2 aa
 go_enter Tryz.func8,Tryz.ntmps8
 go_wp2_with fail
 generalize W.alloc _=bz at D a5|-;generalize a1:W.heap.size=B at D|-;have R:=K a1;have bq:=K D;have bl:=K (show Z B W bz by rw[<-a1];exact a5);clear a1 D a5
 go_loopw [4,5] (λr x wr=>∃k:M,k<=m/\x=O U k/\Hid (zL (λu=>Z W.heap.size W u) (B+1) wr r (d.take k).flatten)/\Hid (wr.heap[B]?=J (Y #[G I 0 0] (24:M)))/\Hid (Z B W wr)) (λ_ x _=>m-(az x).toNat)
 case atStart=>exact⟨0,oM _,rfl,K aM,bq,bl⟩
 case round=>
  obtain⟨k,a9,rfl,N,a3,a7⟩:=hrel;obtain⟨bF,bG,bB⟩:=Δ N.o;subst bB;have i:Z W.heap.size W wr:=(by rw[R.o];exact a7.o);obtain⟨ad,ac⟩:=pL ((d.take k).flatten.length);have T:=K ac
  have bN:ad<=100000:=by
   have z:(d.take k).flatten.length<=d.flatten.length:=by have o:(d.take k).flatten++(d.drop k).flatten=d.flatten:=(by rw[<-ni,l_]);rw[<-o,o_];omega
   have:=S.o;omega
  rw[ac] at N|-;clear ac;have X:=K N.o;have ak:=K a7.o;have ao:=K a3.o;have l:=K (show B+1<=wr.heap.size from π a3.o);clear N a7 a3
  by_cases b1:k<m
  ·obtain rfl:=bj.o (by omega)
   have aZ:k<h.length:=(by rw[bs.o];exact b1);have F:k<d.length:=(by rw[<-an.o];exact b1);obtain⟨bS,ba,bb⟩:=bo.o k (by rw[oS];exact aZ) 0 (by omega);rw[oG] at ba;cases ba;have af:wr.cell? ⟨g,bE+k,I⟩=J h[k]:=(by have:=pI bb i;simpa using this);have aw:=bi.o k aZ F;have t:=uh wr h[k] d[k] (aw.under i) (ai.o _ (pq F));have ap:=K (show(d.take (k+1)).flatten=(d.take k).flatten++d[k] by rw[aP F,ni];simp);obtain⟨L,A,C,a2⟩:=aw;obtain⟨_,_,va,bH,b8,_,_⟩:=Mw.qY C A;generalize h[k]=v at af t C b8;subst b8;have b3:=al.o _ (pq F);have bP:(k:V)<(m:V):=(by omega);have bO:(0:V)<=(k:V):=by omega
   go_wp2_with fail
   rw[b3,show OC aG=0 from rfl] at t;refine t.mono ?_;rintro e ae⟨rfl,f⟩
   have aD:(d.take k).flatten.length+d[k].length<=100000:=by
    have z:(d.take (k+1)).flatten.length<=d.flatten.length:=by have o:(d.take (k+1)).flatten++(d.drop (k+1)).flatten=d.flatten:=(by rw[<-ni,l_]);rw[<-o,o_];omega
    rw[ap.o,o_] at z;have:=S.o;omega
   have au:tG vT W d[k] L:=⟨A,a2⟩;have b9:=i.trans (f.mono i.size);have bx:=K (C.under b9);have w:=K (X.o.below f);have Q:=K (ak.o.trans (f.mono (iO l.o)));have bv:=K (pW f ao.o);have bn:=K (pF l.o f.size);have bk:=K au;have bp:=K aD;have am:=K A;have br:=K a2;have y5:=pI af f;clear t f b9 au aD af A C a2 bb i b3
   go_wp2_with(refine rz (n:=ad) ae rfl (.tmp 19) (.tmp 24) rfl Rb T.o rfl w.o (.slice va d[k].length bH) d[k].length d[k] L rfl bx.o am.o rfl (λu _=>⟨am.o,λj a b bD=>(br.o j a b).under bD⟩) (Ww bk.o) bn.o (by have z:=bp.o;have o:=T.o;omega) (by decide) ?_)
   intro bQ bR aq a6 bA;have bh:=K aq;have bm:=K (Q.o.trans (a6.mono (nu _)));have bw:=K ((a6.block B (lW _)).trans bv.o);clear aq a6 bA y5
   go_wp2_with fail
   go_roundw
   case rel=>exact⟨k+1,by omega,by go_num,by rw[ap.o];exact bh,bw,bm⟩
   case measure=>simp[az];omega
  ·have bK:decide ((k:V)<(m:V))=Ξ:=o9 (by omega)
   have b7:d.take k=d:=oP (by rw[<-an.o];omega);rw[b7] at X T;obtain⟨L,aB⟩:=X.o.ax;obtain⟨bc,bd,be⟩:=aB.here i
   have a8:∀g∈d.flatten,QZ g/\aR g=aG:=λg s=>by
    obtain⟨a,p,aF⟩:=List.mem_flatten.1 s;exact⟨(ai.o a p).each g aF,Mo.vI _ _ _ (al.o a p) g aF⟩
   have ag:=US d.flatten (G bF ad bG) wr ⟨L,bd,bc,be⟩ S.o (λg s=>(a8 g s).1) (λg s=>(a8 g s).2) bu.o bt.o;clear aB bc bd be a8 b7 i
   go_wp2_with fail
   refine ag.mono ?_;rintro e ae⟨⟨P,rfl,a0⟩,f⟩
   obtain⟨bI,bJ,rfl⟩:∃y c,P=G y (d.flatten.foldl wN []).length c:=by obtain⟨_,_,y,c,e,_⟩:=qF (a0 ae λ_ _ _ _=>rfl);exact⟨y,c,e⟩
   have b5:=pW f ao.o;have w:=K b5;have bg:=K a0;have Q:=K (ak.o.trans (f.mono (iO l.o)));clear ag a0 f b5
   go_wp2_with(refine oN rfl 24 _ _ rfl _ _ rfl rfl 24 _ w.o (by kernel_rfl) rfl (by simp[ν]) ?_)
   go_wp2_with fail
   refine ow (qE rfl _ _ B _ _ _ _ rfl (og _ _ _ _ _ _ w.o) av rfl (by kernel_rfl)) rfl ?_;refine⟨⟨_,rfl,?_⟩,by rw[R.o];exact pS Q.o (oZ _) _⟩;intro u bC;exact bg.o u λq a b _=>(bC q (by have:=R.o;have:=l.o;omega) (by simpa [aA] using b) (by simp)).trans (oo _ _ _ _ (by have:=l.o;omega))
end Nr
end Go.Proofs.YthbhmjdcfocphaaGreatDoor
