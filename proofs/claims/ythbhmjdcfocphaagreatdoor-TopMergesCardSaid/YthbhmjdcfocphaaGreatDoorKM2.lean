/- A part of this proof. -/
import Derived.Test.YthbhmjdcfocphaaGreatDoorKM1
import Derived.Lib.QuietBelow
set_option linter.all false
set_option maxHeartbeats 16000000
set_option maxRecDepth 100000
namespace Go.Proofs.YthbhmjdcfocphaaGreatDoor
open Go.Value renaming string→I, slice→X, pointer→ε, int→M
open Go.Obj renaming cells→ζ
open Go.Ending renaming returned→η
open Go.IntKind renaming i64→N
open Go.Lib renaming hid→K, Utf8Tabs→aL
open Go renaming below_regrown→V, cell_regrown→U, wp_region_quiet_below→υ, wpQuiet_nil→Ω, redrawn→aj, Calls→az, World→aG, Value→aR
open Bool renaming false→H, true→J, and_true→aT
open Mo renaming okF→O, s_→ς, zv→ah, rS→ay, u6→aH, uu→aI, Az→aJ, tM→aK, Fd→aN, uv→aS, IB→aU
open _root_ renaming Int→G, ByteArray→Θ, Nat→L, List→aM, absurd→aO
open Go.Proofs.Tryz renaming prog→Λ, ntmps17→aV, func17→aW
open Go.Sort renaming grow→Ξ
open Go.Proofs renaming intOf→ο
open Go.RowKit renaming Below→av
open And renaming intro→aA
open Go.Calls renaming regrown_of→aE
open List renaming all_eq_false→aP, all_append→aQ
namespace Mw
open RowKit Rw
def ZR(p:Θ):Bool:=Mo.IV p&&ς p
def X6{l:aM Θ}{k:L}(c:k<l.length)(a:(l.take k).all ZR=J)(b:ZR l[k]=J):(l.take (k+1)).all ZR=J:=by rw[mM,oW c,aQ,a];simpa using b
def all_bad{l:aM Θ}{k:L}(b:k<l.length)(a:ZR l[k]=H):l.all ZR=H:=by rw[aP];exact⟨_,pq b,by rw[a];decide⟩
section
variable {l:aM Mo.En}{k:L}
def Uu(a:k<l.length)(b:ah l[k]=H):aH ah ay (·.id) l=H:=
 aS _ _ _ a (by unfold aI;rw[oW a];simp only[b,iU])
def Uv(a:k<l.length)(d:0<k)(c:k-1<l.length)(b:¬ay l[k-1] l[k]<0):aH ah ay (·.id) l=H:=
 aS _ _ _ a (by unfold aI;rw[oW a];simp only[oU (by omega:¬k=0),oW c,o9 b,jy,iU])
def Uw(a:k<l.length){j:L}(d:j<k)(b:(l[j].id.toList==l[k].id.toList)=J):aH ah ay (·.id) l=H:=
 aS _ _ _ a (by
  unfold aI;rw[oW a]
  have:((l.take k).any λc=>(c.id.toList==l[k].id.toList))=J:=by rw[iJ];exact⟨l[j],by rw[mP];exact⟨j,by omega,rfl⟩,b⟩
  simp only[this,gY,jy])
def Ux(i:k<l.length)(m:aJ ah ay (·.id) l k=J)(d:ah l[k]=J)(e:∀(a:0<k)(n:k-1<l.length),ay l[k-1] l[k]<0)(f:∀j(h:j<k),(l[j].id.toList==l[k].id.toList)=H):aJ ah ay (·.id) l (k+1)=J:=by
 show(aJ ah ay (·.id) l k&&aI ah ay (·.id) l k)=J
 rw[m,jr];unfold aI;rw[oW i]
 have g:((l.take k).any λc=>(c.id.toList==l[k].id.toList))=H:=by
  rw[kj];intro c b;rw[mP] at b;obtain⟨j,h,rfl⟩:=b;rw[f j (by omega)]
  decide
 simp only[d,g,jr,iz,aT]
 by_cases a:k=0
 ·simp[a]
 ·simp only[oU a,oW (by omega:k-1<l.length)]
  exact nK (e (by omega) (by omega))
end
def below_drewN(w:aG)(n:L):av w.heap.size w (w.drewN n):=⟨rfl,rfl,rfl,oZ _,λ_ _=>rfl⟩
def NU(l:aM Mo.En)(x:Θ){j:L}(c:∀(i:L)(b:i<j)(a:i<l.length),(l[i].id.toList==x.toList)=H)(f:j<l.length)(d:(l[j].id.toList==x.toList)=H):
 ∀(i:L)(b:i<j+1)(a:i<l.length),(l[i].id.toList==x.toList)=H:=by
 intro i b a
 by_cases e:i=j
 ·subst e;exact d
 ·exact c i (by omega) a
def Lh{P:Program}{f:FuncId}{args:Array aR}{v:aR}{n:L}{W w:aG}(b:∀u,az P f args u λe w'=>e=η v/\av u.heap.size u w')(_:av n W w):
 ∀d a,az P f args (Ξ (aj w d) a) λe c=>e=η v/\∃p:Regrown,c=Ξ (aj w p.d) p.os:=λd a=>aE (b _)
def okF_is(f:aN):O f=(decide (f.path.length<=64)&&f.path.all ZR&& !f.id.toList.isEmpty&&aU f.upd&&ς f.id&&ς f.title&&ς f.link&&aH ah ay (·.id) f.pU):=rfl
def Qg(f:aN)(vp ve:aR)(W:aG)(bm:Rw W vp 1 (f.path.map p_))(bg:Rw W ve 5 (f.pU.map pO))(b:QZ f):
 az Λ 17 #[.agg (pX f vp ve).toArray] W λx w'=>x=η (M N (OC (O f)))/\av W.heap.size W w':=by
 have g:=K (okF_is f);obtain⟨h,i,t,l,u,pU⟩:=f;obtain⟨bz,bA,bB,c9,bC,ca,bD,-⟩:=b;simp only at bz bA bB c9 bC ca bD bm bg g;obtain⟨cQ,cR,bp,bq,rfl,bn,bX⟩:=qp bm;obtain⟨cG,cH,b7,b8,rfl,bh,bU⟩:=qO bg;obtain⟨s,ap⟩:=pL h.length;obtain⟨v,ao⟩:=pL pU.length;rw[ap] at c9 bn g;rw[ao] at ca bh;obtain⟨x0,x1,x2,x3,x4,x5⟩:=uS (w:=W) (x0:=X bp s bq) (x1:=I i) (x2:=I t) (x3:=I l) (x4:=M N u) (x5:=X b7 v b8) (t:=51);have aB:=K (pM W (ζ #[X bp s bq,I i,I t,I l,M N u,X b7 v b8] 51));obtain⟨cf,a1⟩:=pL (ς i);obtain⟨cg,bb⟩:=pL (ς t);obtain⟨ch,Q⟩:=pL (ς l);obtain⟨ci,bQ⟩:=pL i.toList.isEmpty;obtain⟨cj,bc⟩:=pL (aU u);obtain⟨bH,bf⟩:=pL (h.all ZR);obtain⟨bG,be⟩:=pL (aH ah ay (·.id) pU);rw[a1,bb,Q,bQ,bc,bf,be] at g;have aq:=K (λu=>Bg i u bz);have ar:=K (λu=>Bg t u bA);have au:=K (λu=>Bg l u bB);have aw:=K (λw=>F4 u w);rw[a1] at aq;rw[bb] at ar;rw[Q] at au;rw[bc] at aw;have a0:=K (aA ap (aA bn (aA bX bC)));have C:=K (aA ao (aA bh (aA bU bD)));have ak:=K bf;have a7:=K be
 show az Λ 17 #[.agg #[X bp h.length bq,I i,I t,I l,M N u,X b7 pU.length b8]] W _
 rw[ap,ao];clear a1 bb Q bc bf be ap ao bn bX bh bU bz bA bB bC bD bm bg
 by_cases cL:64<s
 ·have co:(64:G)<(s:G):=by omega
  have c:Hid (O ⟨h,i,t,l,u,pU⟩=H):=g.o.trans (by rw[o9 (by omega:¬s<=64)];simp)
  go_enter aW,aV
  go_wp2_with fail
  go_ret;exact⟨by rw[c.o];rfl,aB.o⟩
 have co:¬(64:G)<(s:G):=by omega
 rw[nK (by omega:s<=64)] at g
 go_enter aW,aV
 go_wp2_with fail
 refine(aq.o _).mono ?_;rintro e cS⟨rfl,b⟩;have aC:=pR aB b;replace x0:=pI x0 b;replace x1:=pI x1 b;replace x2:=pI x2 b;replace x3:=pI x3 b;replace x4:=pI x4 b;replace x5:=pI x5 b;clear b
 cases cf with
 |false=>
  have c:Hid (O ⟨h,i,t,l,u,pU⟩=H):=g.o.trans (by simp)
  go_wp2_with fail
  go_ret
  exact⟨by rw[c.o];rfl,aC.o⟩
 |true=>
  go_wp2_with fail
  refine(ar.o _).mono ?_;rintro e cT⟨rfl,b⟩;have aD:=pR aC b;replace x0:=pI x0 b;replace x1:=pI x1 b;replace x2:=pI x2 b;replace x3:=pI x3 b;replace x4:=pI x4 b;replace x5:=pI x5 b;clear b
  cases cg with
  |false=>
   have c:Hid (O ⟨h,i,t,l,u,pU⟩=H):=g.o.trans (by simp)
   go_wp2_with fail
   go_ret
   exact⟨by rw[c.o];rfl,aD.o⟩
  |true=>
   go_wp2_with fail
   refine(au.o _).mono ?_;rintro e cU⟨rfl,b⟩;have ag:=pR aD b;replace x0:=pI x0 b;replace x1:=pI x1 b;replace x2:=pI x2 b;replace x3:=pI x3 b;replace x4:=pI x4 b;replace x5:=pI x5 b;clear b
   cases ch with
   |false=>
    have c:Hid (O ⟨h,i,t,l,u,pU⟩=H):=g.o.trans (by simp)
    go_wp2_with fail
    go_ret
    exact⟨by rw[c.o];rfl,ag.o⟩
   |true=>
    cases ci with
    |true=>
     have c:Hid (O ⟨h,i,t,l,u,pU⟩=H):=g.o.trans (by simp)
     go_wp2_with fail
     go_ret
     exact⟨by rw[c.o];rfl,ag.o⟩
    |false=>
     go_wp2_with fail
     refine(aw.o _).mono ?_;rintro e c5⟨rfl,rfl⟩
     cases cj with
     |false=>
      have c:Hid (O ⟨h,i,t,l,u,pU⟩=H):=g.o.trans (by simp)
      go_wp2_with fail
      go_ret
      exact⟨by rw[c.o];rfl,ag.o⟩
     |true=>
      replace g:Hid (O ⟨h,i,t,l,u,pU⟩=(bH&&bG)):=g.o.trans (by simp);clear aq ar au aw bQ x1 x2 x3 x4 aB aC aD
      go_wp2_with fail
      go_loopw [3] (λx wr=>∃k:L,k<=s/\x=M N k/\Hid ((h.take k).all ZR=J)/\Hid (av c5.heap.size c5 wr)) (λx _=>s-(ο x).toNat)
      case atStart=>exact⟨0,oM _,rfl,rfl,pH _ _⟩
      case round=>
       obtain⟨k,cM,rfl,D,a2⟩:=hrel;replace x0:=pI x0 a2.o;have bF:=K (pI x5 a2.o);have a6:=K (pK ag.o a2.o);clear x5
       by_cases cu:k<s
       ·obtain rfl:=a0.o.2.1 (by omega)
        have z:k<h.length:=(by rw[a0.o.1];exact cu);have A:=pI (a0.o.2.2.1 k z) a6.o;have bo:=a0.o.2.2.2 _ (pq z);have b0:=K (X6 z D.o);have ai:=K (all_bad z);generalize h[k]=p at A bo b0 ai;have cw:(k:G)<(s:G):=(by omega);obtain⟨bJ,cr⟩:=pL p.toList.isEmpty;obtain⟨bK,bd⟩:=pL (ς p);have bW:ZR p=(!bJ&&bK):=(by unfold ZR Mo.IV;rw[cr,bd]);rw[bW] at b0 ai;have bE:=K (λu=>Bg p u bo);rw[bd] at bE;clear bW bd bo
        cases bJ with
        |true=>
         have c:Hid (O ⟨h,i,t,l,u,pU⟩=H):=g.o.trans (by rw[<-ak.o,ai.o (by simp)];simp)
         go_wp2_with fail
         go_ret
         exact⟨by rw[c.o];rfl,a6.o⟩
        |false=>
         go_wp2_with fail
         refine(bE.o _).mono ?_;rintro e cV⟨rfl,am⟩;replace x0:=pI x0 am;have cc:=pR a2 am;have cd:=pR a6 am;clear am a2 D
         cases bK with
         |false=>
          have c:Hid (O ⟨h,i,t,l,u,pU⟩=H):=g.o.trans (by rw[<-ak.o,ai.o (by simp)];simp)
          go_wp2_with fail
          go_ret
          exact⟨by rw[c.o];rfl,cd.o⟩
         |true=>
          go_wp2_with fail
          go_roundw
          case rel=>exact⟨k+1,by omega,by go_num,b0.o (by simp),cc.o⟩
          case measure=>simp[ο];omega
       ·have cI:decide ((k:G)<(s:G))=H:=o9 (by omega)
        have bY:bH=J:=by rw[<-ak.o];have a1:=D.o;rw[oP (by rw[a0.o.1];omega)] at a1;exact a1
        rw[bY] at g;replace g:Hid (O ⟨h,i,t,l,u,pU⟩=bG):=g.o.trans (by simp);clear D bY a2 a0 ak
        go_wp2_with fail
        clear x0;generalize wr=c6 at bF a6|-
        go_loopw [4] (λx cD=>∃a:L,a<=v/\x=M N a/\Hid (aJ ah ay (·.id) pU a=J)/\Hid (av c6.heap.size c6 cD)) (λx _=>v-(ο x).toNat)
        case atStart=>exact⟨0,oM _,rfl,rfl,pH _ _⟩
        case round=>
         obtain⟨a,cN,rfl,D,an⟩:=hrel;have x5:=pI bF.o an.o;have m:=K (pK a6.o an.o)
         by_cases cv:a<v
         ·obtain rfl:=C.o.2.1 (by omega)
          have z:a<pU.length:=(by rw[C.o.1];exact cv);obtain⟨A,y1,y2,y3,y4⟩:=C.o.2.2.1 a z;replace A:=pI A m.o;replace y1:=pI y1 m.o;replace y2:=pI y2 m.o;replace y3:=pI y3 m.o;replace y4:=pI y4 m.o;have cw:(a:G)<(v:G):=(by omega);have cO:(0:G)<=(a:G):=(by omega);have b2:=K (Uu z);have bI:=K (Uv z);have b3:=K (λ(j:L) (bj:j<a)=>Uw z bj);have al:=K (Ux z D.o);have b1:=C.o.2.2.2 _ (pq z);generalize pU[a]=e at A y1 y2 y3 y4 b2 bI b3 al b1;obtain⟨ck,bR⟩:=pL (ah e);have a3:=K (λu=>Qf e u b1);rw[bR] at a3 b2 al;have cb:=K (λd u=>NS d e u);obtain⟨r,bO,bN,bM,bP⟩:=e;simp only at A y1 y2 y3 y4;clear bR D b1
          go_wp2_with fail
          have c4:=U x5;have bZ:=U A;have c0:=U y1;have c1:=U y2;have c2:=U y3;have c3:=U y4
          cases ck with
          |false=>
           rw[show OC H=22 from rfl] at a3;have P:=Lh a3.o m.o;refine υ (by kernel_rfl) (by kernel_rfl) ?_
           repeat(first|go_big_quiet_step (fail)|quiet_step (exact P _ _)|quiet_step (fail))
           refine Ω ?_;intro _ T;obtain⟨⟨o,q⟩,Y⟩:=T;subst Y;have c:Hid (O ⟨h,i,t,l,u,pU⟩=H):=g.o.trans (by rw[<-a7.o];exact b2.o rfl);have B:=pR m (V _ o q)
           go_wp2_with fail
           go_ret
           exact⟨by rw[c.o];rfl,B.o⟩
          |true=>
           rw[show OC J=0 from rfl] at a3;have P:=Lh a3.o m.o
           by_cases bl:a=0
           ·have aa:¬(0:G)<(a:G):=by omega
            have b9:¬0<a:=(by omega);have ba:decide ((0:G)<(a:G))=H:=o9 aa;have ce:=K bl;clear bl;refine υ (by kernel_rfl) (by kernel_rfl) ?_
            repeat(first|go_big_quiet_step (fail)|quiet_step (exact P _ _)|quiet_step (fail))
            refine Ω ?_;intro _ T;obtain⟨⟨o,q⟩,Y⟩:=T;subst Y;have F:=K (λQ=>al.o rfl (λcK=>aO ce.o (by omega)) Q);have B:=pR m (V _ o q);have a4:=pR an (V _ o q);have af:=pI x5 (V _ o q);have ae:=pI A (V _ o q);clear bZ c0 c1 c2 c3 c4 P;clear x5 A y1 y2 y3 y4 aa b9 ba
            go_wp2_with fail
            generalize Ξ (aj _ o) q=ad at B a4 af ae|-
            go_loopw [5] (λx bx=>∃j:L,j<=a/\x=M N j/\Hid (∀(i:L)(R:i<j)(ct:i<pU.length),(pU[i].id.toList==r.toList)=H)/\Hid (av ad.heap.size ad bx)) (λx _=>a-(ο x).toNat)
            case atStart=>exact⟨0,oM _,rfl,K (λi R _=>aO R (jc i)),K (pH _ _)⟩
            case round=>
             obtain⟨j,bj,rfl,ac,y⟩:=hrel;have cE:=pI af y.o;have cF:=pI ae y.o;have a5:=K (pK B.o y.o)
             by_cases bk:j<a
             ·have ab:j<pU.length:=by omega
              have bw:=pI (C.o.2.2.1 j ab).1 a5.o;have cA:(0:G)<=(j:G):=(by omega);have cB:(j:G)<(a:G):=(by omega);have cC:(j:G)<(v:G):=(by omega);have a8:=K (b3.o j bk);have a9:=K (λ(bi:(pU[j].id.toList==r.toList)=H)=>NU pU r ac.o ab bi);generalize pU[j].id=Z at bw a8 a9;have aF:=K (λn=>pK a5.o (below_drewN _ n));have aY:=K (λn=>pK y.o (below_drewN _ n));obtain S|S:(Z.toList==r.toList)=J\/(Z.toList==r.toList)=H:=by cases (Z.toList==r.toList)<;>simp
              ·have c:Hid (O ⟨h,i,t,l,u,pU⟩=H):=g.o.trans (by rw[<-a7.o];exact a8.o S)
               go_wp2_with fail
               go_quiet(fail)
               have E:=K (aF.o nq)
               go_wp2_with fail
               go_ret;exact⟨by rw[c.o];rfl,E.o⟩
              ·have aZ:=K (a9.o S)
               go_wp2_with fail
               go_quiet(fail)
               have E:=K (aY.o nq)
               go_wp2_with fail
               go_roundw
               case rel=>exact⟨j+1,by omega,by go_num,aZ,E⟩
               case measure=>simp[ο];omega
             ·have cq:decide ((j:G)<(a:G))=H:=o9 (by omega)
              have b5:=K (F.o (λi R=>ac.o i (by omega) (by omega)));have aX:=K (pK a4.o y.o)
              go_wp2_with fail
              go_roundw
              case rel=>exact⟨a+1,by omega,by go_num,b5,aX⟩
              case measure=>simp[ο];omega
           ·have bV:a-1<pU.length:=by omega
            obtain⟨y5,y6,y7,c7,c8⟩:=C.o.2.2.1 (a-1) bV;have br:=U (pI y5 m.o);have bs:=U (pI y6 m.o);have bt:=U (pI y7 m.o);have bu:=U (pI c7 m.o);have bv:=U (pI c8 m.o);clear y5 y6 y7 c7 c8;have F:=K (λ(cs:ay pU[a-1] ⟨r,bO,bN,bM,bP⟩<0) Q=>al.o rfl (λ_ _=>cs) Q);have b4:=K (bI.o (by omega) bV);have ax:=K (λu=>cb.o pU[a-1] u);generalize pU[a-1]=d at br bs bt bu bv F b4 ax;obtain⟨cm,dt,cn,cl,du⟩:=d;simp only at br bs bt bu bv;obtain⟨b6,bT⟩:=pL (ay ⟨cm,dt,cn,cl,du⟩ ⟨r,bO,bN,bM,bP⟩);rw[bT] at F b4 ax;clear bT;have aa:(0:G)<(a:G):=(by omega);have b9:0<a:=(by omega);have ba:decide ((0:G)<(a:G))=J:=nK aa;have cx:IntKind.i64.wrap ((a:G) -1)=((a-1:L):G):=(by rw[IntWalk.i64_in _ (by omega)];omega);have cy:((a-1:L):G)<(v:G):=(by omega);have cz:(0:G)<=((a-1:L):G):=(by omega);generalize a-1=cP at br bs bt bu bv cx cy cz;have bL:=Lh ax.o m.o;clear bl
            by_cases bS:0<=b6
            ·have cp:decide (0<=b6)=J:=nK bS
             refine υ (by kernel_rfl) (by kernel_rfl) ?_
             repeat(first|go_big_quiet_step (fail)|quiet_step (exact P _ _)|quiet_step (exact bL _ _)|quiet_step (fail))
             refine Ω ?_;intro _ T;obtain⟨⟨o,q⟩,Y⟩:=T;subst Y;have c:Hid (O ⟨h,i,t,l,u,pU⟩=H):=g.o.trans (by rw[<-a7.o];exact b4.o (by omega));have B:=pR m (V _ o q)
             go_wp2_with fail
             go_ret;exact⟨by rw[c.o];rfl,B.o⟩
            ·have cp:decide (0<=b6)=H:=o9 bS
             replace F:=K (F.o (by omega));refine υ (by kernel_rfl) (by kernel_rfl) ?_
             repeat(first|go_big_quiet_step (fail)|quiet_step (exact P _ _)|quiet_step (exact bL _ _)|quiet_step (fail))
             refine Ω ?_;intro _ T;obtain⟨⟨o,q⟩,Y⟩:=T;subst Y;have B:=pR m (V _ o q);have a4:=pR an (V _ o q);have af:=pI x5 (V _ o q);have ae:=pI A (V _ o q);clear bZ c0 c1 c2 c3 c4 P;clear x5 A y1 y2 y3 y4 aa b9 ba
             go_wp2_with fail
             generalize Ξ (aj _ o) q=ad at B a4 af ae|-
             go_loopw [5] (λx bx=>∃j:L,j<=a/\x=M N j/\Hid (∀(i:L)(R:i<j)(ct:i<pU.length),(pU[i].id.toList==r.toList)=H)/\Hid (av ad.heap.size ad bx)) (λx _=>a-(ο x).toNat)
             case atStart=>exact⟨0,oM _,rfl,K (λi R _=>aO R (jc i)),K (pH _ _)⟩
             case round=>
              obtain⟨j,bj,rfl,ac,y⟩:=hrel;have cE:=pI af y.o;have cF:=pI ae y.o;have a5:=K (pK B.o y.o)
              by_cases bk:j<a
              ·have ab:j<pU.length:=by omega
               have bw:=pI (C.o.2.2.1 j ab).1 a5.o;have cA:(0:G)<=(j:G):=(by omega);have cB:(j:G)<(a:G):=(by omega);have cC:(j:G)<(v:G):=(by omega);have a8:=K (b3.o j bk);have a9:=K (λ(bi:(pU[j].id.toList==r.toList)=H)=>NU pU r ac.o ab bi);generalize pU[j].id=Z at bw a8 a9;have aF:=K (λn=>pK a5.o (below_drewN _ n));have aY:=K (λn=>pK y.o (below_drewN _ n));obtain S|S:(Z.toList==r.toList)=J\/(Z.toList==r.toList)=H:=by cases (Z.toList==r.toList)<;>simp
               ·have c:Hid (O ⟨h,i,t,l,u,pU⟩=H):=g.o.trans (by rw[<-a7.o];exact a8.o S)
                go_wp2_with fail
                go_quiet(fail)
                have E:=K (aF.o nq)
                go_wp2_with fail
                go_ret;exact⟨by rw[c.o];rfl,E.o⟩
               ·have aZ:=K (a9.o S)
                go_wp2_with fail
                go_quiet(fail)
                have E:=K (aY.o nq)
                go_wp2_with fail
                go_roundw
                case rel=>exact⟨j+1,by omega,by go_num,aZ,E⟩
                case measure=>simp[ο];omega
              ·have cq:decide ((j:G)<(a:G))=H:=o9 (by omega)
               have b5:=K (F.o (λi R=>ac.o i (by omega) (by omega)));have aX:=K (pK a4.o y.o)
               go_wp2_with fail
               go_roundw
               case rel=>exact⟨a+1,by omega,by go_num,b5,aX⟩
               case measure=>simp[ο];omega
         ·have cJ:decide ((a:G)<(v:G))=H:=o9 (by omega)
          have c:Hid (O ⟨h,i,t,l,u,pU⟩=J):=g.o.trans (by rw[<-a7.o];unfold aH;rw[C.o.1,show v=a by omega];exact D.o)
          go_wp2_with fail
          go_ret;exact⟨by rw[c.o];rfl,m.o⟩
section
variable {α:Type}{sW:α->Bool}{cmp:α->α->G}{id:α->Θ}{l:aM α}{k:L}
def Qh(a:k<l.length)(b:sW l[k]=H):aH sW cmp id l=H:=
 aS _ _ _ a (by unfold aI;rw[oW a];simp only[b,iU])
def Qi(a:k<l.length)(d:0<k)(c:k-1<l.length)(b:¬cmp l[k-1] l[k]<0):aH sW cmp id l=H:=
 aS _ _ _ a (by unfold aI;rw[oW a];simp only[oU (by omega:¬k=0),oW c,o9 b,jy,iU])
def Qj(a:k<l.length){j:L}(d:j<k)(b:((id l[j]).toList==(id l[k]).toList)=J):aH sW cmp id l=H:=
 aS _ _ _ a (by
  unfold aI;rw[oW a]
  have:((l.take k).any λc=>((id c).toList==(id l[k]).toList))=J:=by rw[iJ];exact⟨l[j],by rw[mP];exact⟨j,by omega,rfl⟩,b⟩
  simp only[this,gY,jy])
def Qk(i:k<l.length)(m:aJ sW cmp id l k=J)(d:sW l[k]=J)(e:∀(a:0<k)(n:k-1<l.length),cmp l[k-1] l[k]<0)(f:∀j(h:j<k),((id l[j]).toList==(id l[k]).toList)=H):aJ sW cmp id l (k+1)=J:=by
 show(aJ sW cmp id l k&&aI sW cmp id l k)=J
 rw[m,jr];unfold aI;rw[oW i]
 have g:((l.take k).any λc=>((id c).toList==(id l[k]).toList))=H:=by
  rw[kj];intro c b;rw[mP] at b;obtain⟨j,h,rfl⟩:=b;rw[f j (by omega)]
  decide
 simp only[d,g,jr,iz,aT]
 by_cases a:k=0
 ·simp[a]
 ·simp only[oU a,oW (by omega:k-1<l.length)]
  exact nK (e (by omega) (by omega))
end
def JT(l:aM aN)(x:Θ){j:L}(c:∀(i:L)(b:i<j)(a:i<l.length),(l[i].id.toList==x.toList)=H)(f:j<l.length)(d:(l[j].id.toList==x.toList)=H):
 ∀(i:L)(b:i<j+1)(a:i<l.length),(l[i].id.toList==x.toList)=H:=by
 intro i b a
 by_cases e:i=j
 ·subst e;exact d
 ·exact c i (by omega) a
def Sa{W w:aG}{a:aM aN}{g b:L}(d:∀j(c:j<a.length),∃vp ve,Rw W vp 1 (a[j].path.map p_)/\Rw W ve 5 (a[j].pU.map pO)/\W.cell? ⟨g,b+j*6,none⟩=some vp/\W.cell? ⟨g,b+j*6+1,none⟩=some (.string a[j].id)/\W.cell? ⟨g,b+j*6+2,none⟩=some (.string a[j].title)/\W.cell? ⟨g,b+j*6+3,none⟩=some (.string a[j].link)/\W.cell? ⟨g,b+j*6+4,none⟩=some (M N a[j].upd)/\W.cell? ⟨g,b+j*6+5,none⟩=some ve)
 {j:L} (c:j<a.length) (f:av W.heap.size W w):w.cell? ⟨g,b+j*6+1,none⟩=some (.string a[j].id):=by
 obtain⟨_,_,_,_,_,e,_⟩:=d j c;exact pI e f
def X_{f:aN}{vp ve:aR}{v:Bool}{w:aG}(g:Rw w vp 1 (f.path.map p_))(c:Rw w ve 5 (f.pU.map pO))(b:QZ f)(h:O f=v):
 ∀d a,az Λ 17 #[.agg (pX f vp ve).toArray] (Ξ (aj w d) a) λe i=>e=η (M N (OC v))/\∃p:Regrown,i=Ξ (aj w p.d) p.os:=λd a=>by
 subst h;exact aE (Qg f vp ve _ (g.under (V w d a)) (c.under (V w d a)) b)
def Ya{f g:aN}{vp ve i h:aR}{c:G}{w:aG}(q:Rw w vp 1 (f.path.map p_))(r:Rw w i 1 (g.path.map p_))(m:∃a n c,ve=X a n c)(o:∃a n c,h=X a n c)(s:f.path.length<=8796093022208)(t:g.path.length<=8796093022208)(j:aK f g=c):
 ∀d b,az Λ 18 #[.agg (pX f vp ve).toArray,.agg (pX g i h).toArray] (Ξ (aj w d) b) λe u=>e=η (M N c)/\∃p:Regrown,u=Ξ (aj w p.d) p.os:=λd b=>by
 subst j;exact aE (NT f g vp ve i h _ (q.under (V w d b)) (r.under (V w d b)) m o s t)
def uh(W:aG)(v:aR)(a:aM aN)(bx:rY W v a)(b4:IA a):
 az Λ 6 #[.agg #[v]] W λe w'=>e=η (M N (OC (Mo.Dt a)))/\av W.heap.size W w':=by
 obtain⟨g,cp,ab,cap,rfl,b3,bD⟩:=qF bx;obtain⟨m,ai⟩:=pL a.length;rw[ai] at b3|-;have cl:m<=8796093022208:=by rw[<-ai];exact b4.len
 have bl:=K ai;have bO:=K b3;have a9:=K bD;have bi:=K b4;obtain⟨E,b2⟩:=pL (Mo.Dt a);rw[b2];have S:=K (show aH O aK (·.id) a=E from b2);have bj:=K (pM W (ζ #[X ab m cap] 24));have x0:(W.alloc (ζ #[X ab m cap] 24)).cell? ⟨W.heap.size,0,none⟩=some (X ab m cap):=by unfold World.cell?;simp only[pG];rfl
 clear bx b3 bD b4 ai b2
 go_enter Tryz.func6,Tryz.ntmps6
 go_wp2_with fail
 generalize c0:W.alloc (ζ #[X ab m cap] 24)=bN at bj x0|-;clear c0
 go_loopw [3] (λx cc=>∃b:L,b<=m/\x=M N b/\Hid (aJ O aK (·.id) a b=J)/\Hid (av bN.heap.size bN cc)) (λx _=>m-(ο x).toNat)
 case atStart=>exact⟨0,oM _,rfl,rfl,pH _ _⟩
 case round=>
  obtain⟨b,ck,rfl,bf,af⟩:=hrel;have x5:=pI x0 af.o;have c:=K (pK bj.o af.o)
  by_cases bZ:b<m
  ·obtain rfl:=bO.o (by omega)
   have P:b<a.length:=(by rw[bl.o];exact bZ);obtain⟨vp,ve,be,b7,w,y1,y2,y3,y4,y5⟩:=a9.o b P;obtain⟨-,-,bE,bF,rfl,-,-⟩:=qp be;obtain⟨-,-,aX,aY,rfl,-,-⟩:=qO b7;replace w:=pI w c.o;replace y1:=pI y1 c.o;replace y2:=pI y2 c.o;replace y3:=pI y3 c.o;replace y4:=pI y4 c.o;replace y5:=pI y5 c.o;have cn:(b:G)<(m:G):=(by omega);have cm:(0:G)<=(b:G):=(by omega);have ax:=K (Qh (sW:=O) (cmp:=aK) (id:=(·.id)) P);have bo:=K (Qi (sW:=O) (cmp:=aK) (id:=(·.id)) P);have aB:=K (λ(j:L) (bb:j<b)=>Qj (sW:=O) (cmp:=aK) (id:=(·.id)) P bb);have aa:=K (Qk P bf.o);have aw:=K (bi.o.each _ (pq P));have au:=K (be.under c.o);have bk:=K (b7.under c.o);clear be b7;generalize a[b]=f at w y1 y2 y3 y4 y5 ax bo aB aa aw au bk;obtain⟨bS,b5⟩:=pL (O f);have s:=X_ au.o bk.o aw.o b5;rw[b5] at ax aa;obtain⟨a0,h,ad,ac,ae,F⟩:=f;simp only at w y1 y2 y3 y4 y5;generalize b9:a0.length=ch at w;generalize b8:F.length=cg at y5;change∀d c9,az _ _ #[.agg #[X bE a0.length bF,I h,I ad,I ac,M N ae,X aX F.length aY]] _ _ at s;rw[b9,b8] at s;have bQ:=K b9;have bP:=K b8;clear b5 bf b9 b8
   go_wp2_with fail
   have bL:=U x5;have bG:=U w;have bH:=U y1;have bI:=U y2;have bJ:=U y3;have bK:=U y4;have bM:=U y5
   cases bS with
   |false=>
    rw[show OC H=22 from rfl] at s;refine υ (by kernel_rfl) (by kernel_rfl) ?_
    repeat(first|go_big_quiet_step (fail)|quiet_step (exact s _ _)|quiet_step (fail))
    refine Ω ?_;intro _ B;obtain⟨⟨o,p⟩,C⟩:=B;subst C;have u:Hid (E=H):=K (by rw[<-S.o];exact ax.o rfl);have t:=pR c (V _ o p)
    go_wp2_with fail
    go_ret
    exact⟨by rw[u.o];rfl,t.o⟩
   |true=>
    rw[show OC J=0 from rfl] at s
    by_cases bd:b=0
    ·have a1:¬(0:G)<(b:G):=by omega
     have aZ:¬0<b:=(by omega);have b0:decide ((0:G)<(b:G))=H:=o9 a1;have bR:=K bd;clear bd;refine υ (by kernel_rfl) (by kernel_rfl) ?_
     repeat(first|go_big_quiet_step (fail)|quiet_step (exact s _ _)|quiet_step (fail))
     refine Ω ?_;intro _ B;obtain⟨⟨o,p⟩,C⟩:=B;subst C;have z:=K (λb1=>aa.o rfl (λcj=>aO bR.o (by omega)) b1);have t:=pR c (V _ o p);have Q:=pR af (V _ o p);have a8:=pI x5 (V _ o p);have a7:=pI y1 (V _ o p);clear bG bH bI bJ bK bL bM s;clear x5 w y1 y2 y3 y4 y5 a1 aZ b0
     go_wp2_with fail
     generalize Ξ (aj _ o) p=a6 at t Q a8 a7|-
     go_loopw [4] (λx bh=>∃j:L,j<=b/\x=M N j/\Hid (∀(i:L)(A:i<j)(bY:i<a.length),(a[i].id.toList==h.toList)=H)/\Hid (av a6.heap.size a6 bh)) (λx _=>b-(ο x).toNat)
     case atStart=>exact⟨0,oM _,rfl,K (λi A _=>aO A (jc i)),K (pH _ _)⟩
     case round=>
      obtain⟨j,bb,rfl,a3,q⟩:=hrel;have cd:=pI a8 q.o;have ce:=pI a7 q.o;have R:=K (pK t.o q.o)
      by_cases bc:j<b
      ·have a2:j<a.length:=by omega
       have bg:=Sa a9.o a2 R.o;have c6:(0:G)<=(j:G):=(by omega);have c7:(j:G)<(b:G):=(by omega);have c8:(j:G)<(m:G):=(by omega);have T:=K (aB.o j bc);have Y:=K (λ(ba:(a[j].id.toList==h.toList)=H)=>JT a h a3.o a2 ba);generalize a[j].id=D at bg T Y;have ao:=K (λn=>pK R.o (below_drewN _ n));have aq:=K (λn=>pK q.o (below_drewN _ n));obtain r|r:(D.toList==h.toList)=J\/(D.toList==h.toList)=H:=by cases (D.toList==h.toList)<;>simp
       ·have u:Hid (E=H):=K (by rw[<-S.o];exact T.o r)
        go_wp2_with fail
        go_quiet(fail)
        have y:=K (ao.o nq)
        go_wp2_with fail
        go_ret;exact⟨by rw[u.o];rfl,y.o⟩
       ·have ar:=K (Y.o r)
        go_wp2_with fail
        go_quiet(fail)
        have y:=K (aq.o nq)
        go_wp2_with fail
        go_roundw
        case rel=>exact⟨j+1,by omega,by go_num,ar,y⟩
        case measure=>simp[ο];omega
      ·have bW:decide ((j:G)<(b:G))=H:=o9 (by omega)
       have aD:=K (z.o (λi A=>a3.o i (by omega) (by omega)));have ap:=K (pK Q.o q.o)
       go_wp2_with fail
       go_roundw
       case rel=>exact⟨b+1,by omega,by go_num,aD,ap⟩
       case measure=>simp[ο];omega
    ·have ag:b-1<a.length:=by omega
     obtain⟨cr,cq,r,bC,bp,c1,c2,bq,br,bs⟩:=a9.o (b-1) ag;obtain⟨-,-,ca,cb,rfl,-,-⟩:=qp r;obtain⟨-,-,bv,bw,rfl,-,-⟩:=qO bC;have a4:=U (pI bp c.o);have ak:=U (pI c1 c.o);have al:=U (pI c2 c.o);have am:=U (pI bq c.o);have an:=U (pI br c.o);have a5:=U (pI bs c.o);clear bp c1 c2 bq br bs;have z:=K (λ(bX:aK a[b-1] ⟨a0,h,ad,ac,ae,F⟩<0) b1=>aa.o rfl (λ_ _=>bX) b1);have aC:=K (bo.o (by omega) ag);have bm:=K (r.under c.o);have bn:=K (bi.o.each _ (pq ag)).yc;clear r bC;generalize a[b-1]=d at a4 ak al am an a5 z aC bm bn;obtain⟨aF,b6⟩:=pL (aK d ⟨a0,h,ad,ac,ae,F⟩);have Z:=Ya bm.o au.o ⟨_,_,_,rfl⟩ ⟨aX,F.length,aY,rfl⟩ bn.o aw.o.yc b6 (ve:=X bv d.pU.length bw);obtain⟨bu,bT,dt,bU,du,bt⟩:=d;simp only at a4 ak al am an a5;rw[b6] at z aC;generalize bB:bu.length=dn at a4;generalize bA:bt.length=cf at a5;change∀d c9,az _ _ #[.agg #[.slice ca bu.length cb,.string bT,.string dt,.string bU,.int .i64 du,.slice bv bt.length bw],.agg #[.slice bE a0.length bF,.string h,.string ad,.string ac,.int .i64 ae,.slice aX F.length aY]] _ _ at Z;rw[bB,bA,bQ.o,bP.o] at Z;clear b6 bB bA;have a1:(0:G)<(b:G):=(by omega);have aZ:0<b:=(by omega);have b0:decide ((0:G)<(b:G))=J:=nK a1;have c3:IntKind.i64.wrap ((b:G) -1)=((b-1:L):G):=(by rw[IntWalk.i64_in _ (by omega)];omega);have c4:((b-1:L):G)<(m:G):=(by omega);have c5:(0:G)<=((b-1:L):G):=(by omega);clear ag;generalize b-1=co at a4 ak al am an a5 c3 c4 c5;clear bd
     by_cases bz:0<=aF
     ·have bV:decide (0<=aF)=J:=nK bz
      refine υ (by kernel_rfl) (by kernel_rfl) ?_
      repeat(first|go_big_quiet_step (fail)|quiet_step (exact s _ _)|quiet_step (exact Z _ _)|quiet_step (fail))
      refine Ω ?_;intro _ B;obtain⟨⟨o,p⟩,C⟩:=B;subst C;have u:Hid (E=H):=K (by rw[<-S.o];exact aC.o (by omega));have t:=pR c (V _ o p)
      go_wp2_with fail
      go_ret;exact⟨by rw[u.o];rfl,t.o⟩
     ·have bV:decide (0<=aF)=H:=o9 bz
      replace z:=K (z.o (by omega));refine υ (by kernel_rfl) (by kernel_rfl) ?_
      repeat(first|go_big_quiet_step (fail)|quiet_step (exact s _ _)|quiet_step (exact Z _ _)|quiet_step (fail))
      refine Ω ?_;intro _ B;obtain⟨⟨o,p⟩,C⟩:=B;subst C;have t:=pR c (V _ o p);have Q:=pR af (V _ o p);have a8:=pI x5 (V _ o p);have a7:=pI y1 (V _ o p);clear bG bH bI bJ bK bL bM a4 ak al am an a5 s Z;clear x5 w y1 y2 y3 y4 y5 a1 aZ b0
      go_wp2_with fail
      generalize Ξ (aj _ o) p=a6 at t Q a8 a7|-
      go_loopw [4] (λx bh=>∃j:L,j<=b/\x=M N j/\Hid (∀(i:L)(A:i<j)(bY:i<a.length),(a[i].id.toList==h.toList)=H)/\Hid (av a6.heap.size a6 bh)) (λx _=>b-(ο x).toNat)
      case atStart=>exact⟨0,oM _,rfl,K (λi A _=>aO A (jc i)),K (pH _ _)⟩
      case round=>
       obtain⟨j,bb,rfl,a3,q⟩:=hrel;have cd:=pI a8 q.o;have ce:=pI a7 q.o;have R:=K (pK t.o q.o)
       by_cases bc:j<b
       ·have a2:j<a.length:=by omega
        have bg:=Sa a9.o a2 R.o;have c6:(0:G)<=(j:G):=(by omega);have c7:(j:G)<(b:G):=(by omega);have c8:(j:G)<(m:G):=(by omega);have T:=K (aB.o j bc);have Y:=K (λ(ba:(a[j].id.toList==h.toList)=H)=>JT a h a3.o a2 ba);generalize a[j].id=D at bg T Y;have ao:=K (λn=>pK R.o (below_drewN _ n));have aq:=K (λn=>pK q.o (below_drewN _ n));obtain r|r:(D.toList==h.toList)=J\/(D.toList==h.toList)=H:=by cases (D.toList==h.toList)<;>simp
        ·have u:Hid (E=H):=K (by rw[<-S.o];exact T.o r)
         go_wp2_with fail
         go_quiet(fail)
         have y:=K (ao.o nq)
         go_wp2_with fail
         go_ret;exact⟨by rw[u.o];rfl,y.o⟩
        ·have ar:=K (Y.o r)
         go_wp2_with fail
         go_quiet(fail)
         have y:=K (aq.o nq)
         go_wp2_with fail
         go_roundw
         case rel=>exact⟨j+1,by omega,by go_num,ar,y⟩
         case measure=>simp[ο];omega
       ·have bW:decide ((j:G)<(b:G))=H:=o9 (by omega)
        have aD:=K (z.o (λi A=>a3.o i (by omega) (by omega)));have ap:=K (pK Q.o q.o)
        go_wp2_with fail
        go_roundw
        case rel=>exact⟨b+1,by omega,by go_num,aD,ap⟩
        case measure=>simp[ο];omega
  ·have ci:decide ((b:G)<(m:G))=H:=o9 (by omega)
   have u:Hid (E=J):=K (by rw[<-S.o];unfold aH;rw[bl.o,show m=b by omega];exact bf.o)
   go_wp2_with fail
   go_ret;exact⟨by rw[u.o];rfl,c.o⟩
def tD(s:Θ):Tx.xN s.data.toList=ς s:=rfl
def allk{P:Θ->Bool}{l:aM Θ}{k:L}(c:k<l.length)(a:(l.take k).all P=J)(b:P l[k]=J):(l.take (k+1)).all P=J:=by rw[mM,oW c,aQ,a];simpa using b
def allbad{P:Θ->Bool}{l:aM Θ}{k:L}(b:k<l.length)(a:P l[k]=H):l.all P=H:=by rw[aP];exact⟨_,pq b,by rw[a];decide⟩
def Ql(l:aM Θ)(v:aR)(W:aG)(w:Rw W v 1 (l.map p_))(z:aL 2 3 W)(S:l.length<=8796093022208)(C:∀p∈l,p.size<=140737488355327):
 az Λ 156 #[v] W λe w'=>e=η (.bool (l.all ς))/\av W.heap.size W w':=by
 obtain⟨g,a5,a0,cap,rfl,i,B⟩:=qp w;obtain⟨m,n⟩:=pL l.length;rw[n] at i S|-;have t:=K n;have D:=K i;have E:=K B;have R:=K z;have Q:=K C;clear w n i B z C
 go_enter Tryz.func156,Tryz.ntmps156
 go_wp2_with fail
 go_loopw [7] (λx wr=>∃k:L,k<=m/\x=M N k/\Hid ((l.take k).all ς=J)/\Hid (av W.heap.size W wr)) (λx _=>m-(ο x).toNat)
 case atStart=>exact⟨0,oM _,rfl,rfl,pH _ _⟩
 case round=>
  obtain⟨k,a2,rfl,o,a⟩:=hrel
  by_cases T:k<m
  ·obtain rfl:=D.o (by omega)
   have c:k<l.length:=(by rw[t.o];exact T);have Z:=pI (E.o k c) a.o;have q:=Q.o _ (pq c);have f:=K (allk c o.o);have d:=K (allbad (P:=ς) c);generalize l[k]=p at Z q f d;have a4:(k:G)<(m:G):=(by omega);have a3:(0:G)<=(k:G):=(by omega);obtain⟨b,j⟩:=pL (ς p);have r:=K (λu (Y:aL 2 3 u)=>Tx.Ub p u q Y);rw[tD,j] at r;rw[j] at f d;clear j o q
   go_wp2_with fail
   refine(r.o _ (Tx.qC R.o a.o)).mono ?_;rintro e a6⟨rfl,A⟩;have s:=pR a A;clear A a
   cases b with
   |false=>
    have h:=K (d.o rfl)
    go_wp2_with fail
    go_ret
    exact⟨by rw[h.o];rfl,s.o⟩
   |true=>
    have F:=K (f.o rfl)
    go_wp2_with fail
    go_roundw
    case rel=>exact⟨k+1,by omega,by go_num,F,s⟩
    case measure=>simp[ο];omega
  ·have a1:decide ((k:G)<(m:G))=H:=o9 (by omega)
   have h:Hid (l.all ς=J):=K (by have y:=o.o;rw[oP (by rw[t.o];omega)] at y;exact y)
   go_wp2_with fail
   go_ret;exact⟨by rw[h.o];rfl,a.o⟩
def sL(w:aG)(l:aM Θ)(t:TypeId)(cap:L):Rw (w.alloc (ζ (l.map Value.string).toArray t)) (X (some ⟨w.heap.size,0,none⟩) l.length cap) 1 (l.map p_):=by
 refine⟨w.heap.size,0,_,cap,by simp,λ_=>rfl,λj a k c=>?_⟩;obtain rfl:k=0:=by omega
 have b:j<l.length:=by simpa using a
 refine⟨.string l[j],by simp[p_],?_⟩;unfold World.cell?;simp only[pG];simp[b]
def JV(t:G)(w:aG)(a:aU t=J):
 az Λ 158 #[M N t] w λe w'=>e=η (.bool J)/\w'=w:=by
 unfold aU at a;simp only[oz] at a;obtain⟨b,c⟩:=a
 go_enter Tryz.func158,Tryz.ntmps158
 go_wp2_with fail
 go_ret;exact⟨rfl,rfl⟩
def C9(w:aG):
 az Λ 99 #[.bool J] w λe w'=>e=η (M N 0)/\w'=w:=by
 go_enter Tryz.func99,Tryz.ntmps99
 go_wp2_with fail
 go_ret;exact⟨rfl,rfl⟩
def Uy(e:Mo.En)(W:aG)(j:aL 2 3 W)(m:Zs e)(o:ah e=J):
 az Λ 160 #[.agg (pO e).toArray] W λx w'=>x=η (M N 0)/\av W.heap.size W w':=by
 obtain⟨i,t,l,c,u⟩:=e;have s:=K j;have f:=K o;have r:=K m;clear j o m;obtain⟨x0,x1,x2,x3,x4⟩:=vh (w:=W) (x0:=I i) (x1:=I t) (x2:=I l) (x3:=I c) (x4:=M N u) (t:=53)
 have v:(i.toList.isEmpty)=H:=by
  have:=f.o;unfold ah Mo.IV at this
  revert this
  cases i.toList.isEmpty<;>simp
 show az Λ 160 #[.agg #[I i,I t,I l,I c,M N u]] W _
 go_enter Tryz.func160,Tryz.ntmps160
 go_wp2_with fail
 refine(JV u _ (by
  have:=f.o;unfold ah at this
  revert this
  cases aU u<;>simp)).mono ?_
 rintro e y⟨rfl,rfl⟩
 go_wp2_with fail
 have g:=K (pM W (ζ #[I i,I t,I l,I c,M N u] 53));have d:=K (g.o.alloc g.o.size (ζ #[I i,I t,I l,I c] 9))
 have h:[i,t,l,c].all ς=J:=by
  have:=f.o;unfold ah at this
  revert this
  simp only[List.all_cons,List.all_nil];cases ς i<;>cases ς t<;>cases ς l<;>cases ς c<;>simp
 have b:=Ql [i,t,l,c] _ _ (sL (W.alloc (ζ #[I i,I t,I l,I c,M N u] 53)) [i,t,l,c] 9 4) (Tx.qC s.o d.o) (by simp) (by
  intro p a;have:=r.o;rcases List.mem_cons.1 a with rfl|a
  ·exact this.id
  rcases List.mem_cons.1 a with rfl|a
  ·exact this.title
  rcases List.mem_cons.1 a with rfl|a
  ·exact this.link
  rcases List.mem_cons.1 a with rfl|a
  ·exact this.content
  ·cases a)
 rw[h] at b;rw[show(W.alloc (ζ #[I i,I t,I l,I c,M N u] 53)).heap.size=W.heap.size+1 from nI _] at b;change az Λ 156 #[X (some ⟨W.heap.size+1,0,none⟩) 4 4] ((W.alloc (ζ #[I i,I t,I l,I c,M N u] 53)).alloc (ζ #[I i,I t,I l,I c] 9)) _ at b;refine b.mono ?_;rintro e z⟨rfl,n⟩;have q:=K (d.o.trans (n.mono d.o.size));clear n b h
 go_wp2_with fail
 refine(C9 _).mono ?_;rintro e A⟨rfl,rfl⟩
 go_wp2_with fail
 go_ret;exact⟨rfl,q.o⟩
end Mw
end Go.Proofs.YthbhmjdcfocphaaGreatDoor
