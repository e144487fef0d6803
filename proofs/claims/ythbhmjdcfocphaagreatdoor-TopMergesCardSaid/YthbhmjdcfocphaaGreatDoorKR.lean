/- A part of this proof. -/
import Derived.Test.YthbhmjdcfocphaaGreatDoorKO
import Derived.Test.YthbhmjdcfocphaaGreatDoorKG
set_option linter.all false
set_option maxHeartbeats 16000000
set_option maxRecDepth 100000
namespace Go.Proofs.YthbhmjdcfocphaaGreatDoor
open Go.Value renaming string→G, slice→δ, pointer→ε, int→U
open Go.Obj renaming cells→ζ
open Go.Ending renaming returned→η
open Go.IntKind renaming i64→V
open Go.Lib renaming hid→K
open Option renaming some→H, none→J
open Go renaming World→N, Value→Z, cell_regrown→az, Calls→aC, TypeId→aI, bytes→aJ, below_regrown→aT
open Go.Proofs.Tryz renaming prog→π, underlying53→aK
open And renaming intro→χ
open _root_ renaming List→O, ByteArray→Θ, Nat→I, Int→Y
open Go.RowKit renaming Below→Λ
open Mo renaming En→Ξ, s_→av, Fd→ay, IB→aP, zv→aQ, rS→aR
open Bool renaming false→ς, true→E
open Mg renaming yO→ah, rQ→aA, acc→aH, rI→aL, yN→aM, yh→aN, NC→aS
open Go.Value renaming oneCell'→aj, pointer→aO
open Go.Proofs renaming intOf→aE
namespace Nr
open RowKit Rw Vf Mw Me Gr Rg Ke
def qE{P:Program}{a:Func}{p q:Tmp}{ty:aI}(b:a.results=#[.cell p ty,.tmp q])(tmps:Array Z)(w:N)(g:I)(t:aI)(cs:Array Z)(fr:I×I)(d:TypeDesc)
 (h:tmps.getD p undef=ε (H ⟨g,0,J⟩)) (e:w.heap[g]?=H (ζ cs t fr))
 (j:P.underlying ty=H d) (c:(match d with| .struct _| .array _ _=>E|_=>ς)=E) (f:(P.info? ty).map (·.size)=H cs.size):
 (results a tmps).run P w= .ok (.tuple #[.agg cs,tmps.getD q undef]) w:=by
 have i:tmps[p]?.getD undef=ε (H ⟨g,0,J⟩):=by simpa using h
 simp[results,b,i,asAddr,iq w g t ty cs fr d e j c f]
def Ro(s:Θ)(c:s.size<=140737488355327)(a:av s=E):∃n:I,∀w,aC π 73 #[G s] w λe w'=>e=η (.tuple #[U V n,U V 0])/\Λ w.heap.size w w':=by
 have b:(pY.sW s.data.toList).2=0:=by unfold av at a;simp only[oz,nP] at a;exact a.1
 exact⟨_,λw=>Tx.Ea s (pY.sW s.data.toList).1 0 w c (by rw[<-b])⟩
def yH(s:Θ)(c:s.size<=140737488355327)(a:av s=E)(w:N):aC π 74 #[G s] w λe w'=>e=η (G s)/\Λ w.heap.size w w':=by
 have b:pY.tC s.data.toList=s.data.toList:=by unfold av at a;simp only[oz,kG] at a;exact a.2
 have:=Tx.Cd s w (by omega);rw[b,sQ] at this;exact this
def N5(l:O Θ)(v:Z)(W:N)(f:Rw W v 1 (l.map p_))(B:l.length<=1000000)(q:∀p∈l,p.size<=140737488355327/\av p=E):
 aC π 77 #[v] W λe w'=>e=η (U V 0)/\Λ W.heap.size W w':=by
 obtain⟨g,T,L,cap,rfl,c,i⟩:=qp f;obtain⟨m,d⟩:=pL l.length;rw[d] at c B|-;have z:=K d;have t:=K c;have y:=K i;have A:=K q;clear f d c i q
 go_enter Tryz.func77,Tryz.ntmps77
 go_wp2_with fail
 go_loopw [3] (λx wr=>∃k:I,k<=m/\x=U V k/\Hid (Λ W.heap.size W wr)) (λx _=>m-(aE x).toNat)
 case atStart=>exact⟨0,oM _,rfl,pH _ _⟩
 case round=>
  obtain⟨k,Q,rfl,a⟩:=hrel
  by_cases C:k<m
  ·obtain rfl:=t.o (by omega)
   have j:k<l.length:=(by rw[z.o];exact C);have F:=pI (y.o k j) a.o;have b:=A.o _ (pq j);generalize l[k]=p at F b;obtain⟨n,o⟩:=Ro p b.1 b.2;have s:=K o;have S:(k:Y)<(m:Y):=(by omega);have R:(0:Y)<=(k:Y):=(by omega);clear b o
   go_wp2_with fail
   refine(s.o _).mono ?_;rintro e a0⟨rfl,h⟩;have u:=pR a h;clear h a
   go_wp2_with fail
   go_roundw
   case rel=>exact⟨k+1,by omega,by go_num,u⟩
   case measure=>simp[aE];omega
  ·have M:decide ((k:Y)<(m:Y))=ς:=o9 (by omega)
   go_wp2_with fail
   go_ret;exact⟨rfl,a.o⟩
def JZ{e:Ξ}(a:aQ e=E):av e.id=E/\av e.title=E/\av e.link=E/\av e.content=E/\Mo.IV e.id=E/\aP e.upd=E:=by unfold aQ at a;simp only[oz] at a;obtain⟨⟨⟨⟨⟨b,c⟩,d⟩,f⟩,g⟩,h⟩:=a;exact⟨d,f,g,h,b,c⟩
def Yx(e:Ξ)(W:N)(Q:Zs e)(ao:aQ e=E):
 aC π 78 #[.agg (pO e).toArray] W λx w'=>x=η (.tuple #[.agg (pO e).toArray,U V 0])/\Λ W.heap.size W w':=by
 obtain⟨z,A,B,C,a3,f⟩:=JZ ao;obtain⟨m,n,o,p,ae⟩:=Q;have T:=λu v (a:Rw u v 1 ([e.id,e.title,e.link,e.content].map p_))=>N5 [e.id,e.title,e.link,e.content] v u a (by simp) (by simp[m,n,o,p,z,A,B,C])
 obtain⟨i,t,l,c,u⟩:=e;simp only at z A B C a3 f m n o p ae T;have b0:i.toList.isEmpty=ς:=by simpa [Mo.IV] using a3
 have aq:=K (yH i m z);have ar:=K (yH t n A);have au:=K (yH l o B);have aw:=K (yH c p C);have ax:=K T
 have aY:decide (u< -62135596800)=ς:=by unfold aP at f;simp only[oz,nP] at f;exact o9 (by omega)
 have aZ:decide (253402300799<u)=ς:=by unfold aP at f;simp only[oz,nP] at f;exact o9 (by omega)
 clear T z A B C a3 f m n o p ae ao;obtain⟨h,q,R⟩:=sM W (ζ #[G i,G t,G l,G c,U V u] 53) (ζ #[G ⟨#[]⟩,G ⟨#[]⟩,G ⟨#[]⟩,G ⟨#[]⟩,U V 0] 53)
 show aC π 78 #[.agg #[G i,G t,G l,G c,U V u]] W _
 go_enter Tryz.func78,Tryz.ntmps78
 go_upto_region 1 with fail
 generalize(W.alloc _).alloc _=ad at h q R|-;generalize ai:W.heap.size=b at h q|-;have aB:=K ai;clear ai;have a9:=K h;have aa:=K q;have a5:=K R;obtain⟨x0,x1,x2,x3,x4⟩:=qv (pH _ _) h;clear h q R
 go_wp2_with fail
 have al:=pM ad (ζ #[G i,G t,G l,G c] (9:I));refine(ax.o _ _ (sL ad [i,t,l,c] (9:I) 4)).mono ?_;rintro e a4⟨rfl,ak⟩;have s:=pK al ak;have k:=K (a5.o.trans (s.mono a5.o.size));have L:=K (pW s a9.o);have M:=K (pW s aa.o);clear al ak s x0 x1 x2 x3 x4 a9 aa;have a6:=K (λu (aV:Λ a4.heap.size a4 u)=>qv aV L.o)
 go_wp2_with fail
 generalize aW:a4=aD at k L M a6|-;clear aW
 refine qQ 16 [[],[0],[1],[],[3],[2,4],[],[6],[5,7],[],[9],[8,10],[],[12],[2,5,8,11,13],[]]
  [H 20,H 21,H 22,H 23,H 24,H 25,H 26,H 27,H 28,H 29,H 30,H 31,H 32,H 33,H 34,H 5] (by kernel_rfl) (by kernel_rfl) (by kernel_rfl)
  [λ_ v _=>v=ε (H ⟨b,0,J⟩),λ_ v _=>v=G i,λ_ v _=>v=G i,
   λ_ v _=>v=ε (H ⟨b,1,J⟩),λ_ v _=>v=G t,λ_ v _=>v=G t,
   λ_ v _=>v=ε (H ⟨b,2,J⟩),λ_ v _=>v=G l,λ_ v _=>v=G l,
   λ_ v _=>v=ε (H ⟨b,3,J⟩),λ_ v _=>v=G c,λ_ v _=>v=G c,
   λ_ v _=>v=ε (H ⟨b,4,J⟩),λ_ v _=>v=U V u,
   λ_ v _=>v= .agg #[G i,G t,G l,G c,U V u],
   λ_ v w=>∃g,v=ε (H ⟨g,0,J⟩)/\w.heap[g]?=H (ζ #[G ⟨#[]⟩,G ⟨#[]⟩,G ⟨#[]⟩,G ⟨#[]⟩,U V 0] (53:I))/\aD.heap.size<=g] ?aX ?step ?fin
 case aX=>
  refine⟨?_,?_,?_,?_,?_,?_,?_,?_,?_,?_,?_,?_,?_,?_,?_,?_,trivial⟩
  all_goals intro d u w w' Q a
  all_goals first|exact a|(obtain⟨g,e,a,aF⟩:=a;exact⟨g,e,pW Q a,aF⟩)
 case step=>
  refine⟨?_,?_,?_,?_,?_,?_,?_,?_,?_,?_,?_,?_,?_,?_,?_,?_,trivial⟩
  all_goals
   intro x w j y;simp only[oI,oF,fr,qD,Fv,Fa,List.map,nU] at y|-;have b3:=a6.o w j;unfold gives
  case refine_3=>go_simp;exact(aq.o w).mono λe w' a=>by rw[a.1];exact⟨rfl,a.2⟩
  case refine_6=>go_simp;exact(ar.o w).mono λe w' a=>by rw[a.1];exact⟨rfl,a.2⟩
  case refine_9=>go_simp;exact(au.o w).mono λe w' a=>by rw[a.1];exact⟨rfl,a.2⟩
  case refine_12=>go_simp;exact(aw.o w).mono λe w' a=>by rw[a.1];exact⟨rfl,a.2⟩
  case refine_16=>go_simp;obtain⟨_,aU⟩:=Array.getElem?_eq_some_iff.1 (pG w (ζ #[G ⟨#[]⟩,G ⟨#[]⟩,G ⟨#[]⟩,G ⟨#[]⟩,U V 0] (53:I)));exact⟨⟨aU,j.size⟩,pM _ _⟩
  all_goals try(go_simp;exact pH _ _)
 case fin=>
  intro x w j y;simp only[show List.range 16=[0,1,2,3,4,5,6,7,8,9,10,11,12,13,14,15] from rfl,oI,oF,fr,qD,Fv,Fa,List.map,nU,nS,nO] at y|-;obtain⟨-,-,-,-,-,-,-,-,-,-,-,-,-,-,af,g,ag,am,an⟩:=y;rw[af,ag];have F:=K j;have a8:=K am;have ab:=K an;clear j af ag am an;go_simp;refine oN rfl 53 _ _ rfl _ _ rfl rfl 53 _ a8.o (by kernel_rfl) rfl (by simp[aj]) ?_;have aG:=Rw.lt_of_heap M.o;have a7:=K (show b+1<g by have:=ab.o;omega);have a0:=(oo w g b #[G i,G t,G l,G c,U V u] (by have:=a7.o;omega)).trans (pW F.o L.o);have a2:=(oo w g (b+1) #[G i,G t,G l,G c,U V u] (by have:=a7.o;omega)).trans (pW F.o M.o);have a1:=og w g _ #[G i,G t,G l,G c,U V u] _ _ a8.o;have S:=pS (k.o.trans (F.o.mono k.o.size)) (pF k.o.size ab.o) #[G i,G t,G l,G c,U V u];generalize w.setRow g #[G i,G t,G l,G c,U V u]=b1 at a0 a2 a1 S|-;have ac:=K a2;have ap:=K S;obtain⟨b2,y1,y2,y3,y4⟩:=qv (pH _ _) a0;obtain⟨b4,b5,b6,b7,b8⟩:=qv (pH _ _) a1;clear aG a0 a2 a1 S
  go_wp2_with(refine oN rfl 53 _ _ rfl _ _ rfl rfl 53 _ ac.o (by kernel_rfl) rfl (by simp[aj]) ?_)
  go_wp2_with fail
  refine ow (qE rfl _ _ (b+1) _ _ _ _ rfl (og _ _ _ _ _ _ ac.o) aK rfl (by kernel_rfl)) rfl ?_;exact⟨rfl,pS ap.o (by have:=aB.o;omega) _⟩
end Nr
namespace Np
open RowKit Rw Vf Mw Me Gr Ke Nr
def Qu{w:N}{b j:I}{v:Z}(a:w.cell? ⟨b,j,J⟩=H v):w.setCell ⟨b,j,J⟩ v=w:=by
 have e:(w.setCell ⟨b,j,J⟩ v).heap=w.heap:=by
  apply jQ;intro i
  by_cases c:i=b
  ·subst c
   unfold World.cell? at a
   revert a
   cases f:w.heap[i]? with
   |none=>intro a;cases a
   |some o=>
    cases o with
    |cells cs t fr=>
     simp only[jT,nH,lQ];intro a
     have e:cs.setIfInBounds j v=cs:=by
      apply jQ;intro k;rw[Array.getElem?_setIfInBounds]
      split
      ·rename_i e;subst e;rw[a];split
       ·rfl
       ·rename_i g;rw[lT (by omega)] at a;cases a
      ·rfl
     unfold World.setCell
     simp[gT,f,e]
    |_=>intro a;cases a
  ·exact pz _ _ _ _ c
 have d:w.setCell ⟨b,j,J⟩ v={w with heap:=(w.setCell ⟨b,j,J⟩ v).heap}:=rfl;rw[d,e]
def Rr(s:Θ)(d:s.size<=140737488355327)(a:av s=E):∃n:I,∀w,WT w->aC π 274 #[G s] w λe w'=>e=η (.tuple #[U V n,U V 0])/\Λ w.heap.size w w':=by
 have b:(pY.sW s.data.toList).2=0:=by unfold av at a;simp only[oz,nP] at a;exact a.1
 exact⟨_,λw c=>Tx.GK s (pY.sW s.data.toList).1 0 w d c.u8 (by rw[<-b])⟩
def pcol_ok(s:Θ)(c:s.size<=140737488355327)(a:av s=E)(w:N):aC π 275 #[G s] w λe w'=>e=η (G s)/\Λ w.heap.size w w':=by
 have b:pY.tC s.data.toList=s.data.toList:=by unfold av at a;simp only[oz,kG] at a;exact a.2
 have:=Tx.zX s w (by omega);rw[b,sQ] at this;exact this
abbrev Ar(p:(I×I)×Θ):O Z:=[ε (H ⟨p.1.1,p.1.2,J⟩)]
def At(w:N)(l:O ((I×I)×Θ)):Prop:=∀p∈l,w.cell? ⟨p.1.1,p.1.2,J⟩=H (G p.2)/\w.frozen? ⟨p.1.1,p.1.2,J⟩=ς
def DL{w w':N}{b j:I}{v:Z}(d:w.cell? ⟨b,j,J⟩=H v)(a:w.frozen? ⟨b,j,J⟩=ς)(c:Λ w.heap.size w w'):w'.frozen? ⟨b,j,J⟩=ς:=by unfold World.frozen? at a|-;simp only at a|-;rw[c.block b (Rw.lt_of_cell d)];exact a
def ptrs_at{w:N}{v:Z}{l:O ((I×I)×Θ)}(e:Rw w v 1 (l.map Ar)):∃g a b cap,v=δ b l.length cap/\(0<l.length->b=H ⟨g,a,J⟩)/\∀j(d:j<l.length),w.cell? ⟨g,a+j,J⟩=H (ε (H ⟨l[j].1.1,l[j].1.2,J⟩)):=by obtain⟨g,a,b,cap,f,h,i⟩:=Mw.qY e (oS _);refine⟨g,a,b,cap,f,h,λj d=>?_⟩;obtain⟨x,c,k⟩:=i j (by rw[oS];exact d) 0 (by omega);rw[oG] at c;rw[show a+j=a+j*1+0 by omega,k,<-c];rfl
def SE(w:N)(l:O ((I×I)×Θ))(t:aI)(cap:I):Rw (w.alloc (ζ (l.map λp=>aO (H ⟨p.1.1,p.1.2,J⟩)).toArray t)) (δ (H ⟨w.heap.size,0,J⟩) l.length cap) 1 (l.map Ar):=by
 refine⟨w.heap.size,0,_,cap,by simp,λ_=>rfl,λj a k c=>?_⟩;obtain rfl:k=0:=by omega
 have b:j<l.length:=by simpa using a
 refine⟨ε (H ⟨l[j].1.1,l[j].1.2,J⟩),by simp[Ar],?_⟩;unfold World.cell?;simp only[pG];simp[b]
def AZ(l:O ((I×I)×Θ))(v:Z)(W:N)(L:Rw W v 1 (l.map Ar))(Q:At W l)(a5:l.length<=1000000)(T:∀p∈l,p.2.size<=140737488355327/\av p.2=E)(M:WT W):
 aC π 239 #[v] W λe w'=>e=η (U V 0)/\Λ W.heap.size W w':=by
 obtain⟨g,af,ad,cap,rfl,t,R⟩:=ptrs_at L;obtain⟨m,y⟩:=pL l.length;rw[y] at t a5|-;have B:=K y;have z:=K t;have A:=K R;have C:=K T;have j:=K Q;have a2:=K M;clear L y t R T Q M
 go_enter Tryz.func239,Tryz.ntmps239
 go_wp2_with fail
 go_loopw [11] (λx wr=>∃k:I,k<=m/\x=U V k/\Hid (Λ W.heap.size W wr)) (λx _=>m-(aE x).toNat)
 case atStart=>exact⟨0,oM _,rfl,pH _ _⟩
 case round=>
  obtain⟨k,a4,rfl,h⟩:=hrel
  by_cases u:k<m
  ·obtain rfl:=z.o (by omega)
   have b:k<l.length:=(by rw[B.o];exact u);have i:=pI (A.o k b) h.o;have a:=C.o _ (pq b);have d:=pI (j.o _ (pq b)).1 h.o;generalize l[k]=p at i a d;obtain⟨⟨a8,a9⟩,ps⟩:=p;simp only at i a d;obtain⟨n,S⟩:=Rr ps a.1 a.2;have q:=K S;have a7:(k:Y)<(m:Y):=(by omega);have a6:(0:Y)<=(k:Y):=(by omega);clear a S
   go_wp2_with fail
   refine(q.o _ (a2.o.below h.o)).mono ?_;rintro e aa⟨rfl,c⟩;have s:=pR h c;clear c h
   go_wp2_with fail
   go_roundw
   case rel=>exact⟨k+1,by omega,by go_num,s⟩
   case measure=>simp[aE];omega
  ·have a3:decide ((k:Y)<(m:Y))=ς:=o9 (by omega)
   go_wp2_with fail
   go_loopw [28] (λx ab=>∃k:I,k<=m/\x=U V k/\Hid (Λ W.heap.size W ab)) (λx _=>m-(aE x).toNat)
   case atStart=>exact⟨0,oM _,rfl,h.o⟩
   case round=>
    obtain⟨k,a4,rfl,f⟩:=hrel
    by_cases u:k<m
    ·obtain rfl:=z.o (by omega)
     have b:k<l.length:=(by rw[B.o];exact u);have i:=pI (A.o k b) f.o;have a:=C.o _ (pq b);have d:=pI (j.o _ (pq b)).1 f.o;have o:=DL (j.o _ (pq b)).1 (j.o _ (pq b)).2 f.o;generalize l[k]=p at i a d o;obtain⟨⟨a8,a9⟩,ps⟩:=p;simp only at i a d o;have q:=K (pcol_ok ps a.1 a.2);have F:=K d;have a0:=K o;have a7:(k:Y)<(m:Y):=(by omega);have a6:(0:Y)<=(k:Y):=(by omega);clear a o
     go_wp2_with fail
     refine(q.o _).mono ?_;rintro e aa⟨rfl,c⟩;have ac:=pI F.o c;have ae:=DL F.o a0.o c;have a1:=K (Qu ac);have s:=pR f c;clear c f d i
     go_wp2_with fail
     go_roundw
     case rel=>exact⟨k+1,by omega,by go_num,by rw[a1.o];exact s⟩
     case measure=>simp[aE];omega
    ·have a3:decide ((k:Y)<(m:Y))=ς:=o9 (by omega)
     go_wp2_with fail
     go_ret;exact⟨rfl,f.o⟩
def Hv(t:Y)(w:N)(a:aP t=E):
 aC π 240 #[U V t] w λe w'=>e=η (.bool E)/\w'=w:=by
 unfold aP at a;simp only[oz] at a;obtain⟨b,c⟩:=a
 go_enter Tryz.func240,Tryz.ntmps240
 go_wp2_with fail
 go_ret;exact⟨rfl,rfl⟩
def UH(e:Ξ)(W:N)(ae:Zs e)(a3:aQ e=E)(a0:WT W):
 aC π 241 #[.agg (pO e).toArray] W λx w'=>x=η (.tuple #[.agg (pO e).toArray,U V 0])/\Λ W.heap.size W w':=by
 obtain⟨y,z,A,B,C,F⟩:=JZ a3;obtain⟨m,n,o,q,S⟩:=ae;obtain⟨i,t,l,c,u⟩:=e;simp only at y z A B C F m n o q S;have af:i.toList.isEmpty=ς:=by simpa [Mo.IV] using C
 obtain⟨f,g,s⟩:=sM W (ζ #[G i,G t,G l,G c,U V u] 53) (ζ #[G ⟨#[]⟩,G ⟨#[]⟩,G ⟨#[]⟩,G ⟨#[]⟩,U V 0] 53);have a6:=K (λ(u:N) (v:Z) (a:I) (ac:Rw u v 1 ([((a,0),i),((a,1),t),((a,2),l),((a,3),c)].map Ar)) ad=>AZ _ v u ac ad (by simp) (by simp[m,n,o,q,y,z,A,B]));have a8:=K (λw=>Hv u w F);have a9:=K a0;clear y z A B C F m n o q S a3 a0
 show aC π 241 #[.agg #[G i,G t,G l,G c,U V u]] W _
 go_enter Tryz.func241,Tryz.ntmps241
 go_upto_region 1 with fail
 generalize(W.alloc _).alloc _=R at f g s|-;generalize T:W.heap.size=a at f g|-;have a7:=K T;clear T;have k:=K f;have L:=K g;have d:=K s;clear f g s
 go_wp2_with fail
 have j:=pM R (ζ (([((a,0),i),((a,1),t),((a,2),l),((a,3),c)]:O ((I×I)×Θ)).map λp=>aO (H ⟨p.1.1,p.1.2,J⟩)).toArray (292:I));have Q:=K (d.o.trans (j.mono d.o.size));have b:=pW j k.o;refine(a6.o _ _ a (SE R [((a,0),i),((a,1),t),((a,2),l),((a,3),c)] (292:I) 4) (λp a4=>?_) (a9.o.below Q.o)).mono ?_
 ·obtain⟨aa,c1,c2,ab,-⟩:=qv (pH _ _) b
  simp only[ox,oy,nw] at a4;rcases a4 with rfl|rfl|rfl|rfl
  ·exact⟨aa,yY b 0⟩
  ·exact⟨c1,yY b 1⟩
  ·exact⟨c2,yY b 2⟩
  ·exact⟨ab,yY b 3⟩
 rintro e ag⟨rfl,a1⟩;have h:=pK j a1;have a5:=K (d.o.trans (h.mono d.o.size));have a2:=pW h k.o;have M:=K (pW h L.o);obtain⟨ak,al,am,an,ao⟩:=qv (pH _ _) a2;clear j a1 h b a2 Q d k L
 go_wp2_with(first|(refine(a8.o _).mono ?_;rintro e ai ⟨rfl,rfl⟩)|refine oN rfl 53 _ _ rfl _ _ rfl rfl 53 _ M.o (by kernel_rfl) rfl (by simp[aj]) ?_)
 go_wp2_with fail
 refine ow (qE rfl _ _ (a+1) _ _ _ _ rfl (og _ _ _ _ _ _ M.o) aK rfl (by kernel_rfl)) rfl ?_;exact⟨rfl,pS a5.o (by have:=a7.o;omega) _⟩
end Np
namespace Nr
open RowKit Rw Vf Mw Me Gr Rg Ke
def row_own{a:Type}{El:N->a->O Z->Prop}{sz S:I}{e:aI}{w:N}{v:Z}{l:O a}(b:Row El sz e S w v l){k:I}(c:v.ownBlock=H k):S<=k:=by obtain⟨L,-,d,-⟩:=b;exact(qq d c).1
def SG{a b:Ξ}(c:AD a)(d:AD b):AD (aA a b):=by
 unfold aA
 split
 ·exact d
 ·exact c
def Ly{e:Ξ}(d:AD e){l:O Ξ}(f:∀x∈l,AD x):AD (aH ah aA e l):=by
 have:∀(r:O Ξ)(x:Ξ),AD x->(∀a∈r,AD a)->AD (r.foldl (λe x=>aA x e) x):=by
  intro r
  induction r with
  |nil=>intro x b _;exact b
  |cons a r ih=>intro x b c;exact ih _ (SG (c a (oL ..)) b) λz h=>c z (oH _ h)
 exact this _ e d λa g=>f a (List.mem_filter.1 g).1
def N6(l:O Ξ)(e:Ξ)(v:Z)(W:N)(y:Rw W v 5 (l.map pO))(cq:l.length<=1000000)(a6:∀x∈l,AD x)(bY:AD e):
 aC π 79 #[v,.agg (pO e).toArray] W λx w'=>(∃cf,x=η cf/\xB W.heap.size w' cf (aN l e))/\Λ W.heap.size W w':=by
 obtain⟨g,cd,cP,cap,rfl,bz,bZ⟩:=qO y;obtain⟨m,bG⟩:=pL l.length;rw[bG] at bz cq|-;have bO:=K bG;have ci:=K bz;have cl:=K bZ;have br:=K a6;have bK:=K bY;have bX:=pM W (ζ (pO e).toArray (53:I));have bl:=K bX;have bp:=K (pG W (ζ (pO e).toArray (53:I)));clear y bG bz bZ a6 bY bX
 go_enter Tryz.func79,Tryz.ntmps79
 go_upto_region 1 with fail
 generalize bU:W.heap.size=B at bl bp|-;have a7:=K bU;clear bU;generalize W.alloc (ζ (pO e).toArray (53:I))=cN at bl bp|-
 go_wp2_with fail
 go_loopw [5,6] (λr x wr=>∃k:I,k<=m/\x=U V k/\Hid (xB (B+1) wr r (aS ah e (l.take k)))/\Hid (wr.heap[B]?=H (ζ (pO (aH ah aA e (l.take k))).toArray (53:I)))/\Hid (Λ B W wr)) (λ_ x _=>m-(aE x).toNat)
 case atStart=>exact⟨0,oM _,rfl,K FW,bp,bl⟩
 case round=>
  obtain⟨k,cX,rfl,C,a8,aF⟩:=hrel;obtain⟨cZ,d1,cs⟩:=Row.slice C.o;subst cs;have ad:(aS ah e (l.take k)).length<=k:=pF Mg.RQ (mZ _ _);have au:=K ad
  by_cases cr:k<m
  ·obtain rfl:=ci.o (by omega)
   have bg:k<l.length:=(by rw[bO.o];exact cr);have aG:Λ W.heap.size W wr:=(by rw[a7.o];exact aF.o);obtain⟨h,y1,y2,y3,y4⟩:=cl.o k bg;replace h:=pI h aG;replace y1:=pI y1 aG;replace y2:=pI y2 aG;replace y3:=pI y3 aG;replace y4:=pI y4 aG;have aB:=K (λ(y:ah l[k]=ah e)=>Mg.ND (sS:=aA) (e:=e) bg y);have aD:=K (λ(y:ah l[k]≠ah e)=>Mg.JN (sS:=aA) (e:=e) bg y);have bo:=K (br.o _ (pq bg));have b5:=K (Ly bK.o (l:=l.take k) λx bH=>br.o x (lY bH));have bF:=Mg.RP (key:=ah) (sS:=aA) Mg.kpE (e:=e) (l:=l.take k);generalize aH ah aA e (l.take k)=c at a8 aB aD b5 bF;generalize aS ah e (l.take k)=R at C aB aD au ad|-;generalize l[k]=f at h y1 y2 y3 y4 aB aD bo
   have bC:(f.id.toList==c.id.toList)=decide (f.id=e.id):=by
    rw[show c.id=e.id from bF]
    by_cases a5:f.id=e.id
    ·rw[a5];simp
    ·rw[o9 a5,oq]
     exactλbu=>a5 (Mg.vO bu)
   obtain⟨d,a9⟩:∃d,decide (f.id=e.id)=d:=⟨_,rfl⟩;rw[a9] at bC;have b4:=K a9;clear a9;obtain⟨p,s,q,o,t⟩:=f;obtain⟨M,S,Q,cc,a0⟩:=c;simp only at h y1 y2 y3 y4 bC;obtain⟨al,am,an,ao,ap⟩:=qv (pH _ _) a8.o;have cy:(k:Y)<(m:Y):=(by omega);have cx:(0:Y)<=(k:Y):=(by omega);clear bF ad
   go_wp2_with fail
   go_quiet(fail)
   have A:=below_drewN wr nq;have bi:=pW A a8.o;have L:=K (C.o.below A);have aU:=K bi;have ab:=K (aF.o.trans (A.mono (by have bd:=aF.o.size;have bT:=a7.o;omega)));replace h:=pI h A;replace y1:=pI y1 A;replace y2:=pI y2 A;replace y3:=pI y3 A;replace y4:=pI y4 A;clear al am an ao ap a8 C aF aG;generalize wr.drewN nq=ak at bi L aU ab h y1 y2 y3 y4|-;clear A;obtain⟨al,am,an,ao,ap⟩:=qv (pH _ _) bi;clear bi;clear bC
   cases d with
   |true=>
    have a5:=mX b4.o;obtain⟨ag,ai⟩:=aB.o a5;have bs:=K ag;have bb:=K ai;clear b4 aB aD a5 ag ai
    go_wp2_with fail
    have ba:=K (λu (i:Λ ak.heap.size ak u)=>χ (pI h i) (χ (pI y1 i) (χ (pI y2 i) (χ (pI y3 i) (χ (pI y4 i) (qv i aU.o))))));clear h y1 y2 y3 y4 al am an ao ap
    refine qQ 5 [[],[],[0,1],[2],[]] [H 24,H 25,H 26,H 27,H 28] (by kernel_rfl) (by kernel_rfl) (by kernel_rfl)
     [λ_ v _=>v=δ (H ⟨g,cd,J⟩) m cap,λ_ v _=>v=U V k,λ_ v _=>v=ε (H ⟨g,cd+k*5,J⟩),
      λ_ v _=>v= .agg #[G p,G s,G q,G o,U V t],λ_ v _=>v= .agg #[G M,G S,G Q,G cc,U V a0]] ?cz ?step ?fin
    case cz=>
     refine⟨?_,?_,?_,?_,?_,trivial⟩
     all_goals intro d u w w' cW y;exact y
    case step=>
     refine⟨?_,?_,?_,?_,?_,trivial⟩
     all_goals
      intro x w be a9;simp only[oI,oF,fr,qD,Fv,Fa,List.map,nU] at a9|-;obtain⟨h,y1,y2,y3,y4,al,am,an,ao,ap⟩:=ba.o w be;unfold gives
     all_goals(go_simp;exact pH _ _)
    case fin=>
     intro x w be a9;simp only[show List.range 5=[0,1,2,3,4] from rfl,oI,oF,fr,qD,Fv,Fa,List.map,nU,nS,nO] at a9|-;obtain⟨-,-,-,bx,b⟩:=a9;rw[bx,b];have bn:=K be;clear be bx b;go_simp
     go_wp2_with fail
     have bk:=XJ ⟨p,s,q,o,t⟩ ⟨M,S,Q,cc,a0⟩ bo.o b5.o w;generalize aA _ _=r at bb bk;obtain⟨cG,cI,cH,cF,cJ⟩:=r;change aC _ _ _ _ (λx w'=>x=η (.agg #[G cG,G cI,G cH,G cF,U V cJ])/\_) at bk;refine bk.mono ?_;rintro bv d3⟨rfl,bW⟩;have a:=bn.o.trans (bW.mono bn.o.size);have aq:=K (pW a aU.o);have cm:=K (L.o.below a);have cj:=K (ab.o.trans (a.mono (by have:=ab.o.size;have:=a7.o;omega)));clear bW a bn
     go_wp2_with(refine oN rfl 53 _ _ rfl _ _ rfl rfl 53 _ aq.o (by kernel_rfl) rfl (by simp[aj,pO]) ?_)
     go_wp2_with fail
     go_roundw
     case rel=>exact⟨k+1,by omega,by go_num,K (by rw[bs.o];exact De.r_ (λ_ _ _ _ y=>y) cm.o (λj ac _ _=>oo _ _ _ _ (by omega))),K (by rw[bb.o];exact og _ _ _ _ _ _ aq.o),K (pS cj.o (oZ _) _)⟩
     case measure=>simp[aE];omega
   |false=>
    have a5:=lI b4.o;obtain⟨ag,ai⟩:=aD.o a5;have bs:=K ag;have bb:=K ai;clear b4 aB aD a5 ag ai bo;have bN:=K (Rw.lt_of_heap aU.o);obtain⟨aa,ae⟩:=pL R.length;have b7:=K ae;rw[ae] at L au|-;clear ae
    go_wp2_with(refine qu (n:=aa) ak rfl (.tmp 30) (.tmp 35) rfl Wn b7.o rfl L.o (⟨p,s,q,o,t⟩:Ξ) (pO ⟨p,s,q,o,t⟩) rfl (λu _=>rfl) rfl (Bb _) (by have:=bN.o;omega) (by have:=au.o;omega) (by decide) ?_)
    intro b0 b1 b a F;have a1:=K b;have a2:=K (ab.o.trans (a.mono (nu _)));have aq:=K ((F B bN.o (λe=>by have:=row_own L.o e.symm;omega)).trans aU.o);clear b a F
    go_wp2_with fail
    go_roundw
    case rel=>exact⟨k+1,by omega,by go_num,K (by rw[bs.o];exact a1.o),K (by rw[bb.o];exact aq.o),a2⟩
    case measure=>simp[aE];omega
  ·have cU:decide ((k:Y)<(m:Y))=ς:=o9 (by omega)
   have aZ:l.take k=l:=oP (by rw[bO.o];omega);rw[aZ] at C a8 au ad;rw[aZ];have b5:=K (Ly bK.o (l:=l) λx bH=>br.o x bH);have b2:=K (Mg.RR (cmp:=aR) (key:=ah) (sS:=aA) (e:=e) (l:=l));change Hid (aN l e=_) at b2;clear aZ;generalize aH ah aA e l=c at a8 b5 b2;generalize aS ah e l=R at C au ad b2|-;obtain⟨cT,cY,cQ,cS,bu,bA,ca⟩:=qO (xB.rw C.o);cases bu;obtain⟨aa,ae⟩:=pL R.length;have b7:=K ae;rw[ae] at bA ad|-;have ch:=K bA;have ar:=K ca;have aq:=K a8.o;have ab:=K aF.o;have bq:=K (show aa<=1000000 by omega);clear ae C a8 aF bA ca ad au
   go_wp2_with fail
   obtain⟨T,bV⟩:=pL wr.heap.size;have a3:=K bV;clear bV;have ck:=K (λ(j:I) (ac:j<R.length) (u:N) (i:Λ T wr u)=>χ (pI (ar.o j ac).1 (by rw[a3.o];exact i)) (χ (pI (ar.o j ac).2.1 (by rw[a3.o];exact i)) (χ (pI (ar.o j ac).2.2.1 (by rw[a3.o];exact i)) (χ (pI (ar.o j ac).2.2.2.1 (by rw[a3.o];exact i)) (pI (ar.o j ac).2.2.2.2 (by rw[a3.o];exact i))))))
   go_loopw [7,8,9] (λr d x cg=>∃(j:I)(db:Bool)(af:O Ξ),j<=aa/\x=U V j/\d= .bool db/\Hid (xB T cg r af)/\Hid (Mg.Ins aR c (R.take j) db af)/\Hid (Λ T wr cg)) (λ_ _ x _=>aa-(aE x).toNat)
   case atStart=>exact⟨0,ς,[],oM _,rfl,rfl,K FW,K Mg.Ins.nil,K (by rw[<-a3.o];exact pH _ _)⟩
   case round=>
    obtain⟨j,db,af,ac,rfl,rfl,C,bD,A⟩:=hrel;obtain⟨d0,d2,ct⟩:=Row.slice C.o;subst ct;obtain⟨on,bh⟩:=pL af.length;have ax:=K bh;have aW:=K (show on<=1000001 by have bd:=bD.o.len;rw[bh] at bd;have bT:=mZ j R;have:=bq.o;split at bd<;>omega);have aV:=K bD.o;rw[bh] at C|-;clear bh bD;have a4:=A.o;rw[<-a3.o] at a4;have bj:=pW a4 aq.o;have bR:=K bj;have L:=K C.o;have bm:=K A.o;have b8:=K (show T<=wr.heap.size by have:=a4.size;have:=a3.o;omega);clear C A
    by_cases cb:j<aa
    ·obtain rfl:=ch.o (by omega)
     have bE:j<R.length:=(by rw[b7.o];exact cb);obtain⟨h,y1,y2,y3,y4⟩:=ar.o j bE;replace h:=pI h a4;replace y1:=pI y1 a4;replace y2:=pI y2 a4;replace y3:=pI y3 a4;replace y4:=pI y4 a4;have aw:=K cb;have b9:=K (Mg.qi bE);have bQ:=K (ck.o j bE);generalize R[j]=f at h y1 y2 y3 y4 b9 bQ;have bc:=λd z=>Calls.regrown_of (NS c f (Sort.grow (redrawn wr d) z))
     obtain⟨bt,bB⟩:=pL (aR c f);rw[bB] at bc;have bJ:=K bB;have cy:(j:Y)<(aa:Y):=(by omega);have cp:=bq.o;have cx:(0:Y)<=(j:Y):=(by omega);obtain⟨p,s,q,o,t⟩:=f;obtain⟨M,S,Q,cc,a0⟩:=c;simp only at h y1 y2 y3 y4;change∀d z,aC _ _ #[.agg #[G M,G S,G Q,G cc,U V a0],.agg #[G p,G s,G q,G o,U V t]] _ _ at bc;have a6:=λd z=>qv (aT wr d z) bj
     have cK:=λd z=>(a6 d z).1
     have ag:=λd z=>(a6 d z).2.1
     have ai:=λd z=>(a6 d z).2.2.1
     have cL:=λd z=>(a6 d z).2.2.2.1
     have cM:=λd z=>(a6 d z).2.2.2.2
     have cA:=az h;have cB:=az y1;have cC:=az y2;have cD:=az y3;have cE:=az y4;have ba:=K (λu (i:Λ wr.heap.size wr u)=>χ (pI h i) (χ (pI y1 i) (χ (pI y2 i) (χ (pI y3 i) (χ (pI y4 i) (qv i bR.o))))));clear a6 bj h y1 y2 y3 y4 a4 bB
     go_wp2_with fail
     have cw:(db=E)\/(db=ς/\decide (bt<0)=E)\/(db=ς/\decide (bt<0)=ς):=by
      cases db
      ·by_cases y:bt<0
       ·exact .inr (.inl ⟨rfl,nK y⟩)
       ·exact .inr (.inr ⟨rfl,o9 y⟩)
      ·exact .inl rfl
     rcases cw with rfl|⟨rfl,bw⟩|⟨rfl,bw⟩
     all_goals
      refine wp_region_quiet_below (by kernel_rfl) (by kernel_rfl) ?_
      repeat(first|go_big_quiet_step (fail)|quiet_step (fail))
      try(quiet_step (exact bc _ _);repeat(first|go_big_quiet_step (fail)|quiet_step (fail)))
      refine wpQuiet_nil ?_;intro _ cu;obtain⟨⟨bS,ce⟩,cv⟩:=cu;subst cv;clear cA cB cC cD cE cK ag ai cL cM bc;have aY:=aT wr bS ce;have bP:=K (ba.o _ aY);have b6:=K (L.o.below aY);have b3:=K (bm.o.trans (aY.mono b8.o));have aX:=K (pF b8.o aY.size);generalize Sort.grow (redrawn wr bS) ce=ak at bP b6 b3 aX|-;clear aY ba L bm b8 bR;obtain⟨h,y1,y2,y3,y4,al,am,an,ao,ap⟩:=bP.o
     ·skip
      go_wp2_with(refine qu (n:=on) ak rfl (.tmp 58) (.tmp 63) rfl Wn (by exact ax.o) rfl b6.o (⟨p,s,q,o,t⟩:Ξ) (pO ⟨p,s,q,o,t⟩) rfl (λu _=>rfl) rfl (Bb _) aX.o (by have:=aW.o;omega) (by decide) ?_)
      intro b0 b1 b a F;have a1:=K b;have a2:=K (b3.o.trans a);clear b a F
      go_wp2_with fail
      go_roundw
      case rel=>exact⟨j+1,E,af++[⟨p,s,q,o,t⟩],by have:=aw.o;omega,by go_num,rfl,a1,K (by rw[b9.o];exact aV.o.done),a2⟩
      case measure=>have:=aw.o;simp[aE];omega
     ·go_wp2_with(refine qu (n:=on) ak rfl (.tmp 54) (.tmp 56) rfl Wn (by exact ax.o) rfl b6.o (⟨M,S,Q,cc,a0⟩:Ξ) (pO ⟨M,S,Q,cc,a0⟩) rfl (λu _=>rfl) rfl (Bb _) aX.o (by have:=aW.o;omega) (by decide) ?_)
      intro b0 b1 b a F;obtain⟨cO,cR,bv⟩:=Row.slice b;rw[o_,ax.o] at bv;subst bv;have cn:=K b;have bM:=K (b3.o.trans a);have co:=K (pF aX.o a.size);clear b a F h y1 y2 y3 y4 al am an ao ap;obtain⟨h,y1,y2,y3,y4⟩:=bQ.o _ bM.o
      go_wp2_with(refine qu (n:=on+1) b1 rfl (.tmp 58) (.tmp 63) rfl Wn (by rw[o_,ax.o];rfl) rfl cn.o (⟨p,s,q,o,t⟩:Ξ) (pO ⟨p,s,q,o,t⟩) rfl (λu _=>rfl) rfl (Bb _) co.o (by have:=aW.o;omega) (by decide) ?_)
      intro b0 d4 b a F;have a1:=K b;have a2:=K (bM.o.trans a);clear b a F
      go_wp2_with fail
      go_roundw
      case rel=>exact⟨j+1,E,af++[⟨M,S,Q,cc,a0⟩,⟨p,s,q,o,t⟩],by have:=aw.o;omega,by go_num,rfl,a1,K (by rw[b9.o];have y:=aV.o.here (x:=⟨p,s,q,o,t⟩) (by rw[bJ.o];exact mX bw);rw[m_] at y;exact y),a2⟩
      case measure=>have:=aw.o;simp[aE];omega
     ·skip
      go_wp2_with(refine qu (n:=on) ak rfl (.tmp 58) (.tmp 63) rfl Wn (by exact ax.o) rfl b6.o (⟨p,s,q,o,t⟩:Ξ) (pO ⟨p,s,q,o,t⟩) rfl (λu _=>rfl) rfl (Bb _) aX.o (by have:=aW.o;omega) (by decide) ?_)
      intro b0 b1 b a F;have a1:=K b;have a2:=K (b3.o.trans a);clear b a F
      go_wp2_with fail
      go_roundw
      case rel=>exact⟨j+1,ς,af++[⟨p,s,q,o,t⟩],by have:=aw.o;omega,by go_num,rfl,a1,K (by rw[b9.o];exact aV.o.pass (by rw[bJ.o];exact lI bw)),a2⟩
      case measure=>have:=aw.o;simp[aE];omega
    ·have cV:decide ((j:Y)<(aa:Y))=ς:=o9 (by omega)
     have aZ:R.take j=R:=oP (by rw[b7.o];omega);rw[aZ] at aV;have bL:=K (b2.o.trans aV.o.fin);obtain⟨M,S,Q,cc,a0⟩:=c;obtain⟨al,am,an,ao,ap⟩:=qv (pH _ _) bj;have cp:=bq.o;have bf:B<=T:=(by have bd:=ab.o.size;have bT:=a3.o;have bx:=a7.o;omega);have bI:=K (ab.o.trans (bm.o.mono bf))
     cases db with
     |true=>
      go_wp2_with fail
      go_ret
      exact⟨⟨_,rfl,by rw[bL.o,a7.o];exact L.o.base bf⟩,by rw[a7.o];exact bI.o⟩
     |false=>
      go_wp2_with(refine qu (n:=on) _ rfl (.tmp 67) (.tmp 69) rfl Wn (by exact ax.o) rfl L.o (⟨M,S,Q,cc,a0⟩:Ξ) (pO ⟨M,S,Q,cc,a0⟩) rfl (λu _=>rfl) rfl (Bb _) b8.o (by have:=aW.o;omega) (by decide) ?_)
      intro b0 b1 b a F;have a1:=K b;have a2:=K (bI.o.trans (a.mono bf));clear b a F
      go_wp2_with fail
      go_ret;exact⟨⟨_,rfl,by rw[bL.o,a7.o];exact a1.o.base bf⟩,by rw[a7.o];exact a2.o⟩
structure FQ(f:ay):Prop where
 q:KH f
 e:∀x∈f.pU,AD x
def nE(f:ay):I:=f.pU.length
def YB{l:O Ξ}{e:Ξ}(a:∀x∈l,AD x)(c:AD e):∀x∈aN l e,AD x:=λx d=>by
 rcases Mg.vP.1 d with rfl|b
 ·exact Ly c a
 ·exact a x (List.mem_filter.1 b).1
def Hx:∀{es l:O Ξ},(∀x∈l,AD x)->(∀x∈es,AD x)->∀x∈es.foldl aN l,AD x
 |[],l,hl,_=>hl
 |e::es,l,hl,he=>Hx (es:=es) (l:=aN l e) (YB hl (he e (oL ..))) λx a=>he x (oH _ a)
def tX{a:Type}(l:O a):(l.map λ_=>1).sum=l.length:=by
 induction l with
 |nil=>rfl
 |cons x r ih=>simp only[ou,mu,oJ,ih];omega
def N7(es l:O Ξ):(es.foldl aN l).length<=l.length+es.length:=by have:=Mg.zA (cmp:=aR) (key:=ah) (sS:=aA) (λ_=>1) (λ_ _=>by omega) es l;rw[tX,tX,tX] at this;exact this
def Wu(a b:ay)(d:FQ a)(f:FQ b):FQ (aL a b):=by
 refine⟨?_,Hx d.e f.e⟩
 have c:KH (Mg.sx a b):=by
  unfold Mg.sx
  split
  ·exact f.q
  ·exact d.q
 exact⟨c.id,c.title,c.link,c.yc,c.path,c.upd,c.len⟩
def YC(a b:ay):nE (aL a b)<=nE a+nE b:=N7 b.pU a.pU
def Qx{l:O ay}{f:ay}(i:∀g∈l,FQ g)(h:FQ f):FQ (aH aM aL f l):=
 Mg.BJ (sS:=λe x=>aL x e) (P:=FQ) (λa b c d=>Wu b a d c) _ f h λk j=>i k (List.mem_filter.1 j).1
def ne_acc(l:O ay)(f:ay):nE (aH aM aL f l)<=nE f+(l.map nE).sum:=by have a:=Mg.Hy (sS:=aL) nE YC (Mg.of aM (aM f) l) f;have b:=Mg.Bu (key:=aM) nE (aM f) l;unfold aH;omega
def Gk{a:Type}(g:a->I){l:O a}{k:I}(e:k<l.length):((l.take k).map g).sum+g l[k]<=(l.map g).sum:=by
 have b:=Mg.qi e;have c:(l.take (k+1)++l.drop (k+1))=l:=l_ _ _;have d:(l.map g).sum=((l.take (k+1)).map g).sum+((l.drop (k+1)).map g).sum:=by rw[<-jV,<-nv,c]
 rw[d,b,nv,jV];simp only[ou,mU,mu,List.sum_nil];omega
def Md(X:N->Prop)(D:I)(w:N)(r:Option I)(P:N->Prop):Prop:=∀u,X u->Agree D w u r->P u
section
variable {X:N->Prop}{D:I}{w w':N}{r:Option I}{P:N->Prop}
def Md.here(a:Md X D w r P)(b:X w):P w:=a w b λ_ _ _ _=>rfl
def Md.below(a:Md X D w r P)(d:Λ w.heap.size w w'):Md X D w' r P:=λu b c=>a u b (Agree.below d c)
def Md.set(b:Md X D w r P)(h:w'.heap.size=w.heap.size)(f:∀k,D<=k->w'.heap[k]?=w.heap[k]?):Md X D w' r P:=λu c d=>b u c λk a g e=>(d k a (by omega) e).trans (f k a)
def Md.pushed{v a:Z}(d:Md X D w v.ownBlock P)(j:Kept w w' v.ownBlock)(m:w.heap.size<=w'.heap.size)(l:a.ownBlock=v.ownBlock\/a.ownBlock=H (w.heap.size+1)):Md X D w' a.ownBlock P:=λu f g=>d u f λk h i b=>by
 rw[g k h (by omega) ?_]
 ·exact j k i b
 ·rcases l with e|e
  ·rw[e];exact b
  ·rw[e];intro c;have:=nV c;omega
end
def Fx(X:N->Prop)(w:N)(f:ay)(c:O Z):Prop:=X w->vT w f c
abbrev zL(X:N->Prop)(S:I)(w:N)(v:Z)(l:O ay):Prop:=Row (Fx X) 6 51 S w v l
def AX(X:N->Prop)(D:I)(w:N)(v:Z)(l:O ay)(L:O (O Z)):Prop:=Md X D w J λu=>Rw u v 6 L/\tG vT u l L
def zL.ax{X:N->Prop}{S:I}{w:N}{v:Z}{l:O ay}(h:zL X S w v l):∃L,AX X S w v l L:=by
 obtain⟨L,f,i,m⟩:=h;refine⟨L,λu p g=>?_⟩;have e:=m u λa b c _=>g a b c (by simp)
 exact⟨Rw.uT (vJ i g) e.1 (λj d k o=>r8 f.1 j d k o) λj d=>f.1 _ (pq d),e.1,λj d n=>e.2 j d n p⟩
def Bt{w:N}{v:Z}{l:O ay}{L:O (O Z)}(A:Rw w v 6 L)(n:tG vT w l L):∃g a d cap,v=δ d l.length cap/\(0<l.length->d=H ⟨g,a,J⟩)/\∀j(p:j<l.length)(f:j<L.length),∃b h c1 c i c2,L[j]=pX l[j] (δ b h c1) (δ c i c2)/\Rw w (δ b h c1) 1 (l[j].path.map p_)/\Rw w (δ c i c2) 5 (l[j].pU.map pO)/\w.cell? ⟨g,a+j*6,J⟩=H (δ b h c1)/\w.cell? ⟨g,a+j*6+1,J⟩=H (.string l[j].id)/\w.cell? ⟨g,a+j*6+2,J⟩=H (.string l[j].title)/\w.cell? ⟨g,a+j*6+3,J⟩=H (.string l[j].link)/\w.cell? ⟨g,a+j*6+4,J⟩=H (U V l[j].upd)/\w.cell? ⟨g,a+j*6+5,J⟩=H (δ c i c2):=by
 obtain⟨g,a,d,cap,t,u,y⟩:=Mw.qY A n.1;refine⟨g,a,d,cap,t,u,λj p f=>?_⟩;obtain⟨vp,ve,e,s,o⟩:=n.2 j p f
 have key:∀k(q:k<6),w.cell? ⟨g,a+j*6+k,J⟩=(pX l[j] vp ve)[k]?:=λk q=>by
  obtain⟨x,m,z⟩:=y j f k q;rw[e] at m;rw[z,m]
 obtain⟨-,-,b,c1,rfl,-,-⟩:=qp s;obtain⟨-,-,c,c2,rfl,-,-⟩:=qO o;exact⟨b,_,c1,c,_,c2,e,s,o,key 0 (by omega),key 1 (by omega),key 2 (by omega),key 3 (by omega),key 4 (by omega),key 5 (by omega)⟩
def f_one{w:N}{f:ay}{c:O Z}(b:vT w f c):∀u∈c,u.oneCell'=E:=by
 obtain⟨vp,ve,rfl,e,d⟩:=b;intro u a;simp only[pX,ox,oy,nw] at a;rcases a with rfl|rfl|rfl|rfl|rfl|rfl
 ·exact Me.qY e
 ·rfl
 ·rfl
 ·rfl
 ·rfl
 ·exact Me.qY d
def O4{S:I}{w u:N}{v:Z}{l:O Θ}(a:CY S w v l)(b:Agree S w u J):Rw u v 1 (l.map p_):=CY.rw (De.r_ (λ_ _ _ _ a=>a) a b)
def YD{S:I}{w u:N}{v:Z}{l:O Ξ}(a:xB S w v l)(b:Agree S w u J):Rw u v 5 (l.map pO):=xB.rw (De.r_ (λ_ _ _ _ a=>a) a b)
def UJ{D S:I}{w u:N}{r:Option I}(a:Agree D w u r)(f:D<=S)(c:∀k,r=H k->k<S):Agree S w u J:=λk d b _=>a k (by omega) b λe=>by have:=c k e.symm;omega
def YE{L:Type}{El:N->L->O Z->Prop}{t e:aI}{sz aJ:I}(w:N)(ty:aI)(a1:TI t e sz aJ)(g:I)(A:w.heap[g]?=H (ζ #[] e))(x:Z)(m:I)(l2:O L)(M:O (O Z))
 (a2:Rw w x sz M) (a8:M.length=m) (C:l2.length=m) (v:∀u,tG El u l2 M) (d:Flat sz M) (ae:m<=1000000000) (a4:aJ<=100000):
 ∃h w',(Builtin.append_ #[t,t] ty #[δ (H ⟨g,0,J⟩) 0 0,x]).run π w= .ok h w'/\Row El sz e g w' h l2/\Λ w.heap.size w w':=by
 obtain⟨i,z,q,n,ac,ab,a5,ad,p⟩:=a1;obtain⟨b,f,Q,cap,rfl,a3,a6⟩:=a2;subst a8;have o:=Rw.lt_of_heap A;have y:M.flatten.length=M.length*sz:=vl d.1;rcases jR M.length with R|aa
 ·obtain rfl:=oK R
  obtain rfl:=oK C;refine⟨δ (H ⟨g,0,J⟩) 0 0,w,?_,⟨[],d,BG A (oZ _),λu _=>v u⟩,pH _ _⟩
  cases Q with
  |none=>simp[Builtin.append_,mh q,sizeOf,typeInfo,n,Builtin.lenOf,Builtin.firstCells,storeCells]
  |some a=>exact run_append_room_cells (P:=π) w t ty e i q n g 0 0 0 a 0 cap [] (by simp) (by simp) (by simp) (by omega) (by simp) (by simp)
 ·have a9:∀j u,M.flatten[j]?=H u->w.cell? ((⟨b,f,J⟩:Addr).add j)=H u:=λj u B=>by
   have o:j<M.flatten.length:=(List.getElem?_eq_some_iff.1 B).1;rw[y] at o;have F:j/sz<M.length:=j9 (by rw[lN];exact o);obtain⟨af,W,a0⟩:=a6 (j/sz) F (j%sz) (jS _ p);have c:=r8 d.1 (j/sz) F (j%sz) (jS _ p);have l:=jH j sz;rw[lN] at l;rw[l,B,W] at c;injection c with c
   rw[c,<-a0];rw[show(⟨b,f,J⟩:Addr).add j=⟨b,f+j,J⟩ by simp[Addr.add],kZ,l]
  obtain rfl:=a3 aa
  obtain⟨h,w',S,s,T⟩:=run_append_arg_grows (P:=π) w t ty e i z sz aJ q n ac ab a5 ad p ⟨g,0,J⟩ 0 0 [] (by simp) (by simp) ⟨b,f,J⟩ M.length cap M.flatten y a9 (by omega) (by unfold maxLen;omega) (by have:(0+M.length)*aJ<=1000000000*100000:=j_ (by omega) a4;omega)
  rw[nh,mw,<-C] at s;refine⟨h,w',S,⟨M,d,rK s (by omega),λu _=>v u⟩,qI T (pH _ _) (λk a7=>by cases a7) (oZ _)⟩
def Gw{c:Type}{El:N->c->O Z->Prop}{t e:aI}{sz aJ:I}(w:N){o:Oper}{a:Act}{F:Z->N->Prop}(s x:Operand)
 (z:o.op= .call {callee:= .builtin .append,args:=#[s,x],argTypes:=#[t,t]}) (k:TI t e sz aJ) (g:I) (p:w.heap[g]?=H (ζ #[] e)) (B:a.eval s=δ (H ⟨g,0,J⟩) 0 0) (x':Z) (C:a.eval x=x') (m:I) (l2:O c) (M:O (O Z))
 (l:Rw w x' sz M) (q:M.length=m) (y:l2.length=m) (i:∀u,tG El u l2 M) (j:Flat sz M) (v:m<=1000000000) (n:aJ<=100000)
 (d:∀b w',Row El sz e g w' b l2->Λ w.heap.size w w'->F b w'):gives π o a w F:=by
 obtain⟨b,w',A,f,h⟩:=YE w o.type k g p x' m l2 M l q y i j v n;unfold gives Oper.wp execOp;simp only[z,resolve,invoke,builtin,kW,kX,l6,kY,ou,mU,B,C,A];exact⟨b,rfl,d b w' f h⟩
end Nr
end Go.Proofs.YthbhmjdcfocphaaGreatDoor
