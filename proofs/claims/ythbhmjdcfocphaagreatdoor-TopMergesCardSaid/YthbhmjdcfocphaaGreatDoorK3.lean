/- A part of this proof. -/
import Derived.Test.YthbhmjdcfocphaaGreatDoorK2
import Derived.Test.YthbhmjdcfocphaaGreatDoorKR
set_option linter.all false
set_option maxHeartbeats 16000000
set_option maxRecDepth 100000
namespace Go.Proofs.YthbhmjdcfocphaaGreatDoor
open Go.Value renaming string→J, slice→N, pointer→ε, int→H
open Go.Obj renaming cells→ζ
open Go.Ending renaming returned→η
open Go.IntKind renaming i64→I
open Go.Lib renaming hid→K, frozen_of_heap→Ξ, Utf8Tabs→aA
open _root_ renaming ByteArray→Y, Int→G, Nat→U
open Go.Proofs.Tryz renaming prog→ξ
open Go.RowKit renaming Below→V
open Option renaming some→O, none→aj
open Rw renaming lt_of_heap→Γ
open Go.Proofs renaming intOf→Δ, below_drewN→ah
open Go renaming Calls→Z, World→ς, Value→az
open Bool renaming true→X, false→ο
open Nd.tQ renaming under→Ω
open pY renaming dec→av, uH→aC, xF→aE
namespace Tx
open RowKit Rw
def bat{w:ς}{g j:U}{cs:Array az}{t:TypeId}{a:U×U}{x:az}(b:w.heap[g]?=O (Obj.cells cs t a))(c:cs[j]?=O x):w.cell? ⟨g,j,aj⟩=O x:=by unfold World.cell?;simp only[b];exact c
def Gn(s:Y):Bool:=decide (0<s.size)&&decide (s.size<=100)&&(List.range s.size).all λk=>decide ((av (s.data.toList.drop k)).2=1)&&aC (av (s.data.toList.drop k)).1&&aE (av (s.data.toList.drop k)).1&&decide ((av (s.data.toList.drop k)).1≠58)
def DY{s:Y}(b:s∈Xm.nice):Gn s=X:=by
 have a:Xm.nice.all Gn=X:=by decide+kernel
 rw[mF] at a;exact a s b
def KR{s:Y}(a:Gn s=X):0<s.size/\s.size<=100/\∀k,k<s.size->∃R:U,av (s.data.toList.drop k)=(R,1)/\aC R=X/\aE R=X/\R≠58:=by unfold Gn at a;simp only[oz,nP,mF,kV] at a;refine⟨a.1.1,a.1.2,λk b=>⟨(av (s.data.toList.drop k)).1,?_,(a.2 k b).1.1.2,(a.2 k b).1.2,(a.2 k b).2⟩⟩;rw[<-(a.2 k b).1.1.1]
def Jt(s:Y)(l:Gn s=X)(w:ς):Z ξ 220 #[J s] w λe w'=>e=η (.bool X)/\V w.heap.size w w':=by
 obtain⟨y,z,g⟩:=KR l;have r:=K g;clear g l
 go_enter Tryz.func220,Tryz.ntmps220
 go_wp2_with fail
 go_loopw [3] (λa wr=>∃k:U,k<=s.size/\a=H I k/\Hid (V w.heap.size w wr)) (λa _=>s.size-(Δ a).toNat)
 case atStart=>exact⟨0,oM _,rfl,K (pH _ _)⟩
 case round=>
  obtain⟨k,A,rfl,h⟩:=hrel;have d:=K h.o;clear h
  by_cases m:k<s.size
  ·obtain⟨R,j,o,n,t⟩:=r.o k m
   have c1:((R:G)!=58)=X:=(by simp;omega);have c2:((R:G)==58)=ο:=(by simp;omega);have q:=K (λw=>zO s k R 1 w m (by omega) j);have b:=K (λw=>TL (R:G) w);have c:=K (λw=>Ct (R:G) w);rw[n] at b;rw[o] at c;clear j o n t
   go_wp2_with fail
   refine(q.o _).mono ?_;rintro e B⟨rfl,i⟩;have f:=pR d i;clear i
   by_cases u:k=0
   ·subst u
    go_wp2_with fail
    refine(b.o _).mono ?_;rintro e p⟨rfl,rfl⟩
    go_wp2_with fail
    refine(c.o _).mono ?_;rintro e p⟨rfl,rfl⟩
    go_wp2_with fail
    go_roundw
    case rel=>exact⟨0+1,by omega,by go_num,f⟩
    case measure=>simp[Δ];omega
   ·have v:((k:G)==0)=ο:=by simp;omega
    go_wp2_with fail
    refine(b.o _).mono ?_;rintro e p⟨rfl,rfl⟩
    go_wp2_with fail
    go_roundw
    case rel=>exact⟨k+1,by omega,by go_num,f⟩
    case measure=>simp[Δ];omega
  ·obtain rfl:k=s.size:=by omega
   have x:decide ((0:G)<(s.size:G))=X:=nK (by omega)
   go_wp2_with fail
   go_ret;exact⟨rfl,d.o⟩
def M6(s:Y):s.extract 0 s.size=s:=by simp
abbrev bC(s:Y)(k:U):Obj:=ζ #[J s,H I k,H I 0,H I 0] (397:U)
def Gp(w:ς)(b:U):U:=match w.heap[b]? with|O (ζ cs _ _)=>(Δ (cs.getD 1 undef)).toNat|_=>0
def cset{w:ς}{C k k':U}{s:Y}(a:w.heap[C]?=O (bC s k)):(w.setCell ⟨C,1,aj⟩ (H I (k':G))).heap[C]?=O (bC s k'):=oO w C 1 #[J s,H I k,H I 0,H I 0] _ (H I (k':G)) a
def WJ(s:Y)(aB:Gn s=X)(a W:ς)(z:V a.heap.size a W)(f:W.heap[a.heap.size]?=O (bC s 0))(aw:aA 2 3 a)(g:uM a):
 Z ξ 343 #[ε (O ⟨a.heap.size,0,aj⟩)] W λe w'=>e=η (J s)/\V a.heap.size a w':=by
 obtain⟨aM,aN,ax⟩:=KR aB;have aG:=K ax;have aa:=K f;have a8:=K z;have aH:=K aw;have F:=K g;have c1:=bat (j:=1) f rfl;generalize au:a.heap.size=C at aa a8 c1|-;have o:=K au;clear ax f aw g aB z au
 go_enter Tryz.func343,Tryz.ntmps343
 go_wp2_with fail
 clear c1
 go_loopw [] (λwr=>∃k:U,k<=s.size/\Hid (wr.heap[C]?=O (bC s k))/\Hid (V C a wr)) (λwr=>s.size-Gp wr C)
 case atStart=>exact⟨0,oM _,aa,a8⟩
 case round=>
  obtain⟨k,aP,a6,ay⟩:=hrel;have E:=K a6.o;have D:=K (show V a.heap.size a wr by rw[o.o];exact ay.o);have ab:=K (show Gp wr C=k by unfold Gp;rw[a6.o];rfl);clear a6 ay
  have a1:∃R M:U,(∀w,V a.heap.size a w->Z ξ 307 #[J s,H I k] w λe w'=>e=η (.tuple #[.int .i32 R,H I M])/\V w.heap.size w w')/\((k<s.size/\M=1/\aC R=X/\aE R=X/\R≠58)\/(k=s.size/\M=0/\R=0)):=by
   by_cases S:k<s.size
   ·obtain⟨R,m,a0,T,a7⟩:=aG.o k S
    exact⟨R,1,λw aD=>ux s k R 1 w S (qC aH.o aD) m,.inl ⟨S,rfl,a0,T,a7⟩⟩
   ·exact⟨0,0,λw aD=>(Pc s k w (.inr (by omega))).mono λe w' Q=>⟨Q.1,Q.2▸pH _ _⟩,.inr ⟨by omega,rfl,rfl⟩⟩
  obtain⟨R,M,ae,a1⟩:=a1;have aF:=K ae;have ac:=K a1;clear ae a1
  go_upto_region 2 with fail
  refine Rg.qQ 13 [[],[0],[1],[2],[],[4],[5],[6],[3,7],[8],[9],[9],[0,1,2,3,4,5,6,7,8,9,10]] [O 12,O 13,O 14,O 15,O 16,O 17,O 18,O 19,O 20,O 11,O 21,O 22,O 4] (by kernel_rfl) (by kernel_rfl) (by kernel_rfl)
   [λ_ v _=>v=ε (O ⟨C,0,aj⟩),λ_ v _=>v=ε (O ⟨C,0,aj⟩),λ_ v _=>v=ε (O ⟨C,0,aj⟩),λ_ v _=>v=J s,λ_ v _=>v=ε (O ⟨C,0,aj⟩),λ_ v _=>v=ε (O ⟨C,0,aj⟩),λ_ v _=>v=ε (O ⟨C,1,aj⟩),λ_ v _=>v=H I k,λ_ v _=>v= .tuple #[.int .i32 R,H I M],λ_ v _=>v= .tuple #[.int .i32 R,H I M],λ_ v _=>v= .int .i32 R,λ_ v _=>v=H I M,λ_ v _=>v= .int .i32 R] ?aK ?step ?fin
  case aK=>
   refine⟨?_,?_,?_,?_,?_,?_,?_,?_,?_,?_,?_,?_,?_,trivial⟩
   all_goals(intro d u w w' z Q;exact Q)
  case step=>
   refine⟨?_,?_,?_,?_,?_,?_,?_,?_,?_,?_,?_,?_,?_,trivial⟩
   all_goals
    intro x w f m;simp only[oI,oF,Rg.fr,Rg.qD,Rg.Fv,Rg.Fa,List.map,nU] at m|-;have h:=(f.block C (Γ E.o)).trans E.o;have B:=bat (j:=0) h rfl;have n:=bat (j:=1) h rfl;clear h;unfold Rg.gives
   case refine_9=>obtain⟨L,P⟩:=m;rw[L,P];go_simp;refine(aF.o w (D.o.trans (f.mono D.o.size))).mono ?_;rintro e w'⟨rfl,z⟩;exact⟨rfl,z⟩
   all_goals(go_simp;exact pH _ _)
  case fin=>
   intro x w f m;simp only[show List.range 13=[0,1,2,3,4,5,6,7,8,9,10,11,12] from rfl,oI,oF,Rg.fr,Rg.qD,Rg.Fv,Rg.Fa,List.map,nU,nS,nO] at m|-;obtain⟨af,ag,am,L,an,ao,ap,P,aq,ar,ai,ak,al⟩:=m;rw[af,ag,am,L,an,ao,ap,P,aq,ar,ai,ak,al];have h:=(f.block C (Γ E.o)).trans E.o;have a4:=K h;have B:=bat (j:=0) h rfl;have n:=bat (j:=1) h rfl;have A:=Ξ h 1;have i:=K (D.o.trans (f.mono D.o.size));have a3:=K (Γ h);clear af ag am L an ao ap P aq ar ai ak al f h;rcases ac.o with⟨S,rfl,a0,T,a7⟩|⟨rfl,rfl,rfl⟩
   ·have c1:((R:G)==58)=ο:=by simp;omega
    have q:=K (λw g=>M7 (R:G) w g);have r:=K (λw g=>DZ (R:G) w g);rw[T] at q;rw[a0] at r;clear a0 T a7 ac
    by_cases aJ:k=0
    ·subst aJ
     go_wp2_with fail
     refine(r.o _ (F.o.below i.o)).mono ?_;rintro e a2⟨rfl,b⟩;have c:=K ((b.block C a3.o).trans a4.o);have l:=K (i.o.trans (b.mono i.o.size));clear b B n A;have n:=bat (j:=1) c.o rfl;have A:=Ξ c.o 1;have y:=K (cset (k':=0+1) c.o);have t:=K (l.o.setCell (p:=⟨C,1,aj⟩) (by rw[o.o];exact oZ _) (H I ((0+1:U):G)));rw[o.o] at t
     go_wp2_with fail
     go_roundw
     case rel=>exact⟨0+1,by omega,y,t⟩
     case measure=>rw[ab.o];show s.size-Gp (a2.setCell ⟨C,1,aj⟩ (H I ((0+1:U):G))) C<_;unfold Gp;rw[y.o];simp[Δ];omega
    ·have aI:decide ((0:G)<(k:G))=X:=nK (by omega)
     go_wp2_with fail
     refine(q.o _ (F.o.below i.o)).mono ?_;rintro e a2⟨rfl,b⟩;have c:=K ((b.block C a3.o).trans a4.o);have l:=K (i.o.trans (b.mono i.o.size));clear b B n A;have n:=bat (j:=1) c.o rfl;have A:=Ξ c.o 1;have y:=K (cset (k':=k+1) c.o);have t:=K (l.o.setCell (p:=⟨C,1,aj⟩) (by rw[o.o];exact oZ _) (H I ((k+1:U):G)));rw[o.o] at t
     go_wp2_with fail
     go_roundw
     case rel=>exact⟨k+1,by omega,y,t⟩
     case measure=>rw[ab.o];show s.size-Gp (a2.setCell ⟨C,1,aj⟩ (H I ((k+1:U):G))) C<_;unfold Gp;rw[y.o];simp[Δ];omega
   ·have q:=K (λw g=>M7 (0:G) w g)
    have r:=K (λw g=>DZ (0:G) w g);rw[show aE 0=ο by decide] at q;rw[show aC 0=ο by decide] at r;have aI:decide ((0:G)<(s.size:G))=X:=nK (by omega)
    go_wp2_with fail
    refine(q.o _ (F.o.below i.o)).mono ?_;rintro e a2⟨rfl,b⟩;have l:=K (i.o.trans (b.mono i.o.size));have c:=K ((b.block C a3.o).trans a4.o);clear b B n A
    go_wp2_with fail
    refine(r.o _ (F.o.below l.o)).mono ?_;rintro e aL⟨rfl,a5⟩;have a9:=K (l.o.trans (a5.mono l.o.size));have ad:=K ((a5.block C (Γ c.o)).trans c.o);clear a5;have B:=bat (j:=0) ad.o rfl;have n:=bat (j:=1) ad.o rfl;have aO:=M6 s
    go_wp2_with fail
    go_quiet(fail)
    go_wp2_with fail
    go_ret;exact⟨rfl,by have:=a9.o.trans ((ah aL nq).mono a9.o.size);rwa [o.o] at this⟩
def pqn_is(s:Y)(b:Gn s=X)(W:ς)(a:aA 2 3 W/\uM W):Z ξ 300 #[J s] W λe w'=>e=η (.bool X)/\V W.heap.size W w':=by
 have f:=pM W (bC s 0);have g:=K (WJ s b W _ f (sK W (bC s 0)) a.1 a.2);have c:=(KR b).1
 have i:(!s.toList.isEmpty)=X:=by rw[Lib.toList_data];simp only[jt,List.isEmpty_eq_false_iff,ne_eq,<-List.length_pos_iff];simpa using c
 have j:(s.toList==s.toList)=X:=by simp
 clear f b a c
 go_enter Tryz.func300,Tryz.ntmps300
 go_wp2_with fail
 refine g.o.mono ?_;rintro e k⟨rfl,d⟩;have h:=K d;clear d
 go_wp2_with fail
 go_ret;exact⟨rfl,h.o⟩
end Tx
namespace Xw
open RowKit Rw Vf Mw Me Gr Rg Xm Nd
def TM(t:T):∀(c:List az)(W:ς),tQ W t c->Fk t->dep t<=1000->Z ξ 142 #[.agg c.toArray] W λe w'=>(∃q:U,e=η (H I q)/\q<=dep t)/\V W.heap.size W w':=by
 induction t using T.ind
 rename_i n a ks ac
 intro c W a3 ab a4;unfold tQ at a3;obtain⟨va,aP,L,rfl,a0,a6,v⟩:=a3;obtain⟨aD,aF,f,g,rfl,-,-⟩:=vW a0;obtain⟨aN,aO,m,o,rfl,z,a8⟩:=xD a6 (AR v);unfold Fk at ab;obtain⟨-,-,au,a7⟩:=ab;obtain⟨h,a1⟩:=pL a.length;obtain⟨d,l⟩:=pL ks.length;obtain⟨S,y⟩:=pL (xG ks);unfold dep at a4|-;rw[y] at a4|-;rw[a1];rw[l] at z au|-;have ak:=K l;have ai:=K z;have am:=K a8;have al:=K a7;have D:=K y;have an:=K ((AR v).1.trans l);have ap:=K ac;have a5:=pG W (bN n (N f h g) (N m d o));have s:=K (pM W (bN n (N f h g) (N m d o)));obtain⟨E,F,M,P,u,Q,R⟩:=ql (pH _ _) a5;clear a5 a0 a6 v z a8 a7 a1 l y ac
 show Z ξ 142 #[.agg #[H I 0,J ⟨#[]⟩,J n,N f h g,N m d o,J ⟨#[]⟩,H I 0]] W _
 go_enter Tryz.func142,Tryz.ntmps142
 go_wp2_with fail
 generalize W.alloc (bN n (N f h g) (N m d o))=ad at s E F M P u Q R|-
 go_loopw [3,4] (λx A wr=>∃(q i:U),q<=S/\i<=d/\x=H I q/\A=H I i/\Hid (V ad.heap.size ad wr)) (λx A _=>d-(Δ A).toNat)
 case atStart=>exact⟨0,0,oM _,oM _,rfl,rfl,K (pH _ _)⟩
 case round=>
  obtain⟨q,i,aJ,aH,rfl,rfl,j⟩:=hrel;have aB:=pI u j.o
  by_cases a9:i<d
  ·obtain rfl:=ai.o (by omega)
   have k:i<ks.length:=(by rw[ak.o];exact a9);obtain⟨ay,aq,aw,c1,ar,ax,c2,e,aa,B,y1,y2,y3,y4,y5,y6⟩:=am.o i k (by rw[an.o];exact a9);have b:=pK s.o j.o;replace B:=pI B b;replace y1:=pI y1 b;replace y2:=pI y2 b;replace y3:=pI y3 b;replace y4:=pI y4 b;replace y5:=pI y5 b;replace y6:=pI y6 b;have aM:(i:G)<(d:G):=(by omega);have aL:(0:G)<=(i:G):=(by omega);have w:=Gq (pq k);have r:=ap.o _ (pq k) _ wr (Ω b _ _ aa) (Bv al.o (pq k)) (by have:=D.o;omega);rw[e] at r;rw[D.o] at w;have ag:=K w;have C:=K (show Z ξ 142 #[.agg #[H I 0,J ⟨#[]⟩,J ay,N aq aw c1,N ar ax c2,J ⟨#[]⟩,H I 0]] wr _ from r);clear e aa b r w
   go_wp2_with fail
   refine C.o.mono ?_;rintro e aQ⟨⟨p,rfl,aK⟩,a2⟩;have af:=pR j a2;have ao:=K (show max q p<=S by have:=ag.o;omega);clear a2 C B y1 y2 y3 y4 y5 y6 aB;have aI:max (q:G) (p:G)=((max q p:U):G):=by omega
   go_wp2_with fail
   go_roundw
   case rel=>exact⟨max q p,i+1,ao.o,by omega,by go_num,by go_num,af⟩
   case measure=>simp[Δ];omega
  ·have aG:decide ((i:G)<(d:G))=ο:=o9 (by omega)
   have ae:=K (pK s.o j.o);clear E F M P u Q R
   go_wp2_with fail
   go_ret;exact⟨⟨q+1,by go_num,by omega⟩,ae.o⟩
def TN(s:Y)(g:s.size<=5000)(c:Mo.s_ s=X)(w:ς):Z ξ 219 #[J s] w λe w'=>e=η (.bool X)/\V w.heap.size w w':=by
 obtain⟨n,b⟩:=Nr.Ro s (by omega) c;have f:=K b;clear b c g
 go_enter Tryz.func219,Tryz.ntmps219
 go_wp2_with fail
 refine(f.o _).mono ?_;rintro e w'⟨rfl,a⟩;have d:=K a;clear a
 go_wp2_with fail
 go_ret;exact⟨rfl,d.o⟩
abbrev bA(a b c d:az):Obj:=ζ #[a,b,c,d] (220:U)
def D1(t:T):∀(c:List az)(W:ς),tQ W t c->Fk t->Z ξ 143 #[.agg c.toArray] W λe w'=>e=η (.bool X)/\V W.heap.size W w':=by
 induction t using T.ind
 rename_i n a ks aH
 intro c W ax aG;unfold tQ at ax;obtain⟨va,bz,L,rfl,ar,aB,ab⟩:=ax;obtain⟨bn,bo,E,F,rfl,ac,au⟩:=vW ar;obtain⟨bv,bw,a2,a3,rfl,ai,aF⟩:=xD aB (AR ab);unfold Fk at aG;obtain⟨A,ak,b8,aD⟩:=aG;obtain⟨g,ad⟩:=pL a.length;obtain⟨k,S⟩:=pL ks.length;have b3:=ak.ln;rw[ad] at ac b3|-;rw[S] at ai b8|-;have aR:=K ad;have aV:=K S;have aQ:=K ac;have an:=K au;have aU:=K ai;have aX:=K aF;have aa:=K ak;have aW:=K aD;have aY:=K ((AR ab).1.trans S);have aZ:=K aH;have aO:=K (λw=>Tx.Jt n (Tx.DY A) w);have af:=pG W (bN n (N E g F) (N a2 k a3));have a6:=K (pM W (bN n (N E g F) (N a2 k a3)));have q:=K af;obtain⟨r,s,u,o,y,z,M⟩:=ql (pH _ _) af;clear af ar aB ab ac au ai aF A ak aD ad S aH
 show Z ξ 143 #[.agg #[H I 0,J ⟨#[]⟩,J n,N E g F,N a2 k a3,J ⟨#[]⟩,H I 0]] W _
 go_enter Tryz.func143,Tryz.ntmps143
 go_wp2_with fail
 refine(aO.o _).mono ?_;rintro e aI⟨rfl,P⟩;generalize ba:W.alloc (bN n (N E g F) (N a2 k a3))=bB at a6 q r s u o y z M P|-;generalize b4:W.heap.size=B at q r s u o y z M;have a7:=pR a6 P;have aT:=K ((P.block B (Γ q.o)).trans q.o);clear P ba r s u o y z M q a6 b4;obtain⟨r,s,u,o,y,z,M⟩:=ql (pH _ _) aT.o
 go_wp2_with fail
 go_loopw [3] (λx wr=>∃i:U,i<=g/\x=H I i/\Hid (V aI.heap.size aI wr)) (λx _=>g-(Δ x).toNat)
 case atStart=>exact⟨0,oM _,rfl,K (pH _ _)⟩
 case round=>
  obtain⟨i,bs,rfl,b⟩:=hrel;have bh:=pI r b.o;have bi:=pI s b.o;have bj:=pI u b.o;have bk:=pI o b.o;have aM:=pI y b.o;have bl:=pI z b.o;have a5:=K b.o;clear b
  by_cases a0:i<g
  ·obtain rfl:=aQ.o (by omega)
   have Q:i<a.length:=(by rw[aR.o];exact a0);obtain⟨h,y1,y2,y3⟩:=an.o i Q;have d:=pK a7.o a5.o;replace h:=pI h d;replace y1:=pI y1 d;replace y2:=pI y2 d;replace y3:=pI y3 d;have a1:=aa.o.nm _ (pq Q);have C:=aa.o.vs _ (pq Q)
   have a9:=K (show∀j(R:j<i),((a[j]'(by omega)).1.toList==(a[i]).1.toList)=ο fromλj R=>by
    rw[oq];intro e;rw[ByteArray.toList_eq,ByteArray.toList_eq] at e;have b2:=Bs.vo e;have aq:=List.pairwise_iff_getElem.1 aa.o.nd j i (by rw[oS];omega) (by rw[oS];exact Q) R;simp only[oG] at aq;exact aq b2)
   generalize b5:a[i]=at' at y1 y2 a1 C a9;clear b5;obtain⟨nm,v⟩:=at';simp only at y1 y2 a1 C a9;have aP:=K (λw=>Tx.Jt nm (Tx.DY a1) w);have aN:=K (λw=>TN v C.2 C.1 w);have bc:(i:G)<(g:G):=(by omega);have bb:(0:G)<=(i:G):=(by omega);have aw:=pM wr (bA (J ⟨#[]⟩) (J nm) (J v) (H I 0));have p:=K (pG wr (bA (J ⟨#[]⟩) (J nm) (J v) (H I 0)));have ap:=pR a5 aw;clear d a1 C aw
   go_upto_region 9 with fail
   change Code.wp _ _ _ _ (wr.alloc (bA (J ⟨#[]⟩) (J nm) (J v) (H I 0)));generalize wr.alloc (bA (J ⟨#[]⟩) (J nm) (J v) (H I 0))=bC at p ap|-;generalize wr.heap.size=bm at p|-;clear h y1 y2 y3 bh bi bj bk aM bl;have x0:=pJ (j:=0) p.o rfl;have x1:=pJ (j:=1) p.o rfl;have x2:=pJ (j:=2) p.o rfl
   go_wp2_with fail
   refine(aP.o _).mono ?_;rintro e aJ⟨rfl,f⟩;replace x0:=pI x0 f;replace x1:=pI x1 f;replace x2:=pI x2 f;have l:=pR ap f;clear f
   go_wp2_with fail
   refine(aN.o _).mono ?_;rintro e aK⟨rfl,ae⟩;replace x1:=pI x1 ae;have aS:=pR l ae;clear ae x0 x2
   go_wp2_with fail
   go_loopw [5] (λx am=>∃j:U,j<=i/\x=H I j/\Hid (V aK.heap.size aK am)) (λx _=>i-(Δ x).toNat)
   case atStart=>exact⟨0,oM _,rfl,K (pH _ _)⟩
   case round=>
    obtain⟨j,R,rfl,b⟩:=hrel;have a8:=K (pK aS.o b.o);have t1:=pI x1 b.o;have t3:=pI o a8.o;have m:=K b.o;clear b
    by_cases b7:j<i
    ·have ay:j<a.length:=by omega
     obtain⟨-,y1,-,-⟩:=an.o j ay;replace y1:=pI y1 (pK a7.o a8.o);have b9:=a9.o j b7;generalize(a[j]'ay).1=bx at y1 b9;have bd:(j:G)<(i:G):=(by omega);have bt:(0:G)<=(j:G):=(by omega);have bu:(j:G)<(g:G):=by omega
     go_wp2_with fail
     go_quiet(fail)
     go_wp2_with fail
     go_roundw
     case rel=>exact⟨j+1,by omega,by go_num,pR m (ah wr nq)⟩
     case measure=>simp[Δ];omega
    ·have bp:decide ((j:G)<(i:G))=ο:=o9 (by omega)
     clear t1 t3
     go_wp2_with fail
     go_roundw
     case rel=>exact⟨i+1,by omega,by go_num,a8⟩
     case measure=>simp[Δ];omega
  ·have br:decide ((i:G)<(g:G))=ο:=o9 (by omega)
   have ao:=K (pK a7.o a5.o)
   go_wp2_with fail
   go_loopw [6] (λx am=>∃j:U,j<=k/\x=H I j/\Hid (V wr.heap.size wr am)) (λx _=>k-(Δ x).toNat)
   case atStart=>exact⟨0,oM _,rfl,K (pH _ _)⟩
   case round=>
    obtain⟨aL,rfl⟩:∃w,w=wr:=⟨_,rfl⟩;obtain⟨j,R,rfl,b⟩:=hrel;have m:=K b.o;have al:=pI aM b.o;clear b
    by_cases a0:j<k
    ·obtain rfl:=aU.o (by omega)
     have ag:j<ks.length:=(by rw[aV.o];exact a0);obtain⟨bg,b0,be,c1,b1,bf,c2,e,A,h,y1,y2,y3,y4,y5,y6⟩:=aX.o j ag (by rw[aY.o];exact a0);have d:=pK ao.o m.o;replace h:=pI h d;replace y1:=pI y1 d;replace y2:=pI y2 d;replace y3:=pI y3 d;replace y4:=pI y4 d;replace y5:=pI y5 d;replace y6:=pI y6 d;have bc:(j:G)<(k:G):=(by omega);have bb:(0:G)<=(j:G):=(by omega);have a4:=aZ.o _ (pq ag) _ aL (Ω d _ _ A) (Bv aW.o (pq ag));rw[e] at a4;have D:=K (show Z ξ 143 #[.agg #[H I 0,J ⟨#[]⟩,J bg,N b0 be c1,N b1 bf c2,J ⟨#[]⟩,H I 0]] aL _ from a4);clear e A d a4
     by_cases b6:j=0
     ·subst b6
      simp only[jh,kC] at h y1 y2 y3 y4 y5 y6
      go_wp2_with fail
      refine D.o.mono ?_;rintro e aJ⟨rfl,f⟩;have l:=pR m f;clear f D h y1 y2 y3 y4 y5 y6 al
      go_wp2_with fail
      go_roundw
      case rel=>exact⟨0+1,by omega,by go_num,l⟩
      case measure=>simp[Δ];omega
     ·have bd:(0:G)<(j:G):=by omega
      go_wp2_with fail
      refine D.o.mono ?_;rintro e aJ⟨rfl,f⟩;have l:=pR m f;replace h:=pI h f;replace al:=pI al f;clear f D y1 y2 y3 y4 y5 y6
      go_wp2_with fail
      go_roundw
      case rel=>exact⟨j+1,by omega,by go_num,l⟩
      case measure=>simp[Δ];omega
    ·have bq:decide ((j:G)<(k:G))=ο:=o9 (by omega)
     have l:=K (pK ao.o m.o)
     go_wp2_with fail
     go_ret;exact⟨rfl,l.o⟩
def Pe(t:T)(c:List az)(W:ς)(b:tQ W t c)(g:Fk t)(D:dep t<=100):Z ξ 85 #[.agg c.toArray] W λe w'=>e=η (H I 0)/\V W.heap.size W w':=by
 obtain⟨n,d,i,c1,f,j,c2,rfl⟩:=b.form;have z:=K (λu (h:V W.heap.size W u)=>TM t _ u (Ω h _ _ b) g (by omega));have A:=K (λu (h:V W.heap.size W u)=>D1 t _ u (Ω h _ _ b) g);have y:=pG W (bN n (N d i c1) (N f j c2));have k:=K (pM W (bN n (N d i c1) (N f j c2)));obtain⟨m,o,p,r,s,v,w⟩:=ql (pH _ _) y;clear y b g
 show Z ξ 85 #[.agg #[H I 0,J ⟨#[]⟩,J n,N d i c1,N f j c2,J ⟨#[]⟩,H I 0]] W _
 go_enter Tryz.func85,Tryz.ntmps85
 go_wp2_with fail
 refine(z.o _ k.o).mono ?_;rintro e F⟨⟨q,rfl,E⟩,a⟩;have l:=pR k a;replace m:=pI m a;replace o:=pI o a;replace p:=pI p a;replace r:=pI r a;replace s:=pI s a;replace v:=pI v a;replace w:=pI w a;clear a;have C:decide ((100:G)<(q:G))=ο:=o9 (by omega)
 go_wp2_with fail
 refine(A.o _ l.o).mono ?_;rintro e L⟨rfl,x⟩;have B:=pR l x;clear x
 go_wp2_with fail
 go_ret;exact⟨rfl,B.o⟩
def Pf(t:T)(c:List az)(W:ς)(g:tQ W t c)(v:Fk t)(a0:dep t<=100)(a2:(enc t).length<=1000000000000):Z ξ 47 #[.agg c.toArray] W λe w'=>e=η (.tuple #[J ⟨(doc t).toArray⟩,H I 0])/\V W.heap.size W w':=by
 obtain⟨n,i,y,c1,j,z,c2,rfl⟩:=g.form;have F:=K (λu (x:V W.heap.size W u)=>Pe t _ u (Ω x _ _ g) v a0);have A:=K (λu (x:V W.heap.size W u)=>WD t _ u (Ω x _ _ g) v a2);have E:=pG W (bN n (N i y c1) (N j z c2));have B:=K (pM W (bN n (N i y c1) (N j z c2)));obtain⟨k,l,m,o,p,q,r⟩:=ql (pH _ _) E;obtain⟨b,d⟩:∃b:Y,(⟨(enc t).toArray⟩:Y)=b:=⟨_,rfl⟩;obtain⟨S,f⟩:∃S:Y,(⟨head.toArray⟩:Y)++b=S:=⟨_,rfl⟩;obtain⟨h,s⟩:∃h:Y,S++(⟨#[10]⟩:Y)=h:=⟨_,rfl⟩
 have M:=K (show h=⟨(doc t).toArray⟩ by rw[<-s,<-f,<-d];apply Bs.vo;simp[kS,doc])
 have P:b.size=(enc t).length:=by rw[<-d,yx]
 have Q:S.size=head.length+b.size:=by rw[<-f,nW,yx]
 have a1:head.length<=100:=by decide
 have R:=λw=>rW f (by rw[yx (⟨head.toArray⟩:Y)];simp only;omega) w
 have a3:=λw=>rW s (by rw[show(⟨#[10]⟩:Y).size=1 from rfl];omega) w
 rw[d] at A;unfold head at R;clear E g v d f s P Q a1
 show Z ξ 47 #[.agg #[H I 0,J ⟨#[]⟩,J n,N i y c1,N j z c2,J ⟨#[]⟩,H I 0]] W _
 go_enter Tryz.func47,Tryz.ntmps47
 go_wp2_with fail
 refine(F.o _ B.o).mono ?_;rintro e a4⟨rfl,a⟩;have C:=pR B a;replace k:=pI k a;replace l:=pI l a;replace m:=pI m a;replace o:=pI o a;replace p:=pI p a;replace q:=pI q a;replace r:=pI r a;clear a
 go_wp2_with fail
 refine(A.o _ C.o).mono ?_;rintro e a5⟨rfl,D⟩;have L:=pR C D;clear D k l m o p q r
 go_wp2_with fail
 go_ret2;exact⟨by rw[M.o];rfl,L.o⟩
end Xw
end Go.Proofs.YthbhmjdcfocphaaGreatDoor
