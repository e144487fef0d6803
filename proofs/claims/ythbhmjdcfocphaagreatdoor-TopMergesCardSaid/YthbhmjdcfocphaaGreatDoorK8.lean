/- A part of this proof. -/
import Derived.Test.YthbhmjdcfocphaaGreatDoorG7
import Derived.Test.YthbhmjdcfocphaaGreatDoorK5
import Derived.Test.YthbhmjdcfocphaaGreatDoorG6
set_option linter.all false
set_option maxHeartbeats 16000000
set_option maxRecDepth 100000
namespace Go.Proofs.YthbhmjdcfocphaaGreatDoor
open Go.Value renaming string→L, slice→K, pointer→ε, int→I
open Go.Obj renaming cells→ζ
open Go.Ending renaming returned→N
open Go.IntKind renaming i64→J
open Go.Lib renaming hid→G
open Option renaming none→H, some→U
open Go.RowKit renaming Below→M
open Me.Row renaming slice→π, below→χ, nil→Δ
open Go.Proofs.Tryz renaming prog→υ, underlying100→ο, underlying24→ah
open Go renaming Value→O, World→V, Calls→X
open Mo renaming Dt→Λ, Fd→Ξ
namespace Nd
open RowKit Rw Vf Mw Me Gr Rg Xm
def Ru{S:Nat}{w:V}{t1 t2:T}{c1 c2:List O}(m:S<=w.heap.size)(f:NV S w t1 c1)(g:NV S w t2 c2):tA S (w.alloc (ζ (c1++c2).toArray (100:Nat))) (K (U ⟨w.heap.size,0,H⟩) 2 2) [t1,t2]:=by
 have h:=f.here.len;have l2:=g.here.len;have q:(w.alloc (ζ (c1++c2).toArray (100:Nat))).heap.size=w.heap.size+1:=nI _;refine⟨[c1,c2],⟨λc l=>?_,λu d=>?_⟩,⟨by simp[h,l2],.inr ⟨w.heap.size,2,(c1++c2).toArray,rfl,m,pG _ _,by simp,by unfold maxLen;omega,by simp[h,l2],?_⟩⟩,λu d=>⟨rfl,λj n p=>?_⟩⟩
 ·simp only[ox,oy,nw] at l
  rcases l with rfl|rfl<;>assumption
 ·simp only[kn,jj,nC,jU] at d
  rcases d with d|d
  ·exact f.here.one u d
  ·exact g.here.one u d
 ·simp only[kn,jj,nC,oJ,oh]
  exact oP (by simp[h,l2])
 ·have i:Agree S w u H:=λk a b _=>(d k a (by omega) (λe=>by have o:k=w.heap.size:=nV e;omega)).trans (heap_alloc_old w _ _ b)
  match j,n with
  |0,_=>exact f u i
  |1,_=>exact g u i
def fom_of{W:V}{v:O}{l:List Ξ}(c:rY W v l)(h:Λ l=true)(d:l.length<=1000000)(e:∀f∈l,f.path.length<=64)(g:l.Pairwise λa b=>Mo.tM a b<0):ZB W v [] l:=⟨c,⟨In.nil l,g⟩,e,d⟩
def Pw(l:List Ξ)(v:O)(W:V)(d:ZB W v [] l)(aj:IA l)(am:Λ l=true):
 X υ 50 #[.agg #[v]] W λe w'=>(∃c:List O,e=N (.tuple #[.agg c.toArray,I J 0])/\tQ w' (tree l) c)/\M W.heap.size W w':=by
 obtain⟨-,-,aO,cap,au,-,-⟩:=qF d.ar;have t:=G (λu (D:M W.heap.size W u)=>uh u v l (d.ar.under D) aj);rw[am] at t;change Hid (∀u(D:M W.heap.size W u),X _ _ _ _ (λe w'=>e=N (I J 0)/\_)) at t;have a7:=G (λu (D:M W.heap.size W u)=>M_ 64 0 rfl [] l v u rfl ⟨d.ar.under D,d.fo,d.pl,d.n⟩);have aI:=G (pF (xA 65 0 l) d.n);obtain⟨m,ao⟩:=pL l.length;rw[ao] at au;subst au;obtain⟨Z,ag,ak⟩:=sM W (bR (K aO m cap)) (ζ zN (100:Nat));have F:=G ak;have ac:=G Z;have Q:=G ag;have x0:=pJ (j:=0) Z rfl;clear d aj am ao ak Z ag
 go_enter Tryz.func50,Tryz.ntmps50
 go_wp2_with fail
 generalize(W.alloc _).alloc _=aV at F ac Q x0|-;generalize ai:W.heap.size=a9 at ac Q x0|-;have aC:=G ai;clear ai;refine(t.o _ F.o).mono ?_;rintro e o⟨rfl,z⟩;have aa:=pR F z;have ad:=G (pW z Q.o);replace x0:=pI x0 z;clear z t
 go_wp2_with fail
 refine(a7.o _ aa.o).mono ?_;rintro e aS⟨⟨aP,rfl,a0⟩,q⟩;obtain⟨aW,aX,av⟩:=π a0;have p:=G (Dy tO (outs (64+1) 0 l) aP o.heap.size aS a0 q.size aI.o);obtain⟨aY,ap⟩:=pL ((outs (64+1) 0 l).length);rw[ap] at av;subst av;have ay:=pR aa q;have aD:=G (pW q ad.o);have aK:=G q.size;clear a0 q ap a7 x0
 go_wp2_with fail
 refine p.o.mono ?_;rintro e E⟨⟨aZ,s,a1⟩,A⟩;obtain⟨f,g,aw⟩:=π a1;obtain⟨h,aq⟩:=pL ((outs (64+1) 0 l).length);rw[aq] at aw;subst aw;obtain rfl:e=N (.agg #[I J 0,L ⟨#[]⟩,L tO,K H 0 0,K f h g,L ⟨#[]⟩,I J 0]):=s;have az:=pR ay A;have aE:=G (pW A aD.o);have aL:=G (pF aK.o A.size);have a6:=pG E (bN tO (K H 0 0) (K f h g));have r:=pM E (bN tO (K H 0 0) (K f h g));have ab:=pR az r;have R:=G (pW r aE.o);have af:=G (χ a1 r);have w:=G (pF aL.o r.size);clear a1 A aq p r
 go_upto_region 4 with fail
 change Code.wp _ _ _ _ (E.alloc (bN tO (K H 0 0) (K f h g)));generalize E.alloc (bN tO (K H 0 0) (K f h g))=aT at a6 ab R af w|-;obtain⟨x0,x1,x2,x3,x4,x5,x6⟩:=ql (pH _ _) a6;have aJ:=G (Ru (S:=o.heap.size) (t1:= .el yA [] []) (t2:= .el tO [] (outs (64+1) 0 l)) (c1:=qA yA (K H 0 0) (K H 0 0)) (c2:=qA tO (K H 0 0) (K f h g)) w.o (Ao Δ Δ) (Ao Δ af.o));have i:=G (pM aT (ζ (qA yA (K H 0 0) (K H 0 0)++qA tO (K H 0 0) (K f h g)).toArray (100:Nat)));have p:=G (Dy xJ _ _ o.heap.size _ aJ.o (pF w.o i.o.size) (by simp));clear a6
 go_wp2_with fail
 refine p.o.mono ?_;rintro e ax⟨⟨aQ,s,a2⟩,B⟩;obtain⟨x,y,a4⟩:=π a2;replace a4:aQ=K x 2 y:=a4;subst a4;obtain rfl:e=N (.agg #[I J 0,L ⟨#[]⟩,L xJ,K H 0 0,K x 2 y,L ⟨#[]⟩,I J 0]):=s;have aA:=G (pK ab.o (i.o.trans (B.mono i.o.size)));have aF:=G (((i.o.trans (B.mono i.o.size)).block _ (Rw.lt_of_heap R.o)).trans R.o);have aG:=G a2;have aM:=G (pF w.o (pF i.o.size B.size));have aN:=G (show a9+1<o.heap.size from Rw.lt_of_heap ad.o);have an:=sL ax (tB [(zj,TY)]) 9 2;have P:=G (pM ax (ζ ((tB [(zj,TY)]).map Value.string).toArray (9:Nat)));have a8:=G (AU xJ [] [(zj,TY)] (K H 0 0) (K x 2 y) _ _ (Rw.nil _ 4) ⟨_,_,_,rfl⟩ an (by simp) (by simp));clear a2 B an p x0 x1 x2 x3 x4 x5 x6
 go_wp2_with fail
 refine a8.o.mono ?_;rintro e aU⟨⟨aR,s,a3⟩,al⟩;obtain⟨T,Y,a5⟩:=π a3;replace a5:aR=K T 1 Y:=a5;subst a5;obtain rfl:e=N (.agg #[I J 0,L ⟨#[]⟩,L xJ,K T 1 Y,K x 2 y,L ⟨#[]⟩,I J 0]):=s;have C:=P.o.trans (al.mono P.o.size);have aB:=pR aA C;have ae:=G (pW C aF.o);have aH:=G (Ao (S:=o.heap.size) (n:=xJ) (show wk o.heap.size aU (K T 1 Y) [(zj,TY)] from Row.base a3 (pF aM.o P.o.size)) (χ aG.o C));clear a3 al C a8
 go_wp2_with(refine oN rfl 100 _ _ rfl _ _ rfl rfl 100 _ ae.o (by kernel_rfl) rfl (by simp[Value.oneCell']) ?_)
 go_wp2_with fail
 refine ow (Nr.qE rfl _ _ (a9+1) _ _ _ _ rfl (og _ _ _ _ _ _ ae.o) ο rfl (by kernel_rfl)) rfl ?_;exact⟨⟨_,rfl,aH.o _ λk a b c=>oo _ _ _ _ (by have:=aN.o;omega)⟩,pS aB.o (by have:=aC.o;omega) _⟩
def Nf(l:List Ξ)(v:O)(W:V)(a:ZB W v [] l)(s:IA l)(x:Λ l=true)(g:∀f∈l,ZM f)(y:l.length<=100000):
 X υ 24 #[.agg #[v]] W λe w'=>e=N (.tuple #[L ⟨(doc (tree l)).toArray⟩,I J 0])/\M W.heap.size W w':=by
 obtain⟨-,-,R,cap,Q,-,-⟩:=qF a.ar;have i:=pM W (bR v);have x0:=pJ (j:=0) (pG W (bR v)) rfl;have p:=G i;have d:=G (Pw l v _ ⟨a.ar.under i,a.fo,a.pl,a.n⟩ s x);have k:=G (λu c b=>Xw.Pf (tree l) c u b (Rv a.n g) (by have:=Ng l;omega) (Nh y λf P=>(g f P).1));subst Q;generalize l.length=m at x0 d p|-;clear i a s x g y
 go_enter Tryz.func24,Tryz.ntmps24
 go_wp2_with fail
 refine d.o.mono ?_;rintro e C⟨⟨c,rfl,b⟩,t⟩;have D:=pR p t;obtain⟨n,q,A,c1,r,B,c2,rfl⟩:=b.form;have z:=pG C (bN n (K q A c1) (K r B c2));have h:=pM C (bN n (K q A c1) (K r B c2));have E:=pR D h;have o:=G (k.o _ _ (tQ.under h _ _ b));obtain⟨T,Y,Z,a0,a1,a2,a3⟩:=ql (pH _ _) z;clear t b z h x0 d k;unfold qA at o|-
 go_wp2_with fail
 refine o.o.mono ?_;rintro e S⟨rfl,w⟩;have F:=pR E w;clear w
 go_wp2_with fail
 go_ret2;exact⟨rfl,F.o⟩
def Ni(l:List Ξ)(v:O)(W:V)(b:rY W v l)(w:IA l)(z:Λ l=true)(A:l.length<=1000000)(B:∀f∈l,f.path.length<=64):
 X υ 21 #[.agg #[v],I J 6] W λe w'=>(∃x n c,e=N (.tuple #[.agg #[K x n c],I J 0]))/\M W.heap.size W w':=by
 obtain⟨-,-,E,cap,F,-,-⟩:=qF b;have a:=G (λu (g:M W.heap.size W u)=>uh u v l (b.under g) w);rw[z] at a;change Hid (∀u(g:M W.heap.size W u),X _ _ _ _ (λe w'=>e=N (I J 0)/\_)) at a;have h:=G (λu (g:M W.heap.size W u)=>Na l v u (b.under g) A B);subst F;generalize l.length=m at a h|-;obtain⟨s,t,y⟩:=sM W (bR (K E m cap)) (bR (K H 0 0));have i:=G y;have r:=G t;have x0:=pJ (j:=0) s rfl;clear b w z A B y s t
 go_enter Tryz.func21,Tryz.ntmps21
 go_wp2_with fail
 generalize(W.alloc _).alloc _=R at i r x0|-;refine(a.o _ i.o).mono ?_;rintro e T⟨rfl,d⟩;have q:=pR i d;have D:=G (pW d r.o);replace x0:=pI x0 d;clear d a
 go_wp2_with fail
 refine(h.o _ q.o).mono ?_;rintro e Q⟨⟨x,n,c,rfl⟩,o⟩;have C:=pR q o;have k:=G (pW o D.o);have Y:=pJ (j:=0) k.o rfl;have S:=yY k.o 0;clear o h x0
 go_wp2_with fail
 have P:=oO Q (W.heap.size+1) 0 _ _ (K x n c) k.o;refine ow (Nr.qE rfl _ _ (W.heap.size+1) _ _ _ _ rfl P ah rfl (by kernel_rfl)) rfl ?_;exact⟨⟨_,_,_,rfl⟩,C.o.setCell (p:=⟨W.heap.size+1,0,H⟩) (nu _) _⟩
def Nj(l:List Ξ)(v:O)(W:V)(a:ZB W v [] l)(d:IA l)(k:Λ l=true)(r:∀f∈l,ZM f)(t:l.length<=100000):
 X υ 9 #[.agg #[v],I J 6] W λe w'=>e=N (.tuple #[L ⟨(doc (tree l)).toArray⟩,I J 0])/\M W.heap.size W w':=by
 obtain⟨-,-,B,cap,z,-,-⟩:=qF a.ar;have i:=pM W (bR v);have x0:=pJ (j:=0) (pG W (bR v)) rfl;have p:=G i;have b:=G (Ni l v _ (a.ar.under i) d k a.n a.pl);have o:=G (λu (y:M W.heap.size W u)=>Nf l v u ⟨a.ar.under y,a.fo,a.pl,a.n⟩ d k r t);subst z;generalize l.length=m at x0 b o p|-;clear i a d k r t
 go_enter Tryz.func9,Tryz.ntmps9
 go_wp2_with fail
 refine b.o.mono ?_;rintro e A⟨⟨x,n,c,rfl⟩,g⟩;have h:=pM A (bR (K x n c));have q:=G (pK (pK p.o g) h);replace x0:=pI (pI x0 g) h;clear g h b
 go_wp2_with fail
 refine(o.o _ q.o).mono ?_;rintro e C⟨rfl,s⟩;have w:=pR q s;clear s
 go_wp2_with fail
 go_ret2;exact⟨rfl,w.o⟩
end Nd
namespace Nd
open RowKit Rw Vf Mw Me Gr Rg Xm Xw
def Nk:∀n d,d+n=64->ROut n d
 |0,d,h=>EI 0 d h λa e=>absurd e (by omega)
 |n+1,d,h=>EI (n+1) d h λa e=>by
  obtain rfl:n=a:=by omega
  exact Nk n (d+1) (by omega)
def Px(l:List Ξ)(v:O)(W:V)(o:ZB W v [] l)(g:IA l)(av:Λ l=true)(aB:XT W)(au:De.Tm v):
 X υ 129 #[.agg #[v]] W λe w'=>(∃c:List O,e=N (.tuple #[.agg c.toArray,I J 0])/\tQ w' (tree l) c)/\M W.heap.size W w':=by
 obtain⟨-,-,ak,cap,aX,-,-⟩:=qF o.ar;subst aX;have aq:l.length<=cap:=au;have T:=G (λu (Q:M W.heap.size W u)=>Mw.Br u _ l (o.ar.under Q) (aB.below Q).wt.u8 g av);have Y:=G (λu (Q:M W.heap.size W u)=>Nk 64 0 rfl [] l ak cap u rfl ⟨o.ar.under Q,o.fo,o.pl,o.n⟩ aq);have aM:=G (pF (xA 65 0 l) o.n);obtain⟨m,aw⟩:=pL l.length;rw[aw] at T Y|-;obtain⟨a3,al,ap⟩:=sM W (bR (K ak m cap)) (ζ zN (100:Nat));have Z:=G ap;have ae:=G a3;have a0:=G al;have x0:=pJ (j:=0) a3 rfl;clear o g av aw aB au aq ap a3 al
 go_enter Tryz.func129,Tryz.ntmps129
 go_wp2_with fail
 generalize(W.alloc _).alloc _=b4 at Z ae a0 x0|-;generalize ao:W.heap.size=ab at ae a0 x0|-;have aG:=G ao;clear ao;refine(T.o _ Z.o).mono ?_;rintro e p⟨rfl,E⟩;have ac:=pR Z E;have af:=G (pW E a0.o);replace x0:=pI x0 E;clear E T
 go_wp2_with fail
 refine(Y.o _ ac.o).mono ?_;rintro e b2⟨⟨b0,rfl,h⟩,z⟩;obtain⟨b5,b6,az⟩:=π h;have a9:=G (AO tO (outs (64+1) 0 l) b0 p.heap.size b2 h z.size aM.o);obtain⟨b7,ax⟩:=pL ((outs (64+1) 0 l).length);rw[ax] at az;subst az;have aC:=pR ac z;have aH:=G (pW z af.o);have aN:=G z.size;clear h z ax Y x0
 go_wp2_with fail
 refine a9.o.mono ?_;rintro e R⟨⟨b8,a6,t⟩,F⟩;obtain⟨q,r,aA⟩:=π t;obtain⟨s,ay⟩:=pL ((outs (64+1) 0 l).length);rw[ay] at aA;subst aA;obtain rfl:e=N (.agg #[I J 0,L ⟨#[]⟩,L tO,K H 0 0,K q s r,L ⟨#[]⟩,I J 0]):=a6;have aD:=pR aC F;have aI:=G (pW F aH.o);have aO:=G (pF aN.o F.size);have a8:=pG R (bN tO (K H 0 0) (K q s r));have A:=pM R (bN tO (K H 0 0) (K q s r));have ad:=pR aD A;have ag:=G (pW A aI.o);have aj:=G (χ t A);have B:=G (pF aO.o A.size);clear t F ay a9 A
 go_upto_region 5 with fail
 change Code.wp _ _ _ _ (R.alloc (bN tO (K H 0 0) (K q s r)));generalize R.alloc (bN tO (K H 0 0) (K q s r))=b9 at a8 ad ag aj B|-;have aR:=G a8;have aQ:=G (show ab+1<p.heap.size from Rw.lt_of_heap af.o);clear a8
 refine qQ 5 [[],[],[0,1],[0,2],[]] [U 16,U 17,U 18,U 19,U 20] (by kernel_rfl) (by kernel_rfl) (by kernel_rfl)
  [λ_ v w=>∃a c,v= .agg #[I J 0,L ⟨#[]⟩,L yA,K H 0 0,K a 0 c,L ⟨#[]⟩,I J 0],
   eqv (.agg #[I J 0,L ⟨#[]⟩,L tO,K H 0 0,K q s r,L ⟨#[]⟩,I J 0]),
   λ_ v w=>∃b,v=K (U ⟨b,0,H⟩) 2 2/\tA p.heap.size w (K (U ⟨b,0,H⟩) 2 2) [.el yA [] [],.el tO [] (outs (64+1) 0 l)],
   λ_ v w=>∃a c,v= .agg #[I J 0,L ⟨#[]⟩,L xJ,K H 0 0,K a 2 c,L ⟨#[]⟩,I J 0]/\tA p.heap.size w (K a 2 c) [.el yA [] [],.el tO [] (outs (64+1) 0 l)],
   λ_ v w=>∃b,v=K (U ⟨b,0,H⟩) 2 2/\Rw w (K (U ⟨b,0,H⟩) 2 2) 1 ((tB [(zj,TY)]).map p_)] ?aY ?step ?fin
 case aY=>
  refine⟨?_,?_,?_,?_,?_,trivial⟩
  all_goals intro d u w w' g f
  all_goals first
   |exact f
   |(obtain⟨b,e,f⟩:=f;exact⟨b,e,Rw.under f g⟩)
   |(obtain⟨b,e,f⟩:=f;exact⟨b,e,χ f g⟩)
   |(obtain⟨a,c,e,f⟩:=f;exact⟨a,c,e,χ f g⟩)
 case step=>
  refine⟨?_,?_,?_,?_,?_,trivial⟩
  all_goals
   intro x w i y;simp only[oI,oF,fr,qD,Fv,Fa,eqv,List.map,nU] at y|-;obtain⟨x0,x1,x2,x3,x4,x5,x6⟩:=ql i aR.o
  case refine_1=>unfold gives;go_simp;refine(AO yA [] (K H 0 0) w.heap.size w Δ (oZ _) (by simp)).mono ?_;rintro e w'⟨⟨aZ,rfl,a4⟩,g⟩;obtain⟨a,c,rfl⟩:=π a4;exact⟨⟨a,c,rfl⟩,g⟩
  case refine_3=>obtain⟨⟨a,c,aT⟩,aU⟩:=y;rw[aT,aU];have aW:=Ru (S:=p.heap.size) (t1:= .el yA [] []) (t2:= .el tO [] (outs (64+1) 0 l)) (c1:=qA yA (K H 0 0) (K a 0 c)) (c2:=qA tO (K H 0 0) (K q s r)) (pF B.o i.size) (Q7 a c Δ) (Ao Δ (χ aj.o i));unfold gives;go_simp;exact⟨aW,pM _ _⟩
  case refine_4=>obtain⟨-,⟨b,aV,a4⟩⟩:=y;rw[aV];unfold gives;go_simp;refine(AO xJ _ (K (U ⟨b,0,H⟩) 2 2) p.heap.size w a4 (pF B.o i.size) (by simp)).mono ?_;rintro e w'⟨⟨aZ,rfl,h⟩,g⟩;obtain⟨a,c,rfl⟩:=π h;exact⟨⟨a,c,rfl,h⟩,g⟩
  case refine_5=>unfold gives;go_simp;exact⟨sL w (tB [(zj,TY)]) (9:Nat) 2,pM _ _⟩
  all_goals(unfold gives;go_simp;exact pH _ _)
 case fin=>
  intro x w i y;simp only[show List.range 5=[0,1,2,3,4] from rfl,oI,oF,fr,qD,Fv,Fa,eqv,List.map,nU,nS,nO] at y|-;obtain⟨-,-,-,⟨a1,a2,h,am⟩,⟨aS,t,an⟩⟩:=y;rw[h,t];have aa:=G (Du xJ [] [(zj,TY)] (K H 0 0) (K a1 2 a2) (U ⟨aS,0,H⟩) 2 w (Rw.nil _ 4) ⟨_,_,_,rfl⟩ an (by simp) (by simp) (by simp));have aJ:=G (pW i ag.o);have aE:=pR ad i;have aK:=G am;have aP:=G (pF B.o i.size);clear i h t am an
  go_wp2_with fail
  refine aa.o.mono ?_;rintro e b3⟨⟨b1,a6,a5⟩,P⟩;obtain⟨C,D,a7⟩:=π a5;replace a7:b1=K C 1 D:=a7;subst a7;obtain rfl:e=N (.agg #[I J 0,L ⟨#[]⟩,L xJ,K C 1 D,K a1 2 a2,L ⟨#[]⟩,I J 0]):=a6;have aF:=pR aE P;have ai:=G (pW P aJ.o);have aL:=G (Ao (S:=p.heap.size) (n:=xJ) (show wk p.heap.size b3 (K C 1 D) [(zj,TY)] from Row.base a5 aP.o) (χ aK.o P));clear a5 P aa
  go_wp2_with(refine oN rfl 100 _ _ rfl _ #[I J 0,L ⟨#[]⟩,L xJ,K C 1 D,K a1 2 a2,L ⟨#[]⟩,I J 0] rfl rfl 100 _ ai.o (by kernel_rfl) rfl (by simp[Value.oneCell']) ?_)
  go_wp2_with fail
  refine ow (Nr.qE rfl _ _ (ab+1) _ _ _ _ rfl (og _ _ _ _ _ _ ai.o) ο rfl (by kernel_rfl)) rfl ?_;exact⟨⟨_,rfl,aL.o _ λk a b c=>oo _ _ _ _ (by have:=aQ.o;omega)⟩,pS aF.o (by have:=aG.o;omega) _⟩
def Py(l:List Ξ)(v:O)(W:V)(a:ZB W v [] l)(w:IA l)(A:Λ l=true)(h:∀f∈l,ZM f)(B:l.length<=100000)(k:XT W)(z:De.Tm v):
 X υ 67 #[.agg #[v]] W λe w'=>e=N (.tuple #[L ⟨(doc (tree l)).toArray⟩,I J 0])/\M W.heap.size W w':=by
 obtain⟨-,-,Y,cap,T,-,-⟩:=qF a.ar;have d:=pM W (bR v);have x0:=pJ (j:=0) (pG W (bR v)) rfl;have q:=G d;have g:=G (Px l v _ ⟨a.ar.under d,a.fo,a.pl,a.n⟩ w A (k.below d) z);have o:=G (λu c (S:M W.heap.size W u) b=>Xw.Pp (tree l) c u b (Rv a.n h) (k.below S) (by have:=Ng l;omega) (Nh B λf R=>(h f R).1));subst T;generalize l.length=m at x0 g q|-;clear d k z a w A h B
 go_enter Tryz.func67,Tryz.ntmps67
 go_wp2_with fail
 refine g.o.mono ?_;rintro e F⟨⟨c,rfl,b⟩,x⟩;have P:=pR q x;obtain⟨n,s,D,c1,t,E,c2,rfl⟩:=b.form;have C:=pG F (bN n (K s D c1) (K t E c2));have i:=pM F (bN n (K s D c1) (K t E c2));have r:=pR P i;have p:=G (o.o _ _ r.o (tQ.under i _ _ b));obtain⟨a0,a1,a2,a3,a4,a5,a6⟩:=ql (pH _ _) C;clear x b C i x0 g o;unfold qA at p|-
 go_wp2_with fail
 refine p.o.mono ?_;rintro e Z⟨rfl,y⟩;have Q:=pR r y;clear y
 go_wp2_with fail
 go_ret2;exact⟨rfl,Q.o⟩
def Nl(l:List Ξ)(v:O)(W:V)(a:rY W v l)(w:IA l)(z:Λ l=true)(A:l.length<=1000000)(B:∀f∈l,f.path.length<=64)(C:XT W):
 X υ 64 #[.agg #[v],I J 6] W λe w'=>(∃x n c,e=N (.tuple #[.agg #[K x n c],I J 0]))/\M W.heap.size W w':=by
 obtain⟨-,-,F,cap,P,-,-⟩:=qF a;have g:=G (λu (d:M W.heap.size W u)=>Mw.Br u v l (a.under d) (C.below d).wt.u8 w z);have h:=G (λu (d:M W.heap.size W u)=>Nb l v u (a.under d) A B);subst P;generalize l.length=m at g h|-;obtain⟨s,t,y⟩:=sM W (bR (K F m cap)) (bR (K H 0 0));have i:=G y;have r:=G t;have x0:=pJ (j:=0) s rfl;clear a C w z A B y s t
 go_enter Tryz.func64,Tryz.ntmps64
 go_wp2_with fail
 generalize(W.alloc _).alloc _=S at i r x0|-;refine(g.o _ i.o).mono ?_;rintro e Y⟨rfl,b⟩;have q:=pR i b;have E:=G (pW b r.o);replace x0:=pI x0 b;clear b g
 go_wp2_with fail
 refine(h.o _ q.o).mono ?_;rintro e R⟨⟨x,n,c,rfl⟩,o⟩;have D:=pR q o;have k:=G (pW o E.o);have Z:=pJ (j:=0) k.o rfl;have T:=yY k.o 0;clear o h x0
 go_wp2_with fail
 have Q:=oO R (W.heap.size+1) 0 _ _ (K x n c) k.o;refine ow (Nr.qE rfl _ _ (W.heap.size+1) _ _ _ _ rfl Q ah rfl (by kernel_rfl)) rfl ?_;exact⟨⟨_,_,_,rfl⟩,D.o.setCell (p:=⟨W.heap.size+1,0,H⟩) (nu _) _⟩
def Nn(l:List Ξ)(v:O)(W:V)(a:ZB W v [] l)(g:IA l)(k:Λ l=true)(s:∀f∈l,ZM f)(y:l.length<=100000)(o:XT W)(w:De.Tm v):
 X υ 30 #[.agg #[v],I J 6] W λe w'=>e=N (.tuple #[L ⟨(doc (tree l)).toArray⟩,I J 0])/\M W.heap.size W w':=by
 obtain⟨-,-,D,cap,B,-,-⟩:=qF a.ar;have b:=pM W (bR v);have x0:=pJ (j:=0) (pG W (bR v)) rfl;have q:=G b;have d:=G (Nl l v _ (a.ar.under b) g k a.n a.pl (o.below b));have p:=G (λu (z:M W.heap.size W u)=>Py l v u ⟨a.ar.under z,a.fo,a.pl,a.n⟩ g k s y (o.below z) w);subst B;generalize l.length=m at x0 d p q|-;clear b o w a g k s y
 go_enter Tryz.func30,Tryz.ntmps30
 go_wp2_with fail
 refine d.o.mono ?_;rintro e C⟨⟨x,n,c,rfl⟩,h⟩;have i:=pM C (bR (K x n c));have r:=G (pK (pK q.o h) i);replace x0:=pI (pI x0 h) i;clear h i d
 go_wp2_with fail
 refine(p.o _ r.o).mono ?_;rintro e E⟨rfl,t⟩;have A:=pR r t;clear t
 go_wp2_with fail
 go_ret2;exact⟨rfl,A.o⟩
end Nd
end Go.Proofs.YthbhmjdcfocphaaGreatDoor
