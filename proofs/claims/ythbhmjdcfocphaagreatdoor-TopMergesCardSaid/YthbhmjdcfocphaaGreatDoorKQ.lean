/- A part of this proof. -/
import Derived.Test.YthbhmjdcfocphaaGreatDoorG5
set_option linter.all false
set_option maxHeartbeats 16000000
set_option maxRecDepth 100000
namespace Go.Proofs.YthbhmjdcfocphaaGreatDoor
open Go.Value renaming string→O, slice→J, pointer→X, int→K
open Go.Obj renaming cells→V
open Go.Ending renaming returned→η
open Go.IntKind renaming i64→G
open Go.Lib renaming hid→H
open Option renaming none→I, some→N
open Rw renaming lt_of_heap→ξ, lt_of_cell→aL
open And renaming intro→π
open Bool renaming false→M
open Me renaming pJ→U, Agree→aN
open Jv renaming enc→Y, pZ→av, wS→ay, qN→az, Ok→aG, yf→aO
open _root_ renaming ByteArray→Θ, UInt8→aj, List→aH, Nat→aM, Array→aQ
open Go.Proofs.Tryz renaming prog→Λ, underlying107→ς, ntmps132→aI, func132→aK
open Go renaming World→Ξ, loadVar→aC, Value→aE, undef→aJ, Calls→aP
open Go.Value renaming oneCell'→Ω
open Go.World renaming setRow→ο, setCell→aA
open Go.RowKit renaming Below→ah
namespace Pj
open RowKit Rw Vf Mw Me Pa
def encP_eq(p:Θ×Jv.J):aO p=Js.quote p.1.data.toList++58::Y p.2:=by obtain⟨k,a⟩:=p;simp only[aO]
def N3{S:aM}{w:Ξ}{v:aE}{l:aH Jv.J}(h:gM S w v l)(a:Int):∀w',aN S w w' I->Jv w' (.arr l) (qh 4 M 0 ⟨#[]⟩ v rG a):=λu g=>by
 obtain⟨L,e,i,m⟩:=h;have n:=vJ i g;have f:=m u (λk a b c=>g k a b (by simp));unfold Jv;exact⟨a,v,L,rfl,Rw.uT n f.1 (λj d k o=>r8 e.1 j d k o) (λj d=>e.1 _ (pq d)),f.jl⟩
def N4{S:aM}{w:Ξ}{v:aE}{l:aH (Θ×Jv.J)}(h:My S w v l)(a:Int):∀w',aN S w w' I->Jv w' (.obj l) (qh 5 M 0 ⟨#[]⟩ rG v a):=λu g=>by
 obtain⟨L,e,i,m⟩:=h;have n:=vJ i g;have f:=m u (λk a b c=>g k a b (by simp));unfold Jv;exact⟨a,v,L,rfl,Rw.uT n f.1 (λj d k o=>r8 e.1 j d k o) (λj d=>e.1 _ (pq d)),f.jm⟩
def Er(P a d:aM)(s:Θ)(l:aH Jv.J)(aU:aH aj)(n W:Ξ)(a7:Ps P s a d W)(E:s.size<=1000000000)(b6:ah n.heap.size n W)(b1:n.heap.size<=P)(bb:d+1<=100)(bg:l.length<=1000000)
 (aD:s.data.toList.drop a=Y (.arr l)++aU) (b8:∀t∈az l,∃c r,t=c::r/\pY.D8 (c.toNat:Int)=M/\c≠93)
 (aY:∀k(o:k<l.length) u C T,Ps P s C (d+1) u->ah n.heap.size n u->s.data.toList.drop C=Y l[k]++T->(T.head?=N 44\/T.head?=N 93)->VC P s l[k] C (d+1) u):VC P s (.arr l) a d W:=by
 unfold VC;have bf:Y (.arr l)=91::(av (az l)++[93]):=by simp only[Y]
 rw[bf] at aD|-;have aF:s.data.toList.drop a=91::(av (az l)++93::aU):=by rw[aD];simp
 have ba:=drop_one aF;obtain⟨b7,b9⟩:=drop_at aF;have bk:pY.D8 ((91:aj).toNat:Int)=M:=by decide
 have bh:(91::(av (az l)++[93])).length=(av (az l)).length+2:=by simp
 rw[bh];obtain⟨bm,aS⟩:=pL ((av (az l)).length);have be:(az l).length=l.length:=by rw[Jv.uN];simp
 have bd:∀k(o:k<l.length)(a9:k<(az l).length),(az l)[k]=Y l[k]:=λk o a9=>by
  simp only[Jv.uN,oG]
 have b2:=a7.lt;have a8:=(pM W (V #[X (N ⟨P,0,I⟩)] 204)).alloc (pM W (V #[X (N ⟨P,0,I⟩)] 204)).size (V #[K G 0,.bool M,K G 0,O ⟨#[]⟩,J I 0 0,J I 0 0,K G 0] 107);have ax:=ld W (V #[X (N ⟨P,0,I⟩)] 204) (V #[K G 0,.bool M,K G 0,O ⟨#[]⟩,J I 0 0,J I 0 0,K G 0] 107);have b3:=lV W (V #[X (N ⟨P,0,I⟩)] 204) (V #[K G 0,.bool M,K G 0,O ⟨#[]⟩,J I 0 0,J I 0 0,K G 0] 107);have ab:=H a8;have ad:=H (a7.below a8);have x0:=U (j:=0) ax rfl;have a2:=H ax;have a3:=H b3;have a0:=H (tL P a d s 91 _ (a7.below a8) E b7 b9 bk);change Hid (aP _ _ _ _ (λe w'=>e=η (.int .u8 91)/\_)) at a0;have ai:=H b2;have a4:=H b6;have h:=H (π E (π bb (π ba (π b8 (π bg (π be bd))))));have bq:=H b1;have bo:=H aY;rw[aS];have bp:=H aS;have bC:∀(aZ:Fn)(first cap:aQ aE)(w:Ξ),(Instr.makeFunc aZ first cap).run Λ w= .ok (.func aZ first cap) w:=λ_ _ _ _=>rfl
 clear aD aF ba b7 b9 bk b6 b1 a7 a8 ax b3 b2 bf E bb bg b8 be bd bh aS aY
 go_enter aK,aI
 go_wp2_with fail
 generalize(W.alloc (V #[X (N ⟨P,0,I⟩)] 204)).alloc (V #[K G 0,.bool M,K G 0,O ⟨#[]⟩,J I 0 0,J I 0 0,K G 0] 107)=bJ at a0 ad ab a2 a3 x0|-;obtain⟨R,aB⟩:=pL (W.heap.size+1);obtain⟨B,aw⟩:=pL W.heap.size;have an:=H (π aw aB);rw[aB] at a3|-;rw[aw] at a2 x0|-;clear aB aw;refine a0.o.mono ?_;rintro e y⟨rfl,Q⟩;have ae:=H (ad.o.below Q);have ac:=pR ab Q;have ak:=H (pW Q a3.o);have a5:=H (pW Q a2.o);replace x0:=U (j:=0) a5.o rfl;have x1:=ae.o.c1;clear Q a0 ad ab a2 a3;have S:=pM y (V #[K G 0,.bool M,K G 0,O ⟨#[]⟩,J I 0 0,J I 0 0,K G a] 107);have b4:=pG y (V #[K G 0,.bool M,K G 0,O ⟨#[]⟩,J I 0 0,J I 0 0,K G a] 107);have af:=H (ae.o.below S);have a1:=pR ac S;have al:=H (pW S ak.o);have a6:=H (pW S a5.o);have A:=H b4;have ap:=H (show R<y.heap.size/\B<y.heap.size from⟨ξ ak.o,ξ a5.o⟩);have bn:=U (j:=0) a6.o rfl;clear S b4 ak ae;have aa:=U (j:=0) A.o rfl;have au:=ny _ y.heap.size 0 _ _ A.o
 go_upto_region 4 with fail
 generalize b5:y.heap.size=b at A ap aa au|-;generalize y.alloc (V #[K G 0,.bool M,K G 0,O ⟨#[]⟩,J I 0 0,J I 0 0,K G a] 107)=F at af a1 al a6 A bn aa au|-;have L:=H (show W.heap.size<=b by rw[<-b5];exact ac.o.size);clear b5 ac a5 x0 x1;have g:=H (show b≠P/\R≠P/\B≠P/\R≠b/\B≠b from⟨by have:=ai.o;have:=L.o;omega,by have:=ai.o;have:=an.o;omega,by have:=ai.o;have:=an.o;omega,by have:=ap.o;omega,by have:=ap.o;omega⟩);have bB:=g.o.2.2.2.2
 go_wp2_with fail
 have bl:(F.setCell ⟨b,0,I⟩ (K G 4)).heap[b]?=N (Obj.cells #[K G 4,.bool M,K G 0,O ⟨#[]⟩,J I 0 0,J I 0 0,K G a] 107 (0,0)):=oO F b 0 _ _ (K G 4) A.o;have ao:=H bl;have ag:=H (af.o.setOther (j:=0) (x:=K G 4) g.o.1.symm);have m:=H ((Sd.qd (P:=P) a1.o).Ac (j:=0) (x:=K G 4) L.o);have am:=H ((pz F ⟨b,0,I⟩ R (K G 4) g.o.2.2.2.1).trans al.o);have aq:=H (U (j:=0) ((pz F ⟨b,0,I⟩ B (K G 4) g.o.2.2.2.2).trans a6.o) rfl);have aW:=H (show ah n.heap.size n (F.setCell ⟨b,0,I⟩ (K G 4)) from(a4.o.trans (a1.o.mono a4.o.size)).trans ⟨rfl,rfl,rfl,by simp[aA],λi aR=>pz _ _ _ _ (show i≠b by have:=a4.o.size;have:=L.o;omega)⟩);clear bl aa au bn bB af a1 al a6 A;generalize F.setCell ⟨b,0,I⟩ (K G 4)=p at ao ag m am aq aW|-;have z:=H (show P<p.heap.size/\b<p.heap.size/\B<p.heap.size/\R<p.heap.size from⟨ag.o.lt,ξ ao.o,aL aq.o,ξ am.o⟩)
 have Z:=H (elems_v (az l) (X (N ⟨b,0,I⟩)) (X (N ⟨B,0,I⟩)) 93 (by decide) (by decide) P a d s aU p (λk u=>∃v,Iv P b a 4 p u v (J I 0 0)/\gM p.heap.size u v (l.take k)) ag.o h.o.1 h.o.2.1 h.o.2.2.1 h.o.2.2.2.1
  ⟨J I 0 0,⟨rfl,rfl,rfl,oZ _,λ_ _ _ _=>rfl,ao.o⟩,by rw[lP];exact Row.nil⟩
  (λk u w o E=>by
    obtain⟨v,D,q⟩:=o;exact⟨v,D.sd E g.o.1,Kx q z.o.1 E⟩)
  (λk a9 u C T bw f bc bx=>by
    obtain⟨v,D,q⟩:=f;have o:k<l.length:=(by rw[<-h.o.2.2.2.2.2.1];exact a9);rw[h.o.2.2.2.2.2.2 k o a9] at bc|-;refine(aad P b B a C (d+1) s l k o n p u v z.o.1 z.o.2.1 z.o.2.2.1 g.o.1 g.o.2.2.1 g.o.2.2.2.2 aq.o bq.o (by have:=a4.o.size;have:=L.o;omega) aW.o h.o.2.2.2.2.1 D q bw (λx D q=>bo.o k o x C T D q bc bx)).mono ?_;rintro e w'⟨bv,b0,bu⟩;exact⟨bv,b0,bu⟩))
 rw[h.o.2.2.2.2.2.1,List.take_length,bp.o] at Z;change Hid (aP _ _ #[_,.int .u8 93,_] _ _) at Z;refine Z.o.mono ?_;rintro e aV⟨rfl,⟨v,f,aT⟩,bj⟩;obtain⟨ar,cap,rfl⟩:=Row.slice aT;have aa:=U (j:=0) f.vb rfl;have bD:=U (j:=1) f.vb rfl;have bE:=U (j:=2) f.vb rfl;have bF:=U (j:=3) f.vb rfl;have bG:=U (j:=4) f.vb rfl;have bH:=U (j:=5) f.vb rfl;have bI:=U (j:=6) f.vb rfl;have aX:=H ((f.block R z.o.2.2.2 g.o.2.1 g.o.2.2.2.1).trans am.o);have br:=H bj;have bs:=H aT;have bt:=H (show Sd P W aV from⟨f.os.trans m.o.os,f.tape.trans m.o.tape,f.output.trans m.o.output,pF m.o.size f.size,λi aR bi=>(f.block i (oQ aR m.o.size) bi (by have:=L.o;omega)).trans (m.o.block i aR bi)⟩);clear f aT bj Z
 go_wp2_with(refine oN rfl 107 _ _ rfl R #[K G 4,.bool M,K G 0,O ⟨#[]⟩,J ar l.length cap,J I 0 0,K G a] rfl rfl 107 _ aX.o (by kernel_rfl) rfl (by simp[Ω]) ?_)
 go_wp2_with fail
 have bA:=og _ R _ #[K G 4,.bool M,K G 0,O ⟨#[]⟩,J ar l.length cap,J I 0 0,K G a] _ _ aX.o;refine ow (nL rfl _ _ R _ _ _ _ rfl bA ς rfl (by kernel_rfl)) rfl ?_;refine⟨⟨4,M,0,⟨#[]⟩,ar,l.length,cap,I,0,0,a,rfl,λw' bz=>N3 bs.o a w' λk D q b0=>?_⟩,?_,bt.o.Em (by have:=an.o;omega)⟩
 ·rw[bz k (by have:=m.o.size;omega) (by rw[show(aV.setRow R _).heap.size=aV.heap.size from by simp[ο]];exact q) (by simp),oo _ R k _ (by have:=z.o;omega)]
 ·have e:a+(bm+2)=a+1+bm+1:=by omega
  rw[e];exact(oo _ R P _ g.o.2.1.symm).trans br.o
def Es(P a d:aM)(s:Θ)(l:aH (Θ×Jv.J))(aX:aH aj)(n W:Ξ)(a9:Ps P s a d W)(F:s.size<=1000000000)(b8:ah n.heap.size n W)(b3:n.heap.size<=P)(bd:d+1<=100)(bi:l.length<=1000000)
 (aS:s.data.toList.drop a=Y (.obj l)++aX) (ba:∀t∈ay l,∃c r,t=c::r/\pY.D8 (c.toNat:Int)=M/\c≠125)
 (b1:∀k(o:k<l.length) u v S D a0,Ps P s D (d+1) u->ah n.heap.size n u->P<S->My S u v (l.take k)->s.data.toList.drop D=aO l[k]++a0->(a0.head?=N 44\/a0.head?=N 125)->MC P s l[k] D (d+1) u v):VC P s (.obj l) a d W:=by
 unfold VC;have bh:Y (.obj l)=123::(av (ay l)++[125]):=by simp only[Y]
 rw[bh] at aS|-;have aT:s.data.toList.drop a=123::(av (ay l)++125::aX):=by rw[aS];simp
 have bc:=drop_one aT;obtain⟨b9,bb⟩:=drop_at aT;have bm:pY.D8 ((123:aj).toNat:Int)=M:=by decide
 have bj:(123::(av (ay l)++[125])).length=(av (ay l)).length+2:=by simp
 rw[bj];obtain⟨bo,aV⟩:=pL ((av (ay l)).length);have bg:(ay l).length=l.length:=by rw[Jv.A6];simp
 have bf:∀k(o:k<l.length)(ac:k<(ay l).length),(ay l)[k]=aO l[k]:=λk o ac=>by
  simp only[Jv.A6,oG];exact(encP_eq l[k]).symm
 have b4:=a9.lt;have ab:=(pM W (V #[X (N ⟨P,0,I⟩)] 204)).alloc (pM W (V #[X (N ⟨P,0,I⟩)] 204)).size (V #[K G 0,.bool M,K G 0,O ⟨#[]⟩,J I 0 0,J I 0 0,K G 0] 107);have aF:=ld W (V #[X (N ⟨P,0,I⟩)] 204) (V #[K G 0,.bool M,K G 0,O ⟨#[]⟩,J I 0 0,J I 0 0,K G 0] 107);have b5:=lV W (V #[X (N ⟨P,0,I⟩)] 204) (V #[K G 0,.bool M,K G 0,O ⟨#[]⟩,J I 0 0,J I 0 0,K G 0] 107);have ae:=H ab;have ag:=H (a9.below ab);have x0:=U (j:=0) aF rfl;have a4:=H aF;have a5:=H b5;have a2:=H (tL P a d s 123 _ (a9.below ab) F b9 bb bm);change Hid (aP _ _ _ _ (λe w'=>e=η (.int .u8 123)/\_)) at a2;have am:=H b4;have a6:=H b8;have h:=H (π F (π bd (π bc (π ba (π bi (π bg bf))))));have bs:=H b3;have bq:=H b1;rw[aV];have br:=H aV;have bE:∀(b2:Fn)(first cap:aQ aE)(w:Ξ),(Instr.makeFunc b2 first cap).run Λ w= .ok (.func b2 first cap) w:=λ_ _ _ _=>rfl
 clear aS aT bc b9 bb bm b8 b3 a9 ab aF b5 b4 bh F bd bi ba bg bf bj aV b1
 go_enter aK,aI
 go_wp2_with fail
 generalize(W.alloc (V #[X (N ⟨P,0,I⟩)] 204)).alloc (V #[K G 0,.bool M,K G 0,O ⟨#[]⟩,J I 0 0,J I 0 0,K G 0] 107)=bL at a2 ag ae a4 a5 x0|-;obtain⟨R,aR⟩:=pL (W.heap.size+1);obtain⟨B,aD⟩:=pL W.heap.size;have aq:=H (π aD aR);rw[aR] at a5|-;rw[aD] at a4 x0|-;clear aR aD;refine a2.o.mono ?_;rintro e A⟨rfl,T⟩;have ai:=H (ag.o.below T);have af:=pR ae T;have an:=H (pW T a5.o);have a7:=H (pW T a4.o);replace x0:=U (j:=0) a7.o rfl;have x1:=ai.o.c1;clear T a2 ag ae a4 a5;have Z:=pM A (V #[K G 0,.bool M,K G 0,O ⟨#[]⟩,J I 0 0,J I 0 0,K G a] 107);have b6:=pG A (V #[K G 0,.bool M,K G 0,O ⟨#[]⟩,J I 0 0,J I 0 0,K G a] 107);have ak:=H (ai.o.below Z);have a3:=pR af Z;have ao:=H (pW Z an.o);have a8:=H (pW Z a7.o);have C:=H b6;have au:=H (show R<A.heap.size/\B<A.heap.size from⟨ξ an.o,ξ a7.o⟩);have bp:=U (j:=0) a8.o rfl;clear Z b6 an ai;have ad:=U (j:=0) C.o rfl;have aB:=ny _ A.heap.size 0 _ _ C.o
 go_upto_region 4 with fail
 generalize b7:A.heap.size=b at C au ad aB|-;generalize A.alloc (V #[K G 0,.bool M,K G 0,O ⟨#[]⟩,J I 0 0,J I 0 0,K G a] 107)=L at ak a3 ao a8 C bp ad aB|-;have Q:=H (show W.heap.size<=b by rw[<-b7];exact af.o.size);clear b7 af a7 x0 x1;have g:=H (show b≠P/\R≠P/\B≠P/\R≠b/\B≠b from⟨by have:=am.o;have:=Q.o;omega,by have:=am.o;have:=aq.o;omega,by have:=am.o;have:=aq.o;omega,by have:=au.o;omega,by have:=au.o;omega⟩);have bD:=g.o.2.2.2.2
 go_wp2_with fail
 have bn:(L.setCell ⟨b,0,I⟩ (K G 5)).heap[b]?=N (Obj.cells #[K G 5,.bool M,K G 0,O ⟨#[]⟩,J I 0 0,J I 0 0,K G a] 107 (0,0)):=oO L b 0 _ _ (K G 5) C.o;have ar:=H bn;have al:=H (ak.o.setOther (j:=0) (x:=K G 5) g.o.1.symm);have m:=H ((Sd.qd (P:=P) a3.o).Ac (j:=0) (x:=K G 5) Q.o);have ap:=H ((pz L ⟨b,0,I⟩ R (K G 5) g.o.2.2.2.1).trans ao.o);have aw:=H (U (j:=0) ((pz L ⟨b,0,I⟩ B (K G 5) g.o.2.2.2.2).trans a8.o) rfl);have aZ:=H (show ah n.heap.size n (L.setCell ⟨b,0,I⟩ (K G 5)) from(a6.o.trans (a3.o.mono a6.o.size)).trans ⟨rfl,rfl,rfl,by simp[aA],λi aU=>pz _ _ _ _ (show i≠b by have:=a6.o.size;have:=Q.o;omega)⟩);clear bn ad aB bp bD ak a3 ao a8 C;generalize L.setCell ⟨b,0,I⟩ (K G 5)=p at ar al m ap aw aZ|-;have q:=H (show P<p.heap.size/\b<p.heap.size/\B<p.heap.size/\R<p.heap.size from⟨al.o.lt,ξ ar.o,aL aw.o,ξ ap.o⟩)
 have a1:=H (elems_m (ay l) (X (N ⟨b,0,I⟩)) (X (N ⟨B,0,I⟩)) 125 (by decide) (by decide) P a d s aX p (λk u=>∃z,Iv P b a 5 p u (J I 0 0) z/\My p.heap.size u z (l.take k)) al.o h.o.1 h.o.2.1 h.o.2.2.1 h.o.2.2.2.1
  ⟨J I 0 0,⟨rfl,rfl,rfl,oZ _,λ_ _ _ _=>rfl,ar.o⟩,by rw[lP];exact Row.nil⟩
  (λk u w o F=>by
    obtain⟨z,E,y⟩:=o;exact⟨z,E.sd F g.o.1,Kx y q.o.1 F⟩)
  (λk ac u D a0 bz f be bA=>by
    obtain⟨z,E,y⟩:=f;have o:k<l.length:=(by rw[<-h.o.2.2.2.2.2.1];exact ac);rw[h.o.2.2.2.2.2.2 k o ac] at be|-;refine(aag P b B a D (d+1) s l k o n p u z q.o.1 q.o.2.1 q.o.2.2.1 g.o.1 g.o.2.2.1 g.o.2.2.2.2 aw.o bs.o (by have:=a6.o.size;have:=Q.o;omega) aZ.o h.o.2.2.2.2.1 E y bz (λx v E y aa=>bq.o k o x v _ D a0 E y q.o.1 aa be bA)).mono ?_;rintro e w'⟨bx,aa,bw⟩;exact⟨bx,aa,bw⟩))
 rw[h.o.2.2.2.2.2.1,List.take_length,br.o] at a1;change Hid (aP _ _ #[_,.int .u8 125,_] _ _) at a1;refine a1.o.mono ?_;rintro e aY⟨rfl,⟨z,f,aW⟩,bl⟩;obtain⟨ax,cap,rfl⟩:=Row.slice aW;have ad:=U (j:=0) f.vb rfl;have bF:=U (j:=1) f.vb rfl;have bG:=U (j:=2) f.vb rfl;have bH:=U (j:=3) f.vb rfl;have bI:=U (j:=4) f.vb rfl;have bJ:=U (j:=5) f.vb rfl;have bK:=U (j:=6) f.vb rfl;have b0:=H ((f.block R q.o.2.2.2 g.o.2.1 g.o.2.2.2.1).trans ap.o);have bt:=H bl;have bu:=H aW;have bv:=H (show Sd P W aY from⟨f.os.trans m.o.os,f.tape.trans m.o.tape,f.output.trans m.o.output,pF m.o.size f.size,λi aU bk=>(f.block i (oQ aU m.o.size) bk (by have:=Q.o;omega)).trans (m.o.block i aU bk)⟩);clear f aW bl a1
 go_wp2_with(refine oN rfl 107 _ _ rfl R #[K G 5,.bool M,K G 0,O ⟨#[]⟩,J I 0 0,J ax l.length cap,K G a] rfl rfl 107 _ b0.o (by kernel_rfl) rfl (by simp[Ω]) ?_)
 go_wp2_with fail
 have bC:=og _ R _ #[K G 5,.bool M,K G 0,O ⟨#[]⟩,J I 0 0,J ax l.length cap,K G a] _ _ b0.o;refine ow (nL rfl _ _ R _ _ _ _ rfl bC ς rfl (by kernel_rfl)) rfl ?_;refine⟨⟨5,M,0,⟨#[]⟩,I,0,0,ax,l.length,cap,a,rfl,λw' bB=>N4 bu.o a w' λk E y aa=>?_⟩,?_,bv.o.Em (by have:=aq.o;omega)⟩
 ·rw[bB k (by have:=m.o.size;omega) (by rw[show(aY.setRow R _).heap.size=aY.heap.size from by simp[ο]];exact y) (by simp),oo _ R k _ (by have:=q.o;omega)]
 ·have e:a+(bo+2)=a+1+bo+1:=by omega
  rw[e];exact(oo _ R P _ g.o.2.1.symm).trans bt.o
def SA{j:Jv.J}(a:JS j)(f:JB j):∃c r,Y j=c::r/\Beg c:=by
 cases j with
 |null=>unfold JS at a;exact a.elim
 |bool b=>unfold JS at a;exact a.elim
 |int n=>
  unfold JB at f;have h:=Lx n f.1 f.2;have e:Y (.int n)=Jv.yR n:=(by simp only[Y])
  cases g:Jv.yR n with
  |nil=>exact absurd g h.ne
  |cons c r=>
   refine⟨c,r,e.trans g,?_⟩;have:=h.head;rw[g] at this;rcases this with d|d
   ·exact .inr (.inr (.inr (.inl d)))
   ·exact .inr (.inr (.inr (.inr d)))
 |str s=>exact⟨34,_,by simp only[Y];rfl,.inl rfl⟩
 |arr l=>exact⟨91,_,by simp only[Y];rfl,.inr (.inl rfl)⟩
 |obj l=>exact⟨123,_,by simp only[Y];rfl,.inr (.inr (.inl rfl))⟩
def SB{c:aj}(a:Beg c):c.toNat=34\/c.toNat=91\/c.toNat=123\/c.toNat=45\/(48<=c.toNat/\c.toNat<=57):=by
 rcases a with rfl|rfl|rfl|rfl|a
 ·exact .inl rfl
 ·exact .inr (.inl rfl)
 ·exact .inr (.inr (.inl rfl))
 ·exact .inr (.inr (.inr (.inl rfl)))
 ·exact .inr (.inr (.inr (.inr a)))
def Yv{c:aj}(a:Beg c):pY.D8 (c.toNat:Int)=M/\c≠93/\c≠125:=by
 have b:=SB a;refine⟨Tx.Ns (by omega),?_,?_⟩
 ·rintro rfl
  have:(93:aj).toNat=93:=rfl;omega
 ·rintro rfl
  have:(125:aj).toNat=125:=rfl;omega
def SC{b:aH aj}(a:b.head?=N 44\/b.head?=N 93\/b.head?=N 125):Stop b:=by intro c d;rcases a with a|a|a<;>rw[a] at d<;>cases d<;>decide
def Yw:Stop []:=λc a=>by cases a
def Qr{l:aH (Θ×Jv.J)}(d:(l.map (·.1)).Nodup){k:aM}(g:k<l.length):∀x∈l.take k,(x.1.toList==l[k].1.toList)=M:=by
 intro x b;rw[mP] at b;obtain⟨i,h,rfl⟩:=b;have j:i<l.length:=by omega
 rw[Bool.eq_false_iff];intro e;have a:=eq_of_beq e;rw[ByteArray.toList_eq,ByteArray.toList_eq] at a;have c:l[i].1=l[k].1:=Bs.vo a;have f:(l.map (·.1)).Pairwise (· ≠·):=d;have:=(List.pairwise_iff_getElem.1 f) i k (by rw[oS];omega) (by rw[oS];exact g) (by omega);rw[oG,oG] at this;exact this c
def Hu(P:aM)(s:Θ)(f:Ξ)(y:Jw.B8 f)(o:f.heap.size<=P)(p:s.size<=1000000000):∀(m d:aM)(j:Jv.J)(a:aM)(h:aH aj)(W:Ξ),d+m=100->aG (d+1) j->JB j->JS j->Ps P s a d W->ah f.heap.size f W->Stop h->s.data.toList.drop a=Y j++h->VC P s j a d W
 |0,d,j,a,h,W,hm,ho,hb,hj,i,hW,hp,hd=>by
  exfalso
  cases j<;>simp only[aG] at ho<;>omega
 |m+1,d,j,a,h,W,hm,ho,hb,hj,i,hW,hp,hd=>by
  cases j with
  |null=>unfold JS at hj;exact hj.elim
  |bool b=>unfold JS at hj;exact hj.elim
  |int n=>
   unfold JB at hb
   exact Ep P a d s n h W i p hb.1 hb.2 hp hd
  |str t=>
   simp only[aG] at ho
   exact Eo P a d s t h f W i p y hW o ho.2 hd
  |arr l=>
   simp only[aG] at ho;unfold JB at hb;unfold JS at hj;rw[Jv.wU] at ho;rw[wV] at hb;rw[yG] at hj;refine Er P a d s l h f W i p hW o ho.1 hb.1 hd (λt w=>?_) (λk g u A z B q C D=>?_)
   ·rw[Jv.uN] at w
    obtain⟨x,E,rfl⟩:=List.mem_map.1 w;obtain⟨c,r,e,F⟩:=SA (hj x E) (hb.2 x E);exact⟨c,r,e,(Yv F).1,(Yv F).2.1⟩
   ·exact Hu P s f y o p m (d+1) l[k] A z u (by omega) (ho.2 _ (pq g)) (hb.2 _ (pq g)) (hj _ (pq g)) B q (SC (D.imp id .inl)) C
  |obj l=>
   simp only[aG] at ho;unfold JB at hb;unfold JS at hj;rw[Jv.K5] at ho;rw[K9] at hb;rw[SD] at hj;refine Es P a d s l h f W i p hW o ho.1 hb.1 hd (λt w=>?_) (λk g u v S A z B q a0 a1 C D=>?_)
   ·rw[Jv.A6] at w
    obtain⟨x,E,rfl⟩:=List.mem_map.1 w;exact⟨34,_,rfl,by decide,by decide⟩
   ·unfold MC
    refine(Ec P S A (d+1) s l[k].1 l[k].2 z v (l.take k) f u B p a0 y q o (ho.2.2 _ (pq g)).1 C a1 (Qr ho.2.1 g) (by rw[nQ];omega) (λx L Q R T=>?_)).mono λe w' i=>i
    have Z:ah f.heap.size f x:=q.trans (R.under o q.size);exact Hu P s f y o p m (d+1) l[k].2 L z x (by omega) (ho.2.2 _ (pq g)).2 (hb.2 _ (pq g)).2 (hj _ (pq g)) Q Z (SC (D.imp id .inr)) T
def idle_is(p q r:aE)(w:Ξ):
 CallsD Λ 130 #[p,q,r] .returning w λe d w'=>e=η (.tuple #[])/\d= .returning/\w'=w:=by
 refine callsD_of_wpS Tryz.func130 rfl λa cs c=>?_
 apply wpS_seq;apply wpS_region;simp[wpOpsS,go_sem,recoverD,c,Tryz.ntmps130,Exit.thenS];have b:∀w,(binOp .neq 20 .nilIface .nilIface).run Λ w= .ok (.bool M) w:=λw=>run_neq_nil_nil w 20 (by first|exact Tryz.underlying20|kernel_rfl)
 apply wpS_seq;apply wpS_region;simp[wpOpsS,go_sem,b,Exit.thenS];refine wpS_cond (t:=M) (by simp[Act.eval,Array.replicate]) ?_;simp only[nH,lQ];refine wpS_of_wp (wp_skip ?_);cases a
 simp_all[bodyPostS,results,Tryz.results130]
def Qt{P:Program}{c:Func}{p q r:Tmp}{ty t2 t3:TypeId}(h:c.results=#[.cell p ty,.cell q t2,.cell r t3])(tmps:aQ aE)(w:Ξ)(g:aM)(t:TypeId)(cs:aQ aE)(e:aM×aM)(d:TypeDesc)(x f:aE)
 (n:tmps.getD p aJ=X (N ⟨g,0,I⟩)) (l:w.heap[g]?=N (V cs t e))
 (z:P.underlying ty=N d) (k:(match d with| .struct _| .array _ _=>true|_=>M)=true) (m:(P.info? ty).map (·.size)=N cs.size)
 (a b:Addr) (s:tmps.getD q aJ=X (N a)) (v:tmps.getD r aJ=X (N b)) (i:(aC t2 a).run P w= .ok x w) (j:(aC t3 b).run P w= .ok f w):
 (results c tmps).run P w= .ok (.tuple #[.agg cs,x,f]) w:=by
 have o:tmps[p]?.getD aJ=X (N ⟨g,0,I⟩):=by simpa using n
 have u:tmps[q]?.getD aJ=X (N a):=by simpa using s
 have y:tmps[r]?.getD aJ=X (N b):=by simpa using v
 simp[results,h,o,u,y,asAddr,iq w g t ty cs e d l z k m,i,j]
abbrev zV:Obj:=V #[K G 0,.bool M,K G 0,O ⟨#[]⟩,J I 0 0,J I 0 0,K G 0] 107
abbrev zI:Obj:=V #[K G 0] 3
abbrev zE:Obj:=V #[K G 0] 36
abbrev zP(s:Θ):Obj:=V #[O s,K G 0,K G 0] 206
def four{W w:Ξ}{a b c d:Obj}(p:(((W.alloc a).alloc b).alloc c).alloc d=w):ah W.heap.size W w/\w.heap[W.heap.size]?=N a/\w.heap[W.heap.size+1]?=N b/\w.heap[W.heap.size+1+1]?=N c/\w.heap[W.heap.size+1+1+1]?=N d:=by
 subst p;have m:(W.alloc a).heap.size=W.heap.size+1:=nI _;have n:((W.alloc a).alloc b).heap.size=W.heap.size+1+1:=by rw[<-m];exact nI _
 have r:(((W.alloc a).alloc b).alloc c).heap.size=W.heap.size+1+1+1:=by rw[<-n];exact nI _
 have e:=pM W a;have f:=e.alloc e.size b;have g:=f.alloc f.size c;have q:=pG W a;have h:=pG (W.alloc a) b;have i:=pG ((W.alloc a).alloc b) c;have j:=pG (((W.alloc a).alloc b).alloc c) d;rw[m] at h;rw[n] at i;rw[r] at j;have o:=λ(w:Ξ) (x:Obj) (k:aM) (s:Obj) (l:w.heap[k]?=N s)=>(heap_alloc_old w x (ξ l)).trans l
 exact⟨g.alloc g.size d,o _ _ _ _ (o _ _ _ _ (o _ _ _ _ q)),o _ _ _ _ (o _ _ _ _ h),o _ _ _ _ i,j⟩
def PR(W:Ξ)(j:Jv.J)(n:aM)(e:Ending)(w':Ξ):Prop:=∃k b m t a d c1 c f c2 p,e=η (.tuple #[.agg #[K G k,.bool b,K G m,O t,J a d c1,J c f c2,K G p],K G n,K G 0])/\yL W.heap.size w' j (qh k b m t (J a d c1) (J c f c2) p)
def V2(s:Θ)(j:Jv.J)(W:Ξ)(b0:Jw.B8 W)(ak:s.size<=1000000000)(a1:s.data.toList=Y j)(R:aG 1 j)(E:JB j)(af:JS j):
 aP Λ 70 #[O s] W λe w'=>PR W j s.size e w'/\ah W.heap.size W w':=by
 have bw:∀(aZ:Fn)(first cap:aQ aE)(w:Ξ),(Instr.makeFunc aZ first cap).run Λ w= .ok (.func aZ first cap) w:=λ_ _ _ _=>rfl
 have a2:=H (λu=>Tryz.strings_HasPrefix s ⟨#[239,187,191]⟩ u)
 have b3:Lib.hasPrefix s.data.toList (⟨#[239,187,191]⟩:Θ).data.toList=M:=by
  obtain⟨c,r,e,bm⟩:=SA af E;rw[a1,e];have bx:=SB bm
  have:c≠239:=by rintro rfl;have:(239:aj).toNat=239:=rfl;omega
  show List.isPrefixOf [239,187,191] (c::r)=M
  have x:((239:aj)==c)=M:=(by simpa using jY this);simp[List.isPrefixOf,x]
 rw[b3] at a2;have b1:(Y j).length=s.size:=by rw[<-a1];simp
 have aV:=H (λ(P:aM) (bl:W.heap.size<=P) (u:Ξ) (z:Ps P s 0 0 u) (x:ah W.heap.size W u)=>Hu P s W b0 bl ak 100 0 j 0 [] u rfl R E af z x Yw (by rw[nO,nC];exact a1));have ap:=H (π ak b1);clear b0 a1 R E af ak b1 b3
 go_enter_defers Tryz.func70,Tryz.ntmps70
 go_wp2_with fail
 generalize b7:(((W.alloc zV).alloc zI).alloc zE).alloc (zP s)=bs;obtain⟨aY,bc,bd,be,bf⟩:=four b7;have T:=H aY;have a6:=H bc;have a8:=H bd;have a9:=H be;have aq:=H (show Ps (W.heap.size+1+1+1) s 0 0 bs from bf);clear b7 aY bc bd be bf;refine(a2.o _).mono ?_;rintro e o⟨rfl,rfl⟩;have a3:=H (aV.o _ (by omega) o aq.o T.o);unfold VC at a3;clear aV a2
 go_wp2_with fail
 refine a3.o.mono ?_;rintro e m⟨⟨h,vb,i,l,a,d,c1,b,g,c2,vp,rfl,al⟩,ai,F⟩;rw[ap.o.2,nh] at ai;have ag:W.heap.size<o.heap.size/\W.heap.size+1+1<o.heap.size/\W.heap.size+1<o.heap.size:=⟨ξ a6.o,ξ a9.o,ξ a8.o⟩;have a7:=H (F.heap a6.o (by omega));have au:=H (F.heap a8.o (by omega));have aw:=H (F.heap a9.o (by omega));have am:=H (show ah W.heap.size W m from T.o.trans (F.under (by omega) T.o.size));have aS:=H (show yL W.heap.size m j (qh h vb i l (J a d c1) (J b g c2) vp)/\o.heap.size<=m.heap.size from⟨al.base (T.o.size),F.size⟩);have aW:=H al;have a5:=H ag;have ar:=H ai;clear al ai F ag a3 a6 a8 a9 aq
 go_wp2_with(refine oN rfl 107 _ _ rfl W.heap.size #[K G h,.bool vb,K G i,O l,J a d c1,J b g c2,K G vp] rfl rfl 107 _ a7.o (by kernel_rfl) rfl (by simp[Ω]) ?_)
 have aa:=H (og m W.heap.size _ #[K G h,.bool vb,K G i,O l,J a d c1,J b g c2,K G vp] _ _ a7.o);have b2:∀k,k≠W.heap.size->(m.setRow W.heap.size #[K G h,.bool vb,K G i,O l,J a d c1,J b g c2,K G vp]).heap[k]?=m.heap[k]?:=λk Q=>oo m _ k _ Q
 have b5:(m.setRow W.heap.size #[K G h,.bool vb,K G i,O l,J a d c1,J b g c2,K G vp]).heap.size=m.heap.size:=by simp[ο]
 have y:=H (π b2 b5);have a4:=H (pS am.o (oZ _) #[K G h,.bool vb,K G i,O l,J a d c1,J b g c2,K G vp]);clear b2 b5;have Z:=H (show Ps (W.heap.size+1+1+1) s s.size 0 _ from(y.o.1 _ (by omega)).trans ar.o);have ab:=H ((y.o.1 (W.heap.size+1) (by omega)).trans au.o);have ac:=H ((y.o.1 (W.heap.size+1+1) (by omega)).trans aw.o);have ae:=H (show∀w',aN o.heap.size (m.setRow W.heap.size #[K G h,.bool vb,K G i,O l,J a d c1,J b g c2,K G vp]) w' I->Jv w' j (qh h vb i l (J a d c1) (J b g c2) vp) fromλw' D=>aW.o w' λk z x L=>(D k z (by rw[y.o.2];exact x) L).trans (y.o.1 k (by have:=a5.o;omega)));have aX:=H (show o.heap.size<=(m.setRow W.heap.size #[K G h,.bool vb,K G i,O l,J a d c1,J b g c2,K G vp]).heap.size by rw[y.o.2];exact aS.o.2);clear ar a7 au aw aS aW am y;generalize m.setRow W.heap.size #[K G h,.bool vb,K G i,O l,J a d c1,J b g c2,K G vp]=bt at aa a4 Z ab ac ae aX|-;refine(JW _ s.size 0 s bt Z.o ap.o.1 (oZ _) (λbk=>absurd bk (h_ _))).mono ?_;rintro e t⟨rfl,A⟩;have an:=pR a4 A;have v:=pW A aa.o;have B:=pW A ab.o;have C:=pW A ac.o;have y1:=(Z.o.below A).c1;have x0:=U (j:=0) v rfl;have x1:=U (j:=1) v rfl;have x2:=U (j:=2) v rfl;have x3:=U (j:=3) v rfl;have x4:=U (j:=4) v rfl;have x5:=U (j:=5) v rfl;have x6:=U (j:=6) v rfl;have ad:=H v;have ax:=H B;have aB:=H C;have aT:=H (show∀w',aN o.heap.size t w' I->Jv w' j (qh h vb i l (J a d c1) (J b g c2) vp) fromλw' D=>ae.o w' (Agree.below A D));clear A v B C a4 aa ab ac Z ae aX
 go_wp2_with(refine oN rfl 107 _ _ rfl W.heap.size #[K G h,.bool vb,K G i,O l,J a d c1,J b g c2,K G vp] rfl rfl 107 _ ad.o (by kernel_rfl) rfl (by simp[Ω]) ?_;have b4:=og t W.heap.size _ #[K G h,.bool vb,K G i,O l,J a d c1,J b g c2,K G vp] _ _ ad.o;have a0:∀k,k≠W.heap.size->(t.setRow W.heap.size #[K G h,.bool vb,K G i,O l,J a d c1,J b g c2,K G vp]).heap[k]?=t.heap[k]?:=(λk Q=>oo t _ k _ Q);have b6:(t.setRow W.heap.size #[K G h,.bool vb,K G i,O l,J a d c1,J b g c2,K G vp]).heap.size=t.heap.size:=(by simp[ο]);have ao:=H (pS an.o (oZ _) #[K G h,.bool vb,K G i,O l,J a d c1,J b g c2,K G vp]);have aD:=H b4;have B:=(a0 (W.heap.size+1) (by omega)).trans ax.o;have C:=(a0 (W.heap.size+1+1) (by omega)).trans aB.o;have aF:=H B;have aR:=H C;have bu:=U (j:=0) B rfl;have bv:=U (j:=0) C rfl;have bi:=ny _ _ 0 _ _ B;have bj:=ny _ _ 0 _ _ C;have aU:=H (show∀w',aN o.heap.size (t.setRow W.heap.size #[K G h,.bool vb,K G i,O l,J a d c1,J b g c2,K G vp]) w' I->Jv w' j (qh h vb i l (J a d c1) (J b g c2) vp) fromλw' D=>aT.o w' λk z x L=>(D k z (by rw[b6];exact x) L).trans (a0 k (by have:=a5.o;omega)));clear b4 a0 b6 B C x0 x1 x2 x3 x4 x5 x6 y1 ad ax aB an aT;change wpList _ _ _ _ _ (t.setRow W.heap.size #[K G h,.bool vb,K G i,O l,J a d c1,J b g c2,K G vp]);generalize t.setRow W.heap.size #[K G h,.bool vb,K G i,O l,J a d c1,J b g c2,K G vp]=n at ao aD aF aR bu bv bi bj aU|-)
 have bo:=oO n (W.heap.size+1) 0 _ _ (K G s.size) aF.o;have bp:=(pz n ⟨W.heap.size+1,0,I⟩ (W.heap.size+1+1) (K G s.size) (show _≠W.heap.size+1 by omega)).trans aR.o;have bb:=oO (n.setCell ⟨W.heap.size+1,0,I⟩ (K G s.size)) (W.heap.size+1+1) 0 _ _ (K G 0) bp;have ba:=(pz (n.setCell ⟨W.heap.size+1,0,I⟩ (K G s.size)) ⟨W.heap.size+1+1,0,I⟩ (W.heap.size+1) (K G 0) (show _≠W.heap.size+1+1 by omega)).trans bo;have bn:=(pz n ⟨W.heap.size+1,0,I⟩ W.heap.size (K G s.size) (show _≠W.heap.size+1 by omega)).trans aD.o;have b9:=(pz (n.setCell ⟨W.heap.size+1,0,I⟩ (K G s.size)) ⟨W.heap.size+1+1,0,I⟩ W.heap.size (K G 0) (show _≠W.heap.size+1+1 by omega)).trans bn;have ag:=a5.o;have R:∀k,o.heap.size<=k->((n.setCell ⟨W.heap.size+1,0,I⟩ (K G s.size)).setCell ⟨W.heap.size+1+1,0,I⟩ (K G 0)).heap[k]?=n.heap[k]?:=λk Q=>(pz _ _ k _ (show k≠W.heap.size+1+1 by omega)).trans (pz _ _ k _ (show k≠W.heap.size+1 by omega))
 have b8:((n.setCell ⟨W.heap.size+1,0,I⟩ (K G s.size)).setCell ⟨W.heap.size+1+1,0,I⟩ (K G 0)).heap.size=n.heap.size:=by simp[aA]
 have E:ah W.heap.size W ((n.setCell ⟨W.heap.size+1,0,I⟩ (K G s.size)).setCell ⟨W.heap.size+1+1,0,I⟩ (K G 0)):=
  ao.o.trans ⟨rfl,rfl,rfl,lG b8.symm,λk Q=>(pz _ _ k _ (show k≠W.heap.size+1+1 by omega)).trans (pz _ _ k _ (show k≠W.heap.size+1 by omega))⟩
 generalize(n.setCell ⟨W.heap.size+1,0,I⟩ (K G s.size)).setCell ⟨W.heap.size+1+1,0,I⟩ (K G 0)=S at b9 ba bb R b8 E|-;have bg:=U (j:=0) ba rfl;have bh:=U (j:=0) bb rfl
 have l2:(aC 3 ⟨W.heap.size+1,0,I⟩).run Λ S= .ok (K G s.size) S:=by simp[aC,loadCells,go_sem,bg]
 have bq:(aC 36 ⟨W.heap.size+1+1,0,I⟩).run Λ S= .ok (K G 0) S:=by simp[aC,loadCells,go_sem,bh]
 refine leaves_cons (f:=130) (args:=#[X (N ⟨W.heap.size,0,I⟩),X (N ⟨W.heap.size+1,0,I⟩),X (N ⟨W.heap.size+1+1,0,I⟩)]) (by simp) (by simp[go_sem]) ?_;refine(idle_is _ _ _ S).mono ?_;rintro e bz br⟨rfl,rfl,rfl⟩;simp only[settle,Leaves];refine⟨_,Qt (p:=2) (q:=3) (r:=4) (ty:=107) (t2:=3) (t3:=36) (by kernel_rfl) _ br W.heap.size _ _ _ _ _ _ (by rfl) b9 (by first|exact ς|kernel_rfl) rfl (by kernel_rfl) _ _ (by rfl) (by rfl) l2 bq,⟨h,vb,i,l,a,d,c1,b,g,c2,vp,rfl,?_⟩,E⟩;intro w' D;exact aU.o w' λk z x L=>(D k (by omega) (by omega) L).trans (R k z)
end Pj
end Go.Proofs.YthbhmjdcfocphaaGreatDoor
