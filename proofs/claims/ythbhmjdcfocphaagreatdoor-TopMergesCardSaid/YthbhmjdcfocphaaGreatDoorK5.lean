/- A part of this proof. -/
import Derived.Test.YthbhmjdcfocphaaGreatDoorK3
set_option linter.all false
set_option maxHeartbeats 16000000
set_option maxRecDepth 100000
namespace Go.Proofs.YthbhmjdcfocphaaGreatDoor
open Go.Value renaming string→H, slice→G, pointer→ε, int→I
open Go.Obj renaming cells→N
open Go.Ending renaming returned→η
open Go.IntKind renaming i64→J
open Go.Lib renaming hid→K
open Go.Proofs.Tryz renaming prog→O
open Go.RowKit renaming Below→M
open Go renaming Calls→U, World→V, Value→χ
namespace Xw
open RowKit Rw Vf Mw Me Gr Rg Xm Nd
structure XT(w:V):Prop where
 wt:WT w
 nt:Tx.uM w
def XT.below{w w':V}(a:XT w)(b:M w.heap.size w w'):XT w':=⟨a.wt.below b,a.nt.below b⟩
def TQ(s:ByteArray)(h:s.size<=5000)(c:Mo.s_ s=true)(w:V)(d:XT w):U O 302 #[H s] w λe w'=>e=η (.bool true)/\M w.heap.size w w':=by
 obtain⟨n,b⟩:=Np.Rr s (by omega) c;have g:=K (b w d.wt);clear b c h d
 go_enter Tryz.func302,Tryz.ntmps302
 go_wp2_with fail
 refine g.o.mono ?_;rintro e w'⟨rfl,a⟩;have f:=K a;clear a
 go_wp2_with fail
 go_ret;exact⟨rfl,f.o⟩
def Jz(s:ByteArray)(b:s∈nice)(w:V)(a:XT w):U O 300 #[H s] w λe w'=>e=η (.bool true)/\M w.heap.size w w':=Tx.pqn_is s (Tx.DY b) w ⟨a.wt.u8,a.nt⟩
def TR(a:List (ByteArray×ByteArray))(va:χ)(W:V)(b:XT W)(Z:Rw W va 4 (a.map tN))(P:OkAt a):U O 301 #[va] W λe w'=>e=η (.bool true)/\M W.heap.size W w':=by
 obtain⟨ap,aq,an,ao,rfl,E,a0⟩:=vW Z;obtain⟨l,F⟩:=pL a.length;have ah:=P.ln;rw[F] at E ah|-;have a8:=K F;have a7:=K E;have a9:=K a0;have z:=K P;have af:=K b;have A:=K ((Seen.new W).congr (g:=λs=>(a.take 0).any λx=>s==x.1.data.toList) λs=>rfl);have u:=K (pM W (.map #[] 0));clear F E a0 P b Z;have ak:=@run_makeMap O
 go_enter Tryz.func301,Tryz.ntmps301
 go_wp2_with fail
 clear ak;generalize W.alloc (.map #[] 0)=aA at A u|-;generalize Y:W.heap.size=B at A u|-;have y:=K Y;clear Y
 go_loopw [9] (λx wr=>∃k:Nat,k<=l/\x=I J k/\Hid (Seen wr B k λs=>(a.take k).any λx=>s==x.1.data.toList)/\Hid (M B W wr)) (λx _=>l-(intOf x).toNat)
 case atStart=>exact⟨0,oM _,rfl,A,u⟩
 case round=>
  obtain⟨k,av,rfl,a3,a1⟩:=hrel;have S:=K a3.o;have c:=K (show M W.heap.size W wr by rw[y.o];exact a1.o);clear a3 a1
  by_cases aj:k<l
  ·obtain rfl:=a7.o (by omega)
   have m:k<a.length:=(by rw[a8.o];exact aj);obtain⟨Q,y1,y2,y3⟩:=a9.o k m;replace Q:=pI Q c.o;replace y1:=pI y1 c.o;replace y2:=pI y2 c.o;replace y3:=pI y3 c.o;have n:=z.o.nm _ (pq m);have o:=z.o.vs _ (pq m)
   have t:((a.take k).any λx=>a[k].1.data.toList==x.1.data.toList)=false:=by rw[kj];intro x b e;obtain⟨j,au,rfl⟩:=List.mem_take_iff_getElem.1 b;have X:=List.pairwise_iff_getElem.1 z.o.nd j k (by rw[oS];omega) (by rw[oS];exact m) (by omega);simp only[oG] at X;exact X (Bs.vo (by simpa using e)).symm
   have T:=K (Mg.qi m);generalize a[k]=at' at y1 y2 n o t T;obtain⟨nm,v⟩:=at';simp only at y1 y2 n o t;have aw:=zb n;have a6:=K (λw b=>Jz nm n w b);have a5:=K (λw b=>TQ v o.2 o.1 w b);have az:(k:Int)<(l:Int):=(by omega);have ay:(0:Int)<=(k:Int):=(by omega);have L:=pM wr (bA (H ⟨#[]⟩) (H nm) (H v) (I J 0));have i:=K (pG wr (bA (H ⟨#[]⟩) (H nm) (H v) (I J 0)));have p:=K (c.o.trans (L.mono c.o.size));have C:=K (S.o.below L);have D:=K (af.o.below p.o);clear n o L
   go_upto_region 5 with fail
   change Code.wp _ _ _ _ (wr.alloc (bA (H ⟨#[]⟩) (H nm) (H v) (I J 0)));have ab:=K S.o.lt;generalize wr.alloc (bA (H ⟨#[]⟩) (H nm) (H v) (I J 0))=aB at i p C D|-;generalize wr.heap.size=am at i ab|-;clear Q y1 y2 y3;have x0:=pJ (j:=0) i.o rfl;have x1:=pJ (j:=1) i.o rfl;have x2:=pJ (j:=2) i.o rfl;have ai:=C.o.look nm (by omega) (v:=false) t;clear t
   go_wp2_with fail
   refine(a6.o _ D.o).mono ?_;rintro e aC⟨rfl,d⟩;replace x0:=pI x0 d;replace x1:=pI x1 d;replace x2:=pI x2 d;have R:=K (p.o.trans (d.mono p.o.size));have ac:=K (C.o.below d);have ag:=K (D.o.below d);clear d ai
   go_wp2_with fail
   refine(a5.o _ ag.o).mono ?_;rintro e aD⟨rfl,r⟩;replace x1:=pI x1 r;have f:=K (R.o.trans (r.mono R.o.size));have ad:=K (ac.o.below r);clear r x0 x2;obtain⟨al,ax,a4,h⟩:=ad.o.put nm (by omega) (by unfold maxLen;omega);have ae:=K (a4.congr (g:=λs=>(a.take (k+1)).any λx=>s==x.1.data.toList) λs=>by rw[T.o,List.any_append];simp[Bool.or_comm]);have aa:=K (show M B W al from⟨h.os.trans f.o.os,h.tape.trans f.o.tape,h.output.trans f.o.output,pF f.o.size h.size,λq a2=>(h.block q (oQ (by rw[y.o];exact a2) f.o.size) (λe=>by have:=nV e;omega)).trans (f.o.block q (by rw[y.o];exact a2))⟩);clear a4 h
   go_wp2_with fail
   go_roundw
   case rel=>exact⟨k+1,by omega,by go_num,ae,aa⟩
   case measure=>simp[intOf];omega
  ·have ar:decide ((k:Int)<(l:Int))=false:=o9 (by omega)
   go_wp2_with fail
   go_ret;exact⟨rfl,c.o⟩
def TS(t:T):∀(c:List χ)(d:Nat)(W:V),tQ W t c->Fk t->XT W->d+dep t<=101->U O 252 #[.agg c.toArray,I J d] W λe w'=>e=η (.bool true)/\M W.heap.size W w':=by
 induction t using T.ind
 rename_i n a ks ag
 intro c d W a8 af v Y;unfold tQ at a8;obtain⟨va,aM,L,rfl,R,aa,Q⟩:=a8;unfold Fk at af;obtain⟨k,ae,ay,ab⟩:=af;have y:=K (λu (g:M W.heap.size W u)=>TR a va u (v.below g) (R.under g) ae);have a3:=K (λu (g:M W.heap.size W u)=>Jz n k u (v.below g));obtain⟨aC,aD,D,E,rfl,-,-⟩:=vW R;obtain⟨aK,aL,a0,a1,rfl,Z,ac⟩:=xD aa (AR Q);obtain⟨F,a5⟩:=pL a.length;obtain⟨f,s⟩:=pL ks.length;rw[a5] at y|-;rw[s] at Z ay|-;unfold dep at Y;have al:=K s;have ak:=K Z;have an:=K ac;have am:=K ab;have ap:=K v;have ao:=K ((AR Q).1.trans s);have aq:=K ag;have aj:=K Y;have aF:(d:Int)<=100:=by omega
 have a9:=pG W (bN n (G D F E) (G a0 f a1));have A:=K (pM W (bN n (G D F E) (G a0 f a1)));obtain⟨ar,au,av,P,p,aw,ax⟩:=ql (pH _ _) a9;clear a9 R aa Q Z ac k ae ab a5 s ag v Y
 show U O 252 #[.agg #[I J 0,H ⟨#[]⟩,H n,G D F E,G a0 f a1,H ⟨#[]⟩,I J 0],I J d] W _
 go_enter Tryz.func252,Tryz.ntmps252
 go_wp2_with fail
 refine(a3.o _ A.o).mono ?_;rintro e aN⟨rfl,q⟩;have B:=pR A q;replace P:=pI P q;replace p:=pI p q;clear q ar au av aw ax
 go_wp2_with fail
 refine(y.o _ B.o).mono ?_;rintro e aO⟨rfl,S⟩;have ah:=pR B S;replace p:=pI p S;clear S P A B a3 y
 go_wp2_with fail
 go_loopw [5,40] (λaA x az=>∃j:Nat,j<=f/\x=I J j/\aA= .bool false/\Hid (M W.heap.size W az)) (λ_ x _=>f-(intOf x).toNat)
 case atStart=>exact⟨0,oM _,rfl,rfl,ah⟩
 case round=>
  obtain⟨j,aH,rfl,rfl,a6⟩:=hrel;have b:=K a6.o;clear a6
  by_cases ad:j<f
  ·obtain rfl:=ak.o (by omega)
   have r:j<ks.length:=(by rw[al.o];exact ad);obtain⟨o,h,l,c1,i,m,c2,e,k,a2,y1,y2,y3,y4,y5,y6⟩:=an.o j r (by rw[ao.o];exact ad);replace a2:=pI a2 b.o;replace y1:=pI y1 b.o;replace y2:=pI y2 b.o;replace y3:=pI y3 b.o;replace y4:=pI y4 b.o;replace y5:=pI y5 b.o;replace y6:=pI y6 b.o;have aJ:(j:Int)<(f:Int):=(by omega);have aI:(0:Int)<=(j:Int):=(by omega);have a7:=pM wr (bN o (G h l c1) (G i m c2));have w:=pG wr (bN o (G h l c1) (G i m c2));have C:=pR b a7
   have a4:=K (λu (g:M W.heap.size W u)=>show U O 252 #[.agg #[I J 0,H ⟨#[]⟩,H o,G h l c1,G i m c2,H ⟨#[]⟩,I J 0],I J ((d:Int)+1)] u λe w'=>e=η (.bool true)/\M u.heap.size u w' from by have aG:=Gq (pq r);have z:=aq.o _ (pq r) _ (d+1) u (tQ.under g _ _ k) (Bv am.o (pq r)) (ap.o.below g) (by have:=aj.o;omega);rw[e] at z;rw[show((d+1:Nat):Int)=(d:Int)+1 by omega] at z;exact z)
   clear e k a7
   go_upto_region 7 with fail
   change Code.wp _ _ _ _ (wr.alloc (bN o (G h l c1) (G i m c2)));generalize wr.alloc (bN o (G h l c1) (G i m c2))=aP at w C|-;generalize wr.heap.size=aB at w|-;clear a2 y1 y2 y3 y4 y5 y6;obtain⟨x0,x1,x2,x3,x4,x5,x6⟩:=ql (pH _ _) w;clear w
   go_wp2_with fail
   refine(a4.o _ C.o).mono ?_;rintro e aQ⟨rfl,X⟩;replace x0:=pI x0 X;have ai:=pR C X;clear X x1 x2 x3 x4 x5 x6 a4
   go_wp2_with fail
   go_roundw
   case rel=>exact⟨j+1,by omega,by go_num,rfl,ai⟩
   case measure=>simp[intOf];omega
  ·have aE:decide ((j:Int)<(f:Int))=false:=o9 (by omega)
   go_wp2_with fail
   go_ret;exact⟨rfl,b.o⟩
def Pn(t:T)(c:List χ)(W:V)(f:tQ W t c)(k:Fk t)(l:XT W)(y:dep t<=100):U O 194 #[.agg c.toArray] W λe w'=>e=η (I J 0)/\M W.heap.size W w':=by
 obtain⟨n,b,g,c1,d,h,c2,rfl⟩:=f.form;have j:=pG W (bN n (G b g c1) (G d h c2));have a:=pM W (bN n (G b g c1) (G d h c2));have m:=K (TS t _ 1 _ (tQ.under a _ _ f) k (l.below a) (by omega));have o:=K a;obtain⟨q,r,s,u,v,w,x⟩:=ql (pH _ _) j;clear j f k a l
 show U O 194 #[.agg #[I J 0,H ⟨#[]⟩,H n,G b g c1,G d h c2,H ⟨#[]⟩,I J 0]] W _
 go_enter Tryz.func194,Tryz.ntmps194
 go_wp2_with fail
 refine m.o.mono ?_;rintro e z⟨rfl,i⟩;have p:=pR o i;clear i
 go_wp2_with fail
 go_ret;exact⟨rfl,p.o⟩
def Po(w:V)(x v:χ)(t:TypeId):(w.alloc (N #[x] t)).setCell ⟨w.heap.size,0,none⟩ v=w.alloc (N #[v] t):=by
 have e:((w.alloc (N #[x] t)).setCell ⟨w.heap.size,0,none⟩ v).heap=(w.alloc (N #[v] t)).heap:=by
  apply jQ;intro i
  by_cases a:i=w.heap.size
  ·subst a
   rw[oO _ _ 0 #[x] t v (pG w _),pG];rfl
  ·rw[pz _ _ _ _ a]
   unfold World.alloc;simp[kJ,a]
 have b:(w.alloc (N #[x] t)).setCell ⟨w.heap.size,0,none⟩ v={w.alloc (N #[v] t) with heap:=((w.alloc (N #[x] t)).setCell ⟨w.heap.size,0,none⟩ v).heap}:=rfl;rw[b,e]
def Pp(t:T)(c:List χ)(W:V)(P:tQ W t c)(S:Fk t)(aa:XT W)(an:dep t<=100)(a5:(enc t).length<=1000000000000):U O 127 #[.agg c.toArray] W λe w'=>e=η (.tuple #[H ⟨(doc t).toArray⟩,I J 0])/\M W.heap.size W w':=by
 obtain⟨n,m,r,c1,o,s,c2,rfl⟩:=P.form;have R:=pG W (bN n (G m r c1) (G o s c2));have q:=pM W (bN n (G m r c1) (G o s c2));have x:=K (tQ.under q _ _ P);have u:=K (Pn t _ _ x.o S (aa.below q) an);have Z:=K q;have z:=K R;have ah:=K S;have a2:=K a5;obtain⟨d,f,g,h,i,k,l⟩:=ql (pH _ _) R;clear R P S q aa a5
 show U O 127 #[.agg #[I J 0,H ⟨#[]⟩,H n,G m r c1,G o s c2,H ⟨#[]⟩,I J 0]] W _
 go_enter Tryz.func127,Tryz.ntmps127
 go_wp2_with fail
 generalize W.alloc (bN n (G m r c1) (G o s c2))=aq at Z z x u d f g h i k l|-;generalize W.heap.size=B at z d f g h i k l|-;refine u.o.mono ?_;rintro e a⟨rfl,p⟩;have a0:=pR Z p;have a1:=K (pW p z.o);have af:=K (tQ.under p _ _ x.o);clear p u d f g h i k l
 go_upto_region 6 with fail
 obtain⟨ak,gf,am⟩:=sM a (N #[ε none,G none 0 0] (86:Nat)) (N #[.nilFunc] (266:Nat));have ab:(a.alloc (N #[ε none,G none 0 0] (86:Nat))).heap.size=a.heap.size+1:=nI _;have Q:=Po (a.alloc (N #[ε none,G none 0 0] (86:Nat))) .nilFunc (.func (.func 195) #[] #[ε (some ⟨a.heap.size,0,none⟩),ε (some ⟨a.heap.size+1,0,none⟩)]) (266:Nat);rw[ab] at Q
 have a6:Wr a a.heap.size (a.heap.size+1) [] ((a.alloc (N #[ε none,G none 0 0] (86:Nat))).alloc (bF a.heap.size (a.heap.size+1))):=by obtain⟨-,aj,al⟩:=sM a (N #[ε none,G none 0 0] (86:Nat)) (bF a.heap.size (a.heap.size+1));exact⟨Cq.sZ (Lib.fresh_isBuilder Cq.TB Cq.TU a) (pM _ _),al,aj⟩
 have E:=pJ (j:=0) gf rfl;have F:=yY gf 0;have y:=K Q;have A:=K a6;clear ak gf am ab Q a6;generalize(a.alloc _).alloc (N #[.nilFunc] (266:Nat))=ar at y E F|-
 go_wp2_with(refine xC rfl 266 (.tmp 6) (.tmp 12) rfl (a.heap.size+1) 0 _ _ rfl rfl rfl E F (by kernel_rfl) ?_)
 rw[y.o];clear E F y;generalize(a.alloc _).alloc _=au at A|-;generalize L:a.heap.size=b at A|-;have ae:=K L;have ag:=K (show B<b by rw[<-L];exact Rw.lt_of_heap a1.o);clear L;have ao:head.length=39:=by decide
 have w:=K (Gm (iK b) A.o ⟨head.toArray⟩ (by rw[yx];simp[ao]));unfold head at w
 go_wp2_with fail
 refine w.o.mono ?_;rintro e ac⟨rfl,a7,-⟩;have C:=K (show Wr a b (b+1) head ac by simpa [head] using a7);clear a7 w;have a4:=(C.o.bw.block B (by rw[ae.o];exact ag.o)).trans a1.o;obtain⟨d,f,g,h,i,k,l⟩:=ql (pH _ _) a4;have ap:=pJ (j:=0) C.o.fn rfl;have v:=K (pwr_is a b (b+1) (iK b) t _ ac head af.o ah.o (by have:=a2.o;omega) C.o);unfold qA at v;clear a4
 go_wp2_with fail
 refine v.o.mono ?_;rintro e av⟨rfl,a8,-⟩;have ai:=K a8;clear a8 v d f g h i k l ap;have X:=K (Rm (iK b) ai.o 10 (by rw[o_];have:=a2.o;omega))
 go_wp2_with fail
 refine X.o.mono ?_;rintro e aw⟨rfl,a9,-⟩;have D:=K a9;clear a9 X;have Y:=K (Tryz.Builder_String_any a.heap.size b (head++enc t++[10]) _ D.o.bl D.o.bw.size)
 go_wp2_with fail
 refine Y.o.mono ?_;rintro e ax⟨rfl,a3⟩;have ad:=K a3;clear a3 Y
 go_wp2_with fail
 go_ret2;exact⟨rfl,a0.o.trans ((D.o.bw.trans ad.o).mono a0.o.size)⟩
end Xw
end Go.Proofs.YthbhmjdcfocphaaGreatDoor
