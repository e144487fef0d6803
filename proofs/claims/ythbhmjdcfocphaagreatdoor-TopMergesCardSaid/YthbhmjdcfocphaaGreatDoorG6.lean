/- A part of this proof. -/
import Derived.Test.YthbhmjdcfocphaaGreatDoorKQ
set_option linter.all false
set_option maxHeartbeats 16000000
set_option maxRecDepth 100000
namespace Go.Proofs.YthbhmjdcfocphaaGreatDoor
open Go.Value renaming string→I, slice→H, pointer→ε, int→J
open Go.Obj renaming cells→O
open Go.Ending renaming returned→η
open Go.IntKind renaming i64→M
open Go.Lib renaming hid→G
open Option renaming none→K, some→N
open Go.World renaming heap→Y
open Rw renaming lt_of_heap→π
open Me renaming pJ→U
open And renaming intro→Γ
open Me.Row renaming slice→Δ, nil→aj
open Bool renaming false→V
open Go renaming World→Λ, Value→ς, TypeId→ay
open Go.RowKit renaming Below→Ξ
open Go.Obj renaming cells→Ω
open _root_ renaming Int→X, Nat→ah, List→av
namespace De
open RowKit Rw Mw Me Pj
def fld3(t:ByteArray)(p:X)(w:Λ):(Instr.field 107 (.agg #[J M 3,.bool V,J M 0,I t,H K 0 0,H K 0 0,J M p]) 3).run Tryz.prog w= .ok (I t) w:=by
 kernel_rfl
def fld2(t:X)(p:X)(w:Λ):(Instr.field 107 (.agg #[J M 2,.bool V,J M t,I ⟨#[]⟩,H K 0 0,H K 0 0,J M p]) 2).run Tryz.prog w= .ok (J M t) w:=by
 kernel_rfl
def fld4(a:Option Addr)(n c:ah)(p:X)(w:Λ):(Instr.field 107 (.agg #[J M 4,.bool V,J M 0,I ⟨#[]⟩,H a n c,H K 0 0,J M p]) 4).run Tryz.prog w= .ok (H a n c) w:=by
 kernel_rfl
def F_{w:Λ}{a b j:ah}{x a0 c d f g h i:ς}(k:w.cell? ⟨a,0,K⟩=N a0/\w.cell? ⟨a,1,K⟩=N c/\w.cell? ⟨a,2,K⟩=N d/\w.cell? ⟨a,3,K⟩=N f/\w.cell? ⟨a,4,K⟩=N g/\w.cell? ⟨a,5,K⟩=N h/\w.cell? ⟨a,6,K⟩=N i)(l:a≠b):
 (w.setCell ⟨b,j,K⟩ x).cell? ⟨a,0,K⟩=N a0/\(w.setCell ⟨b,j,K⟩ x).cell? ⟨a,1,K⟩=N c/\(w.setCell ⟨b,j,K⟩ x).cell? ⟨a,2,K⟩=N d/\(w.setCell ⟨b,j,K⟩ x).cell? ⟨a,3,K⟩=N f/\(w.setCell ⟨b,j,K⟩ x).cell? ⟨a,4,K⟩=N g/\(w.setCell ⟨b,j,K⟩ x).cell? ⟨a,5,K⟩=N h/\(w.setCell ⟨b,j,K⟩ x).cell? ⟨a,6,K⟩=N i:=by
 have e:∀q,(w.setCell ⟨b,j,K⟩ x).cell? ⟨a,q,K⟩=w.cell? ⟨a,q,K⟩:=λq=>mI (pz _ _ _ _ l)
 simp only[e];exact k
def yl{w:Λ}{a:ah}{t:ay}{a0 b c d e f x0 x1 x2 x3 x4 x5:ς}(p:w.heap[a]?=N (Ω #[a0,b,c,d,e,f] t (0,0))){n:ah}(r:n<=a):
 ((((((w.setCell ⟨a,0,K⟩ x0).setCell ⟨a,1,K⟩ x1).setCell ⟨a,2,K⟩ x2).setCell ⟨a,3,K⟩ x3).setCell ⟨a,4,K⟩ x4).setCell ⟨a,5,K⟩ x5).heap[a]?=N (Ω #[x0,x1,x2,x3,x4,x5] t (0,0))/\
 Ξ n w ((((((w.setCell ⟨a,0,K⟩ x0).setCell ⟨a,1,K⟩ x1).setCell ⟨a,2,K⟩ x2).setCell ⟨a,3,K⟩ x3).setCell ⟨a,4,K⟩ x4).setCell ⟨a,5,K⟩ x5):=by
 have g:=oO _ a 0 _ _ x0 p;have h:=oO _ a 1 _ _ x1 g;have i:=oO _ a 2 _ _ x2 h;have l:=oO _ a 3 _ _ x3 i;have m:=oO _ a 4 _ _ x4 l;have o:=oO _ a 5 _ _ x5 m;have s:∀(u:Λ)(j:ah)(x:ς),Ξ n u (u.setCell ⟨a,j,K⟩ x):=λu j x=>⟨rfl,rfl,rfl,by simp,λk q=>pz _ _ _ _ (show k≠a by omega)⟩
 exact⟨o,(((((s _ _ _).trans (s _ _ _)).trans (s _ _ _)).trans (s _ _ _)).trans (s _ _ _)).trans (s _ _ _)⟩
def V0{w:Λ}{A:Obj}{c:av ς}{sz:ah}{t:ay}(a:c.length=sz):((w.alloc A).alloc (O c.toArray t)).ownsRow (w.heap.size+1) t sz (H (N ⟨w.heap.size+1,0,K⟩) 1 1) 1 c:=by
 have:=q9 (w:=w.alloc A) (t:=t) a
 rwa [show(w.alloc A).heap.size=w.heap.size+1 from nI _] at this
def grown7{w u:Λ}{a:ah}{row:Option ah}{a0 b c d f g h:ς}(i:u.cell? ⟨a,0,K⟩=N a0/\u.cell? ⟨a,1,K⟩=N b/\u.cell? ⟨a,2,K⟩=N c/\u.cell? ⟨a,3,K⟩=N d/\u.cell? ⟨a,4,K⟩=N f/\u.cell? ⟨a,5,K⟩=N g/\u.cell? ⟨a,6,K⟩=N h)(j:u.grownBy w row)(k:∀q,row=N q->q≠a):
 w.cell? ⟨a,0,K⟩=N a0/\w.cell? ⟨a,1,K⟩=N b/\w.cell? ⟨a,2,K⟩=N c/\w.cell? ⟨a,3,K⟩=N d/\w.cell? ⟨a,4,K⟩=N f/\w.cell? ⟨a,5,K⟩=N g/\w.cell? ⟨a,6,K⟩=N h:=by
 have e:∀q,w.cell? ⟨a,q,K⟩=u.cell? ⟨a,q,K⟩:=λq=>mI (j.block a (Rw.lt_of_cell i.1) (λe=>k a e.symm rfl))
 simp only[e];exact i
def qJ{a:Type}{El:Λ->a->av ς->Prop}{sz S:ah}{t:ay}{w:Λ}{v:ς}{l:av a}(b:Row El sz t S w v l){q:ah}(d:v.ownBlock=N q):q<w.heap.size:=by obtain⟨L,e,c,f⟩:=b;exact(qq c d).2
def LP(a:ah)(b:Λ)(f:Mo.Fd)(k:ah)(wr:Λ):Prop:=∃vp,Row PEl 1 9 b.heap.size wr vp (f.path.take k)/\wr.heap[a]?=N (Ω #[vp,I f.id,I f.title,I f.link,J M f.upd,H K 0 0] 51 (0,0))/\Sd a b wr
def LI(B:ah)(b:Λ)(a:av Mo.Fd)(k:ah)(wr:Λ):Prop:=∃va,Row vT 6 51 b.heap.size wr va (a.take k)/\wr.heap[B]?=N (Ω #[va] 24 (0,0))/\Sd B b wr
def LE(a:ah)(b:Λ)(f:Mo.Fd)(vp:ς)(k:ah)(wr:Λ):Prop:=∃ve,Row EEl 5 53 b.heap.size wr ve (f.pU.take k)/\wr.heap[a]?=N (Ω #[vp,I f.id,I f.title,I f.link,J M f.upd,ve] 51 (0,0))/\Sd a b wr
def eone(e:Mo.En):∀u∈pO e,u.oneCell'=true:=by intro u a;simp only[pO,ox,oy,nw] at a;rcases a with rfl|rfl|rfl|rfl|rfl<;>rfl
def aah:Op:= .load 49 (.tmp 77)
def Tm:ς->Prop
 |H _ n c=>n<=c
 |_=>True
def V1{a:Type}{El:Λ->a->av ς->Prop}{sz S:ah}{t:ay}{w:Λ}{v:ς}{l:av a}(b:Row El sz t S w v l):Tm v:=by
 obtain⟨L,-,d,-⟩:=b;rcases d.2 with⟨rfl,h⟩|⟨g,c,f,rfl,_,_,e,_⟩
 ·exact oZ _
 ·exact e
def Tn(s:ByteArray)(a:av Mo.Fd)(W:Λ)(dO:Jw.B8 W)(e2:s.size<=1000000000)(e3:s.data.toList=Jv.enc (Jv.jA a))(dX:Jv.Ok 1 (Jv.jA a))(b:JB (Jv.jA a))(au:JS (Jv.jA a))
 (dW:a.length<=100000) (dP:∀f∈a,f.pU.length<=100000) (e0:∀f∈a,f.path.length<=100000)
 (dy:∀u v,Ξ W.heap.size W u->rY u v a->Calls Tryz.prog 26 #[.agg #[v]] u λe w'=>e=η (.tuple #[I s,J M 0])/\Ξ u.heap.size u w'):
 Calls Tryz.prog 32 #[I s] W λe w'=>(∃va,e=η (.tuple #[.agg #[va],J M 0])/\rY w' va a/\Tm va)/\Ξ W.heap.size W w':=by
 have ea:=G (λ(u:Λ) (t:Ξ W.heap.size W u)=>V2 s (Jv.jA a) u (dO.below t) e2 e3 dX b au);have e9:=G dy;obtain⟨m,cD⟩:=pL a.length;have bo:=G cD;have fo:m<=100000:=cD▸dW;have dm:=G (Γ dP e0);have ab:=pG W (O #[H K 0 0] 24);have bP:=G (pM W (O #[H K 0 0] 24));have dp:=G ab;clear dO e2 e3 dX b au dy dW dP e0 cD ab
 go_enter Tryz.func32,Tryz.ntmps32
 go_wp2_with fail
 generalize W.alloc (O #[H K 0 0] 24)=fO at bP dp|-;refine(ea.o _ bP.o).mono ?_;rintro e aR⟨⟨cK,vb,cL,fN,ch,ft,c1,fa,fu,c2,vp,rfl,a0⟩,cr⟩;have au:=a0 aR (λ_ _ _ _=>rfl);unfold Jv.jA Jv at au;obtain⟨fA,v,L,dz,dL,dK⟩:=au;have bC:=Ga dK;obtain⟨g,fw,fb,cap,bi,co,cw⟩:=zJ dL bC;subst bi;simp only[qh,rG,nG,kf,kH,kR,kK,kO,nU] at dz;obtain⟨rfl,rfl,rfl,rfl,⟨rfl,rfl,rfl⟩,⟨rfl,rfl,rfl⟩,rfl⟩:=dz;have dU:=bC.2;have cz:(List.map Jv.jF a).length=m:=by rw[oS];exact bo.o
 rw[cz] at co cw;have d0:=pR bP cr;have ce:=G (pW cr dp.o)
 go_wp2_with fail
 have ct:=(pM aR (O #[J M 4,.bool V,J M 0,I ⟨#[]⟩,H ch m c1,H K 0 0,J M vp] 107));have cu:=ct.alloc ct.size (O #[H K 0 0] 24);have be:=lV aR (O #[J M 4,.bool V,J M 0,I ⟨#[]⟩,H ch m c1,H K 0 0,J M vp] 107) (O #[H K 0 0] 24);have p:=G cw;have ec:=G co;have ek:=G dU;have em:=G (show L.length=m by rw[bC.1,cz]);clear cw co dU cz bC dK dL a0 ct cr;obtain⟨B,cn⟩:=pL (aR.heap.size+1);rw[cn] at be|-;have ef:=G cn;generalize((aR.alloc (O #[J M 4,.bool V,J M 0,I ⟨#[]⟩,H ch m c1,H K 0 0,J M vp] 107)).alloc (O #[H K 0 0] 24))=cg at cu be|-;have bQ:=G cu;have eh:=G be;have d4:=G (π be);clear cn cu be
 go_loopw [30] (λx wr=>∃k:ah,k<=m/\x=J M k/\Hid (LI B cg a k wr)) (λx _=>m-(intOf x).toNat)
 case atStart=>exact⟨0,oM _,rfl,G ⟨_,aj,eh.o,Sd.refl _ _⟩⟩
 case round=>
  obtain⟨k,fm,rfl,ap⟩:=hrel;obtain⟨va,aw,aq,aa⟩:=ap.o;have am:=G aw;have d5:=G aq;have bZ:=G aa;have al:Ξ aR.heap.size aR wr:=bQ.o.trans (aa.under (by have:=ef.o;omega) bQ.o.size);have bn:=G al;clear ap aw aq aa
  by_cases cA:k<m
  ·obtain rfl:=ec.o (by omega)
   have bF:k<a.length:=(by rw[bo.o];exact cA);have dV:k<L.length:=(by rw[em.o];exact cA);obtain⟨cK,vb,cL,e4,aI,fs,fe,a5,aX,aV,aZ,dJ,aE,y1,y2,y3,y4,y5,y6⟩:=p.o k cA dV;have a8:=ek.o k (by rw[oS];exact bF) dV;rw[oG] at a8;obtain⟨fC,fJ,cl,dY⟩:=Ob.of (l:=fL a[k]) a8;rw[dJ] at cl;simp only[qh,rG,nG,kf,kH,kR,kK,kO,nU] at cl;obtain⟨rfl,rfl,rfl,rfl,⟨rfl,rfl,rfl⟩,rfl,rfl⟩:=cl;replace aE:=pI aE al;replace y1:=pI y1 al;replace y2:=pI y2 al;replace y3:=pI y3 al;replace y4:=pI y4 al;replace y5:=pI y5 al;replace y6:=pI y6 al;have fr:(k:X)<(m:X):=(by omega);have fq:(0:X)<=(k:X):=(by omega);have db:=G (show a.take (k+1)=a.take k++[a[k]] by rw[mM,oW bF];rfl);have dc:=G (dm.o.1 _ (pq bF));have dd:=G (dm.o.2 _ (pq bF));have bX:=G (show(a.take k).length=k by rw[nQ,bo.o];omega);have dg:=G dY;clear a8 dJ dY al;generalize a[k]=f at db dc dd dg
   go_wp2_with fail
   have cs:=pM wr (O #[J M 5,.bool V,J M 0,I ⟨#[]⟩,H K 0 0,H a5 aX aV,J M aZ] 107);have A:=pG wr (O #[J M 5,.bool V,J M 0,I ⟨#[]⟩,H K 0 0,H a5 aX aV,J M aZ] 107);have bl:=G cs;have df:=G A;have d2:=pR bn cs;obtain⟨n,Z⟩:=pL wr.heap.size;rw[Z] at A df|-;generalize wr.alloc (O #[J M 5,.bool V,J M 0,I ⟨#[]⟩,H K 0 0,H a5 aX aV,J M aZ] 107)=h at A bl df d2|-;have a1:=G (π A);have cN:=U (j:=0) A rfl;have cO:=U (j:=1) A rfl;have cP:=U (j:=2) A rfl;have cQ:=U (j:=3) A rfl;have cR:=U (j:=4) A rfl;have cS:=U (j:=5) A rfl;have bk:=U (j:=6) A rfl;clear aE y1 y2 y3 y4 y5 y6 cs A Z;have z:=G (λu (t:Ξ h.heap.size h u)=>(show u.cell? ⟨n,0,K⟩=N (J M 5)/\u.cell? ⟨n,1,K⟩=N (.bool V)/\u.cell? ⟨n,2,K⟩=N (J M 0)/\u.cell? ⟨n,3,K⟩=N (I ⟨#[]⟩)/\u.cell? ⟨n,4,K⟩=N (H K 0 0)/\u.cell? ⟨n,5,K⟩=N (H a5 aX aV)/\u.cell? ⟨n,6,K⟩=N (J M aZ) from⟨pI cN t,pI cO t,pI cP t,pI cQ t,pI cR t,pI cS t,pI bk t⟩));obtain⟨dt,du,dv,dw,dx,cj⟩:=fget f (H a5 aX aV) aZ h (dg.o.under d2.o);have bL:=G du;have bM:=G dv;have bN:=G dw;have bO:=G dx;have e8:=G dt;have eb:=G cj;clear dt du dv dw dx cj;have fl:n≠h.heap.size:=lO a1.o;have eW:=fld3;have eV:=fld2
   go_cut [11,30] from 30 to 110 (λq x e6=>x=J M k/\∃a4,q=ε (N ⟨a4,0,K⟩)/\Hid (h.heap.size<=a4/\e6.heap[a4]?=N (Ω #[H K 0 0,I f.id,I f.title,I f.link,J M f.upd,H K 0 0] 51 (0,0))/\Ξ h.heap.size h e6))
   case first=>
    go_region_held3 (λw'=>w'.cell? ⟨n,0,K⟩=N (J M 5)/\w'.cell? ⟨n,1,K⟩=N (.bool V)/\w'.cell? ⟨n,2,K⟩=N (J M 0)/\w'.cell? ⟨n,3,K⟩=N (I ⟨#[]⟩)/\w'.cell? ⟨n,4,K⟩=N (H K 0 0)/\w'.cell? ⟨n,5,K⟩=N (H a5 aX aV)/\w'.cell? ⟨n,6,K⟩=N (J M aZ)) (first|(with_reducible assumption)|((with_reducible refine F_ ?_ (by assumption));(repeat(with_reducible refine F_ ?_ (by assumption)));with_reducible assumption)|(with_reducible exact z.o _ (pH _ _).drew)|(with_reducible exact z.o _ ((pH (Y h).size h).alloc (oZ _) _))|(with_reducible exact z.o _ ((pH (Y h).size h).alloc (oZ _) _).drew)|(with_reducible exact z.o _ ((pH (Y h).size h).drew.alloc (oZ _) _))|(with_reducible exact z.o _ (pK o.o (pM _ _)))|(with_reducible exact z.o _ (pK y.o (pM _ _)))|(with_reducible exact z.o _ (pK p.o (pM _ _)))|(with_reducible exact z.o _ (pK E.o (pM _ _))))
     (first
       |(go_at_call 71;have a7:=bL;clear bL;first|(have Z:=i.o;have d:=a7.o h (pH (Y h).size h);(with_reducible refine d.mono ?_);clear d;rintro e w ⟨⟨bI,rfl⟩,b⟩;have i:=G (pW b Z);clear Z;have o:=G (pK (pH (Y h).size h) b);have aC:=z.o w o.o;have dQ:n≠w.heap.size:=lO (oQ a1.o o.o.size);clear b a7)|(have d:=a7.o h.drew (pH (Y h).size h).drew;(with_reducible refine d.mono ?_);clear d;rintro e w ⟨⟨bI,rfl⟩,b⟩;have o:=G (pK (pH (Y h).size h).drew b);have aC:=z.o w o.o;have dQ:n≠w.heap.size:=lO (oQ a1.o o.o.size);clear b a7)|(have d:=a7.o (h.alloc (O #[H K 0 0,I ⟨#[]⟩,I ⟨#[]⟩,I ⟨#[]⟩,J M 0,H K 0 0] 51)).drew (pK (pH (Y h).size h) ((pH (Y h).size h).alloc (oZ _) (O #[H K 0 0,I ⟨#[]⟩,I ⟨#[]⟩,I ⟨#[]⟩,J M 0,H K 0 0] 51))).drew;(with_reducible refine d.mono ?_);clear d;rintro e w ⟨⟨bI,rfl⟩,b⟩;have i:=G ((b.block _ (π (pG h (O #[H K 0 0,I ⟨#[]⟩,I ⟨#[]⟩,I ⟨#[]⟩,J M 0,H K 0 0] 51)))).trans (pG h (O #[H K 0 0,I ⟨#[]⟩,I ⟨#[]⟩,I ⟨#[]⟩,J M 0,H K 0 0] 51)));have o:=G (pK (pK (pH (Y h).size h) ((pH (Y h).size h).alloc (oZ _) (O #[H K 0 0,I ⟨#[]⟩,I ⟨#[]⟩,I ⟨#[]⟩,J M 0,H K 0 0] 51))).drew b);have aC:=z.o w o.o;have dQ:n≠w.heap.size:=lO (oQ a1.o o.o.size);clear b a7))
       |(go_at_call 71;have ag:=bM;clear bM;first|(have Z:=i.o;have d:=ag.o w o.o;(with_reducible refine d.mono ?_);clear d;rintro e C ⟨⟨cG,rfl⟩,b⟩;have i:=G (pW b Z);clear Z;have y:=pR o b;have aP:=z.o C y.o;have dR:n≠C.heap.size:=lO (oQ a1.o y.o.size);clear b aC ag)|(have d:=ag.o w o.o;(with_reducible refine d.mono ?_);clear d;rintro e C ⟨⟨cG,rfl⟩,b⟩;have y:=pR o b;have aP:=z.o C y.o;have dR:n≠C.heap.size:=lO (oQ a1.o y.o.size);clear b aC ag)|(have d:=ag.o (w.alloc (O #[H K 0 0,I ⟨#[]⟩,I ⟨#[]⟩,I ⟨#[]⟩,J M 0,H K 0 0] 51)) (pK o.o ((pH (Y w).size w).alloc (oZ _) (O #[H K 0 0,I ⟨#[]⟩,I ⟨#[]⟩,I ⟨#[]⟩,J M 0,H K 0 0] 51)));(with_reducible refine d.mono ?_);clear d;rintro e C ⟨⟨cG,rfl⟩,b⟩;have i:=G ((b.block _ (π (pG w (O #[H K 0 0,I ⟨#[]⟩,I ⟨#[]⟩,I ⟨#[]⟩,J M 0,H K 0 0] 51)))).trans (pG w (O #[H K 0 0,I ⟨#[]⟩,I ⟨#[]⟩,I ⟨#[]⟩,J M 0,H K 0 0] 51)));have y:=G (pK (pK o.o ((pH (Y w).size w).alloc (oZ _) (O #[H K 0 0,I ⟨#[]⟩,I ⟨#[]⟩,I ⟨#[]⟩,J M 0,H K 0 0] 51))) b);have aP:=z.o C y.o;have dR:n≠C.heap.size:=lO (oQ a1.o y.o.size);clear b aC ag))
       |(go_at_call 71;have ai:=bN;clear bN;first|(have Z:=i.o;have d:=ai.o C y.o;(with_reducible refine d.mono ?_);clear d;rintro e D ⟨⟨cH,rfl⟩,b⟩;have i:=G (pW b Z);clear Z;have p:=pR y b;have aQ:=z.o D p.o;have dS:n≠D.heap.size:=lO (oQ a1.o p.o.size);clear b aP ai)|(have d:=ai.o C y.o;(with_reducible refine d.mono ?_);clear d;rintro e D ⟨⟨cH,rfl⟩,b⟩;have p:=pR y b;have aQ:=z.o D p.o;have dS:n≠D.heap.size:=lO (oQ a1.o p.o.size);clear b aP ai)|(have d:=ai.o (C.alloc (O #[H K 0 0,I ⟨#[]⟩,I ⟨#[]⟩,I ⟨#[]⟩,J M 0,H K 0 0] 51)) (pK y.o ((pH (Y C).size C).alloc (oZ _) (O #[H K 0 0,I ⟨#[]⟩,I ⟨#[]⟩,I ⟨#[]⟩,J M 0,H K 0 0] 51)));(with_reducible refine d.mono ?_);clear d;rintro e D ⟨⟨cH,rfl⟩,b⟩;have i:=G ((b.block _ (π (pG C (O #[H K 0 0,I ⟨#[]⟩,I ⟨#[]⟩,I ⟨#[]⟩,J M 0,H K 0 0] 51)))).trans (pG C (O #[H K 0 0,I ⟨#[]⟩,I ⟨#[]⟩,I ⟨#[]⟩,J M 0,H K 0 0] 51)));have p:=G (pK (pK y.o ((pH (Y C).size C).alloc (oZ _) (O #[H K 0 0,I ⟨#[]⟩,I ⟨#[]⟩,I ⟨#[]⟩,J M 0,H K 0 0] 51))) b);have aQ:=z.o D p.o;have dS:n≠D.heap.size:=lO (oQ a1.o p.o.size);clear b aP ai))
       |(go_at_call 71;have ak:=bO;clear bO;first|(have Z:=i.o;have d:=ak.o D p.o;(with_reducible refine d.mono ?_);clear d;rintro e R ⟨⟨cI,rfl⟩,b⟩;have i:=G (pW b Z);clear Z;have E:=pR p b;have bK:=z.o R E.o;have dT:n≠R.heap.size:=lO (oQ a1.o E.o.size);clear b aQ ak;have eN:=U (j:=0) i.o rfl;have eO:=U (j:=1) i.o rfl;have eP:=U (j:=2) i.o rfl;have eQ:=U (j:=3) i.o rfl;have eR:=U (j:=4) i.o rfl;have eS:=U (j:=5) i.o rfl;have eM:=λj=>ny R _ j _ _ i.o)|(have d:=ak.o D p.o;(with_reducible refine d.mono ?_);clear d;rintro e R ⟨⟨cI,rfl⟩,b⟩;have E:=pR p b;have bK:=z.o R E.o;have dT:n≠R.heap.size:=lO (oQ a1.o E.o.size);clear b aQ ak)|(have d:=ak.o (D.alloc (O #[H K 0 0,I ⟨#[]⟩,I ⟨#[]⟩,I ⟨#[]⟩,J M 0,H K 0 0] 51)) (pK p.o ((pH (Y D).size D).alloc (oZ _) (O #[H K 0 0,I ⟨#[]⟩,I ⟨#[]⟩,I ⟨#[]⟩,J M 0,H K 0 0] 51)));(with_reducible refine d.mono ?_);clear d;rintro e R ⟨⟨cI,rfl⟩,b⟩;have i:=G ((b.block _ (π (pG D (O #[H K 0 0,I ⟨#[]⟩,I ⟨#[]⟩,I ⟨#[]⟩,J M 0,H K 0 0] 51)))).trans (pG D (O #[H K 0 0,I ⟨#[]⟩,I ⟨#[]⟩,I ⟨#[]⟩,J M 0,H K 0 0] 51)));have E:=G (pK (pK p.o ((pH (Y D).size D).alloc (oZ _) (O #[H K 0 0,I ⟨#[]⟩,I ⟨#[]⟩,I ⟨#[]⟩,J M 0,H K 0 0] 51))) b);have bK:=z.o R E.o;have dT:n≠R.heap.size:=lO (oQ a1.o E.o.size);clear b aQ ak;have eN:=U (j:=0) i.o rfl;have eO:=U (j:=1) i.o rfl;have eP:=U (j:=2) i.o rfl;have eQ:=U (j:=3) i.o rfl;have eR:=U (j:=4) i.o rfl;have eS:=U (j:=5) i.o rfl;have eM:=λj=>ny R _ j _ _ i.o)))
    all_goals
     go_wp2_with fail
     go_meet
     first
      |exact⟨rfl,_,rfl,G ⟨E.o.size,pG R _,pK E.o (pM _ _)⟩⟩
      |exact⟨rfl,_,rfl,G ⟨p.o.size,(yl i.o p.o.size).1,E.o.trans (yl i.o p.o.size).2⟩⟩
      |exact⟨rfl,_,rfl,G ⟨y.o.size,(yl i.o y.o.size).1,E.o.trans (yl i.o y.o.size).2⟩⟩
      |exact⟨rfl,_,rfl,G ⟨o.o.size,(yl i.o o.o.size).1,E.o.trans (yl i.o o.o.size).2⟩⟩
      |exact⟨rfl,_,rfl,G ⟨oZ _,(yl i.o (oZ _)).1,E.o.trans (yl i.o (oZ _)).2⟩⟩
   case rest=>
    obtain⟨rfl,a4,rfl,dG⟩:=hcut;obtain⟨dH,dI,cm⟩:=dG.o;have d8:=G dH;have d7:=G dI;have d3:=G cm;obtain⟨aE,y1,y2,y3,y4,y5,y6⟩:=z.o _ cm;clear dG dH dI cm bL bM bN bO
    go_wp2_with fail
    refine(e8.o _ d3.o).mono ?_;rintro e cM⟨⟨fz,ey,eC,ds,rfl,dN,bB⟩,bD⟩;obtain⟨fj,fx,ez,eD,bh,cq,cy⟩:=zJ dN bB;obtain⟨rfl,-,rfl⟩:ey=ez/\True/\eC=eD:=by injection bh with ao aW T;exact⟨ao,trivial,T⟩
    obtain⟨aB,bH⟩:=pL ((f.path.map Jv.J.str).length);rw[bH] at cq cy|-;have bq:=G (show f.path.length=aB by rw[<-bH,oS]);have de:=G (show ds.length=aB by rw[bB.1,bH]);have cZ:=G cq;have d6:=G cy;have da:=G bB.2;have ee:=G bD;have b2:=pR d3 bD;have bV:=G (pW bD d7.o);have fp:aB<=100000:=(by have:=dd.o;have:=bq.o;omega);obtain⟨aE,y1,y2,y3,y4,y5,y6⟩:=z.o _ b2.o;clear bh cq cy bH dN bB bD;obtain⟨f7,f8,ar,ab,ax,ae,az⟩:=uP infoStr;have b8:=G (Γ ar (Γ ab (Γ ax (Γ ae az))));clear ar ab ax ae az;have fk:=fld4
    go_wp2_with fail
    go_loopw [56] (λx wr=>∃j:ah,j<=aB/\x=J M j/\Hid (LP a4 cM f j wr)) (λx _=>aB-(intOf x).toNat)
    case atStart=>exact⟨0,oM _,rfl,G ⟨_,aj,bV.o,Sd.refl _ _⟩⟩
    case round=>
     obtain⟨j,au,rfl,ap⟩:=hrel;obtain⟨fM,aw,aq,aa⟩:=ap.o;have aF:=G aw;have b1:=G aq;have br:=G aa;have ad:=G (show Ξ h.heap.size h _ from b2.o.trans (aa.under d8.o b2.o.size));clear ap aw aq aa
     by_cases cB:j<aB
     ·have f0:(j:X)<(aB:X):=by omega
      have eZ:(0:X)<=(j:X):=(by omega);obtain rfl:=cZ.o (by omega);have bg:j<f.path.length:=(by rw[bq.o];exact cB);have bf:j<ds.length:=(by rw[de.o];exact cB);obtain⟨cK,vb,cL,e4,aJ,f1,eE,a2,aO,aL,vr,bb,x0,x1,x2,x3,x4,x5,x6⟩:=d6.o j cB bf;have a8:=da.o j (by rw[oS];exact bg) bf;rw[oG,bb] at a8;unfold Jv at a8;obtain⟨f2,b9⟩:=a8;simp only[qh,rG,nG,kf,kH,kR,kK,kO,nU] at b9;obtain⟨rfl,rfl,rfl,rfl,⟨rfl,rfl,rfl⟩,⟨rfl,rfl,rfl⟩,rfl⟩:=b9;replace x0:=pI x0 ad.o;replace x1:=pI x1 ad.o;replace x2:=pI x2 ad.o;replace x3:=pI x3 ad.o;replace x4:=pI x4 ad.o;replace x5:=pI x5 ad.o;replace x6:=pI x6 ad.o;clear bb;have dj:=G (show f.path.take (j+1)=f.path.take j++[f.path[j]] by rw[mM,oW bg];rfl);have cc:=G (show(f.path.take j).length=j by rw[nQ,bq.o];omega);generalize f.path[j]=aY at x3 dj;obtain⟨fc,fd,rfl⟩:=Δ aF.o;rw[cc.o] at aF b1;have bJ:=U (j:=0) b1.o rfl;have cv:=pM wr (O #[J M 3,.bool V,J M 0,I aY,H K 0 0,H K 0 0,J M vr] 107);have f3:=pI bJ cv;have bU:=G cv;clear bJ cv;have bt:=G (bU.o.alloc bU.o.size (O #[I aY] 9))
      go_wp2_with(at_builtin;(refine EH (El:=PEl) _ rfl _ _ 48 rfl cM.heap.size (Y (wr.alloc (O #[J M 3,.bool V,J M 0,I aY,H K 0 0,H K 0 0,J M vr] 107))).size 9 f7 f8 1 16 Tryz.underlying48 b8.o.1 b8.o.2.1 b8.o.2.2.1 b8.o.2.2.2.1 b8.o.2.2.2.2 (by decide) _ (f.path.take j) j cc.o rfl ?aI _ aY (p_ aY) rfl ?a5 ?aJ ?a2 ?b5 ?b6 ?b7 rfl ?_))
      case aI=>exact aF.o.below bt.o
      case a5=>exact V0 (c:=p_ aY) (sz:=1) rfl
      case aJ=>intro u t;rcases List.mem_singleton.1 t with rfl;rfl
      case a2=>exactλu _=>rfl
      case b5=>unfold maxLen;omega
      case b6=>omega
      case b7=>have:=br.o.size;omega
      intro bj aD a9 a6 a0;obtain⟨ci,ck,cE⟩:=Δ a9;rw[o_,cc.o] at cE;change bj=H ci (j+1) ck at cE;subst cE;have bE:=Cj a6 a0 (π bV.o) (pW bt.o b1.o);have es:=G (Gc (br.o.below bt.o) a6 a0 (oZ _));have eq:=G a9;have eg:=G bE;have bJ:=U (j:=0) bE rfl;have dF:=ny aD _ 0 _ _ bE;clear a9 a6 a0 bE f3 bU bt
      go_wp2_with fail
      go_roundw
      case rel=>refine⟨j+1,by omega,by go_num,G ⟨H ci (j+1) ck,?_,oO _ a4 0 _ _ _ eg.o,es.o.set 0 _⟩⟩;have T:=yq (B:=a4) (j:=0) (x:=H ci (j+1) ck) eq.o (π bV.o);rw[<-dj.o] at T;exact T
      case measure=>simp[intOf];omega
     ·have eT:decide ((j:X)<(aB:X))=V:=o9 (by omega)
      have bs:Hid (f.path.take j=f.path):=G (oP (by rw[bq.o];omega));rw[bs.o] at aF;obtain⟨bv,bz,eY⟩:=Δ aF.o;subst eY;clear au bs cZ d6 da de aE y1 y2 y3 y4 y5 y6;obtain⟨aE,y1,y2,y3,y4,y5,y6⟩:=z.o _ ad.o
      go_wp2_with fail
      refine(eb.o _ ad.o).mono ?_;rintro e e5⟨⟨pe,ew,eA,dr,rfl,dM,bA⟩,bc⟩;obtain⟨fg,fv,ex,eB,bh,cp,cx⟩:=zJ dM bA;obtain⟨rfl,-,rfl⟩:ew=ex/\True/\eA=eB:=by injection bh with ao aW T;exact⟨ao,trivial,T⟩
      obtain⟨aA,bG⟩:=pL ((f.pU.map Jv.jE).length);rw[bG] at cp cx|-;have bp:=G (show f.pU.length=aA by rw[<-bG,oS]);have en:=G (show dr.length=aA by rw[bA.1,bG]);have ed:=G cp;have ei:=G cx;have el:=G bA.2;have d1:=pR ad bc;have bW:=G (pW bc b1.o);have er:=G (aF.o.below bc);have et:=G (br.o.below bc);have fn:aA<=100000:=(by have:=dc.o;have:=bp.o;omega);clear bh cp cx bG dM bA bc aE y1 y2 y3 y4 y5 y6 aF b1 br eT;obtain⟨f5,cS,ar,ab,ax,ae,az⟩:=uP infoEnt;have b3:=G (Γ ar (Γ ab (Γ ax (Γ ae az))));clear ar ab ax ae az
      go_wp2_with fail
      go_loopw [73] (λx wr=>∃j:ah,j<=aA/\x=J M j/\Hid (LE a4 e5 f (H bv f.path.length bz) j wr)) (λx _=>aA-(intOf x).toNat)
      case atStart=>exact⟨0,oM _,rfl,G ⟨_,aj,bW.o,Sd.refl _ _⟩⟩
      case round=>
       obtain⟨j,au,rfl,ap⟩:=hrel;obtain⟨ve,aw,aq,aa⟩:=ap.o;have aG:=G aw;have ac:=G aq;have ca:=G aa;have af:=G (show Ξ h.heap.size h _ from d1.o.trans (aa.under d8.o d1.o.size));clear ap aw aq aa
       by_cases cC:j<aA
       ·have f0:(j:X)<(aA:X):=by omega
        have eZ:(0:X)<=(j:X):=(by omega);obtain rfl:=ed.o (by omega);have bg:j<f.pU.length:=(by rw[bp.o];exact cC);have bf:j<dr.length:=(by rw[en.o];exact cC);obtain⟨cK,vb,cL,e4,aJ,f1,eE,a2,aO,aL,vr,bb,x0,x1,x2,x3,x4,x5,x6⟩:=ei.o j cC bf;have a8:=el.o j (by rw[oS];exact bg) bf;rw[oG,bb] at a8;obtain⟨f2,fK,b9,dZ⟩:=Ob.of (l:=eL f.pU[j]) a8;simp only[qh,rG,nG,kf,kH,kR,kK,kO,nU] at b9;obtain⟨rfl,rfl,rfl,rfl,⟨rfl,rfl,rfl⟩,rfl,rfl⟩:=b9;replace x0:=pI x0 af.o;replace x1:=pI x1 af.o;replace x2:=pI x2 af.o;replace x3:=pI x3 af.o;replace x4:=pI x4 af.o;replace x5:=pI x5 af.o;replace x6:=pI x6 af.o;clear bb a8;have dk:=G (show f.pU.take (j+1)=f.pU.take j++[f.pU[j]] by rw[mM,oW bg];rfl);have cd:=G (show(f.pU.take j).length=j by rw[nQ,bp.o];omega);have dh:=G dZ;clear dZ;generalize f.pU[j]=r at dk dh;obtain⟨aT,aU,bi⟩:=Δ aG.o;subst bi;rw[cd.o] at aG ac
        go_wp2_with fail
        have A:=pG wr (O #[J M 5,.bool V,J M 0,I ⟨#[]⟩,H K 0 0,H a2 aO aL,J M vr] 107);have an:=G (pM wr (O #[J M 5,.bool V,J M 0,I ⟨#[]⟩,H K 0 0,H a2 aO aL,J M vr] 107));have d9:=G (pW an.o ac.o);obtain⟨Q,ba⟩:=pL wr.heap.size;rw[ba] at A|-;replace ba:=G ba;generalize wr.alloc (O #[J M 5,.bool V,J M 0,I ⟨#[]⟩,H K 0 0,H a2 aO aL,J M vr] 107)=a3 at A an d9|-;have cN:=U (j:=0) A rfl;have cO:=U (j:=1) A rfl;have cP:=U (j:=2) A rfl;have cQ:=U (j:=3) A rfl;have cR:=U (j:=4) A rfl;have f9:=U (j:=5) A rfl;have bk:=U (j:=6) A rfl;have e7:=U (j:=5) d9.o rfl;have F:=G (λu (t:Ξ a3.heap.size a3 u)=>(show(u.cell? ⟨Q,0,K⟩=N (J M 5)/\u.cell? ⟨Q,1,K⟩=N (.bool V)/\u.cell? ⟨Q,2,K⟩=N (J M 0)/\u.cell? ⟨Q,3,K⟩=N (I ⟨#[]⟩)/\u.cell? ⟨Q,4,K⟩=N (H K 0 0)/\u.cell? ⟨Q,5,K⟩=N (H a2 aO aL)/\u.cell? ⟨Q,6,K⟩=N (J M vr))/\u.cell? ⟨a4,5,K⟩=N (H aT j aU) from⟨⟨pI cN t,pI cO t,pI cP t,pI cQ t,pI cR t,pI f9 t,pI bk t⟩,pI e7 t⟩));obtain⟨dA,dB,dC,dD,dE⟩:=eget r (H a2 aO aL) vr a3 (dh.o.under (pK af.o an.o));have cU:=G dA;have cV:=G dB;have cW:=G dC;have cX:=G dD;have cY:=G dE;clear dA dB dC dD dE x0 x1 x2 x3 x4 x5 x6 A;have eU:Q≠a4:=λe=>by have ao:=π ac.o;have aW:=ba.o;omega
        have bJ:=e7;have fD:=(F.o _ (pH _ _).drew).2;have eW:=fld3;have eV:=fld2;have eX:aah= .load 49 (.tmp 77):=rfl;rw[<-eX]
        go_region_held3 (λu=>u.cell? ⟨Q,0,K⟩=N (J M 5)/\u.cell? ⟨Q,1,K⟩=N (.bool V)/\u.cell? ⟨Q,2,K⟩=N (J M 0)/\u.cell? ⟨Q,3,K⟩=N (I ⟨#[]⟩)/\u.cell? ⟨Q,4,K⟩=N (H K 0 0)/\u.cell? ⟨Q,5,K⟩=N (H a2 aO aL)/\u.cell? ⟨Q,6,K⟩=N (J M vr)) (first|(with_reducible assumption)|((with_reducible refine F_ ?_ eU);with_reducible assumption)|(with_reducible exact(F.o _ (pH _ _).drew).1)|(with_reducible exact(F.o _ (P.o.alloc P.o.size _)).1)|(with_reducible exact(F.o _ (P.o.alloc P.o.size _).drew).1))
         (first
           |(go_at_call 71;have a7:=cU;clear cU;first|(have d:=a7.o a3 (pH (Y a3).size a3);(with_reducible refine d.mono ?_);clear d;rintro e w ⟨⟨bI,rfl⟩,b⟩;have o:=G (pK (pH (Y a3).size a3) b);have aC:=(F.o w o.o).1;have f4:=(F.o w o.o).2;clear b a7)|(have d:=a7.o a3.drew (pH (Y a3).size a3).drew;(with_reducible refine d.mono ?_);clear d;rintro e w ⟨⟨bI,rfl⟩,b⟩;have o:=G (pK (pH (Y a3).size a3).drew b);have aC:=(F.o w o.o).1;have f4:=(F.o w o.o).2;clear b a7))
           |(go_at_call 71;have ag:=cV;clear cV;first|(have d:=ag.o w o.o;(with_reducible refine d.mono ?_);clear d;rintro e C ⟨⟨cG,rfl⟩,b⟩;have y:=pR o b;have aP:=(F.o C y.o).1;have fE:=(F.o C y.o).2;clear b ag aC))
           |(go_at_call 71;have ai:=cW;clear cW;first|(have d:=ai.o C y.o;(with_reducible refine d.mono ?_);clear d;rintro e D ⟨⟨cH,rfl⟩,b⟩;have p:=pR y b;have aQ:=(F.o D p.o).1;have fF:=(F.o D p.o).2;clear b ai aP))
           |(go_at_call 71;have ak:=cX;clear cX;first|(have d:=ak.o D p.o;(with_reducible refine d.mono ?_);clear d;rintro e R ⟨⟨cI,rfl⟩,b⟩;have E:=pR p b;have bK:=(F.o R E.o).1;have fG:=(F.o R E.o).2;clear b ak aQ))
           |(go_at_call 71;have dq:=cY;clear cY;first|(have d:=dq.o R E.o;(with_reducible refine d.mono ?_);clear d;rintro e cJ ⟨⟨fy,rfl⟩,b⟩;have P:=pR E b;have sE:=(F.o cJ P.o).1;have fH:=(F.o cJ P.o).2;have fI:=(F.o _ (P.o.alloc P.o.size (O #[I r.id,I r.title,I r.link,I r.content,J M r.upd] 53))).2;clear b dq bK))
           |(refine Tr (El:=EEl) _ rfl (.tmp 78) (.tmp 100) 49 rfl e5.heap.size cJ.heap.size 53 f5 cS 5 72 Tryz.underlying49 b3.o.1 b3.o.2.1 b3.o.2.2.1 b3.o.2.2.2.1 b3.o.2.2.2.2 (by decide) (H aT j aU) (f.pU.take j) j cd.o rfl ?aI _ r (pO r) rfl ?a5 ?aJ ?a2 ?b5 ?b6 ?b7 rfl ?_;(case aI=>exact aG.o.below (an.o.trans ((P.o.alloc P.o.size (O #[I r.id,I r.title,I r.link,I r.content,J M r.upd] 53)).mono an.o.size)));(case a5=>exact q9 (c:=pO r) (sz:=5) rfl);(case aJ=>exact eone r);(case a2=>exactλu _=>rfl);(case b5=>(unfold maxLen;omega));(case b6=>omega);(case b7=>exact pF ca.o.size (pF an.o.size (P.o.alloc P.o.size (O #[I r.id,I r.title,I r.link,I r.content,J M r.upd] 53)).size));intro bj aD a9 a6 a0;have dn:=G (an.o.trans ((P.o.alloc P.o.size (O #[I r.id,I r.title,I r.link,I r.content,J M r.upd] 53)).mono an.o.size));obtain⟨aH,aK,aN⟩:=Δ a9;rw[o_,cd.o] at aN;change bj=H aH (j+1) aK at aN;subst aN;have bY:=G a9;have bR:=G (Cj a6 a0 (π bW.o) (pW dn.o ac.o));have cb:=G (Gc (ca.o.below dn.o) a6 a0 (oZ _));have cj:=U (j:=5) bR.o rfl;have dF:=ny aD _ 5 _ _ bR.o;have sF:=grown7 (F.o _ (P.o.alloc P.o.size _)).1 a6 (λq aM e=>by have ao:=qJ aG.o aM;have aW:=ba.o;omega);clear a9 a6 a0 sE))
        all_goals
         go_wp2_with fail
         go_roundw
         case rel=>refine⟨j+1,by omega,by go_num,G ⟨H aH (j+1) aK,?_,oO _ a4 5 _ _ _ bR.o,cb.o.set 5 _⟩⟩;have T:=yq (B:=a4) (j:=5) (x:=H aH (j+1) aK) bY.o (π bW.o);rw[<-dk.o] at T;exact T
         case measure=>simp[intOf];omega
       ·have fi:decide ((j:X)<(aA:X))=V:=o9 (by omega)
        have eu:Hid (f.pU.take j=f.pU):=G (oP (by rw[bp.o];omega));rw[eu.o] at aG;obtain⟨aT,aU,bi⟩:=Δ aG.o;subst bi;have eo:=G (Kx er.o (oQ (π d7.o) ee.o.size) ca.o);have bm:=G (pK bl.o (show Ξ _ _ _ from af.o.trans (pH _ _)));have bS:=G (pW bm.o d5.o);obtain⟨bu,bx,cF⟩:=Δ am.o;subst cF;rw[bX.o] at am bS;have e1:=λq (aM:Value.ownBlock (H bu k bx)=N q)=>qJ am.o aM
        have ep:=G e1;have bw:=U (j:=0) bS.o rfl;have eF:=U (j:=0) ac.o rfl;have eG:=U (j:=1) ac.o rfl;have eH:=U (j:=2) ac.o rfl;have eI:=U (j:=3) ac.o rfl;have eJ:=U (j:=4) ac.o rfl;have eK:=U (j:=5) ac.o rfl;obtain⟨f6,bk,ar,ab,ax,ae,az⟩:=uP infoFd;have b4:=G (Γ ar (Γ ab (Γ ax (Γ ae az))));clear ar ab ax ae az e1;have aS:=G (pM wr (O #[H bv f.path.length bz,I f.id,I f.title,I f.link,J M f.upd,H aT f.pU.length aU] 51));have ej:=G (fd_of (S:=cM.heap.size) (f:=f) (eo.o.below aS.o) (aG.o.below aS.o) (oZ _) et.o.size)
        go_wp2_with(at_builtin;(refine EH (El:=vT) _ rfl _ _ 22 rfl cg.heap.size wr.heap.size 51 f6 bk 6 104 Tryz.underlying22 b4.o.1 b4.o.2.1 b4.o.2.2.1 b4.o.2.2.2.1 b4.o.2.2.2.2 (by decide) _ (a.take k) k bX.o rfl ?aI _ f (pX f (H bv f.path.length bz) (H aT f.pU.length aU)) rfl ?a5 ?aJ ?a2 ?b5 ?b6 ?b7 rfl ?_))
        case aI=>exact am.o.below (pK bm.o aS.o)
        case a5=>exact q9 (c:=pX f (H bv f.path.length bz) (H aT f.pU.length aU)) (sz:=6) rfl
        case aJ=>intro u t;simp only[pX,ox,oy,nw] at t;rcases t with rfl|rfl|rfl|rfl|rfl|rfl<;>rfl
        case a2=>exactλu t=>FdV.apart ej.o (pF bZ.o.size (pF bl.o.size b2.o.size)) (λq aM=>by have ao:=ep.o q aM;have aW:=bl.o.size;have T:=b2.o.size;omega) t
        case b5=>unfold maxLen;omega
        case b6=>omega
        case b7=>have ao:=bZ.o.size;have aW:=bm.o.size;have T:=aS.o.size;omega
        intro bj aD a9 a6 a0;obtain⟨aH,aK,aN⟩:=Δ a9;rw[o_,bX.o] at aN;change bj=H aH (k+1) aK at aN;subst aN;have bT:=G (Cj a6 a0 d4.o (pW aS.o bS.o));have cb:=G (Gc (bZ.o.below (pK bm.o aS.o)) a6 a0 (oZ _));have bY:=G a9;have aI:=U (j:=0) bT.o rfl;have dF:=ny aD _ 0 _ _ bT.o;clear a9 a6 a0 bw eF eG eH eI eJ eK
        go_wp2_with fail
        go_roundw
        case rel=>refine⟨k+1,by omega,by go_num,G ⟨H aH (k+1) aK,?_,oO _ B 0 _ _ _ bT.o,cb.o.set 0 _⟩⟩;have T:=yq (B:=B) (j:=0) (x:=H aH (k+1) aK) bY.o d4.o;rw[<-db.o] at T;exact T
        case measure=>simp[intOf];omega
  ·have fh:decide ((k:X)<(m:X))=V:=o9 (by omega)
   have bs:Hid (a.take k=a):=G (oP (by rw[bo.o];omega));rw[bs.o] at am;obtain⟨bu,bx,cF⟩:=Δ am.o;subst cF;have bw:=U (j:=0) d5.o rfl;have dl:=G (show Ξ W.heap.size W _ from d0.o.trans (bn.o.mono d0.o.size));have cT:=G (e9.o _ _ dl.o (ar_of am.o))
   go_wp2_with fail
   refine cT.o.mono ?_;rintro e aD⟨rfl,bd⟩;have b0:=pR dl bd;have cf:=G (((bn.o.trans (bd.mono bn.o.size)).block _ (π ce.o)).trans ce.o);have di:=G (am.o.below bd);have ev:=G (show W.heap.size<cg.heap.size by have ao:=π ce.o;have aW:=bQ.o.size;omega);have fB:=U (j:=0) cf.o rfl;have ff:=ny aD _ 0 _ _ cf.o;replace bw:=pI bw bd;clear bd cT
   go_wp2_with fail
   have ae:=oO aD W.heap.size 0 _ _ (H bu a.length bx) cf.o;refine ow (yM rfl _ _ W.heap.size _ _ _ _ rfl ae Tryz.underlying24 rfl (by kernel_rfl)) rfl ?_;exact⟨⟨H bu a.length bx,rfl,ar_of (yq di.o ev.o),V1 di.o⟩,⟨b0.o.os,b0.o.tape,b0.o.output,by simpa using b0.o.size,λq aM=>(pz _ _ _ _ (show q≠W.heap.size by omega)).trans (b0.o.block q aM)⟩⟩
end De
end Go.Proofs.YthbhmjdcfocphaaGreatDoor
