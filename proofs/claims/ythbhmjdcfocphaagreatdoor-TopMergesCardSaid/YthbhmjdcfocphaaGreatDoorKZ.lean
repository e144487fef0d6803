/- A part of this proof. -/
import Derived.Test.YthbhmjdcfocphaaGreatDoorShelf3
import Derived.Test.YthbhmjdcfocphaaGreatDoorKY
import Derived.Test.YthbhmjdcfocphaaGreatDoorKU
set_option linter.all false
set_option maxHeartbeats 16000000
set_option maxRecDepth 100000
namespace Go.Proofs.YthbhmjdcfocphaaGreatDoor
open Go.Value renaming string→H, slice→J, pointer→ε, int→M
open Go.Obj renaming cells→U
open Go.Ending renaming returned→η
open Go.IntKind renaming i64→N
open Go.Lib renaming hid→G, frozen_of_heap→aE
open Go renaming World→O, Value→E, Calls→ah, wp_region_still_tail→aG, wpList→aL
open Go.Proofs.Tryz renaming prog→ξ, sortFn248→aJ, sortFn188→aK
open Go.Value renaming oneCell'→π
open _root_ renaming Nat→I, ByteArray→χ, List→Z, Int→V, absurd→aC, Inhabited→aN, Array→aR
open Option renaming none→Y, some→az
open Mg renaming yO→Δ, rQ→ο, names→aA
open Go.Sort renaming ahead→Ξ, putRow→aP, mapBlock→aQ
open Rw renaming lt_of_heap→Ω
open Mo renaming En→ς, Fd→aH, rS→aM
open Me.Row renaming slice→aj, nil→aO
open Go.World renaming drew→av, setCell→aI
namespace Np
open RowKit Go.Sort Rw Vf Mw Me Gr Ke Nr
section
variable {α:Type}[aN α]{enc:α->Z E}{k:I}
def E5(w:O)(b n:I)(d:aR α)(g:aR Obj):w.grownBy (sortWorldK enc k w b 0 n d g) (az b):=by
 refine⟨rfl,rfl,rfl,?_,λi c f=>?_⟩
 ·simp[sortWorldK,grow,putRowK,aP,aQ,Ξ]
 ·have a:b≠i:=λe=>f (by rw[e])
  simp only[sortWorldK,grow,putRowK,aP,aQ,Ξ];rw[iy (by simpa using c),gT,oU a]
def QX(w:O)(b n:I)(d a:aR α)(h:aR Obj)(m:HoldsK enc k w b 0 d)(s:a.size=d.size)(o:b<w.heap.size)(p:∀x,(enc x).length=k)(j:I)(e:j<a.size)(i:I)(c:i<k):(sortWorldK enc k w b 0 n a h).cell? ⟨b,j*k+i,Y⟩=(enc a[j])[i]?:=by
 have f:=cell?_putRow id (Ξ w n) b 0 (flatK enc k d) (flatK enc k a) m (by rw[size_flatK,size_flatK,s]) (j*k+i) (by rw[size_flatK];have:(j+1)*k<=a.size*k:=lZ _ e;rw[k9] at this;omega)
 have r:j*k+i<a.size*k:=by have:(j+1)*k<=a.size*k:=lZ _ e;rw[k9] at this;omega
 have q:0<k:=by omega
 rw[get_flatK enc k a _ r,show(j*k+i)/k=j by rw[lN,Nat.mul_add_div q,Nat.div_eq_of_lt c,kC],show(j*k+i)%k=i by rw[lN,Nat.mul_add_mod,Nat.mod_eq_of_lt c],nh,jD a j e] at f
 have l:(sortWorldK enc k w b 0 n a h).cell? ⟨b,j*k+i,Y⟩=(aP id (Ξ w n) b 0 (flatK enc k a)).cell? ⟨b,j*k+i,Y⟩:=by refine mI ?_;simp only[sortWorldK,grow,putRowK];rw[iy (by simpa [aP,aQ,Ξ] using o)]
 rw[l,f];have g:i<(enc a[j]).length:=by rw[p];exact c
 rw[jD _ i g,oW g];rfl
def Kh(o:∀x,(enc x).length=k){cf:α->α->V}{w:O}{b c:I}{d:aR α}(y:HoldsK enc k w b 0 d)(z:b<w.heap.size){e:Ending}{w':O}
 (t:e=η (.tuple #[])/\∃a n l,PermIn 0 d.size d a/\SortedIn (ltOf cf) 0 d.size a/\w'=sortWorldK enc k w b 0 n a l):
 e=η (.tuple #[])/\∃m:Z α,m.Perm d.toList/\m.Pairwise (λx K=>¬cf K x<0)/\(∀u:O,u.heap[b]?=w'.heap[b]?->Rw u (J (az ⟨b,0,Y⟩) d.size c) k (m.map enc))/\w.grownBy w' (az b):=by
 obtain⟨A,a,n,l,⟨h,-,q⟩,D,rfl⟩:=t;refine⟨A,a.toList,?_,?_,?_,E5 w b n a l⟩
 ·rw[<-h] at q
  have r:a.extract 0 a.size=a:=(by simp);have s:d.extract 0 a.size=d:=by rw[h];simp
  rwa [r,s] at q
 ·rw[kQ]
  intro i j f g B;simp only[jW] at f g;have:=D i j (oM _) B (by omega);unfold ltOf at this;rw[jD a i f,jD a j g] at this;simpa using this
 ·intro u F
  refine⟨b,0,_,c,by rw[oS,jW,h],λ_=>rfl,λj g i f=>?_⟩;have C:j<a.size:=(by simpa using g);have v:=QX w b n d a l y h z o j C i f;have p:i<(enc a[j]).length:=(by rw[o];exact f);refine⟨(enc a[j])[i],by simp[oG,p],?_⟩;rw[show(0:I)+j*k+i=j*k+i by omega,mI F,v,oW p]
def Ki{El:O->α->Z E->Prop}{t:TypeId}{S:I}{w:O}{v:E}{l:Z α}(u:0<k)(i:∀w x c,El w x c->c=enc x)(o:Row El k t S w v l)(p:l≠[]):
 ∃b c,v=J (az ⟨b,0,Y⟩) l.length c/\S<=b/\HoldsK enc k w b 0 l.toArray/\b<w.heap.size:=by
 obtain⟨L,h,q,r⟩:=o;have d:=r w λ_ _ _ _=>rfl
 rcases q.2 with⟨-,z⟩|⟨b,cap,A,rfl,s,f,D,B,C,y⟩
 ·exact aC (oK z) p
 ·refine⟨b,cap,rfl,s,λt g=>?_,Ω f⟩
  rw[size_flatK] at g;have n:t<l.length*k:=(by simpa using g);have a:t/k<l.length:=j9 (by rw[lN];exact n);have j:=jS t u;have e:=r8 h.1 (t/k) (by rw[d.1];exact a) (t%k) j;rw[lN,jH,i _ _ _ (d.2 (t/k) a (by rw[d.1];exact a))] at e
  have m:t%k<(enc l[t/k]).length:=by have:=h.1 _ (pq (show t/k<L.length by rw[d.1];exact a));rw[i _ _ _ (d.2 (t/k) a (by rw[d.1];exact a))] at this;rw[this];exact j
  rw[get_flatK enc k _ t g];refine⟨?_,aE f _⟩;rw[nh];unfold World.cell?;simp only[f,jT,nH,lQ,id_eq];rw[<-y,mG,oD n,oW m] at e;rw[jD _ (t/k) (by simpa using a),List.getElem_toArray,jD _ (t%k) m];simpa using e
end
def Gd(w w':O):Prop:=∃q a,w'=grow (w.drewN q) a
def Gd.alloc{w u:O}(a:Gd w u)(o:Obj):Gd w (u.alloc o):=by obtain⟨q,b,rfl⟩:=a;exact⟨q,b++#[o],by rw[alloc_eq_grow,grow_grow]⟩
def Gd.drew{w u:O}(a:Gd w u):Gd w u.drew:=by obtain⟨q,b,rfl⟩:=a;exact⟨q+1,b,rfl⟩
def gd2(w:O)(a b:Obj):Gd w ((w.alloc a).alloc b):=Gd.alloc (Gd.alloc ⟨0,#[],by simp[grow,World.drewN]⟩ a) b
def cmpE_dr(a b:ς)(w:O):
 ah ξ 161 #[.agg (pO a).toArray,.agg (pO b).toArray] w λe w'=>e=η (M N (aM a b))/\Gd w w':=by
 rw[<-Si];obtain⟨f,at',n,m,h⟩:=a;obtain⟨i,z,bl,y,j⟩:=b;simp only;obtain⟨x0,-,-,-,x4⟩:=vh (w:=w) (x0:=H f) (x1:=H at') (x2:=H n) (x3:=H m) (x4:=M N h) (t:=53);have s:=G (pM w (U #[H f,H at',H n,H m,M N h] 53))
 show ah ξ 161 #[.agg #[H f,H at',H n,H m,M N h],.agg #[H i,H z,H bl,H y,M N j]] w _
 have l:=G (And.intro x0 x4);clear x0 x4;generalize A:(w.alloc (U #[H f,H at',H n,H m,M N h] 53))=B at s l;obtain⟨p,-,-,-,y4⟩:=vh (w:=B) (x0:=H i) (x1:=H z) (x2:=H bl) (x3:=H y) (x4:=M N j) (t:=53);have o:=pM B (U #[H i,H z,H bl,H y,M N j] 53);have x:=pR s o;have x0:=pI l.o.1 o;have x4:=pI l.o.2 o;have R:B.heap.size=w.heap.size+1:=by rw[<-A];show(w.heap.push _).size=_;simp
 rw[R] at p y4;rw[<-A] at x0 x4 p y4 x;clear A o R l s;obtain⟨c,P⟩:=pL (wg j h);obtain⟨d,Q⟩:=pL (Mo.tS f i);have q:=λu=>Ej j h u
 have r:=λu=>zy f i u
 rw[P] at q|-;rw[Q] at r|-;clear P Q;have C:=G (λg u a1 a2=>Sg c d g u a1 a2);obtain⟨v,S⟩:∃v,(if c=0 then d else c)=v:=⟨_,rfl⟩;rw[S] at C|-;clear S
 go_enter Tryz.func161,Tryz.ntmps161
 go_wp2_with fail
 generalize L:(w.alloc _).alloc _=a0 at x0 x4 p y4 x|-;have X:=G (show Gd w a0 by rw[<-L];exact gd2 w _ _);clear L;refine aG 10 (by kernel_rfl) (by kernel_rfl) ?_;simp only[mm,lP,nS,nO]
 repeat(first|still_step|still_call (q _)|still_call (r _))
 refine wpStill_nil ?_;change aL _ _ _ _ _ (av _);generalize K:av _=F;have W:Hid (Gd w F):=G (by rw[<-K];exact X.o.drew);clear K x0 x4 p y4 x q r;have D:=G (wY F (M N c) (M N d) 3);have T:=G (W.o.alloc (U #[M N c,M N d] 3))
 go_wp2_with fail
 refine(C.o _ _ D.o.1 D.o.2).mono ?_;rintro e a3⟨rfl,rfl⟩
 go_wp2_with fail
 go_ret;exact⟨rfl,T.o⟩
def cmpF_dr(f g:aH)(vp ve i a9:E)(w:O)(P:Rw w vp 1 (f.path.map p_))(Q:Rw w i 1 (g.path.map p_))(ag:∃a n c,ve=J a n c)(ai:∃a n c,a9=J a n c)(ak:f.path.length<=8796093022208)(al:g.path.length<=8796093022208):
 ah ξ 102 #[.agg (pX f vp ve).toArray,.agg (pX g i a9).toArray] w λe w'=>e=η (M N (Mo.tM f g))/\Gd w w':=by
 obtain⟨r,b,s,q,x,am⟩:=f;obtain⟨y,h,K,F,L,an⟩:=g;obtain⟨p,A,c1,rfl⟩:=ag;obtain⟨D,S,c2,rfl⟩:=ai;obtain⟨x0,x1,-⟩:=uS (w:=w) (x0:=vp) (x1:=H b) (x2:=H s) (x3:=H q) (x4:=M N x) (x5:=J p A c1) (t:=51);have C:=G (pM w (U #[vp,H b,H s,H q,M N x,J p A c1] 51));change ah _ _ _ _ (λe w'=>e=η (M N (if Mo.q8 r y=0 then Mo.tS b h else Mo.q8 r y))/\_)
 show ah ξ 102 #[.agg #[vp,H b,H s,H q,M N x,J p A c1],.agg #[i,H h,H K,H F,M N L,J D S c2]] w _
 have o:=G (And.intro x0 x1);clear x0 x1;generalize R:(w.alloc (U #[vp,H b,H s,H q,M N x,J p A c1] 51))=T at C o;obtain⟨j,y1,-⟩:=uS (w:=T) (x0:=i) (x1:=H h) (x2:=H K) (x3:=H F) (x4:=M N L) (x5:=J D S c2) (t:=51);have z:=pM T (U #[i,H h,H K,H F,M N L,J D S c2] 51);have m:=pR C z;have x0:=pI o.o.1 z;have x1:=pI o.o.2 z;have a6:T.heap.size=w.heap.size+1:=by rw[<-R];show(w.heap.push _).size=_;simp
 rw[a6] at j y1;rw[<-R] at x0 x1 j y1 m;clear R z a6 o C;obtain⟨aq,ar,ao,ap,rfl,-,-⟩:=qp P;obtain⟨ax,ay,au,aw,rfl,-,-⟩:=qp Q;have X:=G (λ(u:O) (a7:Below w.heap.size w u)=>NY r y _ _ u (P.under a7) (Q.under a7) ak al);have l:=X.o _ m.o.drew;clear P Q X;simp only at x0 x1 j y1;obtain⟨c,a4⟩:=pL (Mo.q8 r y);obtain⟨d,a5⟩:=pL (Mo.tS b h);have B:=λu=>zy b h u
 rw[a4] at l|-;rw[a5] at B|-;clear a4 a5;have W:=G (λg u ae af=>Sg c d g u ae af);obtain⟨v,a8⟩:∃v,(if c=0 then d else c)=v:=⟨_,rfl⟩;rw[a8] at W|-;clear a8
 go_enter Tryz.func102,Tryz.ntmps102
 go_wp2_with fail
 generalize a3:(w.alloc _).alloc _=ad at x0 x1 j y1 m l|-;have ac:=G (show Gd w ad by rw[<-a3];exact gd2 w _ _);clear a3;refine aG 10 (by kernel_rfl) (by kernel_rfl) ?_;simp only[mm,lP,nS,nO]
 repeat(first|still_step|still_call l|still_call (B _))
 refine wpStill_nil ?_;change aL _ _ _ _ _ (av _);generalize a2:av _=a1;have ab:Hid (Gd w a1):=G (by rw[<-a2];exact ac.o.drew);clear a2 x0 x1 j y1 m l B;have a0:=G (wY a1 (M N c) (M N d) 3);have aa:=G (ab.o.alloc (U #[M N c,M N d] 3))
 go_wp2_with fail
 refine(W.o _ _ a0.o.1 a0.o.2).mono ?_;rintro e aB⟨rfl,rfl⟩
 go_wp2_with fail
 go_ret;exact⟨rfl,aa.o⟩
instance :aN ς:=⟨⟨⟨#[]⟩,⟨#[]⟩,⟨#[]⟩,⟨#[]⟩,0⟩⟩
def fe_row{S:I}{w:O}{v:E}{l:Z ς}(a:xB S w v l):∀u,Agree S w u Y->Rw u v 5 (l.map pO):=λu b=>YD a b
def aggE(w:O):(isAgg 53).run ξ w= .ok true w:=by kernel_rfl
def szE(w:O):(Go.sizeOf 53).run ξ w= .ok 5 w:=by kernel_rfl
def Zp(S:I)(v:E)(l:Z ς)(w:O)(d:xB S w v l)(B:l.length<=1000000):
 ah ξ 248 #[v,.func (.func 161) #[] #[]] w λe w'=>e=η (.tuple #[])/\∃f:Z ς,f.Perm l/\f.Pairwise (λx h=>¬aM h x<0)/\(∀u,Agree S w' u Y->Rw u v 5 (f.map pO))/\w.grownBy w' v.ownBlock:=by
 by_cases i:l=[]
 ·subst i
  obtain⟨a,c,rfl⟩:=aj d;refine(Go.Proofs.AnyF.slices_SortFunc_none aJ a c _ w).mono ?_;rintro e w'⟨rfl,rfl⟩;exact⟨rfl,[],List.Perm.refl _,List.Pairwise.nil,fe_row d,z_ _ _⟩
 ·obtain⟨b,c,rfl,s,n,g⟩:=Ki (enc:=pO) (by omega) (λ_ _ _ d=>d) d i
  refine(Go.Proofs.AnyQ.slices_SortFunc aJ 5 (λw=>aggE w) (λw=>szE w) pO (λ_=>rfl) Bb aM Mg.swoE 161 #[] b 0 c l.toArray w (λ_ _=>by kernel_rfl) (λm C z A x h=>(cmpE_dr x h _).mono λe w' d=>d) n g (by simp;omega)).mono ?_;intro e w' o;obtain⟨t,f,p,q,r,j⟩:=Kh (enc:=pO) (k:=5) (cf:=aM) (c:=c) (λx=>rfl) n g o;exact⟨t,f,p,q,λu y=>r u (y b s (oQ g j.size) (by simp)),j⟩
end Np
namespace Np
open RowKit Rw Vf Mw Me Gr Ke Nr
def id246(x:ς)(w:O):ah ξ 246 #[.agg (pO x).toArray] w λe w'=>e=η (H (Δ x))/\Below w.heap.size w w':=by
 obtain⟨i,t,l,c,u⟩:=x;have a:=pG w (U #[H i,H t,H l,H c,M N u] (53:I));obtain⟨x0,-⟩:=qv (pH _ _) a;have b:=G (pM w (U #[H i,H t,H l,H c,M N u] (53:I)));clear a
 show ah ξ 246 #[.agg #[H i,H t,H l,H c,M N u]] w _
 go_enter Tryz.func246,Tryz.ntmps246
 go_wp2_with fail
 go_ret;exact⟨rfl,b.o⟩
def Ve{S:I}{w w':O}{v:E}{l:Z ς}(a:xB S w v l)(e:∀q,v.ownBlock=az q->w'.heap[q]?=w.heap[q]?):xB S w' v l:=by obtain⟨L,b,c,d⟩:=a;exact⟨L,b,qj c e,λu _=>d w λ_ _ _ _=>rfl⟩
def Gl(l:Z ς)(v:E)(W:O)(S:Rw W v 5 (l.map pO))(b5:l.length<=1000000)(b6:∀x∈l,AD x)(bv:WT W):
 ah ξ 187 #[v] W λe w'=>(∃(bb:E)(d:Z ς),e=η bb/\(∃a n c,bb=J a n c)/\(∀u,Agree W.heap.size w' u Y->Rw u bb 5 (d.map pO))/\Mg.Cb aM Δ ο l d)/\Below W.heap.size W w':=by
 have be:=Tw.DV pO Δ l v W S (λx bL=>⟨⟨_,_,_,_,_,rfl⟩,Bb x,pF (b6 x bL).id.1 (by decide)⟩) b5 λx bL w=>id246 x w
 have ce:=G b6;have cg:=G bv;have ad:=G b5
 obtain⟨ae,cap,rfl⟩:∃ae cap,v=J ae l.length cap:=by obtain⟨_,_,ae,cap,e,_⟩:=qO S;exact⟨ae,cap,e⟩
 clear S b6 bv b5
 go_enter Tryz.func187,Tryz.ntmps187
 go_wp2_with fail
 refine be.mono ?_;rintro e B⟨⟨cW,aW,rfl,bE,ap,bF⟩,bw⟩;obtain⟨ch,ci,cI,cJ,rfl,b1,bD⟩:=Mw.qY bE (oS _);obtain⟨Q,b2⟩:=pL aW.length;have cd:=G b2;rw[b2] at b1 ap|-;have ac:=G ap;have ca:=G b1;have cb:=G bD;have bh:=G bF;have a0:=G bw;have cN:Q<=1000000:=by have t:=Mg.wX (key:=Δ) l;have T:=ad.o;rw[s7] at ap;omega
 clear be bE ap bF bw b1 bD b2
 go_wp2_with fail
 go_loopw [3,12] (λr x wr=>∃(k:I)(d:Z ς),k<=Q/\x=M N k/\Hid (xB B.heap.size wr r d)/\Hid (d.length=k/\∀j(b3:j<d.length)(aq:j<(aA Δ l).length),Mg.cm ο (Mg.of Δ (aA Δ l)[j] l)=az d[j])/\Hid (Below B.heap.size B wr)) (λ_ x _=>Q-(intOf x).toNat)
 case atStart=>exact⟨0,[],oM _,rfl,G aO,G ⟨rfl,λj S=>aC S (by simp)⟩,G (pH _ _)⟩
 case round=>
  obtain⟨k,d,cO,rfl,X,a4,p⟩:=hrel;obtain⟨b9,ba,cr⟩:=aj X.o;subst cr;have L:=G a4.o.1;rw[L.o] at X|-
  by_cases bJ:k<Q
  ·obtain rfl:=ca.o (by omega)
   have b4:k<aW.length:=(by rw[cd.o];exact bJ);have a3:k<(rL Δ l).length:=(by rw[<-ac.o];exact bJ);obtain⟨a6,bN,bO⟩:=cb.o k (by rw[oS];exact b4) 0 (by omega);rw[oG] at bN;cases bN;have s:wr.cell? ⟨ch,ci+k,Y⟩=az aW[k]:=(by have:=pI bO p.o;simpa using this);have b7:=(bh.o k b4 a3).1;obtain⟨cC,cc,ao,aZ⟩:=(bh.o k b4 a3).2
   obtain⟨x,r,b8⟩:∃x r,(rL Δ l)[k]=x::r:=by
    cases bC:(rL Δ l)[k] with
    |nil=>
     exfalso
     simp only[rL,oG] at bC;obtain⟨z,ct,cu⟩:=Mg.yZ.1 (pq (show k<(aA Δ l).length by rw[<-s7];exact a3))
     exact Mg.of_ne ct cu bC
    |cons x r=>exact⟨x,r,rfl⟩
   have aU:=G (show Mg.of Δ ((aA Δ l)[k]'(by rw[<-s7];exact a3)) l=x::r by rw[<-b8];simp only[rL,oG]);have aF:=G (λa6 (au:a6∈x::r)=>ce.o a6 (by rw[<-aU.o] at au;exact(List.mem_filter.1 au).1));rw[b8] at b7 ao aZ;obtain⟨cH,bt,cG,am,bB,bA,b0⟩:=qO b7;rw[bB] at s ao;obtain rfl:am=cc:=by injection ao
   obtain rfl:=bA (by simp);obtain⟨F,a5⟩:=pL r.length;have bm:=G a5;have cM:F+1<=am:=(by rw[<-a5];exact aZ)
   have cP:F<=1000000:=by have t:=nT List.length aU.o;have C:(Mg.of Δ ((aA Δ l)[k]'(by rw[<-s7];exact a3)) l).length<=l.length:=ng _ _;have T:=ad.o;rw[oJ,a5] at t;omega
   rw[oJ,a5] at s;obtain⟨x0,x1,x2,x3,x4⟩:=b0 0 (by simp);replace x0:=pI x0 p.o;replace x1:=pI x1 p.o;replace x2:=pI x2 p.o;replace x3:=pI x3 p.o;replace x4:=pI x4 p.o;have bY:=G b0;have cR:(k:V)<(Q:V):=(by omega);have cQ:(0:V)<=(k:V):=(by omega);have a1:=G X.o;have R:=G p.o;have aS:=G a4.o.2;clear X p a4 b8 b7 bB bA b0 a5 bO ao aZ;simp only[jh,kC,jf] at x0 x1 x2 x3 x4;obtain⟨g,m,h,f,o⟩:=x;simp only at x0 x1 x2 x3 x4;have cS:(0:V)<((F+1:I):V):=(by omega);have aV:=G (pG wr (U #[H ⟨#[]⟩,H ⟨#[]⟩,H ⟨#[]⟩,H ⟨#[]⟩,M N 0] (53:I)));have D:=pM wr (U (pO ⟨g,m,h,f,o⟩).toArray (53:I));have bg:=G (R.o.trans (D.mono R.o.size));have aB:=G (pG wr (U (pO ⟨g,m,h,f,o⟩).toArray (53:I)));have bl:=G (a1.o.below D);have bi:=G (λq (e:(Value.slice b9 k ba).ownBlock=az q)=>(Tw.qJ a1.o e).2);have y5:=pI s D;clear D
   by_cases cn:am=1
   all_goals
    go_wp2_with(refine oN rfl 53 _ _ rfl _ _ rfl rfl 53 _ aV.o (by kernel_rfl) rfl (by simp[π]) ?_;rw[su];clear s x0 x1 x2 x3 x4;change aL _ _ _ _ _ (wr.alloc (U (pO ⟨g,m,h,f,o⟩).toArray (53:I)));generalize bu:wr.heap.size=bf at aB bi|-;generalize wr.alloc (U (pO ⟨g,m,h,f,o⟩).toArray (53:I))=cY at bg aB bl y5|-;have bZ:=G bu;clear bu)
    go_loopw [22] (λx bc=>∃j:I,j<=F/\x=M N j/\Hid (bc.heap[bf]?=az (U (pO ((r.take j).foldl ο ⟨g,m,h,f,o⟩)).toArray (53:I)))/\Hid (xB B.heap.size bc (J b9 k ba) d)/\Hid (Below B.heap.size B bc)) (λx _=>F-(intOf x).toNat)
    case atStart=>exact⟨0,oM _,rfl,aB,bl,bg⟩
    case round=>
     obtain⟨j,b3,rfl,y,ar,A⟩:=hrel
     by_cases cp:j<F
     ·have cq:am≠1:=by omega
      try exact aC cn cq
      all_goals
       have bI:j<r.length:=(by rw[bm.o];exact cp);have bd:=bY.o (j+1) (by simp;omega);simp only[jN] at bd;rw[show bt+(j+1)*5=bt+5+j*5 by omega] at bd;obtain⟨s,y1,y2,y3,y4⟩:=bd;replace s:=pI s A.o;replace y1:=pI y1 A.o;replace y2:=pI y2 A.o;replace y3:=pI y3 A.o;replace y4:=pI y4 A.o;have bk:=G (aF.o _ (oH _ (pq bI)));have bj:=G (Mg.BJ (sS:=ο) (P:=AD) (λa b cj ck=>SG cj ck) (r.take j) ⟨g,m,h,f,o⟩ (aF.o _ (oL ..)) λa6 au=>aF.o a6 (oH _ (lY au)));have ay:=G (show(r.take (j+1)).foldl ο ⟨g,m,h,f,o⟩=ο ((r.take j).foldl ο ⟨g,m,h,f,o⟩) r[j] by rw[Mg.qi bI,lK];rfl);generalize(r.take j).foldl ο ⟨g,m,h,f,o⟩=c at y bj ay;generalize r[j]=z at s y1 y2 y3 y4 bk ay;obtain⟨a8,a9,zl,a7,aa⟩:=z;simp only at s y1 y2 y3 y4;have aV:=G (pG wr (U #[H ⟨#[]⟩,H ⟨#[]⟩,H ⟨#[]⟩,H ⟨#[]⟩,M N 0] (53:I)));have D:=pM wr (U (pO ⟨a8,a9,zl,a7,aa⟩).toArray (53:I));have bV:=G y.o;have ax:=G D;have K:=G A.o;have aT:=G ar.o;have bM:=(D.block bf (Ω y.o)).trans y.o;have bP:=pG wr (U (pO ⟨a8,a9,zl,a7,aa⟩).toArray (53:I));obtain⟨ag,ak,ai,af,al⟩:=c;have cT:(j:V)<(F:V):=(by omega);have cU:(0:V)<=(j:V):=(by omega);clear y ar A D
       go_wp2_with(refine oN rfl 53 _ _ rfl _ _ rfl rfl 53 _ aV.o (by kernel_rfl) rfl (by simp[π]) ?_;rw[su];clear s y1 y2 y3 y4 y5;change aL _ _ _ _ _ (wr.alloc (U (pO ⟨a8,a9,zl,a7,aa⟩).toArray (53:I)));obtain⟨cx,cy,cz,cA,cB⟩:=qv (pH _ _) bP;obtain⟨bo,bp,bq,br,bs⟩:=qv (pH _ _) bM)
       have ab:=Yl ⟨ag,ak,ai,af,al⟩ ⟨a8,a9,zl,a7,aa⟩ bj.o bk.o (wr.alloc (U (pO ⟨a8,a9,zl,a7,aa⟩).toArray (53:I))) (cg.o.below (a0.o.trans ((K.o.trans (ax.o.mono K.o.size)).mono a0.o.size)));rw[<-ay.o] at ab;obtain⟨c2,aY⟩:=pL ((r.take (j+1)).foldl ο ⟨g,m,h,f,o⟩);have bW:=G aY;rw[aY] at ab;clear aY cx cy cz cA cB bo bp bq br bs bP bM;obtain⟨cE,dt,cF,cD,du⟩:=c2;refine ab.mono ?_;rintro e cZ⟨rfl,bz⟩;have an:=ax.o.trans (bz.mono ax.o.size);have bn:=G (pW an bV.o);have cf:=G (aT.o.below an);have bU:=G (K.o.trans (an.mono K.o.size));clear an bz ab
       go_wp2_with(refine oN rfl 53 _ _ rfl _ _ rfl rfl 53 _ bn.o (by kernel_rfl) rfl (by simp[π,pO]) ?_)
       go_wp2_with fail
       go_roundw
       case rel=>exact⟨j+1,by omega,by go_num,by rw[bW.o];exact G (og _ _ _ _ _ _ bn.o),G (Ve cf.o λq e=>oo _ _ _ _ (by have:=bi.o q e;omega)),G (pS bU.o (by have t:=R.o.size;have C:=bZ.o;omega) _)⟩
       case measure=>simp[intOf];omega
     ·have cL:decide ((j:V)<(F:V))=false:=o9 (by omega)
      have bK:r.take j=r:=oP (by rw[bm.o];omega);rw[bK] at y;obtain⟨c,aX⟩:=pL (r.foldl ο ⟨g,m,h,f,o⟩);have bX:=G aX;rw[aX] at y;clear aX bK y5;obtain⟨ag,ak,ai,af,al⟩:=c;obtain⟨bo,bp,bq,br,bs⟩:=qv (pH _ _) y.o;have aT:=G ar.o;have K:=G A.o;have aD:=G (show k<=1000000 by have t:=Mg.wX (key:=Δ) l;have C:=ac.o;have T:=ad.o;rw[s7] at C;omega);clear y ar A
      go_wp2_with(refine qu (n:=k) wr rfl (.tmp 30) (.tmp 32) rfl Wn L.o rfl aT.o (⟨ag,ak,ai,af,al⟩:ς) (pO ⟨ag,ak,ai,af,al⟩) rfl (λu _=>rfl) rfl (Bb _) K.o.size (by have:=aD.o;omega) (by decide) ?_)
      intro cV cX a2 bx co;have aw:=G a2;have bT:=G (K.o.trans bx);clear a2 bx co
      go_wp2_with fail
      go_roundw
      case rel=>
       refine⟨k+1,_,by omega,by go_num,aw,G ⟨by rw[o_,L.o];rfl,λi bG aq=>?_⟩,bT⟩
       by_cases bH:i<d.length
       ·rw[n_ bH]
        exact aS.o i bH aq
       ·have e:i=k:=by have t:=L.o;rw[o_] at bG;simp only[lR] at bG;omega
        subst e;rw[aU.o,nJ (by rw[L.o];exact oZ _)];simp only[mK]
        show az (r.foldl ο _)=_
        rw[bX.o]
      case measure=>simp[intOf];omega
  ·have cK:decide ((k:V)<(Q:V))=false:=o9 (by omega)
   obtain rfl:k=Q:=by omega
   have a1:=G X.o;have R:=G p.o;have aS:=G a4.o.2;have aD:=G (show k<=1000000 by have t:=Mg.wX (key:=Δ) l;have C:=ac.o;have T:=ad.o;rw[s7] at C;omega);clear X p a4
   go_wp2_with fail
   refine(Zp B.heap.size (J b9 k ba) d wr a1.o (by rw[L.o];exact aD.o)).mono ?_;rintro e cw⟨rfl,cv,t,C,T,a2⟩;have bQ:=G t;have bR:=G C;have bS:=G T;have aw:=G a2;clear t C T a2
   go_wp2_with fail
   go_ret;have cl:Below B.heap.size B cw:=qI aw.o R.o (λq e=>(Tw.qJ a1.o e).1) R.o.size;refine⟨⟨_,cv,rfl,⟨_,_,_,rfl⟩,λu cs=>bS.o u λq a b c=>cs q (pF a0.o.size a) b c,?_⟩,a0.o.trans (cl.mono a0.o.size)⟩;refine Mg.Cb.MP Mg.AA Mg.kpE (by rw[L.o,ac.o,s7]) (λj b3 aq=>aS.o j b3 aq) bQ.o (bR.o.imp λS=>by omega)
def tiP:TI 291 292 1 8:=Dx Tryz.underlying291 (by kernel_rfl) (by decide)
def PtEl(w:O)(p:(I×I)×χ)(c:Z E):Prop:=c=Ar p
abbrev PtRow(S:I)(w:O)(v:E)(l:Z ((I×I)×χ)):Prop:=Row PtEl 1 292 S w v l
def pts(b:I):I->Z χ->Z ((I×I)×χ)
 |_,[]=>[]
 |o,x::r=>((b,o),x)::pts b (o+1) r
def F3(b:I):∀(l:Z χ)(o:I),(pts b o l).length=l.length
 |[],_=>rfl
 |x::r,o=>by simp[pts,F3 b r]
def Oo(b:I)(x:χ):∀(l:Z χ)(o:I),pts b o (l++[x])=pts b o l++[((b,o+l.length),x)]
 |[],o=>rfl
 |y::r,o=>by
  simp only[mq,pts,Oo b x r,oJ];rw[show o+1+r.length=o+(r.length+1) by omega]
def LX(b:I):∀(l:Z χ)(o:I)(p),p∈pts b o l->∃j,∃a:j<l.length,p=((b,o+j),l[j])
 |[],_,p,a=>by cases a
 |x::r,o,p,a=>by
  rcases List.mem_cons.1 a with rfl|a
  ·exact⟨0,by simp,rfl⟩
  ·obtain⟨j,c,e⟩:=LX b r (o+1) p a
   exact⟨j+1,by simp;omega,by rw[e];simp;omega⟩
def Te{S:I}{w:O}{v:E}{p:Z χ}(d:CY S w v p):∃b a c,v=J a p.length c/\(0<p.length->a=az ⟨b,0,Y⟩/\S<=b)/\∀j(f:j<p.length),w.cell? ⟨b,j,Y⟩=az (.string p[j])/\w.frozen? ⟨b,j,Y⟩=false:=by
 have r:=CY.rw d;obtain⟨L,u,l,x⟩:=d;rcases l.2 with⟨rfl,i⟩|⟨b,cap,t,rfl,n,q,_⟩
 ·exact⟨0,Y,0,by rw[i],λd=>by omega,λj f=>by omega⟩
 ·obtain⟨g,y,a,s,e,m,o⟩:=qp r
  refine⟨b,_,cap,rfl,λ_=>⟨rfl,n⟩,λj f=>⟨?_,aE q _⟩⟩;have h:a=az ⟨b,0,Y⟩:=(by injection e with e1 _ _;exact e1.symm);rw[m (by omega)] at h;cases h;have:=o j f
  rwa [nh] at this
def Wk(f:aH)(vp ve:E)(W:O)(b7:Rw W vp 1 (f.path.map p_))(ai:Rw W ve 5 (f.pU.map pO))(d8:QZ f)(bz:f.pU.length<=1000000)(A:∀e∈f.pU,AD e)(ct:Mo.okF f=true)(co:WT W):
 ah ξ 182 #[.agg (pX f vp ve).toArray] W λx w'=>(∃cD bJ,x=η (.tuple #[.agg (pX f cD bJ).toArray,M N 0])/\∀u,Agree W.heap.size w' u Y->Rw u cD 1 (f.path.map p_)/\Rw u bJ 5 (f.pU.map pO))/\Below W.heap.size W w':=by
 obtain⟨cA,ba,bC,bD,bE,bF,bG,bb⟩:=J4 ct;obtain⟨ad,ae,af,am,bp,ce,bq,cf⟩:=d8;obtain⟨p,i,t,l,u,es⟩:=f;obtain⟨dv,dw,bH,bI,rfl,cu,cv⟩:=qp b7;obtain⟨dq,dr,cg,ch,rfl,bt,bu⟩:=qO ai;simp only at cA ba bC bD bE bF bG bb ad ae af am bp ce bq cf b7 ai cu cv bt bu bz A;have du:i.toList.isEmpty=false:=by simpa [Mo.IV] using bC
 have cQ:=G (λe ai w=>UH e w (bq e ai) (Mo.vI _ _ _ bb e ai));have cU:=G (λw=>Hv u w bD);have cM:=G (show p.all (λp=>Mo.IV p&&Mo.s_ p)=true by rw[mF];intro q A;rw[oz];exact ba q A)
 have bO:=G (λ(w:O) (v:E) (b a:I) (d:Rw w v 1 ((pts b 0 p++[((a,1),i),((a,2),t),((a,3),l)]).map Ar)) b3=>AZ _ v w d b3 (by rw[o_,F3];simp;omega) (by
  intro q A;rcases List.mem_append.1 A with d|d
  ·obtain⟨j,ar,rfl⟩:=LX b p 0 q d
   exact⟨bp _ (pq ar),(ba _ (pq ar)).2⟩
  ·simp only[ox,oy,nw] at d
   rcases d with rfl|rfl|rfl
   ·exact⟨ad,bE⟩
   ·exact⟨ae,bF⟩
   ·exact⟨af,bG⟩))
 have cV:=G bb;have cW:=G A;have bQ:=G bt;have cR:=G bu;have bT:=G b7;have bn:=G co;obtain⟨g,b8⟩:=pL p.length;obtain⟨a8,b6⟩:=pL es.length;have a6:=G b8;have aW:=G b6;rw[b8] at bT cA;rw[b6] at bQ bz;clear A ba bC bD bE bF bG bb ad ae af am bp ce bq cf ct b7 ai cu cv bt bu co
 show ah ξ 182 #[.agg #[J bH p.length bI,H i,H t,H l,M N u,J cg es.length ch]] W _
 rw[b8,b6];clear b8 b6;obtain⟨an,b2,b4⟩:=sM W (U #[J bH g bI,H i,H t,H l,M N u,J cg a8 ch] 51) (U #[J Y 0 0,H ⟨#[]⟩,H ⟨#[]⟩,H ⟨#[]⟩,M N 0,J Y 0 0] 51)
 go_enter Tryz.func182,Tryz.ntmps182
 go_upto_region 1 with fail
 generalize(W.alloc _).alloc _=a7 at an b2 b4|-;generalize cn:W.heap.size=a at an b2|-;have aU:=G cn;clear cn;have bi:=G b2;have bh:=G an;have bf:=G b4;have bU:=G (bT.o.under b4);obtain⟨a0,L,P,Q,R,S⟩:=pN (pH _ _) an;clear an b2 b4
 go_wp2_with fail
 refine(D4 p (J bH g bI) a7 bU.o (by rw[a6.o];omega)).mono ?_;rintro e bK⟨⟨bJ,rfl,c⟩,m⟩;obtain⟨ag,s,cc,cw,bs,d9⟩:=Te c;rw[a6.o] at cw bs;subst cw;have bB:=(m.block a (Ω bh.o)).trans bh.o;have b0:=G (oO _ a 0 _ _ (J s g cc) bB);have bv:a+1<a7.heap.size:=Ω bi.o;have bk:=G (De.yq (x:=J s g cc) (j:=0) c (show a<a7.heap.size by omega));have bj:=G ((pz bK ⟨a,0,Y⟩ (a+1) (J s g cc) (by simp)).trans ((m.block _ bv).trans bi.o));have aF:=G ((bf.o.trans (m.mono bf.o.size)).setCell (p:=⟨a,0,Y⟩) (by have:=aU.o;simp only;omega) (J s g cc));have bm:=G (show a7.heap.size<=(bK.setCell ⟨a,0,Y⟩ (J s g cc)).heap.size by have:=m.size;simp[aI];omega);have aV:=G bv;have bN:=G bs;have d5:=yY bB 0;replace a0:=pI a0 m;replace L:=pI L m;replace P:=pI P m;replace Q:=pI Q m;replace R:=pI R m;replace S:=pI S m;clear bB c m d9 bs bv
 go_wp2_with fail
 generalize bK.setCell ⟨a,0,Y⟩ (J s g cc)=ay at b0 bk bj aF bm|-;clear d5 a0 L P Q R S bU;obtain⟨T,cq⟩:=pL ay.heap.size;have bo:=G cq;have bR:=G (show a+1<T by have:=bm.o;have:=aV.o;omega);have cP:=G (pH T ay);clear cq
 go_loopw [4,19] (λq x wr=>∃k:I,k<=g/\x=M N k/\Hid (PtRow T wr q (pts ag 0 (p.take k)))/\Hid (Below T ay wr)) (λ_ x _=>g-(intOf x).toNat)
 case atStart=>exact⟨0,oM _,rfl,G aO,cP⟩
 case round=>
  obtain⟨k,dt,rfl,a9,z⟩:=hrel;obtain⟨dx,dy,au⟩:=aj a9.o;have X:(p.take k).length=k:=List.length_take.trans (nM (by have:=a6.o;omega));rw[F3,X] at au;subst au;have b3:=(z.o.block a (by have:=bR.o;omega)).trans b0.o;have D:=G z.o;have F:=G a9.o;have aX:=G (show(pts ag 0 (p.take k)).length=k by rw[F3,X]);have K:=G (show T<=wr.heap.size by have h:=z.o.size;have c:=bo.o;omega);have bg:=G X;obtain⟨a0,L,P,Q,R,S⟩:=pN (pH _ _) b3;clear z a9 X b3
  by_cases dd:k<g
  ·obtain⟨rfl,-⟩:=bN.o (by omega)
   have dc:k<p.length:=(by rw[a6.o];exact dd);have dh:(k:V)<(g:V):=(by omega);have dg:(0:V)<=(k:V):=by omega
   go_wp2_with(refine qu (n:=k) wr rfl (.tmp 22) (.tmp 27) rfl tiP aX.o rfl F.o (((ag,k),p[k]):(I×I)×χ) (Ar ((ag,k),p[k])) rfl (λu _=>rfl) rfl (by simp[π]) K.o (by omega) (by decide) ?_)
   intro cE bL ao ap bx;have aD:=G ao;have aa:=G (D.o.trans ap);clear ao ap bx
   go_wp2_with fail
   go_roundw
   case rel=>exact⟨k+1,by omega,by go_num,by rw[Mg.qi dc,Oo,bg.o,nh];exact aD,aa⟩
   case measure=>simp[intOf];omega
  ·have ci:decide ((k:V)<(g:V))=false:=o9 (by omega)
   have aw:p.take k=p:=oP (by rw[a6.o];omega);rw[aw] at F aX;obtain rfl:k=g:=by omega
   have r:=pM wr (U #[ptr a 1,ptr a 2,ptr a 3] (292:I));have ab:=G r;have cb:=G (SE wr [((a,1),i),((a,2),t),((a,3),l)] (292:I) 3);have bW:=G (F.o.below r);have bX:=G (pF K.o r.size);clear r aw
   go_wp2_with(refine rz (n:=k) (wr.alloc (U #[ptr a 1,ptr a 2,ptr a 3] (292:I))) rfl (.tmp 30) (.tmp 34) rfl tiP aX.o rfl bW.o (J (az ⟨wr.heap.size,0,Y⟩) 3 3) 3 [((a,1),i),((a,2),t),((a,3),l)] ([((a,1),i),((a,2),t),((a,3),l)].map Ar) rfl cb.o rfl rfl (λu _=>all_map (C:=Ar) (λ_=>rfl) _) (za (C:=Ar) (λ_=>rfl) (λ_ _ d=>by rw[List.mem_singleton.1 d];rfl) _) bX.o (by omega) (by decide) ?_)
   intro cE bL ao ap bx;have aa:=G (D.o.trans ((ab.o.mono K.o).trans ap));have aD:=G (De.yP (C:=Ar) (λ_ _ _ d=>d) ao);clear ao ap bx bW cb bX ab a0 L P Q R S
   go_wp2_with fail
   have b5:Below ay.heap.size ay bL:=(by rw[bo.o];exact aa.o);have ak:=(aa.o.block a (by have:=bR.o;omega)).trans b0.o;have bA:=bk.o.below b5;have aZ:=G (aF.o.trans (aa.o.mono (by have h:=aF.o.size;have c:=bo.o;omega)));refine(bO.o bL cE ag a aD.o (λq A=>?_) (bn.o.below aZ.o)).mono ?_
   ·rcases List.mem_append.1 A with d|d
    ·obtain⟨j,ar,rfl⟩:=LX ag p 0 q d
     obtain⟨dm,d3,dn,e,d7,da⟩:=Te bA;obtain rfl:s=d3:=by injection e
     have h:=(bN.o (by have:=a6.o;omega)).1;rw[(d7 (by omega)).1] at h;cases h;simp only[nh];exact da j ar
    ·obtain⟨dp,c1,c2,d4,-⟩:=pN (pH _ _) ak
     simp only[ox,oy,nw] at d;rcases d with rfl|rfl|rfl
     ·exact⟨c1,yY ak 1⟩
     ·exact⟨c2,yY ak 2⟩
     ·exact⟨d4,yY ak 3⟩
   rintro e al⟨rfl,aq⟩;have br:=b5.trans (aq.mono b5.size);have ca:=G (pW aq ak);have bV:=G (bA.below aq);have cS:=G (pW br bj.o);have bZ:=G (aZ.o.trans (aq.mono aZ.o.size));have bl:=G (pF bm.o br.size);clear b5 ak bA aq br aD aa aZ F aX D K bO bj bk b0 bi bh bf aF;obtain⟨a0,L,P,Q,R,S⟩:=pN (pH _ _) ca.o;have d6:decide ((64:V)<(k:V))=false:=o9 (by omega)
   go_wp2_with(first|(refine(EY p (J s k cc) al (CY.rw bV.o) (by rw[a6.o];omega) cM.o).mono ?_;rintro e dl ⟨rfl,ax⟩;rw[ax];clear ax)|(refine(cU.o _).mono ?_;rintro e dl ⟨rfl,ax⟩;rw[ax];clear ax))
   obtain⟨b1,cp⟩:=pL al.heap.size;have ac:=G cp;have cN:=G (pH b1 al);clear cp a0 L P Q R S d6 ci
   go_loopw [7,67] (λq x wr=>∃j:I,j<=a8/\x=M N j/\Hid (xB b1 wr q (es.take j))/\Hid (Below b1 al wr)) (λ_ x _=>a8-(intOf x).toNat)
   case atStart=>exact⟨0,oM _,rfl,G aO,cN⟩
   case round=>
    obtain⟨j,ar,rfl,a9,z⟩:=hrel;obtain⟨di,dj,au⟩:=aj a9.o;have X:(es.take j).length=j:=List.length_take.trans (nM (by have:=aW.o;omega));rw[X] at au;subst au;have D:=G z.o;have F:=G a9.o;have bg:=G X;have K:=G (show b1<=wr.heap.size by have h:=z.o.size;have c:=ac.o;omega);have o:=G (bZ.o.trans (z.o.mono (by have h:=bZ.o.size;have c:=ac.o;omega)));clear z a9 X
    by_cases de:j<a8
    ·obtain rfl:=bQ.o (by omega)
     have bw:j<es.length:=(by rw[aW.o];exact de);obtain⟨aB,y1,y2,y3,y4⟩:=cR.o j bw;replace aB:=pI aB o.o;replace y1:=pI y1 o.o;replace y2:=pI y2 o.o;replace y3:=pI y3 o.o;replace y4:=pI y4 o.o;have bP:=G (cQ.o _ (pq bw));have bY:=G (Mg.qi bw);generalize es[j]=e at aB y1 y2 y3 y4 bP bY;obtain⟨a2,a4,a3,a1,a5⟩:=e;simp only at aB y1 y2 y3 y4;have dh:(j:V)<(a8:V):=(by omega);have dg:(0:V)<=(j:V):=(by omega);have r:=pM wr (U (pO ⟨a2,a4,a3,a1,a5⟩).toArray (53:I));have ab:=G r;have d1:=G (pG wr (U #[H ⟨#[]⟩,H ⟨#[]⟩,H ⟨#[]⟩,H ⟨#[]⟩,M N 0] (53:I)));have cx:=pG wr (U (pO ⟨a2,a4,a3,a1,a5⟩).toArray (53:I));clear r
     go_wp2_with(refine oN rfl 53 _ _ rfl _ _ rfl rfl 53 _ d1.o (by kernel_rfl) rfl (by simp[π]) ?_;rw[su];clear aB y1 y2 y3 y4;change aL _ _ _ _ _ (wr.alloc (U (pO ⟨a2,a4,a3,a1,a5⟩).toArray (53:I)));obtain⟨cF,cG,cH,cI,cJ⟩:=qv (pH _ _) cx)
     clear cF cG cH cI cJ cx;refine(bP.o _ (bn.o.below (o.o.trans (ab.o.mono o.o.size)))).mono ?_;rintro e B⟨rfl,y⟩;have aS:=G (ab.o.trans (y.mono ab.o.size));have d2:=G (pG B (U #[H ⟨#[]⟩,H ⟨#[]⟩,H ⟨#[]⟩,H ⟨#[]⟩,M N 0] (53:I)));have r:=pM B (U (pO ⟨a2,a4,a3,a1,a5⟩).toArray (53:I));have aT:=G (aS.o.trans (r.mono aS.o.size));have cy:=pG B (U (pO ⟨a2,a4,a3,a1,a5⟩).toArray (53:I));clear y r
     go_wp2_with(first|(refine oN rfl 53 _ _ rfl _ _ rfl rfl 53 _ d2.o (by kernel_rfl) rfl (by simp[π,pO]) ?_;rw[su];obtain⟨cd,ad,ae,af,am⟩:=qv (pH _ _) cy;clear cy;generalize B.alloc (U (pO ⟨a2,a4,a3,a1,a5⟩).toArray (53:I))=w8 at aT cd ad ae af am|-)|(refine qu (n:=j) _ rfl (.tmp 80) (.tmp 82) rfl Wn bg.o rfl (F.o.below aT.o) (⟨a2,a4,a3,a1,a5⟩:ς) (pO ⟨a2,a4,a3,a1,a5⟩) rfl (λu _=>rfl) rfl (Bb _) (pF K.o aT.o.size) (by omega) (by decide) ?_))
     intro dA dB cl cr db;have cL:=G cl;have cO:=G (D.o.trans ((aT.o.mono K.o).trans cr));clear cl cr db cd ad ae af am
     go_wp2_with fail
     go_roundw
     case rel=>exact⟨j+1,by omega,by go_num,by rw[bY.o];exact cL,cO⟩
     case measure=>simp[intOf];omega
    ·have ci:decide ((j:V)<(a8:V))=false:=o9 (by omega)
     have aw:es.take j=es:=oP (by rw[aW.o];omega);rw[aw] at F;obtain rfl:j=a8:=by omega
     have cz:=(D.o.block a (by have h:=ac.o;have c:=bl.o;have cj:=aV.o;omega)).trans ca.o;have d0:=G cz;have cY:=G (bV.o.below (show Below al.heap.size al wr by rw[ac.o];exact D.o));have cT:=G ((D.o.block (a+1) (by have h:=ac.o;have c:=bl.o;have cj:=aV.o;omega)).trans cS.o);have bM:=Gl es (J di j dj) wr (xB.rw F.o) (by rw[aW.o];exact bz) cW.o (bn.o.below o.o);clear aw cz
     go_wp2_with fail
     refine bM.mono ?_;rintro e B⟨⟨dz,dk,rfl,⟨bc,be,bd,rfl⟩,ck,cs⟩,y⟩;obtain⟨-,cB,cC⟩:=Mg.tE Mg.AA cV.o;obtain rfl:dk=es:=Mg.Cb.ext Mg.AA cs (Mg.Cb.self cB cC);have b9:=pW y d0.o;have cZ:=G (oO _ a 5 _ _ (J bc be bd) b9);have bS:=G ((pz B ⟨a,5,Y⟩ (a+1) (J bc be bd) (by simp)).trans (pW y cT.o));have cK:=G ck;have cX:=G (cY.o.below y);have aS:=G ((o.o.trans (y.mono o.o.size)).setCell (p:=⟨a,5,Y⟩) (by have:=aU.o;simp only;omega) (J bc be bd));have aY:=G (show a+1<a7.heap.size/\a7.heap.size<=wr.heap.size/\wr.heap.size<=B.heap.size from⟨aV.o,by have h:=bl.o;have c:=ac.o;have cj:=K.o;omega,y.size⟩);have ds:=yY b9 5;obtain⟨a0,L,P,Q,R,S⟩:=pN (pH _ _) b9;obtain⟨cF,cG,cH,cI,cJ,dC⟩:=pN (pH _ _) cZ.o;clear b9 ck y cs cB cC bM
     go_wp2_with(refine oN rfl 51 _ _ rfl _ _ rfl rfl 51 _ bS.o (by kernel_rfl) rfl (by simp[π]) ?_)
     go_wp2_with fail
     refine ow (qE rfl _ _ (a+1) _ _ _ _ rfl (og _ _ _ _ _ _ bS.o) Tryz.underlying51 rfl (by kernel_rfl)) rfl ?_;refine⟨⟨J s k cc,J bc be bd,rfl,λu df=>?_⟩,pS aS.o (by have:=aU.o;omega) _⟩
     have cm:∀q,a7.heap.size<=q->q<B.heap.size->u.heap[q]?=B.heap[q]?:=λq h c=>by
      rw[df q (by have:=aU.o;have:=aY.o;omega) (by simpa [aI] using c) (by simp),oo _ _ _ _ (by have:=aY.o;omega),pz _ _ _ _ (by have:=aY.o;simp only;omega)]
     exact⟨O4 cX.o λq h c _=>cm q h c,cK.o u λq h c _=>cm q (by have:=aY.o;omega) c⟩
end Np
namespace Np
open RowKit Go.Sort Rw Vf Mw Me Gr Ke Nr
def SF(K:O->Prop):Type:={x:aH×(Option Addr×I×I)×(Option Addr×I×I)//∀u,K u->Rw u (J x.2.1.1 x.2.1.2.1 x.2.1.2.2) 1 (x.1.path.map p_)/\Rw u (J x.2.2.1 x.2.2.2.1 x.2.2.2.2) 5 (x.1.pU.map pO)/\x.1.path.length<=64}
instance (K:O->Prop):aN (SF K):=⟨⟨(⟨[],⟨#[]⟩,⟨#[]⟩,⟨#[]⟩,0,[]⟩,(Y,0,0),(Y,0,0)),λu _=>⟨Rw.nil u 1,Rw.nil u 5,oM _⟩⟩⟩
def vv{K:O->Prop}(x:SF K):Z E:=pX x.1.1 (J x.1.2.1.1 x.1.2.1.2.1 x.1.2.1.2.2) (J x.1.2.2.1 x.1.2.2.2.1 x.1.2.2.2.2)
def Zq{K:O->Prop}(x a:SF K):V:=Mo.tM x.1.1 a.1.1
def swoSF(K:O->Prop):Sort.SWO (ltOf (Zq (K:=K))) where
 irrefl x:=Mg.swoF.irrefl x.1.1
 trans x y z h k:=Mg.swoF.trans x.1.1 y.1.1 z.1.1 h k
 ntrans x y z h k:=Mg.swoF.ntrans x.1.1 y.1.1 z.1.1 h k
def aggF(w:O):(isAgg 51).run ξ w= .ok true w:=by kernel_rfl
def szF(w:O):(Go.sizeOf 51).run ξ w= .ok 6 w:=by kernel_rfl
def sf_one{K:O->Prop}(x:SF K):∀v∈vv x,v.oneCell'=true:=by intro v a;simp only[vv,pX,ox,oy,nw] at a;rcases a with rfl|rfl|rfl|rfl|rfl|rfl<;>rfl
def pick{K:O->Prop}:∀(l:Z aH)(L:Z (Z E)),L.length=l.length->(∀j(e:j<l.length)(g:j<L.length),∃x:SF K,x.1.1=l[j]/\vv x=L[j])->∃d:Z (SF K),d.map (λx=>x.1.1)=l/\d.map vv=L
 |[],[],_,_=>⟨[],rfl,rfl⟩
 |[],_::_,h,_=>by simp at h
 |_::_,[],h,_=>by simp at h
 |f::l,c::L,h,hp=>by
  obtain⟨x,e,g⟩:=hp 0 (by simp) (by simp)
  obtain⟨d,i,m⟩:=pick l L (by simpa using h) λj a b=>by
   obtain⟨p,n,o⟩:=hp (j+1) (by simp;omega) (by simp;omega);exact⟨p,by simpa using n,by simpa using o⟩
  exact⟨x::d,by simp[i];simpa using e,by simp[m];simpa using g⟩
def gb_of{w w':O}{a b:Option I}(e:a=b)(c:w.grownBy w' a):w.grownBy w' b:=by subst e;exact c
def Wv(X:O->Prop)(S:I)(v:E)(l:Z aH)(w:O)(g:zL X S w v l)(q:∀u,w.grownBy u v.ownBlock->X u)(ao:l.length<=1000000)(ae:∀f∈l,f.path.length<=64):
 ah ξ 188 #[v,.func (.func 102) #[] #[]] w λe w'=>e=η (.tuple #[])/\∃d:Z aH,d.Perm l/\d.Pairwise (λx o=>¬Mo.tM o x<0)/\(∀u,w.grownBy u v.ownBlock->Agree S w' u Y->rY u v d)/\w.grownBy w' v.ownBlock:=by
 obtain⟨n,t⟩:=pL v.ownBlock;rw[t] at q|-
 by_cases B:l=[]
 ·subst B
  obtain⟨a,c,rfl⟩:=aj g;refine(Go.Proofs.AnyF.slices_SortFunc_none aK a c _ w).mono ?_;rintro e w'⟨rfl,rfl⟩;exact⟨rfl,[],List.Perm.refl _,List.Pairwise.nil,λu _ _=>⟨[],rfl,⟨0,0,a,c,rfl,λg=>aC g (by simp),λj s=>aC s (by simp)⟩,λj s=>aC s (by simp)⟩,z_ _ _⟩
 ·obtain⟨L,a7,a8,C⟩:=g
  have D:=C w λ_ _ _ _=>rfl
  have ab:∀u,w.grownBy u n->Agree S w u v.ownBlock:=λu h k _ a b=>h.block k a (by rw[<-t];exact b)
  obtain⟨i,a3,a4⟩:=pick (K:=λu=>w.grownBy u n) l L D.1 λj a b=>by
   obtain⟨vp,ve,e,ak,al⟩:=D.2 j a b (q w (z_ _ _));obtain⟨-,-,a5,c1,rfl,-,-⟩:=qp ak;obtain⟨-,-,a6,c2,rfl,-,-⟩:=qO al;refine⟨⟨(l[j],(a5,_,c1),(a6,_,c2)),λu h=>?_⟩,rfl,e.symm⟩;obtain⟨vp,ve,p,y,z⟩:=(C u (ab u h)).2 j a b (q u h);rw[e] at p;simp only[pX,nG,nU,kO] at p;obtain⟨rfl,rfl⟩:=p;exact⟨y,z,ae _ (pq a)⟩
  have Q:i.length=l.length:=(by rw[<-a3,oS]);have ad:i≠[]:=λe=>B (oK (by rw[<-Q,e];rfl))
  have af:Row (λ_ (x:SF λu=>w.grownBy u n) c=>c=vv x) 6 51 S w v i:=⟨L,a7,by rw[Q];exact a8,λu _=>⟨by rw[<-a4,oS],λj a b=>by simp only[<-a4,oG]⟩⟩;obtain⟨b,c,W,aa,F,r⟩:=Ki (enc:=vv) (by omega) (λ_ _ _ g=>g) af ad;have R:az b=n:=(by rw[<-t,W];rfl);subst W;refine(Go.Proofs.AnyQ.slices_SortFunc aK 6 (λw=>aggF w) (λw=>szF w) vv (λ_=>rfl) sf_one Zq (swoSF _) 102 #[] b 0 c i.toArray w (λ_ _=>by kernel_rfl) (λm a1 A an x o=>?_) F r (by simp;omega)).mono ?_
  ·have P:w.grownBy (sortWorldK vv 6 w b 0 m A a1) n:=gb_of R (E5 (enc:=vv) (k:=6) w b m A a1)
   obtain⟨x1,-,x3⟩:=x.2 _ P;obtain⟨y1,-,y3⟩:=o.2 _ P;exact cmpF_dr x.1.1 o.1.1 _ _ _ _ _ x1 y1 ⟨_,_,_,rfl⟩ ⟨_,_,_,rfl⟩ (pF x3 (by decide)) (pF y3 (by decide))
  ·intro e w' a9
   obtain⟨ac,d,y,z,am,a2⟩:=Kh (enc:=vv) (k:=6) (cf:=Zq) (c:=c) (λx=>rfl) F r a9;refine⟨ac,d.map (λx=>x.1.1),by rw[<-a3];exact y.map _,by rw[jO];exact z,λu h ai=>?_,gb_of R a2⟩;have T:=am u (ai b aa (oQ r a2.size) (by simp));have ag:i.toArray.size=i.length:=rfl;rw[ag] at T;refine⟨d.map vv,by simp,T,λj a b=>?_⟩;simp only[oG];have a0:=(d[j]'(by simpa using a)).2 u h;exact⟨_,_,rfl,a0.1,a0.2.1⟩
end Np
end Go.Proofs.YthbhmjdcfocphaaGreatDoor
