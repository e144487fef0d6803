/- A part of this proof. -/
import Derived.Test.YthbhmjdcfocphaaGreatDoorKI
import Derived.Test.YthbhmjdcfocphaaGreatDoorKK
set_option linter.all false
set_option maxHeartbeats 16000000
set_option maxRecDepth 100000
namespace Go.Proofs.YthbhmjdcfocphaaGreatDoor
open Go.Value renaming string→K, slice→I, pointer→ε, int→H
open Go.Obj renaming cells→X
open Go.Ending renaming returned→η
open Go.IntKind renaming i64→J
open Go.Lib renaming hid→G, run_eql_slice_nil→aL
open Go renaming below_regrown→ν, Calls→U, redrawn→Λ, wp_region_quiet_below→Ω, World→ο, wpQuiet_nil→aH, Value→aI
open Go.Proofs.Tryz renaming prog→Z, underlying53→aN, underlying51→aO, ntmps189→aP, ntmps185→aQ, func189→aS, func185→aT
open Go.Calls renaming regrown_of→π
open Go.Sort renaming grow→υ
open Option renaming none→N, some→O
open Go.RowKit renaming Below→V
open Go.ByteArray renaming toList_eq→Ξ
open Bool renaming false→Y, true→aR
open And renaming intro→ah
open Go.Value renaming oneCell'→aj
open _root_ renaming ByteArray→av, Nat→aU
open Mg renaming sx→ay, gL→aE, vE→aG, rQ→aK
open Me.Row renaming slice→az
open Jv renaming Ok→aA
open Go.Op renaming bytesLess→aC
open Mo renaming En→aJ, Fd→aM
namespace Ke
open RowKit Rw Vf Mw Me Gr Rg
def Hp(l:List av)(v:aI)(W:ο)(D:Rw W v 1 (l.map p_))(am:l.length<=100000):
 U Z 285 #[v] W λe w'=>(∃aa,e=η aa/\gM W.heap.size w' aa (l.map Jv.J.str))/\V W.heap.size W w':=by
 obtain⟨g,aW,aw,cap,rfl,h,P⟩:=qp D;obtain⟨m,s⟩:=pL l.length;rw[s] at h am|-;have C:=G s;have ac:=G h;have af:=G P;obtain⟨ap,aq,Q,a6,a7,a8,a9⟩:=uP Ml;have d:=G (ah Q (ah a6 (ah a7 (ah a8 a9))));clear D h P s Q a6 a7 a8 a9
 go_enter Tryz.func285,Tryz.ntmps285
 go_wp2_with fail
 go_loopw [3,8] (λo x wr=>∃k:aU,k<=m/\x=H J k/\Hid (gM W.heap.size wr o ((l.take k).map Jv.J.str))/\Hid (V W.heap.size W wr)) (λo x _=>m-(intOf x).toNat)
 case atStart=>exact⟨0,oM _,rfl,G Row.nil,G (pH _ _)⟩
 case round=>
  obtain⟨k,aB,rfl,z,i⟩:=hrel
  by_cases an:k<m
  ·obtain rfl:=ac.o (by omega)
   have R:k<l.length:=(by rw[C.o];exact an);have ab:=pI (af.o k R) i.o;have A:=G (AJ Jv.J.str l R);have B:=G (show((l.take k).map Jv.J.str).length=k by simp;omega);generalize l[k]=p at ab A;have aV:(k:Int)<(m:Int):=(by omega);have aF:(0:Int)<=(k:Int):=by omega
   go_wp2_with fail
   refine(GR p _).mono ?_;rintro e b⟨rfl,j⟩;have ad:=pR i j;have a1:=z.o.below j;have n:=pM b (X #[H J 3,.bool Y,H J 0,K p,I N 0 0,I N 0 0,H J 0] 107);have f:=pR ad n;have ak:=G (a1.below n);have ai:=G (q9 (w:=b) (c:=qh 3 Y 0 p rG rG 0) (sz:=7) (t:=107) rfl);clear j z a1 n ab;obtain⟨L,F,y,E⟩:=ak.o;rw[B.o] at y;have T:∀u∈qh 3 Y 0 p rG rG 0,u.oneCell'=aR:=(yL.str (S:=0) (w:=b) p).one;have a:=G (ah F (ah y (ah E T)));clear F y E T
   go_wp2_with(at_builtin;(refine qX _ rfl _ _ 104 rfl W.heap.size b.heap.size 107 ap aq 7 96 Tryz.underlying104 d.o.1 d.o.2.1 d.o.2.2.1 d.o.2.2.2.1 d.o.2.2.2.2 (by decide) _ k L.flatten rfl a.o.2.1 _ 1 (qh 3 Y 0 p rG rG 0) rfl ai.o a.o.2.2.2 ?a3 ?a4 ?a5 ?_))
   case a3=>unfold maxLen;omega
   case a4=>omega
   case a5=>exact f.o.size
   intro ar au a0 r a2;have ae:=G (qI r f.o (λq ao=>(qq a.o.2.1 ao).1) f.o.size)
   have al:Hid (gM W.heap.size au ar ((l.take (k+1)).map Jv.J.str)):=G (by
    rw[A.o];refine Row.appended (M:=[qh 3 Y 0 p rG rG 0]) (l2:=[.str p]) a.o.1 a.o.2.2.1 (Flat.one rfl a.o.2.2.2) (λu aD=>tG.one ?_) ?_ r (by rw[show(b.alloc (X #[H J 3,.bool Y,H J 0,K p,I N 0 0,I N 0 0,H J 0] 107)).heap.size=b.heap.size+1 from nI _];exact a2)
    ·unfold Jv;exact⟨0,rfl⟩
    ·rw[B.o];simpa using a0)
   clear a0 r a2
   go_wp2_with fail
   go_roundw
   case rel=>exact⟨k+1,by omega,by go_num,al,ae⟩
   case measure=>simp[intOf];omega
  ·have ax:decide ((k:Int)<(m:Int))=Y:=o9 (by omega)
   have ag:Hid (l.take k=l):=G (oP (by rw[C.o];omega))
   go_wp2_with fail
   go_ret;exact⟨⟨_,rfl,by have:=z.o;rw[ag.o] at this;exact this⟩,i.o⟩
def EZ{w u:ο}{f:aU}{a b c d e:aI}(g:w.cell? ⟨f,0,N⟩=O a/\w.cell? ⟨f,1,N⟩=O b/\w.cell? ⟨f,2,N⟩=O c/\w.cell? ⟨f,3,N⟩=O d/\w.cell? ⟨f,4,N⟩=O e)(h:V w.heap.size w u):
 u.cell? ⟨f,0,N⟩=O a/\u.cell? ⟨f,1,N⟩=O b/\u.cell? ⟨f,2,N⟩=O c/\u.cell? ⟨f,3,N⟩=O d/\u.cell? ⟨f,4,N⟩=O e:=
 ⟨pI g.1 h,pI g.2.1 h,pI g.2.2.1 h,pI g.2.2.2.1 h,pI g.2.2.2.2 h⟩
abbrev Yg(n:Int):List aI:=[H J 2,.bool Y,H J n,K ⟨#[]⟩,I N 0 0,I N 0 0,H J 0]
def AD.all{e:aJ}(a:AD e):∀s∈[e.id,e.title,e.link,e.content],Qs s:=by
 intro s b;simp only[ox,oy,nw] at b;rcases b with rfl|rfl|rfl|rfl
 all_goals first|exact a.id|exact a.title|exact a.link|exact a.content
def KH.all{f:aM}(a:KH f):∀s∈[f.id,f.title,f.link],Qs s:=by
 intro s b;simp only[ox,oy,nw] at b;rcases b with rfl|rfl|rfl
 all_goals first|exact a.id|exact a.title|exact a.link
def Lt(d:aU)(b:d+1<=100)(l:List av)(a:∀s∈l,Qs s):∀x∈l.map Jv.J.str,aA (d+1) x/\JB x/\JS x:=λx e=>by
 obtain⟨s,c,rfl⟩:=List.mem_map.1 e;have:=a s c;refine⟨?_,?_,?_⟩
 ·simp only[aA];exact⟨b,this.2⟩
 ·unfold JB;exact this.1
 ·unfold JS;trivial
def ekey_ok{e:aJ}(a:AD e):aA 1 (.arr [.str e.id,.str e.title,.str e.link,.str e.content,.int e.upd])/\JB (.arr [.str e.id,.str e.title,.str e.link,.str e.content,.int e.upd])/\JS (.arr [.str e.id,.str e.title,.str e.link,.str e.content,.int e.upd]):=by
 have d:=Lt 1 (by decide) _ a.all
 have key:∀x∈[Jv.J.str e.id,.str e.title,.str e.link,.str e.content,.int e.upd],aA 2 x/\JB x/\JS x:=by
  intro x b
  have:x∈[e.id,e.title,e.link,e.content].map Jv.J.str\/x= .int e.upd:=by simp only[ox,oy,nw,ou,mU] at b|-;rcases b with a|a|a|a|a<;>simp[a]
  rcases this with c|rfl
  ·exact d x c
  ·refine⟨?_,?_,?_⟩
   ·simp only[aA];decide
   ·unfold JB;exact a.upd
   ·unfold JS;trivial
 refine⟨?_,?_,?_⟩
 ·simp only[aA];rw[Jv.wU];exact⟨by decide,λx b=>(key x b).1⟩
 ·unfold JB;rw[wV];exact⟨by simp,λx b=>(key x b).2.1⟩
 ·unfold JS;rw[yG];exactλx b=>(key x b).2.2
def NZ(e:aJ)(r:AD e)(W:ο)(L:WT W):
 U Z 288 #[.agg (pO e).toArray] W λx w'=>x=η (K ⟨(aG e).toArray⟩)/\V W.heap.size W w':=by
 have f:=G (ekey_ok r);have j:=G r.len;obtain⟨i,t,l,c,u⟩:=e;simp only at f;have k:=vh (w:=W) (x0:=K i) (x1:=K t) (x2:=K l) (x3:=K c) (x4:=H J u) (t:=53);have p:=pM W (X #[K i,K t,K l,K c,H J u] 53);have A:=G p;have D:=G (L.below p);unfold aG at j|-;simp only at j|-;clear r L p
 show U Z 288 #[.agg #[K i,K t,K l,K c,H J u]] W _
 go_enter Tryz.func288,Tryz.ntmps288
 go_wp2_with fail
 generalize ab:W.heap.size=b at k|-;generalize W.alloc (X #[K i,K t,K l,K c,H J u] 53)=a at k A D|-;clear ab;obtain⟨a6,a7,a8,a9,aa⟩:=k;have d:=G (λu (ad:V a.heap.size a u)=>EZ ⟨a6,a7,a8,a9,aa⟩ ad);have C:=G ((pH a.heap.size a).drew.alloc (oZ _) (X #[K i,K t,K l,K c] 9));have a1:=Hp [i,t,l,c] (I (O ⟨a.heap.size,0,N⟩) 4 4) (a.drew.alloc (X #[K i,K t,K l,K c] 9)) (sL a.drew [i,t,l,c] 9 4) (by simp)
 go_region_held3 (λw'=>w'.cell? ⟨b,0,N⟩=O (K i)/\w'.cell? ⟨b,1,N⟩=O (K t)/\w'.cell? ⟨b,2,N⟩=O (K l)/\w'.cell? ⟨b,3,N⟩=O (K c)/\w'.cell? ⟨b,4,N⟩=O (H J u)) (first|assumption|go_keep)
  (first
    |(go_at_call 285;refine a1.mono ?_;rintro e ao ⟨⟨am,rfl,s⟩,T⟩;have E:=pR C T;obtain⟨adA,cpA,rfl⟩:∃o c,am=I o 4 c:=s.slice;have a3:=G (s.base (S:=a.heap.size) C.o.size);have ai:=d.o ao E.o;clear s T)
    |(go_at_call 55;refine(Km u _).mono ?_;rintro e y ⟨rfl,q⟩;have m:=pR E q;have a4:=G (a3.o.below q);have ak:=d.o y m.o;clear q ai)
    |(refine P4 (n:=4) y rfl (.tmp 15) (.tmp 19) rfl tiV rfl rfl a4.o (Jv.J.int u) (Yg u) rfl (λu _=>by unfold Jv;exact⟨0,rfl⟩) rfl (yL.int (S:=0) (w:=y) u).one m.o.size (by decide) (by decide) ?_;intro al a0 F P ac;have z:=G F;have g:=G (m.o.trans P);obtain⟨ad3,cp3,e3⟩:∃o c,al=I o 5 c:=z.o.slice;subst e3;have af:=d.o a0 g.o;clear F P ac ak)
    |(go_at_call 56;refine(AI a.heap.size (I ad3 5 cp3) _ a0 z.o g.o.size (by simp)).mono ?_;rintro e v ⟨⟨a5,ae,rfl,M⟩,Q⟩;have a2:=G M;have h:=pR g Q;have ag:=d.o v h.o;clear Q M af)
    |(go_at_call 57;refine(Hq _ a5 5 ae v f.o.1 f.o.2.1 f.o.2.2 (a2.o v (λ_ _ _ _=>rfl)) (D.o.below h.o) j.o).mono ?_;rintro e an ⟨rfl,R⟩;have B:=pR h R;have s5:=d.o an B.o;clear R ag))
 all_goals
  go_wp2_with fail
  go_ret;exact⟨rfl,pK A.o B.o⟩
def fkey_ok{f:aM}(b:KH f):aA 1 (.arr [.arr (f.path.map .str),.str f.id,.str f.title,.str f.link,.int f.upd])/\JB (.arr [.arr (f.path.map .str),.str f.id,.str f.title,.str f.link,.int f.upd])/\JS (.arr [.arr (f.path.map .str),.str f.id,.str f.title,.str f.link,.int f.upd]):=by
 have e:=Lt 1 (by decide) _ b.all;have c:=Lt 2 (by decide) _ b.path
 have key:∀x∈[Jv.J.arr (f.path.map .str),.str f.id,.str f.title,.str f.link,.int f.upd],aA 2 x/\JB x/\JS x:=by
  intro x a
  have:x= .arr (f.path.map .str)\/x∈[f.id,f.title,f.link].map Jv.J.str\/x= .int f.upd:=by simp only[ox,oy,nw,ou,mU] at a|-;rcases a with b|b|b|b|b<;>simp[b]
  rcases this with rfl|d|rfl
  ·refine⟨?_,?_,?_⟩
   ·simp only[aA];rw[Jv.wU];exact⟨by decide,λx a=>(c x a).1⟩
   ·unfold JB;rw[wV];exact⟨by rw[oS];exact pF b.yc (by decide),λx a=>(c x a).2.1⟩
   ·unfold JS;rw[yG];exactλx a=>(c x a).2.2
  ·exact e x d
  ·refine⟨?_,?_,?_⟩
   ·simp only[aA];decide
   ·unfold JB;exact b.upd
   ·unfold JS;trivial
 refine⟨?_,?_,?_⟩
 ·simp only[aA];rw[Jv.wU];exact⟨by decide,λx a=>(key x a).1⟩
 ·unfold JB;rw[wV];exact⟨by simp,λx a=>(key x a).2.1⟩
 ·unfold JS;rw[yG];exactλx a=>(key x a).2.2
def N0(f:aM)(vp ve:aI)(a2:KH f)(W:ο)(a1:Rw W vp 1 (f.path.map p_))(bi:∃a n c,ve=I a n c)(aV:WT W):
 U Z 244 #[.agg (pX f vp ve).toArray] W λx w'=>x=η (K ⟨(aE f).toArray⟩)/\V W.heap.size W w':=by
 have E:=G (fkey_ok a2);have a6:=G a2.len;have a8:=G a2.yc;obtain⟨p,i,t,l,u,es⟩:=f;obtain⟨L,P,M,rfl⟩:=bi;obtain⟨bx,bz,s,y,rfl,-,-⟩:=qp a1;simp only at E a1 a8;have a0:=pM W (X #[I s p.length y,K i,K t,K l,H J u,I L P M] 51);have F:=uS (w:=W) (x0:=I s p.length y) (x1:=K i) (x2:=K t) (x3:=K l) (x4:=H J u) (x5:=I L P M) (t:=51);have a3:=G a0;have a9:=G (aV.below a0);have a7:=G (a1.under a0);unfold aE at a6|-;simp only at a6|-;clear a2 aV a0 a1
 show U Z 244 #[.agg #[I s p.length y,K i,K t,K l,H J u,I L P M]] W _
 obtain⟨z,ae⟩:=pL p.length;have r:=G ae;rw[ae] at F a3 a9 a7|-;clear ae
 go_enter Tryz.func244,Tryz.ntmps244
 go_wp2_with fail
 generalize bh:W.heap.size=D at F|-;generalize W.alloc (X #[I s z y,K i,K t,K l,H J u,I L P M] 51)=k at F a3 a9 a7|-;clear bh;obtain⟨ao,ap,aq,ar,au,-⟩:=F;have a5:=G (λu (af:V k.heap.size k u)=>EZ ⟨ao,ap,aq,ar,au⟩ af);clear ao ap aq ar au
 refine qQ 13 [[],[0],[1],[2],[3],[],[5],[],[7],[],[9],[6,8,10],[3,11]]
  [O 6,O 7,O 8,O 9,O 10,O 11,O 12,O 13,O 14,O 15,O 16,O 17,O 18] (by kernel_rfl) (by kernel_rfl) (by kernel_rfl)
  [λ_ v _=>v=ε (O ⟨D,0,N⟩),λ_ v _=>v=I s z y,λ_ v w=>gM k.heap.size w v (p.map Jv.J.str),
   λ_ v w=>∃o q,v= .agg #[H J 4,.bool Y,H J 0,K ⟨#[]⟩,I o z q,I N 0 0,H J 0]/\yL k.heap.size w (.arr (p.map Jv.J.str)) (qh 4 Y 0 ⟨#[]⟩ (I o z q) rG 0),
   λ_ v w=>gM k.heap.size w v [.arr (p.map Jv.J.str)],
   λ_ v _=>v=ε (O ⟨D,1,N⟩),λ_ v _=>v=K i,λ_ v _=>v=ε (O ⟨D,2,N⟩),λ_ v _=>v=K t,λ_ v _=>v=ε (O ⟨D,3,N⟩),λ_ v _=>v=K l,
   λ_ v w=>∃g,v=I (O ⟨g,0,N⟩) 3 3/\Rw w v 1 ([i,t,l].map p_),λ_ v w=>gM k.heap.size w v ([i,t,l].map Jv.J.str)] ?bm ?step ?fin
 case bm=>
  refine⟨?_,?_,?_,?_,?_,?_,?_,?_,?_,?_,?_,?_,?_,trivial⟩
  all_goals intro d u w w' j m
  all_goals first|exact m|exact Row.below m j|(obtain⟨o,q,e,m⟩:=m;exact⟨o,q,e,m.below j⟩)|(obtain⟨g,e,m⟩:=m;exact⟨g,e,m.under j⟩)
 case step=>
  refine⟨?_,?_,?_,?_,?_,?_,?_,?_,?_,?_,?_,?_,?_,trivial⟩
  all_goals
   intro x w b h;simp only[oI,oF,fr,qD,Fv,Fa,List.map,nU] at h|-;have ai:=a5.o w b;unfold gives
  all_goals try(go_simp;exact pH _ _)
  case refine_3=>clear ai;go_simp;have C:=Hp p (I s p.length y) w (by have:=a7.o.under b;rw[r.o];exact this) (pF a8.o (by decide));rw[r.o] at C;refine C.mono ?_;rintro e w'⟨⟨bn,rfl,ag⟩,j⟩;exact⟨ag.base b.size,j⟩
  case refine_4=>
   obtain⟨A,be,aa⟩:∃A c,x 2=I A z c:=by obtain⟨A,c,e⟩:=az h;exact⟨A,c,by rw[e,oS,r.o]⟩
   go_simp;rw[aa] at h;refine(AI k.heap.size (I A z be) _ w h b.size (by rw[oS,r.o];exact pF (r.o▸a8.o) (by decide))).mono ?_;rintro e w'⟨⟨o,q,rfl,B⟩,j⟩;rw[oS,r.o] at B|-;exact⟨⟨o,q,rfl,B⟩,j⟩
  case refine_5=>obtain⟨o,q,bv,B⟩:=h;go_simp;exact⟨row_one b.size rfl B.one (λu af=>B u af),pM _ _⟩
  case refine_12=>obtain⟨R,T,bw⟩:=h;go_simp;exact⟨sL w [i,t,l] 9 3,pM _ _⟩
  case refine_13=>obtain⟨-,g,bf,aF⟩:=h;go_simp;rw[bf] at aF;refine(Hp [i,t,l] _ w aF (by simp)).mono ?_;rintro e w'⟨⟨bn,rfl,ag⟩,j⟩;exact⟨ag.base b.size,j⟩
 case fin=>
  intro x w b h;simp only[show List.range 13=[0,1,2,3,4,5,6,7,8,9,10,11,12] from rfl,oI,oF,fr,qD,Fv,Fa,List.map,nU,nS,nO] at h|-;obtain⟨-,-,-,-,Q,-,-,-,-,-,-,-,ab⟩:=h;obtain⟨ba,ac,b1,aD,aB⟩:=Row.rw ab;obtain⟨bq,bt,ax⟩:=az Q;obtain⟨bp,bs,aw⟩:=az ab;rw[ax] at Q|-;rw[aw] at ac|-;have a4:=G b;have ai:=a5.o w b;clear ax aw ab b;go_simp;refine rz (n:=1) w rfl (.tmp 10) (.tmp 18) rfl tiV rfl rfl Q _ 3 ([i,t,l].map Jv.J.str) ba rfl ac (by rw[b1];rfl) rfl (λu _=>yX aB u) aD a4.o.size (by decide) (by decide) ?_;intro bA b2 R aY bj;obtain⟨br,bu,bg⟩:=az R;have ak:=G (a4.o.trans aY);subst bg;have b6:=G R;have y6:=a5.o b2 ak.o;clear R aY bj Q ac b1 aD aB ai a4
  go_wp2_with fail
  refine(Km u b2).mono ?_;rintro e b3⟨rfl,ad⟩;have al:=pR ak ad;have b7:=G (b6.o.below ad);clear ad y6
  go_wp2_with(refine qu (n:=4) b3 rfl (.tmp 21) (.tmp 25) rfl tiV rfl rfl b7.o (Jv.J.int u) (Yg u) rfl (λu _=>by unfold Jv;exact⟨0,rfl⟩) rfl (yL.int (S:=0) (w:=b3) u).one al.o.size (by decide) (by decide) ?_)
  intro bB bo T aZ bk;obtain⟨bb,bd,aa⟩:=az T;subst aa;have am:=G (al.o.trans aZ);have b8:=G T;clear T aZ bk
  go_wp2_with fail
  refine(AI k.heap.size (I bb 5 bd) _ bo b8.o am.o.size (by simp)).mono ?_;rintro e b4⟨⟨bc,bl,rfl,aW⟩,b0⟩;have b9:=G aW;have an:=pR am b0;clear b0 aW
  go_wp2_with fail
  refine(Hq _ bc 5 bl b4 E.o.1 E.o.2.1 E.o.2.2 (b9.o b4 (λ_ _ _ _=>rfl)) (a9.o.below an.o) a6.o).mono ?_;rintro e bC⟨rfl,aX⟩;have b5:=pR an aX;clear aX
  go_wp2_with fail
  go_ret;exact⟨rfl,pK a3.o b5.o⟩
end Ke
namespace Ke
open RowKit Rw Vf Mw Me Gr
def Sl(a b:Int)(w:ο)(d:aU)(f:Array Obj):
 U Z 230 #[H J a,H J b] (υ (Λ w d) f) λe g=>e=η (H J (wg a b))/\∃p:Regrown,g=υ (Λ w p.d) p.os:=
 π ((Ej a b _).mono λe w' c=>⟨c.1,by rw[c.2];exact pH _ _⟩)
def Yh(a b:aJ):(decide (wg a.upd b.upd<0)=aR/\aK a b=b)\/(decide (wg a.upd b.upd<0)=Y/\(wg a.upd b.upd==0)=aR/\aC (aG a) (aG b)=aR/\aK a b=b)\/
 (decide (wg a.upd b.upd<0)=Y/\(wg a.upd b.upd==0)=aR/\aC (aG a) (aG b)=Y/\aK a b=a)\/(decide (wg a.upd b.upd<0)=Y/\(wg a.upd b.upd==0)=Y/\aK a b=a):=by
 unfold wg;rcases G7 a b with⟨c,g⟩|⟨c,d,e,g⟩|⟨c,d,e,g⟩|⟨c,d,g⟩
 ·exact .inl ⟨by rw[oD (by simpa using c)];rfl,g⟩
 ·rw[l8] at c
  rw[kG] at d;exact .inr (.inl ⟨by rw[oU c,oU (by omega)];rfl,by rw[oU c,oU (by omega)];rfl,e,g⟩)
 ·rw[l8] at c
  rw[kG] at d;exact .inr (.inr (.inl ⟨by rw[oU c,oU (by omega)];rfl,by rw[oU c,oU (by omega)];rfl,e,g⟩))
 ·rw[l8] at c
  rw[oq] at d;exact .inr (.inr (.inr ⟨by rw[oU c,oD (by omega)];rfl,by rw[oU c,oD (by omega)];rfl,g⟩))
def Sn(a:aJ)(w:ο):U Z 287 #[.agg (pO a).toArray] w λx w'=>x=η (H J a.upd)/\V w.heap.size w w':=by
 obtain⟨c,at',d,b,e⟩:=a;obtain⟨-,-,-,-,x4⟩:=vh (w:=w) (x0:=K c) (x1:=K at') (x2:=K d) (x3:=K b) (x4:=H J e) (t:=53);have f:=G (pM w (X #[K c,K at',K d,K b,H J e] 53))
 show U Z 287 #[.agg #[K c,K at',K d,K b,H J e]] w _
 go_enter Tryz.func287,Tryz.ntmps287
 go_wp2_with fail
 go_ret;exact⟨rfl,f.o⟩
def UA(a b:aJ)(aV:AD a)(aW:AD b)(w:ο)(a0:WT w):
 U Z 286 #[.agg (pO a).toArray,.agg (pO b).toArray,.func (.func 287) #[] #[],.func (.func 288) #[] #[]] w λx w'=>x=η (.agg (pO (aK a b)).toArray)/\V w.heap.size w w':=by
 have q:=Yh a b;obtain⟨b4,T⟩:=pL ((⟨(aG a).toArray⟩:av));obtain⟨b5,W⟩:=pL ((⟨(aG b).toArray⟩:av));have aB:b4.toList=aG a:=by rw[Ξ,<-T,sQ]
 have aD:b5.toList=aG b:=by rw[Ξ,<-W,sQ]
 rw[<-aB,<-aD] at q;have D:=λu (s:V w.heap.size w u) d e=>π (NZ a aV (υ (Λ u d) e) (a0.below (pK s (ν u d e))))
 have E:=λu (s:V w.heap.size w u) d e=>π (NZ b aW (υ (Λ u d) e) (a0.below (pK s (ν u d e))))
 rw[T] at D;rw[W] at E;have ak:=λu d e=>π (Sn a (υ (Λ u d) e))
 have al:=λu d e=>π (Sn b (υ (Λ u d) e))
 generalize aK a b=r at q|-;obtain⟨v,at',y,t,j⟩:=a;obtain⟨B,C,bl,z,k⟩:=b;clear T W aB aD aV aW a0;obtain⟨c,a2⟩:=pL (wg j k);simp only[a2] at q;have ai:=λu d e=>Sl j k u d e
 rw[a2] at ai;change∀u(s:V w.heap.size w u) d e,U _ _ #[.agg #[K v,K at',K y,K t,H J j]] _ _ at D;change∀u(s:V w.heap.size w u) d e,U _ _ #[.agg #[K B,K C,K bl,K z,H J k]] _ _ at E;change∀u d e,U _ _ #[.agg #[K v,K at',K y,K t,H J j]] _ λx b7=>x=η (H J j)/\_ at ak
 change∀u d e,U _ _ #[.agg #[K B,K C,K bl,K z,H J k]] _ λx b7=>x=η (H J k)/\_ at al
 obtain⟨o,p,L,a1⟩:=zR w (X #[K v,K at',K y,K t,H J j] 53) (X #[K B,K C,K bl,K z,H J k] 53) (X #[K ⟨#[]⟩,K ⟨#[]⟩,K ⟨#[]⟩,K ⟨#[]⟩,H J 0] 53);have ap:=G q;have am:=G D;have an:=G E;clear q a2 D E
 show U Z 286 #[.agg #[K v,K at',K y,K t,H J j],.agg #[K B,K C,K bl,K z,H J k],.func (.func 287) #[] #[],.func (.func 288) #[] #[]] w _
 go_enter Tryz.func286,Tryz.ntmps286
 go_wp2_with fail
 generalize((w.alloc _).alloc _).alloc _=i at o p L a1|-;generalize b6:w.heap.size=A at o p L|-;have b3:=G (show w.heap.size<=A+1+1 by omega);clear b6;have M:=G a1;have aq:=G o;have ar:=G p;have au:=G L;have f:=λd e=>qv (ν i d e) o
 have g:=λd e=>qv (ν i d e) p
 have a7:=λd e=>(f d e).1
 have a8:=λd e=>(f d e).2.1
 have a9:=λd e=>(f d e).2.2.1
 have aa:=λd e=>(f d e).2.2.2.1
 have ab:=λd e=>(f d e).2.2.2.2
 have ac:=λd e=>(g d e).1
 have ad:=λd e=>(g d e).2.1
 have ae:=λd e=>(g d e).2.2.1
 have af:=λd e=>(g d e).2.2.2.1
 have ag:=λd e=>(g d e).2.2.2.2
 clear f g a1 o p L;have b0:=ak i;have b1:=al i;have aZ:=ai i;clear ak al ai;refine Ω (by kernel_rfl) (by kernel_rfl) ?_
 repeat(first|go_big_quiet_step (fail)|quiet_step (fail))
 quiet_step (exact b0 _ _)
 clear b0
 repeat(first|go_big_quiet_step (fail)|quiet_step (fail))
 quiet_step (exact b1 _ _)
 clear b1
 repeat(first|go_big_quiet_step (fail)|quiet_step (fail))
 quiet_step (exact aZ _ _)
 clear aZ
 repeat(first|go_big_quiet_step (fail)|quiet_step (fail))
 refine aH ?_;intro _ a3;obtain⟨⟨dp,aX⟩,a4⟩:=a3;subst a4;clear a7 ac a8 ad a9 ae aa af ab ag;have h:=G (ν i dp aX);have P:=G (pW h.o aq.o);have Q:=G (pW h.o ar.o);have aw:=G (pW h.o au.o);have m:=G (M.o.trans (h.o.mono M.o.size));clear aq ar au M h;generalize υ (Λ i dp) aX=l at P Q aw m|-;have f:=λd e=>qv (ν l d e) P.o
 have g:=λd e=>qv (ν l d e) Q.o
 have a7:=λd e=>(f d e).1
 have a8:=λd e=>(f d e).2.1
 have a9:=λd e=>(f d e).2.2.1
 have aa:=λd e=>(f d e).2.2.2.1
 have ab:=λd e=>(f d e).2.2.2.2
 have ac:=λd e=>(g d e).1
 have ad:=λd e=>(g d e).2.1
 have ae:=λd e=>(g d e).2.2.1
 have af:=λd e=>(g d e).2.2.2.1
 have ag:=λd e=>(g d e).2.2.2.2
 clear f g;have a5:=am.o l m.o;have a6:=an.o l m.o;clear am an;rcases ap.o with⟨F,n⟩|⟨F,S,aF,n⟩|⟨F,S,aF,n⟩|⟨F,S,n⟩
 all_goals
  have b2:=G n;clear n ap
  go_wp2_with fail
  refine Ω (by kernel_rfl) (by kernel_rfl) ?_
  repeat(first|go_big_quiet_step (fail)|quiet_step (fail))
  try(quiet_step (exact a5 _ _);clear a5;repeat(first|go_big_quiet_step (fail)|quiet_step (fail)))
  try(quiet_step (exact a6 _ _);clear a6;repeat(first|go_big_quiet_step (fail)|quiet_step (fail)))
  refine aH ?_;intro _ a3;obtain⟨⟨ax,aY⟩,a4⟩:=a3;subst a4;clear a7 ac a8 ad a9 ae aa af ab ag
  try clear a5
  try clear a6
  have h:=G (ν l ax aY);obtain⟨x0,x1,x2,x3,x4⟩:=qv h.o P.o;obtain⟨b8,y1,y2,y3,y4⟩:=qv h.o Q.o;have R:=G (pW h.o aw.o);have ao:=G (m.o.trans (h.o.mono m.o.size));generalize υ (Λ l ax) aY=b9 at x0 b8 x1 y1 x2 y2 x3 y3 x4 y4 R ao|-;clear h F
  try clear aF
  try clear S
  go_wp2_with(refine oN rfl 53 _ _ rfl _ _ rfl rfl 53 _ R.o (by kernel_rfl) rfl (by simp[aj]) ?_)
  go_wp2_with fail
  refine ow (nL rfl _ _ (A+1+1) _ _ _ _ rfl (og _ _ _ _ _ _ R.o) aN rfl (by kernel_rfl)) rfl ?_;exact⟨by rw[b2.o];rfl,pS ao.o b3.o _⟩
def Yk(a b:aM):(decide (wg a.upd b.upd<0)=aR/\ay a b=b)\/(decide (wg a.upd b.upd<0)=Y/\(wg a.upd b.upd==0)=aR/\aC (aE a) (aE b)=aR/\ay a b=b)\/
 (decide (wg a.upd b.upd<0)=Y/\(wg a.upd b.upd==0)=aR/\aC (aE a) (aE b)=Y/\ay a b=a)\/(decide (wg a.upd b.upd<0)=Y/\(wg a.upd b.upd==0)=Y/\ay a b=a):=by
 unfold wg;rcases G9 a b with⟨c,g⟩|⟨c,d,e,g⟩|⟨c,d,e,g⟩|⟨c,d,g⟩
 ·exact .inl ⟨by rw[oD (by simpa using c)];rfl,g⟩
 ·rw[l8] at c
  rw[kG] at d;exact .inr (.inl ⟨by rw[oU c,oU (by omega)];rfl,by rw[oU c,oU (by omega)];rfl,e,g⟩)
 ·rw[l8] at c
  rw[kG] at d;exact .inr (.inr (.inl ⟨by rw[oU c,oU (by omega)];rfl,by rw[oU c,oU (by omega)];rfl,e,g⟩))
 ·rw[l8] at c
  rw[oq] at d;exact .inr (.inr (.inr ⟨by rw[oU c,oD (by omega)];rfl,by rw[oU c,oD (by omega)];rfl,g⟩))
def Sq(a:aM)(va b:aI)(w:ο):U Z 243 #[.agg (pX a va b).toArray] w λx w'=>x=η (H J a.upd)/\V w.heap.size w w':=by
 obtain⟨h,c,at',d,e,g⟩:=a;obtain⟨-,-,-,-,x4,-⟩:=uS (w:=w) (x0:=va) (x1:=K c) (x2:=K at') (x3:=K d) (x4:=H J e) (x5:=b) (t:=51);have f:=G (pM w (X #[va,K c,K at',K d,H J e,b] 51))
 show U Z 243 #[.agg #[va,K c,K at',K d,H J e,b]] w _
 go_enter Tryz.func243,Tryz.ntmps243
 go_wp2_with fail
 go_ret;exact⟨rfl,f.o⟩
def UB(a b:aM)(va z vb B:aI)(ba:KH a)(bc:KH b)(w:ο)(ai:Rw w va 1 (a.path.map p_))(be:∃a n c,z=I a n c)(f:Rw w vb 1 (b.path.map p_))(bf:∃a n c,B=I a n c)(ae:WT w):
 U Z 242 #[.agg (pX a va z).toArray,.agg (pX b vb B).toArray,.func (.func 243) #[] #[],.func (.func 244) #[] #[]] w λx w'=>(x=η (.agg (pX a va z).toArray)/\ay a b=a\/x=η (.agg (pX b vb B).toArray)/\ay a b=b)/\V w.heap.size w w':=by
 have o:=Yk a b;obtain⟨bo,ac⟩:=pL ((⟨(aE a).toArray⟩:av));obtain⟨bp,ad⟩:=pL ((⟨(aE b).toArray⟩:av));have b7:bo.toList=aE a:=by rw[Ξ,<-ac,sQ]
 have b8:bp.toList=aE b:=by rw[Ξ,<-ad,sQ]
 rw[<-b7,<-b8] at o;have q:=λu (l:V w.heap.size w u) d e=>π (N0 a va z ba (υ (Λ u d) e) (ai.under (pK l (ν u d e))) be (ae.below (pK l (ν u d e))))
 have s:=λu (l:V w.heap.size w u) d e=>π (N0 b vb B bc (υ (Λ u d) e) (f.under (pK l (ν u d e))) bf (ae.below (pK l (ν u d e))))
 rw[ac] at q;rw[ad] at s;have a5:=λu d e=>π (Sq a va z (υ (Λ u d) e))
 have a6:=λu d e=>π (Sq b vb B (υ (Λ u d) e))
 obtain⟨C,L,E,rfl⟩:=be;obtain⟨R,W,T,rfl⟩:=bf;obtain⟨-,-,P,Q,rfl,-,-⟩:=qp ai;obtain⟨-,-,a0,a1,rfl,-,-⟩:=qp f;generalize ay a b=r at o|-;obtain⟨br,D,at',F,j,bv⟩:=a;obtain⟨bs,S,a2,bl,k,bw⟩:=b;obtain⟨M,bb⟩:=pL br.length;obtain⟨bn,bd⟩:=pL bs.length;simp only[bb,bd,pX] at q s a5 a6 o|-;clear ac ad b7 b8 ba bc ae bb bd ai f;obtain⟨c,ag⟩:=pL (wg j k);simp only[ag] at o;have aW:=λu d e=>Sl j k u d e
 rw[ag] at aW;change∀u(l:V w.heap.size w u) d e,U _ _ #[.agg #[I P M Q,K D,K at',K F,H J j,I C L E]] _ _ at q;change∀u(l:V w.heap.size w u) d e,U _ _ #[.agg #[I a0 bn a1,K S,K a2,K bl,H J k,I R W T]] _ _ at s;change∀u d e,U _ _ #[.agg #[I P M Q,K D,K at',K F,H J j,I C L E]] _ λx bt=>x=η (H J j)/\_ at a5
 change∀u d e,U _ _ #[.agg #[I a0 bn a1,K S,K a2,K bl,H J k,I R W T]] _ λx bt=>x=η (H J k)/\_ at a6
 obtain⟨v,y,a4,af⟩:=zR w (X #[I P M Q,K D,K at',K F,H J j,I C L E] 51) (X #[I a0 bn a1,K S,K a2,K bl,H J k,I R W T] 51) (X #[I N 0 0,K ⟨#[]⟩,K ⟨#[]⟩,K ⟨#[]⟩,H J 0,I N 0 0] 51);have b1:=G o;have aX:=G q;have aY:=G s;clear o ag q s
 show U Z 242 #[.agg #[I P M Q,K D,K at',K F,H J j,I C L E],.agg #[I a0 bn a1,K S,K a2,K bl,H J k,I R W T],.func (.func 243) #[] #[],.func (.func 244) #[] #[]] w _
 go_enter Tryz.func242,Tryz.ntmps242
 go_wp2_with fail
 generalize((w.alloc _).alloc _).alloc _=i at v y a4 af|-;generalize bq:w.heap.size=A at v y a4|-;have bm:=G (show w.heap.size<=A+1+1 by omega);clear bq;have a7:=G af;have b2:=G v;have b3:=G y;have b4:=G a4;have f:=λd e=>pN (ν i d e) v
 have g:=λd e=>pN (ν i d e) y
 have ao:=λd e=>(f d e).1
 have ap:=λd e=>(f d e).2.1
 have aq:=λd e=>(f d e).2.2.1
 have ar:=λd e=>(f d e).2.2.2.1
 have au:=λd e=>(f d e).2.2.2.2.1
 have aw:=λd e=>(f d e).2.2.2.2.2
 have ax:=λd e=>(g d e).1
 have aB:=λd e=>(g d e).2.1
 have aD:=λd e=>(g d e).2.2.1
 have aF:=λd e=>(g d e).2.2.2.1
 have aV:=λd e=>(g d e).2.2.2.2.1
 have s5:=λd e=>(g d e).2.2.2.2.2
 clear f g af v y a4;have bj:=a5 i;have bk:=a6 i;have bi:=aW i;clear a5 a6 aW;refine Ω (by kernel_rfl) (by kernel_rfl) ?_
 repeat(first|go_big_quiet_step (fail)|quiet_step (fail))
 quiet_step (exact bj _ _)
 clear bj
 repeat(first|go_big_quiet_step (fail)|quiet_step (fail))
 quiet_step (exact bk _ _)
 clear bk
 repeat(first|go_big_quiet_step (fail)|quiet_step (fail))
 quiet_step (exact bi _ _)
 clear bi
 repeat(first|go_big_quiet_step (fail)|quiet_step (fail))
 refine aH ?_;intro _ ak;obtain⟨⟨dp,bg⟩,al⟩:=ak;subst al;clear ao ax ap aB aq aD ar aF au aV aw s5;have h:=G (ν i dp bg);have a8:=G (pW h.o b2.o);have a9:=G (pW h.o b3.o);have b5:=G (pW h.o b4.o);have p:=G (a7.o.trans (h.o.mono a7.o.size));clear b2 b3 b4 a7 h;generalize υ (Λ i dp) bg=m at a8 a9 b5 p|-;have f:=λd e=>pN (ν m d e) a8.o
 have g:=λd e=>pN (ν m d e) a9.o
 have ao:=λd e=>(f d e).1
 have ap:=λd e=>(f d e).2.1
 have aq:=λd e=>(f d e).2.2.1
 have ar:=λd e=>(f d e).2.2.2.1
 have au:=λd e=>(f d e).2.2.2.2.1
 have aw:=λd e=>(f d e).2.2.2.2.2
 have ax:=λd e=>(g d e).1
 have aB:=λd e=>(g d e).2.1
 have aD:=λd e=>(g d e).2.2.1
 have aF:=λd e=>(g d e).2.2.2.1
 have aV:=λd e=>(g d e).2.2.2.2.1
 have s5:=λd e=>(g d e).2.2.2.2.2
 clear f g;have am:=aX.o m p.o;have an:=aY.o m p.o;clear aX aY;rcases b1.o with⟨a3,t⟩|⟨a3,ab,b9,t⟩|⟨a3,ab,b9,t⟩|⟨a3,ab,t⟩
 all_goals
  have aZ:=G t;clear t b1
  go_wp2_with fail
  refine Ω (by kernel_rfl) (by kernel_rfl) ?_
  repeat(first|go_big_quiet_step (fail)|quiet_step (fail))
  try(quiet_step (exact am _ _);clear am;repeat(first|go_big_quiet_step (fail)|quiet_step (fail)))
  try(quiet_step (exact an _ _);clear an;repeat(first|go_big_quiet_step (fail)|quiet_step (fail)))
  refine aH ?_;intro _ ak;obtain⟨⟨b6,bh⟩,al⟩:=ak;subst al;clear ao ax ap aB aq aD ar aF au aV aw s5
  try clear am
  try clear an
  have h:=G (ν m b6 bh);obtain⟨x0,x1,x2,x3,x4,x5⟩:=pN h.o a8.o;obtain⟨bu,y1,y2,y3,y4,y5⟩:=pN h.o a9.o;have aa:=G (pW h.o b5.o);have b0:=G (p.o.trans (h.o.mono p.o.size));generalize υ (Λ m b6) bh=bx at x0 bu x1 y1 x2 y2 x3 y3 x4 y4 x5 y5 aa b0|-;clear h a3
  try clear b9
  try clear ab
  go_wp2_with(refine oN rfl 51 _ _ rfl _ _ rfl rfl 51 _ aa.o (by kernel_rfl) rfl (by simp[aj]) ?_)
  go_wp2_with fail
  refine ow (nL rfl _ _ (A+1+1) _ _ _ _ rfl (og _ _ _ _ _ _ aa.o) aO rfl (by kernel_rfl)) rfl ?_;exact⟨by first|exact .inl ⟨rfl,aZ.o⟩|exact .inr ⟨rfl,aZ.o⟩,pS b0.o bm.o _⟩
def FW{f:Type}{El:ο->f->List aI->Prop}{sz base:aU}{e:TypeId}{w:ο}:Row El sz e base w (I N 0 0) []:=
 ⟨[],⟨λc a=>absurd a (by simp),λu d=>absurd d (by simp)⟩,⟨by simp,.inl ⟨rfl,rfl⟩⟩,λw' _=>⟨rfl,λj b=>absurd b (by simp)⟩⟩
def D4(l:List av)(v:aI)(W:ο)(b:Rw W v 1 (l.map p_))(i:l.length<=1000000000):
 U Z 189 #[v] W λe w'=>(∃r,e=η r/\CY W.heap.size w' r l)/\V W.heap.size W w':=by
 have D:∀(w:ο)(a:Option Addr)(n c:aU),(binOp .eql 48 (I a n c) (I N 0 0)).run Z w= .ok (.bool a.isNone) w:=λw a n c=>aL w _ _ a n c 0 0 Tryz.underlying48
 obtain⟨g,E,z,cap,q,d,-⟩:=id b;rw[oS] at q d;subst q
 cases z with
 |none=>
  obtain rfl:l=[]:=by
   cases l with
   |nil=>rfl
   |cons a l=>cases d (by simp)
  clear b d i
  go_enter aS,aP
  go_wp2_with fail
  go_ret
  exact⟨⟨_,rfl,FW⟩,pH _ _⟩
 |some a=>
  have h:=pM W (X #[] (9:aU));have k:=G h;have y:=G (y_ (El:=De.PEl) (sz:=1) (e:=(9:aU)) (w:=W) (oZ _));have m:=G (b.under h);have x:=G i;obtain⟨n,j⟩:=pL l.length;have f:=G j;rw[j] at m|-;clear b d i h j
  go_enter aS,aP
  go_wp2_with(refine rz (n:=0) _ rfl (.tmp 5) (.tmp 6) rfl tiS rfl rfl y.o _ n l (l.map p_) rfl m.o (by rw[oS];exact f.o) f.o (λu _=>Gx _ u) (Cv _) k.o.size (by have B:=x.o;have C:=f.o;omega) (by decide) ?_)
  intro F L o p A;have s:=G o;have t:=G (k.o.trans p);clear o p A
  go_wp2_with fail
  go_ret;exact⟨⟨_,rfl,s.o⟩,t.o⟩
def Ty(l:List aJ)(v:aI)(W:ο)(b:Rw W v 5 (l.map pO))(i:l.length<=1000000000):
 U Z 185 #[v] W λe w'=>(∃r,e=η r/\xB W.heap.size w' r l)/\V W.heap.size W w':=by
 have D:∀(w:ο)(a:Option Addr)(n c:aU),(binOp .eql 49 (I a n c) (I N 0 0)).run Z w= .ok (.bool a.isNone) w:=λw a n c=>aL w _ _ a n c 0 0 Tryz.underlying49
 obtain⟨g,E,z,cap,q,d,-⟩:=id b;rw[oS] at q d;subst q
 cases z with
 |none=>
  obtain rfl:l=[]:=by
   cases l with
   |nil=>rfl
   |cons a l=>cases d (by simp)
  clear b d i
  go_enter aT,aQ
  go_wp2_with fail
  go_ret
  exact⟨⟨_,rfl,FW⟩,pH _ _⟩
 |some a=>
  have h:=pM W (X #[] (53:aU));have k:=G h;have y:=G (y_ (El:=De.EEl) (sz:=5) (e:=(53:aU)) (w:=W) (oZ _));have m:=G (b.under h);have x:=G i;obtain⟨n,j⟩:=pL l.length;have f:=G j;rw[j] at m|-;clear b d i h j
  go_enter aT,aQ
  go_wp2_with(refine rz (n:=0) _ rfl (.tmp 5) (.tmp 6) rfl Wn rfl rfl y.o _ n l (l.map pO) rfl m.o (by rw[oS];exact f.o) f.o (λu _=>all_e _ u) (Wo _) k.o.size (by have B:=x.o;have C:=f.o;omega) (by decide) ?_)
  intro F L o p A;have s:=G o;have t:=G (k.o.trans p);clear o p A
  go_wp2_with fail
  go_ret;exact⟨⟨_,rfl,s.o⟩,t.o⟩
def Yl(a b:aJ)(y:AD a)(z:AD b)(w:ο)(v:WT w):
 U Z 247 #[.agg (pO a).toArray,.agg (pO b).toArray] w λx w'=>x=η (.agg (pO (aK a b)).toArray)/\V w.heap.size w w':=by
 have c:=λu B=>UA a b y z u (v.below B)
 generalize aK a b=r at c|-;obtain⟨j,at',k,i,l⟩:=a;obtain⟨n,o,bl,m,p⟩:=b;obtain⟨Q,S,R,P,T⟩:=r;clear y z v;change∀u(B:V w.heap.size w u),U _ _ #[.agg #[K j,K at',K k,K i,H J l],.agg #[K n,K o,K bl,K m,H J p],_,_] _ λx w'=>x=η (.agg #[K Q,K S,K R,K P,H J T])/\_ at c
 show U Z 247 #[.agg #[K j,K at',K k,K i,H J l],.agg #[K n,K o,K bl,K m,H J p]] w _
 obtain⟨d,f,g,q⟩:=zR w (X #[K j,K at',K k,K i,H J l] 53) (X #[K n,K o,K bl,K m,H J p] 53) (X #[K ⟨#[]⟩,K ⟨#[]⟩,K ⟨#[]⟩,K ⟨#[]⟩,H J 0] 53);have C:=G c;clear c
 go_enter Tryz.func247,Tryz.ntmps247
 go_wp2_with fail
 generalize((w.alloc _).alloc _).alloc _=L at d f g q|-;generalize M:w.heap.size=A at d f g|-;have D:=G (show w.heap.size<=A+1+1 by omega);clear M;have h:=G q;have F:=G g;obtain⟨x0,x1,x2,x3,x4⟩:=qv (pH _ _) d;obtain⟨W,y1,y2,y3,y4⟩:=qv (pH _ _) f;clear q d f g
 go_wp2_with fail
 refine(C.o L h.o).mono ?_;rintro e a0⟨rfl,s⟩;have E:=G (h.o.trans (s.mono h.o.size));have t:=G (pW s F.o);clear s x0 x1 x2 x3 x4 W y1 y2 y3 y4
 go_wp2_with(refine oN rfl 53 _ _ rfl _ _ rfl rfl 53 _ t.o (by kernel_rfl) rfl (by simp[aj]) ?_)
 go_wp2_with fail
 refine ow (nL rfl _ _ (A+1+1) _ _ _ _ rfl (og _ _ _ _ _ _ t.o) aN rfl (by kernel_rfl)) rfl ?_;exact⟨rfl,pS E.o D.o _⟩
def Wp(a b:aM)(va o vb q:aI)(al:KH a)(am:KH b)(w:ο)(j:Rw w va 1 (a.path.map p_))(ap:∃a n c,o=I a n c)(l:Rw w vb 1 (b.path.map p_))(aq:∃a n c,q=I a n c)(b4:WT w):
 U Z 186 #[.agg (pX a va o).toArray,.agg (pX b vb q).toArray] w λx w'=>LF w.heap.size (ay a b) x w'/\V w.heap.size w w':=by
 have i:∀u(m:V w.heap.size w u),U Z 242 #[.agg (pX a va o).toArray,.agg (pX b vb q).toArray,.func (.func 243) #[] #[],.func (.func 244) #[] #[]] u λx w'=>(∃vr s,x=η (.agg (pX (ay a b) vr s).toArray)/\Rw w vr 1 ((ay a b).path.map p_)/\∃a n c,s=I a n c)/\V u.heap.size u w':=by
  intro u m;refine(UB a b va o vb q al am u (j.under m) ap (l.under m) aq (b4.below m)).mono ?_;rintro x w'⟨⟨rfl,e⟩|⟨rfl,e⟩,b6⟩
  ·rw[e];exact⟨⟨va,o,rfl,j,ap⟩,b6⟩
  ·rw[e];exact⟨⟨vb,q,rfl,l,aq⟩,b6⟩
 have L:(ay a b).path.length<=64:=by
  unfold ay
  split
  ·exact am.yc
  ·exact al.yc
 obtain⟨-,-,aw,ax,rfl,-,-⟩:=qp j;obtain⟨-,-,aB,aD,rfl,-,-⟩:=qp l;obtain⟨ab,ad,ac,rfl⟩:=ap;obtain⟨ae,ag,af,rfl⟩:=aq;generalize ay a b=r at i L|-;obtain⟨bm,a0,at',a1,a3,bw⟩:=a;obtain⟨bo,a4,a5,bl,a6,bx⟩:=b;obtain⟨bc,P,R,Q,S,bI⟩:=r;simp only at L j l;obtain⟨a2,b5⟩:=pL bm.length;obtain⟨bn,b7⟩:=pL bo.length;simp only[b5,b7,pX] at i|-;clear al am b4 j l b5 b7;change∀u(m:V w.heap.size w u),U _ _ #[.agg #[I aw a2 ax,K a0,K at',K a1,H J a3,I ab ad ac],.agg #[I aB bn aD,K a4,K a5,K bl,H J a6,I ae ag af],_,_] _ λx w'=>(∃vr s,x=η (.agg #[vr,K P,K R,K Q,H J S,s])/\_)/\_ at i
 show U Z 186 #[.agg #[I aw a2 ax,K a0,K at',K a1,H J a3,I ab ad ac],.agg #[I aB bn aD,K a4,K a5,K bl,H J a6,I ae ag af]] w _
 obtain⟨z,B,C,an⟩:=zR w (X #[I aw a2 ax,K a0,K at',K a1,H J a3,I ab ad ac] 51) (X #[I aB bn aD,K a4,K a5,K bl,H J a6,I ae ag af] 51) (X #[I N 0 0,K ⟨#[]⟩,K ⟨#[]⟩,K ⟨#[]⟩,H J 0,I N 0 0] 51);have be:=G i;have bh:=G L;clear i L
 go_enter Tryz.func186,Tryz.ntmps186
 go_wp2_with fail
 generalize((w.alloc _).alloc _).alloc _=bk at z B C an|-;generalize bs:w.heap.size=A at z B C|-;have aW:=G (show w.heap.size<=A+1+1 by omega);clear bs;have T:=G an;have aZ:=G C;obtain⟨x0,x1,x2,x3,x4,x5⟩:=pN (pH _ _) z;obtain⟨bv,y1,y2,y3,y4,y5⟩:=pN (pH _ _) B;clear an z B C
 go_wp2_with fail
 refine(be.o bk T.o).mono ?_;rintro e t⟨⟨vr,s,rfl,ar,b9,bb,ba,rfl⟩,D⟩;obtain⟨-,-,aF,aV,rfl,-,-⟩:=qp ar;have aX:=G (T.o.trans (D.mono T.o.size));have bj:=G (pW D aZ.o);have b0:=G ar;have g:=G (show A+1+1<t.heap.size from oQ (Rw.lt_of_heap aZ.o) D.size);clear D x0 x1 x2 x3 x4 x5 bv y1 y2 y3 y4 y5 ar;obtain⟨f,au⟩:=pL bc.length;have W:=G au;simp only[au] at b0|-;clear au;have ao:=pM t (X #[I aF f aV,K P,K R,K Q,H J S,I b9 bb ba] (51:aU));have ai:=pG t (X #[I aF f aV,K P,K R,K Q,H J S,I b9 bb ba] (51:aU));obtain⟨a7,c1,c2,a8,a9,aa⟩:=pN (pH _ _) ai;have h:=G (aX.o.trans (ao.mono aX.o.size));have v:=G ai;have b2:=G (pW ao bj.o);clear ai ao
 go_wp2_with fail
 generalize bt:t.heap.size=d at a7 c1 c2 a8 a9 aa v g|-;clear bt;generalize t.alloc _=bu at a7 c1 c2 a8 a9 aa h v b2|-;refine(D4 bc (I aF f aV) bu (b0.o.under h.o) (pF bh.o (by decide))).mono ?_;rintro e bd⟨⟨bJ,rfl,ak⟩,E⟩;obtain⟨y,M,b3⟩:=az ak;rw[W.o] at b3;subst b3;have bi:=G ak;have bf:=G (h.o.trans (E.mono h.o.size));have b8:=pW E b2.o;have F:=pW E v.o;have bg:=G (Rw.lt_of_heap v.o);have aY:=G (show w.heap.size<=d by have:=aW.o;have:=g.o;omega);have b1:=G ((pz _ ⟨d,5,N⟩ (A+1+1) (I N 0 0) (by simp only;have:=g.o;omega)).trans ((pz bd ⟨d,0,N⟩ (A+1+1) (I y f M) (by simp only;have:=g.o;omega)).trans b8));clear E a7 c1 c2 a8 a9 aa ak b8;obtain⟨bz,bA,bB,bC,bD,bE⟩:=pN (pH _ _) F;have bF:=yY F 0;have bG:=yY F 5;clear F
 go_wp2_with(refine oN rfl 51 _ _ rfl _ _ rfl rfl 51 _ b1.o (by kernel_rfl) rfl (by simp[aj]) ?_)
 go_wp2_with fail
 refine ow (nL rfl _ _ (A+1+1) _ _ _ _ rfl (og _ _ _ _ _ _ b1.o) aO rfl (by kernel_rfl)) rfl ?_;refine⟨⟨y,M,by rw[W.o],?_⟩,pS ((bf.o.setCell (p:=⟨d,0,N⟩) aY.o _).setCell (p:=⟨d,5,N⟩) aY.o _) aW.o _⟩
 have bq:=De.r_ (λ_ _ _ _ bp=>bp) bi.o (u:=((bd.setCell ⟨d,0,N⟩ (I y f M)).setCell ⟨d,5,N⟩ (I N 0 0)).setRow (A+1+1) #[I y f M,K P,K R,K Q,H J S,I N 0 0]) (λk bH _ _=>by
  have:=bg.o;have:=g.o;rw[oo _ _ _ _ (by omega),pz _ _ _ _ (by simp only;omega),pz _ _ _ _ (by simp only;omega)])
 have br:=bq.base h.o.size;rw[W.o];exact br
end Ke
end Go.Proofs.YthbhmjdcfocphaaGreatDoor
