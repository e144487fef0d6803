/- A part of this proof. -/
import Derived.Test.YthbhmjdcfocphaaGreatDoorKM3
set_option linter.all false
set_option maxHeartbeats 16000000
set_option maxRecDepth 100000
namespace Go.Proofs.YthbhmjdcfocphaaGreatDoor
open Go.Value renaming string→K, slice→H, pointer→ε, int→J
open Go.Obj renaming cells→ζ
open Go.Ending renaming returned→η
open Go.IntKind renaming i64→L
open Go.Lib renaming hid→G, Utf8Tabs→Ξ
open Go renaming cell_regrown→O, below_regrown→π, redrawn→X, Calls→N, wp_region_quiet_below→Λ, World→ς, wpQuiet_nil→ο, Regrown→av, Value→ay, maxLen→aG
open Go.Proofs.Tryz renaming prog→U
open Go.Sort renaming grow→V
open Go.RowKit renaming Below→M
open Go.Calls renaming regrown_of→Γ
open _root_ renaming Int→I
open Mw renaming below_grown→ah
open Bool renaming true→aj, false→aA
open Mo renaming Fd→az, En→aC, okF→aE, s_→aH, IV→aI
namespace Mw
open RowKit Rw
def Ll(e:aC)(w:ς):N U 157 #[.agg (pO e).toArray] w λx w'=>x=η (K e.id)/\M w.heap.size w w':=by
 obtain⟨i,t,l,c,u⟩:=e;obtain⟨x0,-⟩:=vh (w:=w) (x0:=K i) (x1:=K t) (x2:=K l) (x3:=K c) (x4:=J L u) (t:=53);have a:=G (pM w (ζ #[K i,K t,K l,K c,J L u] 53))
 show N U 157 #[.agg #[K i,K t,K l,K c,J L u]] w _
 go_enter Tryz.func157,Tryz.ntmps157
 go_wp2_with fail
 go_ret;exact⟨rfl,a.o⟩
def re_cE{e:aC}{w:ς}(b:Ξ 2 3 w)(c:Zs e)(f:Mo.zv e=aj):
 ∀d a,N U 160 #[.agg (pO e).toArray] (V (X w d) a) λe g=>e=η (J L 0)/\∃p:av,g=V (X w p.d) p.os:=λd a=>
 Γ (Uy e _ (Tx.qC b (π w d a)) c f)
def re_mE{a b:aC}{c:I}{w:ς}(g:Mo.rS a b=c):
 ∀d f,N U 161 #[.agg (pO a).toArray,.agg (pO b).toArray] (V (X w d) f) λe h=>e=η (J L c)/\∃p:av,h=V (X w p.d) p.os:=λd f=>by
 subst g;exact Γ (cmpE_is a b _)
def re_iE{e:aC}{w:ς}:
 ∀d a,N U 157 #[.agg (pO e).toArray] (V (X w d) a) λx b=>x=η (K e.id)/\∃p:av,b=V (X w p.d) p.os:=λd a=>
 Γ (Ll e _)
def ordE_ok(l:List aC)(v:ay)(W:ς)(aF:Rw W v 5 (l.map pO))(aJ:Ξ 2 3 W)(bj:l.length<=8796093022208)(aK:∀e∈l,Zs e)(aO:Mo.u6 Mo.zv Mo.rS (·.id) l=aj):
 N U 159 #[v,.func (.func 160) #[] #[],.func (.func 161) #[] #[],.func (.func 157) #[] #[]] W λe w'=>e=η (.bool aj)/\M W.heap.size W w':=by
 obtain⟨g,bz,br,cap,rfl,ak,aL⟩:=qO aF;obtain⟨m,an⟩:=pL l.length;rw[an] at ak bj|-;have b9:=G an;have b7:=G ak;have au:=G aL;have b8:=G aK;have ba:=G aO;have a7:=G (pM W (.map #[] 0));have ab:=G (Seen.new W);have bb:=G aJ;clear aF ak aL aK an aO aJ;have bu:=@run_makeMap U
 go_enter Tryz.func159,Tryz.ntmps159
 go_wp2_with fail
 generalize bn:W.alloc (.map #[] 0)=bA at a7 ab|-;clear bn;obtain⟨B,ai⟩:=pL W.heap.size;have a:=G ai;rw[ai] at ab a7|-;clear ai
 go_loopw [15] (λx b1=>∃k:Nat,k<=m/\x=J L k/\Hid (Seen b1 B k (λs=>(l.take k).any λz=>z.id.data.toList==s))/\Hid (M B W b1)) (λx _=>m-(intOf x).toNat)
 case atStart=>exact⟨0,oM _,rfl,G (ab.o.congr (λs=>by simp)),a7⟩
 case round=>
  obtain⟨k,bt,rfl,bm,y⟩:=hrel
  by_cases bk:k<m
  ·obtain rfl:=b7.o (by omega)
   have a1:k<l.length:=(by rw[b9.o];exact bk);obtain⟨p,y1,y2,y3,y4⟩:=au.o k a1;replace p:=pI p (a.o.symm▸y.o);replace y1:=pI y1 (a.o.symm▸y.o);replace y2:=pI y2 (a.o.symm▸y.o);replace y3:=pI y3 (a.o.symm▸y.o);replace y4:=pI y4 (a.o.symm▸y.o);have bw:(k:I)<(m:I):=(by omega);have bv:(0:I)<=(k:I):=(by omega);obtain⟨aT,aU,aV⟩:=Sj ba.o a1;have F:=G (b8.o _ (pq a1));have aa:=G (λs=>GU (l:=l) (λs (z:aC)=>z.id.data.toList==s) a1 s);have aw:=G aT;have ax:=G aU;have aB:=G aV;clear aT aU aV;generalize l[k]=f at p y1 y2 y3 y4 F aa aw ax aB;obtain⟨c,j,i,h,n⟩:=f;simp only at p y1 y2 y3 y4
   go_wp2_with fail
   have ad:=vh (w:=wr) (x0:=K c) (x1:=K j) (x2:=K i) (x3:=K h) (x4:=J L n) (t:=53);have q:=pM wr (ζ #[K c,K j,K i,K h,J L n] 53);have C:=G (a.o▸pK (a.o.symm▸y.o) q:M B W _);have a0:=G (bm.o.below q);replace p:=pI p q;replace y1:=pI y1 q;replace y2:=pI y2 q;replace y3:=pI y3 q;replace y4:=pI y4 q;generalize bi:wr.heap.size=bq at ad|-;generalize wr.alloc (ζ #[K c,K j,K i,K h,J L n] 53)=o at ad C a0 p y1 y2 y3 y4|-;clear q bi;obtain⟨x0,x1,x2,x3,x4⟩:=ad;have bc:=G (Tx.qC bb.o (a.o▸C.o:M W.heap.size W o));have P:=re_cE bc.o F.o aw.o;have Q:=re_iE (e:=⟨c,j,i,h,n⟩) (w:=o);change∀d aq,N _ _ #[.agg #[K c,K j,K i,K h,J L n]] _ _ at P Q;have aS:=λd aq=>(a0.o.below (π o d aq)).look c F.o.id aB.o
   have aW:=O x0;have aX:=O x1;have aY:=O x2;have aZ:=O x3;have b0:=O x4
   by_cases aM:k=0
   ·have S:¬(0:I)<(k:I):=by omega
    have af:¬0<k:=(by omega);have ag:decide ((0:I)<(k:I))=aA:=o9 S;clear aM p y1 y2 y3 y4;refine Λ (by kernel_rfl) (by kernel_rfl) ?_
    repeat(first|go_big_quiet_step (fail)|quiet_step (exact P _ _)|quiet_step (exact Q _ _)|quiet_step (fail))
    refine ο ?_;intro _ ao;obtain⟨⟨R,Z⟩,ap⟩:=ao;subst ap;have b:=π o R Z;have D:=G (a.o▸pK (a.o.symm▸C.o) b:M B W _);have E:=G (a0.o.below b);replace x0:=pI x0 b;replace x1:=pI x1 b;replace x2:=pI x2 b;replace x3:=pI x3 b;replace x4:=pI x4 b;clear aW aX aY aZ b0 P Q aS b S af ag;generalize V (X o R) Z=ar at D E x0 x1 x2 x3 x4|-
    go_wp2_with fail
    have r:=Ll ⟨c,j,i,h,n⟩ ar;change N _ _ #[.agg #[K c,K j,K i,K h,J L n]] _ _ at r;refine r.mono ?_;rintro e bo⟨rfl,u⟩;have a8:=G (a.o▸pK (a.o.symm▸D.o) u:M B W _);obtain⟨bp,bl,Y,T⟩:=(E.o.below u).put c F.o.id (by unfold aG;omega);have ac:=G (Y.congr (g:=λs=>(l.take (k+1)).any λz=>z.id.data.toList==s) (λs=>by rw[aa.o s];simp only[jq]));have a9:=G (a.o▸ah (a.o.symm▸a8.o) (lG a.o) T:M B W _);clear Y T u r x0 x1 x2 x3 x4
    go_wp2_with fail
    go_roundw
    case rel=>exact⟨k+1,by omega,by go_num,ac,a9⟩
    case measure=>simp[intOf];omega
   ·have am:k-1<l.length:=by omega
    obtain⟨b2,b3,b4,b5,b6⟩:=au.o (k-1) am;have A:M W.heap.size W o:=a.o▸C.o;have a2:=O (pI b2 A);have a3:=O (pI b3 A);have a4:=O (pI b4 A);have a5:=O (pI b5 A);have a6:=O (pI b6 A);have aN:=ax.o (by omega) am;clear b2 b3 b4 b5 b6 A p y1 y2 y3 y4;generalize l[k-1]=aD at a2 a3 a4 a5 a6 aN;obtain⟨bd,al⟩:=pL (Mo.rS aD ⟨c,j,i,h,n⟩);have ae:=re_mE (w:=o) al;rw[al] at aN;obtain⟨bf,dt,bg,be,du⟩:=aD;simp only at a2 a3 a4 a5 a6;change∀d aq,N _ _ #[.agg #[.string bf,.string dt,.string bg,.string be,.int .i64 du],.agg #[.string c,.string j,.string i,.string h,.int .i64 n]] _ _ at ae;have bh:decide (0<=bd)=aA:=o9 (by omega);have S:(0:I)<(k:I):=(by omega);have af:0<k:=(by omega);have ag:decide ((0:I)<(k:I))=aj:=nK S;have aP:IntKind.i64.wrap ((k:I) -1)=((k-1:Nat):I):=(by rw[IntWalk.i64_in _ (by omega)];omega);have aQ:((k-1:Nat):I)<(m:I):=(by omega);have aR:(0:I)<=((k-1:Nat):I):=(by omega);clear am al;generalize k-1=bx at a2 a3 a4 a5 a6 aP aQ aR;clear aM;refine Λ (by kernel_rfl) (by kernel_rfl) ?_
    repeat(first|go_big_quiet_step (fail)|quiet_step (exact P _ _)|quiet_step (exact ae _ _)|quiet_step (exact Q _ _)|quiet_step (fail))
    refine ο ?_;intro _ ao;obtain⟨⟨R,Z⟩,ap⟩:=ao;subst ap;clear a2 a3 a4 a5 a6 ae aP aQ aR bh;have b:=π o R Z;have D:=G (a.o▸pK (a.o.symm▸C.o) b:M B W _);have E:=G (a0.o.below b);replace x0:=pI x0 b;replace x1:=pI x1 b;replace x2:=pI x2 b;replace x3:=pI x3 b;replace x4:=pI x4 b;clear aW aX aY aZ b0 P Q aS b S af ag;generalize V (X o R) Z=ar at D E x0 x1 x2 x3 x4|-
    go_wp2_with fail
    have r:=Ll ⟨c,j,i,h,n⟩ ar;change N _ _ #[.agg #[K c,K j,K i,K h,J L n]] _ _ at r;refine r.mono ?_;rintro e bo⟨rfl,u⟩;have a8:=G (a.o▸pK (a.o.symm▸D.o) u:M B W _);obtain⟨bp,bl,Y,T⟩:=(E.o.below u).put c F.o.id (by unfold aG;omega);have ac:=G (Y.congr (g:=λs=>(l.take (k+1)).any λz=>z.id.data.toList==s) (λs=>by rw[aa.o s];simp only[jq]));have a9:=G (a.o▸ah (a.o.symm▸a8.o) (lG a.o) T:M B W _);clear Y T u r x0 x1 x2 x3 x4
    go_wp2_with fail
    go_roundw
    case rel=>exact⟨k+1,by omega,by go_num,ac,a9⟩
    case measure=>simp[intOf];omega
  ·have bs:decide ((k:I)<(m:I))=aA:=o9 (by omega)
   go_wp2_with fail
   go_ret;exact⟨rfl,a.o.symm▸y.o⟩
def EY(p:List ByteArray)(v:ay)(W:ς)(k:Rw W v 1 (p.map p_))(m:p.length<=8796093022208)(d:p.all (λp=>aI p&&aH p)=aj):
 N U 155 #[v,K ⟨#[]⟩] W λe w'=>e=η (.bool aA)/\w'=W:=by
 obtain⟨g,l,b,cap,rfl,h,i⟩:=qp k
 by_cases f:p.length=0
 ·rw[f]
  exact Tryz.slices_Contains_string_empty b cap _ W
 ·obtain rfl:=h (by omega)
  have c:=Tryz.slices_Contains_string g l p.length cap p ⟨#[]⟩ W (oZ _) (by omega) (λj a=>by
   rw[i j a,om,oW a];rfl)
  have e:Lib.containsS (p.take p.length) ⟨#[]⟩=aA:=by rw[Bool.eq_false_iff];intro e;rw[Lib.containsS_iff,oP (oZ _)] at e;have:=List.all_eq_true.1 d _ e;rw[oz] at this;exact absurd this.1 (by unfold aI;rw[ByteArray.toList_eq];simp)
  rw[e] at c;exact c
def all_imp{p:List ByteArray}(a:p.all (λp=>aI p&&aH p)=aj):p.all aH=aj:=by rw[mF] at a|-;intro x b;have:=a x b;rw[oz] at this;exact this.2
def Uz(f:az)(vp ve:ay)(W:ς)(o:Rw W vp 1 (f.path.map p_))(y:Rw W ve 5 (f.pU.map pO))(n:Ξ 2 3 W)(b:QZ f)(z:aE f=aj):
 N U 101 #[.agg (pX f vp ve).toArray] W λx w'=>x=η (J L 0)/\M W.heap.size W w':=by
 obtain⟨p,i,t,l,u,es⟩:=f;unfold aE at z;simp only[oz] at z;obtain⟨⟨⟨⟨⟨⟨⟨T,B⟩,C⟩,Y⟩,Z⟩,a0⟩,a1⟩,a2⟩:=z
 have a9:(i.toList.isEmpty)=aA:=by
  unfold aI at C
  revert C
  cases i.toList.isEmpty<;>simp
 have S:p.length<=64:=mX T;obtain⟨x0,x1,x2,x3,x4,x5⟩:=uS (w:=W) (x0:=vp) (x1:=K i) (x2:=K t) (x3:=K l) (x4:=J L u) (x5:=ve) (t:=51);have c:=G (pM W (ζ #[vp,K i,K t,K l,J L u,ve] 51));have j:=G (λw (a:M W.heap.size W w)=>EY p vp w (o.under a) b.yc B);have h:=G (λw (a:M W.heap.size W w)=>Ql p vp w (o.under a) (Tx.qC n a) b.yc b.path);rw[all_imp B] at h;have D:=G (λw=>JV u w Y);have k:=G (λw (a:M W.heap.size W w)=>ordE_ok es ve w (y.under a) (Tx.qC n a) b.Iz b.pU a2)
 have r:=G (λw cap (a:M W.heap.size W w)=>Ql [i,t,l] (H (some ⟨w.heap.size,0,none⟩) 3 cap) (w.alloc (ζ #[K i,K t,K l] 9)) (sL w [i,t,l] 9 cap) (Tx.qC n (a.alloc a.size _)) (by simp) (by
  intro q g;rcases List.mem_cons.1 g with rfl|g
  ·exact b.id
  rcases List.mem_cons.1 g with rfl|g
  ·exact b.title
  rcases List.mem_cons.1 g with rfl|g
  ·exact b.link
  ·cases g))
 rw[show [i,t,l].all aH=aj by simp only[List.all_cons,List.all_nil,Z,a0,a1];rfl] at r;obtain⟨-,-,a3,a4,rfl,-,-⟩:=qp o;obtain⟨-,-,E,F,rfl,-,-⟩:=qO y;obtain⟨a5,A⟩:=pL p.length;obtain⟨a7,R⟩:=pL es.length;simp only at x0 x5 j h k c
 show N U 101 #[.agg #[H a3 p.length a4,K i,K t,K l,J L u,H E es.length F]] W _
 rw[A] at x0 j h S c|-;rw[R] at x0 x1 x2 x3 x4 x5 k c|-;rw[A] at x1 x2 x3 x4 x5;have aa:(a5:I)<=64:=by omega
 clear o y n b T B C Y Z a0 a1 a2 S A R
 go_enter Tryz.func101,Tryz.ntmps101
 go_wp2_with fail
 generalize W.alloc (ζ #[H a3 a5 a4,K i,K t,K l,J L u,H E a7 F] 51)=ab at x0 x1 x2 x3 x4 x5 c|-;refine(j.o _ c.o).mono ?_;rintro e ac⟨rfl,rfl⟩
 go_wp2_with fail
 refine(h.o _ c.o).mono ?_;rintro e ad⟨rfl,d⟩;have m:=pR c d;replace x1:=pI x1 d;replace x2:=pI x2 d;replace x3:=pI x3 d;replace x4:=pI x4 d;replace x5:=pI x5 d;clear x0 d c j h
 go_wp2_with fail
 refine(D.o _).mono ?_;rintro e a8⟨rfl,rfl⟩
 go_wp2_with fail
 refine(r.o _ _ m.o).mono ?_;rintro e ae⟨rfl,v⟩;have Q:=pM a8 (ζ #[K i,K t,K l] 9);have s:=G (pK (m.o.alloc m.o.size (ζ #[K i,K t,K l] 9)) v);replace x5:=pI (pI x5 Q) v;clear x1 x2 x3 x4 v Q m D r
 go_wp2_with fail
 refine(k.o _ s.o).mono ?_;rintro e af⟨rfl,P⟩;have a6:=pR s P;clear x5 P s k
 go_wp2_with fail
 refine(C9 _).mono ?_;rintro e ag⟨rfl,rfl⟩
 go_wp2_with fail
 go_ret;exact⟨rfl,a6.o⟩
def Lm(f:az)(vp ve:ay)(w:ς)(k:∃a n c,vp=H a n c)(j:∃a n c,ve=H a n c):N U 103 #[.agg (pX f vp ve).toArray] w λx w'=>x=η (K f.id)/\M w.heap.size w w':=by
 obtain⟨p,i,t,l,u,es⟩:=f;obtain⟨b,e,c1,rfl⟩:=k;obtain⟨d,g,c2,rfl⟩:=j;obtain⟨-,x1,-⟩:=uS (w:=w) (x0:=H b e c1) (x1:=K i) (x2:=K t) (x3:=K l) (x4:=J L u) (x5:=H d g c2) (t:=51);have h:=G (pM w (ζ #[H b e c1,K i,K t,K l,J L u,H d g c2] 51))
 show N U 103 #[.agg #[H b e c1,K i,K t,K l,J L u,H d g c2]] w _
 go_enter Tryz.func103,Tryz.ntmps103
 go_wp2_with fail
 go_ret;exact⟨rfl,h.o⟩
def re_cF{f:az}{vp ve:ay}{w:ς}(i:Rw w vp 1 (f.path.map p_))(g:Rw w ve 5 (f.pU.map pO))(b:Ξ 2 3 w)(c:QZ f)(h:aE f=aj):
 ∀d a,N U 101 #[.agg (pX f vp ve).toArray] (V (X w d) a) λe j=>e=η (J L 0)/\∃p:av,j=V (X w p.d) p.os:=λd a=>
 Γ (Uz f vp ve _ (i.under (π w d a)) (g.under (π w d a)) (Tx.qC b (π w d a)) c h)
def re_mF{f g:az}{vp ve i h:ay}{c:I}{w:ς}(m:Rw w vp 1 (f.path.map p_))(o:Rw w i 1 (g.path.map p_))(k:∃a n c,ve=H a n c)(l:∃a n c,h=H a n c)(q:f.path.length<=8796093022208)(r:g.path.length<=8796093022208)(j:Mo.tM f g=c):
 ∀d b,N U 102 #[.agg (pX f vp ve).toArray,.agg (pX g i h).toArray] (V (X w d) b) λe s=>e=η (J L c)/\∃p:av,s=V (X w p.d) p.os:=λd b=>by
 subst j;exact Γ (cmpF_is f g vp ve i h _ (m.under (π w d b)) (o.under (π w d b)) k l q r)
def re_iF{f:az}{vp ve:ay}{w:ς}(g:∃a n c,vp=H a n c)(e:∃a n c,ve=H a n c):
 ∀d b,N U 103 #[.agg (pX f vp ve).toArray] (V (X w d) b) λx h=>x=η (K f.id)/\∃p:av,h=V (X w p.d) p.os:=λd b=>
 Γ (Lm f vp ve _ g e)
def ordF_ok(l:List az)(v:ay)(W:ς)(b5:rY W v l)(b6:Ξ 2 3 W)(bN:l.length<=8796093022208)(b7:∀e∈l,QZ e)(bg:Mo.u6 aE Mo.tM (·.id) l=aj):
 N U 100 #[v,.func (.func 101) #[] #[],.func (.func 102) #[] #[],.func (.func 103) #[] #[]] W λe w'=>e=η (.bool aj)/\M W.heap.size W w':=by
 obtain⟨g,c5,bX,cap,rfl,aF,bb⟩:=qF b5;obtain⟨m,aL⟩:=pL l.length;rw[aL] at aF bN|-;have bD:=G aL;have bC:=G aF;have aU:=G bb;have aS:=G b7;have bE:=G bg;have al:=G (pM W (.map #[] 0));have aq:=G (Seen.new W);have bG:=G b6;clear b5 aF bb b7 aL bg b6;have c1:=@run_makeMap U
 go_enter Tryz.func100,Tryz.ntmps100
 go_wp2_with fail
 generalize bR:W.alloc (.map #[] 0)=c8 at al aq|-;clear bR;obtain⟨B,aD⟩:=pL W.heap.size;have a:=G aD;rw[aD] at aq al|-;clear aD
 go_loopw [15] (λx bu=>∃k:Nat,k<=m/\x=J L k/\Hid (Seen bu B k (λs=>(l.take k).any λT=>T.id.data.toList==s))/\Hid (M B W bu)) (λx _=>m-(intOf x).toNat)
 case atStart=>exact⟨0,oM _,rfl,G (aq.o.congr (λs=>by simp)),al⟩
 case round=>
  obtain⟨k,c0,rfl,bQ,F⟩:=hrel
  by_cases bO:k<m
  ·obtain rfl:=bC.o (by omega)
   have ad:k<l.length:=(by rw[bD.o];exact bO);obtain⟨vp,ve,aM,aK,y,y1,y2,y3,y4,y5⟩:=aU.o k ad;obtain⟨-,-,p,q,rfl,-,-⟩:=qp aM;obtain⟨-,-,h,i,rfl,-,-⟩:=qO aK;have ap:=G (λu (aO:M W.heap.size W u)=>aM.under aO);have aT:=G (λu (aO:M W.heap.size W u)=>aK.under aO);clear aM aK;replace y:=pI y (a.o.symm▸F.o);replace y1:=pI y1 (a.o.symm▸F.o);replace y2:=pI y2 (a.o.symm▸F.o);replace y3:=pI y3 (a.o.symm▸F.o);replace y4:=pI y4 (a.o.symm▸F.o);replace y5:=pI y5 (a.o.symm▸F.o);have c3:(k:I)<(m:I):=(by omega);have c2:(0:I)<=(k:I):=(by omega);obtain⟨bl,bm,bn⟩:=Sj bE.o ad;have Y:=G (aS.o _ (pq ad));have ao:=G (λs=>GU (l:=l) (λs (T:az)=>T.id.data.toList==s) ad s);have aZ:=G bl;have b0:=G bm;have b1:=G bn;clear bl bm bn;generalize l[k]=f at y y1 y2 y3 y4 y5 Y ao aZ b0 b1 ap aT;obtain⟨R,c,n,j,o,E⟩:=f;simp only at y y1 y2 y3 y4 y5;generalize bd:R.length=z at y;generalize bc:E.length=A at y5;have aW:=G bd;have aV:=G bc;clear bd bc
   go_wp2_with fail
   have au:=uS (w:=wr) (x0:=H p z q) (x1:=K c) (x2:=K n) (x3:=K j) (x4:=J L o) (x5:=H h A i) (t:=51);have D:=pM wr (ζ #[H p z q,K c,K n,K j,J L o,H h A i] 51);have Q:=G (a.o▸pK (a.o.symm▸F.o) D:M B W _);have aa:=G (bQ.o.below D);replace y:=pI y D;replace y1:=pI y1 D;replace y2:=pI y2 D;replace y3:=pI y3 D;replace y4:=pI y4 D;replace y5:=pI y5 D;generalize bM:wr.heap.size=bW at au|-;generalize wr.alloc (ζ #[H p z q,K c,K n,K j,J L o,H h A i] 51)=r at au Q aa y y1 y2 y3 y4 y5|-;clear D bM;obtain⟨x0,x1,x2,x3,x4,x5⟩:=au;have bH:=G (Tx.qC bG.o (a.o▸Q.o:M W.heap.size W r));have Z:=re_cF (ap.o r (a.o▸Q.o)) (aT.o r (a.o▸Q.o)) bH.o Y.o aZ.o;have a2:=re_iF (f:=⟨R,c,n,j,o,E⟩) (vp:=H p z q) (ve:=H h A i) (w:=r) ⟨_,_,_,rfl⟩ ⟨_,_,_,rfl⟩;change∀d ae,N _ _ #[.agg #[H p R.length q,K c,K n,K j,J L o,H h E.length i]] _ _ at Z;rw[aW.o,aV.o] at Z;change∀d ae,N _ _ #[.agg #[H p z q,K c,K n,K j,J L o,H h A i]] _ _ at a2;have bk:=λd ae=>(aa.o.below (π r d ae)).look c Y.o.id b1.o
   have bo:=O x0;have bp:=O x1;have bq:=O x2;have br:=O x3;have bs:=O x4;have bt:=O x5
   by_cases be:k=0
   ·have a4:¬(0:I)<(k:I):=by omega
    have ax:¬0<k:=(by omega);have aB:decide ((0:I)<(k:I))=aA:=o9 a4;clear be y y1 y2 y3 y4 y5;refine Λ (by kernel_rfl) (by kernel_rfl) ?_
    repeat(first|go_big_quiet_step (fail)|quiet_step (exact Z _ _)|quiet_step (exact a2 _ _)|quiet_step (fail))
    refine ο ?_;intro _ aP;obtain⟨⟨a3,a7⟩,aQ⟩:=aP;subst aQ;have b:=π r a3 a7;have a0:=G (a.o▸pK (a.o.symm▸Q.o) b:M B W _);have a1:=G (aa.o.below b);replace x0:=pI x0 b;replace x1:=pI x1 b;replace x2:=pI x2 b;replace x3:=pI x3 b;replace x4:=pI x4 b;replace x5:=pI x5 b;clear bo bp bq br bs bt Z a2 bk b a4 ax aB;generalize V (X r a3) a7=aR at a0 a1 x0 x1 x2 x3 x4 x5|-
    go_wp2_with fail
    have P:=Lm ⟨R,c,n,j,o,E⟩ (H p z q) (H h A i) aR ⟨_,_,_,rfl⟩ ⟨_,_,_,rfl⟩;change N _ _ #[.agg #[H p z q,K c,K n,K j,J L o,H h A i]] _ _ at P;refine P.mono ?_;rintro e bU⟨rfl,S⟩;have am:=G (a.o▸pK (a.o.symm▸a0.o) S:M B W _);obtain⟨bV,bP,a6,a5⟩:=(a1.o.below S).put c Y.o.id (by unfold aG;omega);have ar:=G (a6.congr (g:=λs=>(l.take (k+1)).any λT=>T.id.data.toList==s) (λs=>by rw[ao.o s];simp only[jq]));have an:=G (a.o▸ah (a.o.symm▸am.o) (lG a.o) a5:M B W _);clear a6 a5 S P x0 x1 x2 x3 x4 x5
    go_wp2_with fail
    go_roundw
    case rel=>exact⟨k+1,by omega,by go_num,ar,an⟩
    case measure=>simp[intOf];omega
   ·have ac:k-1<l.length:=by omega
    obtain⟨c7,c6,aN,ba,bv,bw,bx,bz,bA,bB⟩:=aU.o (k-1) ac;obtain⟨-,-,bS,bT,rfl,-,-⟩:=qp aN;obtain⟨-,-,b3,b4,rfl,-,-⟩:=qO ba;have aY:=G (aS.o _ (pq ac)).yc;have C:M W.heap.size W r:=a.o▸Q.o;have a8:=O (pI bv C);have af:=O (pI bw C);have ag:=O (pI bx C);have ai:=O (pI bz C);have ak:=O (pI bA C);have a9:=O (pI bB C);have aX:=G (aN.under C);have bF:=G (ap.o r C);have bf:=b0.o (by omega) ac;clear bv bw bx bz bA bB C y y1 y2 y3 y4 y5 aN ba;generalize l[k-1]=aw at a8 af ag ai ak a9 bf aX aY;obtain⟨bI,aJ⟩:=pL (Mo.tM aw ⟨R,c,n,j,o,E⟩);have ab:=re_mF aX.o bF.o ⟨_,_,_,rfl⟩ ⟨h,E.length,i,rfl⟩ aY.o Y.o.yc aJ (ve:=H b3 aw.pU.length b4);rw[aJ] at bf;obtain⟨dp,bJ,dt,bK,du,b2⟩:=aw;simp only at a8 af ag ai ak a9;generalize b9:dp.length=dn at a8;generalize b8:b2.length=bY at a9;change∀d ae,N _ _ #[.agg #[.slice bS dp.length bT,.string bJ,.string dt,.string bK,.int .i64 du,.slice b3 b2.length b4],.agg #[.slice p R.length q,.string c,.string n,.string j,.int .i64 o,.slice h E.length i]] _ _ at ab;rw[b9,b8,aW.o,aV.o] at ab;clear b9 b8;have bL:decide (0<=bI)=aA:=o9 (by omega);have a4:(0:I)<(k:I):=(by omega);have ax:0<k:=(by omega);have aB:decide ((0:I)<(k:I))=aj:=nK a4;have bh:IntKind.i64.wrap ((k:I) -1)=((k-1:Nat):I):=(by rw[IntWalk.i64_in _ (by omega)];omega);have bi:((k-1:Nat):I)<(m:I):=(by omega);have bj:(0:I)<=((k-1:Nat):I):=(by omega);clear ac aJ;generalize k-1=c4 at a8 af ag ai ak a9 bh bi bj;clear be;refine Λ (by kernel_rfl) (by kernel_rfl) ?_
    repeat(first|go_big_quiet_step (fail)|quiet_step (exact Z _ _)|quiet_step (exact ab _ _)|quiet_step (exact a2 _ _)|quiet_step (fail))
    refine ο ?_;intro _ aP;obtain⟨⟨a3,a7⟩,aQ⟩:=aP;subst aQ;clear a8 af ag ai ak a9 ab bh bi bj bL;have b:=π r a3 a7;have a0:=G (a.o▸pK (a.o.symm▸Q.o) b:M B W _);have a1:=G (aa.o.below b);replace x0:=pI x0 b;replace x1:=pI x1 b;replace x2:=pI x2 b;replace x3:=pI x3 b;replace x4:=pI x4 b;replace x5:=pI x5 b;clear bo bp bq br bs bt Z a2 bk b a4 ax aB;generalize V (X r a3) a7=aR at a0 a1 x0 x1 x2 x3 x4 x5|-
    go_wp2_with fail
    have P:=Lm ⟨R,c,n,j,o,E⟩ (H p z q) (H h A i) aR ⟨_,_,_,rfl⟩ ⟨_,_,_,rfl⟩;change N _ _ #[.agg #[H p z q,K c,K n,K j,J L o,H h A i]] _ _ at P;refine P.mono ?_;rintro e bU⟨rfl,S⟩;have am:=G (a.o▸pK (a.o.symm▸a0.o) S:M B W _);obtain⟨bV,bP,a6,a5⟩:=(a1.o.below S).put c Y.o.id (by unfold aG;omega);have ar:=G (a6.congr (g:=λs=>(l.take (k+1)).any λT=>T.id.data.toList==s) (λs=>by rw[ao.o s];simp only[jq]));have an:=G (a.o▸ah (a.o.symm▸am.o) (lG a.o) a5:M B W _);clear a6 a5 S P x0 x1 x2 x3 x4 x5
    go_wp2_with fail
    go_roundw
    case rel=>exact⟨k+1,by omega,by go_num,ar,an⟩
    case measure=>simp[intOf];omega
  ·have bZ:decide ((k:I)<(m:I))=aA:=o9 (by omega)
   go_wp2_with fail
   go_ret;exact⟨rfl,a.o.symm▸F.o⟩
def Br(W:ς)(v:ay)(a:List az)(d:rY W v a)(g:Ξ 2 3 W)(f:IA a)(i:Mo.Dt a=aj):
 N U 52 #[.agg #[v]] W λe w'=>e=η (J L 0)/\M W.heap.size W w':=by
 have C:=G (λw (k:M W.heap.size W w)=>ordF_ok a v w (d.under k) (Tx.qC g k) f.len f.each i);obtain⟨-,-,c,cap,rfl,-,-⟩:=qF d;obtain⟨m,j⟩:=pL a.length;rw[j] at C|-;have b:=G (pM W (ζ #[H c m cap] 24));have x0:(W.alloc (ζ #[H c m cap] 24)).cell? ⟨W.heap.size,0,none⟩=some (H c m cap):=by unfold World.cell?;simp only[pG];rfl
 clear d f i g j
 go_enter Tryz.func52,Tryz.ntmps52
 go_wp2_with fail
 refine(C.o _ b.o).mono ?_;rintro e n⟨rfl,h⟩;have l:=pR b h;clear h b x0 C
 go_wp2_with fail
 refine(C9 _).mono ?_;rintro e o⟨rfl,rfl⟩
 go_wp2_with fail
 go_ret;exact⟨rfl,l.o⟩
end Mw
end Go.Proofs.YthbhmjdcfocphaaGreatDoor
