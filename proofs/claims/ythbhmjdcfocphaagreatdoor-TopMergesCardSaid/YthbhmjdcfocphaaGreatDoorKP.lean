/- A part of this proof. -/
import Derived.Test.YthbhmjdcfocphaaGreatDoorKH
import Derived.Test.YthbhmjdcfocphaaGreatDoorKPa
import Derived.Test.YthbhmjdcfocphaaGreatDoorKD
set_option linter.all false
set_option maxHeartbeats 16000000
set_option maxRecDepth 100000
namespace Go.Proofs.YthbhmjdcfocphaaGreatDoor
open Go.Value renaming string→V, slice→U, pointer→ε, int→H
open Go.Obj renaming cells→ζ
open Go.Ending renaming returned→η
open Go.IntKind renaming i64→I
open Go.Lib renaming hid→G, trimPrefix→aN, validD→bH
open Option renaming none→J, some→Y
open Bool renaming false→X, true→bB
open _root_ renaming ByteArray→π, List→D, Int→O, Nat→Z, UInt8→aA, Array→bG, absurd→bI, Option→bJ
open Go renaming World→E, Value→Γ, below_regrown→av, Calls→ay, TypeId→aE, wp_region_quiet_below→aI, cell_regrown→aM, redrawn→aS, wpQuiet_nil→aY, bytes→bD
open Go.IntWalk renaming i64_in→Δ
open Go.Proofs.Tryz renaming prog→Θ, ntmps207→aP, underlying107→aQ, func207→aT, ntmps132→bh, func132→bz, ntmps133→bK, func133→bL
open Rw renaming lt_of_heap→Λ, below_drewN→a_
open Me renaming pJ→Ξ, Agree→aR
open And renaming intro→ο
open Jv renaming enc→aj, pZ→az, yR→aO, yf→bO
open Js renaming quote→aC
open Pa renaming drop_at→aG, drop_one→bM
open _root_.Array renaming replicate→aH
open Go.RowKit renaming Below→aJ
open Go.Value renaming oneCell'→aK
open Go.Sort renaming grow→aL
open Go.Calls renaming regrown_of→aU
open pY renaming D8→aV
open List renaming length→aW
open Go.Obj renaming cells→aX
namespace Pj
open RowKit Rw Mw Me Pa
def Ps(P:Z)(s:π)(a d:Z)(w:E):Prop:=w.heap[P]?=Y (aX #[V s,H I a,H I d] 206 (0,0))
structure Sd(P:Z)(u w:E):Prop where
 os:w.os=u.os
 tape:w.tape=u.tape
 output:w.output=u.output
 size:u.heap.size<=w.heap.size
 block:∀k,k<u.heap.size->k≠P->w.heap[k]?=u.heap[k]?
section
variable {P a d:Z}{s:π}{u v w:E}
def Ps.lt(b:Ps P s a d w):P<w.heap.size:=Λ b
def Ps.below(b:Ps P s a d u)(c:aJ u.heap.size u w):Ps P s a d w:=(c.block P b.lt).trans b
def Ps.c0(b:Ps P s a d w):w.cell? ⟨P,0,J⟩=Y (V s):=Ξ b rfl
def Ps.c1(b:Ps P s a d w):w.cell? ⟨P,1,J⟩=Y (H I a):=Ξ b rfl
def Ps.c2(b:Ps P s a d w):w.cell? ⟨P,2,J⟩=Y (H I d):=Ξ b rfl
def Ps.f1(b:Ps P s a d w):w.frozen? ⟨P,1,J⟩=X:=ny w P 1 _ _ b
def Ps.f2(b:Ps P s a d w):w.frozen? ⟨P,2,J⟩=X:=ny w P 2 _ _ b
def Sd.refl(P:Z)(u:E):Sd P u u:=⟨rfl,rfl,rfl,oZ _,λ_ _ _=>rfl⟩
def Sd.trans(b:Sd P u v)(k:Sd P v w):Sd P u w:=⟨k.os.trans b.os,k.tape.trans b.tape,k.output.trans b.output,pF b.size k.size,λi c e=>(k.block i (oQ c b.size) e).trans (b.block i c e)⟩
def Sd.qd(b:aJ u.heap.size u w):Sd P u w:=⟨b.os,b.tape,b.output,b.size,λi c _=>b.block i c⟩
def Sd.below(b:Sd P u v)(c:aJ v.heap.size v w):Sd P u w:=b.trans (.qd c)
def Sd.set(b:Sd P u v)(j:Z)(x:Γ):Sd P u (v.setCell ⟨P,j,J⟩ x):=b.trans ⟨rfl,rfl,rfl,by simp,λi e c=>pz _ _ _ _ c⟩
def Sd.under(b:Sd P u v){n:Z}(e:n<=P)(f:n<=u.heap.size):aJ n u v:=⟨b.os,b.tape,b.output,b.size,λk c=>b.block k (by omega) (by omega)⟩
def Sd.cell(c:Sd P u v){k j:Z}{x:Γ}(b:u.cell? ⟨k,j,J⟩=Y x)(e:k≠P):v.cell? ⟨k,j,J⟩=Y x:=by have f:=Rw.lt_of_cell b;unfold World.cell? at b|-;rw[c.block k f e];exact b
def Ps.I1(b:Ps P s a d w)(x:Z):Ps P s x d (w.setCell ⟨P,1,J⟩ (H I x)):=by unfold Ps at b|-;rw[oO _ _ _ _ _ _ b];rfl
def Ps.UC(b:Ps P s a d w)(x:Z):Ps P s a x (w.setCell ⟨P,2,J⟩ (H I x)):=by unfold Ps at b|-;rw[oO _ _ _ _ _ _ b];rfl
end
def Ym(c:Z)(b:Bool)(f:aV (c:O)=b)(u:E):
 ay Θ 212 #[.int .u8 c] u λe w'=>e=η (.bool b)/\aJ u.heap.size u w':=by
 refine(Tx.BA (c:O) u).mono ?_;rintro e w'⟨rfl,rfl⟩;exact⟨by rw[f],pH _ _⟩
def JW(P a d:Z)(s:π)(w:E)(c:Ps P s a d w)(y:s.size<=1000000000)(x:a<=s.size)(j:∀c:a<s.size,aV (s[a].toNat:O)=X):
 ay Θ 133 #[ε (Y ⟨P,0,J⟩)] w λe w'=>e=η (.tuple #[])/\aJ w.heap.size w w':=by
 have x0:=c.c0;have x1:=c.c1;have A:=aM x0;have B:=aM x1;have m:=G j;clear c j
 by_cases o:a<s.size
 ·have n:∀(b:Z)(l:bG Obj),ay Θ 212 #[.int .u8 s[a].toNat] (aL (aS w b) l) λe r=>e=η (.bool X)/\∃p:Regrown,r=aL (aS w p.d) p.os:=λb l=>aU (Ym s[a].toNat X (m.o o) _)
  have q:(a:O)<(s.size:O):=(by omega);have z:(0:O)<=(a:O):=by omega
  go_enter bL,bK
  go_wp2_with fail
  go_loopw [] (λwr=>wr=w) (λ_=>0)
  case atStart=>exact rfl
  case round=>
   obtain rfl:=hrel
   go_wp2_with fail
   refine aI (by kernel_rfl) (by kernel_rfl) ?_
   repeat(first|go_big_quiet_step (fail)|quiet_step (exact n _ _)|quiet_step (fail))
   refine aY ?_;intro _ g;obtain⟨⟨b,i⟩,h⟩:=g;subst h;have f:=G (av wr b i)
   go_wp2_with fail
   go_end0
   exact⟨rfl,f.o⟩
 ·have q:decide ((a:O)<(s.size:O))=X:=o9 (by omega)
  go_enter bL,bK
  go_wp2_with fail
  go_loopw [] (λwr=>wr=w) (λ_=>0)
  case atStart=>exact rfl
  case round=>
   obtain rfl:=hrel
   go_wp2_with fail
   refine aI (by kernel_rfl) (by kernel_rfl) ?_
   repeat(first|go_big_quiet_step (fail)|quiet_step (fail))
   refine aY ?_;intro _ g;obtain⟨⟨b,i⟩,h⟩:=g;subst h;have f:=G (av wr b i)
   go_wp2_with fail
   go_end0
   exact⟨rfl,f.o⟩
def tL(P a d:Z)(s:π)(c:aA)(w:E)(f:Ps P s a d w)(p:s.size<=1000000000)(q:a<s.size)(l:s[a]=c)(m:aV (c.toNat:O)=X):
 ay Θ 203 #[ε (Y ⟨P,0,J⟩)] w λe w'=>e=η (.int .u8 c.toNat)/\aJ w.heap.size w w':=by
 have h:=G (JW P a d s w f p (by omega) (λ_=>by rw[l];exact m));have j:=G f;have x:((a:O)==(s.size:O))=X:=by rw[oq];omega
 have y:(a:O)<(s.size:O):=by omega
 have r:(0:O)<=(a:O):=by omega
 clear f m
 go_enter Tryz.func203,Tryz.ntmps203
 go_wp2_with fail
 refine h.o.mono ?_;rintro e g⟨rfl,b⟩;have n:=G b;have x0:=(j.o.below b).c0;have x1:=(j.o.below b).c1;clear b h
 go_wp2_with fail
 go_quiet(fail)
 replace x0:(g.drewN nq).cell? ⟨P,0,J⟩=Y (V s):=x0;replace x1:(g.drewN nq).cell? ⟨P,1,J⟩=Y (H I a):=x1;have i:=G (a_ n.o nq);generalize g.drewN nq=z at x0 x1 i|-
 go_wp2_with fail
 go_quiet(fail)
 have o:=G (a_ i.o nq)
 go_wp2_with fail
 go_ret;exact⟨by subst l;rfl,o.o⟩
def Ek(P a d:Z)(s:π)(c:aA)(w:E)(f:Ps P s a d w)(z:s.size<=1000000000)(x:a<s.size)(n:s[a]=c)(o:aV (c.toNat:O)=X):
 ay Θ 263 #[ε (Y ⟨P,0,J⟩),.int .u8 c.toNat] w λe w'=>e=η (.tuple #[])/\Ps P s (a+1) d w'/\Sd P w w':=by
 have x0:=f.c0;have x1:=f.c1;have C:=aM x0;have F:=aM x1;have h:=λ(b:Z) (p:bG Obj)=>aU (tL P a d s c (aL (aS w b) p) (f.below (av w b p)) z x n o)
 have N:((a:O)==(s.size:O))=X:=by rw[oq];omega
 obtain⟨l,m⟩:=pL (a+1);have Q:IntKind.i64.wrap ((a:O)+1)=(l:O):=by rw[Δ _ (by omega)];omega
 have q:=G m;have r:=G f;obtain⟨M,y⟩:=pL c.toNat;rw[y] at h|-;clear f o n m
 go_enter Tryz.func263,Tryz.ntmps263
 go_wp2_with fail
 refine aI (by kernel_rfl) (by kernel_rfl) ?_
 repeat(first|go_big_quiet_step (fail)|quiet_step (exact h _ _)|quiet_step (fail))
 refine aY ?_;intro _ A;obtain⟨⟨b,i⟩,B⟩:=A;subst B;have g:=G (r.o.below (av w b i));have j:=G (Sd.qd (P:=P) (av w b i));have y1:=g.o.c1;have K:=g.o.f1;clear C F h x0 x1;generalize aL (aS w b) i=R at g j y1 K|-
 go_wp2_with fail
 go_end0
 exact⟨rfl,by rw[q.o];exact g.o.I1 l,j.o.set 1 _⟩
def ext_list(T:π)(i j:Z):(T.extract i j).data.toList=(T.data.toList.drop i).take (j-i):=by simp
def ext_size(T:π)(k:Z):(T.extract k T.size).size=T.size-k:=by simp
def ext_ext(T:π)(k:Z):(T.extract k T.size).extract 1 (T.extract k T.size).size=T.extract (k+1) T.size:=by
 apply Bs.vo;rw[ext_size];simp only[ext_list,List.drop_take,lE,jC]
 congr 1
 omega
def Yn(T:π):T.extract 0 T.size=T:=by apply Bs.vo;simp
def ext_at(T:π)(k:Z)(c:k<T.size)(b:0<(T.extract k T.size).size):(T.extract k T.size)[0]=T[k]:=by simp[ByteArray.getElem_extract]
def strSize:Γ->Z
 |V s=>s.size
 |_=>0
def UD(cs:D aA)(T:π)(n b:Z)(w:E)(Q:n<=T.size)(R:T.size<=1000000000)(p:∀x:aA,w.cell? ⟨b,x.toNat,J⟩=Y (.bool (cs.contains x)))(m:∀k(B:k<T.size),k<n->cs.contains T[k]=bB)(o:∀B:n<T.size,cs.contains T[n]=X):
 ay Θ 95 #[V T,ε (Y ⟨b,0,J⟩)] w λe w'=>e=η (V (T.extract n T.size))/\w'=w:=by
 have y:=G p;have q:=G m;have r:=G o;clear p m o
 go_enter Tryz.func95,Tryz.ntmps95
 go_wp2_with fail
 go_loopw [0] (λx wr=>∃k:Z,k<=n/\x=V (T.extract k T.size)/\wr=w) (λx _=>strSize x)
 case atStart=>exact⟨0,oM _,by rw[Yn],rfl⟩
 case round=>
  obtain⟨k,N,rfl,rfl⟩:=hrel;obtain⟨u,c⟩:=pL (T.extract k T.size);have g:=G c;have i:u.size=T.size-k:=(by rw[<-c,ext_size]);have l:=G (show u.extract 1 u.size=T.extract (k+1) T.size by rw[<-c];exact ext_ext T k);rw[c];clear c
  by_cases h:k<T.size
  ·have K:(0:O)<(u.size:O):=by omega
   have W:(1:O)<=(u.size:O):=(by omega);have F:0<u.size:=(by omega);have j:=G (show u[0]=T[k] by have:=g.o;subst this;exact ext_at T k h F);have f:=G (Tryz.asciiSet_contains b u[0] (cs.contains u[0]) wr (y.o _));have A:=G i;clear i
   by_cases C:k<n
   ·rw[show cs.contains u[0]=bB by rw[j.o];exact q.o k h C] at f
    go_wp2_with fail
    refine f.o.mono ?_;rintro e M⟨rfl,rfl⟩
    go_wp2_with fail
    go_roundw
    case rel=>exact⟨k+1,by omega,by rw[l.o],trivial⟩
    case measure=>have:=A.o;rw[l.o];simp only[strSize,ext_size];omega
   ·obtain rfl:k=n:=by omega
    rw[show cs.contains u[0]=X by rw[j.o];exact r.o h] at f
    go_wp2_with fail
    refine f.o.mono ?_;rintro e M⟨rfl,rfl⟩
    go_wp2_with fail
    go_ret;exact⟨show Ending.returned (V u)=_ by rw[g.o],rfl⟩
  ·have K:u.size=0:=by omega
   have z:=G (show k=n by omega);clear i
   go_wp2_with fail
   go_ret;exact⟨show Ending.returned (V u)=_ by rw[<-z.o,g.o],rfl⟩
def JX:π:=⟨#[48,49,50,51,52,53,54,55,56,57,43,45,46,101,69]⟩
def UE:∀(j:Z) b,JX.data.toList[j]?=Y b->b.toNat<128:=by
 have c:∀b∈JX.data.toList,b.toNat<128:=by decide+kernel
 exactλj b e=>c b (lX e)
def hvset:∀w,(zeroValue 162).run Θ w= .ok (.agg (aH 256 (.bool X))) w:=λw=>by kernel_rfl
def Lu(T:π)(n:Z)(w:E)(F:n<=T.size)(M:0<T.size)(K:T.size<=1000000000)(p:∀k(C:k<T.size),k<n->Bh.contains T[k]=bB)(q:∀C:n<T.size,Bh.contains T[n]=X):
 ay Θ 260 #[V T,V JX] w λe w'=>e=η (V (T.extract n T.size))/\aJ w.heap.size w w':=by
 have j:=G (Tryz.strings_makeASCIISet hvset JX w (by decide) UE);have B:=G (λb u g=>UD Bh T n b u F K g p q);unfold JX at*
 have N:T.toList.isEmpty=X:=by
  rw[ByteArray.toList_eq]
  cases e:T.data.toList with
  |nil=>
   have y:T.data.toList.length=T.size:=(by simp);rw[e] at y;simp at y
   omega
  |cons x r=>rfl
 clear p q
 go_enter Tryz.func260,Tryz.ntmps260
 obtain⟨A,i⟩:=pL (Lib.setCells [48,49,50,51,52,53,54,55,56,57,43,45,46,101,69]);have f:=G (show A.size=256/\(∀x:aA,A[x.toNat]?=Y (.bool (Bh.contains x)))/\A.all (·.oneCell')=bB from by rw[<-i];exact⟨by decide+kernel,λx=>Lib.setCells_at _ x,by decide+kernel⟩);have Q:=hvset
 go_wp2_with fail
 refine j.o.mono ?_;rintro e c⟨rfl,z⟩;have m:=G (show aJ w.heap.size w c from by rw[z];exact pM _ _);simp only[i];clear z j i;have h:=G (pG c (ζ (aH 256 (.bool X)) 162))
 go_wp2_with(refine oN rfl 162 _ _ rfl c.heap.size A rfl rfl 162 (aH 256 (.bool X)) h.o (by rw[f.o.1];kernel_rfl) (by rw[f.o.1,jI]) f.o.2.2 ?_)
 have g:=λx:aA=>(i_ _ c.heap.size x.toNat _ A _ _ h.o).trans (f.o.2.1 x)
 have o:=G (Me.pS (pK m.o (pM c (ζ (aH 256 (.bool X)) 162))) m.o.size A);have l:=G (B.o _ _ g);clear g h f;generalize(c.alloc (ζ (aH 256 (.bool X)) 162)).setRow c.heap.size A=R at o l|-;refine l.o.mono ?_;rintro e W⟨rfl,rfl⟩
 go_wp2_with fail
 go_ret;exact⟨rfl,o.o⟩
def Sr(T:π)(b:0<T.size):T.data.toList.getD 0 0=T[0]:=by rw[om,oW (by simpa using b)];rfl
def GR(P a d:Z)(s t:π)(F:D aA)(w:E)(f:Ps P s a d w)(A:s.size<=1000000000)(o:Jw.B8 w)(y:bH t.data.toList=bB)(r:s.data.toList.drop a=aC t.data.toList++F):
 ay Θ 205 #[ε (Y ⟨P,0,J⟩)] w λe w'=>e=η (V t)/\Ps P s (a+(aC t.data.toList).length) d w'/\Sd P w w':=by
 have x0:=f.c0;have x1:=f.c1;have K:=aM x0;have M:=aM x1;have g:=Yo y r;obtain⟨n,x⟩:=pL ((aC t.data.toList).length);rw[x] at g|-;obtain⟨i,q⟩:=pL (a+n);rw[q] at g|-;have m:∀(b:Z)(h:bG Obj),ay Θ 259 #[V s,H I a] (aL (aS w b) h) λe N=>e=η (.tuple #[V t,H I i,H I 0])/\∃p:Regrown,N=aL (aS w p.d) p.os:=λb h=>aU (Jw.XU s t a (i:O) 0 (aL (aS w b) h) A (o.below (av w b h)) g)
 have z:=G f;clear f g r x o y q
 go_enter Tryz.func205,Tryz.ntmps205
 go_wp2_with fail
 refine aI (by kernel_rfl) (by kernel_rfl) ?_
 repeat(first|go_big_quiet_step (fail)|quiet_step (exact m _ _)|quiet_step (fail))
 refine aY ?_;intro _ B;obtain⟨⟨b,j⟩,C⟩:=B;subst C;have c:=G (z.o.below (av w b j));have l:=G (Sd.qd (P:=P) (av w b j));have y1:=c.o.c1;have Q:=c.o.f1;clear K M m x0 x1;generalize aL (aS w b) j=R at c l y1 Q|-
 go_wp2_with fail
 go_ret;exact⟨rfl,c.o.I1 i,l.o.set 1 _⟩
def JY(P a d:Z)(s:π)(n:O)(l r:D aA)(w:E)(q:Ps P s a d w)(ax:s.size<=1000000000)(a1:s.data.toList.drop a=l++r)(c:Num n l)(ae:Stop r):
 ay Θ 206 #[ε (Y ⟨P,0,J⟩)] w λe w'=>e=η (H I n)/\Ps P s (a+l.length) d w'/\Sd P w w':=by
 have x0:=q.c0;have x1:=q.c1;have ah:=G q;have a2:0<l.length:=List.length_pos_iff.2 c.ne
 have aw:a<s.size:=by have:=nT aW a1;simp at this;omega
 obtain⟨T,a9⟩:=pL (s.extract a s.size);have f:T.data.toList=l++r:=by rw[<-a9,ext_list,oP (by simp)];exact a1
 have ao:T.size=s.size-a:=by rw[<-a9];simp
 have Q:l.length<=T.size:=by have:=nT aW f;simp at this;omega
 obtain⟨N,F⟩:=pL (T.extract 0 l.length);have K:N.data.toList=l:=by rw[<-F];simp[f]
 have M:∀k(g:k<T.size),T.data.toList[k]?=Y T[k]:=λk g=>by
  rw[oW (by simpa using g)];rfl
 have j:=G (λu=>Lu T l.length u Q (by omega) (by omega) (λk g ap=>by
  have h:=M k g;rw[f,jX ap] at h;exact c.set _ (lX h)) (λg=>by
  have h:=M l.length g;rw[f,kT (oZ _),jg] at h;exact ae _ (by rw[<-h];cases r<;>rfl)))
 obtain⟨a6,R⟩:=pL (T.extract l.length T.size);have ab:a6.size=T.size-l.length:=by rw[<-R];simp
 rw[R] at j;have a8:N.size=l.length:=by rw[<-F];simp;omega
 have x:=G (λu=>Tryz.strings_TrimPrefix N ⟨#[45]⟩ u);have a3:=G (λu=>Tryz.strconv_ParseInt_10_at64_ok N (by omega) n (by rw[K];exact c.ok) u);obtain⟨b,A⟩:=pL ((⟨(aN N.data.toList (⟨#[45]⟩:π).data.toList).toArray⟩:π));have B:b.data.toList=aN l [45]:=by rw[<-A,K]
 have C:b.size=(aN l [45]).length:=by rw[<-B];simp
 rw[A] at x;have am:0<b.size:=by rw[C];exact List.length_pos_iff.2 c.digits
 have an:0<T.size:=by omega
 have aa:T[0]=l.getD 0 0:=by rw[<-Sr T an,f,om,om,jX a2]
 have a7:b[0]=(aN l [45]).getD 0 0:=by rw[<-Sr b am,B]
 have ar:((T[0].toNat:O)==43)=X:=by rw[oq];intro e;have p:T[0]=43:=UInt8.toNat_inj.1 (show T[0].toNat=43 by omega);rw[aa] at p;exact c.plus p
 have al:=G (λe:b[0]=48=>show b.size=1 by rw[C];exact c.zero (by rw[<-a7];exact e));obtain⟨m,ad⟩:=pL l.length;rw[ad] at Q ab a8 F a2|-;have aD:(a:O)<=(s.size:O):=by omega
 have aB:(0:O)<=(a:O):=by omega
 have aF:IntKind.i64.wrap ((T.size:O) -(a6.size:O))=(m:O):=by rw[Δ _ (by omega)];omega
 have aZ:(m:O)<=(T.size:O):=by omega
 have b0:(0:O)<=(m:O):=by omega
 obtain⟨z,ac⟩:=pL (a+m);have b1:IntKind.i64.wrap ((a:O)+(m:O))=(z:O):=by rw[Δ _ (by omega)];omega
 rw[ac];have b2:(0:O)<(T.size:O):=by omega
 have b3:(0:O)<(b.size:O):=by omega
 unfold JX at j;clear q a1 c ae f M K A B C aa a7 ad R ab ao Q a8 a2 ac
 go_enter Tryz.func206,Tryz.ntmps206
 go_wp2_with fail
 go_quiet(fail)
 have y:=G (a_ (pH w.heap.size w) nq);have a4:=G (ah.o.below y.o);generalize w.drewN nq=b4 at y a4|-
 go_wp2_with fail
 refine(j.o _).mono ?_;rintro e b5⟨rfl,W⟩;have ai:=G (a4.o.below W);have ak:=G (Sd.qd (P:=P) (pK y.o W));clear W j
 go_wp2_with fail
 refine(x.o _).mono ?_;rintro e ag⟨rfl,rfl⟩
 go_wp2_with fail
 refine(a3.o _).mono ?_;rintro e aq⟨rfl,af⟩
 have a0:aJ ag.heap.size ag aq:=by
  rcases af with rfl|⟨t,rfl⟩
  ·exact pH _ _
  ·exact Jw.EW _ _ _
 have o:=G (ai.o.below a0);have a5:=G (ak.o.below a0);have y1:=o.o.c1;have b6:=o.o.f1;clear af a0 a3 x x0 x1
 by_cases i:b[0]=48
 ·have p:((b[0].toNat:O)==48)=bB:=by rw[i];rfl
  have au:decide ((1:O)<(b.size:O))=X:=o9 (by have:=al.o i;omega);clear i
  go_wp2_with fail
  go_ret;exact⟨rfl,o.o.I1 z,a5.o.set 1 _⟩
 ·have p:((b[0].toNat:O)==48)=X:=by
   rw[oq];intro e;exact i (UInt8.toNat_inj.1 (show b[0].toNat=48 by omega))
  clear i
  go_wp2_with fail
  go_ret;exact⟨rfl,o.o.I1 z,a5.o.set 1 _⟩
def mem1_is(M:Z)(key c:π)(k n p q:O)(b:Bool)(s:π)(f:bJ Addr)(h c1:Z)(g:bJ Addr)(i c2:Z)(w:E)(j:w.cell? ⟨M,0,J⟩=Y (V key))(m:(c.toList==key.toList)=X):
 ay Θ 265 #[.agg #[V c,H I k,.bool b,H I n,V s,U f h c1,U g i c2,H I p,H I q],ε (Y ⟨M,0,J⟩)] w λe w'=>e=η (.bool X)/\aJ w.heap.size w w':=by
 have l:=G (pM w (ζ #[V c,H I k,.bool b,H I n,V s,U f h c1,U g i c2,H I p,H I q] 156));obtain⟨x0,-⟩:=K8 (w:=w) (x0:=V c) (x1:=H I k) (x2:= .bool b) (x3:=H I n) (x4:=V s) (x5:=U f h c1) (x6:=U g i c2) (x7:=H I p) (x8:=H I q) (t:=156);have o:=pI j (pM w (ζ #[V c,H I k,.bool b,H I n,V s,U f h c1,U g i c2,H I p,H I q] 156));clear j
 go_enter Tryz.func265,Tryz.ntmps265
 go_wp2_with fail
 go_ret;exact⟨rfl,l.o⟩
def idxf_is(v:Γ)(l:D (π×Jv.J))(L:D (D Γ))(M:Z)(key:π)(W:E)(r:Rw W v 9 L)(p:tG BQ W l L)(q:W.cell? ⟨M,0,J⟩=Y (V key))(B:∀x∈l,(x.1.toList==key.toList)=X)(a1:l.length<=1000000):
 ay Θ 313 #[v,.func (.func 265) #[] #[ε (Y ⟨M,0,J⟩)]] W λe w'=>e=η (H I (-1))/\aJ W.heap.size W w':=by
 obtain⟨g,af,aa,cap,rfl,f,z⟩:=BF r p;obtain⟨m,h⟩:=pL l.length;rw[h] at f a1|-;have Q:=G h;have C:=G f;have K:=G z;have N:=G B;have R:=G q;clear r p f z B h q
 go_enter Tryz.func313,Tryz.ntmps313
 go_wp2_with fail
 go_loopw [8] (λx wr=>∃i:Z,i<=m/\x=H I i/\Hid (aJ W.heap.size W wr)) (λx _=>m-(intOf x).toNat)
 case atStart=>exact⟨0,oM _,rfl,G (pH _ _)⟩
 case round=>
  obtain⟨i,ac,rfl,b⟩:=hrel
  by_cases a2:i<m
  ·obtain rfl:=C.o (by omega)
   have A:i<l.length:=(by rw[Q.o];exact a2);obtain⟨a6,vb,a7,a9,T,a4,c1,a0,a5,c2,vp,a8,-,c,y1,y2,y3,y4,y5,y6,y7,n⟩:=K.o i A;replace c:=pI c b.o;replace y1:=pI y1 b.o;replace y2:=pI y2 b.o;replace y3:=pI y3 b.o;replace y4:=pI y4 b.o;replace y5:=pI y5 b.o;replace y6:=pI y6 b.o;replace y7:=pI y7 b.o;replace n:=pI n b.o;have j:=N.o _ (pq A);generalize l[i].1=a3 at c j;have o:=G (mem1_is M key a3 a6 a7 vp a8 vb a9 T a4 c1 a0 a5 c2 wr (pI R.o b.o) j);have ae:(i:O)<(m:O):=(by omega);have ad:(0:O)<=(i:O):=(by omega);clear j
   go_wp2_with fail
   refine o.o.mono ?_;rintro e ag⟨rfl,y⟩;have F:=pR b y;clear y o c y1 y2 y3 y4 y5 y6 y7 n
   go_wp2_with fail
   go_roundw
   case rel=>exact⟨i+1,by omega,by go_num,F⟩
   case measure=>simp[intOf];omega
  ·have ab:decide ((i:O)<(m:O))=X:=o9 (by omega)
   go_wp2_with fail
   go_ret;exact⟨rfl,b.o⟩
def Yp(v:Γ)(l:D (π×Jv.J))(L:D (D Γ))(M:Z)(key:π)(W:E)(g:Rw W v 9 L)(c:tG BQ W l L)(f:W.cell? ⟨M,0,J⟩=Y (V key))(i:∀x∈l,(x.1.toList==key.toList)=X)(j:l.length<=1000000):
 ay Θ 264 #[v,.func (.func 265) #[] #[ε (Y ⟨M,0,J⟩)]] W λe w'=>e=η (.bool X)/\aJ W.heap.size W w':=by
 have b:=G (idxf_is v l L M key W g c f i j);clear g c f i j
 go_enter Tryz.func264,Tryz.ntmps264
 go_wp2_with fail
 refine b.o.mono ?_;rintro e n⟨rfl,h⟩;have m:=G h;clear h b
 go_wp2_with fail
 go_ret;exact⟨rfl,m.o⟩
def set_mem{w:E}{M:Z}{x0 x1 x2 x3 x4 x5 x6 x7 x8 y1 y2 y3 y4 y5 y6 y7:Γ}{t:aE}(l:w.heap[M]?=Y (aX #[x0,x1,x2,x3,x4,x5,x6,x7,x8] t (0,0))):
 (w.setCells M 1 [y1,y2,y3,y4,y5,y6,y7]).heap[M]?=Y (aX #[x0,y1,y2,y3,y4,y5,y6,y7,x8] t (0,0))/\(∀k,k≠M->(w.setCells M 1 [y1,y2,y3,y4,y5,y6,y7]).heap[k]?=w.heap[k]?):=by
 simp only[World.setCells]
 constructor
 ·have c:=oO _ _ 1 _ _ y1 l
  have e:=oO _ _ 2 _ _ y2 c;have f:=oO _ _ 3 _ _ y3 e;have g:=oO _ _ 4 _ _ y4 f;have h:=oO _ _ 5 _ _ y5 g;have i:=oO _ _ 6 _ _ y6 h;have j:=oO _ _ 7 _ _ y7 i;exact j
 ·intro k b
  rw[pz _ _ _ _ b,pz _ _ _ _ b,pz _ _ _ _ b,pz _ _ _ _ b,pz _ _ _ _ b,pz _ _ _ _ b,pz _ _ _ _ b]
def Yq{w:E}{M o n:Z}{cs:bG Γ}{t:aE}(b:w.heap[M]?=Y (aX cs t (0,0)))(e:o+n<=cs.size):w.there M o n:=λj c=>by
 constructor
 ·rw[Ξ (j:=o+j) b (x:=cs[o+j]'(by omega)) (by simp)];rfl
 ·unfold World.frozen?
  simp[b]
end Pj
namespace Pj
open RowKit Rw Vf Mw Me Pa
def VC(P:Z)(s:π)(j:Jv.J)(a d:Z)(u:E):Prop:=
 ay Θ 132 #[ε (Y ⟨P,0,J⟩)] u λe w'=>(∃k b n t c g c1 f h c2 p,e=η (.agg #[H I k,.bool b,H I n,V t,U c g c1,U f h c2,H I p])/\yL u.heap.size w' j (qh k b n t (U c g c1) (U f h c2) p))/\Ps P s (a+(aj j).length) d w'/\Sd P u w'
def MVal(S:Z)(w:E)(x:π×Jv.J)(c:D Γ):Prop:=∀w',aR S w w' J->BQ w' x c
def qK{α:Type}{El:E->α->D Γ->Prop}{sz S:Z}{t:aE}{u w:E}{v:Γ}{l:D α}(j:Row El sz t S u v l)(p:u.heap.size<=w.heap.size)(h:∀k,S<=k->k<u.heap.size->w.heap[k]?=u.heap[k]?):Row El sz t S w v l:=by obtain⟨L,m,b,n⟩:=j;refine⟨L,m,qj b λg f=>h g (qq b f).1 (qq b f).2,λx q=>n x λi c e o=>?_⟩;exact(q i c (oQ e p) o).trans (h i c e)
def Kx{α:Type}{El:E->α->D Γ->Prop}{sz S P:Z}{t:aE}{u w:E}{v:Γ}{l:D α}(b:Row El sz t S u v l)(f:P<S)(k:Sd P u w):Row El sz t S w v l:=qK b k.size λi e c=>k.block i c (by omega)
def Sd.Ac{P M j:Z}{u w:E}{x:Γ}(b:Sd P u w)(f:u.heap.size<=M):Sd P u (w.setCell ⟨M,j,J⟩ x):=
 ⟨b.os,b.tape,b.output,by rw[show(w.setCell ⟨M,j,J⟩ x).heap.size=w.heap.size from by simp[World.setCell]];exact b.size,λi c e=>(pz _ _ _ _ (show i≠M by omega)).trans (b.block i c e)⟩
def Sd.setsNew{P M o:Z}{u w:E}{cs:D Γ}(b:Sd P u w)(m:u.heap.size<=M):Sd P u (w.setCells M o cs):=by obtain⟨c,e,f,g,h⟩:=qZ M cs o w;exact⟨c.trans b.os,e.trans b.tape,f.trans b.output,by rw[g];exact b.size,λi j l=>(h i (by omega)).trans (b.block i j l)⟩
def Sd.Em{P M:Z}{u w:E}{cs:bG Γ}(b:Sd P u w)(f:u.heap.size<=M):Sd P u (w.setRow M cs):=
 ⟨b.os,b.tape,b.output,by rw[show(w.setRow M cs).heap.size=w.heap.size from by simp[World.setRow]];exact b.size,λi c e=>(oo w M i cs (by omega)).trans (b.block i c e)⟩
def Ps.setOther{P a d M j:Z}{s:π}{w:E}{x:Γ}(b:Ps P s a d w)(c:P≠M):Ps P s a d (w.setCell ⟨M,j,J⟩ x):=(pz _ _ _ _ c).trans b
def Sd.heap{P:Z}{u w:E}(c:Sd P u w){k:Z}{x:Obj}(b:u.heap[k]?=Y x)(e:k≠P):w.heap[k]?=Y x:=(c.block k (Λ b) e).trans b
def Ec(P S a d:Z)(s key:π)(j:Jv.J)(aw:D aA)(v:Γ)(l:D (π×Jv.J))(N W:E)(ah:Ps P s a d W)(a3:s.size<=1000000000)(bW:P<S)(cb:Jw.B8 N)(cc:aJ N.heap.size N W)(bX:N.heap.size<=P)
 (ct:bH key.data.toList=bB) (an:s.data.toList.drop a=bO (key,j)++aw) (K:My S W v l) (ck:∀x∈l,(x.1.toList==key.toList)=X) (cl:l.length<=1000000)
 (bQ:∀u bj,Ps P s bj d u->Sd P W u->s.data.toList.drop bj=aj j++aw->VC P s j bj d u):
 ay Θ 210 #[ε (Y ⟨P,0,J⟩),v] W λe w'=>(∃k b n t ag cv c1 Q cw c2 p q,e=η (.agg #[V key,H I k,.bool b,H I n,V t,U ag cv c1,U Q cw c2,H I p,H I q])/\MVal W.heap.size w' (key,j) [V key,H I k,.bool b,H I n,V t,U ag cv c1,U Q cw c2,H I p,H I q])/\Ps P s (a+(bO (key,j)).length) d w'/\Sd P W w':=by
 have cj:bO (key,j)=aC key.data.toList++58::aj j:=by simp only[bO]
 rw[cj] at an|-;have ci:s.data.toList.drop a=34::(Js.body key.data.toList++34::(58::aj j++aw)):=by rw[an,aC];simp
 obtain⟨cd,cg⟩:=aG ci;have bk:s.data.toList.drop a=aC key.data.toList++(58::(aj j++aw)):=by rw[an];simp
 obtain⟨T,ar⟩:=pL ((aC key.data.toList).length);have ao:=Bi bk;rw[ar] at ao;obtain⟨cf,ch⟩:=aG ao;have bl:=bM ao;have cm:(aC key.data.toList++58::aj j).length=T+1+(aj j).length:=by rw[o_,oJ,ar];omega
 rw[cm];have bY:=ah.lt;obtain⟨cB,cap,rfl⟩:=Row.slice K;have am:=pM W (ζ #[V ⟨#[]⟩,H I 0,.bool X,H I 0,V ⟨#[]⟩,U J 0 0,U J 0 0,H I 0,H I 0] 156);have ca:=pG W (ζ #[V ⟨#[]⟩,H I 0,.bool X,H I 0,V ⟨#[]⟩,U J 0 0,U J 0 0,H I 0,H I 0] 156);have a8:=G (tL P a d s 34 _ (ah.below am) a3 cd cg (by decide));change Hid (ay _ _ _ _ (λe w'=>e=η (.int .u8 34)/\_)) at a8;have b5:=G (ah.below am);have aF:=G am;have ae:=G ca;have bC:=G K;have b3:=G (ο a3 (ο bY (ο bW bX)));have aZ:=G (ο ck cl);have bP:=G cc;have bn:=G bQ;have a9:=G (λu (bm:Ps P s a d u) (cG:aJ N.heap.size N u)=>GR P a d s key _ u bm a3 (cb.below cG) ct bk);rw[ar] at a9;obtain⟨ag,ai⟩:=pL (a+T);rw[ai] at a9;have a1:=G (λu (bm:Ps P s (a+T) d u)=>Ek P (a+T) d s 58 u bm a3 cf ch (by decide));change Hid (∀u,Ps P s (a+T) d u->ay _ _ #[_,.int .u8 58] _ _) at a1;rw[ai] at a1;rw[ai] at bl;have bp:=G bl;obtain⟨Q,ce⟩:=pL (ag+1);have bo:=G (show a+(T+1+(aj j).length)=Q+(aj j).length by omega);rw[ce] at a1 bp;have cR:∀(bS:Fn)(first cap:bG Γ)(w:E),(Instr.makeFunc bS first cap).run Θ w= .ok (.func bS first cap) w:=λ_ _ _ _=>rfl
 clear an ci bk ao bl cf ch ct ck cl ar cm cj K am ca cb bQ ah cd cg a3 bY bW bX cc ai ce
 go_enter Tryz.func210,Tryz.ntmps210
 go_wp2_with fail
 generalize W.alloc (ζ #[V ⟨#[]⟩,H I 0,.bool X,H I 0,V ⟨#[]⟩,U J 0 0,U J 0 0,H I 0,H I 0] 156)=cT at a8 b5 aF ae|-;obtain⟨R,K⟩:=pL W.heap.size;have be:=G K;rw[K] at ae|-;clear K;refine a8.o.mono ?_;rintro e a6⟨rfl,ak⟩;have b6:=G (b5.o.below ak);have aD:=pR aF ak;have b9:=G (pW ak ae.o);have x1:=b6.o.c1;clear ak a8 b5 aF ae
 go_wp2_with fail
 have al:=pM a6 (ζ #[V ⟨#[]⟩,H I 0,.bool X,H I 0,V ⟨#[]⟩,U J 0 0,U J 0 0,H I 0,H I a] 156);have bU:=pG a6 (ζ #[V ⟨#[]⟩,H I 0,.bool X,H I 0,V ⟨#[]⟩,U J 0 0,U J 0 0,H I 0,H I a] 156);have b7:=G (b6.o.below al);have aa:=pR aD al;have ba:=G (pW al b9.o);have b2:=G (show R<a6.heap.size from Λ b9.o);have ad:=G bU;clear x1 al bU b9 b6;generalize bV:a6.heap.size=M at ad b2|-;generalize a6.alloc (ζ #[V ⟨#[]⟩,H I 0,.bool X,H I 0,V ⟨#[]⟩,U J 0 0,U J 0 0,H I 0,H I a] 156)=cM at b7 aa ba ad|-;have bi:=G (show W.heap.size<=M by rw[<-bV];exact aD.o.size);clear bV aD;refine(a9.o cM b7.o (bP.o.trans (aa.o.mono bP.o.size))).mono ?_;rintro e a7⟨rfl,co,au⟩;have C:=G (show M≠P/\R≠P from⟨by have:=b3.o.2.1;have:=bi.o;omega,by have:=b3.o.2.1;have:=be.o;omega⟩);have ap:=au.heap ad.o C.o.1;have cK:=Ξ (j:=0) ap rfl;have cL:=ny a7 M 0 _ _ ap;have bq:=G ap;have bw:=G (au.heap ba.o C.o.2);have bs:=G co;have bE:=G ((Sd.qd (P:=P) aa.o).trans au);clear ap co au a9 b7 aa ba ad
 go_wp2_with fail
 have cn:=oO a7 M 0 _ _ (V key) bq.o;have ac:Hid ((a7.setCell ⟨M,0,J⟩ (V key)).heap[M]?=Y (aX #[V key,H I 0,.bool X,H I 0,V ⟨#[]⟩,U J 0 0,U J 0 0,H I 0,H I a] 156 (0,0))):=G cn;have b8:=G (bs.o.setOther (j:=0) (x:=V key) C.o.1.symm);have af:=G (bE.o.Ac (j:=0) (x:=V key) bi.o);have bb:=G ((pz a7 ⟨M,0,J⟩ R (V key) (show R≠M by have:=b2.o;omega)).trans bw.o);clear cn cK cL bq bs bE bw;generalize a7.setCell ⟨M,0,J⟩ (V key)=cx at ac b8 af bb|-;have cr:My S cx (U cB l.length cap) l:=Kx bC.o b3.o.2.2.1 af.o;obtain⟨cA,bZ,cH,cF,bT⟩:=Row.rw cr;have F:=G (Yp _ l cA M key cx bZ bT (Ξ (j:=0) ac.o rfl) aZ.o.1 aZ.o.2);clear cr bZ cH cF bT bC aZ;generalize l.length=cS at F|-;refine F.o.mono ?_;rintro e cN⟨rfl,a2⟩;have bt:=G (b8.o.below a2);have br:=G (pW a2 ac.o);have bx:=G (pW a2 bb.o);have bf:=G (af.o.below a2);clear a2 F b8 ac bb af
 go_wp2_with fail
 refine(a1.o cN bt.o).mono ?_;rintro e ax⟨rfl,cp,a4⟩;have b0:=G (a4.heap br.o C.o.1);have bc:=G (a4.heap bx.o C.o.2);have bF:=G (bf.o.trans a4);have F:=G (bn.o ax Q (by have:=bo.o;exact cp) (bf.o.trans a4) bp.o);clear cp a4 a1 bn bt br bx bf;unfold VC at F
 go_wp2_with fail
 refine F.o.mono ?_;rintro e aB⟨⟨r,vb,y,B,f,z,i,h,A,m,vp,rfl,cu⟩,cq,a5⟩;have b1:=G (a5.heap b0.o C.o.1);have bA:=G (a5.heap bc.o C.o.2);have bN:=G (bF.o.trans a5);have cz:=G cu;have bu:=G cq;have ab:=G (show M<ax.heap.size/\R<ax.heap.size/\ax.heap.size<=aB.heap.size from⟨Λ b0.o,Λ bc.o,a5.size⟩);clear cq a5 cu F b0 bc bF;have cy:Hid (aB.there M 1 7):=G (Yq b1.o (by simp))
 go_wp2_with(first|(refine wpList_store_mid rfl 107 _ _ rfl M 1 #[H I r,.bool vb,H I y,V B,U f z i,U h A m,H I vp] rfl rfl cy.o (by kernel_rfl) (by simp[aK]) ?_;obtain⟨c,aq⟩:=set_mem (y1:=H I r) (y2:= .bool vb) (y3:=H I y) (y4:=V B) (y5:=U f z i) (y6:=U h A m) (y7:=H I vp) b1.o;have bg:=G (bN.o.setsNew (o:=1) (cs:=[H I r,.bool vb,H I y,V B,U f z i,U h A m,H I vp]) bi.o);have bd:=G ((aq R (show R≠M by have:=b2.o;omega)).trans bA.o);have bv:=G (show Ps P s (Q+(aj j).length) d _ from(aq P C.o.1.symm).trans bu.o);have b4:=G aq;have cO:=Ξ (j:=0) c rfl;have y1:=Ξ (j:=1) c rfl;have y2:=Ξ (j:=2) c rfl;have y3:=Ξ (j:=3) c rfl;have y4:=Ξ (j:=4) c rfl;have y5:=Ξ (j:=5) c rfl;have y6:=Ξ (j:=6) c rfl;have y7:=Ξ (j:=7) c rfl;have cP:=Ξ (j:=8) c rfl;clear c aq b1 bA bN bu;change wpList _ _ _ _ _ (aB.setCells M 1 [H I r,.bool vb,H I y,V B,U f z i,U h A m,H I vp]);generalize aB.setCells M 1 [H I r,.bool vb,H I y,V B,U f z i,U h A m,H I vp]=a0 at bg bd bv b4 cO y1 y2 y3 y4 y5 y6 y7 cP|-)|(refine oN rfl 156 _ _ rfl R #[V key,H I r,.bool vb,H I y,V B,U f z i,U h A m,H I vp,H I a] rfl rfl 156 _ bd.o (by kernel_rfl) rfl (by simp[aK]) ?_))
 go_wp2_with fail
 have cJ:=og a0 R _ #[V key,H I r,.bool vb,H I y,V B,U f z i,U h A m,H I vp,H I a] _ _ bd.o;refine ow (nL rfl _ _ R _ _ _ _ rfl cJ Tryz.underlying156 rfl (by kernel_rfl)) rfl ?_;refine⟨⟨r,vb,y,B,f,z,i,h,A,m,vp,a,rfl,λw' cI=>?_⟩,?_,bg.o.Em (by rw[be.o];exact oZ _)⟩
 ·unfold BQ
  refine⟨qh r vb y B (U f z i) (U h A m) vp,a,rfl,cz.o w' λk cQ cD _=>?_⟩
  have cC:=cI k (by have:=bg.o.size;have:=ab.o;have:=be.o;omega) (by
   have cE:(a0.setRow R #[V key,H I r,.bool vb,H I y,V B,U f z i,U h A m,H I vp,H I a]).heap.size=a0.heap.size:=(by simp[World.setRow]);rw[cE];rcases mC k a0.heap.size with g|g
   ·exact g
   ·have bR:=b4.o k (by have:=ab.o;omega)
    rw[lT g,ig cD] at bR;cases bR) (by simp)
  rw[cC,oo a0 R k _ (by have:=ab.o;omega),b4.o k (by have:=ab.o;omega)]
 ·rw[bo.o]
  exact(oo a0 R P _ C.o.2.symm).trans bv.o
section
variable {α:Type}{El:E->α->D Γ->Prop}{sz S P k:Z}{t:aE}{L:D (D Γ)}{l0:D α}{el:α}{cs zs:D Γ}
structure F6(El:E->α->D Γ->Prop)(sz:Z)(t:aE)(S k:Z)(L:D (D Γ))(l0:D α)(el:α)(cs zs:D Γ)(w:E)(g c:Z):Prop where
 own:w.ownsRow S t sz (U (Y ⟨g,0,J⟩) (k+1) c) (k+1) (L.flatten++zs)
 all:∀w',aR S w w' (Y g)->tG El w' l0 L
 new:∀w',aR S w w' (Y g)->El w' el cs
def Yr{w:E}{v:Γ}{h:D Γ}(b:w.ownsRow S t sz v (k+1) h):∃g c,v=U (Y ⟨g,0,J⟩) (k+1) c/\S<=g/\g<w.heap.size:=by
 rcases b.2 with⟨-,j⟩|⟨g,cap,i,rfl,e,f,-⟩
 ·omega
 ·exact⟨g,cap,rfl,e,Λ f⟩
def FI{u h j r:E}{v p:Γ}(a1:P<S)(T:u.ownsRow S t sz v k L.flatten)(N:∀w',aR S u w' v.ownBlock->tG El w' l0 L)(o:Sd P u h)(Q:S<=u.heap.size)(b:aJ h.heap.size h j)
 (R:∀w',aR u.heap.size h w' J->El w' el cs) (K:r.ownsRow S t sz p (k+1) (L.flatten++zs)) (f:j.grownBy r v.ownBlock) (W:p.ownBlock=v.ownBlock\/p.ownBlock=Y j.heap.size):
 ∃g c,p=U (Y ⟨g,0,J⟩) (k+1) c/\F6 El sz t S k L l0 el cs zs r g c/\aJ S h r:=by
 obtain⟨g,c,rfl,a2,a3⟩:=Yr K
 have B:v.ownBlock=Y g\/g=j.heap.size:=by
  rcases W with e|e
  ·exact .inl (e▸rfl)
  ·injection e with e;exact .inr e
 have F:∀q,v.ownBlock=Y q->S<=q/\q<u.heap.size:=λq e=>qq T e
 refine⟨g,c,rfl,⟨K,λw' z=>N w' λi A m x=>?_,λw' z=>R w' λi A m x=>?_⟩,?_⟩
 ·have y:Y i≠Y g:=by
   rcases B with e|e
   ·rw[<-e];exact x
   ·intro l;injection l with l;have:=b.size;have:=o.size;omega
  have M:i<h.heap.size:=oQ m o.size;have n:i<j.heap.size:=oQ M b.size;rw[z i A (oQ n f.size) y,f.block i n x,b.block i M,o.block i m (by omega)]
 ·have C:Y i≠v.ownBlock:=λe=>by have:=(F i e.symm).2;omega
  have y:Y i≠Y g:=by
   rcases B with e|e
   ·rw[<-e];exact C
   ·intro l;injection l with l;have:=b.size;omega
  have n:i<j.heap.size:=oQ m b.size;rw[z i (by omega) (oQ n f.size) y,f.block i n C,b.block i m]
 ·have a0:S<=h.heap.size:=pF Q o.size
  exact⟨f.os.trans b.os,f.tape.trans b.tape,f.output.trans b.output,pF b.size f.size,λi a4=>(f.block i (by have:=b.size;omega) (λe=>by have:=(F i e.symm).1;omega)).trans (b.block i (by omega))⟩
def F6.set{w:E}{g c:Z}(b:F6 El sz t S k L l0 el cs zs w g c)(j:Flat sz L)(A:l0.length=k)(z:L.length=k)(C:zs.length=sz)(m:cs.length=sz)(q:∀x∈cs,x.oneCell'=bB):
 Row El sz t S (w.setCells g (k*sz) cs) (U (Y ⟨g,0,J⟩) (k+1) c) (l0++[el]):=by
 have n:L.flatten.length=k*sz:=by rw[vl j.1,z]
 have f:=DD cs (k*sz) w _ b.own;rw[<-n,yz cs L.flatten zs (by rw[C,m]),n] at f;refine⟨L++[cs],j.append (Flat.one m q),?_,λw' B=>?_⟩
 ·rw[ni,o_,A]
  simpa using f
 ·obtain⟨F,K,M,o,p⟩:=qZ g cs (k*sz) w
  have l:aR S w w' (Y g):=λi r y h=>(B i r (by rw[o];exact y) h).trans (p i (λe=>h (by rw[e])))
  exact(b.all w' l).append (tG.one (b.new w' l))
end
end Pj
namespace Pj
open RowKit Rw Mw Me Pa
def atOf(P:Z)(w:E):Z:=match w.cell? ⟨P,1,J⟩ with
 |some (.int _ n)=>n.toNat
 |_=>0
def Ps.at'{P a d:Z}{s:π}{w:E}(b:Ps P s a d w):atOf P w=a:=by unfold atOf;rw[b.c1];simp
def Ad{L:D (D aA)}{k:Z}(b:k<L.length):az (L.drop k)=L[k]++(if L.drop (k+1)=[] then [] else 44::az (L.drop (k+1))):=by rw[mO b,Qo]
def yD{S l:D aA}{k:Z}(b:S.drop k=l)(e:l≠[]):k<S.length:=by
 cases l with
 |nil=>exact bI rfl e
 |cons c r=>exact Ss b
def elems_v(L:D (D aA))(x1 x2:Γ)(l:aA)(ak:aV (l.toNat:O)=X)(aB:l≠44)(P a d:Z)(s:π)(a3:D aA)(W:E)(Inv:Z->E->Prop)
 (x:Ps P s a d W) (am:s.size<=1000000000) (bv:d+1<=100) (Q:s.data.toList.drop (a+1)=az L++l::a3)
 (ah:∀t∈L,∃c r,t=c::r/\aV (c.toNat:O)=X/\c≠l) (ax:Inv 0 W) (af:∀k u w,Inv k u->Sd P u w->Inv k w)
 (ai:∀k(N:k<L.length) u i b4,Ps P s i (d+1) u->Inv k u->s.data.toList.drop i=L[k]++b4->(b4.head?=Y 44\/b4.head?=Y l)->
   ay Θ 208 #[x1,x2] u λe w'=>e=η (.tuple #[])/\Inv (k+1) w'/\Ps P s (i+L[k].length) (d+1) w'):
 ay Θ 207 #[ε (Y ⟨P,0,J⟩),.int .u8 l.toNat,.func (.func 208) #[] #[x1,x2]] W λe w'=>e=η (.tuple #[])/\Inv L.length w'/\Ps P s (a+1+(az L).length+1) d w':=by
 obtain⟨f,aZ⟩:=pL (d+1);obtain⟨h,aF⟩:=pL (a+1);rw[aF] at Q|-;rw[aZ] at bv ai
 have be:h<s.size:=by have:=nT aW Q;simp at this;omega
 have bP:IntKind.i64.wrap ((d:O)+1)=(f:O):=by rw[Δ _ (by omega)];omega
 have bQ:decide ((100:O)<(f:O))=X:=o9 (by omega);have bR:IntKind.i64.wrap ((a:O)+1)=(h:O):=by rw[Δ _ (by omega)];omega
 have bS:IntKind.i64.wrap ((f:O) -1)=(d:O):=by rw[Δ _ (by omega)];omega
 have x0:=x.c0;have bV:=x.c1;have bW:=x.c2;have bX:=x.f1;have bY:=x.f2;have q:=G ((x.UC f).I1 h);have R:=G (af 0 _ _ ax (((Sd.refl P W).set 2 (H I f)).set 1 (H I h)));have bt:=G Q;have bo:=G ah;have A:=G af;have b8:=G ai;have ba:=G (ο ak aB);obtain⟨ao,a7⟩:=pL ((az L).length);have bq:=G a7;rw[a7];obtain⟨aw,a6⟩:=pL l.toNat;have b9:=G a6;rw[a6]
 by_cases aD:L=[]
 ·subst aD
  have m:s.data.toList.drop h=l::a3:=(by simpa [az] using Q);obtain⟨n,o⟩:=aG m;obtain rfl:ao=0:=by simpa [az] using a7.symm
  obtain⟨b,p⟩:=pL (h+1);have bx:IntKind.i64.wrap ((h:O)+1)=(b:O):=(by rw[Δ _ (by omega)];omega);have j:=G (tL P h f s l _ q.o am n o ak);rw[a6] at j;have bm:=G p;clear x aZ aF Q be ah ax af ai ak aB a7 m n o p a6
  go_enter aT,aP
  go_wp2_with fail
  generalize(W.setCell ⟨P,2,J⟩ (H I f)).setCell ⟨P,1,J⟩ (H I h)=bF at j q R|-;refine j.o.mono ?_;rintro e bl⟨rfl,K⟩;have B:=G (q.o.below K);have ap:=G (A.o 0 _ _ R.o (Sd.qd K));have y1:=B.o.c1;have y2:=B.o.c2;have bC:=B.o.f1;have bE:=B.o.f2;clear K j q R
  go_wp2_with fail
  refine ow (gP rfl _ _ _) rfl ?_;exact⟨rfl,A.o 0 _ _ ap.o (((Sd.refl P bl).set 1 (H I b)).set 2 (H I d)),by have:=(B.o.I1 b).UC d;rw[<-bm.o] at this|-;exact this⟩
 ·have ag:0<L.length:=List.length_pos_iff.2 aD
  obtain⟨ae,bA,an,bk,bi⟩:=ah L[0] (pq ag)
  have m:s.data.toList.drop h=ae::(bA++((if L.drop 1=[] then [] else 44::az (L.drop 1))++l::a3)):=by have e:=Ad ag;rw[nO] at e;rw[Q,e,an];simp
  obtain⟨n,o⟩:=aG m;have j:=G (tL P h f s ae _ q.o am n o bk)
  have bw:((ae.toNat:O)==(aw:O))=X:=by rw[oq];intro e;exact bi (UInt8.toNat_inj.1 (by omega))
  obtain⟨bN,bf⟩:=pL ae.toNat;rw[bf] at j bw;have ac:=G am;clear x aZ aF Q be ah ax af ai ak aB a7 m n o bk bi an bf a6 aD am;have br:=G ag;clear ag
  go_enter aT,aP
  go_wp2_with fail
  generalize(W.setCell ⟨P,2,J⟩ (H I f)).setCell ⟨P,1,J⟩ (H I h)=bF at j q R|-;refine j.o.mono ?_;rintro e bl⟨rfl,K⟩;have B:=G (q.o.below K);have ap:=G (A.o 0 _ _ R.o (Sd.qd K));clear K j q R
  go_wp2_with fail
  go_loopw [] (λwr=>Hid (∃k i,k<L.length/\Ps P s i f wr/\Inv k wr/\s.data.toList.drop i=az (L.drop k)++l::a3/\i+(az (L.drop k)).length=h+ao)) (λwr=>s.size-atOf P wr)
  case atStart=>exact G ⟨0,h,br.o,B.o,ap.o,by rw[nO];exact bt.o,by rw[nO,bq.o]⟩
  case round=>
   have b2:=hrel;clear hrel;obtain⟨k,i,N,a9,al,y,a2⟩:=b2.o;have bs:=G a9;have b0:=yD y (by simp);have b1:i<s.size:=(by simpa using b0)
   have bg:0<L[k].length:=by obtain⟨c,r,an,-,-⟩:=bo.o L[k] (pq N);rw[an];simp
   have a0:=Ad N
   by_cases a1:L.drop (k+1)=[]
   ·rw[oD a1,nC] at a0
    have a8:k+1=L.length:=by have:=List.drop_eq_nil_iff.1 a1;omega
    rw[a0] at y a2;have z:=G (b8.o k N _ i (l::a3) a9 al y (.inr rfl));have m:=Bi y;obtain⟨b,p⟩:=pL (i+L[k].length);rw[p] at z m a2;obtain⟨n,o⟩:=aG m;obtain⟨ad,bu⟩:=pL (b+1);have bx:IntKind.i64.wrap ((b:O)+1)=(ad:O):=(by rw[Δ _ (by have:=ac.o;omega)];omega);have C:=G (λu (aa:Ps P s b f u)=>tL P b f s l u aa ac.o n o ba.o.1);rw[b9.o] at C;have T:=G (ο a8 (show ad=h+ao+1 by omega));clear b2 N a9 al y a2 b0 b1 bg a0 a1 a8 m n o p bu
    go_wp2_with fail
    refine z.o.mono ?_;rintro e b5⟨rfl,a5,F⟩;have aq:=G a5;have ab:=G F;have j:=G (C.o b5 F);clear a5 F z C
    go_wp2_with fail
    refine j.o.mono ?_;rintro e b6⟨rfl,M⟩;have a4:=G (ab.o.below M);have ar:=G (A.o _ _ _ aq.o (Sd.qd M));have y1:=a4.o.c1;have y2:=a4.o.c2;have bC:=a4.o.f1;have bE:=a4.o.f2;clear M j
    go_wp2_with fail
    go_end0
    exact⟨rfl,by have:=A.o _ _ _ ar.o (((Sd.refl P b6).set 1 (H I ad)).set 2 (H I d));rw[T.o.1] at this;exact this,by have:=(a4.o.I1 ad).UC d;rw[T.o.2] at this|-;exact this⟩
   ·rw[oU a1] at a0
    have a8:k+1<L.length:=by
     rcases mC (k+1) L.length with g|g
     ·exact g
     ·exact bI (List.drop_eq_nil_iff.2 g) a1
    rw[a0] at y a2;have b3:s.data.toList.drop i=L[k]++(44::(az (L.drop (k+1))++l::a3)):=(by rw[y];simp);have z:=G (b8.o k N _ i _ a9 al b3 (.inl rfl));have m:=Bi b3;obtain⟨b,p⟩:=pL (i+L[k].length);rw[p] at z m;obtain⟨n,o⟩:=aG m;have bj:=bM m;have C:=G (λu (aa:Ps P s b f u)=>tL P b f s 44 u aa ac.o n o (by decide));change Hid (∀u,Ps P s b f u->ay _ _ _ _ (λe w'=>e=η (.int .u8 44)/\_)) at C;have au:=G (λu (aa:Ps P s b f u)=>Ek P b f s 44 u aa ac.o n o (by decide));change Hid (∀u,Ps P s b f u->ay _ _ #[_,.int .u8 44] _ _) at au
    have bT:((44:O)==(aw:O))=X:=by
     rw[oq];intro e;refine ba.o.2 (UInt8.toNat_inj.1 ?_);rw[b9.o]
     show aw=44
     omega
    have T:=G (ο a8 (ο bj (show b+1+(az (L.drop (k+1))).length=h+ao by rw[<-a2,<-p];simp;omega)));have bn:=G (show i<s.size/\i<b from⟨b1,by omega⟩);clear b2 N a9 al y b3 a2 b0 b1 bg a0 a1 a8 m n o bj p
    go_wp2_with fail
    refine z.o.mono ?_;rintro e b5⟨rfl,a5,F⟩;have aq:=G a5;have ab:=G F;have j:=G (C.o b5 F);clear a5 F z C
    go_wp2_with fail
    refine j.o.mono ?_;rintro e b6⟨rfl,M⟩;have ar:=G (A.o _ _ _ aq.o (Sd.qd M));have b7:=G (au.o b6 (ab.o.below M));clear M j au ab
    go_wp2_with fail
    refine b7.o.mono ?_;rintro e bU⟨rfl,bc,bd⟩;have bb:=G bc;have bp:=G (A.o _ _ _ ar.o bd);clear bc bd b7
    go_wp2_with fail
    go_roundw
    case rel=>exact G ⟨k+1,b+1,T.o.1,bb.o,bp.o,T.o.2.1,T.o.2.2⟩
    case measure=>rw[bb.o.at',bs.o.at'];have:=bn.o;omega
def elems_m(L:D (D aA))(x1 x2:Γ)(l:aA)(ak:aV (l.toNat:O)=X)(aB:l≠44)(P a d:Z)(s:π)(a3:D aA)(W:E)(Inv:Z->E->Prop)
 (x:Ps P s a d W) (am:s.size<=1000000000) (bv:d+1<=100) (Q:s.data.toList.drop (a+1)=az L++l::a3)
 (ah:∀t∈L,∃c r,t=c::r/\aV (c.toNat:O)=X/\c≠l) (ax:Inv 0 W) (af:∀k u w,Inv k u->Sd P u w->Inv k w)
 (ai:∀k(N:k<L.length) u i b4,Ps P s i (d+1) u->Inv k u->s.data.toList.drop i=L[k]++b4->(b4.head?=Y 44\/b4.head?=Y l)->
   ay Θ 209 #[x1,x2] u λe w'=>e=η (.tuple #[])/\Inv (k+1) w'/\Ps P s (i+L[k].length) (d+1) w'):
 ay Θ 207 #[ε (Y ⟨P,0,J⟩),.int .u8 l.toNat,.func (.func 209) #[] #[x1,x2]] W λe w'=>e=η (.tuple #[])/\Inv L.length w'/\Ps P s (a+1+(az L).length+1) d w':=by
 obtain⟨f,aZ⟩:=pL (d+1);obtain⟨h,aF⟩:=pL (a+1);rw[aF] at Q|-;rw[aZ] at bv ai
 have be:h<s.size:=by have:=nT aW Q;simp at this;omega
 have bP:IntKind.i64.wrap ((d:O)+1)=(f:O):=by rw[Δ _ (by omega)];omega
 have bQ:decide ((100:O)<(f:O))=X:=o9 (by omega);have bR:IntKind.i64.wrap ((a:O)+1)=(h:O):=by rw[Δ _ (by omega)];omega
 have bS:IntKind.i64.wrap ((f:O) -1)=(d:O):=by rw[Δ _ (by omega)];omega
 have x0:=x.c0;have bV:=x.c1;have bW:=x.c2;have bX:=x.f1;have bY:=x.f2;have q:=G ((x.UC f).I1 h);have R:=G (af 0 _ _ ax (((Sd.refl P W).set 2 (H I f)).set 1 (H I h)));have bt:=G Q;have bo:=G ah;have A:=G af;have b8:=G ai;have ba:=G (ο ak aB);obtain⟨ao,a7⟩:=pL ((az L).length);have bq:=G a7;rw[a7];obtain⟨aw,a6⟩:=pL l.toNat;have b9:=G a6;rw[a6]
 by_cases aD:L=[]
 ·subst aD
  have m:s.data.toList.drop h=l::a3:=(by simpa [az] using Q);obtain⟨n,o⟩:=aG m;obtain rfl:ao=0:=by simpa [az] using a7.symm
  obtain⟨b,p⟩:=pL (h+1);have bx:IntKind.i64.wrap ((h:O)+1)=(b:O):=(by rw[Δ _ (by omega)];omega);have j:=G (tL P h f s l _ q.o am n o ak);rw[a6] at j;have bm:=G p;clear x aZ aF Q be ah ax af ai ak aB a7 m n o p a6
  go_enter aT,aP
  go_wp2_with fail
  generalize(W.setCell ⟨P,2,J⟩ (H I f)).setCell ⟨P,1,J⟩ (H I h)=bF at j q R|-;refine j.o.mono ?_;rintro e bl⟨rfl,K⟩;have B:=G (q.o.below K);have ap:=G (A.o 0 _ _ R.o (Sd.qd K));have y1:=B.o.c1;have y2:=B.o.c2;have bC:=B.o.f1;have bE:=B.o.f2;clear K j q R
  go_wp2_with fail
  refine ow (gP rfl _ _ _) rfl ?_;exact⟨rfl,A.o 0 _ _ ap.o (((Sd.refl P bl).set 1 (H I b)).set 2 (H I d)),by have:=(B.o.I1 b).UC d;rw[<-bm.o] at this|-;exact this⟩
 ·have ag:0<L.length:=List.length_pos_iff.2 aD
  obtain⟨ae,bA,an,bk,bi⟩:=ah L[0] (pq ag)
  have m:s.data.toList.drop h=ae::(bA++((if L.drop 1=[] then [] else 44::az (L.drop 1))++l::a3)):=by have e:=Ad ag;rw[nO] at e;rw[Q,e,an];simp
  obtain⟨n,o⟩:=aG m;have j:=G (tL P h f s ae _ q.o am n o bk)
  have bw:((ae.toNat:O)==(aw:O))=X:=by rw[oq];intro e;exact bi (UInt8.toNat_inj.1 (by omega))
  obtain⟨bN,bf⟩:=pL ae.toNat;rw[bf] at j bw;have ac:=G am;clear x aZ aF Q be ah ax af ai ak aB a7 m n o bk bi an bf a6 aD am;have br:=G ag;clear ag
  go_enter aT,aP
  go_wp2_with fail
  generalize(W.setCell ⟨P,2,J⟩ (H I f)).setCell ⟨P,1,J⟩ (H I h)=bF at j q R|-;refine j.o.mono ?_;rintro e bl⟨rfl,K⟩;have B:=G (q.o.below K);have ap:=G (A.o 0 _ _ R.o (Sd.qd K));clear K j q R
  go_wp2_with fail
  go_loopw [] (λwr=>Hid (∃k i,k<L.length/\Ps P s i f wr/\Inv k wr/\s.data.toList.drop i=az (L.drop k)++l::a3/\i+(az (L.drop k)).length=h+ao)) (λwr=>s.size-atOf P wr)
  case atStart=>exact G ⟨0,h,br.o,B.o,ap.o,by rw[nO];exact bt.o,by rw[nO,bq.o]⟩
  case round=>
   have b2:=hrel;clear hrel;obtain⟨k,i,N,a9,al,y,a2⟩:=b2.o;have bs:=G a9;have b0:=yD y (by simp);have b1:i<s.size:=(by simpa using b0)
   have bg:0<L[k].length:=by obtain⟨c,r,an,-,-⟩:=bo.o L[k] (pq N);rw[an];simp
   have a0:=Ad N
   by_cases a1:L.drop (k+1)=[]
   ·rw[oD a1,nC] at a0
    have a8:k+1=L.length:=by have:=List.drop_eq_nil_iff.1 a1;omega
    rw[a0] at y a2;have z:=G (b8.o k N _ i (l::a3) a9 al y (.inr rfl));have m:=Bi y;obtain⟨b,p⟩:=pL (i+L[k].length);rw[p] at z m a2;obtain⟨n,o⟩:=aG m;obtain⟨ad,bu⟩:=pL (b+1);have bx:IntKind.i64.wrap ((b:O)+1)=(ad:O):=(by rw[Δ _ (by have:=ac.o;omega)];omega);have C:=G (λu (aa:Ps P s b f u)=>tL P b f s l u aa ac.o n o ba.o.1);rw[b9.o] at C;have T:=G (ο a8 (show ad=h+ao+1 by omega));clear b2 N a9 al y a2 b0 b1 bg a0 a1 a8 m n o p bu
    go_wp2_with fail
    refine z.o.mono ?_;rintro e b5⟨rfl,a5,F⟩;have aq:=G a5;have ab:=G F;have j:=G (C.o b5 F);clear a5 F z C
    go_wp2_with fail
    refine j.o.mono ?_;rintro e b6⟨rfl,M⟩;have a4:=G (ab.o.below M);have ar:=G (A.o _ _ _ aq.o (Sd.qd M));have y1:=a4.o.c1;have y2:=a4.o.c2;have bC:=a4.o.f1;have bE:=a4.o.f2;clear M j
    go_wp2_with fail
    go_end0
    exact⟨rfl,by have:=A.o _ _ _ ar.o (((Sd.refl P b6).set 1 (H I ad)).set 2 (H I d));rw[T.o.1] at this;exact this,by have:=(a4.o.I1 ad).UC d;rw[T.o.2] at this|-;exact this⟩
   ·rw[oU a1] at a0
    have a8:k+1<L.length:=by
     rcases mC (k+1) L.length with g|g
     ·exact g
     ·exact bI (List.drop_eq_nil_iff.2 g) a1
    rw[a0] at y a2;have b3:s.data.toList.drop i=L[k]++(44::(az (L.drop (k+1))++l::a3)):=(by rw[y];simp);have z:=G (b8.o k N _ i _ a9 al b3 (.inl rfl));have m:=Bi b3;obtain⟨b,p⟩:=pL (i+L[k].length);rw[p] at z m;obtain⟨n,o⟩:=aG m;have bj:=bM m;have C:=G (λu (aa:Ps P s b f u)=>tL P b f s 44 u aa ac.o n o (by decide));change Hid (∀u,Ps P s b f u->ay _ _ _ _ (λe w'=>e=η (.int .u8 44)/\_)) at C;have au:=G (λu (aa:Ps P s b f u)=>Ek P b f s 44 u aa ac.o n o (by decide));change Hid (∀u,Ps P s b f u->ay _ _ #[_,.int .u8 44] _ _) at au
    have bT:((44:O)==(aw:O))=X:=by
     rw[oq];intro e;refine ba.o.2 (UInt8.toNat_inj.1 ?_);rw[b9.o]
     show aw=44
     omega
    have T:=G (ο a8 (ο bj (show b+1+(az (L.drop (k+1))).length=h+ao by rw[<-a2,<-p];simp;omega)));have bn:=G (show i<s.size/\i<b from⟨b1,by omega⟩);clear b2 N a9 al y b3 a2 b0 b1 bg a0 a1 a8 m n o bj p
    go_wp2_with fail
    refine z.o.mono ?_;rintro e b5⟨rfl,a5,F⟩;have aq:=G a5;have ab:=G F;have j:=G (C.o b5 F);clear a5 F z C
    go_wp2_with fail
    refine j.o.mono ?_;rintro e b6⟨rfl,M⟩;have ar:=G (A.o _ _ _ aq.o (Sd.qd M));have b7:=G (au.o b6 (ab.o.below M));clear M j au ab
    go_wp2_with fail
    refine b7.o.mono ?_;rintro e bU⟨rfl,bc,bd⟩;have bb:=G bc;have bp:=G (A.o _ _ _ ar.o bd);clear bc bd b7
    go_wp2_with fail
    go_roundw
    case rel=>exact G ⟨k+1,b+1,T.o.1,bb.o,bp.o,T.o.2.1,T.o.2.2⟩
    case measure=>rw[bb.o.at',bs.o.at'];have:=bn.o;omega
end Pj
namespace Pj
open RowKit Rw Vf Mw Me Pa
def Eo(P a d:Z)(s t:π)(aw:D aA)(g W:E)(y:Ps P s a d W)(ab:s.size<=1000000000)(ag:Jw.B8 g)(ak:aJ g.heap.size g W)(b1:g.heap.size<=P)
 (au:bH t.data.toList=bB) (A:s.data.toList.drop a=aj (.str t)++aw):VC P s (.str t) a d W:=by
 unfold VC;have ao:aj (.str t)=aC t.data.toList:=by simp only[aj]
 rw[ao] at A|-;have an:s.data.toList.drop a=34::(Js.body t.data.toList++34::aw):=by rw[A,aC];simp
 obtain⟨al,am⟩:=aG an;have ar:aV ((34:aA).toNat:O)=X:=by decide
 have ae:=y.lt;have z:=(pM W (ζ #[ε (Y ⟨P,0,J⟩)] 204)).alloc (pM W (ζ #[ε (Y ⟨P,0,J⟩)] 204)).size (ζ #[H I 0,.bool X,H I 0,V ⟨#[]⟩,U J 0 0,U J 0 0,H I 0] 107);have a9:=ld W (ζ #[ε (Y ⟨P,0,J⟩)] 204) (ζ #[H I 0,.bool X,H I 0,V ⟨#[]⟩,U J 0 0,U J 0 0,H I 0] 107);have af:=lV W (ζ #[ε (Y ⟨P,0,J⟩)] 204) (ζ #[H I 0,.bool X,H I 0,V ⟨#[]⟩,U J 0 0,U J 0 0,H I 0] 107);have M:=G z;have Q:=G (y.below z);have x0:=Ξ (j:=0) a9 rfl;have o:=G a9;have p:=G af;have m:=G (tL P a d s 34 _ (y.below z) ab al am ar);change Hid (ay _ _ _ _ (λe w'=>e=η (.int .u8 34)/\_)) at m;have a1:=G ae;have ad:=G ak;have K:=G (λu (b3:Ps P s a d u) (b2:aJ g.heap.size g u)=>GR P a d s t _ u b3 ab (ag.below b2) au A);obtain⟨b9,aq⟩:=pL ((aC t.data.toList).length);rw[aq] at K|-;clear A an al am ar au ag ak b1 y z a9 af ae aq ao ab
 go_enter bz,bh
 go_wp2_with fail
 generalize(W.alloc (ζ #[ε (Y ⟨P,0,J⟩)] 204)).alloc (ζ #[H I 0,.bool X,H I 0,V ⟨#[]⟩,U J 0 0,U J 0 0,H I 0] 107)=bi at m Q M o p x0|-;obtain⟨R,aa⟩:=pL (W.heap.size+1);obtain⟨B,a8⟩:=pL W.heap.size;have a4:=G (ο a8 aa);rw[aa] at p|-;rw[a8] at o x0|-;clear aa a8;refine m.o.mono ?_;rintro e h⟨rfl,i⟩;have T:=G (Q.o.below i);have N:=pR M i;have a2:=G (pW i p.o);have r:=G (pW i o.o);replace x0:=Ξ (j:=0) r.o rfl;have x1:=T.o.c1;clear i m Q M o p;have l:=pM h (ζ #[H I 0,.bool X,H I 0,V ⟨#[]⟩,U J 0 0,U J 0 0,H I a] 107);have ah:=pG h (ζ #[H I 0,.bool X,H I 0,V ⟨#[]⟩,U J 0 0,U J 0 0,H I a] 107);have a0:=G (T.o.below l);have n:=pR N l;have a3:=G (pW l a2.o);have a7:=G (pW l r.o);have q:=G ah;have a5:=G (show R<h.heap.size/\B<h.heap.size from⟨Λ a2.o,Λ r.o⟩);have ax:=Ξ (j:=0) a7.o rfl;clear l ah a2 T
 go_wp2_with fail
 generalize ai:h.heap.size=c at q a5|-;generalize h.alloc (ζ #[H I 0,.bool X,H I 0,V ⟨#[]⟩,U J 0 0,U J 0 0,H I a] 107)=b5 at a0 n a3 a7 q ax|-;have a6:=G (show W.heap.size<=c by rw[<-ai];exact N.o.size);clear ai N r x0 x1;have f:=G (show c≠P/\R≠P/\B≠P/\R≠c/\B≠c from⟨by have:=a1.o;have:=a6.o;omega,by have:=a1.o;have:=a4.o;omega,by have:=a1.o;have:=a4.o;omega,by have:=a5.o;omega,by have:=a5.o;omega⟩);refine(K.o b5 a0.o (ad.o.trans (n.o.mono ad.o.size))).mono ?_;rintro e F⟨rfl,ap,C⟩;have b:=C.heap q.o f.o.1;have ba:=Ξ (j:=0) b rfl;have bb:=Ξ (j:=1) b rfl;have bc:=Ξ (j:=2) b rfl;have bd:=Ξ (j:=3) b rfl;have be:=Ξ (j:=4) b rfl;have bf:=Ξ (j:=5) b rfl;have bg:=Ξ (j:=6) b rfl;have b6:=ny F c 0 _ _ b;have b7:=ny F c 3 _ _ b;have aF:=G (C.heap a3.o f.o.2.1);have aB:=G ap;have aZ:=G ((Sd.qd (P:=P) n.o).trans C);clear b ap C K a0 n a3 a7 q ax;have ac:=G (((pz (F.setCell ⟨c,0,J⟩ (H I 3)) ⟨c,3,J⟩ R (V t) f.o.2.2.2.1).trans (pz F ⟨c,0,J⟩ R (H I 3) f.o.2.2.2.1)).trans aF.o);have aD:=G ((aB.o.setOther (j:=0) (x:=H I 3) f.o.1.symm).setOther (j:=3) (x:=V t) f.o.1.symm);have b0:=G ((aZ.o.Ac (j:=0) (x:=H I 3) a6.o).Ac (j:=3) (x:=V t) a6.o)
 go_wp2_with(refine oN rfl 107 _ _ rfl R #[H I 3,.bool X,H I 0,V t,U J 0 0,U J 0 0,H I a] rfl rfl 107 _ ac.o (by kernel_rfl) rfl (by simp[aK]) ?_)
 go_wp2_with fail
 have b4:=og _ R _ #[H I 3,.bool X,H I 0,V t,U J 0 0,U J 0 0,H I a] _ _ ac.o;refine ow (nL rfl _ _ R _ _ _ _ rfl b4 aQ rfl (by kernel_rfl)) rfl ?_;exact⟨⟨3,X,0,t,J,0,0,J,0,0,a,rfl,λw' b8=>by unfold Jv;exact⟨a,rfl⟩⟩,(oo _ R P _ f.o.2.1.symm).trans aD.o,b0.o.Em (by have:=a4.o;omega)⟩
def I2(P a d:Z)(s:π)(n:O)(N:D aA)(W:E)(z:Ps P s a d W)(ai:s.size<=1000000000)(al: -9223372036854775808<=n)(am:n<=9223372036854775807)(aF:Stop N)(ah:(aO n).getD 0 0=45)
 (K:s.data.toList.drop a=aj (.int n)++N):VC P s (.int n) a d W:=by
 unfold VC;have aD:aj (.int n)=aO n:=by simp only[aj]
 rw[aD] at K|-;have A:=Lx n al am
 obtain⟨c,r,F⟩:∃c r,aO n=c::r:=by
  cases e:aO n with
  |nil=>exact bI e A.ne
  |cons c r=>exact⟨c,r,rfl⟩
 have aB:s.data.toList.drop a=c::(r++N):=by rw[K,F];rfl
 obtain⟨ar,au⟩:=aG aB;have aw:c=45\/(48<=c.toNat/\c.toNat<=57):=by have:=A.head;rw[F] at this;exact this
 have ax:c.toNat=45\/(48<=c.toNat/\c.toNat<=57):=aw.imp (λe=>by rw[e];rfl) id;have b1:aV (c.toNat:O)=X:=Tx.Ns (by omega);have an:=z.lt;have C:=(pM W (ζ #[ε (Y ⟨P,0,J⟩)] 204)).alloc (pM W (ζ #[ε (Y ⟨P,0,J⟩)] 204)).size (ζ #[H I 0,.bool X,H I 0,V ⟨#[]⟩,U J 0 0,U J 0 0,H I 0] 107);have ae:=ld W (ζ #[ε (Y ⟨P,0,J⟩)] 204) (ζ #[H I 0,.bool X,H I 0,V ⟨#[]⟩,U J 0 0,U J 0 0,H I 0] 107);have ao:=lV W (ζ #[ε (Y ⟨P,0,J⟩)] 204) (ζ #[H I 0,.bool X,H I 0,V ⟨#[]⟩,U J 0 0,U J 0 0,H I 0] 107);have a0:=G C;have a3:=G (z.below C);have x0:=Ξ (j:=0) ae rfl;have o:=G ae;have p:=G ao;have m:=G (tL P a d s c _ (z.below C) ai ar au b1);have a6:=G an;have T:=G (λu (bc:Ps P s a d u)=>JY P a d s n (aO n) N u bc ai K A aF);obtain⟨bj,b0⟩:=pL ((aO n).length);rw[b0] at T|-;rw[F] at ah;obtain⟨k,ag⟩:=pL c.toNat;rw[ag] at m ax;have b8:((k:O)==110)=X:=by rw[oq];omega
 have b9:((k:O)==116)=X:=by rw[oq];omega
 have ba:((k:O)==102)=X:=by rw[oq];omega
 have bb:((k:O)==34)=X:=by rw[oq];omega
 obtain rfl:k=45:=by rw[<-ag];exact nT UInt8.toNat ah
 clear b8 b9 ba bb ah;clear K aB ar au b1 aF A F aw ax ag z C ae ao an b0 aD ai al am
 go_enter bz,bh
 go_wp2_with fail
 generalize(W.alloc (ζ #[ε (Y ⟨P,0,J⟩)] 204)).alloc (ζ #[H I 0,.bool X,H I 0,V ⟨#[]⟩,U J 0 0,U J 0 0,H I 0] 107)=br at m a3 a0 o p x0|-;obtain⟨R,af⟩:=pL (W.heap.size+1);obtain⟨B,ad⟩:=pL W.heap.size;have a9:=G (ο ad af);rw[af] at p|-;rw[ad] at o x0|-;clear af ad;refine m.o.mono ?_;rintro e h⟨rfl,i⟩;have a4:=G (a3.o.below i);have a1:=pR a0 i;have a7:=G (pW i p.o);have y:=G (pW i o.o);replace x0:=Ξ (j:=0) y.o rfl;have x1:=a4.o.c1;clear i m a3 a0 o p;have l:=pM h (ζ #[H I 0,.bool X,H I 0,V ⟨#[]⟩,U J 0 0,U J 0 0,H I a] 107);have ap:=pG h (ζ #[H I 0,.bool X,H I 0,V ⟨#[]⟩,U J 0 0,U J 0 0,H I a] 107);have a5:=G (a4.o.below l);have a2:=pR a1 l;have a8:=G (pW l a7.o);have ac:=G (pW l y.o);have q:=G ap;have aa:=G (show R<h.heap.size/\B<h.heap.size from⟨Λ a7.o,Λ y.o⟩);have b2:=Ξ (j:=0) ac.o rfl;clear l ap a7 a4
 go_wp2_with fail
 generalize aq:h.heap.size=f at q aa|-;generalize h.alloc (ζ #[H I 0,.bool X,H I 0,V ⟨#[]⟩,U J 0 0,U J 0 0,H I a] 107)=be at a5 a2 a8 ac q b2|-;have ab:=G (show W.heap.size<=f by rw[<-aq];exact a1.o.size);clear aq a1 y x0 x1;have g:=G (show f≠P/\R≠P/\B≠P/\R≠f/\B≠f from⟨by have:=a6.o;have:=ab.o;omega,by have:=a6.o;have:=a9.o;omega,by have:=a6.o;have:=a9.o;omega,by have:=aa.o;omega,by have:=aa.o;omega⟩);refine(T.o be a5.o).mono ?_;rintro e Q⟨rfl,aZ,M⟩;have b:=M.heap q.o g.o.1;have bk:=Ξ (j:=0) b rfl;have bl:=Ξ (j:=1) b rfl;have bm:=Ξ (j:=2) b rfl;have bn:=Ξ (j:=3) b rfl;have bo:=Ξ (j:=4) b rfl;have bp:=Ξ (j:=5) b rfl;have bq:=Ξ (j:=6) b rfl;have bf:=ny Q f 0 _ _ b;have bg:=ny Q f 2 _ _ b;have b5:=G (M.heap a8.o g.o.2.1);have b3:=G aZ;have b6:=G ((Sd.qd (P:=P) a2.o).trans M);clear b aZ M T a5 a2 a8 ac q b2;have ak:=G (((pz (Q.setCell ⟨f,0,J⟩ (H I 2)) ⟨f,2,J⟩ R (H I n) g.o.2.2.2.1).trans (pz Q ⟨f,0,J⟩ R (H I 2) g.o.2.2.2.1)).trans b5.o);have b4:=G ((b3.o.setOther (j:=0) (x:=H I 2) g.o.1.symm).setOther (j:=2) (x:=H I n) g.o.1.symm);have b7:=G ((b6.o.Ac (j:=0) (x:=H I 2) ab.o).Ac (j:=2) (x:=H I n) ab.o)
 go_wp2_with(refine oN rfl 107 _ _ rfl R #[H I 2,.bool X,H I n,V ⟨#[]⟩,U J 0 0,U J 0 0,H I a] rfl rfl 107 _ ak.o (by kernel_rfl) rfl (by simp[aK]) ?_)
 go_wp2_with fail
 have bd:=og _ R _ #[H I 2,.bool X,H I n,V ⟨#[]⟩,U J 0 0,U J 0 0,H I a] _ _ ak.o;refine ow (nL rfl _ _ R _ _ _ _ rfl bd aQ rfl (by kernel_rfl)) rfl ?_;exact⟨⟨2,X,n,⟨#[]⟩,J,0,0,J,0,0,a,rfl,λw' bi=>by unfold Jv;exact⟨a,rfl⟩⟩,(oo _ R P _ g.o.2.1.symm).trans b4.o,b7.o.Em (by have:=a9.o;omega)⟩
def I3(P a d:Z)(s:π)(n:O)(N:D aA)(W:E)(z:Ps P s a d W)(ai:s.size<=1000000000)(al: -9223372036854775808<=n)(am:n<=9223372036854775807)(aF:Stop N)(ah:(aO n).getD 0 0≠45)
 (K:s.data.toList.drop a=aj (.int n)++N):VC P s (.int n) a d W:=by
 unfold VC;have aD:aj (.int n)=aO n:=by simp only[aj]
 rw[aD] at K|-;have A:=Lx n al am
 obtain⟨c,r,F⟩:∃c r,aO n=c::r:=by
  cases e:aO n with
  |nil=>exact bI e A.ne
  |cons c r=>exact⟨c,r,rfl⟩
 have aB:s.data.toList.drop a=c::(r++N):=by rw[K,F];rfl
 obtain⟨ar,au⟩:=aG aB;have aw:c=45\/(48<=c.toNat/\c.toNat<=57):=by have:=A.head;rw[F] at this;exact this
 have ax:c.toNat=45\/(48<=c.toNat/\c.toNat<=57):=aw.imp (λe=>by rw[e];rfl) id;have b1:aV (c.toNat:O)=X:=Tx.Ns (by omega);have an:=z.lt;have C:=(pM W (ζ #[ε (Y ⟨P,0,J⟩)] 204)).alloc (pM W (ζ #[ε (Y ⟨P,0,J⟩)] 204)).size (ζ #[H I 0,.bool X,H I 0,V ⟨#[]⟩,U J 0 0,U J 0 0,H I 0] 107);have ae:=ld W (ζ #[ε (Y ⟨P,0,J⟩)] 204) (ζ #[H I 0,.bool X,H I 0,V ⟨#[]⟩,U J 0 0,U J 0 0,H I 0] 107);have ao:=lV W (ζ #[ε (Y ⟨P,0,J⟩)] 204) (ζ #[H I 0,.bool X,H I 0,V ⟨#[]⟩,U J 0 0,U J 0 0,H I 0] 107);have a0:=G C;have a3:=G (z.below C);have x0:=Ξ (j:=0) ae rfl;have o:=G ae;have p:=G ao;have m:=G (tL P a d s c _ (z.below C) ai ar au b1);have a6:=G an;have T:=G (λu (b9:Ps P s a d u)=>JY P a d s n (aO n) N u b9 ai K A aF);obtain⟨bn,b0⟩:=pL ((aO n).length);rw[b0] at T|-;rw[F] at ah;obtain⟨k,ag⟩:=pL c.toNat;rw[ag] at m ax;have bc:((k:O)==110)=X:=by rw[oq];omega
 have bd:((k:O)==116)=X:=by rw[oq];omega
 have be:((k:O)==102)=X:=by rw[oq];omega
 have bf:((k:O)==34)=X:=by rw[oq];omega
 have b8:k≠45:=λe=>ah (UInt8.toNat_inj.1 (ag.trans e))
 have bg:((k:O)==45)=X:=by rw[oq];omega
 have bi:(48:O)<=(k:O):=by omega
 have bj:(k:O)<=57:=by omega
 clear ah b8;clear K aB ar au b1 aF A F aw ax ag z C ae ao an b0 aD ai al am
 go_enter bz,bh
 go_wp2_with fail
 generalize(W.alloc (ζ #[ε (Y ⟨P,0,J⟩)] 204)).alloc (ζ #[H I 0,.bool X,H I 0,V ⟨#[]⟩,U J 0 0,U J 0 0,H I 0] 107)=bv at m a3 a0 o p x0|-;obtain⟨R,af⟩:=pL (W.heap.size+1);obtain⟨B,ad⟩:=pL W.heap.size;have a9:=G (ο ad af);rw[af] at p|-;rw[ad] at o x0|-;clear af ad;refine m.o.mono ?_;rintro e h⟨rfl,i⟩;have a4:=G (a3.o.below i);have a1:=pR a0 i;have a7:=G (pW i p.o);have y:=G (pW i o.o);replace x0:=Ξ (j:=0) y.o rfl;have x1:=a4.o.c1;clear i m a3 a0 o p;have l:=pM h (ζ #[H I 0,.bool X,H I 0,V ⟨#[]⟩,U J 0 0,U J 0 0,H I a] 107);have ap:=pG h (ζ #[H I 0,.bool X,H I 0,V ⟨#[]⟩,U J 0 0,U J 0 0,H I a] 107);have a5:=G (a4.o.below l);have a2:=pR a1 l;have a8:=G (pW l a7.o);have ac:=G (pW l y.o);have q:=G ap;have aa:=G (show R<h.heap.size/\B<h.heap.size from⟨Λ a7.o,Λ y.o⟩);have b2:=Ξ (j:=0) ac.o rfl;clear l ap a7 a4
 go_wp2_with fail
 generalize aq:h.heap.size=f at q aa|-;generalize h.alloc (ζ #[H I 0,.bool X,H I 0,V ⟨#[]⟩,U J 0 0,U J 0 0,H I a] 107)=bb at a5 a2 a8 ac q b2|-;have ab:=G (show W.heap.size<=f by rw[<-aq];exact a1.o.size);clear aq a1 y x0 x1;have g:=G (show f≠P/\R≠P/\B≠P/\R≠f/\B≠f from⟨by have:=a6.o;have:=ab.o;omega,by have:=a6.o;have:=a9.o;omega,by have:=a6.o;have:=a9.o;omega,by have:=aa.o;omega,by have:=aa.o;omega⟩);refine(T.o bb a5.o).mono ?_;rintro e Q⟨rfl,aZ,M⟩;have b:=M.heap q.o g.o.1;have bo:=Ξ (j:=0) b rfl;have bp:=Ξ (j:=1) b rfl;have bq:=Ξ (j:=2) b rfl;have br:=Ξ (j:=3) b rfl;have bs:=Ξ (j:=4) b rfl;have bt:=Ξ (j:=5) b rfl;have bu:=Ξ (j:=6) b rfl;have bk:=ny Q f 0 _ _ b;have bl:=ny Q f 2 _ _ b;have b5:=G (M.heap a8.o g.o.2.1);have b3:=G aZ;have b6:=G ((Sd.qd (P:=P) a2.o).trans M);clear b aZ M T a5 a2 a8 ac q b2;have ak:=G (((pz (Q.setCell ⟨f,0,J⟩ (H I 2)) ⟨f,2,J⟩ R (H I n) g.o.2.2.2.1).trans (pz Q ⟨f,0,J⟩ R (H I 2) g.o.2.2.2.1)).trans b5.o);have b4:=G ((b3.o.setOther (j:=0) (x:=H I 2) g.o.1.symm).setOther (j:=2) (x:=H I n) g.o.1.symm);have b7:=G ((b6.o.Ac (j:=0) (x:=H I 2) ab.o).Ac (j:=2) (x:=H I n) ab.o)
 go_wp2_with(refine oN rfl 107 _ _ rfl R #[H I 2,.bool X,H I n,V ⟨#[]⟩,U J 0 0,U J 0 0,H I a] rfl rfl 107 _ ak.o (by kernel_rfl) rfl (by simp[aK]) ?_)
 go_wp2_with fail
 have ba:=og _ R _ #[H I 2,.bool X,H I n,V ⟨#[]⟩,U J 0 0,U J 0 0,H I a] _ _ ak.o;refine ow (nL rfl _ _ R _ _ _ _ rfl ba aQ rfl (by kernel_rfl)) rfl ?_;exact⟨⟨2,X,n,⟨#[]⟩,J,0,0,J,0,0,a,rfl,λw' bm=>by unfold Jv;exact⟨a,rfl⟩⟩,(oo _ R P _ g.o.2.1.symm).trans b4.o,b7.o.Em (by have:=a9.o;omega)⟩
def Ep(P a d:Z)(s:π)(n:O)(b:D aA)(W:E)(c:Ps P s a d W)(j:s.size<=1000000000)(e: -9223372036854775808<=n)(f:n<=9223372036854775807)(i:Stop b)
 (g:s.data.toList.drop a=aj (.int n)++b):VC P s (.int n) a d W:=by
 by_cases h:(aO n).getD 0 0=45
 ·exact I2 P a d s n b W c j e f i h g
 ·exact I3 P a d s n b W c j e f i h g
end Pj
namespace De
open RowKit Rw Mw Me Pj
def PEl(w:E)(p:π)(c:D Γ):Prop:=c=p_ p
def EEl(w:E)(e:Mo.En)(c:D Γ):Prop:=c=pO e
def FdV(S:Z)(w:E)(f:Mo.Fd)(c:D Γ):Prop:=∀w',aR S w w' J->vT w' f c
def yP{α:Type}{El:E->α->D Γ->Prop}{C:α->D Γ}(i:∀w x c,El w x c->c=C x){sz S:Z}{t:aE}{w:E}{v:Γ}{l:D α}(f:Row El sz t S w v l):Rw w v sz (l.map C):=by
 obtain⟨L,g,b,m,h⟩:=Row.rw f
 have:L=l.map C:=by
  apply lH
  ·rw[oS,b]
  ·intro j e n
   rw[oG];exact i _ _ _ (h.2 j (by rw[<-b];exact e) e)
 rw[<-this];exact g
def r_{α:Type}{El:E->α->D Γ->Prop}{sz S:Z}{t:aE}{w u:E}{v:Γ}{l:D α}(h:∀w u x c,El w x c->El u x c)(b:Row El sz t S w v l)(m:aR S w u J):Row El sz t S u v l:=by obtain⟨L,e,f,g⟩:=b;refine⟨L,e,vJ f m,λx o=>?_⟩;have:=g w (λ_ _ _ _=>rfl);exact⟨this.1,λj n i=>h _ _ _ _ (this.2 j n i)⟩
def fd_of{S c e:Z}{t1 t2:aE}{w:E}{vp ve:Γ}{f:Mo.Fd}(n:Row PEl 1 t1 c w vp f.path)(m:Row EEl 5 t2 e w ve f.pU)(j:S<=c)(l:S<=e):FdV S w f (pX f vp ve):=λu g=>by
 have h:=r_ (λ_ _ _ _ b=>b) (n.base j) g;have i:=r_ (λ_ _ _ _ b=>b) (m.base l) g;exact⟨vp,ve,rfl,yP (C:=p_) (λ_ _ _ b=>b) h,yP (C:=pO) (λ_ _ _ b=>b) i⟩
def ar_of{S:Z}{t:aE}{w:E}{v:Γ}{l:D Mo.Fd}(b:Row vT 6 t S w v l):rY w v l:=by obtain⟨L,c,e,g,f⟩:=Row.rw b;exact⟨L,e,c,f.2⟩
def FdV.apart{S T:Z}{w w':E}{f:Mo.Fd}{c:D Γ}{row:bJ Z}(b:FdV T w f c)(l:S<=T)(i:∀k,row=Y k->k<T)(h:aR S w w' row):vT w' f c:=
 b w' λk j g _=>h k (by omega) g (λe=>by have:=i k e.symm;omega)
def G6{α:Type}{El:E->α->D Γ->Prop}{S size n:Z}{e:aE}{w w':E}{v b:Γ}{l:D α}{x:α}{cs:D Γ}{L:D (D Γ)}(h:Flat size L)(f:∀u,aR S w u v.ownBlock->tG El u l L)(m:l.length=n)
 (g:∀u,aR S w u v.ownBlock->El u x cs) (i:cs.length=size) (c:∀u∈cs,u.oneCell'=bB)
 (o:w'.ownsRow S e size b (n+1) (L.flatten++cs)) (j:w.grownBy w' v.ownBlock) (q:b.ownBlock=v.ownBlock\/b.ownBlock=Y w.heap.size):Row El size e S w' b (l++[x]):=
 Row.appended (M:=[cs]) (l2:=[x]) h f (Flat.one i c) (λu p=>tG.one (g u p)) (by rw[m];simpa using o) j q
def EH{α:Type}{El:E->α->D Γ->Prop}{P:Program}(w:E){ops:bG Oper}{m:D Oper}{o:Oper}{a:Act}{Q:Exit->Act->E->Prop}(W:o.guard=J)(s x:Operand)(t:aE)
 (a1:o.op= .call {callee:= .builtin .append,args:=#[s,x],argTypes:=#[t,t]})
 (base c:Z) (e:aE) (i:TypeInfo) (z:Γ) (size bD:Z) (a6:P.underlying t=Y (.slice e)) (a0:P.info? e=Y i) (a9:i.zero=Y z)
 (a4:i.size=size) (N:i.bytes=bD) (aa:z.cells.size=size) (a5:0<size)
 (v:Γ) (l:D α) (n:Z) (h:l.length=n) (a3:a.eval s=v) (K:Row El size e base w v l)
 (x':Γ) (el:α) (cs:D Γ) (a7:a.eval x=x') (a8:w.ownsRow c e size x' 1 cs) (f:∀u∈cs,u.oneCell'=bB) (C:∀u,aR base w u v.ownBlock->El u el cs)
 (A:n+1<=maxLen) (R:(n+1)*bD<=140737488355328) (M:base<=w.heap.size) (T:cs.length=size)
 (p:∀b w',Row El size e base w' b (l++[el])->w.grownBy w' v.ownBlock->(∀q,v.ownBlock=Y q->base<=q)->wpList P ops Q m (a.put o.dst b) w'):wpList P ops Q (o::m) a w:=by
 obtain⟨L,F,j,B⟩:=K;refine qX w W s x t a1 base c e i z size bD a6 a0 a9 a4 N aa a5 v n L.flatten a3 (by rw[<-h];exact j) x' 1 cs a7 a8 f A R M λb w' r g y=>?_
 exact p b w' (G6 F B h C T f r g y) g λq a2=>(qq j a2).1
def Tr{α:Type}{El:E->α->D Γ->Prop}{P:Program}(w:E){ops:bG Oper}{o:Oper}{a:Act}{K:Act->E->Prop}{Q:Exit->Act->E->Prop}{m:Prop}(a0:o.guard=J)(s x:Operand)(t:aE)
 (a2:o.op= .call {callee:= .builtin .append,args:=#[s,x],argTypes:=#[t,t]})
 (base c:Z) (e:aE) (i:TypeInfo) (z:Γ) (size bD:Z) (a7:P.underlying t=Y (.slice e)) (a1:P.info? e=Y i) (aa:i.zero=Y z)
 (a5:i.size=size) (R:i.bytes=bD) (ab:z.cells.size=size) (a6:0<size)
 (v:Γ) (l:D α) (n:Z) (h:l.length=n) (a4:a.eval s=v) (M:Row El size e base w v l)
 (x':Γ) (el:α) (cs:D Γ) (a8:a.eval x=x') (a9:w.ownsRow c e size x' 1 cs) (f:∀u∈cs,u.oneCell'=bB) (C:∀u,aR base w u v.ownBlock->El u el cs)
 (A:n+1<=maxLen) (T:(n+1)*bD<=140737488355328) (N:base<=w.heap.size) (W:cs.length=size)
 (p:∀b w',Row El size e base w' b (l++[el])->w.grownBy w' v.ownBlock->(∀q,v.ownBlock=Y q->base<=q)->K (a.put o.dst b) w'):
 if Region.wanted o (yielded ops a.tmps)=bB then Oper.wp P o a w K Q else m:=by
 obtain⟨L,F,j,B⟩:=M;refine q_ w a0 s x t a2 base c e i z size bD a7 a1 aa a5 R ab a6 v n L.flatten a4 (by rw[<-h];exact j) x' 1 cs a8 a9 f A T N λb w' r g y=>?_
 exact p b w' (G6 F B h C W f r g y) g λq a3=>(qq j a3).1
def infoStr:(Tryz.prog.info? 9).map (λi=>(i.zero.map (λz=>z.cells.size),i.size,i.bytes))=Y (Y 1,1,16):=by kernel_rfl
def infoEnt:(Tryz.prog.info? 53).map (λi=>(i.zero.map (λz=>z.cells.size),i.size,i.bytes))=Y (Y 5,5,72):=by kernel_rfl
def infoFd:(Tryz.prog.info? 51).map (λi=>(i.zero.map (λz=>z.cells.size),i.size,i.bytes))=Y (Y 6,6,104):=by kernel_rfl
def Gc{S B:Z}{W u w:E}{row:bJ Z}(b:Sd B W u)(c:u.grownBy w row)(h:∀q,row=Y q->S<=q)(i:W.heap.size<=S):Sd B W w:=
 ⟨c.os.trans b.os,c.tape.trans b.tape,c.output.trans b.output,pF b.size c.size,λk f g=>(c.block k (oQ f b.size) (λe=>by have:=h k e.symm;omega)).trans (b.block k f g)⟩
def Cj{S k:Z}{u w:E}{row:bJ Z}{x:Obj}(c:u.grownBy w row)(f:∀q,row=Y q->S<=q)(g:k<S)(b:u.heap[k]?=Y x):w.heap[k]?=Y x:=
 (c.block k (Λ b) (λe=>by have:=f k e.symm;omega)).trans b
def yq{α:Type}{El:E->α->D Γ->Prop}{sz S B j:Z}{t:aE}{u:E}{v x:Γ}{l:D α}(b:Row El sz t S u v l)(f:B<S):Row El sz t S (u.setCell ⟨B,j,J⟩ x) v l:=
 qK b (by simp) λk c e=>pz _ _ _ _ (show k≠B by omega)
end De
end Go.Proofs.YthbhmjdcfocphaaGreatDoor
