/- A part of this proof. -/
import Derived.Test.YthbhmjdcfocphaaGreatDoorKE
import Derived.Test.YthbhmjdcfocphaaGreatDoorG3
import Derived.Test.YthbhmjdcfocphaaGreatDoorKJ
set_option linter.all false
set_option maxHeartbeats 16000000
set_option maxRecDepth 100000
namespace Go.Proofs.YthbhmjdcfocphaaGreatDoor
open Go.Value renaming string→N, slice→I, pointer→ε, int→K
open Go.Obj renaming cells→ζ
open Go.Ending renaming returned→η
open Go.IntKind renaming i64→G
open Go.Lib renaming hid→H, byteCells→ay, byteCells_length→aA, byteCells_append→aC, validD→aI
open Go.Proofs.Tryz renaming prog→ν, ntmps110→ah, func110→aj
open _root_ renaming ByteArray→ξ, UInt8→Δ, List→U, Int→M, Nat→V, Option→aK
open Jv renaming enc→π, pZ→X, yf→az, wS→aG, qN→aH, Ok→aJ, yR→aL
open Go renaming World→O, Calls→Ξ, Value→aE
open Option renaming none→J, some→Y
open Bool renaming false→Θ
open Js renaming quote→ς
namespace Me
open RowKit Rw Vf Mw
def yj(a:O)(b:V)(c:U Δ)(w:O):Prop:=Lib.IsBuilder LY.TB LY.TU a.heap.size b (ay c) w/\Below a.heap.size a w
def yj.below{a w w':O}{b:V}{e:U Δ}(c:yj a b e w)(d:Below w.heap.size w w'):yj a b e w':=⟨LY.sZ c.1 d,pK c.2 d⟩
def yj.alloc{a w:O}{b:V}{c:U Δ}(d:yj a b c w)(o:Obj):yj a b c (w.alloc o):=d.below (pM w o)
def Ig{d w:O}{b:V}{a:U Δ}(c:Δ)(v:M)(j:v=c.toNat)(f:yj d b a w)(k:a.length<=1000000000):
 Ξ ν 198 #[ε (Y ⟨b,0,J⟩),.int .u8 v] w λe w'=>e=η .nilIface/\yj d b (a++[c]) w'/\LY.Fz b w w':=by
 subst j;refine(LY.uY d.heap.size b (ay a) c.toNat w f.1 (by rw[aA];omega) f.2.size).mono ?_;rintro e w'⟨rfl,g,h,i⟩;refine⟨rfl,⟨?_,f.2.trans h⟩,i⟩;rw[aC];exact g
def wstr{c w:O}{b:V}{a:U Δ}(s:ξ)(d:yj c b a w)(i:a.length<=1000000000)(j:s.size<=1000000000):
 Ξ ν 41 #[ε (Y ⟨b,0,J⟩),N s] w λe w'=>e=η (.tuple #[K G s.size,.nilIface])/\yj c b (a++s.data.toList) w'/\LY.Fz b w w':=by
 refine(LY.writeString c.heap.size b (ay a) s w d.1 (by rw[aA];omega) d.2.size).mono ?_;rintro e w'⟨rfl,f,g,h⟩;refine⟨rfl,⟨?_,d.2.trans g⟩,h⟩;rw[aC,<-Lib.strCells_eq];exact f
def SO{c w:O}{b:V}{h:U Δ}(s:ξ)(d:yj c b h w)(m:U8 c)(l:Jw.uV c)(r:aI s.data.toList=true)(z:s.size<=1000000)(y:h.length+(ς s.data.toList).length<=1000000000):
 Ξ ν 171 #[ε (Y ⟨b,0,J⟩),N s] w λe w'=>e=η (.tuple #[])/\yj c b (h++ς s.data.toList) w'/\LY.Fz b w w':=by
 have a:=H (Jw.Un s w (by omega) (Tx.qC m d.2) (l.below d.2) r);have k:=H d;obtain⟨q,o⟩:=pL (ς s.data.toList);rw[o] at a y|-;clear d m l r o;have p:(⟨q.toArray⟩:ξ).size=q.length:=by simp[ByteArray.size]
 have j:=H p;have i:=H (show(⟨q.toArray⟩:ξ).data.toList=q by simp);generalize(⟨q.toArray⟩:ξ)=Q at a j i;clear p
 go_enter Tryz.func171,Tryz.ntmps171
 go_wp2_with fail
 refine a.o.mono ?_;rintro e A⟨rfl,g⟩;have v:=H (k.o.below g);have t:=H (LY.Fz.qd (b:=b) g);clear g k a
 go_wp2_with fail
 refine(wstr Q v.o (by omega) (by rw[j.o];omega)).mono ?_;rintro e B⟨rfl,f,n⟩;rw[i.o] at f;have x:=H f;have u:=H (t.o.trans n);clear f n
 go_wp2_with fail
 go_end0
 exact⟨rfl,x.o,u.o⟩
def U'(w:O)(k:V)(b:Array Obj):Below w.heap.size w (Sort.grow (w.drewN k) b):=
 ⟨rfl,rfl,rfl,by simp[Sort.grow,World.drewN],λi a=>by simp[Sort.grow,World.drewN,Array.getElem?_append,a]⟩
abbrev Pow(w:O):Prop:=Lib.TabIs ν w "internal/strconv.uint64pow10" .u64 Lib.pow10Tab
def num_is(n:M)(a: -9223372036854775808<=n)(b:n<=9223372036854775807)(w:O)(c:Pow w):
 Ξ ν 170 #[K G n,K G 10] w λe w'=>e=η (N ⟨(aL n).toArray⟩)/\Below w.heap.size w w':=by
 refine(Tryz.strconv_FormatInt_10 n a b w c).mono ?_;rintro e w'⟨rfl,k,d,rfl⟩;exact⟨rfl,U' w k d⟩
def pJ{w:O}{g j:V}{cs:Array aE}{t:TypeId}{a:V×V}{x:aE}(b:w.heap[g]?=Y (Obj.cells cs t a))(c:cs[j]?=Y x):w.cell? ⟨g,j,J⟩=Y x:=by unfold World.cell?;simp only[b];exact c
def xS(l:U (U Δ)):∀k,(X (l.take k)).length<=(X l).length:=by
 induction l with
 |nil=>intro k;simp
 |cons a r ih=>
  intro k
  cases k with
  |zero=>simp[X]
  |succ k=>
   rw[mm]
   cases r with
   |nil=>simp
   |cons b r=>
    cases k with
    |zero=>simp[X]
    |succ k=>have:=ih (k+1);rw[mm] at this|-;simp only[X,o_,oJ];omega
def Y_(i:O)(b:V)(h a3:Δ)(l:U Jv.J)(v:aE)(L:U (U aE))(W:O)(aP:Rw i v 7 L)(a4:tG Jv i l L)(ac:l.length<=1000000)(r:U Δ)(aQ:yj i b r W)(ad:r.length+(X (aH l)).length+2<=1000000000)
 (aN:∀j(ab:j<l.length) k aM n s y B c1 z C c2 p u o,yj i b o u->o.length+(π l[j]).length<=1000000000->Jv i l[j] (qh k aM n s (I y B c1) (I z C c2) p)->Ξ ν 110 #[ε (Y ⟨b,0,J⟩),.agg #[K G k,.bool aM,K G n,N s,I y B c1,I z C c2,K G p]] u λe w'=>e=η (.tuple #[])/\yj i b (o++π l[j]) w'):
 Ξ ν 172 #[ε (Y ⟨b,0,J⟩),.int .u8 h.toNat,.int .u8 a3.toNat,v,.func (.func 110) #[ε (Y ⟨b,0,J⟩)] #[]] W λe w'=>e=η (.tuple #[])/\yj i b (r++h::(X (aH l)++[a3])) w':=by
 obtain⟨g,bf,bb,cap,rfl,aa,aR⟩:=zJ aP a4;have a1:Hid ((aH l).length=l.length/\∀j(ab:j<l.length)(c:j<(aH l).length),(aH l)[j]=π l[j]):=H ⟨by rw[Jv.uN];simp,λj ab c=>by simp only[Jv.uN,oG]⟩;obtain⟨S,a9⟩:=pL (aH l);rw[a9] at ad|-;rw[a9] at a1;obtain⟨m,ae⟩:=pL l.length;rw[ae] at aa ac|-;have aD:=H ae;have aY:=H aa;have aZ:=H aR;have b1:=H a4.1;have b0:=H a4.2;have aW:=H aN;have a6:=H ad;obtain⟨ba,ag⟩:∃n:M,n=h.toNat:=⟨_,rfl⟩;obtain⟨b9,af⟩:∃n:M,n=a3.toNat:=⟨_,rfl⟩;have aw:=H (Ig h ba ag aQ (by omega));have aX:=H (λ(w:O) (o:U Δ) (b6:yj i b o w) (ac:o.length<=1000000000)=>Ig a3 b9 af b6 ac);rw[<-ag,<-af];clear aP a4 aa aR ae aN aQ a9 ag af ad
 go_enter Tryz.func172,Tryz.ntmps172
 go_wp2_with fail
 refine aw.o.mono ?_;rintro e bg⟨rfl,d,-⟩;have aF:=H d;clear d aw
 go_wp2_with fail
 go_loopw [19] (λx wr=>∃j:V,j<=m/\x=K G j/\Hid (yj i b (r++h::X (S.take j)) wr)) (λx _=>m-(intOf x).toNat)
 case atStart=>exact⟨0,oM _,rfl,H (by rw[lP];exact aF.o)⟩
 case round=>
  obtain⟨j,ab,rfl,f⟩:=hrel
  by_cases b8:j<m
  ·obtain rfl:=aY.o (by omega)
   have E:j<l.length:=(by rw[aD.o];exact b8);have aU:j<S.length:=(by rw[a1.o.1];exact E);have aT:j<L.length:=(by rw[b1.o];exact E);obtain⟨T,vb,Z,a0,y,B,c1,z,C,c2,vp,aO,a5,y1,y2,y3,y4,y5,y6⟩:=aZ.o j E aT;have a8:=b0.o j E aT;rw[aO] at a8;have D:=H (λu o d c=>aW.o j E T vb Z a0 y B c1 z C c2 vp u o d c a8);clear aO a8;rw[<-a1.o.2 j E aU] at D;replace a5:=pI a5 f.o.2;replace y1:=pI y1 f.o.2;replace y2:=pI y2 f.o.2;replace y3:=pI y3 f.o.2;replace y4:=pI y4 f.o.2;replace y5:=pI y5 f.o.2;replace y6:=pI y6 f.o.2;have be:(j:M)<(m:M):=(by omega);have bd:(0:M)<=(j:M):=(by omega);have Q:=H (Jv.Cy S j aU);have aB:=H (xS S (j+1));generalize S[j]=ak at D Q;have a2:=H (f.o.alloc (ζ #[K G T,.bool vb,K G Z,N a0,I y B c1,I z C c2,K G vp] 107));have b3:=xQ (w:=wr) (x0:=K G T) (x1:= .bool vb) (x2:=K G Z) (x3:=N a0) (x4:=I y B c1) (x5:=I z C c2) (x6:=K G vp) (t:=107);have b7:=pM wr (ζ #[K G T,.bool vb,K G Z,N a0,I y B c1,I z C c2,K G vp] 107);clear b7;obtain⟨al,am,an,ao,ap,aq,ar⟩:=b3
   by_cases A:j=0
   ·have a7:¬(0:M)<(j:M):=by omega
    have b4:¬0<j:=(by omega);have b5:decide ((0:M)<(j:M))=Θ:=o9 a7
    have P:Hid (r++h::X (S.take j)++ak=r++h::X (S.take (j+1))):=H (by rw[Q.o,oD A,A];simp[X])
    have F:=H (D.o _ _ a2.o (by have d:=Q.o;rw[oD A] at d;have c:=aB.o;have a:=a6.o;rw[d] at c;rw[A];simp[X];omega))
    clear A
    go_wp2_with fail
    refine F.o.mono ?_;rintro e aV⟨rfl,a⟩;rw[P.o] at a;have R:=H a;clear a F D P a2 a5 al y1 am y2 an y3 ao y4 ap y5 aq y6 ar
    go_wp2_with fail
    go_roundw
    case rel=>exact⟨j+1,by omega,by go_num,R⟩
    case measure=>simp[intOf];omega
   ·have a7:(0:M)<(j:M):=by omega
    have b4:0<j:=(by omega);have b5:decide ((0:M)<(j:M))=true:=nK a7
    have P:Hid (r++h::X (S.take j)++[44]++ak=r++h::X (S.take (j+1))):=H (by rw[Q.o,oU A];simp)
    have ax:=H (show(r++h::X (S.take j)++[44]).length+ak.length<=1000000000 by have d:=Q.o;rw[oU A] at d;have c:=aB.o;have a:=a6.o;rw[d] at c;simp at c|-;omega)
    have au:=H (Ig (44:Δ) (44:M) rfl a2.o (by have:=ax.o;simp at this|-;omega));clear A
    go_wp2_with fail
    refine au.o.mono ?_;rintro e bh⟨rfl,c,aS⟩;have q:=aS wr.heap.size _ _ _ (pG wr (ζ #[K G T,.bool vb,K G Z,N a0,I y B c1,I z C c2,K G vp] 107)) (λe=>by have:=(LY.is_lt f.o.1).2;omega) (by decide);rw[pG] at q;have F:=H (D.o _ _ c ax.o);have al:=pJ (j:=0) q rfl;have am:=pJ (j:=1) q rfl;have an:=pJ (j:=2) q rfl;have ao:=pJ (j:=3) q rfl;have ap:=pJ (j:=4) q rfl;have aq:=pJ (j:=5) q rfl;have ar:=pJ (j:=6) q rfl;clear c au aS q aF
    go_wp2_with fail
    refine F.o.mono ?_;rintro e aV⟨rfl,a⟩;rw[P.o] at a;have R:=H a;clear a F D P a2 a5 al y1 am y2 an y3 ao y4 ap y5 aq y6 ar
    go_wp2_with fail
    go_roundw
    case rel=>exact⟨j+1,by omega,by go_num,R⟩
    case measure=>simp[intOf];omega
  ·have bc:decide ((j:M)<(m:M))=Θ:=o9 (by omega)
   have b2:Hid (S.take j=S):=H (oP (by rw[a1.o.1,aD.o];omega));have ai:=f.o;rw[b2.o] at ai;have av:=H (aX.o wr _ ai (by have:=a6.o;simp;omega));clear ai
   go_wp2_with fail
   refine av.o.mono ?_;rintro e aV⟨rfl,a,-⟩;have R:=H a;clear a av
   go_wp2_with fail
   go_end0
   exact⟨rfl,by have:=R.o;simpa using this⟩
def Za(r:O)(b:V)(i a5:Δ)(l:U (ξ×Jv.J))(v:aE)(L:U (U aE))(W:O)(aT:Rw r v 9 L)(aR:tG BQ r l L)(ad:l.length<=1000000)(y:U Δ)(aU:yj r b y W)(ae:y.length+(X (aG l)).length+2<=1000000000)
 (aQ:∀j(ac:j<l.length) k aP n s z C c1 A D c2 p q u o,yj r b o u->o.length+(az l[j]).length<=1000000000->Jv r l[j].2 (qh k aP n s (I z C c1) (I A D c2) p)->Ξ ν 174 #[ε (Y ⟨b,0,J⟩),.agg #[.string l[j].1,K G k,.bool aP,K G n,N s,I z C c1,I A D c2,K G p,K G q]] u λe w'=>e=η (.tuple #[])/\yj r b (o++az l[j]) w'):
 Ξ ν 173 #[ε (Y ⟨b,0,J⟩),.int .u8 i.toNat,.int .u8 a5.toNat,v,.func (.func 174) #[ε (Y ⟨b,0,J⟩)] #[]] W λe w'=>e=η (.tuple #[])/\yj r b (y++i::(X (aG l)++[a5])) w':=by
 obtain⟨g,bj,bd,cap,rfl,ab,aV⟩:=BF aT aR;have a3:Hid ((aG l).length=l.length/\∀j(ac:j<l.length)(d:j<(aG l).length),(aG l)[j]=az l[j]):=H ⟨by rw[Jv.A6];simp,λj ac d=>by simp only[Jv.A6,oG];generalize l[j]=ba;obtain⟨bi,bh⟩:=ba;simp only[az]⟩;obtain⟨S,aa⟩:=pL (aG l);rw[aa] at ae|-;rw[aa] at a3;obtain⟨m,af⟩:=pL l.length;rw[af] at ab ad|-;have aN:=H af;have b1:=H ab;have b2:=H aV;skip;have aZ:=H aQ;have a8:=H ae;obtain⟨bc,ai⟩:∃n:M,n=i.toNat:=⟨_,rfl⟩;obtain⟨bb,ag⟩:∃n:M,n=a5.toNat:=⟨_,rfl⟩;have aD:=H (Ig i bc ai aU (by omega));have b0:=H (λ(w:O) (o:U Δ) (b7:yj r b o w) (ad:o.length<=1000000000)=>Ig a5 bb ag b7 ad);rw[<-ai,<-ag];clear aT aR ab aV af aQ aU aa ai ag ae
 go_enter Tryz.func173,Tryz.ntmps173
 go_wp2_with fail
 refine aD.o.mono ?_;rintro e bk⟨rfl,h,-⟩;have aO:=H h;clear h aD
 go_wp2_with fail
 go_loopw [19] (λx wr=>∃j:V,j<=m/\x=K G j/\Hid (yj r b (y++i::X (S.take j)) wr)) (λx _=>m-(intOf x).toNat)
 case atStart=>exact⟨0,oM _,rfl,H (by rw[lP];exact aO.o)⟩
 case round=>
  obtain⟨j,ac,rfl,c⟩:=hrel
  by_cases b9:j<m
  ·obtain rfl:=b1.o (by omega)
   have a6:j<l.length:=(by rw[aN.o];exact b9);have aX:j<S.length:=(by rw[a3.o.1];exact a6);obtain⟨T,vb,Z,a1,z,C,c1,A,D,c2,vp,a0,aS,a2,y1,y2,y3,y4,y5,y6,y7,a7⟩:=b2.o j a6;have E:=H (λu o h d=>aZ.o j a6 T vb Z a1 z C c1 A D c2 vp a0 u o h d aS);clear aS;rw[<-a3.o.2 j a6 aX] at E;generalize l[j].1=key at a2 E;replace a2:=pI a2 c.o.2;replace y1:=pI y1 c.o.2;replace y2:=pI y2 c.o.2;replace y3:=pI y3 c.o.2;replace y4:=pI y4 c.o.2;replace y5:=pI y5 c.o.2;replace y6:=pI y6 c.o.2;replace y7:=pI y7 c.o.2;replace a7:=pI a7 c.o.2;have bg:(j:M)<(m:M):=(by omega);have bf:(0:M)<=(j:M):=(by omega);have Q:=H (Jv.Cy S j aX);have aM:=H (xS S (j+1));generalize S[j]=al at E Q;have a4:=H (c.o.alloc (ζ #[N key,K G T,.bool vb,K G Z,N a1,I z C c1,I A D c2,K G vp,K G a0] 156));have b4:=K8 (w:=wr) (x0:=N key) (x1:=K G T) (x2:= .bool vb) (x3:=K G Z) (x4:=N a1) (x5:=I z C c1) (x6:=I A D c2) (x7:=K G vp) (x8:=K G a0) (t:=156);have b8:=pM wr (ζ #[N key,K G T,.bool vb,K G Z,N a1,I z C c1,I A D c2,K G vp,K G a0] 156);clear b8;obtain⟨am,an,ao,ap,aq,ar,au,av,aw⟩:=b4
   by_cases B:j=0
   ·have a9:¬(0:M)<(j:M):=by omega
    have b5:¬0<j:=(by omega);have b6:decide ((0:M)<(j:M))=Θ:=o9 a9
    have P:Hid (y++i::X (S.take j)++al=y++i::X (S.take (j+1))):=H (by rw[Q.o,oD B,B];simp[X])
    have F:=H (E.o _ _ a4.o (by have h:=Q.o;rw[oD B] at h;have d:=aM.o;have a:=a8.o;rw[h] at d;rw[B];simp[X];omega))
    clear B
    go_wp2_with fail
    refine F.o.mono ?_;rintro e aY⟨rfl,a⟩;rw[P.o] at a;have R:=H a;clear a F E P a4 a2 am y1 an y2 ao y3 ap y4 aq y5 ar y6 au y7 av a7 aw
    go_wp2_with fail
    go_roundw
    case rel=>exact⟨j+1,by omega,by go_num,R⟩
    case measure=>simp[intOf];omega
   ·have a9:(0:M)<(j:M):=by omega
    have b5:0<j:=(by omega);have b6:decide ((0:M)<(j:M))=true:=nK a9
    have P:Hid (y++i::X (S.take j)++[44]++al=y++i::X (S.take (j+1))):=H (by rw[Q.o,oU B];simp)
    have aF:=H (show(y++i::X (S.take j)++[44]).length+al.length<=1000000000 by have h:=Q.o;rw[oU B] at h;have d:=aM.o;have a:=a8.o;rw[h] at d;simp at d|-;omega)
    have ax:=H (Ig (44:Δ) (44:M) rfl a4.o (by have:=aF.o;simp at this|-;omega));clear B
    go_wp2_with fail
    refine ax.o.mono ?_;rintro e bl⟨rfl,d,aW⟩;have f:=aW wr.heap.size _ _ _ (pG wr (ζ #[N key,K G T,.bool vb,K G Z,N a1,I z C c1,I A D c2,K G vp,K G a0] 156)) (λe=>by have:=(LY.is_lt c.o.1).2;omega) (by decide);rw[pG] at f;have F:=H (E.o _ _ d aF.o);have am:=pJ (j:=0) f rfl;have an:=pJ (j:=1) f rfl;have ao:=pJ (j:=2) f rfl;have ap:=pJ (j:=3) f rfl;have aq:=pJ (j:=4) f rfl;have ar:=pJ (j:=5) f rfl;have au:=pJ (j:=6) f rfl;have av:=pJ (j:=7) f rfl;have aw:=pJ (j:=8) f rfl;clear d ax aW f aO
    go_wp2_with fail
    refine F.o.mono ?_;rintro e aY⟨rfl,a⟩;rw[P.o] at a;have R:=H a;clear a F E P a4 a2 am y1 an y2 ao y3 ap y4 aq y5 ar y6 au y7 av a7 aw
    go_wp2_with fail
    go_roundw
    case rel=>exact⟨j+1,by omega,by go_num,R⟩
    case measure=>simp[intOf];omega
  ·have be:decide ((j:M)<(m:M))=Θ:=o9 (by omega)
   have b3:Hid (S.take j=S):=H (oP (by rw[a3.o.1,aN.o];omega));have ak:=c.o;rw[b3.o] at ak;have aB:=H (b0.o wr _ ak (by have:=a8.o;simp;omega));clear ak
   go_wp2_with fail
   refine aB.o.mono ?_;rintro e aY⟨rfl,a,-⟩;have R:=H a;clear a aB
   go_wp2_with fail
   go_end0
   exact⟨rfl,by have:=R.o;simpa using this⟩
mutual
def JS:Jv.J->Prop
 | .null=>False
 | .bool _=>False
 | .arr l=>JSL l
 | .obj l=>JSM l
 |_=>True
def JSL:U Jv.J->Prop
 |[]=>True
 |a::r=>JS a/\JSL r
def JSM:U (ξ×Jv.J)->Prop
 |[]=>True
 |a::r=>JSP a/\JSM r
def JSP:ξ×Jv.J->Prop
 |(_,a)=>JS a
end
def yG(l:U Jv.J):JSL l↔∀x∈l,JS x:=by
 induction l with
 |nil=>simp[JSL]
 |cons a r ih=>simp[JSL,ih]
def SD(l:U (ξ×Jv.J)):JSM l↔∀p∈l,JS p.2:=by
 induction l with
 |nil=>simp[JSM]
 |cons a r ih=>obtain⟨k,a⟩:=a;simp[JSM,JSP,ih]
structure WT(w:O):Prop where
 u8:U8 w
 lt:Jw.uV w
 pow:∀u,Below w.heap.size w u->Pow u
def QV{d:O}{b:V}(r:WT d)(key:ξ)(a:Jv.J)(k n:M)(h:Bool)(s:ξ)(f:aK Addr)(i c1:V)(g:aK Addr)(l c2:V)(p q:M)(w:O)(m:U Δ)
 (v:yj d b m w) (a0:aI key.data.toList=true) (a1:key.size<=1000000) (y:m.length+(az (key,a)).length<=1000000000)
 (P:∀u o,yj d b o u->o.length+(π a).length<=1000000000->Ξ ν 110 #[ε (Y ⟨b,0,J⟩),.agg #[K G k,.bool h,K G n,N s,I f i c1,I g l c2,K G p]] u λe w'=>e=η (.tuple #[])/\yj d b (o++π a) w'):
 Ξ ν 174 #[ε (Y ⟨b,0,J⟩),.agg #[N key,K G k,.bool h,K G n,N s,I f i c1,I g l c2,K G p,K G q]] w λe w'=>e=η (.tuple #[])/\yj d b (m++az (key,a)) w':=by
 have T:az (key,a)=ς key.data.toList++58::π a:=by simp only[az]
 rw[T] at y|-;have a2:m.length+((ς key.data.toList).length+((π a).length+1))<=1000000000:=by simpa using y
 have a4:=H (v.alloc (ζ #[N key,K G k,.bool h,K G n,N s,I f i c1,I g l c2,K G p,K G q] 156));have L:=H (LY.is_lt v.1).2;obtain⟨x0,x1,x2,x3,x4,x5,x6,x7,x8⟩:=K8 (w:=w) (x0:=N key) (x1:=K G k) (x2:= .bool h) (x3:=K G n) (x4:=N s) (x5:=I f i c1) (x6:=I g l c2) (x7:=K G p) (x8:=K G q) (t:=156);have E:=H (pG w (ζ #[N key,K G k,.bool h,K G n,N s,I f i c1,I g l c2,K G p,K G q] 156));have B:=H (SO key a4.o r.u8 r.lt a0 a1 (by omega));have C:=H P;have F:=H a2;clear v P r a0 a1 y T a2
 go_enter Tryz.func174,Tryz.ntmps174
 go_wp2_with fail
 refine B.o.mono ?_;rintro e a5⟨rfl,Q,W⟩;have x:=W w.heap.size _ _ _ E.o (λe=>by have:=L.o;omega) (by decide);rw[E.o] at x;have D:=H x;have z:=H (Ig (58:Δ) (58:M) rfl Q (by have:=F.o;simp;omega));clear Q W x B x0 x1 x2 x3 x4 x5 x6 x7 x8
 go_wp2_with fail
 refine z.o.mono ?_;rintro e a6⟨rfl,R,Z⟩;have c:=Z w.heap.size _ _ _ D.o (λe=>by have:=L.o;omega) (by decide);rw[D.o] at c;have x1:=pJ (j:=1) c rfl;have x2:=pJ (j:=2) c rfl;have x3:=pJ (j:=3) c rfl;have x4:=pJ (j:=4) c rfl;have x5:=pJ (j:=5) c rfl;have x6:=pJ (j:=6) c rfl;have x7:=pJ (j:=7) c rfl;have A:=H (C.o _ _ R (by have:=F.o;simp;omega));clear R Z c z
 go_wp2_with fail
 refine A.o.mono ?_;rintro e a7⟨rfl,S⟩;have a3:=H S;clear S A C
 go_wp2_with fail
 go_end0
 exact⟨rfl,by have:=a3.o;simpa using this⟩
def fz_cell{b a:V}{w w':O}{n:M}{x0 x1 x3 x4 x5 x6:aE}(d:LY.Fz b w w')(c:w.heap[a]?=Y (Obj.cells #[x0,x1,K G n,x3,x4,x5,x6] 107 (0,0)))(e:a≠b):w'.cell? ⟨a,2,J⟩=Y (K G n):=by have:=d a _ _ _ c e (by decide);rw[c] at this;exact pJ this rfl
def Ep{c:O}{b:V}(C:WT c)(n p:M)(z: -9223372036854775808<=n)(A:n<=9223372036854775807)(w:O)(g:U Δ)(j:yj c b g w)(k:g.length+(aL n).length<=1000000000):
 Ξ ν 110 #[ε (Y ⟨b,0,J⟩),.agg #[K G 2,.bool Θ,K G n,N ⟨#[]⟩,I J 0 0,I J 0 0,K G p]] w λe w'=>e=η (.tuple #[])/\yj c b (g++aL n) w':=by
 have x:=H (j.alloc (ζ #[K G 2,.bool Θ,K G n,N ⟨#[]⟩,I J 0 0,I J 0 0,K G p] 107));obtain⟨x0,x1,x2,x3,x4,x5,x6⟩:=xQ (w:=w) (x0:=K G 2) (x1:= .bool Θ) (x2:=K G n) (x3:=N ⟨#[]⟩) (x4:=I J 0 0) (x5:=I J 0 0) (x6:=K G p) (t:=107);have L:=H (LY.is_lt j.1).2;obtain⟨q,E⟩:=pL (aL n);have h:=H (λu (S:Below c.heap.size c u)=>num_is n z A u (C.pow u S));rw[E] at k h|-;have s:=H (show(⟨q.toArray⟩:ξ).size=q.length by simp[ByteArray.size]);have r:=H (show(⟨q.toArray⟩:ξ).data.toList=q by simp);generalize(⟨q.toArray⟩:ξ)=Q at h s r;clear j C E z A
 go_enter aj,ah
 go_wp2_with fail
 have d:=H (pG w (ζ #[K G 2,.bool Θ,K G n,N ⟨#[]⟩,I J 0 0,I J 0 0,K G p] 107));have i:=H (Rw.lt_of_heap d.o);have o:=H (show w.heap.size≠b fromλe=>by have:=L.o;omega);generalize R:w.heap.size=l at x0 x1 x2 x3 x4 x5 x6 d i o|-;generalize w.alloc _=a at x x0 x1 x2 x3 x4 x5 x6 d i|-;have y:=H (show yj c b g a.drew from x.o.below ((pH a.heap.size a).drew));have m:=H k;clear R k
 go_region_held3 (λw'=>w'.cell? ⟨l,2,J⟩=Y (K G n)) (first|assumption|go_keep)
  (first
    |(go_at_call 170;refine(h.o _ y.o.2).mono ?_;rintro e T ⟨rfl,f⟩;have P:=H (y.o.below f);have y2:=pI x2 (show Below a.heap.size a T from pK (pH a.heap.size a).drew f);have F:=H (((pK (pH a.heap.size a).drew f).block l i.o).trans d.o);clear f)
    |(go_at_call 41;refine(wstr Q P.o (by have:=m.o;omega) (by have:=m.o;rw[s.o];omega)).mono ?_;rintro e W ⟨rfl,B,D⟩;have v:=H B;have y3:=fz_cell D F.o o.o;clear B D))
 rw[r.o] at v
 all_goals
  go_wp2_with fail
  go_end0
  exact⟨rfl,v.o⟩
def Eo{a:O}{b:V}(c:WT a)(s:ξ)(p:M)(w:O)(d:U Δ)(h:yj a b d w)(k:aI s.data.toList=true)(j:s.size<=1000000)(i:d.length+(ς s.data.toList).length<=1000000000):
 Ξ ν 110 #[ε (Y ⟨b,0,J⟩),.agg #[K G 3,.bool Θ,K G 0,N s,I J 0 0,I J 0 0,K G p]] w λe w'=>e=η (.tuple #[])/\yj a b (d++ς s.data.toList) w':=by
 have m:=H (h.alloc (ζ #[K G 3,.bool Θ,K G 0,N s,I J 0 0,I J 0 0,K G p] 107));obtain⟨x0,x1,x2,x3,x4,x5,x6⟩:=xQ (w:=w) (x0:=K G 3) (x1:= .bool Θ) (x2:=K G 0) (x3:=N s) (x4:=I J 0 0) (x5:=I J 0 0) (x6:=K G p) (t:=107);have f:=H (SO s m.o c.u8 c.lt k j i);clear h c k j i
 go_enter aj,ah
 go_wp2_with fail
 refine f.o.mono ?_;rintro e n⟨rfl,g,-⟩;have l:=H g;clear g f
 go_wp2_with fail
 go_end0
 exact⟨rfl,l.o⟩
def Er{a:O}{b:V}(l:U Jv.J)(c:aK Addr)(d c1:V)(p:M)(w:O)(f:U Δ)(j:yj a b f w)
 (h:∀u,yj a b f u->Ξ ν 172 #[ε (Y ⟨b,0,J⟩),.int .u8 91,.int .u8 93,I c d c1,.func (.func 110) #[ε (Y ⟨b,0,J⟩)] #[]] u λe w'=>e=η (.tuple #[])/\yj a b (f++π (.arr l)) w'):
 Ξ ν 110 #[ε (Y ⟨b,0,J⟩),.agg #[K G 4,.bool Θ,K G 0,N ⟨#[]⟩,I c d c1,I J 0 0,K G p]] w λe w'=>e=η (.tuple #[])/\yj a b (f++π (.arr l)) w':=by
 have m:=H (j.alloc (ζ #[K G 4,.bool Θ,K G 0,N ⟨#[]⟩,I c d c1,I J 0 0,K G p] 107));obtain⟨x0,x1,x2,x3,x4,x5,x6⟩:=xQ (w:=w) (x0:=K G 4) (x1:= .bool Θ) (x2:=K G 0) (x3:=N ⟨#[]⟩) (x4:=I c d c1) (x5:=I J 0 0) (x6:=K G p) (t:=107);have g:=H (h _ m.o);clear j h
 go_enter aj,ah
 go_wp2_with fail
 refine g.o.mono ?_;rintro e n⟨rfl,i⟩;have k:=H i;clear i g
 go_wp2_with fail
 go_end0
 exact⟨rfl,k.o⟩
def Es{a:O}{b:V}(l:U (ξ×Jv.J))(c:aK Addr)(d c1:V)(p:M)(w:O)(f:U Δ)(j:yj a b f w)
 (h:∀u,yj a b f u->Ξ ν 173 #[ε (Y ⟨b,0,J⟩),.int .u8 123,.int .u8 125,I c d c1,.func (.func 174) #[ε (Y ⟨b,0,J⟩)] #[]] u λe w'=>e=η (.tuple #[])/\yj a b (f++π (.obj l)) w'):
 Ξ ν 110 #[ε (Y ⟨b,0,J⟩),.agg #[K G 5,.bool Θ,K G 0,N ⟨#[]⟩,I J 0 0,I c d c1,K G p]] w λe w'=>e=η (.tuple #[])/\yj a b (f++π (.obj l)) w':=by
 have m:=H (j.alloc (ζ #[K G 5,.bool Θ,K G 0,N ⟨#[]⟩,I J 0 0,I c d c1,K G p] 107));obtain⟨x0,x1,x2,x3,x4,x5,x6⟩:=xQ (w:=w) (x0:=K G 5) (x1:= .bool Θ) (x2:=K G 0) (x3:=N ⟨#[]⟩) (x4:=I J 0 0) (x5:=I c d c1) (x6:=K G p) (t:=107);have g:=H (h _ m.o);clear j h
 go_enter aj,ah
 go_wp2_with fail
 refine g.o.mono ?_;rintro e n⟨rfl,i⟩;have k:=H i;clear i g
 go_wp2_with fail
 go_end0
 exact⟨rfl,k.o⟩
def Eu{f:O}{b:V}(t:WT f):∀(m d:V)(j:Jv.J)(cs:U aE)(w:O)(a:U Δ),d+m=101->aJ d j->JB j->JS j->Jv f j cs->yj f b a w->a.length+(π j).length<=1000000000->
 Ξ ν 110 #[ε (Y ⟨b,0,J⟩),.agg cs.toArray] w λe w'=>e=η (.tuple #[])/\yj f b (a++π j) w'
 |0,d,j,cs,w,a,hm,ho,hb,hs,h,hW,hl=>by
  exfalso
  cases j<;>simp only[aJ] at ho<;>omega
 |m+1,d,j,cs,w,a,hm,ho,hb,hs,h,hW,hl=>by
  cases j<;>unfold Jv at h
  ·unfold JS at hs;exact hs.elim
  ·unfold JS at hs;exact hs.elim
  ·rename_i n
   obtain⟨p,rfl⟩:=h;unfold JB at hb;have e:π (.int n)=aL n:=(by simp only[π]);rw[e] at hl|-;exact Ep t n p hb.1 hb.2 w a hW hl
  ·rename_i s
   obtain⟨p,rfl⟩:=h;simp only[aJ] at ho;unfold JB at hb;have e:π (.str s)=ς s.data.toList:=(by simp only[π]);rw[e] at hl|-;exact Eo t s p w a hW ho.2 hb hl
  ·rename_i l
   obtain⟨p,v,L,rfl,i,r⟩:=h;simp only[aJ] at ho;unfold JB at hb;unfold JS at hs;rw[Jv.wU] at ho;rw[wV] at hb;rw[yG] at hs;obtain⟨g,T,x,cap,rfl,-,-⟩:=zJ i (PY r);have e:π (.arr l)=91::(X (aH l)++[93]):=(by simp only[π]);refine Er l x l.length cap p w a hW (λu A=>?_);rw[e] at hl|-;refine Y_ f b 91 93 l _ L u i (PY r) hb.1 a A (by simp at hl;omega) ?_;intro j c k E n s C F c1 D P c2 p u o B z y;exact Eu t m (d+1) l[j] _ u o (by omega) (ho.2 _ (pq c)) (hb.2 _ (pq c)) (hs _ (pq c)) y B z
  ·rename_i l
   obtain⟨p,v,L,rfl,i,r⟩:=h;simp only[aJ] at ho;unfold JB at hb;unfold JS at hs;rw[Jv.K5] at ho;rw[K9] at hb;rw[SD] at hs;obtain⟨g,T,x,cap,rfl,-,-⟩:=BF i (PZ r);have e:π (.obj l)=123::(X (aG l)++[125]):=(by simp only[π]);refine Es l x l.length cap p w a hW (λu A=>?_);rw[e] at hl|-;refine Za f b 123 125 l _ L u i (PZ r) hb.1 a A (by simp at hl;omega) ?_;intro j c k E n s C F c1 D P c2 p q u o B z y;refine QV t l[j].1 l[j].2 k n E s C F c1 D P c2 p q u o B (ho.2.2 _ (pq c)).1 (hb.2 _ (pq c)).1 z ?_;intro W S R Q;exact Eu t m (d+1) l[j].2 _ W S (by omega) (ho.2.2 _ (pq c)).2 (hb.2 _ (pq c)).2 (hs _ (pq c)) y R Q
def WT.below{w w':O}(a:WT w)(b:Below w.heap.size w w'):WT w':=⟨Tx.qC a.u8 b,a.lt.below b,λu c=>a.pow u (pK b c)⟩
def Hq(l:U Jv.J)(f:aK Addr)(g c1:V)(w:O)(p:aJ 1 (.arr l))(n:JB (.arr l))(C:JS (.arr l))(k:Jv w (.arr l) (qh 4 Θ 0 ⟨#[]⟩ (I f g c1) rG 0))(m:WT w)(Q:(π (.arr l)).length<=1000000):
 Ξ ν 57 #[.agg #[K G 4,.bool Θ,K G 0,N ⟨#[]⟩,I f g c1,I J 0 0,K G 0]] w λe w'=>e=η (.tuple #[N ⟨(π (.arr l)).toArray⟩,K G 0])/\Below w.heap.size w w':=by
 have a:=pM w (ζ #[K G 4,.bool Θ,K G 0,N ⟨#[]⟩,I f g c1,I J 0 0,K G 0] 107);have x:=H a;obtain⟨x0,x1,x2,x3,x4,x5,x6⟩:=xQ (w:=w) (x0:=K G 4) (x1:= .bool Θ) (x2:=K G 0) (x3:=N ⟨#[]⟩) (x4:=I f g c1) (x5:=I J 0 0) (x6:=K G 0) (t:=107);have r:=H (Xv 4 0 Θ ⟨#[]⟩ f g c1 J 0 0 0 (.arr l) _ p n (Jv.under a _ _ k) (Tx.qC m.u8 a));have o:π (.arr l)≠[]:=by simp[π]
 have i:=H (λ(z:O) (D:Below w.heap.size w z) (b:V) (u:O) (R:yj z b [] u)=>Eu (m.below D) 100 1 (.arr l) _ u [] rfl p n C (Jv.under D _ _ k) R (by simp;omega));obtain⟨q,B⟩:=pL (π (.arr l));rw[B] at i o Q|-;have P:=H o;clear a k m p n C B o
 go_enter Tryz.func57,Tryz.ntmps57
 go_wp2_with fail
 refine r.o.mono ?_;rintro e c⟨rfl,d⟩;have j:=pR x d;replace x0:=pI x0 d;replace x1:=pI x1 d;replace x2:=pI x2 d;replace x3:=pI x3 d;replace x4:=pI x4 d;replace x5:=pI x5 d;replace x6:=pI x6 d;clear d x r;have a:=pM c (ζ #[ε J,I J 0 0] 179);replace x0:=pI x0 a;replace x1:=pI x1 a;replace x2:=pI x2 a;replace x3:=pI x3 a;replace x4:=pI x4 a;replace x5:=pI x5 a;replace x6:=pI x6 a;have y:=H (show yj c c.heap.size [] (c.alloc (ζ #[ε J,I J 0 0] 179)) from⟨Lib.fresh_isBuilder LY.TB LY.TU c,a⟩);have v:=H (i.o c j.o c.heap.size _ y.o);clear a i
 go_wp2_with fail
 refine v.o.mono ?_;rintro e S⟨rfl,h⟩;rw[mw] at h;have s:=H (LY.Tg c.heap.size c.heap.size q S h.1 P.o (by omega));have E:=H (pK j.o h.2);have L:=H (show w.heap.size<=c.heap.size from j.o.size);clear h v y x0 x1 x2 x3 x4 x5 x6
 go_wp2_with fail
 refine s.o.mono ?_;rintro e T⟨rfl,A⟩;have F:=H (E.o.trans (A.mono L.o));clear A s
 go_wp2_with fail
 go_ret2;exact⟨rfl,F.o⟩
end Me
end Go.Proofs.YthbhmjdcfocphaaGreatDoor
