/- A part of this proof. -/
import Derived.Test.YthbhmjdcfocphaaGreatDoorKB
import Derived.Test.YthbhmjdcfocphaaGreatDoorKA
import Derived.StillTailTactics
import Derived.Deep.AppendLies
set_option linter.all false
set_option maxHeartbeats 16000000
set_option maxRecDepth 100000
namespace Go.Proofs.YthbhmjdcfocphaaGreatDoor
open Go.Value renaming string→Y, slice→δ, pointer→ε, int→H
open Go.Obj renaming cells→ζ
open Go.Ending renaming returned→η
open Go.IntKind renaming i64→O
open Go.Lib renaming hid→K, byteCells→ξ, validD→Ω, runeCells→aI, validRune→aM, IsBuilder→aN, cell_of_heap→aO, strCells→aW, Utf8Tabs→aX, bytesWorld→bh, byteCells_length→bK, fresh_isBuilder→bP, toList_data→bQ, encodeRune→bV, indexByte→b9
open _root_ renaming ByteArray→N, UInt8→J, Int→G, List→U, Nat→I, Option→cg
open Js renaming parse→π, esc→aj, body→av, sI→aA, vD→aE, tj→aQ, quote→aY, hx→a_, sO→bL, Ay→bM
open Go.Proofs.Tryz renaming prog→χ, results259→Δ, underlying68→aC, ntmps259→aS, func259→aV, ntmps347→bB, ntmps284→bD, Builder_String_any→bG, func347→bH, func284→bI, underlying384→bO, ntmps308→bT, ntmps224→bU, func308→bY, func224→bZ
open Go.Exit renaming noGoto_ret→Θ
open Bool renaming false→X, true→aT
open Go renaming World→Ξ, Calls→aG, results→aR, maxLen→bS, strOfNums→b_
open Go.RowKit renaming Below→ο
open Option renaming some→V, none→Z
open UInt8 renaming ofNat→aH
open Go.Proofs renaming intOf→aJ
open pY renaming dec→aK, enc→aU
open Go.Value renaming int→aL
open Go.Ending renaming returned→aP
open wu renaming TB→bz, TU→bJ, writeString→bW, sZ→bX
namespace Jw
open RowKit Tx
def below_drewN{B:I}{a w:Ξ}(b:ο B a w)(n:I):ο B a (w.drewN n):=⟨b.os,b.tape,b.output,b.size,b.block⟩
def qB(w:Ξ)(o:Obj):(w.alloc o).heap.size=w.heap.size+1:=by show(w.heap.push o).size=_;exact nI _
def Ef:U G:=[98,8,102,12,110,10,114,13,116,9]
def Eg:Array Value:=(Ef.map λz=>aL .u8 z).toArray
def lC(i:I):G:=Ef.getD (2*i) 0
def lB(i:I):G:=Ef.getD (2*i+1) 0
def uV(w:Ξ):Prop:=∃t a,w.heap[6]?=V (ζ Eg t a)
def uV.below{w w':Ξ}(b:uV w)(d:ο w.heap.size w w'):uV w':=by obtain⟨t,a,c⟩:=b;exact⟨t,a,zU d c⟩
def R1(i:I)(a:i<5)(w:Ξ):(Instr.index 384 (.agg Eg) (H O i)).run χ w= .ok (.agg #[.int .u8 (lC i),.int .u8 (lB i)]) w:=by
 have e:i=0\/i=1\/i=2\/i=3\/i=4:=by omega
 rcases e with rfl|rfl|rfl|rfl|rfl
 all_goals
  clear a;change _=_
  kernel_rfl
def esc_in(c:J)(i:I)(b:i<5)(a:lB i=c.toNat):b_ [92,lC i]=⟨(aj c).toArray⟩:=by
 have e:i=0\/i=1\/i=2\/i=3\/i=4:=by omega
 have u:∀n:I,(n:G)=(c.toNat:G)->n<256->c=aH n:=λn d _=>by
  apply UInt8.toNat_inj.1;simp;omega
 rcases e with rfl|rfl|rfl|rfl|rfl
 ·rw[u 8 a (by decide)];rfl
 ·rw[u 12 a (by decide)];rfl
 ·rw[u 10 a (by decide)];rfl
 ·rw[u 13 a (by decide)];rfl
 ·rw[u 9 a (by decide)];rfl
def NoL(r:G)(k:I):Prop:=∀i,i<k->lB i≠r
def lowS(n:I):N:=⟨#[92,117,48,48,aE (n/16),aE (n%16)]⟩
def esc_out(c:J)(b:c.toNat<32)(a:NoL c.toNat 5):(lowS c.toNat)=⟨(aj c).toArray⟩:=by
 have u:∀n:I,c=aH n->n<256->(n:G)=(c.toNat:G):=λn a _=>by
  subst a;simp;omega
 unfold aj lowS;have i:c≠8:=λe=>a 0 (by decide) (u 8 e (by decide))
 have f:c≠12:=λe=>a 1 (by decide) (u 12 e (by decide))
 have d:c≠10:=λe=>a 2 (by decide) (u 10 e (by decide))
 have g:c≠13:=λe=>a 3 (by decide) (u 13 e (by decide))
 have j:c≠9:=λe=>a 4 (by decide) (u 9 e (by decide))
 have h:c≠34:=λe=>by subst e;revert b;decide
 have k:c≠92:=λe=>by subst e;revert b;decide
 rw[oU (by simp[h,k]),oU (by omega),oU i,oU f,oU d,oU g,oU j]
def Fy:N:=⟨#[48,49,50,51,52,53,54,55,56,57,97,98,99,100,101,102]⟩
def low_cat(n:I)(a:n<32):(⟨#[92,117,48,48]⟩:N)++Fy.extract (n/16) (n/16+1)++Fy.extract (n%16) (n%16+1)=lowS n:=by
 have:∀m:Fin 32,(⟨#[92,117,48,48]⟩:N)++Fy.extract (m.val/16) (m.val/16+1)++Fy.extract (m.val%16) (m.val%16+1)=lowS m.val:=by decide+kernel
 exact this ⟨n,a⟩
def G_(c:J)(w:Ξ)(L:uV w):
 aG χ 284 #[.int .u8 c.toNat] w λe w'=>e=η (Y ⟨(aj c).toArray⟩)/\ο w.heap.size w w':=by
 have o:=mY c
 by_cases a:c.toNat=34\/c.toNat=92
 ·have b:=K (show b_ [92,(c.toNat:G)]=⟨(aj c).toArray⟩ by
   have:c=34\/c=92:=a.imp (λe=>UInt8.toNat_inj.1 e) (λe=>UInt8.toNat_inj.1 e);rcases this with rfl|rfl<;>rfl)
  have m:(convert 68 9 (δ (V ⟨w.heap.size,0,Z⟩) 2 2)).run χ (w.alloc (ζ #[.int .u8 92,.int .u8 (c.toNat:G)] 5))=_:=we w [92,c.toNat] 2 rfl;obtain⟨x,d⟩:∃x:G,x=(c.toNat:G):=⟨_,rfl⟩;rw[<-d] at m b|-;have F:x=34\/x=92:=(by omega);clear a;rcases F with e|e
  all_goals
   rw[e] at m b|-;clear e d o
   go_enter bI,bD
   go_wp2
   go_ret;exact⟨uR b.o,pM _ _⟩
 ·by_cases g:32<=c.toNat
  ·have b:=K (show aj c=[] by
    unfold aj;rw[oU (by rintro(e|e)<;>subst e<;>simp at a),oD g])
   obtain⟨x,d⟩:∃x:G,x=(c.toNat:G):=⟨_,rfl⟩;rw[<-d];have f:(x==34)=X:=(by simp;omega);have v:(x==92)=X:=(by simp;omega);have y:decide ((32:G)<=x)=aT:=(by simp;omega);clear a g d
   go_enter bI,bD
   go_wp2
   go_ret;exact⟨uR (by rw[b.o]),pH _ _⟩
  ·obtain⟨t,E,D⟩:=L
   have r:=K (esc_in c);have u:=K (esc_out c (by omega));have q:=K (low_cat c.toNat (by omega));obtain⟨n,B⟩:∃n:I,n=c.toNat:=⟨_,rfl⟩;rw[<-B] at r u q a g|-;have M:n<32:=(by omega);have f:((n:G)==34)=X:=(by simp;omega);have v:((n:G)==92)=X:=(by simp;omega);have y:decide ((32:G)<=(n:G))=X:=(by simp;omega);clear a g B o
   go_enter bI,bD
   go_wp2_with(refine iV rfl 384 _ rfl 6 rfl t Eg E _ D bO rfl (by kernel_rfl) ?_)
   clear D f v y
   go_loopw [17] (λi wr=>∃k:I,k<=5/\i=H O k/\NoL n k/\ο w.heap.size w wr) (λi _=>(5-aJ i).toNat)
   case atStart=>exact⟨0,by omega,rfl,λi z=>absurd z (by omega),pH _ _⟩
   case round=>
    obtain⟨k,Q,rfl,C,l⟩:=hrel;have s:=K C;have j:=K l;have hz:=l.size;clear C l
    by_cases A:k<5
    ·have P:=R1 k A
     by_cases c1:lB k=n
     ·have h:=K (r.o k A c1)
      have p:=K c1;have f:(lB k==(n:G))=aT:=(by simp[c1]);clear c1
      have m:(convert 68 9 (δ (V ⟨wr.heap.size+1,0,Z⟩) 2 2)).run χ ((wr.alloc (ζ #[.int .u8 (lC k),.int .u8 (lB k)] 383)).alloc (ζ #[.int .u8 92,.int .u8 (lC k)] 5))= .ok (Y (b_ [92,lC k])) ((wr.alloc (ζ #[.int .u8 (lC k),.int .u8 (lB k)] 383)).alloc (ζ #[.int .u8 92,.int .u8 (lC k)] 5)):=by rw[<-qB wr (ζ #[.int .u8 (lC k),.int .u8 (lB k)] 383)];exact we _ [92,lC k] 2 rfl
      go_wp2
      go_ret;exact⟨uR h.o,(j.o.alloc hz _).alloc (by rw[qB];omega) _⟩
     ·have f:(lB k==(n:G))=X:=by simp[c1]
      have p:=K c1;clear c1
      go_wp2
      go_roundw
      case rel=>exact⟨k+1,by omega,by go_num,λi z=>by
       by_cases e:i=k
       ·subst e;exact p.o
       ·exact s.o i (by omega),(j.o).alloc hz _⟩
      case measure=>simp[aJ];omega
    ·obtain rfl:k=5:=by omega
     have h:=K (u.o s.o)
     go_wp2_with fail
     go_quiet(fail)
     go_wp2
     go_ret;exact⟨uR (q.o.trans h.o),below_drewN j.o nq⟩
def He{a b:N}{k:IntKind}{x c:G}(d:a=b)(g:x=c):aP (.tuple #[Y a,.int k x])=η (.tuple #[Y b,.int k c]):=by rw[d,g]
def NH(c:J)(w:Ξ)(b:uV w)(a:aj c=[]):
 aG χ 284 #[.int .u8 c.toNat] w λe w'=>e=η (Y ⟨#[]⟩)/\ο w.heap.size w w':=by
 have:=G_ c w b;rw[a] at this;exact this
def NI(c:J)(x:N)(w:Ξ)(b:uV w)(a:(⟨(aj c).toArray⟩:N)=x):
 aG χ 284 #[.int .u8 c.toNat] w λe w'=>e=η (Y x)/\ο w.heap.size w w':=by
 have:=G_ c w b;rw[a] at this;exact this
def XM(s:N)(b:Bool)(w:Ξ)(d:s.size<=9223372036854775807)(c:aX 2 3 w)(a:Ω s.data.toList=b):
 aG χ 235 #[Y s] w λe w'=>e=η (.bool b)/\ο w.heap.size w w':=by
 rw[<-a];exact Tryz.utf8_ValidString s w d c
def Hf(l m:U J)(a:∀c∈m,aj c=[]):av (l++m)=av l++m:=by
 rw[Js.yE]
 congr 1
 induction m with
 |nil=>rfl
 |cons c m ih=>rw[Js.xd,ih (λd b=>a d (by simp[b]))];unfold Js.q;rw[oD (a c (by simp))];rfl
def yQ(s:N)(f k:I)(a:f<=k):s.data.toList.take k=s.data.toList.take f++(s.extract f k).data.toList:=by
 have:(s.extract f k).data.toList=(s.data.toList.drop f).take (k-f):=by simp[lU,mD]
 rw[this];have e:k=f+(k-f):=by omega
 rw[e,g_]
 congr 2
 omega
def Um(s:N)(f k:I)(x:N)(a:f<=k)(b:k<s.size)(e:∀c∈(s.extract f k).data.toList,aj c=[])(g:(⟨(aj s[k]).toArray⟩:N)=x)(d:aj s[k]≠[]):
 ξ (34::av (s.data.toList.take f))++aW (s.extract f k++x)=ξ (34::av (s.data.toList.take (k+1))):=by
 rw[qi s k b,yQ s f k a,Js.yE,Hf _ _ e,<-g]
 have:av [s[k]]=aj s[k]:=by rw[Js.xd,Js.Nv];unfold Js.q;rw[oU d];simp
 rw[this];simp[ξ,aW,kS]
def XN(s:N)(f:I)(a:f<=s.size)(b:∀c∈(s.extract f s.size).data.toList,aj c=[]):
 ξ (34::av (s.data.toList.take f))++aW (s.extract f s.size++⟨#[34]⟩)=ξ (aY s.data.toList):=by
 have e:s.data.toList=s.data.toList.take f++(s.extract f s.size).data.toList:=by
  have:=yQ s f s.size a
  rwa [oP (by simp)] at this
 unfold aY
 conv=>rhs;rw[e,Hf _ _ b]
 simp[ξ,aW,kS]
def P8(s:N)(f k:I)(g:f<=k)(h:k<s.size)(b:∀c∈(s.extract f k).data.toList,aj c=[])(d:aj s[k]=[]):∀c∈(s.extract f (k+1)).data.toList,aj c=[]:=by
 intro c a;have e:∀n,(s.extract f n).data.toList=(s.data.toList.drop f).take (n-f):=λn=>by simp[lU,mD]
 rw[e] at a b;rw[show k+1-f=(k-f)+1 by omega,l9 (by simp;omega),jU] at a;rcases a with a|a
 ·exact b c a
 ·simp only[mW,lM] at a
  have:c=s[k]:=by rw[a];have:f+(k-f)=k:=(by omega);simp only[this];rfl
  rw[this];exact d
def Un(s:N)(w:Ξ)(ab:s.size<=1000000000)(E:aX 2 3 w)(D:uV w)(P:Ω s.data.toList=aT):
 aG χ 238 #[Y s] w λe w'=>e=η (.tuple #[Y ⟨(aY s.data.toList).toArray⟩,H O 0])/\ο w.heap.size w w':=by
 have W:=K E;have A:=K D;have a0:=K P;clear E D P
 go_enter Tryz.func238,Tryz.ntmps238
 go_wp2_with fail
 refine(XM s aT _ (by omega) W.o a0.o).mono ?_;rintro e a⟨rfl,b⟩;have y:=K b;have ae:=b.size;clear b
 go_wp2_with fail
 refine(wu.uY a.heap.size a.heap.size [] 34 _ (bP bz bJ a) (by simp) (by rw[qB];omega)).mono ?_;rintro e a5⟨rfl,C,F⟩;have T:=K (show aN bz bJ a.heap.size a.heap.size (ξ (34::av (s.data.toList.take 0))) a5 from C);have Q:=K ((pM a _).trans F);clear C F
 go_wp2_with fail
 go_loopw [5,14] (λg i wr=>∃k f:I,k<=s.size/\f<=k/\i=H O k/\g=H O f/\Hid (∀c∈(s.extract f k).data.toList,aj c=[])/\Hid (aN bz bJ a.heap.size a.heap.size (ξ (34::av (s.data.toList.take f))) wr)/\Hid (ο a.heap.size a wr)) (λ_ i _=>s.size-(aJ i).toNat)
 case atStart=>exact⟨0,0,oM _,oZ _,rfl,rfl,by intro c hc;simp at hc,T.o,Q.o⟩
 case round=>
  obtain⟨k,f,aa,v,rfl,rfl,u,q,j⟩:=hrel;have hz:=j.o.size
  have B:=K (show(ξ (34::av (s.data.toList.take f))).length<=6*f+1 by have:=(Js.GM (s.data.toList.take f)).2;have a9:(s.data.toList.take f).length<=f:=mZ _ _;rw[bK,oJ];omega)
  have z:=K (uo y.o j.o)
  by_cases M:k<s.size
  ·have a8:=mY s[k]
   by_cases h:aj s[k]=[]
   ·have l:=K (P8 s f k v M u.o h)
    have S:=K h;clear h
    go_wp2_with fail
    refine(NH _ _ (A.o.below z.o) S.o).mono ?_;rintro e a6⟨rfl,b⟩;have o:=pR j b;have r:=K (bX q.o b);clear b
    go_wp2_with fail
    go_roundw
    case rel=>exact⟨k+1,f,by omega,by omega,by go_num,rfl,l.o,r.o,o.o⟩
    case measure=>simp[aJ];omega
   ·obtain⟨x,n⟩:∃x:N,(⟨(aj s[k]).toArray⟩:N)=x:=⟨_,rfl⟩
    have ac:x.size<=6:=(by rw[<-n];exact Js.wP _)
    have ad:x.toList.isEmpty=X:=by rw[bQ,<-n];simpa using h
    have l:=K (Um s f k x v M u.o n h);have a1:=K n;clear h n
    go_wp2_with fail
    refine(NI _ x _ (A.o.below z.o) a1.o).mono ?_;rintro e a6⟨rfl,b⟩;have o:=pR j b;have r:=K (bX q.o b);have a3:=o.o.size;clear b;have a2:(s.extract f k).size<=s.size:=by simp;omega
    go_wp2_with fail
    refine(bW a.heap.size a.heap.size (ξ (34::av (s.data.toList.take f))) _ _ r.o (by have:=B.o;rw[nW];omega) a3).mono ?_;rintro e a7⟨rfl,d,m⟩;rw[l.o] at d;have t:=K d;have p:=K (o.o.trans m);clear d m
    go_wp2_with fail
    go_roundw
    case rel=>exact⟨k+1,k+1,by omega,by omega,by go_num,by go_num,by intro c hc;simp at hc,t.o,p.o⟩
    case measure=>simp[aJ];omega
  ·obtain rfl:k=s.size:=by omega
   have l:=K (XN s f v u.o);have a2:(s.extract f s.size).size<=s.size:=by simp
   go_wp2_with fail
   refine(bW a.heap.size a.heap.size (ξ (34::av (s.data.toList.take f))) _ _ q.o (by have:=B.o;rw[nW];have:(⟨#[34]⟩:N).size=1:=rfl;omega) hz).mono ?_;rintro e a7⟨rfl,d,m⟩;rw[l.o] at d;have t:=K d;have p:=K (j.o.trans m);have a4:=p.o.size;clear d m
   go_wp2_with fail
   refine(bG a.heap.size a.heap.size (aY s.data.toList) _ t.o a4).mono ?_;rintro e af⟨rfl,L⟩;have R:=pR y (p.o.trans L);clear L
   go_wp2_with fail
   go_ret2;exact⟨rfl,R.o⟩
def xU(c:J):J:=if c=34\/c=92 then c else if c=8 then 98 else if c=9 then 116 else if c=10 then 110 else if c=12 then 102 else if c=13 then 114 else 0
def P9(c:J)(w:Ξ):
 aG χ 224 #[.int .u8 c.toNat] w λe w'=>e=η (.int .u8 (xU c).toNat)/\w'=w:=by
 by_cases a:c=34\/c=92\/c=8\/c=9\/c=10\/c=12\/c=13
 ·rcases a with rfl|rfl|rfl|rfl|rfl|rfl|rfl
  all_goals
   go_enter bZ,bU
   go_wp2
   go_ret;exact⟨rfl,rfl⟩
 ·have u:∀n:I,c≠aH n->n<256->((c.toNat:G)==(n:G))=X:=λn d m=>by
   rw[oq];intro e;apply d;apply UInt8.toNat_inj.1;simp;omega
  have b:=K (show xU c=0 by unfold xU;simp only[not_or] at a;simp[a]);simp only[not_or] at a;have f:((c.toNat:G)==34)=X:=u 34 a.1 (by decide);have g:((c.toNat:G)==92)=X:=u 92 a.2.1 (by decide);have h:((c.toNat:G)==8)=X:=u 8 a.2.2.1 (by decide);have i:((c.toNat:G)==9)=X:=u 9 a.2.2.2.1 (by decide);have j:((c.toNat:G)==10)=X:=u 10 a.2.2.2.2.1 (by decide);have k:((c.toNat:G)==12)=X:=u 12 a.2.2.2.2.2.1 (by decide);have l:((c.toNat:G)==13)=X:=u 13 a.2.2.2.2.2.2 (by decide);clear a u
  go_enter bZ,bU
  go_wp2
  go_ret;exact⟨RD (by rw[b.o];rfl),rfl⟩
def BH(c d:J)(w:Ξ)(a:xU c=d):
 aG χ 224 #[.int .u8 c.toNat] w λe w'=>e=η (.int .u8 d.toNat)/\w'=w:=by
 rw[<-a];exact P9 c w
def rvalidT(s:N)(w:Ξ)(n:s.size<=9223372036854775807):
 aG χ 223 #[Y s] w λe w'=>e=η (.bool (Ω s.data.toList))/\ο w.heap.size w w':=by
 go_enter Tryz.func223,Tryz.ntmps223
 go_wp2
 go_loopw [3] (λa wr=>∃k:I,k<=s.size/\a=H O k/\Hid (Ω s.data.toList=Ω (s.data.toList.drop k))/\ο w.heap.size w wr) (λa _=>s.size-(aJ a).toNat)
 case atStart=>exact⟨0,oM _,rfl,by simp[Hid],pH _ _⟩
 case round=>
  obtain⟨k,r,rfl,m,j⟩:=hrel;have h:=K j;have hz:=j.size;clear j
  by_cases g:k<s.size
  ·by_cases b:(aK (s.data.toList.drop k)).2=0
   ·have c:=K (show Ω s.data.toList=X by
     rw[m.o];cases e:Ω (s.data.toList.drop k)
     ·rfl
     ·exact absurd b (pY.JF (yD g) e).1)
    have i:=K b;clear b
    go_wp2_with(go_at_call 134;refine(ES s k _ g n i.o).mono ?_;rintro e q ⟨rfl,l⟩)
    go_ret;exact⟨qL (by rw[c.o]),uo h.o (by assumption)⟩
   ·have c:=K (show Ω s.data.toList=Ω (s.data.toList.drop (k+(aK (s.data.toList.drop k)).2)) by rw[m.o,pY.DG b,lE])
    obtain⟨d,M,f⟩:∃d M,aK (s.data.toList.drop k)=(d,M):=⟨_,_,rfl⟩;obtain⟨p,t,u⟩:=FU s k d M f g;rw[f] at c b;have v:1<=M:=(by simp at b;omega);have i:=K f;clear f b
    go_wp2_with fail
    refine(zO s k d M _ g n i.o).mono ?_;rintro e q⟨rfl,l⟩;have o:=pR h l;clear l
    go_wp2_with fail
    go_roundw
    case rel=>exact⟨k+M,p,by go_num,c.o,o.o⟩
    case measure=>simp[aJ];omega
  ·obtain rfl:k=s.size:=by omega
   have c:=K (show Ω s.data.toList=aT by have e:s.data.toList.drop s.size=[]:=mB (lG (by simp));rw[m.o,e];rfl)
   go_wp2
   go_ret;exact⟨qL (by rw[c.o]),h.o⟩
def D1(s:N)(b:Bool)(w:Ξ)(c:s.size<=9223372036854775807)(a:Ω s.data.toList=b):
 aG χ 223 #[Y s] w λe w'=>e=η (.bool b)/\ο w.heap.size w w':=by
 rw[<-a];exact rvalidT s w c
def Hg(P:J->Prop)[DecidablePred P](a:∀n:Fin 256,P (aH n.val))(c:J):P c:=by have:=a ⟨c.toNat,mY c⟩;simpa using this
def q_a(c:J)(a:xU c≠0):Js.q c=[92,xU c]:=
 Hg (λc=>xU c≠0->Js.q c=[92,xU c]) (by decide+kernel) c a
def q_b(c:J)(a:xU c=0)(b:c.toNat<32):Js.q c=[92,117,48,48,aE (c.toNat/16),aE (c.toNat%16)]:=
 Hg (λc=>xU c=0->c.toNat<32->Js.q c=[92,117,48,48,aE (c.toNat/16),aE (c.toNat%16)]) (by decide+kernel) c a b
def q_c(c:J)(a:xU c=0)(b:32<=c.toNat):Js.q c=[c]:=
 Hg (λc=>xU c=0->32<=c.toNat->Js.q c=[c]) (by decide+kernel) c a b
def dig_at(n:I)(b:n<16):∃a:n<Fy.size,Fy[n]'a=aE n:=by
 have:∀m:Fin 16,∃a:m.val<Fy.size,Fy[m.val]'a=aE m.val:=by decide+kernel
 exact this ⟨n,b⟩
def Uo(s:N)(k:I)(a:k<s.size):(34::av (s.data.toList.take (k+1)):U J)=(34::av (s.data.toList.take k))++Js.q s[k]:=by rw[qi s k a,Js.yE,Js.xd,Js.Nv];simp
def R5(w:Ξ)(c:J):(w.alloc (ζ #[.int .u8 c.toNat] 5)).ownsRow w.heap.size 5 1 (δ (V ⟨w.heap.size,0,Z⟩) 1 1) 1 (ξ [c]):=
 ⟨by simp[ξ],.inr ⟨w.heap.size,1,_,rfl,oZ _,sK w _,oZ _,by unfold bS;omega,rfl,by simp[ξ]⟩⟩
def Eh(w:Ξ)(a:U Value)(j:I)(u:Value)(c:a[j]?=V u):(w.alloc (ζ a.toArray 5)).cell? ((⟨w.heap.size,0,Z⟩:Addr).add j)=V u:=by
 have b:=sK w (ζ a.toArray 5);have e:((⟨w.heap.size,0,Z⟩:Addr).add j)=⟨w.heap.size,j,Z⟩:=by simp[Addr.add];omega
 rw[e];unfold World.cell?;simp only[b];simpa using c
def six_one(a b c d e f:G):∀u∈[aL .u8 a,.int .u8 b,.int .u8 c,.int .u8 d,.int .u8 e,.int .u8 f],u.oneCell'=aT:=by intro u h;simp only[ox,oy,nw] at h;rcases h with g|g|g|g|g|g<;>subst g<;>rfl
def wrap_u8(x:G)(a:0<=x)(b:x<256):IntKind.u8.wrap x=x:=by rw[IntKind.wrap_u8];omega
def XO(n:I)(b:n<16):∀a,(⟨#[48,49,50,51,52,53,54,55,56,57,97,98,99,100,101,102]⟩:N)[n]'a=aE n:=by intro a;obtain⟨d,c⟩:=dig_at n b;exact c
def one_two(x c:G):∀u∈[aL .u8 x,.int .u8 c],u.oneCell'=aT:=by
 intro u b;rcases List.mem_cons.1 b with a|a
 ·subst a;rfl
 ·rcases List.mem_cons.1 a with a|a
  ·subst a;rfl
  ·cases a
def P0(s:N)(w:Ξ)(ao:s.size<=1000000000)(a9:Ω s.data.toList=aT):
 aG χ 150 #[Y s] w λe w'=>e=η (.tuple #[Y ⟨(aY s.data.toList).toArray⟩,H O 0])/\ο w.heap.size w w':=by
 have ag:=K a9;clear a9;obtain⟨M,a8,a1,aa,ab⟩:=info_parts O8;have b:=K (And.intro a8 (And.intro a1 (And.intro aa ab)));clear a8 a1 aa ab
 go_enter Tryz.func150,Tryz.ntmps150
 go_wp2_with fail
 refine(D1 s aT _ (by omega) ag.o).mono ?_;rintro e g⟨rfl,W⟩;have ae:=K W;have a1:=W.size;clear W;have af:=K (R5 g 34)
 go_wp2_with fail
 go_loopw [4,5] (λv i wr=>∃(k:I)(o:U J)(a:cg Addr)(cap:I),k<=s.size/\i=H O k/\v=δ a o.length cap/\Hid ((34::av (s.data.toList.take k):U J)=o)/\Hid (wr.ownsRow g.heap.size 5 1 (δ a o.length cap) o.length (ξ o))/\Hid (ο g.heap.size g wr)) (λ_ i _=>s.size-(aJ i).toNat)
 case atStart=>exact⟨0,[34],_,1,oM _,rfl,rfl,rfl,af.o,pM _ _⟩
 case round=>
  obtain⟨k,o,a,cap,n,rfl,rfl,D,m,B⟩:=hrel;have hz:=B.o.size
  have an:o.length<=6*k+1:=by have:=(Js.GM (s.data.toList.take k)).2;have al:(s.data.toList.take k).length<=k:=mZ _ _;rw[<-D.o,oJ];omega
  by_cases ai:k<s.size
  ·have ad:=mY s[k]
   have P:=K (Uo s k ai)
   by_cases l:xU s[k]=0
   ·have y:=K l
    by_cases a7:s[k].toNat<32
    ·have j:=K (show(34::av (s.data.toList.take (k+1)):U J)=o++[92,117,48,48,aE (s[k].toNat/16),aE (s[k].toNat%16)] by rw[P.o,D.o,q_b _ l a7])
     obtain⟨x,a0⟩:∃x:I,x=s[k].toNat:=⟨_,rfl⟩
     have Q:IntKind.u8.wrap ((x:G)/16)=((x/16:I):G):=by rw[wrap_u8 _ (by omega) (by omega)];rfl
     have S:(x:G).tmod 16=((x%16:I):G):=rfl;have a2:=XO (x/16) (by omega);have a6:=XO (x%16) (by omega);obtain⟨A,R⟩:∃A,A=x/16:=⟨_,rfl⟩;obtain⟨C,T⟩:∃C,C=x%16:=⟨_,rfl⟩;have ap:(A:G)<16:=(by omega);have lC:(C:G)<16:=(by omega);rw[<-a0,<-R,<-T] at j;rw[<-R] at Q a2;rw[<-T] at S a6;rw[a0] at Q S;clear l a0 R T
     go_wp2_with fail
     refine(BH _ 0 _ y.o).mono ?_;rintro e w'⟨rfl,rfl⟩
     go_wp2_with fail
     go_region_law (refine step_append_lies _ rfl (.tmp 36) (.tmp 43) 68 rfl g.heap.size 5 M (.int .u8 0) 1 1 aC b.o.1 b.o.2.1 b.o.2.2.1 b.o.2.2.2 rfl (by decide) _ _ _ (by simp[Act.eval]) (m.o.drew.alloc _) ⟨w'.heap.size,0,Z⟩ 6 6 [.int .u8 92,.int .u8 117,.int .u8 48,.int .u8 48,.int .u8 (aE A).toNat,.int .u8 (aE C).toNat] (by simp[Act.eval]) rfl (Eh w'.drew _) (six_one _ _ _ _ _ _) (by decide) (by unfold bS;omega) (by omega) (by show _<=(World.alloc _ _).heap.size;rw[qB];omega) _ rfl ?_;intro L h p c f _ _)
     all_goals
      rename_i L h p c f _ _
      have r:=K (show p.ownsRow g.heap.size 5 1 (δ (V ⟨L,0,Z⟩) (o++[92,117,48,48,aE A,aE C]).length h) (o++[92,117,48,48,aE A,aE C]).length (ξ (o++[92,117,48,48,aE A,aE C])) by simpa [ξ] using c);have q:=K ((B.o.drew.alloc hz _).grown f (by show _<=(World.alloc _ _).heap.size;rw[qB];show _<=w'.heap.size+1;omega) (λk n=>(m.o.lt k n).1));clear c f Q S a2 a6
      go_wp2_with fail
      go_roundw
      case rel=>exact⟨k+1,o++[92,117,48,48,aE A,aE C],V ⟨L,0,Z⟩,h,by omega,by go_num,by simp,j.o,r.o,q.o⟩
      case measure=>simp[aJ];omega
    ·have j:=K (show(34::av (s.data.toList.take (k+1)):U J)=o++[s[k]] by rw[P.o,D.o,q_c _ l (by omega)])
     obtain⟨d,z⟩:=pL (s[k]);have ah:decide ((s[k].toNat:G)<32)=X:=(by simp;omega);rw[z] at j y ad ah;clear l a7
     go_wp2_with fail
     refine(BH _ 0 _ y.o).mono ?_;rintro e w'⟨rfl,rfl⟩
     go_wp2_with(at_builtin;refine mJ _ rfl _ _ 68 rfl g.heap.size 5 M (.int .u8 0) 1 1 aC b.o.1 b.o.2.1 b.o.2.2.1 b.o.2.2.2 rfl (by decide) _ _ _ rfl (m.o.alloc _) ⟨w'.heap.size,0,Z⟩ 1 1 [.int .u8 (d.toNat)] rfl rfl (wQ w' _) (λu E=>by simp at E;subst E;rfl) ?a3 ?a4 ?a5 ?_)
     case a3=>unfold bS;omega
     case a4=>omega
     case a5=>rw[qB];omega
     intro ac p c f _;obtain⟨t,h,F⟩:=qP c;subst F;have r:=K (show p.ownsRow g.heap.size 5 1 (δ t (o++[d]).length h) (o++[d]).length (ξ (o++[d])) by rw[<-tJ];simpa using c);have q:=K ((B.o.alloc hz _).grown f (by rw[qB];omega) (λk n=>(m.o.lt k n).1));clear c f z
     go_wp2_with fail
     go_roundw
     case rel=>exact⟨k+1,o++[d],t,h,by omega,by go_num,by simp,j.o,r.o,q.o⟩
     case measure=>simp[aJ];omega
   ·have j:=K (show(34::av (s.data.toList.take (k+1)):U J)=o++[92,xU s[k]] by rw[P.o,D.o,q_a _ l])
    obtain⟨d,z⟩:=pL (xU s[k]);rw[z] at j l;have y:=K z
    have L:((d.toNat:G)==0)=X:=by rw[oq];intro e;apply l;apply UInt8.toNat_inj.1;simp;omega
    clear l z;have ak:=mY d
    go_wp2_with fail
    refine(BH _ d _ y.o).mono ?_;rintro e w'⟨rfl,rfl⟩
    go_wp2_with fail
    refine(BH _ d _ y.o).mono ?_;rintro e w'⟨rfl,rfl⟩
    go_wp2_with(at_builtin;refine mJ _ rfl _ _ 68 rfl g.heap.size 5 M (.int .u8 0) 1 1 aC b.o.1 b.o.2.1 b.o.2.2.1 b.o.2.2.2 rfl (by decide) _ _ _ rfl (m.o.alloc _) ⟨w'.heap.size,0,Z⟩ 2 2 [.int .u8 92,.int .u8 (d.toNat)] rfl rfl (Eh w' _) (one_two _ _) ?a3 ?a4 ?a5 ?_)
    case a3=>unfold bS;omega
    case a4=>omega
    case a5=>rw[qB];omega
    intro ac p c f _;obtain⟨t,h,F⟩:=qP c;subst F;have r:=K (show p.ownsRow g.heap.size 5 1 (δ t (o++[92,d]).length h) (o++[92,d]).length (ξ (o++[92,d])) by simpa [ξ] using c);have q:=K ((B.o.alloc hz _).grown f (by rw[qB];omega) (λk n=>(m.o.lt k n).1));clear c f
    go_wp2_with fail
    go_roundw
    case rel=>exact⟨k+1,o++[92,d],t,h,by omega,by go_num,by simp,j.o,r.o,q.o⟩
    case measure=>simp[aJ];omega
  ·obtain rfl:k=s.size:=by omega
   have j:=K (show aY s.data.toList=o++[34] by have:=D.o;rw[oP (by simp)] at this;rw[<-this];rfl)
   go_wp2_with(at_builtin;refine mJ _ rfl _ _ 68 rfl g.heap.size 5 M (.int .u8 0) 1 1 aC b.o.1 b.o.2.1 b.o.2.2.1 b.o.2.2.2 rfl (by decide) _ _ _ rfl (m.o.alloc _) ⟨wr.heap.size,0,Z⟩ 1 1 [.int .u8 (34)] rfl rfl (wQ wr _) (λu E=>by simp at E;subst E;rfl) ?a3 ?a4 ?a5 ?_)
   case a3=>unfold bS;omega
   case a4=>omega
   case a5=>rw[qB];omega
   intro ac p c f _;obtain⟨t,h,F⟩:=qP c;subst F;have r:=K (show p.ownsRow g.heap.size 5 1 (δ t (o.length+1) h) (o++[34]).length (ξ (o++[34])) by simpa [ξ] using c);have q:=K (uo ae.o ((B.o.alloc hz _).grown f (by rw[qB];omega) (λk n=>(m.o.lt k n).1)));clear c f;have am:=Dz r.o
   go_wp2_with fail
   go_ret2;exact⟨He (by rw[j.o]) rfl,q.o⟩
def R6{k:IntKind}{a b:G}(c:a=b):aL k a=aL k b:=by rw[c]
def hz(o:cg I):G:=match o with|Z=>-1|V n=>n
def hx_none(l:U J)(i:I)(e:a_ l i=Z):∀j,i<=j->a_ l j=Z:=by
 intro j
 induction j with
 |zero=>intro a;obtain rfl:i=0:=by omega
        exact e
 |succ j ih=>
  intro a
  by_cases b:i=j+1
  ·rw[<-b];exact e
  ·simp only[a_]
   rw[ih (by omega)];rfl
def hx_succ(l:U J)(i n:I)(x:I)(b:(l.getD (2+i) 0).toNat=x)(a:a_ l i=V n):a_ l (i+1)=(bM x).map λd=>n*16+d:=by simp only[a_];rw[a,b];rfl
def pow_bd{i n:I}(b:n<16^i)(a:i<=3):n<4096:=by have:16^i<=16^3:=Nat.pow_le_pow_right (by decide) a;omega
def drop_at(s:N)(k i:I)(a:k+i<s.size):(s.data.toList.drop k).getD i 0=s[k+i]'a:=UInt8.toNat_inj.1 (D9 s k i a)
def NJ{c:J}{n:I}(b:n<256)(a:c≠aH n):((c.toNat:G)==(n:G))=X:=by rw[oq];intro e;apply a;apply UInt8.toNat_inj.1;simp;omega
def P_(c:J):cg (I×I):=
 if c=34\/c=92\/c=47 then V (c.toNat,2) else if c=98 then V (8,2) else if c=102 then V (12,2) else if c=110 then V (10,2) else if c=114 then V (13,2) else if c=116 then V (9,2) else Z
def FA(l:U J):I×I:=
 match aA l with
  |none=>(0,0)
  |some r=>if 56320<=r/\r<=57343 then(0,0) else if r<55296\/57343<r then(r,6)
   else match aA (l.drop 6) with
    |none=>(0,0)
    |some m=>if m<56320\/57343<m then(0,0) else((r-55296)*1024+(m-56320)+65536,12)
def seq_let(l:U J)(x:I×I)(a:P_ (l.getD 1 0)=V x):aQ l=x:=by
 unfold P_ at a;unfold aQ
 repeat' split at a
 all_goals simp_all
def seq_num(l:U J)(g:P_ (l.getD 1 0)=Z):aQ l=FA l:=by
 unfold P_ at g;unfold aQ
 repeat' split at g
 all_goals first|(cases g;done)|skip
 rename_i a b c d e f
 rw[oU a,oU b,oU c,oU d,oU e,oU f];rfl
def XP{l:U J}(a:aA l=Z):FA l=(0,0):=by unfold FA;rw[a]
def num_low{l:U J}{r:I}(a:aA l=V r)(b:56320<=r)(c:r<=57343):FA l=(0,0):=by unfold FA;rw[a];simp[b,c]
def R7{l:U J}{r:I}(a:aA l=V r)(b:r<55296\/57343<r):FA l=(r,6):=by unfold FA;rw[a];simp only;rw[oU (by omega),oD b]
def Lb{l:U J}{r:I}(a:aA l=V r)(c:55296<=r)(d:r<=56319)(b:∀m,aA (l.drop 6)=V m->m<56320\/57343<m):FA l=(0,0):=by
 unfold FA;rw[a];simp only;rw[oU (by omega),oU (by omega)]
 cases e:aA (l.drop 6) with
 |none=>rfl
 |some m=>simp only;rw[oD (b m e)]
def num_two{l:U J}{r m:I}(a:aA l=V r)(c:55296<=r)(d:r<=56319)(b:aA (l.drop 6)=V m)(e:56320<=m)(f:m<=57343):FA l=((r-55296)*1024+(m-56320)+65536,12):=by unfold FA;rw[a];simp only;rw[oU (by omega),oU (by omega),b];simp only;rw[oU (by omega)]
def i32_or4(x a:G)(c:0<=x)(b:x%16=0)(d:x<2147483648)(e:0<=a)(f:a<16):bits .or .i32 x a=x+a:=
 bits_join .i32 31 (by decide) wraps_i32 4 x a c b d e f (by omega)
def FB(c:J):G:=if 65<=c.toNat/\c.toNat<=70 then(c.toNat:G)+32 else c.toNat
def idx_hex(c:J):b9 Fy.data.toList (FB c).toNat.toUInt8=hz (bM c.toNat):=
 Hg (λc=>b9 Fy.data.toList (FB c).toNat.toUInt8=hz (bM c.toNat)) (by decide+kernel) c
def zx(x:G)(c:J)(b:x=FB c)(z:G)(a:hz (bM c.toNat)=z)(w:Ξ):
 aG χ 270 #[Y Fy,.int .u8 x] w λe w'=>e=η (H O z)/\w'=w:=by
 subst b;have:=Tryz.strings_IndexByte Fy (FB c) w;rw[idx_hex,a] at this;exact this
def uz(o:cg I):G:=match o with|Z=>0|V n=>n
def EW(w:Ξ)(e:TypeId)(s:N):ο w.heap.size w (bh w e s):=
 ⟨rfl,rfl,rfl,by rw[Lib.bytesWorld_size];omega,λk a=>Lib.bytesWorld_at_old w e s k a⟩
def xV{k:IntKind}{a b:G}{c d:Bool}(e:a=b)(g:c=d):aP (.tuple #[.int k a,.bool c])=η (.tuple #[.int k b,.bool d]):=by rw[e,g]
def JP(t:N)(w:Ξ)(ab:t.size<=1000000000):
 aG χ 347 #[Y t] w λe w'=>e=η (.tuple #[.int .i32 (uz (aA t.data.toList)),.bool (aA t.data.toList).isSome])/\ο w.heap.size w w':=by
 by_cases S:t.size<6
 ·have a:=K (show aA t.data.toList=Z from Js.PS (by simpa using S))
  go_enter bH,bB
  go_wp2
  go_ret2;exact⟨xV (by rw[a.o];rfl) (by rw[a.o];rfl),pH _ _⟩
 ·have a1:6<=t.size:=by omega
  clear S;obtain⟨p,W⟩:=pL (t.extract 0 2)
  have y:p.toList=[t[0],t[1]]:=by rw[<-W,bQ,lU,jZ,mD];rw[nO,l9 (by simp;omega),l9 (by simp;omega),lP];rfl
  have m:=drop_at t 0 0 (by omega);have o:=drop_at t 0 1 (by omega);rw[nO] at m o;simp only[nh] at m o;have z:=K (show¬(t.data.toList.length<6) by simpa using a1)
  by_cases h:t[0]=92/\t[1]=117
  ·have a:=K (show aA t.data.toList=a_ t.data.toList 4 by
    unfold aA;rw[oU];rintro(l|l|l)
    ·exact z.o l
    ·exact l (m.trans h.1)
    ·exact l (o.trans h.2))
   have Q:(p.toList==[92,117])=aT:=(by rw[y,h.1,h.2];rfl);have a0:(t.extract 2 6).size=4:=(by simp;omega);have x:=Lib.run_convert_string_bytes (P:=χ) w 9 68 5 (t.extract 2 6) (u:= .string) Tryz.underlying9 aC Tryz.underlying5;have A:=EW w 5 (t.extract 2 6)
   have C:∀j,j<4->(bh w 5 (t.extract 2 6)).cell? ⟨w.heap.size,j,Z⟩=V (.int .u8 (t.data.toList.getD (2+j) 0).toNat):=by
    intro j a8;rw[Lib.bytesWorld_cell w _ _ j (by omega)]
    congr 3
    rw[lU,jZ,mD,om,om,List.getElem?_take_of_lt (by omega),kU]
   generalize bh w 5 (t.extract 2 6)=a5 at x A C;rw[a0] at x;generalize grownCap w 4 0 5=cap at x;have r:=K A;have F:=K C;obtain⟨L,T⟩:∃L,L=t.data.toList:=⟨_,rfl⟩;rw[<-T] at a F|-;clear A C m o y h a0 T z
   go_enter bH,bB
   go_wp2
   clear x Q W
   go_loop [4,20] (λv c=>∃i n:I,i<=4/\c=H O i/\v= .int .i32 n/\Hid (a_ L i=V n)) (λ_ c=>(4-aJ c).toNat)
   case atStart=>exact⟨0,0,by omega,rfl,rfl,rfl⟩
   case round=>
    obtain⟨i,n,a7,rfl,rfl,s⟩:=hrel
    by_cases a3:i<4
    ·have a9:=pow_bd (Js.Xg L i n s.o) (by omega)
     obtain⟨c,B⟩:=pL (L.getD (2+i) 0);have a2:=F.o i a3;rw[B] at a2;have M:=K (hx_succ L i n _ (by rw[B]) s.o);have a4:=mY c;clear B;rcases hh:bM c.toNat with _|d
     ·have b:=K (show a_ L 4=Z from hx_none L (i+1) (by rw[M.o,hh];rfl) 4 (by omega))
      have k:=K (show hz (bM c.toNat)=-1 by rw[hh];rfl);clear hh
      by_cases g:65<=c.toNat/\c.toNat<=70
      ·have f:=K (show FB c=(c.toNat:G)+32 by unfold FB;rw[oD g])
       obtain⟨q,D⟩:=g
       go_wp2_with fail
       refine(zx _ c f.o.symm (-1) k.o _).mono ?_;rintro e w'⟨rfl,rfl⟩
       go_wp2_with fail
       go_ret2;exact⟨xV (by rw[a.o,b.o];rfl) (by rw[a.o,b.o];rfl),r.o⟩
      ·have f:=K (show FB c=(c.toNat:G) by unfold FB;rw[oU g])
       have E:c.toNat<65\/(65<=c.toNat/\70<c.toNat):=(by omega);clear g;rcases E with q|⟨q,D⟩
       ·go_wp2_with fail
        refine(zx _ c f.o.symm (-1) k.o _).mono ?_;rintro e w'⟨rfl,rfl⟩
        go_wp2_with fail
        go_ret2;exact⟨xV (by rw[a.o,b.o];rfl) (by rw[a.o,b.o];rfl),r.o⟩
       ·go_wp2_with fail
        refine(zx _ c f.o.symm (-1) k.o _).mono ?_;rintro e w'⟨rfl,rfl⟩
        go_wp2_with fail
        go_ret2;exact⟨xV (by rw[a.o,b.o];rfl) (by rw[a.o,b.o];rfl),r.o⟩
     ·have a6:=Js.RL hh
      have b:=K (show a_ L (i+1)=V (n*16+d) by rw[M.o,hh];rfl);have k:=K (show hz (bM c.toNat)=d by rw[hh];rfl);have aa:=i32_or4 ((n:G)*16) d (by omega) (by omega) (by omega) (by omega) (by omega);clear hh
      by_cases g:65<=c.toNat/\c.toNat<=70
      ·have f:=K (show FB c=(c.toNat:G)+32 by unfold FB;rw[oD g])
       obtain⟨q,D⟩:=g
       go_wp2_with fail
       refine(zx _ c f.o.symm d k.o _).mono ?_;rintro e w'⟨rfl,rfl⟩
       go_wp2_with fail
       go_round
       case rel=>exact⟨i+1,n*16+d,by omega,by go_num,by go_num,b.o⟩
       case measure=>simp[aJ];omega
      ·have f:=K (show FB c=(c.toNat:G) by unfold FB;rw[oU g])
       have E:c.toNat<65\/(65<=c.toNat/\70<c.toNat):=(by omega);clear g;rcases E with q|⟨q,D⟩
       ·go_wp2_with fail
        refine(zx _ c f.o.symm d k.o _).mono ?_;rintro e w'⟨rfl,rfl⟩
        go_wp2_with fail
        go_round
        case rel=>exact⟨i+1,n*16+d,by omega,by go_num,by go_num,b.o⟩
        case measure=>simp[aJ];omega
       ·go_wp2_with fail
        refine(zx _ c f.o.symm d k.o _).mono ?_;rintro e w'⟨rfl,rfl⟩
        go_wp2_with fail
        go_round
        case rel=>exact⟨i+1,n*16+d,by omega,by go_num,by go_num,b.o⟩
        case measure=>simp[aJ];omega
    ·obtain rfl:i=4:=by omega
     go_wp2
     go_ret2;exact⟨xV (by rw[a.o,s.o];rfl) (by rw[a.o,s.o];rfl),r.o⟩
  ·have a:=K (show aA t.data.toList=Z by
    unfold aA;rw[oD]
    right
    by_cases R:t[0]=92
    ·right;rw[o];exactλl=>h ⟨R,l⟩
    ·left;rw[m];exact R)
   have Q:(p.toList==[92,117])=X:=by rw[y,oq];intro e;simp only[nG,nU] at e;exact h e
   clear m o y h z
   go_enter bH,bB
   go_wp2
   go_ret2;exact⟨xV (by rw[a.o];rfl) (by rw[a.o];rfl),pH _ _⟩
def NoC(r:G)(k:I):Prop:=∀i,i<k->lC i≠r
def lB_bd(i:I)(a:i<5):0<=lB i/\lB i<=13:=by
 have e:i=0\/i=1\/i=2\/i=3\/i=4:=by omega
 rcases e with rfl|rfl|rfl|rfl|rfl<;>decide
def let_in(c:J)(i:I)(b:i<5)(a:lC i=c.toNat):∃n:I,P_ c=V (n,2)/\lB i=n:=by
 have u:∀n:I,(n:G)=(c.toNat:G)->n<256->c=aH n:=λn d _=>by
  apply UInt8.toNat_inj.1;simp;omega
 have e:i=0\/i=1\/i=2\/i=3\/i=4:=by omega
 rcases e with rfl|rfl|rfl|rfl|rfl
 ·rw[u 98 a (by decide)];exact⟨8,rfl,rfl⟩
 ·rw[u 102 a (by decide)];exact⟨12,rfl,rfl⟩
 ·rw[u 110 a (by decide)];exact⟨10,rfl,rfl⟩
 ·rw[u 114 a (by decide)];exact⟨13,rfl,rfl⟩
 ·rw[u 116 a (by decide)];exact⟨9,rfl,rfl⟩
def let_out(c:J)(i:c≠34)(j:c≠92)(k:c≠47)(a:NoC c.toNat 5):P_ c=Z:=by
 have u:∀n:I,c=aH n->n<256->(n:G)=(c.toNat:G):=λn a _=>by
  subst a;simp;omega
 have b:c≠98:=λe=>a 0 (by decide) (u 98 e (by decide))
 have d:c≠102:=λe=>a 1 (by decide) (u 102 e (by decide))
 have f:c≠110:=λe=>a 2 (by decide) (u 110 e (by decide))
 have g:c≠114:=λe=>a 3 (by decide) (u 114 e (by decide))
 have h:c≠116:=λe=>a 4 (by decide) (u 116 e (by decide))
 unfold P_;rw[oU (by simp[i,j,k]),oU b,oU d,oU f,oU g,oU h]
def Hh(t:N)(w:Ξ)(b:t.size<=1000000000)(a:aA t.data.toList=Z):
 aG χ 347 #[Y t] w λe w'=>e=η (.tuple #[.int .i32 0,.bool X])/\ο w.heap.size w w':=by
 have:=JP t w b;rw[a] at this;exact this
def td(t:N)(n:I)(w:Ξ)(b:t.size<=1000000000)(a:aA t.data.toList=V n):
 aG χ 347 #[Y t] w λe w'=>e=η (.tuple #[.int .i32 n,.bool aT])/\ο w.heap.size w w':=by
 have:=JP t w b;rw[a] at this;exact this
def drop6(t:N):(t.extract 6 t.size).data.toList=t.data.toList.drop 6:=by rw[lU,jZ,mD,oP (by simp)]
def size6(t:N):(t.extract 6 t.size).size<=t.size:=by simp
def XQ(t:N)(w:Ξ)(au:1<t.size)(j:t.size<=1000000000)(ak:uV w):
 aG χ 308 #[Y t] w λe w'=>e=η (.tuple #[.int .i32 (aQ t.data.toList).1,H O (aQ t.data.toList).2])/\ο w.heap.size w w':=by
 have s:=drop_at t 0 1 (by omega);rw[nO] at s;simp only[nh] at s;have v:=K (seq_let t.data.toList);have B:=K (seq_num t.data.toList);rw[s] at v B;clear s
 by_cases p:t[1]=34\/t[1]=92\/t[1]=47
 ·rcases p with p|p|p
  all_goals
   have u:=K (v.o _ (by rw[p];rfl));clear v B
   go_enter bY,bT
   go_wp2
   go_ret2;exact⟨tY (by rw[u.o];rfl) (by rw[u.o];rfl),pH _ _⟩
 ·simp only[not_or] at p
  obtain⟨R,S,T⟩:=p;have Q:((t[1].toNat:G)==34)=X:=NJ (by decide) R;have ah:((t[1].toNat:G)==92)=X:=NJ (by decide) S;have ai:((t[1].toNat:G)==47)=X:=NJ (by decide) T;have ap:=mY t[1];have A:=K (size6 t);have a4:=K (let_in t[1]);have a5:=K (let_out t[1] R S T);clear R S T;obtain⟨ao,ag,ac⟩:=ak
  go_enter bY,bT
  go_wp2_with(refine iV rfl 384 _ rfl 6 rfl ao Eg ag _ ac bO rfl (by kernel_rfl) ?_)
  clear ac Q ah ai
  go_loopw [25] (λi wr=>∃k:I,k<=5/\i=H O k/\NoC t[1].toNat k/\ο w.heap.size w wr) (λi _=>(5-aJ i).toNat)
  case atStart=>exact⟨0,by omega,rfl,λi a7=>absurd a7 (by omega),pH _ _⟩
  case round=>
   obtain⟨k,ax,rfl,aa,W⟩:=hrel;have b:=K aa;have f:=K W;have hz:=W.size;clear aa W
   by_cases a0:k<5
   ·have aw:=R1 k a0
    obtain⟨ay,az⟩:=lB_bd k a0
    by_cases c1:lC k=t[1].toNat
    ·obtain⟨n,a8,a9⟩:=a4.o k a0 c1
     have u:=K (v.o _ a8);have ae:=K a9;have Q:(lC k==(t[1].toNat:G))=aT:=(by simp[c1]);clear c1 a8 a9
     go_wp2
     go_ret2;exact⟨tY (by rw[u.o,ae.o]) (by rw[u.o];rfl),(f.o).alloc hz _⟩
    ·have Q:(lC k==(t[1].toNat:G))=X:=by simp[c1]
     have ad:=K c1;clear c1
     go_wp2
     go_roundw
     case rel=>exact⟨k+1,by omega,by go_num,λi a7=>by
      by_cases e:i=k
      ·subst e;exact ad.o
      ·exact b.o i (by omega),(f.o).alloc hz _⟩
     case measure=>simp[aJ];omega
   ·obtain rfl:k=5:=by omega
    have a6:=K (B.o (a5.o b.o))
    have fin:∀(r n:I)(x a2:G),FA t.data.toList=(r,n)->x=r->a2=n->(aP (.tuple #[.int .i32 x,H O a2])=η (.tuple #[.int .i32 (aQ t.data.toList).1,H O (aQ t.data.toList).2])):=by intro r n x a2 e s af;rw[a6.o,e];exact tY s af
    have h:=K fin;clear fin a6 v B a4 a5;rcases hu:aA t.data.toList with _|r
    ·have b:=K (XP hu)
     have g:=K hu;clear hu
     go_wp2_with fail
     refine(Hh t _ j g.o).mono ?_;rintro e q⟨rfl,a⟩;have c:=pR f a;clear a
     go_wp2_with fail
     go_ret2;exact⟨h.o 0 0 _ _ b.o rfl rfl,c.o⟩
    ·obtain⟨aB,ab⟩:=Js.GN hu
     have aD:6<=t.size:=(by simpa using ab);have g:=K hu;clear ab
     by_cases c1:r<55296
     ·have b:=K (R7 hu (.inl c1))
      clear hu
      go_wp2_with fail
      refine(td t r _ j g.o).mono ?_;rintro e q⟨rfl,a⟩;have c:=pR f a;clear a
      go_wp2_with fail
      go_ret2;exact⟨h.o r 6 _ _ b.o rfl rfl,c.o⟩
     ·by_cases c2:57343<r
      ·have b:=K (R7 hu (.inr c2))
       have L:55296<=r:=(by omega);have o:56320<=r:=(by omega);clear hu c1
       go_wp2_with fail
       refine(td t r _ j g.o).mono ?_;rintro e q⟨rfl,a⟩;have c:=pR f a;clear a
       go_wp2_with fail
       go_ret2;exact⟨h.o r 6 _ _ b.o rfl rfl,c.o⟩
      ·by_cases L:56320<=r
       ·have o:r<=57343:=by omega
        have b:=K (num_low hu L o);clear hu c1 c2
        go_wp2_with fail
        refine(td t r _ j g.o).mono ?_;rintro e q⟨rfl,a⟩;have c:=pR f a;clear a
        go_wp2_with fail
        go_ret2;exact⟨h.o 0 0 _ _ b.o rfl rfl,c.o⟩
       ·have o:55296<=r:=by omega
        have D:r<=56319:=(by omega);have aq:r<56320:=(by omega);have ar:r<=57343:=(by omega);have a3:=K (drop6 t);clear c1 c2 L;rcases hm:aA (t.data.toList.drop 6) with _|m
        ·have b:=K (Lb hu o D (λm e=>by rw[hm] at e;cases e))
         have y:=K (show aA (t.extract 6 t.size).data.toList=Z by rw[a3.o];exact hm);clear hu hm
         go_wp2_with fail
         refine(td t r _ j g.o).mono ?_;rintro e q⟨rfl,a⟩;have c:=pR f a;clear a
         go_wp2_with fail
         refine(Hh _ _ (by have:=A.o;omega) y.o).mono ?_;rintro e a1⟨rfl,d⟩;have l:=pR c d;clear d
         go_wp2_with fail
         go_ret2;exact⟨h.o 0 0 _ _ b.o rfl rfl,l.o⟩
        ·have y:=K (show aA (t.extract 6 t.size).data.toList=V m by rw[a3.o];exact hm)
         by_cases z:m<56320
         ·have b:=K (Lb hu o D (λan e=>by rw[hm] at e;cases e;exact .inl z))
          have C:=K (λ_:Unit=>(show(m:G)<56320 by omega));clear hu hm z
          go_wp2_with fail
          refine(td t r _ j g.o).mono ?_;rintro e q⟨rfl,a⟩;have c:=pR f a;clear a
          go_wp2_with fail
          refine(td _ m _ (by have:=A.o;omega) y.o).mono ?_;rintro e a1⟨rfl,d⟩;have l:=pR c d;have z:=C.o ();clear d
          go_wp2_with fail
          go_ret2;exact⟨h.o 0 0 _ _ b.o rfl rfl,l.o⟩
         ·by_cases E:57343<m
          ·have b:=K (Lb hu o D (λan e=>by rw[hm] at e;cases e;exact .inr E))
           have C:=K (λ_:Unit=>E);clear hu hm z E
           go_wp2_with fail
           refine(td t r _ j g.o).mono ?_;rintro e q⟨rfl,a⟩;have c:=pR f a;clear a
           go_wp2_with fail
           refine(td _ m _ (by have:=A.o;omega) y.o).mono ?_;rintro e a1⟨rfl,d⟩;have l:=pR c d;have al:decide ((m:G)<56320)=X:=(by have:=C.o ();simp;omega);have am:decide ((57343:G)<(m:G))=aT:=(by have:=C.o ();simp;omega);clear d
           go_wp2_with fail
           go_ret2;exact⟨h.o 0 0 _ _ b.o rfl rfl,l.o⟩
          ·have M:56320<=m:=by omega
           have P:m<=57343:=(by omega);have b:=K (num_two hu o D hm M P);have F:=K (λ_:Unit=>And.intro M P);clear hu hm z E M P
           go_wp2_with fail
           refine(td t r _ j g.o).mono ?_;rintro e q⟨rfl,a⟩;have c:=pR f a;clear a
           go_wp2_with fail
           refine(td _ m _ (by have:=A.o;omega) y.o).mono ?_;rintro e a1⟨rfl,d⟩;have l:=pR c d;have al:decide ((m:G)<56320)=X:=(by have:=F.o ();simp;omega);have am:decide ((57343:G)<(m:G))=X:=(by have:=F.o ();simp;omega);clear d
           go_wp2_with fail
           go_ret2;exact⟨h.o _ 12 _ _ b.o (by have:=F.o ();simp only[wrap32];omega) rfl,l.o⟩
def R8(t:N)(r n:I)(w:Ξ)(b:1<t.size)(d:t.size<=1000000000)(c:uV w)(a:aQ t.data.toList=(r,n)):
 aG χ 308 #[Y t] w λe w'=>e=η (.tuple #[.int .i32 r,H O n])/\ο w.heap.size w w':=by
 have:=XQ t w b d c;rw[a] at this;exact this
def Qa(r:G)(a:aM r=aT):aI r=ξ (aU r):=by
 unfold aU;rw[oD a];unfold aI ξ bV;rw[mL];apply mV;intro x b;have:=Lib.encodeRuneZ_byte r x b
 show aL .u8 x=aL .u8 ((x.toNat.toUInt8).toNat:G)
 rw[pY.uj (by omega)];exact R6 (by omega)
def JQ(B b:I)(a:U Value)(r:G)(w:Ξ)(x:aN bz bJ B b a w)(F: -2147483648<=r)(L:r<=2147483647)(C:a.length+4<=140737488355328)(S:B<=w.heap.size):
 aG χ 309 #[ε (V ⟨b,0,Z⟩),.int .i32 r] w λe w'=>∃z:G,e=η (.tuple #[H O z,.nilIface])/\(aN bz bJ B b (a++aI r) w'/\ο B w w'):=by
 go_enter Tryz.func309,Tryz.ntmps309
 go_wp2_with fail
 refine(wu.tu B b a _ x).mono ?_;rintro e g⟨rfl,y,n⟩;obtain⟨m,v,d,f,E⟩:=y;have M:g.cell? ⟨b,0,Z⟩=V (ε (V ⟨b,0,Z⟩)):=by rw[aO d];rfl
 have c1:g.cell? ⟨b,1,Z⟩=V v:=by rw[aO d];rfl
 have hz:=n.size;obtain⟨l,cap,rfl⟩:=qP f
 go_wp2_with fail
 refine(Tryz.utf8_AppendRune_plain B _ a.length a r F L _ f C (by omega)).mono ?_;rintro e h⟨W,rfl,j,o,i⟩;have D:b<g.heap.size:=(Array.getElem?_eq_some_iff.1 d).1
 have c:h.heap[b]?=V (ζ #[ε (V ⟨b,0,Z⟩),δ l a.length cap] bz (0,0)):=by rw[i.block b (by rw[qB];omega) (λe=>E e.symm),Lib.alloc_old g _ b D];exact d
 have P:h.cell? ⟨b,0,Z⟩=V (ε (V ⟨b,0,Z⟩)):=by rw[aO c];rfl
 have Q:h.cell? ⟨b,1,Z⟩=V (δ l a.length cap):=by rw[aO c];rfl
 have R:h.frozen? ⟨b,1,Z⟩=X:=Lib.frozen_of_heap c 1;obtain⟨t,u,rfl⟩:=qP j;have s:=K (Lib.BuilderAt.put (T:=bz) (e:=bJ) m c (bs':=a++aI r) (by simpa using j) (by decide));have q:=K (((n.alloc (by omega) o).grown i (by rw[qB];omega) (λk A=>(f.lt k A).1)).setCell (p:=⟨b,1,Z⟩) m (δ t (a.length+(aI r).length) u));clear f i j d c
 go_wp2
 go_ret2;exact⟨_,rfl,.inr s.o,q.o⟩
def fin(k:I)(p:I×I×U J):U J×G×G:=
 if p.1=0 then(p.2.2,(k:G)+1+p.2.1,0) else if p.1=8 then([],k,8) else([],(k:G)+1+p.2.1,p.1)
structure Inv(s:N)(k i:I)(o:U J):Prop where
 le:k+1<=i
 eq:π (s.data.toList.drop (k+1))=((π (s.data.toList.drop i)).1,(i-(k+1))+(π (s.data.toList.drop i)).2.1,o++(π (s.data.toList.drop i)).2.2)
def Up(s:N)(k:I):Inv s k (k+1) []:=⟨oZ _,by simp⟩
def NK{s:N}{k i:I}{o e:U J}{n:I}(a:Inv s k i o)
 (b:π (s.data.toList.drop i)=((π ((s.data.toList.drop i).drop n)).1,n+(π ((s.data.toList.drop i).drop n)).2.1,e++(π ((s.data.toList.drop i).drop n)).2.2)):Inv s k (i+n) (o++e):=by
 have c:=a.le;rw[lE] at b;refine⟨by omega,?_⟩;rw[a.eq,b];simp only[m_,mT,kO,nU];omega
def Lc{s:N}{k i:I}{o:U J}{t:I}(a:Inv s k i o)(d:π (s.data.toList.drop i)=(t,0,[]))(b:t≠0)(c:t≠8):fin k (π (s.data.toList.drop (k+1)))=(([]:U J),(i:G),(t:G)):=by have e:=a.le;rw[a.eq,d];unfold fin;simp only[oU b,oU c,kC,mT,kO,nU];omega
def R9{s:N}{k i:I}{o:U J}(a:Inv s k i o)(b:π (s.data.toList.drop i)=(8,0,[])):fin k (π (s.data.toList.drop (k+1)))=(([]:U J),(k:G),(8:G)):=by rw[a.eq,b];rfl
def inv_fin{s:N}{k i:I}{o:U J}(a:Inv s k i o)(b:π (s.data.toList.drop i)=(0,1,[])):fin k (π (s.data.toList.drop (k+1)))=(o,(i:G)+1,(0:G)):=by have c:=a.le;rw[a.eq,b];unfold fin;simp only[jJ,nC,mT,kO,nU];omega
def st_bad{l:U J}(b:l≠[])(a:(aK l).2=0):π l=(5,0,[]):=by rw[bL l b,oD a]
def st_ctl{l:U J}{r n:I}(b:l≠[])(a:aK l=(r,n))(d:n≠0)(c:r<32):π l=(6,0,[]):=by rw[bL l b,a,oU d,oD c]
def st_quo{l:U J}{n:I}(b:l≠[])(a:aK l=(34,n))(c:n≠0):π l=(0,1,[]):=by rw[bL l b,a,oU c,oU (by omega)];rfl
def st_eof{l:U J}{n:I}(b:l≠[])(a:aK l=(92,n))(d:n≠0)(c:l.length=1):π l=(8,0,[]):=by rw[bL l b,a,oU d,oU (by omega),oU (by omega)];simp[c]
def st_esc{l:U J}{n:I}(b:l≠[])(a:aK l=(92,n))(e:n≠0)(c:l.length≠1)(d:(aQ l).2=0):π l=(16,0,[]):=by rw[bL l b,a,oU e,oU (by omega),oU (by omega)];simp[c,d]
def st_seq{l:U J}{n r m:I}(b:l≠[])(a:aK l=(92,n))(f:n≠0)(c:l.length≠1)(d:aQ l=(r,m))(e:m≠0):
 π l=((π (l.drop m)).1,m+(π (l.drop m)).2.1,aU r++(π (l.drop m)).2.2):=by
 rw[bL l b,a,oU f,oU (by omega),oU (by omega),d];simp[c,e]
def st_rune{l:U J}{n r:I}(b:l≠[])(a:aK l=(r,n))(e:n≠0)(f:32<=r)(c:r≠34)(d:r≠92):
 π l=((π (l.drop n)).1,n+(π (l.drop n)).2.1,aU r++(π (l.drop n)).2.2):=by
 rw[bL l b,a,oU e,oU (by omega),oU c,oU d]
def BI{a:N}{x z:G}{f:U J×G×G}{l:U J}{b u:G}(c:f=(l,b,u))(d:a=⟨l.toArray⟩)(e:x=b)(g:z=u):
 aP (.tuple #[Y a,H O x,H O z])=η (.tuple #[Y ⟨f.1.toArray⟩,H O f.2.1,H O f.2.2]):=by rw[c,d,e,g]
def Je(r:G)(x:N)(w:Ξ)(a:(⟨(aU r).toArray⟩:N)=x):
 aG χ 213 #[H O r] w λe w'=>e=η (Y x)/\ο w.heap.size w w':=by
 rw[<-a];exact xL r w
def NM(r:G):(aU r).length<=4:=by
 unfold aU
 split
 ·have:=(Lib.encodeRuneZ_length r).2
  simpa [bV] using this
 ·simp
def NN(s:N)(i:I):(s.extract i s.size).data.toList=s.data.toList.drop i:=by rw[lU,jZ,mD,oP (by simp)]
def JR(o:U J)(r:I)(a:aM r=aT):ξ o++aI r=ξ (o++aU (r:G)):=by rw[Qa r a];simp[ξ]
def vr_dec{l:U J}{r n:I}(b:aK l=(r,n))(c:n≠0):aM r=aT:=by
 have a:=pY.K2 l (by rw[b];exact c);have d:=(pY.yB (l:=l) (by rw[b];exact c)).1;rw[b] at a
 by_cases e:aM r=aT
 ·exact e
 ·unfold aU at a
  rw[oU e] at a;have:=nT List.length a;simp only[oh,nQ] at this;have:=List.length_pos_iff.2 d;omega
def vr_seq{l:U J}{r n:I}(c:r<=1114111)(a:(aQ l).1<55296\/57343<(aQ l).1)(b:aQ l=(r,n)):aM r=aT:=by rw[b] at a;simp only at a;exact PF (by omega)
def Uq(s:N)(a:G)(w:Ξ)(b:a<0\/(s.size:G)<=a):
 aG χ 259 #[Y s,H O a] w λe w'=>e=η (.tuple #[Y ⟨#[]⟩,H O a,H O 7])/\ο w.heap.size w w':=by
 rcases b with b|b
 ·go_enter aV,aS
  go_wp2
  go_step3
  go_wp2
  rw[Θ];exact ow (v:= .tuple #[Y ⟨#[]⟩,H O a,H O 7]) (by simp[aR,Δ,go_sem]) rfl ⟨rfl,pH _ _⟩
 ·have c:0<=a:=by omega
  go_enter aV,aS
  go_wp2
  go_step3
  go_wp2
  rw[Θ];exact ow (v:= .tuple #[Y ⟨#[]⟩,H O a,H O 7]) (by simp[aR,Δ,go_sem]) rfl ⟨rfl,pH _ _⟩
def XR(s:N)(k:I)(w:Ξ)(f:k<s.size)(a:s[k]≠34):
 aG χ 259 #[Y s,H O k] w λe w'=>e=η (.tuple #[Y ⟨#[]⟩,H O k,H O 7])/\ο w.heap.size w w':=by
 have b:((s[k].toNat:G)!=34)=aT:=by have:((s[k].toNat:G)==34)=X:=NJ (by decide) a;rw[bne,this];rfl
 have c:decide ((k:G)<0)=X:=by simp
 have d:decide ((s.size:G)<=k)=X:=by simp;omega
 clear a
 go_enter aV,aS
 go_wp2
 go_step3
 go_wp2
 rw[Θ];exact ow (v:= .tuple #[Y ⟨#[]⟩,H O k,H O 7]) (by simp[aR,Δ,go_sem]) rfl ⟨rfl,pH _ _⟩
def XS(s:N)(k:I)(w:Ξ)(aw:k<s.size)(ay:s.size<=1000000000)(ah:aX 2 3 w)(ag:uV w)(an:s[k]=34):
 aG χ 259 #[Y s,H O k] w λe w'=>e=η (.tuple #[Y ⟨(fin k (π (s.data.toList.drop (k+1)))).1.toArray⟩,H O (fin k (π (s.data.toList.drop (k+1)))).2.1,H O (fin k (π (s.data.toList.drop (k+1)))).2.2])/\ο w.heap.size w w':=by
 obtain⟨f,a6⟩:=pL (fin k (π (s.data.toList.drop (k+1))));rw[a6];have D:=K a6;have A:=K ah;have a8:=K ag;clear ah ag;clear a6;have al:decide ((k:G)<0)=X:=by simp
 have am:decide ((s.size:G)<=k)=X:=by simp;omega
 go_enter aV,aS
 go_wp2
 go_step3
 go_wp2
 go_step3
 go_wp2
 rename_i ao az a0
 clear al am an ao
 go_loopw [8] (λc wr=>∃(i:I)(o:U J),i<=s.size/\c=H O i/\o.length<=4*i/\Hid (Inv s k i o)/\Hid (aN bz bJ w.heap.size w.heap.size (ξ o) wr)/\Hid (ο w.heap.size w wr)) (λc _=>s.size-(aJ c).toNat)
 case atStart=>exact⟨k+1,[],by omega,by go_num,oM _,Up s k,bP bz bJ w,pM _ _⟩
 case round=>
  obtain⟨i,o,au,rfl,ax,x,a1,d⟩:=hrel;have hz:=d.o.size;have a9:=K (bK o)
  by_cases q:i<s.size
  ·have h:=yD q
   by_cases m:(aK (s.data.toList.drop i)).2=0
   ·have l:=K (D.o.symm.trans (Lc x.o (st_bad h m) (by decide) (by decide)))
    have u:=K m;clear h m
    go_wp2_with fail
    refine(GJ s i _ q (qC A.o d.o) u.o).mono ?_;rintro e E⟨rfl,a⟩;have b:=pR d a;have p:=K a;clear a
    go_wp2_with fail
    rw[Θ];exact ow (v:= .tuple #[Y ⟨#[]⟩,H O i,H O 5]) (by simp[aR,Δ,go_sem]) rfl ⟨BI l.o rfl rfl rfl,b.o⟩
   ·obtain⟨R,M,g⟩:∃R M,aK (s.data.toList.drop i)=(R,M):=⟨_,_,rfl⟩
    obtain⟨aB,aD,aF⟩:=FU s i R M g q;rw[g] at m;have aZ:1<=M:=(by simp at m;omega);have j:M≠0:=(by omega);have u:=K g
    by_cases c1:R<32
    ·have l:=K (D.o.symm.trans (Lc x.o (st_ctl h g j c1) (by decide) (by decide)))
     clear h m g j
     go_wp2_with fail
     refine(ux s i R M _ q (qC A.o d.o) u.o).mono ?_;rintro e E⟨rfl,a⟩;have b:=pR d a;have p:=K a;clear a
     go_wp2_with fail
     rw[Θ];exact ow (v:= .tuple #[Y ⟨#[]⟩,H O i,H O 6]) (by simp[aR,Δ,go_sem]) rfl ⟨BI l.o rfl rfl rfl,b.o⟩
    ·have ak:32<=R:=by omega
     by_cases c2:R=34
     ·subst c2
      have l:=K (D.o.symm.trans (inv_fin x.o (st_quo h g j)));clear h m g j c1
      go_wp2_with fail
      refine(ux s i 34 M _ q (qC A.o d.o) u.o).mono ?_;rintro e E⟨rfl,a⟩;have b:=pR d a;have p:=K a;clear a
      go_wp2_with fail
      refine(bG w.heap.size w.heap.size o _ (bX a1.o p.o) b.o.size).mono ?_;rintro e ai⟨rfl,y⟩;have F:=K (Below.trans b.o y);clear y
      go_wp2_with fail
      rw[Θ];exact ow (v:= .tuple #[Y ⟨o.toArray⟩,H O ((i:G)+1),H O 0]) (by simp[aR,Δ,go_sem]) rfl ⟨BI l.o rfl rfl rfl,F.o⟩
     ·by_cases a5:R=92
      ·subst a5
       by_cases ae:i+1=s.size
       ·have l:=K (D.o.symm.trans (R9 x.o (st_eof h g j (by rw[xM];omega))))
        have af:((i:G)+1==(s.size:G))=aT:=(by simp;omega);clear h m g j c1 c2
        go_wp2_with fail
        refine(ux s i 92 M _ q (qC A.o d.o) u.o).mono ?_;rintro e E⟨rfl,a⟩;have b:=pR d a;have p:=K a;clear a
        go_wp2_with fail
        rw[Θ];exact ow (v:= .tuple #[Y ⟨#[]⟩,H O k,H O 8]) (by simp[aR,Δ,go_sem]) rfl ⟨BI l.o rfl rfl rfl,b.o⟩
       ·have af:((i:G)+1==(s.size:G))=X:=by
         rw[oq];omega
        have S:(s.data.toList.drop i).length≠1:=(by rw[xM];omega);have aq:i+1<s.size:=(by omega);obtain⟨r,n,t⟩:∃r n,aQ (s.data.toList.drop i)=(r,n):=⟨_,_,rfl⟩;obtain⟨ac,a3,a4,ad⟩:=Js.seqV_bd (s.data.toList.drop i) (by rw[xM];omega);rw[t,xM] at ac;rw[t] at a3;simp only at ac a3;have aa:=K t;have P:=K (show(s.extract i s.size).size=s.size-i by simp);have ab:=K (NN s i)
        by_cases Q:n=0
        ·subst Q
         have l:=K (D.o.symm.trans (Lc x.o (st_esc h g j S (by rw[t])) (by decide) (by decide)));clear h m g j c1 c2 ae S t a4 ad
         go_wp2_with fail
         refine(ux s i 92 M _ q (qC A.o d.o) u.o).mono ?_;rintro e E⟨rfl,a⟩;have b:=pR d a;have p:=K a;clear a
         go_wp2_with fail
         refine(R8 (s.extract i s.size) r 0 _ (by rw[P.o];omega) (by rw[P.o];omega) (a8.o.below b.o) (by rw[ab.o];exact aa.o)).mono ?_;rintro e ap⟨rfl,C⟩;have L:=pR b C;have a7:=pR p C;clear C
         go_wp2_with fail
         rw[Θ];exact ow (v:= .tuple #[Y ⟨#[]⟩,H O i,H O 16]) (by simp[aR,Δ,go_sem]) rfl ⟨BI l.o rfl rfl rfl,L.o⟩
        ·have W:=K (NK x.o (st_seq h g j S t Q))
         have a2:=K (JR o r (vr_seq a3 (a4 (by rw[t];exact Q)) t));have b0:1<=n:=(by omega);clear h m g j c1 c2 ae S t a4 ad Q
         go_wp2_with fail
         refine(ux s i 92 M _ q (qC A.o d.o) u.o).mono ?_;rintro e E⟨rfl,a⟩;have b:=pR d a;have p:=K a;clear a
         go_wp2_with fail
         refine(R8 (s.extract i s.size) r n _ (by rw[P.o];omega) (by rw[P.o];omega) (a8.o.below b.o) (by rw[ab.o];exact aa.o)).mono ?_;rintro e ap⟨rfl,C⟩;have L:=pR b C;have a7:=pR p C;clear C
         go_wp2_with fail
         refine(JQ w.heap.size w.heap.size (ξ o) r _ (bX a1.o a7.o) (by omega) (by omega) (by rw[a9.o];omega) L.o.size).mono ?_;rintro e ai⟨z,rfl,B,y⟩;rw[a2.o] at B;have T:=K B;have F:=K (Below.trans L.o y);clear B y
         go_wp2_with fail
         go_roundw
         case rel=>exact⟨i+n,_,by omega,by go_num,by have:=NM (r:G);rw[o_];omega,W.o,T.o,F.o⟩
         case measure=>simp[aJ];omega
      ·have W:=K (NK x.o (st_rune h g j ak c2 a5))
       have a2:=K (JR o R (vr_dec g j));have ar:((R:G)==34)=X:=(by simp;omega);have af:((R:G)==92)=X:=(by simp;omega);clear h m g j c1 c2 a5
       go_wp2_with fail
       refine(ux s i R M _ q (qC A.o d.o) u.o).mono ?_;rintro e E⟨rfl,a⟩;have b:=pR d a;have p:=K a;clear a
       go_wp2_with fail
       refine(JQ w.heap.size w.heap.size (ξ o) R _ (bX a1.o p.o) (by omega) (by omega) (by rw[a9.o];omega) b.o.size).mono ?_;rintro e ai⟨z,rfl,B,y⟩;rw[a2.o] at B;have T:=K B;have F:=K (Below.trans b.o y);clear B y
       go_wp2_with fail
       go_roundw
       case rel=>exact⟨i+M,_,by omega,by go_num,by have:=NM (R:G);rw[o_];omega,W.o,T.o,F.o⟩
       case measure=>simp[aJ];omega
  ·obtain rfl:i=s.size:=by omega
   have l:=K (D.o.symm.trans (R9 x.o (by have e:s.data.toList.drop s.size=[]:=mB (lG (by simp));rw[e];rfl)))
   go_wp2
   rw[Θ];exact ow (v:= .tuple #[Y ⟨#[]⟩,H O k,H O 8]) (by simp[aR,Δ,go_sem]) rfl ⟨BI l.o rfl rfl rfl,d.o⟩
structure B8(w:Ξ):Prop where
 u:aX 2 3 w
 l:uV w
def B8.below{w w':Ξ}(a:B8 w)(b:ο w.heap.size w w'):B8 w':=⟨qC a.u b,a.l.below b⟩
def EX{A:N}{l:U J}(a:A.data.toList=l):(⟨l.toArray⟩:N)=A:=by obtain⟨⟨d⟩⟩:=A;subst a;rfl
def toList_append(s t:N):(s++t).data.toList=s.data.toList++t.data.toList:=by simp
def vo{A B:N}(a:A.data.toList=B.data.toList):A=B:=by rw[<-EX (A:=A) rfl,a,EX (A:=B) rfl]
def pv(l:U J)(a:G):U J×G×G:=
 if 0<=a/\a<l.length/\l.getD a.toNat 0=34 then fin a.toNat (π (l.drop (a.toNat+1))) else([],a,7)
def pv_out{s:N}{a:G}(b:a<0\/(s.size:G)<=a):pv s.data.toList a=([],a,7):=by unfold pv;rw[oU];simp only[jW];rintro⟨c,d,_⟩;have e:(s.data.size:G)=(s.size:G):=rfl;omega
def getD_at(s:N)(k:I)(a:k<s.size):s.data.toList.getD k 0=s[k]:=by have:=drop_at s k 0 (by omega);simpa using this
def pv_no{s:N}{k:I}(c:k<s.size)(b:s[k]≠34):pv s.data.toList k=([],(k:G),7):=by unfold pv;rw[oU];rintro⟨_,_,a⟩;rw[iN,getD_at s k c] at a;exact b a
def pv_in{s:N}{k:I}(b:k<s.size)(a:s[k]=34):pv s.data.toList k=fin k (π (s.data.toList.drop (k+1))):=by
 unfold pv;rw[oD]
 ·rw[iN]
 ·refine⟨Int.natCast_nonneg k,?_,?_⟩
  ·simp only[jW]
   have c:s.data.size=s.size:=rfl;omega
  ·rw[iN,getD_at s k b];exact a
def XU(s t:N)(a x z:G)(w:Ξ)(i:s.size<=1000000000)(h:B8 w)(b:pv s.data.toList a=(t.data.toList,x,z)):
 aG χ 259 #[Y s,H O a] w λe w'=>e=η (.tuple #[Y t,H O x,H O z])/\ο w.heap.size w w':=by
 by_cases g:a<0\/(s.size:G)<=a
 ·rw[pv_out g] at b
  simp only[mT] at b;obtain⟨f,rfl,rfl⟩:=b;rw[<-EX (A:=t) f.symm];exact Uq s a w g
 ·obtain⟨k,rfl⟩:∃k:I,a=k:=⟨a.toNat,by omega⟩
  have d:k<s.size:=by omega
  by_cases c:s[k]=34
  ·rw[pv_in d c] at b
   have:=XS s k w d i h.u h.l c;rw[b] at this;rw[<-EX (A:=t) rfl];exact this
  ·rw[pv_no d c] at b
   simp only[mT] at b;obtain⟨f,rfl,rfl⟩:=b;rw[<-EX (A:=t) f.symm];exact XR s k w d c
end Jw
end Go.Proofs.YthbhmjdcfocphaaGreatDoor
