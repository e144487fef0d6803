/- A part of this proof. -/
import Derived.Lib.QuoteLoop
import Derived.Lib.ValidLaws
import Derived.Test.YthbhmjdcfocphaaGreatDoorKz
set_option linter.all false
set_option maxHeartbeats 16000000
namespace Go.Proofs.YthbhmjdcfocphaaGreatDoor
open Go.Value renaming string→γ, slice→δ, pointer→ε, int→θ
open Go.Obj renaming cells→ζ
open Go.Ending renaming returned→η
open Go.IntKind renaming i64→ι
open _root_ renaming UInt8→K, List→G, Nat→H, Int→J
open Go.Lib renaming decodeN→N, decodeL→M, validD→Θ, decodeN_ascii→Ω, decodeL_width→ς, validD_step→ο, encodeRune→ah, validRune→aj
open UInt8 renaming toNat→O
open Bool renaming false→I, true→L
open List renaming foldl→Γ, length→Ξ, getD→av
namespace pY
def dec(l:G K):H×H:=if l=[] then(0,0) else if M l=(65533,1) then(0,0) else M l
def enc(r:J):G K:=if aj r=L then ah r else []
def dec_nil:dec []=(0,0):=rfl
def yB{l:G K}(b:(dec l).2≠0):l≠[]/\M l≠(65533,1)/\dec l=M l:=by
 unfold dec at b|-
 by_cases a:l=[]
 ·simp[a] at b
 ·by_cases c:M l=(65533,1)
  ·simp[a,c] at b
  ·exact⟨a,c,by simp[a,c]⟩
def zn{l:G K}(b:(dec l).2=0):dec l=(0,0):=by
 unfold dec at b|-
 by_cases a:l=[]
 ·simp[a]
 ·by_cases c:M l=(65533,1)
  ·simp[a,c]
  ·simp[a,c] at b
   have:=ς l;omega
def D6(l:G K):(dec l).2<=l.length:=by
 by_cases a:(dec l).2=0
 ·omega
 ·obtain⟨b,_,c⟩:=yB a
  rw[c];exact Lib.decodeL_le l b
def W4(l:G K):(dec l).1<=1114111:=by
 unfold dec;split
 ·simp
 ·split
  ·simp
  ·exact Lib.decodeL_rune l
def Cw(l:G K)(i:H):(l.getD i 0).toNat<256:=mY _
def rval(l:G K)(k:H):H:=
 if k=1 then(l.getD 0 0).toNat
 else if k=2 then(l.getD 0 0).toNat%32*64+(l.getD 1 0).toNat%64
 else if k=3 then((l.getD 0 0).toNat%16*64+(l.getD 1 0).toNat%64)*64+(l.getD 2 0).toNat%64
 else(((l.getD 0 0).toNat%8*64+(l.getD 1 0).toNat%64)*64+(l.getD 2 0).toNat%64)*64+(l.getD 3 0).toNat%64
def vZ(r:H):G H:=
 if r<128 then [r] else if r<2048 then [192+r/64,128+r%64]
 else if r<55296\/(57343<r/\r<65536) then [224+r/4096,128+r/64%64,128+r%64]
 else if 65535<r/\r<=1114111 then [240+r/262144,128+r/4096%64,128+r/64%64,128+r%64] else []
def uj{x:H}(a:x<256):(x.toUInt8).toNat=x:=by simp[Nat.toUInt8];omega
def w_(r:H):(enc (r:J)).map O=vZ r:=by
 unfold enc aj ah vZ
 by_cases a:r<128
 ·rw[oD (by simp;omega),Lib.encodeRuneZ_one (by omega) (by omega),oD a]
  simp only[ou,mU];rw[uj (by omega)];simp
 ·rw[oU a]
  by_cases b:r<2048
  ·rw[oD (by simp;omega),Lib.encodeRuneZ_two (by omega) (by omega),oD b]
   simp only[ou,mU];rw[uj (by omega),uj (by omega)];simp only[nG,nU];omega
  ·rw[oU b]
   by_cases c:r<55296\/(57343<r/\r<65536)
   ·rw[oD (by simp;omega),Lib.encodeRuneZ_three (by omega),oD c]
    simp only[ou,mU];rw[uj (by omega),uj (by omega),uj (by omega)];simp only[nG,nU];omega
   ·rw[oU c]
    by_cases d:65535<r/\r<=1114111
    ·rw[oD (by simp;omega),Lib.encodeRuneZ_four (by omega) (by omega),oD d]
     simp only[ou,mU];rw[uj (by omega),uj (by omega),uj (by omega),uj (by omega)];simp only[nG,nU];omega
    ·rw[oU d,oU (by simp;omega)];rfl
def Cc{a b:G K}(c:a.map O=b.map O):a=b:=
 (List.map_inj_right (λ_ _ c=>UInt8.toNat_inj.1 c)).1 c
def zS(l:G K)(k:H)(c:k<=l.length):(l.take k).map O=(List.range k).map λi=>(l.getD i 0).toNat:=by
 apply lH
 ·simp;omega
 ·intro i a b
  simp at a b;simp[oW (show i<l.length by omega)]
def ltake1(l:G K)(a:1<=l.length):(l.take 1).map O=[(l.getD 0 0).toNat]:=zS l 1 a
def ltake2(l:G K)(a:2<=l.length):(l.take 2).map O=[(l.getD 0 0).toNat,(l.getD 1 0).toNat]:=zS l 2 a
def ltake3(l:G K)(a:3<=l.length):(l.take 3).map O=[(l.getD 0 0).toNat,(l.getD 1 0).toNat,(l.getD 2 0).toNat]:=zS l 3 a
def ltake4(l:G K)(a:4<=l.length):(l.take 4).map O=[(l.getD 0 0).toNat,(l.getD 1 0).toNat,(l.getD 2 0).toNat,(l.getD 3 0).toNat]:=zS l 4 a
def zT(n a b c d:H)(j:a<256)(k:b<256):
 (N n a b c d=(a,1)/\a<128)\/
 (N n a b c d=(a%32*64+b%64,2)/\2<=n/\128<=a%32*64+b%64/\a/32=6/\b/64=2)\/
 (N n a b c d=(a%16*4096+b%64*64+c%64,3)/\3<=n/\2048<=a%16*4096+b%64*64+c%64/\(a%16*4096+b%64*64+c%64<55296\/57343<a%16*4096+b%64*64+c%64)/\a/16=14/\b/64=2/\c/64=2)\/
 (N n a b c d=(a%8*262144+b%64*4096+c%64*64+d%64,4)/\4<=n/\65536<=a%8*262144+b%64*4096+c%64*64+d%64/\a%8*262144+b%64*4096+c%64*64+d%64<=1114111/\a/8=30/\b/64=2/\c/64=2/\d/64=2)\/
 (N n a b c d=(65533,1)/\128<=a/\¬(2<=n/\128<=a%32*64+b%64/\a/32=6/\b/64=2)/\
  ¬(3<=n/\2048<=a%16*4096+b%64*64+c%64/\(a%16*4096+b%64*64+c%64<55296\/57343<a%16*4096+b%64*64+c%64)/\a/16=14/\b/64=2/\c/64=2)/\
  ¬(4<=n/\65536<=a%8*262144+b%64*4096+c%64*64+d%64/\a%8*262144+b%64*4096+c%64*64+d%64<=1114111/\a/8=30/\b/64=2/\c/64=2/\d/64=2)):=by
 by_cases c1:a<128
 ·left;exact⟨Ω _ _ _ _ _ c1,c1⟩
 ·right
  unfold N;rw[oU c1]
  by_cases c2:a/32=6/\(1<n/\b/64=2)
  ·rw[oD c2]
   by_cases g:a%32*64+b%64≥128
   ·rw[oD g];left;exact⟨rfl,by omega,g,c2.1,c2.2.2⟩
   ·rw[oU g];right;right;right;exact⟨rfl,by omega,by omega,by omega,by omega⟩
  ·rw[oU c2]
   by_cases f:a/16=14/\(1<n/\b/64=2)/\(2<n/\c/64=2)
   ·rw[oD f]
    by_cases h:a%16*4096+b%64*64+c%64≥2048/\(a%16*4096+b%64*64+c%64<55296\/(57344<=a%16*4096+b%64*64+c%64/\a%16*4096+b%64*64+c%64<=1114111))
    ·rw[oD h];right;left;exact⟨rfl,by omega,h.1,by omega,f.1,f.2.1.2,f.2.2.2⟩
    ·rw[oU h];right;right;right;exact⟨rfl,by omega,by omega,by omega,by omega⟩
   ·rw[oU f]
    by_cases e:a/8=30/\(1<n/\b/64=2)/\(2<n/\c/64=2)/\(3<n/\d/64=2)
    ·rw[oD e]
     by_cases i:a%8*262144+b%64*4096+c%64*64+d%64≥65536/\(a%8*262144+b%64*4096+c%64*64+d%64<55296\/(57344<=a%8*262144+b%64*4096+c%64*64+d%64/\a%8*262144+b%64*4096+c%64*64+d%64<=1114111))
     ·rw[oD i];right;right;left;exact⟨rfl,by omega,by omega,by omega,e.1,e.2.1.2,e.2.2.1.2,e.2.2.2.2⟩
     ·rw[oU i];right;right;right;exact⟨rfl,by omega,by omega,by omega,by omega⟩
    ·rw[oU e];right;right;right;exact⟨rfl,by omega,by omega,by omega,by omega⟩
def KZ(l:G K)(a:l≠[]):dec l=if N l.length (l.getD 0 0).toNat (l.getD 1 0).toNat (l.getD 2 0).toNat (l.getD 3 0).toNat=(65533,1) then(0,0) else N l.length (l.getD 0 0).toNat (l.getD 1 0).toNat (l.getD 2 0).toNat (l.getD 3 0).toNat:=by unfold dec;rw[oU a,Lib.decodeL_N]
def D7(r:H):(vZ r).length=if r<128 then 1 else if r<2048 then 2 else if r<55296\/(57343<r/\r<65536) then 3 else if 65535<r/\r<=1114111 then 4 else 0:=by
 unfold vZ;repeat' split
 all_goals rfl
def K0{r:H}(a:r<128):vZ r=[r]:=by unfold vZ;rw[oD a]
def encN_2{r:H}(b:128<=r)(a:r<2048):vZ r=[192+r/64,128+r%64]:=by unfold vZ;rw[oU (by omega),oD a]
def encN_3{r:H}(b:2048<=r)(a:r<55296\/(57343<r/\r<65536)):vZ r=[224+r/4096,128+r/64%64,128+r%64]:=by unfold vZ;rw[oU (by omega),oU (by omega),oD a]
def encN_4{r:H}(a:65536<=r)(b:r<=1114111):vZ r=[240+r/262144,128+r/4096%64,128+r/64%64,128+r%64]:=by unfold vZ;rw[oU (by omega),oU (by omega),oU (by omega),oD (by omega)]
def GC(n a b d f r w:H)(p:a<256)(q:b<256)(t:d<256)
 (e:(if N n a b d f=(65533,1) then(0,0) else N n a b d f)=(r,w)):
 (w=0\/w=1\/w=2\/w=3\/w=4)/\
 (1<=n->(vZ a=[a]↔w=1)/\(w=1->r=a))/\
 (2<=n->(vZ (a%32*64+b%64)=[a,b]↔w=2)/\(w=2->r=a%32*64+b%64))/\
 (3<=n->(vZ ((a%16*64+b%64)*64+d%64)=[a,b,d]↔w=3)/\(w=3->r=(a%16*64+b%64)*64+d%64))/\
 (4<=n->(vZ (((a%8*64+b%64)*64+d%64)*64+f%64)=[a,b,d,f]↔w=4)/\(w=4->r=((a%8*64+b%64)*64+d%64)*64+f%64)):=by
 have k:vZ a=[a]↔a<128:=by
  constructor
  ·intro h
   have:=nT Ξ h;rw[D7] at this;simp only[oJ,oh] at this
   split at this<;>(try omega)
   split at this<;>omega
  ·exact K0
 have l:vZ (a%32*64+b%64)=[a,b]↔(128<=a%32*64+b%64/\a/32=6/\b/64=2):=by
  by_cases c:128<=a%32*64+b%64
  ·rw[encN_2 c (by omega)];simp only[nG,nU];omega
  ·rw[K0 (by omega)];simp;omega
 have m:vZ ((a%16*64+b%64)*64+d%64)=[a,b,d]↔(2048<=a%16*4096+b%64*64+d%64/\(a%16*4096+b%64*64+d%64<55296\/57343<a%16*4096+b%64*64+d%64)/\a/16=14/\b/64=2/\d/64=2):=by
  generalize s:(a%16*64+b%64)*64+d%64=x;have j:a%16*4096+b%64*64+d%64=x:=(by omega);rw[j]
  by_cases c:2048<=x/\(x<55296\/57343<x)
  ·rw[encN_3 c.1 (by omega)];simp only[nG,nU];omega
  ·constructor
   ·intro h
    have:=nT Ξ h;rw[D7] at this;simp only[oJ,oh] at this
    repeat(split at this<;>(try omega))
   ·intro h;omega
 have o:vZ (((a%8*64+b%64)*64+d%64)*64+f%64)=[a,b,d,f]↔(65536<=a%8*262144+b%64*4096+d%64*64+f%64/\a%8*262144+b%64*4096+d%64*64+f%64<=1114111/\a/8=30/\b/64=2/\d/64=2/\f/64=2):=by
  generalize s:((a%8*64+b%64)*64+d%64)*64+f%64=x;have j:a%8*262144+b%64*4096+d%64*64+f%64=x:=(by omega);rw[j]
  by_cases c:65536<=x/\x<=1114111
  ·rw[encN_4 c.1 c.2];simp only[nG,nU];omega
  ·constructor
   ·intro h
    have:=nT Ξ h;rw[D7] at this;simp only[oJ,oh] at this
    repeat(split at this<;>(try omega))
   ·intro h;omega
 rw[k,l,m,o];rcases zT n a b d f p q with⟨g,i⟩|⟨g,i⟩|⟨g,i⟩|⟨g,i⟩|⟨g,i⟩
 ·rw[g,oU (by simp;omega)] at e
  simp only[mT] at e;obtain⟨rfl,rfl⟩:=e;omega
 ·rw[g,oU (by simp)] at e
  simp only[mT] at e;obtain⟨rfl,rfl⟩:=e;omega
 ·rw[g,oU (by simp)] at e
  simp only[mT] at e;obtain⟨rfl,rfl⟩:=e;omega
 ·rw[g,oU (by simp)] at e
  simp only[mT] at e;obtain⟨rfl,rfl⟩:=e;omega
 ·rw[g,oD rfl] at e
  simp only[mT] at e;obtain⟨rfl,rfl⟩:=e;omega
def FT(r:H)(l:G K)(m:G H)(a:l.map O=m):enc (r:J)=l↔vZ r=m:=by
 constructor
 ·intro e;rw[<-w_,e,a]
 ·intro e;exact Cc (by rw[w_,e,a])
def search(l:G K)(k:H)(h:1<=k)(i:k<=4)(a:k<=l.length):(enc (rval l k:H)=l.take k↔(dec l).2=k)/\((dec l).2=k->(dec l).1=rval l k):=by
 have b:l≠[]:=by intro e;simp[e] at a;omega
 obtain⟨_,c,d,f,g⟩:=GC l.length _ _ _ _ (dec l).1 (dec l).2 (Cw l 0) (Cw l 1) (Cw l 2) (by rw[<-KZ l b]);rcases(show k=1\/k=2\/k=3\/k=4 by omega) with rfl|rfl|rfl|rfl
 ·rw[FT _ _ _ (ltake1 l a)];exact c a
 ·rw[FT _ _ _ (ltake2 l a)];exact d a
 ·rw[FT _ _ _ (ltake3 l a)];exact f a
 ·rw[FT _ _ _ (ltake4 l a)];exact g a
def Bz(l:G K):(dec l).2<=4:=by
 by_cases a:l=[]
 ·subst a;simp[dec_nil]
 ·obtain⟨b,_⟩:=GC l.length _ _ _ _ (dec l).1 (dec l).2 (Cw l 0) (Cw l 1) (Cw l 2) (by rw[<-KZ l a])
  omega
def K2(l:G K)(c:(dec l).2≠0):enc (dec l).1=l.take (dec l).2:=by have a:=D6 l;have b:=Bz l;have s:=search l (dec l).2 (by omega) b a;have e:=s.1.2 rfl;rw[s.2 rfl];exact e
def Nq(l t:G K)(k:H)(b:1<=k)(c:k<=4)(d:k<=l.length):rval (l++t) k=rval l k:=by
 have g:∀i,i<l.length->(l++t).getD i 0=l.getD i 0:=λi a=>by
  simp[av,List.getElem?_append,a]
 unfold rval;rcases(show k=1\/k=2\/k=3\/k=4 by omega) with rfl|rfl|rfl|rfl
 ·rw[oD rfl,oD rfl,g 0 (by omega)]
 ·rw[oU (by omega),oD rfl,oU (by omega),oD rfl,g 0 (by omega),g 1 (by omega)]
 ·rw[oU (by omega),oU (by omega),oD rfl,oU (by omega),oU (by omega),oD rfl,g 0 (by omega),g 1 (by omega),g 2 (by omega)]
 ·rw[oU (by omega),oU (by omega),oU (by omega),oU (by omega),oU (by omega),oU (by omega),g 0 (by omega),g 1 (by omega),g 2 (by omega),g 3 (by omega)]
def PE(l t:G K)(d:(dec l).2≠0):dec (l++t)=dec l:=by have a:=D6 l;have b:=Bz l;have s:=search l (dec l).2 (by omega) b a;have c:=search (l++t) (dec l).2 (by omega) b (by simp;omega);rw[Nq l t _ (by omega) b a,iI a] at c;have e:=c.1.1 (s.1.2 rfl);exact Prod.ext (by rw[c.2 e,s.2 rfl]) e
def GD(r:H)(l t:G K)(k:enc (r:J)=l)(e:l≠[]):dec (l++t)=(r,l.length):=by
 have f:=w_ r;rw[k] at f
 have key:dec l=(r,l.length):=by
  have h:l.length=(vZ r).length:=(by rw[<-f];simp)
  have c:∀i,(l.getD i 0).toNat=(vZ r).getD i 0:=λi=>by
   rw[<-f];simp only[av,ju];cases l[i]?<;>simp
  rw[KZ l e,c 0,c 1,c 2,c 3,h];have j:0<(vZ r).length:=(by rw[<-h];exact List.length_pos_iff.2 e);unfold vZ at j|-
  by_cases c1:r<128
  ·simp only[oD c1,oJ,oh,oI]
   rw[Ω _ _ _ _ _ c1,oU (by simp;omega)]
  ·by_cases c2:r<2048
   ·simp only[oU c1,oD c2,oJ,oh,oI,oF]
    rcases zT (0+1+1) (192+r/64) (128+r%64) ([].getD 0 0) ([].getD 1 0) (by omega) (by omega) with⟨a,b⟩|⟨a,b⟩|⟨a,b⟩|⟨a,b⟩|⟨a,b⟩
    ·omega
    ·rw[a,oU (by simp)];simp only[mT,nU];omega
    ·omega
    ·omega
    ·omega
   ·by_cases d:r<55296\/(57343<r/\r<65536)
    ·simp only[oU c1,oU c2,oD d,oJ,oh,oI,oF]
     rcases zT (0+1+1+1) (224+r/4096) (128+r/64%64) (128+r%64) ([].getD 0 0) (by omega) (by omega) with⟨a,b⟩|⟨a,b⟩|⟨a,b⟩|⟨a,b⟩|⟨a,b⟩
     ·omega
     ·omega
     ·rw[a,oU (by simp)];simp only[mT,nU];omega
     ·omega
     ·omega
    ·by_cases g:65535<r/\r<=1114111
     ·simp only[oU c1,oU c2,oU d,oD g,oJ,oh,oI,oF]
      rcases zT (0+1+1+1+1) (240+r/262144) (128+r/4096%64) (128+r/64%64) (128+r%64) (by omega) (by omega) with⟨a,b⟩|⟨a,b⟩|⟨a,b⟩|⟨a,b⟩|⟨a,b⟩
      ·omega
      ·omega
      ·omega
      ·rw[a,oU (by simp)];simp only[mT,nU];omega
      ·omega
     ·simp only[oU c1,oU c2,oU d,oU g,oh] at j;omega
 rw[PE l t (by rw[key];simpa using e),key]
def wR(r:J):Bool:=decide (r=9\/r=10\/r=13\/(32<=r/\r<=55295)\/(57344<=r/\r<=65533)\/(65536<=r/\r<=1114111))
def uH(r:J):Bool:=decide ((65<=r/\r<=90)\/r=95\/(97<=r/\r<=122)\/(192<=r/\r<=214)\/(216<=r/\r<=246)\/(248<=r/\r<=767)\/(880<=r/\r<=893)\/(895<=r/\r<=8191)\/(8204<=r/\r<=8205)\/(8304<=r/\r<=8591)\/(11264<=r/\r<=12271)\/(12289<=r/\r<=55295)\/(63744<=r/\r<=64975)\/(65008<=r/\r<=65533)\/(65536<=r/\r<=983039))
def JD(r:J):Bool:=decide ((45<=r/\r<=46)\/(48<=r/\r<=57)\/r=183\/(768<=r/\r<=879)\/(8255<=r/\r<=8256))
def xF(r:J):Bool:=JD r||uH r
def D8(c:J):Bool:=decide (c=32\/c=9\/c=10\/c=13)
def v_:G J:=[65,90,95,95,97,122,192,214,216,246,248,767,880,893,895,8191,8204,8205,8304,8591,11264,12271,12289,55295,63744,64975,65008,65533,65536,983039]
def yC:G J:=[45,46,48,57,183,183,768,879,8255,8256]
def IS:H->G K->H×J
 |0,_=>(0,0)
 |f+1,l=>if l=[] then(0,0) else if(dec l).2=0 then(0,5) else if wR (dec l).1=I then(0,6)
  else((dec l).2+(IS f (l.drop (dec l).2)).1,(IS f (l.drop (dec l).2)).2)
def sW(l:G K):H×J:=IS l.length l
def JE:∀(f g:H)(l:G K),l.length<=f->l.length<=g->IS f l=IS g l
 |0,g,l,hf,_=>by
  have:l=[]:=oK (by omega);subst this
  cases g<;>simp[IS]
 |f+1,0,l,_,hg=>by
  have:l=[]:=oK (by omega);subst this
  simp[IS]
 |f+1,g+1,l,hf,hg=>by
  unfold IS
  by_cases a:l=[]
  ·simp[a]
  ·by_cases b:(dec l).2=0
   ·simp[a,b]
   ·rw[JE f g (l.drop (dec l).2) (by rw[nN];omega) (by rw[nN];omega)]
def RC:sW []=(0,0):=rfl
def GF(l:G K)(a:l≠[]):sW l=if(dec l).2=0 then(0,5) else if wR (dec l).1=I then(0,6) else((dec l).2+(sW (l.drop (dec l).2)).1,(sW (l.drop (dec l).2)).2):=by
 have d:0<l.length:=List.length_pos_iff.2 a;obtain⟨n,b⟩:∃n,l.length=n+1:=⟨l.length-1,by omega⟩
 by_cases c:(dec l).2=0
 ·unfold sW;rw[b];simp[IS,a,c]
 ·unfold sW
  rw[b];simp only[IS];rw[oU a,JE n (l.drop (dec l).2).length _ (by rw[nN];omega) (oZ _)]
def nmN:H->Bool->G K->Bool
 |0,_,_=>L
 |f+1,first,l=>if l=[] then L else if(dec l).2=0 then I else if xF (dec l).1=I then I else if first=L/\uH (dec l).1=I then I else nmN f I (l.drop (dec l).2)
def nm(first:Bool)(l:G K):Bool:=nmN l.length first l
def JF{l:G K}(b:l≠[])(a:Θ l=L):(dec l).2≠0/\dec l=M l/\Θ (l.drop (dec l).2)=L:=by
 rw[ο l b] at a
 by_cases c:(M l).1=65533/\(M l).2=1
 ·rw[oD c] at a;cases a
 ·rw[oU c] at a
  have d:dec l=M l:=by unfold dec;rw[oU b,oU (λe=>c (by rw[e];exact⟨rfl,rfl⟩))]
  rw[d];exact⟨by have:=ς l;omega,rfl,a⟩
def DG{l:G K}(d:(dec l).2≠0):Θ l=Θ (l.drop (dec l).2):=by obtain⟨a,b,c⟩:=yB d;rw[ο l a,c,oU (λe=>b (Prod.ext e.1 e.2))]
def sp(c:K):Bool:=D8 c.toNat
def cst(p:G K×Bool)(c:K):G K×Bool:=
 if sp c=L then(p.1, !p.1.isEmpty) else((if p.2=L then p.1++[32] else p.1)++[c],I)
def sw(l:G K):G K×Bool:=l.foldl cst ([],I)
def tC(l:G K):G K:=(sw l).1
def W6{c:K}(a:sp c=L)(o:G K)(g:Bool):cst (o,g) c=(o, !o.isEmpty):=by unfold cst;rw[oD a]
def K3{c:K}(a:sp c=I)(o:G K)(g:Bool):cst (o,g) c=((if g=L then o++[32] else o)++[c],I):=by unfold cst;rw[oU (by simp[a])]
def W7(l:G K)(c:K):(sw (l++[c])).2=(sp c&& !(sw l).1.isEmpty):=by
 unfold sw;rw[lK];simp only[kP,List.foldl_nil];cases a:sp c
 ·rw[show Γ cst ([],I) l=((Γ cst ([],I) l).1,(Γ cst ([],I) l).2) from rfl,K3 a];simp
 ·rw[show Γ cst ([],I) l=((Γ cst ([],I) l).1,(Γ cst ([],I) l).2) from rfl,W6 a];simp
def uk(l:G K)(c:K):sw (l++[c])=cst (sw l) c:=by unfold sw;rw[lK];rfl
def K4(l:G K):(sw l).1.length<=l.length+1/\((sw l).2=L->(sw l).1.length<l.length)/\(sw l).1.length<=l.length:=by
 suffices a:∀(n:H)(l:G K),l.length=n->((sw l).1.length<=l.length/\((sw l).2=L->(sw l).1.length<l.length)) from
  ⟨by have:=(a _ l rfl).1;omega,(a _ l rfl).2,(a _ l rfl).1⟩
 intro n
 induction n with
 |zero=>
  intro l a;have:l=[]:=oK a
  subst this;simp[sw]
 |succ n ih=>
  intro l a
  obtain⟨m,c,rfl⟩:∃m c,l=m++[c]:=by
   rcases List.eq_nil_or_concat l with e|⟨m,c,e⟩
   ·subst e;simp at a
   ·exact⟨m,c,by simpa using e⟩
  obtain⟨g,d⟩:=ih m (by simpa using a);rw[uk];unfold cst;cases f:sp c
  ·simp only[nH,lQ]
   by_cases b:(sw m).2=L
   ·have:=d b
    simp[b];omega
   ·simp[b];omega
  ·simp only[jJ,o_,oJ,oh]
   exact⟨by omega,λ_=>by omega⟩
end pY
end Go.Proofs.YthbhmjdcfocphaaGreatDoor
