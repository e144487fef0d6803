/- A part of this proof. -/
import Derived.Test.YthbhmjdcfocphaaGreatDoorK1
import Derived.Test.YthbhmjdcfocphaaGreatDoorKT
set_option linter.all false
set_option maxHeartbeats 16000000
set_option maxRecDepth 100000
namespace Go.Proofs.YthbhmjdcfocphaaGreatDoor
open Go.Value renaming string→N, slice→J, pointer→ε, int→U
open Go.Obj renaming cells→ζ
open Go.Ending renaming returned→η
open Go.IntKind renaming i64→ι
open Go.Lib renaming hid→K, byteCells→π, byteCells_append→χ, byteCells_length→Λ, IsBuilder→aJ, strCells→aK
open _root_ renaming ByteArray→G, UInt8→Y, Int→H, List→Z, Nat→V
open Xm renaming esc→M, xE→aA, rep→aC, wP→aL
open Bs renaming toList_append→υ
open Option renaming some→I, none→ay
open Go.Proofs.Tryz renaming prog→Δ, underlying68→aE, ntmps254→aH, func254→aI
open Bool renaming false→O
open And renaming intro→ς
open Go renaming World→ο, Calls→az
open Go.RowKit renaming Below→ah
open Go.Proofs renaming intOf→aj
namespace Xw
open RowKit Tx Jw
def Rl(a b:Z Y):M (a++b)=M a++M b:=lS
def MX(s:G)(k:V)(a:k<s.size):M (s.data.toList.take (k+1))=M (s.data.toList.take k)++aC s[k]:=by rw[qi s k a,Rl];simp[M]
def AV(c:Y):G:=
 if c=38 then⟨#[38,97,109,112,59]⟩ else if c=60 then⟨#[38,108,116,59]⟩ else if c=62 then⟨#[38,103,116,59]⟩ else if c=13 then⟨#[38,35,49,51,59]⟩
 else if c=34 then⟨#[38,113,117,111,116,59]⟩ else if c=9 then⟨#[38,35,57,59]⟩ else if c=10 then⟨#[38,35,49,48,59]⟩ else⟨#[]⟩
inductive Kd (c:Y):Prop where
 |some (h:c∈[38,60,62,13,34,9,10])
 |none (h:aC c=[c]) (h2:AV c=⟨#[]⟩) (n1:(c.toNat:H)≠38) (n2:(c.toNat:H)≠60) (n3:(c.toNat:H)≠62) (n4:(c.toNat:H)≠13) (n5:(c.toNat:H)≠34) (n6:(c.toNat:H)≠9) (n7:(c.toNat:H)≠10)
def kd(c:Y):Kd c:=by
 by_cases a:c∈[38,60,62,13,34,9,10]
 ·exact .some a
 ·simp only[ox,oy,nw,not_or] at a
  obtain⟨b,f,g,h,i,j,k⟩:=a;have key:∀d:Y,c≠d->(c.toNat:H)≠(d.toNat:H):=λd l e=>l (UInt8.toNat_inj.1 (by omega))
  refine .none ?_ ?_ (key _ b) (key _ f) (key _ g) (key _ h) (key _ i) (key _ j) (key _ k)
  ·unfold aC
   rw[oU b,oU f,oU g,oU h,oU i,oU j,oU k]
  ·unfold AV
   rw[oU b,oU f,oU g,oU h,oU i,oU j,oU k]
def resc_is(s:G)(b:ο)(ak:s.size<=1000000000):
 az Δ 144 #[N s,.bool true] b λe w'=>e=η (N ⟨(M s.data.toList).toArray⟩)/\ah b.heap.size b w':=by
 obtain⟨R,E,L,P,Q⟩:=info_parts O8;have c:=K (ς E (ς L (ς P Q)));clear E L P Q
 go_enter Tryz.func144,Tryz.ntmps144
 go_wp2_with fail
 go_loopw [5,6] (λv i wr=>∃(k:V)(o:Z Y)(a:Option Addr)(cap:V),k<=s.size/\i=U ι k/\v=J a o.length cap/\Hid (M (s.data.toList.take k)=o)/\Hid (wr.ownsRow b.heap.size 5 1 (J a o.length cap) o.length (π o))/\Hid (ah b.heap.size b wr)) (λ_ i _=>s.size-(aj i).toNat)
 case atStart=>exact⟨0,[],ay,0,oM _,rfl,rfl,rfl,⟨rfl,.inl ⟨rfl,rfl⟩⟩,pH _ _⟩
 case round=>
  obtain⟨k,o,a,cap,q,rfl,rfl,m,h,l⟩:=hrel;have hz:=l.o.size
  have ai:o.length<=6*k:=by have:=aL (s.data.toList.take k);have D:(s.data.toList.take k).length<=k:=mZ _ _;rw[m.o] at this;omega
  by_cases a7:k<s.size
  ·have A:=mY s[k]
   have w:=K (MX s k a7);obtain⟨d,y⟩:=pL (s[k]);rw[y] at w A;rcases kd d with B|⟨C,D,S,T,W,X,a0,a1,a2⟩
   ·simp only[ox,oy,nw] at B
    rcases B with rfl|rfl|rfl|rfl|rfl|rfl|rfl
    all_goals
     clear A
     go_wp2_with(at_builtin;refine Lib.wpList_append_own_string _ rfl _ _ 68 9 rfl b.heap.size 5 R aE Tryz.underlying9 c.o.1 c.o.2.1 c.o.2.2.1 c.o.2.2.2 _ _ _ rfl h.o _ rfl ?a3 ?a4 ?a5 ?_)
     case a3=>exact pF (gS (show ByteArray.size _<=6 by decide) _) (by unfold maxLen;omega)
     case a4=>exact pF (gS (show ByteArray.size _<=6 by decide) _) (by omega)
     case a5=>exact hz
     intro a8 a6 f j _;obtain⟨n,p,z⟩:=qP f;subst z;have g:=K (w.o.trans (nT (· ++_) m.o));have t:=K f;have r:=K (l.o.grown j hz (λk q=>(h.o.lt k q).1));clear f j y
     go_wp2_with fail
     go_roundw
     case rel=>exact⟨k+1,_,n,p,by omega,by go_num,by rw[o_];rfl,g.o,by rw[o_,χ];exact t.o,r.o⟩
     case measure=>simp[aj];omega
   ·have a9:((d.toNat:H)==38)=O:=by simpa using S
    have aa:((d.toNat:H)==60)=O:=(by simpa using T);have ab:((d.toNat:H)==62)=O:=(by simpa using W);have ac:((d.toNat:H)==13)=O:=(by simpa using X);have ad:((d.toNat:H)==34)=O:=(by simpa using a0);have ae:((d.toNat:H)==9)=O:=(by simpa using a1);have af:((d.toNat:H)==10)=O:=(by simpa using a2);clear S T W X a0 a1 a2 D;have g:=K (w.o.trans (nT (· ++_) m.o));rw[C] at g;clear C
    go_wp2_with(at_builtin;refine mJ _ rfl _ _ 68 rfl b.heap.size 5 R (.int .u8 0) 1 1 aE c.o.1 c.o.2.1 c.o.2.2.1 c.o.2.2.2 rfl (by decide) _ _ _ rfl (h.o.alloc _) ⟨wr.heap.size,0,ay⟩ 1 1 [.int .u8 (d.toNat)] rfl rfl (wQ wr _) (λu F=>by simp at F;subst F;rfl) ?a3 ?a4 ?a5 ?_)
    case a3=>unfold maxLen;omega
    case a4=>omega
    case a5=>rw[qB];omega
    intro a8 a6 f j _;obtain⟨n,p,z⟩:=qP f;subst z;have t:=K (show a6.ownsRow b.heap.size 5 1 (J n (o++[d]).length p) (o++[d]).length (π (o++[d])) by rw[<-tJ];simpa using f);have r:=K ((l.o.alloc hz _).grown j (by rw[qB];omega) (λk q=>(h.o.lt k q).1));clear f j y
    go_wp2_with fail
    go_roundw
    case rel=>exact⟨k+1,o++[d],n,p,by omega,by go_num,by simp,g.o,t.o,r.o⟩
    case measure=>simp[aj];omega
  ·obtain rfl:k=s.size:=by omega
   have g:=K (show M s.data.toList=o by
    have:=m.o
    rwa [oP (by simp)] at this)
   have ag:=Dz h.o
   go_wp2_with fail
   go_ret;exact⟨nT (λx:Z Y=>Ending.returned (N ⟨x.toArray⟩)) g.o.symm,l.o⟩
def repl_is(c:Y)(w:ο):az Δ 254 #[U ι 1,.int .u8 c.toNat] w λe w'=>e=η (N (AV c))/\ah w.heap.size w w':=by
 rcases kd c with a|⟨l,b,d,f,g,h,i,j,k⟩
 ·simp only[ox,oy,nw] at a
  rcases a with rfl|rfl|rfl|rfl|rfl|rfl|rfl
  all_goals
   go_enter aI,aH
   go_wp2_with fail
   go_ret;exact⟨rfl,pH _ _⟩
 ·have m:((c.toNat:H)==38)=O:=by simpa using d
  have n:((c.toNat:H)==60)=O:=(by simpa using f);have o:((c.toNat:H)==62)=O:=(by simpa using g);have p:((c.toNat:H)==13)=O:=(by simpa using h);have q:((c.toNat:H)==34)=O:=(by simpa using i);have r:((c.toNat:H)==9)=O:=(by simpa using j);have s:((c.toNat:H)==10)=O:=(by simpa using k);rw[b];clear d f g h i j k l b
  go_enter aI,aH
  go_wp2_with fail
  go_ret;exact⟨rfl,pH _ _⟩
def WA(c:Y)(a:AV c≠⟨#[]⟩):aC c=(AV c).data.toList:=by
 rcases kd c with k|⟨d,b,-⟩
 ·simp only[ox,oy,nw] at k
  rcases k with rfl|rfl|rfl|rfl|rfl|rfl|rfl<;>rfl
 ·exact absurd b a
def WB(c:Y)(a:AV c=⟨#[]⟩):aC c=[c]:=by
 rcases kd c with k|⟨b,d,-⟩
 ·simp only[ox,oy,nw] at k
  have:(AV c).data.toList=[]:=(by rw[a]);rcases k with rfl|rfl|rfl|rfl|rfl|rfl|rfl<;>cases this
 ·exact b
def TF(m:Z Y)(a:∀c∈m,AV c=⟨#[]⟩):M m=m:=by
 induction m with
 |nil=>rfl
 |cons c m ih=>
  show aC c++M m=_
  rw[WB c (a c (by simp)),ih λd b=>a d (by simp[b])];rfl
def MY(s:G)(f k:V)(a:f<=k)(b:∀c∈(s.extract f k).data.toList,AV c=⟨#[]⟩):M (s.data.toList.take k)=M (s.data.toList.take f)++(s.extract f k).data.toList:=by rw[yQ s f k a,Rl,TF _ b]
def MZ(s:G)(f k:V)(g:f<=k)(h:k<s.size)(b:∀c∈(s.extract f k).data.toList,AV c=⟨#[]⟩)(d:AV s[k]=⟨#[]⟩):∀c∈(s.extract f (k+1)).data.toList,AV c=⟨#[]⟩:=by
 intro c a;have e:∀n,(s.extract f n).data.toList=(s.data.toList.drop f).take (n-f):=λn=>by simp[lU,mD]
 rw[e] at a b;rw[show k+1-f=(k-f)+1 by omega,l9 (by simp;omega),jU] at a;rcases a with a|a
 ·exact b c a
 ·simp only[mW,lM] at a
  have:c=s[k]:=by rw[a];have:f+(k-f)=k:=(by omega);simp only[this];rfl
  rw[this];exact d
def FO(s:G):aK s=π s.data.toList:=by simp[aK,π]
def WC(c:Y):(AV c).size<=6:=by
 unfold AV
 repeat' split
 all_goals decide
def TG(s:G)(w:ο)(aa:s.size<=1000000000):
 az Δ 253 #[U ι 1,.func (.func 254) #[] #[],N s] w λe w'=>e=η (N ⟨(M s.data.toList).toArray⟩)/\ah w.heap.size w w':=by
 have T:=K (Lib.fresh_isBuilder wu.TB wu.TU w);have S:=K (pM w (ζ #[ε ay,J ay 0 0] wu.TB))
 go_enter Tryz.func253,Tryz.ntmps253
 go_wp2_with fail
 go_loopw [8,13] (λg i wr=>∃k f:V,k<=s.size/\f<=k/\i=U ι k/\g=U ι f/\Hid (∀c∈(s.extract f k).data.toList,AV c=⟨#[]⟩)/\Hid (aJ wu.TB wu.TU w.heap.size w.heap.size (π (M (s.data.toList.take f))) wr)/\Hid (ah w.heap.size w wr)) (λ_ i _=>s.size-(aj i).toNat)
 case atStart=>exact⟨0,0,oM _,oZ _,rfl,rfl,by intro c hc;simp at hc,T.o,S.o⟩
 case round=>
  obtain⟨k,f,a9,P,rfl,rfl,F,B,h⟩:=hrel;have hz:=h.o.size
  have E:=K (show(π (M (s.data.toList.take f))).length<=6*f by have:=aL (s.data.toList.take f);have a0:(s.data.toList.take f).length<=f:=mZ _ _;rw[Λ];omega)
  have y:∀n,(s.extract f n).size<=s.size:=λn=>by simp;omega
  by_cases R:k<s.size
  ·have a6:=mY s[k]
   have t:=K (repl_is s[k] wr)
   by_cases j:AV s[k]=⟨#[]⟩
   ·have X:=K (MZ s f k P R F.o j)
    rw[j] at t;clear j
    go_wp2_with fail
    refine t.o.mono ?_;rintro e a3⟨rfl,d⟩;have u:=K (h.o.trans (d.mono h.o.size));have C:=K (wu.sZ B.o d);clear d
    go_wp2_with fail
    go_roundw
    case rel=>exact⟨k+1,f,by omega,by omega,by go_num,rfl,X.o,C.o,u.o⟩
    case measure=>simp[aj];omega
   ·obtain⟨x,q⟩:∃x:G,AV s[k]=x:=⟨_,rfl⟩
    have ab:x.size<=6:=(by rw[<-q];exact WC _)
    have ac:x.toList.isEmpty=O:=by
     rw[Lib.toList_data]
     cases a1:x.data.toList with
     |nil=>exact absurd (by rw[q];exact nT ByteArray.mk (by simpa using a1)) j
     |cons a r=>rfl
    have A:=K (show M (s.data.toList.take (k+1))=M (s.data.toList.take f)++(s.extract f k).data.toList++x.data.toList by rw[MX s k R,MY s f k P F.o,WA _ j,q]);rw[q] at t;have v:=K (y k);clear j q y
    go_wp2_with fail
    refine t.o.mono ?_;rintro e a3⟨rfl,d⟩;have u:=K (h.o.trans (d.mono h.o.size));have C:=K (wu.sZ B.o d);have a2:=u.o.size;clear d
    go_wp2_with fail
    refine(wu.writeString w.heap.size w.heap.size (π (M (s.data.toList.take f))) _ _ C.o (by have:=E.o;have:=v.o;omega) a2).mono ?_;rintro e a4⟨rfl,b,o⟩;rw[FO,<-χ] at b;have D:=K b;have m:=K (u.o.trans o);have Q:=m.o.size;clear b o
    go_wp2_with fail
    refine(wu.writeString w.heap.size w.heap.size _ _ _ D.o (by have a7:=E.o;have a0:=v.o;rw[χ,o_,Λ (l:=(s.extract f k).data.toList)];have a8:=aA (s.extract f k);omega) Q).mono ?_
    rintro e a5⟨rfl,L,p⟩;rw[FO,<-χ,<-A.o] at L;have W:=K L;have z:=K (m.o.trans p);clear L p
    go_wp2_with fail
    go_roundw
    case rel=>exact⟨k+1,k+1,by omega,by omega,by go_num,by go_num,by intro c hc;simp at hc,W.o,z.o⟩
    case measure=>simp[aj];omega
  ·obtain rfl:k=s.size:=by omega
   have A:=K (show M s.data.toList=M (s.data.toList.take f)++(s.extract f s.size).data.toList by
    have:=MY s f s.size P F.o
    rwa [oP (by simp)] at this)
   have v:=K (y s.size);clear y
   go_wp2_with fail
   refine(wu.writeString w.heap.size w.heap.size (π (M (s.data.toList.take f))) _ _ B.o (by have:=E.o;have:=v.o;omega) hz).mono ?_;rintro e a4⟨rfl,b,o⟩;rw[FO,<-χ,<-A.o] at b;have D:=K b;have m:=K (h.o.trans o);have Q:=m.o.size;clear b o
   go_wp2_with fail
   refine(Tryz.Builder_String_any w.heap.size w.heap.size (M s.data.toList) _ D.o Q).mono ?_;rintro e a5⟨rfl,p⟩;have z:=K (m.o.trans p);clear p
   go_wp2_with fail
   go_ret;exact⟨rfl,z.o⟩
def attr_is(s:G)(w:ο)(d:s.size<=1000000000):
 az Δ 197 #[N s] w λe w'=>e=η (N ⟨(M s.data.toList).toArray⟩)/\ah w.heap.size w w':=by
 have a:=TG s w d
 go_enter Tryz.func197,Tryz.ntmps197
 go_wp2_with fail
 refine a.mono ?_;rintro e w'⟨rfl,b⟩;have c:=K b;clear b a
 go_wp2_with fail
 go_ret;exact⟨rfl,c.o⟩
end Xw
namespace Xm
mutual
def T.ind{P:T->Prop}(b:∀n a ks,(∀k∈ks,P k)->P (.el n a ks)):∀t,P t
 | .el n a ks=>b n a ks (T.indL b ks)
def T.indL{P:T->Prop}(c:∀n a ks,(∀k∈ks,P k)->P (.el n a ks)):∀ks:Z T,∀k∈ks,P k
 |[],_,b=>by cases b
 |x::r,k,b=>(List.mem_cons.1 b).elim (λe=>e▸T.ind c x) λb=>T.indL c r k b
end
def M3{ks:Z T}{k:T}(a:k∈ks):(enc k).length<=(qN ks).length:=by
 induction ks with
 |nil=>cases a
 |cons x r ih=>
  unfold qN;rw[o_];rcases List.mem_cons.1 a with rfl|a
  ·omega
  ·have:=ih a
   omega
def Jq(ks:Z T)(k:V):(qN (ks.take k)).length<=(qN ks).length:=by
 have a:qN ks=qN (ks.take k)++qN (ks.drop k):=by rw[<-yw,l_]
 rw[a,o_];omega
def zb{n:G}(a:n∈nice):n.size<=8:=by simp only[nice,ox,oy,nw] at a;rcases a with rfl|rfl|rfl|rfl|rfl|rfl|rfl|rfl|rfl<;>decide
def M4{a:Z (G×G)}(c:OkAt a)(k:V):((a.take k).flatMap th).length<=124000:=by
 have d:∀l:Z (G×G),(∀x∈l,x∈a)->(l.flatMap th).length<=l.length*31000:=by
  intro l
  induction l with
  |nil=>intro _;simp
  |cons x r ih=>
   intro b;have e:=ih λi h=>b i (oH _ h)
   have f:=vK x;have g:=zb (c.nm x (b x (oL ..)));have j:=(c.vs x (b x (oL ..))).2;rw[mE,o_,oJ];omega
 have e:=d (a.take k) λx b=>lY b
 have f:=c.ln;have g:=List.length_take_le' k a;omega
end Xm
namespace Xw
open Go Go.RowKit Go.Proofs.YthbhmjdcfocphaaGreatDoor Go.Proofs.YthbhmjdcfocphaaGreatDoor.Rw Go.Proofs.YthbhmjdcfocphaaGreatDoor.Vf Go.Proofs.YthbhmjdcfocphaaGreatDoor.Mw Go.Proofs.YthbhmjdcfocphaaGreatDoor.Me Go.Proofs.YthbhmjdcfocphaaGreatDoor.Gr Go.Proofs.YthbhmjdcfocphaaGreatDoor.Rg Go.Proofs.YthbhmjdcfocphaaGreatDoor.Xm Go.Proofs.YthbhmjdcfocphaaGreatDoor.Nd
def rW{x a z:G}(b:x++a=z)(c:x.size+a.size<=140737488355328)(w:ο):(Op.stringOp .add x a).run Δ w= .ok (N z) w:=by subst b;exact run_string_add_sum (P:=Δ) w x a (by omega)
def yx(s:G):s.size=s.data.toList.length:=(aA s).symm
def Jr{nm v S a b c d s5:G}{L:Z Y}(j:S.data.toList=L)(e:(⟨#[32]⟩:G)++nm=a)(f:a++(⟨#[61,34]⟩:G)=b)(g:b++(⟨(M v.data.toList).toArray⟩:G)=c)(h:c++(⟨#[34]⟩:G)=d)(i:S++d=s5):
 s5.data.toList=L++th (nm,v):=by
 subst e f g h i j;simp[kS,th]
def WD(t:T):∀(c:Z Value)(W:ο),tQ W t c->Fk t->(enc t).length<=1000000000000->az Δ 86 #[.agg c.toArray] W λe w'=>e=η (N ⟨(enc t).toArray⟩)/\ah W.heap.size W w':=by
 induction t using T.ind
 rename_i n a ks bF
 intro c W bx bE bC;unfold tQ at bx;obtain⟨va,cB,L,rfl,bv,aX,aR⟩:=bx;obtain⟨a5,a6,a4,y,rfl,aT,bw⟩:=vW bv;obtain⟨cw,cx,aa,ab,rfl,aY,bB⟩:=xD aX (AR aR);unfold Fk at bE;obtain⟨a9,b0,ce,a8⟩:=bE;obtain⟨m,aU⟩:=pL a.length;obtain⟨l,au⟩:=pL ks.length;have P:=b0.ln;rw[aU] at aT P|-;rw[au] at aY ce|-;have bb:=K aU;have ac:=K au;have bI:=K aT;have bK:=K bw;have bP:=K aY;have bR:=K bB;have aP:=K (zb a9);have aQ:=K b0;have bQ:=K a8;have bT:=K bC;have bU:=K ((AR aR).1.trans au);have bZ:=K bF;have aW:=pG W (bN n (J a4 m y) (J aa l ab));have aO:=K aW;have aG:=K (pM W (bN n (J a4 m y) (J aa l ab)));obtain⟨z,A,C,p,D,E,F⟩:=ql (pH _ _) aW;clear aW bv aX aR aT bw aY bB a9 b0 a8 bC aU au bF;obtain⟨bg,aS⟩:=pL ((⟨#[60]⟩:G)++n);have cc:=λw=>rW aS (by have:=aP.o;rw[show(⟨#[60]⟩:G).size=1 from rfl];omega) w
 have bW:=K (show bg.data.toList=60::n.data.toList by rw[<-aS,kS];simp);clear aS
 show az Δ 86 #[.agg #[U ι 0,N ⟨#[]⟩,N n,J a4 m y,J aa l ab,N ⟨#[]⟩,U ι 0]] W _
 go_enter Tryz.func86,Tryz.ntmps86
 go_wp2_with fail
 generalize bs:W.heap.size=B at aO aG z A C p D E F|-;have ai:=K bs;generalize W.alloc (bN n (J a4 m y) (J aa l ab))=cp at aO aG z A C p D E F|-;clear bs cc z A C p D E F
 go_loopw [3,4] (λx i wr=>∃(k:V)(S:G),k<=m/\i=U ι k/\x=N S/\Hid (S.data.toList=60::n.data.toList++(a.take k).flatMap th)/\Hid (wr.heap[B]?=I (bN n (J a4 m y) (J aa l ab)))/\Hid (ah B W wr)) (λ_ i _=>m-(aj i).toNat)
 case atStart=>exact⟨0,bg,oM _,rfl,rfl,by rw[bW.o];exact K (by simp),aO,aG⟩
 case round=>
  obtain⟨k,S,aX,rfl,rfl,bu,X,Q⟩:=hrel;have a2:=K bu.o;have al:=K X.o;have aM:=K Q.o;have f:ah W.heap.size W wr:=(by rw[ai.o];exact Q.o)
  have an:=K (show S.size<=130000 by rw[yx,a2.o,o_,oJ,aA];have g:=M4 aQ.o k;have b:=aP.o;omega)
  obtain⟨z,A,C,p,D,E,F⟩:=ql (pH _ _) X.o;clear bu X Q
  by_cases cf:k<m
  ·obtain rfl:=bI.o (by omega)
   have af:k<a.length:=(by rw[bb.o];exact cf);obtain⟨q,y1,y2,y3⟩:=bK.o k af;replace q:=pI q f;replace y1:=pI y1 f;replace y2:=pI y2 f;replace y3:=pI y3 f;have b1:=Mg.qi af;have b2:=aQ.o.vs _ (pq af);have aZ:=zb (aQ.o.nm _ (pq af));generalize a[k]=at' at y1 y2 b1 b2 aZ;obtain⟨nm,v⟩:=at';simp only at y1 y2 b2 aZ;have cj:(k:H)<(m:H):=(by omega);have ci:(0:H)<=(k:H):=(by omega);obtain⟨aw,g⟩:=pL ((⟨#[32]⟩:G)++nm);obtain⟨ax,b⟩:=pL (aw++(⟨#[61,34]⟩:G));obtain⟨aB,h⟩:=pL (ax++(⟨(M v.data.toList).toArray⟩:G));obtain⟨b3,aq⟩:∃s,aB++(⟨#[34]⟩:G)=s:=⟨_,rfl⟩;obtain⟨s5,a7⟩:=pL (S++b3);have bz:=aL v.data.toList;rw[aA] at bz;have cl:aw.size=1+nm.size:=(by rw[<-g,nW];rfl);have b4:ax.size=aw.size+2:=(by rw[<-b,nW];rfl);have b6:(⟨(M v.data.toList).toArray⟩:G).size=(M v.data.toList).length:=(by rw[yx]);have b5:aB.size=ax.size+(M v.data.toList).length:=(by rw[<-h,nW,b6]);have cm:b3.size=aB.size+1:=(by rw[<-aq,nW];rfl)
   have bS:=K (show s5.data.toList=60::n.data.toList++(a.take (k+1)).flatMap th by rw[Jr a2.o g b h aq a7,b1,lS];simp)
   have b9:=K (λu=>resc_is v u (by omega));have cn:=λw=>rW g (by rw[show(⟨#[32]⟩:G).size=1 from rfl];omega) w
   have aD:=λw=>rW b (by rw[show(⟨#[61,34]⟩:G).size=2 from rfl];omega) w
   have b7:=λw=>rW h (by rw[b6];omega) w
   have bH:=λw=>rW aq (by rw[show(⟨#[34]⟩:G).size=1 from rfl];omega) w
   have co:=λw=>rW a7 (by have:=an.o;omega) w
   generalize(⟨(M v.data.toList).toArray⟩:G)=ba at b9 b7;have bY:=K (λu (ag:ah wr.heap.size wr u)=>ς (ql ag al.o) (ς (pI q ag) (ς (pI y1 ag) (ς (pI y2 ag) (pI y3 ag)))));clear g b h aq a7 cl b4 b5 cm b6 bz b2 aZ b1 f af q y1 y2 y3
   go_wp2_with fail
   refine qQ 18 [[],[],[1],[],[2,3],[4],[5],[6],[7],[],[9],[],[10,11],[12],[13],[14],[8,15],[16]] [I 22,I 23,I 24,I 25,I 26,I 27,I 28,I 29,I 30,I 31,I 32,I 33,I 34,I 35,I 36,I 37,I 38,I 39] (by kernel_rfl) (by kernel_rfl) (by kernel_rfl)
    [eqv (N S),eqv (ptr B 3),eqv (J (I ⟨a5,a6,ay⟩) m y),eqv (U ι k),eqv (ptr a5 (a6+k*4)),eqv (ptr a5 (a6+k*4+1)),eqv (N nm),eqv (N aw),eqv (N ax),
     eqv (ptr B 3),eqv (J (I ⟨a5,a6,ay⟩) m y),eqv (U ι k),eqv (ptr a5 (a6+k*4)),eqv (ptr a5 (a6+k*4+2)),eqv (N v),eqv (N ba),eqv (N aB),eqv (N b3)] ?ck ?step ?fin
   case ck=>
    refine⟨?_,?_,?_,?_,?_,?_,?_,?_,?_,?_,?_,?_,?_,?_,?_,?_,?_,?_,trivial⟩
    all_goals intro d u w w' cu ap;exact ap
   case step=>
    refine⟨?_,?_,?_,?_,?_,?_,?_,?_,?_,?_,?_,?_,?_,?_,?_,?_,?_,?_,trivial⟩
    all_goals
     intro x w ae ar;simp only[oI,oF,fr,qD,Fv,Fa,eqv,ptr,List.map,nU] at ar|-;obtain⟨⟨-,-,-,p,-,-,-⟩,q,y1,y2,y3⟩:=bY.o w ae;unfold gives
    case refine_16=>go_simp;exact(b9.o w).mono λe w' ap=>by rw[ap.1];exact⟨rfl,ap.2⟩
    all_goals(go_simp;exact pH _ _)
   case fin=>
    intro x w ae ar;simp only[show List.range 18=[0,1,2,3,4,5,6,7,8,9,10,11,12,13,14,15,16,17] from rfl,oI,oF,fr,qD,Fv,Fa,eqv,ptr,List.map,nU,nS,nO] at ar|-;obtain⟨ad,g,b,h,P,a7,bp,bq,br,o,bh,bi,bj,bk,bl,bm,bn,bo⟩:=ar;rw[ad,g,b,h,P,a7,bp,bq,br,o,bh,bi,bj,bk,bl,bm,bn,bo];have am:=K (pW ae al.o);have ak:=K (aM.o.trans (ae.mono (mN (Rw.lt_of_heap al.o))));clear ae ad g b h P a7 bp bq br o bh bi bj bk bl bm bn bo z A C p D E F;go_simp
    go_wp2_with fail
    go_roundw
    case rel=>exact⟨k+1,s5,by omega,by go_num,rfl,bS,am,ak⟩
    case measure=>simp[aj];omega
  ·have cd:k=m:=by omega
   subst cd;have av:a.take k=a:=oP (by rw[bb.o];omega);rw[av] at a2;have cs:decide ((k:H)<(k:H))=O:=o9 (by omega);clear av
   by_cases ad:l=0
   ·subst ad
    have bA:ks=[]:=oK ac.o;obtain⟨ao,o⟩:=pL (S++(⟨#[47,62]⟩:G));have b8:=λw=>rW o (by rw[show(⟨#[47,62]⟩:G).size=2 from rfl];have:=an.o;omega) w
    have a1:=K (show ao=⟨(enc (.el n a ks)).toArray⟩ by subst bA;apply Bs.vo;rw[<-o,υ,a2.o];simp[enc])
    clear o f bA
    go_wp2_with fail
    go_ret;exact⟨nT (λs:G=>Ending.returned (N s)) a1.o,by rw[ai.o];exact aM.o⟩
   ·have cb:((l:H)==0)=O:=by simp;omega
    obtain⟨ao,o⟩:=pL (S++(⟨#[62]⟩:G));have b8:=λw=>rW o (by rw[show(⟨#[62]⟩:G).size=1 from rfl];have:=an.o;omega) w
    have bX:=K (show ao.data.toList=60::n.data.toList++a.flatMap th++62::qN (ks.take 0) by rw[<-o,υ,a2.o];simp[qN])
    have bJ:=K (show(60::n.data.toList++a.flatMap th).length<=130000 by rw[<-a2.o,aA];exact an.o)
    clear o f
    go_wp2_with fail
    clear b8 z A C p D E F cb
    go_loopw [3,5] (λx i bG=>∃(j:V)(R:G),j<=l/\i=U ι j/\x=N R/\Hid (R.data.toList=60::n.data.toList++a.flatMap th++62::qN (ks.take j))/\Hid (bG.heap[B]?=I (bN n (J a4 k y) (J aa l ab)))/\Hid (ah B W bG)) (λ_ i _=>l-(aj i).toNat)
    case atStart=>exact⟨0,ao,oM _,rfl,rfl,bX,al,aM⟩
    case round=>
     obtain⟨j,R,cv,rfl,rfl,bt,X,Q⟩:=hrel;have a1:=K bt.o;have am:=K X.o;have ak:=K Q.o;have f:ah W.heap.size W wr:=(by rw[ai.o];exact Q.o);obtain⟨z,A,C,p,D,E,F⟩:=ql (pH _ _) X.o
     have aN:=K (show(qN ks).length<=1000000000000 by
      have g:=bT.o
      cases a8:ks with
      |nil=>simp[qN]
      |cons x r=>rw[a8] at g;unfold enc at g;simp only[oJ,o_] at g;omega)
     have bd:=K (show R.size<=1000000130001 by rw[yx,a1.o,o_,oJ];have g:=bJ.o;have b:=Jq ks j;have h:=aN.o;omega)
     clear bt X Q
     by_cases bD:j<l
     ·obtain rfl:=bP.o (by omega)
      have a0:j<ks.length:=(by rw[ac.o];exact bD);obtain⟨cA,cq,cy,c1,cr,cz,c2,e,a9,q,y1,y2,y3,y4,y5,y6⟩:=bR.o j a0 (by rw[bU.o];exact bD);rw[e] at a9;have aF:=K (bZ.o _ (pq a0) _ wr (tQ.under f _ _ a9) (Bv bQ.o (pq a0)) (pF (M3 (pq a0)) aN.o));have be:=K (show qN (ks.take (j+1))=qN (ks.take j)++enc ks[j] by rw[Mg.qi a0,yw];simp[qN]);have bc:=K (pF (M3 (pq a0)) aN.o);replace q:=pI q f;replace y1:=pI y1 f;replace y2:=pI y2 f;replace y3:=pI y3 f;replace y4:=pI y4 f;replace y5:=pI y5 f;replace y6:=pI y6 f;generalize ks[j]=t at aF be bc;obtain⟨a3,b⟩:=pL (R++(⟨(enc t).toArray⟩:G));have aD:=λw=>rW b (by have g:=bd.o;have b:=bc.o;rw[<-Bs.Pb] at b;omega) w
      have bV:=K (show a3.data.toList=60::n.data.toList++a.flatMap th++62::qN (ks.take (j+1)) by rw[<-b,υ,a1.o,be.o];simp)
      have cj:(j:H)<(l:H):=(by omega);have ci:(0:H)<=(j:H):=(by omega);generalize(⟨(enc t).toArray⟩:G)=ba at aF aD;clear e a9 f a0 b
      go_wp2_with fail
      refine aF.o.mono ?_;rintro e cC⟨rfl,aV⟩;have bM:=K (pW aV am.o);have bL:=K (ak.o.trans (aV.mono (mN (Rw.lt_of_heap am.o))));clear aV q y1 y2 y3 y4 y5 y6 z A C p D E F
      go_wp2_with fail
      go_roundw
      case rel=>exact⟨j+1,a3,by omega,by go_num,rfl,bV,bM,bL⟩
      case measure=>simp[aj];omega
     ·have av:ks.take j=ks:=oP (by rw[ac.o];omega)
      rw[av] at a1;have ct:decide ((j:H)<(l:H))=O:=o9 (by omega);obtain⟨a3,b⟩:=pL (R++(⟨#[60,47]⟩:G));obtain⟨bf,h⟩:=pL (a3++n);obtain⟨ca,P⟩:=pL (bf++(⟨#[62]⟩:G));have b4:a3.size=R.size+2:=(by rw[<-b,nW];rfl);have b5:bf.size=a3.size+n.size:=(by rw[<-h,nW]);have ch:=bd.o;have cg:=aP.o;have aD:=λw=>rW b (by rw[show(⟨#[60,47]⟩:G).size=2 from rfl];omega) w
      have b7:=λw=>rW h (by omega) w
      have bH:=λw=>rW P (by rw[show(⟨#[62]⟩:G).size=1 from rfl];omega) w
      have bO:=K (show ca=⟨(enc (.el n a ks)).toArray⟩ by
       apply Bs.vo;rw[<-P,<-h,<-b,υ,υ,υ,a1.o]
       cases a8:ks with
       |nil=>exfalso;rw[a8] at ac;exact ad ac.o.symm
       |cons x r=>simp[enc])
      clear b h P b4 b5 ch cg f
      go_wp2_with fail
      go_ret;exact⟨nT (λs:G=>Ending.returned (N s)) bO.o,by rw[ai.o];exact ak.o⟩
end Xw
namespace Xw
open RowKit Rw Vf Mw Me Gr Rg Xm Nd
abbrev bF(b f:V):Obj:=ζ #[.func (.func 195) #[] #[ε (I ⟨b,0,ay⟩),ε (I ⟨f,0,ay⟩)]] (266:V)
structure Wr(W0:ο)(b f:V)(bs:Z Y)(w:ο):Prop where
 bl:aJ Cq.TB Cq.TU W0.heap.size b (π bs) w
 bw:ah W0.heap.size W0 w
 fn:w.heap[f]?=I (bF b f)
def Wr.below{d w w':ο}{b f:V}{e:Z Y}(a:Wr d b f e w)(c:ah w.heap.size w w'):Wr d b f e w':=
 ⟨Cq.sZ a.bl c,a.bw.trans (c.mono a.bw.size),pW c a.fn⟩
def Gm{c w:ο}{b f:V}{d:Z Y}(j:f≠b)(a:Wr c b f d w)(s:G)(l:d.length+s.size<=140737488355328):
 az Δ 41 #[ε (I ⟨b,0,ay⟩),N s] w λe w'=>e=η (.tuple #[U ι s.size,.nilIface])/\Wr c b f (d++s.data.toList) w'/\Cq.Fz b w w':=by
 refine(Cq.writeString c.heap.size b _ s w a.bl (by rw[Λ];exact l) a.bw.size).mono ?_;rintro e w'⟨k,g,i,h⟩;rw[FO,<-χ] at g;exact⟨k,⟨g,a.bw.trans i,(h f _ _ _ a.fn j (by decide)).trans a.fn⟩,h⟩
def Rm{g w:ο}{b f:V}{a:Z Y}(k:f≠b)(d:Wr g b f a w)(c:Y)(m:a.length+1<=140737488355328):
 az Δ 198 #[ε (I ⟨b,0,ay⟩),.int .u8 c.toNat] w λe w'=>e=η .nilIface/\Wr g b f (a++[c]) w'/\Cq.Fz b w w':=by
 refine(Cq.uY g.heap.size b _ c.toNat w d.bl (by rw[Λ];exact m) d.bw.size).mono ?_;rintro e w'⟨l,h,j,i⟩;rw[show π a++[.int .u8 c.toNat]=π (a++[c]) by simp[π]] at h;exact⟨l,⟨h,d.bw.trans j,(i f _ _ _ d.fn k (by decide)).trans d.fn⟩,i⟩
def KQ{b a:V}{w w':ο}{cs:Array Value}{t:TypeId}(d:Cq.Fz b w w')(c:w.heap[a]?=I (ζ cs t (0,0)))(e:a≠b)(f:t≠Cq.TU):w'.heap[a]?=I (ζ cs t (0,0)):=(d a cs t (0,0) c e f).trans c
def pwr_is(a7:ο)(b f:V)(bJ:f≠b)(t:T):∀(c:Z Value)(W:ο)(g:Z Y),tQ a7 t c->Fk t->g.length+(enc t).length<=2000000000000->Wr a7 b f g W->
 az Δ 195 #[.agg c.toArray,ε (I ⟨b,0,ay⟩),ε (I ⟨f,0,ay⟩)] W λe w'=>e=η (.tuple #[])/\Wr a7 b f (g++enc t) w'/\Cq.Fz b W w':=by
 induction t using T.ind
 rename_i n a ks bS
 intro c W g bK bR bP bj;unfold tQ at bK;obtain⟨va,cO,L,rfl,bH,bc,b7⟩:=bK;obtain⟨cG,cH,aa,ab,rfl,b8,bI⟩:=vW bH;obtain⟨cM,cN,ai,ak,rfl,bd,bO⟩:=xD bc (AR b7);unfold Fk at bR;obtain⟨ag,bf,cv,af⟩:=bR;obtain⟨R,b9⟩:=pL a.length;obtain⟨E,aT⟩:=pL ks.length;have ad:=bf.ln;rw[b9] at b8 ad|-;rw[aT] at bd cv|-;have bs:=K b9;have a6:=K aT;have bX:=K b8;have bY:=K bI;have cd:=K bd;have cf:=K bO;have aF:=K (zb ag);have b1:=K bf;have ce:=K af;have aD:=K bP;have ch:=K ((AR b7).1.trans aT);have cp:=K bS;have ao:=K bJ;have bb:=pG W (bN n (J aa R ab) (J ai E ak));have D:=pM W (bN n (J aa R ab) (J ai E ak));have a4:=K bb;have P:=K (bj.below D);have a5:=K (Cq.Fz.qd (b:=b) D);have ap:=K (show W.heap.size≠b fromλe=>by have:=(Cq.is_lt bj.bl).2;omega);obtain⟨p,q,y,z,A,B,C⟩:=ql (pH _ _) bb;clear bb bH bc b7 b8 bI bd bO ag bf af bP b9 aT bS D bj bJ;obtain⟨b6,aR⟩:=pL ((⟨#[60]⟩:G)++n);have ct:=λw=>rW aR (by have:=aF.o;rw[show(⟨#[60]⟩:G).size=1 from rfl];omega) w
 have ck:=K (show b6.data.toList=60::n.data.toList by rw[<-aR,kS];simp);have cn:=K (show b6.size<=9 by rw[<-aR,nW];have:=aF.o;rw[show(⟨#[60]⟩:G).size=1 from rfl];omega);clear aR
 show az Δ 195 #[.agg #[U ι 0,N ⟨#[]⟩,N n,J aa R ab,J ai E ak,N ⟨#[]⟩,U ι 0],ε (I ⟨b,0,ay⟩),ε (I ⟨f,0,ay⟩)] W _
 go_enter Tryz.func195,Tryz.ntmps195
 go_wp2_with fail
 generalize cs:W.heap.size=br at a4 ap p q y z A B C|-;generalize W.alloc (bN n (J aa R ab) (J ai E ak))=cF at a4 P a5 p q y z A B C|-;refine(Gm ao.o P.o b6 (by have:=aD.o;have:=cn.o;omega)).mono ?_;rintro e cP⟨rfl,bi,ba⟩;rw[ck.o] at bi;have cl:=K bi;have ca:=K (a5.o.trans ba);have bz:=K (KQ ba a4.o ap.o (by decide));clear cs ct p q y z A B C bi ba P a5 a4;obtain⟨p,q,y,z,A,B,C⟩:=ql (pH _ _) bz.o
 go_wp2_with fail
 clear p q y z A B C
 go_loopw [22] (λi wr=>∃(k:V),k<=R/\i=U ι k/\Hid (Wr a7 b f (g++60::n.data.toList++(a.take k).flatMap th) wr)/\Hid (wr.heap[br]?=I (bN n (J aa R ab) (J ai E ak)))/\Hid (Cq.Fz b W wr)) (λi _=>R-(aj i).toNat)
 case atStart=>exact⟨0,oM _,rfl,by simpa using cl,bz,ca⟩
 case round=>
  obtain⟨k,bc,rfl,au,ar,aq⟩:=hrel;have P:=K au.o;have a4:=K ar.o;have a5:=K aq.o
  have aG:=K (show(g++60::n.data.toList++(a.take k).flatMap th).length<=2000000200000 by rw[o_,o_,oJ,aA];have a0:=M4 b1.o k;have l:=aF.o;have o:=aD.o;omega)
  obtain⟨p,q,y,z,A,B,C⟩:=ql (pH _ _) a4.o;clear au ar aq
  by_cases cw:k<R
  ·obtain rfl:=bX.o (by omega)
   have aw:k<a.length:=(by rw[bs.o];exact cw);obtain⟨a8,y1,y2,y3⟩:=bY.o k aw;replace a8:=pI a8 P.o.bw;replace y1:=pI y1 P.o.bw;replace y2:=pI y2 P.o.bw;replace y3:=pI y3 P.o.bw;have bg:=Mg.qi aw;have bh:=b1.o.vs _ (pq aw);have be:=zb (b1.o.nm _ (pq aw));generalize a[k]=at' at y1 y2 bg bh be;obtain⟨nm,v⟩:=at';simp only at y1 y2 bh be;have cA:(k:H)<(R:H):=(by omega);have cz:(0:H)<=(k:H):=(by omega);obtain⟨aX,a0⟩:=pL ((⟨#[32]⟩:G)++nm);obtain⟨aY,l⟩:=pL (aX++(⟨#[61,34]⟩:G));obtain⟨bk,o⟩:=pL (aY++(⟨(M v.data.toList).toArray⟩:G));obtain⟨al,aQ⟩:∃s,bk++(⟨#[34]⟩:G)=s:=⟨_,rfl⟩;have bL:=aL v.data.toList;rw[aA] at bL;have aZ:aX.size=1+nm.size:=(by rw[<-a0,nW];rfl);have am:aY.size=aX.size+2:=(by rw[<-l,nW];rfl);have bn:(⟨(M v.data.toList).toArray⟩:G).size=(M v.data.toList).length:=(by rw[yx]);have an:bk.size=aY.size+(M v.data.toList).length:=(by rw[<-o,nW,bn]);have b0:al.size=bk.size+1:=(by rw[<-aQ,nW];rfl)
   have cg:=K (show g++60::n.data.toList++(a.take k).flatMap th++al.data.toList=g++60::n.data.toList++(a.take (k+1)).flatMap th by
    rw[show al.data.toList=th (nm,v) from by have:=Jr (S:=⟨#[]⟩) (L:=[]) rfl a0 l o aQ (s5:=al) (by apply Bs.vo;rw[υ];rfl);simpa using this,bg,lS]
    simp)
   have co:=K (show al.size<=31000 by omega);have bp:=K (λu=>attr_is v u (by omega));have cD:=λw=>rW a0 (by rw[show(⟨#[32]⟩:G).size=1 from rfl];omega) w
   have bW:=λw=>rW l (by rw[show(⟨#[61,34]⟩:G).size=2 from rfl];omega) w
   have bo:=λw=>rW o (by rw[bn];omega) w
   have cE:=λw=>rW aQ (by rw[show(⟨#[34]⟩:G).size=1 from rfl];omega) w
   generalize(⟨(M v.data.toList).toArray⟩:G)=X at bp bo;have D:=pM wr (bA nm v);have a3:=pG wr (bA nm v);have bE:=K (P.o.below D);have bB:=K (pW D a4.o);have bu:=K (a5.o.trans (Cq.Fz.qd D));have b4:=K a3;clear a0 l o aQ aZ am an b0 bn bL bh be bg aw D a3
   go_upto_region 7 with fail
   change Code.wp _ _ _ _ (wr.alloc (bA nm v));clear a8 y1 y2 y3 p q y z A B C;generalize wr.alloc (bA nm v)=cC at bE bB bu b4|-;generalize wr.heap.size=F at b4|-
   refine qQ 7 [[],[0],[1],[2],[],[4],[5]] [I 26,I 27,I 28,I 29,I 30,I 31,I 32] (by kernel_rfl) (by kernel_rfl) (by kernel_rfl)
    [eqv (ptr F 1),eqv (N nm),eqv (N aX),eqv (N aY),eqv (ptr F 2),eqv (N v),eqv (N X)] ?cB ?step ?fin
   case cB=>
    refine⟨?_,?_,?_,?_,?_,?_,?_,trivial⟩
    all_goals intro d u w w' cK aP;exact aP
   case step=>
    refine⟨?_,?_,?_,?_,?_,?_,?_,trivial⟩
    all_goals
     intro x w ae aS;simp only[oI,oF,fr,qD,Fv,Fa,eqv,ptr,List.map,nU] at aS|-;have a3:=pW ae b4.o;have y1:=pJ (j:=1) a3 rfl;have y2:=pJ (j:=2) a3 rfl;clear a3;unfold gives
    case refine_7=>go_simp;exact(bp.o w).mono λe w' aP=>by rw[aP.1];exact⟨rfl,aP.2⟩
    all_goals(go_simp;exact pH _ _)
   case fin=>
    intro x w ae aS;simp only[show List.range 7=[0,1,2,3,4,5,6] from rfl,oI,oF,fr,qD,Fv,Fa,eqv,ptr,List.map,nU,nS,nO] at aS|-;obtain⟨ac,a0,l,o,ad,bF,bG⟩:=aS;rw[ac,a0,l,o,ad,bF,bG];have cm:=K (bE.o.below ae);have cc:=K (pW ae bB.o);have cb:=K (bu.o.trans (Cq.Fz.qd ae));clear ae ac a0 l o ad bF bG;go_simp
    go_wp2_with fail
    refine(Gm ao.o cm.o al (by have:=aG.o;have:=co.o;omega)).mono ?_;rintro e aB⟨rfl,h,m⟩;rw[cg.o] at h;have a2:=K h;have a9:=K (KQ m cc.o ap.o (by decide));have a1:=K (cb.o.trans m);clear h m
    go_wp2_with fail
    go_roundw
    case rel=>exact⟨k+1,by omega,by go_num,a2,a9,a1⟩
    case measure=>simp[aj];omega
  ·have cu:k=R:=by omega
   subst cu;have ax:a.take k=a:=oP (by rw[bs.o];omega);rw[ax] at P aG;have cI:decide ((k:H)<(k:H))=O:=o9 (by omega);clear ax
   by_cases ac:E=0
   ·subst ac
    have bM:ks=[]:=oK a6.o
    have ci:=K (show g++60::n.data.toList++a.flatMap th++(⟨#[47,62]⟩:G).data.toList=g++enc (.el n a ks) by subst bM;simp[enc])
    clear bM
    go_wp2_with fail
    refine(Gm ao.o P.o _ (by rw[show(⟨#[47,62]⟩:G).size=2 from rfl];have:=aG.o;omega)).mono ?_;rintro e aB⟨rfl,h,m⟩;rw[ci.o] at h;have a2:=K h;have a1:=K (a5.o.trans m);clear h m p q y z A B C
    go_wp2_with fail
    refine ow (gP rfl _ _ _) rfl ?_;exact⟨rfl,a2.o,a1.o⟩
   ·have cr:((E:H)==0)=O:=by simp;omega
    go_wp2_with fail
    refine(Rm ao.o P.o 62 (by have:=aG.o;omega)).mono ?_;rintro e aB⟨rfl,h,m⟩;have a2:=K (show Wr a7 b f (g++60::n.data.toList++a.flatMap th++62::qN (ks.take 0)) aB from h);have a9:=K (KQ m a4.o ap.o (by decide));have a1:=K (a5.o.trans m);clear h m p q y z A B C cr;obtain⟨p,q,y,z,A,B,C⟩:=ql (pH _ _) a9.o
    go_wp2_with fail
    clear p q y z A B C
    go_loopw [46] (λi bm=>∃(j:V),j<=E/\i=U ι j/\Hid (Wr a7 b f (g++60::n.data.toList++a.flatMap th++62::qN (ks.take j)) bm)/\Hid (bm.heap[br]?=I (bN n (J aa k ab) (J ai E ak)))/\Hid (Cq.Fz b W bm)) (λi _=>E-(aj i).toNat)
    case atStart=>exact⟨0,oM _,rfl,a2,a9,a1⟩
    case round=>
     obtain⟨j,cL,rfl,au,ar,aq⟩:=hrel;have Q:=K au.o;have bC:=K ar.o;have bv:=K aq.o
     have bt:=K (show g.length+(60::n.data.toList++a.flatMap th++62::(qN ks)).length+2+n.size+1=g.length+(enc (.el n a ks)).length by
      cases af:ks with
      |nil=>exfalso;rw[af] at a6;exact ac a6.o.symm
      |cons x r=>unfold enc;simp only[oJ,o_,aA,oh];omega)
     clear au ar aq
     by_cases bQ:j<E
     ·obtain rfl:=cd.o (by omega)
      have av:j<ks.length:=(by rw[a6.o];exact bQ);obtain⟨aW,aN,aU,c1,aO,aV,c2,e,ag,a8,y1,y2,y3,y4,y5,y6⟩:=cf.o j av (by rw[ch.o];exact bQ);rw[e] at ag;have b2:=K (show g++60::n.data.toList++a.flatMap th++62::qN (ks.take j)++enc ks[j]=g++60::n.data.toList++a.flatMap th++62::qN (ks.take (j+1)) by rw[Mg.qi av,yw];simp[qN])
      have bq:=K (λu (cy:Wr a7 b f (g++60::n.data.toList++a.flatMap th++62::qN (ks.take j)) u)=>cp.o _ (pq av) _ u _ ag (Bv ce.o (pq av)) (by have a0:=aD.o;have l:=bt.o;have o:=Jq ks (j+1);have ad:=nT List.length b2.o;simp only[o_,oJ] at l ad|-;omega) cy)
      replace a8:=pI a8 Q.o.bw;replace y1:=pI y1 Q.o.bw;replace y2:=pI y2 Q.o.bw;replace y3:=pI y3 Q.o.bw;replace y4:=pI y4 Q.o.bw;replace y5:=pI y5 Q.o.bw;replace y6:=pI y6 Q.o.bw;generalize ks[j]=t at bq b2;have cA:(j:H)<(E:H):=(by omega);have cz:(0:H)<=(j:H):=(by omega);have D:=pM wr (bN aW (J aN aU c1) (J aO aV c2));have a3:=pG wr (bN aW (J aN aU c1) (J aO aV c2));have b3:=K (Q.o.below D);have bD:=K (pW D bC.o);have bx:=K (bv.o.trans (Cq.Fz.qd D));clear e ag av D
      go_upto_region 15 with fail
      change Code.wp _ _ _ _ (wr.alloc (bN aW (J aN aU c1) (J aO aV c2)));clear a8 y1 y2 y3 y4 y5 y6;obtain⟨bT,aZ,am,an,b0,bU,bV⟩:=ql (pH _ _) a3;clear a3;generalize wr.alloc (bN aW (J aN aU c1) (J aO aV c2))=cC at b3 bD bx bT aZ am an b0 bU bV|-;have cq:=pJ (j:=0) b3.o.fn rfl
      go_wp2_with fail
      refine(bq.o _ b3.o).mono ?_;rintro e aB⟨rfl,h,m⟩;rw[b2.o] at h;have a2:=K h;have a9:=K (KQ m bD.o ap.o (by decide));have a1:=K (bx.o.trans m);clear h m bT aZ am an b0 bU bV cq
      go_wp2_with fail
      go_roundw
      case rel=>exact⟨j+1,by omega,by go_num,a2,a9,a1⟩
      case measure=>simp[aj];omega
     ·have ax:ks.take j=ks:=oP (by rw[a6.o];omega)
      rw[ax] at Q;have cJ:decide ((j:H)<(E:H))=O:=o9 (by omega);obtain⟨b5,l⟩:=pL ((⟨#[60,47]⟩:G)++n);obtain⟨aM,o⟩:=pL (b5++(⟨#[62]⟩:G));have am:b5.size=2+n.size:=(by rw[<-l,nW];rfl);have an:aM.size=b5.size+1:=(by rw[<-o,nW];rfl);have cx:=aF.o;have bW:=λw=>rW l (by rw[show(⟨#[60,47]⟩:G).size=2 from rfl];omega) w
      have bo:=λw=>rW o (by rw[show(⟨#[62]⟩:G).size=1 from rfl];omega) w
      have bZ:=K (show g++60::n.data.toList++a.flatMap th++62::qN ks++aM.data.toList=g++enc (.el n a ks) by
       rw[<-o,<-l,υ,υ]
       cases af:ks with
       |nil=>exfalso;rw[af] at a6;exact ac a6.o.symm
       |cons x r=>simp[enc])
      have cj:=K (show aM.size<=11 by omega);obtain⟨p,q,y,z,A,B,C⟩:=ql (pH _ _) bC.o;clear l o am an cx ax
      go_wp2_with fail
      refine(Gm ao.o Q.o aM (by have a0:=cj.o;have l:=bt.o;have o:=aD.o;simp only[o_,oJ] at l|-;omega)).mono ?_
      rintro e aB⟨rfl,h,m⟩;rw[bZ.o] at h;have a2:=K h;have a1:=K (bv.o.trans m);clear h m p q y z A B C
      go_wp2_with fail
      go_end0
      exact⟨rfl,a2.o,a1.o⟩
end Xw
end Go.Proofs.YthbhmjdcfocphaaGreatDoor
