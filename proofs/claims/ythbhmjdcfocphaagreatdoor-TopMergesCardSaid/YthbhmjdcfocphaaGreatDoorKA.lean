/- A part of this proof. -/
import Derived.Test.YthbhmjdcfocphaaGreatDoorKA0
import Derived.Test.YthbhmjdcfocphaaGreatDoorShelf
import Derived.WalkSpells
import Derived.Lib.BufferRead
set_option linter.all false
set_option maxHeartbeats 16000000
set_option maxRecDepth 100000
namespace Go.Proofs.YthbhmjdcfocphaaGreatDoor
open Go.Value renaming string→γ, slice→δ, pointer→ε, int→H
open Go.Obj renaming cells→ζ
open Go.Ending renaming returned→Y
open Go.IntKind renaming i64→N
open Go.Lib renaming hid→K, byteCells→ξ, IsBuilder→Θ, cell_of_heap→ς, Utf8Tabs→av, validRune→aP, decodeL→aV, toList_data→bB, BuilderAt→bD, encodeRuneZ_three→bH, byteCells_length→bI, frozen_of_heap→bL, strCells→cg, decodeGo→cj
open Go.Proofs.Tryz renaming prog→X, underlying68→Γ, ntmps213→aA, func213→aC, underlying9→aJ, ntmps307→aO, underlying84→aQ, func307→aR, underlying5→aT, underlying216→bK, ntmps268→bQ, ntmps229→bS, ntmps76→bW, ntmps34→bX, func268→bY, func229→bZ, func76→b9, func34→b_
open _root_ renaming ByteArray→π, Int→G, Nat→I, List→aK, UInt8→aN, absurd→cr
open Go renaming World→J, Calls→Ξ, Value→aH, convert→aW, maxLen→bG, info_parts→bP
open Go.RowKit renaming Below→V
open pY renaming dec→Δ, sW→ay, sw→aE, enc→aI, search→aU, uH→aY, D8→a_, xF→bh, tC→bz, uk→bJ, wR→bM, sp→bT, JD→bU, cst→bV
open Option renaming none→O, some→U
open Bool renaming false→Z, true→aG, eq_iff_iff→bO
open Go.Proofs renaming intOf→aj
open Go.Ending renaming returned→aL
open Go.IntWalk renaming i64_in→aM
open Go.Value renaming int→aS, bool→aX
namespace Tx
open RowKit
def qL{a b:Bool}(c:a=b):aL (.bool a)=Y (.bool b):=by rw[c]
def RD{k:IntKind}{a b:G}(c:a=b):aL (.int k a)=Y (.int k b):=by rw[c]
def W8{r:G}(a:(65<=r/\r<=90)\/r=95\/(97<=r/\r<=122)\/(192<=r/\r<=214)\/(216<=r/\r<=246)\/(248<=r/\r<=767)\/(880<=r/\r<=893)\/(895<=r/\r<=8191)\/(8204<=r/\r<=8205)\/(8304<=r/\r<=8591)\/(11264<=r/\r<=12271)\/(12289<=r/\r<=55295)\/(63744<=r/\r<=64975)\/(65008<=r/\r<=65533)\/(65536<=r/\r<=983039)):aY r=aG:=nK a
def W9{r:G}(a:¬((65<=r/\r<=90)\/r=95\/(97<=r/\r<=122)\/(192<=r/\r<=214)\/(216<=r/\r<=246)\/(248<=r/\r<=767)\/(880<=r/\r<=893)\/(895<=r/\r<=8191)\/(8204<=r/\r<=8205)\/(8304<=r/\r<=8591)\/(11264<=r/\r<=12271)\/(12289<=r/\r<=55295)\/(63744<=r/\r<=64975)\/(65008<=r/\r<=65533)\/(65536<=r/\r<=983039))):aY r=Z:=o9 a
def RE{r:G}(a:(45<=r/\r<=46)\/(48<=r/\r<=57)\/r=183\/(768<=r/\r<=879)\/(8255<=r/\r<=8256)):bU r=aG:=nK a
def RF{r:G}(a:¬((45<=r/\r<=46)\/(48<=r/\r<=57)\/r=183\/(768<=r/\r<=879)\/(8255<=r/\r<=8256))):bU r=Z:=o9 a
def RG{r:G}(a:r=9\/r=10\/r=13\/(32<=r/\r<=55295)\/(57344<=r/\r<=65533)\/(65536<=r/\r<=1114111)):bM r=aG:=nK a
def RH{r:G}(a:¬(r=9\/r=10\/r=13\/(32<=r/\r<=55295)\/(57344<=r/\r<=65533)\/(65536<=r/\r<=1114111))):bM r=Z:=o9 a
def spB_t{c:G}(a:c=32\/c=9\/c=10\/c=13):a_ c=aG:=nK a
def Ns{c:G}(a:¬(c=32\/c=9\/c=10\/c=13)):a_ c=Z:=o9 a
def PF{r:G}(a:(0<=r/\r<0xD800)\/(0xDFFF<r/\r<=0x10FFFF)):aP r=aG:=nK a
def vr_f{r:G}(a:¬((0<=r/\r<0xD800)\/(0xDFFF<r/\r<=0x10FFFF))):aP r=Z:=o9 a
def BA(c:G)(w:J):
 Ξ X 212 #[.int .u8 c] w λe w'=>e=Y (.bool (a_ c))/\w=w':=by
 rcases h1:(c==32) with _|_<;>rcases h2:(c==9) with _|_<;>rcases h3:(c==10) with _|_<;>rcases h4:(c==13) with _|_
 all_goals
  have b:=h1;have d:=h2;have f:=h3;have g:=h4;simp at b d f g
 all_goals try(exfalso;omega)
 all_goals
  first|(have a:=K (spB_t (c:=c) (by omega)))|(have a:=K (Ns (c:=c) (by omega)))
  clear b d f g
  go_enter Tryz.func212,Tryz.ntmps212
  go_wp2
  go_ret
  first|exact⟨qL a.o.symm,rfl⟩|exact⟨qL (by rw[a.o];simp;omega),rfl⟩
def um(c:G)(w:J):
 Ξ X 136 #[.int .u8 c] w λe w'=>e=Y (.bool (a_ c))/\w=w':=by
 rcases h1:(c==32) with _|_<;>rcases h2:(c==9) with _|_<;>rcases h3:(c==10) with _|_<;>rcases h4:(c==13) with _|_
 all_goals
  have b:=h1;have d:=h2;have f:=h3;have g:=h4;simp at b d f g
 all_goals try(exfalso;omega)
 all_goals
  first|(have a:=K (spB_t (c:=c) (by omega)))|(have a:=K (Ns (c:=c) (by omega)))
  clear b d f g
  go_enter Tryz.func136,Tryz.ntmps136
  go_wp2
  go_ret
  first|exact⟨qL a.o.symm,rfl⟩|exact⟨qL (by rw[a.o];simp;omega),rfl⟩
def JG(r:G)(w:J):
 Ξ X 135 #[H N r] w λe w'=>e=Y (.bool (bM r))/\w=w':=by
 have g:r<9\/r=9\/r=10\/(11<=r/\r<=12)\/r=13\/(14<=r/\r<=31)\/(32<=r/\r<=55295)\/(55296<=r/\r<=57343)\/(57344<=r/\r<=65533)\/(65534<=r/\r<=65535)\/(65536<=r/\r<=1114111)\/1114112<=r:=by omega
 have f:=@RG r;have d:=@RH r;rcases g with a|rfl|rfl|⟨a,b⟩|rfl|⟨a,b⟩|⟨a,b⟩|⟨a,b⟩|⟨a,b⟩|⟨a,b⟩|⟨a,b⟩|a
 all_goals
  first|(have c:=K (f (by omega)))|(have c:=K (d (by omega)))
  clear f d
  go_enter Tryz.func135,Tryz.ntmps135
  go_wp2
  go_ret
  first|exact⟨qL c.o.symm,rfl⟩|exact⟨qL (by rw[c.o];simp;omega),rfl⟩
def Nt(r:G)(w:J):
 Ξ X 324 #[.int .i32 r] w λe w'=>e=Y (.bool (bM r))/\w=w':=by
 have j:r<0\/(0<=r/\r<=8)\/r=9\/r=10\/(11<=r/\r<=12)\/r=13\/(14<=r/\r<=31)\/(32<=r/\r<=55295)\/(55296<=r/\r<=57343)\/(57344<=r/\r<=65533)\/r=65534\/r=65535\/(65536<=r/\r<=1114111)\/1114112<=r:=by omega
 have f:=@RG r;have d:=@RH r;have h:=@PF r;have g:=@vr_f r;rcases j with a|⟨a,b⟩|rfl|rfl|⟨a,b⟩|rfl|⟨a,b⟩|⟨a,b⟩|⟨a,b⟩|⟨a,b⟩|rfl|rfl|⟨a,b⟩|a
 all_goals
  first|(have c:=K (f (by omega)))|(have c:=K (d (by omega)))
  first|(have i:=h (by omega))|(have i:=g (by omega))
  clear f d h g
  go_enter Tryz.func324,Tryz.ntmps324
  go_wp2_with(go_at_call 271;refine(Tryz.utf8_ValidRune _ _).mono ?_;rintro e w' ⟨rfl,rfl⟩)
  go_ret
  first|exact⟨qL c.o.symm,rfl⟩|exact⟨qL (by rw[c.o];simp;omega),rfl⟩
def T4(r:G):Bool:=decide ((65<=r/\r<=90)\/(97<=r/\r<=122)\/r=95)
def letB_t{r:G}(a:(65<=r/\r<=90)\/(97<=r/\r<=122)\/r=95):T4 r=aG:=nK a
def letB_f{r:G}(a:¬((65<=r/\r<=90)\/(97<=r/\r<=122)\/r=95)):T4 r=Z:=o9 a
def T5(r:G):Bool:=decide ((192<=r/\r<=767/\r≠215/\r≠247)\/(880<=r/\r<=8191/\r≠894))
def lowB_t{r:G}(a:(192<=r/\r<=767/\r≠215/\r≠247)\/(880<=r/\r<=8191/\r≠894)):T5 r=aG:=nK a
def lowB_f{r:G}(a:¬((192<=r/\r<=767/\r≠215/\r≠247)\/(880<=r/\r<=8191/\r≠894))):T5 r=Z:=o9 a
def T6(r:G):Bool:=decide (r=8204\/r=8205\/(8304<=r/\r<=8591)\/(11264<=r/\r<=12271)\/(12289<=r/\r<=55295))
def midB_t{r:G}(a:r=8204\/r=8205\/(8304<=r/\r<=8591)\/(11264<=r/\r<=12271)\/(12289<=r/\r<=55295)):T6 r=aG:=nK a
def midB_f{r:G}(a:¬(r=8204\/r=8205\/(8304<=r/\r<=8591)\/(11264<=r/\r<=12271)\/(12289<=r/\r<=55295))):T6 r=Z:=o9 a
def T7(r:G):Bool:=decide ((63744<=r/\r<=64975)\/(65008<=r/\r<=65533)\/(65536<=r/\r<=983039))
def higB_t{r:G}(a:(63744<=r/\r<=64975)\/(65008<=r/\r<=65533)\/(65536<=r/\r<=983039)):T7 r=aG:=nK a
def higB_f{r:G}(a:¬((63744<=r/\r<=64975)\/(65008<=r/\r<=65533)\/(65536<=r/\r<=983039))):T7 r=Z:=o9 a
def W_(r:G):aY r=(T4 r||T5 r||T6 r||T7 r):=by unfold aY T4 T5 T6 T7;rw[bO];simp only[lg,nP];omega
def Ct(r:G)(w:J):
 Ξ X 269 #[H N r] w λe w'=>e=Y (.bool (aY r))/\w=w':=by
 have h:=K (W_ r)
 go_enter Tryz.func269,Tryz.ntmps269
 go_upto_region 1 with fail
 go_cut [3] (λc j=>c= .bool (T4 r)/\w=j)
 case first=>
  have g:=@letB_t r;have f:=@letB_f r;have i:r<65\/(65<=r/\r<=90)\/(91<=r/\r<=94)\/r=95\/r=96\/(97<=r/\r<=122)\/123<=r:=(by omega);rcases i with a|⟨a,b⟩|⟨a,b⟩|rfl|rfl|⟨a,b⟩|a
  all_goals
   first|(have d:=K (g (by omega)))|(have d:=K (f (by omega)))
   clear g f h
   go_wp2
   go_meet
   exact⟨by first|(rw[d.o];done)|exact nT aX (by rw[d.o];simp;omega),rfl⟩
 case rest=>
  obtain⟨rfl,rfl⟩:=hcut
  go_upto_region 2 with fail
  go_cut [4] (λc j=>c= .bool (T5 r)/\w=j)
  case first=>
   have g:=@lowB_t r;have f:=@lowB_f r;have i:r<192\/(192<=r/\r<=214)\/r=215\/(216<=r/\r<=246)\/r=247\/(248<=r/\r<=767)\/(768<=r/\r<=879)\/(880<=r/\r<=893)\/r=894\/(895<=r/\r<=8191)\/8192<=r:=(by omega);rcases i with a|⟨a,b⟩|rfl|⟨a,b⟩|rfl|⟨a,b⟩|⟨a,b⟩|⟨a,b⟩|rfl|⟨a,b⟩|a
   all_goals
    first|(have d:=K (g (by omega)))|(have d:=K (f (by omega)))
    clear g f h
    go_wp2
    go_meet
    exact⟨by first|(rw[d.o];done)|exact nT aX (by rw[d.o];simp;omega),rfl⟩
  case rest=>
   obtain⟨rfl,rfl⟩:=hcut
   go_upto_region 3 with fail
   go_cut [5] (λc j=>c= .bool (T6 r)/\w=j)
   case first=>
    have g:=@midB_t r;have f:=@midB_f r;have i:r<8204\/r=8204\/r=8205\/(8206<=r/\r<=8303)\/(8304<=r/\r<=8591)\/(8592<=r/\r<=11263)\/(11264<=r/\r<=12271)\/(12272<=r/\r<=12288)\/(12289<=r/\r<=55295)\/55296<=r:=(by omega);rcases i with a|rfl|rfl|⟨a,b⟩|⟨a,b⟩|⟨a,b⟩|⟨a,b⟩|⟨a,b⟩|⟨a,b⟩|a
    all_goals
     first|(have d:=K (g (by omega)))|(have d:=K (f (by omega)))
     clear g f h
     go_wp2
     go_meet
     exact⟨by first|(rw[d.o];done)|exact nT aX (by rw[d.o];simp;omega),rfl⟩
   case rest=>
    obtain⟨rfl,rfl⟩:=hcut
    go_upto_region 4 with fail
    go_cut [6] (λc j=>c= .bool (T7 r)/\w=j)
    case first=>
     have g:=@higB_t r;have f:=@higB_f r;have i:r<63744\/(63744<=r/\r<=64975)\/(64976<=r/\r<=65007)\/(65008<=r/\r<=65533)\/(65534<=r/\r<=65535)\/(65536<=r/\r<=983039)\/983040<=r:=(by omega);rcases i with a|⟨a,b⟩|⟨a,b⟩|⟨a,b⟩|⟨a,b⟩|⟨a,b⟩|a
     all_goals
      first|(have d:=K (g (by omega)))|(have d:=K (f (by omega)))
      clear g f h
      go_wp2
      go_meet
      exact⟨by first|(rw[d.o];done)|exact nT aX (by rw[d.o];simp;omega),rfl⟩
    case rest=>
     obtain⟨rfl,rfl⟩:=hcut;rcases h1:T4 r with _|_
     ·rcases h2:T5 r with _|_
      ·rcases h3:T6 r with _|_
       ·rcases h4:T7 r with _|_
        all_goals
         go_wp2
         go_ret;exact⟨qL (by rw[h.o,h1,h2,h3,h4];rfl),rfl⟩
       ·go_wp2
        go_ret;exact⟨qL (by rw[h.o,h1,h2,h3];rfl),rfl⟩
      ·go_wp2
       go_ret;exact⟨qL (by rw[h.o,h1,h2];rfl),rfl⟩
     ·go_wp2
      go_ret;exact⟨qL (by rw[h.o,h1];rfl),rfl⟩
def zo:Array aH:=(pY.v_.map λz=>aS .i32 z).toArray
def BB:Array aH:=(pY.yC.map λz=>aS .i32 z).toArray
def sLo(i:I):G:=pY.v_.getD (2*i) 0
def sHi(i:I):G:=pY.v_.getD (2*i+1) 0
def mLo(i:I):G:=pY.yC.getD (2*i) 0
def mHi(i:I):G:=pY.yC.getD (2*i+1) 0
structure uM(w:J):Prop where
 st:∃t fr,w.heap[12]?=U (ζ zo t fr)
 mo:∃t fr,w.heap[11]?=U (ζ BB t fr)
def sK(w:J)(o:Obj):(w.alloc o).heap[w.heap.size]?=U o:=by
 show(w.heap.push o)[w.heap.size]?=_
 rw[kJ,oD rfl]
def zU{w w':J}{g:I}{o:Obj}(b:V w.heap.size w w')(a:w.heap[g]?=U o):w'.heap[g]?=U o:=by rw[b.block g (lt_of_block a)];exact a
def uM.below{w w':J}(c:uM w)(a:V w.heap.size w w'):uM w':=by obtain⟨⟨t,b,d⟩,⟨u,fs,e⟩⟩:=c;exact⟨⟨t,b,zU a d⟩,⟨u,fs,zU a e⟩⟩
def lt_of_cell{w:J}{a:Addr}{v:aH}(b:w.cell? a=U v):a.block<w.heap.size:=by
 unfold World.cell? at b
 cases e:w.heap[a.block]? with
 |none=>rw[e] at b;simp at b
 |some o=>exact lt_of_block e
def qC{w w':J}{d e:I}(a:av d e w)(b:V w.heap.size w w'):av d e w':=by
 refine⟨λc g=>?_,λi f=>⟨?_,?_⟩⟩
 ·have:=a.1 c g;rw[b.cell (lt_of_cell this)];exact this
 ·have:=(a.2 i f).1;rw[b.cell (lt_of_cell this)];exact this
 ·have:=(a.2 i f).2;rw[b.cell (lt_of_cell this)];exact this
def uo{a b c:J}(d:V a.heap.size a b)(k:V b.heap.size b c):V a.heap.size a c:=d.trans (k.mono d.size)
def T8(i:I)(a:i<15)(w:J):(Instr.index 423 (.agg zo) (H N i)).run X w= .ok (.agg #[.int .i32 (sLo i),.int .i32 (sHi i)]) w:=by
 have e:i=0\/i=1\/i=2\/i=3\/i=4\/i=5\/i=6\/i=7\/i=8\/i=9\/i=10\/i=11\/i=12\/i=13\/i=14:=by omega
 rcases e with rfl|rfl|rfl|rfl|rfl|rfl|rfl|rfl|rfl|rfl|rfl|rfl|rfl|rfl|rfl
 all_goals
  clear a;change _=_
  kernel_rfl
def Xa(i:I)(a:i<5)(w:J):(Instr.index 422 (.agg BB) (H N i)).run X w= .ok (.agg #[.int .i32 (mLo i),.int .i32 (mHi i)]) w:=by
 have e:i=0\/i=1\/i=2\/i=3\/i=4:=by omega
 rcases e with rfl|rfl|rfl|rfl|rfl
 all_goals
  clear a;change _=_
  kernel_rfl
def Xb(r:G)(i:I)(c:i<15)(a:sLo i<=r)(b:r<=sHi i):aY r=aG:=by
 have e:i=0\/i=1\/i=2\/i=3\/i=4\/i=5\/i=6\/i=7\/i=8\/i=9\/i=10\/i=11\/i=12\/i=13\/i=14:=by omega
 rcases e with rfl|rfl|rfl|rfl|rfl|rfl|rfl|rfl|rfl|rfl|rfl|rfl|rfl|rfl|rfl
 all_goals
  simp[sLo,sHi,pY.v_] at a b;exact W8 (by omega)
def T9(r:G)(a:∀i,i<15->r<sLo i\/sHi i<r):aY r=Z:=by have b:=a 0 (by omega);have c:=a 1 (by omega);have j:=a 2 (by omega);have k:=a 3 (by omega);have l:=a 4 (by omega);have m:=a 5 (by omega);have n:=a 6 (by omega);have o:=a 7 (by omega);have p:=a 8 (by omega);have q:=a 9 (by omega);have d:=a 10 (by omega);have e:=a 11 (by omega);have f:=a 12 (by omega);have g:=a 13 (by omega);have h:=a 14 (by omega);clear a;simp[sLo,sHi,pY.v_] at b c j k l m n o p q d e f g h;exact W9 (by omega)
def more_in(r:G)(i:I)(c:i<5)(a:mLo i<=r)(b:r<=mHi i):bU r=aG:=by
 have e:i=0\/i=1\/i=2\/i=3\/i=4:=by omega
 rcases e with rfl|rfl|rfl|rfl|rfl
 all_goals
  simp[mLo,mHi,pY.yC] at a b;exact RE (by omega)
def Xc(r:G)(a:∀i,i<5->r<mLo i\/mHi i<r):bU r=Z:=by have b:=a 0 (by omega);have c:=a 1 (by omega);have d:=a 2 (by omega);have e:=a 3 (by omega);have f:=a 4 (by omega);clear a;simp[mLo,mHi,pY.yC] at b c d e f;exact RF (by omega)
def NoS(r:G)(k:I):Prop:=∀i,i<k->r<sLo i\/sHi i<r
def NoM(r:G)(k:I):Prop:=∀i,i<k->r<mLo i\/mHi i<r
def DZ(r:G)(w:J)(n:uM w):
 Ξ X 365 #[.int .i32 r] w λe w'=>e=Y (.bool (aY r))/\V w.heap.size w w':=by
 obtain⟨⟨t,m,l⟩,_⟩:=n
 go_enter Tryz.func365,Tryz.ntmps365
 go_wp2_with(refine iV rfl 423 _ rfl 12 rfl t zo m _ l Tryz.underlying423 rfl (by kernel_rfl) ?_)
 clear l
 go_loopw [6] (λi wr=>∃k:I,k<=15/\i=H N k/\NoS r k/\V w.heap.size w wr) (λi _=>(15-aj i).toNat)
 case atStart=>exact⟨0,by omega,rfl,λi f=>cr f (by omega),pH _ _⟩
 case round=>
  obtain⟨k,p,rfl,j,d⟩:=hrel;have c:=K j;have a:=K d;have g:=d.size;clear j d
  by_cases h:k<15
  ·have o:=T8 k h
   by_cases c1:sLo k<=r
   ·by_cases c2:r<=sHi k
    ·have b:=K (Xb r k h c1 c2)
     go_wp2
     go_ret;exact⟨qL b.o.symm,(a.o).alloc g _⟩
    ·go_wp2
     go_roundw
     case rel=>exact⟨k+1,by omega,by go_num,λi f=>by
      by_cases e:i=k
      ·subst e;right;omega
      ·exact c.o i (by omega),(a.o).alloc g _⟩
     case measure=>simp[aj];omega
   ·go_wp2
    go_roundw
    case rel=>exact⟨k+1,by omega,by go_num,λi f=>by
     by_cases e:i=k
     ·subst e;left;omega
     ·exact c.o i (by omega),(a.o).alloc g _⟩
    case measure=>simp[aj];omega
  ·obtain rfl:k=15:=by omega
   have b:=K (T9 r c.o)
   go_wp2
   go_ret;exact⟨qL b.o.symm,a.o⟩
def M7(r:G)(w:J)(h:uM w):
 Ξ X 364 #[.int .i32 r] w λe w'=>e=Y (.bool (bh r))/\V w.heap.size w w':=by
 have p:=K h;obtain⟨_,⟨t,q,n⟩⟩:=h
 go_enter Tryz.func364,Tryz.ntmps364
 go_wp2_with(refine iV rfl 422 _ rfl 11 rfl t BB q _ n Tryz.underlying422 rfl (by kernel_rfl) ?_)
 clear n
 go_loopw [6] (λi wr=>∃k:I,k<=5/\i=H N k/\NoM r k/\V w.heap.size w wr) (λi _=>(5-aj i).toNat)
 case atStart=>exact⟨0,by omega,rfl,λi f=>cr f (by omega),pH _ _⟩
 case round=>
  obtain⟨k,u,rfl,m,d⟩:=hrel;have c:=K m;have a:=K d;have g:=d.size;clear m d
  by_cases l:k<5
  ·have s:=Xa k l
   by_cases c1:mLo k<=r
   ·by_cases c2:r<=mHi k
    ·have b:=K (show bh r=aG by unfold bh;rw[more_in r k l c1 c2];rfl)
     go_wp2
     go_ret;exact⟨qL b.o.symm,(a.o).alloc g _⟩
    ·go_wp2
     go_roundw
     case rel=>exact⟨k+1,by omega,by go_num,λi f=>by
      by_cases e:i=k
      ·subst e;right;omega
      ·exact c.o i (by omega),(a.o).alloc g _⟩
     case measure=>simp[aj];omega
   ·go_wp2
    go_roundw
    case rel=>exact⟨k+1,by omega,by go_num,λi f=>by
     by_cases e:i=k
     ·subst e;left;omega
     ·exact c.o i (by omega),(a.o).alloc g _⟩
    case measure=>simp[aj];omega
  ·obtain rfl:k=5:=by omega
   have b:=K (show bh r=aY r by unfold bh;rw[Xc r c.o];rfl)
   go_wp2_with fail
   refine(DZ r _ (p.o.below a.o)).mono ?_;rintro e v⟨rfl,j⟩;have o:=pR a j;clear j
   go_wp2_with fail
   go_ret;exact⟨qL b.o.symm,o.o⟩
def TL(r:G)(w:J):
 Ξ X 268 #[H N r] w λe w'=>e=Y (.bool (bh r))/\w=w':=by
 rcases hs:aY r with _|_
 ·have g:=@RE r
  have d:=@RF r;have f:bh r=bU r:=(by unfold bh;rw[hs];simp);rw[f];clear f;have h:r<45\/r=45\/r=46\/r=47\/(48<=r/\r<=57)\/(58<=r/\r<=182)\/r=183\/(184<=r/\r<=767)\/(768<=r/\r<=879)\/(880<=r/\r<=8254)\/r=8255\/r=8256\/8257<=r:=(by omega);rcases h with a|rfl|rfl|rfl|⟨a,c⟩|⟨a,c⟩|rfl|⟨a,c⟩|⟨a,c⟩|⟨a,c⟩|rfl|rfl|a
  all_goals
   first|(have b:=K (g (by omega)))|(have b:=K (d (by omega)))
   clear g d
   go_enter bY,bQ
   go_wp2_with(go_at_call 269;refine(Ct _ _).mono ?_;rintro e w' ⟨rfl,rfl⟩)
   go_ret
   first|exact⟨qL b.o.symm,rfl⟩|exact⟨qL (by rw[b.o];simp;omega),rfl⟩
 ·have b:=K (show bh r=aG by unfold bh;rw[hs];simp)
  go_enter bY,bQ
  go_wp2_with(go_at_call 269;refine(Ct _ _).mono ?_;rintro e w' ⟨rfl,rfl⟩)
  go_ret;exact⟨qL b.o.symm,rfl⟩
def IT(s:π)(k:I)(b:k<s.size):cj (s.extract k s.size)=aV (s.data.toList.drop k):=by
 have e:(s.extract k s.size).data.toList=s.data.toList.drop k:=Lib.extract_to_end s k;have a:(s.extract k s.size).size≠0:=by simp;omega
 unfold cj;rw[oU a,<-e];rfl
def yD{s:π}{k:I}(a:k<s.size):s.data.toList.drop k≠[]:=by intro e;have:=nT List.length e;simp at this;have:s.data.size=s.size:=rfl;omega
def Pc(s:π)(a:G)(w:J)(b:a<0\/(s.size:G)<=a):
 Ξ X 307 #[γ s,H N a] w λe w'=>e=Y (.tuple #[.int .i32 0,H N 0])/\w=w':=by
 rcases b with b|b
 all_goals
  go_enter aR,aO
  go_wp2
  go_ret2;exact⟨rfl,rfl⟩
def JH(s:π)(k:I)(w:J)(l:k<s.size)(p:av 2 3 w):
 Ξ X 307 #[γ s,H N k] w λe w'=>e=Y (.tuple #[.int .i32 (Δ (s.data.toList.drop k)).1,H N (Δ (s.data.toList.drop k)).2])/\V w.heap.size w w':=by
 have b:=Tryz.utf8_DecodeRuneInString (s.extract k s.size) w p;rw[IT s k l] at b;have i:=yD l;obtain⟨R,h⟩:=pL ((aV (s.data.toList.drop k)).1);obtain⟨M,g⟩:=pL ((aV (s.data.toList.drop k)).2);have j:aV (s.data.toList.drop k)=(R,M):=Prod.ext h g;rw[h,g] at b
 by_cases a:R=65533/\M=1
 ·obtain⟨rfl,rfl⟩:=a
  have d:Δ (s.data.toList.drop k)=(0,0):=(by unfold Δ;rw[oU i,oD j]);rw[d];have f:=K b;clear b h g j d i
  go_enter aR,aO
  go_wp2_with fail
  refine(f.o).mono ?_;rintro e n⟨rfl,a⟩;have c:=K a;clear a
  go_wp2_with fail
  go_ret2;exact⟨rfl,c.o⟩
 ·have d:Δ (s.data.toList.drop k)=(R,M):=by
   unfold Δ;rw[oU i,j,oU (by simp only[mT];exact a)]
  rw[d];have f:=K b;clear b h g j d i
  by_cases m:R=65533
  ·subst m
   have o:((M:G)==1)=Z:=(by simp;omega);clear a
   go_enter aR,aO
   go_wp2_with fail
   refine(f.o).mono ?_;rintro e n⟨rfl,a⟩;have c:=K a;clear a
   go_wp2_with fail
   go_ret2;exact⟨rfl,c.o⟩
  ·have o:((R:G)==65533)=Z:=by simp;omega
   clear a m
   go_enter aR,aO
   go_wp2_with fail
   refine(f.o).mono ?_;rintro e n⟨rfl,a⟩;have c:=K a;clear a
   go_wp2_with fail
   go_ret2;exact⟨rfl,c.o⟩
def PI(r:G)(w:J)(a:r<0\/1114111<r\/(55296<=r/\r<=57343)):
 Ξ X 213 #[H N r] w λe w'=>e=Y (γ ⟨#[]⟩)/\V w.heap.size w w':=by
 rcases a with a|a|⟨a,b⟩
 all_goals
  go_enter aC,aA
  go_wp2
  go_ret;exact⟨rfl,pH _ _⟩
def we(w:J)(a:aK G)(n:I)(c:a.length=n):
 (aW 68 9 (δ (U ⟨w.heap.size,0,O⟩) n n)).run X (w.alloc (ζ (a.map (aS .u8)).toArray 5))= .ok (γ (strOfNums a)) (w.alloc (ζ (a.map (aS .u8)).toArray 5)):=
 run_convert_bytes_arg (P:=X) _ 68 5 Γ aT w.heap.size 0 n n a c (λi d=>by
  have b:=sK w (ζ (a.map (aS .u8)).toArray 5);unfold World.cell?;simp only[b];simp[oW (show i<a.length by omega)]) 9 aJ
def AY{r:G}{a:aK G}(c:aP r=aG)(b:Lib.encodeRuneZ r=a):strOfNums a=⟨(aI r).toArray⟩:=by unfold aI Lib.encodeRune;rw[oD c,b];rfl
def enc_bad{r:G}(a:aP r=Z):aI r=[]:=by unfold aI;simp[a]
def uR{a b:π}(c:a=b):aL (γ a)=Y (γ b):=by rw[c]
def Xd(r:G)(w:J)(b:0<=r)(c:r<128):
 Ξ X 213 #[H N r] w λe w'=>e=Y (γ ⟨(aI r).toArray⟩)/\V w.heap.size w w':=by
 have d:(aW 68 9 (δ (U ⟨w.heap.size,0,O⟩) 1 1)).run X (w.alloc (ζ #[.int .u8 (r)] 5))=_:=we w [r] 1 rfl;have a:=K (AY (r:=r) (PF (by omega)) (Lib.encodeRuneZ_one (by omega) (by omega)))
 go_enter aC,aA
 go_wp2
 go_ret;exact⟨uR a.o,pM _ _⟩
def Xe(r:G)(w:J)(b:128<=r)(c:r<2048):
 Ξ X 213 #[H N r] w λe w'=>e=Y (γ ⟨(aI r).toArray⟩)/\V w.heap.size w w':=by
 have d:(aW 68 9 (δ (U ⟨w.heap.size,0,O⟩) 2 2)).run X (w.alloc (ζ #[.int .u8 (192+r/64),.int .u8 (128+r%64)] 5))=_:=we w [192+r/64,128+r%64] 2 rfl;have a:=K (AY (r:=r) (PF (by omega)) (Lib.encodeRuneZ_two (by omega) (by omega)))
 go_enter aC,aA
 go_wp2
 go_ret;exact⟨uR a.o,pM _ _⟩
def T_(r:G)(w:J)(b:2048<=r)(c:r<55296):
 Ξ X 213 #[H N r] w λe w'=>e=Y (γ ⟨(aI r).toArray⟩)/\V w.heap.size w w':=by
 have d:(aW 68 9 (δ (U ⟨w.heap.size,0,O⟩) 3 3)).run X (w.alloc (ζ #[.int .u8 (224+r/4096),.int .u8 (128+r/64%64),.int .u8 (128+r%64)] 5))=_:=we w [224+r/4096,128+r/64%64,128+r%64] 3 rfl;have a:=K (AY (r:=r) (PF (by omega)) (bH (by omega)))
 go_enter aC,aA
 go_wp2
 go_ret;exact⟨uR a.o,pM _ _⟩
def T'(r:G)(w:J)(b:57343<r)(c:r<65536):
 Ξ X 213 #[H N r] w λe w'=>e=Y (γ ⟨(aI r).toArray⟩)/\V w.heap.size w w':=by
 have d:(aW 68 9 (δ (U ⟨w.heap.size,0,O⟩) 3 3)).run X (w.alloc (ζ #[.int .u8 (224+r/4096),.int .u8 (128+r/64%64),.int .u8 (128+r%64)] 5))=_:=we w [224+r/4096,128+r/64%64,128+r%64] 3 rfl;have a:=K (AY (r:=r) (PF (by omega)) (bH (by omega)))
 go_enter aC,aA
 go_wp2
 go_ret;exact⟨uR a.o,pM _ _⟩
def Xf(r:G)(w:J)(b:65536<=r)(c:r<=1114111):
 Ξ X 213 #[H N r] w λe w'=>e=Y (γ ⟨(aI r).toArray⟩)/\V w.heap.size w w':=by
 have d:(aW 68 9 (δ (U ⟨w.heap.size,0,O⟩) 4 4)).run X (w.alloc (ζ #[.int .u8 (240+r/262144),.int .u8 (128+r/4096%64),.int .u8 (128+r/64%64),.int .u8 (128+r%64)] 5))=_:=we w [240+r/262144,128+r/4096%64,128+r/64%64,128+r%64] 4 rfl;have a:=K (AY (r:=r) (PF (by omega)) (Lib.encodeRuneZ_four (by omega) (by omega)))
 go_enter aC,aA
 go_wp2
 go_ret;exact⟨uR a.o,pM _ _⟩
def xL(r:G)(w:J):
 Ξ X 213 #[H N r] w λe w'=>e=Y (γ ⟨(aI r).toArray⟩)/\V w.heap.size w w':=by
 by_cases a:r<0\/1114111<r\/(55296<=r/\r<=57343)
 ·have e:aI r=[]:=enc_bad (vr_f (by omega))
  rw[e];exact PI r w a
 ·by_cases b:r<128
  ·exact Xd r w (by omega) b
  ·by_cases c:r<2048
   ·exact Xe r w (by omega) c
   ·by_cases d:r<55296
    ·exact T_ r w (by omega) d
    ·by_cases f:r<65536
     ·exact T' r w (by omega) f
     ·exact Xf r w (by omega) (by omega)
def rp(l:aK aN)(n:I):I->I
 |0=>if n=2 then(l.getD 0 0).toNat%32 else if n=3 then(l.getD 0 0).toNat%16 else if n=4 then(l.getD 0 0).toNat%8 else(l.getD 0 0).toNat
 |i+1=>rp l n i*64+(l.getD (i+1) 0).toNat%64
def BC(l:aK aN)(n i:I):rp l n (i+1)=rp l n i*64+(l.getD (i+1) 0).toNat%64:=rfl
def RJ(l:aK aN)(n i:I)(a:i<=3):rp l n i<=67108863:=by
 have b:rp l n 0<=255:=by
  have:=pY.Cw l 0;unfold rp
  split
  ·omega
  ·split
   ·omega
   ·split<;>omega
 have c:rp l n 1<=16383:=by rw[BC];omega
 have d:rp l n 2<=1048575:=by rw[BC];omega
 have e:rp l n 3<=67108863:=by rw[BC];omega
 rcases(show i=0\/i=1\/i=2\/i=3 by omega) with rfl|rfl|rfl|rfl<;>omega
def GG(l:aK aN)(n:I)(a:1<=n)(b:n<=4):rp l n (n-1)=pY.rval l n:=by rcases(show n=1\/n=2\/n=3\/n=4 by omega) with rfl|rfl|rfl|rfl<;>simp[rp,pY.rval]
def D9(s:π)(k i:I)(a:k+i<s.size):((s.data.toList.drop k).getD i 0).toNat=(s[k+i]'a).toNat:=by
 have b:k+i<s.data.toList.length:=by simpa using a
 rw[om,kU,oW b];rfl
def cmp_eq(s:π)(k n:I)(L:aK aN)(c:L=s.data.toList.drop k)(a:1<=n)(b:n<=4)(d:n<=L.length):
 (aI ((rp L n (n-1):I):G)==(s.extract k (k+n)).toList)=decide ((Δ L).2=n):=by
 rw[bB,Lib.extract_data,<-c,gX,GG L n a b,bO];simp only[kG,nP];exact(aU L n a b d).1
def tY{k l:IntKind}{a b c d:G}(e:a=b)(g:c=d):aL (.tuple #[.int k a,.int l c])=Y (.tuple #[.int k b,.int l d]):=by rw[e,g]
def GH(s:π)(k:I)(w:J)(aa:k<s.size)(ak:s.size<=9223372036854775807):
 Ξ X 134 #[γ s,H N k] w λe w'=>e=Y (.tuple #[H N (Δ (s.data.toList.drop k)).1,H N (Δ (s.data.toList.drop k)).2])/\V w.heap.size w w':=by
 obtain⟨L,S⟩:∃L,L=s.data.toList.drop k:=⟨_,rfl⟩;rw[<-S];have a8:L.length=s.size-k:=by rw[S];simp
 have C:=K S;have h:=K a8;clear S a8;have ab:decide ((k:G)<0)=Z:=by simp
 have ac:decide (s.size<=k)=Z:=by simp;omega
 go_enter Tryz.func134,Tryz.ntmps134
 go_wp2
 go_loopw [6] (λa wr=>∃n:G,1<=n/\n<=5/\n<=(s.size:G) -k+1/\a=H N n/\Hid (∀j:I,1<=j->(j:G)<n->(Δ L).2≠j)/\V w.heap.size w wr) (λa _=>(5-aj a).toNat)
 case atStart=>exact⟨1,by omega,by omega,by omega,rfl,λj l R=>cr l (by omega),pH _ _⟩
 case round=>
  obtain⟨n,ag,ah,ai,rfl,F,a0⟩:=hrel;have B:=K a0;have T:=a0.size;clear a0
  by_cases a2:n<=4/\n<=(s.size:G) -k
  ·obtain⟨ae,af⟩:=a2
   have M:=mY s[k];have P:=K (show(L.getD 0 0).toNat=(s[k]).toNat by rw[C.o];exact D9 s k 0 aa);have W:=K (show∀i,(r:k+i<s.size)->(L.getD i 0).toNat=(s[k+i]'r).toNat fromλi r=>by rw[C.o];exact D9 s k i r);rcases(show n=1\/n=2\/n=3\/n=4 by omega) with rfl|rfl|rfl|rfl
   ·have o:=K (show rp L 1 0=(L.getD 0 0).toNat from rfl)
    have Q:decide ((1:G)<=(s.size:G) -k)=aG:=by simp;omega
    go_wp2
    go_loop [7,8] (λa b=>∃i:I,i+1<=1/\b=H N ((i+1:I):G)/\a=H N (rp L 1 i:I)) (λ_ b=>(1-aj b).toNat)
    case atStart=>exact⟨0,by omega,rfl,by(rw[o.o,P.o])<;>go_num⟩
    case round=>
     obtain⟨i,r,rfl,rfl⟩:=hrel;have a1:=RJ L 1 i (by omega)
     by_cases a3:i+1<1
     ·exfalso;omega
     ·obtain rfl:i=0:=by omega
      have t:(k:G)+1<=(s.size:G):=(by omega);have u:IntKind.i64.wrap ((k:G)+1)=(k:G)+1:=aM _ (by omega);have v:0<=(k:G)+1:=(by omega);have x:((k:G)+1).toNat=k+1:=(by omega);have y:k+1<=s.size:=(by omega);have z:(k:G)<=(k:G)+1:=by omega
      go_upto_region 17 with fail
      have m:=K (cmp_eq s k 1 L C.o (by omega) (by omega) (by rw[h.o];omega));have p:=K (show(Δ L).2=1->rp L 1 0=(Δ L).1 fromλe=>by rw[(aU L 1 (by omega) (by omega) (by rw[h.o];omega)).2 e,<-GG L 1 (by omega) (by omega)])
      go_cut [68] (λc A=>∃b:Bool,c= .bool b/\Hid (b=decide ((Δ L).2=1))/\Hid (V w.heap.size w A))
      case first=>
       go_region_with (go_at_call 213;refine(xL _ _).mono ?_;rintro e a4 ⟨rfl,q⟩)
       go_wp2_with fail
       go_meet
       exact⟨_,rfl,m.o,B.o.drew.trans (q.mono T)⟩
      case rest=>
       obtain⟨b,rfl,g,f⟩:=hcut;clear t u v x y z M;rcases b with _|_
       rotate_left
       ·have d:=K (mX g.o.symm)
        go_wp2
        go_ret2;exact⟨tY (by rw[p.o d.o]) (by rw[d.o];rfl),f.o⟩
       ·have d:=K (lI g.o.symm)
        go_wp2
        go_roundw
        case rel=>exact⟨2,by omega,by omega,by omega,rfl,λj l R=>by
         by_cases e:j=1
         ·subst e;exact d.o
         ·exact F.o j l (by omega),f.o⟩
        case measure=>simp[aj]
   ·have o:=K (show rp L 2 0=(L.getD 0 0).toNat%32 from rfl)
    have Q:decide ((2:G)<=(s.size:G) -k)=aG:=by simp;omega
    go_wp2
    go_loop [7,8] (λa b=>∃i:I,i+1<=2/\b=H N ((i+1:I):G)/\a=H N (rp L 2 i:I)) (λ_ b=>(2-aj b).toNat)
    case atStart=>exact⟨0,by omega,rfl,by(rw[o.o,P.o])<;>go_num⟩
    case round=>
     obtain⟨i,r,rfl,rfl⟩:=hrel;have a1:=RJ L 2 i (by omega)
     by_cases a3:i+1<2
     ·have a5:=mY (s[k+(i+1)]'(by omega))
      have E:=K (BC L 2 i);have D:=K (W.o (i+1) (by omega))
      go_wp2
      go_round
      case rel=>exact⟨i+1,by omega,by go_num,by rw[E.o,D.o];go_num⟩
      case measure=>simp[aj];omega
     ·obtain rfl:i=1:=by omega
      have t:(k:G)+2<=(s.size:G):=(by omega);have u:IntKind.i64.wrap ((k:G)+2)=(k:G)+2:=aM _ (by omega);have v:0<=(k:G)+2:=(by omega);have x:((k:G)+2).toNat=k+2:=(by omega);have y:k+2<=s.size:=(by omega);have z:(k:G)<=(k:G)+2:=by omega
      go_upto_region 17 with fail
      have m:=K (cmp_eq s k 2 L C.o (by omega) (by omega) (by rw[h.o];omega));have p:=K (show(Δ L).2=2->rp L 2 1=(Δ L).1 fromλe=>by rw[(aU L 2 (by omega) (by omega) (by rw[h.o];omega)).2 e,<-GG L 2 (by omega) (by omega)])
      go_cut [68] (λc A=>∃b:Bool,c= .bool b/\Hid (b=decide ((Δ L).2=2))/\Hid (V w.heap.size w A))
      case first=>
       go_region_with (go_at_call 213;refine(xL _ _).mono ?_;rintro e a4 ⟨rfl,q⟩)
       go_wp2_with fail
       go_meet
       exact⟨_,rfl,m.o,B.o.drew.trans (q.mono T)⟩
      case rest=>
       obtain⟨b,rfl,g,f⟩:=hcut;clear t u v x y z M;rcases b with _|_
       rotate_left
       ·have d:=K (mX g.o.symm)
        go_wp2
        go_ret2;exact⟨tY (by rw[p.o d.o]) (by rw[d.o];rfl),f.o⟩
       ·have d:=K (lI g.o.symm)
        go_wp2
        go_roundw
        case rel=>exact⟨3,by omega,by omega,by omega,rfl,λj l R=>by
         by_cases e:j=2
         ·subst e;exact d.o
         ·exact F.o j l (by omega),f.o⟩
        case measure=>simp[aj]
   ·have o:=K (show rp L 3 0=(L.getD 0 0).toNat%16 from rfl)
    have Q:decide ((3:G)<=(s.size:G) -k)=aG:=by simp;omega
    go_wp2
    go_loop [7,8] (λa b=>∃i:I,i+1<=3/\b=H N ((i+1:I):G)/\a=H N (rp L 3 i:I)) (λ_ b=>(3-aj b).toNat)
    case atStart=>exact⟨0,by omega,rfl,by(rw[o.o,P.o])<;>go_num⟩
    case round=>
     obtain⟨i,r,rfl,rfl⟩:=hrel;have a1:=RJ L 3 i (by omega)
     by_cases a3:i+1<3
     ·have a5:=mY (s[k+(i+1)]'(by omega))
      have E:=K (BC L 3 i);have D:=K (W.o (i+1) (by omega))
      go_wp2
      go_round
      case rel=>exact⟨i+1,by omega,by go_num,by rw[E.o,D.o];go_num⟩
      case measure=>simp[aj];omega
     ·obtain rfl:i=2:=by omega
      have t:(k:G)+3<=(s.size:G):=(by omega);have u:IntKind.i64.wrap ((k:G)+3)=(k:G)+3:=aM _ (by omega);have v:0<=(k:G)+3:=(by omega);have x:((k:G)+3).toNat=k+3:=(by omega);have y:k+3<=s.size:=(by omega);have z:(k:G)<=(k:G)+3:=by omega
      go_upto_region 17 with fail
      have m:=K (cmp_eq s k 3 L C.o (by omega) (by omega) (by rw[h.o];omega));have p:=K (show(Δ L).2=3->rp L 3 2=(Δ L).1 fromλe=>by rw[(aU L 3 (by omega) (by omega) (by rw[h.o];omega)).2 e,<-GG L 3 (by omega) (by omega)])
      go_cut [68] (λc A=>∃b:Bool,c= .bool b/\Hid (b=decide ((Δ L).2=3))/\Hid (V w.heap.size w A))
      case first=>
       go_region_with (go_at_call 213;refine(xL _ _).mono ?_;rintro e a4 ⟨rfl,q⟩)
       go_wp2_with fail
       go_meet
       exact⟨_,rfl,m.o,B.o.drew.trans (q.mono T)⟩
      case rest=>
       obtain⟨b,rfl,g,f⟩:=hcut;clear t u v x y z M;rcases b with _|_
       rotate_left
       ·have d:=K (mX g.o.symm)
        go_wp2
        go_ret2;exact⟨tY (by rw[p.o d.o]) (by rw[d.o];rfl),f.o⟩
       ·have d:=K (lI g.o.symm)
        go_wp2
        go_roundw
        case rel=>exact⟨4,by omega,by omega,by omega,rfl,λj l R=>by
         by_cases e:j=3
         ·subst e;exact d.o
         ·exact F.o j l (by omega),f.o⟩
        case measure=>simp[aj]
   ·have o:=K (show rp L 4 0=(L.getD 0 0).toNat%8 from rfl)
    have Q:decide ((4:G)<=(s.size:G) -k)=aG:=by simp;omega
    go_wp2
    go_loop [7,8] (λa b=>∃i:I,i+1<=4/\b=H N ((i+1:I):G)/\a=H N (rp L 4 i:I)) (λ_ b=>(4-aj b).toNat)
    case atStart=>exact⟨0,by omega,rfl,by(rw[o.o,P.o])<;>go_num⟩
    case round=>
     obtain⟨i,r,rfl,rfl⟩:=hrel;have a1:=RJ L 4 i (by omega)
     by_cases a3:i+1<4
     ·have a5:=mY (s[k+(i+1)]'(by omega))
      have E:=K (BC L 4 i);have D:=K (W.o (i+1) (by omega))
      go_wp2
      go_round
      case rel=>exact⟨i+1,by omega,by go_num,by rw[E.o,D.o];go_num⟩
      case measure=>simp[aj];omega
     ·obtain rfl:i=3:=by omega
      have t:(k:G)+4<=(s.size:G):=(by omega);have u:IntKind.i64.wrap ((k:G)+4)=(k:G)+4:=aM _ (by omega);have v:0<=(k:G)+4:=(by omega);have x:((k:G)+4).toNat=k+4:=(by omega);have y:k+4<=s.size:=(by omega);have z:(k:G)<=(k:G)+4:=by omega
      go_upto_region 17 with fail
      have m:=K (cmp_eq s k 4 L C.o (by omega) (by omega) (by rw[h.o];omega));have p:=K (show(Δ L).2=4->rp L 4 3=(Δ L).1 fromλe=>by rw[(aU L 4 (by omega) (by omega) (by rw[h.o];omega)).2 e,<-GG L 4 (by omega) (by omega)])
      go_cut [68] (λc A=>∃b:Bool,c= .bool b/\Hid (b=decide ((Δ L).2=4))/\Hid (V w.heap.size w A))
      case first=>
       go_region_with (go_at_call 213;refine(xL _ _).mono ?_;rintro e a4 ⟨rfl,q⟩)
       go_wp2_with fail
       go_meet
       exact⟨_,rfl,m.o,B.o.drew.trans (q.mono T)⟩
      case rest=>
       obtain⟨b,rfl,g,f⟩:=hcut;clear t u v x y z M;rcases b with _|_
       rotate_left
       ·have d:=K (mX g.o.symm)
        go_wp2
        go_ret2;exact⟨tY (by rw[p.o d.o]) (by rw[d.o];rfl),f.o⟩
       ·have d:=K (lI g.o.symm)
        go_wp2
        go_roundw
        case rel=>exact⟨5,by omega,by omega,by omega,rfl,λj l R=>by
         by_cases e:j=4
         ·subst e;exact d.o
         ·exact F.o j l (by omega),f.o⟩
        case measure=>simp[aj]
  ·have a9:(Δ L).2=0:=by
    have a:=pY.D6 L;have b:=pY.Bz L;have c:=h.o;rcases jR (Δ L).2 with e|e
    ·exact e
    ·exact cr rfl (F.o (Δ L).2 e (by omega))
   have a6:=K (pY.zn a9);clear a9
   by_cases a7:n=5
   ·subst a7
    clear a2
    go_wp2
    go_ret2;exact⟨by rw[a6.o];rfl,B.o⟩
   ·have Q:decide (n<=(s.size:G) -k)=Z:=by simp;omega
    have ad:n<=4:=(by omega);clear a2 a7
    go_wp2
    go_ret2;exact⟨by rw[a6.o];rfl,B.o⟩
def GJ(s:π)(k:I)(w:J)(b:k<s.size)(c:av 2 3 w)(d:(Δ (s.data.toList.drop k)).2=0):
 Ξ X 307 #[γ s,H N k] w λe w'=>e=Y (.tuple #[.int .i32 0,H N 0])/\V w.heap.size w w':=by
 have a:=JH s k w b c;rw[pY.zn d] at a;exact a
def ux(s:π)(k R M:I)(w:J)(b:k<s.size)(c:av 2 3 w)(d:Δ (s.data.toList.drop k)=(R,M)):
 Ξ X 307 #[γ s,H N k] w λe w'=>e=Y (.tuple #[.int .i32 R,H N M])/\V w.heap.size w w':=by
 have a:=JH s k w b c;rw[d] at a;exact a
def ES(s:π)(k:I)(w:J)(b:k<s.size)(d:s.size<=9223372036854775807)(c:(Δ (s.data.toList.drop k)).2=0):
 Ξ X 134 #[γ s,H N k] w λe w'=>e=Y (.tuple #[H N 0,H N 0])/\V w.heap.size w w':=by
 have a:=GH s k w b d;rw[pY.zn c] at a;exact a
def zO(s:π)(k R M:I)(w:J)(b:k<s.size)(d:s.size<=9223372036854775807)(c:Δ (s.data.toList.drop k)=(R,M)):
 Ξ X 134 #[γ s,H N k] w λe w'=>e=Y (.tuple #[H N R,H N M])/\V w.heap.size w w':=by
 have a:=GH s k w b d;rw[c] at a;exact a
def xM(s:π)(k:I):(s.data.toList.drop k).length=s.size-k:=by simp
def FU(s:π)(k R M:I)(d:Δ (s.data.toList.drop k)=(R,M))(e:k<s.size):k+M<=s.size/\R<=1114111/\M<=4:=by have a:=pY.D6 (s.data.toList.drop k);have b:=pY.W4 (s.data.toList.drop k);have c:=pY.Bz (s.data.toList.drop k);rw[d] at a b c;rw[xM] at a;exact⟨by omega,b,c⟩
def tu(s:π)(w:J)(v:s.size<=9223372036854775807)(q:av 2 3 w):
 Ξ X 274 #[γ s] w λe w'=>e=Y (.tuple #[H N (ay s.data.toList).1,H N (ay s.data.toList).2])/\V w.heap.size w w':=by
 have o:=K q;clear q
 go_enter Tryz.func274,Tryz.ntmps274
 go_wp2
 go_loopw [4] (λa wr=>∃k:I,k<=s.size/\a=H N k/\Hid (ay s.data.toList=(k+(ay (s.data.toList.drop k)).1,(ay (s.data.toList.drop k)).2))/\V w.heap.size w wr) (λa _=>s.size-(aj a).toNat)
 case atStart=>exact⟨0,oM _,rfl,by simp[Hid],pH _ _⟩
 case round=>
  obtain⟨k,u,rfl,l,p⟩:=hrel;have d:=K p;have x:=p.size;clear p
  by_cases i:k<s.size
  ·have b:=pY.GF (s.data.toList.drop k) (yD i)
   by_cases f:(Δ (s.data.toList.drop k)).2=0
   ·rw[oD f] at b
    have c:=K (show ay s.data.toList=(k,5) by rw[l.o,b];rfl);have j:=K f;clear b f
    go_wp2_with(go_at_call 307;refine(GJ s k _ i (qC o.o d.o) j.o).mono ?_;rintro e r ⟨rfl,h⟩)
    go_ret2;exact⟨tY (by rw[c.o]) (by rw[c.o]),uo d.o (by assumption)⟩
   ·rw[oU f] at b
    obtain⟨g,M,m⟩:∃g M,Δ (s.data.toList.drop k)=(g,M):=⟨_,_,rfl⟩;obtain⟨t,y,z⟩:=FU s k g M m i;rw[m] at b f;have A:1<=M:=(by simp at f;omega);have j:=K m;clear m f;rcases hc:bM g with _|_
    ·rw[oD hc] at b
     have c:=K (show ay s.data.toList=(k,6) by rw[l.o,b];rfl);clear b
     go_wp2_with fail
     refine(ux s k g M _ i (qC o.o d.o) j.o).mono ?_;rintro e r⟨rfl,h⟩;have n:=pR d h;clear h
     go_wp2_with fail
     refine(Nt _ _).mono ?_;rintro e w'⟨rfl,rfl⟩
     go_wp2_with fail
     go_ret2;exact⟨tY (by rw[c.o]) (by rw[c.o]),n.o⟩
    ·rw[oU (by rw[hc];simp)] at b
     have c:=K (show ay s.data.toList=((k+M)+(ay (s.data.toList.drop (k+M))).1,(ay (s.data.toList.drop (k+M))).2) by rw[l.o,b,lE,kZ]);clear b
     go_wp2_with fail
     refine(ux s k g M _ i (qC o.o d.o) j.o).mono ?_;rintro e r⟨rfl,h⟩;have n:=pR d h;clear h
     go_wp2_with fail
     refine(Nt _ _).mono ?_;rintro e w'⟨rfl,rfl⟩
     go_wp2_with fail
     go_roundw
     case rel=>exact⟨k+M,t,by go_num,c.o,n.o⟩
     case measure=>simp[aj];omega
  ·obtain rfl:k=s.size:=by omega
   have c:=K (show ay s.data.toList=(s.size,0) by have e:s.data.toList.drop s.size=[]:=mB (lG (by simp));rw[l.o,e,pY.RC];rfl)
   go_wp2
   go_ret2;exact⟨tY (by rw[c.o]) (by rw[c.o]),d.o⟩
def PJ(s:π)(w:J)(p:s.size<=9223372036854775807):
 Ξ X 73 #[γ s] w λe w'=>e=Y (.tuple #[H N (ay s.data.toList).1,H N (ay s.data.toList).2])/\V w.heap.size w w':=by
 go_enter Tryz.func73,Tryz.ntmps73
 go_wp2
 go_loopw [4] (λa wr=>∃k:I,k<=s.size/\a=H N k/\Hid (ay s.data.toList=(k+(ay (s.data.toList.drop k)).1,(ay (s.data.toList.drop k)).2))/\V w.heap.size w wr) (λa _=>s.size-(aj a).toNat)
 case atStart=>exact⟨0,oM _,rfl,by simp[Hid],pH _ _⟩
 case round=>
  obtain⟨k,t,rfl,l,o⟩:=hrel;have i:=K o;have u:=o.size;clear o
  by_cases h:k<s.size
  ·have b:=pY.GF (s.data.toList.drop k) (yD h)
   by_cases d:(Δ (s.data.toList.drop k)).2=0
   ·rw[oD d] at b
    have c:=K (show ay s.data.toList=(k,5) by rw[l.o,b];rfl);have j:=K d;clear b d
    go_wp2_with(go_at_call 134;refine(ES s k _ h p j.o).mono ?_;rintro e q ⟨rfl,g⟩)
    go_ret2;exact⟨tY (by rw[c.o]) (by rw[c.o]),uo i.o (by assumption)⟩
   ·rw[oU d] at b
    obtain⟨f,M,m⟩:∃f M,Δ (s.data.toList.drop k)=(f,M):=⟨_,_,rfl⟩;obtain⟨r,v,x⟩:=FU s k f M m h;rw[m] at b d;have y:1<=M:=(by simp at d;omega);have j:=K m;clear m d;rcases hc:bM f with _|_
    ·rw[oD hc] at b
     have c:=K (show ay s.data.toList=(k,6) by rw[l.o,b];rfl);clear b
     go_wp2_with fail
     refine(zO s k f M _ h p j.o).mono ?_;rintro e q⟨rfl,g⟩;have n:=pR i g;clear g
     go_wp2_with fail
     refine(JG _ _).mono ?_;rintro e w'⟨rfl,rfl⟩
     go_wp2_with fail
     go_ret2;exact⟨tY (by rw[c.o]) (by rw[c.o]),n.o⟩
    ·rw[oU (by rw[hc];simp)] at b
     have c:=K (show ay s.data.toList=((k+M)+(ay (s.data.toList.drop (k+M))).1,(ay (s.data.toList.drop (k+M))).2) by rw[l.o,b,lE,kZ]);clear b
     go_wp2_with fail
     refine(zO s k f M _ h p j.o).mono ?_;rintro e q⟨rfl,g⟩;have n:=pR i g;clear g
     go_wp2_with fail
     refine(JG _ _).mono ?_;rintro e w'⟨rfl,rfl⟩
     go_wp2_with fail
     go_roundw
     case rel=>exact⟨k+M,r,by go_num,c.o,n.o⟩
     case measure=>simp[aj];omega
  ·obtain rfl:k=s.size:=by omega
   have c:=K (show ay s.data.toList=(s.size,0) by have e:s.data.toList.drop s.size=[]:=mB (lG (by simp));rw[l.o,e,pY.RC];rfl)
   go_wp2
   go_ret2;exact⟨tY (by rw[c.o]) (by rw[c.o]),i.o⟩
end Tx
namespace wu
open RowKit
abbrev TB:TypeId:=86
abbrev TU:TypeId:=5
def Ey:(Tryz.prog.info? 86).map (·.size)=U 2:=by kernel_rfl
def Mi:liesAt X Tryz.prog.depth 86 (2/Tryz.prog.cellsOf 86) 0 86 1=aG:=by kernel_rfl
def An:(Tryz.prog.info? 5).map (λi=>(i.zero,i.size,i.bytes))=U (U (.int .u8 0),1,1):=by kernel_rfl
def own_below{w w':J}{base:I}{e:TypeId}{v:aH}{n:I}{c:aK aH}(b:w.ownsRow base e 1 v n c)(a:V w.heap.size w w'):w'.ownsRow base e 1 v n c:=
 b.kept (row:=O) ⟨a.os,a.tape,a.output,a.size,λk d _=>a.block k d⟩ (by
  rcases b.2 with⟨rfl,_⟩|⟨g,cap,f,rfl,_⟩
  ·left;rfl
  ·right;simp[Value.ownBlock])
def vQ{B b:I}{p:aH}{a:aK aH}{w w':J}(e:bD TB TU B b p a w)(d:V w.heap.size w w'):bD TB TU B b p a w':=by obtain⟨f,v,c,g,h⟩:=e;exact⟨f,v,by rw[d.block b ((Array.getElem?_eq_some_iff.1 c).1)];exact c,own_below g d,h⟩
def sZ{B b:I}{c:aK aH}{w w':J}(a:Θ TB TU B b c w)(d:V w.heap.size w w'):Θ TB TU B b c w':=by
 rcases a with a|a
 ·exact .inl (vQ a d)
 ·exact .inr (vQ a d)
def is_lt{B b:I}{c:aK aH}{w:J}(a:Θ TB TU B b c w):B<=b/\b<w.heap.size:=by
 rcases a with a|a
 ·exact⟨a.1,a.lt⟩
 ·exact⟨a.1,a.lt⟩
def xq(b:I)(w:J)(c:w.cell? ⟨b,0,O⟩=U (ε (U ⟨b,0,O⟩))):
 Ξ X 76 #[ε (U ⟨b,0,O⟩)] w λe w'=>e=Y (.tuple #[])/\w'=w:=by
 obtain⟨j,a,_⟩:=Option.map_eq_some_iff.1 Ey
 go_enter b9,bW
 go_wp2
 rw[Lib.run_neq_ptr_same w _ aQ a]
 go_wp2
 go_end0
 exact⟨rfl,rfl⟩
def vR(b:I)(w:J)(f:w.cell? ⟨b,0,O⟩=U (ε O))(c:w.shape? b=U (86,2))(g:w.frozen? ⟨b,0,O⟩=Z):
 Ξ X 76 #[ε (U ⟨b,0,O⟩)] w λe w'=>e=Y (.tuple #[])/\w'=w.setCell ⟨b,0,O⟩ (ε (U ⟨b,0,O⟩)):=by
 obtain⟨j,a,d⟩:=Option.map_eq_some_iff.1 Ey
 go_enter b9,bW
 go_wp2
 rw[Lib.run_to_unsafe w ⟨b,0,O⟩ aQ bK a (by rw[d];decide) c (iL 1)];simp only[Result.andThen];rw[k_]
 go_wp2
 rw[run_callFunc_extern Tryz.func139 (by kernel_rfl) (by kernel_rfl) (by kernel_rfl) (e:=Extern.AbiNoEscape.same) (by kernel_rfl)];rw[Lib.run_noEscape];simp only[Result.andThen];rw[k_]
 go_wp2
 rw[Lib.run_from_unsafe w ⟨b,0,O⟩ bK aQ a c Mi];simp only[Result.andThen];rw[k_]
 go_wp2
 go_end0
 exact⟨rfl,rfl⟩
def tu(B b:I)(c:aK aH)(w:J)(a:Θ TB TU B b c w):
 Ξ X 76 #[ε (U ⟨b,0,O⟩)] w λe w'=>e=Y (.tuple #[])/\(bD TB TU B b (ε (U ⟨b,0,O⟩)) c w'/\V B w w'):=by
 rcases a with a|a
 ·refine(vR b w a.cell0 a.shape a.frozen0).mono ?_
  rintro e w'⟨rfl,rfl⟩;exact⟨rfl,a.used _,(pH B w).setCell (p:=⟨b,0,O⟩) a.1 _⟩
 ·refine(xq b w a.cell0).mono ?_
  rintro e w'⟨rfl,rfl⟩;exact⟨rfl,a,pH B _⟩
def uY(B b:I)(a:aK aH)(c:G)(w:J)(s:Θ TB TU B b a w)(a2:a.length+1<=140737488355328)(a1:B<=w.heap.size):
 Ξ X 198 #[ε (U ⟨b,0,O⟩),.int .u8 c] w λe w'=>e=Y .nilIface/\(Θ TB TU B b (a++[.int .u8 c]) w'/\V B w w'):=by
 obtain⟨L,x,D,E,F⟩:=bP An
 go_enter Tryz.func198,Tryz.ntmps198
 go_wp2_with fail
 refine(tu B b a _ s).mono ?_;rintro e d⟨rfl,t,n⟩;obtain⟨m,v,h,q,A⟩:=t;have P:d.cell? ⟨b,0,O⟩=U (ε (U ⟨b,0,O⟩)):=by rw[ς h];rfl
 have c1:d.cell? ⟨b,1,O⟩=U v:=by rw[ς h];rfl
 have a3:=n.size
 go_wp2_with(at_builtin;refine mJ _ rfl _ _ 68 rfl B 5 L (.int .u8 0) 1 1 Γ x D E F rfl (by decide) _ _ _ rfl (q.alloc _) ⟨d.heap.size,0,O⟩ 1 1 [.int .u8 c] rfl rfl ?c1 ?c2 ?c3 ?c4 ?c5 ?_)
 case c1=>
  intro j u i
  match j,i with
  |0,i=>simp at i;subst i;simp[Addr.add]
 case c2=>intro u hu;simp at hu;subst hu;rfl
 case c3=>unfold bG;omega
 case c4=>omega
 case c5=>simp;omega
 intro M l r o _;have z:b<d.heap.size:=(Array.getElem?_eq_some_iff.1 h).1
 have f:l.heap[b]?=U (ζ #[ε (U ⟨b,0,O⟩),v] TB (0,0)):=by rw[o.block b (by simp;omega) (λe=>A e.symm),Lib.alloc_old d _ b z];exact h
 have R:l.cell? ⟨b,0,O⟩=U (ε (U ⟨b,0,O⟩)):=by rw[ς f];rfl
 have S:l.cell? ⟨b,1,O⟩=U v:=by rw[ς f];rfl
 have W:l.frozen? ⟨b,1,O⟩=Z:=bL f 1
 obtain⟨g,cap,rfl⟩:∃g cap,M=δ (U ⟨g,0,O⟩) (a.length+1) cap:=by
  rcases r.2 with⟨_,a0⟩|⟨g,cap,Q,C,_⟩
  ·omega
  ·exact⟨g,cap,C⟩
 go_wp2
 go_ret;refine⟨rfl,.inr ?_,?_⟩
 ·exact Lib.BuilderAt.put (T:=TB) (e:=TU) m f (bs':=a++[.int .u8 c]) (by simpa using r) (by decide)
 ·exact((n.alloc (by omega) _).grown o (by simp;omega) (λk y=>(q.lt k y).1)).setCell (p:=⟨b,1,O⟩) m _
def writeString(B b:I)(a:aK aH)(s:π)(w:J)(t:Θ TB TU B b a w)(a0:a.length+s.size<=140737488355328)(W:B<=w.heap.size):
 Ξ X 41 #[ε (U ⟨b,0,O⟩),γ s] w λe w'=>e=Y (.tuple #[H N s.size,.nilIface])/\(Θ TB TU B b (a++cg s) w'/\V B w w'):=by
 obtain⟨F,x,C,D,E⟩:=bP An
 go_enter Tryz.func41,Tryz.ntmps41
 go_wp2_with fail
 refine(tu B b a _ t).mono ?_;rintro e i⟨rfl,u,m⟩;obtain⟨l,v,d,o,A⟩:=u;have M:i.cell? ⟨b,0,O⟩=U (ε (U ⟨b,0,O⟩)):=by rw[ς d];rfl
 have c1:i.cell? ⟨b,1,O⟩=U v:=by rw[ς d];rfl
 have a1:=m.size
 go_wp2_with(at_builtin;refine Lib.wpList_append_own_string _ rfl _ _ 68 9 rfl B 5 F Γ aJ x C D E _ _ _ rfl o s rfl ?c3 ?c4 ?c5 ?_)
 case c3=>unfold bG;omega
 case c4=>omega
 case c5=>omega
 intro L f q n _;have z:b<i.heap.size:=(Array.getElem?_eq_some_iff.1 d).1
 have c:f.heap[b]?=U (ζ #[ε (U ⟨b,0,O⟩),v] TB (0,0)):=by rw[n.block b z (λe=>A e.symm)];exact d
 have Q:f.cell? ⟨b,0,O⟩=U (ε (U ⟨b,0,O⟩)):=by rw[ς c];rfl
 have R:f.cell? ⟨b,1,O⟩=U v:=by rw[ς c];rfl
 have S:f.frozen? ⟨b,1,O⟩=Z:=bL c 1
 obtain⟨j,r,cap,rfl⟩:∃j r cap,L=δ j r cap:=by
  rcases q.2 with⟨h,_⟩|⟨g,cap,P,h,_⟩
  ·exact⟨_,_,_,h⟩
  ·exact⟨_,_,_,h⟩
 go_wp2
 go_ret2;refine⟨rfl,.inr ?_,?_⟩
 ·exact Lib.BuilderAt.put (T:=TB) (e:=TU) l c (bs':=a++cg s) (by simpa [Lib.strCells_length] using q) (by decide)
 ·exact(m.grown n (by omega) (λk y=>(o.lt k y).1)).setCell (p:=⟨b,1,O⟩) l _
end wu
namespace Tx
open RowKit
def qi(s:π)(k:I)(a:k<s.size):s.data.toList.take (k+1)=s.data.toList.take k++[s[k]]:=by rw[l9 (by simpa using a)];rfl
def tJ(o:aK aN)(c:aN):ξ o++[.int .u8 c.toNat]=ξ (o++[c]):=by simp[ξ]
def Nu(o:aK aN):ξ o++[.int .u8 32]=ξ (o++[32]):=by simp[ξ]
def gap_len(o:aK aN):decide (0<(ξ o).length)= !o.isEmpty:=by
 cases o<;>simp[ξ]
def zW(s:π)(k:I):(aE (s.data.toList.take k)).1.length<=k/\((aE (s.data.toList.take k)).2=aG->(aE (s.data.toList.take k)).1.length<k):=by obtain⟨_,b,c⟩:=pY.K4 (s.data.toList.take k);have:(s.data.toList.take k).length<=k:=mZ _ _;exact⟨by omega,λa=>by have:=b a;omega⟩
def zX(s:π)(w:J)(R:s.size<=140737488355327):
 Ξ X 275 #[γ s] w λe w'=>e=Y (γ ⟨(bz s.data.toList).toArray⟩)/\V w.heap.size w w':=by
 go_enter Tryz.func275,Tryz.ntmps275
 go_wp2
 go_loopw [4,8] (λg i wr=>∃(k:I)(m:Bool)(o:aK aN),k<=s.size/\i=H N k/\g= .bool m/\Hid (aE (s.data.toList.take k)=(o,m))/\Hid (Θ wu.TB wu.TU w.heap.size w.heap.size (ξ o) wr)/\Hid (V w.heap.size w wr)) (λ_ i _=>s.size-(aj i).toNat)
 case atStart=>exact⟨0,Z,[],oM _,rfl,rfl,rfl,Lib.fresh_isBuilder wu.TB wu.TU w,pM _ _⟩
 case round=>
  obtain⟨k,m,o,P,rfl,rfl,h,j,f⟩:=hrel;have r:=f.o.size;have z:=zW s k;rw[h.o] at z;obtain⟨D,d⟩:=z;simp only at D d;have y:(ξ o).length=o.length:=bI o;have t:=K y;clear y
  by_cases E:k<s.size
  ·have M:=mY s[k]
   have q:=K (qi s k E);rcases hc:bT s[k] with _|_
   ·have C:a_ (s[k].toNat:G)=Z:=hc
    cases m with
    |false=>
     have b:=K (show aE (s.data.toList.take (k+1))=(o++[s[k]],Z) by rw[q.o,bJ,h.o,pY.K3 hc];rfl);clear d hc
     go_wp2_with fail
     refine(BA _ _).mono ?_;rintro e w'⟨rfl,rfl⟩
     go_wp2_with fail
     refine(wu.uY w.heap.size w.heap.size (ξ o) _ _ j.o (by rw[t.o];omega) r).mono ?_;rintro e n⟨rfl,l,a⟩;have p:=K (show Θ wu.TB wu.TU w.heap.size w.heap.size (ξ (o++[s[k]])) n by rw[<-tJ];exact l);have c:=K (f.o.trans a);clear l a
     go_wp2_with fail
     go_roundw
     case rel=>exact⟨k+1,Z,o++[s[k]],by omega,by go_num,rfl,b.o,p.o,c.o⟩
     case measure=>simp[aj];omega
    |true=>
     have Q:=d rfl;have b:=K (show aE (s.data.toList.take (k+1))=(o++[32]++[s[k]],Z) by rw[q.o,bJ,h.o,pY.K3 hc];rfl);clear d hc
     go_wp2_with fail
     refine(BA _ _).mono ?_;rintro e w'⟨rfl,rfl⟩
     go_wp2_with fail
     refine(wu.uY w.heap.size w.heap.size (ξ o) _ _ j.o (by rw[t.o];omega) r).mono ?_;rintro e n⟨rfl,l,a⟩;have p:=K (show Θ wu.TB wu.TU w.heap.size w.heap.size (ξ (o++[32])) n by rw[<-Nu];exact l);have c:=K (f.o.trans a);have F:=c.o.size;clear l a
     go_wp2_with fail
     refine(wu.uY w.heap.size w.heap.size (ξ (o++[32])) _ _ p.o (by rw[bI];simp;omega) F).mono ?_;rintro e L⟨rfl,v,x⟩;have B:=K (show Θ wu.TB wu.TU w.heap.size w.heap.size (ξ (o++[32]++[s[k]])) L by rw[<-tJ];exact v);have A:=K (c.o.trans x);clear v x
     go_wp2_with fail
     go_roundw
     case rel=>exact⟨k+1,Z,o++[32]++[s[k]],by omega,by go_num,rfl,b.o,B.o,A.o⟩
     case measure=>simp[aj];omega
   ·have C:a_ (s[k].toNat:G)=aG:=hc
    have b:=K (show aE (s.data.toList.take (k+1))=(o, !o.isEmpty) by rw[q.o,bJ,h.o,pY.W6 hc]);have u:=K (gap_len o);clear d hc
    go_wp2_with fail
    refine(BA _ _).mono ?_;rintro e w'⟨rfl,rfl⟩
    go_wp2_with fail
    refine(Tryz.Builder_Len w.heap.size w.heap.size (ξ o) _ j.o).mono ?_;rintro e w'⟨rfl,rfl⟩
    go_wp2_with fail
    go_roundw
    case rel=>exact⟨k+1, !o.isEmpty,o,by omega,by go_num,by first|rw[<-u.o]|(rw[<-u.o];simp),b.o,j.o,f.o⟩
    case measure=>simp[aj];omega
  ·obtain rfl:k=s.size:=by omega
   have b:=K (show o=bz s.data.toList by have:=h.o;rw[oP (by simp)] at this;unfold bz;rw[this])
   clear d
   go_wp2_with fail
   refine(Tryz.Builder_String_any w.heap.size w.heap.size o _ j.o r).mono ?_;rintro e n⟨rfl,a⟩;have c:=K (f.o.trans a);clear a
   go_wp2_with fail
   go_ret;exact⟨uR (by rw[b.o]),c.o⟩
def O8:(Tryz.prog.info? 5).map (λi=>(i.zero,i.size,i.bytes))=U (U (.int .u8 0),1,1):=wu.An
def Dz{w:J}{base:I}{v:aH}{o:aK aN}(a:w.ownsRow base 5 1 v o.length (ξ o)):
 (aW 68 9 v).run X w= .ok (γ ⟨o.toArray⟩) w:=by
 rcases a.2 with⟨rfl,b⟩|⟨g,cap,e,rfl,_,c,_,_,_,d⟩
 ·have:o=[]:=oK b
  subst this;exact Lib.run_convert_nil_bytes w 68 9 5 0 Γ aT aJ
 ·exact run_convert_bytes_back w 68 9 5 ⟨g,0,O⟩ cap o Γ aT aJ
   (Lib.bytes_of_row c (by simpa using d))
def qP{w:J}{base:I}{v:aH}{n:I}{c:aK aH}(b:w.ownsRow base 5 1 v n c):∃a cap,v=δ a n cap:=by
 rcases b.2 with⟨rfl,rfl⟩|⟨g,cap,d,rfl,_⟩
 ·exact⟨_,_,rfl⟩
 ·exact⟨_,_,rfl⟩
def Ua(s:π)(j:I)(a:j<s.size):(aE (s.data.toList.take (j+1))).2=(bT s[j]&& !(aE (s.data.toList.take (j+1))).1.isEmpty):=by
 rw[qi s j a,pY.W7];cases b:bT s[j]
 ·rfl
 ·rw[bJ]
  unfold bV;rw[oD b]
def wQ(w:J)(x:aH)(j:I)(u:aH)(a:([x]:aK aH)[j]?=U u):(w.alloc (ζ #[x] 5)).cell? ((⟨w.heap.size,0,O⟩:Addr).add j)=U u:=by
 match j,a with
 |0,a=>simp at a;subst a;simp[Addr.add]
def Cd(s:π)(w:J)(ah:s.size<=140737488355327):
 Ξ X 74 #[γ s] w λe w'=>e=Y (γ ⟨(bz s.data.toList).toArray⟩)/\V w.heap.size w w':=by
 obtain⟨B,S,W,D,a0⟩:=bP O8;have b:=K (And.intro S (And.intro W (And.intro D a0)));clear S W D a0
 go_enter Tryz.func74,Tryz.ntmps74
 go_wp2
 go_loopw [3,4] (λv i wr=>∃(k:I)(o:aK aN)(a:Option Addr)(cap:I),k<=s.size/\i=H N k/\v=δ a o.length cap/\Hid ((aE (s.data.toList.take k)).1=o)/\Hid (wr.ownsRow w.heap.size 5 1 (δ a o.length cap) o.length (ξ o))/\Hid (V w.heap.size w wr)) (λ_ i _=>s.size-(aj i).toNat)
 case atStart=>exact⟨0,[],O,0,oM _,rfl,rfl,rfl,World.ownsRow_nil _ _ _ _,pH _ _⟩
 case round=>
  obtain⟨k,o,a,cap,n,rfl,rfl,y,h,x⟩:=hrel;have C:=x.o.size;have a8:=(zW s k).1;rw[y.o] at a8
  by_cases a9:k<s.size
  ·have ad:=mY s[k]
   have F:=K (qi s k a9);rcases hc:bT s[k] with _|_
   ·have a6:a_ (s[k].toNat:G)=Z:=hc
    by_cases T:k=0
    ·subst T
     have f:=K (show(aE (s.data.toList.take (0+1))).1=o++[s[0]] by
      rw[F.o,bJ,<-y.o]
      show(bV ([],Z) s[0]).1=_
      rw[pY.K3 hc];rfl)
     clear hc
     go_wp2_with fail
     refine(um _ _).mono ?_;rintro e w'⟨rfl,rfl⟩
     go_wp2_with(at_builtin;refine mJ _ rfl _ _ 68 rfl w.heap.size 5 B (.int .u8 0) 1 1 Γ b.o.1 b.o.2.1 b.o.2.2.1 b.o.2.2.2 rfl (by decide) _ _ _ rfl (h.o.alloc _) ⟨wr.heap.size,0,O⟩ 1 1 [.int .u8 (s[0].toNat)] rfl rfl (wQ wr _) (λu d=>by simp at d;subst d;rfl) ?a3 ?a4 ?a5 ?_)
     case a3=>unfold bG;omega
     case a4=>omega
     case a5=>simp;omega
     intro M p c g _;obtain⟨l,m,A⟩:=qP c;subst A;have r:=K (show p.ownsRow w.heap.size 5 1 (δ l (o++[s[0]]).length m) (o++[s[0]]).length (ξ (o++[s[0]])) by rw[<-tJ];simpa using c);have q:=K ((x.o.alloc C _).grown g (by simp;omega) (λk n=>(h.o.lt k n).1));clear c g
     go_wp2_with fail
     go_roundw
     case rel=>exact⟨0+1,o++[s[0]],l,m,by omega,by go_num,by simp,f.o,r.o,q.o⟩
     case measure=>simp[aj];omega
    ·obtain⟨j,rfl⟩:∃j,k=j+1:=⟨k-1,by omega⟩
     have ae:=mY (s[j]'(by omega));have t:=Ua s j (by omega);rw[y.o] at t
     have E:=K (show(aE (s.data.toList.take (j+1+1))).1=(if(aE (s.data.toList.take (j+1))).2=aG then o++[32] else o)++[s[j+1]] by rw[F.o,bJ,<-y.o];unfold bV;rw[oU (by simp[hc])])
     clear T hc;rcases Kv:bT (s[j]'(by omega)) with _|_
     ·have a7:a_ ((s[j]'(by omega)).toNat:G)=Z:=Kv
      have f:=K (show(aE (s.data.toList.take (j+1+1))).1=o++[s[j+1]] by rw[E.o,t,Kv];rfl);clear Kv t
      go_wp2_with fail
      refine(um _ _).mono ?_;rintro e w'⟨rfl,rfl⟩
      go_wp2_with fail
      refine(um _ _).mono ?_;rintro e w'⟨rfl,rfl⟩
      go_wp2_with(at_builtin;refine mJ _ rfl _ _ 68 rfl w.heap.size 5 B (.int .u8 0) 1 1 Γ b.o.1 b.o.2.1 b.o.2.2.1 b.o.2.2.2 rfl (by decide) _ _ _ rfl (h.o.alloc _) ⟨wr.heap.size,0,O⟩ 1 1 [.int .u8 (s[j+1].toNat)] rfl rfl (wQ wr _) (λu d=>by simp at d;subst d;rfl) ?a3 ?a4 ?a5 ?_)
      case a3=>unfold bG;omega
      case a4=>omega
      case a5=>simp;omega
      intro M p c g _;obtain⟨l,m,A⟩:=qP c;subst A;have r:=K (show p.ownsRow w.heap.size 5 1 (δ l (o++[s[j+1]]).length m) (o++[s[j+1]]).length (ξ (o++[s[j+1]])) by rw[<-tJ];simpa using c);have q:=K ((x.o.alloc C _).grown g (by simp;omega) (λk n=>(h.o.lt k n).1));clear c g
      go_wp2_with fail
      go_roundw
      case rel=>exact⟨j+1+1,o++[s[j+1]],l,m,by omega,by go_num,by simp,f.o,r.o,q.o⟩
      case measure=>simp[aj];omega
     ·have a7:a_ ((s[j]'(by omega)).toNat:G)=aG:=Kv
      by_cases z:o=[]
      ·have f:=K (show(aE (s.data.toList.take (j+1+1))).1=o++[s[j+1]] by rw[E.o,t,Kv,z];rfl)
       have aa:¬(0<o.length):=(by rw[z];simp);clear Kv t z
       go_wp2_with fail
       refine(um _ _).mono ?_;rintro e w'⟨rfl,rfl⟩
       go_wp2_with fail
       refine(um _ _).mono ?_;rintro e w'⟨rfl,rfl⟩
       go_wp2_with(at_builtin;refine mJ _ rfl _ _ 68 rfl w.heap.size 5 B (.int .u8 0) 1 1 Γ b.o.1 b.o.2.1 b.o.2.2.1 b.o.2.2.2 rfl (by decide) _ _ _ rfl (h.o.alloc _) ⟨wr.heap.size,0,O⟩ 1 1 [.int .u8 (s[j+1].toNat)] rfl rfl (wQ wr _) (λu d=>by simp at d;subst d;rfl) ?a3 ?a4 ?a5 ?_)
       case a3=>unfold bG;omega
       case a4=>omega
       case a5=>simp;omega
       intro M p c g _;obtain⟨l,m,A⟩:=qP c;subst A;have r:=K (show p.ownsRow w.heap.size 5 1 (δ l (o++[s[j+1]]).length m) (o++[s[j+1]]).length (ξ (o++[s[j+1]])) by rw[<-tJ];simpa using c);have q:=K ((x.o.alloc C _).grown g (by simp;omega) (λk n=>(h.o.lt k n).1));clear c g
       go_wp2_with fail
       go_roundw
       case rel=>exact⟨j+1+1,o++[s[j+1]],l,m,by omega,by go_num,by simp,f.o,r.o,q.o⟩
       case measure=>simp[aj];omega
      ·have f:=K (show(aE (s.data.toList.take (j+1+1))).1=o++[32]++[s[j+1]] by
        have:(!o.isEmpty)=aG:=(by simp[z]);rw[E.o,t,Kv,this];rfl)
       have aa:0<o.length:=List.length_pos_iff.2 z
       have ag:o.length<j+1:=by
        have e:(aE (s.data.toList.take (j+1))).2=aG:=by have:(!o.isEmpty)=aG:=(by simp[z]);rw[t,Kv,this];rfl
        have:=(zW s (j+1)).2 e;rw[y.o] at this;exact this
       clear Kv t z
       go_wp2_with fail
       refine(um _ _).mono ?_;rintro e w'⟨rfl,rfl⟩
       go_wp2_with fail
       refine(um _ _).mono ?_;rintro e w'⟨rfl,rfl⟩
       go_wp2_with(at_builtin;refine mJ _ rfl _ _ 68 rfl w.heap.size 5 B (.int .u8 0) 1 1 Γ b.o.1 b.o.2.1 b.o.2.2.1 b.o.2.2.2 rfl (by decide) _ _ _ rfl (h.o.alloc _) ⟨wr.heap.size,0,O⟩ 1 1 [.int .u8 32] rfl rfl (wQ wr _) (λu d=>by simp at d;subst d;rfl) ?a3 ?a4 ?a5 ?_)
       case a3=>unfold bG;omega
       case a4=>omega
       case a5=>simp;omega
       intro M p c g _;obtain⟨l,m,A⟩:=qP c;subst A;have r:=K (show p.ownsRow w.heap.size 5 1 (δ l (o.length+1) m) (o.length+1) (ξ (o++[32])) by rw[<-Nu];exact c);have q:=K ((x.o.alloc C _).grown g (by simp;omega) (λk n=>(h.o.lt k n).1));have D:=q.o.size;clear c g
       go_wp2_with(at_builtin;refine mJ _ rfl _ _ 68 rfl w.heap.size 5 B (.int .u8 0) 1 1 Γ b.o.1 b.o.2.1 b.o.2.2.1 b.o.2.2.2 rfl (by decide) _ _ _ rfl (r.o.alloc _) ⟨p.heap.size,0,O⟩ 1 1 [.int .u8 (s[j+1].toNat)] rfl rfl (wQ p _) (λu d=>by simp at d;subst d;rfl) ?b3 ?b4 ?b5 ?_)
       case b3=>unfold bG;omega
       case b4=>omega
       case b5=>simp;omega
       intro ai ac L R _;obtain⟨P,Q,ab⟩:=qP L;subst ab;have a2:=K (show ac.ownsRow w.heap.size 5 1 (δ P (o++[32]++[s[j+1]]).length Q) (o++[32]++[s[j+1]]).length (ξ (o++[32]++[s[j+1]])) by rw[<-tJ];simpa using L);have a1:=K ((q.o.alloc D _).grown R (by simp;omega) (λk n=>(r.o.lt k n).1));clear L R
       go_wp2_with fail
       go_roundw
       case rel=>exact⟨j+1+1,o++[32]++[s[j+1]],P,Q,by omega,by go_num,by simp,f.o,a2.o,a1.o⟩
       case measure=>simp[aj];omega
   ·have a6:a_ (s[k].toNat:G)=aG:=hc
    have f:=K (show(aE (s.data.toList.take (k+1))).1=o by rw[F.o,bJ,<-y.o];unfold bV;rw[oD hc]);clear hc
    go_wp2_with fail
    refine(um _ _).mono ?_;rintro e w'⟨rfl,rfl⟩
    go_wp2_with fail
    go_roundw
    case rel=>exact⟨k+1,o,a,cap,by omega,by go_num,rfl,f.o,h.o,x.o⟩
    case measure=>simp[aj];omega
  ·obtain rfl:k=s.size:=by omega
   have f:=K (show o=bz s.data.toList by have:=y.o;rw[oP (by simp)] at this;unfold bz;rw[this])
   have af:=Dz h.o
   go_wp2_with fail
   go_ret;exact⟨uR (by rw[f.o]),x.o⟩
def xN(l:aK aN):Bool:=decide ((ay l).2=0)&&(bz l==l)
def GK(s:π)(n:I)(x:G)(w:J)(c:s.size<=140737488355327)(b:av 2 3 w)(a:ay s.data.toList=(n,x)):
 Ξ X 274 #[γ s] w λe w'=>e=Y (.tuple #[H N n,H N x])/\V w.heap.size w w':=by
 have:=tu s w (by omega) b;rw[a] at this;exact this
def Ea(s:π)(n:I)(x:G)(w:J)(b:s.size<=140737488355327)(a:ay s.data.toList=(n,x)):
 Ξ X 73 #[γ s] w λe w'=>e=Y (.tuple #[H N n,H N x])/\V w.heap.size w w':=by
 have:=PJ s w (by omega);rw[a] at this;exact this
def Ub(s:π)(w:J)(g:s.size<=140737488355327)(j:av 2 3 w):
 Ξ X 229 #[γ s] w λe w'=>e=Y (.bool (xN s.data.toList))/\V w.heap.size w w':=by
 have i:=K j;clear j;obtain⟨n,x,b⟩:∃n x,ay s.data.toList=(n,x):=⟨_,_,rfl⟩;have h:=K b
 by_cases c:x=0
 ·subst c
  have f:=K (show xN s.data.toList=(bz s.data.toList==s.toList) by unfold xN;rw[b,bB];rfl);clear b
  go_enter bZ,bS
  go_wp2_with fail
  refine(GK s n 0 _ g i.o h.o).mono ?_;rintro e m⟨rfl,a⟩;have d:=K a;clear a
  go_wp2_with fail
  refine(zX s _ g).mono ?_;rintro e p⟨rfl,k⟩;have l:=pR d k;clear k
  go_wp2_with fail
  go_ret;exact⟨qL (by rw[f.o]),l.o⟩
 ·have o:(x==0)=Z:=by simpa using c
  have f:=K (show xN s.data.toList=Z by unfold xN;rw[b];simp[c]);clear b c
  go_enter bZ,bS
  go_wp2_with fail
  refine(GK s n x _ g i.o h.o).mono ?_;rintro e m⟨rfl,a⟩;have d:=K a;clear a
  go_wp2_with fail
  go_ret;exact⟨qL (by rw[f.o]),d.o⟩
def PK(s:π)(w:J)(g:s.size<=140737488355327):
 Ξ X 34 #[γ s] w λe w'=>e=Y (.bool (xN s.data.toList))/\V w.heap.size w w':=by
 obtain⟨n,x,b⟩:∃n x,ay s.data.toList=(n,x):=⟨_,_,rfl⟩;have h:=K b
 by_cases c:x=0
 ·subst c
  have f:=K (show xN s.data.toList=(bz s.data.toList==s.toList) by unfold xN;rw[b,bB];rfl);clear b
  go_enter b_,bX
  go_wp2_with fail
  refine(Ea s n 0 _ g h.o).mono ?_;rintro e k⟨rfl,a⟩;have d:=K a;clear a
  go_wp2_with fail
  refine(Cd s _ g).mono ?_;rintro e m⟨rfl,i⟩;have j:=pR d i;clear i
  go_wp2_with fail
  go_ret;exact⟨qL (by rw[f.o]),j.o⟩
 ·have l:(x==0)=Z:=by simpa using c
  have f:=K (show xN s.data.toList=Z by unfold xN;rw[b];simp[c]);clear b c
  go_enter b_,bX
  go_wp2_with fail
  refine(Ea s n x _ g h.o).mono ?_;rintro e k⟨rfl,a⟩;have d:=K a;clear a
  go_wp2_with fail
  go_ret;exact⟨qL (by rw[f.o]),d.o⟩
def AZ(s:π)(r:aK aN)(w:J)(b:s.size<=140737488355327)(a:bz s.data.toList=r):
 Ξ X 275 #[γ s] w λe w'=>e=Y (γ ⟨r.toArray⟩)/\V w.heap.size w w':=by
 rw[<-a];exact zX s w b
structure Tabs(w:J):Prop where
 u:av 2 3 w
 n:uM w
def Tabs.below{w w':J}(a:Tabs w)(b:V w.heap.size w w'):Tabs w':=⟨qC a.u b,a.n.below b⟩
end Tx
end Go.Proofs.YthbhmjdcfocphaaGreatDoor
