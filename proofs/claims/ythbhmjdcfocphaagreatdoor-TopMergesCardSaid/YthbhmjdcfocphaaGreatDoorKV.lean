/- A part of this proof. -/
import Derived.Lib.BufferRead
import Derived.WalkSpells
import Derived.WalkLawsBesides
import Derived.StillTailTactics
import Derived.Deep.AppendLies
import Derived.Deep.RegionHeld3
import Derived.Deep.DrawnRows
import Derived.Test.YthbhmjdcfocphaaGreatDoorIter
import Derived.Maps.Ext
import Derived.Test.YthbhmjdcfocphaaGreatDoorKz
set_option linter.all false
set_option maxHeartbeats 16000000
set_option maxRecDepth 100000
namespace Go.Proofs.YthbhmjdcfocphaaGreatDoor
open Go.Value renaming string→M, slice→δ, pointer→L, int→θ
open Go.Obj renaming cells→X
open Go.Ending renaming returned→η
open Go.IntKind renaming i64→ι
open Option renaming some→G, none→H
open Go.Proofs.Tryz renaming prog→Y, ntmps117→ay, underlying68→az, func117→aA, underlying9→aC, underlying5→aI, ntmps180→aY, ntmps179→a_, underlying72→bh, func180→bz, func179→bB, ntmps176→bJ, ntmps31→bM, func176→bO, func31→bQ, underlying283→bU, underlying1→bY, ntmps178→cg, ntmps69→cF, ntmps40→cG, func178→cH, func69→cN, func40→cQ
open Go.Lib renaming hid→O, byteCells→ah, run_convert_nil_bytes→bL, toList_data→b_, bytesCells→cj
open Go renaming World→J, Value→V, Calls→ο, bytesBefore→aK, TypeId→aQ, Ending→aV, maxLen→bH, wpList→bV, run_convert_bytes_back→bW, IntKind→bX, binOp→bZ, DataW→b9, strKeys→cr, convert→cz, MemPlace→c_, MapEntry→dh
open _root_ renaming ByteArray→χ, Nat→I, UInt8→Ξ, List→U, Int→aN, Array→aO, Option→aS, absurd→cT
open Bool renaming false→N, true→av
open Go.World renaming cell?→Θ, alloc→aM, frozen?→aP, ownsRow→aW, ownsMap_made→bS
open Go.Obj renaming cells→Ω
open Go.Value renaming ownBlock→aj, int→aT, bool→aX, slice→bP
open Go.RowKit renaming Below→aE
open Go.Calls renaming quiet_of_same→aG
open Go.Lit renaming string→aH, sameKey→bT
open And renaming intro→aJ
open Go.Ending renaming returned→aL
open _root_.ByteArray renaming empty→aR
open Go.Maps renaming size→aU
open Go.Addr renaming add→bD
open Go.Instr renaming slice→bG, sliceAt→bI
open Go.Op renaming equalIn→bK, maxDepth→cZ
namespace Bs
open RowKit
def qL{a b:Bool}(c:a=b):aL (.bool a)=η (.bool b):=by rw[c]
def RD{k:bX}{a b:aN}(c:a=b):aL (.int k a)=η (.int k b):=by rw[c]
def uR{a b:χ}(c:a=b):aL (M a)=η (M b):=by rw[c]
def tY{k l:bX}{a b c d:aN}(e:a=b)(g:c=d):aL (.tuple #[.int k a,.int l c])=η (.tuple #[.int k b,.int l d]):=by rw[e,g]
def xV{k:bX}{a b:aN}{c d:Bool}(e:a=b)(g:c=d):aL (.tuple #[.int k a,.bool c])=η (.tuple #[.int k b,.bool d]):=by rw[e,g]
def He{a b:χ}{k:bX}{x c:aN}(d:a=b)(g:x=c):aL (.tuple #[M a,.int k x])=η (.tuple #[M b,.int k c]):=by rw[d,g]
def R6{k:bX}{a b:aN}(c:a=b):aT k a=aT k b:=by rw[c]
def uo{a b c:J}(d:aE a.heap.size a b)(k:aE b.heap.size b c):aE a.heap.size a c:=d.trans (k.mono d.size)
def below_drewN{B:I}{a w:J}(b:aE B a w)(n:I):aE B a (w.drewN n):=⟨b.os,b.tape,b.output,b.size,b.block⟩
def qB(w:J)(o:Obj):(w.alloc o).heap.size=w.heap.size+1:=by show(w.heap.push o).size=_;exact nI _
def sK(w:J)(o:Obj):(w.alloc o).heap[w.heap.size]?=G o:=by
 show(w.heap.push o)[w.heap.size]?=_
 rw[kJ,oD rfl]
def rU(w:J)(o:Obj)(k:I)(b:k<w.heap.size):(w.alloc o).heap[k]?=w.heap[k]?:=by
 show(w.heap.push o)[k]?=_
 rw[kJ,oU (by omega)]
def lt_of_heap{w:J}{g:I}{o:Obj}(b:w.heap[g]?=G o):g<w.heap.size:=(Array.getElem?_eq_some_iff.1 b).1
def lt_of_cell{w:J}{a:Addr}{v:V}(b:w.cell? a=G v):a.block<w.heap.size:=by
 unfold Θ at b
 cases e:w.heap[a.block]? with
 |none=>rw[e] at b;simp at b
 |some o=>exact lt_of_heap e
def zU{w w':J}{g:I}{o:Obj}(c:aE w.heap.size w w')(b:w.heap[g]?=G o):w'.heap[g]?=G o:=by rw[c.block g (lt_of_heap b)];exact b
def EX{A:χ}{l:U Ξ}(b:A.data.toList=l):(⟨l.toArray⟩:χ)=A:=by obtain⟨⟨d⟩⟩:=A;subst b;rfl
def vo{A B:χ}(b:A.data.toList=B.data.toList):A=B:=by rw[<-EX (A:=A) rfl,b,EX (A:=B) rfl]
def Pb(l:U Ξ):(⟨l.toArray⟩:χ).size=l.length:=by show l.toArray.size=_;simp
def toList_append(s t:χ):(s++t).data.toList=s.data.toList++t.data.toList:=by simp
def ext_list(s:χ)(a b:I):(s.extract a b).data.toList=(s.data.toList.drop a).take (b-a):=by rw[lU,jZ,mD]
def NN(s:χ)(i:I):(s.extract i s.size).data.toList=s.data.toList.drop i:=by rw[ext_list,oP (by simp)]
def xM(s:χ)(k:I):(s.data.toList.drop k).length=s.size-k:=by simp
def drop_at(s:χ)(k i:I)(b:k+i<s.size):(s.data.toList.drop k).getD i 0=s[k+i]'b:=by
 have c:k+i<s.data.toList.length:=by simpa using b
 rw[om,kU,oW c];rfl
def getD_at(s:χ)(k:I)(b:k<s.size):s.data.toList.getD k 0=s[k]:=by have:=drop_at s k 0 (by omega);simpa using this
def qi(s:χ)(k:I)(b:k<s.size):s.data.toList.take (k+1)=s.data.toList.take k++[s[k]]:=by rw[l9 (by simpa using b)];rfl
def NJ{c:Ξ}{n:I}(d:n<256)(b:c≠UInt8.ofNat n):((c.toNat:aN)==(n:aN))=N:=by rw[oq];intro e;apply b;apply UInt8.toNat_inj.1;simp;omega
def Hg(P:Ξ->Prop)[DecidablePred P](b:∀n:Fin 256,P (UInt8.ofNat n.val))(c:Ξ):P c:=by have:=b ⟨c.toNat,mY c⟩;simpa using this
def An:(Tryz.prog.info? 5).map (λi=>(i.zero,i.size,i.bytes))=G (G (.int .u8 0),1,1):=by kernel_rfl
def own_below{w w':J}{base:I}{e:aQ}{v:V}{n:I}{d:U V}(c:w.ownsRow base e 1 v n d)(b:aE w.heap.size w w'):w'.ownsRow base e 1 v n d:=
 c.kept (row:=H) ⟨b.os,b.tape,b.output,b.size,λk f _=>b.block k f⟩ (by
  rcases c.2 with⟨rfl,_⟩|⟨g,cap,h,rfl,_⟩
  ·left;rfl
  ·right;simp[aj])
def we(w:J)(b:U aN)(n:I)(d:b.length=n):
 (cz 68 9 (δ (G ⟨w.heap.size,0,H⟩) n n)).run Y (w.alloc (X (b.map (aT .u8)).toArray 5))= .ok (M (strOfNums b)) (w.alloc (X (b.map (aT .u8)).toArray 5)):=
 run_convert_bytes_arg (P:=Y) _ 68 5 az aI w.heap.size 0 n n b d (λi e=>by
  have c:=sK w (X (b.map (aT .u8)).toArray 5);unfold Θ;simp only[c];simp[oW (show i<b.length by omega)]) 9 aC
def R5(w:J)(c:Ξ):(w.alloc (X #[.int .u8 c.toNat] 5)).ownsRow w.heap.size 5 1 (δ (G ⟨w.heap.size,0,H⟩) 1 1) 1 (ah [c]):=
 ⟨by simp[ah],.inr ⟨w.heap.size,1,_,rfl,oZ _,sK w _,oZ _,by unfold bH;omega,rfl,by simp[ah]⟩⟩
def Eh(w:J)(b:U V)(j:I)(u:V)(d:b[j]?=G u):(w.alloc (X b.toArray 5)).cell? ((⟨w.heap.size,0,H⟩:Addr).add j)=G u:=by
 have c:=sK w (X b.toArray 5);have e:((⟨w.heap.size,0,H⟩:Addr).add j)=⟨w.heap.size,j,H⟩:=by simp[bD];omega
 rw[e];unfold Θ;simp only[c];simpa using d
def wQ(w:J)(x:V)(j:I)(u:V)(b:([x]:U V)[j]?=G u):(w.alloc (X #[x] 5)).cell? ((⟨w.heap.size,0,H⟩:Addr).add j)=G u:=by
 match j,b with
 |0,b=>simp at b;subst b;simp[bD]
def qP{w:J}{base:I}{v:V}{n:I}{c:U V}(b:w.ownsRow base 5 1 v n c):∃a cap,v=δ a n cap:=by
 rcases b.2 with⟨rfl,rfl⟩|⟨g,cap,d,rfl,_⟩
 ·exact⟨_,_,rfl⟩
 ·exact⟨_,_,rfl⟩
def tJ(o:U Ξ)(c:Ξ):ah o++[.int .u8 c.toNat]=ah (o++[c]):=by simp[ah]
def Dz{w:J}{base:I}{v:V}{o:U Ξ}(b:w.ownsRow base 5 1 v o.length (ah o)):
 (cz 68 9 v).run Y w= .ok (M ⟨o.toArray⟩) w:=by
 rcases b.2 with⟨rfl,c⟩|⟨g,cap,f,rfl,_,d,_,_,_,e⟩
 ·have:o=[]:=oK c
  subst this;exact bL w 68 9 5 0 az aI aC
 ·exact bW w 68 9 5 ⟨g,0,H⟩ cap o az aI aC
   (Lib.bytes_of_row d (by simpa using e))
end Bs
namespace Vf
open Maps
abbrev Nm:=U (U Ξ×I)
def dt(b:I):b9 I:= .lit (.int .i64 b)
def UT:b9 I:= .lit (.int .i64 (-1))
def Dm(m:Nm):b9 I:= .map (m.map λp=>(aH p.1,dt p.2))
def AB(x:U Ξ×I):Nm->Nm
 |[]=>[x]
 |y::r=>if aK x.1 y.1 then x::y::r else y::AB x r
def Ae(m:Nm)(k:U Ξ):Nm:=m.filter λp=> !(p.1==k)
def uO(m:Nm)(k:U Ξ)(b:I):Nm:=AB (k,b) (Ae m k)
def qw(m:Nm)(k:U Ξ):aS I:=(m.find? λp=>p.1==k).map (·.2)
def SJ(x:U Ξ×I):∀m:Nm,(AB x m).map (λp=>(aH p.1,dt p.2))=DataW.insert (aH x.1,dt x.2) (m.map λp=>(aH p.1,dt p.2))
 |[]=>rfl
 |y::r=>by
  have b:=SJ x r;simp only[AB,ou,DataW.insert];have e:Lit.before (aH x.1) (aH y.1)=aK x.1 y.1:=rfl;rw[e]
  split
  ·rfl
  ·simp only[ou,b]
def SK(m:Nm)(k:U Ξ):(Ae m k).map (λp=>(aH p.1,dt p.2))=(m.map λp=>(aH p.1,dt p.2)).filter λp=> !p.1.sameKey (.string k):=by
 unfold Ae
 induction m with
 |nil=>rfl
 |cons y r ih=>
  simp only[jK,ou];have e:bT (aH y.1) (.string k)=(y.1==k):=rfl;rw[e]
  split
  ·simp only[ou,ih]
  ·exact ih
def Dm_put(m:Nm)(k:U Ξ)(b:I):(Dm m).put (.string k) (dt b)=Dm (uO m k b):=by unfold Dm uO DataW.put;simp only;rw[SJ,SK]
def Dm_del(m:Nm)(k:U Ξ):(Dm m).del (.string k)=Dm (Ae m k):=by unfold Dm DataW.del;simp only;rw[SK]
def Dm_at(m:Nm)(k:U Ξ)(z:b9 I):(Dm m).atKey (.string k) z=match qw m k with|G b=>dt b|H=>z:=by
 unfold Dm DataW.atKey qw;simp only
 induction m with
 |nil=>rfl
 |cons y r ih=>
  simp only[ou,lz];have e:bT (aH y.1) (.string k)=(y.1==k):=rfl;rw[e]
  cases y.1==k with
  |true=>rfl
  |false=>exact ih
def Dm_has(m:Nm)(k:U Ξ):Maps.has (Dm m) (.string k)=(qw m k).isSome:=by
 unfold Dm qw;rw[Maps.has_eq]
 induction m with
 |nil=>rfl
 |cons y r ih=>
  simp only[ou,List.any_cons,lz];have e:bT (aH y.1) (.string k)=(y.1==k):=rfl;rw[e]
  cases y.1==k with
  |true=>rfl
  |false=>simpa using ih
def uy(b:I):V:=L (G ⟨b,0,H⟩)
def wL:aS I->V
 |some b=>uy b
 |none=>L H
def Rp(v:V):aS (b9 I×U c_):=
 match v with
 | .pointer H=>G (UT,[])
 | .pointer (G ⟨b,0,H⟩)=>G (dt b,[])
 |_=>H
def Rp_ptr(b:I):Rp (uy b)=G (dt b,[]):=rfl
def Rp_nil:Rp (.pointer H)=G (UT,[]):=rfl
def YV{v:V}{d:b9 I}{ps:U c_}(c:Rp v=G (d,ps)):(v= .pointer H/\d=UT)\/∃b,v=uy b/\d=dt b:=by
 unfold Rp at c
 split at c
 ·cases c;exact .inl ⟨rfl,rfl⟩
 ·cases c;exact .inr ⟨_,rfl,rfl⟩
 ·cases c
def dt_ne(b:I):dt b≠UT:=by
 intro c;unfold dt UT at c;injection c with c
 injection c with _ c
 omega
def Rp_at{v:V}{ps:U c_}(m:Nm)(k:U Ξ)(f:Rp v=G ((Dm m).atKey (.string k) UT,ps)):v=wL (qw m k):=by
 rw[Dm_at] at f
 cases g:qw m k with
 |none=>
  rw[g] at f;rcases YV f with⟨e,_⟩|⟨b,_,e⟩
  ·exact e
  ·exact cT e.symm (dt_ne b)
 |some b=>
  rw[g] at f;rcases YV f with⟨_,e⟩|⟨c,e,h⟩
  ·exact cT e (dt_ne b)
  ·have:b=c:=by
    have d:(dt b:b9 I)=dt c:=h;unfold dt at d;injection d with d
    injection d with _ d
    omega
   subst this;exact e
end Vf
namespace Vf
open RowKit Maps Bs
def law:Keyed Y 9:=string_keyed aC
def hkey(k:χ)(b:k.size<=1000000):keyOf Y 9 (M k)=G (.string k.data.toList):=
 Go.WideMaps.keyOf_string_mk aC (by unfold bH;omega)
def Ag(w:J)(b:I)(m:Nm):Prop:=∃n,w.ownsMap Y 9 Rp b n (Dm m)
def tR(F o b:I)(k:χ)(m:Nm)(W:J)(j:k.size<=1000000)(q:W.cell? ⟨F,o,H⟩=G (.map (G b)))(i:Ag W b m):
 ο Y 68 #[L (G ⟨F,o,H⟩),M k] W λe w'=>e=η (.tuple #[wL (qw m k.data.toList),.bool (qw m k.data.toList).isSome])/\w'=W:=by
 obtain⟨n,f⟩:=i;obtain⟨v,ps,g,h⟩:=f.look_ok (t:=72) law bh (z:=L H) (by kernel_rfl) Rp_nil (hkey k j);have e:=Rp_at m _ h;subst e;rw[Dm_has] at g;obtain⟨l,d⟩:=pL (wL (qw m k.data.toList));obtain⟨B,c⟩:=pL ((qw m k.data.toList).isSome);rw[d,c] at g|-;clear d c h f
 go_enter Tryz.func68,Tryz.ntmps68
 go_wp2_with fail
 go_ret2;exact⟨rfl,rfl⟩
def Ag.tight{w:J}{b:I}{m:Nm}(f:Ag w b m):w.ownsMap Y 9 Rp b m.length (Dm m):=by
 obtain⟨n,es,d,g,F,h,c⟩:=f;refine⟨es,d,g,F,?_,c⟩;have:=nT aU c;have e:aU (Dm m)=m.length:=by simp[Dm,aU]
 rw[e] at this;simp[aU,length_sorted] at this;omega
def Ag.lt{w:J}{b:I}{m:Nm}(c:Ag w b m):b<w.heap.size:=by obtain⟨n,c⟩:=c;exact c.lt
def Ag.of_block{w w':J}{b:I}{m:Nm}(d:Ag w b m)(e:w'.heap[b]?=w.heap[b]?):Ag w' b m:=by obtain⟨n,es,c,f,r⟩:=d;exact⟨n,es,c,by rw[e];exact f,r⟩
abbrev OE(b:I)(w w':J):Prop:=w.grownBy w' (G b)
def Ag.put{w:J}{b:I}{m:Nm}(d:Ag w b m)(k:χ)(h:k.size<=1000000)(f:I)(i:m.length<=1000000):
 ∃w',(Instr.mapUpdate 72 (.map (G b)) (M k) (uy f)).run Y w= .ok () w'/\Ag w' b (uO m k.data.toList f)/\OE b w w':=by
 obtain⟨w',e,c,g⟩:=d.tight.update (t:=72) law bh (by unfold bH;omega) (hkey k h) (Rp_ptr f);rw[Dm_put] at c;exact⟨w',e,⟨_,c⟩,g⟩
def Ag.del{w:J}{b:I}{m:Nm}(d:Ag w b m)(k:χ)(g:k.size<=1000000)(ty:aQ):
 ∃w',(Builtin.delete_ #[72,9] ty #[.map (G b),M k]).run Y w= .ok (.tuple #[]) w'/\Ag w' b (Ae m k.data.toList)/\OE b w w':=by
 obtain⟨w',e,c,f⟩:=d.tight.drop (t:=72) law bh (hkey k g) ty;rw[Dm_del] at c;exact⟨w',e,⟨_,c⟩,f.grown⟩
def OE.cell{b:I}{w w':J}(d:OE b w w'){a:Addr}{v:V}(c:w.cell? a=G v)(f:a.block≠b):w'.cell? a=G v:=by have e:=lt_of_cell c;unfold Θ at c|-;rw[d.block _ e (by simpa using f)];exact c
def OE.trans{b:I}{u v w:J}(c:OE b u v)(k:OE b v w):OE b u w:=
 ⟨k.os.trans c.os,k.tape.trans c.tape,k.output.trans c.output,pF c.size k.size,λi d e=>(k.block i (oQ d c.size) e).trans (c.block i d e)⟩
def OE.drew{b:I}{u v:J}(c:OE b u v):OE b u v.drew:=⟨c.os,c.tape,c.output,c.size,c.block⟩
def Ag.ne{w:J}{b:I}{m:Nm}(d:Ag w b m){a:Addr}{v:V}(c:w.cell? a=G v):a.block≠b:=by obtain⟨n,es,g,f,r⟩:=d;intro e;unfold Θ at c;rw[e,f] at c;simp at c
def rT(m:Nm)(f t:χ)(x:I):Nm:=
 let b:=if f.toList.isEmpty=av then m else Ae m f.data.toList
 if t.toList.isEmpty=av then b else uO b t.data.toList x
def FZ(m:Nm)(k:U Ξ):(Ae m k).length<=m.length:=ng _ _
def YW(F o b x:I)(f t:χ)(c:V)(m:Nm)(W:J)(R:f.size<=1000000)(a0:t.size<=1000000)(T:m.length<=1000000)(a1:t.toList.isEmpty=N->c=uy x)(E:W.cell? ⟨F,o,H⟩=G (.map (G b)))(u:Ag W b m):
 ο Y 180 #[L (G ⟨F,o,H⟩),.agg #[M f,M t,c]] W λe w'=>e=η (.tuple #[])/\Ag w' b (rT m f t x)/\OE b W w':=by
 have a5:=u.lt;have A:OE b W (W.alloc (X #[M f,M t,c] 185)):=iQ W _ _;have Q:Ag (W.alloc (X #[M f,M t,c] 185)) b m:=u.of_block (rU _ _ _ a5);have l:(W.alloc (X #[M f,M t,c] 185)).cell? ⟨F,o,H⟩=G (.map (G b)):=A.cell E (u.ne E);have v:=pG W (X #[M f,M t,c] 185);have k:(W.alloc (X #[M f,M t,c] 185)).cell? ⟨W.heap.size,0,H⟩=G (M f):=by unfold Θ;simp only[v];rfl
 have d:(W.alloc (X #[M f,M t,c] 185)).cell? ⟨W.heap.size,1,H⟩=G (M t):=by unfold Θ;simp only[v];rfl
 have h:(W.alloc (X #[M f,M t,c] 185)).cell? ⟨W.heap.size,2,H⟩=G c:=by unfold Θ;simp only[v];rfl
 have i:=O A;have g:=O Q;have r:=O (show W.heap.size≠b by omega);clear v A Q E u;rcases g1:f.toList.isEmpty with _|_<;>rcases g2:t.toList.isEmpty with _|_
 ·have K:=a1 g2
  subst K
  go_enter bz,aY
  go_wp2_with fail
  generalize(W.alloc (X #[M f,M t,uy x] 185))=q at l k d h i g|-;generalize W.heap.size=S at k d h r|-
  go_still_tail 6,(by kernel_rfl)
  change bV _ _ _ _ _ q.drew;obtain⟨P,a4,s,j⟩:=Ag.del (w:=q.drew) (g.o.of_block rfl) f R 0;have a3:=j.cell l (g.o.ne l);have a2:=j.cell d r.o;have a7:=j.cell h r.o;have y:=O (i.o.drew.trans j);have z:=O s;clear l k d h g i j s
  go_wp2_with fail
  go_still_tail 8,(by kernel_rfl)
  change bV _ _ _ _ _ P.drew;obtain⟨a8,a6,D,C⟩:=Ag.put (w:=P.drew) (z.o.of_block rfl) t a0 x (pF (FZ _ _) T);clear a3 a2 a7
  go_wp2_with fail
  go_end0
  exact⟨rfl,by unfold rT;rw[g1,g2];exact D,y.o.drew.trans C⟩
 ·go_enter bz,aY
  go_wp2_with fail
  generalize(W.alloc (X #[M f,M t,c] 185))=q at l k d h i g|-;generalize W.heap.size=S at k d h r|-
  go_still_tail 6,(by kernel_rfl)
  change bV _ _ _ _ _ q.drew;obtain⟨P,a4,s,j⟩:=Ag.del (w:=q.drew) (g.o.of_block rfl) f R 0;have a2:=j.cell d r.o;have y:=O (i.o.drew.trans j);have z:=O s;clear l k d h g i j s
  go_wp2_with fail
  go_end0
  exact⟨rfl,by unfold rT;rw[g1,g2];exact z.o,y.o⟩
 ·have K:=a1 g2
  subst K
  go_enter bz,aY
  go_wp2_with fail
  generalize(W.alloc (X #[M f,M t,uy x] 185))=q at l k d h i g|-;generalize W.heap.size=S at k d h r|-
  go_still_tail 8,(by kernel_rfl)
  change bV _ _ _ _ _ q.drew;obtain⟨a8,a6,D,C⟩:=Ag.put (w:=q.drew) (g.o.of_block rfl) t a0 x T;clear l k d h
  go_wp2_with fail
  go_end0
  exact⟨rfl,by unfold rT;rw[g1,g2];exact D,i.o.drew.trans C⟩
 ·go_enter bz,aY
  go_wp2_with fail
  go_end0
  exact⟨rfl,by unfold rT;rw[g1,g2];exact g.o,i.o⟩
def Rd(w:J)(v:V)(l:U Ξ):Prop:=
 (v=δ H 0 0/\l=[])\/∃(g cap:I)(b:aO V)(c:I×I),v=δ (G ⟨g,0,H⟩) l.length cap/\w.heap[g]?=G (Ω b 5 c)/\l.length<=cap/\b.toList.take l.length=ah l
def Rd.kept{w w':J}{v:V}{l:U Ξ}(d:Rd w v l)(j:∀(g:I)(b:aO V)(c:I×I),w.heap[g]?=G (Ω b 5 c)->w'.heap[g]?=w.heap[g]?):Rd w' v l:=by
 rcases d with d|⟨g,cap,b,c,f,e,h,i⟩
 ·exact .inl d
 ·exact .inr ⟨g,cap,b,c,f,by rw[j g b c e];exact e,h,i⟩
def An:(Tryz.prog.info? 5).map (λi=>(i.zero,i.size,i.bytes))=G (G (.int .u8 0),1,1):=by kernel_rfl
def info_parts{t:aQ}{z:V}{s b:I}(c:(Tryz.prog.info? t).map (λi=>(i.zero,i.size,i.bytes))=G (G z,s,b)):∃i,Tryz.prog.info? t=G i/\i.zero=G z/\i.size=s/\i.bytes=b:=by
 cases e:Tryz.prog.info? t with
 |none=>rw[e] at c;cases c
 |some i=>rw[e] at c;simp only[jd,nk,mT] at c;exact⟨i,rfl,c.1,c.2.1,c.2.2⟩
def YX(w:J)(t:aQ)(n:I)(b:0<n):(w.alloc (X #[] t)).ownsRow w.heap.size t n (δ (G ⟨w.heap.size,0,H⟩) 0 0) 0 []:=
 ⟨by simp,.inr ⟨w.heap.size,0,_,rfl,oZ _,sK w _,oZ _,by unfold bH;omega,by simp,by simp⟩⟩
def Rd.uT{w:J}{base:I}{v:V}{l:U Ξ}(c:w.ownsRow base 5 1 v l.length (ah l)):Rd w v l:=by
 rcases c.2 with⟨rfl,d⟩|⟨g,cap,b,rfl,_,f,e,_,_,h⟩
 ·exact .inl ⟨rfl,oK d⟩
 ·exact .inr ⟨g,cap,b,_,rfl,f,e,by simpa using h⟩
def Rd.cells{w:J}{g:I}{l:U Ξ}{d:aO V}{f:I×I}(h:w.heap[g]?=G (X d 5 f))(k:d.toList.take l.length=ah l)(j:I)(u:V)(b:(ah l)[j]?=G u):w.cell? ((⟨g,0,H⟩:Addr).add j)=G u:=by
 have e:((⟨g,0,H⟩:Addr).add j)=⟨g,j,H⟩:=by simp[bD];omega
 rw[e];unfold Θ;simp only[h]
 have i:j<l.length:=by
  rcases mC j l.length with c|c
  ·exact c
  ·rw[kq (by simpa [ah] using c)] at b;cases b
 rw[<-k,mG,oD i] at b;simpa using b
def Ib(v:V)(l:U Ξ)(W:J)(S:l.length<=1000000)(C:Rd W v l):
 ο Y 69 #[v] W λe w'=>∃d,e=η d/\Rd w' d l/\(∀g,d.ownBlock=G g->W.heap.size<=g)/\aE W.heap.size W w':=by
 have T:∀(w:J)(a:aS Addr)(n c:I),(bZ .eql 68 (δ a n c) (δ H 0 0)).run Y w= .ok (.bool a.isNone) w:=λw a n c=>Lib.run_eql_slice_nil w _ _ a n c 0 0 az
 rcases C with⟨rfl,rfl⟩|⟨g,cap,r,s,rfl,b,R,A⟩
 ·go_enter cN,cF
  go_wp2_with fail
  go_ret;exact⟨_,rfl,.inl ⟨rfl,rfl⟩,λg b=>by simp[aj] at b,pH _ _⟩
 ·obtain⟨P,y,D,E,K⟩:=info_parts An
  have t:(W.alloc (X #[] 5)).heap[g]?=G (X r 5 s):=(by rw[rU _ _ _ (lt_of_heap b)];exact b);have h:=YX W 5 1 (by decide);have f:=O (pM W (X #[] 5));have j:W.heap.size<=(W.alloc (X #[] 5)).heap.size:=f.o.size
  go_enter cN,cF
  go_wp2_with(at_builtin;refine mJ _ rfl _ _ 68 rfl W.heap.size 5 P (.int .u8 0) 1 1 az y D E K rfl (by decide) _ _ _ rfl h ⟨g,0,H⟩ l.length cap (ah l) rfl (by simp[ah]) (Rd.cells t A) ?a2 ?a3 ?a4 ?a5 ?_)
  case a2=>intro u hu;simp only[ah,List.mem_map] at hu;obtain⟨c,_,rfl⟩:=hu;rfl
  case a3=>unfold bH;omega
  case a4=>omega
  case a5=>exact j
  intro Q a0 i x _;have m:=O (f.o.grown x j (λk z=>(h.lt k z).1));have q:=O (Rd.uT (l:=l) (base:=W.heap.size) (by simpa using i));have o:=O (λg (b:Q.ownBlock=G g)=>(i.lt g b).1)
  go_wp2_with fail
  go_ret;exact⟨_,rfl,q.o,o.o,m.o⟩
structure Fl where
 blk:I
 data:U Ξ
 tK:U Ξ
 synced:Bool
structure Ch where
 src:χ
 dst:χ
 file:aS I
structure St where
 files:U Fl
 names:Nm
 tK:Nm
 pend:U Ch
 down:Bool
 rJ:Bool
 after:aN
 err:aN
structure Loc where
 F:I
 nb:I
 db:I
 fs:V
 ps:V
 Z:I->Prop
def tq(c:Ch):U V:=[M c.src,M c.dst,wL c.file]
def Ah(o:Loc)(s:St):aO V:=#[.map (G o.nb),.map (G o.db),o.fs,o.ps,.bool s.down,.bool s.rJ,θ ι s.after,θ ι s.err]
def Rz(Z:I->Prop)(w:J)(v:V)(l:U Ξ):Prop:=Rd w v l/\∀g,v.ownBlock=G g->¬Z g
def Db(Z:I->Prop)(w:J)(f:Fl):Prop:=∃b c,w.heap[f.blk]?=G (Ω #[b,c,.bool f.synced] 132 (0,0))/\Rz Z w b f.data/\Rz Z w c f.tK
structure Is(w:J)(B:I)(o:Loc)(s:St):Prop where
 fs:w.heap[o.F]?=G (Ω (Ah o s) 78 (0,0))
 names:Ag w o.nb s.names
 tK:Ag w o.db s.tK
 nd:o.nb≠o.db
 files:w.ownsRow B 127 1 o.fs s.files.length (s.files.map λf=>uy f.blk)
 pend:w.ownsRow B 185 3 o.ps s.pend.length (s.pend.flatMap tq)
 each:∀f∈s.files,Db o.Z w f
 zl:∀k,o.Z k->∃cur fr,w.heap[k]?=G (Ω cur 5 fr)
 zB:(s.files.map (·.blk)).Nodup
 bF:B<=o.F
 bn:B<=o.nb
 bd:B<=o.db
 bf:∀f∈s.files,B<=f.blk
def r7(o:Loc)(s:St)(k:I):Prop:=k=o.F\/k=o.nb\/k=o.db\/o.fs.ownBlock=G k\/o.ps.ownBlock=G k\/∃f∈s.files,f.blk=k
structure Fr(w w':J)(p:I->Prop):Prop where
 os:w'.os=w.os
 tape:w'.tape=w.tape
 output:w'.output=w.output
 size:w.heap.size<=w'.heap.size
 block:∀k,k<w.heap.size->¬p k->w'.heap[k]?=w.heap[k]?
def Fr.of_but{b:I}{w w':J}(c:OE b w w')(p:I->Prop)(g:p b):Fr w w' p:=
 ⟨c.os,c.tape,c.output,c.size,λk d f=>c.block k d (by intro e;injection e with e;subst e;exact f g)⟩
def Fr.qd{w w':J}(b:aE w.heap.size w w')(p:I->Prop):Fr w w' p:=⟨b.os,b.tape,b.output,b.size,λk c _=>b.block k c⟩
def Fr.trans{u v w:J}{p q:I->Prop}(b:Fr u v p)(g:Fr v w q)(f:∀k,k<u.heap.size->q k->p k):Fr u w p:=
 ⟨g.os.trans b.os,g.tape.trans b.tape,g.output.trans b.output,pF b.size g.size,λk c d=>(g.block k (oQ c b.size) (λe=>d (f k c e))).trans (b.block k c d)⟩
def Fr.mono{w w':J}{p q:I->Prop}(b:Fr w w' p)(f:∀k,p k->q k):Fr w w' q:=⟨b.os,b.tape,b.output,b.size,λk c d=>b.block k c λe=>d (f k e)⟩
def Fr.below{w w':J}{p:I->Prop}{B:I}(b:Fr w w' p)(c:∀k,p k->B<=k)(f:B<=w.heap.size):aE B w w':=
 ⟨b.os,b.tape,b.output,b.size,λk d=>b.block k (oQ d f) λe=>by have:=c k e;omega⟩
def Rz.kept{Z:I->Prop}{w w':J}{v:V}{l:U Ξ}(b:Rz Z w v l)(e:∀(g:I)(c:aO V)(d:I×I),w.heap[g]?=G (Ω c 5 d)->w'.heap[g]?=w.heap[g]?):Rz Z w' v l:=⟨b.1.kept e,b.2⟩
def yI{Z:I->Prop}{w w':J}(e:∀k,Z k->∃b c,w.heap[k]?=G (Ω b 5 c))(f:∀(g:I)(b:aO V)(c:I×I),w.heap[g]?=G (Ω b 5 c)->w'.heap[g]?=w.heap[g]?):∀k,Z k->∃b c,w'.heap[k]?=G (Ω b 5 c):=λk h=>by
 obtain⟨b,c,d⟩:=e k h;exact⟨b,c,by rw[f k b c d];exact d⟩
def Db.kept{Z:I->Prop}{w w':J}{f:Fl}(h:Db Z w f)(l:w'.heap[f.blk]?=w.heap[f.blk]?)(b:∀(g:I)(c:aO V)(e:I×I),w.heap[g]?=G (Ω c 5 e)->w'.heap[g]?=w.heap[g]?):Db Z w' f:=by obtain⟨d,m,i,j,k⟩:=h;exact⟨d,m,by rw[l];exact i,j.kept b,k.kept b⟩
def qj{w w':J}{base n size:I}{e:aQ}{v:V}{c:U V}(b:w.ownsRow base e size v n c)(j:∀g,v.ownBlock=G g->w'.heap[g]?=w.heap[g]?):w'.ownsRow base e size v n c:=by
 refine⟨b.1,?_⟩;rcases b.2 with f|⟨g,cap,d,rfl,h,i,r⟩
 ·exact .inl f
 ·exact .inr ⟨g,cap,d,rfl,h,by rw[j g rfl];exact i,r⟩
def Is.kept{w w':J}{B:I}{o:Loc}{s:St}(b:Is w B o s)(c:∀k,r7 o s k->w'.heap[k]?=w.heap[k]?)(e:∀(g:I)(i:aO V)(j:I×I),w.heap[g]?=G (Ω i 5 j)->w'.heap[g]?=w.heap[g]?):Is w' B o s where
 fs:=by rw[c _ (.inl rfl)];exact b.fs
 names:=b.names.of_block (c _ (.inr (.inl rfl)))
 tK:=b.tK.of_block (c _ (.inr (.inr (.inl rfl))))
 nd:=b.nd
 files:=qj b.files λg d=>c g (.inr (.inr (.inr (.inl d))))
 pend:=qj b.pend λg d=>c g (.inr (.inr (.inr (.inr (.inl d)))))
 each:=λf h=>(b.each f h).kept (c _ (.inr (.inr (.inr (.inr (.inr ⟨f,h,rfl⟩)))))) e
 zl:=yI b.zl e
 zB:=b.zB
 bF:=b.bF
 bn:=b.bn
 bd:=b.bd
 bf:=b.bf
def Is.below{w w':J}{B:I}{o:Loc}{s:St}(b:Is w B o s)(d:aE w.heap.size w w'):Is w' B o s:=by
 have j:∀k,r7 o s k->k<w.heap.size:=by
  rintro k (rfl|rfl|rfl|c|c|⟨f,h,rfl⟩)
  ·exact lt_of_heap b.fs
  ·exact b.names.lt
  ·exact b.tK.lt
  ·exact(b.files.lt k c).2
  ·exact(b.pend.lt k c).2
  ·obtain⟨m,r,e,_⟩:=b.each f h
   exact lt_of_heap e
 exact b.kept (λk c=>d.block k (j k c)) (λg l q i=>d.block g (lt_of_heap i))
def Ag.Z4{w:J}{b k:I}{m:Nm}{d:aO V}{t:aQ}{f:I×I}(g:Ag w b m)(c:w.heap[k]?=G (Ω d t f)):k≠b:=by obtain⟨n,es,i,h,r⟩:=g;intro e;rw[e,h] at c;simp at c
def qH{w:J}{base n size:I}{e:aQ}{v:V}{h:U V}(d:w.ownsRow base e size v n h){g:I}(c:v.ownBlock=G g):∃b,w.heap[g]?=G (Ω b e (0,0)):=by
 rcases d.2 with⟨rfl,_⟩|⟨i,cap,b,rfl,j,f,r⟩
 ·simp[aj] at c
 ·simp[aj] at c
  subst c;exact⟨b,f⟩
def Is.named{w j:J}{B:I}{o:Loc}{s:St}{m:Nm}(b:Is w B o s)(q:OE o.nb w j)(v:Ag j o.nb m):Is j B o {s with names:=m}:=by
 have h:∀k d t i,w.heap[k]?=G (Ω d t i)->j.heap[k]?=w.heap[k]?:=λk d t i c=>q.block k (lt_of_heap c) (by intro e;injection e with e;exact b.names.Z4 c e)
 exact
  {fs:=by rw[h _ _ _ _ b.fs];exact b.fs
   names:=v
   tK:=b.tK.of_block (q.block _ b.tK.lt (by intro e;injection e with e;exact b.nd e.symm))
   nd:=b.nd
   files:=qj b.files λg l=>by obtain⟨d,c⟩:=qH b.files l;exact h _ _ _ _ c
   pend:=qj b.pend λg l=>by obtain⟨d,c⟩:=qH b.pend l;exact h _ _ _ _ c
   each:=λf r=>(b.each f r).kept (by obtain⟨x,y,u,_⟩:=b.each f r;exact h _ _ _ _ u) (λg d i c=>h _ _ _ _ c)
   zl:=yI b.zl (λk d i c=>h k d _ i c)
   zB:=b.zB
   bF:=b.bF
   bn:=b.bn
   bd:=b.bd
   bf:=b.bf}
def infoC:(Tryz.prog.info? 185).map (λi=>(i.zero,i.size,i.bytes))=G (G (.agg #[M aR,M aR,L H]),3,40):=by kernel_rfl
def LA{b g:J}{x c:Obj}{row:aS I}{F:I}(h:(b.drew.alloc x).grownBy g row)(d:b.heap[F]?=G c)(j:row≠G F):g.heap[F]?=G c:=by
 have i:=lt_of_heap d;have f:(b.drew.alloc x).heap[F]?=G c:=by rw[rU b.drew x F i];exact d
 rw[h.block F (lt_of_heap f) (λe=>j e.symm)];exact f
def QC{w:J}{F:I}{o:Loc}{s:St}(b:w.heap[F]?=G (Ω (Ah o s) 78 (0,0))):w.cell? ⟨F,3,H⟩=G o.ps/\w.frozen? ⟨F,3,H⟩=N:=by unfold Θ aP;simp only[b];exact⟨rfl,rfl⟩
def Bn{w:J}{base n size F:I}{e t:aQ}{v:V}{i:U V}{cs:aO V}{c:I×I}(d:w.ownsRow base e size v n i)(f:w.heap[F]?=G (Ω cs t c))(h:t≠e):v.ownBlock≠G F:=by intro g;obtain⟨j,b⟩:=qH d g;rw[f] at b;simp only[nk,Obj.cells.injEq] at b;exact h b.2.1
def Au{w:J}{k F:I}{cs ds:aO V}{t u:aQ}{b c:I×I}(d:w.heap[k]?=G (Ω cs t b))(g:w.heap[F]?=G (Ω ds u c))(f:t≠u):k≠F:=by intro e;subst e;rw[d] at g;simp only[nk,Obj.cells.injEq] at g;exact f g.2.1
def Ag.block{w:J}{b:I}{m:Nm}(e:Ag w b m):∃es c,w.heap[b]?=G (.map es c):=by obtain⟨n,es,d,f,r⟩:=e;exact⟨es,d,f⟩
def Is.pended{j q:J}{x:Obj}{B g cap:I}{o:Loc}{s:St}{c:Ch}(d:Is j B o s)(P:(j.drew.alloc x).grownBy q o.ps.ownBlock)
 (Q:q.ownsRow B 185 3 (δ (G ⟨g,0,H⟩) (s.pend.length+1) cap) (s.pend.length+1) (s.pend.flatMap tq++tq c)):
 Is (q.setCell ⟨o.F,3,H⟩ (δ (G ⟨g,0,H⟩) (s.pend.length+1) cap)) B {o with ps:=δ (G ⟨g,0,H⟩) (s.pend.length+1) cap} {s with pend:=s.pend++[c]}:=by
 have K:∀k z,j.heap[k]?=G z->o.ps.ownBlock≠G k->k≠o.F->(q.setCell ⟨o.F,3,H⟩ (δ (G ⟨g,0,H⟩) (s.pend.length+1) cap)).heap[k]?=G z:=λk z l a1 a0=>by
  rw[pz _ _ _ _ a0];exact LA P l a1
 have u:∀k i t r,j.heap[k]?=G (Ω i t r)->t≠185->t≠78->(q.setCell ⟨o.F,3,H⟩ (δ (G ⟨g,0,H⟩) (s.pend.length+1) cap)).heap[k]?=j.heap[k]?:=λk i t r l v T=>by
  rw[l];exact K k _ l (Bn d.pend l v) (Au l d.fs T)
 have A:∀b m,Ag j b m->(q.setCell ⟨o.F,3,H⟩ (δ (G ⟨g,0,H⟩) (s.pend.length+1) cap)).heap[b]?=j.heap[b]?:=λb m D=>by
  obtain⟨es,a2,w⟩:=D.block;rw[w];exact K b _ w (λe=>by obtain⟨i,h⟩:=qH d.pend e;rw[w] at h;simp at h) (λe=>D.Z4 d.fs e.symm)
 have C:=LA P d.fs (Bn d.pend d.fs (by decide))
 exact
  {fs:=by rw[oO _ _ _ _ _ _ C];rfl
   names:=d.names.of_block (A _ _ d.names)
   tK:=d.tK.of_block (A _ _ d.tK)
   nd:=d.nd
   files:=qj d.files λk y=>by obtain⟨i,h⟩:=qH d.files y;exact u _ _ _ _ h (by decide) (by decide)
   pend:=by
    have R:(s.pend++[c]).length=s.pend.length+1:=(by simp);have S:(s.pend++[c]).flatMap tq=s.pend.flatMap tq++tq c:=by simp
    show aW _ _ _ _ _ (s.pend++[c]).length ((s.pend++[c]).flatMap tq)
    rw[R,S];refine qj Q λk y=>?_
    obtain⟨i,h⟩:=qH Q y;exact pz _ _ _ _ (Au h C (by decide))
   each:=λf E=>(d.each f E).kept (by obtain⟨a3,a4,v,_⟩:=d.each f E;exact u _ _ _ _ v (by decide) (by decide)) (λk i r h=>u _ _ _ _ h (by decide) (by decide))
   zl:=yI d.zl (λk i r h=>u k i _ r h (by decide) (by decide))
   zB:=d.zB
   bF:=d.bF
   bn:=d.bn
   bd:=d.bd
   bf:=d.bf}
def Fr.grow{b f:J}{x:Obj}{row:aS I}(c:(b.drew.alloc x).grownBy f row)(p:I->Prop)(i:∀k,row=G k->p k):Fr b f p:=
 ⟨c.os,c.tape,c.output,pF (by show _<=(aM b.drew x).heap.size;rw[qB];exact nu _) c.size,λk d h=>by
  have g:k<(b.drew.alloc x).heap.size:=(by show _<(aM b.drew x).heap.size;rw[qB];exact Nat.lt_succ_of_lt d);rw[c.block k g (λe=>h (i k e.symm))];exact rU b.drew x k d⟩
def Fr.set(w:J)(a:Addr)(v:V)(p:I->Prop)(c:p a.block):Fr w (w.setCell a v) p:=
 ⟨rfl,rfl,rfl,by simp,λk d b=>pz w a k v (λe=>b (e▸c))⟩
def UU(w:J)(b:U V)(j:I)(u:V)(d:b[j]?=G u):(w.alloc (X b.toArray 185)).cell? ((⟨w.heap.size,0,H⟩:Addr).add j)=G u:=by
 have c:=sK w (X b.toArray 185);have e:((⟨w.heap.size,0,H⟩:Addr).add j)=⟨w.heap.size,j,H⟩:=by simp[bD];omega
 rw[e];unfold Θ;simp only[c];simpa using d
def J6(B x:I)(o:Loc)(s:St)(c:Ch)(W:J)(a7:Is W B o s)(a8:c.src.size<=1000000)(a9:c.dst.size<=1000000)(b3:s.names.length<=1000000)(bc:s.pend.length<=1000000)(am:c.dst.toList.isEmpty=N->c.file=G x):
 ο Y 119 #[L (G ⟨o.F,0,H⟩),.agg #[M c.src,M c.dst,wL c.file]] W λe w'=>e=η (.tuple #[])/\∃aq,Is w' B {o with ps:=aq} {s with names:=rT s.names c.src c.dst x,pend:=s.pend++[c]}/\Fr W w' (r7 o s)/\(∀g,aq.ownBlock=G g->o.ps.ownBlock=G g\/W.heap.size<=g):=by
 obtain⟨F,i⟩:=pL o.F;obtain⟨f,R⟩:=pL c.src;obtain⟨t,K⟩:=pL c.dst;obtain⟨b,C⟩:=pL (wL c.file);have an:t.toList.isEmpty=N->b=uy x:=λe=>by rw[<-C,am (by rw[K];exact e)];rfl
 rw[i,R,K,C];rw[R] at a8;rw[K] at a9;have ab:Is (W.alloc (X #[M f,M t,b] 185)) B o s:=a7.below (pM W _);have v:=pG W (X #[M f,M t,b] 185);have a2:=O (pM W (X #[M f,M t,b] 185));have T:(W.alloc (X #[M f,M t,b] 185)).cell? ⟨W.heap.size,0,H⟩=G (M f):=by unfold Θ;simp only[v];rfl
 have a0:(W.alloc (X #[M f,M t,b] 185)).cell? ⟨W.heap.size,1,H⟩=G (M t):=by unfold Θ;simp only[v];rfl
 have a1:(W.alloc (X #[M f,M t,b] 185)).cell? ⟨W.heap.size,2,H⟩=G b:=by unfold Θ;simp only[v];rfl
 have r:=O ab;have aF:=O an;have a6:=O v;clear a7 ab an v am
 go_enter Tryz.func119,Tryz.ntmps119
 go_wp2_with fail
 generalize(W.alloc (X #[M f,M t,b] 185))=q at T a0 a1 a2 r a6|-
 go_still_tail 4,(by kernel_rfl)
 change bV _ _ _ _ _ q.drew
 go_wp2_with fail
 have ad:q.drew.cell? ⟨F,0,H⟩=G (.map (G o.nb)):=by
  have:=r.o.fs;rw[i] at this
  show q.cell? _=_
  unfold Θ;simp only[this];rfl
 refine(YW F 0 o.nb x f t b s.names q.drew a8 a9 b3 aF.o ad (r.o.names.of_block rfl)).mono ?_;rintro e d⟨rfl,aa,m⟩;have l:OE o.nb q d:=⟨m.os,m.tape,m.output,m.size,m.block⟩;clear m;have h:=O (Is.named (w:=q) r.o l aa);have D:W.heap.size≠o.nb:=r.o.names.Z4 a6.o;have be:=l.cell T D;have bf:=l.cell a0 D;have bg:=l.cell a1 D;have a3:=O ((Fr.qd a2.o (r7 o s)).trans (Fr.of_but l (λk=>k=o.nb) rfl) (λk _ e=> .inr (.inl e)))
 have A:d.cell? ⟨F,3,H⟩=G o.ps:=by have:=h.o.fs;rw[i] at this;unfold Θ;simp only[this];rfl
 have bb:d.frozen? ⟨F,3,H⟩=N:=by have:=h.o.fs;rw[i] at this;unfold aP;simp only[this];rfl
 have bd:=a3.o.size;obtain⟨b4,ai,ao,ap,P⟩:=info_parts infoC;obtain⟨b5,j⟩:=pL o.ps;have E:=h.o.pend;rw[j] at E A;have aD:=O E;have a4:=O (show d.heap[F]?=_ from i▸h.o.fs);have ax:=O (Bn E a4.o (by decide))
 have b7:(d.alloc (X #[M f,M t,b] 185)).cell? ⟨F,3,H⟩=G b5:=by have b2:=lt_of_cell A;unfold Θ at A|-;rw[rU _ _ _ b2];exact A
 have aB:=O (show∀u∈[Value.string f,M t,b],u.oneCell'=av by
  intro u al;simp only[ox,oy,nw] at al;rcases al with rfl|rfl|rfl
  ·rfl
  ·rfl
  ·rw[<-C];cases c.file<;>rfl)
 have ar:=O (show B<=d.heap.size from pF h.o.bF (mN (lt_of_heap h.o.fs)));have z:=O (aJ ai (aJ ao (aJ ap P)));clear ad T a0 a1 aa l ai ao ap P E D
 go_wp2_with fail
 go_region_law? (refine step_append_lies _ rfl (.tmp 13) (.tmp 15) 76 rfl B 185 b4 (.agg #[M aR,M aR,L H]) 3 40 Tryz.underlying76 z.o.1 z.o.2.1 z.o.2.2.1 z.o.2.2.2 rfl (by decide) _ _ _ (by simp[Act.eval]) (aD.o.drew.alloc _) ⟨d.heap.size,0,H⟩ 1 1 [M f,M t,b] (by simp[Act.eval]) rfl (UU d.drew _) aB.o (by decide) (by unfold bH;omega) (by omega) (by show _<=(aM _ _).heap.size;rw[qB];have:=ar.o;show _<=d.heap.size+1;omega) _ rfl ?_;intro Q aZ b6 ak y af b0;have S:=LA y a4.o ax.o;have ac:=(QC S).1;have P:=(QC S).2;rw[j] at ac)
 all_goals
  have b1:=j▸y;have a5:=O (Is.pended (c:=c) h.o (by rw[j];exact y) (by rw[show tq c=[M f,M t,b] by unfold tq;rw[R,K,C]];exact ak));have au:=O (a3.o.trans ((Fr.grow y (r7 o s) (λk e=> .inr (.inr (.inr (.inr (.inl (by rw[j];exact e))))))).trans (Fr.set b6 ⟨F,3,H⟩ (δ (G ⟨Q,0,H⟩) (s.pend.length+1) aZ) (r7 o s) (.inl i.symm)) (λk _ e=>e)) (λk _ e=>e))
  have aw:=O (show o.ps.ownBlock=G Q\/W.heap.size<=Q by
   rw[j];rcases af with e|e
   ·exact .inl e
   ·right
    have b8:(aM d.drew (Ω #[M f,M t,b] 185)).heap.size=d.heap.size+1:=(by rw[qB];rfl);have ba:(World.drew (aM d (Ω #[M f,M t,b] 185))).heap.size=d.heap.size+1:=(by show(aM d _).heap.size=_;rw[qB]);omega)
  rw[i] at a5;clear ak y af b0 S ac P b1
  try go_wp2_with fail
  go_end0
  refine⟨rfl,_,a5.o,au.o,?_⟩;intro g ae;simp only[aj,nk] at ae;subst ae;have ag:=aw.o;rw[j] at ag;exact ag
def sH(fs:U Fl)(b:I)(l:U Ξ):U Fl:=fs.map λf=>if f.blk=b then{f with data:=l,synced:=N} else f
def Is.wrote{w:J}{B b:I}{o:Loc}{s:St}{v:V}{l:U Ξ}(c:Is w B o s)(f:Fl)(a8:f∈s.files)(a7:f.blk=b)(ab:Rz o.Z w v l):
 Is ((w.setCell ⟨b,0,H⟩ v).setCell ⟨b,2,H⟩ (.bool N)) B o {s with files:=sH s.files b l}:=by
 obtain⟨S,D,u,P,ad⟩:=c.each f a8;rw[a7] at u;have a4:=oO w b 0 _ _ v u;have a5:=oO _ b 2 _ _ (.bool N) a4
 have K:∀k,k≠b->((w.setCell ⟨b,0,H⟩ v).setCell ⟨b,2,H⟩ (.bool N)).heap[k]?=w.heap[k]?:=λk h=>by
  rw[pz _ _ _ _ h,pz _ _ _ _ h]
 have j:∀k i t q,w.heap[k]?=G (Ω i t q)->t≠132->((w.setCell ⟨b,0,H⟩ v).setCell ⟨b,2,H⟩ (.bool N)).heap[k]?=w.heap[k]?:=λk i t q h aa=>K k (Au h u aa)
 have E:∀d m,Ag w d m->((w.setCell ⟨b,0,H⟩ v).setCell ⟨b,2,H⟩ (.bool N)).heap[d]?=w.heap[d]?:=λd m P=>K d (λe=>P.Z4 u e.symm)
 have A:(sH s.files b l).map (·.blk)=s.files.map (·.blk):=by
  unfold sH;rw[mL];apply mV;intro g _;simp only[Function.comp]
  split<;>rfl
 have a6:∀g∈sH s.files b l,Db o.Z ((w.setCell ⟨b,0,H⟩ v).setCell ⟨b,2,H⟩ (.bool N)) g:=by
  intro g y;unfold sH at y;obtain⟨r,z,rfl⟩:=List.mem_map.1 y
  by_cases e:r.blk=b
  ·rw[oD e]
   obtain⟨T,R,x,ac,a9⟩:=c.each r z;rw[e,u] at x;have a2:#[S,D,aX f.synced]=#[T,R,aX r.synced]:=(by injection x with x;injection x)
   have a3:D=R:=by have:=nT (λa:aO V=>a[1]?) a2;simpa using this
   subst a3;refine⟨v,D,?_,ab.kept (λk i q h=>j _ _ _ _ h (by decide)),a9.kept (λk i q h=>j _ _ _ _ h (by decide))⟩;simp only[e];rw[a5];rfl
  ·rw[oU e]
   exact(c.each r z).kept (K _ e) (λk i q h=>j _ _ _ _ h (by decide))
 exact
  {fs:=by rw[j _ _ _ _ c.fs (by decide)];exact c.fs
   names:=c.names.of_block (E _ _ c.names)
   tK:=c.tK.of_block (E _ _ c.tK)
   nd:=c.nd
   files:=by
    have a0:(sH s.files b l).length=s.files.length:=(by simp[sH])
    have a1:(sH s.files b l).map (λf=>uy f.blk)=s.files.map λf=>uy f.blk:=by have:=nT (List.map uy) A;rw[mL,mL] at this;exact this
    show aW _ _ _ _ _ (sH s.files b l).length ((sH s.files b l).map λf=>uy f.blk)
    rw[a0,a1];exact qj c.files λk h=>by obtain⟨i,C⟩:=qH c.files h;exact j _ _ _ _ C (by decide)
   pend:=qj c.pend λk h=>by obtain⟨i,C⟩:=qH c.pend h;exact j _ _ _ _ C (by decide)
   each:=a6
   zl:=yI c.zl (λk i q h=>j _ _ _ _ h (by decide))
   zB:=by show((sH s.files b l).map (·.blk)).Nodup;rw[A];exact c.zB
   bF:=c.bF
   bn:=c.bn
   bd:=c.bd
   bf:=λg y=>by
    have Q:g.blk∈(sH s.files b l).map (·.blk):=jG y;rw[A] at Q;obtain⟨r,z,e⟩:=List.mem_map.1 Q;rw[<-e];exact c.bf r z}
def Rd.slice{w:J}{v:V}{l:U Ξ}(b:Rd w v l):∃a n c,v=δ a n c:=by
 rcases b with⟨rfl,_⟩|⟨g,cap,d,e,rfl,_⟩
 ·exact⟨_,_,_,rfl⟩
 ·exact⟨_,_,_,rfl⟩
def wD{w:J}{F:I}{o:Loc}{s:St}(b:w.heap[F]?=G (Ω (Ah o s) 78 (0,0))):w.cell? ⟨F,0,H⟩=G (.map (G o.nb)):=by unfold Θ;simp only[b];rfl
def Ai{w:J}{b:I}{x c z:V}(d:w.heap[b]?=G (Ω #[x,c,z] 132 (0,0))):w.cell? ⟨b,0,H⟩=G x/\w.cell? ⟨b,1,H⟩=G c/\w.cell? ⟨b,2,H⟩=G z/\(∀j,w.frozen? ⟨b,j,H⟩=N):=by unfold Θ aP;simp only[d];exact⟨rfl,rfl,rfl,λj=>by simp⟩
def YY(B:I)(o:Loc)(v:V)(W:J):
 ο Y 176 #[L (G ⟨o.F,0,H⟩),M ⟨#[]⟩,v] W λe w'=>e=η (θ ι 2)/\w'=W:=by
 go_enter bO,bJ
 go_wp2_with fail
 go_ret;exact⟨rfl,rfl⟩
def LB(B b:I)(o:Loc)(s:St)(k:χ)(v:V)(l:U Ξ)(f:Fl)(W:J)(j:Is W B o s)(S:k.size<=1000000)(ac:k.toList.isEmpty=N)(T:l.length<=1000000)(y:Rd W v l)(u:qw s.names k.data.toList=G b)(h:f∈s.files)(d:f.blk=b):
 ο Y 176 #[L (G ⟨o.F,0,H⟩),M k,v] W λe w'=>e=η (θ ι 0)/\Is w' B o {s with files:=sH s.files b l}/\Fr W w' (r7 o s):=by
 have t:=wD j.fs;have i:=O j;have E:=O y;have A:=O u;obtain⟨F,Q⟩:=pL o.F;rw[Q] at t|-;clear j y u
 go_enter bO,bJ
 go_wp2_with fail
 refine(tR F 0 o.nb k s.names W S t i.o.names).mono ?_;rintro e ae⟨rfl,rfl⟩;rw[A.o];simp only[wL,uy,kD]
 go_wp2_with fail
 refine(Ib v l _ T E.o).mono ?_;rintro e z⟨a3,rfl,x,w,m⟩
 have q:Rz o.Z z a3 l:=⟨x,λg R a1=>by
  obtain⟨a5,ab,c⟩:=i.o.zl g a1;have a7:=lt_of_heap c;have a8:=w g R;omega⟩
 clear x w;obtain⟨K,a2,P,a0⟩:=q.1.slice;subst a0;have r:=O (i.o.below m);obtain⟨a6,ad,c,-,-⟩:=r.o.each f h;rw[d] at c;obtain⟨a4,c1,c2,cf⟩:=Ai c;have a9:=cf 0;have aa:=cf 2;have D:=O (r.o.wrote f h d q);have C:=O (((Fr.qd m (r7 o s)).trans (Fr.set z ⟨b,0,H⟩ (δ K a2 P) (r7 o s) (.inr (.inr (.inr (.inr (.inr ⟨f,h,d⟩)))))) (λ_ _ e=>e)).trans (Fr.set _ ⟨b,2,H⟩ (.bool N) (r7 o s) (.inr (.inr (.inr (.inr (.inr ⟨f,h,d⟩)))))) (λ_ _ e=>e));clear q m c cf
 go_wp2_with fail
 go_ret;exact⟨rfl,D.o,C.o⟩
def q7{w:J}{F:I}{o:Loc}{s:St}(b:w.heap[F]?=G (Ω (Ah o s) 78 (0,0))):
 w.cell? ⟨F,1,H⟩=G (.map (G o.db))/\w.cell? ⟨F,2,H⟩=G o.fs/\w.cell? ⟨F,4,H⟩=G (.bool s.down)/\w.cell? ⟨F,5,H⟩=G (.bool s.rJ)/\w.cell? ⟨F,6,H⟩=G (θ ι s.after)/\w.cell? ⟨F,7,H⟩=G (θ ι s.err)/\∀j,w.frozen? ⟨F,j,H⟩=N:=by
 unfold Θ aP;simp only[b];exact⟨rfl,rfl,rfl,rfl,rfl,rfl,λj=>by simp⟩
def UX(B:I)(o:Loc)(s:St)(k:χ)(W:J)(b:Is W B o s)(d:s.down=av):
 ο Y 31 #[L (G ⟨o.F,0,H⟩),M k] W λe w'=>e=η (.tuple #[δ H 0 0,θ ι 24])/\w'=W:=by
 obtain⟨-,-,c,-⟩:=q7 b.fs;rw[d] at c;clear b
 go_enter bQ,bM
 go_wp2_with fail
 go_ret2;exact⟨rfl,rfl⟩
def UY(B:I)(o:Loc)(s:St)(k:χ)(W:J)(b:Is W B o s)(i:s.down=N)(j:k.size<=1000000)(c:qw s.names k.data.toList=H):
 ο Y 31 #[L (G ⟨o.F,0,H⟩),M k] W λe w'=>e=η (.tuple #[δ H 0 0,θ ι 23])/\w'=W:=by
 obtain⟨-,-,g,-⟩:=q7 b.fs;rw[i] at g;have h:=wD b.fs;have f:=O b.names;have d:=O c;clear b c
 go_enter bQ,bM
 go_wp2_with fail
 refine(tR o.F 0 o.nb k s.names W j h f.o).mono ?_;rintro e l⟨rfl,rfl⟩;rw[d.o];simp only[wL,jT]
 go_wp2_with fail
 go_ret2;exact⟨rfl,rfl⟩
def UZ(B b:I)(o:Loc)(s:St)(k:χ)(f:Fl)(W:J)(c:Is W B o s)(A:s.down=N)(D:k.size<=1000000)(l:qw s.names k.data.toList=G b)(K:f∈s.files)(z:f.blk=b)(E:f.data.length<=1000000):
 ο Y 31 #[L (G ⟨o.F,0,H⟩),M k] W λe w'=>∃v,e=η (.tuple #[v,θ ι 0])/\Rd w' v f.data/\(∀g,v.ownBlock=G g->W.heap.size<=g)/\aE W.heap.size W w':=by
 obtain⟨-,-,x,-⟩:=q7 c.fs;rw[A] at x;have y:=wD c.fs;obtain⟨S,a1,d,h,-⟩:=c.each f K;rw[z] at d;obtain⟨R,-,-,-⟩:=Ai d;have u:=O h.1;have t:=O c.names;have r:=O l;obtain⟨Q,T,a0,C⟩:=h.1.slice;subst C;clear c l d h
 go_enter bQ,bM
 go_wp2_with fail
 refine(tR o.F 0 o.nb k s.names W D y t.o).mono ?_;rintro e a2⟨rfl,rfl⟩;rw[r.o];simp only[wL,uy,kD]
 go_wp2_with fail
 refine(Ib _ f.data _ E u.o).mono ?_;rintro e a3⟨P,rfl,q,m,j⟩;have w:=O q;have i:=O (aJ m j);clear q m j
 go_wp2_with fail
 go_ret2;exact⟨P,rfl,w.o,i.o.1,i.o.2⟩
def LD(B:I)(o:Loc)(s:St)(p q:V)(W:J)(b:Is W B o s)(d:s.down=av):
 ο Y 117 #[L (G ⟨o.F,0,H⟩),p,q] W λe w'=>e=η (θ ι 24)/\w'=W:=by
 obtain⟨-,-,c,-⟩:=q7 b.fs;rw[d] at c;clear b
 go_enter aA,ay
 go_wp2_with fail
 go_ret;exact⟨rfl,rfl⟩
def Oe(B:I)(o:Loc)(s:St)(x1 x2 x3 q:V)(W:J)(Q:aN->J->Prop)(b:Is W B o s)(k:s.down=N)(j:s.rJ=N)
 (d:ο Y 175 #[x1,x2,x3] W λe w'=>∃r,e=η (θ ι r)/\Q r w'):
 ο Y 117 #[L (G ⟨o.F,0,H⟩),.func (.func 175) #[] #[x1,x2,x3],q] W λe w'=>∃r,e=η (θ ι r)/\Q r w':=by
 obtain⟨-,-,h,i,-⟩:=q7 b.fs;rw[k] at h;rw[j] at i;clear b;have f:=O d;clear d
 go_enter aA,ay
 go_wp2_with fail
 refine f.o.mono ?_;rintro e l⟨r,rfl,c⟩;have g:=O c;clear c
 go_wp2_with fail
 go_ret;exact⟨r,rfl,g.o⟩
def QE(B:I)(o:Loc)(s:St)(x1 x2 q:V)(W:J)(Q:aN->J->Prop)(b:Is W B o s)(k:s.down=N)(j:s.rJ=N)
 (d:ο Y 178 #[x1,x2] W λe w'=>∃r,e=η (θ ι r)/\Q r w'):
 ο Y 117 #[L (G ⟨o.F,0,H⟩),.func (.func 178) #[] #[x1,x2],q] W λe w'=>∃r,e=η (θ ι r)/\Q r w':=by
 obtain⟨-,-,h,i,-⟩:=q7 b.fs;rw[k] at h;rw[j] at i;clear b;have f:=O d;clear d
 go_enter aA,ay
 go_wp2_with fail
 refine f.o.mono ?_;rintro e l⟨r,rfl,c⟩;have g:=O c;clear c
 go_wp2_with fail
 go_ret;exact⟨r,rfl,g.o⟩
def I5(B:I)(o:Loc)(s:St)(x1 q:V)(W:J)(Q:aN->J->Prop)(b:Is W B o s)(k:s.down=N)(j:s.rJ=N)
 (d:ο Y 120 #[x1] W λe w'=>∃r,e=η (θ ι r)/\Q r w'):
 ο Y 117 #[L (G ⟨o.F,0,H⟩),.func (.func 120) #[] #[x1],q] W λe w'=>∃r,e=η (θ ι r)/\Q r w':=by
 obtain⟨-,-,h,i,-⟩:=q7 b.fs;rw[k] at h;rw[j] at i;clear b;have f:=O d;clear d
 go_enter aA,ay
 go_wp2_with fail
 refine f.o.mono ?_;rintro e l⟨r,rfl,c⟩;have g:=O c;clear c
 go_wp2_with fail
 go_ret;exact⟨r,rfl,g.o⟩
def LG(B:I)(o:Loc)(s:St)(x1 x2 x3 q:V)(W:J)(Q:aN->J->Prop)(b:Is W B o s)(k:s.down=N)(j:s.rJ=N)
 (d:ο Y 179 #[x1,x2,x3] W λe w'=>∃r,e=η (θ ι r)/\Q r w'):
 ο Y 117 #[L (G ⟨o.F,0,H⟩),.func (.func 179) #[] #[x1,x2,x3],q] W λe w'=>∃r,e=η (θ ι r)/\Q r w':=by
 obtain⟨-,-,h,i,-⟩:=q7 b.fs;rw[k] at h;rw[j] at i;clear b;have f:=O d;clear d
 go_enter aA,ay
 go_wp2_with fail
 refine f.o.mono ?_;rintro e l⟨r,rfl,c⟩;have g:=O c;clear c
 go_wp2_with fail
 go_ret;exact⟨r,rfl,g.o⟩
def QF(B F p q:I)(o:Loc)(s:St)(k:χ)(W:J)(c:Is W B o s)(i:o.F=F)(l:W.cell? ⟨p,0,H⟩=G (L (G ⟨F,0,H⟩)))(m:W.cell? ⟨q,0,H⟩=G (M k))(j:k.size<=1000000)(f:qw s.names k.data.toList=H):
 ο Y 178 #[L (G ⟨p,0,H⟩),L (G ⟨q,0,H⟩)] W λe w'=>e=η (θ ι 23)/\∃n,w'=W.drewN n:=by
 have d:=wD c.fs;rw[i] at d;have h:=O c.names;have b:=λn=>tR F 0 o.nb k s.names (W.drewN n) j (by exact d) (h.o.of_block rfl)
 rw[f] at b;have g:=O b;clear c f b
 go_enter cH,cg
 go_wp2_with fail
 go_quiet((exact aG (g.o _)))
 go_wp2_with fail
 go_ret;exact⟨rfl,nq,rfl⟩
def rM(fs:U Fl)(b:I)(g:Fl->Fl):U Fl:=fs.map λf=>if f.blk=b then g f else f
def Is.turned{w w':J}{B b:I}{o:Loc}{s:St}{g:Fl->Fl}(c:Is w B o s)(T:∀f,(g f).blk=f.blk)(f:Fl)(S:f∈s.files)(R:f.blk=b)(K:∀k,k≠b->w'.heap[k]?=w.heap[k]?)
 (a0:∀f∈s.files,f.blk=b->Db o.Z w' (g f)):Is w' B o {s with files:=rM s.files b g}:=by
 obtain⟨a2,a4,y,C,a3⟩:=c.each f S;rw[R] at y;have j:∀k i t q,w.heap[k]?=G (Ω i t q)->t≠132->w'.heap[k]?=w.heap[k]?:=λk i t q h a1=>K k (Au h y a1)
 have A:∀d m,Ag w d m->w'.heap[d]?=w.heap[d]?:=λd m C=>K d (λe=>C.Z4 y e.symm)
 have v:(rM s.files b g).map (·.blk)=s.files.map (·.blk):=by
  unfold rM;rw[mL];apply mV;intro x _;simp only[Function.comp]
  split
  ·exact T x
  ·rfl
 have Q:∀x∈rM s.files b g,Db o.Z w' x:=by
  intro x u;unfold rM at u;obtain⟨l,r,rfl⟩:=List.mem_map.1 u
  by_cases e:l.blk=b
  ·rw[oD e];exact a0 l r e
  ·rw[oU e]
   exact(c.each l r).kept (K _ e) (λk i q h=>j _ _ _ _ h (by decide))
 exact
  {fs:=by rw[j _ _ _ _ c.fs (by decide)];exact c.fs
   names:=c.names.of_block (A _ _ c.names)
   tK:=c.tK.of_block (A _ _ c.tK)
   nd:=c.nd
   files:=by
    have E:(rM s.files b g).length=s.files.length:=(by simp[rM])
    have P:(rM s.files b g).map (λf=>uy f.blk)=s.files.map λf=>uy f.blk:=by have:=nT (List.map uy) v;rw[mL,mL] at this;exact this
    show aW _ _ _ _ _ (rM s.files b g).length ((rM s.files b g).map λf=>uy f.blk)
    rw[E,P];exact qj c.files λk h=>by obtain⟨i,z⟩:=qH c.files h;exact j _ _ _ _ z (by decide)
   pend:=qj c.pend λk h=>by obtain⟨i,z⟩:=qH c.pend h;exact j _ _ _ _ z (by decide)
   each:=Q
   zl:=yI c.zl (λk i q h=>j _ _ _ _ h (by decide))
   zB:=by show((rM s.files b g).map (·.blk)).Nodup;rw[v];exact c.zB
   bF:=c.bF
   bn:=c.bn
   bd:=c.bd
   bf:=λx u=>by
    have D:x.blk∈(rM s.files b g).map (·.blk):=jG u;rw[v] at D;obtain⟨l,r,e⟩:=List.mem_map.1 D;rw[<-e];exact c.bf l r}
def Is.drewN{w:J}{B:I}{o:Loc}{s:St}(b:Is w B o s)(n:I):Is (w.drewN n) B o s:=b.kept (λ_ _=>rfl) (λ_ _ _ _=>rfl)
def QG(B b F p q:I)(o:Loc)(s:St)(k:χ)(f:Fl)(W:J)(m:Is W B o s)(a4:o.F=F)(a8:W.cell? ⟨p,0,H⟩=G (L (G ⟨F,0,H⟩)))(a9:W.cell? ⟨q,0,H⟩=G (M k))(d:k.size<=1000000)(E:qw s.names k.data.toList=G b)(v:f∈s.files)(r:f.blk=b):
 ο Y 178 #[L (G ⟨p,0,H⟩),L (G ⟨q,0,H⟩)] W λe w'=>e=η (θ ι 0)/\Is w' B o {s with files:=rM s.files b λx=>{x with tK:=x.data,synced:=av}}/\Fr W w' (r7 o s):=by
 have z:=wD m.fs;rw[a4] at z;have T:=O m.names;have S:=O m;have y:=λn=>tR F 0 o.nb k s.names (W.drewN n) d (by exact z) (T.o.of_block rfl)
 rw[E] at y;have R:=O y;clear m E y
 go_enter cH,cg
 go_wp2_with fail
 go_quiet((exact aG (R.o _)))
 simp only[wL,uy,kD];have l:=O (S.o.drewN nq);have A:=O (show Fr W (W.drewN nq) (r7 o s) from⟨rfl,rfl,rfl,oZ _,λ_ _ _=>rfl⟩);generalize W.drewN nq=j at l A|-;obtain⟨af,ab,t,D,aa⟩:=l.o.each f v;rw[r] at t;obtain⟨ad,c1,c2,cf⟩:=Ai t;have ag:=cf 1;have ai:=cf 2;obtain⟨c,h,i,a6⟩:=D.1.slice;subst a6;have w:=O t;clear t D aa cf a8 a9 z
 go_wp2_with fail
 go_ret;refine⟨rfl,?_,?_⟩
 ·have a2:=oO j b 1 _ _ (δ c h i) w.o
  have a3:=oO _ b 2 _ _ (.bool av) a2
  have K:∀k,k≠b->((j.setCell ⟨b,1,H⟩ (δ c h i)).setCell ⟨b,2,H⟩ (.bool av)).heap[k]?=j.heap[k]?:=λk d=>by
   rw[pz _ _ _ _ d,pz _ _ _ _ d]
  refine l.o.turned (λ_=>rfl) f v r K ?_;intro g a7 P;obtain⟨C,ac,u,a5,al⟩:=l.o.each g a7;rw[P,w.o] at u;have a0:#[bP c h i,ab,aX f.synced]=#[C,ac,aX g.synced]:=(by injection u with u;injection u)
  have a1:bP c h i=C:=by have:=nT (λa:aO V=>a[0]?) a0;simpa using this
  subst a1;have Q:=a5.kept (w':=(j.setCell ⟨b,1,H⟩ (δ c h i)).setCell ⟨b,2,H⟩ (.bool av)) (λk ae ak d=>K k (Au d w.o (by decide)));refine⟨_,_,?_,Q,Q⟩;simp only[P];rw[a3];rfl
 ·exact(A.o.trans (Fr.set j ⟨b,1,H⟩ (δ c h i) (r7 o s) (.inr (.inr (.inr (.inr (.inr ⟨f,v,r⟩)))))) (λ_ _ e=>e)).trans (Fr.set _ ⟨b,2,H⟩ (.bool av) (r7 o s) (.inr (.inr (.inr (.inr (.inr ⟨f,v,r⟩)))))) (λ_ _ e=>e)
def LH(B b F p q r:I)(o:Loc)(s:St)(k t:χ)(W:J)(d:Is W B o s)(j:o.F=F)(m:W.cell? ⟨p,0,H⟩=G (L (G ⟨F,0,H⟩)))(u:W.cell? ⟨q,0,H⟩=G (M k))(v:W.cell? ⟨r,0,H⟩=G (M t))(l:k.size<=1000000)(g:qw s.names k.data.toList=H):
 ο Y 179 #[L (G ⟨p,0,H⟩),L (G ⟨q,0,H⟩),L (G ⟨r,0,H⟩)] W λe w'=>e=η (θ ι 23)/\∃n,w'=W.drewN n:=by
 have f:=wD d.fs;rw[j] at f;have i:=O d.names;have c:=λn=>tR F 0 o.nb k s.names (W.drewN n) l (by exact f) (i.o.of_block rfl)
 rw[g] at c;have h:=O c;clear d g c
 go_enter bB,a_
 go_wp2_with fail
 go_quiet((exact aG (h.o _)))
 simp only[wL,jT]
 go_wp2_with fail
 go_ret;exact⟨rfl,nq,rfl⟩
def I6(B b F p q r:I)(o:Loc)(s:St)(k t:χ)(W:J)(d:Is W B o s)(j:o.F=F)(m:W.cell? ⟨p,0,H⟩=G (L (G ⟨F,0,H⟩)))(u:W.cell? ⟨q,0,H⟩=G (M k))(v:W.cell? ⟨r,0,H⟩=G (M t))(l:k.size<=1000000)(g:qw s.names k.data.toList=G b)(w:t.toList.isEmpty=av):
 ο Y 179 #[L (G ⟨p,0,H⟩),L (G ⟨q,0,H⟩),L (G ⟨r,0,H⟩)] W λe w'=>e=η (θ ι 2)/\∃n,w'=W.drewN n:=by
 have f:=wD d.fs;rw[j] at f;have i:=O d.names;have c:=λn=>tR F 0 o.nb k s.names (W.drewN n) l (by exact f) (i.o.of_block rfl)
 rw[g] at c;have h:=O c;clear d g c
 go_enter bB,a_
 go_wp2_with fail
 go_quiet((exact aG (h.o _)))
 simp only[wL,uy,kD]
 go_wp2_with fail
 go_ret;exact⟨rfl,nq,rfl⟩
def LJ(B b F p q r:I)(o:Loc)(s:St)(k t:χ)(W:J)(d:Is W B o s)(j:o.F=F)(m:W.cell? ⟨p,0,H⟩=G (L (G ⟨F,0,H⟩)))(u:W.cell? ⟨q,0,H⟩=G (M k))(v:W.cell? ⟨r,0,H⟩=G (M t))(l:k.size<=1000000)(g:qw s.names k.data.toList=G b)(w:t.toList.isEmpty=N)(x:(k.toList==t.toList)=av):
 ο Y 179 #[L (G ⟨p,0,H⟩),L (G ⟨q,0,H⟩),L (G ⟨r,0,H⟩)] W λe w'=>e=η (θ ι 0)/\∃n,w'=W.drewN n:=by
 have f:=wD d.fs;rw[j] at f;have i:=O d.names;have c:=λn=>tR F 0 o.nb k s.names (W.drewN n) l (by exact f) (i.o.of_block rfl)
 rw[g] at c;have h:=O c;clear d g c
 go_enter bB,a_
 go_wp2_with fail
 go_quiet((exact aG (h.o _)))
 simp only[wL,uy,kD]
 go_wp2_with fail
 go_ret;exact⟨rfl,nq,rfl⟩
def LK(B b F p q r:I)(o:Loc)(s:St)(k t:χ)(W:J)(d:Is W B o s)(j:o.F=F)(Q:W.cell? ⟨p,0,H⟩=G (L (G ⟨F,0,H⟩)))(R:W.cell? ⟨q,0,H⟩=G (M k))(S:W.cell? ⟨r,0,H⟩=G (M t))(x:k.size<=1000000)(P:t.size<=1000000)(m:qw s.names k.data.toList=G b)(T:t.toList.isEmpty=N)(a0:(k.toList==t.toList)=N)(E:s.names.length<=1000000)(K:s.pend.length<=1000000):
 ο Y 179 #[L (G ⟨p,0,H⟩),L (G ⟨q,0,H⟩),L (G ⟨r,0,H⟩)] W λe w'=>e=η (θ ι 0)/\∃f,Is w' B {o with ps:=f} {s with names:=rT s.names k t b,pend:=s.pend++[⟨k,t,G b⟩]}/\Fr W w' (r7 o s)/\(∀g,f.ownBlock=G g->o.ps.ownBlock=G g\/W.heap.size<=g):=by
 have l:=wD d.fs;rw[j] at l;have C:=O d.names;have A:=O d;have h:=λn=>tR F 0 o.nb k s.names (W.drewN n) x (by exact l) (C.o.of_block rfl)
 rw[m] at h;have y:=O h;have i:=λn=>J6 B b o s ⟨k,t,G b⟩ (W.drewN n) (A.o.drewN n) x P E K (λ_=>rfl)
 rw[j] at i;have z:=O i;clear i;clear d m h
 go_enter bB,a_
 go_wp2_with fail
 go_quiet((exact aG (y.o _)))
 simp only[wL,uy,kD]
 go_wp2_with fail
 refine(z.o nq).mono ?_;rintro e a1⟨rfl,f,w,u,v⟩;have c:=O (aJ w (aJ u v));clear w u v
 go_wp2_with fail
 go_ret;have D:=c.o.1;subst j;exact⟨rfl,f,D,⟨c.o.2.1.os,c.o.2.1.tape,c.o.2.1.output,c.o.2.1.size,c.o.2.1.block⟩,c.o.2.2⟩
def U0(b:I)(es:aO dh)(c:I)(w:J)(d:w.heap[b]?=G (.map es c)):
 ο Y 121 #[.map (G b)] w λe w'=>e=η (.map (G w.heap.size))/\w'=w.alloc (.map es c):=AnyW.maps_Clone Tryz.clone121 b es c w d
def Is.synced{w:J}{B:I}{o:Loc}{s:St}(b:Is w B o s)(es:aO dh)(c:I)(D:w.heap[o.nb]?=G (.map es c))(y:B<=w.heap.size):
 Is (((w.alloc (.map es c)).setCell ⟨o.F,1,H⟩ (.map (G w.heap.size))).setCell ⟨o.F,3,H⟩ (δ H 0 0)) B {o with db:=w.heap.size,ps:=δ H 0 0} {s with tK:=s.names,pend:=[]}:=by
 have A:=lt_of_heap b.fs;have C:(w.alloc (.map es c)).heap[o.F]?=G (Ω (Ah o s) 78 (0,0)):=by rw[rU _ _ _ A];exact b.fs
 have m:=oO _ o.F 1 _ _ (.map (G w.heap.size)) C;have x:=oO _ o.F 3 _ _ (δ H 0 0) m
 have K:∀k,k<w.heap.size->k≠o.F->(((w.alloc (.map es c)).setCell ⟨o.F,1,H⟩ (.map (G w.heap.size))).setCell ⟨o.F,3,H⟩ (δ H 0 0)).heap[k]?=w.heap[k]?:=λk d i=>by
  rw[pz _ _ _ _ i,pz _ _ _ _ i,rU _ _ _ d]
 have j:∀k g t l,w.heap[k]?=G (Ω g t l)->t≠78->(((w.alloc (.map es c)).setCell ⟨o.F,1,H⟩ (.map (G w.heap.size))).setCell ⟨o.F,3,H⟩ (δ H 0 0)).heap[k]?=w.heap[k]?:=λk g t l d E=>K k (lt_of_heap d) (Au d b.fs E)
 have v:=K o.nb b.names.lt (λe=>b.names.Z4 b.fs e.symm)
 have z:Ag (((w.alloc (.map es c)).setCell ⟨o.F,1,H⟩ (.map (G w.heap.size))).setCell ⟨o.F,3,H⟩ (δ H 0 0)) w.heap.size s.names:=by obtain⟨n,R,P,q,r⟩:=b.names;rw[D] at q;simp only[nk,Obj.map.injEq] at q;obtain⟨rfl,rfl⟩:=q;refine⟨n,es,c,?_,r⟩;have i:w.heap.size≠o.F:=(by omega);rw[pz _ _ _ _ i,pz _ _ _ _ i];exact sK w _
 exact
  {fs:=by rw[x];rfl
   names:=b.names.of_block v
   tK:=z
   nd:=by have:=b.names.lt;show o.nb≠w.heap.size;omega
   files:=qj b.files λk d=>by obtain⟨g,h⟩:=qH b.files d;exact j _ _ _ _ h (by decide)
   pend:=⟨rfl,.inl ⟨rfl,rfl⟩⟩
   each:=λf u=>(b.each f u).kept (by obtain⟨Q,S,m,_⟩:=b.each f u;exact j _ _ _ _ m (by decide)) (λk g l h=>j _ _ _ _ h (by decide))
   zl:=yI b.zl (λk g l h=>j _ _ _ _ h (by decide))
   zB:=b.zB
   bF:=b.bF
   bn:=b.bn
   bd:=y
   bf:=b.bf}
end Vf
namespace Vf
open RowKit Maps Bs
attribute [local go_sem↓] Go.wp_at_zero Go.wp_at_succ
def I7(F p c:I)(W:J)(x1 x3:V)(es:aO dh)(b:I)(k:W.cell? ⟨p,0,H⟩=G (L (G ⟨F,0,H⟩)))(i:W.cell? ⟨F,0,H⟩=G (.map (G c)))(f:W.cell? ⟨F,1,H⟩=G x1)(j:W.cell? ⟨F,3,H⟩=G x3)(g:W.frozen? ⟨F,1,H⟩=N)(h:W.frozen? ⟨F,3,H⟩=N)(m:W.heap[c]?=G (.map es b)):
 ο Y 120 #[L (G ⟨p,0,H⟩)] W λe w'=>e=η (θ ι 0)/\w'=((W.drew.alloc (.map es b)).setCell ⟨F,1,H⟩ (.map (G W.heap.size))).setCell ⟨F,3,H⟩ (δ H 0 0):=by
 have l:ο Y 121 #[.map (G c)] W.drew λe w'=>e=η (.map (G W.heap.size))/\w'.cell? ⟨p,0,H⟩=G (L (G ⟨F,0,H⟩))/\w'.cell? ⟨F,0,H⟩=G (.map (G c))/\w'.cell? ⟨F,1,H⟩=G x1/\w'.cell? ⟨F,3,H⟩=G x3/\w'.frozen? ⟨F,1,H⟩=N/\w'.frozen? ⟨F,3,H⟩=N/\Hid (w'=W.drew.alloc (.map es b)):=by
  refine(U0 c es b W.drew m).mono ?_;rintro e w'⟨rfl,rfl⟩;have d:=rU W.drew (.map es b) F (lt_of_cell f);have r:=rU W.drew (.map es b) p (lt_of_cell k);refine⟨rfl,?_,?_,?_,?_,?_,?_,rfl⟩
  ·unfold Θ at k|-;rw[r];exact k
  ·unfold Θ at i|-;rw[d];exact i
  ·unfold Θ at f|-;rw[d];exact f
  ·unfold Θ at j|-;rw[d];exact j
  ·unfold aP at g|-;rw[d];exact g
  ·unfold aP at h|-;rw[d];exact h
 have o:=O l;clear l m
 go_enter Tryz.func120,Tryz.ntmps120
 go_wp2_with fail
 go_region_held3 (λw'=>w'.cell? ⟨p,0,H⟩=G (L (G ⟨F,0,H⟩))/\w'.cell? ⟨F,0,H⟩=G (.map (G c))) (first|go_keep|((try dsimp only);refine⟨?_,?_⟩<;>(first|exact(jo _ _ _ _ (by simp)).trans (by assumption)|exact(jo _ _ _ _ (by simp)).trans ((jo _ _ _ _ (by simp)).trans (by assumption)))))
  (first
   |(go_at_call 121;refine o.o.mono ?_;rintro e y ⟨rfl,s,t,u,v,w,x,q⟩;clear i f j g h))
 all_goals go_wp2_with fail
 all_goals go_ret
 all_goals exact⟨rfl,by rw[q.o]⟩
end Vf
namespace Vf
open RowKit Maps Bs
def Stp(B:I)(o:Loc)(s:St)(W:J)(R:aN->St->Prop)(e:aV)(w':J):Prop:=
 ∃r c b,e=η (θ ι r)/\R r c/\b.F=o.F/\b.Z=o.Z/\Is w' B b c/\Fr W w' (r7 o s)/\∀k,r7 b c k->r7 o s k\/W.heap.size<=k
def infoP:(Tryz.prog.info? 127).map (λi=>(i.zero,i.size,i.bytes))=G (G (L H),1,8):=by kernel_rfl
def Ic{b g:J}{x c:Obj}{row:aS I}{F:I}(h:(b.alloc x).grownBy g row)(d:b.heap[F]?=G c)(j:row≠G F):g.heap[F]?=G c:=by
 have i:=lt_of_heap d;have f:(b.alloc x).heap[F]?=G c:=by rw[rU b x F i];exact d
 rw[h.block F (lt_of_heap f) (λe=>j e.symm)];exact f
def Is.Ie{l v:J}{x:Obj}{B g cap b:I}{o:Loc}{s:St}(d:Is l B o s)(a2:B<=b)(q:l.heap[b]?=G (Ω #[δ H 0 0,δ H 0 0,.bool N] 132 (0,0)))(a3:∀f∈s.files,f.blk≠b)(r:(l.alloc x).grownBy v o.fs.ownBlock)
 (Q:v.ownsRow B 127 1 (δ (G ⟨g,0,H⟩) (s.files.length+1) cap) (s.files.length+1) (s.files.map (λf=>uy f.blk)++[uy b])):
 Is (v.setCell ⟨o.F,2,H⟩ (δ (G ⟨g,0,H⟩) (s.files.length+1) cap)) B {o with fs:=δ (G ⟨g,0,H⟩) (s.files.length+1) cap} {s with files:=s.files++[⟨b,[],[],N⟩]}:=by
 have K:∀k C,l.heap[k]?=G C->o.fs.ownBlock≠G k->k≠o.F->(v.setCell ⟨o.F,2,H⟩ (δ (G ⟨g,0,H⟩) (s.files.length+1) cap)).heap[k]?=G C:=λk C u a4 a0=>by
  rw[pz _ _ _ _ a0];exact Ic r u a4
 have w:∀k j t y,l.heap[k]?=G (Ω j t y)->t≠127->t≠78->(v.setCell ⟨o.F,2,H⟩ (δ (G ⟨g,0,H⟩) (s.files.length+1) cap)).heap[k]?=l.heap[k]?:=λk j t y u z T=>by
  rw[u];exact K k _ u (Bn d.files u z) (Au u d.fs T)
 have D:∀b m,Ag l b m->(v.setCell ⟨o.F,2,H⟩ (δ (G ⟨g,0,H⟩) (s.files.length+1) cap)).heap[b]?=l.heap[b]?:=λb m P=>by
  obtain⟨es,a5,q⟩:=P.block;rw[q];exact K b _ q (λe=>by obtain⟨j,i⟩:=qH d.files e;rw[q] at i;simp at i) (λe=>P.Z4 d.fs e.symm)
 have E:=Ic r d.fs (Bn d.files d.fs (by decide))
 exact
  {fs:=by rw[oO _ _ _ _ _ _ E];rfl
   names:=d.names.of_block (D _ _ d.names)
   tK:=d.tK.of_block (D _ _ d.tK)
   nd:=d.nd
   pend:=qj d.pend λk A=>by obtain⟨j,i⟩:=qH d.pend A;exact w _ _ _ _ i (by decide) (by decide)
   files:=by
    have R:(s.files++[(⟨b,[],[],N⟩:Fl)]).length=s.files.length+1:=(by simp);have S:(s.files++[(⟨b,[],[],N⟩:Fl)]).map (λf=>uy f.blk)=s.files.map (λf=>uy f.blk)++[uy b]:=by simp
    show aW _ _ _ _ _ (s.files++[(⟨b,[],[],N⟩:Fl)]).length ((s.files++[(⟨b,[],[],N⟩:Fl)]).map λf=>uy f.blk)
    rw[R,S];refine qj Q λk A=>?_
    obtain⟨j,i⟩:=qH Q A;exact pz _ _ _ _ (Au i E (by decide))
   each:=λf h=>by
    rcases List.mem_append.1 h with h|h
    ·exact(d.each f h).kept (by obtain⟨a6,a7,z,_⟩:=d.each f h;exact w _ _ _ _ z (by decide) (by decide)) (λk j y i=>w _ _ _ _ i (by decide) (by decide))
    ·obtain rfl:=List.mem_singleton.1 h
     exact⟨δ H 0 0,δ H 0 0,(w _ _ _ _ q (by decide) (by decide)).trans q,⟨.inl ⟨rfl,rfl⟩,λg r=>by simp[aj] at r⟩,⟨.inl ⟨rfl,rfl⟩,λg r=>by simp[aj] at r⟩⟩
   zl:=yI d.zl (λk j y i=>w k j _ y i (by decide) (by decide))
   zB:=by
    show((s.files++[(⟨b,[],[],N⟩:Fl)]).map (·.blk)).Nodup
    rw[nv,List.nodup_append];refine⟨d.zB,by simp,?_⟩;intro a a1 c i;simp only[ou,mU,mW] at i;subst i;obtain⟨f,h,rfl⟩:=List.mem_map.1 a1;exact a3 f h
   bF:=d.bF
   bn:=d.bn
   bd:=d.bd
   bf:=λf h=>by
    rcases List.mem_append.1 h with h|h
    ·exact d.bf f h
    ·obtain rfl:=List.mem_singleton.1 h
     exact a2}
def Fr.growP{c f:J}{x:Obj}{row:aS I}(b:(c.alloc x).grownBy f row)(p:I->Prop)(i:∀k,row=G k->p k):Fr c f p:=
 ⟨b.os,b.tape,b.output,pF (by rw[qB];exact nu _) b.size,λk d h=>by
  have g:k<(c.alloc x).heap.size:=(by rw[qB];exact Nat.lt_succ_of_lt d);rw[b.block k g (λe=>h (i k e.symm))];exact rU c x k d⟩
def U1(w:J)(b:U V)(j:I)(u:V)(d:b[j]?=G u):(w.alloc (X b.toArray 127)).cell? ((⟨w.heap.size,0,H⟩:Addr).add j)=G u:=by
 have c:=sK w (X b.toArray 127);have e:((⟨w.heap.size,0,H⟩:Addr).add j)=⟨w.heap.size,j,H⟩:=by simp[bD];omega
 rw[e];unfold Θ;simp only[c];simpa using d
def Is.SL{w:J}{B k:I}{o:Loc}{s:St}(b:Is w B o s)(d:r7 o s k)(e:aO V)(g:I×I):w.heap[k]?≠G (Ω e 5 g):=by
 intro c;rcases d with rfl|rfl|rfl|d|d|⟨f,i,rfl⟩
 ·exact Au c b.fs (by decide) rfl
 ·exact b.names.Z4 c rfl
 ·exact b.tK.Z4 c rfl
 ·exact Bn b.files c (by decide) d
 ·exact Bn b.pend c (by decide) d
 ·obtain⟨j,l,h,_⟩:=b.each f i
  exact Au c h (by decide) rfl
def Fr.bytes{w w':J}{B:I}{o:Loc}{s:St}(g:Fr w w' (r7 o s))(e:Is w B o s):∀(k:I)(b:aO V)(c:I×I),w.heap[k]?=G (Ω b 5 c)->w'.heap[k]?=w.heap[k]?:=
 λk b c d=>g.block k (lt_of_heap d) λf=>e.SL f b c d
def St.Ie(s:St)(b:I)(k:χ):St:={s with files:=s.files++[⟨b,[],[],N⟩],names:=rT s.names ⟨#[]⟩ k b,pend:=s.pend++[⟨⟨#[]⟩,k,G b⟩]}
def St.put(s:St)(b:I)(l:U Ξ):St:={s with files:=sH s.files b l}
def LL(B:I)(o:Loc)(s:St)(k:χ)(v:V)(l:U Ξ)(W:J)(i:Is W B o s)(ax:k.size<=1000000)(c9:k.toList.isEmpty=N)(bs:l.length<=1000000)(b3:Rd W v l)(h:qw s.names k.data.toList=H)(c8:s.files.length<=1000000)(bt:s.names.length<=1000000)(bu:s.pend.length<=1000000):
 ο Y 176 #[L (G ⟨o.F,0,H⟩),M k,v] W (Stp B o s W λr bE=>r=0/\∃b,(∀f∈s.files,f.blk≠b)/\bE=(s.Ie b k).put b l):=by
 have a5:=wD i.fs;have be:=O i;have bi:=O b3;have ba:=O h;obtain⟨F,P⟩:=pL o.F;rw[P] at a5|-;have E:=O P;have bm:=pF i.bF (mN (lt_of_heap i.fs));have a7:Is (W.alloc (X #[δ H 0 0,δ H 0 0,.bool N] 132)) B o s:=i.below (pM W _);have aq:=pG W (X #[δ H 0 0,δ H 0 0,.bool N] 132);obtain⟨bx,aw,b4,b5,A⟩:=info_parts infoP
 have aD:∀f∈s.files,f.blk≠W.heap.size:=λf D e=>by
  obtain⟨bl,bC,z,_⟩:=i.each f D;have:=lt_of_heap z;omega
 have af:=O aD;have C:=O a7;have b8:=O aq;have bc:=O (Fr.qd (pM W (X #[δ H 0 0,δ H 0 0,.bool N] 132)) (r7 o s));have ab:(W.alloc (X #[δ H 0 0,δ H 0 0,.bool N] 132)).heap.size=W.heap.size+1:=qB _ _;have bp:=(q7 a7.fs).2.1;rw[P] at bp;have K:=O (aJ aw (aJ b4 (aJ b5 A)));have bf:=O i.names;clear i b3 h aD a7 aq P aw b4 b5 A
 go_enter bO,bJ
 go_wp2_with fail
 refine(tR F 0 o.nb k s.names W ax a5 bf.o).mono ?_;rintro e c⟨rfl,rfl⟩;rw[ba.o];simp only[wL,jT];clear a5;have b0:=C.o.files.alloc (X #[uy c.heap.size] 127)
 have aB:∀(j:I)(u:V),[uy c.heap.size][j]?=G u->((c.alloc (X #[δ H 0 0,δ H 0 0,.bool N] 132)).alloc (X #[uy c.heap.size] 127)).cell? ((⟨c.heap.size+1,0,H⟩:Addr).add j)=G u:=by rw[<-ab];exact U1 _ [uy c.heap.size]
 have ai:=O (aJ b0 aB);have al:=O ab;clear b0 aB ab
 go_wp2_with(at_builtin;refine wpList_append_lies _ rfl _ _ 75 rfl B 127 bx (L H) 1 8 Tryz.underlying75 K.o.1 K.o.2.1 K.o.2.2.1 K.o.2.2.2 rfl (by decide) _ _ _ rfl ai.o.1 ⟨c.heap.size+1,0,H⟩ 1 1 [uy c.heap.size] rfl rfl ai.o.2 ?a1 (by decide) ?a2 ?a3 ?a4 (c.heap.size+2) ?T ?_)
 case a1=>intro u hu;obtain rfl:=List.mem_singleton.1 hu;rfl
 case a2=>unfold bH;omega
 case a3=>omega
 case a4=>show _<=(aM _ _).heap.size;rw[qB,al.o];omega
 case T=>show(aM _ _).heap.size=_;rw[qB,al.o]
 intro y w R b1 Q ar br;have aF:=Bn C.o.files C.o.fs (by decide);have a9:=Ic Q C.o.fs aF;rw[E.o] at a9;obtain⟨-,bn,-,-,-,-,A⟩:=q7 a9;have A:=A 2;have ak:=O (C.o.Ie bm b8.o af.o Q b1);have S:=O ((bc.o.trans (Fr.growP Q (r7 o s) (λk e=> .inr (.inr (.inr (.inl e))))) (λ_ _ e=>e)).trans (Fr.set R ⟨o.F,2,H⟩ (δ (G ⟨y,0,H⟩) (s.files.length+1) w) (r7 o s) (.inl rfl)) (λ_ _ e=>e))
 have m:Hid (∀k',r7 {o with fs:=δ (G ⟨y,0,H⟩) (s.files.length+1) w} {s with files:=s.files++[⟨c.heap.size,[],[],N⟩]} k'->r7 o s k'\/c.heap.size<=k'):=by
  rintro k' (rfl|rfl|rfl|d|d|⟨f,h,rfl⟩)
  ·exact .inl (.inl rfl)
  ·exact .inl (.inr (.inl rfl))
  ·exact .inl (.inr (.inr (.inl rfl)))
  ·simp only[aj,nk] at d
   subst d;rcases ar with e|e
   ·exact .inl (.inr (.inr (.inr (.inl e))))
   ·exact .inr (by omega)
  ·exact .inl (.inr (.inr (.inr (.inr (.inl d)))))
  ·rcases List.mem_append.1 h with h|h
   ·exact .inl (.inr (.inr (.inr (.inr (.inr ⟨f,h,rfl⟩)))))
   ·obtain rfl:=List.mem_singleton.1 h
    exact .inr (oZ _)
 have am:R.setCell ⟨o.F,2,H⟩ (δ (G ⟨y,0,H⟩) (s.files.length+1) w)=R.setCell ⟨F,2,H⟩ (δ (G ⟨y,0,H⟩) (s.files.length+1) w):=by rw[E.o]
 rw[am] at ak S;clear am;clear b1 Q a9 aF ar br
 go_wp2_with fail
 clear bn A;generalize(R.setCell ⟨F,2,H⟩ (δ (G ⟨y,0,H⟩) (s.files.length+1) w))=bR at*;generalize aZ:({o with fs:=δ (G ⟨y,0,H⟩) (s.files.length+1) w}:Loc)=q at*;have ag:Hid (q.F=o.F/\q.Z=o.Z):=by subst aZ;exact⟨rfl,rfl⟩
 have a6:q.F=F:=ag.o.1.trans E.o;have a0:=J6 B c.heap.size q {s with files:=s.files++[⟨c.heap.size,[],[],N⟩]} ⟨⟨#[]⟩,k,G c.heap.size⟩ bR ak.o (show(⟨#[]⟩:χ).size<=1000000 by decide) ax bt bu (λ_=>rfl);rw[a6] at a0;have bb:=O a6;clear aZ a6;refine a0.mono ?_;clear a0;rintro e ca⟨rfl,b6,ap,an,ao⟩;have ad:=O ap;have ac:=O (S.o.trans an (λk' d e=>by rcases m.o k' e with e|e;exact e;omega))
 have t:Hid (∀k',r7 {q with ps:=b6} (s.Ie c.heap.size k) k'->r7 o s k'\/c.heap.size<=k'):=by
  rintro k' (rfl|rfl|rfl|d|d|⟨f,h,rfl⟩)
  ·exact m.o _ (.inl rfl)
  ·exact m.o _ (.inr (.inl rfl))
  ·exact m.o _ (.inr (.inr (.inl rfl)))
  ·exact m.o _ (.inr (.inr (.inr (.inl d))))
  ·rcases ao k' d with e|e
   ·exact m.o _ (.inr (.inr (.inr (.inr (.inl e)))))
   ·exact .inr (pF S.o.size e)
  ·exact m.o _ (.inr (.inr (.inr (.inr (.inr ⟨f,h,rfl⟩)))))
 have bj:=O (bi.o.kept (ac.o.bytes be.o));clear ap an ao
 go_wp2_with fail
 refine(Ib v l _ bs bj.o).mono ?_;rintro e b7⟨bN,rfl,b2,au,a8⟩
 have aa:Rz q.Z b7 bN l:=⟨b2,λg bq bw=>by
  obtain⟨c3,c7,z⟩:=ad.o.zl g bw;have c4:=lt_of_heap z;have c5:=au g bq;omega⟩
 clear b2 au;obtain⟨T,bA,bk,bv⟩:=aa.1.slice;subst bv;have ae:=O (ad.o.below a8);have D:(⟨c.heap.size,[],[],N⟩:Fl)∈(s.Ie c.heap.size k).files:=List.mem_append.2 (.inr (List.mem_singleton.2 rfl));obtain⟨bl,bC,z,-,-⟩:=ae.o.each _ D;obtain⟨c0,c1,c2,cf⟩:=Ai z;have x:=cf 0;have c6:=cf 2;have bg:=O (ae.o.wrote _ D rfl aa);have bd:=O (((ac.o.trans (Fr.qd a8 (r7 o s)) (λ_ _ e=>e)).trans (Fr.set b7 ⟨c.heap.size,0,H⟩ (δ T bA bk) (λk'=>k'=c.heap.size) rfl) (λk' d e=>by omega)).trans (Fr.set _ ⟨c.heap.size,2,H⟩ (.bool N) (λk'=>k'=c.heap.size) rfl) (λk' d e=>by omega));clear aa a8 z cf D
 go_wp2_with fail
 go_ret;refine⟨0,_,{q with F:=F,ps:=b6},rfl,⟨rfl,_,af.o,rfl⟩,E.o.symm,ag.o.2,bg.o,bd.o,?_⟩;rintro k' (rfl|rfl|rfl|d|d|⟨f,h,rfl⟩)
 ·exact t.o _ (.inl bb.o.symm)
 ·exact t.o _ (.inr (.inl rfl))
 ·exact t.o _ (.inr (.inr (.inl rfl)))
 ·exact t.o _ (.inr (.inr (.inr (.inl d))))
 ·exact t.o _ (.inr (.inr (.inr (.inr (.inl d)))))
 ·obtain⟨x,bo,rfl⟩:=List.mem_map.1 (show f∈sH _ _ _ from h)
  have e:(if x.blk=c.heap.size then{x with data:=l,synced:=N} else x:Fl).blk=x.blk:=(by split<;>rfl);rw[e];exact t.o _ (.inr (.inr (.inr (.inr (.inr ⟨x,bo,rfl⟩)))))
structure AF where
 data:U Ξ
 tK:U Ξ
 synced:Bool
structure AC where
 src:χ
 dst:χ
 file:I
structure AS where
 files:U AF
 names:Nm
 tK:Nm
 pend:U AC
 down:Bool
 rJ:Bool
 after:aN
 err:aN
def cf(bl:I->I)(i:I)(f:AF):Fl:=⟨bl i,f.data,f.tK,f.synced⟩
def cn(bl:I->I)(m:Nm):Nm:=m.map λp=>(p.1,bl p.2)
def cc(bl:I->I)(c:AC):Ch:=⟨c.src,c.dst,if c.dst.toList.isEmpty=av then H else G (bl c.file)⟩
def qU(bl:I->I)(a:AS):St:=⟨a.files.mapIdx (cf bl),cn bl a.names,cn bl a.tK,a.pend.map (cc bl),a.down,a.rJ,a.after,a.err⟩
def Ab(a:AS)(s:St):Prop:=∃bl,s=qU bl a
def QH(bl:I->I)(m:Nm):(cn bl m).length=m.length:=by simp[cn]
def SM(bl:I->I)(m:Nm)(k:U Ξ):qw (cn bl m) k=(qw m k).map bl:=by
 unfold qw cn
 induction m with
 |nil=>rfl
 |cons y r ih=>
  simp only[ou,lz]
  cases y.1==k with
  |true=>rfl
  |false=>exact ih
def YZ(bl:I->I)(m:Nm)(k:U Ξ):Ae (cn bl m) k=cn bl (Ae m k):=by
 unfold Ae cn
 induction m with
 |nil=>rfl
 |cons y r ih=>
  simp only[ou,jK]
  split
  ·simp only[ou,ih]
  ·exact ih
def Y0(bl:I->I)(k:U Ξ)(i:I):∀m:Nm,AB (k,bl i) (cn bl m)=cn bl (AB (k,i) m)
 |[]=>rfl
 |y::r=>by
  have b:=Y0 bl k i r;unfold cn at b|-;simp only[AB,ou]
  split
  ·rfl
  ·simp only[ou,b]
def cn_put(bl:I->I)(m:Nm)(k:U Ξ)(i:I):uO (cn bl m) k (bl i)=cn bl (uO m k i):=by unfold uO;rw[YZ,Y0]
def Of(bl:I->I)(m:Nm)(f t:χ)(i:I):rT (cn bl m) f t (bl i)=cn bl (rT m f t i):=by
 unfold rT;simp only
 split<;>split<;>simp only[YZ,cn_put]
def J7(bl:I->I)(l:U AF)(m:((l.mapIdx (cf bl)).map (·.blk)).Nodup)(i:I)(s:i<l.length)(g:Fl->Fl)(k:AF->AF)(r:∀j f,g (cf bl j f)=cf bl j (k f)):
 rM (l.mapIdx (cf bl)) (bl i) g=(l.modify i k).mapIdx (cf bl):=by
 have t:∀j,j<l.length->bl j=bl i->j=i:=by
  intro j d e;have b:((l.mapIdx (cf bl)).map (·.blk))[j]'(by simpa using d)=bl j:=(by simp[cf]);have c:((l.mapIdx (cf bl)).map (·.blk))[i]'(by simpa using s)=bl i:=(by simp[cf]);rcases Nat.lt_trichotomy j i with h|q|h
  ·exact cT (b.trans (e.trans c.symm)) (List.pairwise_iff_getElem.1 m j i _ _ h)
  ·exact q
  ·exact cT (c.trans (e.symm.trans b.symm)) (List.pairwise_iff_getElem.1 m i j _ _ h)
 unfold rM;apply lH
 ·simp
 intro j b c;have d:j<l.length:=by simpa using b
 simp only[oG,gQ,iT]
 by_cases e:i=j
 ·subst e
  rw[oD rfl,oD (by rfl),r]
 ·rw[oU (λo:(cf bl j l[j]).blk=bl i=>e (t j d o).symm),oU e]
def LM(fs:U Fl)(b:I)(l:U Ξ):sH fs b l=rM fs b λf=>{f with data:=l,synced:=N}:=rfl
def AS.record(a:AS)(c:AC):AS:={a with names:=rT a.names c.src c.dst c.file,pend:=a.pend++[c]}
def AS.sync(k:χ)(a:AS):aN×AS:=
 match qw a.names k.data.toList with
 |none=>(23,a)
 |some i=>(0,{a with files:=a.files.modify i λf=>{f with tK:=f.data,synced:=av}})
def AS.rename(k t:χ)(a:AS):aN×AS:=
 match qw a.names k.data.toList with
 |none=>(23,a)
 |some i=>if t.toList.isEmpty=av then(2,a) else if(k.toList==t.toList)=av then(0,a) else(0,a.record ⟨k,t,i⟩)
def AS.sG(a:AS):aN×AS:=(0,{a with tK:=a.names,pend:=[]})
def AS.put(k:χ)(l:U Ξ)(a:AS):aN×AS:=
 if k.toList.isEmpty=av then(2,a) else
 match qw a.names k.data.toList with
 |some i=>(0,{a with files:=a.files.modify i λf=>{f with data:=l,synced:=N}})
 |none=>(0,AS.record {a with files:=a.files++[⟨l,[],N⟩]} ⟨⟨#[]⟩,k,a.files.length⟩)
def AS.op(p:AS->aN×AS)(q:AS->AS)(a:AS):aN×AS:=
 if a.down=av then(24,a) else if a.rJ=N then p a else if 0<a.after then p {a with after:=a.after-1} else(a.err,{q {a with rJ:=N} with down:=a.err==24})
structure AS.Wf(a:AS):Prop where
 names:∀p∈a.names,p.2<a.files.length
 tK:∀p∈a.tK,p.2<a.files.length
 pend:∀c∈a.pend,c.dst.toList.isEmpty=N->c.file<a.files.length
def Bk{m:Nm}{k:U Ξ}{i:I}(b:qw m k=G i):(k,i)∈m:=by
 unfold qw at b
 cases e:m.find? λp=>p.1==k with
 |none=>rw[e] at b;cases b
 |some p=>rw[e] at b;have d:=List.mem_of_find?_eq_some e;have f:=List.find?_some e;simp only[jd,nk] at b;have c:p.1=k:=(by simpa using f);obtain⟨g,h⟩:=p;simp only at b c;subst b c;exact d
def AS.Wf.find{a:AS}(b:a.Wf){k:U Ξ}{i:I}(e:qw a.names k=G i):i<a.files.length:=b.names _ (Bk e)
def Ab.sync{a:AS}{bl:I->I}(c:a.Wf)(b:((qU bl a).files.map (·.blk)).Nodup){k:χ}{i:I}(e:qw a.names k.data.toList=G i):
 {qU bl a with files:=rM (qU bl a).files (bl i) λx=>{x with tK:=x.data,synced:=av}}=qU bl (a.sync k).2:=by
 unfold AS.sync;rw[e];simp only[qU] at b|-;rw[J7 bl a.files b i (c.find e) _ (λf=>{f with tK:=f.data,synced:=av}) (λj f=>rfl)]
def Ab.LB{a:AS}{bl:I->I}(c:a.Wf)(b:((qU bl a).files.map (·.blk)).Nodup){k:χ}{l:U Ξ}{i:I}(d:k.toList.isEmpty=N)(e:qw a.names k.data.toList=G i):
 {qU bl a with files:=sH (qU bl a).files (bl i) l}=qU bl (a.put k l).2:=by
 unfold AS.put;rw[e,d];simp only[qU] at b|-;rw[LM,J7 bl a.files b i (c.find e) _ (λf=>{f with data:=l,synced:=N}) (λj f=>rfl)];rfl
def Ab.record{a:AS}{bl:I->I}(c:AC):{qU bl a with names:=rT (qU bl a).names c.src c.dst (bl c.file),pend:=(qU bl a).pend++[cc bl c]}=qU bl (a.record c):=by unfold AS.record;simp only[qU,Of,nv,ou,mU]
def Ab.sG{a:AS}{bl:I->I}:{qU bl a with tK:=(qU bl a).names,pend:=[]}=qU bl a.sG.2:=rfl
def upd(bl:I->I)(n b:I):I->I:=λi=>if i=n then b else bl i
def QI(bl:I->I)(l:U AF)(b:I):l.mapIdx (cf (upd bl l.length b))=l.mapIdx (cf bl):=by
 apply lH
 ·simp
 intro j c d;have e:j<l.length:=by simpa using c
 simp only[gQ,cf,upd];rw[oU (by omega)]
def Y1(bl:I->I)(m:Nm)(n b:I)(c:∀p∈m,p.2<n):cn (upd bl n b) m=cn bl m:=by unfold cn;apply mV;intro p d;simp only[upd];rw[oU (by have:=c p d;omega)]
def cc_upd(bl:I->I)(l:U AC)(n b:I)(d:∀c∈l,c.dst.toList.isEmpty=N->c.file<n):l.map (cc (upd bl n b))=l.map (cc bl):=by
 apply mV;intro c g;unfold cc
 cases e:c.dst.toList.isEmpty with
 |true=>rfl
 |false=>
  have h:=d c g e
  have f:upd bl n b c.file=bl c.file:=by unfold upd;rw[oU (by omega)]
  rw[f]
def Ab.LL{a:AS}{bl:I->I}(c:a.Wf){k:χ}{l:U Ξ}{b:I}(o:∀f∈(qU bl a).files,f.blk≠b)(h:k.toList.isEmpty=N)(e:qw a.names k.data.toList=H):
 ((qU bl a).Ie b k).put b l=qU (upd bl a.files.length b) (a.put k l).2:=by
 have r:sH ((qU bl a).files++[(⟨b,[],[],N⟩:Fl)]) b l=(qU bl a).files++[⟨b,l,[],N⟩]:=by
  unfold sH;rw[nv]
  congr 1
  ·conv=>rhs;rw[<-List.map_id (qU bl a).files]
   apply mV;intro f q;rw[oU (o f q)];rfl
  ·simp
 unfold AS.put;rw[e,h];unfold St.put St.Ie;simp only;rw[r]
 have d:(qU bl a).files++[(⟨b,l,[],N⟩:Fl)]=(a.files++[(⟨l,[],N⟩:AF)]).mapIdx (cf (upd bl a.files.length b)):=by rw[List.mapIdx_append,QI];simp[qU,cf,upd]
 have i:=Y1 bl a.names a.files.length b c.names;have j:=Y1 bl a.tK a.files.length b c.tK;have m:=cc_upd bl a.pend a.files.length b c.pend;have g:upd bl a.files.length b a.files.length=b:=by simp[upd]
 simp only[qU,AS.record,nH,lQ] at d|-;rw[d,<-Of,i,j,nv,m,g];simp only[ou,mU,cc,g,h,nH,lQ]
def ARes(p:AS->aN×AS)(a:AS):aN->St->Prop:=λr b=>r=(p a).1/\Ab (p a).2 b
abbrev xk(B:I)(o:Loc)(s:St)(W:J)(p:AS->aN×AS)(a:AS):aV->J->Prop:=Stp B o s W (ARes p a)
structure AS.Sm(a:AS):Prop where
 files:a.files.length<=1000000
 names:a.names.length<=1000000
 pend:a.pend.length<=1000000
def Fr.drewN(W:J)(n:I)(p:I->Prop):Fr W (W.drewN n) p:=⟨rfl,rfl,rfl,oZ _,λ_ _ _=>rfl⟩
def xk.quiet{B r:I}{o:Loc}{s:St}{W:J}{p:AS->aN×AS}{a:AS}(b:Is W B o s)(e:Ab a s)(n:I)(c:(p a).1=r)(d:(p a).2=a):xk B o s W p a (η (θ ι r)) (W.drewN n):=
 ⟨r,s,o,rfl,⟨c.symm,by rw[d];exact e⟩,rfl,rfl,b.drewN n,Fr.drewN _ _ _,λ_ f=> .inl f⟩
def xk.ps{B:I}{o:Loc}{s c:St}{W w':J}{p:AS->aN×AS}{a:AS}{r:aN}{h:V}(l:Is w' B {o with ps:=h} c)(b:Fr W w' (r7 o s))(k:∀g,h.ownBlock=G g->o.ps.ownBlock=G g\/W.heap.size<=g)(m:c.files=s.files)
 (i:(p a).1=r) (j:Ab (p a).2 c):xk B o s W p a (η (θ ι r)) w':=by
 refine⟨r,c,{o with ps:=h},rfl,⟨i.symm,j⟩,rfl,rfl,l,b,?_⟩;rintro k' (rfl|rfl|rfl|d|d|⟨f,b,rfl⟩)
 ·exact .inl (.inl rfl)
 ·exact .inl (.inr (.inl rfl))
 ·exact .inl (.inr (.inr (.inl rfl)))
 ·exact .inl (.inr (.inr (.inr (.inl d))))
 ·rcases k k' d with e|e
  ·exact .inl (.inr (.inr (.inr (.inr (.inl e)))))
  ·exact .inr e
 ·rw[m] at b
  exact .inl (.inr (.inr (.inr (.inr (.inr ⟨f,b,rfl⟩)))))
def J8{o:Loc}{s:St}{b k:I}{g:Fl->Fl}(j:∀f,(g f).blk=f.blk)(c:r7 o {s with files:=rM s.files b g} k):r7 o s k:=by
 rcases c with c|c|c|c|c|⟨f,h,rfl⟩
 ·exact .inl c
 ·exact .inr (.inl c)
 ·exact .inr (.inr (.inl c))
 ·exact .inr (.inr (.inr (.inl c)))
 ·exact .inr (.inr (.inr (.inr (.inl c))))
 ·obtain⟨d,i,rfl⟩:=List.mem_map.1 (show f∈rM _ _ _ from h)
  have e:(if d.blk=b then g d else d:Fl).blk=d.blk:=(by split<;>simp[j]);rw[e];exact .inr (.inr (.inr (.inr (.inr ⟨d,i,rfl⟩))))
def Ab.BK{bl:I->I}{a:AS}{k:U Ξ}(e:qw a.names k=H):qw (qU bl a).names k=H:=by
 show qw (cn bl a.names) k=H
 rw[SM,e];rfl
def Ab.xm{bl:I->I}{a:AS}{k:U Ξ}{i:I}(e:qw a.names k=G i):qw (qU bl a).names k=G (bl i):=by
 show qw (cn bl a.names) k=_
 rw[SM,e];rfl
def Ab.file{bl:I->I}{a:AS}{i:I}(b:i<a.files.length):∃f∈(qU bl a).files,f.blk=bl i:=by refine⟨(a.files.mapIdx (cf bl))[i]'(by simpa using b),pq _,?_⟩;simp[cf]
def Y2(B F p q:I)(o:Loc)(s:St)(a:AS)(k:χ)(W:J)(c:Is W B o s)(h:Ab a s)(r:a.Wf)(d:o.F=F)(l:W.cell? ⟨p,0,H⟩=G (L (G ⟨F,0,H⟩)))(m:W.cell? ⟨q,0,H⟩=G (M k))(j:k.size<=1000000):
 ο Y 178 #[L (G ⟨p,0,H⟩),L (G ⟨q,0,H⟩)] W (xk B o s W (AS.sync k) a):=by
 obtain⟨bl,rfl⟩:=id h
 cases e:qw a.names k.data.toList with
 |none=>
  refine(QF B F p q o _ k W c d l m j (Ab.BK e)).mono ?_;rintro e w'⟨rfl,n,rfl⟩
  exact xk.quiet c h n (by unfold AS.sync;rw[e];rfl) (by unfold AS.sync;rw[e])
 |some i=>obtain⟨f,y,t⟩:=Ab.file (bl:=bl) (r.find e);refine(QG B (bl i) F p q o _ k f W c d l m j (Ab.xm e) y t).mono ?_;rintro e w'⟨rfl,v,u⟩;exact⟨0,_,o,rfl,⟨by unfold AS.sync;rw[e],bl,Ab.sync r c.zB e⟩,rfl,rfl,v,u,λk' w=> .inl (J8 (b:=bl i) (g:=λx=>{x with tK:=x.data,synced:=av}) (λ_=>rfl) w)⟩
def QJ(B F p q r:I)(o:Loc)(s:St)(a:AS)(k t:χ)(W:J)(c:Is W B o s)(g:Ab a s)(C:a.Wf)(v:a.Sm)(f:o.F=F)(j:W.cell? ⟨p,0,H⟩=G (L (G ⟨F,0,H⟩)))(l:W.cell? ⟨q,0,H⟩=G (M k))(m:W.cell? ⟨r,0,H⟩=G (M t))(h:k.size<=1000000)(A:t.size<=1000000):
 ο Y 179 #[L (G ⟨p,0,H⟩),L (G ⟨q,0,H⟩),L (G ⟨r,0,H⟩)] W (xk B o s W (AS.rename k t) a):=by
 obtain⟨bl,rfl⟩:=id g
 cases e:qw a.names k.data.toList with
 |none=>
  refine(LH B 0 F p q r o _ k t W c f j l m h (Ab.BK e)).mono ?_;rintro e w'⟨rfl,n,rfl⟩
  exact xk.quiet c g n (by unfold AS.rename;rw[e];rfl) (by unfold AS.rename;rw[e])
 |some i=>
  cases b:t.toList.isEmpty with
  |true=>
   refine(I6 B (bl i) F p q r o _ k t W c f j l m h (Ab.xm e) b).mono ?_;rintro e w'⟨rfl,n,rfl⟩
   exact xk.quiet c g n (by unfold AS.rename;rw[e];simp only[b];rfl) (by unfold AS.rename;rw[e];simp only[b];rfl)
  |false=>
   cases d:k.toList==t.toList with
   |true=>
    refine(LJ B (bl i) F p q r o _ k t W c f j l m h (Ab.xm e) b d).mono ?_;rintro e w'⟨rfl,n,rfl⟩
    exact xk.quiet c g n (by unfold AS.rename;rw[e];simp only[b,d];rfl) (by unfold AS.rename;rw[e];simp only[b,d];rfl)
   |false=>
    refine(LK B (bl i) F p q r o _ k t W c f j l m h A (Ab.xm e) b d (by simpa [qU,QH] using v.names) (by simpa [qU] using v.pend)).mono ?_;rintro e w'⟨rfl,D,z,x,y⟩
    have u:AS.rename k t a=(0,a.record ⟨k,t,i⟩):=by unfold AS.rename;rw[e];simp only[b,d,nH,lQ]
    refine xk.ps z x y rfl (by rw[u]) ⟨bl,?_⟩;rw[u];simp only;rw[<-Ab.record]
    have w:cc bl ⟨k,t,i⟩=⟨k,t,G (bl i)⟩:=by unfold cc;simp only[b,nH,lQ]
    rw[w]
def Og(B F p:I)(o:Loc)(s:St)(a:AS)(W:J)(b:Is W B o s)(q:Ab a s)(m:o.F=F)(u:W.cell? ⟨p,0,H⟩=G (L (G ⟨F,0,H⟩))):
 ο Y 120 #[L (G ⟨p,0,H⟩)] W (xk B o s W AS.sG a):=by
 obtain⟨bl,rfl⟩:=id q;obtain⟨es,c,h⟩:=b.names.block;subst m;obtain⟨c1,-,-,-,-,-,g⟩:=q7 b.fs;obtain⟨i,-⟩:=QC b.fs;have l:=pF b.bF (mN (lt_of_heap b.fs));refine(I7 o.F p o.nb W _ _ es c u (wD b.fs) c1 i (g 1) (g 3) h).mono ?_;rintro e w'⟨rfl,rfl⟩;have t:=Is.synced (w:=W.drewN 1) (b.drewN 1) es c h l;have j:Fr W (W.drew.alloc (.map es c)) (r7 o (qU bl a)):=(Fr.drewN W 1 _).trans (Fr.qd ((pH (W.drewN 1).heap.size (W.drewN 1)).alloc (oZ _) (.map es c)) (r7 o (qU bl a))) (λ_ _ e=>e);have k:=(j.trans (Fr.set _ ⟨o.F,1,H⟩ (.map (G W.heap.size)) (r7 o (qU bl a)) (.inl rfl)) (λ_ _ e=>e)).trans (Fr.set _ ⟨o.F,3,H⟩ (δ H 0 0) (r7 o (qU bl a)) (.inl rfl)) (λ_ _ e=>e);refine⟨0,_,{o with db:=W.heap.size,ps:=δ H 0 0},rfl,⟨rfl,bl,rfl⟩,rfl,rfl,t,k,?_⟩;rintro k' (rfl|rfl|rfl|d|d|⟨f,r,rfl⟩)
 ·exact .inl (.inl rfl)
 ·exact .inl (.inr (.inl rfl))
 ·exact .inr (oZ _)
 ·exact .inl (.inr (.inr (.inr (.inl d))))
 ·simp[aj] at d
 ·exact .inl (.inr (.inr (.inr (.inr (.inr ⟨f,r,rfl⟩)))))
def QK{k:χ}(b:k.toList.isEmpty=av):k=⟨#[]⟩:=by rw[b_] at b;obtain⟨⟨l⟩⟩:=k;simp only[List.isEmpty_iff] at b;subst b;rfl
def Y3(B F:I)(o:Loc)(s:St)(a:AS)(k:χ)(v:V)(l:U Ξ)(W:J)(d:Is W B o s)(t:Ab a s)(m:a.Wf)(j:a.Sm)(P:o.F=F)(u:k.size<=1000000)(w:l.length<=1000000)(y:Rd W v l):
 ο Y 176 #[L (G ⟨F,0,H⟩),M k,v] W (xk B o s W (AS.put k l) a):=by
 obtain⟨bl,rfl⟩:=id t;subst P
 cases c:k.toList.isEmpty with
 |true=>
  have z:=QK c;subst z;refine(YY B o v W).mono ?_;rintro e w'⟨rfl,rfl⟩;have q:AS.put ⟨#[]⟩ l a=(2,a):=(by unfold AS.put;rw[oD c])
  exact xk.quiet (r:=2) d t 0 (by rw[q];rfl) (by rw[q])
 |false=>
  cases e:qw a.names k.data.toList with
  |none=>
   refine(LL B o _ k v l W d u c w y (Ab.BK e) (by simpa [qU] using j.files) (by simpa [qU,QH] using j.names) (by simpa [qU] using j.pend)).mono ?_;rintro e w'⟨r,a1,a0,rfl,⟨rfl,b,h,rfl⟩,A,C,D,E,K⟩;refine⟨0,_,a0,rfl,⟨?_,⟨_,Ab.LL m h c e⟩⟩,A,C,D,E,K⟩;unfold AS.put;rw[c,e]
   rfl
  |some i=>obtain⟨f,T,h⟩:=Ab.file (bl:=bl) (m.find e);refine(LB B (bl i) o _ k v l f W d u c w y (Ab.xm e) T h).mono ?_;rintro e w'⟨rfl,R,Q⟩;refine⟨0,_,o,rfl,⟨?_,bl,Ab.LB m d.zB c e⟩,rfl,rfl,R,Q,λk' S=> .inl (J8 (b:=bl i) (g:=λx=>{x with data:=l,synced:=N}) (λ_=>rfl) S)⟩;unfold AS.put;rw[c,e];rfl
def J9(B F p q r:I)(o:Loc)(s:St)(a:AS)(k:χ)(v:V)(l:U Ξ)(W:J)(c:Is W B o s)(f:Ab a s)(h:a.Wf)(g:a.Sm)(m:o.F=F)(A:W.cell? ⟨p,0,H⟩=G (L (G ⟨F,0,H⟩)))(C:W.cell? ⟨q,0,H⟩=G (M k))(D:W.cell? ⟨r,0,H⟩=G v)(u:k.size<=1000000)(w:l.length<=1000000)(b:Rd W v l):
 ο Y 175 #[L (G ⟨p,0,H⟩),L (G ⟨q,0,H⟩),L (G ⟨r,0,H⟩)] W (xk B o s W (AS.put k l) a):=by
 have j:=O (Y3 B F o s a k v l W c f h g m u w b);obtain⟨z,E,K,t⟩:=b.slice;subst t;clear c f h g b
 go_enter Tryz.func175,Tryz.ntmps175
 go_wp2_with fail
 refine j.o.mono ?_;rintro e P⟨r,y,x,rfl,d⟩;have i:=O d;clear d
 go_wp2_with fail
 go_ret;exact⟨r,y,x,rfl,i.o⟩
def xk.from{B:I}{o:Loc}{s:St}{W b w':J}{p:AS->aN×AS}{a:AS}{e:aV}(c:Fr W b (r7 o s))(d:xk B o s b p a e w'):xk B o s W p a e w':=by obtain⟨r,u,t,f,g,h,i,j,l,m⟩:=d;exact⟨r,u,t,f,g,h,i,j,c.trans l (λ_ _ e=>e),λk q=>(m k q).imp id (λe=>pF c.size e)⟩
def Rd.half{w:J}{d:aS Addr}{n c:I}{l:U Ξ}(h:Rd w (δ d n c) l):n=l.length/\n<=c/\Rd w (δ d (n/2) c) (l.take (l.length/2)):=by
 rcases h with⟨b,rfl⟩|⟨g,cap,e,f,b,i,j,k⟩
 ·injection b with e1 e2 e3
  subst e1 e2 e3;exact⟨rfl,oZ _,.inl ⟨rfl,rfl⟩⟩
 ·injection b with e1 e2 e3
  subst e1 e2 e3;refine⟨rfl,j,.inr ⟨g,c,e,f,?_,i,?_,?_⟩⟩
  ·rw[nQ,nM (iG _ _)]
  ·rw[nQ];omega
  ·rw[nQ,nM (iG _ _)]
   have:=nT (List.take (l.length/2)) k;rw[jC,nM (iG _ _)] at this;rw[this];simp[ah,iR]
def U2(B F p q r:I)(o:Loc)(s:St)(a:AS)(k:χ)(v:V)(l:U Ξ)(W:J)(h:Is W B o s)(j:Ab a s)(y:a.Wf)(u:a.Sm)(C:o.F=F)(T:W.cell? ⟨p,0,H⟩=G (L (G ⟨F,0,H⟩)))(a0:W.cell? ⟨q,0,H⟩=G (M k))(a1:W.cell? ⟨r,0,H⟩=G v)(K:k.size<=1000000)(P:l.length<=1000000)(c:Rd W v l):
 ο Y 177 #[L (G ⟨p,0,H⟩),L (G ⟨q,0,H⟩),L (G ⟨r,0,H⟩)] W λe w'=>e=η (.tuple #[])/\∃A,xk B o s W (AS.put k (l.take (l.length/2))) a A w':=by
 obtain⟨f,b,d,E⟩:=c.slice;subst E;obtain⟨Q,D,w⟩:=c.half;have x:Rd W.drew (δ f (b/2) d) (l.take (l.length/2)):=w.kept (λ_ _ _ _=>rfl);have g:=O (Y3 B F o s a k (δ f (b/2) d) (l.take (l.length/2)) W.drew (h.drewN 1) j y u C K (by rw[nQ];omega) x);obtain⟨m,t⟩:=pL (b/2);rw[t] at g
 have a4:IntKind.i64.wrap ((b:aN)/2)=(m:aN):=by rw[IntKind.wrap_i64];omega
 have a2:(0:aN)<=(m:aN):=by omega
 have a3:(m:aN)<=(d:aN):=by omega
 clear h j y u c Q w x t P D
 go_enter Tryz.func177,Tryz.ntmps177
 go_still_tail 7,(by kernel_rfl)
 change bV _ _ _ _ _ W.drew
 go_wp2_with fail
 refine g.o.mono ?_;rintro e a5⟨r,S,R,rfl,i⟩;have z:=O i;clear i
 go_wp2_with fail
 go_end0
 exact⟨rfl,_,xk.from (Fr.drewN W 1 _) ⟨r,S,R,rfl,z.o⟩⟩
def Is.flag{w:J}{B j:I}{o:Loc}{s l:St}{v:V}(c:Is w B o s)(i:l.files=s.files)(y:l.names=s.names)(z:l.tK=s.tK)(A:l.pend=s.pend)(d:(Ah o s).setIfInBounds j v=Ah o l):Is (w.setCell ⟨o.F,j,H⟩ v) B o l:=by
 have C:=oO w o.F j _ _ v c.fs;have K:∀k,k≠o.F->(w.setCell ⟨o.F,j,H⟩ v).heap[k]?=w.heap[k]?:=λk g=>pz _ _ _ _ g
 have q:∀k h t r,w.heap[k]?=G (Ω h t r)->t≠78->(w.setCell ⟨o.F,j,H⟩ v).heap[k]?=w.heap[k]?:=λk h t r g E=>K k (Au g c.fs E)
 have x:∀b m,Ag w b m->(w.setCell ⟨o.F,j,H⟩ v).heap[b]?=w.heap[b]?:=λb m D=>K b (λe=>D.Z4 c.fs e.symm)
 exact
  {fs:=by rw[C];rw[<-d]
   names:=by rw[y];exact c.names.of_block (x _ _ c.names)
   tK:=by rw[z];exact c.tK.of_block (x _ _ c.tK)
   nd:=c.nd
   files:=by rw[i];exact qj c.files λk g=>by obtain⟨h,d⟩:=qH c.files g;exact q _ _ _ _ d (by decide)
   pend:=by rw[A];exact qj c.pend λk g=>by obtain⟨h,d⟩:=qH c.pend g;exact q _ _ _ _ d (by decide)
   each:=λf u=>by
    rw[i] at u;exact(c.each f u).kept (by obtain⟨P,Q,i,_⟩:=c.each f u;exact q _ _ _ _ i (by decide)) (λk h r d=>q _ _ _ _ d (by decide))
   zl:=yI c.zl (λk h r d=>q _ _ _ _ d (by decide))
   zB:=by rw[i];exact c.zB
   bF:=c.bF
   bn:=c.bn
   bd:=c.bd
   bf:=by rw[i];exact c.bf}
def LN{P:Program}(w:J)(t:aQ)(e:Fn)(c b:aO V){ps h:aO aQ}{i:Bool}(g:P.underlying t=G (.func ps h i)):
 (bZ .neq t (.func e c b) .nilFunc).run P w= .ok (.bool av) w:=by
 have f:∀d:I,(bK (d+1) t (.func e c b) .nilFunc).run P w= .ok N w:=λd=>by
  simp[bK,mh g]
 simp only[bZ];simp[Op.equal,cZ,f 9999]
def FC{P:Program}(w:J)(t:aQ){ps e:aO aQ}{f:Bool}(c:P.underlying t=G (.func ps e f)):
 (bZ .neq t .nilFunc .nilFunc).run P w= .ok (.bool N) w:=by
 have b:∀d:I,(bK (d+1) t .nilFunc .nilFunc).run P w= .ok av w:=λd=>by
  simp[bK,mh c]
 simp only[bZ];simp[Op.equal,cZ,b 9999]
def SN{B:I}{o:Loc}{s:St}{a:AS}{W:J}{P:AS->aN×AS}{Q:AS->AS}(p q:V)(c:Is W B o s)(d:Ab a s)(f:a.down=av):
 ο Y 117 #[L (G ⟨o.F,0,H⟩),p,q] W (xk B o s W (AS.op P Q) a):=by
 obtain⟨bl,rfl⟩:=id d;refine(LD B o _ p q W c f).mono ?_;rintro e w'⟨rfl,rfl⟩;have b:AS.op P Q a=(24,a):=by unfold AS.op;rw[oD f]
 exact xk.quiet (r:=24) c d 0 (by rw[b];rfl) (by rw[b])
def xk.weak{B:I}{o:Loc}{s:St}{a:AS}{W w':J}{p p':AS->aN×AS}{e:aV}(c:xk B o s W p a e w')(b:p' a=p a):xk B o s W p' a e w':=by obtain⟨r,j,i,d,⟨f,g⟩,h⟩:=c;exact⟨r,j,i,d,⟨by rw[b];exact f,by rw[b];exact g⟩,h⟩
def Oh(B:I)(o:Loc)(s:St)(z:aN)(x1 x2 x3 q:V)(W:J)(Q:aN->J->Prop)(c:Is W B o s)(m:s.down=N)(l:s.rJ=av)(u:(0:aN)<s.after)(t:IntKind.i64.wrap (s.after-1)=z)
 (f:ο Y 175 #[x1,x2,x3] (W.setCell ⟨o.F,6,H⟩ (θ ι z)) λe w'=>∃r,e=η (θ ι r)/\Q r w'):
 ο Y 117 #[L (G ⟨o.F,0,H⟩),.func (.func 175) #[] #[x1,x2,x3],q] W λe w'=>∃r,e=η (θ ι r)/\Q r w':=by
 obtain⟨-,-,i,j,k,-,b⟩:=q7 c.fs;have v:=b 6;rw[m] at i;rw[l] at j;generalize s.after=x at k u t;clear c b;have g:=O f;clear f
 go_enter aA,ay
 go_wp2_with fail
 refine g.o.mono ?_;rintro e w⟨r,rfl,d⟩;have h:=O d;clear d
 go_wp2_with fail
 go_ret;exact⟨r,rfl,h.o⟩
def QL(B:I)(o:Loc)(s:St)(z:aN)(x1 x2 q:V)(W:J)(Q:aN->J->Prop)(c:Is W B o s)(m:s.down=N)(l:s.rJ=av)(u:(0:aN)<s.after)(t:IntKind.i64.wrap (s.after-1)=z)
 (f:ο Y 178 #[x1,x2] (W.setCell ⟨o.F,6,H⟩ (θ ι z)) λe w'=>∃r,e=η (θ ι r)/\Q r w'):
 ο Y 117 #[L (G ⟨o.F,0,H⟩),.func (.func 178) #[] #[x1,x2],q] W λe w'=>∃r,e=η (θ ι r)/\Q r w':=by
 obtain⟨-,-,i,j,k,-,b⟩:=q7 c.fs;have v:=b 6;rw[m] at i;rw[l] at j;generalize s.after=x at k u t;clear c b;have g:=O f;clear f
 go_enter aA,ay
 go_wp2_with fail
 refine g.o.mono ?_;rintro e w⟨r,rfl,d⟩;have h:=O d;clear d
 go_wp2_with fail
 go_ret;exact⟨r,rfl,h.o⟩
def I8(B:I)(o:Loc)(s:St)(z:aN)(x1 q:V)(W:J)(Q:aN->J->Prop)(c:Is W B o s)(m:s.down=N)(l:s.rJ=av)(u:(0:aN)<s.after)(t:IntKind.i64.wrap (s.after-1)=z)
 (f:ο Y 120 #[x1] (W.setCell ⟨o.F,6,H⟩ (θ ι z)) λe w'=>∃r,e=η (θ ι r)/\Q r w'):
 ο Y 117 #[L (G ⟨o.F,0,H⟩),.func (.func 120) #[] #[x1],q] W λe w'=>∃r,e=η (θ ι r)/\Q r w':=by
 obtain⟨-,-,i,j,k,-,b⟩:=q7 c.fs;have v:=b 6;rw[m] at i;rw[l] at j;generalize s.after=x at k u t;clear c b;have g:=O f;clear f
 go_enter aA,ay
 go_wp2_with fail
 refine g.o.mono ?_;rintro e w⟨r,rfl,d⟩;have h:=O d;clear d
 go_wp2_with fail
 go_ret;exact⟨r,rfl,h.o⟩
def LQ(B:I)(o:Loc)(s:St)(z:aN)(x1 x2 x3 q:V)(W:J)(Q:aN->J->Prop)(c:Is W B o s)(m:s.down=N)(l:s.rJ=av)(u:(0:aN)<s.after)(t:IntKind.i64.wrap (s.after-1)=z)
 (f:ο Y 179 #[x1,x2,x3] (W.setCell ⟨o.F,6,H⟩ (θ ι z)) λe w'=>∃r,e=η (θ ι r)/\Q r w'):
 ο Y 117 #[L (G ⟨o.F,0,H⟩),.func (.func 179) #[] #[x1,x2,x3],q] W λe w'=>∃r,e=η (θ ι r)/\Q r w':=by
 obtain⟨-,-,i,j,k,-,b⟩:=q7 c.fs;have v:=b 6;rw[m] at i;rw[l] at j;generalize s.after=x at k u t;clear c b;have g:=O f;clear f
 go_enter aA,ay
 go_wp2_with fail
 refine g.o.mono ?_;rintro e w⟨r,rfl,d⟩;have h:=O d;clear d
 go_wp2_with fail
 go_ret;exact⟨r,rfl,h.o⟩
def Y4(B:I)(o:Loc)(s:St)(dn:Bool)(p:V)(W:J)(c:Is W B o s)(j:s.down=N)(i:s.rJ=av)(l:decide ((0:aN)<s.after)=N)(k:(s.err==24)=dn):
 ο Y 117 #[L (G ⟨o.F,0,H⟩),p,.nilFunc] W λe w'=>e=η (θ ι s.err)/\w'=(W.setCell ⟨o.F,5,H⟩ (.bool N)).setCell ⟨o.F,4,H⟩ (.bool dn):=by
 obtain⟨-,-,d,f,g,h,b⟩:=q7 c.fs;have q:=b 5;have m:=b 4;rw[j] at d;rw[i] at f;generalize s.after=x at g l;generalize s.err=t at h k|-;clear c b;have r:∀w:J,(bZ .neq 1 .nilFunc .nilFunc).run Y w= .ok (.bool N) w:=λw=>FC w _ bY
 go_enter aA,ay
 go_wp2_with fail
 go_ret;exact⟨rfl,rfl⟩
def QM(B:I)(o:Loc)(s:St)(dn:Bool)(p x1 x2 x3:V)(W:J)(Q:J->Prop)(j:Is W B o s)(t:s.down=N)(r:s.rJ=av)(v:decide ((0:aN)<s.after)=N)(u:(s.err==24)=dn)
 (f:ο Y 177 #[x1,x2,x3] (W.setCell ⟨o.F,5,H⟩ (.bool N)) λe w'=>e=η (.tuple #[])/\Q w'/\w'.cell? ⟨o.F,7,H⟩=G (θ ι s.err)/\w'.cell? ⟨o.F,4,H⟩=G (.bool N)/\w'.frozen? ⟨o.F,4,H⟩=N):
 ο Y 117 #[L (G ⟨o.F,0,H⟩),p,.func (.func 177) #[] #[x1,x2,x3]] W λe w'=>e=η (θ ι s.err)/\∃b,Q b/\w'=b.setCell ⟨o.F,4,H⟩ (.bool dn):=by
 obtain⟨-,-,c,g,h,d,i⟩:=q7 j.fs;have q:=i 5;rw[t] at c;rw[r] at g;generalize s.after=x at h v;generalize s.err=A at d u f|-;have l:=O f;clear j i f;have z:∀w:J,(bZ .neq 1 (.func (.func 177) #[] #[x1,x2,x3]) .nilFunc).run Y w= .ok (.bool av) w:=λw=>LN w _ _ _ _ bY
 go_enter aA,ay
 go_wp2_with fail
 refine l.o.mono ?_;clear c g h d q;rintro e b⟨rfl,k,d,c,y⟩;have m:=O k;clear k
 go_wp2_with fail
 go_ret;exact⟨rfl,b,m.o,rfl⟩
def xk.split{B:I}{o:Loc}{s:St}{W:J}{p:AS->aN×AS}{a:AS}{e:aV}{w':J}(b:xk B o s W p a e w'):∃r,e=η (θ ι r)/\xk B o s W p a (η (θ ι r)) w':=by obtain⟨r,d,c,rfl,b⟩:=b;exact⟨r,rfl,r,d,c,rfl,b⟩
def AS.Af(a:AS):Prop:=0<=a.after/\a.after<=9223372036854775807
def J_{x:aN}(b:0<x)(c:x<=9223372036854775807):IntKind.i64.wrap (x-1)=x-1:=by rw[IntKind.wrap_i64];omega
def U3{B:I}{o:Loc}{s:St}{a:AS}{W:J}{P:AS->aN×AS}(c:Is W B o s)(g:Ab a s)(h:a.down=N)(j:a.rJ=av)(l:¬0<a.after):
 xk B o s W (AS.op P id) a (η (θ ι s.err)) ((W.setCell ⟨o.F,5,H⟩ (.bool N)).setCell ⟨o.F,4,H⟩ (.bool (a.err==24))):=by
 obtain⟨bl,rfl⟩:=id g;have d:Is (W.setCell ⟨o.F,5,H⟩ (.bool N)) B o {qU bl a with rJ:=N}:=c.flag rfl rfl rfl rfl rfl;have f:Is ((W.setCell ⟨o.F,5,H⟩ (.bool N)).setCell ⟨o.F,4,H⟩ (.bool (a.err==24))) B o {qU bl a with rJ:=N,down:=a.err==24}:=d.flag rfl rfl rfl rfl rfl
 have b:AS.op P id a=(a.err,{a with rJ:=N,down:=a.err==24}):=by unfold AS.op;simp only[h,j,l,nH,jz,lQ,id]
 refine⟨_,_,o,rfl,⟨by rw[b];rfl,bl,by rw[b];rfl⟩,rfl,rfl,f,(Fr.set _ _ _ _ (.inl rfl)).trans (Fr.set _ _ _ (r7 o (qU bl a)) (.inl rfl)) (λ_ _ e=>e),λk i=> .inl i⟩
def QN{B:I}{o:Loc}{s:St}{a:AS}{W:J}{P:AS->aN×AS}{p:V}(C:J->(aV->J->Prop)->Prop)(f:Is W B o s)(j:Ab a s)(m:a.Wf)(l:a.Sm)(a0:a.Af)
 (a3:∀Q:aN->J->Prop,s.down=N->s.rJ=N->C W (λe w'=>∃r,e=η (θ ι r)/\Q r w')->ο Y 117 #[L (G ⟨o.F,0,H⟩),p,.nilFunc] W λe w'=>∃r,e=η (θ ι r)/\Q r w')
 (after:∀(z:aN)(Q:aN->J->Prop),s.down=N->s.rJ=av->(0:aN)<s.after->IntKind.i64.wrap (s.after-1)=z->C (W.setCell ⟨o.F,6,H⟩ (θ ι z)) (λe w'=>∃r,e=η (θ ι r)/\Q r w')->ο Y 117 #[L (G ⟨o.F,0,H⟩),p,.nilFunc] W λe w'=>∃r,e=η (θ ι r)/\Q r w')
 (u:∀(w:J)(Q Q':aV->J->Prop),C w Q->(∀e w',Q e w'->Q' e w')->C w Q')
 (t:∀(i:J)(h:St)(a':AS),Is i B o h->Ab a' h->a'.Wf->a'.Sm->(∀k,k≠o.F->i.heap[k]?=W.heap[k]?)->C i (xk B o h i P a')):
 ο Y 117 #[L (G ⟨o.F,0,H⟩),p,.nilFunc] W (xk B o s W (AS.op P id) a):=by
 obtain⟨bl,rfl⟩:=id j
 cases c:a.down with
 |true=>exact SN p .nilFunc f j c
 |false=>
  cases d:a.rJ with
  |false=>
   refine(a3 (λr w'=>xk B o (qU bl a) W P a (η (θ ι r)) w') c d (u _ _ _ (t W _ a f j m l λ_ _=>rfl) λe w' b=>b.split)).mono ?_;rintro e w'⟨r,rfl,b⟩
   exact b.weak (by unfold AS.op;simp only[c,d,nH,lQ,jJ])
  |true=>
   by_cases g:0<a.after
   ·have S:Is (W.setCell ⟨o.F,6,H⟩ (θ ι (a.after-1))) B o {qU bl a with after:=a.after-1}:=f.flag rfl rfl rfl rfl rfl
    have T:Ab {a with after:=a.after-1} {qU bl a with after:=a.after-1}:=⟨bl,rfl⟩;refine(after (a.after-1) (λr w'=>xk B o {qU bl a with after:=a.after-1} (W.setCell ⟨o.F,6,H⟩ (θ ι (a.after-1))) P {a with after:=a.after-1} (η (θ ι r)) w') c d g (J_ g a0.2) (u _ _ _ (t _ _ _ S T ⟨m.names,m.tK,m.pend⟩ ⟨l.files,l.names,l.pend⟩ λk a1=>pz _ _ _ _ a1) λe w' b=>b.split)).mono ?_;rintro e w'⟨r,rfl,b⟩
    have q:AS.op P id a=P {a with after:=a.after-1}:=by unfold AS.op;simp only[c,d,g,nH,jz,lQ,jJ]
    obtain⟨a4,h,a2,v,⟨x,y⟩,A,D,E,K,R⟩:=xk.from (s:={qU bl a with after:=a.after-1}) (Fr.set W ⟨o.F,6,H⟩ (θ ι (a.after-1)) (r7 o {qU bl a with after:=a.after-1}) (.inl rfl)) b;exact⟨a4,h,a2,v,⟨by rw[q];exact x,by rw[q];exact y⟩,A,D,E,K,R⟩
   ·refine(Y4 B o _ (a.err==24) p W f c d (o9 g) rfl).mono ?_
    rintro e w'⟨rfl,rfl⟩;exact U3 f j c d g
def sX{W b:J}{F p:I}{v:V}(e:p≠F)(d:∀k,k≠F->b.heap[k]?=W.heap[k]?)(c:W.cell? ⟨p,0,H⟩=G v):b.cell? ⟨p,0,H⟩=G v:=by unfold Θ at c|-;rw[d p e];exact c
def uW{w:J}{p:I}{v:V}(b:w.cell? ⟨p,0,H⟩=G v)(x:Obj):(w.alloc x).cell? ⟨p,0,H⟩=G v:=by have c:=lt_of_cell b;unfold Θ at b|-;rw[rU _ _ _ c];exact b
def op_sync{B p q:I}{o:Loc}{s:St}{a:AS}{W:J}{k:χ}(c:Is W B o s)(m:Ab a s)(x:a.Wf)(v:a.Sm)(r:a.Af)(b:W.cell? ⟨p,0,H⟩=G (L (G ⟨o.F,0,H⟩)))(f:W.cell? ⟨q,0,H⟩=G (M k))(D:p≠o.F)(nq:q≠o.F)(t:k.size<=1000000):
 ο Y 117 #[L (G ⟨o.F,0,H⟩),.func (.func 178) #[] #[L (G ⟨p,0,H⟩),L (G ⟨q,0,H⟩)],.nilFunc] W (xk B o s W (AS.op (AS.sync k) id) a):=
 QN (λw Q=>ο Y 178 #[L (G ⟨p,0,H⟩),L (G ⟨q,0,H⟩)] w Q) c m x v r
  (λQ d g b=>QE B o s _ _ .nilFunc W Q c d g b)
  (λz Q d g C A b=>QL B o s z _ _ .nilFunc W Q c d g C A b)
  (λw Q Q' f u=>f.mono λe w'=>u e w')
  (λi E a' l j y K h=>Y2 B o.F p q o E a' k i l j y rfl (sX D h b) (sX nq h f) t)
def sync_is(B:I)(o:Loc)(s:St)(a:AS)(k:χ)(W:J)(h:Is W B o s)(v:Ab a s)(A:a.Wf)(z:a.Sm)(w:a.Af)(x:k.size<=1000000):
 ο Y 114 #[L (G ⟨o.F,0,H⟩),M k] W (xk B o s W (AS.op (AS.sync k) id) a):=by
 obtain⟨F,c⟩:=pL o.F;have y:=lt_of_heap h.fs;rw[c] at y|-;have d:aE W.heap.size W (W.alloc (X #[L (G ⟨F,0,H⟩)] 26)):=pM W (X #[L (G ⟨F,0,H⟩)] 26);have j:W.heap.size=W.heap.size:=rfl;have i:(W.alloc (X #[L (G ⟨F,0,H⟩)] 26)).cell? ⟨W.heap.size,0,H⟩=G (L (G ⟨F,0,H⟩)):=by unfold Θ;simp only[pG];rfl
 have f:aE W.heap.size W ((W.alloc (X #[L (G ⟨F,0,H⟩)] 26)).alloc (X #[M k] 9)):=d.alloc (d.size) (X #[M k] 9);have l:(W.alloc (X #[L (G ⟨F,0,H⟩)] 26)).heap.size=W.heap.size+1:=by rw[qB,j]
 have c1:((W.alloc (X #[L (G ⟨F,0,H⟩)] 26)).alloc (X #[M k] 9)).cell? ⟨W.heap.size+1,0,H⟩=G (M k):=by rw[<-l];unfold Θ;simp only[pG];rfl
 have u:=uW i (X #[M k] 9);have g:=op_sync (o:=o) (h.below f) v A z w (by rw[c];exact u) c1 (by omega) (by omega) x;rw[c] at g;have t:=O g;have q:=O (Fr.qd f (r7 o s));clear h g d f j l i c
 go_enter Tryz.func114,Tryz.ntmps114
 go_wp2_with fail
 refine t.o.mono ?_;rintro e C b;obtain⟨r,rfl,b⟩:=b.split;have m:=O b;clear b
 go_wp2_with fail
 go_ret;exact m.o.from q.o
def U4{B p q r:I}{o:Loc}{s:St}{a:AS}{W:J}{k t:χ}(d:Is W B o s)(m:Ab a s)(D:a.Wf)(y:a.Sm)(u:a.Af)(b:W.cell? ⟨p,0,H⟩=G (L (G ⟨o.F,0,H⟩)))(h:W.cell? ⟨q,0,H⟩=G (M k))(c:W.cell? ⟨r,0,H⟩=G (M t))(R:p≠o.F)(nq:q≠o.F)(S:r≠o.F)(v:k.size<=1000000)(C:t.size<=1000000):
 ο Y 117 #[L (G ⟨o.F,0,H⟩),.func (.func 179) #[] #[L (G ⟨p,0,H⟩),L (G ⟨q,0,H⟩),L (G ⟨r,0,H⟩)],.nilFunc] W (xk B o s W (AS.op (AS.rename k t) id) a):=
 QN (λw Q=>ο Y 179 #[L (G ⟨p,0,H⟩),L (G ⟨q,0,H⟩),L (G ⟨r,0,H⟩)] w Q) d m D y u
  (λQ g c b=>LG B o s _ _ _ .nilFunc W Q d g c b)
  (λz Q g c P K b=>LQ B o s z _ _ _ .nilFunc W Q d g c P K b)
  (λw Q Q' h x=>h.mono λe w'=>x e w')
  (λi T a' l j E A f=>QJ B o.F p q r o T a' k t i l j E A rfl (sX R f b) (sX nq f h) (sX S f c) v C)
def U5(B:I)(o:Loc)(s:St)(a:AS)(k t:χ)(W:J)(i:Is W B o s)(A:Ab a s)(Q:a.Wf)(K:a.Sm)(C:a.Af)(D:k.size<=1000000)(P:t.size<=1000000):
 ο Y 116 #[L (G ⟨o.F,0,H⟩),M k,M t] W (xk B o s W (AS.op (AS.rename k t) id) a):=by
 obtain⟨F,c⟩:=pL o.F;have E:=lt_of_heap i.fs;rw[c] at E|-;have d:aE W.heap.size W (W.alloc (X #[L (G ⟨F,0,H⟩)] 26)):=pM W (X #[L (G ⟨F,0,H⟩)] 26);have q:W.heap.size=W.heap.size:=rfl;have l:(W.alloc (X #[L (G ⟨F,0,H⟩)] 26)).cell? ⟨W.heap.size,0,H⟩=G (L (G ⟨F,0,H⟩)):=by unfold Θ;simp only[pG];rfl
 have f:aE W.heap.size W ((W.alloc (X #[L (G ⟨F,0,H⟩)] 26)).alloc (X #[M k] 9)):=d.alloc (d.size) (X #[M k] 9);have j:(W.alloc (X #[L (G ⟨F,0,H⟩)] 26)).heap.size=W.heap.size+1:=by rw[qB,q]
 have c1:((W.alloc (X #[L (G ⟨F,0,H⟩)] 26)).alloc (X #[M k] 9)).cell? ⟨W.heap.size+1,0,H⟩=G (M k):=by rw[<-j];unfold Θ;simp only[pG];rfl
 have g:aE W.heap.size W (((W.alloc (X #[L (G ⟨F,0,H⟩)] 26)).alloc (X #[M k] 9)).alloc (X #[M t] 9)):=f.alloc (f.size) (X #[M t] 9);have u:((W.alloc (X #[L (G ⟨F,0,H⟩)] 26)).alloc (X #[M k] 9)).heap.size=W.heap.size+2:=by rw[qB,j]
 have c2:(((W.alloc (X #[L (G ⟨F,0,H⟩)] 26)).alloc (X #[M k] 9)).alloc (X #[M t] 9)).cell? ⟨W.heap.size+2,0,H⟩=G (M t):=by rw[<-u];unfold Θ;simp only[pG];rfl
 have m:=uW l (X #[M k] 9);have y:=uW m (X #[M t] 9);have z:=uW c1 (X #[M t] 9);have h:=U4 (o:=o) (i.below g) A Q K C (by rw[c];exact y) z c2 (by omega) (by omega) (by omega) D P;rw[c] at h;have x:=O h;have w:=O (Fr.qd g (r7 o s));clear i h d f g q j u l m c1 c
 go_enter Tryz.func116,Tryz.ntmps116
 go_wp2_with fail
 refine x.o.mono ?_;rintro e R b;obtain⟨r,rfl,b⟩:=b.split;have v:=O b;clear b
 go_wp2_with fail
 go_ret;exact v.o.from w.o
def QO{B p:I}{o:Loc}{s:St}{a:AS}{W:J}(c:Is W B o s)(k:Ab a s)(t:a.Wf)(r:a.Sm)(l:a.Af)(b:W.cell? ⟨p,0,H⟩=G (L (G ⟨o.F,0,H⟩)))(x:p≠o.F):
 ο Y 117 #[L (G ⟨o.F,0,H⟩),.func (.func 120) #[] #[L (G ⟨p,0,H⟩)],.nilFunc] W (xk B o s W (AS.op AS.sG id) a):=
 QN (λw Q=>ο Y 120 #[L (G ⟨p,0,H⟩)] w Q) c k t r l
  (λQ d f b=>I5 B o s _ .nilFunc W Q c d f b)
  (λz Q d f v u b=>I8 B o s z _ .nilFunc W Q c d f v u b)
  (λw Q Q' q m=>q.mono λe w'=>m e w')
  (λg y a' i h C A j=>Og B o.F p o y a' g i h rfl (sX x j b))
def QS(B:I)(o:Loc)(s:St)(a:AS)(W:J)(g:Is W B o s)(l:Ab a s)(u:a.Wf)(t:a.Sm)(m:a.Af):
 ο Y 62 #[L (G ⟨o.F,0,H⟩)] W (xk B o s W (AS.op AS.sG id) a):=by
 obtain⟨F,c⟩:=pL o.F;have q:=lt_of_heap g.fs;rw[c] at q|-;have d:aE W.heap.size W (W.alloc (X #[L (G ⟨F,0,H⟩)] 26)):=pM W (X #[L (G ⟨F,0,H⟩)] 26);have v:W.heap.size=W.heap.size:=rfl;have k:(W.alloc (X #[L (G ⟨F,0,H⟩)] 26)).cell? ⟨W.heap.size,0,H⟩=G (L (G ⟨F,0,H⟩)):=by unfold Θ;simp only[pG];rfl
 have f:=QO (o:=o) (g.below d) l u t m (by rw[c];exact k) (by omega);rw[c] at f;have j:=O f;have i:=O (Fr.qd d (r7 o s));clear g f d v c
 go_enter Tryz.func62,Tryz.ntmps62
 go_wp2_with fail
 refine j.o.mono ?_;rintro e w b;obtain⟨r,rfl,b⟩:=b.split;have h:=O b;clear b
 go_wp2_with fail
 go_ret;exact h.o.from i.o
def AS.U6(k:χ)(l:U Ξ)(a:AS):(AS.put k l a).2.err=a.err/\(AS.put k l a).2.down=a.down/\(AS.put k l a).2.rJ=a.rJ/\(AS.put k l a).2.after=a.after:=by
 unfold AS.put
 split
 ·exact⟨rfl,rfl,rfl,rfl⟩
 ·split<;>exact⟨rfl,rfl,rfl,rfl⟩
def AS.I4(k:χ)(l:U Ξ)(a:AS):AS:=(AS.put k (l.take (l.length/2)) a).2
def Y5{B p q r:I}{o:Loc}{s:St}{a:AS}{W:J}{k:χ}{v:V}{l:U Ξ}(d:Is W B o s)(a0:Ab a s)(m:a.Wf)(i:a.Sm)(am:a.Af)(a3:W.cell? ⟨p,0,H⟩=G (L (G ⟨o.F,0,H⟩)))(a4:W.cell? ⟨q,0,H⟩=G (M k))(a5:W.cell? ⟨r,0,H⟩=G v)(af:p≠o.F)(nq:q≠o.F)(ag:r≠o.F)(c:k.size<=1000000)(a2:l.length<=1000000)(ae:Rd W v l):
 ο Y 117 #[L (G ⟨o.F,0,H⟩),.func (.func 175) #[] #[L (G ⟨p,0,H⟩),L (G ⟨q,0,H⟩),L (G ⟨r,0,H⟩)],.func (.func 177) #[] #[L (G ⟨p,0,H⟩),L (G ⟨q,0,H⟩),L (G ⟨r,0,H⟩)]] W (xk B o s W (AS.op (AS.put k l) (AS.I4 k l)) a):=by
 obtain⟨bl,rfl⟩:=id a0;have a8:∀(j:I)(x:V),Rd (W.setCell ⟨o.F,j,H⟩ x) v l:=λj x=>ae.kept λg an ao al=>pz _ _ _ _ (Au al d.fs (by decide))
 cases f:a.down with
 |true=>exact SN _ _ d a0 f
 |false=>
  cases u:a.rJ with
  |false=>
   refine(Oe B o _ _ _ _ _ W (λr w'=>xk B o (qU bl a) W (AS.put k l) a (η (θ ι r)) w') d f u ((J9 B o.F p q r o _ a k v l W d a0 m i rfl a3 a4 a5 c a2 ae).mono λe w' b=>b.split)).mono ?_;rintro e w'⟨r,rfl,b⟩
   exact b.weak (by unfold AS.op;simp only[f,u,nH,lQ,jJ])
  |true=>
   by_cases C:0<a.after
   ·have T:Is (W.setCell ⟨o.F,6,H⟩ (θ ι (a.after-1))) B o {qU bl a with after:=a.after-1}:=d.flag rfl rfl rfl rfl rfl
    have a1:Ab {a with after:=a.after-1} {qU bl a with after:=a.after-1}:=⟨bl,rfl⟩;have h:∀k,k≠o.F->(W.setCell ⟨o.F,6,H⟩ (θ ι (a.after-1))).heap[k]?=W.heap[k]?:=λk c=>pz _ _ _ _ c
    refine(Oh B o _ (a.after-1) _ _ _ _ W (λr w'=>xk B o {qU bl a with after:=a.after-1} (W.setCell ⟨o.F,6,H⟩ (θ ι (a.after-1))) (AS.put k l) {a with after:=a.after-1} (η (θ ι r)) w') d f u C (J_ C am.2)
     ((J9 B o.F p q r o _ _ k v l _ T a1 ⟨m.names,m.tK,m.pend⟩ ⟨i.files,i.names,i.pend⟩ rfl (sX af h a3) (sX nq h a4) (sX ag h a5) c a2 (a8 6 _)).mono λe w' b=>b.split)).mono ?_
    rintro e w'⟨r,rfl,b⟩
    have y:AS.op (AS.put k l) (AS.I4 k l) a=AS.put k l {a with after:=a.after-1}:=by unfold AS.op;simp only[f,u,C,nH,jz,lQ,jJ]
    obtain⟨a6,a7,w,R,⟨S,z⟩,t,E,A,K,P⟩:=xk.from (s:={qU bl a with after:=a.after-1}) (Fr.set W ⟨o.F,6,H⟩ (θ ι (a.after-1)) (r7 o {qU bl a with after:=a.after-1}) (.inl rfl)) b;exact⟨a6,a7,w,R,⟨by rw[y];exact S,by rw[y];exact z⟩,t,E,A,K,P⟩
   ·have T:Is (W.setCell ⟨o.F,5,H⟩ (.bool N)) B o {qU bl a with rJ:=N}:=d.flag rfl rfl rfl rfl rfl
    have a1:Ab {a with rJ:=N} {qU bl a with rJ:=N}:=⟨bl,rfl⟩;have h:∀k,k≠o.F->(W.setCell ⟨o.F,5,H⟩ (.bool N)).heap[k]?=W.heap[k]?:=λk c=>pz _ _ _ _ c
    have ad:=AS.U6 k (l.take (l.length/2)) {a with rJ:=N}
    refine(QM B o _ (a.err==24) _ _ _ _ W (λw'=>∃D,xk B o {qU bl a with rJ:=N} (W.setCell ⟨o.F,5,H⟩ (.bool N)) (AS.put k (l.take (l.length/2))) {a with rJ:=N} D w') d f u (o9 C) rfl
     ((U2 B o.F p q r o _ _ k v l _ T a1 ⟨m.names,m.tK,m.pend⟩ ⟨i.files,i.names,i.pend⟩ rfl (sX af h a3) (sX nq h a4) (sX ag h a5) c a2 (a8 5 _)).mono ?_)).mono ?_
    ·rintro e w' ⟨rfl,D,b⟩
     refine⟨rfl,⟨D,b⟩,?_⟩;obtain⟨a6,a7,w,R,⟨S,Q,z⟩,t,E,A,K,P⟩:=b;obtain⟨-,-,a9,-,-,aa,ab⟩:=q7 A.fs;rw[t] at a9 aa ab;subst z;refine⟨?_,?_,ab 4⟩
     ·rw[aa];exact nT (λx=>G (aT .i64 x)) ad.1
     ·rw[a9];exact nT (λx=>G (aX x)) (ad.2.1.trans f)
    ·rintro e w' ⟨rfl,ai,⟨D,a6,a7,w,R,⟨S,Q,z⟩,t,E,A,K,P⟩,rfl⟩
     subst z;have ac:Is (ai.setCell ⟨w.F,4,H⟩ (.bool (a.err==24))) B w {qU Q (AS.put k (l.take (l.length/2)) {a with rJ:=N}).2 with down:=a.err==24}:=A.flag rfl rfl rfl rfl rfl;rw[t] at ac
     have y:AS.op (AS.put k l) (AS.I4 k l) a=(a.err,{AS.I4 k l {a with rJ:=N} with down:=a.err==24}):=by unfold AS.op;simp only[f,u,C,nH,jz,lQ]
     have ak:=((Fr.set W ⟨o.F,5,H⟩ (.bool N) (r7 o (qU bl a)) (.inl rfl)).trans K (λ_ _ e=>e)).trans (Fr.set ai ⟨o.F,4,H⟩ (.bool (a.err==24)) (r7 o (qU bl a)) (.inl rfl)) (λ_ _ e=>e);refine⟨_,_,w,rfl,⟨by rw[y];rfl,Q,by rw[y];rfl⟩,t,E,ac,ak,λk c=>?_⟩;rcases P k c with e|e
     ·exact .inl e
     ·exact .inr (by simpa using e)
def Y6(B:I)(o:Loc)(s:St)(a:AS)(k:χ)(v:V)(l:U Ξ)(W:J)(t:Is W B o s)(Q:Ab a s)(a4:a.Wf)(a3:a.Sm)(T:a.Af)(a0:k.size<=1000000)(a1:l.length<=1000000)(u:Rd W v l):
 ο Y 112 #[L (G ⟨o.F,0,H⟩),M k,v] W (xk B o s W (AS.op (AS.put k l) (AS.I4 k l)) a):=by
 obtain⟨F,i⟩:=pL o.F;have a2:=lt_of_heap t.fs;rw[i] at a2|-;obtain⟨b,c,d,S⟩:=u.slice;subst S;have j:aE W.heap.size W (W.alloc (X #[L (G ⟨F,0,H⟩)] 26)):=pM W (X #[L (G ⟨F,0,H⟩)] 26);have x:(W.alloc (X #[L (G ⟨F,0,H⟩)] 26)).cell? ⟨W.heap.size,0,H⟩=G (L (G ⟨F,0,H⟩)):=by unfold Θ;simp only[pG];rfl
 have m:aE W.heap.size W ((W.alloc (X #[L (G ⟨F,0,H⟩)] 26)).alloc (X #[M k] 9)):=j.alloc j.size (X #[M k] 9);have w:(W.alloc (X #[L (G ⟨F,0,H⟩)] 26)).heap.size=W.heap.size+1:=by rw[qB]
 have c1:((W.alloc (X #[L (G ⟨F,0,H⟩)] 26)).alloc (X #[M k] 9)).cell? ⟨W.heap.size+1,0,H⟩=G (M k):=by rw[<-w];unfold Θ;simp only[pG];rfl
 have y:=uW x (X #[M k] 9);have f:aE W.heap.size W (((W.alloc (X #[L (G ⟨F,0,H⟩)] 26)).alloc (X #[M k] 9)).alloc (X #[δ b c d] 68)):=m.alloc m.size (X #[δ b c d] 68);have D:((W.alloc (X #[L (G ⟨F,0,H⟩)] 26)).alloc (X #[M k] 9)).heap.size=W.heap.size+2:=by rw[qB,w]
 have c2:(((W.alloc (X #[L (G ⟨F,0,H⟩)] 26)).alloc (X #[M k] 9)).alloc (X #[δ b c d] 68)).cell? ⟨W.heap.size+2,0,H⟩=G (δ b c d):=by rw[<-D];unfold Θ;simp only[pG];rfl
 have A:=uW c1 (X #[δ b c d] 68);have z:=uW y (X #[δ b c d] 68);have C:=u.kept (λg a5 a6 R=>f.block g (lt_of_heap R));have q:=Y5 (o:=o) (t.below f) Q a4 a3 T (by rw[i];exact z) A c2 (by omega) (by omega) (by omega) a0 a1 C;rw[i] at q;have P:=O q;have K:=O (Fr.qd f (r7 o s));clear t q j m f w D x c1 c2 y z A i u C
 go_enter Tryz.func112,Tryz.ntmps112
 go_wp2_with fail
 refine P.o.mono ?_;rintro e a7 h;obtain⟨r,rfl,h⟩:=h.split;have E:=O h;clear h
 go_wp2_with fail
 go_ret;exact E.o.from K.o
def AS.new:AS:=⟨[],[],[],[],N,N,0,0⟩
def new_is(W:J):
 ο Y 15 #[] W λe w'=>∃o s,e=η (L (G ⟨o.F,0,H⟩))/\Is w' W.heap.size o s/\Ab AS.new s/\(o.Z=λ_=>False)/\aE W.heap.size W w'/\∀k,r7 o s k->W.heap.size<=k:=by
 have d:=pM W (.map #[] 0);have g:=d.alloc d.size (.map #[] 0);have i:(W.alloc (.map #[] 0)).heap.size=W.heap.size+1:=qB _ _;have q:((W.alloc (.map #[] 0)).alloc (.map #[] 0)).heap.size=W.heap.size+2:=by rw[qB,i]
 have j:=g.alloc g.size (X #[.map (G W.heap.size),.map (G (W.heap.size+1)),δ H 0 0,δ H 0 0,.bool N,.bool N,θ ι 0,θ ι 0] 78);have h:=sK ((W.alloc (.map #[] 0)).alloc (.map #[] 0)) (X #[.map (G W.heap.size),.map (G (W.heap.size+1)),δ H 0 0,δ H 0 0,.bool N,.bool N,θ ι 0,θ ι 0] 78);rw[q] at h;have m:Ag (W.alloc (.map #[] 0)) W.heap.size []:=⟨0,bS W Y 9 Rp⟩
 have l:Ag ((W.alloc (.map #[] 0)).alloc (.map #[] 0)) (W.heap.size+1) []:=by have:=bS (W.alloc (.map #[] 0)) Y 9 Rp;rw[i] at this;exact⟨0,this⟩
 have t:Hid (Is (((W.alloc (.map #[] 0)).alloc (.map #[] 0)).alloc (X #[.map (G W.heap.size),.map (G (W.heap.size+1)),δ H 0 0,δ H 0 0,.bool N,.bool N,θ ι 0,θ ι 0] 78)) W.heap.size ⟨W.heap.size+2,W.heap.size,W.heap.size+1,δ H 0 0,δ H 0 0,λ_=>False⟩ (qU id AS.new)):=
  {fs:=h
   names:=(m.of_block (rU _ _ _ (by omega))).of_block (rU _ _ _ (by omega))
   tK:=l.of_block (rU _ _ _ (by omega))
   nd:=by show W.heap.size≠W.heap.size+1;omega
   files:=⟨rfl,.inl ⟨rfl,rfl⟩⟩
   pend:=⟨rfl,.inl ⟨rfl,rfl⟩⟩
   each:=λf b=>by cases b
   zl:=λk c=>c.elim
   zB:=List.nodup_nil
   bF:=by show W.heap.size<=W.heap.size+2;omega
   bn:=oZ _
   bd:=by show W.heap.size<=W.heap.size+1;omega
   bf:=λf b=>by cases b}
 have r:=O j;clear d g j i q h m l;have u:∀w:J,(Instr.makeMap 72 H).run Y w= .ok (.map (G w.heap.size)) (w.alloc (.map #[] 0)):=λw=>rfl
 go_enter Tryz.func15,Tryz.ntmps15
 go_wp2_with fail
 go_ret;refine⟨⟨W.heap.size+2,W.heap.size,W.heap.size+1,δ H 0 0,δ H 0 0,λ_=>False⟩,_,rfl,t.o,⟨id,rfl⟩,rfl,r.o,?_⟩;rintro k (rfl|rfl|rfl|c|c|⟨f,b,rfl⟩)
 ·show W.heap.size<=W.heap.size+2;omega
 ·exact oZ _
 ·show W.heap.size<=W.heap.size+1;omega
 ·simp[aj] at c
 ·simp[aj] at c
 ·cases b
def down_is(B:I)(o:Loc)(s:St)(W:J)(b:Is W B o s):
 ο Y 27 #[L (G ⟨o.F,0,H⟩)] W λe w'=>e=η (.bool s.down)/\w'=W:=by
 obtain⟨-,-,c,-⟩:=q7 b.fs;generalize s.down=x at c|-;clear b;cases x
 all_goals
  go_enter Tryz.func27,Tryz.ntmps27
  go_wp2_with fail
  go_ret;exact⟨rfl,rfl⟩
def AS.read(k:χ)(a:AS):U Ξ×aN:=
 if a.down=av then([],24) else match qw a.names k.data.toList with|H=>([],23)|G i=>((a.files.getD i ⟨[],[],av⟩).data,0)
def AS.Dl(a:AS):Prop:=∀f∈a.files,f.data.length<=1000000
def Ab.fileD{bl:I->I}{a:AS}{i:I}(b:i<a.files.length):∃f∈(qU bl a).files,f.blk=bl i/\f.data=(a.files.getD i ⟨[],[],av⟩).data:=by
 refine⟨(a.files.mapIdx (cf bl))[i]'(by simpa using b),pq _,?_,?_⟩
 ·simp[cf]
 ·simp[cf,om,oW b]
def read_is(B:I)(o:Loc)(s:St)(a:AS)(k:χ)(W:J)(b:Is W B o s)(t:Ab a s)(l:a.Wf)(x:a.Dl)(j:k.size<=1000000):
 ο Y 31 #[L (G ⟨o.F,0,H⟩),M k] W λe w'=>∃v,e=η (.tuple #[v,θ ι (a.read k).2])/\Rd w' v (a.read k).1/\(∀g,v.ownBlock=G g->W.heap.size<=g)/\aE W.heap.size W w':=by
 obtain⟨bl,rfl⟩:=id t;unfold AS.read
 cases c:a.down with
 |true=>
  refine(UX B o _ k W b c).mono ?_;rintro e w'⟨rfl,rfl⟩
  exact⟨_,rfl,.inl ⟨rfl,rfl⟩,λg d=>by simp[aj] at d,pH _ _⟩
 |false=>
  rw[oU (by decide)]
  cases e:qw a.names k.data.toList with
  |none=>
   refine(UY B o _ k W b c j (Ab.BK e)).mono ?_;rintro e w'⟨rfl,rfl⟩
   exact⟨_,rfl,.inl ⟨rfl,rfl⟩,λg d=>by simp[aj] at d,pH _ _⟩
  |some i=>
   obtain⟨f,z,u,h⟩:=Ab.fileD (bl:=bl) (l.find e);have w:=l.find e
   have y:f.data.length<=1000000:=by rw[h,om,oW w];exact x _ (pq _)
   refine(UZ B (bl i) o _ k f W b c j (Ab.xm e) z u y).mono ?_;rintro e w'⟨v,rfl,m,q,r⟩;exact⟨v,rfl,(show Rd w' v (a.files.getD i ⟨[],[],av⟩).data by rw[<-h];exact m),q,r⟩
def DN:∀(a b:U Ξ),aK a b=av->a<b
 |[],[],c=>by cases c
 |[],_::_,_=>List.nil_lt_cons _ _
 |_::_,[],c=>by cases c
 |a::r,b::s,c=>by
  simp only[aK,lg,nP,oz,kG] at c;rw[List.cons_lt_cons_iff];rcases c with c|⟨d,e⟩
  ·exact .inl c
  ·exact .inr ⟨d,DN r s e⟩
def So(m:Nm):Prop:=m.Pairwise λp q=>aK p.1 q.1=av
def QT(m:Nm)(h:So m)(g:U (U Ξ))(f:g.Perm (cr (Dm m))):g.mergeSort (λx l=>decide (x<=l))=m.map (·.1):=by
 have i:cr (Dm m)=m.map (·.1):=by unfold Dm cr;simp only[mL];rfl
 rw[i] at f;refine(Go.mergeSort_of_perm f).trans ?_;have tr:∀a b c:U Ξ,leB a b=av->leB b c=av->leB a c=av:=λa b c d e=>by simp only[leB,nP] at*;exact List.le_trans d e
 have tot:∀a b:U Ξ,(leB a b||leB b a)=av:=λa b=>by simp only[leB,lg,nP];exact List.le_total a b
 have k:(m.map (·.1)).Pairwise λa b=>leB a b=av:=by
  rw[jO];refine h.imp λ{p q} j=>?_
  simp only[leB,nP];exact List.le_of_lt (DN _ _ j)
 refine gZ (le:=λa b=>leB a b=av) (λa b _ _ d e=>?_) (List.pairwise_mergeSort tr tot _) k (List.mergeSort_perm _ _);simp only[leB,nP] at d e;exact List.le_antisymm d e
def rK{w:J}{b c n size:I}{e:aQ}{v:V}{f:U V}(d:w.ownsRow c e size v n f)(l:b<=c):w.ownsRow b e size v n f:=by
 refine⟨d.1,?_⟩;rcases d.2 with j|⟨g,cap,h,i,k,r⟩
 ·exact .inl j
 ·exact .inr ⟨g,cap,h,i,pF l k,r⟩
def U7(F o b:I)(m:Nm)(W:J)(s:So m)(u:m.length<=1000000)(t:W.cell? ⟨F,o,H⟩=G (.map (G b)))(h:Ag W b m):
 ο Y 75 #[L (G ⟨F,o,H⟩)] W λe w'=>∃v,e=η v/\w'.ownsRow W.heap.size 9 1 v m.length (m.map λp=>encStr p.1)/\aE W.heap.size W w':=by
 have j:aU (Dm m)=m.length:=by simp[Dm,aU]
 have l:=O (callsIn_wide.1 (Tryz.maps_Keys_138 (G b) W));have q:=O (callsIn_wide.1 (Tryz.slices_Sorted_keys_137_138 b m.length (Dm m) Rp W h.tight (by rw[j];unfold bH;omega) (by rw[j];omega)));have g:=O (pM W (X #[.map (G b)] 72));clear h
 go_enter Tryz.func75,Tryz.ntmps75
 go_wp2_with fail
 refine l.o.mono ?_;rintro e w⟨rfl,rfl⟩
 go_wp2_with fail
 refine q.o.mono ?_;rintro e x⟨v,k,rfl,d,c,-,i⟩;rw[QT m s k d] at c
 have r:k.length=m.length:=by rw[d.length_eq];unfold Dm cr;simp
 rw[r,mL] at c;have f:=O (aJ (rK (b:=W.heap.size) c g.o.size) (uo g.o i));clear d c i
 go_wp2_with fail
 go_ret;exact⟨v,rfl,f.o.1,f.o.2⟩
def U9(B:I)(o:Loc)(s:St)(W:J)(b:Is W B o s)(d:s.down=av):
 ο Y 40 #[L (G ⟨o.F,0,H⟩)] W λe w'=>e=η (δ H 0 0)/\w'=W:=by
 obtain⟨-,-,c,-⟩:=q7 b.fs;rw[d] at c;clear b
 go_enter cQ,cG
 go_wp2_with fail
 go_ret;exact⟨rfl,rfl⟩
def list_up(B:I)(o:Loc)(s:St)(W:J)(b:Is W B o s)(h:s.down=N)(j:So s.names)(i:s.names.length<=1000000):
 ο Y 40 #[L (G ⟨o.F,0,H⟩)] W λe w'=>∃v,e=η v/\w'.ownsRow W.heap.size 9 1 v s.names.length (s.names.map λp=>encStr p.1)/\aE W.heap.size W w':=by
 obtain⟨-,-,f,-⟩:=q7 b.fs;rw[h] at f;have g:=O (U7 o.F 0 o.nb s.names W j i (wD b.fs) b.names);clear b
 go_enter cQ,cG
 go_wp2_with fail
 refine g.o.mono ?_;rintro e k⟨v,rfl,c⟩;have d:=O c;clear c
 go_wp2_with fail
 go_ret;exact⟨v,rfl,d.o⟩
def AS.list(a:AS):U (U Ξ):=if a.down=av then [] else a.names.map (·.1)
def list_is(B:I)(o:Loc)(s:St)(a:AS)(W:J)(b:Is W B o s)(i:Ab a s)(k:So a.names)(j:a.names.length<=1000000):
 ο Y 40 #[L (G ⟨o.F,0,H⟩)] W λe w'=>∃v,e=η v/\w'.ownsRow W.heap.size 9 1 v a.list.length (a.list.map encStr)/\aE W.heap.size W w':=by
 obtain⟨bl,rfl⟩:=id i;unfold AS.list
 cases d:a.down with
 |true=>
  refine(U9 B o _ W b d).mono ?_;rintro e w'⟨rfl,rfl⟩
  exact⟨_,rfl,⟨rfl,.inl ⟨rfl,rfl⟩⟩,pH _ _⟩
 |false=>
  have l:So (qU bl a).names:=by
   show So (cn bl a.names)
   unfold So cn;rw[jO];exact k
  refine(list_up B o _ W b d l (by simpa [qU,QH] using j)).mono ?_;rintro e w'⟨v,rfl,c,h⟩;refine⟨v,rfl,?_,h⟩;rw[oU (by decide)];have f:(qU bl a).names.length=(a.names.map (·.1)).length:=(by simp[qU,cn]);have g:((qU bl a).names.map λp=>encStr p.1)=(a.names.map (·.1)).map encStr:=(by simp[qU,cn]);rw[f,g] at c;exact c
def QU(n:aN)(f:AF):AF:=
 if f.synced=av then f else
 let d:=if n<0 then f.tK else if n<f.data.length then f.data.take n.toNat else f.data
 ⟨d,d,av⟩
def DM(x:U Ξ×I):∀m:Nm,(AB x m).length=m.length+1
 |[]=>rfl
 |y::r=>by
  unfold AB
  split
  ·rfl
  ·simp[DM x r]
def Et(m:Nm)(f t:χ)(x:I):(rT m f t x).length<=m.length+1:=by
 unfold rT uO;have b:=FZ m f.data.toList;simp only
 split<;>split
 ·omega
 ·omega
 ·rw[DM];have:=FZ m t.data.toList;omega
 ·rw[DM];have:=FZ (Ae m f.data.toList) t.data.toList;omega
def Bl(w:J)(v:V)(l:U Bool):Prop:=∃g d b c,v=δ b l.length c/\(0<l.length->b=G ⟨g,d,H⟩)/\∀j(e:j<l.length),w.cell? ⟨g,d+j,H⟩=G (.bool l[j])
def Il(w:J)(v:V)(l:U aN):Prop:=∃g d b c,v=δ b l.length c/\l.length<=c/\(0<l.length->b=G ⟨g,d,H⟩)/\∀j(e:j<l.length),w.cell? ⟨g,d+j,H⟩=G (θ ι l[j])
def Bl.kept{w w':J}{v:V}{l:U Bool}(h:Bl w v l)(m:∀g,v.ownBlock=G g->w'.heap[g]?=w.heap[g]?):Bl w' v l:=by obtain⟨g,o,f,c,rfl,b,i⟩:=h;refine⟨g,o,f,c,rfl,b,λj k=>?_⟩;have e:=b (by omega);subst e;have d:=i j k;unfold Θ at d|-;rw[m g rfl];exact d
def Il.kept{w w':J}{v:V}{l:U aN}(h:Il w v l)(o:∀g,v.ownBlock=G g->w'.heap[g]?=w.heap[g]?):Il w' v l:=by obtain⟨g,q,f,c,rfl,i,b,k⟩:=h;refine⟨g,q,f,c,rfl,i,b,λj m=>?_⟩;have e:=b (by omega);subst e;have d:=k j m;unfold Θ at d|-;rw[o g rfl];exact d
def Il.lt{w:J}{g i c n:I}{l:U aN}(d:Il w (δ (G ⟨g,i,H⟩) n c) l)(b:0<l.length):g<w.heap.size:=by
 obtain⟨m,o,j,k,e,_,f,h⟩:=d;injection e with e1
 rw[f b] at e1;injection e1 with e1
 injection e1 with e1
 subst e1;exact lt_of_cell (h 0 b)
def Y7(g b n c:I)(i:1<=n)(h:n<=c):∃d,(∀w:J,(bG 283 (δ (G ⟨g,b,H⟩) n c) (G (θ ι 1)) H H).run Y w= .ok (δ d (n-1) (c-1)) w)/\(0<n-1->d=G ⟨g,b+1,H⟩)/\(d=G ⟨g,b,H⟩\/d=G ⟨g,b+1,H⟩):=by
 have f:∀w:J,(Instr.sliceBound (θ ι 1) n .sliceB).run Y w= .ok 1 w:=λw=>by
  have:=run_sliceBound (P:=Y) (w:=w) .i64 1 n .sliceB (by omega) (by omega);simpa using this
 refine⟨if c=1 then G ⟨g,b,H⟩ else G ⟨g,b+1,H⟩,λw=>?_,?_,?_⟩
 ·unfold bG Instr.sliceBounds
  simp[mh bU,f w,bD]
 ·intro e
  rw[oU (by omega)]
 ·by_cases e:c=1
  ·rw[oD e];exact .inl rfl
  ·rw[oU e];exact .inr rfl
def FD{P:Program}{t e:aQ}{x:V}{c b d:aS V}(w:J)(f:P.underlying t=G (.slice e)):(bI t x c b d).run P w=(bG t x c b d).run P w:=by simp[bI,mh f]
def Il.cons{w:J}{v:V}{n:aN}{r:U aN}(m:Il w v (n::r)):∃g d c f h,v=δ (G ⟨g,d,H⟩) f c/\f=r.length+1/\f<=c/\w.cell? ⟨g,d,H⟩=G (θ ι n)/\(∀w:J,(bG 283 v (G (θ ι 1)) H H).run Y w= .ok (δ h (f-1) (c-1)) w)/\(∀w:J,(bI 283 v (G (θ ι 1)) H H).run Y w= .ok (δ h (f-1) (c-1)) w)/\Il w (δ h (f-1) (c-1)) r/\∀b,(bP h (f-1) (c-1)).ownBlock=G b->v.ownBlock=G b:=by
 obtain⟨g,d,h,c,rfl,i,o,l⟩:=m;have e:=o (by simp);subst e;obtain⟨k,t1,t2,t3⟩:=Y7 g d (n::r).length c (by simp) i;refine⟨g,d,c,(n::r).length,k,rfl,by simp,i,l 0 (by simp),t1,λw=>?_,?_,?_⟩
 ·exact(FD w bU).trans (t1 w)
 ·refine⟨g,d+1,k,c-1,by simp,by simp at i|-;omega,λt=>t2 (by simpa using t),λj s=>?_⟩
  have:=l (j+1) (by simpa using s);rw[show d+1+j=d+(j+1) by omega];exact this
 ·intro b q
  rcases t3 with rfl|rfl<;>exact q
def Il.nil{w:J}{v:V}(d:Il w v []):∃b c,v=δ b 0 c:=by obtain⟨g,e,b,c,rfl,_⟩:=d;exact⟨b,c,rfl⟩
def r8(l:U Ch)(k:I)(d:k<l.length):(l.flatMap tq)[k*3]?=G (.string l[k].src)/\(l.flatMap tq)[k*3+1]?=G (.string l[k].dst)/\(l.flatMap tq)[k*3+2]?=G (wL l[k].file):=by
 induction l generalizing k with
 |nil=>simp at d
 |cons c r ih=>
  cases k with
  |zero=>exact⟨rfl,rfl,rfl⟩
  |succ k=>
   have b:=ih k (by simpa using d)
   have e:∀j,((c::r).flatMap tq)[(k+1)*3+j]?=(r.flatMap tq)[k*3+j]?:=λj=>by
    rw[mE,kT (by simp[tq];omega)]
    congr 1
    simp[tq];omega
   refine⟨(e 0).trans b.1,(e 1).trans b.2.1,(e 2).trans b.2.2⟩
def DidU(B:I)(o:Loc)(s:St)(W:J)(a':AS)(e:aV)(w':J):Prop:=
 ∃c b,e=η (.tuple #[])/\Ab a' c/\b.F=o.F/\b.Z=o.Z/\Is w' B b c/\Fr W w' (r7 o s)/\∀k,r7 b c k->r7 o s k\/W.heap.size<=k
structure AS.Cr(a:AS):Prop where
 files:a.files.length<=1000000
 tK:a.tK.length+a.pend.length<=1000000
 pend:∀c∈a.pend,c.src.size<=1000000/\c.dst.size<=1000000
 data:∀f∈a.files,f.data.length<=1000000/\f.tK.length<=1000000
def gF(n:aN)(x:Fl):Fl:=⟨x.blk,(QU n ⟨x.data,x.tK,x.synced⟩).data,(QU n ⟨x.data,x.tK,x.synced⟩).tK,(QU n ⟨x.data,x.tK,x.synced⟩).synced⟩
def Rd.len{w:J}{d:aS Addr}{n c:I}{l:U Ξ}(b:Rd w (δ d n c) l):n=l.length/\n<=c:=⟨b.half.1,b.half.2.1⟩
def Rd.cut{w:J}{e:aS Addr}{n c:I}{l:U Ξ}(q:I)(b:q<=l.length)(i:Rd w (δ e n c) l):Rd w (δ e q c) (l.take q):=by
 rcases i with⟨d,rfl⟩|⟨g,cap,f,h,d,j,m,k⟩
 ·injection d with e1 e2 e3
  subst e1 e2 e3;have:q=0:=(by simpa using b);subst this;exact .inl ⟨rfl,rfl⟩
 ·injection d with e1 e2 e3
  subst e1 e2 e3;refine .inr ⟨g,c,f,h,?_,j,?_,?_⟩
  ·rw[nQ,nM b]
  ·rw[nQ];omega
  ·rw[nQ,nM b]
   have:=nT (List.take q) k;rw[jC,nM b] at this;rw[this];simp[ah,iR]
def So.del{m:Nm}(b:So m)(k:U Ξ):So (Ae m k):=List.Pairwise.filter _ b
def vP(x:U Ξ×I):∀(m:Nm)(p:U Ξ×I),p∈AB x m↔p=x\/p∈m
 |[],p=>by simp[AB]
 |y::r,p=>by
  unfold AB
  split
  ·simp
  ·simp only[ox,vP x r p]
   constructor
   ·rintro(b|b|b)
    ·exact .inr (.inl b)
    ·exact .inl b
    ·exact .inr (.inr b)
   ·rintro(b|b|b)
    ·exact .inr (.inl b)
    ·exact .inl b
    ·exact .inr (.inr b)
def U_(a b:U Ξ)(d:a≠b)(e:aK a b=N):aK b a=av:=by
 rcases WideAt.bytes_total a b d with c|c
 ·rw[e] at c;cases c
 ·exact c
def So.ins{x:U Ξ×I}:∀{m:Nm},So m->(∀p∈m,p.1≠x.1)->So (AB x m)
 |[],_,_=>by simp[AB,So]
 |y::r,h,hn=>by
  unfold So at h;rw[mH] at h;obtain⟨c,d⟩:=h;unfold AB
  cases e:aK x.1 y.1 with
  |true=>
   simp only[jJ];unfold So;rw[mH];refine⟨λp b=>?_,by rw[mH];exact⟨c,d⟩⟩;rcases List.mem_cons.1 b with rfl|b
   ·exact e
   ·exact gO _ _ _ e (c p b)
  |false=>
   simp only[nH,lQ];unfold So;rw[mH];refine⟨λp b=>?_,So.ins d (λp b=>hn p (oH _ b))⟩;rcases(vP x r p).1 b with rfl|b
   ·exact U_ _ _ (λf=>hn y (oL) f.symm) e
   ·exact c p b
def Y8{m:Nm}{k:U Ξ}:∀p∈Ae m k,p.1≠k:=λp b e=>by
 have:=(List.mem_filter.1 b).2;simp[e] at this
def So.put{m:Nm}(b:So m)(k:U Ξ)(i:I):So (uO m k i):=(b.del k).ins Y8
def So.nil:So []:=List.Pairwise.nil
def Oi(x:U Ξ×I)(k:U Ξ):∀m:Nm,(∀p∈m,p.1≠x.1)->qw (AB x m) k=if x.1=k then G x.2 else qw m k
 |[],_=>by
  unfold AB qw;simp only[lz]
  by_cases e:x.1=k
  ·simp[e]
  ·have b:(x.1==k)=N:=by simpa using e
   simp[e,b]
 |y::r,hn=>by
  have c:=Oi x k r (λp g=>hn p (oH _ g));unfold AB
  split
  ·unfold qw
   simp only[lz]
   by_cases e:x.1=k
   ·simp[e]
   ·have b:(x.1==k)=N:=by simpa using e
    simp[e,b]
  ·unfold qw at c|-
   simp only[lz]
   by_cases e:y.1=k
   ·have d:x.1≠k:=λf=>hn y (oL) (e.trans f.symm)
    simp[e,d]
   ·have b:(y.1==k)=N:=by simpa using e
    simp only[b];exact c
def Oa(m:Nm)(k k':U Ξ):qw (Ae m k) k'=if k=k' then H else qw m k':=by
 unfold qw Ae
 induction m with
 |nil=>simp
 |cons y r ih=>
  simp only[jK,lz]
  by_cases e:y.1=k
  ·have d:(y.1==k)=av:=by simpa using e
   simp only[d,gY,nH,lQ];rw[ih]
   by_cases b:k=k'
   ·simp[b]
   ·have c:(y.1==k')=N:=by rw[e];simpa using b
    simp[b,c]
  ·have d:(y.1==k)=N:=by simpa using e
   simp only[d,iz,jJ,lz]
   by_cases b:y.1=k'
   ·have c:(y.1==k')=av:=by simpa using b
    have f:k≠k':=λg=>e (b.trans g.symm)
    simp[c,f]
   ·have c:(y.1==k')=N:=by simpa using b
    simp only[c];exact ih
def Ia(m:Nm)(k:U Ξ)(i:I)(k':U Ξ):qw (uO m k i) k'=if k=k' then G i else qw m k':=by
 unfold uO;rw[Oi _ _ _ Y8,Oa];simp only
 split<;>rfl
def Cg(m:Nm)(k:U Ξ):qw m k=H↔∀p∈m,p.1≠k:=by
 unfold qw;rw[Option.map_eq_none_iff,List.find?_eq_none]
 constructor
 ·intro b p c e
  exact b p c (by simpa using e)
 ·intro b p c
  simpa using b p c
def So.find{m:Nm}(c:So m){p:U Ξ×I}(b:p∈m):qw m p.1=G p.2:=by
 induction m with
 |nil=>cases b
 |cons y r ih=>
  unfold So at c;rw[mH] at c;unfold qw;simp only[lz];rcases List.mem_cons.1 b with rfl|b
  ·simp
  ·have e:y.1≠p.1:=λe=>by
    have:=c.1 p b;rw[e,iP] at this;cases this
   have d:(y.1==p.1)=N:=(by simpa using e);simp only[d];exact ih c.2 b
def So.ext{m g:Nm}(c:So m)(d:So g)(h:∀k,qw m k=qw g k):m=g:=by
 refine gZ (le:=λ(p q:U Ξ×I)=>aK p.1 q.1=av) (λa b s t j o=>?_) c d ?_
 ·have:=gO _ _ _ j o
  rw[iP] at this;cases this
 ·have nd:∀{l:Nm},So l->l.Nodup:=λ{l} r=>r.imp λ{p q} i e=>by
   subst e;rw[iP] at i;cases i
  refine(List.perm_ext_iff_of_nodup (nd c) (nd d)).2 λp=>?_
  constructor
  ·intro f
   have:=c.find f;rw[h] at this;exact Bk this
  ·intro f
   have:=d.find f;rw[<-h] at this;exact Bk this
def Fs(w:J)(B F:I)(Z:I->Prop)(a:AS)(p:I->Prop):Prop:=∃o s,o.F=F/\o.Z=Z/\Is w B o s/\Ab a s/\r7 o s=p
structure AS.Ok(a:AS)(n:I):Prop where
 wf:a.Wf
 sn:So a.names
 sd:So a.tK
 af:a.Af
 files:a.files.length<=n
 names:a.names.length<=n
 dp:a.tK.length+a.pend.length<=n
 strs:∀c∈a.pend,c.src.size<=1000000/\c.dst.size<=1000000
 data:∀f∈a.files,f.data.length<=1000000/\f.tK.length<=1000000
def AS.Ok.tK{a:AS}{n:I}(b:a.Ok n):a.tK.length<=n:=by have:=b.dp;omega
def AS.Ok.pend{a:AS}{n:I}(b:a.Ok n):a.pend.length<=n:=by have:=b.dp;omega
def AS.Ok.sm{a:AS}{n:I}(b:a.Ok n)(c:n<=400000):a.Sm:=⟨pF b.files (by omega),pF b.names (by omega),pF b.pend (by omega)⟩
def AS.Ok.mono{a:AS}{n m:I}(b:a.Ok n)(c:n<=m):a.Ok m:=⟨b.wf,b.sn,b.sd,b.af,pF b.files c,pF b.names c,pF b.dp c,b.strs,b.data⟩
def AS.Ok.new:AS.new.Ok 0:=⟨⟨(by intro p b;cases b),(by intro p b;cases b),(by intro c hc;cases hc)⟩,So.nil,So.nil,⟨by decide,by decide⟩,oZ _,oZ _,oZ _,(by intro c hc;cases hc),(by intro c hc;cases hc)⟩
def Aft(W:J)(B F:I)(Z p:I->Prop)(r:V)(a':AS)(e:aV)(w':J):Prop:=e=η r/\∃p',Fs w' B F Z a' p'/\Fr W w' p/\∀k,p' k->p k\/W.heap.size<=k
def xk.aft{B F:I}{Z p:I->Prop}{o:Loc}{s:St}{W w':J}{P:AS->aN×AS}{a:AS}{e:aV}(d:xk B o s W P a e w')(k:o.F=F)(l:o.Z=Z)(m:r7 o s=p):Aft W B F Z p (θ ι (P a).1) (P a).2 e w':=by obtain⟨r,t,q,rfl,⟨f,g⟩,h,i,j,b,c⟩:=d;rw[m] at b c;exact⟨by rw[f],_,⟨q,t,h.trans k,i.trans l,j,g,rfl⟩,b,c⟩
def DidU.aft{B F:I}{Z p:I->Prop}{o:Loc}{s:St}{W w':J}{a':AS}{e:aV}(d:DidU B o s W a' e w')(j:o.F=F)(k:o.Z=Z)(l:r7 o s=p):Aft W B F Z p (.tuple #[]) a' e w':=by obtain⟨q,m,rfl,f,g,h,i,b,c⟩:=d;rw[l] at b c;exact⟨rfl,_,⟨m,q,g.trans j,h.trans k,i,f,rfl⟩,b,c⟩
section
variable {W:J}{B F n:I}{Z p:I->Prop}{a:AS}
def YH(b:Fs W B F Z a p)(ok:a.Ok n)(m:n<=400000)(k:χ)(v:V)(l:U Ξ)(i:k.size<=1000000)(j:l.length<=1000000)(r:Rd W v l):
 ο Y 112 #[L (G ⟨F,0,H⟩),M k,v] W (Aft W B F Z p (θ ι (AS.op (AS.put k l) (AS.I4 k l) a).1) (AS.op (AS.put k l) (AS.I4 k l) a).2):=by
 obtain⟨o,s,f,h,g,c,q⟩:=b;subst f;exact(Y6 B o s a k v l W g c ok.wf (ok.sm m) ok.af i j r).mono λe w' d=>d.aft rfl h q
def sync_fs(b:Fs W B F Z a p)(ok:a.Ok n)(j:n<=400000)(k:χ)(i:k.size<=1000000):
 ο Y 114 #[L (G ⟨F,0,H⟩),M k] W (Aft W B F Z p (θ ι (AS.op (AS.sync k) id a).1) (AS.op (AS.sync k) id a).2):=by
 obtain⟨o,s,f,h,g,c,l⟩:=b;subst f;exact(sync_is B o s a k W g c ok.wf (ok.sm j) ok.af i).mono λe w' d=>d.aft rfl h l
def UK(b:Fs W B F Z a p)(ok:a.Ok n)(j:n<=400000)(k t:χ)(i:k.size<=1000000)(m:t.size<=1000000):
 ο Y 116 #[L (G ⟨F,0,H⟩),M k,M t] W (Aft W B F Z p (θ ι (AS.op (AS.rename k t) id a).1) (AS.op (AS.rename k t) id a).2):=by
 obtain⟨o,s,f,h,g,c,l⟩:=b;subst f;exact(U5 B o s a k t W g c ok.wf (ok.sm j) ok.af i m).mono λe w' d=>d.aft rfl h l
def Qy(b:Fs W B F Z a p)(ok:a.Ok n)(i:n<=400000):
 ο Y 62 #[L (G ⟨F,0,H⟩)] W (Aft W B F Z p (θ ι (AS.op AS.sG id a).1) (AS.op AS.sG id a).2):=by
 obtain⟨o,s,f,h,g,c,j⟩:=b;subst f;exact(QS B o s a W g c ok.wf (ok.sm i) ok.af).mono λe w' d=>d.aft rfl h j
def down_fs(b:Fs W B F Z a p):
 ο Y 27 #[L (G ⟨F,0,H⟩)] W λe w'=>e=η (.bool a.down)/\w'=W:=by
 obtain⟨o,s,c,f,d,⟨bl,rfl⟩,g⟩:=b;subst c;exact down_is B o _ W d
def KT(b:Fs W B F Z a p)(ok:a.Ok n)(k:χ)(j:k.size<=1000000):
 ο Y 31 #[L (G ⟨F,0,H⟩),M k] W λe w'=>∃v,e=η (.tuple #[v,θ ι (a.read k).2])/\Rd w' v (a.read k).1/\(∀g,v.ownBlock=G g->W.heap.size<=g)/\aE W.heap.size W w':=by
 obtain⟨o,s,d,l,h,c,m⟩:=b;subst d;exact read_is B o s a k W h c ok.wf (λf i=>(ok.data f i).1) j
def list_fs(b:Fs W B F Z a p)(ok:a.Ok n)(h:n<=400000):
 ο Y 40 #[L (G ⟨F,0,H⟩)] W λe w'=>∃v,e=η v/\w'.ownsRow W.heap.size 9 1 v a.list.length (a.list.map encStr)/\aE W.heap.size W w':=by
 obtain⟨o,s,d,g,f,c,i⟩:=b;subst d;exact list_is B o s a W f c ok.sn (by have:=ok.names;omega)
end
def new_fs(W:J):
 ο Y 15 #[] W λe w'=>∃F p,e=η (L (G ⟨F,0,H⟩))/\Fs w' W.heap.size F (λ_=>False) AS.new p/\aE W.heap.size W w'/\∀k,p k->W.heap.size<=k:=by
 refine(new_is W).mono ?_;rintro e w'⟨o,s,rfl,b,c,d,f,g⟩;exact⟨o.F,_,rfl,⟨o,s,rfl,d,b,c,rfl⟩,f,g⟩
def Fs.lt{w:J}{B F:I}{Z p:I->Prop}{a:AS}(e:Fs w B F Z a p):∀k,p k->k<w.heap.size/\B<=k:=by
 obtain⟨o,s,rfl,rfl,b,i,rfl⟩:=e;rintro k (rfl|rfl|rfl|c|c|⟨f,d,rfl⟩)
 ·exact⟨lt_of_heap b.fs,b.bF⟩
 ·exact⟨b.names.lt,b.bn⟩
 ·exact⟨b.tK.lt,b.bd⟩
 ·exact⟨(b.files.lt k c).2,(b.files.lt k c).1⟩
 ·exact⟨(b.pend.lt k c).2,(b.pend.lt k c).1⟩
 ·obtain⟨h,j,g,_⟩:=b.each f d
  exact⟨lt_of_heap g,b.bf f d⟩
def Fs.kept{w w':J}{B F:I}{Z p:I->Prop}{a:AS}(b:Fs w B F Z a p)(m:∀k,p k->w'.heap[k]?=w.heap[k]?)(l:∀(g:I)(d:aO V)(e:I×I),w.heap[g]?=G (Ω d 5 e)->w'.heap[g]?=w.heap[g]?):Fs w' B F Z a p:=by obtain⟨o,s,f,h,j,i,c⟩:=b;exact⟨o,s,f,h,j.kept (λk b=>m k (by rw[<-c];exact b)) l,i,c⟩
def Fs.below{w w':J}{B F:I}{Z p:I->Prop}{a:AS}(b:Fs w B F Z a p)(c:aE w.heap.size w w'):Fs w' B F Z a p:=
 b.kept (λk e=>c.block k (b.lt k e).1) (λg f h d=>c.block g (lt_of_heap d))
def Fs.Y9{w:J}{B F:I}{Z p:I->Prop}{a:AS}(d:Fs w B F Z a p){k:I}(f:p k)(b:aO V)(c:I×I):w.heap[k]?≠G (Ω b 5 c):=by obtain⟨o,s,g,h,e,i,rfl⟩:=d;exact e.SL f b c
def Fs.apart{w w':J}{B F h i:I}{Z p j q:I->Prop}{a a':AS}(b:Fs w B F Z a p)(o:Fs w h i j a' q)(r:∀k,p k->¬q k)(c:Fr w w' q):Fs w' B F Z a p:=
 b.kept (λk f=>c.block k (b.lt k f).1 (r k f)) (λg l m d=>c.block g (lt_of_heap d) λe=>o.Y9 e l m d)
def Rd.conv{w:J}{v:V}{l:U Ξ}(b:Rd w v l):(cz 68 9 v).run Y w= .ok (M ⟨l.toArray⟩) w:=by
 rcases b with⟨rfl,rfl⟩|⟨g,cap,f,h,rfl,c,i,e⟩
 ·exact bL w 68 9 5 0 az aI aC
 ·refine bW w 68 9 5 ⟨g,0,H⟩ cap l az aI aC (λj d=>?_)
  exact Rd.cells c e j _ (by simp[ah,oW d])
def LU(w:J)(e:aQ)(s:χ):aE w.heap.size w (Lib.bytesWorld w e s):=
 ⟨rfl,rfl,rfl,by rw[Lib.bytesWorld_size];omega,λk b=>Lib.bytesWorld_at_old w e s k b⟩
def YG(w:J)(s:χ):∃cap w',(cz 9 68 (M s)).run Y w= .ok (δ (G ⟨w.heap.size,0,H⟩) s.size cap) w'/\Rd w' (δ (G ⟨w.heap.size,0,H⟩) s.size cap) s.data.toList/\aE w.heap.size w w':=by
 have e:=Lib.run_convert_string_bytes (P:=Y) w 9 68 5 s (u:= .string) aC az aI;have f:=Lib.bytesWorld_at_new w 5 s;have c:s.data.toList.length=s.size:=by simp
 refine⟨grownCap w s.size 0 5,_,e,.inr ⟨w.heap.size,grownCap w s.size 0 5,cj w 5 s,_,by rw[c],f,?_,?_⟩,LU w _ s⟩
 ·rw[c];exact grownCap_ge _ _ _ _
 ·rw[c]
  unfold cj ah;have d:(s.data.map λb=>aT .u8 b.toNat).toList.length=s.size:=(by simp);rw[Array.toList_append,iI (by rw[d];exact oZ _),oP (by rw[d];exact oZ _),Array.toList_map]
def Is.base{w:J}{B d:I}{o:Loc}{s:St}(b:Is w B o s)(c:d<=B):Is w d o s:=
 ⟨b.fs,b.names,b.tK,b.nd,rK b.files c,rK b.pend c,b.each,b.zl,b.zB,pF c b.bF,pF c b.bn,pF c b.bd,λf e=>pF c (b.bf f e)⟩
def Fs.base{w:J}{B b F:I}{Z p:I->Prop}{a:AS}(c:Fs w B F Z a p)(g:b<=B):Fs w b F Z a p:=by obtain⟨o,s,d,e,h,f,i⟩:=c;exact⟨o,s,d,e,h.base g,f,i⟩
abbrev Zn:I->Prop:=λ_=>False
structure Tri(W w:J)(f g h:I)(a b c:AS)(p q r:I->Prop):Prop where
 f:Fs w W.heap.size f Zn a p
 g:Fs w W.heap.size g Zn b q
 h:Fs w W.heap.size h Zn c r
 fg:∀k,p k->¬q k
 fh:∀k,p k->¬r k
 gh:∀k,q k->¬r k
 below:aE W.heap.size W w
def Tri.under{W w w':J}{f g e:I}{a b c:AS}{p q r:I->Prop}(t:Tri W w f g e a b c p q r)(d:aE w.heap.size w w'):Tri W w' f g e a b c p q r:=
 ⟨t.f.below d,t.g.below d,t.h.below d,t.fg,t.fh,t.gh,t.below.trans (d.mono t.below.size)⟩
def Rd.below{w w':J}{v:V}{l:U Ξ}(d:Rd w v l)(b:aE w.heap.size w w'):Rd w' v l:=d.kept λg e f c=>b.block g (lt_of_heap c)
def YL:(⟨#[]⟩:χ).toList.isEmpty=av:=by rw[b_];rfl
end Vf
end Go.Proofs.YthbhmjdcfocphaaGreatDoor
