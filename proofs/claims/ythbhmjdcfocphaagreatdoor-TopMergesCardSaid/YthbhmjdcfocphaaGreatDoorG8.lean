/- A part of this proof. -/
import Derived.Test.YthbhmjdcfocphaaGreatDoorG1
import Derived.Deep.Grids
import Derived.Lib.SmallJoins
set_option linter.all false
set_option maxHeartbeats 16000000
set_option maxRecDepth 100000
namespace Go.Proofs.YthbhmjdcfocphaaGreatDoor
open Go.Proofs.Tryz renaming prog→G, underlying24→Ω, underlying53→ς, underlying51→ο, underlying2→av
open Go.DataW renaming trod→J, weights_mem_each→X, weightsEach→π, weights→Z, weightsAll→ah, agg→aj, trod_int→ay
open Bool renaming true→K
open Go renaming reachBytes→O, Value→N, MemPlace→Y, DataW→U, TypeId→aE
open Option renaming some→I
open List renaming take→V, map→az
open _root_ renaming List→M, absurd→aA, ByteArray→aC
namespace StO
open ChangeShapes WideShapes ChangeAt RowKit Rw
def Tu{w:World}{a:Addr}{v:N}(b:w.cell? a=I v):a=⟨a.block,a.off,none⟩:=by
 obtain⟨g,e,d⟩:=a
 cases d with
 |none=>rfl
 |some s=>
  unfold World.cell? at b
  cases c:w.heap[g]? with
  |none=>rw[c] at b;simp at b
  |some o=>rw[c] at b;cases o<;>simp at b
def Wg{a:Addr}(b:a=⟨a.block,a.off,none⟩)(i:Nat):a.add i=⟨a.block,a.off+i,none⟩:=by
 unfold Addr.add
 split
 ·rename_i c;rw[c];exact b
 ·rfl
def EK{H:Type}{P:Program}{e:aE}:∀{l:M (U H)}{d:U H},d∈l->∀n∈d.weights P e,n∈ah P e l
 |a::r,d,b,n,hn=>by
  simp only[ah,jU];rcases List.mem_cons.1 b with rfl|b
  ·exact .inl hn
  ·exact .inr (EK b n hn)
section
variable {H:Type}{enc:aE×N->H}{W:World}
def OZ{T b:aE}{sz:Nat}(o:Tryz.prog.underlying T=I (.slice b))(p:Tryz.prog.cellsOf b=sz)(C:0<sz){A:Nat}{cs:M N}{x:U H×M Y}(B:J enc G W 0 (λ_=>K) K A T cs=I x)(y:∀n∈x.1.weights G T,n<=O):
 ∃v L,cs=[v]/\Rw W v sz L/\(∀c∈L,c.length=sz/\∃m x',J enc G W 0 (λ_=>K) K m b c=I x'/\∀n∈x'.1.weights G b,n<=O)/\L.length*Tryz.prog.bytesOf b<=O:=by
 rcases DataW.trod_slice o B with⟨q,s⟩|⟨a,len,cap,z,a8,m,-,q,s,-,a5,a6,S,R,-,-⟩
 ·exact⟨_,[],q,Rw.nil W sz,λc p=>aA p (by simp),by simp⟩
 ·obtain⟨d,a7⟩:=x
  simp only[mT] at s;obtain⟨rfl,-⟩:=s
  have each:∀i(f:i<len),∃c:M N,c.length=sz/\(∀k,k<sz->W.cell? ((a.add (i*sz)).add k)=c[k]?)/\∃m x',J enc G W 0 (λ_=>K) K m b c=I x'/\∀n∈x'.1.weights G b,n<=O:=by intro i f;have h:=R i f;rw[p,oW (by omega)] at h;obtain⟨c,P,a4⟩:=Option.bind_eq_some_iff.1 h;obtain⟨-,g,Q⟩:=World.cells?_some P;refine⟨c,g,Q,m,_,a4,λn a3=>y n ?_⟩;simp only[Z,o];exact oH _ (List.mem_append.2 (.inl (EK (jG (pq (by omega:i<z.length))) n a3)))
  have E:∃L:M (M N),L.length=len/\∀i(f:i<L.length),L[i].length=sz/\(∀k,k<sz->W.cell? ((a.add (i*sz)).add k)=L[i][k]?)/\∃m x',J enc G W 0 (λ_=>K) K m b L[i]=I x'/\∀n∈x'.1.weights G b,n<=O:=by refine⟨(List.range len).attach.map λi=>Classical.choose (each i.1 (List.mem_range.1 i.2)),by simp,λi f=>?_⟩;have a0:i<len:=(by simpa using f);have:=Classical.choose_spec (each i a0);simpa using this
  obtain⟨L,t,l⟩:=E
  have u:0<L.length->a=⟨a.block,a.off,none⟩:=λr=>by
   obtain⟨h,g,-⟩:=l 0 r;have e:=g 0 C;rw[oW (by omega)] at e;have D:((a.add (0*sz)).add 0)=a:=(by rw[jh];unfold Addr.add;simp);rw[D] at e;exact Tu e
  refine⟨_,L,q,⟨a.block,a.off,I a,cap,by rw[t],λr=>by rw[<-u r],λj a1 k a2=>?_⟩,λc F=>?_,?_⟩
  ·obtain⟨h,g,-⟩:=l j a1
   have e:=g k a2;have w:k<L[j].length:=(by omega);refine⟨L[j][k],oW w,?_⟩;rw[oW w,Wg (u (by omega)),Wg rfl] at e;exact e
  ·obtain⟨i,f,rfl⟩:=mj F
   exact⟨(l i f).1,(l i f).2.2⟩
  ·have e:=y _ (by simp only[Z,o];exact oL ..)
   rw[t];refine pF (lZ _ ?_) e;simp only[oS,S];omega
def KG:O=140737488351232:=by kernel_rfl
def vV{c:M N}{m:Nat}{x:U H×M Y}(b:J enc G W 0 (λ_=>K) K m 9 c=I x)(d:∀n∈x.1.weights G 9,n<=O):∃s:aC,c=p_ s/\s.size<=140737488355327:=by
 obtain⟨s,e,g,-⟩:=DataW.trod_string Tryz.underlying9 b;have f:=sized_string (P:=G) (ts:=[9]) (ds:=[x.1]) (by rw[mF];intro n a;simp only[π,nC] at a;exact nK (d n a)) (j:=0) (t:=9) rfl (show _=I (DataW.lit (.string s.data.toList)) by rw[g];rfl);have h:=KG;have i:s.data.toList.length=s.size:=by simp
 exact⟨s,e,by omega⟩
def i64_in{n:Int}(a:(Lit.int .i64 n).wf=K): -9223372036854775808<=n/\n<=9223372036854775807:=by simp only[Lit.wf,IntKind.min,IntKind.max,IntKind.signed,IntKind.bits,oz,nP,jJ] at a;omega
def strs_of{p:Nat}{cs:M N}{x:U H×M Y}(d:J enc G W 0 (λ_=>K) K p 48 cs=I x)(k:∀n∈x.1.weights G 48,n<=O):
 ∃(v:N)(l:M aC),cs=[v]/\Rw W v 1 (l.map p_)/\(∀s∈l,s.size<=140737488355327)/\l.length<=8796093022208:=by
 obtain⟨v,L,i,h,g,j⟩:=OZ Tryz.underlying48 (sz:=1) (by kernel_rfl) (by omega) d k
 have w:∃l:M aC,L=l.map p_/\∀s∈l,s.size<=140737488355327:=by
  clear h j i d k
  induction L with
  |nil=>exact⟨[],rfl,λs a=>aA a (by simp)⟩
  |cons c r ih=>obtain⟨l,e,a⟩:=ih (λc z=>g c (oH _ z));obtain⟨-,m,x',q,f⟩:=g c (oL ..);obtain⟨s,o,u⟩:=vV q f;exact⟨s::l,by rw[e,o];rfl,λt b=>by rcases List.mem_cons.1 b with rfl|b;exact u;exact a t b⟩
 obtain⟨l,rfl,a⟩:=w;have y:Tryz.prog.bytesOf 9=16:=by kernel_rfl
 have f:=KG;rw[y,oS] at j;exact⟨v,l,i,h,a,by omega⟩
def list5{g:Type}{l:M g}(f:l.length=5):∃a b c d e,l=[a,b,c,d,e]:=by
 match l,f with
 |[a,b,c,d,e],_=>exact⟨a,b,c,d,e,rfl⟩
def list6{h:Type}{l:M h}(g:l.length=6):∃a b c d e f,l=[a,b,c,d,e,f]:=by
 match l,g with
 |[a,b,c,d,e,f],_=>exact⟨a,b,c,d,e,f,rfl⟩
def list1{c:Type}{l:M c}(b:l.length=1):∃a,l=[a]:=by
 match l,b with
 |[a],_=>exact⟨a,rfl⟩
def Wh{m:Nat}{c:M N}{x:U H×M Y}(A:J enc G W 0 (λ_=>K) K m 53 c=I x)(B:∀n∈x.1.weights G 53,n<=O):∃e:Mo.En,c=pO e/\Mw.Zs e:=by
 obtain⟨S,m,-,rfl,y,C,f⟩:=iH ς A;have c1:Tryz.prog.cellsOf 2=1:=by kernel_rfl
 have c2:Tryz.prog.cellsOf 9=1:=by kernel_rfl
 have z:Tryz.prog.cellsOf 53=5:=by kernel_rfl
 rw[z] at y;have D:S.length=5:=C;obtain⟨a0,r,h,d,b,rfl⟩:=list5 y;obtain⟨g,y1,y2,y3,y4,rfl⟩:=list5 D;have i:J enc G W 0 (λ_=>K) K m 9 (V (Tryz.prog.cellsOf 9) [a0,r,h,d,b])=I g:=f 0 _ rfl;rw[c2] at i;replace i:J enc G W 0 (λ_=>K) K m 9 [a0]=I g:=i;have k:J enc G W 0 (λ_=>K) K m 9 (V (Tryz.prog.cellsOf 9) [r,h,d,b])=I y1:=f 1 _ rfl;rw[c2] at k;replace k:J enc G W 0 (λ_=>K) K m 9 [r]=I y1:=k;have l:J enc G W 0 (λ_=>K) K m 9 (V (Tryz.prog.cellsOf 9) [h,d,b])=I y2:=f 2 _ rfl;rw[c2] at l;replace l:J enc G W 0 (λ_=>K) K m 9 [h]=I y2:=l;have o:J enc G W 0 (λ_=>K) K m 9 (V (Tryz.prog.cellsOf 9) [d,b])=I y3:=f 3 _ rfl;rw[c2] at o;replace o:J enc G W 0 (λ_=>K) K m 9 [d]=I y3:=o;have p:J enc G W 0 (λ_=>K) K m 2 (V (Tryz.prog.cellsOf 2) [b])=I y4:=f 4 _ rfl;rw[c1] at p;replace p:J enc G W 0 (λ_=>K) K m 2 [b]=I y4:=p
 have q:∀n∈π G [9,9,9,9,2] [g.1,y1.1,y2.1,y3.1,y4.1],n<=O:=λn a=>by
  refine B n ?_;rw[show(Z G 53 (aj (az (λx=>x.1) [g,y1,y2,y3,y4]):U H))=π G [9,9,9,9,2] [g.1,y1.1,y2.1,y3.1,y4.1] by simp only[Z,ς];rfl];exact a
 obtain⟨F,s,T⟩:=vV i (λn a=>q n (X (j:=0) rfl rfl n a));obtain⟨L,t,a1⟩:=vV k (λn a=>q n (X (j:=1) rfl rfl n a));obtain⟨P,u,a2⟩:=vV l (λn a=>q n (X (j:=2) rfl rfl n a));obtain⟨Q,v,a3⟩:=vV o (λn a=>q n (X (j:=3) rfl rfl n a));obtain⟨E,w,-,R⟩:=ay av p;simp only[p_,nG,nU] at s t u v w;subst s t u v w;exact⟨⟨F,L,P,Q,E⟩,rfl,T,a1,a2,a3,i64_in R⟩
def ents_of{p:Nat}{cs:M N}{x:U H×M Y}(d:J enc G W 0 (λ_=>K) K p 49 cs=I x)(k:∀n∈x.1.weights G 49,n<=O):
 ∃(v:N)(l:M Mo.En),cs=[v]/\Rw W v 5 (l.map pO)/\(∀e∈l,Mw.Zs e)/\l.length<=8796093022208:=by
 obtain⟨v,L,i,h,g,j⟩:=OZ Tryz.underlying49 (sz:=5) (by kernel_rfl) (by omega) d k
 have w:∃l:M Mo.En,L=l.map pO/\∀e∈l,Mw.Zs e:=by
  clear h j i d k
  induction L with
  |nil=>exact⟨[],rfl,λs a=>aA a (by simp)⟩
  |cons c r ih=>obtain⟨l,e,a⟩:=ih (λc z=>g c (oH _ z));obtain⟨-,m,x',q,f⟩:=g c (oL ..);obtain⟨s,o,u⟩:=Wh q f;exact⟨s::l,by rw[e,o];rfl,λt b=>by rcases List.mem_cons.1 b with rfl|b;exact u;exact a t b⟩
 obtain⟨l,rfl,a⟩:=w;have y:Tryz.prog.bytesOf 53=72:=by kernel_rfl
 have f:=KG;rw[y,oS] at j;exact⟨v,l,i,h,a,by omega⟩
def feed_of{m:Nat}{c:M N}{x:U H×M Y}(P:J enc G W 0 (λ_=>K) K m 51 c=I x)(Q:∀n∈x.1.weights G 51,n<=O):∃f:Mo.Fd,vT W f c/\Mw.QZ f:=by
 obtain⟨ab,m,-,rfl,B,R,e⟩:=iH ο P;have c1:Tryz.prog.cellsOf 2=1:=by kernel_rfl
 have c2:Tryz.prog.cellsOf 9=1:=by kernel_rfl
 have E:Tryz.prog.cellsOf 48=1:=by kernel_rfl
 have F:Tryz.prog.cellsOf 49=1:=by kernel_rfl
 have L:Tryz.prog.cellsOf 51=6:=by kernel_rfl
 rw[L] at B;have S:ab.length=6:=R;obtain⟨a0,t,k,g,d,b,rfl⟩:=list6 B;obtain⟨i,y1,y2,y3,y4,y5,rfl⟩:=list6 S;have l:J enc G W 0 (λ_=>K) K m 48 (V (Tryz.prog.cellsOf 48) [a0,t,k,g,d,b])=I i:=e 0 _ rfl;rw[E] at l;replace l:J enc G W 0 (λ_=>K) K m 48 [a0]=I i:=l;have o:J enc G W 0 (λ_=>K) K m 9 (V (Tryz.prog.cellsOf 9) [t,k,g,d,b])=I y1:=e 1 _ rfl;rw[c2] at o;replace o:J enc G W 0 (λ_=>K) K m 9 [t]=I y1:=o;have p:J enc G W 0 (λ_=>K) K m 9 (V (Tryz.prog.cellsOf 9) [k,g,d,b])=I y2:=e 2 _ rfl;rw[c2] at p;replace p:J enc G W 0 (λ_=>K) K m 9 [k]=I y2:=p;have q:J enc G W 0 (λ_=>K) K m 9 (V (Tryz.prog.cellsOf 9) [g,d,b])=I y3:=e 3 _ rfl;rw[c2] at q;replace q:J enc G W 0 (λ_=>K) K m 9 [g]=I y3:=q;have r:J enc G W 0 (λ_=>K) K m 2 (V (Tryz.prog.cellsOf 2) [d,b])=I y4:=e 4 _ rfl;rw[c1] at r;replace r:J enc G W 0 (λ_=>K) K m 2 [d]=I y4:=r;have s:J enc G W 0 (λ_=>K) K m 49 (V (Tryz.prog.cellsOf 49) [b])=I y5:=e 5 _ rfl;rw[F] at s;replace s:J enc G W 0 (λ_=>K) K m 49 [b]=I y5:=s
 have h:∀n∈π G [48,9,9,9,2,49] [i.1,y1.1,y2.1,y3.1,y4.1,y5.1],n<=O:=λn a=>by
  refine Q n ?_;rw[show(Z G 51 (aj (az (λx=>x.1) [i,y1,y2,y3,y4,y5]):U H))=π G [48,9,9,9,2,49] [i.1,y1.1,y2.1,y3.1,y4.1,y5.1] by simp only[Z,ο];rfl];exact a
 obtain⟨af,T,u,a5,C,a2⟩:=strs_of l (λn a=>h n (X (j:=0) rfl rfl n a));obtain⟨a7,v,ac⟩:=vV o (λn a=>h n (X (j:=1) rfl rfl n a));obtain⟨a8,w,ad⟩:=vV p (λn a=>h n (X (j:=2) rfl rfl n a));obtain⟨a9,y,ae⟩:=vV q (λn a=>h n (X (j:=3) rfl rfl n a));obtain⟨a3,z,-,aa⟩:=ay av r;obtain⟨ag,a1,A,a6,D,a4⟩:=ents_of s (λn a=>h n (X (j:=5) rfl rfl n a));simp only[p_,nG,nU] at u v w y z A;subst u v w y z A;exact⟨⟨T,a7,a8,a9,a3,a1⟩,⟨_,_,rfl,a5,a6⟩,⟨ac,ad,ae,a2,C,a4,D,i64_in aa⟩⟩
def arch_of{Q:Nat}{cs:M N}{x:U H×M Y}(w:J enc G W 0 (λ_=>K) K Q 24 cs=I x)(E:∀n∈x.1.weights G 24,n<=O):
 ∃(v:N)(a:M Mo.Fd),cs=[v]/\rY W v a/\Mw.IA a:=by
 obtain⟨a5,m,-,rfl,o,a3,C⟩:=iH Ω w;have c1:Tryz.prog.cellsOf 22=1:=by kernel_rfl
 have P:Tryz.prog.cellsOf 24=1:=by kernel_rfl
 rw[P] at o;have a4:a5.length=1:=a3;obtain⟨a0,rfl⟩:=list1 o;obtain⟨d,rfl⟩:=list1 a4;have b:J enc G W 0 (λ_=>K) K m 22 (V (Tryz.prog.cellsOf 22) [a0])=I d:=C 0 _ rfl;rw[c1] at b;replace b:J enc G W 0 (λ_=>K) K m 22 [a0]=I d:=b
 have F:∀n∈π G [22] [d.1],n<=O:=λn p=>by
  refine E n ?_;rw[show(Z G 24 (aj (az (λx=>x.1) [d]):U H))=π G [22] [d.1] by simp only[Z,Ω];rfl];exact p
 obtain⟨v,L,B,A,y,D⟩:=OZ Tryz.underlying22 (sz:=6) (by kernel_rfl) (by omega) b (λn p=>F n (X (j:=0) rfl rfl n p))
 have S:∃l:M Mo.Fd,L.length=l.length/\(∀j(h:j<l.length)(z:j<L.length),vT W l[j] L[j])/\∀f∈l,Mw.QZ f:=by
  clear A D B w F b C o E
  induction L with
  |nil=>exact⟨[],rfl,λj h=>aA h (by simp),λs q=>aA q (by simp)⟩
  |cons c r ih=>
   obtain⟨l,e,q,T⟩:=ih (λc a2=>y c (oH _ a2));obtain⟨-,m,x',g,i⟩:=y c (oL ..);obtain⟨f,k,R⟩:=feed_of g i;refine⟨f::l,by simp[e],λj h z=>?_,λt u=>by rcases List.mem_cons.1 u with rfl|u;exact R;exact T t u⟩
   cases j with
   |zero=>exact k
   |succ j=>exact q j (by simpa using h) (by simpa using z)
 obtain⟨l,g,i,k⟩:=S;have a1:Tryz.prog.bytesOf 51=104:=by kernel_rfl
 have a6:=KG;rw[a1,g] at D;exact⟨v,l,B,⟨L,g,A,i⟩,⟨by omega,k⟩⟩
def Ra{v:N}{d:U H}{p:M Y}{base:Nat}(c:Value.okWide G W .any base 24 v)(e:DataW.Trod enc G W 0 (λ_=>K) K 24 v d p){ts:M aE}{ds:M (U H)}{j:Nat}(k:ts[j]?=I 24)(h:ds[j]?=I d)(m:(π G ts ds).all (· <=O)=K):
 ∃(x:N)(a:M Mo.Fd),v= .agg #[x]/\rY W x a/\Mw.IA a:=by
 obtain⟨q,i⟩:=e;have o:∀n∈d.weights G 24,n<=O:=λn l=>by simpa using List.all_eq_true.1 m n (X k h n l)
 obtain⟨cs,rfl,-⟩:∃cs,v= .agg cs/\True:=by unfold Value.okWide at c;rw[Ω] at c;obtain⟨cs,b,-⟩:=c;exact⟨cs,b,trivial⟩
 obtain⟨x,a,g,b,f⟩:=arch_of i o;refine⟨x,a,?_,b,f⟩;have:cs.toList=(#[x]:Array N).toList:=by simpa [Value.cells] using g
 rw[Array.toList_inj.1 this]
end
end StO
end Go.Proofs.YthbhmjdcfocphaaGreatDoor
