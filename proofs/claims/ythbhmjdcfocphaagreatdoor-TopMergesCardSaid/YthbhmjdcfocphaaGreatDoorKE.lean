/- A part of this proof. -/
import Derived.Test.YthbhmjdcfocphaaGreatDoorKN
import Derived.Test.YthbhmjdcfocphaaGreatDoorKV
set_option linter.all false
set_option maxHeartbeats 16000000
set_option maxRecDepth 100000
namespace Go.Proofs.YthbhmjdcfocphaaGreatDoor
open Go.Value renaming string→Y, slice→I, pointer→ε, int→G
open Go.Obj renaming cells→ζ
open Go.Ending renaming returned→η
open Go.IntKind renaming i64→H
open Go.Lib renaming hid→N, fields→aN, run_eql_slice_nil→aP, validD→aQ
open Go renaming Value→U, World→Z, TypeId→ah, Calls→aj, bytes→aC, maxLen→aG, TypeInfo→aR, Program→aW
open _root_ renaming ByteArray→ξ, List→O, Nat→X, absurd→ο, Option→aE, Int→aI
open Option renaming none→J, some→V
open _root_.ByteArray renaming empty→χ
open Bool renaming false→E, true→aA
open Go.Proofs.Tryz renaming prog→Θ, underlying107→ay, underlying105→aK, underlying104→aL, utf8_ValidString→aO, ntmps167→aS, ntmps108→aT, func167→aU, func108→aV
open Go.RowKit renaming Below→Ξ
open And renaming intro→Ω
open Rw renaming lt_of_heap→av
open Go.Value renaming string→az, ownBlock→aH, oneCell'→aM
open Rw.Rw renaming nil→aJ, uT→aX
namespace Me
open RowKit Rw Vf
def A7{P:aW}(w:Z)(base j:X)(t ty e:ah)(i:aR)(z:U)(size aC:X)(h:P.underlying t=V (.slice e))(f:P.info? e=V i)(K:i.zero=V z)
 (D:i.size=size) (y:i.bytes=aC) (L:z.cells.size=size) (F:0<size)
 (v:U) (n:X) (c:O U) (d:w.ownsRow base e size v n c)
 (x:U) (m:X) (a:O U) (b:w.ownsRow j e size x m a) (k:∀u∈a,u.oneCell'=aA)
 (r:n+m<=aG) (A:(n+m)*aC<=140737488355328) (s:base<=w.heap.size):
 ∃v' w',(Builtin.append_ #[t,t] ty #[v,x]).run P w= .ok v' w'/\w'.ownsRow base e size v' (n+m) (c++a)/\w.grownBy w' v.ownBlock/\(v'.ownBlock=v.ownBlock\/v'.ownBlock=V w.heap.size):=by
 rcases b.2 with⟨rfl,rfl⟩|⟨g,cap,M,rfl,Q,W,a0,R,T,a1⟩
 ·have B:a=[]:=oK (by simpa using b.1)
  subst B;refine⟨v,w,run_append_owned_none w base t ty e i size h f v n c d,?_,⟨rfl,rfl,rfl,oZ _,λ_ _ _=>rfl⟩,.inl rfl⟩;rw[nC];exact d
 ·obtain⟨v',w',C,o,p,_,q⟩:=run_append_own_at (P:=P) w base t ty e i z size aC h f K D y L F v n c d ⟨g,0,J⟩ m cap a b.1 (b.cells (g:=g) rfl) k r A s
  exact⟨v',w',C,o,p,q⟩
def Ce{P:aW}(w:Z){o:Oper}{a:Act}{K:Act->Z->Prop}{Q:Exit->Act->Z->Prop}(s x:Operand)(t:ah)
 (B:o.op= .call {callee:= .builtin .append,args:=#[s,x],argTypes:=#[t,t]})
 (base d:X) (e:ah) (i:aR) (z:U) (size aC:X) (R:P.underlying t=V (.slice e)) (A:P.info? e=V i) (a0:i.zero=V z)
 (L:i.size=size) (r:i.bytes=aC) (a1:z.cells.size=size) (M:0<size)
 (v:U) (n:X) (c:O U) (F:a.eval s=v) (C:w.ownsRow base e size v n c)
 (x':U) (m:X) (b:O U) (T:a.eval x=x') (W:w.ownsRow d e size x' m b) (g:∀u∈b,u.oneCell'=aA)
 (p:n+m<=aG) (y:(n+m)*aC<=140737488355328) (q:base<=w.heap.size)
 (f:∀v' w',w'.ownsRow base e size v' (n+m) (c++b)->w.grownBy w' v.ownBlock->(v'.ownBlock=v.ownBlock\/v'.ownBlock=V w.heap.size)->K (a.put o.dst v') w'):o.wp P a w K Q:=by
 obtain⟨v',w',D,h,j,k⟩:=A7 (P:=P) w base d t o.type e i z size aC R A a0 L r a1 M v n c C x' m b W g p y q;unfold Oper.wp execOp;simp only[B,resolve,invoke,builtin,kW,kX,l6,kY,ou,mU,F,T,D];exact f v' w' h j k
def qX{P:aW}(w:Z){ops:Array Oper}{f:O Oper}{o:Oper}{a:Act}{Q:Exit->Act->Z->Prop}(C:o.guard=J)(s x:Operand)(t:ah)
 (F:o.op= .call {callee:= .builtin .append,args:=#[s,x],argTypes:=#[t,t]})
 (base d:X) (e:ah) (i:aR) (z:U) (size aC:X) (T:P.underlying t=V (.slice e)) (D:P.info? e=V i) (a1:i.zero=V z)
 (M:i.size=size) (A:i.bytes=aC) (a2:z.cells.size=size) (R:0<size)
 (v:U) (n:X) (c:O U) (L:a.eval s=v) (K:w.ownsRow base e size v n c)
 (x':U) (m:X) (b:O U) (W:a.eval x=x') (a0:w.ownsRow d e size x' m b) (h:∀u∈b,u.oneCell'=aA)
 (q:n+m<=aG) (B:(n+m)*aC<=140737488355328) (y:base<=w.heap.size)
 (g:∀v' w',w'.ownsRow base e size v' (n+m) (c++b)->w.grownBy w' v.ownBlock->(v'.ownBlock=v.ownBlock\/v'.ownBlock=V w.heap.size)->wpList P ops Q f (a.put o.dst v') w'):wpList P ops Q (o::f) a w:=
 iZ C λ_ r=>Ce w s x t F base d e i z size aC T D a1 M A a2 R v n c L K x' m b W a0 h q B y λv' w' j k p=>r _ _ (g v' w' j k p)
def q_{P:aW}(w:Z){ops:Array Oper}{o:Oper}{a:Act}{K:Act->Z->Prop}{Q:Exit->Act->Z->Prop}{f:Prop}(r:o.guard=J)(s x:Operand)(t:ah)
 (A:o.op= .call {callee:= .builtin .append,args:=#[s,x],argTypes:=#[t,t]})
 (base d:X) (e:ah) (i:aR) (z:U) (size aC:X) (L:P.underlying t=V (.slice e)) (y:P.info? e=V i) (W:i.zero=V z)
 (D:i.size=size) (p:i.bytes=aC) (a0:z.cells.size=size) (F:0<size)
 (v:U) (n:X) (c:O U) (C:a.eval s=v) (B:w.ownsRow base e size v n c)
 (x':U) (m:X) (b:O U) (R:a.eval x=x') (T:w.ownsRow d e size x' m b) (h:∀u∈b,u.oneCell'=aA)
 (j:n+m<=aG) (q:(n+m)*aC<=140737488355328) (k:base<=w.heap.size)
 (g:∀v' w',w'.ownsRow base e size v' (n+m) (c++b)->w.grownBy w' v.ownBlock->(v'.ownBlock=v.ownBlock\/v'.ownBlock=V w.heap.size)->K (a.put o.dst v') w'):
 if Region.wanted o (yielded ops a.tmps)=aA then Oper.wp P o a w K Q else f:=by
 have M:Region.wanted o (yielded ops a.tmps)=aA:=by simp[Region.wanted,r]
 rw[oD M];exact Ce w s x t A base d e i z size aC L y W D p a0 F v n c C B x' m b R T h j q k g
def Q3{w:Z}{base b n size:X}{t:ah}{cs:O U}(c:w.heap[b]?=V (Obj.cells cs.toArray t (0,0)))(d:base<=b)(a:cs.length=n*size)(e:n<=aG):w.ownsRow base t size (I (V ⟨b,0,J⟩) n n) n cs:=
 ⟨a,.inr ⟨b,n,cs.toArray,rfl,d,c,oZ _,e,by simpa using a,by rw[<-a];simp⟩⟩
def zw{w:Z}{base n size:X}{t:ah}{v:U}{b:O U}(x:Obj)(a:w.ownsRow base t size v n b):(w.alloc x).ownsRow base t size v n b:=
 qj a λg d=>by obtain⟨e,c⟩:=qH a d;exact heap_alloc_old w x (av c)
def BG{w:Z}{base b size:X}{t:ah}(a:w.heap[b]?=V (Obj.cells #[] t (0,0)))(c:base<=b):w.ownsRow base t size (I (V ⟨b,0,J⟩) 0 0) 0 []:=
 ⟨by simp,.inr ⟨b,0,#[],rfl,c,a,oZ _,by unfold aG;omega,by simp,by simp⟩⟩
def qI{u w c:Z}{S:X}{row:aE X}(b:w.grownBy c row)(a:Ξ S u w)(f:∀k,row=V k->S<=k)(g:S<=w.heap.size):Ξ S u c:=
 ⟨b.os.trans a.os,b.tape.trans a.tape,b.output.trans a.output,pF a.size b.size,λk d=>(b.block k (by omega) (λe=>by have:=f k e.symm;omega)).trans (a.block k d)⟩
def Agree(S:X)(w w':Z)(row:aE X):Prop:=∀k,S<=k->k<w.heap.size->V k≠row->w'.heap[k]?=w.heap[k]?
def tG{α:Type}(El:Z->α->O U->Prop)(w:Z)(l:O α)(L:O (O U)):Prop:=L.length=l.length/\∀j(b:j<l.length)(a:j<L.length),El w l[j] L[j]
def Flat(sz:X)(L:O (O U)):Prop:=(∀c∈L,c.length=sz)/\∀u∈L.flatten,u.oneCell'=aA
section
variable {α:Type}{El:Z->α->O U->Prop}{sz S:X}{t:ah}{w w':Z}{v v':U}{l:O α}
def Row(El:Z->α->O U->Prop)(sz:X)(t:ah)(S:X)(w:Z)(v:U)(l:O α):Prop:=
 ∃L,Flat sz L/\w.ownsRow S t sz v l.length L.flatten/\∀w',Agree S w w' v.ownBlock->tG El w' l L
def tG.append{l2:O α}{L M:O (O U)}(a:tG El w l L)(k:tG El w l2 M):tG El w (l++l2) (L++M):=by
 refine⟨by simp[a.1,k.1],λj e d=>?_⟩
 by_cases b:j<l.length
 ·have c:j<L.length:=by rw[a.1];exact b
  rw[n_ b,n_ c];exact a.2 j b c
 ·have c:¬j<L.length:=by rw[a.1];exact b
  rw[nJ (by omega),nJ (by omega)];have:=k.2 (j-l.length) (by simp at e;omega) (by simp at d;rw[a.1] at d;omega);simpa only[a.1] using this
def Flat.append{L M:O (O U)}(d:Flat sz L)(k:Flat sz M):Flat sz (L++M):=by
 refine⟨λc b=>?_,λu a=>?_⟩
 ·rcases List.mem_append.1 b with b|b
  ·exact d.1 c b
  ·exact k.1 c b
 ·rw[ni] at a
  rcases List.mem_append.1 a with a|a
  ·exact d.2 u a
  ·exact k.2 u a
def vl{L:O (O U)}(a:∀c∈L,c.length=sz):L.flatten.length=L.length*sz:=by
 induction L with
 |nil=>simp
 |cons c r ih=>rw[kn,o_,ih (λc b=>a c (oH _ b)),a c (oL ..),oJ,k9];omega
def r8{L:O (O U)}(d:∀c∈L,c.length=sz):∀j(b:j<L.length) k,k<sz->L.flatten[j*sz+k]?=L[j][k]?:=by
 induction L with
 |nil=>intro j b;exact ο b (by simp)
 |cons c r ih=>
  intro j b k e;have a:=d c (oL ..);rw[kn]
  cases j with
  |zero=>rw[jX (by omega)];simp
  |succ j=>rw[kT (by rw[a,k9];omega),a,show(j+1)*sz+k-sz=j*sz+k by rw[k9];omega];exact ih (λc a=>d c (oH _ a)) j (by simpa using b) k e
def Row.nil:Row El sz t S w (I J 0 0) []:=
 ⟨[],⟨λc a=>ο a (by simp),λu d=>ο d (by simp)⟩,⟨by simp,.inl ⟨rfl,rfl⟩⟩,λw' _=>⟨rfl,λj b=>ο b (by simp)⟩⟩
def Agree.below(a:Ξ w.heap.size w w'){u:Z}{row:aE X}(k:Agree S w' u row):Agree S w u row:=λi c b d=>(k i c (oQ b a.size) d).trans (a.block i b)
def Row.below(c:Row El sz t S w v l)(b:Ξ w.heap.size w w'):Row El sz t S w' v l:=by obtain⟨L,d,a,e⟩:=c;exact⟨L,d,qj a λg h=>by obtain⟨j,f⟩:=qH a h;exact b.block g (av f),λu i=>e u (Agree.below b i)⟩
def Row.base{T:X}(a:Row El sz t T w v l)(g:S<=T):Row El sz t S w v l:=by obtain⟨L,b,c,d⟩:=a;exact⟨L,b,rK c g,λu h=>d u λk i e f=>h k (by omega) e f⟩
def Row.slice(b:Row El sz t S w v l):∃a c,v=I a l.length c:=by
 obtain⟨L,-,e,-⟩:=b;rcases e.2 with⟨rfl,d⟩|⟨g,cap,f,rfl,_⟩
 ·exact⟨J,0,by rw[d]⟩
 ·exact⟨_,_,rfl⟩
def Row.appended{L M:O (O U)}{l2:O α}(j:Flat sz L)(i:∀w',Agree S w w' v.ownBlock->tG El w' l L)(m:Flat sz M)(n:∀w',Agree S w w' v.ownBlock->tG El w' l2 M)
 (g:w'.ownsRow S t sz v' (l.length+l2.length) (L.flatten++M.flatten)) (d:w.grownBy w' v.ownBlock) (p:v'.ownBlock=v.ownBlock\/v'.ownBlock=V w.heap.size):Row El sz t S w' v' (l++l2):=by
 refine⟨L++M,j.append m,by rw[ni,o_];exact g,λu o=>?_⟩
 have c:Agree S w u v.ownBlock:=λk h a b=>by
  rw[<-d.block k a b];refine o k h (oQ a d.size) ?_;rcases p with e|e
  ·rw[e];exact b
  ·rw[e];intro f;cases f;omega
 exact(i u c).append (n u c)
def Row.rw(d:Row El sz t S w v l):∃L,Rw w v sz L/\L.length=l.length/\Flat sz L/\tG El w l L:=by obtain⟨L,a,e,f⟩:=d;have b:=f w (λ_ _ _ _=>rfl);exact⟨L,aX e b.1 (λj c k g=>r8 a.1 j c k g) (λj c=>a.1 _ (pq c)),b.1,a,b⟩
end
def qY{w:Z}{v:U}{sz:X}{L:O (O U)}(a:Rw w v sz L):v.oneCell'=aA:=by obtain⟨g,c,b,cap,rfl,-,-⟩:=a;rfl
def Jv_one{w:Z}{j:Jv.J}{cs:O U}(c:Jv w j cs):∀u∈cs,u.oneCell'=aA:=by
 have d:∀(k:aI)(b:Bool)(n:aI)(s:ξ)(i m:U)(a:aI),i.oneCell'=aA->m.oneCell'=aA->∀u∈qh k b n s i m a,u.oneCell'=aA:=by
  intro k b n s i m a g h u f;simp only[qh,ox,oy,nw] at f;rcases f with rfl|rfl|rfl|rfl|rfl|rfl|rfl
  all_goals first|rfl|assumption
 cases j<;>unfold Jv at c
 ·obtain⟨p,rfl⟩:=c;exact d _ _ _ _ _ _ _ rfl rfl
 ·obtain⟨p,rfl⟩:=c;exact d _ _ _ _ _ _ _ rfl rfl
 ·obtain⟨p,rfl⟩:=c;exact d _ _ _ _ _ _ _ rfl rfl
 ·obtain⟨p,rfl⟩:=c;exact d _ _ _ _ _ _ _ rfl rfl
 ·obtain⟨p,v,L,rfl,e,-⟩:=c;exact d _ _ _ _ _ _ _ (qY e) rfl
 ·obtain⟨p,v,L,rfl,e,-⟩:=c;exact d _ _ _ _ _ _ _ rfl (qY e)
def K7{w:Z}{j:Jv.J}{cs:O U}(a:Jv w j cs):∃k b n s c f c1 d h c2 p,cs=qh k b n s (I c f c1) (I d h c2) p:=by
 cases j<;>unfold Jv at a
 ·obtain⟨p,rfl⟩:=a;exact⟨_,_,_,_,_,_,_,_,_,_,_,rfl⟩
 ·obtain⟨p,rfl⟩:=a;exact⟨_,_,_,_,_,_,_,_,_,_,_,rfl⟩
 ·obtain⟨p,rfl⟩:=a;exact⟨_,_,_,_,_,_,_,_,_,_,_,rfl⟩
 ·obtain⟨p,rfl⟩:=a;exact⟨_,_,_,_,_,_,_,_,_,_,_,rfl⟩
 ·obtain⟨p,v,L,rfl,⟨g,o,e,cap,rfl,-⟩,-⟩:=a;exact⟨_,_,_,_,_,_,_,_,_,_,_,rfl⟩
 ·obtain⟨p,v,L,rfl,⟨g,o,e,cap,rfl,-⟩,-⟩:=a;exact⟨_,_,_,_,_,_,_,_,_,_,_,rfl⟩
def yL(S:X)(w:Z)(j:Jv.J)(c:O U):Prop:=∀w',Agree S w w' J->Jv w' j c
def yL.len{S:X}{w:Z}{j:Jv.J}{c:O U}(a:yL S w j c):c.length=7:=Jv_len (a w λ_ _ _ _=>rfl)
def yL.one{S:X}{w:Z}{j:Jv.J}{c:O U}(a:yL S w j c):∀u∈c,u.oneCell'=aA:=Jv_one (a w λ_ _ _ _=>rfl)
def yL.form{S:X}{w:Z}{j:Jv.J}{c:O U}(e:yL S w j c):∃k b n s a f c1 d g c2 p,c=qh k b n s (I a f c1) (I d g c2) p:=K7 (e w λ_ _ _ _=>rfl)
def yL.below{S:X}{w w':Z}{j:Jv.J}{c:O U}(a:yL S w j c)(b:Ξ w.heap.size w w'):yL S w' j c:=λu d=>a u (Agree.below b d)
def yL.base{S T:X}{w:Z}{j:Jv.J}{c:O U}(a:yL T w j c)(g:S<=T):yL S w j c:=λu e=>a u λk f b d=>e k (by omega) b d
def yL.str{S:X}{w:Z}(s:ξ):yL S w (.str s) (qh 3 E 0 s rG rG 0):=λu _=>by unfold Jv;exact⟨0,rfl⟩
def yL.int{S:X}{w:Z}(n:aI):yL S w (.int n) (qh 2 E n ⟨#[]⟩ rG rG 0):=λu _=>by unfold Jv;exact⟨0,rfl⟩
def yL.apart{S T:X}{w w':Z}{j:Jv.J}{c:O U}{row:aE X}(a:yL T w j c)(h:S<=T)(f:∀k,row=V k->k<T)(d:Agree S w w' row):Jv w' j c:=
 a w' λk g b _=>d k (by omega) b (λe=>by have:=f k e.symm;omega)
def tG.one{α:Type}{El:Z->α->O U->Prop}{w:Z}{x:α}{c:O U}(a:El w x c):tG El w [x] [c]:=⟨rfl,λj b d=>by
 obtain rfl:j=0:=by simpa using b
 exact a⟩
def Flat.one{sz:X}{c:O U}(d:c.length=sz)(e:∀u∈c,u.oneCell'=aA):Flat sz [c]:=⟨λx b=>by simp at b;rw[b];exact d,λu a=>by simp at a;exact e u a⟩
def tG.jl{w:Z}{l:O Jv.J}{L:O (O U)}(a:tG Jv w l L):Ny w l L:=Xk a.1 a.2
def tG.jm{w:Z}{l:O (ξ×Jv.J)}{L:O (O U)}(a:tG BQ w l L):Nz w l L:=Xl a.1 a.2
abbrev gM(S:X)(w:Z)(v:U)(l:O Jv.J):Prop:=Row Jv 7 107 S w v l
abbrev My(S:X)(w:Z)(v:U)(l:O (ξ×Jv.J)):Prop:=Row BQ 9 156 S w v l
def qq{w:Z}{S sz n:X}{t:ah}{v:U}{e:O U}(b:w.ownsRow S t sz v n e){g:X}(a:v.ownBlock=V g):S<=g/\g<w.heap.size:=by
 rcases b.2 with⟨rfl,-⟩|⟨h,cap,f,rfl,c,d,_⟩
 ·cases a
 ·cases a;exact⟨c,av d⟩
def vJ{w u:Z}{S sz n:X}{t:ah}{v:U}{c:O U}(a:w.ownsRow S t sz v n c)(d:Agree S w u J):u.ownsRow S t sz v n c:=
 qj a λg b=>d g (qq a b).1 (qq a b).2 (by simp)
def yL.arr{S T:X}{w w':Z}{v e:U}{l:O Jv.J}{L:O (O U)}(f:Flat 7 L)(r:L.length=l.length)(m:∀u,Agree S w u v.ownBlock->tG Jv u l L)(o:Ξ w.heap.size w w')(p:w'.ownsRow T 107 7 e l.length L.flatten)(n:S<=T):yL S w' (.arr l) (qh 4 E 0 ⟨#[]⟩ e rG 0):=λu g=>by
 have h:=vJ (rK p n) g;have i:=m u (Agree.below o λk a b c=>g k a b (by simp));unfold Jv;exact⟨0,e,L,rfl,aX h r (λj d k q=>r8 f.1 j d k q) (λj d=>f.1 _ (pq d)),i.jl⟩
def yL.obj{S T:X}{w w':Z}{v e:U}{l:O (ξ×Jv.J)}{L:O (O U)}(f:Flat 9 L)(r:L.length=l.length)(m:∀u,Agree S w u v.ownBlock->tG BQ u l L)(o:Ξ w.heap.size w w')(p:w'.ownsRow T 156 9 e l.length L.flatten)(n:S<=T):yL S w' (.obj l) (qh 5 E 0 ⟨#[]⟩ rG e 0):=λu g=>by
 have h:=vJ (rK p n) g;have i:=m u (Agree.below o λk a b c=>g k a b (by simp));unfold Jv;exact⟨0,e,L,rfl,aX h r (λj d k q=>r8 f.1 j d k q) (λj d=>f.1 _ (pq d)),i.jm⟩
def GR(s:ξ)(w:Z):aj Θ 107 #[Y s] w λe w'=>e=η (.agg #[G H 3,.bool E,G H 0,Y s,I J 0 0,I J 0 0,G H 0])/\Ξ w.heap.size w w':=by
 go_enter Tryz.func107,Tryz.ntmps107
 go_wp2_with fail
 refine ow (nL rfl _ _ w.heap.size _ _ _ _ rfl (pG _ _) ay rfl (by kernel_rfl)) rfl ?_;exact⟨rfl,pM _ _⟩
def Km(n:aI)(w:Z):aj Θ 55 #[G H n] w λe w'=>e=η (.agg #[G H 2,.bool E,G H n,Y ⟨#[]⟩,I J 0 0,I J 0 0,G H 0])/\Ξ w.heap.size w w':=by
 go_enter Tryz.func55,Tryz.ntmps55
 go_wp2_with fail
 refine ow (nL rfl _ _ w.heap.size _ _ _ _ rfl (pG _ _) ay rfl (by kernel_rfl)) rfl ?_;exact⟨rfl,pM _ _⟩
def pS{B g:X}{a w:Z}(b:Ξ B a w)(c:B<=g)(cs:Array U):Ξ B a (w.setRow g cs):=
 b.trans ⟨rfl,rfl,rfl,by simp[World.setRow],λk d=>oo w g k cs (by omega)⟩
def qP{w:Z}{base n size:X}{e:ah}{v:U}{d:O U}(b:w.ownsRow base e size v n d):∃a c,v=I a n c:=by
 rcases b.2 with⟨rfl,rfl⟩|⟨g,cap,f,rfl,_⟩
 ·exact⟨J,0,rfl⟩
 ·exact⟨_,cap,rfl⟩
def Ec(key:ξ)(k:aI)(b:Bool)(n:aI)(s:ξ)(a:aE Addr)(d c1:X)(c:aE Addr)(f c2:X)(p:aI)(w:Z):
 aj Θ 105 #[Y key,.agg #[G H k,.bool b,G H n,Y s,I a d c1,I c f c2,G H p]] w λe w'=>e=η (.agg #[Y key,G H k,.bool b,G H n,Y s,I a d c1,I c f c2,G H p,G H 0])/\Ξ w.heap.size w w':=by
 show aj Θ 105 #[Y key,.agg #[G H k,.bool b,G H n,Y s,I a d c1,I c f c2,G H p]] w _
 go_enter Tryz.func105,Tryz.ntmps105
 go_wp2_with fail
 refine ow (nL rfl _ _ (w.heap.size+1) _ _ _ _ rfl (lV _ _ _) Tryz.underlying156 rfl (by kernel_rfl)) rfl ?_;exact⟨rfl,(pM _ _).alloc (pM w _).size _⟩
def uP{t:ah}{s b:X}(a:(Tryz.prog.info? t).map (λi=>(i.zero.map (λz=>z.cells.size),i.size,i.bytes))=V (V s,s,b)):∃i z,Tryz.prog.info? t=V i/\i.zero=V z/\i.size=s/\i.bytes=b/\z.cells.size=s:=by
 cases e:Tryz.prog.info? t with
 |none=>rw[e] at a;cases a
 |some i=>
  rw[e] at a;simp only[jd,nk,mT] at a;obtain⟨c,f,g⟩:=a
  cases d:i.zero with
  |none=>rw[d] at c;cases c
  |some z=>rw[d] at c;simp only[jd,nk] at c;exact⟨i,z,rfl,d,f,g,c⟩
def Ml:(Tryz.prog.info? 107).map (λi=>(i.zero.map (λz=>z.cells.size),i.size,i.bytes))=V (V 7,7,96):=by kernel_rfl
def VZ:(Tryz.prog.info? 156).map (λi=>(i.zero.map (λz=>z.cells.size),i.size,i.bytes))=V (V 9,9,120):=by kernel_rfl
def Ue(v:U)(n base:X)(b:O U)(W:Z)(d:W.ownsRow base 107 7 v n b)(h:∀u∈b,u.oneCell'=aA)(T:n<=1000000):
 aj Θ 108 #[v] W λe w'=>(∃m,e=η m/\w'.ownsRow W.heap.size 107 7 m n b)/\Ξ W.heap.size W w':=by
 have a0:∀(w:Z)(a:aE Addr)(n c:X),(binOp .eql 104 (I a n c) (I J 0 0)).run Θ w= .ok (.bool a.isNone) w:=λw a n c=>aP w _ _ a n c 0 0 aL
 rcases d.2 with⟨rfl,rfl⟩|⟨g,cap,Q,rfl,R,x,A⟩
 ·have C:b=[]:=oK (by simpa using d.1)
  go_enter aV,aT
  go_wp2_with fail
  go_ret;exact⟨⟨_,rfl,by rw[C];exact⟨rfl,.inl ⟨rfl,rfl⟩⟩⟩,pH _ _⟩
 ·have f:=N (pM W (ζ #[] 107))
  have q:=N (zw (ζ #[] 107) d);have p:=N (BG (base:=W.heap.size) (size:=7) (pG W (ζ #[] 107)) (oZ _));have s:=N h;clear d x A h;obtain⟨M,P,y,D,F,K,L⟩:=uP Ml
  go_enter aV,aT
  go_wp2_with(at_builtin;refine qX _ rfl _ _ 104 rfl W.heap.size base 107 M P 7 96 aL y D F K L (by decide) _ _ _ rfl p.o _ n b rfl q.o s.o ?a3 ?a4 ?a5 ?_)
  case a3=>unfold aG;omega
  case a4=>omega
  case a5=>exact f.o.size
  intro a1 a2 j i B;have o:=N (qI i f.o (λk z=>by cases z;exact oZ _) f.o.size);have r:=N j;clear i j B
  go_wp2_with fail
  go_ret;exact⟨⟨_,rfl,r.o⟩,o.o⟩
def Uf(v:U)(n base:X)(b:O U)(W:Z)(d:W.ownsRow base 156 9 v n b)(h:∀u∈b,u.oneCell'=aA)(T:n<=1000000):
 aj Θ 167 #[v] W λe w'=>(∃m,e=η m/\w'.ownsRow W.heap.size 156 9 m n b)/\Ξ W.heap.size W w':=by
 have a0:∀(w:Z)(a:aE Addr)(n c:X),(binOp .eql 105 (I a n c) (I J 0 0)).run Θ w= .ok (.bool a.isNone) w:=λw a n c=>aP w _ _ a n c 0 0 aK
 rcases d.2 with⟨rfl,rfl⟩|⟨g,cap,Q,rfl,R,x,A⟩
 ·have C:b=[]:=oK (by simpa using d.1)
  go_enter aU,aS
  go_wp2_with fail
  go_ret;exact⟨⟨_,rfl,by rw[C];exact⟨rfl,.inl ⟨rfl,rfl⟩⟩⟩,pH _ _⟩
 ·have f:=N (pM W (ζ #[] 156))
  have q:=N (zw (ζ #[] 156) d);have p:=N (BG (base:=W.heap.size) (size:=9) (pG W (ζ #[] 156)) (oZ _));have s:=N h;clear d x A h;obtain⟨M,P,y,D,F,K,L⟩:=uP VZ
  go_enter aU,aS
  go_wp2_with(at_builtin;refine qX _ rfl _ _ 105 rfl W.heap.size base 156 M P 9 120 aK y D F K L (by decide) _ _ _ rfl p.o _ n b rfl q.o s.o ?a3 ?a4 ?a5 ?_)
  case a3=>unfold aG;omega
  case a4=>omega
  case a5=>exact f.o.size
  intro a1 a2 j i B;have o:=N (qI i f.o (λk z=>by cases z;exact oZ _) f.o.size);have r:=N j;clear i j B
  go_wp2_with fail
  go_ret;exact⟨⟨_,rfl,r.o⟩,o.o⟩
def Ji(v:U)(n base:X)(c:O U)(W:Z)(j:W.ownsRow base 107 7 v n c)(p:∀u∈c,u.oneCell'=aA)(y:n<=1000000):
 aj Θ 56 #[v] W λe w'=>(∃a b,e=η (.agg #[G H 4,.bool E,G H 0,Y ⟨#[]⟩,I a n b,I J 0 0,G H 0])/\w'.ownsRow W.heap.size 107 7 (I a n b) n c)/\Ξ W.heap.size W w':=by
 have i:=N (pG W (ζ #[G H 0,.bool E,G H 0,Y χ,I J 0 0,I J 0 0,G H 0] 107));have f:=N (pM W (ζ #[G H 0,.bool E,G H 0,Y χ,I J 0 0,I J 0 0,G H 0] 107));have h:=N (show W.heap.size<(W.alloc (ζ #[G H 0,.bool E,G H 0,Y χ,I J 0 0,I J 0 0,G H 0] 107)).heap.size from av i.o);have d:=N (Ue v n base c _ (zw (ζ #[G H 0,.bool E,G H 0,Y χ,I J 0 0,I J 0 0,G H 0] 107) j) p y);obtain⟨B,cap,rfl⟩:=qP j;clear j p
 go_enter Tryz.func56,Tryz.ntmps56
 go_wp2_with fail
 change aj _ _ _ (W.alloc (ζ #[G H 0,.bool E,G H 0,Y χ,I J 0 0,I J 0 0,G H 0] 107)) _;generalize W.alloc (ζ #[G H 0,.bool E,G H 0,Y χ,I J 0 0,I J 0 0,G H 0] 107)=D at i f h d|-;refine d.o.mono ?_;rintro e A⟨⟨C,rfl,m⟩,k⟩;have o:=N m;have r:=pR f k;have q:=(k.block _ h.o).trans i.o;obtain⟨a,b,rfl⟩:=qP m;clear m k d
 go_wp2_with(refine oN rfl 107 _ _ rfl W.heap.size #[G H 4,.bool E,G H 0,Y ⟨#[]⟩,I a n b,I J 0 0,G H 0] rfl rfl 107 _ q (by kernel_rfl) rfl (by simp[aM]) ?_)
 go_wp2_with fail
 have z:=og A W.heap.size _ #[G H 4,.bool E,G H 0,Y ⟨#[]⟩,I a n b,I J 0 0,G H 0] _ _ q;refine ow (nL rfl _ _ W.heap.size _ _ _ _ rfl z ay rfl (by kernel_rfl)) rfl ?_;have s:=pS r.o (oZ _) #[G H 4,.bool E,G H 0,Y ⟨#[]⟩,I a n b,I J 0 0,G H 0];exact⟨⟨a,b,rfl,rK (qj o.o λg x=>oo _ _ _ _ (by have:=(qq o.o x).1;have:=h.o;omega)) f.o.size⟩,s⟩
def AI(S:X)(v:U)(l:O Jv.J)(W:Z)(g:gM S W v l)(h:S<=W.heap.size)(i:l.length<=1000000):
 aj Θ 56 #[v] W λe w'=>(∃a b,e=η (.agg #[G H 4,.bool E,G H 0,Y ⟨#[]⟩,I a l.length b,I J 0 0,G H 0])/\yL S w' (.arr l) (qh 4 E 0 ⟨#[]⟩ (I a l.length b) rG 0))/\Ξ W.heap.size W w':=by
 obtain⟨L,d,j,c⟩:=g;refine(Ji v l.length S L.flatten W j d.2 i).mono ?_;rintro e w'⟨⟨a,b,rfl,k⟩,f⟩;exact⟨⟨a,b,rfl,yL.arr d (c W (λ_ _ _ _=>rfl)).1 c f k h⟩,f⟩
def PW(v:U)(n base:X)(c:O U)(W:Z)(j:W.ownsRow base 156 9 v n c)(p:∀u∈c,u.oneCell'=aA)(y:n<=1000000):
 aj Θ 106 #[v] W λe w'=>(∃a b,e=η (.agg #[G H 5,.bool E,G H 0,Y ⟨#[]⟩,I J 0 0,I a n b,G H 0])/\w'.ownsRow W.heap.size 156 9 (I a n b) n c)/\Ξ W.heap.size W w':=by
 have i:=N (pG W (ζ #[G H 0,.bool E,G H 0,Y χ,I J 0 0,I J 0 0,G H 0] 107));have f:=N (pM W (ζ #[G H 0,.bool E,G H 0,Y χ,I J 0 0,I J 0 0,G H 0] 107));have h:=N (show W.heap.size<(W.alloc (ζ #[G H 0,.bool E,G H 0,Y χ,I J 0 0,I J 0 0,G H 0] 107)).heap.size from av i.o);have d:=N (Uf v n base c _ (zw (ζ #[G H 0,.bool E,G H 0,Y χ,I J 0 0,I J 0 0,G H 0] 107) j) p y);obtain⟨B,cap,rfl⟩:=qP j;clear j p
 go_enter Tryz.func106,Tryz.ntmps106
 go_wp2_with fail
 change aj _ _ _ (W.alloc (ζ #[G H 0,.bool E,G H 0,Y χ,I J 0 0,I J 0 0,G H 0] 107)) _;generalize W.alloc (ζ #[G H 0,.bool E,G H 0,Y χ,I J 0 0,I J 0 0,G H 0] 107)=D at i f h d|-;refine d.o.mono ?_;rintro e A⟨⟨C,rfl,m⟩,k⟩;have o:=N m;have r:=pR f k;have q:=(k.block _ h.o).trans i.o;obtain⟨a,b,rfl⟩:=qP m;clear m k d
 go_wp2_with(refine oN rfl 107 _ _ rfl W.heap.size #[G H 5,.bool E,G H 0,Y ⟨#[]⟩,I J 0 0,I a n b,G H 0] rfl rfl 107 _ q (by kernel_rfl) rfl (by simp[aM]) ?_)
 go_wp2_with fail
 have z:=og A W.heap.size _ #[G H 5,.bool E,G H 0,Y ⟨#[]⟩,I J 0 0,I a n b,G H 0] _ _ q;refine ow (nL rfl _ _ W.heap.size _ _ _ _ rfl z ay rfl (by kernel_rfl)) rfl ?_;have s:=pS r.o (oZ _) #[G H 5,.bool E,G H 0,Y ⟨#[]⟩,I J 0 0,I a n b,G H 0];exact⟨⟨a,b,rfl,rK (qj o.o λg x=>oo _ _ _ _ (by have:=(qq o.o x).1;have:=h.o;omega)) f.o.size⟩,s⟩
end Me
namespace Me
open RowKit Rw Vf Mw
def q9{w:Z}{c:O U}{sz:X}{t:ah}(a:c.length=sz):(w.alloc (ζ c.toArray t)).ownsRow w.heap.size t sz (I (V ⟨w.heap.size,0,J⟩) 1 1) 1 c:=
 Q3 (pG w _) (oZ _) (by omega) (by unfold aG;omega)
def AJ{α b:Type}(f:α->b)(l:O α){k:X}(a:k<l.length):(l.take (k+1)).map f=(l.take k).map f++[f l[k]]:=by rw[mM,oW a,nv];rfl
def xw(l:O ξ)(v:U)(W:Z)(D:Rw W v 1 (l.map p_))(am:l.length<=100000):
 aj Θ 54 #[v] W λe w'=>(∃aa,e=η aa/\gM W.heap.size w' aa (l.map Jv.J.str))/\Ξ W.heap.size W w':=by
 obtain⟨g,aZ,aw,cap,rfl,h,P⟩:=qp D;obtain⟨m,s⟩:=pL l.length;rw[s] at h am|-;have C:=N s;have ac:=N h;have af:=N P;obtain⟨ap,aq,Q,a6,a7,a8,a9⟩:=uP Ml;have d:=N (Ω Q (Ω a6 (Ω a7 (Ω a8 a9))));clear D h P s Q a6 a7 a8 a9
 go_enter Tryz.func54,Tryz.ntmps54
 go_wp2_with fail
 go_loopw [3,8] (λo x wr=>∃k:X,k<=m/\x=G H k/\Hid (gM W.heap.size wr o ((l.take k).map Jv.J.str))/\Hid (Ξ W.heap.size W wr)) (λo x _=>m-(intOf x).toNat)
 case atStart=>exact⟨0,oM _,rfl,N Row.nil,N (pH _ _)⟩
 case round=>
  obtain⟨k,aB,rfl,z,i⟩:=hrel
  by_cases an:k<m
  ·obtain rfl:=ac.o (by omega)
   have R:k<l.length:=(by rw[C.o];exact an);have ab:=pI (af.o k R) i.o;have A:=N (AJ Jv.J.str l R);have B:=N (show((l.take k).map Jv.J.str).length=k by simp;omega);generalize l[k]=p at ab A;have aY:(k:aI)<(m:aI):=(by omega);have aF:(0:aI)<=(k:aI):=by omega
   go_wp2_with fail
   refine(GR p _).mono ?_;rintro e b⟨rfl,j⟩;have ad:=pR i j;have a1:=z.o.below j;have n:=pM b (ζ #[G H 3,.bool E,G H 0,Y p,I J 0 0,I J 0 0,G H 0] 107);have f:=pR ad n;have ak:=N (a1.below n);have ai:=N (q9 (w:=b) (c:=qh 3 E 0 p rG rG 0) (sz:=7) (t:=107) rfl);clear j z a1 n ab;obtain⟨L,K,y,F⟩:=ak.o;rw[B.o] at y;have T:∀u∈qh 3 E 0 p rG rG 0,u.oneCell'=aA:=(yL.str (S:=0) (w:=b) p).one;have a:=N (Ω K (Ω y (Ω F T)));clear K y F T
   go_wp2_with(at_builtin;(refine qX _ rfl _ _ 104 rfl W.heap.size b.heap.size 107 ap aq 7 96 aL d.o.1 d.o.2.1 d.o.2.2.1 d.o.2.2.2.1 d.o.2.2.2.2 (by decide) _ k L.flatten rfl a.o.2.1 _ 1 (qh 3 E 0 p rG rG 0) rfl ai.o a.o.2.2.2 ?a3 ?a4 ?a5 ?_))
   case a3=>unfold aG;omega
   case a4=>omega
   case a5=>exact f.o.size
   intro ar au a0 r a2;have ae:=N (qI r f.o (λq ao=>(qq a.o.2.1 ao).1) f.o.size)
   have al:Hid (gM W.heap.size au ar ((l.take (k+1)).map Jv.J.str)):=N (by
    rw[A.o];refine Row.appended (M:=[qh 3 E 0 p rG rG 0]) (l2:=[.str p]) a.o.1 a.o.2.2.1 (Flat.one rfl a.o.2.2.2) (λu aD=>tG.one ?_) ?_ r (by rw[show(b.alloc (ζ #[G H 3,.bool E,G H 0,Y p,I J 0 0,I J 0 0,G H 0] 107)).heap.size=b.heap.size+1 from nI _];exact a2)
    ·unfold Jv;exact⟨0,rfl⟩
    ·rw[B.o];simpa using a0)
   clear a0 r a2
   go_wp2_with fail
   go_roundw
   case rel=>exact⟨k+1,by omega,by go_num,al,ae⟩
   case measure=>simp[intOf];omega
  ·have ax:decide ((k:aI)<(m:aI))=E:=o9 (by omega)
   have ag:Hid (l.take k=l):=N (oP (by rw[C.o];omega))
   go_wp2_with fail
   go_ret;exact⟨⟨_,rfl,by have:=z.o;rw[ag.o] at this;exact this⟩,i.o⟩
def zJ{w:Z}{v:U}{l:O Jv.J}{L:O (O U)}(A:Rw w v 7 L)(r:tG Jv w l L):∃g d o cap,v=I o l.length cap/\(0<l.length->o=V ⟨g,d,J⟩)/\
 ∀j(y:j<l.length)(u:j<L.length),∃k b n s f i c1 h m c2 p,L[j]=qh k b n s (I f i c1) (I h m c2) p/\
  w.cell? ⟨g,d+j*7,J⟩=V (G H k)/\w.cell? ⟨g,d+j*7+1,J⟩=V (.bool b)/\w.cell? ⟨g,d+j*7+2,J⟩=V (G H n)/\w.cell? ⟨g,d+j*7+3,J⟩=V (Y s)/\w.cell? ⟨g,d+j*7+4,J⟩=V (I f i c1)/\w.cell? ⟨g,d+j*7+5,J⟩=V (I h m c2)/\w.cell? ⟨g,d+j*7+6,J⟩=V (G H p):=by
 obtain⟨g,d,o,cap,rfl,B,C⟩:=A;refine⟨g,d,o,cap,by rw[r.1],by rw[<-r.1];exact B,λj y u=>?_⟩;obtain⟨k,b,n,s,f,i,c1,h,m,c2,p,e⟩:=K7 (r.2 j y u)
 have at':∀q(z:q<7),∃x,(qh k b n s (I f i c1) (I h m c2) p)[q]?=V x/\w.cell? ⟨g,d+j*7+q,J⟩=V x:=λq z=>by
  have:=C j u q z;rw[e] at this;exact this
 refine⟨k,b,n,s,f,i,c1,h,m,c2,p,e,?_,?_,?_,?_,?_,?_,?_⟩
 ·obtain⟨x,a,c⟩:=at' 0 (by omega);simp only[qh,mS,nk] at a;subst a;exact c
 ·obtain⟨x,a,c⟩:=at' 1 (by omega);simp only[qh,l7,mS,nk] at a;subst a;exact c
 ·obtain⟨x,a,c⟩:=at' 2 (by omega);simp only[qh,l7,mS,nk] at a;subst a;exact c
 ·obtain⟨x,a,c⟩:=at' 3 (by omega);simp only[qh,l7,mS,nk] at a;subst a;exact c
 ·obtain⟨x,a,c⟩:=at' 4 (by omega);simp only[qh,l7,mS,nk] at a;subst a;exact c
 ·obtain⟨x,a,c⟩:=at' 5 (by omega);simp only[qh,l7,mS,nk] at a;subst a;exact c
 ·obtain⟨x,a,c⟩:=at' 6 (by omega);simp only[qh,l7,mS,nk] at a;subst a;exact c
def Ug(w:Z)(ks:O ξ)(t:ah)(j:X)(a:j<ks.length):(w.alloc (ζ (ks.map az).toArray t)).cell? ⟨w.heap.size,j,J⟩=V (.string ks[j]):=by unfold World.cell?;simp only[pG];simp[a]
abbrev tH(w:Z):Prop:=Lib.TabIs Θ w "strings.asciiSpace" .u8 Lib.asciiSpaceTab
def Uh(s:ξ)(ks:O ξ)(w:Z)(f:s.size<1000)(a:∀(j:X) b,s.data.toList[j]?=V b->b.toNat<128)(c:(aN s.data.toList).map (λl=>(⟨l.toArray⟩:ξ))=ks)(d:tH w):
 aj Θ 104 #[Y s] w λe w'=>e=η (I (V ⟨w.heap.size,0,J⟩) ks.length ks.length)/\w'=w.alloc (ζ (ks.map az).toArray 9):=by
 subst c;have:=Tryz.strings_Fields s w (by omega) a d;rw[oS,mL];exact this
def Xq{α c:Type}(a:O α)(b:O c){k:X}(d:k<a.length)(e:k<b.length):(a.zip b).take (k+1)=(a.zip b).take k++[(a[k],b[k])]:=by rw[mM,oW (by rw[iE];omega),List.getElem_zip];rfl
def Xr(s:ξ)(ks:O ξ)(S:X)(v:U)(l:O Jv.J)(W:Z)(bm:s.size<1000)(bb:∀(j:X) b,s.data.toList[j]?=V b->b.toNat<128)(a6:(aN s.data.toList).map (λl=>(⟨l.toArray⟩:ξ))=ks)(a1:gM S W v l)(aB:ks.length=l.length)(bP:l.length<=1000)(ba:S<=W.heap.size)(bn:∀u,Ξ W.heap.size W u->tH u):
 aj Θ 53 #[Y s,v] W λe w'=>(∃f n,e=η (.agg #[G H 5,.bool E,G H 0,Y ⟨#[]⟩,I J 0 0,I f (ks.zip l).length n,G H 0])/\yL S w' (.obj (ks.zip l)) (qh 5 E 0 ⟨#[]⟩ rG (I f (ks.zip l).length n) 0))/\Ξ W.heap.size W w':=by
 obtain⟨L,i,a,h⟩:=a1;obtain⟨L',bN,bQ,bM,bL⟩:=Row.rw (El:=Jv) ⟨L,i,a,h⟩;have ac:=h W (λ_ _ _ _=>rfl);have b9:=aX a ac.1 (λj P k a6=>r8 i.1 j P k a6) (λj P=>i.1 _ (pq P));obtain⟨g,bs,bK,cap,rfl,au,bd⟩:=zJ b9 ac;clear L' bN bQ bM bL;obtain⟨m,aD⟩:=pL l.length;rw[aD] at au aB bP h|-;have ap:=N aD;have bv:=N au;have bA:=N bd;have bB:=N h;have bu:=N ac.1;have an:=N aB;have b5:=N ba;have aa:=N (pG W (ζ #[G H 0,.bool E,G H 0,Y χ,I J 0 0,I J 0 0,G H 0] 107));have a8:=N (pM W (ζ #[G H 0,.bool E,G H 0,Y χ,I J 0 0,I J 0 0,G H 0] 107));have a9:=N (show W.heap.size<(W.alloc (ζ #[G H 0,.bool E,G H 0,Y χ,I J 0 0,I J 0 0,G H 0] 107)).heap.size from av aa.o);have aY:=N (λu (d:Ξ W.heap.size W u)=>Uh s ks u bm bb a6 (bn u d));obtain⟨bS,bT,bf,bq,br,a7,ag⟩:=uP VZ;have T:=N (Ω bf (Ω bq (Ω br (Ω a7 ag))));clear a i h ac b9 au bd ba bn bm bb a6 aD bf bq br a7 ag
 go_enter Tryz.func53,Tryz.ntmps53
 go_wp2_with fail
 change aj _ _ _ (W.alloc (ζ #[G H 0,.bool E,G H 0,Y χ,I J 0 0,I J 0 0,G H 0] 107)) _;generalize W.alloc (ζ #[G H 0,.bool E,G H 0,Y χ,I J 0 0,I J 0 0,G H 0] 107)=Q at aa a8 a9|-;refine(aY.o _ a8.o).mono ?_;rintro e R⟨rfl,af⟩;rw[aB];have am:=N (λj (P:j<ks.length)=>Ug Q ks 9 j P);rw[<-af] at am;have aw:Ξ Q.heap.size Q R:=by rw[af];exact pM _ _
 have ak:=pR a8 aw;have bJ:=N ((aw.block _ a9.o).trans aa.o);have b4:=N (show Q.heap.size<R.heap.size by rw[af];show _<(Q.heap.push _).size;rw[nI];omega);obtain⟨F,ar⟩:=pL Q.heap.size;have bI:=N (show W.heap.size<F from ar▸a9.o);rw[ar] at am b4|-;clear af aw aa a8 a9 aY ar
 go_wp2_with fail
 go_loopw [5,11] (λo x wr=>∃k:X,k<=m/\x=G H k/\Hid (∃M,Flat 9 M/\wr.ownsRow S 156 9 o k M.flatten/\∀u,Agree S W u (aH (I bK m cap))->tG BQ u ((ks.zip l).take k) M)/\Hid (∀q,o.ownBlock=V q->R.heap.size<=q)/\Hid (Ξ R.heap.size R wr)) (λo x _=>m-(intOf x).toNat)
 case atStart=>exact⟨0,oM _,rfl,N ⟨[],⟨λc bO=>ο bO (by simp),λu d=>ο d (by simp)⟩,⟨by simp,.inl ⟨rfl,rfl⟩⟩,λu _=>⟨rfl,λj P=>ο P (by simp)⟩⟩,N (λq y=>ο y (by simp[aH])),N (pH _ _)⟩
 case round=>
  obtain⟨k,a6,rfl,ae,y,a2⟩:=hrel
  by_cases bj:k<m
  ·obtain rfl:=bv.o (by omega)
   have ad:k<l.length:=(by rw[ap.o];exact bj);have bg:k<L.length:=(by rw[bu.o];exact ad);have bh:k<ks.length:=(by rw[an.o];exact bj);obtain⟨A,vb,B,C,p,z,c1,f,n,c2,vp,b8,aF,y1,y2,y3,y4,y5,y6⟩:=bA.o k ad bg;have r:=pK ak.o a2.o;replace aF:=pI aF r;replace y1:=pI y1 r;replace y2:=pI y2 r;replace y3:=pI y3 r;replace y4:=pI y4 r;replace y5:=pI y5 r;replace y6:=pI y6 r;have x0:=pI (am.o k bh) a2.o;have aq:=N (Xq ks l bh ad);have b3:=N (λu (d:Agree S W u (aH (I (V ⟨g,bs,J⟩) m cap)))=>by have:=(bB.o u d).2 k ad bg;rw[b8] at this;exact this);generalize ks[k]=key at x0 aq;generalize l[k]=bV at aq b3;have bY:(k:aI)<(m:aI):=(by omega);have bX:(0:aI)<=(k:aI):=(by omega);clear b8
   go_wp2_with fail
   refine(Ec key A vb B C p z c1 f n c2 vp _).mono ?_;rintro e D⟨rfl,K⟩;have b0:=pR a2 K;have ax:=pM D (ζ #[Y key,G H A,.bool vb,G H B,Y C,I p z c1,I f n c2,G H vp,G H 0] 156);have al:=pR b0 ax;have bz:=N (pK K ax);have bE:=N (q9 (w:=D) (c:=[az key,G H A,.bool vb,G H B,Y C,I p z c1,I f n c2,G H vp,G H 0]) (sz:=9) (t:=156) rfl);clear K ax r x0 aF y1 y2 y3 y4 y5 y6;obtain⟨M,i,a,h⟩:=ae.o;replace a:=qj a λq y=>bz.o.block q (qq a y).2
   clear ae
   have bk:∀u∈[az key,G H A,.bool vb,G H B,Y C,I p z c1,I f n c2,G H vp,G H 0],u.oneCell'=aA:=by intro u d;simp only[ox,oy,nw] at d;rcases d with rfl|rfl|rfl|rfl|rfl|rfl|rfl|rfl|rfl<;>rfl
   have a0:=N (Ω i (Ω a (Ω h bk)));clear i a h bk;have bH:=N (show S<=(D.alloc (ζ #[Y key,G H A,.bool vb,G H B,Y C,I p z c1,I f n c2,G H vp,G H 0] 156)).heap.size from pF b5.o (pF ak.o.size al.o.size))
   go_wp2_with(at_builtin;(refine qX _ rfl _ _ 105 rfl S D.heap.size 156 bS bT 9 120 aK T.o.1 T.o.2.1 T.o.2.2.1 T.o.2.2.2.1 T.o.2.2.2.2 (by decide) _ k M.flatten rfl a0.o.2.1 _ 1 [az key,G H A,.bool vb,G H B,Y C,I p z c1,I f n c2,G H vp,G H 0] rfl bE.o a0.o.2.2.2 ?a3 ?a4 ?a5 ?_))
   case a3=>unfold aG;omega
   case a4=>omega
   case a5=>exact bH.o
   intro bt bU bl be bp;have bw:=N (qI be al.o (λq e=>y.o q e) al.o.size);have bR:(D.alloc (ζ #[Y key,G H A,.bool vb,G H B,Y C,I p z c1,I f n c2,G H vp,G H 0] 156)).heap.size=D.heap.size+1:=nI _
   have bF:Hid (∀q,bt.ownBlock=V q->R.heap.size<=q):=N (λq e=>by
    rcases bp with a1|a1
    ·exact y.o q (a1.symm.trans e)
    ·rw[a1] at e
     cases e;have:=b0.o.size;omega)
   have bG:Hid (∃M,Flat 9 M/\bU.ownsRow S 156 9 bt (k+1) M.flatten/\∀u,Agree S W u (aH (I (V ⟨g,bs,J⟩) m cap))->tG BQ u ((ks.zip l).take (k+1)) M):=N (by refine⟨M++[[az key,G H A,.bool vb,G H B,Y C,I p z c1,I f n c2,G H vp,G H 0]],a0.o.1.append (Flat.one rfl a0.o.2.2.2),by simpa using bl,λu d=>?_⟩;rw[aq.o];refine(a0.o.2.2.1 u d).append (tG.one ?_);unfold BQ;exact⟨_,0,rfl,b3.o u d⟩)
   clear bl be bp bR
   go_wp2_with fail
   go_roundw
   case rel=>exact⟨k+1,by omega,by go_num,bG,bF,bw⟩
   case measure=>simp[intOf];omega
  ·have bW:decide ((k:aI)<(m:aI))=E:=o9 (by omega)
   obtain⟨M,i,a,h⟩:=ae.o;have bi:k=m:=(by omega);rw[bi] at a;have b2:=N (λu d=>by have:=h u d;rw[oP (by rw[iE,an.o,ap.o];omega)] at this;exact this);have ao:=N (show(ks.zip l).length=m by rw[iE,an.o,ap.o];omega);have bC:=N i;have b1:=N (pK ak.o a2.o);have b7:=N ((a2.o.block _ (by have:=bI.o;have:=b4.o;omega)).trans bJ.o);have aZ:=N (PW u5 m S M.flatten wr a i.2 (by omega));clear i a h ae bi
   go_wp2_with fail
   refine aZ.o.mono ?_;rintro e D⟨⟨ab,ai,rfl,bo⟩,K⟩;have a7:=pW K b7.o;have b6:=N bo;have bx:=pR b1 K;have bD:=N (av b7.o);clear bo K aZ
   go_wp2_with(refine oN rfl 107 _ _ rfl W.heap.size #[G H 5,.bool E,G H 0,Y ⟨#[]⟩,I J 0 0,I ab m ai,G H 0] rfl rfl 107 _ a7 (by kernel_rfl) rfl (by simp[aM]) ?_)
   go_wp2_with fail
   have ag:=og D W.heap.size _ #[G H 5,.bool E,G H 0,Y ⟨#[]⟩,I J 0 0,I ab m ai,G H 0] _ _ a7;refine ow (nL rfl _ _ W.heap.size _ _ _ _ rfl ag ay rfl (by kernel_rfl)) rfl ?_;have bc:=pS bx.o (oZ _) #[G H 5,.bool E,G H 0,Y ⟨#[]⟩,I J 0 0,I ab m ai,G H 0];refine⟨⟨ab,ai,by rw[ao.o],?_⟩,bc⟩;rw[ao.o];refine yL.obj bC.o (b2.o W (λ_ _ _ _=>rfl)).1 b2.o bc ?_ (pF b5.o b1.o.size);rw[ao.o];exact qj b6.o λq y=>oo _ _ _ _ (by have:=(qq b6.o y).1;have:=bD.o;omega)
def sE:ξ:=⟨#[105,100,32,116,105,116,108,101,32,108,105,110,107,32,99,111,110,116,101,110,116,32,117,112,100,97,116,101,100]⟩
def sF:ξ:=⟨#[112,97,116,104,32,105,100,32,116,105,116,108,101,32,108,105,110,107,32,117,112,100,97,116,101,100,32,101,110,116,114,105,101,115]⟩
def kE:O ξ:=[Jv.Vz,Jv.wv,Jv.Aq,Jv.xO,Jv.tP]
def kF:O ξ:=[Jv.GO,Jv.Vz,Jv.wv,Jv.Aq,Jv.tP,Jv.xP]
def Ui:(aN sE.data.toList).map (λl=>(⟨l.toArray⟩:ξ))=kE:=by decide+kernel
def Uj:(aN sF.data.toList).map (λl=>(⟨l.toArray⟩:ξ))=kF:=by decide+kernel
def Xt:∀(j:X) b,sE.data.toList[j]?=V b->b.toNat<128:=by
 have a:∀b∈sE.data.toList,b.toNat<128:=by decide+kernel
 exactλj b e=>a b (lX e)
def Xu:∀(j:X) b,sF.data.toList[j]?=V b->b.toNat<128:=by
 have a:∀b∈sF.data.toList,b.toNat<128:=by decide+kernel
 exactλj b e=>a b (lX e)
def Z8(e:Mo.En)(S:X)(v:U)(W:Z)(c:gM S W v [.str e.id,.str e.title,.str e.link,.str e.content,.int e.upd])(d:S<=W.heap.size)(f:∀u,Ξ W.heap.size W u->tH u):
 aj Θ 53 #[Y sE,v] W λx w'=>(∃a b,x=η (.agg #[G H 5,.bool E,G H 0,Y ⟨#[]⟩,I J 0 0,I a 5 b,G H 0])/\yL S w' (Jv.jE e) (qh 5 E 0 ⟨#[]⟩ rG (I a 5 b) 0))/\Ξ W.heap.size W w':=
 Xr sE kE S v _ W (by decide) Xt Ui c rfl (by simp) d f
def aaa(f:Mo.Fd)(S:X)(v:U)(W:Z)(c:gM S W v [.arr (f.path.map .str),.str f.id,.str f.title,.str f.link,.int f.upd,.arr (f.pU.map Jv.jE)])(d:S<=W.heap.size)(e:∀u,Ξ W.heap.size W u->tH u):
 aj Θ 53 #[Y sF,v] W λx w'=>(∃a b,x=η (.agg #[G H 5,.bool E,G H 0,Y ⟨#[]⟩,I J 0 0,I a 6 b,G H 0])/\yL S w' (Jv.jF f) (qh 5 E 0 ⟨#[]⟩ rG (I a 6 b) 0))/\Ξ W.heap.size W w':=
 Xr sF kF S v _ W (by decide) Xu Uj c rfl (by simp) d e
def xQ{w:Z}{x0 x1 x2 x3 x4 x5 x6:U}{t:ah}:(w.alloc (ζ #[x0,x1,x2,x3,x4,x5,x6] t)).cell? ⟨w.heap.size,0,J⟩=V x0/\(w.alloc (ζ #[x0,x1,x2,x3,x4,x5,x6] t)).cell? ⟨w.heap.size,1,J⟩=V x1/\(w.alloc (ζ #[x0,x1,x2,x3,x4,x5,x6] t)).cell? ⟨w.heap.size,2,J⟩=V x2/\(w.alloc (ζ #[x0,x1,x2,x3,x4,x5,x6] t)).cell? ⟨w.heap.size,3,J⟩=V x3/\(w.alloc (ζ #[x0,x1,x2,x3,x4,x5,x6] t)).cell? ⟨w.heap.size,4,J⟩=V x4/\(w.alloc (ζ #[x0,x1,x2,x3,x4,x5,x6] t)).cell? ⟨w.heap.size,5,J⟩=V x5/\(w.alloc (ζ #[x0,x1,x2,x3,x4,x5,x6] t)).cell? ⟨w.heap.size,6,J⟩=V x6:=by unfold World.cell?;simp only[pG];exact⟨rfl,rfl,rfl,rfl,rfl,rfl,rfl⟩
def K8{w:Z}{x0 x1 x2 x3 x4 x5 x6 x7 x8:U}{t:ah}:(w.alloc (ζ #[x0,x1,x2,x3,x4,x5,x6,x7,x8] t)).cell? ⟨w.heap.size,0,J⟩=V x0/\(w.alloc (ζ #[x0,x1,x2,x3,x4,x5,x6,x7,x8] t)).cell? ⟨w.heap.size,1,J⟩=V x1/\(w.alloc (ζ #[x0,x1,x2,x3,x4,x5,x6,x7,x8] t)).cell? ⟨w.heap.size,2,J⟩=V x2/\(w.alloc (ζ #[x0,x1,x2,x3,x4,x5,x6,x7,x8] t)).cell? ⟨w.heap.size,3,J⟩=V x3/\(w.alloc (ζ #[x0,x1,x2,x3,x4,x5,x6,x7,x8] t)).cell? ⟨w.heap.size,4,J⟩=V x4/\(w.alloc (ζ #[x0,x1,x2,x3,x4,x5,x6,x7,x8] t)).cell? ⟨w.heap.size,5,J⟩=V x5/\(w.alloc (ζ #[x0,x1,x2,x3,x4,x5,x6,x7,x8] t)).cell? ⟨w.heap.size,6,J⟩=V x6/\(w.alloc (ζ #[x0,x1,x2,x3,x4,x5,x6,x7,x8] t)).cell? ⟨w.heap.size,7,J⟩=V x7/\(w.alloc (ζ #[x0,x1,x2,x3,x4,x5,x6,x7,x8] t)).cell? ⟨w.heap.size,8,J⟩=V x8:=by unfold World.cell?;simp only[pG];exact⟨rfl,rfl,rfl,rfl,rfl,rfl,rfl,rfl,rfl⟩
def Uk(j:Jv.J)(cs:O U)(w:Z)(d:Jv w j cs):
 aj Θ 234 #[.agg cs.toArray] w λe w'=>e=η (.bool aA)/\Ξ w.heap.size w w':=by
 have key:∀(k:aI)(b:Bool)(n:aI)(s:ξ)(f:aE Addr)(a c1:X)(h:aE Addr)(c c2:X)(p:aI),
  ((k=0/\b=E/\n=0/\s=⟨#[]⟩/\a=0/\c=0)\/(k=1/\n=0/\s=⟨#[]⟩/\a=0/\c=0)\/(k=2/\b=E/\s=⟨#[]⟩/\a=0/\c=0)\/(k=3/\b=E/\n=0/\a=0/\c=0)\/(k=4/\b=E/\n=0/\s=⟨#[]⟩/\c=0)\/(k=5/\b=E/\n=0/\s=⟨#[]⟩/\a=0))->
  aj Θ 234 #[.agg #[G H k,.bool b,G H n,Y s,I f a c1,I h c c2,G H p]] w λe w'=>e=η (.bool aA)/\Ξ w.heap.size w w':=by
  intro k b n s f a c1 h c c2 p q;have i:=N (pM w (ζ #[G H k,.bool b,G H n,Y s,I f a c1,I h c c2,G H p] 107));obtain⟨x0,x1,x2,x3,x4,x5,-⟩:=xQ (w:=w) (x0:=G H k) (x1:= .bool b) (x2:=G H n) (x3:=Y s) (x4:=I f a c1) (x5:=I h c c2) (x6:=G H p) (t:=107);rcases q with⟨rfl,rfl,rfl,rfl,rfl,rfl⟩|⟨rfl,rfl,rfl,rfl,rfl⟩|⟨rfl,rfl,rfl,rfl,rfl⟩|⟨rfl,rfl,rfl,rfl,rfl⟩|⟨rfl,rfl,rfl,rfl,rfl⟩|⟨rfl,rfl,rfl,rfl,rfl⟩
  all_goals
   go_enter Tryz.func234,Tryz.ntmps234
   go_wp2_with fail
   go_ret;exact⟨rfl,i.o⟩
 cases j<;>unfold Jv at d
 ·obtain⟨p,rfl⟩:=d;exact key _ _ _ _ _ _ _ _ _ _ _ (by simp)
 ·obtain⟨p,rfl⟩:=d;exact key _ _ _ _ _ _ _ _ _ _ _ (by simp)
 ·obtain⟨p,rfl⟩:=d;exact key _ _ _ _ _ _ _ _ _ _ _ (by simp)
 ·obtain⟨p,rfl⟩:=d;exact key _ _ _ _ _ _ _ _ _ _ _ (by simp)
 ·obtain⟨p,v,L,rfl,⟨g,o,m,cap,rfl,-⟩,-⟩:=d;exact key _ _ _ _ _ _ _ _ _ _ _ (by simp)
 ·obtain⟨p,v,L,rfl,⟨g,o,m,cap,rfl,-⟩,-⟩:=d;exact key _ _ _ _ _ _ _ _ _ _ _ (by simp)
def BF{w:Z}{v:U}{l:O (ξ×Jv.J)}{L:O (O U)}(F:Rw w v 9 L)(y:tG BQ w l L):∃g f u cap,v=I u l.length cap/\(0<l.length->u=V ⟨g,f,J⟩)/\
 ∀j(z:j<l.length),∃k b n s h o c1 m r c2 p q,Jv w l[j].2 (qh k b n s (I h o c1) (I m r c2) p)/\
  w.cell? ⟨g,f+j*9,J⟩=V (.string l[j].1)/\w.cell? ⟨g,f+j*9+1,J⟩=V (G H k)/\w.cell? ⟨g,f+j*9+2,J⟩=V (.bool b)/\w.cell? ⟨g,f+j*9+3,J⟩=V (G H n)/\w.cell? ⟨g,f+j*9+4,J⟩=V (Y s)/\w.cell? ⟨g,f+j*9+5,J⟩=V (I h o c1)/\w.cell? ⟨g,f+j*9+6,J⟩=V (I m r c2)/\w.cell? ⟨g,f+j*9+7,J⟩=V (G H p)/\w.cell? ⟨g,f+j*9+8,J⟩=V (G H q):=by
 obtain⟨g,f,u,cap,rfl,K,M⟩:=F;refine⟨g,f,u,cap,by rw[y.1],by rw[<-y.1];exact K,λj z=>?_⟩;have A:j<L.length:=by rw[y.1];exact z
 have B:=y.2 j z A;unfold BQ at B;obtain⟨d,q,e,D⟩:=B;obtain⟨k,b,n,s,h,o,c1,m,r,c2,p,rfl⟩:=K7 D
 have at':∀i(C:i<9),∃x,((az l[j].1::qh k b n s (I h o c1) (I m r c2) p)++[Value.int .i64 q])[i]?=V x/\w.cell? ⟨g,f+j*9+i,J⟩=V x:=λi C=>by
  have:=M j A i C;rw[e] at this;exact this
 refine⟨k,b,n,s,h,o,c1,m,r,c2,p,q,D,?_,?_,?_,?_,?_,?_,?_,?_,?_⟩
 ·obtain⟨x,a,c⟩:=at' 0 (by omega);simp[qh] at a;subst a;exact c
 ·obtain⟨x,a,c⟩:=at' 1 (by omega);simp[qh] at a;subst a;exact c
 ·obtain⟨x,a,c⟩:=at' 2 (by omega);simp[qh] at a;subst a;exact c
 ·obtain⟨x,a,c⟩:=at' 3 (by omega);simp[qh] at a;subst a;exact c
 ·obtain⟨x,a,c⟩:=at' 4 (by omega);simp[qh] at a;subst a;exact c
 ·obtain⟨x,a,c⟩:=at' 5 (by omega);simp[qh] at a;subst a;exact c
 ·obtain⟨x,a,c⟩:=at' 6 (by omega);simp[qh] at a;subst a;exact c
 ·obtain⟨x,a,c⟩:=at' 7 (by omega);simp[qh] at a;subst a;exact c
 ·obtain⟨x,a,c⟩:=at' 8 (by omega);simp[qh] at a;subst a;exact c
abbrev U8(w:Z):Prop:=Lib.Utf8Tabs 2 3 w
def PX{mem:O (ξ×Jv.J)}(f:(mem.map (·.1)).Nodup){k:X}(h:k<mem.length):((mem.take k).any λb=>b.1.data.toList==mem[k].1.data.toList)=E:=by
 rw[kj];intro b a;rw[mP] at a;obtain⟨i,j,rfl⟩:=a;have m:i<mem.length:=by omega
 intro e;have c:=eq_of_beq e;have d:mem[i].1=mem[k].1:=Bs.vo c;have g:(mem.map (·.1)).Pairwise (· ≠·):=f;have:=(List.pairwise_iff_getElem.1 g) i k (by rw[oS];omega) (by rw[oS];exact h) (by omega);rw[oG,oG] at this;exact this d
def xg(k d n:aI)(b:Bool)(s:ξ)(l:O Jv.J)(mem:O (ξ×Jv.J))(aY aZ:U)(p:aI)(W:Z)(bN:0<=k/\k<=5)(bK:0<=d/\d<=100)
 (bl:aQ s.data.toList=aA) (bR:s.size<=140737488355327) (L M:O (O U)) (bd:Rw W aY 7 L) (ag:tG Jv W l L) (bO:l.length<=1000000) (be:Rw W aZ 9 M) (bc:tG BQ W mem M) (bP:mem.length<=1000000)
 (bk:(mem.map (·.1)).Nodup) (bj:∀q∈mem,aQ q.1.data.toList=aA/\q.1.size<=140737488355327) (ar:U8 W)
 (af:∀u,Ξ W.heap.size W u->aj Θ 234 #[.agg #[G H k,.bool b,G H n,Y s,aY,aZ,G H p]] u λe w'=>e=η (.bool aA)/\Ξ u.heap.size u w')
 (b9:∀j(bM:j<l.length) k b n s c h c1 f m c2 p u,Ξ W.heap.size W u->Jv W l[j] (qh k b n s (I c h c1) (I f m c2) p)->aj Θ 168 #[.agg #[G H k,.bool b,G H n,Y s,I c h c1,I f m c2,G H p],G H (d+1)] u λe w'=>e=η (.bool aA)/\Ξ u.heap.size u w')
 (b8:∀j(bM:j<mem.length) k b n s c h c1 f m c2 p u,Ξ W.heap.size W u->Jv W mem[j].2 (qh k b n s (I c h c1) (I f m c2) p)->aj Θ 168 #[.agg #[G H k,.bool b,G H n,Y s,I c h c1,I f m c2,G H p],G H (d+1)] u λe w'=>e=η (.bool aA)/\Ξ u.heap.size u w'):
 aj Θ 168 #[.agg #[G H k,.bool b,G H n,Y s,aY,aZ,G H p],G H d] W λe w'=>e=η (.bool aA)/\Ξ W.heap.size W w':=by
 obtain⟨g,cm,b7,cap,rfl,au,bf⟩:=zJ bd ag;obtain⟨ck,cl,bn,bo,rfl,aD,bg⟩:=BF be bc;obtain⟨K,ax⟩:=pL l.length;obtain⟨P,aF⟩:=pL mem.length;rw[ax] at au bO af|-;rw[aF] at aD bP af|-;have bD:=N ax;have bF:=N aF;have bu:=N au;have bE:=N aD;have bx:=N bf;have bz:=N bg;have bC:=N ag.1;have bA:=N ag.2;have bG:=N bk;have bB:=N bj;have bJ:=N ar;have b2:=N af;have bt:=N b9;have bs:=N b8;have D:=N (λu (a7:Ξ W.heap.size W u)=>aO s u (by omega) (Tx.qC ar a7));rw[bl] at D;obtain⟨ci,cj⟩:=bN;obtain⟨bY,bZ⟩:=bK;have ca:decide (k<0)=E:=o9 (by omega);have cb:decide ((5:aI)<k)=E:=o9 (by omega);have cc:decide ((100:aI)<d)=E:=o9 (by omega);have cd:IntKind.i64.wrap (d+1)=d+1:=IntWalk.i64_in _ (by omega);have al:=N (pM W (ζ #[G H k,.bool b,G H n,Y s,I b7 K cap,I bn P bo,G H p] 107));have a5:=xQ (w:=W) (x0:=G H k) (x1:= .bool b) (x2:=G H n) (x3:=Y s) (x4:=I b7 K cap) (x5:=I bn P bo) (x6:=G H p) (t:=107);clear bd ag be bc au aD bf bg ax aF bk bj ar af b9 b8 bl bR;have cg:=@run_makeMap Θ
 go_enter Tryz.func168,Tryz.ntmps168
 obtain⟨x0,x1,x2,x3,x4,x5,x6⟩:=a5
 go_wp2_with fail
 refine(b2.o _ al.o).mono ?_;rintro e cn⟨rfl,y⟩;have am:=pR al y;replace x0:=pI x0 y;replace x1:=pI x1 y;replace x2:=pI x2 y;replace x3:=pI x3 y;replace x4:=pI x4 y;replace x5:=pI x5 y;replace x6:=pI x6 y;clear y al b2
 go_wp2_with fail
 refine(D.o _ am.o).mono ?_;rintro e bq⟨rfl,ai⟩;have an:=pR am ai;replace x4:=pI x4 ai;replace x5:=pI x5 ai;clear ai am D x0 x1 x2 x3 x6
 go_wp2_with fail
 go_loopw [36] (λx wr=>∃i:X,i<=K/\x=G H i/\Hid (Ξ bq.heap.size bq wr)) (λx _=>K-(intOf x).toNat)
 case atStart=>exact⟨0,oM _,rfl,N (pH _ _)⟩
 case round=>
  obtain⟨i,bL,rfl,a6⟩:=hrel
  by_cases aB:i<K
  ·obtain rfl:=bu.o (by omega)
   have r:i<l.length:=(by rw[bD.o];exact aB);have bi:i<L.length:=(by rw[bC.o];exact r);obtain⟨Q,vb,R,T,c,h,c1,f,m,c2,vp,ba,C,y1,y2,y3,y4,y5,y6⟩:=bx.o i r bi;have a0:=bA.o i r bi;rw[ba] at a0;have A:=pK an.o a6.o;replace C:=pI C A;replace y1:=pI y1 A;replace y2:=pI y2 A;replace y3:=pI y3 A;replace y4:=pI y4 A;replace y5:=pI y5 A;replace y6:=pI y6 A;have bU:(i:aI)<(K:aI):=(by omega);have bT:(0:aI)<=(i:aI):=(by omega);have a1:=pM wr (ζ #[G H Q,.bool vb,G H R,Y T,I c h c1,I f m c2,G H vp] 107);have F:=pR a6 a1;have a5:=xQ (w:=wr) (x0:=G H Q) (x1:= .bool vb) (x2:=G H R) (x3:=Y T) (x4:=I c h c1) (x5:=I f m c2) (x6:=G H vp) (t:=107);have a3:=N (bt.o i r Q vb R T c h c1 f m c2 vp _ (pK an.o F.o) a0);clear ba a0 A a1;obtain⟨a2,a8,a9,aa,ab,ac,ad⟩:=a5
   go_wp2_with fail
   refine a3.o.mono ?_;rintro e bW⟨rfl,a⟩;have ae:=pR F a;clear a F a3 a2 a8 a9 aa ab ac ad C y1 y2 y3 y4 y5 y6
   go_wp2_with fail
   go_roundw
   case rel=>exact⟨i+1,by omega,by go_num,ae⟩
   case measure=>simp[intOf];omega
  ·have ce:decide ((i:aI)<(K:aI))=E:=o9 (by omega)
   replace x5:=pI x5 a6.o;have ae:=N (pK an.o a6.o);have ap:=N (Seen.new wr);have aw:=pM wr (.map #[] 0);have b3:=pR ae aw;replace x5:=pI x5 aw;have b6:=N ae.o.size;clear a6 aw x4
   go_wp2_with fail
   obtain⟨B,bb⟩:=pL wr.heap.size;generalize bS:wr.alloc (.map #[] 0)=cq at ap b3 x5|-;rw[bb] at ap b6|-;clear bS bb
   go_loopw [50] (λx br=>∃i:X,i<=P/\x=G H i/\Hid (Seen br B i (λs=>(mem.take i).any λz=>z.1.data.toList==s))/\Hid (Ξ W.heap.size W br)) (λx _=>P-(intOf x).toNat)
   case atStart=>exact⟨0,oM _,rfl,N (ap.o.congr (λs=>by simp)),b3⟩
   case round=>
    obtain⟨i,bL,rfl,bQ,o⟩:=hrel
    by_cases aB:i<P
    ·obtain rfl:=bE.o (by omega)
     have r:i<mem.length:=(by rw[bF.o];exact aB);obtain⟨Q,vb,R,T,c,h,c1,f,m,c2,vp,bp,a0,C,y1,y2,y3,y4,y5,y6,y7,b0⟩:=bz.o i r;replace C:=pI C o.o;replace y1:=pI y1 o.o;replace y2:=pI y2 o.o;replace y3:=pI y3 o.o;replace y4:=pI y4 o.o;replace y5:=pI y5 o.o;replace y6:=pI y6 o.o;replace y7:=pI y7 o.o;replace b0:=pI b0 o.o;have b4:=N (PX bG.o r);have b5:Hid (∀s,((mem.take (i+1)).any λz=>z.1.data.toList==s)=(mem[i].1.data.toList==s||(mem.take i).any λz=>z.1.data.toList==s)):=N (λs=>GU (l:=mem) (λs (z:ξ×Jv.J)=>z.1.data.toList==s) r s);have a4:=N (bB.o _ (pq r));have a3:=N (λu a7=>bs.o i r Q vb R T c h c1 f m c2 vp u a7 a0);clear a0;generalize mem[i].1=key at C b4 a4 b5;have bU:(i:aI)<(P:aI):=(by omega);have bT:(0:aI)<=(i:aI):=(by omega);have a1:=pM wr (ζ #[Y key,G H Q,.bool vb,G H R,Y T,I c h c1,I f m c2,G H vp,G H bp] 156);have F:=pR o a1;have a5:=K8 (w:=wr) (x0:=Y key) (x1:=G H Q) (x2:= .bool vb) (x3:=G H R) (x4:=Y T) (x5:=I c h c1) (x6:=I f m c2) (x7:=G H vp) (x8:=G H bp) (t:=156);have aq:=N (bQ.o.below a1);have bV:=aq.o.look key a4.o.2 b4.o;have D:=N (λu (a7:Ξ W.heap.size W u)=>aO key u (by have:=a4.o.2;omega) (Tx.qC bJ.o a7));rw[a4.o.1] at D;obtain⟨a2,a8,a9,aa,ab,ac,ad,b1,bX⟩:=a5;clear a1
     go_wp2_with fail
     refine(D.o _ F.o).mono ?_;rintro e bW⟨rfl,a⟩;have ao:=pR F a;have bI:=N (aq.o.below a);replace a2:=pI a2 a;replace a8:=pI a8 a;replace a9:=pI a9 a;replace aa:=pI aa a;replace ab:=pI ab a;replace ac:=pI ac a;replace ad:=pI ad a;replace b1:=pI b1 a;clear a F aq D bV bX C y1 y2 y3 y4 y5 y6 y7 b0
     go_wp2_with fail
     refine(a3.o _ ao.o).mono ?_;rintro e co⟨rfl,ak⟩;have bv:=pR ao ak;replace a2:=pI a2 ak;obtain⟨cp,ch,bm,bh⟩:=(bI.o.below ak).put key a4.o.2 (by unfold aG;omega);have bH:=N (bm.congr (g:=λs=>(mem.take (i+1)).any λz=>z.1.data.toList==s) (λs=>by rw[b5.o s];simp only[jq]));have bw:=N (Mw.below_grown bv.o b6.o bh);clear bm bh ak a3 ao a8 a9 aa ab ac ad b1
     go_wp2_with fail
     go_roundw
     case rel=>exact⟨i+1,by omega,by go_num,bH,bw⟩
     case measure=>simp[intOf];omega
    ·have cf:decide ((i:aI)<(P:aI))=E:=o9 (by omega)
     go_wp2_with fail
     go_ret;exact⟨rfl,o.o⟩
mutual
def JB:Jv.J->Prop
 | .str s=>s.size<=1000000
 | .int n=>-9223372036854775808<=n/\n<=9223372036854775807
 | .arr l=>l.length<=1000000/\JBL l
 | .obj l=>l.length<=1000000/\JBM l
 |_=>True
def JBL:O Jv.J->Prop
 |[]=>True
 |a::r=>JB a/\JBL r
def JBM:O (ξ×Jv.J)->Prop
 |[]=>True
 |a::r=>JBP a/\JBM r
def JBP:ξ×Jv.J->Prop
 |(k,a)=>k.size<=1000000/\JB a
end
def wV(l:O Jv.J):JBL l↔∀x∈l,JB x:=by
 induction l with
 |nil=>simp[JBL]
 |cons a r ih=>simp[JBL,ih]
def K9(l:O (ξ×Jv.J)):JBM l↔∀p∈l,p.1.size<=1000000/\JB p.2:=by
 induction l with
 |nil=>simp[JBM]
 |cons a r ih=>obtain⟨k,a⟩:=a;simp[JBM,JBP,ih]
def PY{w:Z}{l:O Jv.J}{L:O (O U)}(a:Ny w l L):tG Jv w l L:=⟨(Ga a).1,(Ga a).2⟩
def PZ{w:Z}{l:O (ξ×Jv.J)}{L:O (O U)}(a:Nz w l L):tG BQ w l L:=⟨(K6 a).1,(K6 a).2⟩
def GV(w:Z):tG Jv w [] []:=⟨rfl,λj a=>ο a (by simp)⟩
def GW(w:Z):tG BQ w [] []:=⟨rfl,λj a=>ο a (by simp)⟩
def GX:∀(m d:X)(j:Jv.J)(cs:O U)(w:Z),d+m=101->Jv.Ok d j->JB j->Jv w j cs->U8 w->
 aj Θ 168 #[.agg cs.toArray,G H d] w λe w'=>e=η (.bool aA)/\Ξ w.heap.size w w'
 |0,d,j,cs,w,hm,ho,hb,h,hT=>by
  exfalso
  cases j<;>simp only[Jv.Ok] at ho<;>omega
 |m+1,d,j,cs,w,hm,ho,hb,h,hT=>by
  have f:=λu (c:Ξ w.heap.size w u)=>Uk j cs u (Jv.under c j cs h)
  have i:aQ (⟨#[]⟩:ξ).data.toList=aA:=rfl;have g:(⟨#[]⟩:ξ).size<=140737488355327:=(by decide);cases j<;>unfold Jv at h
  ·obtain⟨p,rfl⟩:=h
   exact xg 0 d 0 E ⟨#[]⟩ [] [] rG rG p w (by omega) (by omega) i g [] [] (aJ _ _) (GV _) (by simp) (aJ _ _) (GW _) (by simp) (by simp) (by simp) hT f (λj a=>ο a (by simp)) (λj a=>ο a (by simp))
  ·rename_i b
   obtain⟨p,rfl⟩:=h;exact xg 1 d 0 b ⟨#[]⟩ [] [] rG rG p w (by omega) (by omega) i g [] [] (aJ _ _) (GV _) (by simp) (aJ _ _) (GW _) (by simp) (by simp) (by simp) hT f (λj a=>ο a (by simp)) (λj a=>ο a (by simp))
  ·rename_i n
   obtain⟨p,rfl⟩:=h;exact xg 2 d n E ⟨#[]⟩ [] [] rG rG p w (by omega) (by omega) i g [] [] (aJ _ _) (GV _) (by simp) (aJ _ _) (GW _) (by simp) (by simp) (by simp) hT f (λj a=>ο a (by simp)) (λj a=>ο a (by simp))
  ·rename_i s
   obtain⟨p,rfl⟩:=h;simp only[Jv.Ok] at ho;unfold JB at hb;exact xg 3 d 0 E s [] [] rG rG p w (by omega) (by omega) ho.2 (by omega) [] [] (aJ _ _) (GV _) (by simp) (aJ _ _) (GW _) (by simp) (by simp) (by simp) hT f (λj a=>ο a (by simp)) (λj a=>ο a (by simp))
  ·rename_i l
   obtain⟨p,v,L,rfl,o,r⟩:=h;simp only[Jv.Ok] at ho;unfold JB at hb;rw[Jv.wU] at ho;rw[wV] at hb;refine xg 4 d 0 E ⟨#[]⟩ l [] v rG p w (by omega) (by omega) i g L [] o (PY r) hb.1 (aJ _ _) (GW _) (by simp) (by simp) (by simp) hT f (λj a k b n s z B c1 A C c2 p u c x=>?_) (λj a=>ο a (by simp));exact GX m (d+1) l[j] _ u (by omega) (ho.2 _ (pq a)) (hb.2 _ (pq a)) (Jv.under c _ _ x) (Tx.qC hT c)
  ·rename_i l
   obtain⟨p,v,L,rfl,o,r⟩:=h;simp only[Jv.Ok] at ho;unfold JB at hb;rw[Jv.K5] at ho;rw[K9] at hb;refine xg 5 d 0 E ⟨#[]⟩ [] l rG v p w (by omega) (by omega) i g [] L (aJ _ _) (GV _) (by simp) o (PZ r) hb.1 ho.2.1 (λq y=>⟨(ho.2.2 q y).1,by have:=(hb.2 q y).1;omega⟩) hT f (λj a=>ο a (by simp)) (λj a k b n s z B c1 A C c2 p u c x=>?_);exact GX m (d+1) l[j].2 _ u (by omega) (ho.2.2 _ (pq a)).2 (hb.2 _ (pq a)).2 (Jv.under c _ _ x) (Tx.qC hT c)
def Xv(k n:aI)(b:Bool)(s:ξ)(a:aE Addr)(f c1:X)(c:aE Addr)(g c2:X)(p:aI)(j:Jv.J)(w:Z)(u:Jv.Ok 1 j)(q:JB j)(m:Jv w j (qh k b n s (I a f c1) (I c g c2) p))(o:U8 w):
 aj Θ 109 #[.agg #[G H k,.bool b,G H n,Y s,I a f c1,I c g c2,G H p]] w λe w'=>e=η (G H 0)/\Ξ w.heap.size w w':=by
 have d:=pM w (ζ #[G H k,.bool b,G H n,Y s,I a f c1,I c g c2,G H p] 107);have h:=N (GX 100 1 j _ _ rfl u q (Jv.under d _ _ m) (Tx.qC o d));have i:=N d;have y:=xQ (w:=w) (x0:=G H k) (x1:= .bool b) (x2:=G H n) (x3:=Y s) (x4:=I a f c1) (x5:=I c g c2) (x6:=G H p) (t:=107);clear d m o u q
 go_enter Tryz.func109,Tryz.ntmps109
 obtain⟨x0,x1,x2,x3,x4,x5,x6⟩:=y
 go_wp2_with fail
 refine h.o.mono ?_;rintro e z⟨rfl,r⟩;have x:=pR i r;clear r h i
 go_wp2_with fail
 go_ret;exact⟨rfl,x.o⟩
end Me
end Go.Proofs.YthbhmjdcfocphaaGreatDoor
