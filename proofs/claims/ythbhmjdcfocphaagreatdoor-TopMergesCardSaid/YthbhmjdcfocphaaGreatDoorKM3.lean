/- A part of this proof. -/
import Derived.Test.YthbhmjdcfocphaaGreatDoorKM2
import Derived.StillTailTactics
set_option linter.all false
set_option maxHeartbeats 16000000
set_option maxRecDepth 100000
namespace Go.Proofs.YthbhmjdcfocphaaGreatDoor
open Go.Value renaming string→K, slice→δ, pointer→ε, int→G
open Go.Obj renaming cells→ζ
open Go.Ending renaming returned→η
open Go.IntKind renaming i64→H
open Go.Lib renaming hid→I
open Go.Proofs.Tryz renaming prog→O, underlying4→Θ, ntmps230→Ξ, func230→Ω, underlying232→aj, underlying9→av
open Go renaming World→M, Calls→V, wp_region_still_tail→ay, plainElem_bool→aC
open _root_ renaming ByteArray→π, UInt8→ς, Int→J, List→X, Nat→U
open Bool renaming false→N, true→az
open And renaming intro→χ
open Mo renaming q8→Y, tS→Δ
namespace Mw
open RowKit Rw
def wg(a b:J):J:=if a<b then-1 else if b<a then 1 else 0
def Sb(a:π)(w:M):V O 232 #[K a] w λe w'=>e=η (.bool N)/\w'=w:=by
 go_enter Tryz.func232,Tryz.ntmps232
 go_wp2_with fail
 go_ret;exact⟨rfl,rfl⟩
def Sc(a:J)(w:M):V O 276 #[G H a] w λe w'=>e=η (.bool N)/\w'=w:=by
 go_enter Tryz.func276,Tryz.ntmps276
 go_wp2_with fail
 go_ret;exact⟨rfl,rfl⟩
def zy(a b:π)(w:M):V O 164 #[K a,K b] w λe w'=>e=η (G H (Δ a b))/\w'=w:=by
 obtain⟨L,h⟩:=pL (Op.bytesLess a.toList b.toList);obtain⟨c,g⟩:=pL ((a.toList==b.toList));have e:Δ a b=if L=az then-1 else if c=az then 0 else 1:=by unfold Δ;rw[h,g]
 rw[e];clear e;have d:=I (Sb a w);have f:=I (Sb b w);cases L<;>cases c
 all_goals
  go_enter Tryz.func164,Tryz.ntmps164
  go_wp2_with fail
  refine d.o.mono ?_;rintro e i⟨rfl,rfl⟩
  go_wp2_with fail
  refine f.o.mono ?_;rintro e i⟨rfl,rfl⟩
  go_wp2_with fail
  go_ret
  first|exact⟨rfl,rfl⟩|simp
def Ej(a b:J)(w:M):V O 230 #[G H a,G H b] w λe w'=>e=η (G H (wg a b))/\w'=w:=by
 unfold wg;have d:=I (Sc a w);have f:=I (Sc b w)
 by_cases g:a<b
 ·rw[oD g]
  go_enter Ω,Ξ
  go_wp2_with fail
  refine d.o.mono ?_;rintro e c⟨rfl,rfl⟩
  go_wp2_with fail
  refine f.o.mono ?_;rintro e c⟨rfl,rfl⟩
  go_wp2_with fail
  go_ret;exact⟨rfl,rfl⟩
 rw[oU g]
 by_cases h:b<a
 ·rw[oD h]
  go_enter Ω,Ξ
  go_wp2_with fail
  refine d.o.mono ?_;rintro e c⟨rfl,rfl⟩
  go_wp2_with fail
  refine f.o.mono ?_;rintro e c⟨rfl,rfl⟩
  go_wp2_with fail
  go_ret;exact⟨rfl,rfl⟩
 rw[oU h]
 go_enter Ω,Ξ
 go_wp2_with fail
 refine d.o.mono ?_;rintro e c⟨rfl,rfl⟩
 go_wp2_with fail
 refine f.o.mono ?_;rintro e c⟨rfl,rfl⟩
 go_wp2_with fail
 go_ret;exact⟨rfl,rfl⟩
def Sg(c d:J)(g:U)(w:M)(n:w.cell? ⟨g,0,none⟩=some (G H c))(o:w.cell? ⟨g,1,none⟩=some (G H d)):
 V O 162 #[δ (some ⟨g,0,none⟩) 2 2] w λe w'=>e=η (G H (if c=0 then d else c))/\w'=w:=by
 go_enter Tryz.func162,Tryz.ntmps162
 go_wp2_with fail
 go_loopw [8] (λx wr=>∃k:U,k<=2/\x=G H k/\Hid (0<k->c=0)/\Hid (1<k->d=0)/\wr=w) (λx _=>2-(intOf x).toNat)
 case atStart=>exact⟨0,by omega,rfl,I (λf=>absurd f (by omega)),I (λf=>absurd f (by omega)),rfl⟩
 case round=>
  obtain⟨k,p,rfl,a,i,rfl⟩:=hrel;obtain rfl|rfl|rfl:k=0\/k=1\/k=2:=by omega
  ·by_cases e:c=0
   ·subst e
    go_wp2_with fail
    go_roundw
    case rel=>exact⟨1,by omega,by go_num,I (by simp),I (by simp),trivial⟩
    case measure=>simp[intOf]
   ·have j:(c==(0:J))=N:=by simpa using e
    have b:Hid ((if c=0 then d else c)=c):=I (oU e)
    go_wp2_with fail
    go_ret;exact⟨by first|rfl|rw[b.o];rfl,rfl⟩
  ·have h:c=0:=a.o (by omega)
   subst h;clear a i
   by_cases e:d=0
   ·subst e
    go_wp2_with fail
    go_roundw
    case rel=>exact⟨2,by omega,by go_num,I (by simp),I (by simp),trivial⟩
    case measure=>simp[intOf]
   ·have j:(d==(0:J))=N:=by simpa using e
    have b:Hid ((if(0:J)=0 then d else 0)=d):=I (oD rfl)
    go_wp2_with fail
    go_ret;exact⟨by first|rfl|rw[b.o];rfl,rfl⟩
  ·have h:c=0:=a.o (by omega)
   have m:d=0:=i.o (by omega);subst h m;clear a i
   go_wp2_with fail
   go_ret;exact⟨by simp,rfl⟩
def Yb(p q:X π)(vp P:Value)(W:M)(D:Rw W vp 1 (p.map p_))(F:Rw W P 1 (q.map p_))(Z:p.length<=8796093022208)(a0:q.length<=8796093022208):
 V O 231 #[vp,P] W λe w'=>e=η (G H (Y p q))/\w'=W:=by
 obtain⟨ab,ac,a9,aa,rfl,v,E⟩:=qp D;obtain⟨af,ag,ad,ae,rfl,w,L⟩:=qp F;obtain⟨n,u⟩:=pL p.length;obtain⟨m,t⟩:=pL q.length;rw[u] at Z v|-;rw[t] at a0 w|-;have j:=I (χ u (χ v E));have o:=I (χ t (χ w L));clear D F u t v w E L
 go_enter Tryz.func231,Tryz.ntmps231
 go_wp2_with fail
 go_loopw [11] (λi wr=>∃k:U,k<=n/\k<=m/\i=G H k/\Hid (Y p q=Y (p.drop k) (q.drop k))/\wr=W) (λi _=>n-(intOf i).toNat)
 case atStart=>exact⟨0,oM _,oM _,rfl,rfl,rfl⟩
 case round=>
  obtain⟨k,z,y,rfl,h,rfl⟩:=hrel
  by_cases S:k<n
  ·obtain rfl:=j.o.2.1 (by omega)
   have A:k<p.length:=(by rw[j.o.1];exact S);have x0:=j.o.2.2 k A;have a6:(k:J)<(n:J):=(by omega);have a8:(0:J)<=(k:J):=by omega
   by_cases T:k<m
   ·obtain rfl:=o.o.2.1 (by omega)
    have B:k<q.length:=(by rw[o.o.1];exact T);have a2:=o.o.2.2 k B;have f:=I (Jc A B);generalize p[k]=a at x0 f;generalize q[k]=b at a2 f;obtain⟨Q,g⟩:=pL ((a.toList==b.toList));rw[g] at f;have a7:(k:J)<(m:J):=(by omega);have C:=I (zy a b wr)
    cases Q with
    |true=>
     have x:Δ a b=0:=by unfold Δ;rw[g,eq_of_beq g,bytesLess_eq];simp
     rw[x] at C;clear x g
     go_wp2_with fail
     refine C.o.mono ?_;rintro e a1⟨rfl,rfl⟩
     go_wp2_with fail
     go_roundw
     case rel=>exact⟨k+1,by omega,by omega,by go_num,h.o.trans (f.o.trans (by simp)),trivial⟩
     case measure=>simp[intOf];omega
    |false=>
     obtain⟨c,s⟩:=pL (Δ a b)
     have a5:(c==(0:J))=N:=by rw[<-s];unfold Δ;rw[g];cases Op.bytesLess a.toList b.toList<;>rfl
     rw[s] at C f;have d:Hid (Y p q=c):=h.o.trans (f.o.trans (by simp));clear s g
     go_wp2_with fail
     refine C.o.mono ?_;rintro e a1⟨rfl,rfl⟩
     go_wp2_with fail
     go_ret;exact⟨by rw[d.o];rfl,rfl⟩
   ·have a4:(m:J)<=(k:J):=by omega
    have d:Hid (Y p q=1):=I (h.o.trans ((Dr j.o.1 o.o.1 z y (by omega)).trans (by rw[oU (by omega),oD (by omega)])));clear h
    go_wp2_with fail
    go_ret;exact⟨by rw[d.o];rfl,rfl⟩
  ·have a3:decide ((k:J)<(n:J))=N:=o9 (by omega)
   have d:Hid (Y p q=if n<m then-1 else if m<n then 1 else 0):=h.o.trans (Dr j.o.1 o.o.1 z y (by omega));clear h
   by_cases c1:n<m
   ·have r:Hid (Y p q=-1):=d.o.trans (oD c1)
    have R:(n:J)<(m:J):=(by omega);clear d
    go_wp2_with fail
    go_ret;exact⟨by rw[r.o];rfl,rfl⟩
   ·have r:Hid (Y p q=0):=d.o.trans ((oU c1).trans (oU (by omega)))
    have R:¬(n:J)<(m:J):=(by omega);clear d
    go_wp2_with fail
    go_ret;exact⟨by rw[r.o];rfl,rfl⟩
def NY(p q:X π)(vp c:Value)(W:M)(a:Rw W vp 1 (p.map p_))(b:Rw W c 1 (q.map p_))(d:p.length<=8796093022208)(f:q.length<=8796093022208):
 V O 163 #[vp,c] W λe w'=>e=η (G H (Y p q))/\w'=W:=by
 have C:=I (Yb p q vp c W a b d f);obtain⟨i,j,g,h,rfl,-,-⟩:=qp a;obtain⟨n,o,k,m,rfl,-,-⟩:=qp b;clear a b
 go_enter Tryz.func163,Tryz.ntmps163
 go_wp2_with fail
 refine C.o.mono ?_;rintro e r⟨rfl,rfl⟩
 go_wp2_with fail
 go_ret;exact⟨rfl,rfl⟩
def Si(a b:Mo.En):(if wg b.upd a.upd=0 then Δ a.id b.id else wg b.upd a.upd)=Mo.rS a b:=by
 unfold wg Mo.rS
 by_cases c:b.upd<a.upd
 ·simp[c]
 ·by_cases d:a.upd<b.upd
  ·simp[c,d]
  ·simp[c,d]
def wY(w:M)(x a:Value)(t:TypeId):(w.alloc (ζ #[x,a] t)).cell? ⟨w.heap.size,0,none⟩=some x/\(w.alloc (ζ #[x,a] t)).cell? ⟨w.heap.size,1,none⟩=some a:=by unfold World.cell?;simp only[pG];exact⟨rfl,rfl⟩
def cmpE_is(a b:Mo.En)(w:M):
 V O 161 #[.agg (pO a).toArray,.agg (pO b).toArray] w λe w'=>e=η (G H (Mo.rS a b))/\Below w.heap.size w w':=by
 rw[<-Si];obtain⟨f,at',o,n,h⟩:=a;obtain⟨i,z,bl,y,j⟩:=b;simp only;obtain⟨x0,-,-,-,x4⟩:=vh (w:=w) (x0:=K f) (x1:=K at') (x2:=K o) (x3:=K n) (x4:=G H h) (t:=53);have x:=I (pM w (ζ #[K f,K at',K o,K n,G H h] 53))
 show V O 161 #[.agg #[K f,K at',K o,K n,G H h],.agg #[K i,K z,K bl,K y,G H j]] w _
 have m:=I (χ x0 x4);clear x0 x4;generalize A:(w.alloc (ζ #[K f,K at',K o,K n,G H h] 53))=B at x m;obtain⟨q,-,-,-,y4⟩:=vh (w:=B) (x0:=K i) (x1:=K z) (x2:=K bl) (x3:=K y) (x4:=G H j) (t:=53);have p:=pM B (ζ #[K i,K z,K bl,K y,G H j] 53);have k:=pR x p;have x0:=pI m.o.1 p;have x4:=pI m.o.2 p;have R:B.heap.size=w.heap.size+1:=by rw[<-A];show(w.heap.push _).size=_;simp
 rw[R] at q y4;rw[<-A] at x0 x4 q y4 k;clear A p R m x;obtain⟨c,P⟩:=pL (wg j h);obtain⟨d,Q⟩:=pL (Δ f i);have r:=λu=>Ej j h u
 have s:=λu=>zy f i u
 rw[P] at r|-;rw[Q] at s|-;clear P Q;have C:=I (λg u W Z=>Sg c d g u W Z);obtain⟨v,S⟩:∃v,(if c=0 then d else c)=v:=⟨_,rfl⟩;rw[S] at C|-;clear S
 go_enter Tryz.func161,Tryz.ntmps161
 go_wp2_with fail
 generalize(w.alloc _).alloc _=a0 at x0 x4 q y4 k|-;refine ay 10 (by kernel_rfl) (by kernel_rfl) ?_;simp only[mm,lP,nS,nO]
 repeat(first|still_step|still_call (r _)|still_call (s _))
 refine wpStill_nil ?_;change wpList _ _ _ _ _ (World.drew _);generalize L:World.drew _=F;have D:Hid (Below w.heap.size w F):=I (by rw[<-L];exact k.o.drew);clear L x0 x4 q y4 k r s;have E:=I (wY F (G H c) (G H d) 3);have T:=I (D.o.alloc D.o.size (ζ #[G H c,G H d] 3))
 go_wp2_with fail
 refine(C.o _ _ E.o.1 E.o.2).mono ?_;rintro e a1⟨rfl,rfl⟩
 go_wp2_with fail
 go_ret;exact⟨rfl,T.o⟩
def cmpF_is(f g:Mo.Fd)(vp ve j a9:Value)(w:M)(P:Rw w vp 1 (f.path.map p_))(Q:Rw w j 1 (g.path.map p_))(ad:∃a n c,ve=δ a n c)(ae:∃a n c,a9=δ a n c)(af:f.path.length<=8796093022208)(ag:g.path.length<=8796093022208):
 V O 102 #[.agg (pX f vp ve).toArray,.agg (pX g j a9).toArray] w λe w'=>e=η (G H (Mo.tM f g))/\Below w.heap.size w w':=by
 obtain⟨r,b,s,q,x,ai⟩:=f;obtain⟨y,h,F,E,L,ak⟩:=g;obtain⟨p,A,c1,rfl⟩:=ad;obtain⟨D,S,c2,rfl⟩:=ae;obtain⟨x0,x1,-⟩:=uS (w:=w) (x0:=vp) (x1:=K b) (x2:=K s) (x3:=K q) (x4:=G H x) (x5:=δ p A c1) (t:=51);have C:=I (pM w (ζ #[vp,K b,K s,K q,G H x,δ p A c1] 51));change V _ _ _ _ (λe w'=>e=η (G H (if Y r y=0 then Δ b h else Y r y))/\_)
 show V O 102 #[.agg #[vp,K b,K s,K q,G H x,δ p A c1],.agg #[j,K h,K F,K E,G H L,δ D S c2]] w _
 have o:=I (χ x0 x1);clear x0 x1;generalize R:(w.alloc (ζ #[vp,K b,K s,K q,G H x,δ p A c1] 51))=T at C o;obtain⟨k,y1,-⟩:=uS (w:=T) (x0:=j) (x1:=K h) (x2:=K F) (x3:=K E) (x4:=G H L) (x5:=δ D S c2) (t:=51);have z:=pM T (ζ #[j,K h,K F,K E,G H L,δ D S c2] 51);have i:=pR C z;have x0:=pI o.o.1 z;have x1:=pI o.o.2 z;have a6:T.heap.size=w.heap.size+1:=by rw[<-R];show(w.heap.push _).size=_;simp
 rw[a6] at k y1;rw[<-R] at x0 x1 k y1 i;clear R z a6 o C;obtain⟨an,ao,al,am,rfl,-,-⟩:=qp P;obtain⟨ar,au,ap,aq,rfl,-,-⟩:=qp Q;have Z:=I (λ(u:M) (a7:Below w.heap.size w u)=>NY r y _ _ u (P.under a7) (Q.under a7) af ag);have m:=Z.o _ i.o.drew;clear P Q Z;simp only at x0 x1 k y1;obtain⟨c,a4⟩:=pL (Y r y);obtain⟨d,a5⟩:=pL (Δ b h);have B:=λu=>zy b h u
 rw[a4] at m|-;rw[a5] at B|-;clear a4 a5;have W:=I (λg u ab ac=>Sg c d g u ab ac);obtain⟨v,a8⟩:∃v,(if c=0 then d else c)=v:=⟨_,rfl⟩;rw[a8] at W|-;clear a8
 go_enter Tryz.func102,Tryz.ntmps102
 go_wp2_with fail
 generalize(w.alloc _).alloc _=ah at x0 x1 k y1 i m|-;refine ay 10 (by kernel_rfl) (by kernel_rfl) ?_;simp only[mm,lP,nS,nO]
 repeat(first|still_step|still_call m|still_call (B _))
 refine wpStill_nil ?_;change wpList _ _ _ _ _ (World.drew _);generalize a3:World.drew _=a2;have a0:Hid (Below w.heap.size w a2):=I (by rw[<-a3];exact i.o.drew);clear a3 x0 x1 k y1 i m B;have a1:=I (wY a2 (G H c) (G H d) 3);have aa:=I (a0.o.alloc a0.o.size (ζ #[G H c,G H d] 3))
 go_wp2_with fail
 refine(W.o _ _ a1.o.1 a1.o.2).mono ?_;rintro e aw⟨rfl,rfl⟩
 go_wp2_with fail
 go_ret;exact⟨rfl,aa.o⟩
end Mw
namespace Mw
open RowKit Maps Rw
def Yc:Keyed O 9:=string_keyed av
def Yd(k:π)(a:k.size<=140737488355327):keyOf O 9 (K k)=some (.string k.data.toList):=
 Go.WideMaps.keyOf_string_mk av (by unfold maxLen;omega)
def Seen(w:M)(b n:U)(f:X ς->Bool):Prop:=∃a:DataW Unit,w.ownsMap O 9 (plainElem O 4) b n a/\∀s,a.atKey (.string s) (.lit (.bool N))= .lit (.bool (f s))
def Seen.congr{w:M}{b n:U}{f g:X ς->Bool}(c:Seen w b n f)(e:∀s,f s=g s):Seen w b n g:=by obtain⟨a,d,h⟩:=c;exact⟨a,d,λs=>by rw[<-e s];exact h s⟩
def Seen.lt{w:M}{b n:U}{f:X ς->Bool}(a:Seen w b n f):b<w.heap.size:=by obtain⟨d,c,e⟩:=a;exact c.lt
def Seen.of_block{w w':M}{b n:U}{f:X ς->Bool}(d:Seen w b n f)(g:w'.heap[b]?=w.heap[b]?):Seen w' b n f:=by obtain⟨a,⟨es,c,h,r⟩,e⟩:=d;exact⟨a,⟨es,c,by rw[g];exact h,r⟩,e⟩
def Seen.below{w w':M}{b n:U}{f:X ς->Bool}(a:Seen w b n f)(c:Below w.heap.size w w'):Seen w' b n f:=a.of_block (c.block b a.lt)
def Seen.new(w:M):Seen (w.alloc (.map #[] 0)) w.heap.size 0 (λ_=>N):=
 ⟨.map [],World.ownsMap_made _ _ _ _,λs=>rfl⟩
def Seen.look{w:M}{b n:U}{f:X ς->Bool}(c:Seen w b n f)(k:π)(g:k.size<=140737488355327){v:Bool}(i:f k.data.toList=v):(Instr.lookup 232 (.map (some b)) (K k) N).run O w= .ok (.bool v) w:=by
 obtain⟨j,d,e⟩:=c;obtain⟨x,ps,h,a⟩:=d.lookup (t:=232) Yc aj (z:= .bool N) (by kernel_rfl) (aC Θ N) (Yd k g);rw[e,i] at a;unfold plainElem at a;rw[Θ] at a;cases x<;>simp at a
 obtain⟨rfl,-⟩:=a;exact h
def Seen.put{w:M}{b n:U}{f:X ς->Bool}(c:Seen w b n f)(k:π)(j:k.size<=140737488355327)(m:n<maxLen):
 ∃w',(Instr.mapUpdate 232 (.map (some b)) (K k) (.bool az)).run O w= .ok () w'/\Seen w' b (n+1) (λs=>s==k.data.toList||f s)/\w.grownBy w' (some b):=by
 obtain⟨o,a,d⟩:=c;obtain⟨w',g,h,i⟩:=a.update (t:=232) Yc aj m (Yd k j) (aC Θ az);refine⟨w',g,⟨_,h,λs=>?_⟩,i⟩
 by_cases e:s=k.data.toList
 ·subst e
  rw[atKey_put_same a.isMap (show WideAt.IsKeyLit (.string k.data.toList) from trivial)];simp
 ·rw[atKey_put_other (by simpa using e),d]
  simp[e]
def below_grown{W u v:M}{b:U}(a:Below W.heap.size W u)(d:W.heap.size<=b)(k:u.grownBy v (some b)):Below W.heap.size W v:=
 ⟨k.os.trans a.os,k.tape.trans a.tape,k.output.trans a.output,pF a.size k.size,λi c=>(k.block i (oQ c a.size) (λe=>by cases e;omega)).trans (a.block i c)⟩
section
variable {α:Type}{sW:α->Bool}{cmp:α->α->J}{id:α->π}{l:X α}
def Sj(b:Mo.u6 sW cmp id l=az){k:U}(d:k<l.length):sW l[k]=az/\(∀(f:0<k)(a:k-1<l.length),cmp l[k-1] l[k]<0)/\((l.take k).any λj=>(id j).data.toList==(id l[k]).data.toList)=N:=by
 have a:Mo.uu sW cmp id l k=az:=by
  cases e:Mo.uu sW cmp id l k with
  |true=>rfl
  |false=>rw[Mo.uv _ _ _ d e] at b;cases b
 unfold Mo.uu at a;rw[oW d] at a;simp only[oz,jt] at a;obtain⟨⟨g,c⟩,h⟩:=a;refine⟨g,λf i=>?_,?_⟩
 ·rw[oU (by omega),oW i] at c
  exact mX c
 ·simpa only[ByteArray.toList_eq] using h
def GU(p:X ς->α->Bool){k:U}(a:k<l.length)(s:X ς):((l.take (k+1)).any (p s))=(p s l[k]||(l.take k).any (p s)):=by rw[mM,oW a,List.any_append];simp[Bool.or_comm]
end
end Mw
end Go.Proofs.YthbhmjdcfocphaaGreatDoor
