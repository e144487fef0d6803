/- A part of this proof. -/
import Derived.Test.YthbhmjdcfocphaaGreatDoorG1
import Derived.Test.YthbhmjdcfocphaaGreatDoorKA
import Derived.Deep.RegionHeld3
set_option linter.all false
set_option maxHeartbeats 16000000
set_option maxRecDepth 100000
namespace Go.Proofs.YthbhmjdcfocphaaGreatDoor
open Go.Value renaming string→K, slice→M, pointer→ε, int→G
open Go.Obj renaming cells→J
open Go.Ending renaming returned→η
open Go.IntKind renaming i64→H
open Go.Lib renaming hid→I
open Go.Proofs.Tryz renaming prog→ν, ntmps37→π, func37→υ
open Mo renaming s_→L
namespace Mw
open RowKit Rw
def Bg(s:ByteArray)(w:World)(a:s.size<=140737488355327):
 Calls ν 34 #[K s] w λe w'=>e=η (.bool (L s))/\Below w.heap.size w w':=Tx.PK s w a
def OC(b:Bool):Int:=if b=true then 0 else 22
def vh{w:World}{x0 x1 x2 x3 x4:Value}{t:TypeId}:(w.alloc (J #[x0,x1,x2,x3,x4] t)).cell? ⟨w.heap.size,0,none⟩=some x0/\(w.alloc (J #[x0,x1,x2,x3,x4] t)).cell? ⟨w.heap.size,1,none⟩=some x1/\(w.alloc (J #[x0,x1,x2,x3,x4] t)).cell? ⟨w.heap.size,2,none⟩=some x2/\(w.alloc (J #[x0,x1,x2,x3,x4] t)).cell? ⟨w.heap.size,3,none⟩=some x3/\(w.alloc (J #[x0,x1,x2,x3,x4] t)).cell? ⟨w.heap.size,4,none⟩=some x4:=by unfold World.cell?;simp only[pG];exact⟨rfl,rfl,rfl,rfl,rfl⟩
def NS(a b:Mo.En)(w:World):
 Calls ν 37 #[.agg (pO a).toArray,.agg (pO b).toArray] w λe w'=>e=η (G H (Mo.rS a b))/\Below w.heap.size w w':=by
 obtain⟨f,at',i,h,c⟩:=a;obtain⟨g,m,bl,l,d⟩:=b;obtain⟨x0,-,-,-,x4⟩:=vh (w:=w) (x0:=K f) (x1:=K at') (x2:=K i) (x3:=K h) (x4:=G H c) (t:=53);have o:=I (pM w (J #[K f,K at',K i,K h,G H c] 53));have r:Mo.rS ⟨f,at',i,h,c⟩ ⟨g,m,bl,l,d⟩=if d<c then-1 else if c<d then 1 else Mo.tS f g:=rfl
 rw[r];clear r
 show Calls ν 37 #[.agg #[K f,K at',K i,K h,G H c],.agg #[K g,K m,K bl,K l,G H d]] w _
 have k:=I (And.intro x0 x4);clear x0 x4;generalize p:(w.alloc (J #[K f,K at',K i,K h,G H c] 53))=q at o k;obtain⟨u,-,-,-,y4⟩:=vh (w:=q) (x0:=K g) (x1:=K m) (x2:=K bl) (x3:=K l) (x4:=G H d) (t:=53);have n:=pM q (J #[K g,K m,K bl,K l,G H d] 53);have j:=pR o n;have x0:=pI k.o.1 n;have x4:=pI k.o.2 n;have s:q.heap.size=w.heap.size+1:=by rw[<-p];show(w.heap.push _).size=_;simp
 rw[s] at u y4;rw[<-p] at x0 x4 u y4 j;clear p n s k o
 by_cases c1:d<c
 ·rw[oD c1]
  go_enter υ,π
  go_wp2_with fail
  go_ret;exact⟨rfl,j.o⟩
 rw[oU c1]
 by_cases c2:c<d
 ·rw[oD c2]
  go_enter υ,π
  go_wp2_with fail
  go_ret;exact⟨rfl,j.o⟩
 rw[oU c2]
 go_enter υ,π
 go_wp2_with fail
 refine(AH f g _).mono ?_;rintro e w'⟨rfl,rfl⟩
 go_wp2_with fail
 go_ret;exact⟨rfl,j.o⟩
def NT(f g:Mo.Fd)(vp ve o W:Value)(w:World)(N:Rw w vp 1 (f.path.map p_))(O:Rw w o 1 (g.path.map p_))(a0:∃a n c,ve=M a n c)(a1:∃a n c,W=M a n c)(a2:f.path.length<=8796093022208)(a3:g.path.length<=8796093022208):
 Calls ν 18 #[.agg (pX f vp ve).toArray,.agg (pX g o W).toArray] w λe w'=>e=η (G H (Mo.tM f g))/\Below w.heap.size w w':=by
 obtain⟨i,b,j,h,k,Y⟩:=f;obtain⟨l,d,s,r,v,Z⟩:=g;obtain⟨q,z,c1,rfl⟩:=a0;obtain⟨E,Q,c2,rfl⟩:=a1;obtain⟨x0,x1,-⟩:=uS (w:=w) (x0:=vp) (x1:=K b) (x2:=K j) (x3:=K h) (x4:=G H k) (x5:=M q z c1) (t:=51);have A:=I (pM w (J #[vp,K b,K j,K h,G H k,M q z c1] 51));have m:Mo.tM ⟨i,b,j,h,k,Y⟩ ⟨l,d,s,r,v,Z⟩=if Mo.q8 i l=0 then Mo.tS b d else Mo.q8 i l:=rfl
 have C:=I m;clear m
 show Calls ν 18 #[.agg #[vp,K b,K j,K h,G H k,M q z c1],.agg #[o,K d,K s,K r,G H v,M E Q c2]] w _
 have p:=I (And.intro x0 x1);clear x0 x1;generalize P:(w.alloc (J #[vp,K b,K j,K h,G H k,M q z c1] 51))=R at A p;obtain⟨S,y1,-⟩:=uS (w:=R) (x0:=o) (x1:=K d) (x2:=K s) (x3:=K r) (x4:=G H v) (x5:=M E Q c2) (t:=51);have x:=pM R (J #[o,K d,K s,K r,G H v,M E Q c2] 51);have B:=pR A x;have x0:=pI p.o.1 x;have x1:=pI p.o.2 x;have U:R.heap.size=w.heap.size+1:=by rw[<-P];show(w.heap.push _).size=_;simp
 rw[U] at S y1;rw[<-P] at x0 x1 S y1 B;clear P x U p A;obtain⟨a7,a8,a5,a6,rfl,-,-⟩:=qp N;obtain⟨ab,ac,a9,aa,rfl,-,-⟩:=qp O;have X:=I (λ(u:World) (V:Below w.heap.size w u)=>Jd i l _ _ u (N.under V) (O.under V) a2 a3);clear N O;simp only at*
 go_enter Tryz.func18,Tryz.ntmps18
 go_wp2_with fail
 refine(X.o _ B.o).mono ?_;rintro e ad⟨rfl,y⟩;replace x1:=pI x1 y;replace y1:=pI y1 y;have T:=pR B y;clear y x0 S;obtain⟨c,m⟩:=pL (Mo.q8 i l);rw[m] at C|-;clear m
 by_cases F:c=0
 ·subst F
  have D:=I (C.o.trans (oD rfl))
  go_wp2_with fail
  refine(AH b d _).mono ?_;rintro e w'⟨rfl,rfl⟩
  go_wp2_with fail
  go_ret;exact⟨by rw[D.o];rfl,T.o⟩
 ·have D:=I (C.o.trans (oU F))
  have a4:(c==(0:Int))=false:=by simpa using F
  go_wp2_with fail
  go_ret;exact⟨by rw[D.o];rfl,T.o⟩
def Qf(e:Mo.En)(w:World)(a:Zs e):
 Calls ν 36 #[.agg (pO e).toArray] w λx w'=>x=η (G H (OC (Mo.zv e)))/\Below w.heap.size w w':=by
 obtain⟨i,t,l,c,u⟩:=e;obtain⟨m,n,o,p,-⟩:=a;simp only at m n o p;obtain⟨x0,x1,x2,x3,x4⟩:=vh (w:=w) (x0:=K i) (x1:=K t) (x2:=K l) (x3:=K c) (x4:=G H u) (t:=53);have P:=I (pM w (J #[K i,K t,K l,K c,G H u] 53));obtain⟨C,f⟩:=pL (L i);obtain⟨D,g⟩:=pL (L t);obtain⟨E,h⟩:=pL (L l);obtain⟨F,j⟩:=pL (L c);obtain⟨b,Q⟩:=pL i.toList.isEmpty;obtain⟨N,k⟩:=pL (Mo.IB u)
 have O:Mo.zv ⟨i,t,l,c,u⟩=(!b&&N&&C&&D&&E&&F):=by
  show(Mo.IV i&&Mo.IB u&&L i&&L t&&L l&&L c)=_
  unfold Mo.IV;rw[f,g,h,j,Q,k]
 rw[O];have q:=I (λu=>Bg i u m);have r:=I (λu=>Bg t u n);have s:=I (λu=>Bg l u o);have v:=I (λu=>Bg c u p);have y:=I (λw=>F4 u w);rw[f] at q;rw[g] at r;rw[h] at s;rw[j] at v;rw[k] at y;clear O f g h j k m n o p
 show Calls ν 36 #[.agg #[K i,K t,K l,K c,G H u]] w _
 go_enter Tryz.func36,Tryz.ntmps36
 go_wp2_with fail
 refine(q.o _).mono ?_;rintro e R⟨rfl,a⟩;have z:=pR P a;replace x0:=pI x0 a;replace x1:=pI x1 a;replace x2:=pI x2 a;replace x3:=pI x3 a;replace x4:=pI x4 a;clear a
 cases C with
 |false=>
  go_wp2_with fail
  go_ret
  exact⟨by cases b<;>simp[OC],z.o⟩
 |true=>
  go_wp2_with fail
  refine(r.o _).mono ?_;rintro e S⟨rfl,a⟩;have A:=pR z a;replace x0:=pI x0 a;replace x1:=pI x1 a;replace x2:=pI x2 a;replace x3:=pI x3 a;replace x4:=pI x4 a;clear a
  cases D with
  |false=>
   go_wp2_with fail
   go_ret
   exact⟨by cases b<;>simp[OC],A.o⟩
  |true=>
   go_wp2_with fail
   refine(s.o _).mono ?_;rintro e T⟨rfl,a⟩;have B:=pR A a;replace x0:=pI x0 a;replace x1:=pI x1 a;replace x2:=pI x2 a;replace x3:=pI x3 a;replace x4:=pI x4 a;clear a
   cases E with
   |false=>
    go_wp2_with fail
    go_ret
    exact⟨by cases b<;>simp[OC],B.o⟩
   |true=>
    go_wp2_with fail
    refine(v.o _).mono ?_;rintro e U⟨rfl,a⟩;have d:=pR B a;replace x0:=pI x0 a;replace x1:=pI x1 a;replace x2:=pI x2 a;replace x3:=pI x3 a;replace x4:=pI x4 a;clear a
    cases F with
    |false=>
     go_wp2_with fail
     go_ret
     exact⟨by cases b<;>simp[OC],d.o⟩
    |true=>
     cases b with
     |true=>
      go_wp2_with fail
      go_ret
      exact⟨by simp[OC],d.o⟩
     |false=>
      go_wp2_with fail
      refine(y.o _).mono ?_;rintro e V⟨rfl,rfl⟩
      cases N with
      |false=>
       go_wp2_with fail
       go_ret
       exact⟨by simp[OC],d.o⟩
      |true=>
       go_wp2_with fail
       go_ret;exact⟨by simp[OC],d.o⟩
end Mw
end Go.Proofs.YthbhmjdcfocphaaGreatDoor
