/- A part of this proof. -/
import Derived.Test.YthbhmjdcfocphaaGreatDoorK0
import Derived.Test.YthbhmjdcfocphaaGreatDoorK8
set_option linter.all false
set_option maxHeartbeats 16000000
set_option maxRecDepth 100000
namespace Go.Proofs.YthbhmjdcfocphaaGreatDoor
open Go.Value renaming string→γ, slice→J, pointer→ε, int→θ
open Go.Obj renaming cells→H
open Go.Ending renaming returned→N
open Go.IntKind renaming i64→ι
open Go.Lib renaming hid→K
open Go.RowKit renaming Below→G
open Go.Proofs.Tryz renaming prog→X, ntmps3→Ω, func3→ς
open Go renaming Calls→L, Value→ο, World→ay
open Me renaming pJ→M, tH→aJ
open Mg renaming ER→O
open Rw renaming lt_of_heap→Γ, lt_of_cell→aC
open Mo renaming Fd→V, AG→ah, Dt→aE
open _root_ renaming Nat→I, ByteArray→Ξ, List→U, absurd→aG
open Mw renaming yK→Λ, sY→az, qF→aH, uh→aI
open Jv renaming enc→aj, jA→aA
namespace Ms
open RowKit Rw Vf Mw Me
def Fit.fq{l:U V}(c:Fit l):∀f∈l,Nr.FQ f:=λf d=>⟨fdq_of (c.sz f d) (Pz (c.okf d)) (c.each d).2.2,λe g=>enq_of ((c.sz f d).e e g) ((Pz (c.okf d)).pU e g)⟩
def Fit.ne{l:U V}(c:Fit l):(l.map Nr.nE).sum<=10000:=by
 have e:=D5 Nr.nE Mo.yT 1 l λf h=>by
  have g:=tX Mo.DO KU f.pU;unfold Nr.nE Mo.yT;omega
 have d:=c.wt;unfold ah at d;omega
def Rx(w:ay)(x y:ο)(t:TypeId):Rw (w.alloc (H #[x,y] t)) (J (some ⟨w.heap.size,0,none⟩) 2 2) 1 ([x,y].map λv=>[v]):=by
 have c:=pG w (H #[x,y] t);refine⟨w.heap.size,0,_,2,rfl,λ_=>rfl,λj d k e=>?_⟩;obtain rfl:k=0:=by omega
 match j,d with
 |0,_=>exact⟨x,rfl,M (j:=0) c rfl⟩
 |1,_=>exact⟨y,rfl,M (j:=1) c rfl⟩
def WR{P:ο->U V->Prop}{x y:ο}{a b:U V}(d:P x a)(e:P y b):∀j(c:j<[x,y].length)(f:j<[a,b].length),P [x,y][j] [a,b][j]:=λj c f=>by
 match j,c with
 |0,_=>exact d
 |1,_=>exact e
def KW{W:ay}{x y:ο}{a b:U V}(g:ο)(j:Rw W g 1 ([x,y].map λv=>[v]))(h:rY W x a)(i:rY W y b)(e:Fit a)(f:Fit b):Mr.Ars W g [x,y] [a,b] where
 row:=j
 len:=rfl
 at':=WR h i
 bd:=λc d=>by
  simp only[ox,oy,nw] at d;rcases d with rfl|rfl
  ·exact e.bd
  ·exact f.bd
 ok:=λc d=>by
  simp only[ox,oy,nw] at d;rcases d with rfl|rfl
  ·exact e.ok
  ·exact f.ok
 n:=by have:=e.len;have:=f.len;simp;omega
 m:=by simp
def WS{a b:U V}(d:Fit a)(e:Fit b):∀g∈[a,b].flatten,Nr.FQ g:=λg c=>by
 simp only[kn,jj,nC,jU] at c;rcases c with c|c
 ·exact d.fq g c
 ·exact e.fq g c
def WU{a b:U V}(c:Fit a)(d:Fit b):([a,b].flatten.map Nr.nE).sum<=1000000:=by have:=c.ne;have:=d.ne;simp only[kn,jj,nC,nv,jV];omega
section
variable {W:ay}{B F s n:I}{Z p:I->Prop}{a:AS}{nm:Ξ}
def sadd_ok(E:∀u,L X 25 #[γ nm] u λe w'=>e=N (.bool true)/\G u.heap.size u w')(af:nm.size<=100)(D:Fs W B F Z a p)(q:Qs a n)(av:n<=200000)(S:JC W s F)(am:¬p s)(v:ο)(o l:U V)(T:rY W v l)(d:Fit o)(g:Fit l)(h:Fit (O o l))(ag:a.read (nm++qV)=(aj (aA o),0))
 (wt:Me.WT W) (sp:∀u,G W.heap.size W u->aJ u) (ae:qw a.names (nm++Fq).data.toList=none):
 L X 29 #[ε (some ⟨s,0,none⟩),γ nm,.agg #[v]] W λe w'=>e=N (θ ι 0)/\xK W w' B F Z p (a.rF (nm++qV) (aj (aA (O o l)))):=by
 have ac:=pM W (H #[v] 24);have x0:=M (j:=0) (pG W (H #[v] 24)) rfl;have A:=K ac;have a3:=K (λu (c:G W.heap.size W u)=>DE nm E af (D.below c) q.ok (pI S c) o _ rfl ag d.enc d.jb (wt.below c) (λy a0=>sp y (pK c a0)) d.Iz);have w:=K (λu x an (c:G W.heap.size W u) Y aw=>Mr.TD [o,l] [x,v] an u (KW an aw Y (T.under c) d g) (wt.below c) (WS d g) (WU d g));have a5:=K (λu x (c:G W.heap.size W u) Y=>KX E af (D.below c) q av (pI S c) am x (O o l) ⟨Y,h.enc,h.jb,wt.below c,λy a0=>sp y (pK c a0),h.Iz⟩ ae);obtain⟨-,-,aa,cap,rfl,-,-⟩:=aH T;generalize l.length=ai at x0 A w|-;clear ac D q S am T d g h ag wt sp ae E
 go_enter Tryz.func29,Tryz.ntmps29
 go_wp2_with fail
 refine(a3.o _ A.o).mono ?_;rintro e a1⟨⟨va,rfl,k,-⟩,P⟩;obtain⟨-,-,m,r,rfl,-,-⟩:=aH k;have ar:=pR A P;replace x0:=pI x0 P;generalize o.length=t at k|-;have i:=pM a1 (H #[J m t r] 24);have a7:=pR ar i;have a9:=K (k.under i);replace x0:=pI x0 i;have ap:=M (j:=0) (pG a1 (H #[J m t r] 24)) rfl;clear k P i a3
 go_upto_region 4 with fail
 generalize a1.alloc _=ao at a7 a9 x0 ap|-;have Q:=pM ao (H #[J m t r,J aa ai cap] 24);have a8:=pR a7 Q;have a4:=K (w.o _ _ _ a8.o (a9.o.under Q) (Rx ao (J m t r) (J aa ai cap) 24));clear Q w
 go_wp2_with fail
 refine a4.o.mono ?_;rintro e a2⟨⟨ax,rfl,f⟩,ad⟩;have au:=pR a8 ad;replace f:rY a2 ax (O o l):=by simpa [O] using f
 obtain⟨-,-,ak,al,rfl,-,-⟩:=aH f;have R:=pM a2 (H #[J ak (O o l).length al] 24);have C:=pR au R;have a6:=K (a5.o _ _ C.o (f.under R));have aB:=M (j:=0) (pG a2 (H #[J ak (O o l).length al] 24)) rfl;clear f ad R a4 a5 ap x0;generalize(O o l).length=aD at a6 aB C|-
 go_wp2_with fail
 refine a6.o.mono ?_;rintro e aF⟨rfl,ab⟩;have aq:=K (xK.qd C.o ab);clear ab
 go_wp2_with fail
 go_ret;exact⟨rfl,aq.o⟩
def TZ{nf:Ξ}(D:∀u,L X 25 #[γ nm] u λe w'=>e=N (.bool true)/\G u.heap.size u w')(a5:nm.size<=100)(C:∀u,L X 25 #[γ nf] u λe w'=>e=N (.bool true)/\G u.heap.size u w')(a4:nf.size<=100)(g:Fs W B F Z a p)(q:Qs a n)(a6:n<=200000)(i:JC W s F)(S:¬p s)(o l:U V)(w:Fit o)(c:Fit l)(t:Fit (O o l))(Q:a.read (nm++qV)=(aj (aA o),0))(R:a.read (nf++qV)=(aj (aA l),0))
 (wt:Me.WT W) (sp:∀u,G W.heap.size W u->aJ u) (P:qw a.names (nm++Fq).data.toList=none):
 L X 11 #[ε (some ⟨s,0,none⟩),γ nm,γ nf] W λe w'=>e=N (θ ι 0)/\xK W w' B F Z p (a.rF (nm++qV) (aj (aA (O o l)))):=by
 have m:=K (DE nf C a4 g q.ok i l _ rfl R c.enc c.jb wt sp c.Iz);have k:=K (λu v (d:G W.heap.size W u) a7=>sadd_ok D a5 (g.below d) q a6 (pI i d) S v o l a7 w c t Q (wt.below d) (λy a8=>sp y (pK d a8)) P);clear g q i S w c t Q R wt sp P D C
 go_enter Tryz.func11,Tryz.ntmps11
 go_wp2_with fail
 refine m.o.mono ?_;rintro e a1⟨⟨va,rfl,f,-⟩,E⟩;obtain⟨-,-,T,Y,rfl,-,-⟩:=aH f;generalize l.length=a0 at f|-;have h:=pM a1 (H #[J T a0 Y] 24);have r:=K (pK E h);have a2:=K (k.o _ _ r.o (f.under h));have aa:=M (j:=0) (pG a1 (H #[J T a0 Y] 24)) rfl;clear f E h m k
 go_wp2_with fail
 refine a2.o.mono ?_;rintro e a9⟨rfl,A⟩;have a3:=K (xK.qd r.o A);clear A
 go_wp2_with fail
 go_ret;exact⟨rfl,a3.o⟩
end
def Fit.fom{W:ay}{v:ο}{l:U V}(c:Fit l)(e:rY W v l):Nd.ZB W v [] l:=
 Nd.fom_of e c.ok (by have:=c.len;omega) (λf d=>(c.each d).2.1) c.srt
def T0{W:ay}{B F s n:I}{Z p:I->Prop}{a:AS}{nm:Ξ}(r:∀u,L X 25 #[γ nm] u λe w'=>e=N (.bool true)/\G u.heap.size u w')(S:nm.size<=100)(o:Fs W B F Z a p)(ok:a.Ok n)(C:JC W s F)(l:U V)(c:Fit l)(A:a.read (nm++qV)=(aj (aA l),0))
 (i:Xw.XT W) (sp:∀u,G W.heap.size W u->aJ u):
 L X 12 #[ε (some ⟨s,0,none⟩),γ nm,θ ι 6] W λe w'=>e=N (.tuple #[γ ⟨(Xm.doc (Xm.tree l)).toArray⟩,θ ι 0])/\G W.heap.size W w':=by
 have m:=K (DE nm r S o ok C l _ rfl A c.enc c.jb i.wt sp c.Iz);have d:=K (λu v (T:G W.heap.size W u) Y R=>Nd.Nn l v u (c.fom Y) c.bd c.ok c.okF (by have:=c.len;omega) (i.below T) R);generalize(⟨(Xm.doc (Xm.tree l)).toArray⟩:Ξ)=a1 at d|-;clear o ok C c A i sp r
 go_enter Tryz.func12,Tryz.ntmps12
 go_wp2_with fail
 refine m.o.mono ?_;rintro e P⟨⟨va,rfl,h,w⟩,t⟩;obtain⟨-,-,D,E,rfl,-,-⟩:=aH h;have g:=pM P (H #[J D l.length E] 24);have f:=K (pK t g);have k:=K (d.o _ _ f.o (h.under g) w);have a0:=M (j:=0) (pG P (H #[J D l.length E] 24)) rfl;generalize l.length=a2 at k a0 f|-;clear h t g m d w
 go_wp2_with fail
 refine k.o.mono ?_;rintro e a3⟨rfl,q⟩;have Q:=pR f q;clear q
 go_wp2_with fail
 go_ret2;exact⟨rfl,Q.o⟩
end Ms
namespace Ms
open RowKit Rw Vf
def nY:Ξ:=⟨#[121]⟩
def A1(x y:U UInt8):AS:=(A0 x).rF (nY++qV) y
def A2(x y z:U UInt8):AS:=(A1 x y).rF (nX++qV) z
section
variable {x y z:U UInt8}
def a1_q(c:x.length<=1000000)(d:y.length<=1000000):Qs (A1 x y) 2:=Qs.rF (a0_q c) (by decide) d
def a2_q(c:x.length<=1000000)(d:y.length<=1000000)(e:z.length<=1000000):Qs (A2 x y z) 3:=Qs.rF (a1_q c d) (by decide) e
def a0_t:qw (A0 x).names (nY++Fq).data.toList=none:=rfl
def a1_t:qw (A1 x y).names (nX++Fq).data.toList=none:=rfl
def a1_x:(A1 x y).read (nX++qV)=(x,0):=rfl
def a1_y:(A1 x y).read (nY++qV)=(y,0):=rfl
def a2_x:(A2 x y z).read (nX++qV)=(z,0):=rfl
def a2_y:(A2 x y z).read (nY++qV)=(y,0):=rfl
end
def xK.step{d w:ay}{B F:I}{Z j:I->Prop}{a a':AS}(m:xK d w B F Z j a){f:FuncId}{args:Array ο}{r:ο}(c:∀p',Fs w B F Z a p'->(∀k,p' k->j k\/d.heap.size<=k)->L X f args w λe w'=>e=N r/\xK w w' B F Z p' a'):L X f args w λe w'=>e=N r/\xK d w' B F Z j a':=by
 obtain⟨p',o,l,h⟩:=m;refine(c p' o h).mono ?_;rintro e w'⟨rfl,q,t,u,v⟩;refine⟨rfl,q,t,l.trans u (λk i A=>(h k A).elim id (λg=>aG i (by omega))),λk i=>?_⟩;rcases v k i with g|g
 ·exact h k g
 ·exact .inr (pF l.size g)
def Is.KY{w:ay}{B k:I}{o:Vf.Loc}{s:Vf.St}(c:Vf.Is w B o s)(d:Vf.r7 o s k):k<w.heap.size:=by
 rcases d with rfl|rfl|rfl|d|d|⟨f,i,rfl⟩
 ·exact Γ c.fs
 ·exact c.names.lt
 ·exact c.tK.lt
 ·obtain⟨g,e⟩:=qH c.files d
  exact Γ e
 ·obtain⟨g,e⟩:=qH c.pend d
  exact Γ e
 ·obtain⟨j,l,h,_⟩:=c.each f i
  exact Γ h
def Fs.KY{w:ay}{B F:I}{Z p:I->Prop}{a:AS}(c:Fs w B F Z a p){k:I}(e:p k):k<w.heap.size:=by obtain⟨o,s,f,g,d,h,rfl⟩:=c;exact Is.KY d e
structure T3(W:ay)(va vb:ο)(a b:U V):Prop where
 ma:rY W va a
 mb:rY W vb b
 ba:Mw.IA a
 bb:Mw.IA b
 xt:Xw.XT W
 sp:∀u,G W.heap.size W u->aJ u
def vL{W:ay}{va:ο}{ar:U V}(d:rY W va ar):∃c cap,va=J c ar.length cap:=by obtain⟨-,-,c,cap,rfl,-,-⟩:=aH d;exact⟨c,cap,rfl⟩
def Fit.po{W:ay}{v:ο}{l:U V}(c:Fit l)(d:rY W v l)(wt:Me.WT W)(sp:∀u,G W.heap.size W u->aJ u):Ry W v l:=⟨d,c.enc,c.jb,wt,sp,c.Iz⟩
section
variable {W:ay}{va vb:ο}{a b:U V}
def mg_too1(c:T3 W va vb a b)(v:5000<ah a):
 L X 3 #[.agg #[va],.agg #[vb]] W λe w'=>e=N (.bool true)/\G W.heap.size W w':=by
 obtain⟨r,t,C⟩:=Gr.sM W (H #[va] (24:I)) (H #[vb] (24:I));have x0:=M (j:=0) r rfl;have h:=M (j:=0) t rfl;have m:=K C;have k:=K (zk ((W.alloc (H #[va] (24:I))).alloc (H #[vb] (24:I))));have i:=K (λu (g:G W.heap.size W u)=>az u va a (c.ma.under g) c.ba);have l:=K (λu (g:G W.heap.size W u)=>zm u (c.xt.wt.below g) (λw E=>c.sp w (pK g E)));rw[Mw.Dp v] at i;obtain⟨Q,P,rfl⟩:=vL c.ma;obtain⟨bd,R,rfl⟩:=vL c.mb;clear r t C c v
 go_enter ς,Ω
 go_wp2_with fail
 refine k.o.mono ?_;rintro e S⟨F,s,p,rfl,-,-,-,d,-⟩;have o:=pR m d;replace x0:=pI x0 d;replace h:=pI h d;clear d m k
 go_wp2_with fail
 refine(i.o _ o.o).mono ?_;rintro e T⟨rfl,f⟩;have q:=pR o f;replace x0:=pI x0 f;replace h:=pI h f;clear f i
 go_wp2_with fail
 refine(l.o _ q.o).mono ?_;rintro e Y⟨rfl,A⟩;have D:=pR q A;clear A l
 go_wp2_with fail
 go_ret;exact⟨rfl,D.o⟩
def mg_too2(c:T3 W va vb a b)(D:¬5000<ah a)(E:5000<ah b):
 L X 3 #[.agg #[va],.agg #[vb]] W λe w'=>e=N (.bool true)/\G W.heap.size W w':=by
 obtain⟨A,C,Q⟩:=Gr.sM W (H #[va] (24:I)) (H #[vb] (24:I));have x0:=M (j:=0) A rfl;have f:=M (j:=0) C rfl;have q:=K Q;have m:=K (zk ((W.alloc (H #[va] (24:I))).alloc (H #[vb] (24:I))));have k:=K (λu (d:G W.heap.size W u)=>az u va a (c.ma.under d) c.ba);have l:=K (λu (d:G W.heap.size W u)=>az u vb b (c.mb.under d) c.bb);have o:=K (λu (d:G W.heap.size W u)=>zm u (c.xt.wt.below d) (λw S=>c.sp w (pK d S)));rw[show Λ a=0 from by unfold Λ;rw[oU D]] at k;rw[Mw.Dp E] at l;obtain⟨Y,T,rfl⟩:=vL c.ma;obtain⟨bd,a0,rfl⟩:=vL c.mb;clear A C Q c D E
 go_enter ς,Ω
 go_wp2_with fail
 refine m.o.mono ?_;rintro e a1⟨F,s,p,rfl,-,-,-,g,-⟩;have r:=pR q g;replace x0:=pI x0 g;replace f:=pI f g;clear g q m
 go_wp2_with fail
 refine(k.o _ r.o).mono ?_;rintro e a2⟨rfl,h⟩;have t:=pR r h;replace x0:=pI x0 h;replace f:=pI f h;clear h k
 go_wp2_with fail
 refine(l.o _ t.o).mono ?_;rintro e a3⟨rfl,i⟩;have v:=pR t i;replace x0:=pI x0 i;replace f:=pI f i;clear i l
 go_wp2_with fail
 refine(o.o _ v.o).mono ?_;rintro e a4⟨rfl,P⟩;have R:=pR v P;clear P o
 go_wp2_with fail
 go_ret;exact⟨rfl,R.o⟩
def mg_bad1(c:T3 W va vb a b)(Q:¬5000<ah a)(R:¬5000<ah b)(Y:aE a=false):
 L X 3 #[.agg #[va],.agg #[vb]] W λe w'=>e=N (.bool true)/\G W.heap.size W w':=by
 obtain⟨E,P,T⟩:=Gr.sM W (H #[va] (24:I)) (H #[vb] (24:I));have x0:=M (j:=0) E rfl;have f:=M (j:=0) P rfl;have t:=K T;have q:=K (zk ((W.alloc (H #[va] (24:I))).alloc (H #[vb] (24:I))));have m:=K (λu (d:G W.heap.size W u)=>az u va a (c.ma.under d) c.ba);have o:=K (λu (d:G W.heap.size W u)=>az u vb b (c.mb.under d) c.bb);have g:=K (λu (d:G W.heap.size W u)=>aI u va a (c.ma.under d) c.ba);have r:=K (λu (d:G W.heap.size W u)=>zm u (c.xt.wt.below d) (λw a1=>c.sp w (pK d a1)));rw[show Λ a=0 from by unfold Λ;rw[oU Q]] at m;rw[show Λ b=0 from by unfold Λ;rw[oU R]] at o;rw[Y] at g;change Hid (∀u(d:G W.heap.size W u),L _ _ _ _ (λe w'=>e=N (θ ι 22)/\_)) at g;obtain⟨a3,a2,rfl⟩:=vL c.ma;obtain⟨bd,a4,rfl⟩:=vL c.mb;clear E P T c Q R Y
 go_enter ς,Ω
 go_wp2_with fail
 refine q.o.mono ?_;rintro e a5⟨F,s,p,rfl,-,-,-,h,-⟩;have v:=pR t h;replace x0:=pI x0 h;replace f:=pI f h;clear h t q
 go_wp2_with fail
 refine(m.o _ v.o).mono ?_;rintro e a6⟨rfl,i⟩;have A:=pR v i;replace x0:=pI x0 i;replace f:=pI f i;clear i m
 go_wp2_with fail
 refine(o.o _ A.o).mono ?_;rintro e a7⟨rfl,k⟩;have C:=pR A k;replace x0:=pI x0 k;replace f:=pI f k;clear k o
 go_wp2_with fail
 refine(g.o _ C.o).mono ?_;rintro e a8⟨rfl,l⟩;have D:=pR C l;replace x0:=pI x0 l;replace f:=pI f l;clear l g
 go_wp2_with fail
 refine(r.o _ D.o).mono ?_;rintro e a9⟨rfl,S⟩;have a0:=pR D S;clear S r
 go_wp2_with fail
 go_ret;exact⟨rfl,a0.o⟩
def mg_bad2(c:T3 W va vb a b)(T:¬5000<ah a)(Y:¬5000<ah b)(a2:aE a=true)(a3:aE b=false):
 L X 3 #[.agg #[va],.agg #[vb]] W λe w'=>e=N (.bool true)/\G W.heap.size W w':=by
 obtain⟨R,S,a1⟩:=Gr.sM W (H #[va] (24:I)) (H #[vb] (24:I));have x0:=M (j:=0) R rfl;have f:=M (j:=0) S rfl;have A:=K a1;have t:=K (zk ((W.alloc (H #[va] (24:I))).alloc (H #[vb] (24:I))));have q:=K (λu (d:G W.heap.size W u)=>az u va a (c.ma.under d) c.ba);have r:=K (λu (d:G W.heap.size W u)=>az u vb b (c.mb.under d) c.bb);have g:=K (λu (d:G W.heap.size W u)=>aI u va a (c.ma.under d) c.ba);have h:=K (λu (d:G W.heap.size W u)=>aI u vb b (c.mb.under d) c.bb);have v:=K (λu (d:G W.heap.size W u)=>zm u (c.xt.wt.below d) (λw a5=>c.sp w (pK d a5)));rw[show Λ a=0 from by unfold Λ;rw[oU T]] at q;rw[show Λ b=0 from by unfold Λ;rw[oU Y]] at r;rw[a2] at g;change Hid (∀u(d:G W.heap.size W u),L _ _ _ _ (λe w'=>e=N (θ ι 0)/\_)) at g;rw[a3] at h;change Hid (∀u(d:G W.heap.size W u),L _ _ _ _ (λe w'=>e=N (θ ι 22)/\_)) at h;obtain⟨a7,a6,rfl⟩:=vL c.ma;obtain⟨bd,a8,rfl⟩:=vL c.mb;clear R S a1 c T Y a2 a3
 go_enter ς,Ω
 go_wp2_with fail
 refine t.o.mono ?_;rintro e a9⟨F,s,p,rfl,-,-,-,i,-⟩;have C:=pR A i;replace x0:=pI x0 i;replace f:=pI f i;clear i A t
 go_wp2_with fail
 refine(q.o _ C.o).mono ?_;rintro e aa⟨rfl,k⟩;have D:=pR C k;replace x0:=pI x0 k;replace f:=pI f k;clear k q
 go_wp2_with fail
 refine(r.o _ D.o).mono ?_;rintro e ab⟨rfl,l⟩;have E:=pR D l;replace x0:=pI x0 l;replace f:=pI f l;clear l r
 go_wp2_with fail
 refine(g.o _ E.o).mono ?_;rintro e ac⟨rfl,m⟩;have P:=pR E m;replace x0:=pI x0 m;replace f:=pI f m;clear m g
 go_wp2_with fail
 refine(h.o _ P.o).mono ?_;rintro e ad⟨rfl,o⟩;have Q:=pR P o;replace x0:=pI x0 o;replace f:=pI f o;clear o h
 go_wp2_with fail
 refine(v.o _ Q.o).mono ?_;rintro e ae⟨rfl,a0⟩;have a4:=pR Q a0;clear a0 v
 go_wp2_with fail
 go_ret;exact⟨rfl,a4.o⟩
def mg_main(c:T3 W va vb a b)(cD:¬5000<ah a)(cE:¬5000<ah b)(br:aE a=true)(bs:aE b=true):
 L X 3 #[.agg #[va],.agg #[vb]] W λe w'=>e=N (.bool true)/\G W.heap.size W w':=by
 obtain⟨cC,bm,cH⟩:=Gr.sM W (H #[va] (24:I)) (H #[vb] (24:I));have x0:=M (j:=0) cC rfl;have i:=M (j:=0) bm rfl;have aY:=K cH;have bN:=K (zk ((W.alloc (H #[va] (24:I))).alloc (H #[vb] (24:I))));have aT:=K (λu (d:G W.heap.size W u)=>az u va a (c.ma.under d) c.ba);have aU:=K (λu (d:G W.heap.size W u)=>az u vb b (c.mb.under d) c.bb);have am:=K (λu (d:G W.heap.size W u)=>aI u va a (c.ma.under d) c.ba);have an:=K (λu (d:G W.heap.size W u)=>aI u vb b (c.mb.under d) c.bb);have bS:=K (λu (d:G W.heap.size W u)=>zm u (c.xt.wt.below d) (λw S=>c.sp w (pK d S)));rw[show Λ a=0 from by unfold Λ;rw[oU cD]] at aT;rw[show Λ b=0 from by unfold Λ;rw[oU cE]] at aU;rw[br] at am;change Hid (∀u(d:G W.heap.size W u),L _ _ _ _ (λe w'=>e=N (θ ι 0)/\_)) at am;rw[bs] at an;change Hid (∀u(d:G W.heap.size W u),L _ _ _ _ (λe w'=>e=N (θ ι 0)/\_)) at an;have m:=Fit.of br (by omega);have g:=Fit.of bs (by omega);have l:=m.ER g (by omega) (by omega);have au:=K l;have b3:=K g;have dt:=K (λu (d:G W.heap.size W u)=>m.po (c.ma.under d) (c.xt.wt.below d) (λw S=>c.sp w (pK d S)));have du:=K (λu (d:G W.heap.size W u)=>g.po (c.mb.under d) (c.xt.wt.below d) (λw S=>c.sp w (pK d S)));have bM:=K (λu aQ (d:G W.heap.size W u) aN=>Nr.PC [a,b] [va,vb] aQ u aN rfl (WR (c.ma.under d) (c.mb.under d)) (KW aQ aN (c.ma.under d) (c.mb.under d) m g).bd (KW aQ aN (c.ma.under d) (c.mb.under d) m g).ok (KW aQ aN (c.ma.under d) (c.mb.under d) m g).n (by simp) (WS m g) (WU m g));have aV:=K (λu v dw=>Nd.Nj (O a b) v u (l.fom dw) l.bd l.ok l.okF (by have:=l.len;omega));have bO:=K (λu bE bF bn aa=>Eqw.No (O a b) bE bF u bn aa (by have:=l.len;omega) (λf af=>⟨by have:=(l.each af).2.1;omega,by have:=(l.each af).1;omega⟩));have bQ:=K (λu bE bF bn aa=>Eqw.No b bE bF u bn aa (by have:=g.len;omega) (λf af=>⟨by have:=(g.each af).2.1;omega,by have:=(g.each af).1;omega⟩));have ax:=K (λu (d:G W.heap.size W u)=>c.xt.below d);have aw:=K (λu (d:G W.heap.size W u) w S=>c.sp w (pK d S));have dc:=K c.mb;have da:=K m;have cf:=K (show W.heap.size+1<((W.alloc (H #[va] (24:I))).alloc (H #[vb] (24:I))).heap.size from Γ bm);obtain⟨aO,bw⟩:=pL (aj (aA a));obtain⟨aP,bx⟩:=pL (aj (aA b));obtain⟨bD,bz⟩:=pL (aj (aA (O a b)));obtain⟨bT,bo⟩:∃bT:Ξ,(⟨(Xm.doc (Xm.tree (O a b))).toArray⟩:Ξ)=bT:=⟨_,rfl⟩;have co:=K bw;have b6:=K bx;have b7:=K bz;have d1:=K bo;have a5:=K (show aO.length<=1000000 by rw[<-bw];exact m.Iz);have a6:=K (show aP.length<=1000000 by rw[<-bx];exact g.Iz);have av:=K (show bD.length<=1000000 by rw[<-bz];exact l.Iz);rw[bo] at aV;obtain⟨cz,cy,rfl⟩:=vL c.ma;obtain⟨bd,cA,rfl⟩:=vL c.mb;clear cC bm cH c cD cE br bs m g l bw bx bz bo
 go_enter ς,Ω
 go_wp2_with fail
 refine bN.o.mono ?_;rintro e dB⟨F,s,p,rfl,aF,cK,cP,ab,aM⟩;have bX:=pR aY ab;have aq:=K aY.o.size;have ar:=K ab.size;have cn:=K (λk (a0:p k)=>Fs.KY aF a0);replace x0:=pI x0 ab;replace i:=pI i ab;generalize((W.alloc _).alloc _).heap.size=B at aF aM aq ar cf;have d3:=K aF;have de:=K cK;have T:=K cP;have b5:=K aM;have dm:=K (oZ dB.heap.size);have cm:=K (show¬p (W.heap.size+1) fromλc=>aG (aM _ c) (Nat.not_le.2 cf.o));clear ab aY bN aF cK cP aM
 go_wp2_with fail
 refine(aT.o _ bX.o).mono ?_;rintro e dP⟨rfl,C⟩;have ca:=pR bX C;replace x0:=pI x0 C;replace i:=pI i C;have d4:=K (d3.o.below C);have dh:=K (show JC _ s F from pI de.o C);have dn:=K (pF dm.o (C).size);clear C aT
 go_wp2_with fail
 refine(aU.o _ ca.o).mono ?_;rintro e dR⟨rfl,D⟩;have cb:=pR ca D;replace x0:=pI x0 D;replace i:=pI i D;have d5:=K (d4.o.below D);have di:=K (show JC _ s F from pI dh.o D);have dp:=K (pF dn.o (D).size);clear D aU
 go_wp2_with fail
 refine(am.o _ cb.o).mono ?_;rintro e dS⟨rfl,E⟩;have cd:=pR cb E;replace x0:=pI x0 E;replace i:=pI i E;have d6:=K (d5.o.below E);have dj:=K (show JC _ s F from pI di.o E);have dq:=K (pF dp.o (E).size);clear E am
 go_wp2_with fail
 refine(an.o _ cd.o).mono ?_;rintro e bL⟨rfl,P⟩;have cY:=pR cd P;replace x0:=pI x0 P;replace i:=pI i P;have d7:=K (d6.o.below P);have dk:=K (show JC _ s F from pI dj.o P);have dr:=K (pF dq.o (P).size);clear P an;have Q:=pM bL (H #[J cz a.length cy,J bd b.length cA] (24:I));have b2:=pR cY Q;have cj:=K (d7.o.below Q);have cs:=K (show JC _ s F from pI dk.o Q);have b8:=K (pF dr.o (Q).size);have aS:=K (bM.o _ _ b2.o (Rx bL (J cz a.length cy) (J bd b.length cA) (24:I)));have x6:=pI x0 Q;have y6:=pI i Q;have bc:=K (And.intro x6 y6);clear Q bM
 go_wp2_with fail
 refine aS.o.mono ?_;clear x0 i x6 y6;generalize bL.alloc _=dD at b2 cj cs b8 bc aS;rintro e h⟨⟨dA,rfl,Y⟩,R⟩;replace Y:∀u,Me.Agree dD.heap.size h u none->rY u dA (O a b):=λu d=>by simpa [O] using Y u d
 obtain⟨ag,ai,cJ⟩:=vL (Y h λ_ _ _ _=>rfl);obtain⟨t,bt⟩:=pL ((O a b).length);rw[bt] at cJ;subst cJ;have dd:=K bt;have db:=K Y;have cZ:=pR b2 R;have d8:=K (cj.o.below R);have dl:=K (show JC _ s F from pI cs.o R);have cv:=K (pF b8.o (R).size);have o:=pM h (H #[J ag t ai] (24:I));have ce:=pR cZ o;have ck:=K (d8.o.below o);have ct:=K (show JC _ s F from pI dl.o o);have cw:=K (pF cv.o (o).size);have be:=K (And.intro (pI (pI bc.o.1 R) o) (pI (pI bc.o.2 R) o));have bC:=M (j:=0) (pG h (H #[J ag t ai] (24:I))) rfl;have b4:=K bC;have bW:=K (show∀k,k<h.heap.size->(h.alloc (H #[J ag t ai] (24:I))).heap[k]?=h.heap[k]? fromλk a0=>o.block k a0);have aW:=K (aV.o (h.alloc (H #[J ag t ai] (24:I))) _ (Y _ λq _ aa _=>o.block q aa));clear Y R o bt aS aV
 go_wp2_with fail
 generalize h.alloc (H #[J ag t ai] (24:I))=dE at ce ck ct cw be bC b4 bW aW|-;refine aW.o.mono ?_;rintro e a1⟨rfl,r⟩;have ap:=pR ce r;have d9:=K (ck.o.below r);have a7:=K (show JC _ s F from pI ct.o r);have b9:=K (pF cw.o (r).size);have bf:=K (And.intro (pI be.o.1 r) (pI be.o.2 r));have cl:=K (pI b4.o r);have ds:=K (show h.heap.size<a1.heap.size from aC cl.o);have cU:=K (show∀k,k<h.heap.size->a1.heap[k]?=h.heap[k]? fromλk a0=>(r.block k (kN a0 (show h.heap.size<dE.heap.size from aC b4.o))).trans (bW.o k a0));have cu:=K (aC a7.o);have a2:=K (KX (nm:=nX) DF (by decide) d9.o RB (by omega) a7.o T.o _ a (dt.o a1 ap.o) rfl);rw[co.o] at a2;change Hid (L _ _ _ _ (λe w'=>_/\xK a1 w' B F (λ_=>False) p (A0 aO))) at a2;have dF:=bf.o.1;clear r aW bC;unfold nX at a2
 go_wp2_with fail
 refine a2.o.mono ?_;rintro e cQ⟨rfl,a8⟩;have df:=K (show JC cQ s F from a8.cell a7.o T.o);have cV:=K (ap.o.trans ((a8.under b5.o (pF ar.o b9.o)).mono aq.o));have a3:=K (xK.step a8 λp' bp bv=>KX (nm:=nY) Gz (by decide) bp (a0_q a5.o) (by omega) df.o (λc=>(bv s c).elim T.o λc=>aG cu.o (Nat.not_lt.2 c)) _ b (du.o cQ cV.o) a0_t);rw[b6.o] at a3;change Hid (L _ _ _ _ (λe w'=>_/\xK a1 w' B F (λ_=>False) p (A1 aO aP))) at a3;have dG:=a8.cell bf.o.2 cm.o;clear a8 a2 dF;unfold nY at a3
 go_wp2_with fail
 refine a3.o.mono ?_;rintro e bG⟨rfl,aB⟩;have dg:=K (show JC bG s F from aB.cell a7.o T.o);have bY:=K (ap.o.trans ((aB.under b5.o (pF ar.o b9.o)).mono aq.o));have a4:=K (xK.step aB λp' bp bv=>TZ (nm:=nX) (nf:=nY) DF (by decide) Gz (by decide) bp (a1_q a5.o a6.o) (by omega) dg.o (λc=>(bv s c).elim T.o λc=>aG cu.o (Nat.not_lt.2 c)) a b da.o b3.o au.o (by rw[co.o];exact a1_x) (by rw[b6.o];exact a1_y) (ax.o bG bY.o).wt (aw.o bG bY.o) a1_t);rw[b7.o] at a4;change Hid (L _ _ _ _ (λe w'=>_/\xK a1 w' B F (λ_=>False) p (A2 aO aP bD))) at a4;clear aB a3 dG;unfold nX nY at a4
 go_wp2_with fail
 refine a4.o.mono ?_;rintro e bH⟨rfl,a9⟩;have cp:=K (show JC bH s F from a9.cell a7.o T.o);have aZ:=K (ap.o.trans ((a9.under b5.o (pF ar.o b9.o)).mono aq.o));have cT:=K a9;obtain⟨dI,cL,-,-⟩:=id a9;have ak:=K (T0 (nm:=nX) DF (by decide) cL (a2_q a5.o a6.o av.o).ok cp.o (O a b) au.o (by rw[b7.o];exact a2_x) (ax.o bH aZ.o) (aw.o bH aZ.o));rw[d1.o] at ak;clear a9 a4 cL;unfold nX at ak
 go_wp2_with fail
 refine ak.o.mono ?_;rintro e bI⟨rfl,aK⟩;have bU:=K (cT.o.below aK);have cq:=K (show JC bI s F from pI cp.o aK);have b0:=pR aZ aK;obtain⟨dJ,cM,-,-⟩:=id bU.o;have aR:=K (DE nX DF (by decide) cM (a2_q a5.o a6.o av.o).ok cq.o (O a b) bD b7.o a2_x au.o.enc au.o.jb (ax.o bI b0.o).wt (aw.o bI b0.o) av.o);clear aK ak cM;unfold nX at aR
 go_wp2_with fail
 refine aR.o.mono ?_;rintro e bJ⟨⟨dL,rfl,bA,-⟩,aL⟩;obtain⟨bi,cc,cI⟩:=vL bA;rw[dd.o] at cI;subst cI;have ac:=pM bJ (H #[J bi t cc] (24:I));have ao:=pR b0 (pK aL ac);have cg:=K (bA.under ac);have bg:=M (j:=0) (pG bJ (H #[J bi t cc] (24:I))) rfl;have aX:=K (bU.o.below (pK aL ac));have cr:=K (show JC _ s F from pI cq.o (pK aL ac));obtain⟨dK,cN,-,-⟩:=id aX.o;have al:=K (DE nY Gz (by decide) cN (a2_q a5.o a6.o av.o).ok cr.o b aP b6.o a2_y b3.o.enc b3.o.jb (ax.o _ ao.o).wt (aw.o _ ao.o) a6.o);clear bA aL ac aR cN;unfold nY at al
 go_wp2_with fail
 generalize bJ.alloc (H #[J bi t cc] (24:I))=dN at ao cg bg aX cr al|-;refine al.o.mono ?_;rintro e bK⟨⟨dM,rfl,bB,-⟩,cF⟩;obtain⟨bk,bl,rfl⟩:=vL bB;have bq:=pM bK (H #[J bk b.length bl] (24:I));have ae:=pK cF bq;have b1:=pR ao ae;have ch:=K (cg.o.under ae);have ci:=K (bB.under bq);have bh:=pI bg ae;have bj:=M (j:=0) (pG bK (H #[J bk b.length bl] (24:I))) rfl;have bV:=K (aX.o.below ae);clear bB cF bq ae al bg
 go_wp2_with fail
 generalize bK.alloc (H #[J bk b.length bl] (24:I))=dO at b1 ch ci bh bj bV|-;refine(bS.o _ b1.o).mono ?_;rintro e cR⟨rfl,A⟩;have cW:=pR b1 A;have d0:=K (ch.o.under A);have d2:=K (ci.o.under A);have dv:=pI bh A;have cB:=pI bj A;have aD:=bV.o.below A;have dz:=aD.cell cl.o (λbu=>aG (cn.o _ bu) (Nat.not_lt.2 cv.o));have cS:=aD.cell bf.o.2 cm.o;have cx:=K (And.intro cB cS)
 have bP:=K (bO.o cR _ _ d0.o (db.o cR λk dx cO _=>by
  obtain⟨p',-,dy,-⟩:=aD;exact(dy.block k (kN cO ds.o) λbu=>aG (cn.o _ bu) (Nat.not_lt.2 (pF b8.o dx))).trans (cU.o k cO)))
 clear A aD bh bj bS bO
 go_wp2_with fail
 refine bP.o.mono ?_;rintro e dC⟨rfl,ad⟩;have bZ:=pR cW ad;have dH:=pI cx.o.1 ad;have dT:=pI cx.o.2 ad;have bR:=K (bQ.o dC _ _ (d2.o.under ad) (dc.o.under bZ.o));clear ad bP bQ dv cB dz cS
 go_wp2_with fail
 refine bR.o.mono ?_;rintro e dQ⟨rfl,cG⟩;have cX:=pR bZ cG;clear cG bR
 go_wp2_with fail
 go_ret;exact⟨rfl,cX.o⟩
def mg_is(c:T3 W va vb a b):
 L X 3 #[.agg #[va],.agg #[vb]] W λe w'=>e=N (.bool true)/\G W.heap.size W w':=by
 by_cases d:5000<ah a
 ·exact mg_too1 c d
 by_cases f:5000<ah b
 ·exact mg_too2 c d f
 cases g:aE a with
 |false=>exact mg_bad1 c d f g
 |true=>
  cases h:aE b with
  |false=>exact mg_bad2 c d f g h
  |true=>exact mg_main c d f g h
end
end Ms
end Go.Proofs.YthbhmjdcfocphaaGreatDoor
