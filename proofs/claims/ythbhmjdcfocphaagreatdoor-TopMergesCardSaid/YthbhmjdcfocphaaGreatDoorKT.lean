/- A part of this proof. -/
import Derived.Test.YthbhmjdcfocphaaGreatDoorKS
import Derived.Test.YthbhmjdcfocphaaGreatDoorKH
set_option linter.all false
set_option maxHeartbeats 16000000
set_option maxRecDepth 100000
namespace Go.Proofs.YthbhmjdcfocphaaGreatDoor
open Go.Value renaming string→γ, slice→δ, pointer→J, int→Y
open Go.Obj renaming cells→ζ
open Go.Ending renaming returned→η
open Go.IntKind renaming i64→ι
open Go.Lib renaming hid→G, cell_of_heap→χ, IsBuilder→Γ, BuilderAt→aC, frozen_of_heap→aH, strCells→aK
open _root_ renaming ByteArray→M, List→N, Nat→I, UInt8→az, absurd→aL
open Option renaming none→K, some→H
open Go.Proofs.Tryz renaming prog→V, underlying84→ah, underlying216→aE, underlying68→aG, ntmps76→aI, func76→aJ
open Go renaming World→L, Value→U, run_string_add_sum→Ω, Calls→ο
open Go.RowKit renaming Below→O
open Jv renaming jA→ς, enc→aA
open _root_.ByteArray renaming size→aj
open Me renaming JS→ay, pJ→aM, WT→aN, tH→aO
namespace Cq
open RowKit
abbrev TB:TypeId:=86
abbrev TU:TypeId:=5
def Ey:(Tryz.prog.info? 86).map (·.size)=H 2:=by kernel_rfl
def Mi:liesAt V Tryz.prog.depth 86 (2/Tryz.prog.cellsOf 86) 0 86 1=true:=by kernel_rfl
def An:(Tryz.prog.info? 5).map (λi=>(i.zero,i.size,i.bytes))=H (H (.int .u8 0),1,1):=by kernel_rfl
def own_below{w w':L}{base:I}{e:TypeId}{v:U}{n:I}{d:N U}(c:w.ownsRow base e 1 v n d)(b:O w.heap.size w w'):w'.ownsRow base e 1 v n d:=
 c.kept (row:=K) ⟨b.os,b.tape,b.output,b.size,λk f _=>b.block k f⟩ (by
  rcases c.2 with⟨rfl,_⟩|⟨g,cap,h,rfl,_⟩
  ·left;rfl
  ·right;simp[Value.ownBlock])
def vQ{B b:I}{p:U}{c:N U}{w w':L}(f:aC TB TU B b p c w)(e:O w.heap.size w w'):aC TB TU B b p c w':=by obtain⟨g,v,d,h,i⟩:=f;exact⟨g,v,by rw[e.block b ((Array.getElem?_eq_some_iff.1 d).1)];exact d,own_below h e,i⟩
def sZ{B b:I}{d:N U}{w w':L}(c:Γ TB TU B b d w)(e:O w.heap.size w w'):Γ TB TU B b d w':=by
 rcases c with c|c
 ·exact .inl (vQ c e)
 ·exact .inr (vQ c e)
def is_lt{B b:I}{d:N U}{w:L}(c:Γ TB TU B b d w):B<=b/\b<w.heap.size:=by
 rcases c with c|c
 ·exact⟨c.1,c.lt⟩
 ·exact⟨c.1,c.lt⟩
def Fz(b:I)(w w':L):Prop:=∀k cs t c,w.heap[k]?=H (Obj.cells cs t c)->k≠b->t≠TU->w'.heap[k]?=w.heap[k]?
def Fz.refl(b:I)(w:L):Fz b w w:=λ_ _ _ _ _ _ _=>rfl
def Fz.trans{b:I}{u v w:L}(h:Fz b u v)(k:Fz b v w):Fz b u w:=λi cs t c d f g=>by
 have e:=h i cs t c d f g;rw[k i cs t c (by rw[e];exact d) f g,e]
def Fz.qd{b:I}{u v:L}(d:O u.heap.size u v):Fz b u v:=λi cs t e c _ _=>d.block i (by rcases mC i u.heap.size with g|g;exact g;rw[lT g] at c;cases c)
def Fz.set{b:I}{u v:L}(e:Fz b u v)(j:I)(x:U):Fz b u (v.setCell ⟨b,j,K⟩ x):=λi cs t d f c g=>by
 rw[pz _ _ _ _ c];exact e i cs t d f c g
def Fz.grow{B b n:I}{u v w:L}{s:U}{x:N U}(l:Fz b u v)(r:v.ownsRow B TU 1 s n x)(o:v.grownBy w s.ownBlock):Fz b u w:=λi cs t f h m j=>by
 have e:=l i cs t f h m j;have c:v.heap[i]?=H (Obj.cells cs t f):=by rw[e];exact h
 have q:i<v.heap.size:=by
  rcases mC i v.heap.size with g|g
  ·exact g
  ·rw[lT g] at c;cases c
 rw[o.block i q ?_,e];intro d;rcases r.2 with⟨rfl,_⟩|⟨g,cap,y,rfl,_,k,_⟩
 ·cases d
 ·cases d
  rw[c] at k;cases k;exact j rfl
def xq(b:I)(w:L)(d:w.cell? ⟨b,0,K⟩=H (J (H ⟨b,0,K⟩))):
 ο V 76 #[J (H ⟨b,0,K⟩)] w λe w'=>e=η (.tuple #[])/\w'=w:=by
 obtain⟨j,c,_⟩:=Option.map_eq_some_iff.1 Ey
 go_enter aJ,aI
 go_wp2
 rw[Lib.run_neq_ptr_same w _ ah c]
 go_wp2
 go_end0
 exact⟨rfl,rfl⟩
def vR(b:I)(w:L)(g:w.cell? ⟨b,0,K⟩=H (J K))(d:w.shape? b=H (TB,2))(h:w.frozen? ⟨b,0,K⟩=false):
 ο V 76 #[J (H ⟨b,0,K⟩)] w λe w'=>e=η (.tuple #[])/\w'=w.setCell ⟨b,0,K⟩ (J (H ⟨b,0,K⟩)):=by
 obtain⟨j,c,f⟩:=Option.map_eq_some_iff.1 Ey
 go_enter aJ,aI
 go_wp2
 rw[Lib.run_to_unsafe w ⟨b,0,K⟩ ah aE c (by rw[f];decide) d (iL 1)];simp only[Result.andThen];rw[k_]
 go_wp2
 rw[run_callFunc_extern Tryz.func139 (by kernel_rfl) (by kernel_rfl) (by kernel_rfl) (e:=Extern.AbiNoEscape.same) (by kernel_rfl)];rw[Lib.run_noEscape];simp only[Result.andThen];rw[k_]
 go_wp2
 rw[Lib.run_from_unsafe w ⟨b,0,K⟩ aE ah c d Mi];simp only[Result.andThen];rw[k_]
 go_wp2
 go_end0
 exact⟨rfl,rfl⟩
def tu(B b:I)(d:N U)(w:L)(c:Γ TB TU B b d w):
 ο V 76 #[J (H ⟨b,0,K⟩)] w λe w'=>e=η (.tuple #[])/\(aC TB TU B b (J (H ⟨b,0,K⟩)) d w'/\O B w w'/\Fz b w w'):=by
 rcases c with c|c
 ·refine(vR b w c.cell0 c.shape c.frozen0).mono ?_
  rintro e w'⟨rfl,rfl⟩;exact⟨rfl,c.used _,(pH B w).setCell (p:=⟨b,0,K⟩) c.1 _,(Fz.refl b w).set 0 _⟩
 ·refine(xq b w c.cell0).mono ?_
  rintro e w'⟨rfl,rfl⟩;exact⟨rfl,c,pH B _,Fz.refl b _⟩
def uY(B b:I)(d:N U)(c:Int)(w:L)(y:Γ TB TU B b d w)(aa:d.length+1<=140737488355328)(a9:B<=w.heap.size):
 ο V 198 #[J (H ⟨b,0,K⟩),.int .u8 c] w λe w'=>e=η .nilIface/\(Γ TB TU B b (d++[.int .u8 c]) w'/\O B w w'/\Fz b w w'):=by
 obtain⟨a1,C,R,S,X⟩:=info_parts An
 go_enter Tryz.func198,Tryz.ntmps198
 go_wp2_with fail
 refine(tu B b d _ y).mono ?_;rintro e f⟨rfl,z,t,A⟩;obtain⟨r,v,i,q,P⟩:=z;have a3:f.cell? ⟨b,0,K⟩=H (J (H ⟨b,0,K⟩)):=by rw[χ i];rfl
 have c1:f.cell? ⟨b,1,K⟩=H v:=by rw[χ i];rfl
 have ab:=t.size
 go_wp2_with(at_builtin;refine mJ _ rfl _ _ 68 rfl B 5 a1 (.int .u8 0) 1 1 aG C R S X rfl (by decide) _ _ _ rfl (q.alloc _) ⟨f.heap.size,0,K⟩ 1 1 [.int .u8 c] rfl rfl ?c1 ?c2 ?c3 ?c4 ?c5 ?_)
 case c1=>
  intro j u l
  match j,l with
  |0,l=>simp at l;subst l;simp[Addr.add]
 case c2=>intro u hu;simp at hu;subst hu;rfl
 case c3=>unfold maxLen;omega
 case c4=>omega
 case c5=>simp;omega
 intro a2 m x o _;have E:b<f.heap.size:=(Array.getElem?_eq_some_iff.1 i).1
 have h:m.heap[b]?=H (ζ #[J (H ⟨b,0,K⟩),v] TB (0,0)):=by rw[o.block b (by simp;omega) (λe=>P e.symm),Lib.alloc_old f _ b E];exact i
 have a5:m.cell? ⟨b,0,K⟩=H (J (H ⟨b,0,K⟩)):=by rw[χ h];rfl
 have a6:m.cell? ⟨b,1,K⟩=H v:=by rw[χ h];rfl
 have a7:m.frozen? ⟨b,1,K⟩=false:=aH h 1
 obtain⟨g,cap,rfl⟩:∃g cap,a2=δ (H ⟨g,0,K⟩) (d.length+1) cap:=by
  rcases x.2 with⟨_,a8⟩|⟨g,cap,a4,Q,_⟩
  ·omega
  ·exact⟨g,cap,Q⟩
 go_wp2
 go_ret;refine⟨rfl,.inr ?_,?_,?_⟩
 ·exact Lib.BuilderAt.put (T:=TB) (e:=TU) r h (bs':=d++[.int .u8 c]) (by simpa using x) (by decide)
 ·exact((t.alloc (by omega) _).grown o (by simp;omega) (λk D=>(q.lt k D).1)).setCell (p:=⟨b,1,K⟩) r _
 ·exact((A.trans (Fz.qd (pM f _))).grow (q.alloc _) o).set 1 _
def writeString(B b:I)(c:N U)(s:M)(w:L)(x:Γ TB TU B b c w)(a7:c.length+s.size<=140737488355328)(a6:B<=w.heap.size):
 ο V 41 #[J (H ⟨b,0,K⟩),γ s] w λe w'=>e=η (.tuple #[Y ι s.size,.nilIface])/\(Γ TB TU B b (c++aK s) w'/\O B w w'/\Fz b w w'):=by
 obtain⟨S,A,P,Q,R⟩:=info_parts An
 go_enter Tryz.func41,Tryz.ntmps41
 go_wp2_with fail
 refine(tu B b c _ x).mono ?_;rintro e m⟨rfl,y,r,z⟩;obtain⟨q,v,f,j,E⟩:=y;have a1:m.cell? ⟨b,0,K⟩=H (J (H ⟨b,0,K⟩)):=by rw[χ f];rfl
 have c1:m.cell? ⟨b,1,K⟩=H v:=by rw[χ f];rfl
 have a8:=r.size
 go_wp2_with(at_builtin;refine Lib.wpList_append_own_string _ rfl _ _ 68 9 rfl B 5 S aG Tryz.underlying9 A P Q R _ _ _ rfl j s rfl ?c3 ?c4 ?c5 ?_)
 case c3=>unfold maxLen;omega
 case c4=>omega
 case c5=>omega
 intro X h t i _;have D:b<m.heap.size:=(Array.getElem?_eq_some_iff.1 f).1
 have d:h.heap[b]?=H (ζ #[J (H ⟨b,0,K⟩),v] TB (0,0)):=by rw[i.block b D (λe=>E e.symm)];exact f
 have a3:h.cell? ⟨b,0,K⟩=H (J (H ⟨b,0,K⟩)):=by rw[χ d];rfl
 have a4:h.cell? ⟨b,1,K⟩=H v:=by rw[χ d];rfl
 have a5:h.frozen? ⟨b,1,K⟩=false:=aH d 1
 obtain⟨o,u,cap,rfl⟩:∃o u cap,X=δ o u cap:=by
  rcases t.2 with⟨l,_⟩|⟨g,cap,a2,l,_⟩
  ·exact⟨_,_,_,l⟩
  ·exact⟨_,_,_,l⟩
 go_wp2
 go_ret2;refine⟨rfl,.inr ?_,?_,?_⟩
 ·exact Lib.BuilderAt.put (T:=TB) (e:=TU) q d (bs':=c++aK s) (by simpa [Lib.strCells_length] using t) (by decide)
 ·exact(r.grown i (by omega) (λk C=>(j.lt k C).1)).setCell (p:=⟨b,1,K⟩) q _
 ·exact(z.grow j i).set 1 _
end Cq
namespace Ms
open RowKit Rw Vf
def Rd.slice{w:L}{v:U}{l:N az}(d:Rd w v l):∃b n c,v=δ b n c:=by
 rcases d with⟨rfl,-⟩|⟨g,cap,e,f,rfl,-⟩
 ·exact⟨_,_,_,rfl⟩
 ·exact⟨_,_,_,rfl⟩
section
variable {W:L}{B F n:I}{Z p:I->Prop}{a:AS}{data nm:M}
def QB(d:Fs W B F Z a p)(q:Qs a n)(t:n<=200000)(r:nm.size<=100)(o:data.size<=1000000)(k:qw a.names (nm++Fq).data.toList=K):
 ο V 28 #[.agg #[J (H ⟨F,0,K⟩)],γ nm,γ data] W λe w'=>e=η (Y ι 0)/\xK W w' B F Z p (a.rF (nm++qV) data.data.toList):=by
 have f:O W.heap.size W ((W.alloc (ζ #[J (H ⟨F,0,K⟩)] 64)).alloc (ζ #[γ nm] 9)):=(pM _ _).alloc (pM W _).size _;have x0:((W.alloc (ζ #[J (H ⟨F,0,K⟩)] 64)).alloc (ζ #[γ nm] 9)).cell? ⟨W.heap.size,0,K⟩=H (J (H ⟨F,0,K⟩)):=aM (ld _ _ _) rfl;have x1:((W.alloc (ζ #[J (H ⟨F,0,K⟩)] 64)).alloc (ζ #[γ nm] 9)).cell? ⟨W.heap.size+1,0,K⟩=H (γ nm):=aM (lV _ _ _) rfl;have x:=wZ nm;have C:=λw=>Ω (P:=V) w nm ⟨#[46,106,115,111,110]⟩ (show nm.size+5<=9223372036854775807 by omega)
 have c:=G (KT (d.below f) q.ok (nm++qV) (by omega));have g:=G (λu (y:O W.heap.size W u)=>swap_ok (d.below y) q t r o k);have h:=G f;unfold qV at c;clear f d q k x
 go_enter Tryz.func28,Tryz.ntmps28
 go_wp2_with fail
 refine c.o.mono ?_;rintro e E⟨v,rfl,l,-,b⟩;obtain⟨z,vn,D,rfl⟩:=Rd.slice l;have i:=pR h b;replace x0:=pI x0 b;replace x1:=pI x1 b;clear l b c h;generalize(a.read (nm++⟨#[46,106,115,111,110]⟩)).2=A
 go_wp2_with fail
 refine(g.o _ i.o).mono ?_;rintro e Q⟨rfl,j⟩;have m:=G (j.qd i.o);clear j g x0 x1
 go_wp2_with fail
 go_ret;exact⟨rfl,m.o⟩
def JC(w:L)(s F:I):Prop:=w.cell? ⟨s,0,K⟩=H (J (H ⟨F,0,K⟩))
def open_is(w:L)(F:I):
 ο V 16 #[J (H ⟨F,0,K⟩)] w λe w'=>e=η (.tuple #[J (H ⟨w.heap.size,0,K⟩),Y ι 0])/\JC w' w.heap.size F/\O w.heap.size w w':=by
 go_enter Tryz.func16,Tryz.ntmps16
 go_wp2_with fail
 go_ret2;exact⟨rfl,aM (pG _ _) rfl,pM _ _⟩
def zk(W:L):
 ο V 4 #[] W λe w'=>∃F s p,e=η (.tuple #[J (H ⟨s,0,K⟩),J (H ⟨F,0,K⟩),Y ι 1])/\Fs w' W.heap.size F (λ_=>False) AS.new p/\JC w' s F/\¬p s/\O W.heap.size W w'/\∀k,p k->W.heap.size<=k:=by
 have d:=G (new_fs W)
 go_enter Tryz.func4,Tryz.ntmps4
 go_wp2_with fail
 refine d.o.mono ?_;rintro e l⟨F,p,rfl,f,g,i⟩;have b:=G (And.intro f (And.intro g i));clear f g i d
 go_wp2_with fail
 refine(open_is l F).mono ?_;rintro e m⟨rfl,j,h⟩;have c:=G (And.intro j (And.intro h (show¬p l.heap.size fromλe=>by have:=(b.o.1.lt _ e).1;omega)));clear j h
 go_wp2_with fail
 go_ret3
 exact⟨F,_,p,rfl,b.o.1.below c.o.2.1,c.o.1,c.o.2.2,pK b.o.2.1 c.o.2.1,b.o.2.2⟩
end
structure Ry(W:L)(v:U)(ar:N Mo.Fd):Prop where
 mem:rY W v ar
 enc:Me.Enc ar
 js:Me.JB (ς ar)
 wt:aN W
 sp:∀u,O W.heap.size W u->aO u
 len:(aA (ς ar)).length<=1000000
def jA_js(ar:N Mo.Fd):ay (ς ar):=by
 have b:∀s:M,ay (.str s):=λs=>by simp[ay]
 have d:∀n:Int,ay (.int n):=λn=>by simp[ay]
 unfold ς;unfold ay;rw[Me.yG];intro x g;obtain⟨f,-,rfl⟩:=List.mem_map.1 g;unfold Jv.jF;unfold ay;simp only[Me.JSM,Me.JSP];refine⟨?_,b _,b _,b _,d _,?_,trivial⟩
 ·unfold ay
  rw[Me.yG];intro h c;obtain⟨s,-,rfl⟩:=List.mem_map.1 c;exact b s
 ·unfold ay
  rw[Me.yG];intro h c;obtain⟨e,-,rfl⟩:=List.mem_map.1 c;unfold Jv.jE;unfold ay;simp only[Me.JSM,Me.JSP];exact⟨b _,b _,b _,b _,d _,trivial⟩
def Gy(W:L)(v:U)(ar:N Mo.Fd)(b:Ry W v ar):
 ο V 26 #[.agg #[v]] W λe w'=>e=η (.tuple #[γ ⟨(aA (ς ar)).toArray⟩,Y ι 0])/\O W.heap.size W w':=by
 refine Me.Je W v ar b.mem b.wt.u8 b.sp b.enc ⟨(aA (ς ar)).toArray⟩ (λu c cap f g=>?_);have d:Jv u (ς ar) (qh 4 false 0 ⟨#[]⟩ (δ c ar.length cap) rG 0):=g u (λ_ _ _ _=>rfl);exact Me.Hq (ar.map Jv.jF) c ar.length cap u (Jv.jA_ok b.enc.ok) b.js (jA_js ar) d (b.wt.below f) b.len
section
variable {W:L}{B F n s:I}{Z p:I->Prop}{a a0:AS}{nm:M}
def KX(A:∀u,ο V 25 #[γ nm] u λe w'=>e=η (.bool true)/\O u.heap.size u w')(X:nm.size<=100)(i:Fs W B F Z a p)(q:Qs a n)(a1:n<=200000)(R:JC W s F)(a6:¬p s)(v:U)(ar:N Mo.Fd)(b:Ry W v ar)(E:qw a.names (nm++Fq).data.toList=K):
 ο V 10 #[J (H ⟨s,0,K⟩),γ nm,.agg #[v]] W λe w'=>e=η (Y ι 0)/\xK W w' B F Z p (a.rF (nm++qV) (aA (ς ar))):=by
 have C:=pM W (ζ #[v] 24);have x0:=aM (j:=0) (pG W (ζ #[v] 24)) rfl;have f:=G (λu (c:O W.heap.size W u)=>Gy u v ar ⟨b.mem.under c,b.enc,b.js,b.wt.below c,λw a2=>b.sp w (pK c a2),b.len⟩);have r:=G b.len;obtain⟨-,-,a5,cap,rfl,-,-⟩:=Mw.qF b.mem;obtain⟨d,P⟩:=pL (aA (ς ar));rw[P] at f r|-;have y:=G (show(⟨d.toArray⟩:M).size=d.length by simp[aj]);have x:=G (show(⟨d.toArray⟩:M).data.toList=d by simp);generalize(⟨d.toArray⟩:M)=Q at f y x;have m:=G C;have T:=G R;have t:=G (λu=>A u);have l:=G (λu (c:O W.heap.size W u)=>by have:=down_fs (i.below c);rw[q.dn] at this;exact this);have h:=G (λu (c:O W.heap.size W u)=>QB (data:=Q) (i.below c) q a1 X (by rw[y.o];exact r.o) E);rw[x.o] at h;clear C R i A b q E P
 go_enter Tryz.func10,Tryz.ntmps10
 go_wp2_with fail
 refine(t.o _).mono ?_;rintro e a7⟨rfl,k⟩;have o:=pR m k;replace x0:=pI x0 k;clear k m t
 go_wp2_with fail
 refine(f.o _ o.o).mono ?_;rintro e a3⟨rfl,D⟩;have g:=pR o D;have a4:a3.cell? ⟨s,0,K⟩=H (J (H ⟨F,0,K⟩)):=pI T.o g.o;clear D f x0
 go_wp2_with fail
 refine(l.o _ g.o).mono ?_;rintro e a8⟨rfl,rfl⟩
 go_wp2_with fail
 refine(h.o _ g.o).mono ?_;rintro e a9⟨rfl,z⟩;have S:=G (z.qd g.o);clear z h l a4
 go_wp2_with fail
 go_ret;exact⟨rfl,S.o⟩
def YM{w:L}{base n:I}{v:U}{l:N (N az)}(c:w.ownsRow base 9 1 v n (l.map encStr))(e:l.length=n):Rw w v 1 ((l.map λk=>(⟨k.toArray⟩:M)).map p_):=by
 subst e;refine Rw.uT c (by simp) (λj b k f=>?_) (λj b=>by simp[p_]);obtain rfl:k=0:=by omega
 have d:j<l.length:=by simpa using b
 simp[p_,encStr,d]
end
def item(a:AS)(k:N az):N az:=k++10::((a.read ⟨k.toArray⟩).1++[10])
def YN(a:AS):J2 a=(a.list.map (item a)).flatten:=rfl
def YO{a:AS}{n:I}(ok:a.Ok n)(k:M):(a.read k).1.length<=1000000:=by
 unfold AS.read
 split
 ·simp
 ·split
  ·simp
  ·rename_i i e
   simp only
   by_cases b:i<a.files.length
   ·rw[om,oW b]
    exact(ok.data _ (pq b)).1
   ·rw[om,kq (by omega)]
    simp
def DW(f:N az->N az)(l:N (N az)){k:I}(b:k<l.length):((l.take (k+1)).map f).flatten=((l.take k).map f).flatten++f l[k]:=by rw[Me.AJ f l b,ni];simp
section
variable {W:L}{B F n:I}{Z p:I->Prop}{a:AS}
def YP(a4:Fs W B F Z a p)(ok:a.Ok n)(ax:a.down=false)(aU:n<=400000)(aX:∀q∈a.names,q.1.length<=1000):
 ο V 19 #[J (H ⟨F,0,K⟩)] W λe w'=>e=η (γ ⟨(J2 a).toArray⟩)/\O W.heap.size W w':=by
 have A:a.list=a.names.map (·.1):=by unfold AS.list;rw[oU (by rw[ax];decide)]
 have a6:=pM W (ζ #[J K,δ K 0 0] 86);have ao:=G a6;have ap:=G (Lib.fresh_isBuilder Cq.TB Cq.TU W);have t:=G (list_fs (a4.below a6) ok aU);have b0:=G (λu (bt:O W.heap.size W u) (k:M) (aQ:k.size<=1000000)=>KT (a4.below bt) ok k aQ);have be:=G (λk=>YO ok k);rw[YN];obtain⟨l,aS⟩:=pL a.list;rw[aS] at t A|-;have bf:=G A;have bi:=G aX;obtain⟨m,Q⟩:=pL l.length;have z:=G Q;have aq:=G (show m<=400000 by rw[<-Q,A,oS];exact pF ok.names aU);rw[Q] at t;clear a4 ok ax aX aS Q A a6
 go_enter Tryz.func19,Tryz.ntmps19
 go_wp2_with fail
 refine t.o.mono ?_;rintro e aZ⟨v,rfl,ae,a5⟩;have aW:=YM ae z.o;have T:=G ae;obtain⟨g,bu,bv,cap,rfl,C,aw⟩:=Mw.qp aW;rw[oS,z.o] at C|-;have b1:=G C;have b5:=G aw;have b2:=pR ao a5;have b8:=G (Cq.sZ ap.o a5)
 have b4:Hid (0<m->∃o,aZ.heap[g]?=H (Obj.cells o 9 (0,0))/\g≠W.heap.size):=G (λbk=>by
  have e:=C bk;subst e;obtain⟨o,E⟩:=qH T.o (g:=g) rfl;refine⟨o,E,λe=>?_⟩;have bl:=(Me.qq T.o (g:=g) rfl).1;have bA:W.heap.size<(W.alloc (ζ #[J K,δ K 0 0] 86)).heap.size:=Rw.lt_of_heap (pG _ _);have bB:(W.alloc (ζ #[J K,δ K 0 0] 86)).heap.size<=g:=bl;omega)
 clear ae aW C aw a5 t ap ao T
 go_wp2_with fail
 go_loopw [11] (λx wr=>∃k:I,k<=m/\x=Y ι k/\Hid (Γ Cq.TB Cq.TU W.heap.size W.heap.size (Lib.byteCells ((l.take k).map (item a)).flatten) wr)/\Hid ((((l.take k).map (item a)).flatten).length<=k*1002000)/\Hid (O W.heap.size W wr)/\Hid (Cq.Fz W.heap.size aZ wr)) (λx _=>m-(intOf x).toNat)
 case atStart=>exact⟨0,oM _,rfl,b8,G (by simp),b2,G (Cq.Fz.refl _ _)⟩
 case round=>
  obtain⟨k,aQ,rfl,aF,aT,D,aB⟩:=hrel;have bC:=aq.o
  by_cases br:k<m
  ·obtain rfl:=b1.o (by omega)
   have aa:k<l.length:=(by rw[z.o];exact br);have bq:k<(l.map λk=>(⟨k.toArray⟩:M)).length:=(by rw[oS];exact aa);obtain⟨o,E,bp⟩:=b4.o (by omega);have aR:=aB.o g o _ _ E bp (by decide)
   have a2:wr.cell? ⟨g,bu+k,K⟩=H (.string (l.map λk=>(⟨k.toArray⟩:M))[k]):=by have:=b5.o k bq;unfold World.cell? at this|-;rw[aR];exact this
   rw[oG] at a2;have bE:(k:Int)<(m:Int):=(by omega);have bD:(0:Int)<=(k:Int):=(by omega);have aP:l[k]∈a.names.map (·.1):=(by rw[<-bf.o];exact pq aa)
   have c:=G (show l[k].length<=1000 by obtain⟨q,bs,e⟩:=List.mem_map.1 aP;have:=bi.o q bs;rw[e] at this;exact this)
   have S:=G (DW (item a) l aa);have i:=G (show(⟨l[k].toArray⟩:M).size=l[k].length by simp[aj]);have R:=G (show(⟨l[k].toArray⟩:M).data.toList=l[k] by simp);have h:=G (show item a l[k]=l[k]++10::((a.read ⟨l[k].toArray⟩).1++[10]) from rfl);clear aP aR E;generalize(⟨l[k].toArray⟩:M)=b at a2 i R h;generalize item a l[k]=aY at S h;generalize l[k]=a3 at i R h c;have ag:=G (b0.o wr D.o b (by rw[i.o];have:=c.o;omega));have j:=G (be.o b)
   go_wp2_with fail
   refine ag.o.mono ?_;rintro e r⟨x,rfl,af,-,d⟩;obtain⟨bw,bH,bG,rfl⟩:=Rd.slice af;have a7:=af.conv;have y:=pR D d;have b9:=G (Cq.sZ aF.o d);have b6:=G (aB.o.trans (Cq.Fz.qd d));generalize(a.read b).1=f at a7 j h;have a1:=G (show(⟨f.toArray⟩:M).size=f.length by simp[aj]);have au:=G (show(⟨f.toArray⟩:M).data.toList=f by simp);generalize(⟨f.toArray⟩:M)=X at a7 a1 au;generalize(a.read b).2=bx;have ad:(⟨#[10]⟩:M).size=1:=rfl;have ab:(b++(⟨#[10]⟩:M)).size=a3.length+1:=(by rw[nW,i.o];rfl);have ac:(b++(⟨#[10]⟩:M)++X).size=a3.length+1+f.length:=(by rw[nW,ab,a1.o]);have aV:(b++(⟨#[10]⟩:M)++X++(⟨#[10]⟩:M)).size=a3.length+1+f.length+1:=(by rw[nW,ac];rfl);have al:=G (Ω (P:=V) r b ⟨#[10]⟩ (by rw[i.o,ad];have:=c.o;omega));have am:=G (Ω (P:=V) r (b++⟨#[10]⟩) X (by rw[ab,a1.o];have:=c.o;have:=j.o;omega));have an:=G (Ω (P:=V) r (b++⟨#[10]⟩++X) ⟨#[10]⟩ (by rw[ac,ad];have:=c.o;have:=j.o;omega));have bg:=G aV
   have bh:Hid ((b++(⟨#[10]⟩:M)++X++(⟨#[10]⟩:M)).data.toList=aY):=G (by rw[h.o];simp[R.o,au.o])
   have bm:=al.o;have bn:=am.o;have bo:=an.o;clear af d ag a2 ad ab ac aV;have ak:=G (Cq.writeString W.heap.size W.heap.size _ (b++⟨#[10]⟩++X++⟨#[10]⟩) r b9.o (by rw[Lib.byteCells_length,bg.o];have:=aT.o;have:=c.o;have:=j.o;have:=aq.o;omega) y.o.size);have bc:=G aT.o;have bb:=G (show aY.length<=1002000 by rw[h.o];simp;have:=c.o;have:=j.o;omega);clear al am an
   go_wp2_with fail
   refine ak.o.mono ?_;rintro e bF⟨rfl,a9,av,aD⟩;rw[Lib.strCells_eq,bh.o,<-Lib.byteCells_append,<-S.o] at a9;have ba:=G a9;have b3:=G (y.o.trans av);have b7:=G (b6.o.trans aD);have bd:=G (show(((l.take (k+1)).map (item a)).flatten).length<=(k+1)*1002000 by rw[S.o,o_,k9];have:=bc.o;have:=bb.o;omega);clear a9 av aD ak bm bn bo a7
   go_wp2_with fail
   go_roundw
   case rel=>exact⟨k+1,by omega,by go_num,ba,bd,b3,b7⟩
   case measure=>simp[intOf];omega
  ·have bz:decide ((k:Int)<(m:Int))=false:=o9 (by omega)
   have bj:Hid (l.take k=l):=G (oP (by rw[z.o];omega));have a8:=aF.o;rw[bj.o] at a8;have ai:=G (Tryz.Builder_String_any W.heap.size W.heap.size ((l.map (item a)).flatten) wr a8 D.o.size);clear a8
   go_wp2_with fail
   refine ai.o.mono ?_;rintro e r⟨rfl,d⟩;have y:=G (D.o.trans d);clear d ai
   go_wp2_with fail
   go_ret;exact⟨rfl,y.o⟩
end
def nX:M:=⟨#[120]⟩
def nA:M:=⟨#[97]⟩
def RB:Qs AS.new 0:=Qs.new
def J3:aA (ς [])=[91,93]:=by simp[ς,aA,Jv.qN,Jv.pZ]
def UN(W:L)(d:aN W)(sp:∀u,O W.heap.size W u->aO u):Ry W (δ K 0 0) [] where
 mem:=⟨[],rfl,Rw.nil _ _,λj c=>aL c (by simp)⟩
 enc:=⟨rfl,⟨by simp,λf b=>aL b (by simp)⟩,by simp,λf b=>aL b (by simp),λf b=>aL b (by simp)⟩
 js:=by simp[ς,Me.JB,Me.JBL]
 wt:=d
 sp:=sp
 len:=by rw[J3];decide
def zm(W:L)(y:aN W)(sp:∀u,O W.heap.size W u->aO u):
 ο V 7 #[] W λe w'=>e=η (.bool true)/\O W.heap.size W w':=by
 have f:=G (zk W);have h:=G (λu (x:O W.heap.size W u)=>UN u (y.below x) (λv P=>sp v (pK x P)));clear y sp
 go_enter Tryz.func7,Tryz.ntmps7
 go_wp2_with fail
 refine f.o.mono ?_;rintro e Q⟨F,s,p,rfl,k,t,o,d,r⟩;have b:=G (KX (nm:=nA) YF (by decide) k RB (by omega) t o (δ K 0 0) [] (h.o Q d) rfl);rw[J3] at b;have C:=G r;have g:=G d;clear k t o d r f h;unfold nA at b
 go_wp2_with fail
 refine b.o.mono ?_;rintro e R⟨rfl,p',j,m,D⟩
 have c:=G (YP j ((Qs.rF RB (by decide) (by decide):Qs (AS.new.rF (nA++qV) [91,93]) 1)).ok rfl (by omega) (by
  intro q E;have:q∈[(([97,46,106,115,111,110]:N az),0)]:=E;rcases List.mem_singleton.1 this with rfl
  decide))
 have z:=G (show O W.heap.size W R from g.o.trans (m.below C.o g.o.size));have i:(J2 (AS.new.rF ((⟨#[97]⟩:M)++qV) [91,93]))=[97,46,106,115,111,110,10,91,93,10]:=rfl;rw[i] at c;clear j m D b i
 go_wp2_with fail
 refine c.o.mono ?_;rintro e S⟨rfl,l⟩;have A:=pR z l;clear l c
 go_wp2_with fail
 go_ret;exact⟨rfl,A.o⟩
structure LawIn(W:L)(va vn:U)(ar:N Mo.Fd)(ns:N M):Prop where
 mem:rY W va ar
 bd:Mw.IA ar
 nm:Rw W vn 1 (ns.map p_)
 wt:aN W
 sp:∀u,O W.heap.size W u->aO u
section
variable {W:L}{va vn:U}{ar:N Mo.Fd}{ns:N M}
end
def A0(l:N az):AS:=AS.new.rF (nX++qV) l
def a0_q{l:N az}(b:l.length<=1000000):Qs (A0 l) 1:=Qs.rF RB (by decide) b
def Sh(a:AS):Prop:=∀q∈a.names,q.1.length<=1000
def Sh.of{a b:AS}(c:Sh a)(e:b.names=a.names):Sh b:=λq d=>c q (by rw[<-e];exact d)
section
variable {W0 w w':L}{B F s:I}{Z p0:I->Prop}{a a':AS}
def xK.under(b:xK W0 w B F Z p0 a)(d:∀k,p0 k->B<=k)(e:B<=W0.heap.size):O B W0 w:=by obtain⟨p',f,c,g⟩:=b;exact c.below d e
end
end Ms
end Go.Proofs.YthbhmjdcfocphaaGreatDoor
