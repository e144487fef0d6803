/- A part of this proof. -/
import Derived.Test.YthbhmjdcfocphaaGreatDoorKP
set_option linter.all false
set_option maxHeartbeats 16000000
set_option maxRecDepth 100000
namespace Go.Proofs.YthbhmjdcfocphaaGreatDoor
open Go.Value renaming string→O, slice→I, pointer→Z, int→H
open Go.Obj renaming cells→ζ
open Go.Ending renaming returned→η
open Go.IntKind renaming i64→G
open Go.World renaming cell?_setCell_far→M, setCells→Δ, cell?→ς, setCell→av
open Go.Lib renaming hid→J
open Option renaming none→K, some→N
open And renaming intro→Y
open Go renaming Value→U, World→Ω, maxLen→az
open _root_ renaming List→X, ByteArray→Λ, Nat→ay
open Go.Value renaming oneCell'→Θ
open Nat renaming reduceAdd→Ξ
open Go.Proofs.Tryz renaming underlying105→ο, underlying104→ah, prog→aj
namespace Pj
open RowKit Rw Vf Mw Me Pa
structure Iv(P V a:ay)(kd:Int)(W u:Ω)(items members:U):Prop where
 os:u.os=W.os
 tape:u.tape=W.tape
 output:u.output=W.output
 size:W.heap.size<=u.heap.size
 block:∀k,k<W.heap.size->k≠P->k≠V->u.heap[k]?=W.heap[k]?
 vb:u.heap[V]?=N (Obj.cells #[H G kd,.bool false,H G 0,O ⟨#[]⟩,items,members,H G a] 107 (0,0))
section
variable {P V a:ay}{kd:Int}{W u w:Ω}{items members:U}
def Iv.sd(b:Iv P V a kd W u items members)(k:Sd P u w)(f:V≠P):Iv P V a kd W w items members:=
 ⟨k.os.trans b.os,k.tape.trans b.tape,k.output.trans b.output,pF b.size k.size,λi c d e=>(k.block i (oQ c b.size) d).trans (b.block i c d e),(k.block V (Rw.lt_of_heap b.vb) f).trans b.vb⟩
def Iv.Oq(b:Iv P V a kd W u items members)(k:Below W.heap.size u w)(f:V<W.heap.size):Iv P V a kd W w items members:=
 ⟨k.os.trans b.os,k.tape.trans b.tape,k.output.trans b.output,pF b.size k.size,λi c d e=>(k.block i c).trans (b.block i c d e),(k.block V f).trans b.vb⟩
def Iv.cell(d:Iv P V a kd W u items members){b j:ay}{x:U}(c:W.cell? ⟨b,j,K⟩=N x)(e:b≠P)(f:b≠V):u.cell? ⟨b,j,K⟩=N x:=by have g:=Rw.lt_of_cell c;unfold ς at c|-;rw[d.block b g e f];exact c
def Iv.base{b:Ω}(d:Iv P V a kd W u items members)(c:Below b.heap.size b W)(f:b.heap.size<=P)(g:b.heap.size<=V):Below b.heap.size b u:=
 ⟨d.os.trans c.os,d.tape.trans c.tape,d.output.trans c.output,pF c.size d.size,λi e=>(d.block i (oQ e c.size) (by omega) (by omega)).trans (c.block i e)⟩
def Iv.sets(h:Iv P V a kd W u items members){g o:ay}{cs:X U}(k:W.heap.size<=g)(j:V<W.heap.size):Iv P V a kd W (u.setCells g o cs) items members:=by obtain⟨b,c,d,e,f⟩:=qZ g cs o u;exact h.Oq ⟨b,c,d,by rw[e];exact oZ _,λi l=>f i (by omega)⟩ j
end
def F7{n g o:ay}{cs:X U}(w:Ω)(h:n<=g):Below n w (w.setCells g o cs):=by obtain⟨b,c,d,e,f⟩:=qZ g cs o w;exact⟨b,c,d,by rw[e];exact oZ _,λi j=>f i (by omega)⟩
def Ps.Oq{P a d n:ay}{s:Λ}{u w:Ω}(b:Ps P s a d u)(e:Below n u w)(c:P<n):Ps P s a d w:=(e.block P c).trans b
def vS{n b j:ay}{u w:Ω}{x:U}(c:u.cell? ⟨b,j,K⟩=N x)(d:Below n u w)(e:b<n):w.cell? ⟨b,j,K⟩=N x:=by unfold ς at c|-;rw[d.block b e];exact c
def stf{S sz k g c n:ay}{w:Ω}{t:TypeId}{L:X (X U)}{zs:X U}(l:w.ownsRow S t sz (I (N ⟨g,0,K⟩) (k+1) c) (k+1) (L.flatten++zs))(h:L.flatten.length=k*sz):
 (∀j,w.frozen? ⟨g,j,K⟩=false)/\∀j x,zs[j]?=N x->w.cell? ⟨g,k*sz+j,K⟩=N x:=by
 rcases l.2 with⟨e,-⟩|⟨p,cap,s,e,v,i,B,y,z,r⟩
 ·cases e
 ·have o:g=p:=by injection e with e;injection e with e;injection e
  subst o;refine⟨λj=>ny w g j _ _ i,λj x f=>?_⟩;have q:=l.1
  have A:j<zs.length:=by
   rcases mC j zs.length with b|b
   ·exact b
   ·rw[kq b] at f;cases f
  have d:=nT (λm:X U=>m[k*sz+j]?) r;rw[o_,h] at q;simp only[mG,oD (show k*sz+j<(k+1)*sz by omega)] at d;rw[kT (by omega),h,gX,f] at d;unfold ς;simp only[i];rw[<-d];simp
def VT{R:Type}{El:Ω->R->X U->Prop}{P V a B d sz k g c m:ay}{kd:Int}{s:Λ}{t:TypeId}{W w wf:Ω}{L:X (X U)}{z:X R}{C:R}{cs zs:X U}{aa ab F Q:U}
 (p:F6 El sz t W.heap.size k L z C cs zs w g c) (S:Flat sz L) (a5:z.length=k) (a4:L.length=k) (a9:zs.length=sz) (v:cs.length=sz/\∀x∈cs,x.oneCell'=true)
 (l:Iv P V a kd W w aa ab) (T:Ps P s B d w) (a2:P<W.heap.size) (a3:V<W.heap.size) (a1:V≠P)
 (a8:(#[Value.int .i64 kd,.bool false,H G 0,O ⟨#[]⟩,aa,ab,H G a]:Array U).setIfInBounds m (I (N ⟨g,0,K⟩) (k+1) c)=#[H G kd,.bool false,H G 0,O ⟨#[]⟩,F,Q,H G a])
 (af:wf=(w.setCells g (k*sz) cs).setCell ⟨V,m,K⟩ (I (N ⟨g,0,K⟩) (k+1) c)\/wf=(w.setCell ⟨V,m,K⟩ (I (N ⟨g,0,K⟩) (k+1) c)).setCells g (k*sz) cs):
 Iv P V a kd W wf F Q/\Row El sz t W.heap.size wf (I (N ⟨g,0,K⟩) (k+1) c) (z++[C])/\Ps P s B d wf:=by
 have y:W.heap.size<=g/\g<w.heap.size:=qq p.own rfl;rcases af with rfl|rfl
 ·have a6:=p.set S a5 a4 a9 v.1 v.2
  have n:=l.sets (o:=k*sz) (cs:=cs) y.1 a3;have a0:=T.Oq (F7 w (o:=k*sz) (cs:=cs) y.1) a2;generalize w.setCells g (k*sz) cs=A at a6 n a0|-;have f:∀i,i≠V->(A.setCell ⟨V,m,K⟩ (I (N ⟨g,0,K⟩) (k+1) c)).heap[i]?=A.heap[i]?:=λi D=>pz _ _ _ _ D
  have r:(A.setCell ⟨V,m,K⟩ (I (N ⟨g,0,K⟩) (k+1) c)).heap.size=A.heap.size:=(by simp[av]);refine⟨⟨n.os,n.tape,n.output,by rw[r];exact n.size,λi h j b=>(f i b).trans (n.block i h j b),?_⟩,qK a6 (by rw[r];exact oZ _) λi h j=>f i (by omega),(f P a1.symm).trans a0⟩;rw[<-a8];exact oO _ V m _ _ _ n.vb
 ·have f:∀i,i≠V->(w.setCell ⟨V,m,K⟩ (I (N ⟨g,0,K⟩) (k+1) c)).heap[i]?=w.heap[i]?:=λi D=>pz _ _ _ _ D
  have r:(w.setCell ⟨V,m,K⟩ (I (N ⟨g,0,K⟩) (k+1) c)).heap.size=w.heap.size:=(by simp[av]);have a7:=oO w V m _ _ (I (N ⟨g,0,K⟩) (k+1) c) l.vb;rw[a8] at a7;have ad:Iv P V a kd W (w.setCell ⟨V,m,K⟩ (I (N ⟨g,0,K⟩) (k+1) c)) F Q:=⟨l.os,l.tape,l.output,by rw[r];exact l.size,λi h j b=>(f i b).trans (l.block i h j b),a7⟩;have ae:Ps P s B d (w.setCell ⟨V,m,K⟩ (I (N ⟨g,0,K⟩) (k+1) c)):=(f P a1.symm).trans T
  have ac:F6 El sz t W.heap.size k L z C cs zs (w.setCell ⟨V,m,K⟩ (I (N ⟨g,0,K⟩) (k+1) c)) g c:=
   ⟨qj p.own λq e=>f q (by have:=(qq p.own e).1;omega),λw' E=>p.all w' λi h j b=>(E i h (by rw[r];exact j) b).trans (f i (by omega)),λw' E=>p.new w' λi h j b=>(E i h (by rw[r];exact j) b).trans (f i (by omega))⟩
  exact⟨ad.sets (o:=k*sz) (cs:=cs) y.1 a3,ac.set S a5 a4 a9 v.1 v.2,ae.Oq (F7 _ (o:=k*sz) (cs:=cs) y.1) a2⟩
def Q4{A B:U->Prop}{C:Prop}{x:U}(b:A x/\B x/\C):(∃c,A c/\B c)/\C:=⟨⟨x,b.1,b.2.1⟩,b.2.2⟩
abbrev wI:X U:=[H G 0,.bool false,H G 0,O ⟨#[]⟩,I K 0 0,I K 0 0,H G 0]
abbrev wJ:X U:=[O ⟨#[]⟩,H G 0,.bool false,H G 0,O ⟨#[]⟩,I K 0 0,I K 0 0,H G 0,H G 0]
def Jj:∀u∈wI,u.oneCell'=true:=by intro u b;simp only[wI,ox,oy,nw] at b;rcases b with rfl|rfl|rfl|rfl|rfl|rfl|rfl<;>rfl
def Jk:∀u∈wJ,u.oneCell'=true:=by intro u b;simp only[wJ,ox,oy,nw] at b;rcases b with rfl|rfl|rfl|rfl|rfl|rfl|rfl|rfl|rfl<;>rfl
def MC(P:ay)(s:Λ)(x:Λ×Jv.J)(a d:ay)(u:Ω)(v:U):Prop:=
 Calls aj 210 #[Z (N ⟨P,0,K⟩),v] u λe w'=>(∃k b n t c g c1 f h c2 p q,e=η (.agg #[O x.1,H G k,.bool b,H G n,O t,I c g c1,I f h c2,H G p,H G q])/\MVal u.heap.size w' x [O x.1,H G k,.bool b,H G n,O t,I c g c1,I f h c2,H G p,H G q])/\Ps P s (a+(Jv.yf x).length) d w'/\Sd P u w'
def aac:Op:= .load 104 (.tmp 2)
def aad(P V B a ac d:ay)(s:Λ)(l:X Jv.J)(k:ay)(bk:k<l.length)(S W u:Ω)(items:U)(aQ:P<W.heap.size)(aT:V<W.heap.size)(aP:B<W.heap.size)(aS:V≠P)(ap:B≠P)(aq:B≠V)(aW:W.cell? ⟨B,0,K⟩=N (Z (N ⟨P,0,K⟩)))(aR:S.heap.size<=P)(aU:S.heap.size<=V)(aV:Below S.heap.size S W)
 (bl:l.length<=1000000) (R:Iv P V a 4 W u items (I K 0 0)) (aZ:gM W.heap.size u items (l.take k)) (aY:Ps P s ac d u) (au:∀x,Ps P s ac d x->Below S.heap.size S x->VC P s l[k] ac d x):
 Calls aj 208 #[Z (N ⟨V,0,K⟩),Z (N ⟨B,0,K⟩)] u λe w'=>e=η (.tuple #[])/\(∃b4,Iv P V a 4 W w' b4 (I K 0 0)/\gM W.heap.size w' b4 (l.take (k+1)))/\Ps P s (ac+(Jv.enc l[k]).length) d w':=by
 have aa:=J (R.base aV aR aU);have b9:=R.cell aW ap aq;have af:=Me.pJ (j:=4) R.vb rfl;have bb:=J aZ;obtain⟨b7,b8,aX,b0,b1,b2,b3⟩:=uP Ml;have C:=J (Y aX (Y b0 (Y b1 (Y b2 b3))));obtain⟨L,ar,ad,a2⟩:=aZ;obtain⟨aK,cap,rfl⟩:=qP ad;have a0:(l.take k).length=k:=by rw[nQ];omega
 have aG:=J (Y a0 ((a2 u (λ_ _ _ _=>rfl)).1.trans a0));rw[a0] at ad af R a2 bb;have D:=J ad;have aJ:=J (show l.take (k+1)=l.take k++[l[k]] by rw[mM,oW bk];rfl);have aC:=J a2;have ba:=J ar;have aF:=J R;have aE:=J (show L.flatten.length=k*7 by rw[vl ar.1,(a2 u (λ_ _ _ _=>rfl)).1,a0]);have b:=J (Y aQ (Y aT (Y aP (Y aS (Y ap aq)))));have bs:k+1<=1000000:=by omega
 have aI:=J aY;have am:=J au;have a1:=J R.size;have ag:=J ((pH u.heap.size u).drew);have a9:=J (pM u (ζ wI.toArray 107)).drew;have bx:=pI af (pM u (ζ wI.toArray 107));have bt:k<k+1:=lW k;have bu:(0:Int)<=(k:Int):=by omega
 have bv:(k:Int)<(k:Int)+1:=by omega
 generalize br:l[k]=aL at aJ au am|-;clear ad a2 ar aY au R aX b0 b1 b2 b3 a0 aV aW aQ aT aP aS ap aq aR aU bl
 go_enter Tryz.func208,Tryz.ntmps208
 go_wp2_with fail
 have bm:aac= .load 104 (.tmp 2):=rfl;rw[<-bm]
 go_region_held3 (λw'=>w'.cell? ⟨B,0,K⟩=N (Z (N ⟨P,0,K⟩))) (first|(with_reducible assumption)|go_keep)
  (first
    |(go_at_call 132;have F:=am.o u.drew (aI.o.below ag.o) (aa.o.trans (ag.o.mono aa.o.size));unfold VC at F;(with_reducible refine F.mono ?_);clear F;rintro e z ⟨⟨r,vb,v,y,g,o,c1,h,p,c2,vp,rfl,a7⟩,a6,T⟩;have al:=J a6;have A:=(Sd.qd (P:=P) ag.o).trans T;have E:=J A;have an:=J (show∀w',Agree u.heap.size z w' K->Jv w' aL [H G r,.bool vb,H G v,O y,I g o c1,I h p c2,H G vp] fromλw' aw=>a7 w' aw);have ak:=J (aF.o.sd A b.o.2.2.2.1);have ae:=A.cell af b.o.2.2.2.1;have aA:=A.cell b9 b.o.2.2.2.2.1;have bw:=pI ae (pM z (ζ wI.toArray 107));clear a7 a6 T A)
    |(go_at_call 132;have F:=am.o ((u.alloc (ζ wI.toArray 107)).drew) (aI.o.below a9.o) (aa.o.trans (a9.o.mono aa.o.size));unfold VC at F;(with_reducible refine F.mono ?_);clear F;rintro e z ⟨⟨r,vb,v,y,g,o,c1,h,p,c2,vp,rfl,a7⟩,a6,T⟩;have al:=J a6;have A:=(Sd.qd (P:=P) a9.o).trans T;have bc:=J (qj (w':=z) (q9 (w:=u) (c:=wI) (sz:=7) (t:=107) rfl) (λq e=>T.block q (qq (q9 (w:=u) (c:=wI) (sz:=7) (t:=107) rfl) e).2 (by have aM:=(qq (q9 (w:=u) (c:=wI) (sz:=7) (t:=107) rfl) e).1;have aN:=a1.o;have aO:=b.o.1;omega)));have E:=J A;have an:=J (show∀w',Agree u.heap.size z w' K->Jv w' aL [H G r,.bool vb,H G v,O y,I g o c1,I h p c2,H G vp] fromλw' aw=>a7 w' (λi aM aN aO=>aw i (pF a9.o.size aM) aN aO));have ak:=J (aF.o.sd A b.o.2.2.2.1);have ae:=A.cell af b.o.2.2.2.1;have aA:=A.cell b9 b.o.2.2.2.2.1;clear a7 a6 T A)
    |(refine q_ _ rfl (.tmp 3) (.tmp 7) 104 rfl W.heap.size u.heap.size 107 b7 b8 7 96 ah C.o.1 C.o.2.1 C.o.2.2.1 C.o.2.2.2.1 C.o.2.2.2.2 (by decide) (I aK k cap) k L.flatten rfl ?o1 _ 1 wI rfl ?o2 Jj ?a3 ?a4 ?a5 ?_;(case o1=>exact(qj (w':=(z.alloc (ζ wI.toArray 107))) D.o (λq e=>((pM z (ζ wI.toArray 107)).block q (oQ (qq D.o e).2 E.o.size)).trans (E.o.block q (qq D.o e).2 (λao=>by have:=(qq D.o e).1;have:=b.o.1;omega)))));(case o2=>exact(rK (q9 (w:=z) (c:=wI) (sz:=7) rfl) E.o.size));(case a3=>(unfold az;omega));(case a4=>omega);(case a5=>exact(pF a1.o (pF E.o.size (pM z (ζ wI.toArray 107)).size)));intro v6 w6 hown hgrow E8;have ai:=pM z (ζ wI.toArray 107);obtain⟨g6,c6,rfl,Kt,F9⟩:=FI (El:=Jv) (cs:=[H G r,.bool vb,H G v,O y,I g o c1,I h p c2,H G vp]) b.o.1 D.o aC.o E.o a1.o ai an.o hown hgrow E8;have aD:=J Kt;have ab:=J (ak.o.Oq F9 b.o.2.1);have aH:=J (al.o.Oq F9 b.o.1);have bq:=vS ae F9 b.o.2.1;have a8:=vS aA F9 b.o.2.2.1;have Q:=J (show W.heap.size<=g6/\g6<w6.heap.size from qq Kt.own rfl);have aB:=J (show([H G r,.bool vb,H G v,O y,I g o c1,I h p c2,H G vp]:X U).length=7/\(∀x∈([H G r,.bool vb,H G v,O y,I g o c1,I h p c2,H G vp]:X U),x.oneCell'=true) from⟨rfl,by simp[Θ]⟩);obtain⟨fr6,yU⟩:=stf (n:=0) Kt.own aE.o;have bd:w6.cell? ⟨g6,k*7,K⟩=N _:=yU 0 _ rfl;have be:=yU 1 _ rfl;have ao:=yU 2 _ rfl;have bf:=yU 3 _ rfl;have bg:=yU 4 _ rfl;have bh:=yU 5 _ rfl;have bi:=yU 6 _ rfl;have bj:=ny _ V 4 _ _ ab.o.vb;have bo:=b.o.2.2.2.2.2;have bp:=(show g6≠V by have:=Q.o.1;have:=b.o.2.1;omega);have ax:=b.o.2.2.2.2.2.symm;have f:=(show g6≠B by have:=Q.o.1;have:=b.o.2.2.1;omega);have bn:=(show B≠g6 by have:=Q.o.1;have:=b.o.2.2.1;omega);clear yU;have b5:(((((((w6.setCell ⟨g6,k*7,K⟩ (H G r)).setCell ⟨g6,k*7+1,K⟩ (.bool vb)).setCell ⟨g6,k*7+2,K⟩ (H G v)).setCell ⟨g6,k*7+3,K⟩ (O y)).setCell ⟨g6,k*7+4,K⟩ (I g o c1)).setCell ⟨g6,k*7+5,K⟩ (I h p c2)).setCell ⟨g6,k*7+6,K⟩ (H G vp)).cell? ⟨B,0,K⟩=N (Z (N ⟨P,0,K⟩)):=(M _ _ _ _ f).trans ((M _ _ _ _ f).trans ((M _ _ _ _ f).trans ((M _ _ _ _ f).trans ((M _ _ _ _ f).trans ((M _ _ _ _ f).trans ((M _ _ _ _ f).trans (a8)))))));have b6:((((((((w6.setCell ⟨V,4,K⟩ (I (N ⟨g6,0,K⟩) (k+1) c6)).setCell ⟨g6,k*7,K⟩ (H G r)).setCell ⟨g6,k*7+1,K⟩ (.bool vb)).setCell ⟨g6,k*7+2,K⟩ (H G v)).setCell ⟨g6,k*7+3,K⟩ (O y)).setCell ⟨g6,k*7+4,K⟩ (I g o c1)).setCell ⟨g6,k*7+5,K⟩ (I h p c2)).setCell ⟨g6,k*7+6,K⟩ (H G vp)).cell? ⟨B,0,K⟩=N (Z (N ⟨P,0,K⟩)):=(M _ _ _ _ f).trans ((M _ _ _ _ f).trans ((M _ _ _ _ f).trans ((M _ _ _ _ f).trans ((M _ _ _ _ f).trans ((M _ _ _ _ f).trans ((M _ _ _ _ f).trans ((M _ _ _ _ ax).trans a8)))))));clear hown hgrow E8 Kt F9)
    |(refine q_ _ rfl (.tmp 3) (.tmp 7) 104 rfl W.heap.size u.heap.size 107 b7 b8 7 96 ah C.o.1 C.o.2.1 C.o.2.2.1 C.o.2.2.2.1 C.o.2.2.2.2 (by decide) (I aK k cap) k L.flatten rfl ?o1 _ 1 wI rfl ?o2 Jj ?a3 ?a4 ?a5 ?_;(case o1=>exact(qj (w':=z) D.o (λq e=>E.o.block q (qq D.o e).2 (λao=>by have:=(qq D.o e).1;have:=b.o.1;omega))));(case o2=>exact bc.o);(case a3=>(unfold az;omega));(case a4=>omega);(case a5=>exact(pF a1.o E.o.size));intro v6 w6 hown hgrow E8;have ai:=pH z.heap.size z;obtain⟨g6,c6,rfl,Kt,F9⟩:=FI (El:=Jv) (cs:=[H G r,.bool vb,H G v,O y,I g o c1,I h p c2,H G vp]) b.o.1 D.o aC.o E.o a1.o ai an.o hown hgrow E8;have aD:=J Kt;have ab:=J (ak.o.Oq F9 b.o.2.1);have aH:=J (al.o.Oq F9 b.o.1);have bq:=vS ae F9 b.o.2.1;have a8:=vS aA F9 b.o.2.2.1;have Q:=J (show W.heap.size<=g6/\g6<w6.heap.size from qq Kt.own rfl);have aB:=J (show([H G r,.bool vb,H G v,O y,I g o c1,I h p c2,H G vp]:X U).length=7/\(∀x∈([H G r,.bool vb,H G v,O y,I g o c1,I h p c2,H G vp]:X U),x.oneCell'=true) from⟨rfl,by simp[Θ]⟩);obtain⟨fr6,yU⟩:=stf (n:=0) Kt.own aE.o;have bd:w6.cell? ⟨g6,k*7,K⟩=N _:=yU 0 _ rfl;have be:=yU 1 _ rfl;have ao:=yU 2 _ rfl;have bf:=yU 3 _ rfl;have bg:=yU 4 _ rfl;have bh:=yU 5 _ rfl;have bi:=yU 6 _ rfl;have bj:=ny _ V 4 _ _ ab.o.vb;have bo:=b.o.2.2.2.2.2;have bp:=(show g6≠V by have:=Q.o.1;have:=b.o.2.1;omega);have ax:=b.o.2.2.2.2.2.symm;have f:=(show g6≠B by have:=Q.o.1;have:=b.o.2.2.1;omega);have bn:=(show B≠g6 by have:=Q.o.1;have:=b.o.2.2.1;omega);clear yU;have b5:(((((((w6.setCell ⟨g6,k*7,K⟩ (H G r)).setCell ⟨g6,k*7+1,K⟩ (.bool vb)).setCell ⟨g6,k*7+2,K⟩ (H G v)).setCell ⟨g6,k*7+3,K⟩ (O y)).setCell ⟨g6,k*7+4,K⟩ (I g o c1)).setCell ⟨g6,k*7+5,K⟩ (I h p c2)).setCell ⟨g6,k*7+6,K⟩ (H G vp)).cell? ⟨B,0,K⟩=N (Z (N ⟨P,0,K⟩)):=(M _ _ _ _ f).trans ((M _ _ _ _ f).trans ((M _ _ _ _ f).trans ((M _ _ _ _ f).trans ((M _ _ _ _ f).trans ((M _ _ _ _ f).trans ((M _ _ _ _ f).trans (a8)))))));have b6:((((((((w6.setCell ⟨V,4,K⟩ (I (N ⟨g6,0,K⟩) (k+1) c6)).setCell ⟨g6,k*7,K⟩ (H G r)).setCell ⟨g6,k*7+1,K⟩ (.bool vb)).setCell ⟨g6,k*7+2,K⟩ (H G v)).setCell ⟨g6,k*7+3,K⟩ (O y)).setCell ⟨g6,k*7+4,K⟩ (I g o c1)).setCell ⟨g6,k*7+5,K⟩ (I h p c2)).setCell ⟨g6,k*7+6,K⟩ (H G vp)).cell? ⟨B,0,K⟩=N (Z (N ⟨P,0,K⟩)):=(M _ _ _ _ f).trans ((M _ _ _ _ f).trans ((M _ _ _ _ f).trans ((M _ _ _ _ f).trans ((M _ _ _ _ f).trans ((M _ _ _ _ f).trans ((M _ _ _ _ f).trans ((M _ _ _ _ ax).trans a8)))))));clear hown hgrow E8 Kt F9))
 all_goals
  clear b5 b6
  go_wp2_with fail
  go_end0
  rw[aJ.o];refine⟨rfl,Q4 (VT (m:=4) aD.o ba.o aG.o.1 aG.o.2 rfl aB.o ab.o aH.o b.o.1 b.o.2.1 b.o.2.2.2.1 rfl ?_)⟩
  first
   |(left;simp only[Δ,kZ,Ξ];done)
   |(right;simp only[Δ,kZ,Ξ];done)
def aae:Op:= .load 105 (.tmp 2)
def aaf:Op:= .load 105 (.tmp 5)
def aag(P V B a ag d:ay)(s:Λ)(l:X (Λ×Jv.J))(k:ay)(bo:k<l.length)(a1 W u:Ω)(items:U)(aT:P<W.heap.size)(aW:V<W.heap.size)(aS:B<W.heap.size)(aV:V≠P)(aw:B≠P)(ax:B≠V)(aZ:W.cell? ⟨B,0,K⟩=N (Z (N ⟨P,0,K⟩)))(aU:a1.heap.size<=P)(aX:a1.heap.size<=V)(aY:Below a1.heap.size a1 W)
 (bp:l.length<=1000000) (a0:Iv P V a 5 W u (I K 0 0) items) (b2:My W.heap.size u items (l.take k)) (b1:Ps P s ag d u) (aB:∀x v,Ps P s ag d x->Below a1.heap.size a1 x->(My W.heap.size x v (l.take k))->MC P s l[k] ag d x v):
 Calls aj 209 #[Z (N ⟨V,0,K⟩),Z (N ⟨B,0,K⟩)] u λe w'=>e=η (.tuple #[])/\(∃b7,Iv P V a 5 W w' (I K 0 0) b7/\My W.heap.size w' b7 (l.take (k+1)))/\Ps P s (ag+(Jv.yf l[k]).length) d w':=by
 have ae:=J (a0.base aY aU aX);have bc:=a0.cell aZ aw ax;have al:=Me.pJ (j:=5) a0.vb rfl;have ap:=J b2;obtain⟨ba,bb,b0,b3,b4,b5,b6⟩:=uP VZ;have F:=J (Y b0 (Y b3 (Y b4 (Y b5 b6))));obtain⟨L,aA,ai,a9⟩:=b2;obtain⟨aO,cap,rfl⟩:=qP ai;have a7:(l.take k).length=k:=by rw[nQ];omega
 have aK:=J (Y a7 ((a9 u (λ_ _ _ _=>rfl)).1.trans a7));rw[a7] at ai al a0 a9 ap;have Q:=J ai;have aN:=J (show l.take (k+1)=l.take k++[l[k]] by rw[mM,oW bo];rfl);have aG:=J a9;have bd:=J aA;have aJ:=J a0;have aI:=J (show L.flatten.length=k*9 by rw[vl aA.1,(a9 u (λ_ _ _ _=>rfl)).1,a7]);have f:=J (Y aT (Y aW (Y aS (Y aV (Y aw ax)))));have bx:k+1<=1000000:=by omega
 have aM:=J b1;have aq:=J aB;have a8:=J a0.size;have ad:=J ((pH u.heap.size u).drew);have a6:=J (pM u (ζ wJ.toArray 156)).drew;have bD:=pI al (pM u (ζ wJ.toArray 156));have bz:k<k+1:=lW k;have bA:(0:Int)<=(k:Int):=by omega
 have bB:(k:Int)<(k:Int)+1:=by omega
 generalize bw:l[k]=g at aN aB aq|-;clear ai a9 aA b1 aB a0 b0 b3 b4 b5 b6 a7 aY aZ aT aW aS aV aw ax aU aX bp
 go_enter Tryz.func209,Tryz.ntmps209
 go_wp2_with fail
 have bq:aae= .load 105 (.tmp 2):=rfl;rw[<-bq];have br:aaf= .load 105 (.tmp 5):=rfl;rw[<-br]
 go_region_held3 (λw'=>w'.cell? ⟨B,0,K⟩=N (Z (N ⟨P,0,K⟩))) (first|(with_reducible assumption)|go_keep)
  (first
    |(go_at_call 210;have S:=aq.o u.drew _ (aM.o.below ad.o) (ae.o.trans (ad.o.mono ae.o.size)) (ap.o.below ad.o);unfold MC at S;(with_reducible refine S.mono ?_);clear S;rintro e D ⟨⟨y,vb,z,C,h,p,c1,o,r,c2,vp,A,rfl,ab⟩,aa,a2⟩;have ao:=J aa;have E:=(Sd.qd (P:=P) ad.o).trans a2;have R:=J E;have ar:=J (show∀w',Agree u.heap.size D w' K->BQ w' g [O g.1,H G y,.bool vb,H G z,O C,I h p c1,I o r c2,H G vp,H G A] fromλw' aC=>ab w' aC);have an:=J (aJ.o.sd E f.o.2.2.2.1);have ak:=E.cell al f.o.2.2.2.1;have aE:=E.cell bc f.o.2.2.2.2.1;have bC:=pI ak (pM D (ζ wJ.toArray 156));clear ab aa a2 E)
    |(go_at_call 210;have S:=aq.o ((u.alloc (ζ wJ.toArray 156)).drew) _ (aM.o.below a6.o) (ae.o.trans (a6.o.mono ae.o.size)) (ap.o.below a6.o);unfold MC at S;(with_reducible refine S.mono ?_);clear S;rintro e D ⟨⟨y,vb,z,C,h,p,c1,o,r,c2,vp,A,rfl,ab⟩,aa,a2⟩;have ao:=J aa;have E:=(Sd.qd (P:=P) a6.o).trans a2;have be:=J (qj (w':=D) (q9 (w:=u) (c:=wJ) (sz:=9) (t:=156) rfl) (λq e=>a2.block q (qq (q9 (w:=u) (c:=wJ) (sz:=9) (t:=156) rfl) e).2 (by have aP:=(qq (q9 (w:=u) (c:=wJ) (sz:=9) (t:=156) rfl) e).1;have aQ:=a8.o;have aR:=f.o.1;omega)));have R:=J E;have ar:=J (show∀w',Agree u.heap.size D w' K->BQ w' g [O g.1,H G y,.bool vb,H G z,O C,I h p c1,I o r c2,H G vp,H G A] fromλw' aC=>ab w' (λi aP aQ aR=>aC i (pF a6.o.size aP) aQ aR));have an:=J (aJ.o.sd E f.o.2.2.2.1);have ak:=E.cell al f.o.2.2.2.1;have aE:=E.cell bc f.o.2.2.2.2.1;clear ab aa a2 E)
    |(refine q_ _ rfl (.tmp 3) (.tmp 9) 105 rfl W.heap.size u.heap.size 156 ba bb 9 120 ο F.o.1 F.o.2.1 F.o.2.2.1 F.o.2.2.2.1 F.o.2.2.2.2 (by decide) (I aO k cap) k L.flatten rfl ?o1 _ 1 wJ rfl ?o2 Jk ?a3 ?a4 ?a5 ?_;(case o1=>exact(qj (w':=(D.alloc (ζ wJ.toArray 156))) Q.o (λq e=>((pM D (ζ wJ.toArray 156)).block q (oQ (qq Q.o e).2 R.o.size)).trans (R.o.block q (qq Q.o e).2 (λau=>by have:=(qq Q.o e).1;have:=f.o.1;omega)))));(case o2=>exact(rK (q9 (w:=D) (c:=wJ) (sz:=9) rfl) R.o.size));(case a3=>(unfold az;omega));(case a4=>omega);(case a5=>exact(pF a8.o (pF R.o.size (pM D (ζ wJ.toArray 156)).size)));intro v6 w6 hown hgrow E8;have am:=pM D (ζ wJ.toArray 156);obtain⟨g6,c6,rfl,Kt,F9⟩:=FI (El:=BQ) (cs:=[O g.1,H G y,.bool vb,H G z,O C,I h p c1,I o r c2,H G vp,H G A]) f.o.1 Q.o aG.o R.o a8.o am ar.o hown hgrow E8;have aH:=J Kt;have af:=J (an.o.Oq F9 f.o.2.1);have aL:=J (ao.o.Oq F9 f.o.1);have bv:=vS ak F9 f.o.2.1;have ac:=vS aE F9 f.o.2.2.1;have T:=J (show W.heap.size<=g6/\g6<w6.heap.size from qq Kt.own rfl);have aF:=J (show([O g.1,H G y,.bool vb,H G z,O C,I h p c1,I o r c2,H G vp,H G A]:X U).length=9/\(∀x∈([O g.1,H G y,.bool vb,H G z,O C,I h p c1,I o r c2,H G vp,H G A]:X U),x.oneCell'=true) from⟨rfl,by simp[Θ]⟩);obtain⟨fr6,yU⟩:=stf (n:=0) Kt.own aI.o;have bf:w6.cell? ⟨g6,k*9,K⟩=N _:=yU 0 _ rfl;have bg:=yU 1 _ rfl;have au:=yU 2 _ rfl;have bh:=yU 3 _ rfl;have bi:=yU 4 _ rfl;have bj:=yU 5 _ rfl;have bk:=yU 6 _ rfl;have bl:=yU 7 _ rfl;have bm:=yU 8 _ rfl;have bn:=ny _ V 5 _ _ af.o.vb;have bt:=f.o.2.2.2.2.2;have bu:=(show g6≠V by have:=T.o.1;have:=f.o.2.1;omega);have aD:=f.o.2.2.2.2.2.symm;have b:=(show g6≠B by have:=T.o.1;have:=f.o.2.2.1;omega);have bs:=(show B≠g6 by have:=T.o.1;have:=f.o.2.2.1;omega);clear yU;have b8:(((((((((w6.setCell ⟨g6,k*9,K⟩ (O g.1)).setCell ⟨g6,k*9+1,K⟩ (H G y)).setCell ⟨g6,k*9+2,K⟩ (.bool vb)).setCell ⟨g6,k*9+3,K⟩ (H G z)).setCell ⟨g6,k*9+4,K⟩ (O C)).setCell ⟨g6,k*9+5,K⟩ (I h p c1)).setCell ⟨g6,k*9+6,K⟩ (I o r c2)).setCell ⟨g6,k*9+7,K⟩ (H G vp)).setCell ⟨g6,k*9+8,K⟩ (H G A)).cell? ⟨B,0,K⟩=N (Z (N ⟨P,0,K⟩)):=(M _ _ _ _ b).trans ((M _ _ _ _ b).trans ((M _ _ _ _ b).trans ((M _ _ _ _ b).trans ((M _ _ _ _ b).trans ((M _ _ _ _ b).trans ((M _ _ _ _ b).trans ((M _ _ _ _ b).trans ((M _ _ _ _ b).trans (ac)))))))));have b9:((((((((((w6.setCell ⟨V,5,K⟩ (I (N ⟨g6,0,K⟩) (k+1) c6)).setCell ⟨g6,k*9,K⟩ (O g.1)).setCell ⟨g6,k*9+1,K⟩ (H G y)).setCell ⟨g6,k*9+2,K⟩ (.bool vb)).setCell ⟨g6,k*9+3,K⟩ (H G z)).setCell ⟨g6,k*9+4,K⟩ (O C)).setCell ⟨g6,k*9+5,K⟩ (I h p c1)).setCell ⟨g6,k*9+6,K⟩ (I o r c2)).setCell ⟨g6,k*9+7,K⟩ (H G vp)).setCell ⟨g6,k*9+8,K⟩ (H G A)).cell? ⟨B,0,K⟩=N (Z (N ⟨P,0,K⟩)):=(M _ _ _ _ b).trans ((M _ _ _ _ b).trans ((M _ _ _ _ b).trans ((M _ _ _ _ b).trans ((M _ _ _ _ b).trans ((M _ _ _ _ b).trans ((M _ _ _ _ b).trans ((M _ _ _ _ b).trans ((M _ _ _ _ b).trans ((M _ _ _ _ aD).trans ac)))))))));clear hown hgrow E8 Kt F9)
    |(refine q_ _ rfl (.tmp 3) (.tmp 9) 105 rfl W.heap.size u.heap.size 156 ba bb 9 120 ο F.o.1 F.o.2.1 F.o.2.2.1 F.o.2.2.2.1 F.o.2.2.2.2 (by decide) (I aO k cap) k L.flatten rfl ?o1 _ 1 wJ rfl ?o2 Jk ?a3 ?a4 ?a5 ?_;(case o1=>exact(qj (w':=D) Q.o (λq e=>R.o.block q (qq Q.o e).2 (λau=>by have:=(qq Q.o e).1;have:=f.o.1;omega))));(case o2=>exact be.o);(case a3=>(unfold az;omega));(case a4=>omega);(case a5=>exact(pF a8.o R.o.size));intro v6 w6 hown hgrow E8;have am:=pH D.heap.size D;obtain⟨g6,c6,rfl,Kt,F9⟩:=FI (El:=BQ) (cs:=[O g.1,H G y,.bool vb,H G z,O C,I h p c1,I o r c2,H G vp,H G A]) f.o.1 Q.o aG.o R.o a8.o am ar.o hown hgrow E8;have aH:=J Kt;have af:=J (an.o.Oq F9 f.o.2.1);have aL:=J (ao.o.Oq F9 f.o.1);have bv:=vS ak F9 f.o.2.1;have ac:=vS aE F9 f.o.2.2.1;have T:=J (show W.heap.size<=g6/\g6<w6.heap.size from qq Kt.own rfl);have aF:=J (show([O g.1,H G y,.bool vb,H G z,O C,I h p c1,I o r c2,H G vp,H G A]:X U).length=9/\(∀x∈([O g.1,H G y,.bool vb,H G z,O C,I h p c1,I o r c2,H G vp,H G A]:X U),x.oneCell'=true) from⟨rfl,by simp[Θ]⟩);obtain⟨fr6,yU⟩:=stf (n:=0) Kt.own aI.o;have bf:w6.cell? ⟨g6,k*9,K⟩=N _:=yU 0 _ rfl;have bg:=yU 1 _ rfl;have au:=yU 2 _ rfl;have bh:=yU 3 _ rfl;have bi:=yU 4 _ rfl;have bj:=yU 5 _ rfl;have bk:=yU 6 _ rfl;have bl:=yU 7 _ rfl;have bm:=yU 8 _ rfl;have bn:=ny _ V 5 _ _ af.o.vb;have bt:=f.o.2.2.2.2.2;have bu:=(show g6≠V by have:=T.o.1;have:=f.o.2.1;omega);have aD:=f.o.2.2.2.2.2.symm;have b:=(show g6≠B by have:=T.o.1;have:=f.o.2.2.1;omega);have bs:=(show B≠g6 by have:=T.o.1;have:=f.o.2.2.1;omega);clear yU;have b8:(((((((((w6.setCell ⟨g6,k*9,K⟩ (O g.1)).setCell ⟨g6,k*9+1,K⟩ (H G y)).setCell ⟨g6,k*9+2,K⟩ (.bool vb)).setCell ⟨g6,k*9+3,K⟩ (H G z)).setCell ⟨g6,k*9+4,K⟩ (O C)).setCell ⟨g6,k*9+5,K⟩ (I h p c1)).setCell ⟨g6,k*9+6,K⟩ (I o r c2)).setCell ⟨g6,k*9+7,K⟩ (H G vp)).setCell ⟨g6,k*9+8,K⟩ (H G A)).cell? ⟨B,0,K⟩=N (Z (N ⟨P,0,K⟩)):=(M _ _ _ _ b).trans ((M _ _ _ _ b).trans ((M _ _ _ _ b).trans ((M _ _ _ _ b).trans ((M _ _ _ _ b).trans ((M _ _ _ _ b).trans ((M _ _ _ _ b).trans ((M _ _ _ _ b).trans ((M _ _ _ _ b).trans (ac)))))))));have b9:((((((((((w6.setCell ⟨V,5,K⟩ (I (N ⟨g6,0,K⟩) (k+1) c6)).setCell ⟨g6,k*9,K⟩ (O g.1)).setCell ⟨g6,k*9+1,K⟩ (H G y)).setCell ⟨g6,k*9+2,K⟩ (.bool vb)).setCell ⟨g6,k*9+3,K⟩ (H G z)).setCell ⟨g6,k*9+4,K⟩ (O C)).setCell ⟨g6,k*9+5,K⟩ (I h p c1)).setCell ⟨g6,k*9+6,K⟩ (I o r c2)).setCell ⟨g6,k*9+7,K⟩ (H G vp)).setCell ⟨g6,k*9+8,K⟩ (H G A)).cell? ⟨B,0,K⟩=N (Z (N ⟨P,0,K⟩)):=(M _ _ _ _ b).trans ((M _ _ _ _ b).trans ((M _ _ _ _ b).trans ((M _ _ _ _ b).trans ((M _ _ _ _ b).trans ((M _ _ _ _ b).trans ((M _ _ _ _ b).trans ((M _ _ _ _ b).trans ((M _ _ _ _ b).trans ((M _ _ _ _ aD).trans ac)))))))));clear hown hgrow E8 Kt F9))
 all_goals
  clear b8 b9
  go_wp2_with fail
  go_end0
  rw[aN.o];refine⟨rfl,Q4 (VT (m:=5) aH.o bd.o aK.o.1 aK.o.2 rfl aF.o af.o aL.o f.o.1 f.o.2.1 f.o.2.2.2.1 rfl ?_)⟩
  first
   |(left;simp only[Δ,kZ,Ξ];done)
   |(right;simp only[Δ,kZ,Ξ];done)
end Pj
end Go.Proofs.YthbhmjdcfocphaaGreatDoor
