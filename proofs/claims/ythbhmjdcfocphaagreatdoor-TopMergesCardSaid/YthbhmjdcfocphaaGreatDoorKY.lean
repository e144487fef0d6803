/- A part of this proof. -/
import Derived.Test.YthbhmjdcfocphaaGreatDoorKG
import Derived.Test.YthbhmjdcfocphaaGreatDoorKL
set_option linter.all false
set_option maxHeartbeats 16000000
set_option maxRecDepth 100000
namespace Go.Proofs.YthbhmjdcfocphaaGreatDoor
open Go.Value renaming string→γ, slice→M, pointer→ε, int→Y
open Go.Obj renaming cells→ζ
open Go.Ending renaming returned→η
open Go.IntKind renaming i64→X
open Go.Lib renaming hid→K, frozen_of_heap→aI
open Option renaming some→G, none→N
open Go renaming Value→J, World→O, plainElem_int→aE, TypeId→aH, plainElem_int_inv→aM
open _root_ renaming List→H, ByteArray→Γ, Nat→I, Int→U, absurd→aL, Option→aN
open Mg renaming names→V, uU→aG, Ed→aO
open Rw renaming lt_of_heap→χ
open Go.Proofs.Tryz renaming prog→Θ, underlying3→ς, underlying296→aj
open Go.Value renaming slice→Ξ, oneCell'→aK
open Me.Row renaming slice→ο, below→aC, nil→aJ
open Go.RowKit renaming Below→ah
open Go.Instr renaming lookup→av
open Bool renaming true→ay, false→az
namespace Np
open RowKit Maps Rw Mw
def Kg(w:O)(b n:I)(c:H Γ):Prop:=∃a:DataW Unit,w.ownsMap Θ 9 (plainElem Θ 3) b n a/\(∀s:Γ,has a (.string s.data.toList)=ay↔s∈c)/\∀i(d:i<c.length),∀z,a.atKey (.string c[i].data.toList) z= .lit (.int .i64 i)
def Kg.lt{w:O}{b n:I}{d:H Γ}(a:Kg w b n d):b<w.heap.size:=by obtain⟨e,c,-⟩:=a;exact c.lt
def Kg.of_block{w w':O}{b n:I}{a:H Γ}(e:Kg w b n a)(g:w'.heap[b]?=w.heap[b]?):Kg w' b n a:=by obtain⟨c,⟨es,d,h,r⟩,f⟩:=e;exact⟨c,⟨es,d,by rw[g];exact h,r⟩,f⟩
def Kg.new(w:O):Kg (w.alloc (.map #[] 0)) w.heap.size 0 []:=
 ⟨.map [],World.ownsMap_made _ _ _ _,λs=>by simp[has],λi a=>aL a (by simp)⟩
def Kg.none{w:O}{b n:I}{d:H Γ}(f:Kg w b n d)(k:Γ)(i:k.size<=140737488355327)(j:¬k∈d):∃x:U,(av 296 (.map (G b)) (γ k) ay).run Θ w= .ok (.tuple #[Y X x,.bool az]) w:=by obtain⟨o,g,h,p⟩:=f;obtain⟨x,ps,a,m⟩:=g.look_ok (t:=296) Yc aj (z:=Y X 0) (by kernel_rfl) (aE ς (by decide)) (Yd k i);rw[Bool.eq_false_iff.2 (λe=>j ((h k).1 e))] at a;obtain⟨c,rfl,-⟩:=aM ς m;exact⟨c,a⟩
def Kg.some{w:O}{b n:I}{a:H Γ}(g:Kg w b n a)(i:I)(e:i<a.length)(m:a[i].size<=140737488355327):(av 296 (.map (G b)) (.string a[i]) ay).run Θ w= .ok (.tuple #[Y X i,.bool ay]) w:=by obtain⟨p,h,j,k⟩:=g;obtain⟨x,ps,f,o⟩:=h.look_ok (t:=296) Yc aj (z:=Y X 0) (by kernel_rfl) (aE ς (by decide)) (Yd _ m);rw[(j _).2 (pq e)] at f;obtain⟨c,rfl,d,-⟩:=aM ς o;rw[k i e] at d;simp only[mT,DataW.lit.injEq,Lit.int.injEq,kO] at d;rw[d.1];exact f
def Kg.put{w:O}{b n:I}{c:H Γ}(p:Kg w b n c)(k:Γ)(y:k.size<=140737488355327)(A:n<maxLen)(m:c.length<=1000000)(B:¬k∈c):
 ∃w',(Instr.mapUpdate 296 (.map (.some b)) (γ k) (Y X c.length)).run Θ w= .ok () w'/\Kg w' b (n+1) (c++[k])/\w.grownBy w' (.some b):=by
 obtain⟨E,d,g,q⟩:=p
 have D:(Lit.int .i64 (c.length:U)).wf=ay:=by have d:IntKind.i64.min<=(c.length:U):=Int.le_trans (by decide:IntKind.i64.min<=0) (by omega);have g:(c.length:U)<=IntKind.i64.max:=Int.le_trans (by omega) (by decide:(1000000:U)<=IntKind.i64.max);change(decide (IntKind.i64.min<=(c.length:U))&&decide ((c.length:U)<=IntKind.i64.max))=ay;rw[nK d,nK g];rfl
 obtain⟨w',r,u,x⟩:=d.update (t:=296) Yc aj A (Yd k y) (aE ς (a:=(c.length:U)) D)
 have j:∀s:Γ,s≠k->(Lit.string s.data.toList)≠ .string k.data.toList:=λs m e=>m (by have:=Lit.string.inj e;exact ByteArray.ext (Array.toList_inj.1 this))
 refine⟨w',r,⟨_,u,λs=>?_,λi h z=>?_⟩,x⟩
 ·by_cases e:s=k
  ·subst e
   rw[has_put_same d.isMap (show WideAt.IsKeyLit (.string s.data.toList) from trivial)];simp
  ·rw[has_put_other (j s e),g]
   simp[e]
 ·rcases mC i c.length with f|f
  ·have e:(c++[k])[i]=c[i]:=n_ f
   rw[e,atKey_put_other (j _ λo=>B (by rw[<-o];exact pq f)),q i f]
  ·have e:i=c.length:=by rw[o_] at h;simp at h;omega
   subst e;have e:(c++[k])[c.length]=k:=(by simp);rw[e,atKey_put_same d.isMap (show WideAt.IsKeyLit (.string k.data.toList) from trivial)]
section
variable {α:Type}{key:α->Γ}
def rL(key:α->Γ)(a:H α):H (H α):=(V key a).map λk=>Mg.of key k a
def s7(a:H α):(rL key a).length=(V key a).length:=oS _
def Ta{a:H α}{x:α}(b:¬key x∈V key a):rL key (a++[x])=rL key a++[[x]]:=by
 unfold rL;rw[aG,Mg.DI b,nv,ou,mU]
 congr 1
 ·refine mV λk c=>?_
  rw[Mg.BL,oU λe=>b (by rw[e];exact c)]
 ·rw[Mg.BL,oD rfl]
  have:Mg.of key (key x) a=[]:=List.filter_eq_nil_iff.2 λf d e=>b (Mg.yZ.2 ⟨f,d,by simpa using e⟩)
  rw[this];rfl
def Tc{a:H α}{x:α}{i:I}(h:i<(V key a).length)(b:(V key a)[i]=key x)(n:i<(rL key a).length):rL key (a++[x])=(rL key a).set i ((rL key a)[i]++[x]):=by
 have f:key x∈V key a:=by rw[<-b];exact pq h
 have k:=Mg.ET (key:=key) a;apply lH
 ·rw[lD,s7,s7,aG,aO f]
 ·intro j m d
  have o:j<(V key a).length:=(by rw[lD,s7] at d;exact d);have this:V key (a++[x])=V key a:=(by rw[aG,aO f])
  have g:(rL key (a++[x]))[j]=Mg.of key (V key a)[j] (a++[x]):=by unfold rL;simp only[oG,this]
  rw[g,kI,Mg.BL]
  by_cases c:i=j
  ·subst c
   rw[oD b.symm,oD rfl];simp only[rL,oG]
  ·rw[oU (λe=>c ?_),oU c]
   ·simp only[rL,oG]
   ·exact(List.getElem_inj k).1 (b.trans e)
end
end Np
namespace Tw
open RowKit Rw Vf Mw Me Gr Rg Ke Np
def GEl(w:O)(x:J)(c:H J):Prop:=c=[x]
def CEl{α:Type}(C:α->H J)(w:O)(x:α)(c:H J):Prop:=c=C x
abbrev wG(S:I)(w:O)(v:J)(l:H J):Prop:=Row GEl 1 49 S w v l
abbrev vu{α:Type}(C:α->H J)(S:I)(w:O)(v:J)(l:H α):Prop:=Row (CEl C) 5 53 S w v l
def tiG:TI 300 49 1 24:=Dx Tryz.underlying300 (by kernel_rfl) (by decide)
section
variable {α:Type}{C:α->H J}{S:I}{w w':O}{v:J}{l:H α}{gs:H J}{Ls:H (H α)}
def vu.keep(a:vu C S w v l)(e:∀q,v.ownBlock=G q->w'.heap[q]?=w.heap[q]?):vu C S w' v l:=by obtain⟨L,b,c,d⟩:=a;exact⟨L,b,qj c e,λu _=>d w λ_ _ _ _=>rfl⟩
def wG.keep{l:H J}(a:wG S w v l)(e:∀q,v.ownBlock=G q->w'.heap[q]?=w.heap[q]?):wG S w' v l:=by obtain⟨L,b,c,d⟩:=a;exact⟨L,b,qj c e,λu _=>d w λ_ _ _ _=>rfl⟩
def LV{α:Type}{El:O->α->H J->Prop}{sz:I}{t:aH}{l:H α}(b:Row El sz t S w v l):∃a c,v=M a l.length c/\l.length<=c:=by
 obtain⟨L,i,e,j⟩:=b;rcases e.2 with⟨rfl,d⟩|⟨g,cap,h,rfl,_,_,f,_⟩
 ·exact⟨N,0,by rw[d],by omega⟩
 ·exact⟨_,cap,rfl,f⟩
def qJ{α:Type}{El:O->α->H J->Prop}{sz:I}{t:aH}{l:H α}(a:Row El sz t S w v l){q:I}(e:v.ownBlock=G q):S<=q/\q<w.heap.size:=by obtain⟨L,c,b,d⟩:=a;exact qq b e
def Dh{α d:Type}{e:O->α->H J->Prop}{f:O->d->H J->Prop}{r s S T:I}{t1 t2:aH}{w:O}{b c:J}{n:H α}{l2:H d}(i:Row e r t1 S w b n)(j:Row f s t2 T w c l2)(k:t1≠t2){q:I}(g:b.ownBlock=G q):c.ownBlock≠G q:=λh=>by
 obtain⟨_,_,o,_⟩:=i;obtain⟨_,_,p,_⟩:=j;obtain⟨c1,m⟩:=qH o g;obtain⟨c2,a⟩:=qH p h;rw[m] at a;injection a with a
 injection a with k3 k4 k5
 exact k k4
def g_at{l:H J}{a:aN Addr}{n c:I}(i:wG S w (M a n c) l){j:I}(h:j<l.length):∃b,a=G ⟨b,0,N⟩/\w.cell? ⟨b,j,N⟩=G l[j]/\w.frozen? ⟨b,j,N⟩=az/\(Ξ a n c).ownBlock=G b/\b<w.heap.size:=by
 obtain⟨L,k,m,o⟩:=i;have f:=o w λ_ _ _ _=>rfl
 have d:L.flatten[j]?=G l[j]:=by have:=r8 k.1 j (by rw[f.1];exact h) 0 (by omega);rw[f.2 j h (by rw[f.1];exact h)] at this;simpa using this
 rcases m.2 with⟨-,r⟩|⟨b,cap,q,e,s,g,x,t,u,p⟩
 ·omega
 ·cases e
  refine⟨b,rfl,?_,aI g _,rfl,χ g⟩;unfold World.cell?;rw[<-p,mG] at d
  split at d
  ·simpa [g] using d
  ·cases d
def wG.set{l:H J}{b n c:I}(p:wG S w (M (G ⟨b,0,N⟩) n c) l){j:I}(E:j<l.length)(d:J)(A:d.oneCell'=ay):wG S (w.setCell ⟨b,j,N⟩ d) (M (G ⟨b,0,N⟩) n c) (l.set j d):=by
 obtain⟨L,q,g,s⟩:=p;have k:=s w λ_ _ _ _=>rfl
 have m:L=l.map λx=>[x]:=lH (by rw[k.1,oS]) λi a b=>by rw[oG];exact k.2 i (by simpa using b) a
 have f:∀l:H J,(l.map λx=>[x]).flatten=l:=λl=>by induction l with
  |nil=>rfl
  |cons x r ih=>simpa using ih
 have z:n=l.length:=by
  rcases g.2 with⟨e,D⟩|⟨b,cap,B,e,_⟩
  ·cases e
  ·cases e;rfl
 subst z;have h:=GP g d (j:=j);rw[m,f] at h;refine⟨(l.set j d).map λx=>[x],⟨λc y=>by obtain⟨F,-,rfl⟩:=List.mem_map.1 y;rfl,λu o=>?_⟩,by rw[lD,f];exact h,λu _=>⟨by simp,λi a b=>by rw[oG];rfl⟩⟩;rw[f] at o;rcases iw o with t|rfl
 ·exact q.2 u (by rw[m,f];exact t)
 ·exact A
structure Gs{α:Type}(C:α->H J)(S:I)(w:O)(gs:H J)(Ls:H (H α)):Prop where
 len:gs.length=Ls.length
 row:∀j(h1:j<gs.length)(h2:j<Ls.length),vu C S w gs[j] Ls[j]
 ap:∀i j(h1:i<gs.length)(h2:j<gs.length),i≠j->∀q,gs[i].ownBlock=G q->gs[j].ownBlock≠G q
def Gs.keep(c:Gs C S w gs Ls)(d:∀j(e:j<gs.length) q,gs[j].ownBlock=G q->w'.heap[q]?=w.heap[q]?):Gs C S w' gs Ls:=
 ⟨c.len,λj a b=>(c.row j a b).keep (d j a),c.ap⟩
def Gs.below(b:Gs C S w gs Ls)(c:ah w.heap.size w w'):Gs C S w' gs Ls:=
 b.keep λj a q e=>c.block q (qJ (b.row j a (by rw[<-b.len];exact a)) e).2
def Gs.nil:Gs C S w [] []:=⟨rfl,λj a=>aL a (by simp),λi j a=>aL a (by simp)⟩
def Gs.snoc(b:Gs C S w gs Ls):Gs C S w (gs++[M N 0 0]) (Ls++[[]]):=by
 refine⟨by simp[b.len],λj f g=>?_,λi j f g h q e=>?_⟩
 ·by_cases a:j<gs.length
  ·rw[n_ a,n_ (by rw[<-b.len];exact a)]
   exact b.row j a _
  ·rw[nJ (by omega),nJ (by rw[<-b.len];omega)]
   simp only[mK];exact aJ
 ·by_cases c:i<gs.length
  ·rw[n_ c] at e
   by_cases a:j<gs.length
   ·rw[n_ a]
    exact b.ap i j c a h q e
   ·rw[nJ (by omega)]
    simp only[mK];intro d;cases d
  ·rw[nJ (by omega)] at e
   simp only[mK] at e;cases e
def Gs.set(f:Gs C S w gs Ls){i:I}(n:i<gs.length)(z:i<Ls.length){k:J}{p:H α}(y:vu C S w' k p)(u:w.grownBy w' gs[i].ownBlock)(x:k.ownBlock=gs[i].ownBlock\/∃q,k.ownBlock=G q/\w.heap.size<=q):Gs C S w' (gs.set i k) (Ls.set i p):=by
 have r:∀j(c:j<gs.length) q,gs[j].ownBlock=G q->q<w.heap.size:=λj c q e=>(qJ (f.row j c (by rw[<-f.len];exact c)) e).2
 have key:∀j(c:j<gs.length),i≠j->∀q,gs[j].ownBlock=G q->k.ownBlock≠G q:=λj c g q e=>by
  rcases x with d|⟨B,d,A⟩
  ·rw[d];exact f.ap j i c n (jY g) q e
  ·rw[d];intro s;have:=r j c q e;cases s;omega
 refine⟨by simp[f.len],λj c h=>?_,λa b c h t q e=>?_⟩
 ·rw[lD] at c h
  rw[kI,kI]
  by_cases g:i=j
  ·rw[oD g,oD g];exact y
  ·rw[oU g,oU g]
   exact(f.row j c h).keep λq e=>u.block q (r j c q e) λd=>f.ap j i c n (jY g) q e d.symm
 ·rw[lD] at c h
  rw[kI] at e|-
  by_cases m:i=a
  ·rw[oD m] at e
   rw[oU (by omega)];intro d;exact key b h (by omega) q d e
  ·rw[oU m] at e
   by_cases o:i=b
   ·rw[oD o];exact key a c m q e
   ·rw[oU o];exact f.ap a b c h t q e
end
def Aj{u v W:O}{b:I}(a:ah b W u)(k:u.grownBy v (G b))(d:b<u.heap.size):ah b W v:=
 ⟨k.os.trans a.os,k.tape.trans a.tape,k.output.trans a.output,pF a.size k.size,λi c=>(k.block i (by omega) (λe=>by cases e;omega)).trans (a.block i c)⟩
def QW{α:Type}{key:α->Γ}{a:H α}{i:I}{x:α}(e:i<(rL key a).length)(d:(V key a)[i]?=G (key x)):rL key (a++[x])=(rL key a).set i ((rL key a)[i]++[x]):=by obtain⟨b,c⟩:=List.getElem?_eq_some_iff.1 d;exact Tc b c e
def DV{α:Type}(C:α->H J)(key:α->Γ)(s:H α)(v:J)(W:O)(f:Rw W v 5 (s.map C))(o:∀x∈s,(∃D c1 c2 L P,C x=[D,c1,c2,L,P])/\(∀u∈C x,u.oneCell'=ay)/\(key x).size<=140737488355327)(cK:s.length<=1000000)
 (hid:∀x∈s,∀w,Calls Θ 246 #[.agg (C x).toArray] w λe w'=>e=η (γ (key x))/\ah w.heap.size w w'):
 Calls Θ 245 #[v,.func (.func 246) #[] #[]] W λe w'=>(∃(cf:J)(gs:H J),e=η cf/\Rw w' cf 1 (gs.map λx=>[x])/\gs.length=(rL key s).length/\∀j(h:j<gs.length)(F:j<(rL key s).length),Rw w' gs[j] 5 ((rL key s)[j].map C)/\∃a c,gs[j]= .slice a (rL key s)[j].length c/\(rL key s)[j].length<=c)/\ah W.heap.size W w':=by
 obtain⟨g,cd,d0,cap,rfl,bp,bS⟩:=Mw.qY f (oS _);obtain⟨m,bw⟩:=pL s.length;rw[bw] at bp cK|-;have bi:=K bw;have cm:=K bp;have cq:=K bS;have cp:=K o;have cv:=K hid;have ad:=pM W (.map #[] 0);have bb:=K ad;have aX:=K (Kg.new W);clear f bw bp bS o hid ad;have cO:=@run_makeMap Θ
 go_enter Tryz.func245,Tryz.ntmps245
 go_wp2_with fail
 clear cO;generalize bP:W.heap.size=B at bb aX|-;have bC:=K bP;clear bP;generalize W.alloc _=cZ at bb aX|-
 go_loopw [6,14] (λr x wr=>∃(k n:I)(gs:H J),k<=m/\x=Y X k/\Hid (n<=k/\Kg wr B n (V key (s.take k)))/\Hid (wG (B+1) wr r gs)/\Hid (Gs C (B+1) wr gs (rL key (s.take k)))/\Hid (ah B W wr)/\Hid (B+1<=wr.heap.size)) (λ_ x _=>m-(intOf x).toNat)
 case atStart=>exact⟨0,0,[],oM _,rfl,K ⟨oZ _,aX.o⟩,K aJ,K Gs.nil,bb,K (oQ aX.o.lt (oZ _))⟩
 case round=>
  obtain⟨k,n,gs,d5,rfl,aR,a8,a5,aP,b9⟩:=hrel;obtain⟨ak,a2,cQ⟩:=ο a8.o;subst cQ;obtain⟨t,br⟩:=pL gs.length;have aq:=K br;rw[br] at a8|-;clear br
  by_cases cN:k<m
  ·obtain rfl:=cm.o (by omega)
   have b7:k<s.length:=(by rw[bi.o];exact cN);have bR:ah W.heap.size W wr:=(by rw[bC.o];exact aP.o);have ax:=K (cq.o k (by rw[oS];exact b7));rw[oG] at ax;have ar:=K (cv.o _ (pq b7));obtain⟨⟨D,c1,c2,L,P,b6⟩,b8,bu⟩:=cp.o _ (pq b7);have b2:=K (Mg.qi b7);generalize s[k]=x at ax ar b6 b8 bu b2;rw[b6] at ax ar b8;have bI:=K b8;have cs:=K b6;have bh:=K bu
   have ag:∀j(a6:j<5) z,[D,c1,c2,L,P][j]?=G z->wr.cell? ⟨g,cd+k*5+j,N⟩=G z:=λj a6 z cc=>by
    obtain⟨bA,h,F⟩:=ax.o j a6;rw[h] at cc;rw[<-cc];exact pI F bR
   have cX:wr.cell? ⟨g,cd+k*5,N⟩=G D:=ag 0 (by omega) _ rfl;have y1:=ag 1 (by omega) _ rfl;have y2:=ag 2 (by omega) _ rfl;have y3:=ag 3 (by omega) _ rfl;have y4:=ag 4 (by omega) _ rfl;have cT:(k:U)<(m:U):=(by omega);have cS:(0:U)<=(k:U):=(by omega);clear b6 b8 bu ag ax;have bM:=K (pG wr (ζ #[γ ⟨#[]⟩,γ ⟨#[]⟩,γ ⟨#[]⟩,γ ⟨#[]⟩,Y X 0] (53:I)))
   go_wp2_with(refine oN rfl 53 _ _ rfl _ _ rfl rfl 53 _ bM.o (by kernel_rfl) rfl (by have:=bI.o;simpa using this) ?_;rw[su])
   have ad:=pM wr (ζ #[D,c1,c2,L,P] (53:I));have bT:=pG wr (ζ #[D,c1,c2,L,P] (53:I));refine(ar.o _).mono ?_;rintro e cg⟨rfl,bq⟩;have Q:=ad.trans (bq.mono ad.size);have aa:=K (pW bq bT);have bc:=K (aP.o.trans (Q.mono (by have:=b9.o;omega)));have aS:=aR.o.2.of_block (Q.block B aR.o.2.lt);have aw:=K (a8.o.below Q);have R:=K (a5.o.below Q);have b0:=K aR.o.1;have a4:=K b9.o;have bm:=K (χ aa.o);have aZ:=K (λj (f:j<gs.length) q (e:gs[j].ownBlock=G q)=>(qJ (a5.o.row j f (by rw[<-a5.o.len];exact f)) e).2);have bk:=K (λq (e:(Ξ ak t a2).ownBlock=G q)=>(qJ a8.o e).2);have bL:=K (show(s.take k).length=k from List.length_take.trans (nM (by have:=bi.o;omega)));clear bq Q ad bT bM aR a8 a5 aP b9 cX y1 y2 y3 y4 bR;generalize wr.heap.size=a3 at aa a4 bm aZ bk|-;generalize s.take k=y at aS R b2 bL;have d6:k<=1000000:=(by omega)
   have cI:∃(z:U)(b:Bool),(av 296 (.map (G B)) (γ (key x)) ay).run Θ cg= .ok (.tuple #[Y X z,.bool b]) cg/\((b=ay/\∃i:I,z=i/\(V key y)[i]?=G (key x))\/(b=az/\¬key x∈V key y)):=by
    by_cases a7:key x∈V key y
    ·obtain⟨i,af,bt⟩:=mj a7
     have h:=aS.some i af (by rw[bt];exact bh.o);rw[bt] at h;exact⟨i,ay,h,.inl ⟨rfl,i,rfl,by rw[oW af,bt]⟩⟩
    ·obtain⟨z,h⟩:=aS.none (key x) bh.o a7
     exact⟨z,az,h,.inr ⟨rfl,a7⟩⟩
   obtain⟨z,b,bZ,cb⟩:=cI;have aY:=K aS;have bl:=K cb;clear aS cb
   go_upto_if 27 with fail
   have cR:y.length=k:=bL.o;have ap:=K (show t=(V key y).length by rw[<-aq.o,R.o.len,s7]);have bj:=K (Mg.wX (key:=key) y);have bJ:=K (λj (f:j<(rL key y).length)=>show((rL key y)[j]).length<=k by rw[<-cR];simp only[rL,oG];exact ng _ _)
   go_cut [6,9,14] from 14 to 48 (λr i q aW=>q=Y X k/\∃(j t a2:I)(ak:aN Addr)(gs:H J)(Ls:H (H α))(n:I),i=Y X j/\r=M ak t a2/\j<t/\Hid (n<=k+1/\Kg aW B n (V key (y++[x])))/\Hid (wG (B+1) aW (M ak t a2) gs)/\Hid (gs.length=t)/\Hid (Gs C (B+1) aW gs Ls)/\Hid (∀f:j<Ls.length,rL key (y++[x])=Ls.set j (Ls[j]++[x])/\Ls[j].length<=k)/\Hid (aW.heap[a3]?=G (ζ #[D,c1,c2,L,P] (53:I)))/\Hid (ah B W aW)/\Hid (∀j(f:j<gs.length) q,gs[j].ownBlock=G q->q<a3))
   case first=>
    rcases bl.o with⟨rfl,i,rfl,af⟩|⟨rfl,a7⟩
    ·have cJ:=(List.getElem?_eq_some_iff.1 af).1
     go_wp2_with fail
     go_meet
     refine⟨rfl,i,t,a2,ak,gs,rL key y,n,rfl,rfl,by rw[ap.o];exact cJ,K ⟨by have:=b0.o;omega,?_⟩,aw,aq,R,K λf=>⟨QW f af,bJ.o i f⟩,aa,bc,aZ⟩;rw[aG,aO (lX af)];exact aY.o
    ·clear bZ bl
     obtain⟨ch,ci,cj,ck,cl⟩:=qv (pH _ _) aa.o
     go_wp2_with fail
     refine(ar.o _).mono ?_;rintro e db⟨rfl,Q⟩;have a9:=K Q;have bD:=K (pW Q aa.o);have bE:=K (aY.o.of_block (Q.block B aY.o.lt));obtain⟨aV,cP,bX,ae⟩:=bE.o.put (key x) bh.o (by have:=b0.o;unfold maxLen;omega) (by have:=bj.o;omega) a7;rw[<-ap.o] at cP;clear Q ch ci cj ck cl;have ao:=K ((ae.block a3 (χ bD.o) (by intro e;cases e;have:=a4.o;omega)).trans bD.o);have a1:=K (wG.keep (aw.o.below a9.o) (w':=aV) λq e=>ae.block q (qJ (aw.o.below a9.o) e).2 (by intro E;cases E;have:=(qJ aw.o e).1;omega));have T:=K (Gs.keep (R.o.below a9.o) (w':=aV) λj f q e=>ae.block q (qJ ((R.o.below a9.o).row j f (by rw[<-R.o.len];exact f)) e).2 (by intro E;cases E;have:=(qJ (R.o.row j f (by rw[<-R.o.len];exact f)) e).1;omega));have bd:=K (Aj (bc.o.trans (a9.o.mono (mN (oQ a4.o (mN bm.o))))) ae bE.o.lt);have au:=K bX;have cC:=K (show B+1<=aV.heap.size by have h:=ae.size;have F:=a9.o.size;have b4:=bm.o;have bn:=a4.o;omega);clear ae bX
     go_wp2_with(refine qu (n:=t) aV rfl (.tmp 35) (.tmp 36) rfl tiG aq.o rfl a1.o (M N 0 0) [M N 0 0] rfl (λu _=>rfl) rfl (by simp[aK]) cC.o (by have:=bj.o;have:=ap.o;omega) (by decide) ?_)
     intro d9 cW bo bQ bY;obtain⟨cE,cF,bN⟩:=ο bo;rw[o_,aq.o,lR] at bN;subst bN;have cz:=K bo;have bB:=K bQ;have bF:=K bY;clear bo bQ bY
     go_wp2_with fail
     go_meet
     have cL:∀j(f:j<gs.length) q,gs[j].ownBlock=G q->cW.heap[q]?=aV.heap[q]?:=λj f q e=>by
      have h:=T.o.row j f (by rw[<-T.o.len];exact f);exact bF.o q (qJ h e).2 λE=>Dh h a1.o (by decide) e E.symm
     refine⟨rfl,t,t+1,cF,cE,gs++[M N 0 0],rL key y++[[]],n+1,rfl,rfl,lW _,K ⟨by have:=b0.o;omega,?_⟩,cz,K (by rw[o_,aq.o];rfl),K ((T.o.keep cL).snoc),K λf=>?_,K ?_,K ?_,K λj f q e=>?_⟩
     ·rw[aG,Mg.DI a7]
      exact au.o.of_block (bB.o.block B (lW _))
     ·have aT:(rL key y).length=t:=by rw[s7,<-ap.o]
      rw[Ta a7];subst aT;exact⟨by simp,by simp⟩
     ·exact(bF.o a3 (χ ao.o) (λe=>by have:=bk.o a3 e.symm;omega)).trans ao.o
     ·exact bd.o.trans (bB.o.mono (nu _))
     ·by_cases a6:j<gs.length
      ·rw[n_ a6] at e
       exact aZ.o j a6 q e
      ·rw[nJ (by omega)] at e
       simp only[mK] at e;cases e
   case rest=>
    obtain⟨rfl,j,t,a2,ak,gs,Ls,n,rfl,rfl,a6,au,a1,ct,T,bH,ao,bd,bG⟩:=hcut;have Z:=K (show j<gs.length by rw[ct.o];exact a6);have ab:=K (show j<Ls.length by rw[<-T.o.len];exact Z.o);obtain⟨bz,ba⟩:=bH.o ab.o;obtain⟨b,rfl,bU,bV,bs,bW⟩:=g_at a1.o Z.o;obtain⟨va,aU,bx⟩:=ο (T.o.row j Z.o ab.o);have ac:=K (T.o.row j Z.o ab.o);have a0:=K (λq (e:(gs[j]'Z.o).ownBlock=G q)=>Dh (T.o.row j Z.o ab.o) a1.o (by decide) e);have am:=K (bG.o j Z.o);have al:=K bU;have b1:=K (λce cU w' (a:vu C (B+1) w' ce cU)=>T.o.set Z.o ab.o a);rw[bx] at ac a0 am al b1;generalize cM:Ls[j]'ab.o=A at bz ba bx ac a0 am al b1;clear cM;obtain⟨ai,bv⟩:=pL A.length;have cx:=K bv;rw[bv] at ba bx ac a0 am al b1;have cB:=K bz;have cr:=K bV;have bf:=K bs;have be:=K bW;have an:=K (χ ao.o);rw[bs] at a0;have cT:(j:U)<(t:U):=(by omega);have cS:(0:U)<=(j:U):=(by omega);have d7:ai<=k:=ba;clear bz ba bU bV bs bW bZ bl aY aw R bc aa b0 bj bJ ap bk aZ bG bH bv ar
    go_wp2_with fail
    refine AQ 9 8 [[],[],[],[],[2,3],[4],[],[6],[5,7]] [G 38,G 39,G 40,G 41,G 42,G 43,G 44,G 45,G 46] (by kernel_rfl) (by kernel_rfl) (by kernel_rfl)
     (λw w'=>w.grownBy w' (Ξ va ai aU).ownBlock/\(vu C (B+1) w (M va ai aU) A->vu C (B+1) w' (M va ai aU) A)) (λw w' aF=>⟨yt aF,λf=>aC f aF⟩) (λu v w a b=>⟨yu a.1 b.1,λf=>b.2 (a.2 f)⟩)
     [eqv (M (G ⟨b,0,N⟩) t a2),eqv (Y X j),eqv (M (G ⟨b,0,N⟩) t a2),eqv (Y X j),eqv (ptr b j),eqv (M va ai aU),eqv (.agg #[D,c1,c2,L,P]),
      λ_ v w=>∃q,v=M (G ⟨q,0,N⟩) 1 1/\w.heap[q]?=G (ζ #[D,c1,c2,L,P] (53:I))/\wc.heap.size<=q,
      λ_ v w=>vu C (B+1) w v (A++[x])/\(v.ownBlock=(Ξ va ai aU).ownBlock\/∃q,v.ownBlock=G q/\wc.heap.size<=q)] ?cV ?step ?fin
    case cV=>
     refine⟨?_,?_,?_,?_,?_,?_,?_,?_,?_,trivial⟩
     all_goals intro d u w w' aF f
     all_goals first|exact f|skip
     case refine_8=>obtain⟨q,e,h,F⟩:=f;exact⟨q,e,(aF.2.1.block q (χ h) (λE=>by have b4:=am.o q E.symm;have bn:=an.o;omega)).trans h,F⟩
     case refine_9=>exact⟨aC f.1 aF,f.2⟩
    case step=>
     refine⟨?_,?_,?_,?_,?_,?_,?_,?_,?_,trivial⟩
     all_goals
      intro bA w o aQ;simp only[oI,oF,fr,qD,Fv,Fa,eqv,ptr,List.map,nU] at aQ|-;have cY:=(mI (o.1.block b be.o (λe=>a0.o b e.symm rfl))).trans al.o;obtain⟨ch,ci,cj,ck,cl⟩:=qv (pH _ _) ((o.1.block a3 an.o (λe=>h_ _ (am.o a3 e.symm))).trans ao.o)
     case refine_8=>unfold gives;go_simp;obtain⟨_,aT⟩:=Array.getElem?_eq_some_iff.1 (pG w (ζ #[D,c1,c2,L,P] (53:I)));exact⟨⟨aT,o.1.size⟩,pM _ _⟩
     case refine_9=>
      obtain⟨d1,q,d2,aT,d8⟩:=aQ;refine Ho w (.tmp 43) (.tmp 45) rfl Wn cx.o (by go_simp) (o.2 ac.o) q x [D,c1,c2,L,P] aT (by go_simp) (λ_ _ _ _ f=>f) (λu=>cs.o.symm) rfl bI.o (by have:=o.1.size;have:=an.o;have:=a4.o;omega) (by omega) (by decide) ?_;intro ce w' h F b4 bn;refine⟨⟨h,?_⟩,?_⟩
      ·rcases b4 with e|⟨q,a,b⟩
       ·exact .inl e
       ·exact .inr ⟨q,a,pF o.1.size b⟩
      ·rw[oD trivial]
       exact⟨F,λ_=>bn⟩
     all_goals(unfold gives;go_simp;exact pH _ _)
    case fin=>
     intro bA w o aQ;simp only[show List.range 9=[0,1,2,3,4,5,6,7,8] from rfl,oI,oF,fr,qD,Fv,Fa,eqv,ptr,List.map,nU,nS,nO] at aQ|-;have cY:=(mI (o.1.block b be.o (λe=>a0.o b e.symm rfl))).trans al.o
     have d3:w.frozen? ⟨b,j,N⟩=az:=by have:=cr.o;unfold World.frozen? at this|-;simp only at this|-;rw[o.1.block b be.o (λe=>a0.o b e.symm rfl)];exact this
     obtain⟨bO,h,-,-,-,-,-,-,aD,b5⟩:=aQ;generalize bA 8=da at aD b5|-;obtain⟨aA,aB,rfl⟩:=ο aD;have cG:(A++[x]).length=A.length+1:=(by simp);rw[cG] at aD b5|-;rw[bO,h];have b3:=b1.o _ _ _ aD o.1 b5;have cH:=(qJ a1.o bf.o).1;have bK:=K (wG.keep a1.o (w':=w) λq e=>o.1.block q (qJ a1.o e).2 λE=>a0.o q E.symm (bf.o.symm.trans e));have cA:=K (wG.set bK.o Z.o (M aA (A.length+1) aB) rfl);have cu:=K (Gs.keep b3 (w':=w.setCell ⟨b,j,N⟩ (M aA (A.length+1) aB)) λi f q e=>pz _ _ _ _ (λE=>by subst E;exact Dh (b3.row i f (by rw[<-b3.len];exact f)) bK.o (show(53:I)≠(49:I) by decide) e bf.o));have cw:=K (au.o.2.of_block (w':=w.setCell ⟨b,j,N⟩ (M aA (A.length+1) aB)) ((pz _ _ _ _ (by simp only;omega)).trans (o.1.block B au.o.2.lt (λe=>by have:=(qJ ac.o e.symm).1;omega))));have cn:=K ((qI o.1 bd.o (λq e=>by have:=(qJ ac.o e).1;omega) (by have:=an.o;have:=a4.o;omega)).setCell (p:=⟨b,j,N⟩) (by simp only;omega) (M aA (A.length+1) aB));have cD:=K (show B+1<=(w.setCell ⟨b,j,N⟩ (M aA (A.length+1) aB)).heap.size by have h:=o.1.size;have F:=an.o;have b4:=a4.o;simp[World.setCell];omega);clear aD b5 b3 o bO h cH;go_simp
     go_wp2_with fail
     go_roundw
     case rel=>exact⟨k+1,n,_,by omega,by go_num,by rw[b2.o];exact K ⟨au.o.1,cw.o⟩,cA,by rw[b2.o,cB.o];exact cu,cn,cD⟩
     case measure=>simp[intOf];omega
  ·have d4:decide ((k:U)<(m:U))=az:=o9 (by omega)
   have ca:s.take k=s:=oP (by rw[bi.o];omega);rw[ca] at a5;have bg:=K a5.o;have cy:=K a8.o;have co:=K aP.o;clear aR a5 a8 aP b9 ca
   go_wp2_with fail
   go_ret;exact⟨⟨_,gs,rfl,De.yP (C:=λx=>[x]) (λ_ _ _ f=>f) cy.o,bg.o.len,λj h F=>⟨De.yP (C:=C) (λ_ _ _ f=>f) (bg.o.row j h F),LV (bg.o.row j h F)⟩⟩,by rw[bC.o];exact co.o⟩
end Tw
namespace Np4
open RowKit Rw Vf Mw Me Gr Rg Ke Np
def GEl(w:O)(x:J)(c:H J):Prop:=c=[x]
def CEl{α:Type}(C:α->H J)(w:O)(x:α)(c:H J):Prop:=c=C x
abbrev wG(S:I)(w:O)(v:J)(l:H J):Prop:=Row GEl 1 22 S w v l
abbrev vu{α:Type}(C:α->H J)(S:I)(w:O)(v:J)(l:H α):Prop:=Row (CEl C) 6 51 S w v l
def tiG:TI 253 22 1 24:=Dx Tryz.underlying253 (by kernel_rfl) (by decide)
section
variable {α:Type}{C:α->H J}{S:I}{w w':O}{v:J}{l:H α}{gs:H J}{Ls:H (H α)}
def vu.keep(a:vu C S w v l)(e:∀q,v.ownBlock=G q->w'.heap[q]?=w.heap[q]?):vu C S w' v l:=by obtain⟨L,b,c,d⟩:=a;exact⟨L,b,qj c e,λu _=>d w λ_ _ _ _=>rfl⟩
def wG.keep{l:H J}(a:wG S w v l)(e:∀q,v.ownBlock=G q->w'.heap[q]?=w.heap[q]?):wG S w' v l:=by obtain⟨L,b,c,d⟩:=a;exact⟨L,b,qj c e,λu _=>d w λ_ _ _ _=>rfl⟩
def LV{α:Type}{El:O->α->H J->Prop}{sz:I}{t:aH}{l:H α}(b:Row El sz t S w v l):∃a c,v=M a l.length c/\l.length<=c:=by
 obtain⟨L,i,e,j⟩:=b;rcases e.2 with⟨rfl,d⟩|⟨g,cap,h,rfl,_,_,f,_⟩
 ·exact⟨N,0,by rw[d],by omega⟩
 ·exact⟨_,cap,rfl,f⟩
def qJ{α:Type}{El:O->α->H J->Prop}{sz:I}{t:aH}{l:H α}(a:Row El sz t S w v l){q:I}(e:v.ownBlock=G q):S<=q/\q<w.heap.size:=by obtain⟨L,c,b,d⟩:=a;exact qq b e
def Dh{α d:Type}{e:O->α->H J->Prop}{f:O->d->H J->Prop}{r s S T:I}{t1 t2:aH}{w:O}{b c:J}{n:H α}{l2:H d}(i:Row e r t1 S w b n)(j:Row f s t2 T w c l2)(k:t1≠t2){q:I}(g:b.ownBlock=G q):c.ownBlock≠G q:=λh=>by
 obtain⟨_,_,o,_⟩:=i;obtain⟨_,_,p,_⟩:=j;obtain⟨c1,m⟩:=qH o g;obtain⟨c2,a⟩:=qH p h;rw[m] at a;injection a with a
 injection a with k3 k4 k5
 exact k k4
def g_at{l:H J}{a:aN Addr}{n c:I}(i:wG S w (M a n c) l){j:I}(h:j<l.length):∃b,a=G ⟨b,0,N⟩/\w.cell? ⟨b,j,N⟩=G l[j]/\w.frozen? ⟨b,j,N⟩=az/\(Ξ a n c).ownBlock=G b/\b<w.heap.size:=by
 obtain⟨L,k,m,o⟩:=i;have f:=o w λ_ _ _ _=>rfl
 have d:L.flatten[j]?=G l[j]:=by have:=r8 k.1 j (by rw[f.1];exact h) 0 (by omega);rw[f.2 j h (by rw[f.1];exact h)] at this;simpa using this
 rcases m.2 with⟨-,r⟩|⟨b,cap,q,e,s,g,x,t,u,p⟩
 ·omega
 ·cases e
  refine⟨b,rfl,?_,aI g _,rfl,χ g⟩;unfold World.cell?;rw[<-p,mG] at d
  split at d
  ·simpa [g] using d
  ·cases d
def wG.set{l:H J}{b n c:I}(p:wG S w (M (G ⟨b,0,N⟩) n c) l){j:I}(E:j<l.length)(d:J)(A:d.oneCell'=ay):wG S (w.setCell ⟨b,j,N⟩ d) (M (G ⟨b,0,N⟩) n c) (l.set j d):=by
 obtain⟨L,q,g,s⟩:=p;have k:=s w λ_ _ _ _=>rfl
 have m:L=l.map λx=>[x]:=lH (by rw[k.1,oS]) λi a b=>by rw[oG];exact k.2 i (by simpa using b) a
 have f:∀l:H J,(l.map λx=>[x]).flatten=l:=λl=>by induction l with
  |nil=>rfl
  |cons x r ih=>simpa using ih
 have z:n=l.length:=by
  rcases g.2 with⟨e,D⟩|⟨b,cap,B,e,_⟩
  ·cases e
  ·cases e;rfl
 subst z;have h:=GP g d (j:=j);rw[m,f] at h;refine⟨(l.set j d).map λx=>[x],⟨λc y=>by obtain⟨F,-,rfl⟩:=List.mem_map.1 y;rfl,λu o=>?_⟩,by rw[lD,f];exact h,λu _=>⟨by simp,λi a b=>by rw[oG];rfl⟩⟩;rw[f] at o;rcases iw o with t|rfl
 ·exact q.2 u (by rw[m,f];exact t)
 ·exact A
structure Gs{α:Type}(C:α->H J)(S:I)(w:O)(gs:H J)(Ls:H (H α)):Prop where
 len:gs.length=Ls.length
 row:∀j(h1:j<gs.length)(h2:j<Ls.length),vu C S w gs[j] Ls[j]
 ap:∀i j(h1:i<gs.length)(h2:j<gs.length),i≠j->∀q,gs[i].ownBlock=G q->gs[j].ownBlock≠G q
def Gs.keep(c:Gs C S w gs Ls)(d:∀j(e:j<gs.length) q,gs[j].ownBlock=G q->w'.heap[q]?=w.heap[q]?):Gs C S w' gs Ls:=
 ⟨c.len,λj a b=>(c.row j a b).keep (d j a),c.ap⟩
def Gs.below(b:Gs C S w gs Ls)(c:ah w.heap.size w w'):Gs C S w' gs Ls:=
 b.keep λj a q e=>c.block q (qJ (b.row j a (by rw[<-b.len];exact a)) e).2
def Gs.nil:Gs C S w [] []:=⟨rfl,λj a=>aL a (by simp),λi j a=>aL a (by simp)⟩
def Gs.snoc(b:Gs C S w gs Ls):Gs C S w (gs++[M N 0 0]) (Ls++[[]]):=by
 refine⟨by simp[b.len],λj f g=>?_,λi j f g h q e=>?_⟩
 ·by_cases a:j<gs.length
  ·rw[n_ a,n_ (by rw[<-b.len];exact a)]
   exact b.row j a _
  ·rw[nJ (by omega),nJ (by rw[<-b.len];omega)]
   simp only[mK];exact aJ
 ·by_cases c:i<gs.length
  ·rw[n_ c] at e
   by_cases a:j<gs.length
   ·rw[n_ a]
    exact b.ap i j c a h q e
   ·rw[nJ (by omega)]
    simp only[mK];intro d;cases d
  ·rw[nJ (by omega)] at e
   simp only[mK] at e;cases e
def Gs.set(f:Gs C S w gs Ls){i:I}(n:i<gs.length)(z:i<Ls.length){k:J}{p:H α}(y:vu C S w' k p)(u:w.grownBy w' gs[i].ownBlock)(x:k.ownBlock=gs[i].ownBlock\/∃q,k.ownBlock=G q/\w.heap.size<=q):Gs C S w' (gs.set i k) (Ls.set i p):=by
 have r:∀j(c:j<gs.length) q,gs[j].ownBlock=G q->q<w.heap.size:=λj c q e=>(qJ (f.row j c (by rw[<-f.len];exact c)) e).2
 have key:∀j(c:j<gs.length),i≠j->∀q,gs[j].ownBlock=G q->k.ownBlock≠G q:=λj c g q e=>by
  rcases x with d|⟨B,d,A⟩
  ·rw[d];exact f.ap j i c n (jY g) q e
  ·rw[d];intro s;have:=r j c q e;cases s;omega
 refine⟨by simp[f.len],λj c h=>?_,λa b c h t q e=>?_⟩
 ·rw[lD] at c h
  rw[kI,kI]
  by_cases g:i=j
  ·rw[oD g,oD g];exact y
  ·rw[oU g,oU g]
   exact(f.row j c h).keep λq e=>u.block q (r j c q e) λd=>f.ap j i c n (jY g) q e d.symm
 ·rw[lD] at c h
  rw[kI] at e|-
  by_cases m:i=a
  ·rw[oD m] at e
   rw[oU (by omega)];intro d;exact key b h (by omega) q d e
  ·rw[oU m] at e
   by_cases o:i=b
   ·rw[oD o];exact key a c m q e
   ·rw[oU o];exact f.ap a b c h t q e
end
def Aj{u v W:O}{b:I}(a:ah b W u)(k:u.grownBy v (G b))(d:b<u.heap.size):ah b W v:=
 ⟨k.os.trans a.os,k.tape.trans a.tape,k.output.trans a.output,pF a.size k.size,λi c=>(k.block i (by omega) (λe=>by cases e;omega)).trans (a.block i c)⟩
def QW{α:Type}{key:α->Γ}{a:H α}{i:I}{x:α}(e:i<(rL key a).length)(d:(V key a)[i]?=G (key x)):rL key (a++[x])=(rL key a).set i ((rL key a)[i]++[x]):=by obtain⟨b,c⟩:=List.getElem?_eq_some_iff.1 d;exact Tc b c e
def DV{α:Type}(C:α->H J)(key:α->Γ)(s:H α)(v:J)(W:O)(f:Rw W v 6 (s.map C))(o:∀x∈s,(∃D c1 c2 L P Q,C x=[D,c1,c2,L,P,Q])/\(∀u∈C x,u.oneCell'=ay)/\(key x).size<=140737488355327)(cM:s.length<=1000000)
 (hid:∀x∈s,∀w,Calls Θ 184 #[.agg (C x).toArray] w λe w'=>e=η (γ (key x))/\ah w.heap.size w w'):
 Calls Θ 183 #[v,.func (.func 184) #[] #[]] W λe w'=>(∃(cg:J)(gs:H J),e=η cg/\Rw w' cg 1 (gs.map λx=>[x])/\gs.length=(rL key s).length/\∀j(h:j<gs.length)(F:j<(rL key s).length),Rw w' gs[j] 6 ((rL key s)[j].map C)/\∃a c,gs[j]= .slice a (rL key s)[j].length c/\(rL key s)[j].length<=c)/\ah W.heap.size W w':=by
 obtain⟨g,ce,d2,cap,rfl,bq,bT⟩:=Mw.qY f (oS _);obtain⟨m,bx⟩:=pL s.length;rw[bx] at bq cM|-;have bj:=K bx;have co:=K bq;have cs:=K bT;have cr:=K o;have cx:=K hid;have af:=pM W (.map #[] 0);have bc:=K af;have aY:=K (Kg.new W);clear f bx bq bT o hid af;have cQ:=@run_makeMap Θ
 go_enter Tryz.func183,Tryz.ntmps183
 go_wp2_with fail
 clear cQ;generalize bQ:W.heap.size=B at bc aY|-;have bD:=K bQ;clear bQ;generalize W.alloc _=d1 at bc aY|-
 go_loopw [6,14] (λr x wr=>∃(k n:I)(gs:H J),k<=m/\x=Y X k/\Hid (n<=k/\Kg wr B n (V key (s.take k)))/\Hid (wG (B+1) wr r gs)/\Hid (Gs C (B+1) wr gs (rL key (s.take k)))/\Hid (ah B W wr)/\Hid (B+1<=wr.heap.size)) (λ_ x _=>m-(intOf x).toNat)
 case atStart=>exact⟨0,0,[],oM _,rfl,K ⟨oZ _,aY.o⟩,K aJ,K Gs.nil,bc,K (oQ aY.o.lt (oZ _))⟩
 case round=>
  obtain⟨k,n,gs,d7,rfl,aS,a9,a6,aQ,ba⟩:=hrel;obtain⟨al,a3,cS⟩:=ο a9.o;subst cS;obtain⟨t,bs⟩:=pL gs.length;have ar:=K bs;rw[bs] at a9|-;clear bs
  by_cases cP:k<m
  ·obtain rfl:=co.o (by omega)
   have b8:k<s.length:=(by rw[bj.o];exact cP);have bS:ah W.heap.size W wr:=(by rw[bD.o];exact aQ.o);have aA:=K (cs.o k (by rw[oS];exact b8));rw[oG] at aA;have au:=K (cx.o _ (pq b8));obtain⟨⟨D,c1,c2,L,P,Q,b7⟩,b9,bv⟩:=cr.o _ (pq b8);have b3:=K (Mg.qi b8);generalize s[k]=x at aA au b7 b9 bv b3;rw[b7] at aA au b9;have bJ:=K b9;have cu:=K b7;have bi:=K bv
   have aa:∀j(a7:j<6) z,[D,c1,c2,L,P,Q][j]?=G z->wr.cell? ⟨g,ce+k*6+j,N⟩=G z:=λj a7 z cd=>by
    obtain⟨bB,h,F⟩:=aA.o j a7;rw[h] at cd;rw[<-cd];exact pI F bS
   have cZ:wr.cell? ⟨g,ce+k*6,N⟩=G D:=aa 0 (by omega) _ rfl;have y1:=aa 1 (by omega) _ rfl;have y2:=aa 2 (by omega) _ rfl;have y3:=aa 3 (by omega) _ rfl;have y4:=aa 4 (by omega) _ rfl;have y5:=aa 5 (by omega) _ rfl;have cV:(k:U)<(m:U):=(by omega);have cU:(0:U)<=(k:U):=(by omega);clear b7 b9 bv aa aA;have bN:=K (pG wr (ζ #[M N 0 0,γ ⟨#[]⟩,γ ⟨#[]⟩,γ ⟨#[]⟩,Y X 0,M N 0 0] (51:I)))
   go_wp2_with(refine oN rfl 51 _ _ rfl _ _ rfl rfl 51 _ bN.o (by kernel_rfl) rfl (by have:=bJ.o;simpa using this) ?_;rw[su])
   have af:=pM wr (ζ #[D,c1,c2,L,P,Q] (51:I));have bU:=pG wr (ζ #[D,c1,c2,L,P,Q] (51:I));refine(au.o _).mono ?_;rintro e ch⟨rfl,br⟩;have R:=af.trans (br.mono af.size);have ac:=K (pW br bU);have bd:=K (aQ.o.trans (R.mono (by have:=ba.o;omega)));have aT:=aS.o.2.of_block (R.block B aS.o.2.lt);have ax:=K (a9.o.below R);have T:=K (a6.o.below R);have b1:=K aS.o.1;have a5:=K ba.o;have bn:=K (χ ac.o);have b0:=K (λj (f:j<gs.length) q (e:gs[j].ownBlock=G q)=>(qJ (a6.o.row j f (by rw[<-a6.o.len];exact f)) e).2);have bl:=K (λq (e:(Ξ al t a3).ownBlock=G q)=>(qJ a9.o e).2);have bM:=K (show(s.take k).length=k from List.length_take.trans (nM (by have:=bj.o;omega)));clear br R af bU bN aS a9 a6 aQ ba cZ y1 y2 y3 y4 bS;generalize wr.heap.size=a4 at ac a5 bn b0 bl|-;generalize s.take k=y at aT T b3 bM;have d8:k<=1000000:=(by omega)
   have cK:∃(z:U)(b:Bool),(av 296 (.map (G B)) (γ (key x)) ay).run Θ ch= .ok (.tuple #[Y X z,.bool b]) ch/\((b=ay/\∃i:I,z=i/\(V key y)[i]?=G (key x))\/(b=az/\¬key x∈V key y)):=by
    by_cases a8:key x∈V key y
    ·obtain⟨i,ai,bu⟩:=mj a8
     have h:=aT.some i ai (by rw[bu];exact bi.o);rw[bu] at h;exact⟨i,ay,h,.inl ⟨rfl,i,rfl,by rw[oW ai,bu]⟩⟩
    ·obtain⟨z,h⟩:=aT.none (key x) bi.o a8
     exact⟨z,az,h,.inr ⟨rfl,a8⟩⟩
   obtain⟨z,b,ca,cc⟩:=cK;have aZ:=K aT;have bm:=K cc;clear aT cc
   go_upto_if 27 with fail
   have cT:y.length=k:=bM.o;have aq:=K (show t=(V key y).length by rw[<-ar.o,T.o.len,s7]);have bk:=K (Mg.wX (key:=key) y);have bK:=K (λj (f:j<(rL key y).length)=>show((rL key y)[j]).length<=k by rw[<-cT];simp only[rL,oG];exact ng _ _)
   go_cut [6,9,14] from 14 to 48 (λr i q aX=>q=Y X k/\∃(j t a3:I)(al:aN Addr)(gs:H J)(Ls:H (H α))(n:I),i=Y X j/\r=M al t a3/\j<t/\Hid (n<=k+1/\Kg aX B n (V key (y++[x])))/\Hid (wG (B+1) aX (M al t a3) gs)/\Hid (gs.length=t)/\Hid (Gs C (B+1) aX gs Ls)/\Hid (∀f:j<Ls.length,rL key (y++[x])=Ls.set j (Ls[j]++[x])/\Ls[j].length<=k)/\Hid (aX.heap[a4]?=G (ζ #[D,c1,c2,L,P,Q] (51:I)))/\Hid (ah B W aX)/\Hid (∀j(f:j<gs.length) q,gs[j].ownBlock=G q->q<a4))
   case first=>
    rcases bm.o with⟨rfl,i,rfl,ai⟩|⟨rfl,a8⟩
    ·have cL:=(List.getElem?_eq_some_iff.1 ai).1
     go_wp2_with fail
     go_meet
     refine⟨rfl,i,t,a3,al,gs,rL key y,n,rfl,rfl,by rw[aq.o];exact cL,K ⟨by have:=b1.o;omega,?_⟩,ax,ar,T,K λf=>⟨QW f ai,bK.o i f⟩,ac,bd,b0⟩;rw[aG,aO (lX ai)];exact aZ.o
    ·clear ca bm
     obtain⟨ci,cj,ck,cl,cm,cn⟩:=pN (pH _ _) ac.o
     go_wp2_with fail
     refine(au.o _).mono ?_;rintro e dd⟨rfl,R⟩;have ab:=K R;have bE:=K (pW R ac.o);have bF:=K (aZ.o.of_block (R.block B aZ.o.lt));obtain⟨aW,cR,bY,ag⟩:=bF.o.put (key x) bi.o (by have:=b1.o;unfold maxLen;omega) (by have:=bk.o;omega) a8;rw[<-aq.o] at cR;clear R ci cj ck cl cm cn;have ap:=K ((ag.block a4 (χ bE.o) (by intro e;cases e;have:=a5.o;omega)).trans bE.o);have a2:=K (wG.keep (ax.o.below ab.o) (w':=aW) λq e=>ag.block q (qJ (ax.o.below ab.o) e).2 (by intro E;cases E;have:=(qJ ax.o e).1;omega));have Z:=K (Gs.keep (T.o.below ab.o) (w':=aW) λj f q e=>ag.block q (qJ ((T.o.below ab.o).row j f (by rw[<-T.o.len];exact f)) e).2 (by intro E;cases E;have:=(qJ (T.o.row j f (by rw[<-T.o.len];exact f)) e).1;omega));have be:=K (Aj (bd.o.trans (ab.o.mono (mN (oQ a5.o (mN bn.o))))) ag bF.o.lt);have aw:=K bY;have cE:=K (show B+1<=aW.heap.size by have h:=ag.size;have F:=ab.o.size;have b5:=bn.o;have bo:=a5.o;omega);clear ag bY
     go_wp2_with(refine qu (n:=t) aW rfl (.tmp 35) (.tmp 36) rfl tiG ar.o rfl a2.o (M N 0 0) [M N 0 0] rfl (λu _=>rfl) rfl (by simp[aK]) cE.o (by have:=bk.o;have:=aq.o;omega) (by decide) ?_)
     intro db cY bp bR bZ;obtain⟨cG,cH,bO⟩:=ο bp;rw[o_,ar.o,lR] at bO;subst bO;have cB:=K bp;have bC:=K bR;have bG:=K bZ;clear bp bR bZ
     go_wp2_with fail
     go_meet
     have cN:∀j(f:j<gs.length) q,gs[j].ownBlock=G q->cY.heap[q]?=aW.heap[q]?:=λj f q e=>by
      have h:=Z.o.row j f (by rw[<-Z.o.len];exact f);exact bG.o q (qJ h e).2 λE=>Dh h a2.o (by decide) e E.symm
     refine⟨rfl,t,t+1,cH,cG,gs++[M N 0 0],rL key y++[[]],n+1,rfl,rfl,lW _,K ⟨by have:=b1.o;omega,?_⟩,cB,K (by rw[o_,ar.o];rfl),K ((Z.o.keep cN).snoc),K λf=>?_,K ?_,K ?_,K λj f q e=>?_⟩
     ·rw[aG,Mg.DI a8]
      exact aw.o.of_block (bC.o.block B (lW _))
     ·have aU:(rL key y).length=t:=by rw[s7,<-aq.o]
      rw[Ta a8];subst aU;exact⟨by simp,by simp⟩
     ·exact(bG.o a4 (χ ap.o) (λe=>by have:=bl.o a4 e.symm;omega)).trans ap.o
     ·exact be.o.trans (bC.o.mono (nu _))
     ·by_cases a7:j<gs.length
      ·rw[n_ a7] at e
       exact b0.o j a7 q e
      ·rw[nJ (by omega)] at e
       simp only[mK] at e;cases e
   case rest=>
    obtain⟨rfl,j,t,a3,al,gs,Ls,n,rfl,rfl,a7,aw,a2,cv,Z,bI,ap,be,bH⟩:=hcut;have a0:=K (show j<gs.length by rw[cv.o];exact a7);have ad:=K (show j<Ls.length by rw[<-Z.o.len];exact a0.o);obtain⟨bA,bb⟩:=bI.o ad.o;obtain⟨b,rfl,bV,bW,bt,bX⟩:=g_at a2.o a0.o;obtain⟨va,aV,bz⟩:=ο (Z.o.row j a0.o ad.o);have ae:=K (Z.o.row j a0.o ad.o);have a1:=K (λq (e:(gs[j]'a0.o).ownBlock=G q)=>Dh (Z.o.row j a0.o ad.o) a2.o (by decide) e);have an:=K (bH.o j a0.o);have am:=K bV;have b2:=K (λcf cW w' (a:vu C (B+1) w' cf cW)=>Z.o.set a0.o ad.o a);rw[bz] at ae a1 an am b2;generalize cO:Ls[j]'ad.o=A at bA bb bz ae a1 an am b2;clear cO;obtain⟨ak,bw⟩:=pL A.length;have cz:=K bw;rw[bw] at bb bz ae a1 an am b2;have cD:=K bA;have ct:=K bW;have bg:=K bt;have bf:=K bX;have ao:=K (χ ap.o);rw[bt] at a1;have cV:(j:U)<(t:U):=(by omega);have cU:(0:U)<=(j:U):=(by omega);have d9:ak<=k:=bb;clear bA bb bV bW bt bX ca bm aZ ax T bd ac b1 bk bK aq bl b0 bH bI bw au
    go_wp2_with fail
    refine AQ 9 8 [[],[],[],[],[2,3],[4],[],[6],[5,7]] [G 38,G 39,G 40,G 41,G 42,G 43,G 44,G 45,G 46] (by kernel_rfl) (by kernel_rfl) (by kernel_rfl)
     (λw w'=>w.grownBy w' (Ξ va ak aV).ownBlock/\(vu C (B+1) w (M va ak aV) A->vu C (B+1) w' (M va ak aV) A)) (λw w' aP=>⟨yt aP,λf=>aC f aP⟩) (λu v w a b=>⟨yu a.1 b.1,λf=>b.2 (a.2 f)⟩)
     [eqv (M (G ⟨b,0,N⟩) t a3),eqv (Y X j),eqv (M (G ⟨b,0,N⟩) t a3),eqv (Y X j),eqv (ptr b j),eqv (M va ak aV),eqv (.agg #[D,c1,c2,L,P,Q]),
      λ_ v w=>∃q,v=M (G ⟨q,0,N⟩) 1 1/\w.heap[q]?=G (ζ #[D,c1,c2,L,P,Q] (51:I))/\wc.heap.size<=q,
      λ_ v w=>vu C (B+1) w v (A++[x])/\(v.ownBlock=(Ξ va ak aV).ownBlock\/∃q,v.ownBlock=G q/\wc.heap.size<=q)] ?cX ?step ?fin
    case cX=>
     refine⟨?_,?_,?_,?_,?_,?_,?_,?_,?_,trivial⟩
     all_goals intro d u w w' aP f
     all_goals first|exact f|skip
     case refine_8=>obtain⟨q,e,h,F⟩:=f;exact⟨q,e,(aP.2.1.block q (χ h) (λE=>by have b5:=an.o q E.symm;have bo:=ao.o;omega)).trans h,F⟩
     case refine_9=>exact⟨aC f.1 aP,f.2⟩
    case step=>
     refine⟨?_,?_,?_,?_,?_,?_,?_,?_,?_,trivial⟩
     all_goals
      intro bB w o aR;simp only[oI,oF,fr,qD,Fv,Fa,eqv,ptr,List.map,nU] at aR|-;have d0:=(mI (o.1.block b bf.o (λe=>a1.o b e.symm rfl))).trans am.o;obtain⟨ci,cj,ck,cl,cm,cn⟩:=pN (pH _ _) ((o.1.block a4 ao.o (λe=>h_ _ (an.o a4 e.symm))).trans ap.o)
     case refine_8=>unfold gives;go_simp;obtain⟨_,aU⟩:=Array.getElem?_eq_some_iff.1 (pG w (ζ #[D,c1,c2,L,P,Q] (51:I)));exact⟨⟨aU,o.1.size⟩,pM _ _⟩
     case refine_9=>
      obtain⟨d3,q,d4,aU,da⟩:=aR;refine Ho w (.tmp 43) (.tmp 45) rfl Rb cz.o (by go_simp) (o.2 ae.o) q x [D,c1,c2,L,P,Q] aU (by go_simp) (λ_ _ _ _ f=>f) (λu=>cu.o.symm) rfl bJ.o (by have:=o.1.size;have:=ao.o;have:=a5.o;omega) (by omega) (by decide) ?_;intro cf w' h F b5 bo;refine⟨⟨h,?_⟩,?_⟩
      ·rcases b5 with e|⟨q,a,b⟩
       ·exact .inl e
       ·exact .inr ⟨q,a,pF o.1.size b⟩
      ·rw[oD trivial]
       exact⟨F,λ_=>bo⟩
     all_goals(unfold gives;go_simp;exact pH _ _)
    case fin=>
     intro bB w o aR;simp only[show List.range 9=[0,1,2,3,4,5,6,7,8] from rfl,oI,oF,fr,qD,Fv,Fa,eqv,ptr,List.map,nU,nS,nO] at aR|-;have d0:=(mI (o.1.block b bf.o (λe=>a1.o b e.symm rfl))).trans am.o
     have d5:w.frozen? ⟨b,j,N⟩=az:=by have:=ct.o;unfold World.frozen? at this|-;simp only at this|-;rw[o.1.block b bf.o (λe=>a1.o b e.symm rfl)];exact this
     obtain⟨bP,h,-,-,-,-,-,-,aF,b6⟩:=aR;generalize bB 8=dc at aF b6|-;obtain⟨aB,aD,rfl⟩:=ο aF;have cI:(A++[x]).length=A.length+1:=(by simp);rw[cI] at aF b6|-;rw[bP,h];have b4:=b2.o _ _ _ aF o.1 b6;have cJ:=(qJ a2.o bg.o).1;have bL:=K (wG.keep a2.o (w':=w) λq e=>o.1.block q (qJ a2.o e).2 λE=>a1.o q E.symm (bg.o.symm.trans e));have cC:=K (wG.set bL.o a0.o (M aB (A.length+1) aD) rfl);have cw:=K (Gs.keep b4 (w':=w.setCell ⟨b,j,N⟩ (M aB (A.length+1) aD)) λi f q e=>pz _ _ _ _ (λE=>by subst E;exact Dh (b4.row i f (by rw[<-b4.len];exact f)) bL.o (show(51:I)≠(22:I) by decide) e bg.o));have cy:=K (aw.o.2.of_block (w':=w.setCell ⟨b,j,N⟩ (M aB (A.length+1) aD)) ((pz _ _ _ _ (by simp only;omega)).trans (o.1.block B aw.o.2.lt (λe=>by have:=(qJ ae.o e.symm).1;omega))));have cp:=K ((qI o.1 be.o (λq e=>by have:=(qJ ae.o e).1;omega) (by have:=ao.o;have:=a5.o;omega)).setCell (p:=⟨b,j,N⟩) (by simp only;omega) (M aB (A.length+1) aD));have cF:=K (show B+1<=(w.setCell ⟨b,j,N⟩ (M aB (A.length+1) aD)).heap.size by have h:=o.1.size;have F:=ao.o;have b5:=a5.o;simp[World.setCell];omega);clear aF b6 b4 o bP h cJ;go_simp
     go_wp2_with fail
     go_roundw
     case rel=>exact⟨k+1,n,_,by omega,by go_num,by rw[b3.o];exact K ⟨aw.o.1,cy.o⟩,cC,by rw[b3.o,cD.o];exact cw,cp,cF⟩
     case measure=>simp[intOf];omega
  ·have d6:decide ((k:U)<(m:U))=az:=o9 (by omega)
   have cb:s.take k=s:=oP (by rw[bj.o];omega);rw[cb] at a6;have bh:=K a6.o;have cA:=K a9.o;have cq:=K aQ.o;clear aS a6 a9 aQ ba cb
   go_wp2_with fail
   go_ret;exact⟨⟨_,gs,rfl,De.yP (C:=λx=>[x]) (λ_ _ _ f=>f) cA.o,bh.o.len,λj h F=>⟨De.yP (C:=C) (λ_ _ _ f=>f) (bh.o.row j h F),LV (bh.o.row j h F)⟩⟩,by rw[bD.o];exact cq.o⟩
end Np4
end Go.Proofs.YthbhmjdcfocphaaGreatDoor
