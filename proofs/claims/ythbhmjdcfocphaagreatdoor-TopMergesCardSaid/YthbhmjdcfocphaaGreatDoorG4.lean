/- A part of this proof. -/
import Derived.Test.YthbhmjdcfocphaaGreatDoorKE
set_option linter.all false
set_option maxHeartbeats 16000000
set_option maxRecDepth 100000
namespace Go.Proofs.YthbhmjdcfocphaaGreatDoor
open Go.Value renaming string→H, slice→I, pointer→ε, int→K
open Go.Obj renaming cells→U
open Go.Ending renaming returned→η
open Go.IntKind renaming i64→G
open Go.Lib renaming hid→N
open Option renaming none→J, some→V
open Bool renaming false→O
open And renaming intro→Y
open Go.World renaming heap→Z, ownsRow→aE
open Go.Proofs.Tryz renaming underlying104→Γ, prog→ah
open Go.Value renaming ownBlock→Δ
open Go.RowKit renaming Below→Θ
open Me.Row renaming appended→Λ
open Me.Flat renaming one→Ξ
open Go renaming World→Ω, maxLen→av, Value→ay, Calls→az
open Jv renaming jE→ς, jF→ο
open _root_ renaming List→aj, ByteArray→aA, Nat→E, Option→aG, Int→aH
namespace Me
open RowKit Rw Vf Mw
def uw{w w':Ω}{row:aG E}{a:E}(b:w.grownBy w' row)(d:row≠V a)(c:a<w.heap.size)(o:E):w'.cell? ⟨a,o,J⟩=w.cell? ⟨a,o,J⟩:=
 mI (b.block a c (λe=>d e.symm))
def yX{w:Ω}{l:aj aA}{L:aj (aj ay)}(a:tG Jv w (l.map Jv.J.str) L)(u:Ω):tG Jv u (l.map Jv.J.str) L:=
 ⟨a.1,λj c b=>by
   have:=a.2 j c b;rw[oG] at this|-;unfold Jv at this|-;exact this⟩
def VI{T X n c:E}{w a u:Ω}{j:Jv.J}{cs:aj ay}(g:yL T a j cs)(d:Θ a.heap.size a w)(h:a.heap.size<=X)(i:Agree T w u (Δ (I (V ⟨X,0,J⟩) n c))):Jv u j cs:=
 g u λk f b _=>(i k f (oQ b d.size) (λe=>by cases e;exact absurd b (Nat.not_lt.2 h))).trans (d.block k b)
def VJ{w:Ω}{X:E}(a:w.heap.size=X)(l:aj aA)(t:TypeId)(cap:E):Rw (w.alloc (U (l.map Value.string).toArray t)) (I (V ⟨X,0,J⟩) l.length cap) 1 (l.map p_):=by subst a;exact sL w l t cap
def VK{w:Ω}{X:E}(b:w.heap.size=X){c:aj ay}{sz:E}{t:TypeId}(a:c.length=sz):(w.alloc (U c.toArray t)).ownsRow X t sz (I (V ⟨X,0,J⟩) 1 1) 1 c:=by subst b;exact q9 a
def F5{X q n c:E}(e:Δ (I (V ⟨X,0,J⟩) n c)=V q):X<=q:=by
 cases e;exact oZ _
def Ez{w w':Ω}{row:aG E}{e:E}(f:w.grownBy w' row)(h:row≠V e)(g:e<w.heap.size){a b c d:ay}(i:w.cell? ⟨e,0,J⟩=V a/\w.cell? ⟨e,1,J⟩=V b/\w.cell? ⟨e,2,J⟩=V c/\w.cell? ⟨e,3,J⟩=V d):
 w'.cell? ⟨e,0,J⟩=V a/\w'.cell? ⟨e,1,J⟩=V b/\w'.cell? ⟨e,2,J⟩=V c/\w'.cell? ⟨e,3,J⟩=V d:=by
 rw[uw f h g,uw f h g,uw f h g,uw f h g];exact i
def Th{S T:E}{w w' u:Ω}{v f:ay}{l:aj Jv.J}{L:aj (aj ay)}{row:aG E}(m:Flat 7 L)(z:L.length=l.length)(s:∀u,Agree S w u v.ownBlock->tG Jv u l L)(n:Θ w.heap.size w w')(d:w'.ownsRow T 107 7 f l.length L.flatten)(t:S<=w.heap.size)(x:w.heap.size<=T)(o:∀b,row=V b->w.heap.size<=b/\b<T)(p:Agree S w' u row):Jv u (.arr l) (qh 4 O 0 ⟨#[]⟩ f rG 0):=by
 have q:u.ownsRow T 107 7 f l.length L.flatten:=qj d λg h=>p g (pF t (pF x (qq d h).1)) (qq d h).2 (λe=>by have:=o g e.symm;have:=(qq d h).1;omega)
 have r:=s u (λk a b c=>(p k a (oQ b n.size) (λe=>by have:=(o k e.symm).1;omega)).trans (n.block k b));unfold Jv;exact⟨0,f,L,rfl,Rw.uT q z (λj i k y=>r8 m.1 j i k y) (λj i=>m.1 _ (pq i)),r.jl⟩
def VL{S a:E}{v:ay}{l:aj Mo.Fd}(W:Ω)(d:gM S W v (l.map ο))(f:S<=W.heap.size)(g:l.length=a)(h:a<=100000):
 az ah 56 #[v] W λe w'=>(∃b c,e=η (.agg #[K G 4,.bool O,K G 0,H ⟨#[]⟩,I b a c,I J 0 0,K G 0])/\yL S w' (.arr (l.map ο)) [K G 4,.bool O,K G 0,H ⟨#[]⟩,I b a c,I J 0 0,K G 0])/\Θ W.heap.size W w':=by
 subst g;have:=AI S v (l.map ο) W d f (by rw[oS];omega);rw[oS] at this;exact this
def Mk{S a:E}{v:ay}{l:aj aA}(W:Ω)(d:gM S W v (l.map Jv.J.str))(f:S<=W.heap.size)(g:l.length=a)(h:l.length<=100000):
 az ah 56 #[v] W λe w'=>(∃b c,e=η (.agg #[K G 4,.bool O,K G 0,H ⟨#[]⟩,I b a c,I J 0 0,K G 0])/\yL S w' (.arr (l.map Jv.J.str)) [K G 4,.bool O,K G 0,H ⟨#[]⟩,I b a c,I J 0 0,K G 0])/\Θ W.heap.size W w':=by
 subst g;have:=AI S v (l.map Jv.J.str) W d f (by rw[oS];omega);rw[oS] at this;exact this
structure Enc(a:aj Mo.Fd):Prop where
 ok:Mo.Dt a=true
 bd:IA a
 len:a.length<=100000
 pU:∀f∈a,f.pU.length<=100000
 path:∀f∈a,f.path.length<=100000
def Je(W:Ω)(v:ay)(a:aj Mo.Fd)(am:rY W v a)(d7:Lib.Utf8Tabs 2 3 W)(dn:∀u,Θ W.heap.size W u->tH u)(aM:Enc a)(du:aA)
 (cg:∀(u:Ω)(p:aG Addr)(cap:E),Θ W.heap.size W u->yL W.heap.size u (Jv.jA a) (qh 4 O 0 ⟨#[]⟩ (I p a.length cap) rG 0)->az ah 57 #[.agg #[K G 4,.bool O,K G 0,H ⟨#[]⟩,I p a.length cap,I J 0 0,K G 0]] u λe w'=>e=η (.tuple #[H du,K G 0])/\Θ u.heap.size u w'):
 az ah 26 #[.agg #[v]] W λe w'=>e=η (.tuple #[H du,K G 0])/\Θ W.heap.size W w':=by
 have bQ:=N (λu (A:Θ W.heap.size W u)=>Br u v a (am.under A) (Tx.qC d7 A) aM.bd aM.ok);obtain⟨g,ew,p,cap,rfl,cj,dh⟩:=qF am;obtain⟨m,bJ⟩:=pL a.length;rw[bJ] at cj bQ cg|-;have bv:=N bJ;have dG:=N cj;have cL:=N dh;have cJ:=N aM;have cX:=N dn;have dD:=N cg;have e6:m<=100000:=bJ▸aM.len;have bS:=N (pM W (U #[I p m cap] 24));have x0:(W.alloc (U #[I p m cap] 24)).cell? ⟨W.heap.size,0,J⟩=V (I p m cap):=by unfold World.cell?;simp only[pG];rfl
 obtain⟨b1,b2,dj,dp,dq,dr,ds⟩:=uP Ml;have F:=N (Y dj (Y dp (Y dq (Y dr ds))));clear am cj dh aM d7 dn cg bJ dj dp dq dr ds
 go_enter Tryz.func26,Tryz.ntmps26
 go_wp2_with fail
 refine(bQ.o _ bS.o).mono ?_;rintro e ex⟨rfl,ck⟩;have dH:=pR bS ck;replace x0:=pI x0 ck;clear ck bS bQ
 go_wp2_with fail
 go_loopw [5,20] (λo x wr=>∃k:E,k<=m/\x=K G k/\Hid (gM W.heap.size wr o ((a.take k).map ο))/\Hid (Θ W.heap.size W wr)) (λo x _=>m-(intOf x).toNat)
 case atStart=>exact⟨0,oM _,rfl,N Row.nil,dH⟩
 case round=>
  obtain⟨k,eq,rfl,cw,aq⟩:=hrel
  by_cases e8:k<m
  ·obtain rfl:=dG.o (by omega)
   have bI:k<a.length:=(by rw[bv.o];exact e8);obtain⟨vp,ve,cv,de,b3,y1,y2,y3,y4,y5⟩:=cL.o k bI;obtain⟨-,-,aU,aV,rfl,-,-⟩:=qp cv;obtain⟨ek,el,bG,bH,rfl,df,dg⟩:=qO de;have cc:=N (cv.under aq.o);have b6:=N (Y df dg);replace b3:=pI b3 aq.o;replace y1:=pI y1 aq.o;replace y2:=pI y2 aq.o;replace y3:=pI y3 aq.o;replace y4:=pI y4 aq.o;replace y5:=pI y5 aq.o;have es:(k:aH)<(m:aH):=(by omega);have er:(0:aH)<=(k:aH):=(by omega);have cN:=N (AJ ο a bI);have cO:=N (cJ.o.pU _ (pq bI));have bu:=N (cJ.o.path _ (pq bI));have cR:=N (show((a.take k).map ο).length=k by rw[oS,nQ,bv.o];omega);clear cv de df dg;generalize a[k]=f at b3 y1 y2 y3 y4 y5 cc b6 cN cO bu;obtain⟨aC,d,i,h,a4,ac⟩:=f;simp only at b3 y1 y2 y3 y4 y5;generalize di:aC.length=s at b3;generalize cq:ac.length=a2 at y5;have b7:=N di;have aJ:=N cq;have eo:a2<=100000:=cq▸cO.o;clear di cq
   go_wp2_with fail
   have ce:=uS (w:=wr) (x0:=I aU s aV) (x1:=H d) (x2:=H i) (x3:=H h) (x4:=K G a4) (x5:=I bG a2 bH) (t:=51);have an:=pM wr (U #[I aU s aV,H d,H i,H h,K G a4,I bG a2 bH] 51);have aI:=pR aq an;have cd:=N (cw.o.below an);have bx:=N (cc.o.under an);have bY:=N (show wr.heap.size<(wr.alloc (U #[I aU s aV,H d,H i,H h,K G a4,I bG a2 bH] 51)).heap.size from Rw.lt_of_heap (pG _ _));generalize e4:wr.heap.size=ax at ce bY|-;generalize wr.alloc (U #[I aU s aV,H d,H i,H h,K G a4,I bG a2 bH] 51)=R at ce aI cd bx bY|-;clear an e4 cw aq b3 y1 y2 y3 y4 y5 cc;obtain⟨cC,cD,cE,cF,cG,dC⟩:=ce
   go_loopw [8,27] (λo x dA=>∃j:E,j<=a2/\x=K G j/\Hid (gM R.heap.size dA o ((ac.take j).map ς))/\Hid (Θ R.heap.size R dA)) (λo x _=>a2-(intOf x).toNat)
   case atStart=>exact⟨0,oM _,rfl,N Row.nil,N (pH _ _)⟩
   case round=>
    obtain⟨j,ep,rfl,bl,bk⟩:=hrel
    by_cases e5:j<a2
    ·obtain rfl:=b6.o.1 (by rw[aJ.o];omega)
     have dk:j<ac.length:=(by rw[aJ.o];exact e5);have b0:=pK aI.o bk.o;obtain⟨bh,c1,c2,bi,bj⟩:=b6.o.2 j dk;replace bh:=pI bh b0;replace c1:=pI c1 b0;replace c2:=pI c2 b0;replace bi:=pI bi b0;replace bj:=pI bj b0;have eu:(j:aH)<(a2:aH):=(by omega);have et:(0:aH)<=(j:aH):=(by omega);have cM:=N (AJ ς ac dk);have bZ:=N (show((ac.take j).map ς).length=j by rw[oS,nQ,aJ.o];omega);generalize ac[j]=e1 at bh c1 c2 bi bj cM;obtain⟨ai,al,ak,ag,a9⟩:=e1;simp only at bh c1 c2 bi bj
     go_wp2_with fail
     have cf:=vh (w:=wr) (x0:=H ai) (x1:=H al) (x2:=H ak) (x3:=H ag) (x4:=K G a9) (t:=53);have cp:=pM wr (U #[H ai,H al,H ak,H ag,K G a9] 53);have aB:=pR bk cp;have bb:=N (bl.o.below cp);have aZ:=N (λq (e:Δ u8=V q)=>by obtain⟨L,-,am,-⟩:=bl.o;exact(qq am e).2);have aR:=N (show wr.heap.size<(wr.alloc (U #[H ai,H al,H ak,H ag,K G a9] 53)).heap.size from Rw.lt_of_heap (pG _ _));generalize e2:wr.heap.size=aw at cf aZ aR|-;generalize wr.alloc (U #[H ai,H al,H ak,H ag,K G a9] 53)=ae at cf aB bb aR|-;clear cp e2 bl bk b0 bh c1 c2 bi bj;obtain⟨bC,bD,bE,bF,d1⟩:=cf;have aX:=N (λu (A:Θ ae.heap.size ae u)=>(show u.cell? ⟨aw,0,J⟩=V (H ai)/\u.cell? ⟨aw,1,J⟩=V (H al)/\u.cell? ⟨aw,2,J⟩=V (H ak)/\u.cell? ⟨aw,3,J⟩=V (H ag)/\u.cell? ⟨aw,4,J⟩=V (K G a9) from⟨pI bC A,pI bD A,pI bE A,pI bF A,pI d1 A⟩));have bW:=N ((pH ae.heap.size ae).drew.alloc (oZ _) (U #[H ai,H al,H ak,H ag] 9));have cH:=xw [ai,al,ak,ag] (I (V ⟨ae.heap.size,0,J⟩) 4 4) (ae.drew.alloc (U #[H ai,H al,H ak,H ag] 9)) (sL ae.drew [ai,al,ak,ag] 9 4) (by simp);have cY:=N (λu (A:Θ ae.heap.size ae u)=>cX.o u (pK aI.o (pK aB.o A)));obtain⟨ef,d4,cr,aM⟩:=bb.o;rw[bZ.o] at cr;have dP:=N (Y d4 (Y cr aM));clear d4 cr aM b6 bx cC cD cE cF cG dC cL
     go_region_held3 (λw'=>w'.cell? ⟨aw,0,J⟩=V (H ai)/\w'.cell? ⟨aw,1,J⟩=V (H al)/\w'.cell? ⟨aw,2,J⟩=V (H ak)/\w'.cell? ⟨aw,3,J⟩=V (H ag)/\w'.cell? ⟨aw,4,J⟩=V (K G a9)) (first|assumption|go_keep)
      (first
        |(go_at_call 54;refine cH.mono ?_;rintro e af ⟨⟨bo,rfl,au⟩,aD⟩;have ao:=pR bW aD;obtain⟨adA,cpA,rfl⟩:∃p c,bo=I p 4 c:=au.slice;have aS:=N (au.base (S:=ae.heap.size) bW.o.size);have bn:=aX.o af ao.o;clear au aD)
        |(go_at_call 55;refine(Km a9 _).mono ?_;rintro e b ⟨rfl,ar⟩;have B:=pR ao ar;have d0:=N (aS.o.below ar);have cz:=aX.o b B.o;have a1:=pM b (U #[K G 2,.bool O,K G a9,H ⟨#[]⟩,I J 0 0,I J 0 0,K G 0] 107);have a8:=pR B a1;obtain⟨LC,Mp,Mq,Mt⟩:=d0.o.below a1;have a6:=N (Y Mp (Y Mq Mt));clear ar a1 bn Mp Mq Mt)
        |(refine q_ _ rfl (.tmp 41) (.tmp 45) 104 rfl ae.heap.size b.heap.size 107 b1 b2 7 96 Γ F.o.1 F.o.2.1 F.o.2.2.1 F.o.2.2.2.1 F.o.2.2.2.2 (by decide) _ 4 LC.flatten rfl a6.o.2.1 _ 1 [K G 2,.bool O,K G a9,H ⟨#[]⟩,I J 0 0,I J 0 0,K G 0] rfl (q9 (c:=[K G 2,.bool O,K G a9,H ⟨#[]⟩,I J 0 0,I J 0 0,K G 0]) (sz:=7) rfl) (yL.int (S:=0) (w:=b) a9).one (by unfold av;omega) (by omega) a8.o.size ?_;intro dw bO aa P ab;have bR:Hid (gM ae.heap.size bO dw [.str ai,.str al,.str ak,.str ag,.int a9]):=N (Λ (M:=[[K G 2,.bool O,K G a9,H ⟨#[]⟩,I J 0 0,I J 0 0,K G 0]]) (l2:=[Jv.J.int a9]) a6.o.1 a6.o.2.2 (Ξ rfl (yL.int (S:=0) (w:=b) a9).one) (λu A=>tG.one (by unfold Jv;exact⟨0,rfl⟩)) aa P ab);have aQ:=N (qI P a8.o (λq e=>(qq a6.o.2.1 e).1) a8.o.size);obtain⟨ad3,cp3,e3⟩:∃p c,dw=I p 5 c:=bR.o.slice;subst e3;have e9:=aX.o bO aQ.o;clear aa P ab cz)
        |(go_at_call 53;refine(Z8 ⟨ai,al,ak,ag,a9⟩ ae.heap.size (I ad3 5 cp3) bO bR.o aQ.o.size (λu A=>cY.o u (pK aQ.o A))).mono ?_;rintro e cB ⟨⟨aK,bL,rfl,d9⟩,dd⟩;have bU:=pR aQ dd;have ea:=aX.o cB bU.o;have co:=pM cB (U #[K G 5,.bool O,K G 0,H ⟨#[]⟩,I J 0 0,I aK 5 bL,K G 0] 107);have ap:=pR bU co;have bA:=N (d9.below co);obtain⟨LF,hLF,hoF,hEF⟩:=bb.o.below ap.o;rw[bZ.o] at hoF;have ba:=N (Y hLF (Y hoF hEF));clear dd d9 co hLF hoF hEF e9)
        |(refine q_ _ rfl (.tmp 31) (.tmp 48) 104 rfl R.heap.size cB.heap.size 107 b1 b2 7 96 Γ F.o.1 F.o.2.1 F.o.2.2.1 F.o.2.2.2.1 F.o.2.2.2.2 (by decide) _ j LF.flatten rfl ba.o.2.1 _ 1 [K G 5,.bool O,K G 0,H ⟨#[]⟩,I J 0 0,I aK 5 bL,K G 0] rfl (q9 (c:=[K G 5,.bool O,K G 0,H ⟨#[]⟩,I J 0 0,I aK 5 bL,K G 0]) (sz:=7) rfl) bA.o.one (by unfold av;omega) (by omega) (pF aB.o.size ap.o.size) ?_;intro ec ee aa P ab;have dE:Hid (gM R.heap.size ee ec ((ac.take (j+1)).map ς)):=N (by rw[cM.o];exact Λ (M:=[[K G 5,.bool O,K G 0,H ⟨#[]⟩,I J 0 0,I aK 5 bL,K G 0]]) (l2:=[ς ⟨ai,al,ak,ag,a9⟩]) ba.o.1 ba.o.2.2 (Ξ rfl bA.o.one) (λu A=>tG.one (bA.o.apart aB.o.size (λq e=>(qq dP.o.2.1 e).2) A)) (by rw[bZ.o];exact aa) P ab);have dK:=N (qI P (pK aB.o ap.o) (λq e=>(qq ba.o.2.1 e).1) (pF aB.o.size ap.o.size));have s5:=aX.o _ ap.o;rw[<-uw P (λe=>by have:=aZ.o _ e;omega) (oQ aR.o ap.o.size) 0,<-uw P (λe=>by have:=aZ.o _ e;omega) (oQ aR.o ap.o.size) 1,<-uw P (λe=>by have:=aZ.o _ e;omega) (oQ aR.o ap.o.size) 2,<-uw P (λe=>by have:=aZ.o _ e;omega) (oQ aR.o ap.o.size) 3,<-uw P (λe=>by have:=aZ.o _ e;omega) (oQ aR.o ap.o.size) 4] at s5;clear aa P ab ea))
     all_goals
      clear s5 ba bA ap bU bR aQ a6 d0 B aS ao cY cH bW aX bC bD bE bF d1
      go_wp2_with fail
      go_roundw
      case rel=>exact⟨j+1,by omega,by go_num,dE,dK⟩
      case measure=>simp[intOf];omega
    ·have em:decide ((j:aH)<(a2:aH))=O:=o9 (by omega)
     have bb:Hid (gM R.heap.size wr u8 (ac.map ς)):=N (by have:=bl.o;rw[oP (by rw[aJ.o];omega)] at this;exact this)
     have Q:=N bk.o;have ad:=N (λu (A:Θ wr.heap.size wr u)=>(show u.cell? ⟨ax,0,J⟩=V (I aU s aV)/\u.cell? ⟨ax,1,J⟩=V (H d)/\u.cell? ⟨ax,2,J⟩=V (H i)/\u.cell? ⟨ax,3,J⟩=V (H h) from⟨pI (pI cC Q.o) A,pI (pI cD Q.o) A,pI (pI cE Q.o) A,pI (pI cF Q.o) A⟩));have cZ:=N (λu (A:Θ wr.heap.size wr u)=>(show u.cell? ⟨ax,4,J⟩=V (K G a4) from pI (pI cG Q.o) A));obtain⟨bC,bD,bE,bF⟩:=ad.o wr (pH _ _);have bw:=N (show 1+3<=av/\(1+3)*96<=140737488355328 from⟨by unfold av;omega,by omega⟩);have bs:=N (pH wr.heap.size wr).drew;have b5:=N (pM wr (U #[H d,H i,H h] 9)).drew;have bt:=N (oQ bY.o Q.o.size);have bp:=N (λu (A:Θ wr.heap.size wr u)=>xw aC (I aU s aV) u (by have:=(bx.o.under Q.o).under A;rw[b7.o] at this;exact this) bu.o);clear bl bk cC cD cE cF cG dC bx b6
     go_upto_region 14 with fail
     go_cut [11,20] from 20 to 78 (λr x dB=>x=K G k/\Hid (gM R.heap.size dB r [.arr (aC.map Jv.J.str),.str d,.str i,.str h])/\Hid (Θ wr.heap.size wr dB)/\Hid (∀q,r.ownBlock=V q->wr.heap.size<=q))
     case first=>
      go_region_held3 (λw'=>w'.cell? ⟨ax,0,J⟩=V (I aU s aV)/\w'.cell? ⟨ax,1,J⟩=V (H d)/\w'.cell? ⟨ax,2,J⟩=V (H i)/\w'.cell? ⟨ax,3,J⟩=V (H h)) (first|assumption|go_keep)
       (first
         |(go_at_call 54;have D:=bp.o (wr.alloc (U #[H d,H i,H h] 9)).drew (b5.o);(with_reducible refine D.mono ?_);clear D;rintro e af ⟨⟨bo,rfl,au⟩,aD⟩;have ao:=N (pK (b5.o) aD);have bc:=N (Rw.under (w:=(wr.alloc (U #[H d,H i,H h] 9)).drew) (show Rw _ (I (V ⟨wr.heap.size,0,J⟩) 3 3) 1 ([d,i,h].map p_) from sL wr.drew [d,i,h] 9 3) aD);obtain⟨adA,cpA,rfl⟩:∃p c,bo=I p s c:=(by obtain⟨p,c,e⟩:=au.slice;exact⟨p,c,by rw[e,oS,b7.o]⟩);have aS:=N (au.base (S:=R.heap.size) (pF Q.o.size (lF (b5.o))));have bn:=ad.o af ao.o;clear au aD)
         |(go_at_call 54;have D:=bp.o wr.drew (bs.o);(with_reducible refine D.mono ?_);clear D;rintro e af ⟨⟨bo,rfl,au⟩,aD⟩;have ao:=N (pK (bs.o) aD);skip;obtain⟨adA,cpA,rfl⟩:∃p c,bo=I p s c:=(by obtain⟨p,c,e⟩:=au.slice;exact⟨p,c,by rw[e,oS,b7.o]⟩);have aS:=N (au.base (S:=R.heap.size) (pF Q.o.size (lF (bs.o))));have bn:=ad.o af ao.o;clear au aD)
         |(go_at_call 56;have D:=Mk (af.alloc (U #[H d,H i,H h] 9)) (aS.o.below ((pH (Z af).size af).alloc (oZ _) (U #[H d,H i,H h] 9))) (by exact pF Q.o.size (lF (pK ao.o ((pH (Z af).size af).alloc (oZ _) (U #[H d,H i,H h] 9))))) b7.o bu.o;(with_reducible refine D.mono ?_);clear D;rintro e b ⟨⟨y,z,rfl,aN⟩,ar⟩;have B:=N (pK (pK ao.o ((pH (Z af).size af).alloc (oZ _) (U #[H d,H i,H h] 9))) ar);have bc:=N ((sL af [d,i,h] 9 3).under ar);have bB:=N aN;have cz:=ad.o b B.o;clear aN ar bn)
         |(go_at_call 56;have D:=Mk af (aS.o) (by exact pF Q.o.size (lF (ao.o))) b7.o bu.o;(with_reducible refine D.mono ?_);clear D;rintro e b ⟨⟨y,z,rfl,aN⟩,ar⟩;have B:=N (pK (ao.o) ar);(try have bc:=N (bc.o.under ar));have bB:=N aN;have cz:=ad.o b B.o;clear aN ar bn)
         |(go_at_call 54;have D:=xw [d,i,h] _ b (bc.o) (by simp);change az _ _ #[I (V ⟨_,0,J⟩) 3 3] b _ at D;(with_reducible refine D.mono ?_);clear D;rintro e C ⟨⟨aF,rfl,a7⟩,a1⟩;have a0:=N (pK (pH b.heap.size b) a1);have a8:=N (pK B.o a0.o);obtain⟨adC,cpC,rfl⟩:∃p c,aF=I p 3 c:=(by obtain⟨p,c,e⟩:=a7.slice;exact⟨p,c,e⟩);obtain⟨LC,Mp,Mq,Mt⟩:=a7.base (S:=R.heap.size) (pF Q.o.size (pF B.o.size (lF (pH b.heap.size b))));have a6:=N (Y Mp (Y Mq (yX (Mt C (λ_ _ _ _=>rfl)))));skip;have bM:=ad.o C a8.o;clear Mp Mq Mt a1 a7)
         |(go_at_call 54;have D:=xw [d,i,h] _ (b.alloc (U #[H d,H i,H h] 9)) (sL b [d,i,h] 9 3) (by simp);change az _ _ #[I (V ⟨b.heap.size,0,J⟩) 3 3] (b.alloc (U #[H d,H i,H h] 9)) _ at D;(with_reducible refine D.mono ?_);clear D;rintro e C ⟨⟨aF,rfl,a7⟩,a1⟩;have a0:=N (pK (((pH (Z b).size b).alloc (oZ _) (U #[H d,H i,H h] 9))) a1);have a8:=N (pK B.o a0.o);obtain⟨adC,cpC,rfl⟩:∃p c,aF=I p 3 c:=(by obtain⟨p,c,e⟩:=a7.slice;exact⟨p,c,e⟩);obtain⟨LC,Mp,Mq,Mt⟩:=a7.base (S:=R.heap.size) (pF Q.o.size (pF B.o.size (lF (((pH (Z b).size b).alloc (oZ _) (U #[H d,H i,H h] 9))))));have a6:=N (Y Mp (Y Mq (yX (Mt C (λ_ _ _ _=>rfl)))));skip;have bM:=ad.o C a8.o;clear Mp Mq Mt a1 a7)
         |(go_at_call 54;have D:=xw [d,i,h] _ (b.alloc (U #[K G 4,.bool O,K G 0,H ⟨#[]⟩,I y s z,I J 0 0,K G 0] 107)) (bc.o.under ((pH (Z b).size b).alloc (oZ _) (U #[K G 4,.bool O,K G 0,H ⟨#[]⟩,I y s z,I J 0 0,K G 0] 107))) (by simp);change az _ _ #[I (V ⟨_,0,J⟩) 3 3] (b.alloc (U #[K G 4,.bool O,K G 0,H ⟨#[]⟩,I y s z,I J 0 0,K G 0] 107)) _ at D;(with_reducible refine D.mono ?_);clear D;rintro e C ⟨⟨aF,rfl,a7⟩,a1⟩;have a0:=N (pK (((pH (Z b).size b).alloc (oZ _) (U #[K G 4,.bool O,K G 0,H ⟨#[]⟩,I y s z,I J 0 0,K G 0] 107))) a1);have a8:=N (pK B.o a0.o);obtain⟨adC,cpC,rfl⟩:∃p c,aF=I p 3 c:=(by obtain⟨p,c,e⟩:=a7.slice;exact⟨p,c,e⟩);obtain⟨LC,Mp,Mq,Mt⟩:=a7.base (S:=R.heap.size) (pF Q.o.size (pF B.o.size (lF (((pH (Z b).size b).alloc (oZ _) (U #[K G 4,.bool O,K G 0,H ⟨#[]⟩,I y s z,I J 0 0,K G 0] 107))))));have a6:=N (Y Mp (Y Mq (yX (Mt C (λ_ _ _ _=>rfl)))));have cb:=N (rK (qj (q9 (c:=[K G 4,.bool O,K G 0,H ⟨#[]⟩,I y s z,I J 0 0,K G 0]) (sz:=7) rfl) (λq e=>a1.block q (qq (q9 (c:=[K G 4,.bool O,K G 0,H ⟨#[]⟩,I y s z,I J 0 0,K G 0]) (sz:=7) rfl) e).2)) (pF Q.o.size B.o.size));have be:=N (oZ b.heap.size);have bM:=ad.o C a8.o;clear Mp Mq Mt a1 a7)
         |(go_at_call 54;have D:=xw [d,i,h] _ ((b.alloc (U #[K G 4,.bool O,K G 0,H ⟨#[]⟩,I y s z,I J 0 0,K G 0] 107)).alloc (U #[H d,H i,H h] 9)) (VJ (w:=b.alloc (U #[K G 4,.bool O,K G 0,H ⟨#[]⟩,I y s z,I J 0 0,K G 0] 107)) (X:=b.heap.size+1) (nI _) [d,i,h] 9 3) (by simp);change az _ _ #[I (V ⟨b.heap.size+1,0,J⟩) 3 3] ((b.alloc (U #[K G 4,.bool O,K G 0,H ⟨#[]⟩,I y s z,I J 0 0,K G 0] 107)).alloc (U #[H d,H i,H h] 9)) _ at D;(with_reducible refine D.mono ?_);clear D;rintro e C ⟨⟨aF,rfl,a7⟩,a1⟩;have a0:=N (pK (pK ((pH (Z b).size b).alloc (oZ _) (U #[K G 4,.bool O,K G 0,H ⟨#[]⟩,I y s z,I J 0 0,K G 0] 107)) ((pH (Z (b.alloc (U #[K G 4,.bool O,K G 0,H ⟨#[]⟩,I y s z,I J 0 0,K G 0] 107))).size (b.alloc (U #[K G 4,.bool O,K G 0,H ⟨#[]⟩,I y s z,I J 0 0,K G 0] 107))).alloc (oZ _) (U #[H d,H i,H h] 9))) a1);have a8:=N (pK B.o a0.o);obtain⟨adC,cpC,rfl⟩:∃p c,aF=I p 3 c:=(by obtain⟨p,c,e⟩:=a7.slice;exact⟨p,c,e⟩);obtain⟨LC,Mp,Mq,Mt⟩:=a7.base (S:=R.heap.size) (pF Q.o.size (pF B.o.size (lF (pK ((pH (Z b).size b).alloc (oZ _) (U #[K G 4,.bool O,K G 0,H ⟨#[]⟩,I y s z,I J 0 0,K G 0] 107)) ((pH (Z (b.alloc (U #[K G 4,.bool O,K G 0,H ⟨#[]⟩,I y s z,I J 0 0,K G 0] 107))).size (b.alloc (U #[K G 4,.bool O,K G 0,H ⟨#[]⟩,I y s z,I J 0 0,K G 0] 107))).alloc (oZ _) (U #[H d,H i,H h] 9))))));have a6:=N (Y Mp (Y Mq (yX (Mt C (λ_ _ _ _=>rfl)))));have cb:=N (rK (qj (q9 (c:=[K G 4,.bool O,K G 0,H ⟨#[]⟩,I y s z,I J 0 0,K G 0]) (sz:=7) rfl) (λq e=>((pK ((pH (Z (b.alloc (U #[K G 4,.bool O,K G 0,H ⟨#[]⟩,I y s z,I J 0 0,K G 0] 107))).size (b.alloc (U #[K G 4,.bool O,K G 0,H ⟨#[]⟩,I y s z,I J 0 0,K G 0] 107))).alloc (oZ _) (U #[H d,H i,H h] 9)) a1)).block q (qq (q9 (c:=[K G 4,.bool O,K G 0,H ⟨#[]⟩,I y s z,I J 0 0,K G 0]) (sz:=7) rfl) e).2)) (pF Q.o.size B.o.size));have be:=N (oZ b.heap.size);have bM:=ad.o C a8.o;clear Mp Mq Mt a1 a7)
         |(go_at_call 54;have D:=xw [d,i,h] _ ((b.alloc (U #[H d,H i,H h] 9)).alloc (U #[K G 4,.bool O,K G 0,H ⟨#[]⟩,I y s z,I J 0 0,K G 0] 107)) ((sL b [d,i,h] 9 3).under ((pH (Z (b.alloc (U #[H d,H i,H h] 9))).size (b.alloc (U #[H d,H i,H h] 9))).alloc (oZ _) (U #[K G 4,.bool O,K G 0,H ⟨#[]⟩,I y s z,I J 0 0,K G 0] 107))) (by simp);change az _ _ #[I (V ⟨b.heap.size,0,J⟩) 3 3] ((b.alloc (U #[H d,H i,H h] 9)).alloc (U #[K G 4,.bool O,K G 0,H ⟨#[]⟩,I y s z,I J 0 0,K G 0] 107)) _ at D;(with_reducible refine D.mono ?_);clear D;rintro e C ⟨⟨aF,rfl,a7⟩,a1⟩;have a0:=N (pK (pK ((pH (Z b).size b).alloc (oZ _) (U #[H d,H i,H h] 9)) ((pH (Z (b.alloc (U #[H d,H i,H h] 9))).size (b.alloc (U #[H d,H i,H h] 9))).alloc (oZ _) (U #[K G 4,.bool O,K G 0,H ⟨#[]⟩,I y s z,I J 0 0,K G 0] 107))) a1);have a8:=N (pK B.o a0.o);obtain⟨adC,cpC,rfl⟩:∃p c,aF=I p 3 c:=(by obtain⟨p,c,e⟩:=a7.slice;exact⟨p,c,e⟩);obtain⟨LC,Mp,Mq,Mt⟩:=a7.base (S:=R.heap.size) (pF Q.o.size (pF B.o.size (lF (pK ((pH (Z b).size b).alloc (oZ _) (U #[H d,H i,H h] 9)) ((pH (Z (b.alloc (U #[H d,H i,H h] 9))).size (b.alloc (U #[H d,H i,H h] 9))).alloc (oZ _) (U #[K G 4,.bool O,K G 0,H ⟨#[]⟩,I y s z,I J 0 0,K G 0] 107))))));have a6:=N (Y Mp (Y Mq (yX (Mt C (λ_ _ _ _=>rfl)))));have cb:=N (rK (qj (VK (w:=b.alloc (U #[H d,H i,H h] 9)) (X:=b.heap.size+1) (nI _) (c:=[K G 4,.bool O,K G 0,H ⟨#[]⟩,I y s z,I J 0 0,K G 0]) (sz:=7) (t:=107) rfl) (λq e=>a1.block q (qq (VK (w:=b.alloc (U #[H d,H i,H h] 9)) (X:=b.heap.size+1) (nI _) (c:=[K G 4,.bool O,K G 0,H ⟨#[]⟩,I y s z,I J 0 0,K G 0]) (sz:=7) (t:=107) rfl) e).2)) (pF Q.o.size (kM B.o.size)));have be:=N (nu b.heap.size);have bM:=ad.o C a8.o;clear Mp Mq Mt a1 a7)
         |(have bf:=cb.o;have aT:=qj (w':=C) a6.o.2.1 (λq e=>Below.block (pH C.heap.size C) q (qq a6.o.2.1 e).2);change aE _ _ _ _ _ 3 _ at aT;refine q_ _ rfl (.tmp 55) (.tmp 63) 104 rfl R.heap.size R.heap.size 107 b1 b2 7 96 Γ F.o.1 F.o.2.1 F.o.2.2.1 F.o.2.2.2.1 F.o.2.2.2.2 (by decide) _ 1 [K G 4,.bool O,K G 0,H ⟨#[]⟩,I y s z,I J 0 0,K G 0] rfl bf _ 3 LC.flatten rfl aT a6.o.1.2 bw.o.1 bw.o.2 (pF Q.o.size (pF a8.o.size (lF (pH C.heap.size C)))) ?_;clear bf aT;intro cA dy aa P ab;have aY:=N (Y aa (Y P ab));have b4:=N (qI P (pK B.o (a0.o)) (λq e=>pF (pF B.o.size (be.o)) (F5 e)) (pF B.o.size (lF (a0.o))));have dt:=Ez P (λe=>Nat.not_le.2 bt.o (pF (pF B.o.size (be.o)) (F5 e))) (oQ bt.o (pF B.o.size (lF (a0.o)))) (ad.o _ (pK B.o (a0.o)));have aW:=N (Y (a0.o) (be.o));clear aa P ab)
         |(have bf:=rK (w:=C.alloc (U #[K G 4,.bool O,K G 0,H ⟨#[]⟩,I y s z,I J 0 0,K G 0] 107)) (q9 (c:=[K G 4,.bool O,K G 0,H ⟨#[]⟩,I y s z,I J 0 0,K G 0]) (sz:=7) rfl) (pF Q.o.size a8.o.size);have aT:=qj (w':=(C.alloc (U #[K G 4,.bool O,K G 0,H ⟨#[]⟩,I y s z,I J 0 0,K G 0] 107))) a6.o.2.1 (λq e=>Below.block (((pH (Z C).size C).alloc (oZ _) (U #[K G 4,.bool O,K G 0,H ⟨#[]⟩,I y s z,I J 0 0,K G 0] 107))) q (qq a6.o.2.1 e).2);change aE _ _ _ _ _ 3 _ at aT;refine q_ _ rfl (.tmp 55) (.tmp 63) 104 rfl R.heap.size R.heap.size 107 b1 b2 7 96 Γ F.o.1 F.o.2.1 F.o.2.2.1 F.o.2.2.2.1 F.o.2.2.2.2 (by decide) _ 1 [K G 4,.bool O,K G 0,H ⟨#[]⟩,I y s z,I J 0 0,K G 0] rfl bf _ 3 LC.flatten rfl aT a6.o.1.2 bw.o.1 bw.o.2 (pF Q.o.size (pF a8.o.size (lF (((pH (Z C).size C).alloc (oZ _) (U #[K G 4,.bool O,K G 0,H ⟨#[]⟩,I y s z,I J 0 0,K G 0] 107)))))) ?_;clear bf aT;intro cA dy aa P ab;have aY:=N (Y aa (Y P ab));have b4:=N (qI P (pK B.o (pK a0.o ((pH (Z C).size C).alloc (oZ _) (U #[K G 4,.bool O,K G 0,H ⟨#[]⟩,I y s z,I J 0 0,K G 0] 107)))) (λq e=>pF (pF B.o.size (a0.o.size)) (F5 e)) (pF B.o.size (lF (pK a0.o ((pH (Z C).size C).alloc (oZ _) (U #[K G 4,.bool O,K G 0,H ⟨#[]⟩,I y s z,I J 0 0,K G 0] 107))))));have dt:=Ez P (λe=>Nat.not_le.2 bt.o (pF (pF B.o.size (a0.o.size)) (F5 e))) (oQ bt.o (pF B.o.size (lF (pK a0.o ((pH (Z C).size C).alloc (oZ _) (U #[K G 4,.bool O,K G 0,H ⟨#[]⟩,I y s z,I J 0 0,K G 0] 107)))))) (ad.o _ (pK B.o (pK a0.o ((pH (Z C).size C).alloc (oZ _) (U #[K G 4,.bool O,K G 0,H ⟨#[]⟩,I y s z,I J 0 0,K G 0] 107)))));have aW:=N (Y (pK a0.o ((pH (Z C).size C).alloc (oZ _) (U #[K G 4,.bool O,K G 0,H ⟨#[]⟩,I y s z,I J 0 0,K G 0] 107))) (a0.o.size));clear aa P ab))
      all_goals
       have dF:Hid (gM R.heap.size dy cA [.arr (aC.map Jv.J.str),.str d,.str i,.str h]):=N (Λ (L:=[[K G 4,.bool O,K G 0,H ⟨#[]⟩,I y s z,I J 0 0,K G 0]]) (l:=[Jv.J.arr (aC.map Jv.J.str)]) (l2:=[d,i,h].map Jv.J.str) (Ξ rfl bB.o.one) (λu A=>tG.one (VI bB.o aW.o.1 aW.o.2 A)) a6.o.1 (λu A=>a6.o.2.2 u) aY.o.1 aY.o.2.1 aY.o.2.2);have ca:Hid (∀q,cA.ownBlock=V q->wr.heap.size<=q):=N (λq e=>(aY.o.2.2).elim (λam=>pF (pF B.o.size aW.o.2) (F5 (am.symm.trans e))) (λam=>by rw[am] at e;cases e;exact pF B.o.size (lF aW.o.1)));clear aY aW a6 bB a0 a8 B aS ao dt bp b5 ad
       go_wp2_with fail
       go_meet
       exact⟨rfl,dF,b4,ca⟩
     case rest=>
      clear bC bD bE bF b5 bs bp ad;obtain⟨rfl,cx,cl,dl⟩:=hcut;have y4:=cZ.o _ cl.o;have cV:=N cx.o;have ca:=N dl.o;have b4:=N cl.o;obtain⟨dW,dY,e0⟩:∃p c,u11=I p 4 c:=(by obtain⟨p,c,e⟩:=cx.o.slice;exact⟨p,c,e⟩);subst e0;clear cx cl dl cZ
      go_wp2_with fail
      refine(Km a4 _).mono ?_;rintro e dz⟨rfl,cm⟩;have bV:=pR b4 cm;have cW:=N (cV.o.below cm);clear cm cV b4 y4
      go_wp2_with fail
      obtain⟨LE,ci,bK,ch⟩:=bb.o;have dN:=N ci;have dO:=N (ch wr (λ_ _ _ _=>rfl)).1;have cK:=N ch;have bP:=N (Ji u8 (ac.map ς).length R.heap.size LE.flatten dz (qj bK (λq e=>bV.o.block q (qq bK e).2)) ci.2 (by rw[oS,aJ.o];omega));rw[oS,aJ.o] at bP;obtain⟨eh,ei,ej⟩:∃p c,u8=I p a2 c:=(by obtain⟨p,c,e⟩:=qP bK;rw[oS,aJ.o] at e;exact⟨p,c,e⟩);clear ci bK ch;refine bP.o.mono ?_;rintro e aP⟨⟨aL,aO,rfl,cu⟩,cn⟩;have dM:=pR bV cn;have an:=pM aP (U #[K G 2,.bool O,K G a4,H ⟨#[]⟩,I J 0 0,I J 0 0,K G 0,K G 4,.bool O,K G 0,H ⟨#[]⟩,I aL a2 aO,I J 0 0,K G 0] 107);have br:=pR dM an;have cS:=N (qj (w':=aP.alloc (U #[K G 2,.bool O,K G a4,H ⟨#[]⟩,I J 0 0,I J 0 0,K G 0,K G 4,.bool O,K G 0,H ⟨#[]⟩,I aL a2 aO,I J 0 0,K G 0] 107)) cu (λq e=>an.block q (qq cu e).2));obtain⟨dU,d6,dm,d3⟩:=(cW.o.below cn).below an;have b9:=N (Y d6 (Y dm d3));have cP:=N (λq (e:Δ (I dW 4 dY)=V q)=>by obtain⟨L,-,am,-⟩:=cW.o;exact(qq am e).2);have cT:=N (Q3 (base:=aP.heap.size) (size:=7) (n:=2) (cs:=[K G 2,.bool O,K G a4,H ⟨#[]⟩,I J 0 0,I J 0 0,K G 0,K G 4,.bool O,K G 0,H ⟨#[]⟩,I aL a2 aO,I J 0 0,K G 0]) (pG aP (U #[K G 2,.bool O,K G a4,H ⟨#[]⟩,I J 0 0,I J 0 0,K G 0,K G 4,.bool O,K G 0,H ⟨#[]⟩,I aL a2 aO,I J 0 0,K G 0] 107)) (oZ _) rfl (by unfold av;omega));have bX:=N (show Flat 7 [[K G 2,.bool O,K G a4,H ⟨#[]⟩,I J 0 0,I J 0 0,K G 0],[K G 4,.bool O,K G 0,H ⟨#[]⟩,I aL a2 aO,I J 0 0,K G 0]] from(Ξ rfl (yL.int (S:=0) (w:=aP) a4).one).append (Ξ rfl (by intro u A;simp only[ox,oy,nw] at A;rcases A with rfl|rfl|rfl|rfl|rfl|rfl|rfl<;>rfl)));have dL:=N (bV.o.size);clear cn an d6 dm d3 cu bP
      go_wp2_with(at_builtin;(refine qX _ rfl _ _ 104 rfl R.heap.size aP.heap.size 107 b1 b2 7 96 Γ F.o.1 F.o.2.1 F.o.2.2.1 F.o.2.2.2.1 F.o.2.2.2.2 (by decide) _ 4 dU.flatten rfl b9.o.2.1 _ 2 [K G 2,.bool O,K G a4,H ⟨#[]⟩,I J 0 0,I J 0 0,K G 0,K G 4,.bool O,K G 0,H ⟨#[]⟩,I aL a2 aO,I J 0 0,K G 0] rfl cT.o bX.o.2 ?a3 ?aK ?a5 ?_))
      case a3=>unfold av;omega
      case aK=>omega
      case a5=>exact pF Q.o.size br.o.size
      intro dv dx aa P ab;have bT:=N (qI P (pK Q.o br.o) (λq e=>(qq b9.o.2.1 e).1) (pF Q.o.size br.o.size))
      have cU:Hid (gM R.heap.size dx dv [.arr (aC.map Jv.J.str),.str d,.str i,.str h,.int a4,.arr (ac.map ς)]):=N (by have cy:(aP.alloc (U #[K G 2,.bool O,K G a4,H ⟨#[]⟩,I J 0 0,I J 0 0,K G 0,K G 4,.bool O,K G 0,H ⟨#[]⟩,I aL a2 aO,I J 0 0,K G 0] 107)).heap.size=aP.heap.size+1:=nI _;have e7:(ac.map ς).length=a2:=(by rw[oS,aJ.o]);refine Λ (l:=[Jv.J.arr (aC.map Jv.J.str),Jv.J.str d,Jv.J.str i,Jv.J.str h]) (M:=[[K G 2,.bool O,K G a4,H ⟨#[]⟩,I J 0 0,I J 0 0,K G 0],[K G 4,.bool O,K G 0,H ⟨#[]⟩,I aL a2 aO,I J 0 0,K G 0]]) (l2:=[Jv.J.int a4,Jv.J.arr (ac.map ς)]) b9.o.1 b9.o.2.2 bX.o (λu A=>(tG.one (x:=Jv.J.int a4) (by unfold Jv;exact⟨0,rfl⟩)).append (tG.one (x:=Jv.J.arr (ac.map ς)) (Th (S:=R.heap.size) (T:=dz.heap.size) (w:=wr) (v:=u8) dN.o dO.o cK.o br.o (by rw[e7];exact cS.o) Q.o.size dL.o (λq e=>⟨ca.o q e,cP.o q e⟩) A))) aa P (by rw[cy];exact ab))
      clear aa P ab b9 cP cT bX cS cK;obtain⟨dV,dX,dZ⟩:∃p c,dv=I p 6 c:=(by obtain⟨p,c,e⟩:=cU.o.slice;exact⟨p,c,e⟩);subst dZ
      go_wp2_with fail
      refine(aaa ⟨aC,d,i,h,a4,ac⟩ R.heap.size (I dV 6 dX) dx cU.o bT.o.size (λu A=>cX.o u (pK aI.o (pK bT.o A)))).mono ?_;rintro e bN⟨⟨bg,bm,rfl,d8⟩,da⟩;have dI:=pR bT da;have an:=pM bN (U #[K G 5,.bool O,K G 0,H ⟨#[]⟩,I J 0 0,I bg 6 bm,K G 0] 107);have bq:=pR dI an;have bz:=N (d8.below an);have cQ:=N (λq (e:Δ u5=V q)=>by obtain⟨L,-,am,-⟩:=cd.o;exact(qq am e).2);obtain⟨dT,d5,ct,d2⟩:=cd.o.below bq.o;rw[cR.o] at ct;have b8:=N (Y d5 (Y ct d2));clear da an d8 d5 ct d2
      go_wp2_with(at_builtin;(refine qX _ rfl _ _ 104 rfl W.heap.size bN.heap.size 107 b1 b2 7 96 Γ F.o.1 F.o.2.1 F.o.2.2.1 F.o.2.2.2.1 F.o.2.2.2.2 (by decide) _ k dT.flatten rfl b8.o.2.1 _ 1 [K G 5,.bool O,K G 0,H ⟨#[]⟩,I J 0 0,I bg 6 bm,K G 0] rfl (q9 (c:=[K G 5,.bool O,K G 0,H ⟨#[]⟩,I J 0 0,I bg 6 bm,K G 0]) (sz:=7) rfl) bz.o.one ?a3 ?aK ?a5 ?_))
      case a3=>unfold av;omega
      case aK=>omega
      case a5=>exact pF aI.o.size bq.o.size
      intro eb ed aa P ab;have dJ:=N (qI P (pK aI.o bq.o) (λq e=>(qq b8.o.2.1 e).1) (pF aI.o.size bq.o.size))
      have dR:Hid (gM W.heap.size ed eb ((a.take (k+1)).map ο)):=N (by have cy:(bN.alloc (U #[K G 5,.bool O,K G 0,H ⟨#[]⟩,I J 0 0,I bg 6 bm,K G 0] 107)).heap.size=bN.heap.size+1:=nI _;rw[cN.o];refine Λ (M:=[[K G 5,.bool O,K G 0,H ⟨#[]⟩,I J 0 0,I bg 6 bm,K G 0]]) (l2:=[ο ⟨aC,d,i,h,a4,ac⟩]) b8.o.1 b8.o.2.2 (Ξ rfl bz.o.one) (λu A=>tG.one (bz.o.apart aI.o.size cQ.o A)) (by rw[cR.o];exact aa) P (by rw[cy];exact ab))
      clear aa P ab b8 bz cQ
      go_wp2_with fail
      go_roundw
      case rel=>exact⟨k+1,by omega,by go_num,dR,dJ⟩
      case measure=>simp[intOf];omega
  ·have en:decide ((k:aH)<(m:aH))=O:=o9 (by omega)
   have dQ:Hid (gM W.heap.size wr u5 (a.map ο)):=N (by have:=cw.o;rw[oP (by rw[bv.o];omega)] at this;exact this)
   have cI:=N (VL wr dQ.o aq.o.size bv.o e6)
   go_wp2_with fail
   refine cI.o.mono ?_;rintro e ae⟨⟨eg,ev,rfl,aN⟩,db⟩;have dS:=N aN;have aB:=pR aq db;clear aN db cI
   go_wp2_with fail
   refine(dD.o _ _ _ aB.o dS.o).mono ?_;rintro e bO⟨rfl,dc⟩;have aQ:=pR aB dc;clear dc
   go_wp2_with fail
   go_ret2;exact⟨rfl,aQ.o⟩
end Me
end Go.Proofs.YthbhmjdcfocphaaGreatDoor
