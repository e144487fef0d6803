/- A part of this proof. -/
import Derived.Test.YthbhmjdcfocphaaGreatDoorG6
import Derived.Test.YthbhmjdcfocphaaGreatDoorKT
set_option linter.all false
set_option maxHeartbeats 16000000
set_option maxRecDepth 100000
namespace Go.Proofs.YthbhmjdcfocphaaGreatDoor
open Go.Value renaming string→γ, slice→δ, pointer→ε, int→θ
open Go.Obj renaming cells→ζ
open Go.Ending renaming returned→η
open Go.IntKind renaming i64→ι
open Go.Lib renaming hid→K
open _root_ renaming ByteArray→ν
namespace Ms
open RowKit Rw Vf
def Pv{w:World}{R sz:Nat}{v x:Value}{t:TypeId}{h:Nat×Nat}{L:List (List Value)}(r:w.heap[R]?=some (Obj.cells #[δ none 0 0] t h))(i:Rw w v sz L)(C:∀j(c:j<L.length),∃k s,k<sz/\L[j][k]?=some (γ s)):Rw (w.setCell ⟨R,0,none⟩ x) v sz L:=by
 obtain⟨g,e,f,cap,l,n,d⟩:=i;refine⟨g,e,f,cap,l,n,λj c k y=>?_⟩;obtain⟨D,o,p⟩:=d j c k y
 have B:g≠R:=by
  rintro rfl;obtain⟨k',s,A,u⟩:=C j c;obtain⟨z,b,a⟩:=d j c k' A;rw[u] at b;injection b with b
  subst b;unfold World.cell? at a;simp only[r] at a;generalize e+j*sz+k'=m at a;rcases m with _|q
  ·cases a
  ·simp at a
 exact⟨D,o,(mI (pz _ _ _ _ B)).trans p⟩
def O5{w:World}{R:Nat}{v x:Value}{t:TypeId}{f:Nat×Nat}{a:List Mo.Fd}(b:w.heap[R]?=some (Obj.cells #[δ none 0 0] t f))(g:rY w v a):rY (w.setCell ⟨R,0,none⟩ x) v a:=by
 obtain⟨L,h,k,d⟩:=g;refine⟨L,h,Pv b k (λj c=>?_),λj c l=>?_⟩
 ·obtain⟨vp,ve,e,-,-⟩:=d j (by omega) c
  exact⟨1,_,by omega,by rw[e];rfl⟩
 ·obtain⟨vp,ve,e,o,m⟩:=d j c l
  exact⟨vp,ve,e,Pv b o (λi n=>⟨0,_,by omega,by rw[oG];rfl⟩),Pv b m (λi n=>⟨0,_,by omega,by rw[oG];rfl⟩)⟩
def DE{W:World}{B F s n:Nat}{a1 p:Nat->Prop}{a:AS}(nm:ν)(a2:∀u,Calls Tryz.prog 25 #[γ nm] u λe w'=>e=η (.bool true)/\Below u.heap.size u w')(ab:nm.size<=100)(H:Fs W B F a1 a p)(ok:a.Ok n)(N:JC W s F)(ar:List Mo.Fd)(q:List UInt8)(d:Jv.enc (Jv.jA ar)=q)(M:a.read (nm++qV)=(q,0))
 (pe:Me.Enc ar) (js:Me.JB (Jv.jA ar)) (wt:Me.WT W) (sp:∀u,Below W.heap.size W u->Me.tH u) (len:q.length<=1000000):
 Calls Tryz.prog 13 #[ε (some ⟨s,0,none⟩),γ nm] W λe w'=>(∃va,e=η (.tuple #[.agg #[va],θ ι 0])/\rY w' va ar/\De.Tm va)/\Below W.heap.size W w':=by
 have J:=pM W (ζ #[δ none 0 0] 24);have T:=K J;have X:=K (pG W (ζ #[δ none 0 0] 24));have a0:=K N;have V:=K (show(⟨q.toArray⟩:ν).size=q.length by simp[ByteArray.size]);have A:=K a2;have h:=K (λu (b:Below W.heap.size W u)=>KT (H.below b) ok (nm++qV) (by rw[wZ];omega));rw[M] at h
 have l:=K (λu (b:Below W.heap.size W u)=>De.Tn ⟨q.toArray⟩ ar u ⟨(wt.below b).u8,(wt.below b).lt⟩ (by rw[V.o];omega) (by rw[d]) (Jv.jA_ok pe.ok) js (jA_js ar) pe.len pe.pU pe.path
  (λx v O f=>by
    have I:=Gy x v ar ⟨f,pe,js,wt.below (pK b O),λa6 a3=>sp a6 (pK (pK b O) a3),by rw[d];exact len⟩;rw[d] at I;exact I))
 obtain⟨Q,o⟩:∃Q:ν,(⟨q.toArray⟩:ν)=Q:=⟨_,rfl⟩;have U:=K o;rw[o] at l;clear o;clear J H ok N M pe js wt sp;have aa:=λw=>run_string_add_sum (P:=Tryz.prog) w nm ⟨#[46,106,115,111,110]⟩ (by rw[show(⟨#[46,106,115,111,110]⟩:ν).size=5 from rfl];omega)
 unfold qV at h
 go_enter Tryz.func13,Tryz.ntmps13
 go_wp2_with fail
 refine(A.o _).mono ?_;rintro e a5⟨rfl,r⟩;have m:=pR T r;have Y:=K (pW r X.o);have a7:a5.cell? ⟨s,0,none⟩=some (ε (some ⟨F,0,none⟩)):=pI a0.o m.o;clear r A
 go_wp2_with fail
 refine(h.o _ m.o).mono ?_;rintro e ae⟨v,rfl,f,-,t⟩;obtain⟨a8,ag,af,rfl⟩:=Rd.slice f;have k:=f.conv;have L:(⟨((q,(0:Int)).1).toArray⟩:ν)=Q:=U.o;rw[L] at k;have C:=pR m t;have Z:=K (pW t Y.o);clear f t h a7 L
 go_wp2_with fail
 refine(l.o _ C.o).mono ?_;rintro e S⟨⟨va,rfl,z,k⟩,y⟩;have c:=pR C y;have i:=K (pW y Z.o);obtain⟨g,ac,G,cap,rfl,-,-⟩:=Mw.qF z;have E:=K z;have D:=K k;have ad:=Me.pJ (j:=0) i.o rfl;have a9:=ny S _ 0 _ _ i.o;clear y l z k;generalize ar.length=R at E D|-
 go_wp2_with fail
 have a4:=oO S W.heap.size 0 _ _ (δ G R cap) i.o;refine ow (De.yM rfl _ _ W.heap.size _ _ _ _ rfl a4 Tryz.underlying24 rfl (by kernel_rfl)) rfl ?_;exact⟨⟨δ G R cap,rfl,O5 i.o E.o,D.o⟩,⟨c.o.os,c.o.tape,c.o.output,by simpa using c.o.size,λq d=>(pz _ _ _ _ (show q≠W.heap.size by omega)).trans (c.o.block q d)⟩⟩
end Ms
end Go.Proofs.YthbhmjdcfocphaaGreatDoor
