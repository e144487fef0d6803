/- A part of this proof. -/
import Derived.StillTailTactics
import Derived.Test.YthbhmjdcfocphaaGreatDoorKA
set_option linter.all false
set_option maxHeartbeats 16000000
set_option maxRecDepth 100000
namespace Go.Proofs.YthbhmjdcfocphaaGreatDoor
open Go.Value renaming string→γ, slice→δ, pointer→H, int→O
open Go.Obj renaming cells→ζ
open Go.Ending renaming returned→η
open Go.IntKind renaming i64→ι
open Go.Lib renaming cell_of_heap→N, IsBuilder→M, byteCells→Γ, BuilderAt→Δ, frozen_of_heap→ς, strCells→av
open Option renaming none→K, some→G
open Go.Proofs.Tryz renaming prog→L, underlying84→Λ, underlying216→Ξ, underlying68→Ω, ntmps76→ο, func76→aj
open Go renaming World→I, Value→J, Calls→ah
namespace LY
open RowKit
abbrev TB:TypeId:=179
abbrev TU:TypeId:=5
def Ey:(Tryz.prog.info? 86).map (·.size)=G 2:=by kernel_rfl
def Mi:liesAt L Tryz.prog.depth 179 (2/Tryz.prog.cellsOf 179) 0 86 1=true:=by kernel_rfl
def An:(Tryz.prog.info? 5).map (λi=>(i.zero,i.size,i.bytes))=G (G (.int .u8 0),1,1):=by kernel_rfl
def own_below{w w':I}{base:Nat}{e:TypeId}{v:J}{n:Nat}{c:List J}(b:w.ownsRow base e 1 v n c)(a:Below w.heap.size w w'):w'.ownsRow base e 1 v n c:=
 b.kept (row:=K) ⟨a.os,a.tape,a.output,a.size,λk d _=>a.block k d⟩ (by
  rcases b.2 with⟨rfl,_⟩|⟨g,cap,f,rfl,_⟩
  ·left;rfl
  ·right;simp[Value.ownBlock])
def vQ{B b:Nat}{p:J}{a:List J}{w w':I}(e:Δ TB TU B b p a w)(d:Below w.heap.size w w'):Δ TB TU B b p a w':=by obtain⟨f,v,c,g,h⟩:=e;exact⟨f,v,by rw[d.block b ((Array.getElem?_eq_some_iff.1 c).1)];exact c,own_below g d,h⟩
def sZ{B b:Nat}{c:List J}{w w':I}(a:M TB TU B b c w)(d:Below w.heap.size w w'):M TB TU B b c w':=by
 rcases a with a|a
 ·exact .inl (vQ a d)
 ·exact .inr (vQ a d)
def is_lt{B b:Nat}{c:List J}{w:I}(a:M TB TU B b c w):B<=b/\b<w.heap.size:=by
 rcases a with a|a
 ·exact⟨a.1,a.lt⟩
 ·exact⟨a.1,a.lt⟩
def Fz(b:Nat)(w w':I):Prop:=∀k cs t a,w.heap[k]?=G (Obj.cells cs t a)->k≠b->t≠TU->w'.heap[k]?=w.heap[k]?
def Fz.refl(b:Nat)(w:I):Fz b w w:=λ_ _ _ _ _ _ _=>rfl
def Fz.trans{b:Nat}{u v w:I}(g:Fz b u v)(k:Fz b v w):Fz b u w:=λi cs t a c d f=>by
 have e:=g i cs t a c d f;rw[k i cs t a (by rw[e];exact c) d f,e]
def Fz.qd{b:Nat}{u v:I}(c:Below u.heap.size u v):Fz b u v:=λi cs t d a _ _=>c.block i (by rcases mC i u.heap.size with g|g;exact g;rw[lT g] at a;cases a)
def Fz.set{b:Nat}{u v:I}(d:Fz b u v)(j:Nat)(x:J):Fz b u (v.setCell ⟨b,j,K⟩ x):=λi cs t c e a f=>by
 rw[pz _ _ _ _ a];exact d i cs t c e a f
def Fz.grow{B b n:Nat}{u v w:I}{s:J}{q:List J}(k:Fz b u v)(p:v.ownsRow B TU 1 s n q)(m:v.grownBy w s.ownBlock):Fz b u w:=λi cs t d f l h=>by
 have e:=k i cs t d f l h;have a:v.heap[i]?=G (Obj.cells cs t d):=by rw[e];exact f
 have o:i<v.heap.size:=by
  rcases mC i v.heap.size with g|g
  ·exact g
  ·rw[lT g] at a;cases a
 rw[m.block i o ?_,e];intro c;rcases p.2 with⟨rfl,_⟩|⟨g,cap,r,rfl,_,j,_⟩
 ·cases c
 ·cases c
  rw[a] at j;cases j;exact h rfl
def xq(b:Nat)(w:I)(c:w.cell? ⟨b,0,K⟩=G (H (G ⟨b,0,K⟩))):
 ah L 76 #[H (G ⟨b,0,K⟩)] w λe w'=>e=η (.tuple #[])/\w'=w:=by
 obtain⟨j,a,_⟩:=Option.map_eq_some_iff.1 Ey
 go_enter aj,ο
 go_wp2
 rw[Lib.run_neq_ptr_same w _ Λ a]
 go_wp2
 go_end0
 exact⟨rfl,rfl⟩
def vR(b:Nat)(w:I)(f:w.cell? ⟨b,0,K⟩=G (H K))(c:w.shape? b=G (TB,2))(g:w.frozen? ⟨b,0,K⟩=false):
 ah L 76 #[H (G ⟨b,0,K⟩)] w λe w'=>e=η (.tuple #[])/\w'=w.setCell ⟨b,0,K⟩ (H (G ⟨b,0,K⟩)):=by
 obtain⟨j,a,d⟩:=Option.map_eq_some_iff.1 Ey
 go_enter aj,ο
 go_wp2
 rw[Lib.run_to_unsafe w ⟨b,0,K⟩ Λ Ξ a (by rw[d];decide) c (iL 1)];simp only[Result.andThen];rw[k_]
 go_wp2
 rw[run_callFunc_extern Tryz.func139 (by kernel_rfl) (by kernel_rfl) (by kernel_rfl) (e:=Extern.AbiNoEscape.same) (by kernel_rfl)];rw[Lib.run_noEscape];simp only[Result.andThen];rw[k_]
 go_wp2
 rw[Lib.run_from_unsafe w ⟨b,0,K⟩ Ξ Λ a c Mi];simp only[Result.andThen];rw[k_]
 go_wp2
 go_end0
 exact⟨rfl,rfl⟩
def tu(B b:Nat)(c:List J)(w:I)(a:M TB TU B b c w):
 ah L 76 #[H (G ⟨b,0,K⟩)] w λe w'=>e=η (.tuple #[])/\(Δ TB TU B b (H (G ⟨b,0,K⟩)) c w'/\Below B w w'/\Fz b w w'):=by
 rcases a with a|a
 ·refine(vR b w a.cell0 a.shape a.frozen0).mono ?_
  rintro e w'⟨rfl,rfl⟩;exact⟨rfl,a.used _,(pH B w).setCell (p:=⟨b,0,K⟩) a.1 _,(Fz.refl b w).set 0 _⟩
 ·refine(xq b w a.cell0).mono ?_
  rintro e w'⟨rfl,rfl⟩;exact⟨rfl,a,pH B _,Fz.refl b _⟩
def uY(B b:Nat)(a:List J)(c:Int)(w:I)(s:M TB TU B b a w)(a0:a.length+1<=140737488355328)(Z:B<=w.heap.size):
 ah L 198 #[H (G ⟨b,0,K⟩),.int .u8 c] w λe w'=>e=η .nilIface/\(M TB TU B b (a++[.int .u8 c]) w'/\Below B w w'/\Fz b w w'):=by
 obtain⟨Q,y,E,F,P⟩:=info_parts An
 go_enter Tryz.func198,Tryz.ntmps198
 go_wp2_with fail
 refine(tu B b a _ s).mono ?_;rintro e d⟨rfl,t,q,x⟩;obtain⟨o,v,h,n,C⟩:=t;have S:d.cell? ⟨b,0,K⟩=G (H (G ⟨b,0,K⟩)):=by rw[N h];rfl
 have c1:d.cell? ⟨b,1,K⟩=G v:=by rw[N h];rfl
 have a1:=q.size
 go_wp2_with(at_builtin;refine mJ _ rfl _ _ 68 rfl B 5 Q (.int .u8 0) 1 1 Ω y E F P rfl (by decide) _ _ _ rfl (n.alloc _) ⟨d.heap.size,0,K⟩ 1 1 [.int .u8 c] rfl rfl ?c1 ?c2 ?c3 ?c4 ?c5 ?_)
 case c1=>
  intro j u i
  match j,i with
  |0,i=>simp at i;subst i;simp[Addr.add]
 case c2=>intro u hu;simp at hu;subst hu;rfl
 case c3=>unfold maxLen;omega
 case c4=>omega
 case c5=>simp;omega
 intro R l r m _;have A:b<d.heap.size:=(Array.getElem?_eq_some_iff.1 h).1
 have f:l.heap[b]?=G (ζ #[H (G ⟨b,0,K⟩),v] TB (0,0)):=by rw[m.block b (by simp;omega) (λe=>C e.symm),Lib.alloc_old d _ b A];exact h
 have V:l.cell? ⟨b,0,K⟩=G (H (G ⟨b,0,K⟩)):=by rw[N f];rfl
 have W:l.cell? ⟨b,1,K⟩=G v:=by rw[N f];rfl
 have X:l.frozen? ⟨b,1,K⟩=false:=ς f 1
 obtain⟨g,cap,rfl⟩:∃g cap,R=δ (G ⟨g,0,K⟩) (a.length+1) cap:=by
  rcases r.2 with⟨_,Y⟩|⟨g,cap,U,D,_⟩
  ·omega
  ·exact⟨g,cap,D⟩
 go_wp2
 go_ret;refine⟨rfl,.inr ?_,?_,?_⟩
 ·exact Lib.BuilderAt.put (T:=TB) (e:=TU) o f (bs':=a++[.int .u8 c]) (by simpa using r) (by decide)
 ·exact((q.alloc (by omega) _).grown m (by simp;omega) (λk z=>(n.lt k z).1)).setCell (p:=⟨b,1,K⟩) o _
 ·exact((x.trans (Fz.qd (pM d _))).grow (n.alloc _) m).set 1 _
def writeString(B b:Nat)(a:List J)(s:ByteArray)(w:I)(t:M TB TU B b a w)(Y:a.length+s.size<=140737488355328)(X:B<=w.heap.size):
 ah L 41 #[H (G ⟨b,0,K⟩),γ s] w λe w'=>e=η (.tuple #[O ι s.size,.nilIface])/\(M TB TU B b (a++av s) w'/\Below B w w'/\Fz b w w'):=by
 obtain⟨P,y,D,E,F⟩:=info_parts An
 go_enter Tryz.func41,Tryz.ntmps41
 go_wp2_with fail
 refine(tu B b a _ t).mono ?_;rintro e l⟨rfl,u,o,x⟩;obtain⟨n,v,d,i,C⟩:=u;have R:l.cell? ⟨b,0,K⟩=G (H (G ⟨b,0,K⟩)):=by rw[N d];rfl
 have c1:l.cell? ⟨b,1,K⟩=G v:=by rw[N d];rfl
 have Z:=o.size
 go_wp2_with(at_builtin;refine Lib.wpList_append_own_string _ rfl _ _ 68 9 rfl B 5 P Ω Tryz.underlying9 y D E F _ _ _ rfl i s rfl ?c3 ?c4 ?c5 ?_)
 case c3=>unfold maxLen;omega
 case c4=>omega
 case c5=>omega
 intro Q f q h _;have A:b<l.heap.size:=(Array.getElem?_eq_some_iff.1 d).1
 have c:f.heap[b]?=G (ζ #[H (G ⟨b,0,K⟩),v] TB (0,0)):=by rw[h.block b A (λe=>C e.symm)];exact d
 have U:f.cell? ⟨b,0,K⟩=G (H (G ⟨b,0,K⟩)):=by rw[N c];rfl
 have V:f.cell? ⟨b,1,K⟩=G v:=by rw[N c];rfl
 have W:f.frozen? ⟨b,1,K⟩=false:=ς c 1
 obtain⟨m,r,cap,rfl⟩:∃m r cap,Q=δ m r cap:=by
  rcases q.2 with⟨j,_⟩|⟨g,cap,S,j,_⟩
  ·exact⟨_,_,_,j⟩
  ·exact⟨_,_,_,j⟩
 go_wp2
 go_ret2;refine⟨rfl,.inr ?_,?_,?_⟩
 ·exact Lib.BuilderAt.put (T:=TB) (e:=TU) n c (bs':=a++av s) (by simpa [Lib.strCells_length] using q) (by decide)
 ·exact(o.grown h (by omega) (λk z=>(i.lt k z).1)).setCell (p:=⟨b,1,K⟩) n _
 ·exact(x.grow i h).set 1 _
def Tg(B b:Nat)(l:List UInt8)(w:I)(a:M TB TU B b (Γ l) w)(c:l≠[])(R:l.length<=140737488355328):
 ah L 42 #[H (G ⟨b,0,K⟩)] w λe w'=>e=η (γ ⟨l.toArray⟩)/\Below B w w':=by
 obtain⟨p,C,v,i,h,y⟩:∃p,Δ TB TU B b p (Γ l) w:=by
  rcases a with a|a
  ·exact⟨_,a⟩
  ·exact⟨_,a⟩
 have S:0<l.length:=List.length_pos_iff.2 c;rw[Lib.byteCells_length] at h;rcases h.2 with⟨_,A⟩|⟨g,cap,z,rfl,t,f,u,F,n,o⟩
 ·omega
 have c1:w.cell? ⟨b,1,K⟩=G (δ (G ⟨g,0,K⟩) l.length cap):=by rw[N i];rfl
 have D:(Builtin.unsafeSliceData_ #[68] 141 #[δ (G ⟨g,0,K⟩) l.length cap]).run L w.drew= .ok (H (G ⟨g,0,K⟩)) w.drew:=Lib.run_unsafeSliceData_row _ _ _ _ _ _ (by omega)
 have k:∀j x,l[j]?=G x->w.drew.cell? ((⟨g,0,K⟩:Addr).add j)=G (.int .u8 x.toNat):=by
  intro j x q;have e:((⟨g,0,K⟩:Addr).add j)=⟨g,j,K⟩:=(by simp[Addr.add];omega);rw[e]
  show w.cell? _=_
  unfold World.cell?;simp only[f];have Q:j<l.length:=(List.getElem?_eq_some_iff.1 q).1;have d:=nT (λm:List J=>m[j]?) o;simp only[mG,oD (show j<l.length*1 by omega)] at d;have s:(Γ l)[j]?=G (.int .u8 x.toNat):=(by simp[Γ,q]);rw[s] at d;simpa using d
 have E:=Lib.run_unsafeString_row (P:=L) (w:=w.drew) 141 3 9 5 Tryz.underlying141 (by kernel_rfl) g cap (by have e:w.drew.heap[g]?=_:=f;unfold World.shape?;rw[e];simp[n]) l c u (by omega) k;have r:=Lib.hid (Lib.below_freeze (B:=B) ((pH B w).drew) (p:=⟨g,0,K⟩) t l.length);clear k i h f y o a n c
 go_enter Tryz.func42,Tryz.ntmps42
 go_wp2_with fail
 go_still_tail 10,(by kernel_rfl)
 change wpList _ _ _ _ _ w.drew
 go_wp2_with fail
 go_ret;exact⟨rfl,r.o⟩
end LY
end Go.Proofs.YthbhmjdcfocphaaGreatDoor
