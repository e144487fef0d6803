/- A part of this proof. -/
import Derived.Test.YthbhmjdcfocphaaGreatDoorKB
set_option linter.all false
set_option maxHeartbeats 16000000
namespace Go.Proofs.YthbhmjdcfocphaaGreatDoor
open Go.Value renaming string→γ, slice→δ, pointer→ε, int→θ
open Go.Obj renaming cells→ζ
open Go.Ending renaming returned→η
open Go.IntKind renaming i64→ι
open _root_ renaming ByteArray→G, List→K, absurd→L, UInt8→M, Nat→J
open Mo renaming Fd→H, En→O
open Go.Op renaming bytesLess→N
open Bool renaming true→I
namespace Mg
section
variable {α:Type}
def Ih{R:α->α->Prop}(VA:∀a,¬R a a)(tr:∀a b c,R a b->R b c->R a c):∀{l m:K α},l.Pairwise R->m.Pairwise R->(∀x,x∈l↔x∈m)->l=m
 |[],[],_,_,_=>rfl
 |[],y::m,_,_,h=>L ((h y).2 (oL ..)) (by simp)
 |x::l,[],_,_,h=>L ((h x).1 (oL ..)) (by simp)
 |x::l,y::m,hl,hm,h=>by
  rw[mH] at hl hm
  have e:x=y:=by
   rcases List.mem_cons.1 ((h x).1 (oL ..)) with e|d
   ·exact e
   ·rcases List.mem_cons.1 ((h y).2 (oL ..)) with e|i
    ·exact e.symm
    ·exact L (tr _ _ _ (hl.1 _ i) (hm.1 _ d)) (VA _)
  subst e;refine nT _ (Ih VA tr hl.2 hm.2 λz=>?_);have g:=h z;rw[ox,ox] at g;refine⟨λf=>?_,λf=>?_⟩
  ·rcases g.1 (.inr f) with e|d
   ·subst e;exact L (hl.1 _ f) (VA _)
   ·exact d
  ·rcases g.2 (.inr f) with e|d
   ·subst e;exact L (hm.1 _ f) (VA _)
   ·exact d
structure Ord(cmp:α->α->Int)(key:α->G):Prop where
 VA:∀a,¬cmp a a<0
 tr:∀a b c,cmp a b<0->cmp b c<0->cmp a c<0
 tot:∀a b,key a≠key b->cmp a b<0\/cmp b a<0
variable (cmp:α->α->Int)(key:α->G)(sS:α->α->α)
def of(k:G)(a:K α):K α:=a.filter λx=>decide (key x=k)
def cm:K α->Option α
 |[]=>none
 |x::r=>some (r.foldl sS x)
structure Cb(xs out:K α):Prop where
 so:out.Pairwise λa b=>cmp a b<0
 el:∀y,y∈out↔∃x∈xs,cm sS (of key (key x) xs)=some y
variable {cmp key sS}
def Cb.ext(o:Ord cmp key){e l m:K α}(c:Cb cmp key sS e l)(d:Cb cmp key sS e m):l=m:=
 Ih (R:=λa b=>cmp a b<0) o.VA o.tr c.so d.so λx=>(c.el x).trans (d.el x).symm
def Kp(key:α->G)(sS:α->α->α):Prop:=∀a b,key a=key b->key (sS a b)=key a
def Oj(b:Kp key sS){k:G}:∀(r:K α)(x:α),key x=k->(∀a∈r,key a=k)->key (r.foldl sS x)=k
 |[],x,h,_=>h
 |a::r,x,h,hr=>Oj b r (sS x a) ((b x a (by rw[h,hr a (oL ..)])).trans h) λz c=>hr z (oH _ c)
def A8(d:Kp key sS){k:G}{l:K α}{c:α}(a:cm sS l=some c)(b:∀x∈l,key x=k):key c=k:=by
 cases l with
 |nil=>cases a
 |cons x r=>
  injection a with a
  subst a;exact Oj d r x (b x (oL ..)) λz e=>b z (oH _ e)
def wz{k:G}{b:K α}:∀x∈of key k b,key x=k:=λx a=>by
 have:=(List.mem_filter.1 a).2;simpa using this
def of_ne{k:G}{a:K α}{x:α}(c:x∈a)(b:key x=k):of key k a≠[]:=by intro e;have:x∈of key k a:=List.mem_filter.2 ⟨c,by simpa using b⟩;rw[e] at this;cases this
def cm_snoc{l:K α}{e:α}:cm sS (l++[e])=some (match cm sS l with|none=>e|some y=>sS y e):=by
 cases l with
 |nil=>rfl
 |cons x r=>simp[cm,lK]
def BL{k:G}{b:K α}{e:α}:of key k (b++[e])=if key e=k then of key k b++[e] else of key k b:=by
 unfold of;rw[List.filter_append]
 by_cases a:key e=k
 ·rw[oD a];simp[a]
 ·rw[oU a];simp[a]
def Cb.one(i:Kp key sS){n f:K α}(g:Cb cmp key sS n f){a b:α}(l:a∈f)(m:b∈f)(e:key a=key b):a=b:=by
 obtain⟨x,p,c⟩:=(g.el a).1 l;obtain⟨o,q,h⟩:=(g.el b).1 m;have j:=A8 i c (λz d=>wz z d);have k:=A8 i h (λz d=>wz z d);rw[show key x=key o by rw[<-j,<-k,e],h] at c;injection c with c
 exact c.symm
variable (cmp)
def ins(e:α):K α->K α
 |[]=>[e]
 |x::r=>if cmp e x<0 then e::x::r else x::ins e r
variable {cmp}
def vP{e b:α}:∀{l:K α},b∈ins cmp e l↔b=e\/b∈l
 |[]=>by simp[ins]
 |x::r=>by
  unfold ins
  split
  ·simp
  ·rw[ox,vP,ox]
   constructor
   ·rintro(a|a|a)
    ·exact .inr (.inl a)
    ·exact .inl a
    ·exact .inr (.inr a)
   ·rintro(a|a|a)
    ·exact .inr (.inl a)
    ·exact .inl a
    ·exact .inr (.inr a)
def Zb(o:Ord cmp key){e:α}:∀{l:K α},l.Pairwise (λa b=>cmp a b<0)->(∀x∈l,key x≠key e)->(ins cmp e l).Pairwise (λa b=>cmp a b<0)
 |[],_,_=>List.pairwise_singleton _ _
 |x::r,h,hn=>by
  unfold ins;rw[mH] at h
  split
  ·rename_i d
   rw[mH,mH];refine⟨λf c=>?_,h⟩;rcases List.mem_cons.1 c with rfl|c
   ·exact d
   ·exact o.tr _ _ _ d (h.1 f c)
  ·rename_i d
   rw[mH];refine⟨λf c=>?_,Zb o h.2 λz i=>hn z (oH _ i)⟩;rcases vP.1 c with rfl|c
   ·rcases o.tot x f (hn x (oL ..)) with g|g
    ·exact g
    ·exact L g d
   ·exact h.1 f c
variable (cmp key sS)
def Fw(l:K α)(e:α):K α:=ins cmp ((of key (key e) l).foldl (λe x=>sS x e) e) (l.filter λx=>decide (key x≠key e))
variable {cmp key sS}
def Cb.nil:Cb cmp key sS [] []:=⟨List.Pairwise.nil,λa=>by simp⟩
def Cb.of(o:Ord cmp key)(n:Kp key sS){l d:K α}(i:Cb cmp key sS l d)(k:G):Mg.of key k d=match cm sS (Mg.of key k l) with|none=>[]|some c=>[c]:=by
 cases e:cm sS (Mg.of key k l) with
 |none=>
  show Mg.of key k d=[]
  rw[List.eq_nil_iff_forall_not_mem];intro c h;have j:=wz c h;obtain⟨x,q,m⟩:=(i.el c).1 (List.mem_filter.1 h).1;have v:=A8 n m (λz f=>wz z f);rw[show key x=k by rw[<-v,j],e] at m
  cases m
 |some c=>
  show Mg.of key k d=[c]
  have h:c∈d:=by
   have y:Mg.of key k l≠[]:=λu=>by rw[u] at e;cases e
   obtain⟨x,q⟩:=jw _ y;have A:=wz x q;exact(i.el c).2 ⟨x,(List.mem_filter.1 q).1,by rw[A];exact e⟩
  have t:key c=k:=A8 n e (λz f=>wz z f);have g:∀z∈Mg.of key k d,z=c:=λz f=>i.one n (List.mem_filter.1 f).1 h (by rw[wz z f,t])
  have s:c∈Mg.of key k d:=List.mem_filter.2 ⟨h,by simpa using t⟩;have p:(Mg.of key k d).Pairwise (λa b=>cmp a b<0):=i.so.filter _
  match hL:Mg.of key k d with
  |[]=>rw[hL] at s;cases s
  |[z]=>rw[hL] at g;rw[g z (oL ..)]
  |z::w::r=>rw[hL] at g p;rw[mH] at p;have j:=p.1 w (oL ..);rw[g z (oL ..),g w (oH _ (oL ..))] at j;exact L j (o.VA _)
def foldl_nil{e:α}{f:α->α->α}:([]:K α).foldl f e=e:=rfl
def Cb.add(o:Ord cmp key)(k:Kp key sS){h g:K α}(j:Cb cmp key sS h g)(e:α):Cb cmp key sS (h++[e]) (Fw cmp key sS g e):=by
 obtain⟨c,q⟩:∃c,(Mg.of key (key e) g).foldl (λe x=>sS x e) e=c:=⟨_,rfl⟩
 have n:cm sS (Mg.of key (key e) (h++[e]))=some c:=by rw[BL,oD rfl,cm_snoc,<-q,j.of o k];cases cm sS (Mg.of key (key e) h)<;>rfl
 have u:key c=key e:=A8 k n λz f=>wz z f
 have t:Fw cmp key sS g e=ins cmp c (g.filter λx=>decide (key x≠key e)):=by unfold Fw;rw[q]
 rw[t];refine⟨Zb o (j.so.filter _) λx b=>?_,λi=>?_⟩
 ·have:=(List.mem_filter.1 b).2
  rw[u];simpa using this
 ·rw[vP]
  constructor
  ·rintro(rfl|w)
   ·exact⟨e,by simp,n⟩
   ·obtain⟨a,r⟩:=List.mem_filter.1 w
    have s:key i≠key e:=(by simpa using r);obtain⟨x,b,p⟩:=(j.el i).1 a;have m:key i=key x:=A8 k p λz f=>wz z f
    exact⟨x,kL _ b,by rw[BL,oU (λl=>s (by rw[m,l]))];exact p⟩
  ·rintro⟨x,b,a⟩
   by_cases d:key e=key x
   ·rw[<-d,n] at a
    injection a with a
    exact .inl a.symm
   ·rw[BL,oU d] at a
    have v:x∈h:=by
     rcases List.mem_append.1 b with b|b
     ·exact b
     ·rw[List.mem_singleton.1 b] at d;exact L rfl d
    have m:key i=key x:=A8 k a λz f=>wz z f
    exact .inr (List.mem_filter.2 ⟨(j.el i).2 ⟨x,v,a⟩,by simpa [m] usingλl=>d l.symm⟩)
def Cb.TA(o:Ord cmp key)(c:Kp key sS):∀(es:K α){b a:K α},Cb cmp key sS b a->Cb cmp key sS (b++es) (es.foldl (Fw cmp key sS) a)
 |[],b,a,h=>by simpa using h
 |e::es,b,a,h=>by
  have:=Cb.TA o c es (h.add o c e);rw[m_] at this;exact this
def Cb.self{l:K α}(j:l.Pairwise λa b=>cmp a b<0)(d:(l.map key).Nodup):Cb cmp key sS l l:=by
 refine⟨j,λi=>?_⟩
 have g:∀(l:K α),(l.map key).Nodup->∀x∈l,Mg.of key (key x) l=[x]:=by
  intro l
  induction l with
  |nil=>intro _ x c;cases c
  |cons a r ih=>
   intro d x c;rw[ou,iF] at d;unfold Mg.of;rcases List.mem_cons.1 c with rfl|c
   ·rw[mR (by simp)]
    have:r.filter (λz=>decide (key z=key x))=[]:=by rw[jM];intro z k f;exact d.1 (List.mem_map.2 ⟨z,k,by simpa using f⟩)
    rw[this]
   ·rw[mQ (by
     intro f;exact d.1 (List.mem_map.2 ⟨x,c,(by simpa using f:key a=key x).symm⟩))]
    exact ih d.2 x c
 constructor
 ·intro h
  exact⟨i,h,by rw[g l d i h];rfl⟩
 ·rintro⟨x,c,e⟩
  rw[g l d x c] at e;injection e with e
  rw[<-e];exact c
end
end Mg
namespace Mg
open Mo
def G8:∀l:K M,N l l=false
 |[]=>rfl
 |a::r=>by simp[N,G8 r]
def XI:∀{l m n:K M},N l m=I->N m n=I->N l n=I
 |_,[],_,d,_=>by simp[N] at d
 |_,_::_,[],_,d=>by simp[N] at d
 |[],_::_,_::_,_,_=>rfl
 |a::l,b::m,c::n,d,k=>by
  simp only[N,lg,oz,nP,kG] at d k|-;rcases d with d|⟨rfl,d⟩
  ·rcases k with k|⟨rfl,k⟩
   ·exact .inl (UInt8.lt_trans d k)
   ·exact .inl d
  ·rcases k with k|⟨rfl,k⟩
   ·exact .inl k
   ·exact .inr ⟨rfl,XI d k⟩
def P5:∀{l m:K M},l≠m->N l m=I\/N m l=I
 |[],[],h=>L rfl h
 |[],_::_,_=> .inl rfl
 |_::_,[],_=> .inr rfl
 |a::l,b::m,h=>by
  simp only[N,lg,oz,nP,kG];rcases Nat.lt_trichotomy a.toNat b.toNat with g|g|g
  ·exact .inl (.inl (UInt8.lt_iff_toNat_lt.2 g))
  rotate_left
  ·exact .inr (.inl (UInt8.lt_iff_toNat_lt.2 g))
  ·obtain rfl:=UInt8.toNat_inj.1 g
   rcases P5 (l:=l) (m:=m) (λe=>h (by rw[e])) with k|k
   ·exact .inl (.inr ⟨rfl,k⟩)
   ·exact .inr (.inr ⟨rfl,k⟩)
def BM{a b:G}:tS a b<0↔N a.toList b.toList=I:=by
 unfold tS
 split
 ·rename_i c;simp[c]
 ·rename_i c
  split<;>simp[c]
def Va{a b:G}:tS a b=0↔a.toList=b.toList:=by
 unfold tS
 split
 ·rename_i c
  constructor
  ·intro e;cases e
  ·intro e;rw[e,G8] at c;cases c
 ·split
  ·rename_i c;simpa using c
  ·rename_i c;constructor
   ·intro e;cases e
   ·intro e;rw[e] at c;simp at c
def vO{a b:G}(c:a.toList=b.toList):a=b:=by rw[ByteArray.toList_eq,ByteArray.toList_eq] at c;obtain⟨⟨x⟩⟩:=a;obtain⟨⟨d⟩⟩:=b;simp at c;rw[c]
def F0{a b c:G}(d:tS a b<0)(k:tS b c<0):tS a c<0:=BM.2 (XI (BM.1 d) (BM.1 k))
def Ii(a:G):¬tS a a<0:=λb=>by have:=BM.1 b;rw[G8] at this;cases this
def A_{a b:G}(c:a≠b):tS a b<0\/tS b a<0:=by
 rcases P5 (l:=a.toList) (m:=b.toList) (λe=>c (vO e)) with g|g
 ·exact .inl (BM.2 g)
 ·exact .inr (BM.2 g)
def zZ{a b:O}:rS a b<0↔b.upd<a.upd\/(a.upd=b.upd/\tS a.id b.id<0):=by
 unfold rS
 split
 ·rename_i c;constructor
  ·intro _;exact .inl c
  ·intro _;omega
 ·split
  ·rename_i d f;constructor
   ·intro e;omega
   ·rintro(g|⟨g,-⟩)<;>omega
  ·rename_i d f;constructor
   ·intro g;exact .inr ⟨by omega,g⟩
   ·rintro(g|⟨-,g⟩)
    ·omega
    ·exact g
def AA:Ord rS (λe:O=>e.id) where
 VA a d:=by
  rcases zZ.1 d with g|⟨-,g⟩
  ·omega
  ·exact Ii _ g
 tr a b c d k:=by
  rw[zZ] at d k|-;rcases d with d|⟨d,f⟩
  ·rcases k with k|⟨k,-⟩<;>exact .inl (by omega)
  ·rcases k with k|⟨k,k'⟩
   ·exact .inl (by omega)
   ·exact .inr ⟨by omega,F0 f k'⟩
 tot a b d:=by
  rw[zZ,zZ];rcases Int.lt_trichotomy a.upd b.upd with g|g|g
  ·exact .inr (.inl g)
  ·rcases A_ d with k|k
   ·exact .inl (.inr ⟨g,k⟩)
   ·exact .inr (.inr ⟨g.symm,k⟩)
  ·exact .inl (.inl g)
def BN:∀{a b:K G},q8 a b=0↔a=b
 |[],[]=>by simp[q8]
 |[],_::_=>by simp[q8]
 |_::_,[]=>by simp[q8]
 |a::r,b::s=>by
  unfold q8
  split
  ·rename_i c
   obtain rfl:=vO (a:=a) (b:=b) (by simpa using c);rw[BN];simp
  ·rename_i c
   have:a≠b:=λe=>c (by rw[e];simp)
   constructor
   ·intro e;exact L (vO (Va.1 e)) this
   ·intro e;injection e with e;exact L e this
def SQ:∀{a b c:K G},q8 a b<0->q8 b c<0->q8 a c<0
 |[],[],_,h,_=>by simp[q8] at h
 |_::_,[],_,h,_=>by simp[q8] at h
 |_,_::_,[],_,k=>by simp[q8] at k
 |[],_::_,_::_,_,_=>by simp[q8]
 |a::r,b::s,c::u,h,k=>by
  unfold q8 at h k|-
  by_cases e:(a.toList==b.toList)=I
  ·obtain rfl:=vO (by simpa using e)
   rw[oD e] at h
   by_cases d:(a.toList==c.toList)=I
   ·rw[oD d] at k|-;exact SQ h k
   ·rw[oU d] at k|-;exact k
  ·rw[oU e] at h
   by_cases d:(b.toList==c.toList)=I
   ·obtain rfl:=vO (by simpa using d)
    rw[oU e];exact h
   ·rw[oU d] at k
    have f:¬(a.toList==c.toList)=I:=λf=>by
     obtain rfl:=vO (by simpa using f);exact Ii _ (F0 h k)
    rw[oU f];exact F0 h k
def Zc(a:K G):¬q8 a a<0:=λb=>by rw[BN.2 rfl] at b;omega
def GZ:∀{a b:K G},a≠b->q8 a b<0\/q8 b a<0
 |[],[],h=>L rfl h
 |[],_::_,_=> .inl (by simp[q8])
 |_::_,[],_=> .inr (by simp[q8])
 |a::r,b::s,h=>by
  unfold q8
  by_cases e:(a.toList==b.toList)=I
  ·obtain rfl:=vO (a:=a) (b:=b) (by simpa using e)
   rw[oD e,oD e];exact GZ λc=>h (by rw[c])
  ·have d:¬(b.toList==a.toList)=I:=by
    intro c;have f:b.toList=a.toList:=(by simpa using c);rw[f] at e;simp at e
   rw[oU e,oU d];exact A_ λc=>e (by rw[c];simp)
def yF{a b:H}:tM a b<0↔q8 a.path b.path<0\/(a.path=b.path/\tS a.id b.id<0):=by
 unfold tM
 split
 ·rename_i c
  have d:=BN.1 c
  constructor
  ·intro g;exact .inr ⟨d,g⟩
  ·rintro(g|⟨-,g⟩)
   ·omega
   ·exact g
 ·rename_i c
  constructor
  ·intro g;exact .inl g
  ·rintro(g|⟨g,-⟩)
   ·exact g
   ·exact L (BN.2 g) c
def Fi:Ord tM (λf:H=>f.id) where
 VA a d:=by
  rcases yF.1 d with g|⟨-,g⟩
  ·exact Zc _ g
  ·exact Ii _ g
 tr a b c d k:=by
  rw[yF] at d k|-;rcases d with d|⟨d,h⟩
  ·rcases k with k|⟨k,-⟩
   ·exact .inl (SQ d k)
   ·rw[<-k];exact .inl d
  ·rcases k with k|⟨k,k'⟩
   ·rw[d];exact .inl k
   ·exact .inr ⟨d.trans k,F0 h k'⟩
 tot a b d:=by
  rw[yF,yF]
  by_cases e:a.path=b.path
  ·rcases A_ d with k|k
   ·exact .inl (.inr ⟨e,k⟩)
   ·exact .inr (.inr ⟨e.symm,k⟩)
  ·rcases GZ e with k|k
   ·exact .inl (.inl k)
   ·exact .inr (.inl k)
def vE(e:O):K M:=Jv.enc (.arr [.str e.id,.str e.title,.str e.link,.str e.content,.int e.upd])
def gL(f:H):K M:=Jv.enc (.arr [.arr (f.path.map .str),.str f.id,.str f.title,.str f.link,.int f.upd])
def rQ(a b:O):O:=if a.upd<b.upd\/(a.upd=b.upd/\N (vE a) (vE b)=I) then b else a
def sx(a b:H):H:=if a.upd<b.upd\/(a.upd=b.upd/\N (gL a) (gL b)=I) then b else a
abbrev yO(e:O):G:=e.id
abbrev yN(f:H):G:=f.id
def yh:K O->O->K O:=Fw rS yO rQ
def rI(a b:H):H:={sx a b with pU:=b.pU.foldl yh a.pU}
def ER(a b:K H):K H:=(a++b).foldl (Fw tM yN rI) []
def kpE:Kp yO rQ:=λa b c=>by
 unfold rQ
 split
 ·exact c.symm
 ·rfl
def kpF:Kp yN rI:=λa b c=>by
 show(sx a b).id=a.id
 unfold sx
 split
 ·exact c.symm
 ·rfl
def XH(a b:K H):Cb tM yN rI (a++b) (ER a b):=by
 have:=Cb.TA Fi kpF (a++b) (Cb.nil (cmp:=tM) (key:=yN) (sS:=rI))
 rwa [mw] at this
def ordK_at{α:Type}{sW:α->Bool}{cmp:α->α->Int}{id:α->G}{l:K α}(a:u6 sW cmp id l=I){k:J}(b:k<l.length):uu sW cmp id l k=I:=by
 cases e:uu sW cmp id l k with
 |true=>rfl
 |false=>have:=uv sW cmp id b e;rw[a] at this;cases this
def tE{α:Type}{sW:α->Bool}{cmp:α->α->Int}{id:α->G}(o:Ord cmp id){l:K α}(q:u6 sW cmp id l=I):(∀x∈l,sW x=I)/\l.Pairwise (λa b=>cmp a b<0)/\(l.map id).Nodup:=by
 have r:∀k(f:k<l.length),(0<k->∀g:k-1<l.length,cmp l[k-1] l[k]<0)/\∀i(d:i<k),id l[i]≠id l[k]:=by
  intro k f;have c:=ordK_at q f;unfold uu at c;rw[oW f] at c;simp only[oz] at c;obtain⟨⟨-,g⟩,h⟩:=c;refine⟨λs p=>?_,λi d e=>?_⟩
  ·rw[oU (by omega),oW p] at g
   simpa using g
  ·simp only[jt] at h
   rw[kj] at h;exact h l[i] (by rw[mP];exact⟨i,by omega,rfl⟩) (by rw[e];simp)
 have p:∀k(f:k<l.length),∀i(d:i<k),cmp l[i] l[k]<0:=by
  intro k
  induction k with
  |zero=>intro _ i d;omega
  |succ k ih=>
   intro f i d;have c:=(r (k+1) f).1 (by omega) (by omega)
   by_cases e:i=k
   ·subst e;exact c
   ·exact o.tr _ _ _ (ih (by omega) i (by omega)) c
 refine⟨vI sW cmp id q,?_,?_⟩
 ·rw[kQ]
  intro i j d n m;exact p j n i m
 ·rw[j8,kQ]
  intro i j d n m;rw[oG,oG];exact(r j (by simpa using n)).2 i m
def SR{α:Type}{sW:α->Bool}{cmp:α->α->Int}{id:α->G}{l:K α}(g:∀x∈l,sW x=I)(h:l.Pairwise (λa b=>cmp a b<0))(j:(l.map id).Nodup):u6 sW cmp id l=I:=by
 have d:∀k,k<=l.length->Az sW cmp id l k=I:=by
  intro k
  induction k with
  |zero=>intro _;rfl
  |succ k ih=>
   intro d
   show(Az sW cmp id l k&&uu sW cmp id l k)=I
   rw[ih (by omega),jr];unfold uu;rw[oW (by omega)];simp only[oz,jt];refine⟨⟨g _ (pq _),?_⟩,?_⟩
   ·by_cases e:k=0
    ·rw[oD e]
    ·rw[oU e,oW (by omega)]
     exact nK (List.pairwise_iff_getElem.1 h _ _ _ _ (by omega))
   ·rw[kj]
    intro n f;rw[mP] at f;obtain⟨i,m,rfl⟩:=f;intro e;have c:=j;rw[j8,kQ] at c;have:=c i k (by rw[oS];omega) (by rw[oS];omega) (by omega);rw[oG,oG] at this;exact this (vO (by simpa using e))
 exact d _ (oZ _)
section
variable {α:Type}{cmp:α->α->Int}{key:α->G}{sS:α->α->α}
def BJ{P:α->Prop}(d:∀a b,P a->P b->P (sS a b)):∀(r:K α)(x:α),P x->(∀c∈r,P c)->P (r.foldl sS x)
 |[],x,h,_=>h
 |c::r,x,h,hr=>BJ d r (sS x c) (d x c h (hr c (oL ..))) λz e=>hr z (oH _ e)
def Rj{P:α->Prop}(f:∀a b,P a->P b->P (sS a b)){l:K α}{e:α}(c:cm sS l=some e)(d:∀x∈l,P x):P e:=by
 cases l with
 |nil=>cases c
 |cons x r=>
  injection c with c
  subst c;exact BJ f r x (d x (oL ..)) λz g=>d z (oH _ g)
def Cb.prop{P:α->Prop}(h:∀a b,P a->P b->P (sS a b)){e d:K α}(f:Cb cmp key sS e d)(i:∀x∈e,P x):∀c∈d,P c:=λc j=>by
 obtain⟨x,l,g⟩:=(f.el c).1 j;exact Rj h g λz k=>i z (List.mem_filter.1 k).1
def Cb.nodup(k:Kp key sS)(o:Ord cmp key){l f:K α}(a:Cb cmp key sS l f):(f.map key).Nodup:=by rw[j8,jO,kQ];intro i j c d h e;have b:=List.pairwise_iff_getElem.1 a.so i j c d h;have g:=a.one k (pq c) (pq d) e;rw[g] at b;exact o.VA _ b
def SS(w:α->J)(e:α):∀l:K α,((ins cmp e l).map w).sum=w e+(l.map w).sum
 |[]=>by simp[ins]
 |x::r=>by
  unfold ins
  split
  ·simp
  ·rw[ou,mu,SS w e r,ou,mu]
   omega
def Hy(w:α->J)(c:∀a b,w (sS a b)<=w a+w b):∀(l:K α)(e:α),w (l.foldl (λe x=>sS x e) e)<=w e+(l.map w).sum
 |[],e=>by simp
 |x::r,e=>by
  have d:=Hy w c r (sS x e);have f:=c x e;rw[kP,ou,mu];omega
def Bu(w:α->J)(k:G):∀l:K α,((of key k l).map w).sum+((l.filter λx=>decide (key x≠k)).map w).sum=(l.map w).sum
 |[]=>rfl
 |x::r=>by
  have b:=Bu w k r;unfold of at b|-
  by_cases a:key x=k
  ·rw[mR (by simpa using a),mQ (by simpa using a)]
   simp only[ou,mu];omega
  ·rw[mQ (by simpa using a),mR (by simpa using a)]
   simp only[ou,mu];omega
def Zd(w:α->J)(c:∀a b,w (sS a b)<=w a+w b)(l:K α)(e:α):((Fw cmp key sS l e).map w).sum<=(l.map w).sum+w e:=by unfold Fw;rw[SS];have d:=Hy w c (of key (key e) l) e;have f:=Bu (key:=key) w (key e) l;omega
def zA(w:α->J)(c:∀a b,w (sS a b)<=w a+w b):∀(es l:K α),((es.foldl (Fw cmp key sS) l).map w).sum<=(l.map w).sum+(es.map w).sum
 |[],l=>by simp
 |e::es,l=>by
  have d:=zA w c es (Fw cmp key sS l e);have f:=Zd (cmp:=cmp) (key:=key) w c l e;rw[kP,ou,mu];omega
end
def wt_latE(a b:O):DO (rQ a b)<=DO a+DO b:=by
 unfold rQ
 split<;>omega
def Ze(a b:H):yT (rI a b)<=yT a+yT b:=by
 have c:=zA (cmp:=rS) (key:=yO) DO wt_latE b.pU a.pU;have d:yT (rI a b)=1+min ((sx a b).id.size+(sx a b).title.size+(sx a b).link.size) 9000+((sx a b).path.map Ja).sum+((b.pU.foldl yh a.pU).map DO).sum:=rfl;have e:((b.pU.foldl yh a.pU).map DO).sum<=(a.pU.map DO).sum+(b.pU.map DO).sum:=c;rw[d];unfold sx yT
 split<;>omega
def wt_mrg(a b:K H):AG (ER a b)<=AG a+AG b:=by have:=zA (cmp:=tM) (key:=yN) (sS:=rI) yT Ze (a++b) [];unfold AG ER;simpa using this
def okE_lat(a b:O)(c:zv a=I)(d:zv b=I):zv (rQ a b)=I:=by
 unfold rQ
 split
 ·exact d
 ·exact c
def RW{a b:H}(c:okF a=I):Cb rS yO rQ (a.pU++b.pU) (b.pU.foldl yh a.pU):=by
 have d:u6 zv rS (·.id) a.pU=I:=by unfold okF at c;simp only[oz] at c;exact c.2
 obtain⟨-,e,f⟩:=tE AA d;exact Cb.TA AA kpE b.pU (Cb.self e f)
def RX(a b:H)(c:okF a=I)(f:okF b=I):okF (rI a b)=I:=by
 have h:=RW (b:=b) c
 have g:okF (sx a b)=I:=by
  unfold sx
  split
  ·exact f
  ·exact c
 have i:u6 zv rS (·.id) a.pU=I:=by unfold okF at c;simp only[oz] at c;exact c.2
 have j:u6 zv rS (·.id) b.pU=I:=by unfold okF at f;simp only[oz] at f;exact f.2
 have k:u6 zv rS (·.id) (b.pU.foldl yh a.pU)=I:=by
  refine SR (h.prop (P:=λe=>zv e=I) okE_lat λx d=>?_) h.so (h.nodup kpE AA);rcases List.mem_append.1 d with d|d
  ·exact(tE AA i).1 x d
  ·exact(tE AA j).1 x d
 unfold okF at g|-;simp only[oz] at g|-;exact⟨g.1,k⟩
def okA_mrg{a b:K H}(e:Dt a=I)(g:Dt b=I):Dt (ER a b)=I:=by
 have d:=XH a b;refine SR (d.prop (P:=λf=>okF f=I) RX λx c=>?_) d.so (d.nodup kpF Fi);rcases List.mem_append.1 c with c|c
 ·exact(tE Fi e).1 x c
 ·exact(tE Fi g).1 x c
def hd(f:H):H:={f with pU:=[]}
def SU(a b:H):hd (sx a b)=sx (hd a) (hd b):=by
 show hd (if _ then b else a)=if a.upd<b.upd\/(a.upd=b.upd/\N (gL a) (gL b)=I) then hd b else hd a
 split<;>rfl
def hd_hd(a:H):hd (hd a)=hd a:=rfl
def fd_ext{a b:H}(c:hd a=hd b)(e:a.pU=b.pU):a=b:=by obtain⟨g,h,i,j,k,d⟩:=a;obtain⟨l,m,n,o,p,f⟩:=b;unfold hd at c;simp only[Mo.Fd.mk.injEq] at c e;obtain⟨rfl,rfl,rfl,rfl,rfl,-⟩:=c;rw[show d=f from e]
def keep(g:H)(r:K H):H:=r.foldl (λf a=>hd (sx f a)) g
def SV:∀(r:K H)(g:H),hd (keep g r)=(r.map hd).foldl sx (hd g)
 |[],g=>rfl
 |h::r,g=>by
  show hd (keep (hd (sx g h)) r)=_
  rw[SV r,hd_hd,SU];rfl
def SW:∀(r:K H)(g:H),hd (r.foldl rI g)=(r.map hd).foldl sx (hd g)
 |[],g=>rfl
 |h::r,g=>by
  show hd (r.foldl rI (rI g h))=_
  rw[SW r]
  show(r.map hd).foldl sx (hd (sx g h))=_
  rw[SU];rfl
def Ka:∀(r:K H)(g:H){a:K O},Cb rS yO rQ a g.pU->Cb rS yO rQ (a++r.flatMap (·.pU)) (r.foldl rI g).pU
 |[],g,a,h=>by simpa using h
 |h::r,g,a,hc=>by
  have c:Cb rS yO rQ (a++h.pU) (rI g h).pU:=Cb.TA AA kpE h.pU hc;have b:=Ka r (rI g h) c;rw[m_] at b;exact b
def Wq{g:H}{r:K H}(a:okF g=I){b:K O}(d:Cb rS yO rQ (g.pU++r.flatMap (·.pU)) b):{keep g r with pU:=b}=r.foldl rI g:=by
 have c:u6 zv rS (·.id) g.pU=I:=by unfold okF at a;simp only[oz] at a;exact a.2
 obtain⟨-,e,f⟩:=tE AA c;have h:=Ka r g (Cb.self (sS:=rQ) e f);refine fd_ext ?_ (Cb.ext AA d h);rw[SW,<-SV];rfl
end Mg
namespace Xm
open Mo
inductive T where
 |el (name:G) (attrs:K (G×G)) (kids:K T)
def rep(c:M):K M:=
 if c=38 then [38,97,109,112,59] else if c=60 then [38,108,116,59] else if c=62 then [38,103,116,59] else if c=13 then [38,35,49,51,59]
 else if c=34 then [38,113,117,111,116,59] else if c=9 then [38,35,57,59] else if c=10 then [38,35,49,48,59] else [c]
def esc(l:K M):K M:=l.flatMap rep
def th(a:G×G):K M:=32::(a.1.data.toList++[61,34]++esc a.2.data.toList++[34])
mutual
def enc:T->K M
 | .el n a []=>60::(n.data.toList++a.flatMap th++[47,62])
 | .el n a (k::r)=>60::(n.data.toList++a.flatMap th++62::(qN (k::r)++[60,47]++n.data.toList++[62]))
def qN:K T->K M
 |[]=>[]
 |k::r=>enc k++qN r
end
def head:K M:=[60,63,120,109,108,32,118,101,114,115,105,111,110,61,34,49,46,48,34,32,101,110,99,111,100,105,110,103,61,34,85,84,70,45,56,34,63,62,10]
def doc(t:T):K M:=head++enc t++[10]
def yw(a b:K T):qN (a++b)=qN a++qN b:=by
 induction a with
 |nil=>simp[qN]
 |cons x r ih=>simp[qN,ih]
section
variable {α:Type}(key:α->G)
def ahead(k:G):K α->K α×K α
 |[]=>([],[])
 |x::r=>if key x=k then(x::(ahead k r).1,(ahead k r).2) else([],x::r)
def xZ(k:G):∀l:K α,(ahead key k l).1++(ahead key k l).2=l
 |[]=>rfl
 |x::r=>by
  unfold ahead
  split
  ·simp[xZ k r]
  ·rfl
def Ev(k:G)(l:K α):(ahead key k l).2.length<=l.length:=by have:=nT List.length (xZ key k l);rw[o_] at this;omega
def runs:J->K α->K (G×K α)
 |0,_=>[]
 |_,[]=>[]
 |n+1,x::r=>(key x,x::(ahead key (key x) r).1)::runs n (ahead key (key x) r).2
end
def pQ:G:=⟨#[111,117,116,108,105,110,101]⟩
def rZ:G:=⟨#[116,101,120,116]⟩
def sType:G:=⟨#[116,121,112,101]⟩
def E_:G:=⟨#[114,115,115]⟩
def AN:G:=⟨#[120,109,108,85,114,108]⟩
def gK:G:=⟨#[104,116,109,108,85,114,108]⟩
def leaf(f:H):T:= .el pQ ([(sType,E_),(rZ,f.title),(AN,f.id)]++if f.link.toList.isEmpty=I then [] else [(gK,f.link)]) []
def nth(d:J)(f:H):G:=f.path.getD d ⟨#[]⟩
def outs:J->J->K H->K T
 |0,_,_=>[]
 |n+1,d,l=>(l.filter λf=>decide (f.path.length=d)).map leaf++(runs (nth d) l.length (l.filter λf=>decide (f.path.length≠d))).map λg=> .el pQ [(rZ,g.1)] (outs n (d+1) g.2)
def In(p:K G)(l:K H):Prop:=∀f∈l,∃r,f.path=p++r
def Zf(p:K G):∀(r s:K G),q8 (p++r) (p++s)=q8 r s:=by
 induction p with
 |nil=>intro r s;rfl
 |cons a p ih=>
  intro r s;have e:q8 (a::(p++r)) (a::(p++s))=if(a.toList==a.toList)=I then q8 (p++r) (p++s) else tS a a:=by rw[q8]
  rw[oD (by simp),ih] at e;exact e
def Ol{p:K G}:∀{l:K H},l.Pairwise (λa b=>tM a b<0)->In p l->
 l=(l.filter λf=>decide (f.path.length=p.length))++l.filter λf=>decide (f.path.length≠p.length)
 |[],_,_=>rfl
 |x::r,hs,hi=>by
  rw[mH] at hs;have h:=Ol hs.2 λf g=>hi f (oH _ g)
  obtain⟨u,j⟩:=hi x (oL ..)
  by_cases d:x.path.length=p.length
  ·rw[mR (by simpa using d),mQ (by simpa using d),mq,<-h]
  ·rw[mQ (by simpa using d),mR (by simpa using d)]
   have k:u≠[]:=λe=>d (by rw[j,e];simp)
   have i:r.filter (λf=>decide (f.path.length=p.length))=[]:=by
    rw[jM];intro f g n;obtain⟨v,m⟩:=hi f (oH _ g)
    have o:v=[]:=by have:f.path.length=p.length:=(by simpa using n);rw[m,o_] at this;exact oK (by omega)
    have c:=hs.1 f g;rw[Mg.yF,j,m,Zf,o] at c;rcases c with c|⟨c,-⟩
    ·cases u with
     |nil=>exact k rfl
     |cons a u=>simp[q8] at c
    ·exact k (by simpa using c)
   rw[i,mw];rw[i,mw] at h;exact nT _ h
def In.nil(l:K H):In [] l:=λf a=>⟨f.path,rfl⟩
section
variable {α:Type}(key:α->G)
def Kb(k:G):∀(l:K α),∀x∈(ahead key k l).1,key x=k
 |[],x,a=>by cases a
 |y::r,x,a=>by
  unfold ahead at a
  split at a
  ·rename_i e
   rcases List.mem_cons.1 a with rfl|a
   ·exact e
   ·exact Kb k r x a
  ·cases a
def zh:∀(n:J)(l:K α),l.length<=n->(runs key n l).flatMap (·.2)=l
 |0,l,h=>by rw[oK (by omega:l.length=0)];rfl
 |n+1,[],_=>rfl
 |n+1,x::r,h=>by
  have b:=Ev key (key x) r;have a:=zh n (ahead key (key x) r).2 (by simp at h;omega)
  show(x::(ahead key (key x) r).1)++(runs key n (ahead key (key x) r).2).flatMap (·.2)=_
  rw[a,mq,xZ]
def xH:∀(n:J)(l:K α),∀g∈runs key n l,g.2≠[]/\(∀x∈g.2,key x=g.1)/\∀x∈g.2,x∈l
 |0,l,g,b=>by cases b
 |n+1,[],g,b=>by cases b
 |n+1,x::r,g,b=>by
  have d:=xZ key (key x) r;rcases List.mem_cons.1 b with rfl|b
  ·refine⟨by simp,λc a=>?_,λc a=>?_⟩
   ·rcases List.mem_cons.1 a with rfl|a
    ·rfl
    ·exact Kb key (key x) r c a
   ·rcases List.mem_cons.1 a with rfl|a
    ·exact oL ..
    ·exact oH _ (by rw[<-d];exact kL _ a)
  ·obtain⟨e,f,h⟩:=xH n _ g b
   exact⟨e,f,λc a=>oH _ (by rw[<-d];exact List.mem_append_right _ (h c a))⟩
def Ij:∀(n:J)(l:K α),∀g∈runs key n l,g.2.Sublist l
 |0,l,g,a=>by cases a
 |n+1,[],g,a=>by cases a
 |n+1,x::r,g,a=>by
  have c:=xZ key (key x) r;rcases List.mem_cons.1 a with rfl|a
  ·refine List.Sublist.cons_cons _ ?_
   have:=List.sublist_append_left (ahead key (key x) r).1 (ahead key (key x) r).2
   rwa [c] at this
  ·have d:=Ij n _ g a
   have b:=List.sublist_append_right (ahead key (key x) r).1 (ahead key (key x) r).2;rw[c] at b;exact(d.trans b).trans (List.sublist_cons_self x r)
end
def run_inn{p:K G}{l:K H}(o:In p l){n:J}{g:G×K H}(e:g∈runs (nth p.length) n (l.filter λf=>decide (f.path.length≠p.length))):In (p++[g.1]) g.2:=by
 obtain⟨-,h,i⟩:=xH _ _ _ g e;intro f d;obtain⟨j,k⟩:=List.mem_filter.1 (i f d);obtain⟨r,c⟩:=o f j;have m:f.path.length≠p.length:=by simpa using k
 cases r with
 |nil=>exact L (by rw[c];simp) m
 |cons a r=>refine⟨r,?_⟩;have b:=h f d;unfold nth at b;rw[c,om,kT (oZ _)] at b;simp only[jg,mS,Option.getD_some] at b;rw[c,<-b];simp
mutual
def dep:T->J
 | .el _ _ ks=>xG ks+1
def xG:K T->J
 |[]=>0
 |k::r=>max (dep k) (xG r)
end
def Gq:∀{ks:K T}{k:T},k∈ks->dep k<=xG ks
 |x::r,k,a=>by
  unfold xG;rcases List.mem_cons.1 a with rfl|a
  ·exact Nat.le_max_left _ _
  ·exact pF (Gq a) (Nat.le_max_right _ _)
def F1{n:J}:∀{ks:K T},(∀k∈ks,dep k<=n)->xG ks<=n
 |[],_=>by unfold xG;exact oM _
 |x::r,h=>by
  unfold xG;exact Nat.max_le.2 ⟨h x (oL ..),F1 λk a=>h k (oH _ a)⟩
def E3{n:J}{a b:K T}(d:xG a<=n)(e:xG b<=n):xG (a++b)<=n:=
 F1 λk f=>by
  rcases List.mem_append.1 f with c|c
  ·exact pF (Gq c) d
  ·exact pF (Gq c) e
def Om:∀(n d:J)(l:K H),xG (outs n d l)<=n
 |0,d,l=>by unfold outs xG;exact oZ _
 |n+1,d,l=>by
  unfold outs;refine E3 (F1 λk a=>?_) (F1 λk a=>?_)
  ·obtain⟨f,-,rfl⟩:=List.mem_map.1 a
   unfold leaf dep xG;omega
  ·obtain⟨g,-,rfl⟩:=List.mem_map.1 a
   unfold dep;exact Nat.succ_le_succ (Om n _ _)
def rep_len(c:M):(rep c).length<=6:=by
 unfold rep
 repeat' split
 all_goals first|decide|simp
def wP:∀l:K M,(esc l).length<=6*l.length
 |[]=>by simp[esc]
 |c::r=>by
  have a:=wP r;have b:=rep_len c;unfold esc at a|-;rw[mE,o_,oJ];omega
def xE(s:G):s.data.toList.length=s.size:=by
 show s.data.toList.length=s.data.size
 simp
def vK(a:G×G):(th a).length<=4+a.1.size+6*a.2.size:=by unfold th;have b:=wP a.2.data.toList;simp only[oJ,o_,xE,oh] at b|-;omega
def On{C:J}:∀{ks:K T},(∀k∈ks,(enc k).length<=C)->(qN ks).length<=ks.length*C
 |[],_=>by simp[qN]
 |k::r,h=>by
  have b:=h k (oL ..);have c:=On λk a=>h k (oH _ a)
  unfold qN;rw[o_,oJ,k9];omega
def Bo(n:G)(a:K (G×G))(k:K T):(enc (.el n a k)).length<=6+2*n.size+(a.flatMap th).length+(qN k).length:=by
 cases k with
 |nil=>
  unfold enc qN;simp only[oJ,o_,xE,oh]
  omega
 |cons x r=>unfold enc;simp only[oJ,o_,xE,oh];omega
def Sm(f:H):Prop:=f.id.size<=5000/\f.title.size<=5000/\f.link.size<=5000/\∀p∈f.path,p.size<=5000
def Zg{f:H}(e:Sm f):(enc (leaf f)).length<=100000:=by
 obtain⟨g,h,i,-⟩:=e;unfold leaf;refine pF (Bo _ _ _) ?_;have d:=vK (sType,E_);have a:=vK (rZ,f.title);have b:=vK (AN,f.id);have c:=vK (gK,f.link);rw[show sType.size=4 from rfl,show E_.size=3 from rfl] at d;rw[show rZ.size=4 from rfl] at a;rw[show AN.size=6 from rfl] at b;rw[show gK.size=7 from rfl] at c;rw[show pQ.size=7 from rfl]
 split
 ·simp only[nC,mE,ji,o_,qN,oh]
  simp only at a b;omega
 ·simp only[mq,mw,mE,ji,o_,qN,oh]
  simp only at a b c;omega
def SX{f:H}(a:Sm f)(d:J):(nth d f).size<=5000:=by
 unfold nth;rw[om]
 cases e:f.path[d]? with
 |none=>exact(by decide:(⟨#[]⟩:G).size<=5000)
 |some p=>exact a.2.2.2 p (lX e)
def Dd{α:Type}(C:J):∀(a:K (G×K α)),(∀g∈a,g.2≠[])->a.length<=(a.flatMap (·.2)).length
 |[],_=>oM _
 |g::r,h=>by
  have d:=Dd C r λx c=>h x (oH _ c)
  have b:=h g (oL ..);have e:0<g.2.length:=List.length_pos_iff.2 b;rw[mE,o_,oJ];omega
def Ik{α:Type}(p q:α->Bool):∀(l:K α),(∀x,q x= !p x)->(l.filter p).length+(l.filter q).length=l.length
 |[],_=>rfl
 |x::r,h=>by
  have a:=Ik p q r h;rw[jK,jK,h x];cases p x<;>simp<;>omega
def E4(n d C:J)(i:100000<=C):∀(a:K (G×K H)),(∀g∈a,g.2≠[]/\g.1.size<=5000/\(qN (outs n d g.2)).length<=g.2.length*(n*C))->
 (qN (a.map λg=> .el pQ [(rZ,g.1)] (outs n d g.2))).length<=(a.flatMap (·.2)).length*((n+1)*C)
 |[],_=>by simp[qN]
 |g::r,h=>by
  have c:=E4 n d C i r λx j=>h x (oH _ j)
  obtain⟨e,k,l⟩:=h g (oL ..);have f:0<g.2.length:=List.length_pos_iff.2 e;rw[ou,mE,o_,jP];unfold qN;rw[o_];refine Nat.add_le_add (pF (Bo _ _ _) ?_) c;have b:=vK (rZ,g.1);rw[show rZ.size=4 from rfl] at b;rw[show pQ.size=7 from rfl];simp only[mE,ji,nC] at b|-;rw[jP n 1,iY,Nat.mul_add];have m:C<=g.2.length*C:=gW C f;omega
def Kc(C:J)(c:100000<=C):∀(n d:J)(l:K H),(∀f∈l,Sm f)->(qN (outs n d l)).length<=l.length*(n*C)
 |0,d,l,_=>by simp[outs,qN]
 |n+1,d,l,h=>by
  unfold outs;rw[yw,o_]
  have o:(qN ((l.filter λf=>decide (f.path.length=d)).map leaf)).length<=(l.filter λf=>decide (f.path.length=d)).length*C:=by refine pF (On (C:=C) λk s=>?_) (by rw[oS];exact oZ _);obtain⟨f,e,rfl⟩:=List.mem_map.1 s;exact pF (Zg (h f (List.mem_filter.1 e).1)) c
  have j:=E4 n (d+1) C c (runs (nth d) l.length (l.filter λf=>decide (f.path.length≠d))) λg q=>by
   obtain⟨a,b,p⟩:=xH _ _ _ g q;have m:∀f∈g.2,Sm f:=λf e=>h f (List.mem_filter.1 (p f e)).1
   refine⟨a,?_,Kc C c n (d+1) g.2 m⟩
   cases i:g.2 with
   |nil=>exact L i a
   |cons f r=>rw[<-b f (by rw[i];exact oL ..)];exact SX (m f (by rw[i];exact oL ..)) d
  rw[zh _ _ _ (ng _ _)] at j;have a:(l.filter λf=>decide (f.path.length=d)).length+(l.filter λf=>decide (f.path.length≠d)).length=l.length:=Ik _ _ _ (λf=>by simp);have b:(l.filter λf=>decide (f.path.length=d)).length*C<=(l.filter λf=>decide (f.path.length=d)).length*((n+1)*C):=j_ (oZ _) (gW C (Nat.succ_pos _));refine pF (Nat.add_le_add (pF o b) j) ?_;rw[<-jP,a];exact oZ _
def xJ:G:=⟨#[111,112,109,108]⟩
def tO:G:=⟨#[98,111,100,121]⟩
def yA:G:=⟨#[104,101,97,100]⟩
def zj:G:=⟨#[118,101,114,115,105,111,110]⟩
def TY:G:=⟨#[50,46,48]⟩
def nice:K G:=[pQ,rZ,sType,AN,gK,xJ,tO,yA,zj]
structure OkAt(a:K (G×G)):Prop where
 nd:(a.map (·.1)).Nodup
 nm:∀x∈a,x.1∈nice
 vs:∀x∈a,s_ x.2=I/\x.2.size<=5000
 ln:a.length<=4
mutual
def Fk:T->Prop
 | .el n a ks=>n∈nice/\OkAt a/\ks.length<=1000000/\Df ks
def Df:K T->Prop
 |[]=>True
 |k::r=>Fk k/\Df r
end
def Kf{a b:G}(c:a.data.toList≠b.data.toList):a≠b:=λe=>c (by rw[e])
def nd4:[sType,rZ,AN,gK].Nodup:=by have c:=Kf (a:=sType) (b:=rZ) (by decide);have d:=Kf (a:=sType) (b:=AN) (by decide);have e:=Kf (a:=sType) (b:=gK) (by decide);have f:=Kf (a:=rZ) (b:=AN) (by decide);have g:=Kf (a:=rZ) (b:=gK) (by decide);have h:=Kf (a:=AN) (b:=gK) (by decide);simp[c,d,e,f,g,h]
def nd3:[sType,rZ,AN].Nodup:=nd4.sublist (by simp)
def Bv:∀{ks:K T}{k:T},Df ks->k∈ks->Fk k
 |x::r,k,h,a=>by
  unfold Df at h;rcases List.mem_cons.1 a with rfl|a
  ·exact h.1
  ·exact Bv h.2 a
def SY:∀{ks:K T},(∀k∈ks,Fk k)->Df ks
 |[],_=>by unfold Df;trivial
 |x::r,h=>by
  unfold Df;exact⟨h x (oL ..),SY λk a=>h k (oH _ a)⟩
def ZM(f:H):Prop:=Sm f/\s_ f.id=I/\s_ f.title=I/\s_ f.link=I/\∀p∈f.path,s_ p=I
def okS_nil:s_ ⟨#[]⟩=I:=by decide
def okS_rss:s_ E_=I:=by decide
def okS_20:s_ TY=I:=by decide
def leaf_ok{f:H}(c:ZM f):Fk (leaf f):=by
 obtain⟨⟨d,e,g,-⟩,h,i,j,-⟩:=c;unfold leaf Fk
 have b:∀x∈[(sType,E_),(rZ,f.title),(AN,f.id),(gK,f.link)],s_ x.2=I/\x.2.size<=5000:=by
  intro x a;simp only[ox,oy,nw] at a;rcases a with rfl|rfl|rfl|rfl
  ·exact⟨okS_rss,by decide⟩
  ·exact⟨i,e⟩
  ·exact⟨h,d⟩
  ·exact⟨j,g⟩
 refine⟨by simp[nice],?_,by simp,by unfold Df;trivial⟩
 split
 ·rw[nC]
  refine⟨nd3,λx a=>?_,λx a=>b x ?_,by simp⟩
  ·simp only[ox,oy,nw] at a
   rcases a with rfl|rfl|rfl<;>simp[nice]
  ·simp only[ox,oy,nw] at a|-
   rcases a with rfl|rfl|rfl<;>simp
 ·rw[show [(sType,E_),(rZ,f.title),(AN,f.id)]++[(gK,f.link)]=[(sType,E_),(rZ,f.title),(AN,f.id),(gK,f.link)] from rfl]
  refine⟨nd4,λx a=>?_,b,by simp⟩;simp only[ox,oy,nw] at a;rcases a with rfl|rfl|rfl|rfl<;>simp[nice]
def nth_ok{f:H}(a:ZM f)(d:J):s_ (nth d f)=I:=by
 unfold nth;rw[om]
 cases e:f.path[d]? with
 |none=>exact okS_nil
 |some p=>exact a.2.2.2.2 p (lX e)
def xA:∀(n d:J)(l:K H),(outs n d l).length<=l.length
 |0,d,l=>by simp[outs]
 |n+1,d,l=>by
  unfold outs;rw[o_,oS,oS];have a:=Dd 0 (runs (nth d) l.length (l.filter λf=>decide (f.path.length≠d))) λg b=>(xH _ _ _ g b).1
  rw[zh _ _ _ (ng _ _)] at a;have c:(l.filter λf=>decide (f.path.length=d)).length+(l.filter λf=>decide (f.path.length≠d)).length=l.length:=Ik _ _ _ (λf=>by simp);omega
def Vb{g:G}{ks:K T}(b:s_ g=I/\g.size<=5000)(d:ks.length<=1000000)(c:Df ks):Fk (.el pQ [(rZ,g)] ks):=by
 unfold Fk;refine⟨by simp[nice],⟨by simp,λx a=>?_,λx a=>?_,by simp⟩,d,c⟩
 ·rw[List.mem_singleton.1 a];simp[nice]
 ·rw[List.mem_singleton.1 a];exact b
def S_:∀(n d:J)(l:K H),l.length<=1000000->(∀f∈l,ZM f)->Df (outs n d l)
 |0,d,l,_,_=>by unfold outs Df;trivial
 |n+1,d,l,hl,h=>by
  unfold outs;refine SY λk a=>?_
  rcases List.mem_append.1 a with a|a
  ·obtain⟨f,c,rfl⟩:=List.mem_map.1 a
   exact leaf_ok (h f (List.mem_filter.1 c).1)
  ·obtain⟨g,m,rfl⟩:=List.mem_map.1 a
   obtain⟨o,p,q⟩:=xH _ _ _ g m;have i:∀f∈g.2,ZM f:=λf c=>h f (List.mem_filter.1 (q f c)).1
   have j:g.2.length<=1000000:=by have b:=(Ij _ _ _ g m).length_le;have s:=ng (λf=>decide (f.path.length≠d)) l;omega
   refine Vb ?_ (pF (xA _ _ _) j) (S_ n (d+1) g.2 j i)
   cases e:g.2 with
   |nil=>exact L e o
   |cons f r=>rw[<-p f (by rw[e];exact oL ..)];have b:=i f (by rw[e];exact oL ..);exact⟨nth_ok b d,SX b.1 d⟩
def tree(m:K H):T:= .el xJ [(zj,TY)] [.el yA [] [],.el tO [] (outs 65 0 m)]
def Ng(m:K H):dep (tree m)<=67:=by have:=Om 65 0 m;unfold tree;simp only[dep,xG];omega
def Rv{m:K H}(d:m.length<=1000000)(b:∀f∈m,ZM f):Fk (tree m):=by
 have c:=S_ 65 0 m d b;have e:=xA 65 0 m;unfold tree Fk;refine⟨by simp[nice],⟨by simp,λx a=>?_,λx a=>?_,by simp⟩,by simp,?_⟩
 ·rw[List.mem_singleton.1 a];simp[nice]
 ·rw[List.mem_singleton.1 a];exact⟨okS_20,by decide⟩
 ·unfold Df
  refine⟨?_,?_⟩
  ·unfold Fk
   exact⟨by simp[nice],⟨by simp,λx a=>(by cases a),λx a=>(by cases a),by simp⟩,by simp,by unfold Df;trivial⟩
  ·unfold Df
   refine⟨?_,by unfold Df;trivial⟩;unfold Fk;exact⟨by simp[nice],⟨by simp,λx a=>(by cases a),λx a=>(by cases a),by simp⟩,by omega,c⟩
def Nh{m:K H}(g:m.length<=100000)(e:∀f∈m,Sm f):(enc (tree m)).length<=1000000000000:=by have h:=Kc 100000 (oZ _) 65 0 m e;have i:m.length*(65*100000)<=100000*(65*100000):=j_ g (oZ _);have a:=Bo xJ [(zj,TY)] [.el yA [] [],.el tO [] (outs 65 0 m)];have b:=Bo yA [] [];have c:=Bo tO [] (outs 65 0 m);have d:=vK (zj,TY);rw[show zj.size=7 from rfl,show TY.size=3 from rfl] at d;rw[show xJ.size=4 from rfl] at a;rw[show yA.size=4 from rfl] at b;rw[show tO.size=4 from rfl] at c;unfold tree;simp only[qN,o_,oh,mE,ji,nC] at a b c|-;omega
section
variable {α:Type}(key:α->G)
def Dg(k:G):∀r:K α,(ahead key k r).1=r.take (ahead key k r).1.length
 |[]=>rfl
 |x::r=>by
  have a:=Dg k r;unfold ahead
  split
  ·simp only[oJ,mm]
   rw[<-a]
  ·rfl
def Im(k:G):∀r:K α,(ahead key k r).2=r.drop (ahead key k r).1.length
 |[]=>rfl
 |x::r=>by
  have a:=Im k r;unfold ahead
  split
  ·simp only[oJ,nS]
   exact a
  ·rfl
def D3(k:G):∀(r:K α)(j:J)(a:j<r.length),j<=(ahead key k r).1.length->(key r[j]=k↔j<(ahead key k r).1.length)
 |[],j,a,_=>L a (by simp)
 |x::r,j,a,hj=>by
  unfold ahead at hj|-
  by_cases b:key x=k
  ·simp only[oD b,oJ] at hj|-
   cases j with
   |zero=>simp[b]
   |succ j=>have c:=D3 k r j (by simpa using a) (by omega);simp only[jN];rw[c];omega
  ·simp only[oU b,oh,Nat.le_zero] at hj|-
   subst hj;simp[b]
def M9(k:G)(r:K α):(ahead key k r).1.length<=r.length:=by rw[Dg,nQ];exact Nat.min_le_right _ _
def tW(l:K α):K (G×K α):=runs key l.length l
def BO:∀(n:J)(l:K α),l.length<=n->runs key n l=tW key l
 |0,l,h=>by rw[oK (by omega:l.length=0)];rfl
 |n+1,[],_=>rfl
 |n+1,x::r,h=>by
  have a:=Ev key (key x) r;have b:r.length<=n:=by simpa using h
  show _::runs key n (ahead key (key x) r).2=_::runs key r.length (ahead key (key x) r).2
  rw[BO n _ (by omega),BO r.length _ a]
 termination_by n l=>n+l.length
 decreasing_by all_goals(simp;omega)
def Jx:tW key ([]:K α)=[]:=rfl
def Gv(x:α)(r:K α):tW key (x::r)=(key x,x::r.take (ahead key (key x) r).1.length)::tW key (r.drop (ahead key (key x) r).1.length):=by rw[<-Dg,<-Im,<-BO key r.length _ (Ev key (key x) r)];rfl
def Jm(l:K α):(tW key l).length<=l.length:=by
 have a:=Dd 0 (tW key l) λg b=>(xH key _ _ g b).1
 rwa [show(tW key l).flatMap (·.2)=l from zh key _ _ (oZ _)] at a
end
def own(d:J)(l:K H):K H:=l.filter λf=>decide (f.path.length=d)
def deep(d:J)(l:K H):K H:=l.filter λf=>decide (f.path.length≠d)
def fold(n d:J)(g:G×K H):T:= .el pQ [(rZ,g.1)] (outs n (d+1) g.2)
def Jn(n d:J)(l:K H):outs (n+1) d l=(own d l).map leaf++(tW (nth d) (deep d l)).map (fold n d):=by rw[<-BO (nth d) l.length (deep d l) (ng _ _)];rfl
structure Fo(p:K G)(l:K H):Prop where
 inn:In p l
 srt:l.Pairwise λa b=>tM a b<0
def Fo.len{p:K G}{l:K H}(a:Fo p l){f:H}(b:f∈l):p.length<=f.path.length:=by obtain⟨r,c⟩:=a.inn f b;rw[c,o_];omega
def Fo.split{p:K G}{l:K H}(a:Fo p l):l=own p.length l++deep p.length l:=Ol a.srt a.inn
def Fo.take{p:K G}{l:K H}(d:Fo p l):own p.length l=l.take (own p.length l).length/\deep p.length l=l.drop (own p.length l).length:=by have c:=d.split;generalize own p.length l=a at c|-;generalize deep p.length l=b at c|-;subst c;simp
def Fo.Q9{p:K G}{l:K H}(j:Fo p l)(k:J)(m:k<l.length):l[k].path.length=p.length↔k<(own p.length l).length:=by
 have d:=j.split;have h:∀f∈own p.length l,f.path.length=p.length:=λf g=>by have:=(List.mem_filter.1 g).2;simpa using this
 have i:∀f∈deep p.length l,f.path.length≠p.length:=λf g=>by have:=(List.mem_filter.1 g).2;simpa using this
 generalize own p.length l=a at d h|-;generalize deep p.length l=b at d i;subst d
 by_cases c:k<a.length
 ·rw[n_ c]
  exact⟨λ_=>c,λ_=>h _ (pq c)⟩
 ·rw[nJ (by omega)]
  refine⟨λe=>L e (i _ (pq (by simp at m;omega))),λe=>L e c⟩
def Fo.run{p:K G}{l:K H}(a:Fo p l){g:G×K H}(b:g∈tW (nth p.length) (deep p.length l)):Fo (p++[g.1]) g.2:=
 ⟨run_inn a.inn b,a.srt.sublist ((Ij _ _ _ g b).trans List.filter_sublist)⟩
end Xm
end Go.Proofs.YthbhmjdcfocphaaGreatDoor
