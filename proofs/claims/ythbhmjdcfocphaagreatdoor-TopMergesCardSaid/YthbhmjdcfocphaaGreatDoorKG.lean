/- A part of this proof. -/
import Derived.Test.YthbhmjdcfocphaaGreatDoorKX
import Derived.Sort.Statements
set_option linter.all false
set_option maxHeartbeats 16000000
namespace Go.Proofs.YthbhmjdcfocphaaGreatDoor
open Go.Value renaming string→γ, slice→δ, pointer→ε, int→θ
open Go.Obj renaming cells→ζ
open Go.Ending renaming returned→η
open Go.IntKind renaming i64→ι
open _root_ renaming ByteArray→G, List→K, absurd→H
namespace Mg
open Mo
section
variable {α:Type}{cmp:α->α->Int}{key:α->G}{sS:α->α->α}
def RN(key:α->G)(a:K G)(x:α):K G:=if(a.any λk=>decide (k=key x))=true then a else a++[key x]
def RO{a:K G}{k:G}:(a.any λj=>decide (j=k))=true↔k∈a:=by
 rw[iJ]
 constructor
 ·rintro⟨j,c,e⟩
  rw[<-mX e];exact c
 ·intro b
  exact⟨k,b,by simp⟩
def Ed{key:α->G}{a:K G}{x:α}(b:key x∈a):RN key a x=a:=oD (RO.2 b)
def DI{key:α->G}{a:K G}{x:α}(b:¬key x∈a):RN key a x=a++[key x]:=oU λe=>b (RO.1 e)
def names(key:α->G)(a:K α):K G:=a.foldl (RN key) []
def uU(a:K α)(x:α):names key (a++[x])=RN key (names key a) x:=by unfold names;rw[lK];rfl
def mem_nm1{k:G}{b:K G}{x:α}:k∈RN key b x↔k∈b\/key x=k:=by
 by_cases a:key x∈b
 ·rw[Ed a]
  exact⟨.inl,λg=>g.elim id λe=>e▸a⟩
 ·rw[DI a,jU,mW]
  exact⟨λg=>g.imp id Eq.symm,λg=>g.imp id Eq.symm⟩
def NA{k:G}:∀{b:K α}{a:K G},k∈b.foldl (RN key) a↔k∈a\/∃x∈b,key x=k
 |[],a=>by simp
 |x::r,a=>by
  rw[kP,NA,mem_nm1];simp only[ox,exists_eq_or_imp,or_assoc]
def yZ{k:G}{a:K α}:k∈names key a↔∃x∈a,key x=k:=by unfold names;rw[NA];simp
def GY:∀{i:K α}{c:K G},c.Nodup->(i.foldl (RN key) c).Nodup
 |[],c,h=>h
 |x::r,c,h=>by
  rw[kP];refine GY ?_
  by_cases d:key x∈c
  ·rw[Ed d]
   exact h
  ·rw[DI d,List.nodup_append]
   exact⟨h,by simp,λa f b g=>by rw[List.mem_singleton.1 g];exactλe=>d (e▸f)⟩
def ET(a:K α):(names key a).Nodup:=GY List.nodup_nil
def wX(a:K α):(names key a).length<=a.length:=by
 have:∀(a:K α)(b:K G),(a.foldl (RN key) b).length<=b.length+a.length:=by
  intro a
  induction a with
  |nil=>intro b;simp
  |cons x r ih=>intro b;have d:=ih (RN key b x);have c:(RN key b x).length<=b.length+1:=(by unfold RN;split<;>simp);rw[kP,oJ];omega
 have c:=this a [];rw[oh,nh] at c;exact c
def Cb.MP(o:Ord cmp key)(r:Kp key sS){c d f:K α}(t:d.length=(names key c).length)(i:∀j(h:j<d.length)(A:j<(names key c).length),cm sS (Mg.of key (names key c)[j] c)=some d[j])(n:f.Perm d)(v:f.Pairwise λa b=>¬cmp b a<0):Cb cmp key sS c f:=by
 have s:d.map key=names key c:=by
  apply lH
  ·simpa using t
  ·intro j p q
   rw[oG];exact A8 r (i j (by simpa using p) q) λz y=>wz z y
 have m:(f.map key).Nodup:=by rw[(n.map key).nodup_iff,s];exact ET c
 have u:f.Pairwise λa b=>key a≠key b:=by rw[j8,jO] at m;exact m
 refine⟨(v.and u).imp λ{a b} g=>(o.tot a b g.2).resolve_right g.1,λB=>?_⟩;rw[n.mem_iff]
 constructor
 ·intro w
  obtain⟨j,h,rfl⟩:=mj w;have l:j<(names key c).length:=(by omega);obtain⟨x,k,e⟩:=yZ.1 (pq l);exact⟨x,k,by rw[e];exact i j h l⟩
 ·rintro⟨x,k,g⟩
  obtain⟨j,h,e⟩:=mj (yZ.2 ⟨x,k,rfl⟩:key x∈names key c);have:=i j (by omega) h;rw[e,g] at this;injection this with this
  rw[this];exact pq _
def Jo{c:Type}{f:α->c}{kb:c->G}(d:∀x,kb (f x)=key x)(a:K α):names kb (a.map f)=names key a:=by
 have:∀(a:K α)(b:K G),(a.map f).foldl (RN kb) b=a.foldl (RN key) b:=by
  intro a
  induction a with
  |nil=>intro b;rfl
  |cons x r ih=>intro b;rw[ou,kP,kP,ih];unfold RN;rw[d]
 exact this a []
def of_map{b:Type}{f:α->b}{kb:b->G}(c:∀x,kb (f x)=key x)(k:G)(a:K α):of kb k (a.map f)=(of key k a).map f:=by
 unfold of;rw[List.filter_map]
 congr 1
 apply List.filter_congr;intro x _;simp[Function.comp,c]
end
def swoE:Sort.SWO (λa b=>decide (rS a b<0)) where
 irrefl x:=by simpa using AA.VA x
 trans x y z h k:=by simp only[nP] at h k|-;exact AA.tr _ _ _ h k
 ntrans x y z h k:=by
  simp only[l8] at h k|-;intro d
  by_cases e:rS y x<0
  ·exact k (AA.tr _ _ _ e d)
  ·rw[zZ] at h e
   have c:x.upd=y.upd:=(by omega)
   have i:x.id=y.id:=by
    by_cases f:x.id=y.id
    ·exact f
    ·rcases A_ f with g|g
     ·exact H (.inr ⟨c,g⟩) h
     ·exact H (.inr ⟨c.symm,g⟩) e
   rw[zZ,c,i,<-zZ] at d;exact k d
def swoF:Sort.SWO (λa b=>decide (tM a b<0)) where
 irrefl x:=by simpa using Fi.VA x
 trans x y z h k:=by simp only[nP] at h k|-;exact Fi.tr _ _ _ h k
 ntrans x y z h k:=by
  simp only[l8] at h k|-;intro f
  by_cases e:tM y x<0
  ·exact k (Fi.tr _ _ _ e f)
  ·rw[yF] at h e
   have d:x.path=y.path:=by
    by_cases c:x.path=y.path
    ·exact c
    ·rcases GZ c with g|g
     ·exact H (.inl g) h
     ·exact H (.inl g) e
   have i:x.id=y.id:=by
    by_cases c:x.id=y.id
    ·exact c
    ·rcases A_ c with g|g
     ·exact H (.inr ⟨d,g⟩) h
     ·exact H (.inr ⟨d.symm,g⟩) e
   rw[yF,d,i,<-yF] at f;exact k f
section
variable {α:Type}{cmp:α->α->Int}{key:α->G}{sS:α->α->α}
def NB{e:α}{r:K α}:∀{l:K α},(∃a∈l,cmp e a<0)->ins cmp e (l++r)=ins cmp e l++r
 |[],h=>by obtain⟨a,b,-⟩:=h;cases b
 |x::l,h=>by
  by_cases c:cmp e x<0
  ·simp[ins,c]
  ·have f:∃a∈l,cmp e a<0:=by
    obtain⟨a,b,d⟩:=h;rcases List.mem_cons.1 b with rfl|b
    ·exact H d c
    ·exact⟨a,b,d⟩
   simp[ins,c,NB (r:=r) f]
def G0{e:α}{r:K α}:∀{l:K α},(∀a∈l,¬cmp e a<0)->ins cmp e (l++r)=l++ins cmp e r
 |[],h=>rfl
 |x::l,h=>by
  have b:=h x (oL ..);simp[ins,b,G0 (r:=r) λa c=>h a (oH _ c)]
def NC(key:α->G)(e:α)(l:K α):K α:=l.filter λx=>decide (key x≠key e)
def acc(key:α->G)(sS:α->α->α)(e:α)(l:K α):α:=(of key (key e) l).foldl (λe x=>sS x e) e
def RP(d:Kp key sS){e:α}:∀{l:K α},key (acc key sS e l)=key e:=λ{l}=>by
 have:∀(r:K α)(x:α),key x=key e->(∀a∈r,key a=key e)->key (r.foldl (λe x=>sS x e) x)=key e:=by
  intro r
  induction r with
  |nil=>intro x c _;exact c
  |cons a r ih=>
   intro x c b;refine ih _ ?_ λz g=>b z (oH _ g)
   rw[d a x ((b a (oL ..)).trans c.symm)];exact b a (oL ..)
 exact this _ e rfl λa f=>wz a f
def qi{l:K α}{k:Nat}(a:k<l.length):l.take (k+1)=l.take k++[l[k]]:=by rw[mM,oW a];rfl
def ND{e:α}{l:K α}{k:Nat}(b:k<l.length)(a:key l[k]=key e):NC key e (l.take (k+1))=NC key e (l.take k)/\acc key sS e (l.take (k+1))=sS l[k] (acc key sS e (l.take k)):=by rw[qi b];generalize l.take k=t;generalize l[k]=x at a;unfold NC acc of;simp[a]
def JN{e:α}{l:K α}{k:Nat}(b:k<l.length)(a:key l[k]≠key e):NC key e (l.take (k+1))=NC key e (l.take k)++[l[k]]/\acc key sS e (l.take (k+1))=acc key sS e (l.take k):=by rw[qi b];generalize l.take k=t;generalize l[k]=x at a;unfold NC acc of;simp[a]
def RQ{e:α}{l:K α}:(NC key e l).length<=l.length:=ng _ _
def RR{e:α}{l:K α}:Fw cmp key sS l e=ins cmp (acc key sS e l) (NC key e l):=rfl
def Ins(cmp:α->α->Int)(e:α)(l:K α)(d:Bool)(b:K α):Prop:=
 (d=true/\(∃a∈l,cmp e a<0)/\b=ins cmp e l)\/(d=false/\(∀a∈l,¬cmp e a<0)/\b=l)
def Ins.nil{e:α}:Ins cmp e [] false []:= .inr ⟨rfl,λb a=>H a (by simp),rfl⟩
def Ins.done{e x:α}{l d:K α}(a:Ins cmp e l true d):Ins cmp e (l++[x]) true (d++[x]):=by
 rcases a with⟨-,⟨f,b,c⟩,rfl⟩|⟨a,-,-⟩
 ·exact .inl ⟨rfl,⟨f,kL _ b,c⟩,(NB ⟨f,b,c⟩).symm⟩
 ·cases a
def Ins.here{e x:α}{l c:K α}(a:Ins cmp e l false c)(b:cmp e x<0):Ins cmp e (l++[x]) true ((c++[e])++[x]):=by
 rcases a with⟨a,-,-⟩|⟨-,a,rfl⟩
 ·cases a
 ·refine .inl ⟨rfl,⟨x,by simp,b⟩,?_⟩
  rw[G0 a];simp[ins,b]
def Ins.pass{e x:α}{l c:K α}(a:Ins cmp e l false c)(d:¬cmp e x<0):Ins cmp e (l++[x]) false (c++[x]):=by
 rcases a with⟨a,-,-⟩|⟨-,a,rfl⟩
 ·cases a
 ·refine .inr ⟨rfl,λf b=>?_,rfl⟩
  rcases List.mem_append.1 b with b|b
  ·exact a f b
  ·rw[List.mem_singleton.1 b];exact d
def Ins.fin{e:α}{l b:K α}{d:Bool}(a:Ins cmp e l d b):ins cmp e l=if d=true then b else b++[e]:=by
 rcases a with⟨rfl,-,rfl⟩|⟨rfl,a,rfl⟩
 ·rfl
 ·have:=G0 (r:=[]) a
  rw[nC] at this;rw[this];rfl
def Ins.len{e:α}{l a:K α}{d:Bool}(b:Ins cmp e l d a):a.length=l.length+(if d=true then 1 else 0):=by
 rcases b with⟨rfl,-,rfl⟩|⟨rfl,-,rfl⟩
 ·have:∀l:K α,(ins cmp e l).length=l.length+1:=by
   intro l
   induction l with
   |nil=>rfl
   |cons x l ih=>
    unfold ins
    split
    ·rfl
    ·simp[ih]
  rw[this];rfl
 ·simp
end
end Mg
end Go.Proofs.YthbhmjdcfocphaaGreatDoor
