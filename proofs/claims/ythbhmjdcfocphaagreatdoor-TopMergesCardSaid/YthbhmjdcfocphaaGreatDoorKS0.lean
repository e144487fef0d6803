/- A part of this proof. -/
import Derived.Test.YthbhmjdcfocphaaGreatDoorKV
set_option linter.all false
set_option maxHeartbeats 16000000
namespace Go.Proofs.YthbhmjdcfocphaaGreatDoor
open Go.Value renaming string→γ, slice→δ, pointer→ε, int→θ
open Go.Obj renaming cells→ζ
open Go.Ending renaming returned→η
open Go.IntKind renaming i64→ι
open _root_ renaming ByteArray→H, UInt8→I, List→G, Nat→J
open Bool renaming false→K, true→ς
open Vf.AS renaming rename→υ, sync→χ, put→Γ, sG→Δ, op→Θ, record→Λ, Ok→Ω
namespace Vf
open RowKit Maps Bs
def So.apply{m:Nm}(b:So m)(f t:H)(i:J):So (rT m f t i):=by
 unfold rT;simp only
 split<;>split
 ·exact b
 ·exact b.del _
 ·exact b.put _ _
 ·exact(b.del _).put _ _
def FY{m:Nm}{k:G I}{i:J}{p:G I×J}(b:p∈uO m k i):p=(k,i)\/p∈m:=by
 unfold uO at b;rcases(vP _ _ _).1 b with b|b
 ·exact .inl b
 ·exact .inr (List.mem_filter.1 b).1
def UM{m:Nm}{f t:H}{i:J}{p:G I×J}(b:p∈rT m f t i):p∈m\/(t.toList.isEmpty=K/\p.2=i):=by
 unfold rT at b;simp only at b
 cases c:t.toList.isEmpty with
 |true=>
  rw[c] at b;simp only[jJ] at b
  split at b
  ·exact .inl b
  ·exact .inl (List.mem_filter.1 b).1
 |false=>
  rw[c] at b;simp only[nH,lQ] at b;rcases FY b with b|b
  ·exact .inr ⟨rfl,by rw[b]⟩
  ·split at b
   ·exact .inl b
   ·exact .inl (List.mem_filter.1 b).1
section
variable {a:AS}{n:J}
def AS.Ok.record(b:a.Ok n)(c:AC)(i:c.src.size<=1000000)(j:c.dst.size<=1000000)(h:c.dst.toList.isEmpty=K->c.file<a.files.length):(a.record c).Ok (n+1) where
 wf:=
  {names:=λp g=>by
    rcases UM g with g|⟨f,o⟩
    ·exact b.wf.names p g
    ·rw[o];exact h f
   tK:=b.wf.tK
   pend:=λd e f=>by
    rcases List.mem_append.1 e with e|e
    ·exact b.wf.pend d e f
    ·obtain rfl:=List.mem_singleton.1 e
     exact h f}
 sn:=b.sn.apply _ _ _
 sd:=b.sd
 af:=b.af
 files:=kM b.files
 names:=by have:=Et a.names c.src c.dst c.file;have:=b.names;show(rT _ _ _ _).length<=_;omega
 dp:=by show a.tK.length+(a.pend++[c]).length<=_;have:=b.dp;simp;omega
 strs:=λd e=>by
  rcases List.mem_append.1 e with e|e
  ·exact b.strs d e
  ·obtain rfl:=List.mem_singleton.1 e
   exact⟨i,j⟩
 data:=b.data
def mem_modify{l:G AF}{i:J}{g:AF->AF}{f:AF}(h:f∈l.modify i g):∃b∈l,f=b\/f=g b:=by
 obtain⟨j,c,e⟩:=mj h;rw[kr] at c;rw[iT] at e;refine⟨l[j],pq c,?_⟩
 split at e
 ·exact .inr e.symm
 ·exact .inl e.symm
def AS.Ok.modify(b:a.Ok n)(i:J)(g:AF->AF)(r:∀f,f.data.length<=1000000/\f.tK.length<=1000000->(g f).data.length<=1000000/\(g f).tK.length<=1000000):Ω {a with files:=a.files.modify i g} n where
 wf:=⟨λp h=>by rw[kr];exact b.wf.names p h,λp h=>by rw[kr];exact b.wf.tK p h,λc o e=>by rw[kr];exact b.wf.pend c o e⟩
 sn:=b.sn
 sd:=b.sd
 af:=b.af
 files:=by rw[kr];exact b.files
 names:=b.names
 dp:=b.dp
 strs:=b.strs
 data:=λf q=>by
  obtain⟨s,j,rfl|rfl⟩:=mem_modify q
  ·exact b.data _ j
  ·exact r _ (b.data _ j)
def AS.Ok.put(b:a.Ok n)(k:H)(l:G I)(r:k.size<=1000000)(o:l.length<=1000000):(Γ k l a).2.Ok (n+1):=by
 unfold Γ
 split
 ·exact b.mono (nu n)
 ·split
  ·exact(b.modify _ (λf=>{f with data:=l,synced:=K}) (λf g=>⟨o,g.2⟩)).mono (nu n)
  ·have j:Ω {a with files:=a.files++[⟨l,[],K⟩]} (n+1):=
    {wf:=⟨λp i=>by have:=b.wf.names p i;simp;omega,λp i=>by have:=b.wf.tK p i;simp;omega,λc q e=>by have:=b.wf.pend c q e;simp;omega⟩
     sn:=b.sn
     sd:=b.sd
     af:=b.af
     files:=by have:=b.files;simp;omega
     names:=kM b.names
     dp:=kM b.dp
     strs:=b.strs
     data:=λf g=>by
      rcases List.mem_append.1 g with g|g
      ·exact b.data f g
      ·obtain rfl:=List.mem_singleton.1 g
       exact⟨o,oM _⟩}
   have h:=AS.Ok.record (a:={a with names:=a.names,files:=a.files++[⟨l,[],K⟩]}) (n:=n+1) j ⟨⟨#[]⟩,k,a.files.length⟩ (show(⟨#[]⟩:H).size<=1000000 by decide) r (λ_=>by show a.files.length<_;simp)
   exact
    {wf:=h.wf
     sn:=h.sn
     sd:=h.sd
     af:=h.af
     files:=j.files
     names:=by have s:=Et a.names ⟨#[]⟩ k a.files.length;have u:=b.names;show(rT a.names ⟨#[]⟩ k a.files.length).length<=_;omega
     dp:=by show a.tK.length+(a.pend++[_]).length<=_;have:=b.dp;simp;omega
     strs:=h.strs
     data:=h.data}
def AS.Ok.sync(b:a.Ok n)(k:H):(χ k a).2.Ok (n+1):=by
 unfold χ
 split
 ·exact b.mono (nu n)
 ·exact(b.modify _ (λf=>{f with tK:=f.data,synced:=ς}) (λf c=>⟨c.1,c.1⟩)).mono (nu n)
def AS.Ok.rename(b:a.Ok n)(k t:H)(c:k.size<=1000000)(f:t.size<=1000000):(υ k t a).2.Ok (n+1):=by
 unfold υ
 split
 ·exact b.mono (nu n)
 ·rename_i i e
  split
  ·exact b.mono (nu n)
  ·split
   ·exact b.mono (nu n)
   ·exact b.record _ c f (λ_=>b.wf.find e)
def AS.Ok.sG(b:a.Ok n):(Δ a).2.Ok (n+1) where
 wf:=⟨b.wf.names,b.wf.names,λc e=>by cases e⟩
 sn:=b.sn
 sd:=b.sn
 af:=b.af
 files:=kM b.files
 names:=kM b.names
 dp:=kM b.names
 strs:=λc e=>by cases e
 data:=b.data
def AS.Ok.flags(b:a.Ok n)(d r:Bool)(x e:Int)(c:0<=x)(f:x<=9223372036854775807):Ω {a with down:=d,rJ:=r,after:=x,err:=e} n:=⟨⟨b.wf.names,b.wf.tK,b.wf.pend⟩,b.sn,b.sd,⟨c,f⟩,b.files,b.names,b.dp,b.strs,b.data⟩
def AS.Ok.op(c:a.Ok n)(p:AS->Int×AS)(q:AS->AS)(f:∀b:AS,b.Ok n->(p b).2.Ok (n+1))(h:∀b:AS,b.Ok n->(q b).Ok (n+1)):(Θ p q a).2.Ok (n+1):=by
 unfold Θ
 split
 ·exact c.mono (nu n)
 ·split
  ·exact f a c
  ·split
   ·rename_i i
    exact f _ (c.flags a.down a.rJ (a.after-1) a.err (by omega) (by have:=c.af.2;omega))
   ·have g:Ω {a with rJ:=K} n:=c.flags a.down K a.after a.err c.af.1 c.af.2
    have e:=h _ g;exact e.flags _ _ _ _ e.af.1 e.af.2
def ok_id{b:AS}(c:b.Ok n):(id b).Ok (n+1):=c.mono (nu n)
def AS.Ok.I4(b:a.Ok n)(k:H)(l:G I)(c:k.size<=1000000)(e:l.length<=1000000):(AS.I4 k l a).Ok (n+1):=b.put k _ c (by rw[nQ];omega)
def AS.Ok.opsync(e:a.Ok n)(k:H):(Θ (χ k) id a).2.Ok (n+1):=e.op _ _ (λb c=>c.sync k) (λb c=>ok_id c)
def AS.Ok.YJ(e:a.Ok n)(k t:H)(f:k.size<=1000000)(g:t.size<=1000000):(Θ (υ k t) id a).2.Ok (n+1):=e.op _ _ (λb c=>c.rename k t f g) (λb c=>ok_id c)
end
structure Qs(a:AS)(n:J):Prop where
 ok:a.Ok n
 dn:a.down=K
 ar:a.rJ=K
 pe:a.pend=[]
 du:a.tK=a.names
 sy:∀f∈a.files,f.synced=ς/\f.tK=f.data
def Qs.new:Qs AS.new 0:=⟨AS.Ok.new,rfl,rfl,rfl,rfl,λf b=>absurd b (by simp[AS.new])⟩
def Qs.mono{a:AS}{n m:J}(b:Qs a n)(c:n<=m):Qs a m:=⟨b.ok.mono c,b.dn,b.ar,b.pe,b.du,b.sy⟩
def FX{a:AS}(c:a.down=K)(b:a.rJ=K)(p:AS->Int×AS)(q:AS->AS):Θ p q a=p a:=by unfold Θ;rw[oU (by rw[c];decide),oD b]
def YK{m:Nm}(b:So m){k:G I}{i:J}(c:qw m k=none):Ae (uO m k i) k=m:=by
 refine So.ext ((b.put k i).del k) b λk'=>?_
 rw[Oa,Ia]
 by_cases e:k=k'
 ·rw[oD e,<-e,c]
 ·rw[oU e,oU e]
def AS.wrote(t:H)(d:G I)(a:AS):AS:={a with files:=a.files++[⟨d,[],K⟩],names:=uO a.names t.data.toList a.files.length,pend:=[⟨⟨#[]⟩,t,a.files.length⟩]}
def AS.xY(t:H)(d:G I)(a:AS):AS:={AS.wrote t d a with files:=a.files++[⟨d,d,ς⟩]}
def AS.Bj(t x:H)(d:G I)(a:AS):AS:={AS.xY t d a with names:=uO a.names x.data.toList a.files.length,pend:=[⟨⟨#[]⟩,t,a.files.length⟩,⟨t,x,a.files.length⟩]}
def AS.rF(x:H)(d:G I)(a:AS):AS:={a with files:=a.files++[⟨d,d,ς⟩],names:=uO a.names x.data.toList a.files.length,tK:=uO a.names x.data.toList a.files.length,pend:=[]}
section
variable {a:AS}{n:J}{t x:H}{d:G I}
def J1(m:Nm)(t:H)(i:J)(b:t.toList.isEmpty=K):rT m ⟨#[]⟩ t i=uO m t.data.toList i:=by unfold rT;simp only[YL,b,nH,lQ,jJ]
def QA(m:Nm)(t x:H)(i:J)(b:t.toList.isEmpty=K)(c:x.toList.isEmpty=K):rT m t x i=uO (Ae m t.data.toList) x.data.toList i:=by unfold rT;simp only[b,c,nH,lQ]
def N8(c:Qs a n)(b:t.toList.isEmpty=K)(e:qw a.names t.data.toList=none):Γ t d a=(0,a.wrote t d):=by unfold Γ;rw[b,e];simp only[nH,lQ];unfold Λ AS.wrote;simp only[J1 _ _ _ b,c.pe,mw]
def Oc{b:Type}(l:G b)(f:b)(g:b->b):(l++[f]).modify l.length g=l++[g f]:=by
 apply lH
 ·simp
 intro j i h;rw[iT]
 by_cases e:l.length=j
 ·subst e;simp
 ·rw[oU e]
  have c:j<l.length:=(by simp at h;omega);rw[n_ c,n_ c]
def UL(b:Qs a n):χ t (a.wrote t d)=(0,a.xY t d):=by
 unfold χ
 have e:qw (a.wrote t d).names t.data.toList=some a.files.length:=by
  show qw (uO a.names t.data.toList a.files.length) t.data.toList=_
  rw[Ia,oD rfl]
 rw[e]
 show(0,({a.wrote t d with files:=(a.files++[(⟨d,[],K⟩:AF)]).modify a.files.length _}:AS))=_
 rw[Oc];rfl
def N9(f:Qs a n)(h:t.toList.isEmpty=K)(b:x.toList.isEmpty=K)(i:(t.toList==x.toList)=K)(g:qw a.names t.data.toList=none):υ t x (a.xY t d)=(0,a.Bj t x d):=by
 unfold υ
 have e:qw (a.xY t d).names t.data.toList=some a.files.length:=by
  show qw (uO a.names t.data.toList a.files.length) t.data.toList=_
  rw[Ia,oD rfl]
 rw[e];simp only[b,i,nH,lQ]
 have c:rT (a.xY t d).names t x a.files.length=uO a.names x.data.toList a.files.length:=by
  show rT (uO a.names t.data.toList a.files.length) t x a.files.length=_
  rw[QA _ _ _ _ h b,YK f.ok.sn g]
 unfold Λ;simp only[c];rfl
def YI:Δ (a.Bj t x d)=(0,a.rF x d):=rfl
def Qs.rF(b:Qs a n)(r:x.size<=1000000)(i:d.length<=1000000):Qs (a.rF x d) (n+1) where
 ok:=
  {wf:=⟨λp g=>by rcases FY g with rfl|g;simp[AS.rF];have:=b.ok.wf.names p g;simp[AS.rF];omega,λp g=>by rcases FY g with rfl|g;simp[AS.rF];have:=b.ok.wf.names p g;simp[AS.rF];omega,λc h=>by cases h⟩
   sn:=b.ok.sn.put _ _
   sd:=b.ok.sn.put _ _
   af:=b.ok.af
   files:=by show(a.files++_).length<=_;have:=b.ok.files;simp;omega
   names:=by
    have q:=Et a.names ⟨#[]⟩ x a.files.length;have j:=b.ok.names
    show(uO a.names x.data.toList a.files.length).length<=_
    have o:(uO a.names x.data.toList a.files.length).length<=a.names.length+1:=by unfold uO;rw[DM];have:(Ae a.names x.data.toList).length<=a.names.length:=ng _ _;omega
    omega
   dp:=by
    have j:=b.ok.names
    show(uO a.names x.data.toList a.files.length).length+0<=_
    have o:(uO a.names x.data.toList a.files.length).length<=a.names.length+1:=by unfold uO;rw[DM];have:(Ae a.names x.data.toList).length<=a.names.length:=ng _ _;omega
    omega
   strs:=λc h=>by cases h
   data:=λf e=>by
    rcases List.mem_append.1 e with e|e
    ·exact b.ok.data f e
    ·obtain rfl:=List.mem_singleton.1 e
     exact⟨i,i⟩}
 dn:=b.dn
 ar:=b.ar
 pe:=rfl
 du:=rfl
 sy:=λf e=>by
  rcases List.mem_append.1 e with e|e
  ·exact b.sy f e
  ·obtain rfl:=List.mem_singleton.1 e
   exact⟨rfl,rfl⟩
end
structure Rc(tmp:G I->Bool)(a0 a:AS)(n:J):Prop where
 ok:a.Ok n
 dn:a.down=K
 ar:a.rJ=K
 len:a0.files.length<=a.files.length
 fs:∀i,i<a0.files.length->a.files[i]?=a0.files[i]?
 na:∀p∈a.names,p∈a0.names\/(tmp p.1=ς/\a0.files.length<=p.2)
 n0:∀p∈a0.names,p∈a.names
section
variable {tmp:G I->Bool}{a0 a:AS}{n m:J}{k:H}{l:G I}
def Rc.refl(b:Qs a0 n):Rc tmp a0 a0 n:=⟨b.ok,b.dn,b.ar,oZ _,λ_ _=>rfl,λp c=> .inl c,λp c=>c⟩
def Rc.mono(b:Rc tmp a0 a n)(c:n<=m):Rc tmp a0 a m:=⟨b.ok.mono c,b.dn,b.ar,b.len,b.fs,b.na,b.n0⟩
def Rc.put(q:∀p∈a0.names,tmp p.1=K/\p.2<a0.files.length)(b:Rc tmp a0 a n)(r:k.toList.isEmpty=K)(o:tmp k.data.toList=ς)(y:k.size<=1000000)(w:l.length<=1000000):Rc tmp a0 (Γ k l a).2 (n+1):=by
 have c:=b.ok.put k l y w;unfold Γ at c|-;rw[r] at c|-;simp only[nH,lQ] at c|-
 cases e:qw a.names k.data.toList with
 |some i=>
  rw[e] at c
  have z:a0.files.length<=i:=by
   rcases b.na _ (Bk e) with g|g
   ·have:=(q _ g).1
    rw[o] at this;cases this
   ·exact g.2
  exact⟨c,b.dn,b.ar,by show _<=(a.files.modify i _).length;rw[kr];exact b.len,λj h=>by
   show(a.files.modify i _)[j]?=_
   rw[List.getElem?_modify];have v:¬i=j:=(by omega);simp only[v,lQ]
   simpa using b.fs j h,b.na,b.n0⟩
 |none=>
  rw[e] at c;have s:(Λ {a with files:=a.files++[⟨l,[],K⟩]} ⟨⟨#[]⟩,k,a.files.length⟩).names=uO a.names k.data.toList a.files.length:=J1 _ _ _ r;refine⟨c,b.dn,b.ar,by show _<=(a.files++_).length;have:=b.len;simp;omega,λj h=>?_,λp f=>?_,λp f=>?_⟩
  ·show(a.files++_)[j]?=_
   rw[jX (by have:=b.len;omega)];exact b.fs j h
  ·rw[s] at f
   rcases FY f with rfl|f
   ·exact .inr ⟨o,b.len⟩
   ·exact b.na p f
  ·rw[s]
   unfold uO;rw[vP];refine .inr (List.mem_filter.2 ⟨b.n0 p f,?_⟩);have g:=(q p f).1;have:p.1≠k.data.toList:=λu=>by rw[u,o] at g;cases g
   simpa using this
def Rc.done(h:So a0.names)(c:Rc tmp a0 a n)(j:∀p∈a.names,tmp p.1=K):a.names=a0.names:=by
 refine So.ext c.ok.sn h λk=>?_
 have g:∀p,p∈a.names↔p∈a0.names:=λp=>⟨(λb=>by
  rcases c.na p b with f|f
  ·exact f
  ·have:=j p b;rw[f.1] at this;cases this),c.n0 p⟩
 cases e:qw a.names k with
 |some i=>exact(So.find h ((g _).1 (Bk e))).symm
 |none=>refine((Cg _ _).2 λp b=>?_).symm;exact(Cg _ _).1 e p ((g p).2 b)
def Rc.sG(b:Rc tmp a0 a n):Rc tmp a0 (Δ a).2 (n+1)/\(Δ a).1=0/\(Δ a).2.names=a.names/\(Δ a).2.tK=a.names/\(Δ a).2.pend=[]:=
 ⟨⟨(b.ok.sG),b.dn,b.ar,b.len,b.fs,b.na,b.n0⟩,rfl,rfl,rfl,rfl⟩
def J2(a:AS):G I:=(a.list.map λk=>k++10::((a.read ⟨k.toArray⟩).1++[10])).flatten
def Rc.text(h:a0.Ok m)(c:a0.down=K)(b:Rc tmp a0 a n)(f:a.names=a0.names):J2 a=J2 a0:=by
 unfold J2 AS.list;rw[oU (by rw[b.dn];decide),oU (by rw[c];decide),f]
 congr 1
 apply mV;intro k g;obtain⟨p,o,rfl⟩:=List.mem_map.1 g
 have j:(a.read ⟨p.1.toArray⟩).1=(a0.read ⟨p.1.toArray⟩).1:=by
  unfold AS.read;rw[oU (by rw[b.dn];decide),oU (by rw[c];decide),f]
  cases e:qw a0.names (⟨p.1.toArray⟩:H).data.toList with
  |none=>rfl
  |some i=>
   show(a.files.getD i _).data=(a0.files.getD i _).data
   rw[om,om,b.fs i (h.wf.find e)]
 rw[j]
end
end Vf
namespace Ms
open RowKit Vf
def sufT:G I:=[46,116,109,112]
def tmpB(k:G I):Bool:=Lib.hasSuffix k sufT
def left(m:Nm)(l:G (G I))(k:J):Nm:=m.filter λp=> !(tmpB p.1&&(l.take k).contains p.1)
end Ms
end Go.Proofs.YthbhmjdcfocphaaGreatDoor
