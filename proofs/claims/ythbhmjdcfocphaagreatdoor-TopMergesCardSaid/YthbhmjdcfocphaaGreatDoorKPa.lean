/- A part of this proof. -/
import Derived.Lib.SlTrimSet
import Derived.Test.YthbhmjdcfocphaaGreatDoorKJ
set_option linter.all false
set_option maxHeartbeats 16000000
namespace Go.Proofs.YthbhmjdcfocphaaGreatDoor
open Go.Value renaming string→γ, slice→δ, pointer→ε, int→θ
open Go.Obj renaming cells→ζ
open Go.Ending renaming returned→η
open Go.IntKind renaming i64→ι
open Go.Lib renaming decDigits→I, trimPrefix→ξ, parseUintM→υ, itoa→Θ, parseUintB→ς, hasPrefix→ah
open _root_ renaming UInt8→K, List→G, ByteArray→Λ, absurd→Ξ, Nat→H
open Nat renaming strongRecOn→χ
open Js renaming quote→Γ
open UInt8 renaming ofNat→Δ, toNat→ο
namespace Pa
def Bh:G K:=[48,49,50,51,52,53,54,55,56,57,43,45,46,101,69]
def Ht(k:H)(a:k<10):(Δ (48+k)).toNat=48+k:=by rw[UInt8.toNat_ofNat'];omega
def Qq:∀(u:H)(b:K),b∈I u->48<=b.toNat/\b.toNat<=57:=by
 intro u
 induction u using χ with
 |ind u ih=>
  intro b a;rw[I] at a
  by_cases d:u<10
  ·rw[iD d] at a
   simp only[mW] at a;rw[a,Ht u d];omega
  ·rw[iC d] at a
   rcases List.mem_append.1 a with c|c
   ·exact ih _ (by omega) b c
   ·simp only[mW] at c
    rw[c,Ht _ (by omega)];omega
def C_(u:H):I u≠[]:=by
 rw[I]
 by_cases a:u<10
 ·rw[iD a];simp
 ·rw[iC a];simp
def zn:∀(u:H)(c:K)(r:G K),I u=c::r->r≠[]->c≠48:=by
 intro u
 induction u using χ with
 |ind u ih=>
  intro c r a h;rw[I] at a
  by_cases d:u<10
  ·rw[iD d] at a
   simp only[nG] at a;exact Ξ a.2.symm h
  ·rw[iC d] at a
   cases b:I (u/10) with
   |nil=>exact Ξ b (C_ _)
   |cons x y=>
    rw[b,mq] at a;simp only[nG] at a;obtain⟨rfl,i⟩:=a
    by_cases f:y=[]
    ·subst f
     have j:¬10<=u/10:=λk=>by
      have:=nT List.length b;rw[I,iC (by omega),o_] at this;have l:=List.length_pos_iff.2 (C_ (u/10/10));simp at this;exact C_ _ this
     rw[I,iD (by omega)] at b;simp only[nG,nU] at b;intro e;have:=nT ο (b.trans e);rw[Ht _ (by omega)] at this;have g:(48:K).toNat=48:=rfl;rw[g] at this;omega
    ·exact ih _ (by omega) x y b f
def UF(M:H)(b:M<=18446744073709551615):∀(u:H)(r:G K),u<=M->υ M 0 (I u++r)=υ M u r:=by
 intro u
 induction u using χ with
 |ind u ih=>
  intro r c;rw[I]
  by_cases a:u<10
  ·rw[iD a]
   have e:=Ht u a;simp only[mq,mw,υ,e];rw[oD (by omega),oU (by omega),oU (by omega)]
   congr 1
   omega
  ·rw[iC a,m_,ih (u/10) (by omega) _ (by omega)]
   have e:=Ht (u%10) (by omega);simp only[mq,mw,υ,e];rw[oD (by omega),oU (by omega),oU (by omega)]
   congr 1
   omega
def N2(u:H)(a:u<=18446744073709551615):ς 64 (I u)= .ok u:=by unfold ς;rw[oU (C_ u)];have:=UF (2^64-1) (by decide) u [] (by simpa using a);rw[nC] at this;rw[this];rfl
structure Num(n:Int)(l:G K):Prop where
 ne:l≠[]
 set:∀b∈l,Bh.contains b=true
 ok:Lib.parseIntB 64 l= .ok n
 plus:l.getD 0 0≠43
 head:l.getD 0 0=45\/(48<=(l.getD 0 0).toNat/\(l.getD 0 0).toNat<=57)
 digits:ξ l [45]≠[]
 zero:(ξ l [45]).getD 0 0=48->(ξ l [45]).length=1
def Sw(b:K)(a:48<=b.toNat/\b.toNat<=57):Bh.contains b=true:=by
 have:∀n:Fin 256,48<=n.val->n.val<=57->Bh.contains (Δ n.val)=true:=by decide+kernel
 have e:=this ⟨b.toNat,b.toNat_lt⟩ a.1 a.2;have:Δ b.toNat=b:=by simp
 simpa [this] using e
def Lx(n:Int)(o: -9223372036854775808<=n)(p:n<=9223372036854775807):Num n (Jv.yR n):=by
 unfold Jv.yR
 by_cases k:n<0
 ·obtain⟨u,rfl⟩:∃u:H,n=-(u:Int):=⟨n.natAbs,by omega⟩
  have e:Θ (-(u:Int))=45::I u:=(by unfold Θ;rw[oD k];simp)
  have g:ξ (45::I u) [45]=I u:=by unfold ξ;rw[oD (by simp[ah])];rfl
  rw[e];refine⟨by simp,λb f=>?_,?_,by simp,.inl rfl,by rw[g];exact C_ u,?_⟩
  ·simp only[ox] at f
   rcases f with rfl|f
   ·decide
   ·exact Sw b (Qq u b f)
  ·rw[Lib.parseIntB_minus,N2 u (by omega)]
   simp only[Lib.signedC];rw[oU (by omega)]
  ·rw[g]
   intro d
   cases a:I u with
   |nil=>exact Ξ a (C_ u)
   |cons c r=>
    rw[a] at d
    by_cases h:r=[]
    ·rw[h];rfl
    ·exact Ξ d (zn u c r a h)
 ·obtain⟨u,rfl⟩:∃u:H,n=(u:Int):=⟨n.toNat,by omega⟩
  have e:Θ (u:Int)=I u:=(by unfold Θ;rw[oU k];simp);rw[e]
  cases a:I u with
  |nil=>exact Ξ a (C_ u)
  |cons c r=>
   have j:=Qq u c (by rw[a];exact oL ..)
   have g:ξ (c::r) [45]=c::r:=by unfold ξ;rw[oU];intro d;simp[ah] at d;have:=nT ο d;have i:(45:K).toNat=45:=rfl;rw[i] at this;omega
   have l:=N2 u (by omega);rw[a] at l;refine⟨by simp,λb f=>Sw b (Qq u b (by rw[a];exact f)),?_,?_,.inr j,by rw[g];simp,?_⟩
   ·rw[Lib.parseIntB_plain 64 c r (by omega) (by omega),l]
    simp only[Lib.signlessC];rw[oU (by omega)]
   ·show c≠43
    intro m;rw[m] at j;have i:(43:K).toNat=43:=rfl;rw[i] at j;omega
   ·rw[g]
    intro d
    by_cases h:r=[]
    ·rw[h];rfl
    ·exact Ξ d (zn u c r a h)
def Stop(l:G K):Prop:=∀c,l.head?=some c->Bh.contains c=false
def Beg(c:K):Prop:=c=34\/c=91\/c=123\/c=45\/(48<=c.toNat/\c.toNat<=57)
def Qo(a:G K)(r:G (G K)):Jv.pZ (a::r)=a++(if r=[] then [] else 44::Jv.pZ r):=by
 cases r with
 |nil=>simp[Jv.pZ]
 |cons b r=>simp[Jv.pZ]
def Bi{S:G K}{k:H}{a r:G K}(b:S.drop k=a++r):S.drop (k+a.length)=r:=by rw[<-lE,b,iW]
def drop_one{S:G K}{k:H}{c:K}{r:G K}(a:S.drop k=c::r):S.drop (k+1)=r:=by rw[<-lE,a];rfl
def Ss{S:G K}{k:H}{c:K}{r:G K}(b:S.drop k=c::r):k<S.length:=by
 rcases mC k S.length with a|a
 ·exact a
 ·rw[mB a] at b
  cases b
def drop_at{S:Λ}{k:H}{c:K}{r:G K}(b:S.data.toList.drop k=c::r):∃f:k<S.size,S[k]=c:=by
 have d:k<S.size:=by have:=Ss b;simpa using this
 refine⟨d,?_⟩;have a:(S.data.toList.drop k)[0]?=some c:=by rw[b];rfl
 rw[kU] at a;simp only[kC] at a
 have e:S.data.toList[k]?=some S[k]:=by rw[oW (by simpa using d)];rfl
 rw[e] at a;exact nV a
def xM{S:G K}{k:H}{l:G K}(a:S.drop k=l)(b:k<=S.length):k+l.length=S.length:=by rw[<-a,nN];omega
end Pa
namespace Pa
open Jv
mutual
def dep:J->H
 | .arr l=>xG l+1
 | .obj l=>depM l+1
 |_=>1
def xG:G J->H
 |[]=>0
 |a::r=>max (dep a) (xG r)
def depM:G (Λ×J)->H
 |[]=>0
 |a::r=>max (depP a) (depM r)
def depP:Λ×J->H
 |(_,a)=>dep a
end
def E3(l m:G J):xG (l++m)=max (xG l) (xG m):=by
 induction l with
 |nil=>simp[xG]
 |cons a r ih=>simp only[mq,xG,ih];omega
end Pa
namespace Pa
def Yo{S s:Λ}{k:H}{a:G K}(g:Lib.validD s.data.toList=true)(c:S.data.toList.drop k=Γ s.data.toList++a):
 Jw.pv S.data.toList (k:Int)=(s.data.toList,(((k+(Γ s.data.toList).length:H)):Int),0):=by
 have e:S.data.toList.drop k=34::(Js.body s.data.toList++34::a):=by rw[c,Γ];simp
 obtain⟨f,d⟩:=drop_at e;rw[Jw.pv_in f d,drop_one e,Js.Nx _ _ g];unfold Jw.fin;have b:(Γ s.data.toList).length=(Js.body s.data.toList).length+2:=by simp[Γ]
 simp only[jJ];rw[b];simp only[mT,kO,nU];omega
end Pa
end Go.Proofs.YthbhmjdcfocphaaGreatDoor
