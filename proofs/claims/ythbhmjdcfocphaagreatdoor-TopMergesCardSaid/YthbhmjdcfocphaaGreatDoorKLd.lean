/- A part of this proof. -/
import Derived.Test.YthbhmjdcfocphaaGreatDoorRows
import Derived.Test.YthbhmjdcfocphaaGreatDoorK9
import Derived.Lib.LaidU8T
import Derived.Lib.SmallJoins
set_option linter.all false
set_option maxHeartbeats 16000000
namespace Go.Proofs.YthbhmjdcfocphaaGreatDoor
open Go.Lib renaming VarReads→η, tabData→θ, cells_of_tab→Δ, TabIs→aj
open Go.Proofs.Tryz renaming prog→κ, underlying421→Ω, underlying21→ο, underlying5→ah
open _root_.Go.Proofs.YthbhmjdcfocphaaGreatDoor.Rows renaming laid_internal_strconv_uint64pow10→ν, laid_feedvault_jsonstring_letters→ξ, laid_feedvault_text_startRanges→π, laid_unicode_utf8_acceptRanges→χ, laid_feedvault_text_moreRanges→Γ, laid_unicode_utf8_first→Θ, laid_strings_asciiSpace→Λ
open Option renaming some→K
open Go renaming World→G, DataW→H
namespace Ld
def Ut{l m:List Value}{n:Nat}(c:l.length=2*n)(d:m.length=2*n)(a:∀i,i<n->(l.drop (2*i)).take 2=(m.drop (2*i)).take 2):l=m:=by
 apply List.ext_getElem?;intro j
 by_cases b:j<2*n
 ·have e:=nT (·[j%2]?) (a (j/2) (by omega))
  simp only[mG,kU,oD (show j%2<2 by omega),show 2*(j/2)+j%2=j by omega] at e;exact e
 ·rw[kq (by omega),kq (by omega)]
def xW{b:Type}{enc:TypeId×Value->b}{P:Program}{w:G}{base:Nat}{sp:Nat->Bool}{B:Bool}{c:Nat}{t e i:TypeId}{n:Nat}{k:IntKind}{cs:List Value}{zs:List Int}{ds:List (H b)}{p:List MemPlace}
 (s:P.underlying t=K (.array n e)) (A:P.underlying e=K (.array 2 i)) (C:P.underlying i=K (.int k)) (m:P.cellsOf e=2) (v:P.cellsOf i=1) (x:P.cellsOf t=2*n)
 (F:zs.length=2*n) (y:∀j,j<n->ds[j]?=K (θ k [zs.getD (2*j) 0,zs.getD (2*j+1) 0]))
 (g:DataW.trod enc P w base sp B c t cs=K (.agg ds,p)):cs=zs.map λz=>Value.int k z:=by
 have E:cs.length=2*n:=by
  have a:=g
  cases c with
  |zero=>simp[DataW.trod] at a
  |succ f=>
   simp only[DataW.trod,s] at a
   split at a
   ·rename_i D
    rw[<-x];exact D
   ·cases a
 refine Ut E (by simpa using F) λj r=>?_
 obtain⟨I,d,q,o,u⟩:=Lib.array_elem s g j r;rw[y j r] at o;cases o;rw[m] at u;have:=Δ A C v m u;rw[lN] at this;rw[this];have h:2*j<zs.length:=by omega
 have l:2*j+1<zs.length:=by omega
 rw[<-List.map_drop,<-iR,mO h,mm,mO l,mm,lP];simp[om,oW h,oW l]
def Aa{P:Program}{w:G}{n:String}{g:Nat}{cs:Array Value}(e:P.globalNamed n=K g)(a:w.var? P n=K cs):∃t b,w.heap[g]?=K (.cells cs t b):=by
 simp only[World.var?,e,Option.bind_some] at a
 split at a
 ·rename_i c t b d
  cases a;exact⟨t,b,d⟩
 ·cases a
end Ld
namespace Ld
open RowKit
def acc_eq:(χ:H Unit)=Lib.acceptData:=by kernel_rfl
def first_eq:(Θ:H Unit)=Lib.firstData:=by kernel_rfl
def u8_of{W:G}(a:η κ W "unicode/utf8.first" Θ)(b:η κ W "unicode/utf8.acceptRanges" χ):
 Lib.Utf8Tabs 2 3 W:=by
 rw[first_eq] at a;rw[acc_eq] at b;exact utf8Tabs_of_readsT (U8Types.of196 Tryz.lays196) ⟨by kernel_rfl,by kernel_rfl,by kernel_rfl,by kernel_rfl,by kernel_rfl,by kernel_rfl,by kernel_rfl⟩ a b
def let_eq:(ξ:H Unit)= .agg ((List.range 5).map λj=>θ .u8 [Jw.Ef.getD (2*j) 0,Jw.Ef.getD (2*j+1) 0]):=by kernel_rfl
def let_of{W:G}(d:η κ W "feedvault/jsonstring.letters" ξ):Jw.uV W:=by
 obtain⟨g,t,cs,i,p,b,h,c,a⟩:=d;obtain rfl:=nV ((show Tryz.prog.globalNamed "feedvault/jsonstring.letters"=K 6 by kernel_rfl).symm.trans b);obtain rfl:=nV ((show(Tryz.prog.globals[6]?).map (·.type)=K 384 by kernel_rfl).symm.trans h);rw[let_eq] at a
 have e:=xW (zs:=Jw.Ef) Tryz.underlying384 Tryz.underlying383 ah (by kernel_rfl) (by kernel_rfl) (by kernel_rfl) rfl
  (λj f=>by simp[ju,iS f]) a
 have:cs=Jw.Eg:=by apply Array.toList_inj.1;rw[e];rfl
 rw[this] at c;exact Aa b c
def pow_eq:(ν:H Unit)=θ .u64 Lib.pow10Tab:=by kernel_rfl
def pow_of{W:G}(b:η κ W "internal/strconv.uint64pow10" ν):Me.Pow W:=by
 obtain⟨g,t,cs,h,p,d,e,f,a⟩:=b;obtain rfl:=nV ((show Tryz.prog.globalNamed "internal/strconv.uint64pow10"=K 5 by kernel_rfl).symm.trans d);obtain rfl:=nV ((show(Tryz.prog.globals[5]?).map (·.type)=K 381 by kernel_rfl).symm.trans e);rw[pow_eq] at a;have c:=Δ Tryz.underlying381 Tryz.underlying348 (by kernel_rfl) (by kernel_rfl) a;unfold Me.Pow aj;rw[f]
 congr 1
 apply Array.toList_inj.1;rw[c]
def spc_eq:(Λ:H Unit)=θ .u8 Lib.asciiSpaceTab:=by kernel_rfl
def spc_of{W:G}(b:η κ W "strings.asciiSpace" Λ):Me.tH W:=by
 obtain⟨g,t,cs,h,p,d,e,f,a⟩:=b;obtain rfl:=nV ((show Tryz.prog.globalNamed "strings.asciiSpace"=K 0 by kernel_rfl).symm.trans d);obtain rfl:=nV ((show(Tryz.prog.globals[0]?).map (·.type)=K 239 by kernel_rfl).symm.trans e);rw[spc_eq] at a;have c:=Δ Tryz.underlying239 ah (by kernel_rfl) (by kernel_rfl) a;unfold Me.tH aj;rw[f]
 congr 1
 apply Array.toList_inj.1;rw[c]
def tabs_of{W:G}(b:Me.U8 W)(c:Jw.uV W)(d:Me.Pow W)(e:Me.tH W):Me.WT W/\∀u,Below W.heap.size W u->Me.tH u:=
 ⟨⟨b,c,λu a=>Joins.tab_stays (g:=5) (by kernel_rfl) d a (oZ _)⟩,λu a=>Joins.tab_stays (g:=0) (by kernel_rfl) e a (oZ _)⟩
def start_eq:(π:H Unit)= .agg ((List.range 15).map λj=>θ .i32 [pY.v_.getD (2*j) 0,pY.v_.getD (2*j+1) 0]):=by kernel_rfl
def more_eq:(Γ:H Unit)= .agg ((List.range 5).map λj=>θ .i32 [pY.yC.getD (2*j) 0,pY.yC.getD (2*j+1) 0]):=by kernel_rfl
def X5{W:G}(d:η κ W "feedvault/text.startRanges" π):∃t c,W.heap[12]?=K (.cells Tx.zo t c):=by
 obtain⟨g,t,cs,k,p,b,h,i,a⟩:=d;obtain rfl:=nV ((show Tryz.prog.globalNamed "feedvault/text.startRanges"=K 12 by kernel_rfl).symm.trans b);obtain rfl:=nV ((show(Tryz.prog.globals[12]?).map (·.type)=K 423 by kernel_rfl).symm.trans h);rw[start_eq] at a
 have e:=xW (zs:=pY.v_) Tryz.underlying423 Ω ο (by kernel_rfl) (by kernel_rfl) (by kernel_rfl) rfl
  (λj f=>by simp[ju,iS f]) a
 have:cs=Tx.zo:=by apply Array.toList_inj.1;rw[e];rfl
 rw[<-this];exact Aa b i
def more_of{W:G}(d:η κ W "feedvault/text.moreRanges" Γ):∃t c,W.heap[11]?=K (.cells Tx.BB t c):=by
 obtain⟨g,t,cs,k,p,b,h,i,a⟩:=d;obtain rfl:=nV ((show Tryz.prog.globalNamed "feedvault/text.moreRanges"=K 11 by kernel_rfl).symm.trans b);obtain rfl:=nV ((show(Tryz.prog.globals[11]?).map (·.type)=K 422 by kernel_rfl).symm.trans h);rw[more_eq] at a
 have e:=xW (zs:=pY.yC) Tryz.underlying422 Ω ο (by kernel_rfl) (by kernel_rfl) (by kernel_rfl) rfl
  (λj f=>by simp[ju,iS f]) a
 have:cs=Tx.BB:=by apply Array.toList_inj.1;rw[e];rfl
 rw[<-this];exact Aa b i
end Ld
end Go.Proofs.YthbhmjdcfocphaaGreatDoor
