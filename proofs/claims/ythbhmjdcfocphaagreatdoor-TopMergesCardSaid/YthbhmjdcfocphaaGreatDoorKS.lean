/- A part of this proof. -/
import Derived.Test.YthbhmjdcfocphaaGreatDoorKW
import Derived.Test.YthbhmjdcfocphaaGreatDoorKS0
set_option linter.all false
set_option maxHeartbeats 16000000
set_option maxRecDepth 100000
namespace Go.Proofs.YthbhmjdcfocphaaGreatDoor
open Go.Value renaming string→I, slice→δ, pointer→J, int→θ
open Go.Obj renaming cells→O
open Go.Ending renaming returned→X
open Go.IntKind renaming i64→ι
open Go.Lib renaming hid→H, setCells→av
open _root_.Array renaming replicate→ν
open Go.Proofs.Tryz renaming prog→N, strings_makeASCIISet→Θ, asciiSet_contains→Ξ, ntmps96→ο, ntmps51→ah, ntmps25→aj, func96→az, func51→aA, func25→aC
open Option renaming some→K, none→G
open _root_ renaming ByteArray→χ, Nat→M
open Bool renaming false→L, true→ς
open Go renaming World→U, Calls→V, Value→aE, run_string_add_sum→aG
open Go.ByteArray renaming toList_eq→Ω
namespace Ms
open RowKit Rw Vf Mw Me
def strSize:aE->M
 |I s=>s.size
 |_=>0
def tZ:χ:=⟨#[97,98,99,100,101,102,103,104,105,106,107,108,109,110,111,112,113,114,115,116,117,118,119,120,121,122,48,49,50,51,52,53,54,55,56,57,45,95]⟩
def yS:∀(j:M) b,tZ.data.toList[j]?=K b->b.toNat<128:=by
 have c:∀b∈tZ.data.toList,b.toNat<128:=by decide+kernel
 exactλj b e=>c b (lX e)
def trimR_x(b:M)(w:U)(c:w.cell? ⟨b,120,G⟩=K (.bool ς)):
 V N 96 #[I ⟨#[120]⟩,J (K ⟨b,0,G⟩)] w λe w'=>e=X (I ⟨#[]⟩)/\w'=w:=by
 have f:=H (Ξ b 120 ς w c);clear c
 go_enter az,ο
 go_wp2_with fail
 go_loopw [0] (λx wr=>(x=I ⟨#[120]⟩\/x=I ⟨#[]⟩)/\wr=w) (λx _=>strSize x)
 case atStart=>exact⟨.inl rfl,rfl⟩
 case round=>
  obtain⟨rfl|rfl,rfl⟩:=hrel
  ·go_wp2_with fail
   refine f.o.mono ?_;rintro e g⟨rfl,rfl⟩
   go_wp2_with fail
   go_roundw
   case rel=>exact⟨.inr rfl,trivial⟩
   case measure=>decide
  ·go_wp2_with fail
   go_ret;exact⟨rfl,rfl⟩
def trimR_a(b:M)(w:U)(c:w.cell? ⟨b,97,G⟩=K (.bool ς)):
 V N 96 #[I ⟨#[97]⟩,J (K ⟨b,0,G⟩)] w λe w'=>e=X (I ⟨#[]⟩)/\w'=w:=by
 have f:=H (Ξ b 97 ς w c);clear c
 go_enter az,ο
 go_wp2_with fail
 go_loopw [0] (λx wr=>(x=I ⟨#[97]⟩\/x=I ⟨#[]⟩)/\wr=w) (λx _=>strSize x)
 case atStart=>exact⟨.inl rfl,rfl⟩
 case round=>
  obtain⟨rfl|rfl,rfl⟩:=hrel
  ·go_wp2_with fail
   refine f.o.mono ?_;rintro e g⟨rfl,rfl⟩
   go_wp2_with fail
   go_roundw
   case rel=>exact⟨.inr rfl,trivial⟩
   case measure=>decide
  ·go_wp2_with fail
   go_ret;exact⟨rfl,rfl⟩
def Da(b:M)(w:U):
 V N 95 #[I ⟨#[]⟩,J (K ⟨b,0,G⟩)] w λe w'=>e=X (I ⟨#[]⟩)/\w'=w:=by
 go_enter Tryz.func95,Tryz.ntmps95
 go_wp2_with fail
 go_loopw [0] (λx wr=>x=I ⟨#[]⟩/\wr=w) (λx _=>strSize x)
 case atStart=>exact⟨rfl,rfl⟩
 case round=>
  obtain⟨rfl,rfl⟩:=hrel
  go_wp2_with fail
  go_ret;exact⟨rfl,rfl⟩
def J0:∀w,(zeroValue 162).run N w= .ok (.agg (ν 256 (.bool L))) w:=λw=>by kernel_rfl
def trim_x(w:U):
 V N 51 #[I ⟨#[120]⟩,I tZ] w λe w'=>e=X (I ⟨#[]⟩)/\Below w.heap.size w w':=by
 have h:=H (Θ J0 tZ w (by decide) yS);unfold tZ at*
 go_enter aA,ah
 obtain⟨A,g⟩:=pL (av [97,98,99,100,101,102,103,104,105,106,107,108,109,110,111,112,113,114,115,116,117,118,119,120,121,122,48,49,50,51,52,53,54,55,56,57,45,95]);have c:=H (show A.size=256/\A[120]?=K (.bool ς)/\A.all (·.oneCell')=ς from by rw[<-g];exact⟨by decide+kernel,by rfl,by decide+kernel⟩);have q:=J0
 go_wp2_with fail
 refine h.o.mono ?_;rintro e b⟨rfl,o⟩;have j:=H (show Below w.heap.size w b from by rw[o];exact pM _ _);simp only[g];clear o h g;have f:=H (pG b (O (ν 256 (.bool L)) 162))
 go_wp2_with(refine oN rfl 162 _ _ rfl b.heap.size A rfl rfl 162 (ν 256 (.bool L)) f.o (by rw[c.o.1];kernel_rfl) (by rw[c.o.1,jI]) c.o.2.2 ?_)
 have l:=(i_ _ b.heap.size 120 _ A _ _ f.o).trans c.o.2.1;have k:=H (Me.pS (pK j.o (pM b (O (ν 256 (.bool L)) 162))) j.o.size A);have i:=H (trimR_x _ _ l);clear l f c;generalize(b.alloc (O (ν 256 (.bool L)) 162)).setRow b.heap.size A=r at k i|-;refine i.o.mono ?_;rintro e s⟨rfl,rfl⟩
 go_wp2_with fail
 refine(Da _ _).mono ?_;rintro e u⟨rfl,rfl⟩
 go_wp2_with fail
 go_ret;exact⟨rfl,k.o⟩
def DF(w:U):
 V N 25 #[I ⟨#[120]⟩] w λe w'=>e=X (.bool ς)/\Below w.heap.size w w':=by
 have b:=H (trim_x w);unfold tZ at b;have g:(⟨#[120]⟩:χ).size=1:=rfl
 go_enter aC,aj
 go_wp2_with fail
 refine b.o.mono ?_;rintro e h⟨rfl,c⟩;have f:=H c;clear c b
 go_wp2_with fail
 go_ret;exact⟨rfl,f.o⟩
def trim_a(w:U):
 V N 51 #[I ⟨#[97]⟩,I tZ] w λe w'=>e=X (I ⟨#[]⟩)/\Below w.heap.size w w':=by
 have h:=H (Θ J0 tZ w (by decide) yS);unfold tZ at*
 go_enter aA,ah
 obtain⟨A,g⟩:=pL (av [97,98,99,100,101,102,103,104,105,106,107,108,109,110,111,112,113,114,115,116,117,118,119,120,121,122,48,49,50,51,52,53,54,55,56,57,45,95]);have c:=H (show A.size=256/\A[97]?=K (.bool ς)/\A.all (·.oneCell')=ς from by rw[<-g];exact⟨by decide+kernel,by rfl,by decide+kernel⟩);have q:=J0
 go_wp2_with fail
 refine h.o.mono ?_;rintro e b⟨rfl,o⟩;have j:=H (show Below w.heap.size w b from by rw[o];exact pM _ _);simp only[g];clear o h g;have f:=H (pG b (O (ν 256 (.bool L)) 162))
 go_wp2_with(refine oN rfl 162 _ _ rfl b.heap.size A rfl rfl 162 (ν 256 (.bool L)) f.o (by rw[c.o.1];kernel_rfl) (by rw[c.o.1,jI]) c.o.2.2 ?_)
 have l:=(i_ _ b.heap.size 97 _ A _ _ f.o).trans c.o.2.1;have k:=H (Me.pS (pK j.o (pM b (O (ν 256 (.bool L)) 162))) j.o.size A);have i:=H (trimR_a _ _ l);clear l f c;generalize(b.alloc (O (ν 256 (.bool L)) 162)).setRow b.heap.size A=r at k i|-;refine i.o.mono ?_;rintro e s⟨rfl,rfl⟩
 go_wp2_with fail
 refine(Da _ _).mono ?_;rintro e u⟨rfl,rfl⟩
 go_wp2_with fail
 go_ret;exact⟨rfl,k.o⟩
def YF(w:U):
 V N 25 #[I ⟨#[97]⟩] w λe w'=>e=X (.bool ς)/\Below w.heap.size w w':=by
 have b:=H (trim_a w);unfold tZ at b;have g:(⟨#[97]⟩:χ).size=1:=rfl
 go_enter aC,aj
 go_wp2_with fail
 refine b.o.mono ?_;rintro e h⟨rfl,c⟩;have f:=H c;clear c b
 go_wp2_with fail
 go_ret;exact⟨rfl,f.o⟩
def trimR_y(b:M)(w:U)(c:w.cell? ⟨b,121,G⟩=K (.bool ς)):
 V N 96 #[I ⟨#[121]⟩,J (K ⟨b,0,G⟩)] w λe w'=>e=X (I ⟨#[]⟩)/\w'=w:=by
 have f:=H (Ξ b 121 ς w c);clear c
 go_enter az,ο
 go_wp2_with fail
 go_loopw [0] (λx wr=>(x=I ⟨#[121]⟩\/x=I ⟨#[]⟩)/\wr=w) (λx _=>strSize x)
 case atStart=>exact⟨.inl rfl,rfl⟩
 case round=>
  obtain⟨rfl|rfl,rfl⟩:=hrel
  ·go_wp2_with fail
   refine f.o.mono ?_;rintro e g⟨rfl,rfl⟩
   go_wp2_with fail
   go_roundw
   case rel=>exact⟨.inr rfl,trivial⟩
   case measure=>decide
  ·go_wp2_with fail
   go_ret;exact⟨rfl,rfl⟩
def trim_y(w:U):
 V N 51 #[I ⟨#[121]⟩,I tZ] w λe w'=>e=X (I ⟨#[]⟩)/\Below w.heap.size w w':=by
 have h:=H (Θ J0 tZ w (by decide) yS);unfold tZ at*
 go_enter aA,ah
 obtain⟨A,g⟩:=pL (av [97,98,99,100,101,102,103,104,105,106,107,108,109,110,111,112,113,114,115,116,117,118,119,120,121,122,48,49,50,51,52,53,54,55,56,57,45,95]);have c:=H (show A.size=256/\A[121]?=K (.bool ς)/\A.all (·.oneCell')=ς from by rw[<-g];exact⟨by decide+kernel,by rfl,by decide+kernel⟩);have q:=J0
 go_wp2_with fail
 refine h.o.mono ?_;rintro e b⟨rfl,o⟩;have j:=H (show Below w.heap.size w b from by rw[o];exact pM _ _);simp only[g];clear o h g;have f:=H (pG b (O (ν 256 (.bool L)) 162))
 go_wp2_with(refine oN rfl 162 _ _ rfl b.heap.size A rfl rfl 162 (ν 256 (.bool L)) f.o (by rw[c.o.1];kernel_rfl) (by rw[c.o.1,jI]) c.o.2.2 ?_)
 have l:=(i_ _ b.heap.size 121 _ A _ _ f.o).trans c.o.2.1;have k:=H (Me.pS (pK j.o (pM b (O (ν 256 (.bool L)) 162))) j.o.size A);have i:=H (trimR_y _ _ l);clear l f c;generalize(b.alloc (O (ν 256 (.bool L)) 162)).setRow b.heap.size A=r at k i|-;refine i.o.mono ?_;rintro e s⟨rfl,rfl⟩
 go_wp2_with fail
 refine(Da _ _).mono ?_;rintro e u⟨rfl,rfl⟩
 go_wp2_with fail
 go_ret;exact⟨rfl,k.o⟩
def Gz(w:U):
 V N 25 #[I ⟨#[121]⟩] w λe w'=>e=X (.bool ς)/\Below w.heap.size w w':=by
 have b:=H (trim_y w);unfold tZ at b;have g:(⟨#[121]⟩:χ).size=1:=rfl
 go_enter aC,aj
 go_wp2_with fail
 refine b.o.mono ?_;rintro e h⟨rfl,c⟩;have f:=H c;clear c b
 go_wp2_with fail
 go_ret;exact⟨rfl,f.o⟩
end Ms
namespace Ms
open RowKit Rw Vf
def xK(W0 w:U)(B F:M)(Z p0:M->Prop)(a:AS):Prop:=∃p',Fs w B F Z a p'/\Fr W0 w p0/\∀k,p' k->p0 k\/W0.heap.size<=k
section
variable {W0 w w':U}{B F:M}{Z p0 p:M->Prop}{a a':AS}
def xK.refl(b:Fs w B F Z a p):xK w w B F Z p a:=⟨p,b,Fr.qd (pH _ _) _,λk c=> .inl c⟩
def xK.below(c:xK W0 w B F Z p0 a)(b:Below w.heap.size w w'):xK W0 w' B F Z p0 a:=by obtain⟨p',f,g,h⟩:=c;exact⟨p',f.below b,g.trans (Fr.qd b _) (λ_ _ e=>e),h⟩
def xK.call(j:xK W0 w B F Z p0 a){f:FuncId}{args:Array aE}{r:aE}(c:∀p',Fs w B F Z a p'->V N f args w (Aft w B F Z p' r a')):V N f args w λe w'=>e=X r/\xK W0 w' B F Z p0 a':=by
 obtain⟨p',l,h,i⟩:=j;refine(c p' l).mono ?_;rintro e w'⟨rfl,q,o,s,u⟩;refine⟨rfl,q,o,h.trans s (λk b v=>(i k v).elim id (λg=>absurd b (by omega))),λk b=>?_⟩;rcases u k b with g|g
 ·exact i k g
 ·exact .inr (pF h.size g)
def xK.cell(e:xK W0 w B F Z p0 a){b:Addr}{v:aE}(c:W0.cell? b=K v)(h:¬p0 b.block):w.cell? b=K v:=by obtain⟨p',i,f,j⟩:=e;have g:=Rw.lt_of_cell c;unfold World.cell? at c|-;rw[f.block _ g h];exact c
end
def fnW(d t x:M):aE:= .func (.func 111) #[] #[J (K ⟨d,0,G⟩),J (K ⟨t,0,G⟩),J (K ⟨x,0,G⟩)]
def fnS(d t:M):aE:= .func (.func 113) #[] #[J (K ⟨d,0,G⟩),J (K ⟨t,0,G⟩)]
def fnR(d t m:M):aE:= .func (.func 115) #[] #[J (K ⟨d,0,G⟩),J (K ⟨t,0,G⟩),J (K ⟨m,0,G⟩)]
def fnD(F:M):aE:= .func (.func 62) #[J (K ⟨F,0,G⟩)] #[]
def qV:χ:=⟨#[46,106,115,111,110]⟩
def Fq:χ:=⟨#[46,116,109,112]⟩
def wZ(s:χ):(s++qV).size=s.size+5:=by rw[nW];rfl
def Hz(s:χ):(s++Fq).size=s.size+4:=by rw[nW];rfl
section
variable {W0 w:U}{B F n d t x m:M}{Z p0:M->Prop}{a:AS}{tn data nm:χ}
def clW(h:xK W0 w B F Z p0 a)(q:Qs a n)(C:n<=300000)(v:tn.toList.isEmpty=L)(y:tn.size<=1000000)(s:data.size<=1000000)(k:qw a.names tn.data.toList=G)
 (z:w.cell? ⟨d,0,G⟩=K (J (K ⟨F,0,G⟩))) (c1:w.cell? ⟨t,0,G⟩=K (I tn)) (c2:w.cell? ⟨x,0,G⟩=K (I data)):
 V N 111 #[J (K ⟨d,0,G⟩),J (K ⟨t,0,G⟩),J (K ⟨x,0,G⟩)] w λe w'=>e=X (θ ι 0)/\xK W0 w' B F Z p0 (a.wrote tn data.data.toList):=by
 obtain⟨cap,D,A,l,j⟩:=YG w data;have g:AS.op (AS.put tn data.data.toList) (AS.I4 tn data.data.toList) a=(0,a.wrote tn data.data.toList):=(FX q.dn q.ar _ _).trans (N8 q v k)
 have b:=(h.below j).call (r:=θ ι 0) (a':=a.wrote tn data.data.toList) (f:=112) (args:=#[J (K ⟨F,0,G⟩),I tn,δ (K ⟨w.heap.size,0,G⟩) data.size cap]) (λp' u=>by
  have:=YH u q.ok (by omega) tn _ data.data.toList y (by simpa using s) l;rw[g] at this;exact this)
 have c:=H b;clear b l j g h k q
 go_enter Tryz.func111,Tryz.ntmps111
 go_wp2_with fail
 refine c.o.mono ?_;rintro e E⟨rfl,i⟩;have o:=H i;clear i c
 go_wp2_with fail
 go_ret;exact⟨rfl,o.o⟩
def clS{b c:AS}(j:xK W0 w B F Z p0 b)(ok:b.Ok n)(u:n<=300000)(q:tn.size<=1000000)(i:AS.op (AS.sync tn) id b=(0,c))
 (s:w.cell? ⟨d,0,G⟩=K (J (K ⟨F,0,G⟩))) (c1:w.cell? ⟨t,0,G⟩=K (I tn)):
 V N 113 #[J (K ⟨d,0,G⟩),J (K ⟨t,0,G⟩)] w λe w'=>e=X (θ ι 0)/\xK W0 w' B F Z p0 c:=by
 have g:=j.call (r:=θ ι 0) (a':=c) (f:=114) (args:=#[J (K ⟨F,0,G⟩),I tn]) (λp' o=>by
  have:=sync_fs o ok (by omega) tn q;rw[i] at this;exact this)
 have h:=H g;clear g i j ok
 go_enter Tryz.func113,Tryz.ntmps113
 go_wp2_with fail
 refine h.o.mono ?_;rintro e v⟨rfl,k⟩;have l:=H k;clear k h
 go_wp2_with fail
 go_ret;exact⟨rfl,l.o⟩
def clR{c g:AS}(j:xK W0 w B F Z p0 c)(ok:c.Ok n)(A:n<=300000)(s:tn.size<=1000000)(u:(nm++qV).size<=1000000)(i:AS.op (AS.rename tn (nm++qV)) id c=(0,g))
 (v:w.cell? ⟨d,0,G⟩=K (J (K ⟨F,0,G⟩))) (c1:w.cell? ⟨t,0,G⟩=K (I tn)) (c2:w.cell? ⟨m,0,G⟩=K (I nm)):
 V N 115 #[J (K ⟨d,0,G⟩),J (K ⟨t,0,G⟩),J (K ⟨m,0,G⟩)] w λe w'=>e=X (θ ι 0)/\xK W0 w' B F Z p0 g:=by
 have h:=j.call (r:=θ ι 0) (a':=g) (f:=116) (args:=#[J (K ⟨F,0,G⟩),I tn,I (nm++qV)]) (λp' o=>by
  have:=UK o ok (by omega) tn (nm++qV) s u;rw[i] at this;exact this)
 have b:=H h;clear h i j ok
 have q:nm.size+5<=9223372036854775807:=by have y:=wZ nm;omega
 have z:=λw=>aG (P:=N) w nm ⟨#[46,106,115,111,110]⟩ q
 unfold qV at b
 go_enter Tryz.func115,Tryz.ntmps115
 go_wp2_with fail
 refine b.o.mono ?_;rintro e C⟨rfl,k⟩;have l:=H k;clear k b
 go_wp2_with fail
 go_ret;exact⟨rfl,l.o⟩
def clD{b c:AS}(g:xK W0 w B F Z p0 b)(ok:b.Ok n)(i:n<=300000)(f:AS.op AS.sG id b=(0,c)):
 V N 62 #[J (K ⟨F,0,G⟩)] w λe w'=>e=X (θ ι 0)/\xK W0 w' B F Z p0 c:=
 g.call (λp' h=>by
  have:=Qy h ok (by omega);rw[f] at this;exact this)
end
section
variable {W0:U}{B F n d t x m R:M}{Z p0:M->Prop}{a:AS}{tn data nm:χ}
def stepA(a:AS)(tn b:χ)(l:List UInt8):M->AS
 |0=>a
 |1=>a.wrote tn l
 |2=>a.xY tn l
 |3=>a.Bj tn b l
 |_=>a.rF b l
def Qz(a6:Fs W0 B F Z a p0)(q:Qs a n)(am:n<=200000)(A:tn.toList.isEmpty=L)(a8:(nm++qV).toList.isEmpty=L)(a7:(tn.toList==(nm++qV).toList)=L)(i:tn.size<=1000000)(Y:(nm++qV).size<=1000000)(T:data.size<=1000000)(z:qw a.names tn.data.toList=G)
 (y:W0.cell? ⟨d,0,G⟩=K (J (K ⟨F,0,G⟩))) (c1:W0.cell? ⟨t,0,G⟩=K (I tn)) (c2:W0.cell? ⟨x,0,G⟩=K (I data)) (a4:W0.cell? ⟨m,0,G⟩=K (I nm))
 (ac:W0.cell? ⟨R,0,G⟩=K (fnW d t x)) (ad:W0.cell? ⟨R,1,G⟩=K (fnS d t)) (ae:W0.cell? ⟨R,2,G⟩=K (fnR d t m)) (af:W0.cell? ⟨R,3,G⟩=K (fnD F))
 (nd:¬p0 d) (C:¬p0 t) (aa:¬p0 x) (a9:¬p0 m) (j:¬p0 R):
 V N 60 #[δ (K ⟨R,0,G⟩) 4 4] W0 λe w'=>e=X (.tuple #[θ ι 4,θ ι 0])/\xK W0 w' B F Z p0 (a.rF (nm++qV) data.data.toList):=by
 have Q:AS.op (AS.sync tn) id (a.wrote tn data.data.toList)=(0,a.xY tn data.data.toList):=(FX (a:=a.wrote tn data.data.toList) q.dn q.ar _ _).trans (UL q);have S:AS.op (AS.rename tn (nm++qV)) id (a.xY tn data.data.toList)=(0,a.Bj tn (nm++qV) data.data.toList):=(FX (a:=a.xY tn data.data.toList) q.dn q.ar _ _).trans (N9 q A a8 a7 z);have a5:AS.op AS.sG id (a.Bj tn (nm++qV) data.data.toList)=(0,a.rF (nm++qV) data.data.toList):=(FX (a:=a.Bj tn (nm++qV) data.data.toList) q.dn q.ar _ _).trans YI
 have a0:(a.wrote tn data.data.toList).Ok (n+1):=by have:=q.ok.put tn data.data.toList i (by simpa using T);rw[N8 q A z] at this;exact this
 have a1:(a.xY tn data.data.toList).Ok (n+1+1):=by have:=a0.opsync tn;rw[Q] at this;exact this
 have ab:(a.Bj tn (nm++qV) data.data.toList).Ok (n+1+1+1):=by have:=a1.YJ tn (nm++qV) i Y;rw[S] at this;exact this
 have a3:=H (λw (c:xK W0 w B F Z p0 a)=>clW c q (by omega) A i T z (c.cell y nd) (c.cell c1 C) (c.cell c2 aa));have D:=H (λw (c:xK W0 w B F Z p0 (a.wrote tn data.data.toList))=>clS c a0 (by omega) i Q (c.cell y nd) (c.cell c1 C));have E:=H (λw (c:xK W0 w B F Z p0 (a.xY tn data.data.toList))=>clR c a1 (by omega) i Y S (c.cell y nd) (c.cell c1 C) (c.cell a4 a9));have P:=H (λw (c:xK W0 w B F Z p0 (a.Bj tn (nm++qV) data.data.toList))=>clD c ab (by omega) a5);have ai:=H (λw (b:AS) (c:xK W0 w B F Z p0 b)=>And.intro (c.cell ac j) (And.intro (c.cell ad j) (And.intro (c.cell ae j) (c.cell af j))));have ag:=H (xK.refl a6);clear a6 q Q S a5 a0 a1 ab y c1 c2 a4 ac ad ae af z A a8 a7 i Y T nd C aa a9 j;generalize data.data.toList=l at a3 D E P|-;generalize nm++qV=ak at D E P|-
 go_enter Tryz.func60,Tryz.ntmps60
 go_wp2_with fail
 go_loopw [9] (λv wr=>∃k:M,k<=4/\v=θ ι k/\Hid (xK W0 wr B F Z p0 (stepA a tn ak l k))) (λv _=>4-(intOf v).toNat)
 case atStart=>exact⟨0,by omega,rfl,ag⟩
 case round=>
  obtain⟨k,al,rfl,c⟩:=hrel;obtain⟨o,r,s,u⟩:=ai.o wr _ c.o;unfold fnW at o;unfold fnS at r;unfold fnR at s;unfold fnD at u;obtain rfl|rfl|rfl|rfl|rfl:k=0\/k=1\/k=2\/k=3\/k=4:=by omega
  ·have f:=H (a3.o wr c.o)
   go_wp2_with fail
   refine f.o.mono ?_;rintro e a2⟨rfl,g⟩;have h:=H g;clear g f o r s u
   go_wp2_with fail
   go_roundw
   case rel=>exact⟨1,by omega,by go_num,h⟩
   case measure=>simp[intOf]
  ·have f:=H (D.o wr c.o)
   go_wp2_with fail
   refine f.o.mono ?_;rintro e a2⟨rfl,g⟩;have h:=H g;clear g f o r s u
   go_wp2_with fail
   go_roundw
   case rel=>exact⟨2,by omega,by go_num,h⟩
   case measure=>simp[intOf]
  ·have f:=H (E.o wr c.o)
   go_wp2_with fail
   refine f.o.mono ?_;rintro e a2⟨rfl,g⟩;have h:=H g;clear g f o r s u
   go_wp2_with fail
   go_roundw
   case rel=>exact⟨3,by omega,by go_num,h⟩
   case measure=>simp[intOf]
  ·have f:=H (P.o wr c.o)
   go_wp2_with fail
   refine f.o.mono ?_;rintro e a2⟨rfl,g⟩;have h:=H g;clear g f o r s u
   go_wp2_with fail
   go_roundw
   case rel=>exact⟨4,by omega,by go_num,h⟩
   case measure=>simp[intOf]
  ·go_wp2_with fail
   go_ret2;exact⟨rfl,c.o⟩
end
def H_{s:χ}(b:0<s.size):s.toList.isEmpty=L:=by
 rw[Ω];have:s.data.toList.length=s.size:=by simp
 cases e:s.data.toList with
 |nil=>rw[e] at this;simp at this;omega
 |cons x r=>rfl
def ne_tmp(s:χ):(s++Fq).toList.isEmpty=L:=H_ (by rw[Hz];omega)
def ne_json(s:χ):(s++qV).toList.isEmpty=L:=H_ (by rw[wZ];omega)
def N_(s:χ):((s++Fq).toList==(s++qV).toList)=L:=by
 rw[Ω,Ω];have b:(s++Fq).data.toList.length=s.size+4:=by rw[<-Hz];simp
 have c:(s++qV).data.toList.length=s.size+5:=by rw[<-wZ];simp
 rw[oq];intro e;rw[e] at b;omega
def heap5(W:U)(b c f g h:Obj):(((((W.alloc b).alloc c).alloc f).alloc g).alloc h).heap[W.heap.size]?=K b/\(((((W.alloc b).alloc c).alloc f).alloc g).alloc h).heap[W.heap.size+1]?=K c/\(((((W.alloc b).alloc c).alloc f).alloc g).alloc h).heap[W.heap.size+1+1]?=K f/\(((((W.alloc b).alloc c).alloc f).alloc g).alloc h).heap[W.heap.size+1+1+1]?=K g/\(((((W.alloc b).alloc c).alloc f).alloc g).alloc h).heap[W.heap.size+1+1+1+1]?=K h:=by
 have e:(((((W.alloc b).alloc c).alloc f).alloc g).alloc h).heap=((((W.heap.push b).push c).push f).push g).push h:=rfl;rw[e];refine⟨?_,?_,?_,?_,?_⟩
 all_goals
  simp only[kJ,nI]
  repeat(first|rw[oD (by omega)]|rw[oU (by omega)])
  try simp
def below5(W:U)(g h i j k:Obj):Below W.heap.size W (((((W.alloc g).alloc h).alloc i).alloc j).alloc k):=by have b:=pM W g;have c:=b.alloc b.size h;have e:=c.alloc c.size i;have f:=e.alloc e.size j;exact f.alloc f.size k
def xK.qd{W b w':U}{B F:M}{Z p:M->Prop}{a:AS}(c:Below W.heap.size W b)(f:xK b w' B F Z p a):xK W w' B F Z p a:=by obtain⟨p',h,i,j⟩:=f;exact⟨p',h,(Fr.qd c p).trans i (λ_ _ e=>e),λk l=>(j k l).imp id (λg=>pF c.size g)⟩
section
variable {W:U}{B F n:M}{Z p:M->Prop}{a:AS}{data nm:χ}
def swap_ok(c:Fs W B F Z a p)(q:Qs a n)(v:n<=200000)(z:nm.size<=100)(s:data.size<=1000000)(l:qw a.names (nm++Fq).data.toList=G):
 V N 58 #[.agg #[J (K ⟨F,0,G⟩)],I nm,I data] W λe w'=>e=X (.tuple #[θ ι 4,θ ι 0])/\xK W w' B F Z p (a.rF (nm++qV) data.data.toList):=by
 have A:=Hz nm;have y:=λw=>aG (P:=N) w nm ⟨#[46,116,109,112]⟩ (show nm.size+4<=9223372036854775807 by omega)
 go_enter Tryz.func58,Tryz.ntmps58
 go_wp2_with fail
 obtain⟨o,y1,y2,y3,y4⟩:=heap5 W (O #[J (K ⟨F,0,G⟩)] 64) (O #[I nm] 9) (O #[I data] 9) (O #[I (nm++⟨#[46,116,109,112]⟩)] 9) (O #[fnW W.heap.size (W.heap.size+1+1+1) (W.heap.size+1+1),fnS W.heap.size (W.heap.size+1+1+1),fnR W.heap.size (W.heap.size+1+1+1) (W.heap.size+1),fnD F] 123);have f:=below5 W (O #[J (K ⟨F,0,G⟩)] 64) (O #[I nm] 9) (O #[I data] 9) (O #[I (nm++⟨#[46,116,109,112]⟩)] 9) (O #[fnW W.heap.size (W.heap.size+1+1+1) (W.heap.size+1+1),fnS W.heap.size (W.heap.size+1+1+1),fnR W.heap.size (W.heap.size+1+1+1) (W.heap.size+1),fnD F] 123);have b:=λk u=>(c.lt k u).1
 have g:=H (Qz (tn:=nm++Fq) (data:=data) (nm:=nm) (c.below f) q v (ne_tmp nm) (ne_json nm) (N_ nm) (by omega) (by have:=wZ nm;omega) s l (Me.pJ o rfl) (Me.pJ y3 rfl) (Me.pJ y2 rfl) (Me.pJ y1 rfl) (Me.pJ (j:=0) y4 rfl) (Me.pJ (j:=1) y4 rfl) (Me.pJ (j:=2) y4 rfl) (Me.pJ (j:=3) y4 rfl) (λe=>by have:=b _ e;omega) (λe=>by have:=b _ e;omega) (λe=>by have:=b _ e;omega) (λe=>by have:=b _ e;omega) (λe=>by have:=b _ e;omega));have h:=H f;clear o y1 y2 y3 y4 f b c q l;refine g.o.mono ?_;rintro e C⟨rfl,i⟩;have r:=H (i.qd h.o);clear i g h
 go_wp2_with fail
 go_ret2;exact⟨rfl,r.o⟩
end
end Ms
end Go.Proofs.YthbhmjdcfocphaaGreatDoor
