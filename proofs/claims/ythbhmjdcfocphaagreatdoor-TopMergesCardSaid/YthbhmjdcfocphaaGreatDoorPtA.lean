/- A part of this proof. -/
import Derived.Test.YthbhmjdcfocphaaGreatDoorCards
import Derived.Test.YthbhmjdcfocphaaGreatDoorTie
import Derived.Test.YthbhmjdcfocphaaGreatDoorKLd
import Derived.Test.YthbhmjdcfocphaaGreatDoorPtC
import Derived.Test.YthbhmjdcfocphaaGreatDoorG8
import Derived.Lib.LaidIn
import Derived.Deep.DeepWitnessRowRef
namespace Go.Proofs.YthbhmjdcfocphaaGreatDoor.topMerges
open Go.Proofs.Tryz renaming prog→K, checked→ν
open Go.OpenSpec renaming ofChange→θ
open Go.Value renaming int→κ
open Go.ChangeShapes Go.WideShapes Go.ChangeAt Go.RowKit
set_option linter.unusedVariables false
theorem own:ownKnob Tryz.prog.godebug=none:=by kernel_rfl
theorem laidOut:laidOutB K=true:=k1
def put(a:Array Obj)(g:Nat)(cs:Array Value):Array Obj:=a.modify g λ
 | .cells _ t frozen=> .cells cs t frozen
 |o=>o
noncomputable def low:Nat:=(World.holding K default ⟨#[],#[],[]⟩).heap.size
noncomputable def Ew(o:Os):World:=
 let a:=World.holding K o ⟨#[.cells #[.slice (some ⟨low+1,0,none⟩) 7 7,.slice none 0 0,.int .i64 2] 338,.cells #[.int .u16 9,.int .u16 13,.int .u16 1,.int .u16 32,.int .u16 133,.int .u16 101,.int .u16 160,.int .u16 5760,.int .u16 5600,.int .u16 8192,.int .u16 8202,.int .u16 1,.int .u16 8232,.int .u16 8233,.int .u16 1,.int .u16 8239,.int .u16 8287,.int .u16 48,.int .u16 12288,.int .u16 12288,.int .u16 1] 341,.cells #[.string ⟨#[118,97,108,117,101,32,111,117,116,32,111,102,32,114,97,110,103,101]⟩] 426,.cells #[.string ⟨#[105,110,118,97,108,105,100,32,115,121,110,116,97,120]⟩] 426],#[],[]⟩
 let b:=put a.heap 9 #[.int .u8 0,.int .u8 1,.int .u8 28,.int .u8 2,.int .u8 29,.int .u8 14,.int .u8 24,.int .u8 3,.int .u8 30,.int .u8 22,.int .u8 20,.int .u8 15,.int .u8 25,.int .u8 17,.int .u8 4,.int .u8 8,.int .u8 31,.int .u8 27,.int .u8 13,.int .u8 23,.int .u8 21,.int .u8 19,.int .u8 16,.int .u8 7,.int .u8 26,.int .u8 12,.int .u8 18,.int .u8 6,.int .u8 11,.int .u8 5,.int .u8 10,.int .u8 9]
 let f:=put b 10 #[.int .u8 0,.int .u8 1,.int .u8 56,.int .u8 2,.int .u8 57,.int .u8 49,.int .u8 28,.int .u8 3,.int .u8 61,.int .u8 58,.int .u8 42,.int .u8 50,.int .u8 38,.int .u8 29,.int .u8 17,.int .u8 4,.int .u8 62,.int .u8 47,.int .u8 59,.int .u8 36,.int .u8 45,.int .u8 43,.int .u8 51,.int .u8 22,.int .u8 53,.int .u8 39,.int .u8 33,.int .u8 30,.int .u8 24,.int .u8 18,.int .u8 12,.int .u8 5,.int .u8 63,.int .u8 55,.int .u8 48,.int .u8 27,.int .u8 60,.int .u8 41,.int .u8 37,.int .u8 16,.int .u8 46,.int .u8 35,.int .u8 44,.int .u8 21,.int .u8 52,.int .u8 32,.int .u8 23,.int .u8 11,.int .u8 54,.int .u8 26,.int .u8 40,.int .u8 15,.int .u8 34,.int .u8 20,.int .u8 31,.int .u8 10,.int .u8 25,.int .u8 14,.int .u8 19,.int .u8 9,.int .u8 13,.int .u8 8,.int .u8 7,.int .u8 6]
 let g:=put f 5 (Lib.pow10Tab.map λz=>κ .u64 z).toArray
 let h:=put g 3 ((List.range 16).flatMap λi=>[κ .u8 (Lib.accLo i),κ .u8 (Lib.accHi i)]).toArray
 let j:=put h 8 #[.iface 424 (.pointer (some ⟨low+2,0,none⟩))]
 let k:=put j 7 #[.iface 424 (.pointer (some ⟨low+3,0,none⟩))]
 let l:=put k 1 #[.pointer (some ⟨low,0,none⟩)]
 let m:=put l 0 (Lib.asciiSpaceTab.map λz=>κ .u8 z).toArray
 let n:=put m 12 Tx.zo
 let c:=put n 11 Tx.BB
 let d:=put c 6 Jw.Eg
 let e:=put d 2 (Lib.firstTab.map λz=>κ .u8 z).toArray
 {a with heap:=e}
noncomputable def wz(a:Os)(args:Array Value):World:=(Ew a).forCall (λ_ _=>0) ⟨#[],args,[]⟩|>.memory
noncomputable def Rz(a:Os)(args:Array Value):=DataW.laidRun K (wz a args) 8 (Rows.topMergesRow.laid.map (·.1))
theorem z1(a:Os)(args:Array Value):(Rz a args).map (·.1)=some Rows.topMergesRow.laid:=by kernel_rfl
theorem z2(a:Os)(args:Array Value):(Rz a args).map (λx=>nodupB (x.2.map MemPlace.codeOf))=some true:=by kernel_rfl
theorem z3(a:Os)(args:Array Value):(Rz a args).map (λx=>laidRowsB K (wz a args) x.2)=some true:=by kernel_rfl
theorem z4(a:Os)(args:Array Value):(Rz a args).map (λx=>x.2.all λp=>[9,10,5,3,8,7,1,0,12,11,6,2,low,low+1,low+2,low+3].contains p.block)=some true:=by kernel_rfl
theorem Zr(a:Os)(args:Array Value):laidMet K Rows.topMergesRow.laid ((Ew a).forCall (λ_ _=>0) ⟨#[],args,[]⟩).memory:=
 (LaidIn.of_run (l:=Rows.topMergesRow.laid) _ 8 (z1 a args) (z2 a args) (z3 a args) (z4 a args)).met
theorem reads(b:Os){a:Type}(enc:TypeId×Value->a):∃c,DataW.whole enc K ((Ew b).forCall (λ_ _=>0) ⟨#[],#[.agg #[.slice none 0 0],.agg #[.slice none 0 0]],[]⟩).memory Tryz.f3.params.toList Rows.topMergesSpec.vars false #[.agg #[.slice none 0 0],.agg #[.slice none 0 0]].toList 8=some ([.agg [.nil],.agg [.nil]],[],c):=
 ⟨[],by kernel_rfl⟩
set_option maxRecDepth 100000 in
theorem lifted(g:Os)(Z:g.Started)(D:Type)(enc:TypeId×Value->D)(F:Stop.Interp):
 ReturnsInHanded {} ν g 3 .any ((θ Rows.topMergesSpec).preRow enc K Tryz.f3 Rows.topMergesRow.domain false Rows.topMergesRow.laid) (((θ Rows.topMergesSpec).at F).post enc K Tryz.f3 false true false false):=by
 obtain⟨aa,R⟩:=reads g enc
 refine returnsInHanded_of_row (C:=ν) (s:=θ Rows.topMergesSpec) own Z (by kernel_rfl) Tryz.func3
  (witness_row_atRef (enc:=enc) (C:=ν) false (Ew g) #[.agg #[.slice none 0 0],.agg #[.slice none 0 0]] rfl (by kernel_rfl) (by kernel_rfl) (by kernel_rfl)
    (OpenSpec.preRow_of_cond 8 R (by kernel_rfl) (λk Q=>by cases Q) (by kernel_rfl) (Zr g _))) ?_
 intro W base args ds a6 a1 z w _ _ y G _ _;have n:∀(j:Nat) t v,Tryz.f3.params[j]?=some t->args[j]?=some v->Value.okWide K W .any base t v:=z;have J:=w;obtain⟨p,q,r,I,rfl,a8,a9⟩:=w;have o:DataW.TrodAll enc K W 0 (λ_=>true) true Tryz.f3.params.toList args.toList ds p:=r;rw[Tryz.params3] at o n;obtain⟨A,ad,a2,a4,U,ab,a7,rfl,rfl,i,X⟩:=trodAll_cons o;obtain⟨B,ae,a3,a5,V,ac,rfl,rfl,rfl,l,Y⟩:=trodAll_cons X;obtain⟨rfl,rfl,rfl⟩:=trodAll_nil Y;obtain rfl:args=#[A,B]:=by cases args;simp_all
 obtain⟨rfl,rfl⟩:=trodVars_none I;have S:∀x∈U,x.block<W.heap.size:=by obtain⟨m,f⟩:=i;exact DataW.trod_lt m _ _ _ f
 have T:∀x∈V,x.block<W.heap.size:=by obtain⟨m,f⟩:=l;exact DataW.trod_lt m _ _ _ f
 obtain⟨va,a,rfl,L,N⟩:=StO.Ra (n 0 24 A rfl rfl) i (j:=0) rfl rfl y;obtain⟨vb,b,rfl,M,O⟩:=StO.Ra (n 1 24 B rfl rfl) l (j:=1) rfl rfl y;clear r z;have c:∀nm d,(nm,d)∈Rows.topMergesRow.laid->Lib.VarReads K W nm d:=λnm d f=>Lib.laidMet.reads G f
 have u:=Ld.tabs_of (Ld.u8_of (c _ _ (.tail _ (.tail _ (.tail _ (.tail _ (.tail _ (.tail _ (.tail _ (.tail _ (.tail _ (.tail _ (.tail _ (.head _))))))))))))) (c _ _ (.tail _ (.tail _ (.tail _ (.head _)))))) (Ld.let_of (c _ _ (.tail _ (.tail _ (.tail _ (.tail _ (.tail _ (.tail _ (.tail _ (.tail _ (.tail _ (.tail _ (.head _))))))))))))) (Ld.pow_of (c _ _ (.tail _ (.tail _ (.head _))))) (Ld.spc_of (c _ _ (.tail _ (.tail _ (.tail _ (.tail _ (.tail _ (.tail _ (.tail _ (.head _))))))))));have H:Tx.uM W:=⟨Ld.X5 (c _ _ (.tail _ (.tail _ (.tail _ (.tail _ (.tail _ (.tail _ (.tail _ (.tail _ (.head _)))))))))),Ld.more_of (c _ _ (.tail _ (.tail _ (.tail _ (.tail _ (.tail _ (.tail _ (.tail _ (.tail _ (.tail _ (.head _)))))))))))⟩;refine(Ms.mg_is (W:=W) (va:=va) (vb:=vb) (a:=a) (b:=b) ⟨L,M,N,O,⟨u.1,H⟩,u.2⟩).mono λe a0 ⟨P,h⟩=>?_
 subst P;exact⟨_,rfl,_,_,_,[],_,[],J,trodAll_mk1 (shut_bool Tryz.underlying4 _),(trodAll_cons_mk (Below.trod laidOut (by kernel_rfl) (mX (by kernel_rfl)) i h S) (trodAll_cons_mk (Below.trod laidOut (by kernel_rfl) (mX (by kernel_rfl)) l h T) trodAll_mk0)),rfl,h.frame _,λE=>by cases E⟩
theorem said:Rows.TopMergesSaid:=
 OpenClaim.holds_of_cond 3 Tryz.f3 rfl rfl rfl rfl rfl rfl rfl ⟨rfl,rfl,rfl,rfl,rfl⟩ rfl rfl rfl rfl rfl (by kernel_rfl) Tryz.func3 closed
  (mX (by kernel_rfl)) (by unfold Func.isWrapper;first|(rw[oD (by decide+kernel)];kernel_rfl)|(rw[oU (by decide+kernel)];exact⟨rfl,rfl⟩))
  (λb c a enc _ F=>by rw[OpenClaim.pre_eq_preRow];exact lifted b c a enc F)
end Go.Proofs.YthbhmjdcfocphaaGreatDoor.topMerges
