/- A part of this proof. -/
import Derived.Shelf.Strings.Builder1
import Derived.Shelf.Strings.Trim
import Derived.Shelf.Small.Utf8
import Derived.Shelf.Small.Bits
import Derived.Shelf.Small.Strs
import Derived.Shelf.Small.Wraps
import Derived.Shelf.Strings.BuilderF
import Derived.Shelf.Strings.BuilderK
import Derived.Shelf.Utf8.AppendRune
import Derived.Shelf.Utf8.AppendRunePlain
import Derived.Shelf.Strconv.Itoa0
import Derived.Shelf.Strconv.Itoa1
import Derived.Shelf.LaysM
import Derived.Shelf.Strconv.Itoa2
import Derived.Shelf.Strconv.Itoa3
import Derived.Shelf.Strconv.Itoa4
import Derived.Shelf.Strconv.ParseIntEmpty
import Derived.Shelf.Strconv.Clone
import Derived.Shelf.Strconv.SyntaxError
import Derived.Shelf.LaysC
import Derived.Shelf.Strconv.ToError
import Derived.Shelf.Strconv.Lower
import Derived.Shelf.Strconv.ParseUint10
import Derived.Shelf.Strconv.ParseUint10Empty
import Derived.Shelf.Strconv.ParseUint10Any
import Derived.Shelf.Strconv.ParseInt10
import Derived.Shelf.Strconv.RangeError
import Derived.Shelf.Strconv.ToErrorRange
import Derived.Shelf.Strconv.ParseUintEmpty
import Derived.Shelf.Strconv.ParseUint10b64
import Derived.Shelf.Strconv.ParseUint10b32
import Derived.Shelf.Strconv.ParseUint10b16
import Derived.Shelf.Strconv.ParseUint10b8
import Derived.Shelf.Strconv.ParseUint10At
import Derived.Shelf.Strconv.ParseInt10At64
import Derived.Shelf.Strconv.ParseInt10At32
import Derived.Shelf.Strconv.ParseInt10At16
import Derived.Shelf.Strconv.ParseInt10At8
import Derived.Shelf.Strconv.ParseInt10All
import Derived.Shelf.Strconv.ParseIntPublic10
import Derived.Shelf.Strings.Search1
import Derived.Shelf.Sort.Plain
import Derived.Shelf.Strings.Prefix
import Derived.Shelf.Strings.Fields
import Derived.Shelf.Strings.SplitShaped
import Derived.Shelf.Unicode.Latin
import Derived.Shelf.Unicode.Decode
import Derived.Shelf.Strings.Runes
import Derived.Shelf.Strings.AsciiSet
import Derived.Shelf.Unicode.DecodeSlow
import Derived.Shelf.Unicode.DecodeAny
import Derived.Shelf.Unicode.Is16White
import Derived.Shelf.Unicode.IsSpaceAny
import Derived.Shelf.Unicode.DecodeLast
import Derived.Shelf.Unicode.Is16WhiteD
import Derived.Shelf.Unicode.IsSpaceAnyD
import Derived.Shelf.Strings.FieldsAny
import Derived.Shelf.Strings.FieldsFuncAny
import Derived.Shelf.Unicode.Is16Any
import Derived.Shelf.Unicode.Is32Any
import Derived.Shelf.Unicode.ExclAny
import Derived.Shelf.Strings.FieldsFuncGrows
import Derived.Shelf.Slices.Turned
import Derived.Ground.Names2Prog
import Derived.Shelf.Slices.Clone
import Derived.Shelf.Slices.In.SortNone
import Derived.Ground.SlgnProg
import Derived.Shelf.SlicesE.Clone
import Derived.Shelf.Unicode.ValidAny
import Derived.Shelf.SlIter.Nil
import Derived.Shelf.SortM.Plain
import Derived.Shelf.SortM.SortNone
import Derived.Shelf.SlMaps.Clone
import Derived.Ground.SlmcProg
import Derived.Ground.GgzProg
import Derived.Ground.SlgmProg
import Derived.Test.YthbhmjdcfocphaaGreatDoorProg
namespace Go.Proofs
open _root_ renaming congrArg→G, ByteArray→aF
open _root_.Go.Proofs.Tryz renaming prog→H, underlying9→M, underlying4→V, zeroValue9→U, zeroValue4→υ, underlying3→Γ, underlying0→Δ, zeroValue3→Θ, zeroValue0→Λ, underlying5→Ξ, sizeOf9→O, sizeOf4→ς, zeroValue5→ο, isAgg9→N, isAgg4→X, sizeOf3→ah, sizeOf0→aj, isAgg3→ak, isAgg0→an, underlying305→aq, sizeOf5→au, zeroValue305→av, isAgg5→ay, sizeOf305→az, underlying287→aA, isAgg305→aB, zeroValue287→aC, underlying48→aD, zeroValue48→aE, underlying348→aG, zeroValue348→aH, underlying68→aI, underlying21→aJ, sizeOf287→aK, zeroValue68→aL, zeroValue21→aM, sizeOf48→aN, isAgg287→aO, isAgg48→aP, sizeOf348→aQ, sizeOf68→aT, sizeOf21→aU, isAgg348→aV, isAgg68→aW, isAgg21→aX, underlying239→aY, underlying20→aZ, zeroValue20→a_, sizeOf239→bf, sizeOf20→bg, isAgg239→bh, isAgg20→bk, underlying419→bl, underlying418→bn, underlying411→bp, underlying394→bq, underlying390→bt, underlying382→bu, underlying381→bw, underlying358→bz, underlying357→bA, underlying351→bB, underlying347→bC, underlying331→bD, underlying330→bE, underlying297→bF, underlying214→bG, underlying162→bH, underlying141→bI, underlying138→bJ, zeroValue419→bK, zeroValue418→bL, zeroValue411→U4, zeroValue394→U5, zeroValue390→U6, zeroValue381→U7, zeroValue358→U8, zeroValue357→U9, zeroValue351→U_, zeroValue347→U', zeroValue331→Va, zeroValue330→Vb, zeroValue297→Vc, zeroValue214→Vd, zeroValue141→Ve, zeroValue138→Vf, underlying86→Vg, underlying84→Vh, underlying72→Vi, zeroValue86→Vk, zeroValue84→Vl, zeroValue72→Vm, underlying2→Vn, zeroValue2→Vo, sizeOf419→Vp, sizeOf418→Vq, sizeOf411→Vr, sizeOf394→Vs, sizeOf390→Vt, sizeOf382→Vu, sizeOf381→Vv, sizeOf358→Vw, sizeOf357→Vx, sizeOf351→Vy, sizeOf347→Vz, sizeOf331→VA, sizeOf330→VB, sizeOf297→VC, sizeOf214→VD, sizeOf162→VE, sizeOf141→VF, sizeOf138→VG, sizeOf86→VH, sizeOf84→VI, sizeOf72→VJ, isAgg419→VK, isAgg418→VL, isAgg411→VM, isAgg394→VN, isAgg390→VO, isAgg382→VP, isAgg381→VQ, isAgg358→VR, isAgg357→VS, isAgg351→VT, isAgg347→VU, isAgg331→VV, isAgg330→VW, isAgg297→VX, isAgg214→VY, isAgg162→VZ, isAgg141→V0, isAgg138→V1, sizeOf2→V2, isAgg86→V3, isAgg84→V4, isAgg72→V5, isAgg2→Wm
open Option renaming some→K, none→Wl
open Go.Shelf renaming Ren→I
open Go renaming World→J, Calls→L
open Go.Lib renaming fields→Vj, runeCells→Wj, IsBuilder→Wk, setCells→Wn, decodeGo→Wo, Utf8Tabs→Wp, TabIs→Wq
open _root_.Go.Proofs.Lays renaming n99→V6, n242→V7, n228→V8, n227→V9, n197→V_, n196→Wa, n190→Wb, n170→Wc, n169→Wd, n157→We, n137→Wf, n119→Wg, n110→Wh, n101→Wi
open Go.Shelf
def Tryz.lays170_ren:I:=⟨λ|170=>325|a=>a,λ|70=>84|3=>3|0=>0|72=>86|37=>68|5=>5|a=>a,λ|a=>a⟩
theorem Tryz.lays170:Wc H Tryz.lays170_ren:={
 mixed:=by kernel_rfl
 f170:=Tryz.func325.trans (G K (by kernel_rfl))
 t0:=Δ
 a0:=an
 z0:=aj
 v0:=Λ
 t3:=Γ
 a3:=ak
 z3:=ah
 v3:=Θ
 t37:=aI
 a37:=aW
 z37:=aT
 v37:=aL
 t70:=Vh
 a70:=V4
 z70:=VI
 v70:=Vl
 t72:=Vg
 a72:=V3
 z72:=VH
 v72:=Vk}
open Go.RowKit in
theorem Tryz.Builder_Len(d b:Nat)(c:List Value)(a:J)(e:Wk 86 5 d b c a):
 L H 325 #[.pointer (K ⟨b,0,Wl⟩)] a λg f=>g= .returned (.int .i64 c.length)/\f=a:=Any.Builder_Len Tryz.lays170 d b c a e
def Tryz.lays169_ren:I:=⟨λ|169=>42|a=>a,λ|70=>84|9=>9|0=>0|72=>86|37=>68|127=>141|3=>3|5=>5|a=>a,λ|a=>a⟩
theorem Tryz.lays169:Wd H Tryz.lays169_ren:={
 mixed:=by kernel_rfl
 f169:=Tryz.func42.trans (G K (by kernel_rfl))
 t0:=Δ
 a0:=an
 z0:=aj
 v0:=Λ
 t3:=Γ
 a3:=ak
 z3:=ah
 v3:=Θ
 t9:=M
 a9:=N
 z9:=O
 v9:=U
 t37:=aI
 a37:=aW
 z37:=aT
 v37:=aL
 t70:=Vh
 a70:=V4
 z70:=VI
 v70:=Vl
 t72:=Vg
 a72:=V3
 z72:=VH
 v72:=Vk
 t127:=bI
 a127:=V0
 z127:=VF
 v127:=Ve}
theorem Tryz.Builder_Extra_169:Builder.Extra H Tryz.lays169_ren:={
 sizeBuilder:=by kernel_rfl
 liesBuilder:=by kernel_rfl
 t5:=Ξ
 a5:=ay
 z5:=au
 v5:=ο
 infoByte:=by kernel_rfl
 cellsByte:=by kernel_rfl
 sizeByte:=by kernel_rfl
 neB5:=by decide}
open Go.RowKit in
theorem Tryz.Builder_String_any(b d:Nat)(c:List UInt8)(a:J)(e:Wk 86 5 b d (Lib.byteCells c) a)(g:b<=a.heap.size):
 L H 42 #[.pointer (K ⟨d,0,Wl⟩)] a λh f=>h= .returned (.string ⟨c.toArray⟩)/\Below b a f:=Any.Builder_String_any Tryz.lays169 Tryz.Builder_Extra_169 b d c a e g
def Tryz.lays119_ren:I:=⟨λ|119=>271|a=>a,λ|21=>21|4=>4|a=>a,λ|a=>a⟩
theorem Tryz.lays119:Wg H Tryz.lays119_ren:={
 mixed:=by kernel_rfl
 f119:=Tryz.func271.trans (G K (by kernel_rfl))
 t4:=V
 a4:=X
 z4:=ς
 v4:=υ
 t21:=aJ
 a21:=aX
 z21:=aU
 v21:=aM}
theorem Tryz.utf8_ValidRune(a:Int)(b:J):
 L H 271 #[.int .i32 a] b λc d=>c= .returned (.bool (Lib.validRune a))/\d=b:=Any.utf8_ValidRune Tryz.lays119 a b
def Tryz.lays137_ren:I:=⟨λ|137=>270|217=>323|266=>357|a=>a,λ|9=>9|5=>5|3=>3|a=>a,λ|a=>a⟩
theorem Tryz.lays137:Wf H Tryz.lays137_ren:={
 mixed:=by kernel_rfl
 f137:=Tryz.func270.trans (G K (by kernel_rfl))
 f217:=Tryz.func323.trans (G K (by kernel_rfl))
 f266:=Tryz.func357.trans (G K (by kernel_rfl))
 t3:=Γ
 a3:=ak
 z3:=ah
 v3:=Θ
 t5:=Ξ
 a5:=ay
 z5:=au
 v5:=ο
 t9:=M
 a9:=N
 z9:=O
 v9:=U}
open Go.RowKit in
theorem Tryz.strings_IndexByte(a:aF)(c:Int)(b:J):
 L H 270 #[.string a,.int .u8 c] b λe d=>e= .returned (.int .i64 (Lib.indexByte a.data.toList c.toNat.toUInt8))/\d=b:=Any.strings_IndexByte Tryz.lays137 a c b
def Tryz.lays242_ren:I:=⟨λ|242=>348|278=>366|a=>a,λ|37=>68|21=>21|51=>287|4=>4|5=>5|46=>305|a=>a,λ|a=>a⟩
theorem Tryz.lays242:V7 H Tryz.lays242_ren:={
 mixed:=by kernel_rfl
 f242:=Tryz.func348.trans (G K (by kernel_rfl))
 f278:=Tryz.func366.trans (G K (by kernel_rfl))
 t4:=V
 a4:=X
 z4:=ς
 v4:=υ
 t5:=Ξ
 a5:=ay
 z5:=au
 v5:=ο
 t21:=aJ
 a21:=aX
 z21:=aU
 v21:=aM
 t37:=aI
 a37:=aW
 z37:=aT
 v37:=aL
 t46:=aq
 a46:=aB
 z46:=az
 v46:=av
 t51:=aA
 a51:=aO
 z51:=aK
 v51:=aC}
open Go.RowKit in
theorem Tryz.utf8_AppendRune_plain(c:Nat)(e:Value)(d:Nat)(f:List Value)(a:Int)(m: -2147483648<=a)(n:a<=2147483647)(b:J)(j:b.ownsRow c 5 1 e d f)(k:d+4<=140737488355328)(o:c<=b.heap.size):
 L H 348 #[e,.int .i32 a] b λl h=>∃g,l= .returned g/\h.ownsRow c 5 1 g (d+(Wj a).length) (f++Wj a)/\∃i,(b.alloc i).grownBy h e.ownBlock:=Any.utf8_AppendRune_plain Tryz.lays242 (by kernel_rfl) c e d f a m n b j k o
def Tryz.laysM173_ren:I:=⟨λ|173=>170|246=>237|283=>280|284=>281|285=>282|286=>283|129=>299|317=>326|318=>327|319=>328|320=>329|337=>358|338=>359|n=>n,λ|2=>2|3=>3|9=>9|4=>4|171=>347|0=>0|53=>348|37=>68|5=>5|173=>351|212=>381|51=>287|20=>20|213=>382|46=>305|232=>418|233=>419|n=>n,λ|17=>5|18=>9|19=>10|n=>n⟩
theorem Tryz.laysM173:Go.Proofs.LaysM.n173 H Tryz.laysM173_ren:={
 mixed:=by kernel_rfl
 f129:=Tryz.func299.trans (G K (by kernel_rfl))
 f173:=Tryz.func170.trans (G K (by kernel_rfl))
 f246:=Tryz.func237.trans (G K (by kernel_rfl))
 f283:=Tryz.func280.trans (G K (by kernel_rfl))
 f284:=Tryz.func281.trans (G K (by kernel_rfl))
 f285:=Tryz.func282.trans (G K (by kernel_rfl))
 f286:=Tryz.func283.trans (G K (by kernel_rfl))
 f317:=Tryz.func326.trans (G K (by kernel_rfl))
 f318:=Tryz.func327.trans (G K (by kernel_rfl))
 f319:=Tryz.func328.trans (G K (by kernel_rfl))
 f320:=Tryz.func329.trans (G K (by kernel_rfl))
 f337:=Tryz.func358.trans (G K (by kernel_rfl))
 f338:=Tryz.func359.trans (G K (by kernel_rfl))
 t0:=Δ
 a0:=an
 z0:=aj
 v0:=Λ
 t2:=Vn
 a2:=Wm
 z2:=V2
 v2:=Vo
 t3:=Γ
 a3:=ak
 z3:=ah
 v3:=Θ
 t4:=V
 a4:=X
 z4:=ς
 v4:=υ
 t5:=Ξ
 a5:=ay
 z5:=au
 v5:=ο
 t9:=M
 a9:=N
 z9:=O
 v9:=U
 t20:=aZ
 a20:=bk
 z20:=bg
 v20:=a_
 t37:=aI
 a37:=aW
 z37:=aT
 v37:=aL
 t46:=aq
 a46:=aB
 z46:=az
 v46:=av
 t51:=aA
 a51:=aO
 z51:=aK
 v51:=aC
 t53:=aG
 a53:=aV
 z53:=aQ
 v53:=aH
 t171:=bC
 a171:=VU
 z171:=Vz
 v171:=U'
 t173:=bB
 a173:=VT
 z173:=Vy
 v173:=U_
 t212:=bw
 a212:=VQ
 z212:=Vv
 v212:=U7
 t213:=bu
 a213:=VP
 z213:=Vu
 t232:=bn
 a232:=VL
 z232:=Vq
 v232:=bL
 t233:=bl
 a233:=VK
 z233:=Vp
 v233:=bK
 g17:=by kernel_rfl
 g18:=by kernel_rfl
 g19:=by kernel_rfl
 i0:=by kernel_rfl
 i2:=by kernel_rfl
 i3:=by kernel_rfl
 i4:=by kernel_rfl
 i5:=by kernel_rfl
 i9:=by kernel_rfl
 i20:=by kernel_rfl
 i37:=by kernel_rfl
 i46:=by kernel_rfl
 i51:=by kernel_rfl
 i53:=by kernel_rfl
 i171:=by kernel_rfl
 i173:=by kernel_rfl
 i212:=by kernel_rfl
 i232:=by kernel_rfl
 i233:=by kernel_rfl
 m17:=by kernel_rfl
 m18:=by kernel_rfl
 m19:=by kernel_rfl}
open Go.RowKit Go.Sort Go.Lib in
theorem Tryz.strconv_FormatInt_10(a:Int)(e: -9223372036854775808<=a)(d:a<=9223372036854775807)(b:J)(g:Wq H b "internal/strconv.uint64pow10" .u64 Lib.pow10Tab):
 L H 170 #[.int .i64 a,.int .i64 10] b λi h=>i= .returned (.string ⟨(Lib.itoa a).toArray⟩)/\∃c f,h=grow (b.drewN c) f:=Any.strconv_FormatInt_10 Tryz.laysM173 a e d b g
def Tryz.laysC174_ren:I:=⟨λ|174=>262|247=>311|245=>312|287=>349|279=>350|280=>351|281=>352|282=>353|321=>367|322=>368|316=>369|171=>304|205=>370|243=>345|246=>237|283=>280|284=>281|285=>282|286=>283|129=>299|317=>326|318=>327|319=>328|320=>329|337=>358|338=>359|n=>n,λ|9=>9|3=>3|2=>2|75=>89|85=>322|4=>4|167=>401|5=>5|53=>348|175=>402|46=>305|168=>404|37=>68|0=>0|210=>415|21=>21|127=>141|145=>426|143=>424|171=>347|173=>351|212=>381|51=>287|20=>20|213=>382|232=>418|233=>419|80=>92|n=>n,λ|15=>7|16=>8|17=>5|18=>9|19=>10|n=>n⟩
theorem Tryz.laysC174:Go.Proofs.LaysC.n174 H Tryz.laysC174_ren:={
 mixed:=by kernel_rfl
 f129:=Tryz.func299.trans (G K (by kernel_rfl))
 f171:=Tryz.func304.trans (G K (by kernel_rfl))
 f174:=Tryz.func262.trans (G K (by kernel_rfl))
 f205:=Tryz.func370.trans (G K (by kernel_rfl))
 f243:=Tryz.func345.trans (G K (by kernel_rfl))
 f245:=Tryz.func312.trans (G K (by kernel_rfl))
 f246:=Tryz.func237.trans (G K (by kernel_rfl))
 f247:=Tryz.func311.trans (G K (by kernel_rfl))
 f279:=Tryz.func350.trans (G K (by kernel_rfl))
 f280:=Tryz.func351.trans (G K (by kernel_rfl))
 f281:=Tryz.func352.trans (G K (by kernel_rfl))
 f282:=Tryz.func353.trans (G K (by kernel_rfl))
 f283:=Tryz.func280.trans (G K (by kernel_rfl))
 f284:=Tryz.func281.trans (G K (by kernel_rfl))
 f285:=Tryz.func282.trans (G K (by kernel_rfl))
 f286:=Tryz.func283.trans (G K (by kernel_rfl))
 f287:=Tryz.func349.trans (G K (by kernel_rfl))
 f316:=Tryz.func369.trans (G K (by kernel_rfl))
 f317:=Tryz.func326.trans (G K (by kernel_rfl))
 f318:=Tryz.func327.trans (G K (by kernel_rfl))
 f319:=Tryz.func328.trans (G K (by kernel_rfl))
 f320:=Tryz.func329.trans (G K (by kernel_rfl))
 f321:=Tryz.func367.trans (G K (by kernel_rfl))
 f322:=Tryz.func368.trans (G K (by kernel_rfl))
 f337:=Tryz.func358.trans (G K (by kernel_rfl))
 f338:=Tryz.func359.trans (G K (by kernel_rfl))
 t0:=Δ
 a0:=an
 z0:=aj
 v0:=Λ
 t2:=Vn
 a2:=Wm
 z2:=V2
 v2:=Vo
 t3:=Γ
 a3:=ak
 z3:=ah
 v3:=Θ
 t4:=V
 a4:=X
 z4:=ς
 v4:=υ
 t5:=Ξ
 a5:=ay
 z5:=au
 v5:=ο
 t9:=M
 a9:=N
 z9:=O
 v9:=U
 t20:=aZ
 a20:=bk
 z20:=bg
 v20:=a_
 t21:=aJ
 a21:=aX
 z21:=aU
 v21:=aM
 t37:=aI
 a37:=aW
 z37:=aT
 v37:=aL
 t46:=aq
 a46:=aB
 z46:=az
 v46:=av
 t51:=aA
 a51:=aO
 z51:=aK
 v51:=aC
 t53:=aG
 a53:=aV
 z53:=aQ
 v53:=aH
 t75:=Tryz.underlying89
 a75:=Tryz.isAgg89
 z75:=Tryz.sizeOf89
 v75:=Tryz.zeroValue89
 t85:=Tryz.underlying322
 a85:=Tryz.isAgg322
 z85:=Tryz.sizeOf322
 v85:=Tryz.zeroValue322
 t127:=bI
 a127:=V0
 z127:=VF
 v127:=Ve
 t143:=Tryz.underlying424
 a143:=Tryz.isAgg424
 z143:=Tryz.sizeOf424
 v143:=Tryz.zeroValue424
 t145:=Tryz.underlying426
 a145:=Tryz.isAgg426
 z145:=Tryz.sizeOf426
 v145:=Tryz.zeroValue426
 t167:=Tryz.underlying401
 a167:=Tryz.isAgg401
 z167:=Tryz.sizeOf401
 v167:=Tryz.zeroValue401
 t168:=Tryz.underlying404
 a168:=Tryz.isAgg404
 z168:=Tryz.sizeOf404
 v168:=Tryz.zeroValue404
 t171:=bC
 a171:=VU
 z171:=Vz
 v171:=U'
 t173:=bB
 a173:=VT
 z173:=Vy
 v173:=U_
 t175:=Tryz.underlying402
 a175:=Tryz.isAgg402
 z175:=Tryz.sizeOf402
 v175:=Tryz.zeroValue402
 t210:=Tryz.underlying415
 a210:=Tryz.isAgg415
 z210:=Tryz.sizeOf415
 v210:=Tryz.zeroValue415
 t212:=bw
 a212:=VQ
 z212:=Vv
 v212:=U7
 t213:=bu
 a213:=VP
 z213:=Vu
 t232:=bn
 a232:=VL
 z232:=Vq
 v232:=bL
 t233:=bl
 a233:=VK
 z233:=Vp
 v233:=bK
 g15:=by kernel_rfl
 g16:=by kernel_rfl
 g17:=by kernel_rfl
 g18:=by kernel_rfl
 g19:=by kernel_rfl
 t80:=Tryz.underlying92
 a80:=Tryz.isAgg92
 z80:=Tryz.sizeOf92
 v80:=Tryz.zeroValue92
 i0:=by kernel_rfl
 i2:=by kernel_rfl
 i3:=by kernel_rfl
 i4:=by kernel_rfl
 i5:=by kernel_rfl
 i9:=by kernel_rfl
 i20:=by kernel_rfl
 i21:=by kernel_rfl
 i37:=by kernel_rfl
 i46:=by kernel_rfl
 i51:=by kernel_rfl
 i53:=by kernel_rfl
 i75:=by kernel_rfl
 i80:=by kernel_rfl
 i85:=by kernel_rfl
 i127:=by kernel_rfl
 i143:=by kernel_rfl
 i145:=by kernel_rfl
 i167:=by kernel_rfl
 i168:=by kernel_rfl
 i171:=by kernel_rfl
 i173:=by kernel_rfl
 i175:=by kernel_rfl
 i210:=by kernel_rfl
 i212:=by kernel_rfl
 i232:=by kernel_rfl
 i233:=by kernel_rfl
 m15:=by kernel_rfl
 m16:=by kernel_rfl
 m17:=by kernel_rfl
 m18:=by kernel_rfl
 m19:=by kernel_rfl
 c0:=by kernel_rfl
 c2:=by kernel_rfl
 c3:=by kernel_rfl
 c4:=by kernel_rfl
 c5:=by kernel_rfl
 c9:=by kernel_rfl
 c20:=by kernel_rfl
 c21:=by kernel_rfl
 c37:=by kernel_rfl
 c46:=by kernel_rfl
 c51:=by kernel_rfl
 c53:=by kernel_rfl
 c75:=by kernel_rfl
 c80:=by kernel_rfl
 c85:=by kernel_rfl
 c127:=by kernel_rfl
 c143:=by kernel_rfl
 c145:=by kernel_rfl
 c167:=by kernel_rfl
 c168:=by kernel_rfl
 c171:=by kernel_rfl
 c173:=by kernel_rfl
 c175:=by kernel_rfl
 c210:=by kernel_rfl
 c212:=by kernel_rfl
 c213:=by kernel_rfl
 c232:=by kernel_rfl
 c233:=by kernel_rfl}
open Go.RowKit in
theorem Tryz.strconv_ParseInt_10_at64_ok(a:aF)(h:a.size<=9223372036854775806)(c:Int)(e:Lib.parseIntB 64 a.data.toList= .ok c)(b:J):
 L H 262 #[.string a,.int .i64 10,.int .i64 64] b λg d=>g= .returned (.tuple #[.int .i64 c,.nilIface])/\(d=b\/∃f,d=Lib.bytesWorld b 5 f):=Any.strconv_ParseInt_10_at64_ok Tryz.laysC174 a h c e b
def Tryz.lays190_ren:I:=⟨λ|190=>215|125=>250|258=>267|128=>298|129=>299|302=>314|303=>315|304=>316|305=>317|306=>318|307=>319|308=>320|309=>321|310=>322|333=>354|329=>339|330=>340|334=>355|335=>356|336=>232|344=>371|a=>a,λ|31=>48|9=>9|3=>3|46=>305|0=>0|51=>287|53=>348|4=>4|183=>358|182=>357|131=>297|5=>5|218=>390|222=>394|228=>411|229=>138|a=>a,λ|a=>a⟩
theorem Tryz.lays190:Wb H Tryz.lays190_ren:={
 mixed:=by kernel_rfl
 f125:=Tryz.func250.trans (G K (by kernel_rfl))
 f128:=Tryz.func298.trans (G K (by kernel_rfl))
 f129:=Tryz.func299.trans (G K (by kernel_rfl))
 f190:=Tryz.func215.trans (G K (by kernel_rfl))
 f258:=Tryz.func267.trans (G K (by kernel_rfl))
 f302:=Tryz.func314.trans (G K (by kernel_rfl))
 f303:=Tryz.func315.trans (G K (by kernel_rfl))
 f304:=Tryz.func316.trans (G K (by kernel_rfl))
 f305:=Tryz.func317.trans (G K (by kernel_rfl))
 f306:=Tryz.func318.trans (G K (by kernel_rfl))
 f307:=Tryz.func319.trans (G K (by kernel_rfl))
 f308:=Tryz.func320.trans (G K (by kernel_rfl))
 f309:=Tryz.func321.trans (G K (by kernel_rfl))
 f310:=Tryz.func322.trans (G K (by kernel_rfl))
 f329:=Tryz.func339.trans (G K (by kernel_rfl))
 f330:=Tryz.func340.trans (G K (by kernel_rfl))
 f333:=Tryz.func354.trans (G K (by kernel_rfl))
 f334:=Tryz.func355.trans (G K (by kernel_rfl))
 f335:=Tryz.func356.trans (G K (by kernel_rfl))
 f336:=Tryz.func232.trans (G K (by kernel_rfl))
 f344:=Tryz.func371.trans (G K (by kernel_rfl))
 t0:=Δ
 a0:=an
 z0:=aj
 v0:=Λ
 t3:=Γ
 a3:=ak
 z3:=ah
 v3:=Θ
 t4:=V
 a4:=X
 z4:=ς
 v4:=υ
 t5:=Ξ
 a5:=ay
 z5:=au
 v5:=ο
 t9:=M
 a9:=N
 z9:=O
 v9:=U
 t31:=aD
 a31:=aP
 z31:=aN
 v31:=aE
 t46:=aq
 a46:=aB
 z46:=az
 v46:=av
 t51:=aA
 a51:=aO
 z51:=aK
 v51:=aC
 t53:=aG
 a53:=aV
 z53:=aQ
 v53:=aH
 t131:=bF
 a131:=VX
 z131:=VC
 v131:=Vc
 t182:=bA
 a182:=VS
 z182:=Vx
 v182:=U9
 t183:=bz
 a183:=VR
 z183:=Vw
 v183:=U8
 t218:=bt
 a218:=VO
 z218:=Vt
 v218:=U6
 t222:=bq
 a222:=VN
 z222:=Vs
 v222:=U5
 t228:=bp
 a228:=VM
 z228:=Vr
 v228:=U4
 t229:=bJ
 a229:=V1
 z229:=VG
 v229:=Vf}
open Go.Sort Go.RowKit in
theorem Tryz.slices_Sort_string(b d e:Nat)(a:List (List UInt8))(c:J)(f:Holds encStr c b d a.toArray)(g:b<c.heap.size)(m:a.length<4611686018427387904):
 L H 215 #[.slice (K ⟨b,d,Wl⟩) a.length e] c λl k=>
  l= .returned (.tuple #[])/\∃j h,k=grow (putRow encStr (Sort.ahead c j) b d (a.mergeSort λn i=>decide (n<=i)).toArray) h:=Any.slices_Sort_string Tryz.lays190 b d e a c f g m
def Tryz.lays99_ren:I:=⟨λ|99=>131|206=>202|a=>a,λ|9=>9|4=>4|3=>3|a=>a,λ|a=>a⟩
theorem Tryz.lays99:V6 H Tryz.lays99_ren:={
 mixed:=by kernel_rfl
 f99:=Tryz.func131.trans (G K (by kernel_rfl))
 f206:=Tryz.func202.trans (G K (by kernel_rfl))
 t3:=Γ
 a3:=ak
 z3:=ah
 v3:=Θ
 t4:=V
 a4:=X
 z4:=ς
 v4:=υ
 t9:=M
 a9:=N
 z9:=O
 v9:=U}
open Go.RowKit Go.Lib in
theorem Tryz.strings_HasPrefix(b a:aF)(c:J):
 L H 131 #[.string b,.string a] c λe d=>e= .returned (.bool (Lib.hasPrefix b.data.toList a.data.toList))/\d=c:=Any.strings_HasPrefix Tryz.lays99 b a c
def Tryz.lays101_ren:I:=⟨λ|101=>261|208=>310|206=>202|a=>a,λ|9=>9|4=>4|3=>3|a=>a,λ|a=>a⟩
theorem Tryz.lays101:Wi H Tryz.lays101_ren:={
 mixed:=by kernel_rfl
 f101:=Tryz.func261.trans (G K (by kernel_rfl))
 f206:=Tryz.func202.trans (G K (by kernel_rfl))
 f208:=Tryz.func310.trans (G K (by kernel_rfl))
 t3:=Γ
 a3:=ak
 z3:=ah
 v3:=Θ
 t4:=V
 a4:=X
 z4:=ς
 v4:=υ
 t9:=M
 a9:=N
 z9:=O
 v9:=U}
open Go.RowKit Go.Lib in
theorem Tryz.strings_TrimPrefix(b a:aF)(c:J):
 L H 261 #[.string b,.string a] c λe d=>e= .returned (.string ⟨(Lib.trimPrefix b.data.toList a.data.toList).toArray⟩)/\d=c:=Any.strings_TrimPrefix Tryz.lays101 b a c
def Tryz.lays157_ren:I:=⟨λ|157=>104|229=>165|199=>166|261=>233|311=>277|312=>278|n=>n,λ|9=>9|31=>48|3=>3|5=>5|4=>4|119=>239|0=>0|40=>241|152=>284|21=>21|154=>286|51=>287|141=>289|196=>338|193=>335|198=>341|49=>339|194=>336|201=>344|226=>378|46=>305|227=>379|n=>n,λ|0=>0|6=>1|n=>n⟩
theorem Tryz.lays157:We H Tryz.lays157_ren:={
 mixed:=by kernel_rfl
 f157:=Tryz.func104.trans (G K (by kernel_rfl))
 f199:=Tryz.func166.trans (G K (by kernel_rfl))
 f229:=Tryz.func165.trans (G K (by kernel_rfl))
 f261:=Tryz.func233.trans (G K (by kernel_rfl))
 f311:=Tryz.func277.trans (G K (by kernel_rfl))
 f312:=Tryz.func278.trans (G K (by kernel_rfl))
 t0:=Δ
 a0:=an
 z0:=aj
 v0:=Λ
 t3:=Γ
 a3:=ak
 z3:=ah
 v3:=Θ
 t4:=V
 a4:=X
 z4:=ς
 v4:=υ
 t5:=Ξ
 a5:=ay
 z5:=au
 v5:=ο
 t9:=M
 a9:=N
 z9:=O
 v9:=U
 t21:=aJ
 a21:=aX
 z21:=aU
 v21:=aM
 t31:=aD
 a31:=aP
 z31:=aN
 v31:=aE
 t40:=Tryz.underlying241
 a40:=Tryz.isAgg241
 z40:=Tryz.sizeOf241
 v40:=Tryz.zeroValue241
 t46:=aq
 a46:=aB
 z46:=az
 v46:=av
 t49:=Tryz.underlying339
 a49:=Tryz.isAgg339
 z49:=Tryz.sizeOf339
 v49:=Tryz.zeroValue339
 t51:=aA
 a51:=aO
 z51:=aK
 v51:=aC
 t119:=aY
 a119:=bh
 z119:=bf
 t141:=Tryz.underlying289
 a141:=Tryz.isAgg289
 z141:=Tryz.sizeOf289
 v141:=Tryz.zeroValue289
 t152:=Tryz.underlying284
 a152:=Tryz.isAgg284
 z152:=Tryz.sizeOf284
 v152:=Tryz.zeroValue284
 t154:=Tryz.underlying286
 a154:=Tryz.isAgg286
 z154:=Tryz.sizeOf286
 v154:=Tryz.zeroValue286
 t193:=Tryz.underlying335
 a193:=Tryz.isAgg335
 z193:=Tryz.sizeOf335
 v193:=Tryz.zeroValue335
 t194:=Tryz.underlying336
 a194:=Tryz.isAgg336
 z194:=Tryz.sizeOf336
 v194:=Tryz.zeroValue336
 t196:=Tryz.underlying338
 a196:=Tryz.isAgg338
 z196:=Tryz.sizeOf338
 v196:=Tryz.zeroValue338
 t198:=Tryz.underlying341
 a198:=Tryz.isAgg341
 z198:=Tryz.sizeOf341
 v198:=Tryz.zeroValue341
 t201:=Tryz.underlying344
 a201:=Tryz.isAgg344
 z201:=Tryz.sizeOf344
 v201:=Tryz.zeroValue344
 t226:=Tryz.underlying378
 a226:=Tryz.isAgg378
 z226:=Tryz.sizeOf378
 v226:=Tryz.zeroValue378
 t227:=Tryz.underlying379
 a227:=Tryz.isAgg379
 z227:=Tryz.sizeOf379
 v227:=Tryz.zeroValue379
 g0:=by kernel_rfl
 g6:=by kernel_rfl}
open Go.RowKit Go.Lib in
theorem Tryz.strings_Fields(a:aF)(b:J)(e:a.size<4294967281)(h:∀(j:Nat) c,a.data.toList[j]?=K c->c.toNat<128)(f:Wq H b "strings.asciiSpace" .u8 Lib.asciiSpaceTab):
 L H 104 #[.string a] b λi g=>
  i= .returned (.slice (K ⟨b.heap.size,0,Wl⟩) (Vj a.data.toList).length (Vj a.data.toList).length)/\g=b.alloc (.cells ((Vj a.data.toList).map λd=>Value.string ⟨d.toArray⟩).toArray 9):=Any.strings_Fields Tryz.lays157 (by kernel_rfl) (by kernel_rfl) a b e h f
def Tryz.lays197_ren:I:=⟨λ|197=>152|260=>225|n=>n,λ|9=>9|21=>21|3=>3|4=>4|5=>5|105=>229|119=>239|0=>0|46=>305|139=>331|138=>330|n=>n,λ|3=>2|4=>3|n=>n⟩
theorem Tryz.lays197:V_ H Tryz.lays197_ren:={
 mixed:=by kernel_rfl
 f197:=Tryz.func152.trans (G K (by kernel_rfl))
 f260:=Tryz.func225.trans (G K (by kernel_rfl))
 t0:=Δ
 a0:=an
 z0:=aj
 v0:=Λ
 t3:=Γ
 a3:=ak
 z3:=ah
 v3:=Θ
 t4:=V
 a4:=X
 z4:=ς
 v4:=υ
 t5:=Ξ
 a5:=ay
 z5:=au
 v5:=ο
 t9:=M
 a9:=N
 z9:=O
 v9:=U
 t21:=aJ
 a21:=aX
 z21:=aU
 v21:=aM
 t46:=aq
 a46:=aB
 z46:=az
 v46:=av
 t105:=Tryz.underlying229
 a105:=Tryz.isAgg229
 z105:=Tryz.sizeOf229
 v105:=Tryz.zeroValue229
 t119:=aY
 a119:=bh
 z119:=bf
 t138:=bE
 a138:=VW
 z138:=VB
 v138:=Vb
 t139:=bD
 a139:=VV
 z139:=VA
 v139:=Va
 g3:=by kernel_rfl
 g4:=by kernel_rfl}
def Tryz.lays227_ren:I:=⟨λ|227=>94|a=>a,λ|9=>9|116=>162|4=>4|0=>0|3=>3|5=>5|a=>a,λ|a=>a⟩
theorem Tryz.lays227:V9 H Tryz.lays227_ren:={
 mixed:=by kernel_rfl
 f227:=Tryz.func94.trans (G K (by kernel_rfl))
 t0:=Δ
 a0:=an
 z0:=aj
 v0:=Λ
 t3:=Γ
 a3:=ak
 z3:=ah
 v3:=Θ
 t4:=V
 a4:=X
 z4:=ς
 v4:=υ
 t5:=Ξ
 a5:=ay
 z5:=au
 v5:=ο
 t9:=M
 a9:=N
 z9:=O
 v9:=U
 t116:=bH
 a116:=VZ
 z116:=VE}
open Go.RowKit Go.Lib in
theorem Tryz.strings_makeASCIISet(d:∀b,(zeroValue 162).run H b= .ok (.agg (Array.replicate 256 (.bool false))) b)(a:aF)(b:J)(e:a.size<4294967281)(g:∀(i:Nat) c,a.data.toList[i]?=K c->c.toNat<128):
 L H 94 #[.string a] b λh f=>h= .returned (.tuple #[.agg (Wn a.data.toList),.bool true])/\f=b.alloc (.cells (Wn a.data.toList) 162):=Any.strings_makeASCIISet Tryz.lays227 d (by kernel_rfl) a b e g
def Tryz.lays228_ren:I:=⟨λ|228=>151|a=>a,λ|124=>166|5=>5|4=>4|0=>0|116=>162|a=>a,λ|a=>a⟩
theorem Tryz.lays228:V8 H Tryz.lays228_ren:={
 mixed:=by kernel_rfl
 f228:=Tryz.func151.trans (G K (by kernel_rfl))
 t0:=Δ
 a0:=an
 z0:=aj
 v0:=Λ
 t4:=V
 a4:=X
 z4:=ς
 v4:=υ
 t5:=Ξ
 a5:=ay
 z5:=au
 v5:=ο
 t116:=bH
 a116:=VZ
 z116:=VE
 t124:=Tryz.underlying166
 a124:=Tryz.isAgg166
 z124:=Tryz.sizeOf166
 v124:=Tryz.zeroValue166}
open Go.RowKit Go.Lib in
theorem Tryz.asciiSet_contains(b:Nat)(d:UInt8)(c:Bool)(a:J)(g:a.cell? ⟨b,d.toNat,Wl⟩=K (.bool c)):
 L H 151 #[.pointer (K ⟨b,0,Wl⟩),.int .u8 d.toNat] a λe f=>e= .returned (.bool c)/\f=a:=Any.asciiSet_contains Tryz.lays228 b d c a g
open Go.RowKit Go.Lib in
theorem Tryz.utf8_DecodeRuneInString(b:aF)(a:J)(c:Wp 2 3 a):
 L H 152 #[.string b] a λe d=>e= .returned (.tuple #[.int .i32 (Wo b).1,.int .i64 (Wo b).2])/\Below a.heap.size a d:=Any.utf8_DecodeRuneInString Tryz.lays197 b a c
def Tryz.lays110_ren:I:=⟨λ|110=>155|109=>228|a=>a,λ|31=>48|9=>9|4=>4|3=>3|0=>0|a=>a,λ|a=>a⟩
theorem Tryz.lays110:Wh H Tryz.lays110_ren:={
 mixed:=by kernel_rfl
 f109:=Tryz.func228.trans (G K (by kernel_rfl))
 f110:=Tryz.func155.trans (G K (by kernel_rfl))
 t0:=Δ
 a0:=an
 z0:=aj
 v0:=Λ
 t3:=Γ
 a3:=ak
 z3:=ah
 v3:=Θ
 t4:=V
 a4:=X
 z4:=ς
 v4:=υ
 t9:=M
 a9:=N
 z9:=O
 v9:=U
 t31:=aD
 a31:=aP
 z31:=aN
 v31:=aE}
open Go.Lib in
theorem Tryz.slices_Contains_string(d g b h:Nat)(a:List aF)(f:aF)(c:J)(i:b<=a.length)(m:b<=9223372036854775807)(l:∀e,e<a.length->c.cell? ⟨d,g+e,Wl⟩=K (.string (a.getD e ByteArray.empty))):
 L H 155 #[.slice (K ⟨d,g,Wl⟩) b h,.string f] c λj k=>j= .returned (.bool (Lib.containsS (a.take b) f))/\k=c:=Any.slices_Contains_string Tryz.lays110 d g b h a f c i m l
open Go.Lib in
theorem Tryz.slices_Contains_string_empty(b:Option Addr)(c:Nat)(d:aF)(a:J):
 L H 155 #[.slice b 0 c,.string d] a λf e=>f= .returned (.bool false)/\e=a:=Any.slices_Contains_string_empty Tryz.lays110 b c d a
open Go.RowKit Go.Sort in
theorem Tryz.slices_Sort_string_none(b:Option Addr)(c:Nat)(a:J):
 L H 215 #[.slice b 0 c] a λe d=>e= .returned (.tuple #[])/\d=a:=Any.slices_Sort_string_none Tryz.lays190 b c a
def Tryz.lays196_ren:I:=⟨λ|196=>235|259=>279|n=>n,λ|9=>9|4=>4|3=>3|5=>5|12=>12|119=>239|0=>0|46=>305|139=>331|138=>330|53=>348|n=>n,λ|3=>2|4=>3|n=>n⟩
theorem Tryz.lays196:Wa H Tryz.lays196_ren:={
 mixed:=by kernel_rfl
 f196:=Tryz.func235.trans (G K (by kernel_rfl))
 f259:=Tryz.func279.trans (G K (by kernel_rfl))
 t0:=Δ
 a0:=an
 z0:=aj
 v0:=Λ
 t3:=Γ
 a3:=ak
 z3:=ah
 v3:=Θ
 t4:=V
 a4:=X
 z4:=ς
 v4:=υ
 t5:=Ξ
 a5:=ay
 z5:=au
 v5:=ο
 t9:=M
 a9:=N
 z9:=O
 v9:=U
 t12:=Tryz.underlying12
 a12:=Tryz.isAgg12
 z12:=Tryz.sizeOf12
 v12:=Tryz.zeroValue12
 t46:=aq
 a46:=aB
 z46:=az
 v46:=av
 t53:=aG
 a53:=aV
 z53:=aQ
 v53:=aH
 t119:=aY
 a119:=bh
 z119:=bf
 t138:=bE
 a138:=VW
 z138:=VB
 v138:=Vb
 t139:=bD
 a139:=VV
 z139:=VA
 v139:=Va
 g3:=by kernel_rfl
 g4:=by kernel_rfl}
open Go.RowKit in
theorem Tryz.utf8_ValidString(b:aF)(a:J)(c:b.size<=9223372036854775807)(d:Wp 2 3 a):
 L H 235 #[.string b] a λf e=>f= .returned (.bool (Lib.validD b.data.toList))/\Below a.heap.size a e:=Any.utf8_ValidString Tryz.lays196 b a c d
def Tryz.clone121_ren:I:=⟨λ|5=>121|7=>181|a=>a,λ|23=>72|25=>9|3=>127|4=>4|20=>20|a=>a,λ|a=>a⟩
theorem Tryz.clone121:Go.Proofs.SlLaysW.n5 H Tryz.clone121_ren:={
 mixed:=by kernel_rfl
 f5:=⟨Tryz.f121.name,by decide,Tryz.func121.trans (G K (by kernel_rfl))⟩
 f7:=Tryz.func181.trans (G K (by kernel_rfl))
 t4:=V
 a4:=X
 z4:=ς
 v4:=υ
 t20:=aZ
 a20:=bk
 z20:=bg
 v20:=a_
 t23:=Vi
 a23:=V5
 z23:=VJ
 v23:=Vm}
def Tryz.keys138_ren:I:=⟨λ|7=>138|10=>216|a=>a,λ|23=>72|26=>9|3=>127|28=>214|0=>0|27=>213|33=>61|4=>4|a=>a,λ|a=>a⟩
theorem Tryz.keys138:Go.Proofs.SlLaysZ.n7 H Tryz.keys138_ren:={
 mixed:=by kernel_rfl
 f7:=⟨Tryz.f138.name,by decide,Tryz.func138.trans (G K (by kernel_rfl))⟩
 f10:=⟨Tryz.f216.name,by decide,Tryz.func216.trans (G K (by kernel_rfl))⟩
 t0:=Δ
 a0:=an
 z0:=aj
 v0:=Λ
 t4:=V
 a4:=X
 z4:=ς
 v4:=υ
 t23:=Vi
 a23:=V5
 z23:=VJ
 v23:=Vm
 t26:=M
 a26:=N
 z26:=O
 v26:=U
 t27:=Tryz.underlying213
 a27:=Tryz.isAgg213
 z27:=Tryz.sizeOf213
 v27:=Tryz.zeroValue213
 t28:=bG
 a28:=VY
 z28:=VD
 v28:=Vd
 t33:=Tryz.underlying61
 a33:=Tryz.isAgg61
 z33:=Tryz.sizeOf61
 v33:=Tryz.zeroValue61}
def Tryz.sorted137_ren:I:=⟨λ|6=>137|8=>214|9=>215|11=>266|13=>250|12=>267|23=>298|24=>299|14=>314|15=>315|16=>316|17=>317|18=>318|19=>319|20=>320|21=>321|22=>322|25=>354|26=>339|27=>340|28=>355|29=>356|30=>232|31=>371|a=>a,λ|26=>9|28=>214|24=>48|0=>0|3=>3|37=>305|48=>287|50=>348|4=>4|40=>358|39=>357|45=>297|5=>5|9=>9|51=>390|55=>394|57=>411|58=>138|33=>61|a=>a,λ|a=>a⟩
theorem Tryz.sorted137:Go.Proofs.SlLaysZ.n6 H Tryz.sorted137_ren:={
 mixed:=by kernel_rfl
 f6:=⟨Tryz.f137.name,by decide,Tryz.func137.trans (G K (by kernel_rfl))⟩
 f8:=⟨Tryz.f214.name,by decide,Tryz.func214.trans (G K (by kernel_rfl))⟩
 f11:=⟨Tryz.f266.name,by decide,Tryz.func266.trans (G K (by kernel_rfl))⟩
 t0:=Δ
 a0:=an
 z0:=aj
 v0:=Λ
 t24:=aD
 a24:=aP
 z24:=aN
 v24:=aE
 t26:=M
 a26:=N
 z26:=O
 v26:=U
 t28:=bG
 a28:=VY
 z28:=VD
 v28:=Vd
 i26:=by kernel_rfl}
def Tryz.sort215_ren:I:=⟨λ|6=>215|8=>250|9=>267|19=>298|20=>299|21=>314|22=>315|23=>316|24=>317|25=>318|26=>319|27=>320|28=>321|29=>322|36=>354|31=>339|32=>340|37=>355|38=>356|39=>232|41=>371|a=>a,λ|27=>48|29=>9|3=>3|32=>305|26=>48|0=>0|44=>287|46=>348|4=>4|36=>358|35=>357|41=>297|5=>5|9=>9|53=>390|57=>394|63=>411|64=>138|a=>a,λ|a=>a⟩
theorem Tryz.sort215:Go.Proofs.SlLaysM.n6 H Tryz.sort215_ren:={
 mixed:=by kernel_rfl
 f6:=⟨Tryz.f215.name,by decide,Tryz.func215.trans (G K (by kernel_rfl))⟩
 f8:=Tryz.func250.trans (G K (by kernel_rfl))
 f9:=⟨Tryz.f267.name,by decide,Tryz.func267.trans (G K (by kernel_rfl))⟩
 f19:=Tryz.func298.trans (G K (by kernel_rfl))
 f20:=Tryz.func299.trans (G K (by kernel_rfl))
 f21:=⟨Tryz.f314.name,by decide,Tryz.func314.trans (G K (by kernel_rfl))⟩
 f22:=⟨Tryz.f315.name,by decide,Tryz.func315.trans (G K (by kernel_rfl))⟩
 f23:=⟨Tryz.f316.name,by decide,Tryz.func316.trans (G K (by kernel_rfl))⟩
 f24:=⟨Tryz.f317.name,by decide,Tryz.func317.trans (G K (by kernel_rfl))⟩
 f25:=⟨Tryz.f318.name,by decide,Tryz.func318.trans (G K (by kernel_rfl))⟩
 f26:=⟨Tryz.f319.name,by decide,Tryz.func319.trans (G K (by kernel_rfl))⟩
 f27:=⟨Tryz.f320.name,by decide,Tryz.func320.trans (G K (by kernel_rfl))⟩
 f28:=⟨Tryz.f321.name,by decide,Tryz.func321.trans (G K (by kernel_rfl))⟩
 f29:=⟨Tryz.f322.name,by decide,Tryz.func322.trans (G K (by kernel_rfl))⟩
 f31:=Tryz.func339.trans (G K (by kernel_rfl))
 f32:=Tryz.func340.trans (G K (by kernel_rfl))
 f36:=⟨Tryz.f354.name,by decide,Tryz.func354.trans (G K (by kernel_rfl))⟩
 f37:=⟨Tryz.f355.name,by decide,Tryz.func355.trans (G K (by kernel_rfl))⟩
 f38:=⟨Tryz.f356.name,by decide,Tryz.func356.trans (G K (by kernel_rfl))⟩
 f39:=⟨Tryz.f232.name,by decide,Tryz.func232.trans (G K (by kernel_rfl))⟩
 f41:=⟨Tryz.f371.name,by decide,Tryz.func371.trans (G K (by kernel_rfl))⟩
 t0:=Δ
 a0:=an
 z0:=aj
 v0:=Λ
 t3:=Γ
 a3:=ak
 z3:=ah
 v3:=Θ
 t4:=V
 a4:=X
 z4:=ς
 v4:=υ
 t5:=Ξ
 a5:=ay
 z5:=au
 v5:=ο
 t9:=M
 a9:=N
 z9:=O
 v9:=U
 t26:=aD
 a26:=aP
 z26:=aN
 v26:=aE
 t27:=aD
 a27:=aP
 z27:=aN
 v27:=aE
 t29:=M
 a29:=N
 z29:=O
 v29:=U
 t32:=aq
 a32:=aB
 z32:=az
 v32:=av
 t35:=bA
 a35:=VS
 z35:=Vx
 v35:=U9
 t36:=bz
 a36:=VR
 z36:=Vw
 v36:=U8
 t41:=bF
 a41:=VX
 z41:=VC
 v41:=Vc
 t44:=aA
 a44:=aO
 z44:=aK
 v44:=aC
 t46:=aG
 a46:=aV
 z46:=aQ
 v46:=aH
 t53:=bt
 a53:=VO
 z53:=Vt
 v53:=U6
 t57:=bq
 a57:=VN
 z57:=Vs
 v57:=U5
 t63:=bp
 a63:=VM
 z63:=Vr
 v63:=U4
 t64:=bJ
 a64:=V1
 z64:=VG
 v64:=Vf}
end Go.Proofs
