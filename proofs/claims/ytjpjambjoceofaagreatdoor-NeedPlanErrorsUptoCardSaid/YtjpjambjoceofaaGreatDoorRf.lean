/- Own work. -/
import Derived.Shelf.SlSorted.Search
import Derived.Shelf.SlSortCmp.NoneTotal
import Derived.Shelf.Small.Strs
import Derived.Shelf.Strconv.Itoa0
import Derived.Shelf.Strconv.Itoa1
import Derived.Shelf.LaysM
import Derived.Shelf.Strconv.Itoa2
import Derived.Shelf.Strconv.AppendUint10
import Derived.Shelf.Strconv.AppendInt10
import Derived.Shelf.Strconv.AppendIntPublic10
import Derived.Test.YtjpjambjoceofaaGreatDoorProg
import Derived.Lib.ItoaLen
import Derived.RangeFuncWrites
import Derived.OrdersIn
import Derived.Test.YtjpjambjoceofaaGreatDoorRe
set_option linter.unusedVariables false
set_option linter.unusedSimpArgs false
namespace Go.Proofs
open Go.Shelf List
def Tryz.lays213_ren:Go.Shelf.Ren:=⟨λ |213=>245|265=>277|n=>n,λ |9=>9|3=>3|n=>n,λ |n=>n⟩
def Tryz.lays106_ren:Go.Shelf.Ren:=⟨λ |106=>184|213=>245|265=>277|n=>n,λ |9=>9|3=>3|n=>n,λ |n=>n⟩
theorem Tryz.lays106:Go.Proofs.Lays.n106 Tryz.prog Tryz.lays106_ren:={
 mixed:=ax
 f106:=func184.trans (congrArg some ax)
 f213:=func245.trans (congrArg some ax)
 f265:=func277.trans (congrArg some ax)
 t3:=Tryz.underlying3
 a3:=Tryz.isAgg3
 z3:=Tryz.sizeOf3
 v3:=Tryz.zeroValue3
 t9:=Tryz.underlying9
 a9:=Tryz.isAgg9
 z9:=Tryz.sizeOf9
 v9:=Tryz.zeroValue9}
open Go.RowKit in
theorem Tryz.strings_Compare(a b:ByteArray)(w:World):
 Calls Tryz.prog 184 #[.string a,.string b] w λe w'=>e= .returned (.int .i64 (Lib.compareBytes a.data.toList b.data.toList))/\w'=w:=Any.strings_Compare Tryz.lays106 a b w
def Tryz.lays283_ren:Go.Shelf.Ren:=⟨λ |283=>305|n=>n,λ |3=>3|9=>9|4=>4|n=>n,λ |n=>n⟩
theorem Tryz.lays283:Go.Proofs.Lays.n283 Tryz.prog Tryz.lays283_ren:={
 mixed:=ax
 f283:=func305.trans (congrArg some ax)
 t3:=Tryz.underlying3
 a3:=Tryz.isAgg3
 z3:=Tryz.sizeOf3
 v3:=Tryz.zeroValue3
 t4:=Tryz.underlying4
 a4:=Tryz.isAgg4
 z4:=Tryz.sizeOf4
 v4:=Tryz.zeroValue4
 t9:=Tryz.underlying9
 a9:=Tryz.isAgg9
 z9:=Tryz.sizeOf9
 v9:=Tryz.zeroValue9}
open Go.Lib in
theorem Tryz.internal_strconv_small(i:Nat)(h:i<100)(w:World):
 Calls Tryz.prog 305 #[.int .i64 i] w λe w'=>e= .returned (.string ⟨(Lib.decDigits i).toArray⟩)/\w'=w:=Any.internal_strconv_small Tryz.lays283 i h w
def Tryz.laysM284_ren:Go.Shelf.Ren:=⟨λ |284=>306|129=>287|317=>310|318=>311|n=>n,λ |53=>301|3=>3|212=>323|0=>0|4=>4|46=>244|5=>5|9=>9|n=>n,λ |17=>1|n=>n⟩
theorem Tryz.laysM284:Go.Proofs.LaysM.n284 Tryz.prog Tryz.laysM284_ren:={
 mixed:=ax
 f129:=func287.trans (congrArg some ax)
 f284:=func306.trans (congrArg some ax)
 f317:=func310.trans (congrArg some ax)
 f318:=func311.trans (congrArg some ax)
 t0:=Tryz.underlying0
 a0:=Tryz.isAgg0
 z0:=Tryz.sizeOf0
 v0:=Tryz.zeroValue0
 t3:=Tryz.underlying3
 a3:=Tryz.isAgg3
 z3:=Tryz.sizeOf3
 v3:=Tryz.zeroValue3
 t4:=Tryz.underlying4
 a4:=Tryz.isAgg4
 z4:=Tryz.sizeOf4
 v4:=Tryz.zeroValue4
 t5:=Tryz.underlying5
 a5:=Tryz.isAgg5
 z5:=Tryz.sizeOf5
 v5:=Tryz.zeroValue5
 t9:=Tryz.underlying9
 a9:=Tryz.isAgg9
 z9:=Tryz.sizeOf9
 v9:=Tryz.zeroValue9
 t46:=Tryz.underlying244
 a46:=Tryz.isAgg244
 z46:=Tryz.sizeOf244
 v46:=Tryz.zeroValue244
 t53:=Tryz.underlying301
 a53:=Tryz.isAgg301
 z53:=Tryz.sizeOf301
 v53:=Tryz.zeroValue301
 t212:=Tryz.underlying323
 a212:=Tryz.isAgg323
 z212:=Tryz.sizeOf323
 v212:=Tryz.zeroValue323
 g17:=ax
 i0:=ax
 i3:=ax
 i4:=ax
 i5:=ax
 i9:=ax
 i46:=ax
 i53:=ax
 i212:=ax
 m17:=by kernel_rfl}
open Go.Lib in
theorem Tryz.internal_strconv_numDigits(u:Nat)(b:1<=u)(c:u<18446744073709551616)(w:World)(a:Lib.TabIs Tryz.prog w "internal/strconv.uint64pow10" .u64 Lib.pow10Tab):
 Calls Tryz.prog 306 #[.int .u64 u] w λe w'=>e= .returned (.int .i64 (Lib.nDigits u))/\w'=w:=Any.internal_strconv_numDigits Tryz.laysM284 u b c w a
def Tryz.lays285_ren:Go.Shelf.Ren:=⟨λ |285=>307|n=>n,λ |37=>22|53=>301|3=>3|4=>4|51=>299|9=>9|5=>5|0=>0|n=>n,λ |n=>n⟩
theorem Tryz.lays285:Go.Proofs.Lays.n285 Tryz.prog Tryz.lays285_ren:={
 mixed:=ax
 f285:=func307.trans (congrArg some ax)
 t0:=Tryz.underlying0
 a0:=Tryz.isAgg0
 z0:=Tryz.sizeOf0
 v0:=Tryz.zeroValue0
 t3:=Tryz.underlying3
 a3:=Tryz.isAgg3
 z3:=Tryz.sizeOf3
 v3:=Tryz.zeroValue3
 t4:=Tryz.underlying4
 a4:=Tryz.isAgg4
 z4:=Tryz.sizeOf4
 v4:=Tryz.zeroValue4
 t5:=Tryz.underlying5
 a5:=Tryz.isAgg5
 z5:=Tryz.sizeOf5
 v5:=Tryz.zeroValue5
 t9:=Tryz.underlying9
 a9:=Tryz.isAgg9
 z9:=Tryz.sizeOf9
 v9:=Tryz.zeroValue9
 t37:=Tryz.underlying22
 a37:=Tryz.isAgg22
 z37:=Tryz.sizeOf22
 v37:=Tryz.zeroValue22
 t51:=Tryz.underlying299
 a51:=Tryz.isAgg299
 z51:=Tryz.sizeOf299
 v51:=Tryz.zeroValue299
 t53:=Tryz.underlying301
 a53:=Tryz.isAgg301
 z53:=Tryz.sizeOf301
 v53:=Tryz.zeroValue301}
open Go.RowKit Go.Sort Go.Lib in
theorem Tryz.internal_strconv_formatBase10(blk off a:Nat)(u:Nat)(d:Array UInt8)(w:World)(h:Holds (fun(b:UInt8)=>Value.int .u8 (b.toNat:Int)) w blk off d)(i:u<10^d.size)(c:u<18446744073709551616)(f:d.size<4611686018427387904):
 Calls Tryz.prog 307 #[.slice (some ⟨blk,off,none⟩) d.size a,.int .u64 u] w λe w'=>
  e= .returned (.tuple #[])/\∃(n j:Nat)(g:Array UInt8),w'=(putRow (fun(b:UInt8)=>Value.int .u8 (b.toNat:Int)) w blk off g).drewN n/\FmtInv d.size u 0 j g:=Any.internal_strconv_formatBase10 Tryz.lays285 blk off a u d w h i c f
def Tryz.sortF_ren:Go.Shelf.Ren:=⟨λ |6=>189|15=>253|14=>252|28=>286|29=>287|20=>278|21=>279|22=>280|23=>281|24=>282|25=>283|26=>284|27=>285|46=>294|47=>295|48=>296|49=>297|50=>298|57=>304|n=>n,λ |22=>53|24=>94|25=>116|3=>3|39=>244|0=>0|53=>299|55=>301|4=>4|46=>293|45=>292|50=>190|5=>5|9=>9|66=>304|70=>264|76=>313|77=>314|n=>n,λ |n=>n⟩
theorem Tryz.sortF:Go.Proofs.SlLaysF.n6 Tryz.prog Tryz.sortF_ren:={
 mixed:=ax
 f6:=⟨Tryz.f189.name,az,func189.trans (congrArg some ax)⟩
 f14:=⟨Tryz.f252.name,az,func252.trans (congrArg some ax)⟩
 f15:=func253.trans (congrArg some ax)
 f20:=⟨Tryz.f278.name,az,func278.trans (congrArg some ax)⟩
 f21:=⟨Tryz.f279.name,az,func279.trans (congrArg some ax)⟩
 f22:=⟨Tryz.f280.name,az,func280.trans (congrArg some ax)⟩
 f23:=⟨Tryz.f281.name,az,func281.trans (congrArg some ax)⟩
 f24:=⟨Tryz.f282.name,az,func282.trans (congrArg some ax)⟩
 f25:=⟨Tryz.f283.name,az,func283.trans (congrArg some ax)⟩
 f26:=⟨Tryz.f284.name,az,func284.trans (congrArg some ax)⟩
 f27:=⟨Tryz.f285.name,az,func285.trans (congrArg some ax)⟩
 f28:=func286.trans (congrArg some ax)
 f29:=func287.trans (congrArg some ax)
 f46:=⟨Tryz.f294.name,az,func294.trans (congrArg some ax)⟩
 f47:=func295.trans (congrArg some ax)
 f48:=func296.trans (congrArg some ax)
 f49:=⟨Tryz.f297.name,az,func297.trans (congrArg some ax)⟩
 f50:=⟨Tryz.f298.name,az,func298.trans (congrArg some ax)⟩
 f57:=⟨Tryz.f304.name,az,func304.trans (congrArg some ax)⟩
 t0:=Tryz.underlying0
 a0:=Tryz.isAgg0
 z0:=Tryz.sizeOf0
 v0:=Tryz.zeroValue0
 t3:=Tryz.underlying3
 a3:=Tryz.isAgg3
 z3:=Tryz.sizeOf3
 v3:=Tryz.zeroValue3
 t4:=Tryz.underlying4
 a4:=Tryz.isAgg4
 z4:=Tryz.sizeOf4
 v4:=Tryz.zeroValue4
 t5:=Tryz.underlying5
 a5:=Tryz.isAgg5
 z5:=Tryz.sizeOf5
 v5:=Tryz.zeroValue5
 t9:=Tryz.underlying9
 a9:=Tryz.isAgg9
 z9:=Tryz.sizeOf9
 v9:=Tryz.zeroValue9
 t22:=Tryz.underlying53
 a22:=Tryz.isAgg53
 z22:=Tryz.sizeOf53
 v22:=Tryz.zeroValue53
 a24:=Tryz.isAgg94
 z24:=Tryz.sizeOf94
 t25:=Tryz.underlying116
 a25:=Tryz.isAgg116
 z25:=Tryz.sizeOf116
 v25:=Tryz.zeroValue116
 t39:=Tryz.underlying244
 a39:=Tryz.isAgg244
 z39:=Tryz.sizeOf244
 v39:=Tryz.zeroValue244
 t45:=Tryz.underlying292
 a45:=Tryz.isAgg292
 z45:=Tryz.sizeOf292
 v45:=Tryz.zeroValue292
 t46:=Tryz.underlying293
 a46:=Tryz.isAgg293
 z46:=Tryz.sizeOf293
 v46:=Tryz.zeroValue293
 t50:=Tryz.underlying190
 a50:=Tryz.isAgg190
 z50:=Tryz.sizeOf190
 v50:=Tryz.zeroValue190
 t53:=Tryz.underlying299
 a53:=Tryz.isAgg299
 z53:=Tryz.sizeOf299
 v53:=Tryz.zeroValue299
 t55:=Tryz.underlying301
 a55:=Tryz.isAgg301
 z55:=Tryz.sizeOf301
 v55:=Tryz.zeroValue301
 t66:=Tryz.underlying304
 a66:=Tryz.isAgg304
 z66:=Tryz.sizeOf304
 v66:=Tryz.zeroValue304
 t70:=Tryz.underlying264
 a70:=Tryz.isAgg264
 z70:=Tryz.sizeOf264
 v70:=Tryz.zeroValue264
 t76:=Tryz.underlying313
 a76:=Tryz.isAgg313
 z76:=Tryz.sizeOf313
 v76:=Tryz.zeroValue313
 t77:=Tryz.underlying314
 a77:=Tryz.isAgg314
 z77:=Tryz.sizeOf314
 v77:=Tryz.zeroValue314}
def Tryz.sortN_ren:Go.Shelf.Ren:=⟨λ |6=>189|15=>253|14=>252|28=>286|29=>287|20=>278|21=>279|22=>280|23=>281|24=>282|25=>283|26=>284|27=>285|46=>294|47=>295|48=>296|49=>297|50=>298|57=>304|n=>n,λ |22=>53|24=>94|25=>116|3=>3|39=>244|0=>0|53=>299|55=>301|4=>4|46=>293|45=>292|50=>190|5=>5|9=>9|66=>304|70=>264|76=>313|77=>314|n=>n,λ |n=>n⟩
theorem Tryz.sortN:Go.Proofs.SlLaysF0.n6 Tryz.prog Tryz.sortN_ren:={
 mixed:=ax
 f6:=⟨Tryz.f189.name,az,func189.trans (congrArg some ax)⟩
 f14:=⟨Tryz.f252.name,az,func252.trans (congrArg some ax)⟩
 f15:=func253.trans (congrArg some ax)
 f20:=⟨Tryz.f278.name,az,func278.trans (congrArg some ax)⟩
 f21:=⟨Tryz.f279.name,az,func279.trans (congrArg some ax)⟩
 f22:=⟨Tryz.f280.name,az,func280.trans (congrArg some ax)⟩
 f23:=⟨Tryz.f281.name,az,func281.trans (congrArg some ax)⟩
 f24:=⟨Tryz.f282.name,az,func282.trans (congrArg some ax)⟩
 f25:=⟨Tryz.f283.name,az,func283.trans (congrArg some ax)⟩
 f26:=⟨Tryz.f284.name,az,func284.trans (congrArg some ax)⟩
 f27:=⟨Tryz.f285.name,az,func285.trans (congrArg some ax)⟩
 f28:=func286.trans (congrArg some ax)
 f29:=func287.trans (congrArg some ax)
 f46:=⟨Tryz.f294.name,az,func294.trans (congrArg some ax)⟩
 f47:=func295.trans (congrArg some ax)
 f48:=func296.trans (congrArg some ax)
 f49:=⟨Tryz.f297.name,az,func297.trans (congrArg some ax)⟩
 f50:=⟨Tryz.f298.name,az,func298.trans (congrArg some ax)⟩
 f57:=⟨Tryz.f304.name,az,func304.trans (congrArg some ax)⟩
 t0:=Tryz.underlying0
 a0:=Tryz.isAgg0
 z0:=Tryz.sizeOf0
 v0:=Tryz.zeroValue0
 t3:=Tryz.underlying3
 a3:=Tryz.isAgg3
 z3:=Tryz.sizeOf3
 v3:=Tryz.zeroValue3
 t4:=Tryz.underlying4
 a4:=Tryz.isAgg4
 z4:=Tryz.sizeOf4
 v4:=Tryz.zeroValue4
 t5:=Tryz.underlying5
 a5:=Tryz.isAgg5
 z5:=Tryz.sizeOf5
 v5:=Tryz.zeroValue5
 t9:=Tryz.underlying9
 a9:=Tryz.isAgg9
 z9:=Tryz.sizeOf9
 v9:=Tryz.zeroValue9
 t22:=Tryz.underlying53
 a22:=Tryz.isAgg53
 z22:=Tryz.sizeOf53
 v22:=Tryz.zeroValue53
 t25:=Tryz.underlying116
 a25:=Tryz.isAgg116
 z25:=Tryz.sizeOf116
 v25:=Tryz.zeroValue116
 t39:=Tryz.underlying244
 a39:=Tryz.isAgg244
 z39:=Tryz.sizeOf244
 v39:=Tryz.zeroValue244
 t45:=Tryz.underlying292
 a45:=Tryz.isAgg292
 z45:=Tryz.sizeOf292
 v45:=Tryz.zeroValue292
 t46:=Tryz.underlying293
 a46:=Tryz.isAgg293
 z46:=Tryz.sizeOf293
 v46:=Tryz.zeroValue293
 t50:=Tryz.underlying190
 a50:=Tryz.isAgg190
 z50:=Tryz.sizeOf190
 v50:=Tryz.zeroValue190
 t53:=Tryz.underlying299
 a53:=Tryz.isAgg299
 z53:=Tryz.sizeOf299
 v53:=Tryz.zeroValue299
 t55:=Tryz.underlying301
 a55:=Tryz.isAgg301
 z55:=Tryz.sizeOf301
 v55:=Tryz.zeroValue301
 t66:=Tryz.underlying304
 a66:=Tryz.isAgg304
 z66:=Tryz.sizeOf304
 v66:=Tryz.zeroValue304
 t70:=Tryz.underlying264
 a70:=Tryz.isAgg264
 z70:=Tryz.sizeOf264
 v70:=Tryz.zeroValue264
 t76:=Tryz.underlying313
 a76:=Tryz.isAgg313
 z76:=Tryz.sizeOf313
 v76:=Tryz.zeroValue313
 t77:=Tryz.underlying314
 a77:=Tryz.isAgg314
 z77:=Tryz.sizeOf314
 v77:=Tryz.zeroValue314}
def Tryz.searchO_ren:Go.Shelf.Ren:=⟨λ |16=>126|n=>n,λ |3=>3|35=>48|4=>4|38=>244|n=>n,λ |n=>n⟩
theorem Tryz.searchO:Go.Proofs.SlLaysO.n16 Tryz.prog Tryz.searchO_ren:={
 mixed:=ax
 f16:=func126.trans (congrArg some ax)
 t3:=Tryz.underlying3
 a3:=Tryz.isAgg3
 z3:=Tryz.sizeOf3
 v3:=Tryz.zeroValue3
 t4:=Tryz.underlying4
 a4:=Tryz.isAgg4
 z4:=Tryz.sizeOf4
 v4:=Tryz.zeroValue4
 t35:=Tryz.underlying48
 a35:=Tryz.isAgg48
 z35:=Tryz.sizeOf48
 v35:=Tryz.zeroValue48
 t38:=Tryz.underlying244
 a38:=Tryz.isAgg244
 z38:=Tryz.sizeOf244
 v38:=Tryz.zeroValue244}
end Go.Proofs
namespace Go.Ps
open Go Go.Vc Go.Proofs List Tryz
variable{K:cr}{m:MH}{h:PH}{s:jB}{ps:cq}{cb:Nat}{sc:bW}{v:QV}{p:Pred}{l:cq}{i:Nat}{N:Nat}{m':MH}{h':PH}{co:cq}{gr:cq}{od:cv}{ta:Int}{li:Int}{xs:List cn}{sz:Nat}{ks:List cq}{rs:cq}{r:Sl}{a:cq}{b:Nat}
def fU(m:MH):Prop:=∃T c,m 1=some (.cells (Lib.pow10Tab.map λz=>Value.int .u64 z).toArray T c)
def cU(u:Nat):CV:=.val (.int .u64 u)
def chX:Vc.Spec:=λc m h K=>∃i:Nat,c=[cI i]/\i<100/\K (V1 ⟨(Lib.decDigits i).toArray⟩) m h
def acJ:Vc.Spec:=λc m h K=>∃u:Nat,c=[cU u]/\1<=u/\u<18446744073709551616/\fU m/\K (cI (Lib.nDigits u)) m h
def cgQ:Vc.Spec:=λd m h K=>∃b e u:Nat,∃(f:Array Value)(T:TypeId),d=[.val (.slice (some ⟨b,0,none⟩) (Lib.nDigits u) e),cU u]/\u<18446744073709551616/\m b=some (.cells f T (0,0))/\f.toList=replicate 24 (.int .u8 0)/\
 ∀c m',c.size=f.size->c.toList.take (Lib.nDigits u)=Lib.byteCells (Lib.decDigits u)->iP m m' b (.cells c T (0,0))->K (.tup []) m' h
def bUJ:Vc.Spec:=λc m h K=>∃xs,∃u:Nat,c=[.lst 5 1 xs,cU u,cI 10]/\u<18446744073709551616/\fU m/\xs.length+30<=140737488355328/\K (.lst 5 1 (xs++bA (Lib.decDigits u))) m h
def lO(i:Int):di:=if i<0 then 45::Lib.decDigits (IntKind.u64.wrap (0-IntKind.u64.wrap i)).toNat else Lib.decDigits (IntKind.u64.wrap i).toNat
def PL:Vc.Spec:=λc m h K=>∃xs i,c=[.lst 5 1 xs,cI i,cI 10]/\fU m/\xs.length+40<=140737488355328/\K (.lst 5 1 (xs++bA (lO i))) m h
abbrev vN(a:cr)(b:List cn)(c:MH)(d:Nat->Nat->Option Value):Prop:=a (CV.lst 5 1 b) c d
noncomputable abbrev El(a:cn):cn:=aL (wG 0) (wG 0) (aL (wG 0) (wG 0) (aL (wG 0) (wG 0) (aL (wG 0) (wG 0) a)))
noncomputable abbrev Bn(a:Int):CV:=CV.val (Value.int IntKind.u64 a)
abbrev Ob(a:Nat):Prop:=a<18446744073709551616
noncomputable abbrev EK(a:Nat):Int:=(↑(Lib.nDigits a):Int)
attribute [push_cast] vN El Bn Ob EK
def Lf(xs:List cn)(u:Nat)(m:MH)(h:PH)(K:cr):Prop:=
  aX (↑u:Int) 100 (∃(i:Nat),aA (H0 (eV (fI (↑u:Int)))=H0 (eV (↑i:Int))) (i<100) (aA (nU xs (fR (ByteArray.mk (Array.mk (Lib.decDigits i)))) 1) (nP xs (fR (ByteArray.mk (Array.mk (Lib.decDigits i))))) (vN K (xs++fR (ByteArray.mk (Array.mk (Lib.decDigits i)))) m h))) (mH m h (λb e=>dQ m e b (El (El (El []))) 317) (λb e=>∃(d:Nat),aA (H0 (Bn (↑u:Int))=H0 (Bn (↑d:Int))) (1<=d) (aA (Ob d) (fU e) (aA (bV (EK d)) (EK d<=24) (bI (λg c=>∃(f:Nat),j9 (λj T=>aA (gZ (CV.val (Value.slice (Option.some (Addr.mk b 0 Option.none)) (EK d).toNat 24)) (Bn (↑u:Int))=gZ (CV.val (Value.slice (Option.some (Addr.mk g 0 Option.none)) (Lib.nDigits f) c)) (Bn (↑f:Int))) (Ob f) (aA (e g=
 Option.some (kI j T 0)) (j.toList=El (El (El []))) (∀(n:Array Value)(o:MH),n.size=j.size->List.take (Lib.nDigits f) n.toList=Lib.byteCells (Lib.decDigits f)->iP e o g (kI n T 0)->FM (bV (EK d)) (EK d<=24) (λy=>jI 1 y (oP o h (Sl.mk (Option.some (Addr.mk b 0 Option.none)) (EK d).toNat 24) 1 y) (nU xs y 1) (nP xs y) (vN K (xs++y) o h)))))))))))
noncomputable abbrev Od(a:Int):Int:=IntKind.wrap IntKind.u64 a
noncomputable abbrev jX(a:List cn)(b:di):List cn:=a++bA b
attribute [push_cast] Od jX
def QZ(xs:List cn)(i:Int)(m:MH)(h:PH)(K:cr):Prop:=
  aX i 0 (FM (iM (qR xs 1*1)) (A0 xs) (λx=>∃(u:Nat),aA (CV.lst 5 1 (fK xs (lD (wG 45)))::bC (Bn (Od (0-Od i))) 10=CV.lst 5 1 x::bC (Bn (↑u:Int)) 10) (Ob u) (aA (fU m) (iM (qR x 30)) (vN K (jX x (Lib.decDigits u)) m h)))) (∃(x:List cn)(u:Nat),aA (CV.lst 5 1 xs::bC (Bn (Od i)) 10=CV.lst 5 1 x::bC (Bn (↑u:Int)) 10) (Ob u) (aA (fU m) (iM (qR x 30)) (vN K (jX x (Lib.decDigits u)) m h)))
noncomputable abbrev JJ(a:List cn)(b:Int):dk:=CV.lst 5 1 a::bC (eV b) 10
attribute [push_cast] JJ
def avX(xs:List cn)(i:Int)(m:MH)(h:PH)(K:cr):Prop:=
  ∃(x:List cn)(c:Int),aA (JJ xs i=JJ x c) (fU m) (iM (qR x 40)/\vN K (jX x (lO c)) m h)
theorem fU.sub(h:fU m)(c:Sub m m'):fU m':=by
 obtain⟨T,d,e⟩:=h;exact⟨T,d,c 1 _ e⟩
theorem Ku{w:World}{c:dk}{vs:cn}(d:BK w m h c vs):AO ⟨w,yI m c vs,h,[]⟩ m h w:=
 ⟨rfl,rfl,rfl,Nat.le_refl _,Nat.le_refl _,λ_ _ _=>rfl,d.hsat,d.msat,d.disj,λ_ _ _ e=>e,λ_ _ _=>rfl,λb o f=>.inr (.inl bg)⟩
theorem Xg:cm 305 chX:=by
 refine⟨⟨Tryz.f305,func305,rfl,az⟩,?_⟩;rintro f d m h w K ⟨i,rfl,g,j⟩ c
 obtain⟨v,rfl⟩:∃v,d=[v]:=by
  have:=(rI c.args).1
  match d,this with
  |[v],_=>grind
 have n:v= .int .i64 i:=c.args.1;subst n;refine(Tryz.internal_strconv_small i g w).mono ?_;rintro e t ⟨rfl,rfl⟩;exact⟨_,_,m,h,rfl,j,rfl,Ku c,λb o=>by simp[V1,iL]at o⟩
theorem Xf:cm 306 acJ:=by
 refine⟨⟨Tryz.f306,func306,rfl,az⟩,?_⟩;rintro f d m h w K ⟨u,rfl,g,j,⟨T,y,n⟩,o⟩ c
 obtain⟨v,rfl⟩:∃v,d=[v]:=by
  have:=(rI c.args).1
  match d,this with
  |[v],_=>grind
 have t:v= .int .u64 u:=c.args.1;subst t;have z:=c.msat 1 _ n;refine(Tryz.internal_strconv_numDigits u g j w ?_).mono ?_
 .unfold Lib.TabIs World.var?;rw[show Tryz.prog.globalNamed _=some 1 by kernel_rfl]
  grind
 .rintro e A ⟨rfl,rfl⟩;exact⟨_,_,m,h,rfl,o,rfl,Ku c,λb x=>by simp[cI,iL]at x⟩
theorem Xe:cm 307 cgQ:=by
 refine⟨⟨Tryz.f307,func307,rfl,az⟩,?_⟩;rintro W P m h w K ⟨b,g,u,B,T,rfl,Q,A,C,X⟩ t
 obtain⟨v,H,rfl⟩:∃v H,P=[v,H]:=by
  have:=(rI t.args).1
  match P,this with
  |[v,H],_=>grind
 have Y:v= .slice (some ⟨b,0,none⟩) (Lib.nDigits u) g:=t.args.1;have J:H= .int .u64 u:=t.args.2.1;subst Y J;have R:=t.msat b _ A;have Z:=Lib.nDigits_le20 u Q;have a':B.size=24:=by rw[<-Array.length_toList,C];simp
 have hH:Sort.Holds (fun(b:UInt8)=>Value.int .u8 (b.toNat:Int)) w b 0 (Array.replicate (Lib.nDigits u) (0:UInt8)):=by
  intro j I;simp only[Array.size_replicate]at I;refine⟨?_,?_⟩
  .rw[cell_of_heap R,C,getElem?_replicate,if_pos aD];rw[getElem!_pos _ j bg];simp
  .unfold World.frozen?
   grind
 have S:=Tryz.internal_strconv_formatBase10 b 0 g u (Array.replicate (Lib.nDigits u) (0:UInt8)) w hH (bk (Lib.lt_pow_nDigits u)) Q bf;rw[Array.size_replicate]at S;refine S.mono ?_;rintro e w' ⟨rfl,n,v',z,rfl,U⟩;have a0:z.size=Lib.nDigits u:=U.size;obtain⟨m',y⟩:∃m',iP m m' b (.cells (Sort.putCells (fun(b:UInt8)=>Value.int .u8 (b.toNat:Int)) 0 z B) T (0,0)):=⟨λc=>if c=b then some (.cells (Sort.putCells (fun(b:UInt8)=>Value.int .u8 (b.toNat:Int)) 0 z B) T (0,0))else m c,ay,λc d=>by simp[d]⟩
 have D:(Sort.putRow (fun(b:UInt8)=>Value.int .u8 (b.toNat:Int)) w b 0 z).heap[b]? =some (.cells (Sort.putCells (fun(b:UInt8)=>Value.int .u8 (b.toNat:Int)) 0 z B) T (0,0)):=by
  unfold Sort.putRow Sort.mapBlock;simp only[Array.getElem?_modify,if_true,R];rfl
 have f:∀c,c≠b->(Sort.putRow (fun(b:UInt8)=>Value.int .u8 (b.toNat:Int)) w b 0 z).heap[c]? =w.heap[c]? :=λc d=>by
  unfold Sort.putRow Sort.mapBlock
  grind
 refine⟨.tup [],.tuple #[],m',h,rfl,X _ m' ?_ ?_ y,⟨#[],rfl,rfl⟩,?_,λb A=>by simp[iL]at A⟩
 .simp[Sort.putCells]
 .apply ext_getElem?;intro j;rw[getElem?_take];have hl:(Lib.byteCells (Lib.decDigits u)).length=Lib.nDigits u:=by rw[Lib.byteCells_length,Lib.decDigits_length]
  by_cases I:j<Lib.nDigits u
  .rw[if_pos I,cg];have E:j<(Lib.decDigits u).length:=by rw[Lib.decDigits_length];exact I
   have F:j<B.size:=by omega
   simp only[Sort.putCells,Array.getElem?_mapIdx,Array.getElem?_eq_getElem F,Option.map_some,Nat.zero_le,Nat.zero_add,Nat.sub_zero,true_and];rw[if_pos aD,Lib.byteCells,getElem?_map,bo E,Lib.row_is_numeral U j E];rfl
  grind
 .have G:∀c o,m' c=some o->c=b\/m c=some o:=λc o d=>by
   by_cases e:c=b
   .exact .inl e
   .rw[y.other c e]at d;grind
  have V:yI m [.val (.slice (some ⟨b,0,none⟩) (Lib.nDigits u) g),cU u] [.slice (some ⟨b,0,none⟩) (Lib.nDigits u) g,.int .u64 u] b:=.inl (by rw[A];simp);refine⟨rfl,rfl,rfl,Nat.le_add_right _ _,by simp[Sort.putRow,Sort.mapBlock],?_,?_,?_,?_,λ_ _ _ e=>e,λ_ _ _=>rfl,?_⟩
  .intro c _ hn;exact f c (λe=>hn (e▸V))
  .intro c o x L;have M:c≠b:=λe=>by rw[e,t.disj b _ A o]at L;cases L
   show(Sort.putRow (fun(b:UInt8)=>Value.int .u8 (b.toNat:Int)) w b 0 z).cell? ⟨c,o,none⟩=some x;rw[World.cell?_of_block (w:=w) (a:=⟨c,o,none⟩) (f c M)];exact t.hsat c o x L
  .intro c o d;by_cases e:c=b
   .subst e;rw[y.at_]at d;cases d;exact D
   .rw[y.other c e]at d;rw[show((Sort.putRow (fun(b:UInt8)=>Value.int .u8 (b.toNat:Int)) w b 0 z).drewN n).heap[c]? =_ from f c e];exact t.msat c o d
  .intro c o d j;rcases G c o d with rfl|O
   .exact t.disj c _ A j
   .exact t.disj c _ O j
  .intro c o d;rcases G c o d with rfl|O
   .exact .inr V
   .exact .inr (.inl (by rw[O];simp))
theorem F9(l:di):fR ⟨l.toArray⟩=bA l:=by simp[fR,bA]
theorem LN(l:di):(bA l).flatten=Lib.byteCells l:=by
 unfold bA Lib.byteCells
 induction l with
 |nil=>rfl
 |cons b r c=>simp[c]
theorem aW(l:di):(bA l).length=l.length:=by simp[bA]
theorem Xk:cm 299 bUJ:=by
 refine Fm func299 ?_;rintro x m h K ⟨xs,u,rfl,j,y,D,o⟩;refine⟨tR [(305,chX),(306,acJ),(307,cgQ)] [] [] [] [317] [] true,rfl,aE Xg (aE Xf (aE Xe aG)),Lf xs u m h (kX h K),ax,?_⟩;show Lf xs u m h (kX h K);dsimp only[Lf,push_cast];have z:=Lib.nDigits_le20 u j;have d:=Lib.decDigits_length u;refine aF (λA=>⟨u,?_,aD,?_,?_,?_⟩) (λA b B t e=>?_)
 .rw[dY aD aD]
 .rw[F9,aW];omega
 .rw[F9,aW];omega
 .rw[F9];exact .here o
 .have f:Sub m B:=(Sub.refl m).upd t.m_ e.other;refine⟨u,rfl,aD,j,y.sub f,aD,aD,b,24,u,_,_,bg,j,e.at_,rfl,λn E C c g=>⟨aD,aD,bA (Lib.decDigits u),IG _,?_,?_,?_,?_⟩⟩
  .refine .lent b 0 n 317 (0,0) rfl ?_ g.at_ ?_
   .rw[Int.toNat_natCast,aW,d]
   .rw[LN,Lib.byteCells_length,d,drop_zero];exact c
  .rw[aW];omega
  .rw[aW];omega
  .exact .sub (f.upd t.m_ g.other) o
theorem aFJ(i:Int):0<=IntKind.u64.wrap i/\IntKind.u64.wrap i<18446744073709551616:=by
 simp only[IntKind.wrap,IntKind.bits,IntKind.signed];simp;omega
theorem zB(i:Int):(lO i).length<=21:=by
 have key:∀n:Int,(Lib.decDigits (IntKind.u64.wrap n).toNat).length<=20:=λn=>by
  rw[Lib.decDigits_length];exact Lib.nDigits_le20 _ (by have:=aFJ n;omega)
 unfold lO
 grind
theorem Xm:cm 288 PL:=by
 refine iH func288 ?_;rintro e m h K ⟨xs,i,rfl,c,g,d⟩;refine⟨tR [(299,bUJ)] [] [] [] [] [(299,[0])] true,rfl,aE Xk aG,QZ xs i m h K,ax,?_⟩;dsimp only[QZ,push_cast];have j:=aFJ i;have n:=aFJ (0-IntKind.u64.wrap i);refine aF (λf=>⟨aD,aD,xs++[[.int .u8 45]],(IntKind.u64.wrap (0-IntKind.u64.wrap i)).toNat,?_,aD,c,bf,?_⟩) (λf=>⟨xs,(IntKind.u64.wrap i).toNat,?_,aD,c,aD,?_⟩)
 .grind
 .have:lO i=45::Lib.decDigits (IntKind.u64.wrap (0-IntKind.u64.wrap i)).toNat:=by unfold lO;grind
  rw[this]at d;rw[append_assoc];exact d
 .grind
 .have:lO i=Lib.decDigits (IntKind.u64.wrap i).toNat:=by unfold lO;grind
  grind
theorem EX:cm 256 PL:=by
 refine iH func256 ?_;rintro c m h K ⟨xs,i,rfl,d,e,f⟩;refine⟨tR [(288,PL)] [] [] [] [] [(288,[0])] true,rfl,aE Xm aG,avX xs i m h K,ax,?_⟩;exact⟨xs,i,rfl,d,e,f⟩
def Ci(a b:Int):Int:=if a<b then-1 else if b<a then 1 else 0
def P4(a b:ByteArray):Int:=Lib.compareBytes a.data.toList b.data.toList
def nD(a b:VV):Int:=if Ci a.kind b.kind≠0 then Ci a.kind b.kind else if Ci a.int b.int≠0 then Ci a.int b.int else P4 a.text b.text
def fQ:cw->cw->Int
 |[],[]=>0
 |[],_::_=> -1
 |_::_,[]=>1
 |x::xs,y::ys=>if nD x y≠0 then nD x y else fQ xs ys
def bLZ:Vc.Spec:=λc m h K=>∃n,c=[cI n]/\K (cB false) m h
def afZ:Vc.Spec:=λc m h K=>∃a b,c=[cI a,cI b]/\K (cI (Ci a b)) m h
def bTJ:Vc.Spec:=λc m h K=>∃a b,c=[V1 a,V1 b]/\K (cI (P4 a b)) m h
def Sv:Vc.Spec:=λc m h K=>∃a b,c=[aV a,aV b]/\K (cI (nD a b)) m h
def MG:Vc.Spec:=λc m h K=>∃s t a b,c=[cS s,cS t]/\cF h s a/\cF h t b/\K (cI (fQ a b)) m h
def bUX:Vc.Spec:=λc m h K=>∃s t a b,c=[cS s,cS t,.val (.func (.func 108) #[] #[])]/\cF h s a/\cF h t b/\K (cI (fQ a b)) m h
def Rows(h:PH)(s:Sl)(l:ct):Prop:=bZ h 1 eS (λr t=>cF h t r) s l
def bQQ:Vc.Spec:=λc m h K=>∃s t a b,c=[cS s,cS t]/\Rows h s a/\Rows h t b/\∀r:Bool,(r=true↔a=b)->K (cB r) m h
noncomputable def a1Q(s t:Sl)(m:MH)(h:PH):Ctx:=
 dD [(108,Sv)] [(2,{A:=Nat,st:=λi=>bQ 39 42 [(0,sv s),(1,sv t),(2,vv (.func (.func 108) #[] #[])),(11,sv s),(12,iv s.len),(13,iv i)] [] m h})] [] [] false
noncomputable def bzJ(s t:Sl)(m:MH)(h:PH):Ctx:=
 dD [(109,Sv)] [(2,{A:=Nat,st:=λi=>bQ 43 45 [(0,sv s),(1,sv t),(5,iv i)] [] m h})] [] [] false
noncomputable def bGJ(s t:Sl)(m:MH)(h:PH):Ctx:=
 dD [(65,MG)] [(4,{A:=Nat,st:=λi=>bQ 27 29 [(0,sv s),(1,sv t),(12,iv s.len),(13,iv i)] [] m h})] [] [] false
def axX(n:Int)(m:MH)(h:PH)(K:cr):Prop:=
  K (AQ (n !=n)) m h
def axQ(n:Int)(m:MH)(h:PH)(K:cr):Prop:=
  K (AQ (n !=n)) m h
def Lq(a b:Int)(m:MH)(h:PH)(K:cr):Prop:=
  ∃(n:Int),kU a n/\∃(c:Int),kU b c/\aX a b (K (eV (Int.negSucc 0)) m h) (eZ a b (K (eV 1) m h) (K (eV 0) m h))
def ayQ(a b:Int)(m:MH)(h:PH)(K:cr):Prop:=
  ∃(n:Int),kU a n/\∃(c:Int),kU b c/\aX a b (K (eV (Int.negSucc 0)) m h) (eZ a b (K (eV 1) m h) (K (eV 0) m h))
def R0(a b:VV)(m:MH)(h:PH)(K:cr):Prop:=
  ∃(r:Bool),fH (xY 27 a.enc b.enc r) r (K (eV 0) m h) (FN (λc d=>fH (bC (eV a.kind) b.kind=bC (eV c) d) (Ci c d !=0) (K (eV (Ci c d)) m h) (FN (λe f=>fH (bC (eV a.int) b.int=bC (eV e) f) (Ci e f !=0) (K (eV (Ci e f)) m h) (∃(g j:ByteArray),gZ (kE a.text) (kE b.text)=gZ (kE g) (kE j)/\K (eV (P4 g j)) m h)))))
def RZ(a b:VV)(m:MH)(h:PH)(K:cr):Prop:=
  aX a.kind b.kind (K (eV (Int.negSucc 0)) m h) (eZ a.kind b.kind (K (eV 1) m h) (aX a.int b.int (K (eV (Int.negSucc 0)) m h) (cX (decide (a.int>b.int)) (K (eV 1) m h) (Op.bytesLess (CQ a) (CQ b)) (K (eV (Int.negSucc 0)) m h) (tD (Bool.or (Op.bytesLess (CQ a) (CQ b)) (CQ a==CQ b)) (K (eV 1) m h) (K (eV 0) m h)))))
def Ro(s t:Sl)(m:MH)(h:PH)(K:cr):Prop:=
  nO (λI x=>aA (I x) (aI s) (aA (aI t) (z8 108) (aA (aI s) (bJ s) (aA (bB x) (m=m) (bL h h))))) (λI e x=>I x->aX (↑x:Int) (aH s) (bI (λb o=>aA (bK s.a b o) (0<=(↑x:Int)) ((↑x:Int)<aH s/\∃(y:VV),aU m h b (bN o x 3) y.enc/\gA (↑x:Int) (aH t) (K (eV 1) m h) (bI (λf g=>aA (bK t.a f g) (0<=(↑x:Int)) ((↑x:Int)<aH t/\∃(j:VV),aU m h f (bN g x 3) j.enc/\∃(a c:VV),fH (fW y.enc j.enc=fW a.enc c.enc) (nD a c !=0) (K (eV (nD a c)) m h) (∃(d:Nat),aA (I d) (e d<e x) (aA (aI s) (aI t) (aA (z8 108) (aI s) (aA (bJ s) (bD (gG (bF x 1)) d) (bP (m=m) h h))))))))))) (aX (aH s) (aH t) (K (eV (Int.negSucc 0)) m h) (K (eV 0) m h)))
def aAQ(s t:Sl)(m:MH)(h:PH)(K:cr):Prop:=
  ∃(c:Sl),qO (λd a=>∃(b:cw),aA (Bq s t 108=Bq c d 108) (cF h c a) (cF h d b/\K (eV (fQ a b)) m h))
def Vg(s t:Sl)(m:MH)(h:PH)(K:cr):Prop:=
  nO (λI x=>aA (I x) (aI s) (aA (aI t) (bB x) (bP (m=m) h h))) (λI e x=>I x->aX (↑x:Int) (aH s) (aX (↑x:Int) (aH t) (bI (λb o=>aA (bK s.a b o) (0<=(↑x:Int)) ((↑x:Int)<aH s/\∃(y:VV),aU m h b (bN o x 3) y.enc/\bI (λf g=>aA (bK t.a f g) (0<=(↑x:Int)) ((↑x:Int)<aH t/\∃(j:VV),aU m h f (bN g x 3) j.enc/\∃(a c:VV),fH (fW y.enc j.enc=fW a.enc c.enc) (nD a c !=0) (K (eV (nD a c)) m h) (∃(d:Nat),aA (I d) (e d<e x) (aA (aI s) (aI t) (bO (bD (gG (bF x 1)) d) (m=m) (h=h))))))))) (aX (aH s) (aH t) (K (eV (Int.negSucc 0)) m h) (eZ (aH s) (aH t) (K (eV 1) m h) (K (eV 0) m h)))) (aX (aH s) (aH t) (K (eV (Int.negSucc 0)) m h) (eZ (aH s) (aH t) (K (eV 1) m h) (K (eV
 0) m h))))
def Vv(s t:Sl)(m:MH)(h:PH)(K:cr):Prop:=
  dC (aH s) (aH t) (K aZ m h) (nO (λI x=>aA (I x) (aI s) (aA (aI t) (bJ s) (bO (bB x) (m=m) (h=h)))) (λI d x=>I x->aX (↑x:Int) (aH s) (eA s.a (↑x:Int) s (λb o y=>aU m h b (bN o x 1) (aY y)/\eA t.a (↑x:Int) t (λn u e=>aU m h n (bN u x 1) (aY e)/\∃(f:Sl),qO (λg a=>∃(j:cw),aA (cV y e=cV f g) (cF h f a) (cF h g j/\dC (fQ a j) 0 (K aZ m h) (∃(c:Nat),aA (I c) (d c<d x) (aA (aI s) (aI t) (aA (bJ s) (bD (gG (bF x 1)) c) (aA (m=m) (h=h) True))))))))) (gO K m h)))
theorem Hj{a b:Int}:Ci a b=0↔a=b:=by
 unfold Ci;omega
theorem Hk:∀a b:di,Lib.compareBytes a b=0↔a=b
 |[],[]=>by simp[Lib.compareBytes]
 |[],_::_=>by simp[Lib.compareBytes]
 |_::_,[]=>by simp[Lib.compareBytes]
 |a::l,b::bs=>by
  simp only[Lib.compareBytes,List.cons.injEq];split
  .grind
  .split
   .grind
   .rename_i c d;rw[Hk l bs]
    grind
theorem aCQ{a b:ByteArray}:P4 a b=0↔a=b:=by
 unfold P4;rw[Hk];constructor
 .intro h;cases a;cases b;simp only[ByteArray.mk.injEq];exact Array.toList_inj.1 h
 grind
theorem LJ{a b:VV}:nD a b=0↔a=b:=by
 obtain⟨k,i,t⟩:=a;obtain⟨d,f,g⟩:=b;simp only[nD,VV.mk.injEq];split
 .rename_i h;exact⟨λe=>absurd e h,λe=>absurd (Hj.2 e.1) h⟩
 .rename_i h;have h:=Classical.not_not.1 h;split
  .rename_i c;exact⟨λe=>absurd e c,λe=>absurd (Hj.2 e.2.1) c⟩
  .rename_i c;have c:=Classical.not_not.1 c;rw[aCQ];simp[Hj.1 h,Hj.1 c]
theorem mR:∀{a b:cw},fQ a b=0↔a=b
 |[],[]=>by simp[fQ]
 |[],_::_=>by simp[fQ]
 |_::_,[]=>by simp[fQ]
 |x::xs,y::ys=>by
  simp only[fQ,List.cons.injEq];split
  .rename_i h;exact⟨λe=>absurd e h,λe=>absurd (LJ.2 e.1) h⟩
  .rename_i h;rw[mR (a:=xs),LJ.1 (Classical.not_not.1 h)];simp
theorem Oo:∀a b:di,(Op.bytesLess a b=true↔Lib.compareBytes a b= -1)/\(Lib.compareBytes a b= -1\/Lib.compareBytes a b=0\/Lib.compareBytes a b=1)
 |[],[]=>by simp[Lib.compareBytes,Op.bytesLess]
 |[],_::_=>by simp[Lib.compareBytes,Op.bytesLess]
 |_::_,[]=>by simp[Lib.compareBytes,Op.bytesLess]
 |a::l,b::bs=>by
  obtain⟨c,d⟩:=Oo l bs;simp only[Lib.compareBytes,Op.bytesLess]
  grind
theorem ZZ{a b:Int}(c:K (cI (Ci a b)) m h):Lq a b m h K:=by
 dsimp only[Lq,push_cast];refine⟨a,rfl,b,rfl,aF (λd=>?_) (λd=>aF (λe=>?_) (λe=>?_))⟩
 .rw[Ci,if_pos d]at c;exact c
 .rw[Ci,if_neg d,if_pos e]at c;exact c
 .rw[Ci,if_neg d,if_neg e]at c;exact c
theorem XA:cm 243 bLZ:=by
 refine iH func243 ?_;rintro c m h K ⟨n,rfl,d⟩;refine⟨dD [] [] [] [] false,rfl,aG,axX n m h K,ax,?_⟩;exact(by show K (cB (n !=n)) m h;grind)
theorem Xz:cm 244 bLZ:=by
 refine iH func244 ?_;rintro c m h K ⟨n,rfl,d⟩;refine⟨dD [] [] [] [] false,rfl,aG,axQ n m h K,ax,?_⟩;exact(by show K (cB (n !=n)) m h;grind)
theorem X6:cm 182 afZ:=by
 refine iH func182 ?_;rintro c m h K ⟨a,b,rfl,d⟩;refine⟨dD [(243,bLZ)] [] [] [] false,rfl,aE XA aG,Lq a b m h K,ax,?_⟩;exact ZZ d
theorem X5:cm 183 afZ:=by
 refine iH func183 ?_;rintro c m h K ⟨a,b,rfl,d⟩;refine⟨dD [(244,bLZ)] [] [] [] false,rfl,aE Xz aG,ayQ a b m h K,ax,?_⟩;exact ZZ d
theorem X4:cm 184 bTJ:=by
 refine⟨⟨Tryz.f184,func184,rfl,az⟩,?_⟩;rintro j g m h w K ⟨a,b,rfl,n⟩ c
 obtain⟨v,d,rfl⟩:∃v d,g=[v,d]:=by
  have:=(rI c.args).1
  match g,this with
  |[v,d],_=>grind
 have o:v= .string a:=c.args.1;have f:d= .string b:=c.args.2.1;subst o f;refine(Tryz.strings_Compare a b w).mono ?_;rintro e u ⟨rfl,rfl⟩;exact⟨_,_,m,h,rfl,n,rfl,Ku c,λb t=>by simp[cI,iL]at t⟩
theorem Ia:cm 108 Sv:=by
 refine iH func108 ?_;rintro e m h K ⟨a,b,rfl,c⟩;refine⟨dD [(182,afZ),(183,afZ),(184,bTJ)] [] [] [] false,rfl,aE X6 (aE X5 (aE X4 aG)),R0 a b m h K,ax,?_⟩;dsimp only[R0,push_cast];refine⟨_,Tr a b,aC (λd=>?_) (λd=>⟨_,_,rfl,aC (λf=>?_) (λf=>⟨_,_,rfl,aC (λg=>?_) (λg=>⟨_,_,rfl,?_⟩)⟩)⟩)⟩
 .rw[LJ.2 (Ts.1 d)]at c;exact c
 .rw[nD,if_pos bg]at c;exact c
 .rw[nD,if_neg bg,if_pos bg]at c;exact c
 .rw[nD,if_neg bg,if_neg bg]at c;exact c
theorem YR:cm 109 Sv:=by
 refine iH func109 ?_;rintro y m h K ⟨a,b,rfl,c⟩;refine⟨dD [] [] [] [] false,rfl,aG,RZ a b m h K,ax,?_⟩;dsimp only[RZ,push_cast];unfold nD Ci P4 at c;obtain⟨o,t⟩:=Oo a.text.data.toList b.text.data.toList;refine aF (λd=>?_) (λd=>aF (λf=>?_) (λf=>aF (λg=>?_) (λg=>aF (λu=>?_) (λu=>aC (λj=>?_) (λj=>aC (λn=>?_) (λn=>?_))))))
 .rw[if_pos d]at c;exact c
 .rw[if_neg d,if_pos f]at c;exact c
 .rw[if_neg d,if_neg f,if_pos g]at c;exact c
 .rw[if_neg d,if_neg f,if_neg g,if_pos u]at c;exact c
 all_goals rw[if_neg d,if_neg f,if_neg g,if_neg u]at c
 all_goals rw[ByteArray.toList_eq,ByteArray.toList_eq]at j
 .rw[if_neg ay,if_neg ay,o.1 j]at c;exact c
 .have x:Lib.compareBytes a.text.data.toList b.text.data.toList=1:=by
   rcases t with e|e|e
   .grind
   .rw[Hk]at e;rw[ByteArray.toList_eq,ByteArray.toList_eq,e]at n;simp at n
   .exact e
  rw[if_neg ay,if_neg ay,x]at c;exact c
 .have x:Lib.compareBytes a.text.data.toList b.text.data.toList=0:=by
   rw[ByteArray.toList_eq,ByteArray.toList_eq,j]at n;rw[Hk];grind
  rw[if_neg ay,if_neg ay,x]at c;exact c
theorem Sb{a b:cw}{x y:VV}(c:a[i]? =some x)(d:b[i]? =some y):fQ (a.drop i) (b.drop i)=if nD x y≠0 then nD x y else fQ (a.drop (i+1)) (b.drop (i+1)):=by
 rw[drop_cons c,drop_cons d,fQ]
theorem X8:cm 177 bUX:=by
 refine iH func177 ?_;rintro D m h K ⟨s,t,a,b,rfl,o,C,d⟩;refine⟨a1Q s t m h,rfl,aE Ia aG,Ro s t m h K,ax,?_⟩;dsimp only[Ro,push_cast];have z:=bZ.slen o;have f:=bZ.slen C;have E:=o.len;refine⟨λi=>i<=a.length/\i<=b.length/\fQ a b=fQ (a.drop i) (b.drop i),λi=>a.length-i,⟨0,⟨aD,aD,ay⟩,MT⟩,λi⟨S,T,e⟩=>aF (λg=>?_) (λA=>?_)⟩
 .obtain⟨x,B⟩:=eU z g;obtain⟨F,G,u,H,I,rfl⟩:=bZ.at o B;refine⟨F,G,H,aD,g,x,.imm I,aF (λA=>?_) (λc=>?_)⟩
  .rw[e,drop_cons B,drop_eq_nil_of_le (show b.length<=i by omega),fQ]at d;exact d
  .have c:(i:Int)<(t.len:Int):=by omega
   obtain⟨y,j⟩:=eU f c;obtain⟨J,L,u,M,O,rfl⟩:=bZ.at C j;rw[Sb B j]at e;refine⟨J,L,M,aD,c,y,.imm O,x,y,rfl,aC (λP=>?_) (λQ=>⟨i+1,⟨aD,aD,?_⟩,(show a.length-(i+1)<a.length-i by omega),MT⟩)⟩
   .rw[e,if_pos bg]at d;exact d
   grind
 .have:a.drop i=[]:=drop_eq_nil_of_le aD;rw[this]at e;refine aF (λR=>?_) (λR=>?_)
  .obtain⟨y,j⟩:=eU (l:=b) (i:=i) (n:=t.len) f aD;rw[e,drop_cons j,fQ]at d;exact d
  .rw[e,drop_eq_nil_of_le aD,fQ]at d;exact d
theorem B8:cm 102 MG:=by
 refine iH func102 ?_;rintro c m h K ⟨s,t,a,b,rfl,d,e,f⟩;refine⟨dD [(177,bUX)] [] [] [] false,rfl,aE X8 aG,aAQ s t m h K,ax,?_⟩;exact⟨s,t,a,b,rfl,d,e,f⟩
theorem atQ:cm 65 MG:=by
 refine iH func65 ?_;rintro F m h K ⟨s,t,a,b,rfl,A,E,c⟩;refine⟨bzJ s t m h,rfl,aE YR aG,Vg s t m h K,ax,?_⟩;dsimp only[Vg,push_cast];have f:=bZ.slen A;have g:=bZ.slen E;have G:=A.len;refine⟨λi=>i<=a.length/\i<=b.length/\fQ a b=fQ (a.drop i) (b.drop i),λi=>a.length-i,⟨0,⟨aD,aD,ay⟩,MT⟩,λi⟨T,U,j⟩=>aF (λe=>aF (λd=>?_) (λB=>?_)) (λB=>?_)⟩
 .obtain⟨x,o⟩:=eU f e;obtain⟨y,z⟩:=eU g d;obtain⟨H,I,u,J,L,rfl⟩:=bZ.at A o;obtain⟨M,O,u,P,Q,rfl⟩:=bZ.at E z;rw[Sb o z]at j;refine⟨H,I,J,aD,e,x,.imm L,M,O,P,aD,d,y,.imm Q,x,y,rfl,aC (λR=>?_) (λS=>⟨i+1,⟨aD,aD,?_⟩,(show a.length-(i+1)<a.length-i by omega),MT⟩)⟩
  .rw[j,if_pos bg]at c;exact c
  grind
 .obtain⟨x,o⟩:=eU f e;rw[j,drop_cons o,drop_eq_nil_of_le (show b.length<=i by omega),fQ]at c;exact aF (λC=>aD) (λC=>aF (λD=>c) (λD=>aD))
 .rw[j,drop_eq_nil_of_le (show a.length<=i by omega)]at c;refine aF (λC=>?_) (λC=>aF (λD=>aD) (λD=>?_))
  .obtain⟨y,z⟩:=eU (l:=b) (i:=i) (n:=t.len) g aD;rw[drop_cons z,fQ]at c;exact c
  .rw[drop_eq_nil_of_le aD,fQ]at c;exact c
theorem axZ:cm 21 bQQ:=by
 refine iH func21 ?_;rintro G m h K ⟨s,t,a,b,rfl,o,C,D⟩;refine⟨bGJ s t m h,rfl,aE atQ aG,Vv s t m h K,ax,?_⟩;dsimp only[Vv,push_cast];have c:=bZ.slen o;have f:=bZ.slen C;have H:=o.len;have E:a≠b->K (cB false) m h:=λh=>D false ⟨λe=>(by cases e),λe=>(h e).elim⟩;refine aC (λz=>E (λe=>Oq c f z (by rw[e]))) (λz=>?_);have I:=KV c f z;refine⟨λi=>i<=a.length/\∀j:Nat,j<i->a[j]? =b[j]?,λi=>a.length-i,⟨0,⟨aD,λj W=>by omega⟩,MT⟩,λi F=>aF (λd=>?_) (λJ=>?_)⟩
 .obtain⟨x,A⟩:=eU c d;obtain⟨y,B⟩:∃y,b[i]? =some y:=eU (n:=s.len) aD d;obtain⟨L,M,u,O,P,Q⟩:=bZ.at o A;obtain⟨R,S,v,T,U,V⟩:=bZ.at C B;refine⟨L,M,O,aD,d,u,.imm P,R,S,T,aD,aD,v,.imm U,u,v,x,y,rfl,Q,V,aC (λg=>E (Qt A B (λe=>?_))) (λX=>?_)⟩
  .rw[mR.2 e]at g;cases g
  .exact⟨i+1,⟨aD,zG A B (mR.1 bg) F.2⟩,(show a.length-(i+1)<a.length-i by omega),MT⟩
 .exact D true ⟨λ_=>BP I aD F.2,λ_=>rfl⟩
structure Gd(h:PH)(P:cw->Prop) where
 s:Sl
 l:cw
 ok:cF h s l
 pr_:P l
def Gd.pr{h:PH}{P:cw->Prop}(x:Gd h P):Sl×cw:=(x.s,x.l)
def AH(h:PH){R:cw->Prop}(x:Gd h R):Value:=.slice x.s.a x.s.len x.s.cap
theorem LV{w w':World}(c:w'.tape=w.tape)(d:w'.os=w.os)(e:w'.output=w.output)(f:w.drawn<=w'.drawn)(g:w.heap.size<=w'.heap.size)(j:∀b,b<w.heap.size->w'.heap[b]? =w.heap[b]?):
 ∃q n,w'=Sort.grow (w.drewN q) n:=by
 refine⟨w'.drawn-w.drawn,w'.heap.extract w.heap.size w'.heap.size,?_⟩;obtain⟨z,A,B,C,D⟩:=w';obtain⟨o,t,u,x,y⟩:=w;dsimp only at c d e f g j;subst c d e;unfold Sort.grow World.drewN;dsimp only;congr 1
 .grind
 .omega
structure bUQ(P:Program)(R:cw->Prop)(g:Nat)(cb:cn)(m2:MH)(h:PH)(cf:cw->cw->Int):Prop where
 ex:∃S,Sound P g S/\∀x y:Gd h R,S ([cS x.s,cS y.s]++cb.map .val) m2 h (λr m' h'=>r=cI (cf x.l y.l)/\m'=m2/\h'=h)
theorem bdQ{P:Program}{R:cw->Prop}{g:Nat}{cb:cn}{m2:MH}{h:PH}[Inhabited (Gd h R)]{cf:cw->cw->Int}(I:bUQ P R g cb m2 h cf){w:World}{blk off size:Nat}
 (O:∀b o v,h b o=some v->w.cell? ⟨b,o,none⟩=some v/\b≠blk)(hm:∀b o,m2 b=some o->w.heap[b]? =some o/\b≠blk)(Q:∀b o,m2 b=some o->∀i,h b i=none):
 CmpLays1 P g cb.toArray (AH h (R:=R)) (λx y=>cf x.l y.l) blk off size w:=by
 obtain⟨S,J,T⟩:=I.ex;intro D L E U x y;obtain⟨W,hW⟩:∃W,Go.Proofs.sortWorld (AH h (R:=R)) w blk off D E L=W:=⟨_,rfl⟩
 rw[hW]
 have F:∀b,b<w.heap.size->b≠blk->W.heap[b]? =w.heap[b]? :=λb n G=>by
  rw[<-hW];show((Sort.putRow (AH h) (Sort.ahead w D) blk off E).heap++L)[b]? =_;have J:(Sort.putRow (AH h) (Sort.ahead w D) blk off E).heap.size=w.heap.size:=by unfold Sort.putRow Sort.mapBlock;simp[Sort.ahead]
  rw[Array.getElem?_append_left aD];unfold Sort.putRow Sort.mapBlock;simp only[Array.getElem?_modify,if_neg (Ne.symm G)];rfl
 have t:∀(l:cn)(w:World),Dp w (l.map .val) l:=λl w=>by
  induction l with
  |nil=>trivial
  |cons a l V=>exact⟨rfl,V⟩
 have A:∀(l:cn)(i:Nat)(c:CV)(u:Value)(b:Nat),(l.map CV.val)[i]? =some c->iL c u=some b->False:=λl i c u b f n=>by
  rw[getElem?_map]at f;cases e:l[i]? with
  |none=>grind
  |some v=>rw[e]at f;simp at f;subst f;simp[iL]at n
 have X:[cS x.s,cS y.s]++cb.map .val=([AH h x,AH h y]++cb).map .val:=by simp[cS,AH]
 have B:BK W m2 h ([cS x.s,cS y.s]++cb.map .val) ([AH h x,AH h y]++cb):=by
  rw[X];refine⟨t _ _,?_,?_,Q,λi j c d u v b f _ _ _ n _=>(A _ i c u b f n).elim,λi c u b f _ n=>(A _ i c u b f n).elim⟩
  .intro b o v Y;obtain⟨C,Z⟩:=O b o v Y;rw[World.cell?_of_block (w:=w) (w':=W) (a:=⟨b,o,none⟩) (F b (World.block_lt_of_cell? w ⟨b,o,none⟩ C) Z)];exact C
  grind
 have:=J.2 _ _ m2 h W _ (T x y) B;have e2:(([AH h x,AH h y]++cb).toArray:Array Value)= #[AH h x,AH h y]++cb.toArray:=ay
 rw[e2]at this;refine this.mono ?_;rintro e w' ⟨r,u,m',h',rfl,⟨rfl,rfl,rfl⟩,H,z,_⟩;have hu:u= .int .i64 (cf x.l y.l):=H;subst hu;refine⟨rfl,LV z.tape z.os z.output z.drawn z.size (λb n=>?_)⟩;cases M:m' b with
 |none=>
  refine z.frame b n ?_;rintro(C|⟨i,c,u,f,_,I⟩)
  .exact C M
  grind
 |some o=>rw[z.msat b o M];grind
theorem N0{α:Type}[Inhabited α]{d c:Array α}(h:Sort.PermIn 0 d.size d c):c.toList.Perm d.toList:=by
 obtain⟨e,_,f⟩:=h;have g:d.extract 0 d.size=d:=ay
 have j:c.extract 0 d.size=c:=bg
 grind
theorem Qv{h:PH}{R:cw->Prop}:∀(ps:dq),(∀p∈ps,cF h p.1 p.2)->(∀p∈ps,R p.2)->∃c:List (Gd h R),c.map Gd.pr=ps
 |[],_,_=>⟨[],rfl⟩
 |p::ps,f,g=>by
  obtain⟨c,d⟩:=Qv (R:=R) ps (λq e=>f q (mem_cons_of_mem _ e)) (λq e=>g q (mem_cons_of_mem _ e));exact⟨⟨p.1,p.2,f p (mem_cons_self ..),g p (mem_cons_self ..)⟩::c,by rw[map_cons,d];rfl⟩
theorem Qe{R:cw->Prop}{w:World}{m:MH}{h:PH}{s:Sl}{g:Nat}{cb:cn}{ps:dq}{cf:cw->cw->Int}{m2:MH}{t:Value}(a':t= .func (.func g) #[] cb.toArray)
 (D:BK w m h [cS s,.val t] [s.val,t])(hg:∃O,Tryz.prog.funcs[g]? =some O/\O.body.isSome=true/\(O.name== "runtime.NumGoroutine")=false)(hr:dE m s 94 1 (ps.map λp=>eS p.1))(hv:∀p∈ps,cF h p.1 p.2)(hR:∀p∈ps,R p.2)(b0:ps.length<=140737488355328)
 (hO:Sort.SWO (Go.Proofs.ltOf (fun(x y:Gd h R)=>cf x.l y.l)))(hc:bUQ Tryz.prog R g cb m2 h cf)(H:∀b o,m2 b=some o->m b=some o/\∀i,s.a≠some ⟨b,i,none⟩)
 {K:cr}(hK:∀(I:dq)(m':MH),I.Perm ps->I.Pairwise (λp q=>¬cf q.2 p.2<0)->dE m' s 94 1 (I.map λp=>eS p.1)->(∀b,(∀i,s.a≠some ⟨b,i,none⟩)->m' b=m b)->K (.tup []) m' h):
 Calls Tryz.prog 189 #[s.val,t] w λe w'=>∃r u m' h',e= .returned u/\K r m' h'/\Gi w' r u/\AO ⟨w,yI m [cS s,.val t] [s.val,t],h,[]⟩ m' h' w'/\(∀b,iL r u=some b->(w.heap.size<=b\/yI m [cS s,.val t] [s.val,t] b)/\m' b=none/\∀i,h' b i=none):=by
 subst a';by_cases F:ps=[]
 .subst F;have a0:s.len=0:=by have:=dE.slen hr;grind
  have:=AnyF.slices_SortFunc_none Tryz.sortN s.a s.cap (.func (.func g) #[] cb.toArray) w;rw[show s.val= .slice s.a 0 s.cap by rw[<-a0];rfl];refine Calls.mono (show Calls Tryz.prog 189 #[.slice s.a 0 s.cap,.func (.func g) #[] cb.toArray] w _ from this) ?_;rintro e w' ⟨rfl,rfl⟩;exact⟨.tup [],.tuple #[],m,h,rfl,hK [] m (.refl _) .nil hr (λ_ _=>rfl),⟨#[],rfl,rfl⟩,⟨rfl,rfl,rfl,Nat.le_refl _,Nat.le_refl _,λ_ _ _=>rfl,D.hsat,D.msat,D.disj,λ_ _ _ e=>e,λ_ _ _=>rfl,λb o hb=>.inr (.inl bg)⟩,λb hb=>by simp[iL]at hb⟩
 obtain⟨p0,P⟩:=exists_mem_of_ne_nil _ F
 haveI:Inhabited (Gd h R):=⟨⟨p0.1,p0.2,hv p0 P,hR p0 P⟩⟩
 rcases hr.ex with⟨rfl,hx⟩|⟨b,z,A,rfl,Q,h0,h1,h2,h3⟩
 .exact(F (bk hx)).elim
 .simp only[length_map]at h0 h3;have J:=D.msat b _ Q;have S:=(Array.getElem?_eq_some_iff.1 J).1;obtain⟨B,T⟩:∃B:List (Gd h R),B.map Gd.pr=ps:=Qv ps hv hR;have U:B.length=ps.length:=bg
  have V:∀j,(G:j<B.length)->A[j]? =some (AH h B[j]):=λj G=>by
   have:(A.toList.take (ps.length*1))[j]? =((ps.map λp=>eS p.1).flatten)[j]? :=by rw[h3]
   rw[getElem?_take,if_pos aD,cg]at this;rw[this, <-T]
   have hf:((B.map Gd.pr).map λp:Sl×cw=>eS p.1).flatten=B.map (AH h):=by
    clear T U G this
    induction B with
    |nil=>rfl
    |cons a l ih=>simp only[map_cons,flatten_cons,ih];rfl
   grind
  have a1:A.size=z:=by omega
  have hH:Sort.Holds (AH h) w b 0 B.toArray:=by
   intro j G;have G:j<B.length:=by omega
   refine⟨?_,?_⟩
   .rw[cell_of_heap J,cg,Nat.zero_add,V j G,getElem!_pos _ j aD];simp
   .unfold World.frozen?
    grind
  obtain⟨O,a2,b1,b3⟩:=hg
  have eg:∀args w,(callFunc g args).run Tryz.prog w= .ok (.enter g args) w:=λargs w=>by
   have a3:¬O.body=none:=bg
   have a4:¬O.name= "runtime.NumGoroutine" :=bg
   simp[callFunc,program,Sem.run,a2,a4,a3]
  have W:=bdQ (blk:=b) (off:=0) (size:=B.toArray.size) hc (w:=w) (λc o v C=>⟨D.hsat c o v C,λe=>by rw[e,D.disj b _ Q o]at C;cases C⟩) (λc o d=>⟨D.msat c o (H c o d).1,λe=>(H c o d).2 0 (by rw[e])⟩) (λc o d=>D.disj c o (H c o d).1);have L:=Any.slices_SortFunc Tryz.sortF (AH h) (λ_=>rfl) (λx y=>cf x.l y.l) hO g cb.toArray b 0 z B.toArray w eg W hH S bf;have e3:(Sl.val ⟨some ⟨b,0,none⟩,(ps.map λp=>eS p.1).length,z⟩)= .slice (some ⟨b,0,none⟩) B.toArray.size z:=by simp[Sl.val,U]
  rw[e3];refine Calls.mono L ?_;rintro e w' ⟨rfl,f,n,os,X,a5,rfl⟩;have a6:f.size=B.length:=by have:=X.1;omega
  have a7:=N0 X;obtain⟨m',E⟩:∃m',iP m m' b (.cells (Sort.putCells (AH h) 0 f A) 94 (0,0)):=⟨λc=>if c=b then some (.cells (Sort.putCells (AH h) 0 f A) 94 (0,0))else m c,ay,λc d=>by simp[d]⟩
  have b4:(Sort.putRow (AH h) (Sort.ahead w n) b 0 f).heap.size=w.heap.size:=by unfold Sort.putRow Sort.mapBlock;simp[Sort.ahead]
  have b2:(Go.Proofs.sortWorld (AH h) w b 0 n f os).heap[b]? =some (.cells (Sort.putCells (AH h) 0 f A) 94 (0,0)):=by
   show((Sort.putRow (AH h) (Sort.ahead w n) b 0 f).heap++os)[b]? =_;rw[Array.getElem?_append_left aD];unfold Sort.putRow Sort.mapBlock;simp only[Array.getElem?_modify,if_true];show Option.map _ w.heap[b]? =_;rw[J];rfl
  have Y:∀c,c<w.heap.size->c≠b->(Go.Proofs.sortWorld (AH h) w b 0 n f os).heap[c]? =w.heap[c]? :=λc d M=>by
   show((Sort.putRow (AH h) (Sort.ahead w n) b 0 f).heap++os)[c]? =_;rw[Array.getElem?_append_left aD];unfold Sort.putRow Sort.mapBlock;simp only[Array.getElem?_modify,if_neg (Ne.symm M)];rfl
  have hE:yI m [cS ⟨some ⟨b,0,none⟩,(ps.map λp=>eS p.1).length,z⟩,.val (.func (.func g) #[] cb.toArray)] [.slice (some ⟨b,0,none⟩) B.toArray.size z,.func (.func g) #[] cb.toArray] b:=.inl (by rw[Q];simp);refine⟨.tup [],.tuple #[],m',h,rfl,hK (f.toList.map Gd.pr) m' ?_ ?_ ?_ (λc d=>E.other c (λe=>d 0 (by rw[e]))),⟨#[],rfl,rfl⟩,⟨rfl,rfl,rfl,Nat.le_add_right _ _,?_,?_,?_,?_,?_,λ_ _ _ e=>e,λ_ _ _=>rfl,?_⟩,λb hb=>by simp[iL]at hb⟩
  .grind
  .rw[pairwise_map,pairwise_iff_getElem];intro i j hi G a8 Z;have hi:i<f.size:=by omega
   have G:j<f.size:=by omega
   have:=a5 i j (Nat.zero_le _) a8 bf;rw[getElem!_pos f i hi,getElem!_pos f j G]at this;unfold Go.Proofs.ltOf at this;simp only[decide_eq_false_iff_not]at this;simp only[Array.getElem_toList]at Z;exact this Z
  .refine⟨⟨λe he=>?_,λe he u hu=>?_⟩,.inr ⟨b,z,_,?_,E.at_,bf,h1,?_,?_⟩⟩
   .obtain⟨x,_,rfl⟩:=mem_map.1 he;rfl
   .obtain⟨x,_,rfl⟩:=mem_map.1 he;have:u= .slice x.1.a x.1.len x.1.cap:=by simpa[eS]using hu
    rw[this];rfl
   .grind
   .simp[Sort.putCells,a1]
   .apply ext_getElem?;intro j
    have hf:((f.toList.map Gd.pr).map λp:Sl×cw=>eS p.1).flatten=f.toList.map (AH h):=by
     generalize f.toList=l
     induction l with
     |nil=>rfl
     |cons a l ih=>simp only[map_cons,flatten_cons,ih];rfl
    rw[hf,getElem?_take];simp only[length_map,Array.length_toList,Nat.mul_one];by_cases G:j<f.size
    .rw[if_pos G,cg,getElem?_map,cg,Array.getElem?_eq_getElem G];have a9:j<A.size:=by omega
     simp only[Sort.putCells,Array.getElem?_mapIdx,Array.getElem?_eq_getElem a9,Option.map_some,Nat.zero_le,Nat.zero_add,Nat.sub_zero,true_and]
     grind
    grind
  .grind
  .grind
  .intro c o v C;have M:c≠b:=λe=>by rw[e,D.disj b _ Q o]at C;cases C
   have h5:=D.hsat c o v C;rw[World.cell?_of_block (w:=w) (a:=⟨c,o,none⟩) (Y c (World.block_lt_of_cell? w ⟨c,o,none⟩ h5) M)];exact h5
  .intro c o d;by_cases e:c=b
   .subst e;rw[E.at_]at d;grind
   .rw[E.other c e]at d;have h5:=D.msat c o d
    grind
  .intro c o d i;by_cases e:c=b
   .subst e;exact D.disj c _ Q i
   .rw[E.other c e]at d;exact D.disj c o d i
  .intro c o d;by_cases e:c=b
   .grind
   .rw[E.other c e]at d;exact .inr (.inl bg)
end Go.Ps
namespace Go.Vc
open Go List
theorem dE.rd{m:MH}{h:PH}{s:Sl}{E sz:Nat}{xs:List cn}(r:dE m s E sz xs){i:Nat}{e:cn}(c:xs[i]? =some e):∃b,s.a=some ⟨b,0,none⟩/\aU m h b (i*sz) e:=by
 rcases r.ex with⟨_,rfl⟩|⟨b,o,d,rfl,t,A,B,C,u⟩
 .simp at c
 .refine⟨b,rfl,.lent d E (0,0) t ?_⟩;have y:=(bm c);have f:=r.rows.len e (br c)
  have g:∀(l:List cn)(k:Nat),(∀x∈l,x.length=sz)->l[k]? =some e->(l.flatten.drop (k*sz)).take sz=e:=by
   intro l
   induction l with
   |nil=>grind
   |cons a l D=>
    intro k z F;have j:=z a (mem_cons_self ..);cases k with
    |zero=>
     grind
    |succ k=>
     rw[flatten_cons,Nat.succ_mul,Nat.add_comm, <-drop_drop, <-j,drop_left,j]
     grind
  have n:=g xs i r.rows.len c;rw[f];rw[<-u]at n;rw[drop_take,take_take]at n
  grind
theorem oP.sub{m m':MH}{h:PH}{s:Sl}{sz:Nat}{c:List cn}(r:oP m h s sz c)(d:∀b o,m b=some o->m' b=some o):oP m' h s sz c:=by
 rcases r with r|⟨b,o,e,E,f,g,j,n,t⟩
 .exact .imm r
 .exact .lent b o e E f g j (d _ _ n) t
end Go.Vc
namespace Go.Ps
open Go Go.Vc Go.Proofs List Tryz
variable{K:cr}{m:MH}{h:PH}{s:jB}{ps:cq}{cb:Nat}{sc:bW}{v:QV}{p:Pred}{l:cq}{i:Nat}{N:Nat}{m':MH}{h':PH}{co:cq}{gr:cq}{od:cv}{ta:Int}{li:Int}{xs:List cn}{sz:Nat}{ks:List cq}{rs:cq}{r:Sl}{a:cq}{b:Nat}
structure Sw{α:Type}(c:α->α->Int):Prop where
 anti:∀x y,c x y= -c y x
 trans:∀x y z,c x y<=0->c y z<=0->c x z<=0
theorem Sw.zero{α:Type}{c:α->α->Int}(h:Sw c){x y z:α}(d:c x y<=0)(e:c y z<=0)(f:c x z=0):c x y=0/\c y z=0:=by
 have g:=h.anti x z;have j:=h.anti x y;have n:=h.anti y z;have o:=h.trans z x y aD d;have t:=h.trans y z x e aD;omega
theorem S8{c d:Int}(h:(if c≠0 then c else d)<=0):c<=0:=by
 omega
theorem Sw.lex{α:Type}{c d:α->α->Int}(h:Sw c)(k:Sw d):Sw (λx y=>if c x y≠0 then c x y else d x y):=by
 refine⟨λx y=>?_,λx y z f g=>?_⟩
 .have a:=h.anti x y;have b:=k.anti x y;omega
 .have j:c x y<=0:=S8 f;have n:c y z<=0:=S8 g;have o:=h.trans x y z j n;show(if c x z≠0 then c x z else d x z)<=0;by_cases e:c x z=0
  .obtain⟨t,u⟩:=h.zero j n e;have f:(if c x y≠0 then c x y else d x y)<=0:=f;have g:(if c y z≠0 then c y z else d y z)<=0:=g;rw[if_neg aD]at f;rw[if_neg aD]at g;rw[if_neg (bk e)];exact k.trans x y z f g
  omega
theorem Sw.of{α β:Type}{c:α->α->Int}(h:Sw c)(f:β->α):Sw (λx y=>c (f x) (f y)):=⟨λx y=>h.anti _ _,λx y z=>h.trans _ _ _⟩
theorem VX:Sw Ci:=by
 refine⟨λx y=>?_,λx y z=>?_⟩
 .unfold Ci;omega
 .unfold Ci;omega
theorem Sc:∀a b:di,Lib.compareBytes a b= -Lib.compareBytes b a
 |[],[]=>rfl
 |[],_::_=>rfl
 |_::_,[]=>rfl
 |a::l,b::k=>by
  simp only[Lib.compareBytes];by_cases c:a<b
  .grind
  .by_cases d:b<a
   .simp[c,d]
   .simp only[c,d,if_false];exact Sc l k
theorem Pe:∀a b c:di,Lib.compareBytes a b<=0->Lib.compareBytes b c<=0->Lib.compareBytes a c<=0
 |[],_,[],_,_=>by simp[Lib.compareBytes]
 |[],_,_::_,_,_=>by simp[Lib.compareBytes]
 |_::_,[],_,f,_=>by simp[Lib.compareBytes]at f
 |_::_,_::_,[],_,d=>by simp[Lib.compareBytes]at d
 |a::l,b::k,c::q,f,d=>by
  simp only[Lib.compareBytes]at f d⊢
  by_cases g:a<c
  .simp[g]
  .by_cases j:a<b
   .grind
   .by_cases n:b<a
    .grind
    .have e:a=b:=UInt8.le_antisymm (UInt8.not_lt.1 n) (UInt8.not_lt.1 j);subst e;simp only[j,g,if_false]at f d⊢
     by_cases o:c<a
     .grind
     .simp only[o,if_false]at d⊢
      exact Pe l k q f d
theorem Ki:Sw nD:=by
 have c:Sw P4:=⟨λx y=>Sc _ _,λx y z=>Pe _ _ _⟩
 exact(VX.of VV.kind).lex ((VX.of VV.int).lex (c.of VV.text))
theorem uS:∀a b,fQ a b= -fQ b a
 |[],[]=>rfl
 |[],_::_=>rfl
 |_::_,[]=>rfl
 |x::l,y::k=>by
  have a:=Ki.anti x y;simp only[fQ];by_cases e:nD x y=0
  .rw[if_neg (bk e),if_neg aD];exact uS l k
  omega
theorem B9:∀a b c,fQ a b<=0->fQ b c<=0->fQ a c<=0
 |[],_,[],_,_=>by simp[fQ]
 |[],_,_::_,_,_=>by simp[fQ]
 |_::_,[],_,d,_=>by simp[fQ]at d
 |_::_,_::_,[],_,f=>by simp[fQ]at f
 |x::l,y::k,z::q,d,f=>by
  simp only[fQ]at d f⊢
  have g:nD x y<=0:=S8 d;have j:nD y z<=0:=S8 f;have n:=Ki.trans x y z g j;by_cases e:nD x z=0
  .obtain⟨o,t⟩:=Ki.zero g j e;rw[if_neg aD]at d;rw[if_neg aD]at f;rw[if_neg (bk e)];exact B9 l k q d f
  omega
theorem F7:Sw fQ:=⟨uS,B9⟩
theorem Sw.swo{R:cw->Prop}{cf:cw->cw->Int}(c:Sw cf):Sort.SWO (Go.Proofs.ltOf (fun(x y:Gd h R)=>cf x.l y.l)):=by
 refine⟨λx=>?_,λx y z d f=>?_,λx y z d f=>?_⟩
 .have:=c.anti x.l x.l;unfold Go.Proofs.ltOf;simp;omega
 .unfold Go.Proofs.ltOf at*
  simp only[ce]at*
  have t:=c.trans x.l y.l z.l aD aD;by_cases e:cf x.l z.l=0
  .have:=c.zero (x:=x.l) (y:=y.l) (z:=z.l) aD aD e;omega
  .omega
 .unfold Go.Proofs.ltOf at*
  simp only[decide_eq_false_iff_not]at*
  have g:=c.anti x.l y.l;have j:=c.anti y.l z.l;have n:=c.anti x.l z.l;have t:=c.trans z.l y.l x.l aD aD;omega
def K4(x:cw):ct->ct
 |[]=>[x]
 |y::l=>if fQ x y<0 then x::y::l else if fQ x y=0 then y::l else y::K4 x l
def DO(l:ct):ct:=l.foldr K4 []
abbrev oR(l:ct):Prop:=l.Pairwise λx y=>fQ x y<0
theorem Oz{x z:cw}:∀{l:ct},z∈K4 x l↔z=x\/z∈l
 |[]=>by simp[K4]
 |y::l=>by
  simp only[K4];split
  .simp
  .split
   .rename_i _ e;have:=mR.1 e
    grind
   .simp only[mem_cons,Oz (l:=l)]
    grind
theorem Mr{x:cw}:∀{l:ct},oR l->oR (K4 x l)
 |[],_=>by simp[K4]
 |y::l,h=>by
  obtain⟨g,f⟩:=pairwise_cons.1 h;simp only[K4];split
  .rename_i d;refine pairwise_cons.2 ⟨λz c=>?_,h⟩;rcases mem_cons.1 c with rfl|c
   .exact d
   .have t:=B9 x y z aD bg;by_cases e:fQ x z=0
    .have:=F7.zero (x:=x) (y:=y) (z:=z) aD bg e;omega
    .omega
  .split
   .exact h
   .rename_i j n;refine pairwise_cons.2 ⟨λz c=>?_,Mr f⟩;rcases Oz.1 c with rfl|c
    .have:=uS z y;omega
    grind
theorem IC{x:cw}:∀{l:ct},x∈DO l↔x∈l
 |[]=>by simp[DO]
 |y::l=>by
  show x∈K4 y (DO l)↔_;rw[Oz,IC,mem_cons]
theorem FB:∀(l:ct),oR (DO l)
 |[]=>.nil
 |_::l=>Mr (FB l)
theorem NK:∀{a b:ct},oR a->oR b->(∀x,x∈a↔x∈b)->a=b
 |[],[],_,_,_=>rfl
 |[],y::_,_,_,h=>by have:=(h y).2 ay;simp at this
 |x::_,[],_,_,h=>by have:=(h x).1 ay;simp at this
 |x::a,y::b,c,d,h=>by
  obtain⟨f,g⟩:=pairwise_cons.1 c;obtain⟨j,n⟩:=pairwise_cons.1 d;have o:∀z,¬fQ z z<0:=λz=>by have:=uS z z;omega
  have e:x=y:=by
   rcases mem_cons.1 ((h x).1 ay)with e|t
   .exact e
   .rcases mem_cons.1 ((h y).2 ay)with e|u
    .exact e.symm
    .have B:=f y u;have C:=j x t;have:=uS x y;omega
  subst e;congr 1;refine NK g n (λz=>⟨λA=>?_,λA=>?_⟩)
  .grind
  grind
theorem Zx{l r:ct}(c:oR r)(d:∀x,x∈r↔x∈l):r=DO l:=NK c (FB l) λx=>by rw[d,IC]
def agQ:Vc.Spec:=λc m h K=>∃(s:Sl)(d:da),c=[cS s]/\oP m h s 1 (d.map eS)/\d.length<=502633886983/\∀e m',dE m' e 94 1 (d.map eS)->(∀b o,m b=some o->m' b=some o)->(∀b i,e.a=some ⟨b,i,none⟩->m b=none)->K (cS e) m' h
def bgX:Vc.Spec:=λd m h K=>∃(s:Sl)(ps:dq),d=[cS s,.val (.func (.func 102) #[] #[])]/\dE m s 94 1 (ps.map λp=>eS p.1)/\(∀p∈ps,cF h p.1 p.2)/\ps.length<=140737488355328/\
 ∀(c:dq)(m':MH),c.Perm ps->c.Pairwise (λp q=>¬fQ q.2 p.2<0)->dE m' s 94 1 (c.map λp=>eS p.1)->(∀b,(∀i,s.a≠some ⟨b,i,none⟩)->m' b=m b)->K (.tup []) m' h
structure jC(h:PH)(us:da)(rs:ct):Prop where
 len:us.length=rs.length
 at_:∀(j:Nat) x,rs[j]? =some x->∃u,us[j]? =some u/\cF h u x
def ceJ:Vc.Spec:=λc m h K=>∃s d l,c=[cS s]/\oP m h s 1 (d.map eS)/\jC h d l/\l.length<=502633886983/\∀e h',PH.le h h'->Rows h' e (DO l)->K (cS e) m h'
noncomputable def baZ:Ctx:=
 dD [(188,agQ),(189,bgX),(102,MG)] [(5,{A:=Nat×da×Sl×MH×PH,st:=λ⟨i,c,s,m,h⟩=>bQ 38 39 [(3,sv s),(4,.at (.lst 35)),(11,sv s),(12,iv s.len),(13,iv i)] [(35,.lst 94 1 (c.map eS))] m h})] [] [] false
def OZ(n c:Nat)(m:MH)(h:PH)(K:cr):Prop:=
  K jQ m h
theorem a0J(n c:Nat)(m:MH)(h:PH)(K:cr):OZ n c m h K=(tQ (tR [] [] [] [] [53,1053] [] false) Tryz.f188 (cA Tryz.f188) (entry Tryz.f188.ntmps [.val (.slice none n c)] m h) K):=ax
abbrev lE(a:Sl->MH->Prop):Prop:=∀(x:Sl)(c:MH),a x c
abbrev yZ(a:Prop)(b:(List cn)->Prop):Prop:=a->∃(x:List cn),b x
abbrev AZ(a:Prop)(b:(List cn)->Prop):Prop:=a/\∃(x:List cn),b x
attribute [push_cast] lE yZ AZ
def OY(a:Addr)(n c:Nat)(m:MH)(h:PH)(K:cr):Prop:=
  lE (λs d=>yZ (qI m d h s 94 1 []) (λx=>AZ (dE d (gJ s) 94 1 x) (λy=>jI 1 y (oP d h (Sl.mk (Option.some a) n c) 1 y) (nU x y 24) (nP x y) (lE (λe f=>eF d f (gJ s) e 94 1 (x++y)->K (Dj e) f h)))))
theorem a0Z(a:Addr)(n c:Nat)(m:MH)(h:PH)(K:cr):OY a n c m h K=(tQ (tR [] [] [] [] [53,1053] [] false) Tryz.f188 (cA Tryz.f188) (entry Tryz.f188.ntmps [.val (.slice (some a) n c)] m h) K):=ax
abbrev Jc(a:MH)(b:Sl)(c:Nat)(d:dq):Prop:=dE a b 94 c (List.map (fun(x:Sl×cw)=>aY x.1) d)
abbrev j7(a:Sl)(b:Sl×MH×PH):Prop:=bS a b.1
noncomputable abbrev pC(a:Nat×da×Sl×MH×PH):Sl×MH×PH:=a.2.2
noncomputable abbrev qX(a:Nat×da×Sl×MH×PH):Sl:=(pC a).1
abbrev Eb(a:List cn):Prop:=qG 94 1 a
noncomputable abbrev xV(a:Nat×da×Sl×MH×PH):List cn:=nB a.2.1
noncomputable abbrev gX(a:Sl×MH×PH):Nat->Nat->Option Value:=a.2.2
noncomputable abbrev rE(a:Nat×da×Sl×MH×PH):Nat->Nat->Option Value:=gX (pC a)
noncomputable abbrev fB(a:Sl×MH×PH):Nat->Option Obj:=a.2.1
abbrev Ep(a:Nat)(b:List cn)(c:Nat):Prop:=iM ((a+b.length)*c)
noncomputable abbrev EN(a:List cn):List cn:=[]++a
abbrev vQ(a b:List cn):Prop:=Option.some (Own.lst 94 1 a)=Option.some (Own.lst 94 1 b)
attribute [push_cast] Jc j7 pC qX Eb xV gX rE fB Ep EN vQ
def LB(s:Sl)(m:MH)(h:PH)(K:cr):Prop:=
  ∃(D:Sl)(u:da),aA (fP (Dj s) (Dj D)) (oP m h D 1 (nB u)) (u.length<=502633886983/\∀(f:Sl)(n:MH),dE n f 94 1 (nB u)->(∀(b:Nat)(o:Obj),m b=Option.some o->n b=Option.some o)->(∀(b i:Nat),bK f.a b i->m b=Option.none)->∃(z:Sl)(p:dq),aA (jA f (BZ 102 yQ)=jA z (BZ 102 yQ)) (Jc n z 1 p) (aA (∀(e:Sl×cw),List.Mem e p->cF h e.1 e.2) (iM p.length) (∀(e:dq)(B:MH),List.Perm e p->List.Pairwise (fun(F:Sl×cw)=>fun(q:Sl×cw)=>¬(fQ q.2 F.2<0)) e->Jc B z 1 e->(∀(b:Nat),(∀(i:Nat),wB (bK z.a b i))->B b=n b)->∃(I:Nat×da×Sl×MH×PH->Prop)(g:Nat×da×Sl×MH×PH->Nat),(∃(x:Nat×da×Sl×MH×PH),aA (I x) (j7 f
 (pC x)) (aA (eL 35) (j7 f (pC x)) (aA (cK f (qX x)) (bB x.1) (aA (Eb (xV x)) (bH B (pC x).2) (bL h (rE x))))))/\∀(x:Nat×da×Sl×MH×PH),I x->aX (↑x.1:Int) (aH (qX x)) (eA (qX x).a (↑x.1:Int) (qX x) (λb o y=>aU (fB (pC x)) (rE x) b (bN o x.1 1) (aY y)/\dW (↑x.1:Int) 0 (∃(d:List cn),jI 3 d (cC (rE x) (gJ y) 3 d) (Ep 0 d 32) (iM (0+d.length)) (bU (rE x) 3 (EN d) (λA C=>mV (xV x) 24 (∃(c:Nat×da×Sl×MH×PH),aA (I c) (g c<g x) (aA (j7 (qX x) (pC c)) (eL 35) (aA (j7 (qX x) (pC c)) (cK (qX x) (qX c)) (aA (bD (gG (bF x.1 1)) c.1) (Option.some (Own.lst 94 1 (fK (xV x) (aY A)))=Option.some (Own.lst
 94 1 (xV c))) (bP (bH (fB (pC x)) (pC c).2) C (rE c))))))))) (eA (qX x).a (fI ((↑x.1:Int)-1)) (qX x) (λG H d=>aU (fB (pC x)) (rE x) G (fT H (fI ((↑x.1:Int)-1)) 1) (aY d)/\∃(A:Sl),qO (λt a=>∃(E:cw),aA (cV d y=cV A t) (cF (rE x) A a) (cF (rE x) t E/\dC (fQ a E) 0 (∃(j:List cn),jI 3 j (cC (rE x) (gJ y) 3 j) (Ep 0 j 32) (iM (0+j.length)) (bU (rE x) 3 (EN j) (λJ C=>mV (xV x) 24 (∃(c:Nat×da×Sl×MH×PH),aA (I c) (g c<g x) (aA (j7 (qX x) (pC c)) (eL 35) (aA (j7 (qX x) (pC c)) (cK (qX x) (qX c)) (aA (bD (gG (bF x.1 1)) c.1) (Option.some (Own.lst 94 1 (fK (xV x) (aY J)))=
 Option.some (Own.lst 94 1 (xV c))) (bP (bH (fB (pC x)) (pC c).2) C (rE c))))))))) (∃(c:Nat×da×Sl×MH×PH),aA (I c) (g c<g x) (aA (j7 (qX x) (pC c)) (eL 35) (aA (j7 (qX x) (pC c)) (cK (qX x) (qX c)) (aA (bD (gG (bF x.1 1)) c.1) (vQ (xV x) (xV c)) (bP (bH (fB (pC x)) (pC c).2) (rE x) (rE c)))))))))))) (vP (rE x) (xV x) K (fB (pC x))))))
theorem IF(l:da):i6 1 (l.map eS):=by
 constructor
 .intro e c;obtain⟨x,_,rfl⟩:=mem_map.1 c;rfl
 .intro e c u d;obtain⟨x,_,rfl⟩:=mem_map.1 c;have:u= .slice x.a x.len x.cap:=by simpa[eS]using d
  rw[this];rfl
theorem Uj(l:cw):i6 3 (l.map VV.enc):=by
 constructor
 .intro e c;obtain⟨x,_,rfl⟩:=mem_map.1 c;rfl
 .intro e c u d;obtain⟨x,_,rfl⟩:=mem_map.1 c;simp only[VV.enc,mem_cons,not_mem_nil,or_false]at d;rcases d with rfl|rfl|rfl<;>rfl
theorem X1:cm 188 agQ:=by
 refine eD (fn:=Tryz.f188) (c:=cA Tryz.f188) func188 rfl az ?_;rintro A m h K ⟨s,t,rfl,g,D,u⟩;obtain⟨a,n,c⟩:=s;refine⟨tR [] [] [] [] [53,1053] [] false,rfl,aG,?_⟩;cases a with
 |none=>
  show tQ _ Tryz.f188 (cA Tryz.f188) (entry Tryz.f188.ntmps [.val (.slice none n c)] m h) K;rw[<-a0J n c m h K];dsimp only[OZ,push_cast]
  have e:t.map eS=[]:=by
   rcases g with g|⟨b,o,F,E,G,e,_⟩
   .rcases g.row with e|⟨b,o,e,_⟩
    .exact e
    .cases e
   .cases e
  rw[e]at u;exact u ⟨none,0,0⟩ m ⟨⟨(λe x=>by cases x),(λe x=>by cases x)⟩,.inl ⟨rfl,rfl⟩⟩ (λb o e=>e) (λb i e=>by cases e)
 |some a=>
  show tQ _ Tryz.f188 (cA Tryz.f188) (entry Tryz.f188.ntmps [.val (.slice (some a) n c)] m h) K;rw[<-a0Z a n c m h K];dsimp only[OY,push_cast];intro s m' d
  have sub:∀b o,m b=some o->m' b=some o:=λb o f=>by
   rw[d.other b (λi e=>by rw[(d.fresh b i e).m_]at f;cases f)];exact f
  refine⟨[],d.row,t.map eS,IF t,g.sub sub,bf,bf,λB C y=>u B C (bk y.row) (λb o f=>?_) (λb i e=>?_)⟩
  .exact y.other b o (sub b o f) (λi e=>by have e:s.a=some ⟨b,i,none⟩:=e;rw[(d.fresh b i e).m_]at f;cases f)
  .rcases y.fresh b i e with z|⟨j,z⟩
   .cases H:m b with
    |none=>rfl
    |some o=>grind
   .exact(d.fresh b j z).m_
theorem Vz:cm 189 bgX:=by
 refine⟨⟨Tryz.f189,func189,rfl,az⟩,?_⟩;rintro f e m h w K ⟨s,ps,rfl,j,n,t,u⟩ c
 obtain⟨v,d,rfl⟩:∃v d,e=[v,d]:=by
  have:=(rI c.args).1
  match e,this with
  |[v,d],_=>grind
 have z:v=s.val:=c.args.1;have A:d= .func (.func 102) #[] #[]:=c.args.2.1;subst z A;refine Qe (R:=λ_=>True) (g:=102) (cb:=[]) (m2:=λ_=>none) (cf:=fQ) rfl c ⟨Tryz.f102,func102,rfl,az⟩ j n (λ_ _=>trivial) t F7.swo ⟨MG,B8,λx y=>⟨x.s,y.s,x.l,y.l,rfl,x.ok,y.ok,rfl,rfl,rfl⟩⟩ (λb o B=>by cases B) u
theorem jC.mono{us:da}{rs:ct}(x:jC h us rs)(le:PH.le h h'):jC h' us rs:=⟨x.len,λj r d=>(x.at_ j r d).imp λ_ c=>⟨c.1,cF.mono c.2 le⟩⟩
theorem jC.nil(h:PH):jC h [] []:=⟨rfl,λj x c=>by simp at c⟩
theorem jC.snoc{us:da}{rs:ct}(x:jC h us rs){u:Sl}{r:cw}(d:cF h u r):jC h (us++[u]) (rs++[r]):=by
 refine⟨by simp[x.len],λj y c=>?_⟩;by_cases f:j<rs.length
 .rw[getElem?_append_left f]at c;obtain⟨v,g,n⟩:=x.at_ j y c
  grind
 .rw[getElem?_append_right aD]at c;have:=(bm c);simp at this;have e:j=rs.length:=by omega
  subst e;simp at c;subst c;exact⟨u,by rw[getElem?_append_right (by rw[x.len];omega),x.len];simp,d⟩
theorem jC.rows{h:PH}{us:da}{rs:ct}{s:Sl}(x:jC h us rs)(c:cC h s 1 (us.map eS))(d:rs.length<=502633886983):Rows h s rs:=⟨⟨us,c,x.len.symm,x.at_⟩,d⟩
structure Zf(ps':dq)(s1:Sl)(m2:MH)(h:PH)(i:Nat)(us2:da)(s2:Sl)(mx:MH)(hx:PH):Prop where
 s_:s2=s1
 m_:mx=m2
 le:PH.le h hx
 hi:i<=ps'.length
 hu:us2.length<=i
 ex:∃rs,jC hx us2 rs/\oR rs/\∀x,x∈rs↔x∈(ps'.take i).map Prod.snd
theorem MC{e:PH}{u:Sl}{r:cw}{us:da}{Q:Sl->PH->Prop}(c:cF e u r)(y:us.length<=502633886983)(g:∀s h',e.le h'->cF h' s r->Q s h'):
 ∃d:List cn,i6 3 d/\cC e (Sl.mk u.a u.len u.cap) 3 d/\(0+d.length)*32<=140737488355328/\0+d.length<=140737488355328/\∀(s:Sl)(h':PH),e.le h'->cC h' s 3 ([]++d)->
  ((List.map eS us).length+1)*24<=140737488355328/\(List.map eS us).length<140737488355328/\Q s h':=by
 obtain⟨f,j,n,o⟩:=c.ex;have t:=c.len;refine⟨f.map VV.enc,Uj f,j,bg,bg,λs h' le x=>⟨bg,bg,g s h' le ⟨⟨f,x,n,o⟩,t⟩⟩⟩
theorem bJJ{s:Sl}{us:da}{l:ct}(hr:oP m h s 1 (us.map eS))(F:jC h us l)(b4:l.length<=502633886983)(hK:∀s' h',PH.le h h'->Rows h' s' (DO l)->K (cS s') m h'):LB s m h (kX h K):=by
 dsimp only[LB,push_cast];have b5:=F.len.symm;have b6:=F.at_;refine⟨s,us,rfl,hr,aD,λs1 m1 a0 a1 b2=>⟨s1,us.zip l,rfl,?_,λp G=>?_,bf,λc m2 d P f a2=>?_⟩⟩
 .have:(us.zip l).map (λp=>[hJ p.1])=us.map eS:=by
   rw[show(λp:Sl×cw=>[hJ p.1])=eS∘Prod.fst from rfl, <-map_map,map_fst_zip aD]
  grind
 .obtain⟨j,C⟩:=getElem?_of_mem G;rw[getElem?_zip_eq_some]at C
  grind
 .have b7:c.length=us.length:=by rw[d.length_eq];simp;omega
  have Q:=dE.slen f;simp only[length_map]at Q
  have R:∀{i:Nat}{p:Sl×cw},c[i]? =some p->cF h p.1 p.2:=fun{i p} G=>by
   have:=d.mem_iff.1 (br G);obtain⟨j,C⟩:=getElem?_of_mem this;rw[getElem?_zip_eq_some]at C
   grind
  have b3:∀x,x∈c.map Prod.snd↔x∈l:=λx=>by
   rw[(d.map Prod.snd).mem_iff,map_snd_zip aD]
  have H:∀b o,m b=some o->m2 b=some o:=λb o hb=>by
   grind
  refine⟨λx=>Zf c s1 m2 h x.1 x.2.1 x.2.2.1 x.2.2.2.1 x.2.2.2.2,λx=>c.length-x.1,⟨(0,[],s1,m2,h),⟨rfl,rfl,.refl _,ay,ay,[],.nil h,.nil,ay⟩,MT⟩,?_⟩;rintro⟨i,n,I,J,S⟩ ⟨e1,e2,le,hi,a3,rs,u,L,D⟩;dsimp only at e1 e2 le hi a3 u;subst e1 e2;refine aF (λT=>?_) (λa4=>?_)
  .dsimp only at T;have U:i<c.length:=by omega
   obtain⟨p,G⟩:∃p,c[i]? =some p:=⟨_,bo U⟩
   obtain⟨b,e1,r1⟩:=f.rd (h:=S) (i:=i) (e:=eS p.1) (by simp[G];rfl);have M:=cF.mono (R G) le
   have a5:∀x,x∈(c.take (i+1)).map Prod.snd↔x∈(c.take i).map Prod.snd\/x=p.2:=λx=>by
    rw[cd,G];simp
   have V:(∀y∈rs,fQ y p.2<0)->∀(s:Sl)(h':PH),S.le h'->cF h' s p.2->Zf c I J h (i+1) (n++[s]) I J h':=λhc s h' g A=>by
    refine⟨rfl,rfl,le.trans g,aD,bf,rs++[p.2],(u.mono g).snoc A,pairwise_append.2 ⟨L,ay,λy O z hz=>?_⟩,λx=>?_⟩
    .grind
    grind
   have keep:p.2∈rs->Zf c I J h (i+1) n I J S:=λhc=>
    ⟨rfl,rfl,le,aD,aD,rs,u,L,λx=>bg⟩
   refine⟨b,0,e1,aD,T,p.1,by simpa[eS]using r1,aC (λh0=>?_) (λh0=>?_)⟩
   .have h0:i=0:=bg
    subst h0
    have b8:rs=[]:=by
     cases rs with
     |nil=>rfl
     |cons y _=>have:=(D y).1 ay;simp at this
    exact MC M bg (λs h' g A=>⟨(0+1,n++[s],I,J,h'),V bg s h' g A,bg,rfl,rfl,rfl,rfl,rfl,by simp[eS],rfl,rfl,trivial⟩)
   .have h0:i≠0:=bg
    have hw:IntKind.i64.wrap ((i:Int)-1)=((i-1:Nat):Int):=by rw[dY aD aD];omega
    obtain⟨q,W⟩:∃q,c[i-1]? =some q:=⟨_,bo aD⟩
    obtain⟨b',a6,a7⟩:=f.rd (h:=S) (i:=i-1) (e:=eS q.1) (by simp[W];rfl);have a8:=cF.mono (R W) le
    have X:q.2∈rs:=by
     rw[D];refine mem_map.2 ⟨q,?_,rfl⟩;exact mem_of_getElem? (i:=i-1) bg
    have B:∀y∈rs,fQ y q.2<=0:=λy O=>by
     rw[D]at O;obtain⟨z,hz,rfl⟩:=mem_map.1 O;obtain⟨j,C⟩:=getElem?_of_mem hz;have a9:=(bm C);simp only[length_take]at a9;rw[getElem?_take,if_pos aD]at C;by_cases e:j=i-1
     .subst e;rw[W]at C;cases C;have:=uS q.2 q.2;omega
     .have h1:=pairwise_iff_getElem.1 P j (i-1) aD aD aD;rw[(List.getElem?_eq_some_iff.1 C).2,(List.getElem?_eq_some_iff.1 W).2]at h1;have:=uS z.2 q.2;omega
    have Y:fQ q.2 p.2<=0:=by
     have h1:=pairwise_iff_getElem.1 P (i-1) i aD aD aD;rw[(List.getElem?_eq_some_iff.1 G).2,(List.getElem?_eq_some_iff.1 W).2]at h1;have:=uS q.2 p.2;omega
    dsimp only;rw[hw];refine⟨b',0,a6,aD,aD,q.1,by simpa[eS]using a7,q.1,p.1,q.2,p.2,rfl,a8,M,aC (λb0=>?_) (λZ=>?_)⟩
    .have b0:fQ q.2 p.2≠0:=bg
     refine MC M aD (λs h' g A=>⟨(i+1,n++[s],I,J,h'),V (λy O=>?_) s h' g A,aD,rfl,rfl,rfl,rfl,by rw[kR aD],by simp[eS],rfl,rfl,trivial⟩);have t:=B9 y q.2 p.2 (B y O) Y;by_cases e:fQ y p.2=0
     .have:=F7.zero (B y O) Y e;omega
     .omega
    .have Z:fQ q.2 p.2=0:=bg
     exact⟨(i+1,n,I,J,S),keep (by rw[<-mR.1 Z];exact X),aD,rfl,rfl,rfl,rfl,by rw[kR aD],rfl,rfl,rfl,trivial⟩
  .intro s3 h3 E a';dsimp only at a4 a' E;have b1:i=c.length:=by omega
   subst b1;rw[take_length]at D;have e:rs=DO l:=Zx L (λx=>bg);subst e;have hl:=u.len;exact⟨m,h3,H,le.trans E,.refl _,hK s3 h3 (le.trans E) ((u.mono E).rows a' aD)⟩
theorem YN:cm 115 ceJ:=by
 refine Fm func115 ?_;rintro c m h K ⟨s,j,l,rfl,d,e,f,g⟩;refine⟨baZ,rfl,aE X1 (aE Vz (aE B8 aG)),LB s m h (kX h K),ax,?_⟩;exact bJJ d e f g
end Go.Ps
namespace Go.Vc
open Go List
section
variable{B:tW}{C:Ctx}{ι:dc}{σ:St}{a:Act}{w:World}{o:Oper}{K:St->Prop}
end
end Go.Vc
namespace Go.Vc
open Go List
section
variable{B:tW}{C:Ctx}{ι:dc}{σ:St}{a:Act}{w:World}{K:St->Prop}
end
end Go.Vc
namespace Go.Ps
open Go Go.Vc Go.Proofs List Tryz
variable{K:cr}{m:MH}{h:PH}{s:jB}{ps:cq}{cb:Nat}{sc:bW}{v:QV}{p:Pred}{l:cq}{i:Nat}{N:Nat}{m':MH}{h':PH}{co:cq}{gr:cq}{od:cv}{ta:Int}{li:Int}{xs:List cn}{sz:Nat}{ks:List cq}{rs:cq}{r:Sl}{a:cq}{b:Nat}
structure VOk(v:VV):Prop where
 kind:rN v.kind
 int:rN v.int
 text:v.text.size<=64
structure TL(r:cw):Prop where
 len:r.length<=12
 val:∀v∈r,VOk v
def pick(r:cw)(cols:cq):cw:=cols.map λc=>r.getD c.toNat zeroV
structure jP(n:Nat)(cols:cq):Prop where
 at_:∀c∈cols,0<=c/\c<n
 len:cols.length<=100000
def oK(on:cu):cq:=on.map Prod.fst
def iX(on:cu):cq:=on.map Prod.snd
def Ze:Vc.Spec:=λc m h K=>∃s on,c=[cS s]/\iD h s on/\∀a b h',PH.le h h'->Ints h' a (oK on)->Ints h' b (iX on)->K (.tup [cS a,cS b]) m h'
def Ws:Vc.Spec:=λd m h K=>∃s t r c,d=[cS s,cS t]/\cF h s r/\Ints h t c/\jP r.length c/\K (cB ((pick r c).all nK)) m h
def bmX:Vc.Spec:=λc m h K=>∃n:Nat,c=[.val (.slice none 0 0),cI n]/\n<=1000/\K (.lst 27 3 []) m h
def Wp:Vc.Spec:=λc m h K=>∃d rs,c=[cS d]/\Rows h d rs/\rs.length<=10/\(∀r∈rs,r.length<=12)/\∀e h',PH.le h h'->cF h' e rs.flatten->K (cS e) m h'
noncomputable def aWQ(s:Sl)(m:MH)(h:PH):Ctx:=
 dD [] [(2,{A:=Nat×cq×cq,st:=λ⟨i,l,k⟩=>bQ 25 26 [(2,.at (.lst 16)),(3,.at (.lst 21)),(6,sv s),(7,iv s.len),(8,iv i)] [(16,.lst 3 1 (l.map eI)),(21,.lst 3 1 (k.map eI))] m h})] [] [] false
noncomputable def aVJ(s t:Sl)(m:MH)(h:PH):Ctx:=
 dD [(186,Si)] [(2,{A:=Nat,st:=λi=>bQ 20 22 [(0,sv s),(7,sv t),(8,iv t.len),(9,iv i)] [] m h})] [] [] false
noncomputable def a0X(c:Sl)(m:MH)(h:PH):Ctx:=
 dD [(254,bmX)] [(3,{A:=Nat×Nat,st:=λ⟨i,n⟩=>bQ 36 37 [(0,sv c),(3,iv n),(9,sv c),(10,iv c.len),(11,iv i)] [] m h}),
  (11,{A:=Nat×cw,st:=λ⟨i,l⟩=>bQ 36 37 [(6,.at (.lst 24)),(25,sv c),(26,iv c.len),(27,iv i)] [(24,.lst 27 3 (l.map VV.enc))] m h})] [] [] false
def Li(s:Sl)(m:MH)(h:PH)(K:cr):Prop:=
  ∃(I:Nat×cq×cq->Prop)(d:Nat×cq×cq->Nat),(∃(x:Nat×cq×cq),aA (I x) (eL 16) (aA (eL 21) (aI s) (aA (bJ s) (bB x.1) (aA (sL (jK x.2.1)) (sL (jK x.2.2)) (bP (m=m) h h)))))/\∀(x:Nat×cq×cq),I x->aX (↑x.1:Int) (aH s) (bI (λb o=>aA (bK s.a b o) (0<=(↑x.1:Int)) ((↑x.1:Int)<aH s/\∃(y:Int×Int),aA (aU m h b (bN o x.1 2) (uH y)) (bV 0) (aA Bf (iM (qR (jK x.2.1) 1*8)) (aA (A0 (jK x.2.1)) (bV 1) (aA Bg (iM (qR (jK x.2.2) 1*8)) (A0 (jK x.2.2)/\∃(c:Nat×cq×cq),aA (I c) (d c<d x) (aA (eL 16) (eL 21) (aA (aI s) (bJ s) (aA (bD (gG (bF x.1 1)) c.1) (sM (jK x.2.1) y.1 (jK c.2.1)) (bO (sM (jK
 x.2.2) y.2 (jK c.2.2)) (m=m) (h=h)))))))))))) (bU h 1 (jK x.2.1) (λe f=>bU f 1 (jK x.2.2) (λg j=>K (CV.tup (cV e g)) m j)))
def Lh(s t:Sl)(m:MH)(h:PH)(K:cr):Prop:=
  nO (λI x=>aA (I x) (aI s) (aA (aI t) (bJ t) (bO (bB x) (m=m) (h=h)))) (λI d x=>I x->aX (↑x:Int) (aH t) (bI (λb o=>aA (bK t.a b o) (0<=(↑x:Int)) ((↑x:Int)<aH t/\∃(y:Int),aU m h b (bN o x 1) (bG y)/\bI (λe f=>aA (bK s.a e f) (0<=y) (y<aH s/\∃(g:VV),aU m h e (fT f y 3) g.enc/\∃(v:VV),fH (CJ g v) (!(nK v)) (K aZ m h) (∃(c:Nat),aA (I c) (d c<d x) (aA (aI s) (aI t) (aA (bJ t) (bD (gG (bF x 1)) c) (aA (m=m) (h=h) True))))))))) (gO K m h))
def Q5(n:Nat)(m:MH)(h:PH)(K:cr):Prop:=
  Nf n 0 32 Ab (K (CV.lst 27 3 []) m h)
def Rl(d:Sl)(m:MH)(h:PH)(K:cr):Prop:=
  JA (λI x=>aA (I x) (aI d) (aA (bB x.2) (aI d) (aA (bJ d) (bB x.1) (aA (m=m) (h=h) True)))) (λI g x=>I x->aX (↑x.1:Int) (aH d) (eA d.a (↑x.1:Int) d (λb o y=>aU m h b (bN o x.1 1) (aY y)/\aX (bF x.2 (aH y)) 0 False (∃(c:Nat×Nat),aA (I c) (g c<g x) (aA (aI d) (bD (gG (bF x.2 (aH y))) c.2) (aA (aI d) (bJ d) (aA (bD (gG (bF x.1 1)) c.1) (m=m) (bL h h))))))) (∃(n:Nat),aA (Eu x.2=Eu n) (lY n) (∃(I1:Nat×cw->Prop)(j:Nat×cw->Nat),(∃(c:Nat×cw),aA (I1 c) (eL 24) (aA (aI d) (bJ d) (aA (bB c.1) (qG 27 3 (List.map VV.enc c.2)) (aA (m=m) (h=h) True))))/\∀(c:Nat×cw),I1 c->aX (↑c.1:Int) (aH d) (eA d.a (↑c.1:Int) d (λb o y=>HY m
 h b o c.1 1 (aY y) (λe=>jI 3 e (cC h (gJ y) 3 e) (nU (List.map VV.enc c.2) e 32) (nP (List.map VV.enc c.2) e) (∃(f:Nat×cw),aA (I1 f) (j f<j c) (aA (eL 24) (aI d) (aA (bJ d) (bD (gG (bF c.1 1)) f.1) (aA (Option.some (Own.lst 27 3 (List.map VV.enc c.2++e))=Option.some (Own.lst 27 3 (List.map VV.enc f.2))) (m=m) (bL h h)))))))) (bU h 3 (List.map VV.enc c.2) (λs t=>K (Dj s) m t)))))
theorem Uu{r:cw}{cols:cq}(e:jP r.length cols){v:VV}(f:v∈pick r cols):v∈r:=by
 obtain⟨c,d,rfl⟩:=mem_map.1 f;have:=e.at_ c d
 grind
theorem SS{r:cw}{cols:cq}{i:Nat}{c:Int}(d:jP r.length cols)(e:cols[i]? =some c):∃v,r[c.toNat]? =some v/\(pick r cols)[i]? =some v/\0<=c/\c<r.length:=by
 have:=d.at_ c (br e);refine⟨r[c.toNat]'(by omega),bo _,?_,this⟩;unfold pick
 grind
theorem bDJ{s:Sl}{on:cu}(f:iD h s on)(z:∀a b h',PH.le h h'->Ints h' a (oK on)->Ints h' b (iX on)->K (.tup [cS a,cS b]) m h'):Li s m h K:=by
 dsimp only[Li,push_cast];have g:=f.slen;have G:=f.len;refine⟨λx=>x.1<=on.length/\x.2.1=(on.take x.1).map Prod.fst/\x.2.2=(on.take x.1).map Prod.snd,λx=>on.length-x.1,⟨(0,[],[]),⟨ay,ay,ay⟩,MT⟩,?_⟩;rintro⟨i,l,k⟩ ⟨A,t,u⟩;dsimp only at A t u;subst t u;refine aF (λc=>?_) (λj=>?_)
 .dsimp only at c;obtain⟨p,y⟩:=eU g c;obtain⟨b,o,e,rd⟩:=iD.at f y;refine⟨b,o,e,aD,c,p,.imm rd,aD,aD,?_,?_,aD,aD,?_,?_,(i+1,(on.take (i+1)).map Prod.fst,(on.take (i+1)).map Prod.snd),⟨aD,rfl,rfl⟩,bg,?_⟩
  all_goals (try (simp only[length_map,length_take];omega))
  dsimp only;rw[cd,y,Option.toList_some,bw,bw,bw,bw];exact MT
 .dsimp only at j⊢
  rw[bu aD];intro a H n D b E d F;exact z a b E (n.trans d) ⟨D.mono d,by simp[oK];omega⟩ ⟨F,by simp[iX];omega⟩
theorem bDZ{s t:Sl}{r:cw}{cols:cq}(z:cF h s r)(A:Ints h t cols)(D:jP r.length cols)(g:K (cB ((pick r cols).all nK)) m h):Lh s t m h K:=by
 dsimp only[Lh,push_cast];have G:=bZ.slen z;have n:=A.slen;have H:=D.len;have I:(pick r cols).length=cols.length:=by simp[pick]
 refine⟨λi=>i<=cols.length/\∀j:Nat,j<i->∀v,(pick r cols)[j]? =some v->nK v=true,λi=>cols.length-i,⟨0,⟨aD,λj E=>by omega⟩,MT⟩,λi⟨T,F⟩=>aF (λd=>?_) (λJ=>?_)⟩
 .obtain⟨c,f⟩:=eU n d;obtain⟨b,o,e,rd⟩:=A.at f;obtain⟨v,x,L,M,U⟩:=SS D f;obtain⟨O,P,w,Q,y,rfl⟩:=bZ.at z x;refine⟨b,o,e,aD,d,c,.imm bg,O,P,Q,M,aD,v,.imm y,v,rfl,aC (λR=>?_) (λV=>⟨i+1,⟨aD,λj E u W=>?_⟩,(show cols.length-(i+1)<cols.length-i by omega),MT⟩)⟩
  .have:(pick r cols).all nK=false:=by
    grind
   rw[this]at g;exact g
  grind
 .have:(pick r cols).all nK=true:=by
   rw[all_eq_true];intro v S;obtain⟨j,E⟩:=getElem?_of_mem S
   grind
  rw[this]at g;exact g
theorem Xs:cm 254 bmX:=by
 refine iH func254 ?_;rintro d m h K ⟨n,rfl,f,c⟩;refine⟨dD [] [] [] [] true,rfl,aG,Q5 n m h K,ax,?_⟩;dsimp only[Q5,push_cast];have e:IntKind.i64.wrap ((n:Int)-0)=n:=by rw[dY aD aD];omega
 have g:IntKind.i64.wrap ((n:Int)-IntKind.i64.wrap (0-0))=n:=by rw[show IntKind.i64.wrap (0-0)=0 from by rw[dY aD aD];rfl,e]
 exact aF (λj=>⟨aD,aD,aD,aD,aD,aD,aD,c⟩) (λ_=>c)
theorem Bd{α:Type}{ks:List (List α)}{k:List α}(c:ks[i]? =some k):((ks.take (i+1)).map List.length).sum=((ks.take i).map List.length).sum+k.length:=by
 rw[cd,c];simp
theorem HJ{α:Type}{ks:List (List α)}(h:∀k∈ks,k.length<=12):∀i,((ks.take i).map List.length).sum<=12*i
 |0=>ay
 |i+1=>by
  have c:=HJ h i;cases e:ks[i]? with
  |none=>rw[cd,e];grind
  |some k=>rw[Bd e];grind
theorem XZ:cm 191 Wp:=by
 refine iH func191 ?_;rintro L m h K ⟨G,ks,rfl,y,V,d,M⟩;refine⟨a0X G m h,rfl,aE Xs aG,Rl G m h K,ax,?_⟩;dsimp only[Rl,push_cast];have j:=bZ.slen y;refine⟨λ⟨i,n⟩=>i<=ks.length/\n=((ks.take i).map List.length).sum,λ⟨i,_⟩=>ks.length-i,⟨(0,0),⟨aD,ay⟩,MT⟩,?_⟩;rintro⟨i,n⟩ ⟨H,rfl⟩;dsimp only;have O:=HJ d i;refine aF (λc=>?_) (λt=>?_)
 .obtain⟨k,e⟩:=eU j c;obtain⟨b,o,g,z,r,f⟩:=bZ.at y e;have P:=bZ.slen f;have u:=d k (br e)
  have Q:IntKind.i64.wrap (((((ks.take i).map List.length).sum:Nat):Int)+(g.len:Int))=((((ks.take (i+1)).map List.length).sum:Nat):Int):=by
   rw[Bd e,dY aD aD];omega
  refine⟨b,o,z,aD,c,g,.imm r,?_⟩;rw[Q];exact aF (λI=>by omega) (λ_=>⟨(i+1,((ks.take (i+1)).map List.length).sum),⟨aD,rfl⟩,aD,MT⟩)
 .refine⟨((ks.take i).map List.length).sum,rfl,aD,?_⟩;refine⟨λ⟨i,l⟩=>i<=ks.length/\l=(ks.take i).flatten,λ⟨i,_⟩=>ks.length-i,⟨(0,[]),⟨aD,ay⟩,MT⟩,?_⟩;clear O t H;rintro⟨i,l⟩ ⟨H,rfl⟩;dsimp only;have R:(ks.take i).flatten.length<=12*i:=by have:=HJ d i;grind
  refine aF (λc=>?_) (λt g h' A J=>M g h' A ⟨⟨ks.flatten,?_,rfl,λi x S=>⟨x,S,rfl⟩⟩,?_⟩)
  .obtain⟨k,e⟩:=eU j c;obtain⟨b,o,g,z,r,f⟩:=bZ.at y e;have u:=d k (br e);obtain⟨D,E,T,U⟩:=f.ex
   have F:D=k:=by
    apply ext_getElem?
    grind
   subst F;refine⟨b,o,z,aD,c,g,.imm r,D.map VV.enc,Uj D,E,?_,?_,(i+1,(ks.take (i+1)).flatten),⟨aD,rfl⟩,aD,?_⟩
   .grind
   .grind
   .rw[cd,e,Option.toList_some,flatten_append,bw,flatten_cons,flatten_nil,append_nil];exact MT
  .grind
  grind
theorem Tu:∀(u:Nat)(b:UInt8),b∈Lib.decDigits u->48<=b.toNat/\b.toNat<=57:=by
 intro u
 induction u using Nat.strongRecOn with
 |_ u d=>
  intro b c;rw[Lib.decDigits]at c
  have one:∀k,k<10->48<=(UInt8.ofNat (48+k)).toNat/\(UInt8.ofNat (48+k)).toNat<=57:=λk e=>by
   rw[UInt8.toNat_ofNat'];omega
  grind
theorem Z6:∀(u v:Nat),Lib.decDigits u=Lib.decDigits v->u=v:=by
 intro u
 induction u using Nat.strongRecOn with
 |_ u g=>
  intro v h;have f:=congrArg List.length h;rw[Lib.decDigits_length,Lib.decDigits_length]at f
  have one:∀a b,a<10->b<10->UInt8.ofNat (48+a)=UInt8.ofNat (48+b)->a=b:=λa b j n e=>by
   have:=congrArg UInt8.toNat e;rw[UInt8.toNat_ofNat',UInt8.toNat_ofNat']at this;omega
  by_cases d:u<10
  .have c:v<10:=by
    apply Classical.byContradiction;intro c;rw[Lib.nDigits_small d,Lib.nDigits_big c]at f;have:=Lib.nDigits_pos (v/10);omega
   rw[Lib.decDigits.eq_def u,Lib.decDigits.eq_def v,dif_pos d,dif_pos c]at h
   grind
  .have c:¬v<10:=λc=>by
    grind
   rw[Lib.decDigits.eq_def u,Lib.decDigits.eq_def v,dif_neg d,dif_neg c]at h;have t:=append_inj' h rfl
   grind
theorem P6{n:Int}(c:0<=n)(d:n<18446744073709551616):IntKind.u64.wrap n=n:=by
 rw[IntKind.wrap_u64];omega
theorem agX{n:Int}(c:n<0)(d: -9223372036854775808<=n):IntKind.u64.wrap (0-IntKind.u64.wrap n)= -n:=by
 rw[IntKind.wrap_u64,IntKind.wrap_u64];omega
theorem Dx{n:Int}(h:rN n)(c:0<=n):lO n=Lib.decDigits n.toNat:=by
 unfold lO;rw[if_neg aD,P6 c (by have:=h.2;omega)]
theorem Dy{n:Int}(h:rN n)(c:n<0):lO n=45::Lib.decDigits (-n).toNat:=by
 unfold lO;rw[if_pos c,agX c h.1]
theorem anX{m n:Int}(c:rN m)(d:rN n)(h:lO m=lO n):m=n:=by
 have f:∀u r,Lib.decDigits u=45::r->False:=λu r e=>by
  have:=Tu u 45 (by rw[e];simp);simp at this
 by_cases g:0<=m<;>by_cases j:0<=n
 .rw[Dx c g,Dx d j]at h;have:=Z6 _ _ h;omega
 .rw[Dx c g,Dy d aD]at h
  grind
 .rw[Dy c aD,Dx d j]at h
  grind
 .rw[Dy c aD,Dy d aD]at h;have:=Z6 _ _ (List.cons.inj h).2;omega
theorem Ub{α:Type}{x:α}:∀{a b r r':List α},x∉a->x∉b->a++x::r=b++x::r'->a=b/\r=r'
 |[],[],r,r',_,_,h=>⟨rfl,(List.cons.inj h).2⟩
 |[],c::b,r,r',_,e,h=>by
  grind
 |c::a,[],r,r',f,_,h=>by
  grind
 |c::a,d::b,r,r',f,e,h=>by
  have g:=List.cons.inj h;obtain⟨j,n⟩:=Ub (λm=>f (by simp[m])) (λm=>e (by simp[m])) g.2
  grind
structure aFQ(κ:cw->ByteArray):Prop where
 inj:∀{a b:cw},a.length=b.length->(∀v∈a,VOk v)->(∀v∈b,VOk v)->(κ a=κ b↔a=b)
structure Step where
 op:Int
 table:Int
 wher:Pred
 columns:cq
 on:cu
 group:cq
 order:cv
 limit:Int
 left:Int
 right:Int
abbrev de:=List Step
variable{ts:de}{t:Step}
def Step.query(t:Step):Query:=.mk t.op t.table t.wher t.columns t.on t.group t.order t.limit []
structure sY(h:PH)(t:Step)(v:vE):Prop where
 op_:v.op=t.op
 table_:v.table=t.table
 where_:dO h t.wher v.where_
 columns_:Ints h v.columns t.columns
 on_:iD h v.on t.on
 group_:Ints h v.group t.group
 order_:jO h v.order t.order
 limit_:v.limit=t.limit
 left_:v.left=t.left
 right_:v.right=t.right
theorem sY.mono{v:vE}(x:sY h t v)(le:PH.le h h'):sY h' t v:=⟨x.op_,x.table_,x.where_.mono le,x.columns_.mono le,x.on_.mono le,x.group_.mono le,x.order_.mono le,x.limit_,x.left_,x.right_⟩
def aT(v:vE):CV:=.val (.agg ⟨v.enc⟩)
def hU(l:cq):di:=l.flatMap λn=>lO n++[32]
def yH(v:VV):di:=hU [v.kind]++(lO v.int++[32])++hU [(v.text.size:Int)]++v.text.data.toList
def Cf(o:OV):di:=hU [o.kind,o.index]++yH o.value
mutual
def mU:Pred->di
 |.mk op c l r args=>hU [op,c]++Cf l++Cf r++hU [(args.length:Int)]++lC args
def lC:dg->di
 |[]=>[]
 |p::ps=>mU p++lC ps
end
theorem fY:∀l:cq,(hU l).length<=22*l.length
 |[]=>by simp[hU]
 |n::l=>by
  have:=fY l;have c:=zB n;unfold hU at this⊢
  grind
def Sx:Vc.Spec:=λc m h K=>∃xs s l,c=[.lst 5 1 xs,cS s]/\Ints h s l/\fU m/\xs.length+22*l.length+100<=140737488355328/\K (.lst 5 1 (xs++bA (hU l))) m h
def bWQ:Vc.Spec:=λc m h K=>∃xs v,c=[.lst 5 1 xs,aV v]/\fU m/\xs.length+v.text.size+500<=140737488355328/\K (.lst 5 1 (xs++bA (yH v))) m h
def bVJ:Vc.Spec:=λc m h K=>∃xs o,c=[.lst 5 1 xs,aO o]/\fU m/\xs.length+o.value.text.size+1000<=140737488355328/\K (.lst 5 1 (xs++bA (Cf o))) m h
def bVX(N:Nat):Vc.Spec:=λc m h K=>∃xs v p,c=[.lst 5 1 xs,aP v]/\dO h p v/\SizeOf.sizeOf p<N/\fU m/\xs.length+(mU p).length+5000<=140737488355328/\K (.lst 5 1 (xs++bA (mU p))) m h
def bVZ:Vc.Spec:=λc m h K=>∃xs v p,c=[.lst 5 1 xs,aP v]/\dO h p v/\fU m/\xs.length+(mU p).length+5000<=140737488355328/\K (.lst 5 1 (xs++bA (mU p))) m h
noncomputable def aWJ(s:Sl)(m:MH)(h:PH):Ctx:=
 dD [(256,PL)] [(2,{A:=Nat×List cn,st:=λ⟨i,xs⟩=>bQ 21 23 [(0,.at (.lst 21)),(7,sv s),(8,iv s.len),(9,iv i)] [(21,.lst 5 1 xs)] m h})] [] [(256,[0])] true
abbrev I8(a:List cn)(b:Int)(c:List cn)(d:MH)(e:Nat)(g:Int->Prop):Prop:=∃(x:Int),aA (JJ a b=JJ c x) (fU d) (aA (iM (qR c 40)) (iM (qR (jX c (lO x)) 1*e)) (A0 (jX c (lO x))/\g x))
attribute [push_cast] I8
def Q4(xs:List cn)(s:Sl)(m:MH)(h:PH)(K:cr):Prop:=
  ∃(I:Nat×List cn->Prop)(d:Nat×List cn->Nat),(∃(x:Nat×List cn),aA (I x) (eL 21) (aA (aI s) (bJ s) (aA (bB x.1) (Option.some (Own.lst 5 1 xs)=Option.some (Own.lst 5 1 x.2)) (aA (m=m) (h=h) True))))/\∀(x:Nat×List cn),I x->aX (↑x.1:Int) (aH s) (bI (λb o=>aA (bK s.a b o) (0<=(↑x.1:Int)) ((↑x.1:Int)<aH s/\∃(y:Int),HY m h b o x.1 1 (bG y) (λe=>I8 x.2 y e m 1 (λi=>∃(c:Nat×List cn),aA (I c) (d c<d x) (aA (eL 21) (aI s) (aA (bJ s) (bD (gG (bF x.1 1)) c.1) (aA (Option.some (Own.lst 5 1 (fK (jX e (lO i)) (lD (wG 32))))=Option.some (Own.lst 5 1 c.2)) (m=m) (bL h h))))))))) (vN K x.2 m h)
abbrev rF(a:PH)(b:Nat)(c:List cn)(d:Sl->PH->(List cn)->Sl->cq->Prop):Prop:=bU a b c (λx e=>∃(f:List cn),B0 (λg j=>d x e f g j))
noncomputable abbrev oU(a:List cn)(b:Sl):dk:=fZ (CV.lst 5 1 a) b
abbrev Ao(a:List cn)(b:cq):Prop:=iM (qR a (22*b.length)+100)
abbrev Em(a:List cn)(b:Sl)(c:List cn)(d:Sl)(e:PH)(g:cq)(i:MH)(j:(List cn)->Prop):Prop:=aA (oU a b=oU c d) (Ints e d g) (aA (fU i) (Ao c g) (∃(x:List cn),j x))
attribute [push_cast] rF oU Ao Em
def Lo(xs:List cn)(v:VV)(m:MH)(h:PH)(K:cr):Prop:=
  rF h 1 (kJ (bG v.kind)) (λs e x n l=>Em xs s x n e l m (λf=>I8 (jX x (hU l)) v.int f m 1 (λi=>rF e 1 (kJ (bG (↑v.text.size:Int))) (λu g c j d=>aA (oU (fK (jX f (lO i)) (lD (wG 32))) u=oU c j) (Ints g j d) (aA (fU m) (Ao c d) (aA (nU (jX c (hU d)) (fR v.text) 1) (nP (jX c (hU d)) (fR v.text)) (vN K (jX c (hU d)++fR v.text) m g)))))))
theorem dK(a b:di):bA (a++b)=bA a++bA b:=by simp[bA]
theorem Ints.ofRow{s:Sl}(r:cC h s 1 (l.map eI))(c:l.length<=17592186044416):Ints h s l:=⟨r,c⟩
theorem Qr{x:Int}(c:l[i]? =some x):hU (l.take (i+1))=hU (l.take i)++lO x++[32]:=by
 rw[cd,c];simp[hU]
theorem Xr:cm 255 Sx:=by
 refine iH func255 ?_;rintro n m h K ⟨xs,s,l,rfl,f,u,z,A⟩;refine⟨aWJ s m h,rfl,aE EX aG,Q4 xs s m h K,ax,?_⟩;dsimp only[Q4,push_cast];have d:=f.slen;refine⟨λ⟨i,g⟩=>i<=l.length/\g=xs++bA (hU (l.take i)),λ⟨i,_⟩=>l.length-i,⟨(0,xs),⟨aD,by simp[hU,bA]⟩,MT⟩,?_⟩;rintro⟨i,g⟩ ⟨D,rfl⟩;dsimp only;refine aF (λc=>?_) (λy=>?_)
 .obtain⟨x,j⟩:=eU d c;obtain⟨b,o,e,r⟩:=f.at' j;have E:=fY (l.take i);have F:=zB x;have G:(l.take i).length=i:=bf
  refine⟨b,o,e,aD,c,x,.imm r,_,x,rfl,u,?_,?_,?_,(i+1,xs++bA (hU (l.take (i+1)))),⟨aD,rfl⟩,aD,?_⟩
  .rw[bt,aW];omega
  .rw[bt,bt,aW,aW];omega
  .rw[bt,bt,aW,aW];omega
  .rw[Qr j,dK,dK, <-append_assoc, <-append_assoc];exact MT
 grind
theorem XY:cm 192 bWQ:=by
 refine Fm func192 ?_;rintro g m h K ⟨xs,v,rfl,c,A,d⟩;refine⟨dD [(255,Sx),(256,PL)] [] [] [(255,[0]),(256,[0])] true,rfl,aE Xr (aE EX aG),Lo xs v m h (kX h K),ax,?_⟩;show Lo xs v m h (kX h K);dsimp only[Lo,push_cast];intro j D e n;have u:=fY [v.kind];have E:=zB v.int;have x:=fY [(v.text.size:Int)];have F:(fR v.text).length=v.text.size:=by simp[fR]
 simp only[ci,length_nil]at u x;refine⟨_,j,[v.kind],rfl,.ofRow n ay,c,bf,_,v.int,rfl,c,?_,?_,?_,λy G f z=>⟨_,y,[(v.text.size:Int)],rfl,.ofRow z ay,c,?_,?_,?_,?_⟩⟩
 .rw[bt,aW];omega
 .simp only[bt,aW];omega
 .simp only[bt,aW];omega
 .simp only[bt,aW,ci,length_nil];omega
 .simp only[bt,aW,ci,length_nil];omega
 .simp only[bt,aW,ci,length_nil];omega
 .refine .out (Sub.refl m) (e.trans f) ?_;rw[yH,dK,dK,dK,dK]at d;simp only[append_assoc]at d⊢
  exact d
theorem aDQ(v:VV):v.text.size<=(yH v).length:=by
 have:v.text.data.toList.length=v.text.size:=ay
 simp only[yH,bt];omega
theorem Uz(o:OV):o.value.text.size<=(Cf o).length:=by
 have:=aDQ o.value;simp only[Cf,bt];omega
theorem Mg{l:dg}{x:Pred}(c:l[i]? =some x):lC (l.take (i+1))=lC (l.take i)++mU x:=by
 have key:∀(a:dg),lC (a++[x])=lC a++mU x:=by
  intro a
  induction a with
  |nil=>simp[lC]
  |cons y a d=>simp[lC,d]
 rw[cd,c];exact key _
theorem Ur{l:dg}:∀(i:Nat),(lC (l.take i)).length<=(lC l).length:=by
 induction l with
 |nil=>intro i;simp
 |cons y a c=>
  intro i;cases i with
  |zero=>simp[lC]
  |succ i=>have:=c i;simp only[take_succ_cons,lC,bt];omega
def uX(l:cu):di:=l.flatMap λp=>hU [p.1,p.2]
def uV(l:cv):di:=l.flatMap λp=>hU [p.1,if p.2 then 1 else 0]
structure MF(t:Step):Prop where
 wher:(mU t.wher).length<=1000000000
 columns:t.columns.length<=1000000000
 on:t.on.length<=1000000000
 group:t.group.length<=1000000000
 order:t.order.length<=1000000000
theorem Uv{l:cu}{x:Int×Int}(c:l[i]? =some x):uX (l.take (i+1))=uX (l.take i)++hU [x.1,x.2]:=by
 rw[cd,c];simp[uX]
theorem L9{l:cv}{x:Int×Bool}(c:l[i]? =some x):uV (l.take (i+1))=uV (l.take i)++hU [x.1,if x.2 then 1 else 0]:=by
 rw[cd,c];simp[uV]
theorem HR:∀l:cu,(uX l).length<=44*l.length
 |[]=>by simp[uX]
 |n::l=>by
  have:=HR l;have c:=fY [n.1,n.2];unfold uX at this⊢
  grind
theorem NJ:∀l:cv,(uV l).length<=44*l.length
 |[]=>by simp[uV]
 |n::l=>by
  have:=NJ l;have c:=fY [n.1,if n.2 then 1 else 0];unfold uV at this⊢
  grind
def bnJ(N:Nat):Vc.Spec:=λc m h K=>∃v p,c=[aP v]/\dO h p v/\SizeOf.sizeOf p<N/\∀d h',PH.le h h'->dO h' p d->K (aP d) m h'
def Zo:Vc.Spec:=λc m h K=>∃v p,c=[aP v]/\dO h p v/\∀d h',PH.le h h'->dO h' p d->K (aP d) m h'
def NA:Vc.Spec:=λc m h K=>∃s l,c=[cS s]/\Ints h s l/\∀d h',PH.le h h'->Ints h' d l->K (cS d) m h'
def TP:Vc.Spec:=λc m h K=>∃s l,c=[cS s]/\iD h s l/\∀d h',PH.le h h'->iD h' d l->K (cS d) m h'
def afJ:Vc.Spec:=λc m h K=>∃s l,c=[cS s]/\jO h s l/\∀d h',PH.le h h'->jO h' d l->K (cS d) m h'
def YD(n c:Nat)(m:MH)(h:PH)(K:cr):Prop:=
  K jQ m h
theorem a8Z(n c:Nat)(m:MH)(h:PH)(K:cr):YD n c m h K=(tQ (dD [] [] [] [] false) Tryz.f136 (cA Tryz.f136) (entry Tryz.f136.ntmps [.val (.slice none n c)] m h) K):=ax
def YC(a:Addr)(n c:Nat)(m:MH)(h:PH)(K:cr):Prop:=
  ∃(y:List cn),jI 1 y (cC h (Sl.mk (Option.some a) n c) 1 y) (Ep 0 y 8) (iM (0+y.length)) (vP h (EN y) K m)
theorem a8X(a:Addr)(n c:Nat)(m:MH)(h:PH)(K:cr):YC a n c m h K=(tQ (dD [] [] [] [] false) Tryz.f136 (cA Tryz.f136) (entry Tryz.f136.ntmps [.val (.slice (some a) n c)] m h) K):=ax
def YB(n c:Nat)(m:MH)(h:PH)(K:cr):Prop:=
  K jQ m h
theorem a8Q(n c:Nat)(m:MH)(h:PH)(K:cr):YB n c m h K=(tQ (dD [] [] [] [] false) Tryz.f137 (cA Tryz.f137) (entry Tryz.f137.ntmps [.val (.slice none n c)] m h) K):=ax
def YA(a:Addr)(n c:Nat)(m:MH)(h:PH)(K:cr):Prop:=
  ∃(y:List cn),jI 2 y (cC h (Sl.mk (Option.some a) n c) 2 y) (Ep 0 y 16) (iM (0+y.length)) (bU h 2 (EN y) (λs d=>K (Dj s) m d))
theorem a7J(a:Addr)(n c:Nat)(m:MH)(h:PH)(K:cr):YA a n c m h K=(tQ (dD [] [] [] [] false) Tryz.f137 (cA Tryz.f137) (entry Tryz.f137.ntmps [.val (.slice (some a) n c)] m h) K):=ax
def Yx(n c:Nat)(m:MH)(h:PH)(K:cr):Prop:=
  K jQ m h
theorem a7Q(n c:Nat)(m:MH)(h:PH)(K:cr):Yx n c m h K=(tQ (dD [] [] [] [] false) Tryz.f141 (cA Tryz.f141) (entry Tryz.f141.ntmps [.val (.slice none n c)] m h) K):=ax
def Yw(a:Addr)(n c:Nat)(m:MH)(h:PH)(K:cr):Prop:=
  ∃(y:List cn),jI 2 y (cC h (Sl.mk (Option.some a) n c) 2 y) (Ep 0 y 16) (iM (0+y.length)) (bU h 2 (EN y) (λs d=>K (Dj s) m d))
theorem a6J(a:Addr)(n c:Nat)(m:MH)(h:PH)(K:cr):Yw a n c m h K=(tQ (dD [] [] [] [] false) Tryz.f141 (cA Tryz.f141) (entry Tryz.f141.ntmps [.val (.slice (some a) n c)] m h) K):=ax
theorem H9:cm 136 NA:=by
 refine eD (fn:=Tryz.f136) (c:=cA Tryz.f136) func136 rfl az ?_;rintro x m h K ⟨⟨a,n,c⟩,l,rfl,g,u⟩;refine⟨dD [] [] [] [] false,rfl,aG,?_⟩;have d:=g.len;cases a with
 |none=>
  have e:=NS g.row;subst e;show tQ _ _ _ (entry Tryz.f136.ntmps [.val (.slice none n c)] m h) K;rw[<-a8Z n c m h K];exact u ⟨none,0,0⟩ h (.refl _) ⟨.nil _ _,ay⟩
 |some a=>
  show tQ _ _ _ (entry Tryz.f136.ntmps [.val (.slice (some a) n c)] m h) K;rw[<-a8X a n c m h K];exact⟨_,qL l,g.row,bf,bf,λy h' j f=>u y h' j ⟨f,d⟩⟩
theorem O6:cm 137 TP:=by
 refine eD (fn:=Tryz.f137) (c:=cA Tryz.f137) func137 rfl az ?_;rintro x m h K ⟨⟨a,n,c⟩,l,rfl,g,u⟩;refine⟨dD [] [] [] [] false,rfl,aG,?_⟩;have d:=g.len;cases a with
 |none=>
  have e:=NS g.row;subst e;show tQ _ _ _ (entry Tryz.f137.ntmps [.val (.slice none n c)] m h) K;rw[<-a8Q n c m h K];exact u ⟨none,0,0⟩ h (.refl _) ⟨.nil _ _,ay⟩
 |some a=>
  show tQ _ _ _ (entry Tryz.f137.ntmps [.val (.slice (some a) n c)] m h) K;rw[<-a7J a n c m h K];exact⟨_,DQ l,g.row,bf,bf,λy h' j f=>u y h' j ⟨f,d⟩⟩
theorem Yy:cm 141 afJ:=by
 refine eD (fn:=Tryz.f141) (c:=cA Tryz.f141) func141 rfl az ?_;rintro x m h K ⟨⟨a,n,c⟩,l,rfl,g,u⟩;refine⟨dD [] [] [] [] false,rfl,aG,?_⟩;have d:=g.len;cases a with
 |none=>
  have e:=NS g.row;subst e;show tQ _ _ _ (entry Tryz.f141.ntmps [.val (.slice none n c)] m h) K;rw[<-a7Q n c m h K];exact u ⟨none,0,0⟩ h (.refl _) ⟨.nil _ _,ay⟩
 |some a=>
  show tQ _ _ _ (entry Tryz.f141.ntmps [.val (.slice (some a) n c)] m h) K;rw[<-a6J a n c m h K];exact⟨_,DP l,g.row,bf,bf,λy h' j f=>u y h' j ⟨f,d⟩⟩
def stepB(t:Step):di:=hU [t.op,t.table,t.limit,t.left,t.right]++mU t.wher++hU [(t.columns.length:Int)]++hU t.columns++hU [(t.on.length:Int)]++uX t.on++hU [(t.group.length:Int)]++hU t.group++hU [(t.order.length:Int)]++uV t.order
def bVQ:Vc.Spec:=λc m h K=>∃xs v t,c=[.lst 5 1 xs,aT v]/\sY h t v/\MF t/\fU m/\xs.length<=1000/\K (.lst 5 1 (xs++bA (stepB t))) m h
noncomputable def aZQ(s:Sl)(m:MH)(h:PH):Ctx:=
 dD [(256,PL)] [(2,{A:=Nat×List cn,st:=λ⟨i,xs⟩=>bQ 21 23 [(0,.at (.lst 21)),(7,sv s),(8,iv s.len),(9,iv i)] [(21,.lst 5 1 xs)] m h})] [] [(256,[0])] true
noncomputable def aYJ(N:Nat)(v:PV)(m:MH):Ctx:=
 dD [(213,Sx),(263,bVJ),(214,bVX N)] [(6,{A:=Nat×List cn×PH,st:=λ⟨i,xs,h⟩=>bQ 40 42 [(0,.at (.lst 40)),(29,sv v.args),(30,iv v.args.len),(31,iv i)] [(40,.lst 5 1 xs)] m h})] [] [(213,[0]),(263,[0]),(214,[0])] true
noncomputable def a8J(N:Nat)(v:PV)(m:MH):Ctx:=
 dD [(135,bnJ N)] [(4,{A:=Nat×dr×PH,st:=λ⟨i,c,h⟩=>bQ 24 25 [(1,.at (.ptr 1 0)),(2,.at (.ptr 2 0)),(9,sv v.args),(10,iv v.args.len),(11,iv i)] [(1,.cells 32 ((v.enc.take 12).map .val++[.lst 20])),(2,.cells 32 (fS.enc.map .val)),(20,.lst 32 13 (c.map PV.enc))] m h})] [] [] false
noncomputable def a7X(v:vE)(m:MH):Ctx:=
 dD [(213,Sx),(214,bVZ)] [(7,{A:=Nat×List cn×PH,st:=λ⟨i,xs,h⟩=>bQ 91 93 [(0,.at (.lst 91)),(3,.at (.ptr 3 0)),(44,sv v.on),(45,iv v.on.len),(46,iv i)] [(3,.cells 123 (v.enc.map .val)),(91,.lst 5 1 xs)] m h}),
  (15,{A:=Nat×List cn×PH,st:=λ⟨i,xs,h⟩=>bQ 91 93 [(0,.at (.lst 91)),(75,sv v.order),(76,iv v.order.len),(77,iv i)] [(91,.lst 5 1 xs)] m h})] [] [(213,[0]),(214,[0])] true
def Re(xs:List cn)(s:Sl)(m:MH)(h:PH)(K:cr):Prop:=
  ∃(I:Nat×List cn->Prop)(d:Nat×List cn->Nat),(∃(x:Nat×List cn),aA (I x) (eL 21) (aA (aI s) (bJ s) (aA (bB x.1) (Option.some (Own.lst 5 1 xs)=Option.some (Own.lst 5 1 x.2)) (aA (m=m) (h=h) True))))/\∀(x:Nat×List cn),I x->aX (↑x.1:Int) (aH s) (bI (λb o=>aA (bK s.a b o) (0<=(↑x.1:Int)) ((↑x.1:Int)<aH s/\∃(y:Int),HY m h b o x.1 1 (bG y) (λe=>I8 x.2 y e m 1 (λi=>∃(c:Nat×List cn),aA (I c) (d c<d x) (aA (eL 21) (aI s) (aA (bJ s) (bD (gG (bF x.1 1)) c.1) (aA (Option.some (Own.lst 5 1 (fK (jX e (lO i)) (lD (wG 32))))=Option.some (Own.lst 5 1 c.2)) (m=m) (bL h h))))))))) (vN K x.2 m h)
noncomputable abbrev uC(a:List cn)(b:cn):dk:=gZ (CV.lst 5 1 a) (fM b)
abbrev M8(a:dk)(b:List cn)(c:Sl)(d:PH)(e:cq)(g:MH)(i:(Nat×List cn×PH->Prop)->(Nat×List cn×PH)->Prop)(j:(Nat×List cn×PH->Prop)->(Nat×List cn×PH->Nat)->(Nat×List cn×PH)->Prop):Prop:=aA (a=oU b c) (Ints d c e) (aA (fU g) (Ao b e) (∃(x:Nat×List cn×PH->Prop)(n:Nat×List cn×PH->Nat),(∃(f:Nat×List cn×PH),i x f)/\∀(f:Nat×List cn×PH),j x n f))
abbrev D5(a:List cn)(b:cq)(c:Nat×List cn×PH):Prop:=Option.some (Own.lst 5 1 (jX a (hU b)))=Option.some (Own.lst 5 1 c.2.1)
noncomputable abbrev qY(a:Nat×List cn×PH):Nat->Nat->Option Value:=a.2.2
attribute [push_cast] uC M8 D5 qY
def Ln(N:Nat)(xs:List cn)(v:PV)(m:MH)(h:PH)(K:cr):Prop:=
  rF h 1 (jV (bG v.op) (bG v.cmp)) (λs n x G l=>Em xs s x G n l m (λe=>∃(o:OV),aA (uC (jX x (hU l)) (uN v)=uC e o.enc) (fU m) (iM (qR e (IT o).size+1000)/\∃(f:List cn)(g:OV),aA (uC (jX e (Cf o)) (vA v)=uC f g.enc) (fU m) (iM (qR f (IT g).size+1000)/\rF n 1 (kJ (bG (mX v))) (λH u z J A=>M8 (oU (jX f (Cf g)) H) z J u A m (λI c=>aA (I c) (eL 40) (aA (aI v.args) (uY v) (aA (bB c.1) (D5 z A c) (aA (m=m) (u=qY c) True)))) (λI D c=>I c->aX (↑c.1:Int) (aH v.args) (bI (λb E=>aA (bK v.args.a b E) (0<=(↑c.1:Int)) ((↑c.1:Int)<aH v.args/\∃(y:PV),HY m (qY c) b E c.1 13 y.enc (λj=>pE (λF p
 =>aA (uC c.2.1 y.enc=uC j F.enc) (dO (qY c) p F) (aA (pB p N) (fU m) (iM (qR j (mU p).length+5000)/\∃(d:Nat×List cn×PH),aA (I d) (D d<D c) (aA (eL 40) (aI v.args) (aA (uY v) (bD (gG (bF c.1 1)) d.1) (aA (Option.some (Own.lst 5 1 (jX j (mU p)))=Option.some (Own.lst 5 1 d.2.1)) (m=m) (bL (qY c) (qY d)))))))))))) (vN K c.2.1 m (qY c))))))))
noncomputable abbrev GX(a:Nat×dr×PH):List cn:=List.map PV.enc a.2.1
attribute [push_cast] GX
def RS(N:Nat)(v:PV)(m:MH)(h:PH)(K:cr):Prop:=
  ∃(I:Nat×dr×PH->Prop)(e:Nat×dr×PH->Nat),(∃(x:Nat×dr×PH),aA (I x) eG (aA eK (aI v.args) (aA (uY v) (bB x.1) (aA (eQ (oQ 32 (cQ (fV v.op) (fV v.cmp) (cQ (fV v.left.kind) (sI v.left) (cQ (sE v.left) (fV (wO v.left)) (cQ (sF v.left) (fV v.right.kind) (cQ (sI v.right) (sE v.right) (cQ (fV (wO v.right)) (sF v.right) (nL (At.lst 20)))))))))) mE (bO (qG 32 13 (GX x)) (m=m) (h=x.2.2))))))/\∀(x:Nat×dr×PH),I x->aX (↑x.1:Int) (aH v.args) (bI (λb o=>aA (bK v.args.a b o) (0<=(↑x.1:Int)) ((↑x.1:Int)<aH v.args/\∃(y:PV),aU m x.2.2 b (bN o x.1 13) y.enc/\pE (λf p=>aA (fP (jU y) (jU f)) (dO x.2.2 p f) (pB p N/\Cy x.2.2 p (λg d=>mV (GX x) 136 (∃(c:Nat
 ×dr×PH),aA (I c) (e c<e x) (aA eG eK (aA (aI v.args) (bJ v.args) (aA (bD (gG (bF x.1 1)) c.1) (eQ (oQ 32 (cQ (fV v.op) (fV v.cmp) (cQ (fV v.left.kind) (sI v.left) (cQ (sE v.left) (fV (wO v.left)) (cQ (sF v.left) (fV v.right.kind) (cQ (sI v.right) (sE v.right) (cQ (fV (wO v.right)) (sF v.right) (nL (At.lst 20)))))))))) (uZ mE (Option.some (Own.lst 32 13 (fK (GX x) g.enc))=Option.some (Own.lst 32 13 (GX c))) (m=m) d c.2.2))))))))))) (bU x.2.2 13 (GX x) (λs d=>K (fM (aL (eN v.op) (eN v.cmp) (aL (tE v) (tF v) (aL (jY v.left) (sA v) (aL (sB v) (sD v) (aL (tH v) (tI v) (aL (tJ v) (tK v) (aY s)))))))) m d))
def Lj(xs:List cn)(o:OV)(m:MH)(h:PH)(K:cr):Prop:=
  rF h 1 (lD (j4 o)::jV (lD (qC o)) (bG (A8 o))) (λs e x n l=>Em xs s x n e l m (λf=>I8 (jX x (hU l)) (wO o) f m 1 (λi=>rF e 1 (kJ (bG (↑(IT o).size:Int))) (λu g c j d=>aA (oU (fK (jX f (lO i)) (lD (wG 32))) u=oU c j) (Ints g j d) (aA (fU m) (Ao c d) (aA (nU (jX c (hU d)) (fR (IT o)) 1) (nP (jX c (hU d)) (fR (IT o))) (vN K (jX c (hU d)++fR (IT o)) m g)))))))
abbrev lV(a:vE):Prop:=eQ (mZ 123 a.enc)
attribute [push_cast] lV
def Lw(xs:List cn)(v:vE)(m:MH)(h:PH)(K:cr):Prop:=
  rF h 1 (bG v.op::bG v.table::bG v.limit::jV (bG v.left) (bG v.right)) (λs G x s1 l=>Em xs s x s1 G l m (λH=>pE (λR p=>aA (uC (jX x (hU l)) v.where_.enc=uC H R.enc) (dO G p R) (aA (fU m) (iM (qR H (mU p).length+5000)) (rF G 1 (kJ (bG (aH v.columns))) (λs2 J S s3 T=>Em (jX H (mU p)) s2 S s3 J T m (λL=>B0 (λU M=>aA (oU (jX S (hU T)) v.columns=oU L U) (Ints J U M) (aA (fU m) (Ao L M) (rF J 1 (kJ (bG (aH v.on))) (λs5 V W s6 X=>M8 (oU (jX L (hU M)) s5) W s6 V X m (λI d=>aA (I d) (eL 91) (aA cG (aI v.on) (aA (bJ v.on) (bB d.1) (aA (lV v) (D5 W X d) (bP (m=m) V (qY d)))))) (λI Y d=>I d->aX
 (↑d.1:Int) (aH v.on) (bI (λb o=>aA (bK v.on.a b o) (0<=(↑d.1:Int)) ((↑d.1:Int)<aH v.on/\∃(y:Int×Int),aA (aU m (qY d) b (bN o d.1 2) (uH y)) (bV 0) (aA Bf (bV 1) (Bg/\rF (qY d) 1 (jV (bG y.1) (bG y.2)) (λO n u E z=>aA (oU d.2.1 O=oU u E) (Ints n E z) (aA (fU m) (Ao u z) (∃(f:Nat×List cn×PH),aA (I f) (Y f<Y d) (aA (eL 91) cG (aA (aI v.on) (bJ v.on) (aA (bD (gG (bF d.1 1)) f.1) (lV v) (bO (D5 u z f) (m=m) (n=qY f))))))))))))) (rF (qY d) 1 (kJ (bG (aH v.group))) (λO n u E z=>Em d.2.1 O u E n z m (λf=>B0 (λZ P=>aA (oU (jX u (hU z)) v.group=oU f Z) (Ints n Z P) (aA (fU m) (Ao f P)
 (rF n 1 (kJ (bG (aH v.order))) (λa h5 x8 a1 l6=>M8 (oU (jX f (hU P)) a) x8 a1 h5 l6 m (λI1 c=>aA (I1 c) (eL 91) (aA (aI v.order) (bJ v.order) (aA (bB c.1) (D5 x8 l6 c) (aA (m=m) (h5=qY c) True)))) (λI1 F c=>I1 c->aX (↑c.1:Int) (aH v.order) (bI (λb o=>aA (bK v.order.a b o) (0<=(↑c.1:Int)) ((↑c.1:Int)<aH v.order/\∃(y:Int×Bool),aU m (qY c) b (bN o c.1 2) (z7 y)/\branch y.2 (rF (qY c) 1 (jV (bG y.1) (bG 1)) (λQ A g D j=>aA (oU c.2.1 Q=oU g D) (Ints A D j) (aA (fU m) (Ao g j) (∃(e:Nat×List cn×PH),aA (I1 e) (F e<F c) (aA (eL 91) (aI v.order) (aA (bJ v.order) (bD (gG (bF c.1 1)) e.1) (aA (D5 g j e) (m=m) (bL A (qY
 e))))))))) (rF (qY c) 1 (jV (bG y.1) (lD cW)) (λQ A g D j=>aA (oU c.2.1 Q=oU g D) (Ints A D j) (aA (fU m) (Ao g j) (∃(e:Nat×List cn×PH),aA (I1 e) (F e<F c) (aA (eL 91) (aI v.order) (aA (bJ v.order) (bD (gG (bF c.1 1)) e.1) (aA (D5 g j e) (m=m) (bL A (qY e)))))))))))) (vN K c.2.1 m (qY c))))))))))))))))))))))
theorem H5:cm 213 Sx:=by
 refine iH func213 ?_;rintro n m h K ⟨xs,s,l,rfl,f,u,z,A⟩;refine⟨aZQ s m h,rfl,aE EX aG,Re xs s m h K,ax,?_⟩;dsimp only[Re,push_cast];have d:=f.slen;refine⟨λ⟨i,g⟩=>i<=l.length/\g=xs++bA (hU (l.take i)),λ⟨i,_⟩=>l.length-i,⟨(0,xs),⟨aD,by simp[hU,bA]⟩,MT⟩,?_⟩;rintro⟨i,g⟩ ⟨D,rfl⟩;dsimp only;refine aF (λc=>?_) (λy=>?_)
 .obtain⟨x,j⟩:=eU d c;obtain⟨b,o,e,r⟩:=f.at' j;have E:=fY (l.take i);have F:=zB x;have G:(l.take i).length=i:=bf
  refine⟨b,o,e,aD,c,x,.imm r,_,x,rfl,u,?_,?_,?_,(i+1,xs++bA (hU (l.take (i+1)))),⟨aD,rfl⟩,aD,?_⟩
  .rw[bt,aW];omega
  .rw[bt,bt,aW,aW];omega
  .rw[bt,bt,aW,aW];omega
  .rw[Qr j,dK,dK, <-append_assoc, <-append_assoc];exact MT
 grind
theorem akZ(o:OV):Cf o=hU [o.kind,o.index,o.value.kind]++(lO o.value.int++[32])++hU [(o.value.text.size:Int)]++o.value.text.data.toList:=by
 simp[Cf,yH,hU]
theorem Xo:cm 263 bVJ:=by
 refine Fm func263 ?_;rintro g m h K ⟨xs,o,rfl,c,A,d⟩;refine⟨dD [(213,Sx),(256,PL)] [] [] [(213,[0]),(256,[0])] true,rfl,aE H5 (aE EX aG),Lj xs o m h (kX h K),ax,?_⟩;show Lj xs o m h (kX h K);dsimp only[Lj,push_cast];intro j D e n;have u:=fY [o.kind,o.index,o.value.kind];have E:=zB o.value.int;have x:=fY [(o.value.text.size:Int)];have F:(fR o.value.text).length=o.value.text.size:=by simp[fR]
 simp only[ci,length_nil]at u x;refine⟨_,j,[o.kind,o.index,o.value.kind],rfl,.ofRow n ay,c,bf,_,o.value.int,rfl,c,?_,?_,?_,λy G f z=>⟨_,y,[(o.value.text.size:Int)],rfl,.ofRow z ay,c,?_,?_,?_,?_⟩⟩
 .rw[bt,aW];omega
 .simp only[bt,aW];omega
 .simp only[bt,aW];omega
 .simp only[bt,aW,ci,length_nil];omega
 .simp only[bt,aW,ci,length_nil];omega
 .simp only[bt,aW,ci,length_nil];omega
 .refine .out (Sub.refl m) (e.trans f) ?_;rw[akZ,dK,dK,dK,dK]at d;simp only[append_assoc]at d⊢
  exact d
theorem Vx:∀N,cm 214 (bVX N)
 |0=>by
  refine QB (fn:=Tryz.f214) (c:=cA Tryz.f214) func214 rfl az ?_;rintro n m h K ⟨xs,v,p,rfl,_,L,_,_,_⟩;omega
 |N+1=>by
  refine Fm func214 ?_;rintro n m h K ⟨xs,v,p,rfl,M,L,j,O,I⟩;refine⟨aYJ N v m,rfl,aE H5 (aE Xo (aE (Vx N) aG)),Ln N xs v m h (kX h K),ax,?_⟩;show Ln N xs v m h (kX h K);dsimp only[Ln,push_cast];have f:=@vZ p;obtain⟨op,P,l,r,d⟩:=p;obtain⟨rfl,rfl,rfl,rfl,x⟩:=M.parts;have y:=x.slen;have z:=x.len;simp only[Pred.args]at f;have b1:=Uz v.left;have b2:=Uz v.right;have Q:=fY [v.op,v.cmp];have R:=fY [(d.length:Int)];simp only[ci,length_nil]at Q R;simp only[mU,bt]at O;intro S h1 A T;refine⟨_,S,[v.op,v.cmp],rfl,.ofRow T ay,j,bf,_,v.left,rfl,j,?_,_,v.right,rfl,j,?_,λU V D W=>⟨_,U,[(v.args.len:Int)],rfl,.ofRow W ay,j,?_,?_⟩⟩
  .simp only[bt,aW];omega
  .simp only[bt,aW];omega
  .simp only[bt,aW,ci,length_nil];omega
  rw[y];refine⟨λ⟨i,J,E⟩=>i<=d.length/\PH.le h E/\J=xs++bA (hU [v.op,v.cmp])++bA (Cf v.left)++bA (Cf v.right)++bA (hU [(d.length:Int)])++bA (lC (d.take i)),λ⟨i,_,_⟩=>d.length-i,⟨(0,_,V),⟨aD,A.trans D,rfl⟩,?_⟩,?_⟩
  .simp only[take_zero,lC,bA,map_nil,append_nil];exact MT
  rintro⟨i,J,E⟩ ⟨hi,g,rfl⟩;dsimp only;refine aF (λF=>?_) (λX=>?_)
  .obtain⟨q,G⟩:=eU rfl F;obtain⟨Y,o,u,e,Z,H⟩:=(x.mono g).at G;have b3:=Ur (l:=d) (i+1);rw[Mg G,bt]at b3;refine⟨Y,o,e,aD,aD,u,.imm Z,_,u,q,rfl,H,?_,j,?_,(i+1,xs++bA (hU [v.op,v.cmp])++bA (Cf v.left)++bA (Cf v.right)++bA (hU [(d.length:Int)])++bA (lC (d.take (i+1))),E),⟨aD,g,rfl⟩,aD,?_⟩
   .grind
   .simp only[bt,aW];omega
   .rw[Mg G,dK, <-append_assoc];exact MT
  .rw[bu aD];refine .out (Sub.refl m) g ?_;simp only[mU,dK, <-append_assoc]at I;exact I
theorem XR:cm 214 bVZ:=iQ Vx λ_ _ _ _⟨xs,v,p,e,c,d,f,g⟩=>⟨SizeOf.sizeOf p+1,xs,v,p,e,c,aD,d,f,g⟩
theorem VJ:∀N,cm 135 (bnJ N)
 |0=>by
  refine eD (fn:=Tryz.f135) (c:=cA Tryz.f135) func135 rfl az ?_;rintro E m h K ⟨v,p,rfl,_,O,_⟩;omega
 |N+1=>by
  refine iH func135 ?_;rintro E m h K ⟨v,p,rfl,P,O,Q⟩;refine⟨a8J N v m,rfl,aE (VJ N) aG,RS N v m h K,ax,?_⟩;dsimp only[RS,push_cast];have f:=@vZ p;obtain⟨op,R,l,r,ps⟩:=p;obtain⟨rfl,rfl,rfl,rfl,F⟩:=P.parts;have S:=F.slen;have y:=F.len;simp only[Pred.args]at f;refine⟨λ⟨i,z,e⟩=>i<=ps.length/\PH.le h e/\z.length=i/\∀(j:Nat) x,(ps.take i)[j]? =some x->∃u,z[j]? =some u/\dO e x u,λ⟨i,_,_⟩=>ps.length-i,⟨(0,[],h),⟨aD,.refl _,rfl,λj x e=>by simp at e⟩,MT⟩,?_⟩;rintro⟨i,z,e⟩ ⟨hi,g,G,n⟩;dsimp only;refine aF (λA=>?_) (λT J h' d D=>Q ⟨v.op,v.cmp,v.left,v.right,J⟩ h' (g.trans d) (dO.mk (v:=⟨v.op,v.cmp,v.left,v.right,J⟩) ⟨⟨z,D,aD,λj x e=>?_⟩,y⟩))
  .obtain⟨q,L⟩:=eU S A;obtain⟨U,V,u,W,X,H⟩:=(F.mono g).at L;refine⟨U,V,W,aD,A,u,.imm X,u,q,rfl,H,?_,λY h' d Z=>⟨bf,bf,(i+1,z++[Y],h'),⟨aD,g.trans d,by simp[G],λj x e=>?_⟩,aD,?_⟩⟩
   .grind
   .rw[cd,L]at e;by_cases hj:j<i
    .rw[getElem?_append_left bf]at e;obtain⟨u',M,I⟩:=n j x e;exact⟨u',bg,I.mono d⟩
    grind
   .rw[bw];exact MT
  .rw[bu aD]at n;obtain⟨u,M,I⟩:=n j x e;exact⟨u,M,I.mono d⟩
theorem O7:cm 135 Zo:=iQ VJ λ_ _ _ _⟨v,p,e,c,d⟩=>⟨SizeOf.sizeOf p+1,v,p,e,c,aD,d⟩
theorem Yz:cm 140 bVQ:=by
 refine Fm func140 ?_;rintro a' m h K ⟨xs,v,t,rfl,f,E,j,y,F⟩;refine⟨a7X v m,rfl,aE H5 (aE XR aG),Lw xs v m h (kX h K),ax,?_⟩;show Lw xs v m h (kX h K);dsimp only[Lw,push_cast];have G:=f.on_.slen;have H:=f.order_.slen;have S:=f.columns_.slen;have T:=f.group_.slen;have k1:=E.wher;have k2:=E.columns;have k3:=E.on;have k4:=E.group;have k5:=E.order;have W:=fY [v.op,v.table,v.limit,v.left,v.right];have X:=fY [(v.columns.len:Int)];have n3:=fY t.columns;have Y:=fY [(v.on.len:Int)];have Z:=fY [(v.group.len:Int)];have n6:=fY t.group;have n7:=fY [(v.order.len:Int)];have n8:=HR t.on;simp only[ci,length_nil]at W X Y Z n7;simp only[stepB,dK, <-append_assoc]at F;rw[<-f.op_, <-f.table_, <-f.limit_, <-f.left_, <-f.right_, <-S, <-G, <-T, <-H]at F;intro z D d u;refine⟨_,z,[v.op,v.table,v.limit,v.left,v.right],rfl,.ofRow u ay,j,by simp only[ci,length_nil];omega,_,v.where_,t.wher,rfl,f.where_.mono d,j,by simp only[bt,aW];omega,λs2 h2 I r2=>⟨_,s2,[(v.columns.len:Int)],rfl,.ofRow r2 ay,j,by simp only[bt,aW,ci,length_nil];omega,_,v.columns,t.columns,rfl,f.columns_.mono (d.trans I),j,by simp only[bt,aW];omega,λs3 h3 U r3=>⟨_,s3,[(v.on.len:Int)],rfl,.ofRow r3 ay,j,by simp only[bt,aW,ci,length_nil];omega,?_⟩⟩⟩;generalize hP:xs++bA (hU [v.op,v.table,v.limit,v.left,v.right])++bA (mU t.wher)++bA (hU [(v.columns.len:Int)])++bA (hU t.columns)++bA (hU [(v.on.len:Int)])=P at F⊢
 have lP:P.length<=30000000000:=by rw[<-hP];simp only[bt,aW];omega
 have J:=(d.trans I).trans U;clear hP u r2 r3 W X n3 Y;refine⟨λ⟨i,L,y⟩=>i<=t.on.length/\PH.le h y/\L=P++bA (uX (t.on.take i)),λ⟨i,_,_⟩=>t.on.length-i,⟨(0,P,h3),⟨aD,J,by simp[uX,bA]⟩,MT⟩,?_⟩;rintro⟨i,L,y⟩ ⟨hi,c,rfl⟩;dsimp only;refine aF (λn=>?_) (λM=>?_)
 .obtain⟨x,g⟩:=eU G n;obtain⟨b,o,e,r⟩:=(f.on_.mono c).at g;have q1:=HR (t.on.take i);have q2:(t.on.take i).length=i:=bf
  refine⟨b,o,e,aD,n,x,.imm r,aD,aD,aD,aD,λz D d u=>⟨_,z,[x.1,x.2],rfl,.ofRow u ay,j,?_,(i+1,P++bA (uX (t.on.take (i+1))),D),⟨aD,c.trans d,rfl⟩,aD,?_⟩⟩
  .simp only[bt,aW,ci,length_nil];omega
  .rw[Uv g,dK, <-append_assoc];exact MT
 rw[bu aD];intro s4 h4 A r4;refine⟨_,s4,[(v.group.len:Int)],rfl,.ofRow r4 ay,j,by simp only[bt,aW,ci,length_nil];omega,_,v.group,t.group,rfl,f.group_.mono (c.trans A),j,by simp only[bt,aW];omega,λs5 h5 O r5=>⟨_,s5,[(v.order.len:Int)],rfl,.ofRow r5 ay,j,by simp only[bt,aW,ci,length_nil];omega,?_⟩⟩;generalize hQ:P++bA (uX t.on)++bA (hU [(v.group.len:Int)])++bA (hU t.group)++bA (hU [(v.order.len:Int)])=Q at F⊢
 have lQ:Q.length<=200000000000:=by rw[<-hQ];simp only[bt,aW];omega
 have R:=(c.trans A).trans O;clear hQ r4 r5 Z n6 n7 n8 c M hi A O;clear i y;refine⟨λ⟨i,L,y⟩=>i<=t.order.length/\PH.le h y/\L=Q++bA (uV (t.order.take i)),λ⟨i,_,_⟩=>t.order.length-i,⟨(0,Q,h5),⟨aD,R,by simp[uV,bA]⟩,MT⟩,?_⟩;rintro⟨i,L,y⟩ ⟨hi,c,rfl⟩;dsimp only;refine aF (λn=>?_) (λM=>?_)
 .obtain⟨x,g⟩:=eU H n;obtain⟨b,o,e,r⟩:=(f.order_.mono c).at g;have q1:=NJ (t.order.take i);have q2:(t.order.take i).length=i:=bf
  refine⟨b,o,e,aD,n,x,.imm r,aC (λV z D d u=>⟨_,z,[x.1,1],rfl,.ofRow u ay,j,?_,(i+1,Q++bA (uV (t.order.take (i+1))),D),⟨aD,c.trans d,rfl⟩,aD,?_⟩) (λV z D d u=>⟨_,z,[x.1,0],rfl,.ofRow u ay,j,?_,(i+1,Q++bA (uV (t.order.take (i+1))),D),⟨aD,c.trans d,rfl⟩,aD,?_⟩)⟩
  .simp only[bt,aW,ci,length_nil];omega
  .rw[L9 g,dK,V, <-append_assoc];exact MT
  .simp only[bt,aW,ci,length_nil];omega
  .rw[L9 g,dK,V, <-append_assoc];exact MT
 rw[bu aD];exact .out (Sub.refl m) c F
def zH(q:Query):Prop:=
 match q with
 |.mk op ta w co on gr od li args=>MF ⟨op,ta,w,co,on,gr,od,li,0,0⟩/\∀a∈args,zH a
 termination_by SizeOf.sizeOf q
def Steps(h:PH)(vs:List vE)(ts:de):Prop:=vs.length=ts.length/\∀(i:Nat) t,ts[i]? =some t->∃v,vs[i]? =some v/\sY h t v
theorem Up{op:Int}{w:Pred}{on:cu}{args:cz}:
 zH (.mk op ta w co on gr od li args)↔MF ⟨op,ta,w,co,on,gr,od,li,0,0⟩/\∀a∈args,zH a:=by rw[zH.eq_def]
theorem dE.blk{s:Sl}{E:Nat}(h:dE m s E sz xs)(e:s.a=some ⟨b,i,none⟩):∃c,m b=some (.cells c E (0,0)):=by
 rcases h.ex with⟨rfl,_⟩|⟨f,d,c,rfl,g,_⟩
 .cases e
 grind
theorem dE.slen{s:Sl}{E:Nat}(h:dE m s E sz xs):s.len=xs.length:=by
 rcases h.ex with⟨rfl,rfl⟩|⟨e,c,d,rfl,f,_⟩<;>rfl
theorem dE.keep{s:Sl}{E:Nat}(h:dE m s E sz xs)(f:∀b i,s.a=some ⟨b,i,none⟩->m' b=m b):dE m' s E sz xs:=by
 refine⟨h.rows,?_⟩;rcases h.ex with c|⟨b,d,e,rfl,g,j⟩
 .exact .inl c
 grind
def Dr(t:Step):ByteArray:=⟨(stepB t).toArray⟩
def bT(t:Step)(ts:de):de×Nat:=match ts.findIdx? (λx=>stepB x==stepB t)with
 |some k=>(ts,k)
 |none=>(ts++[t],ts.length)
structure fN(m0 m:MH)(h:PH)(cb mb:Nat)(ts:de)(rs:cq):Prop where
 sub:Sub m0 m
 cb0:m0 cb=none
 mb0:m0 mb=none
 map_:wS m mb (ts.mapIdx λi t=>(.string (Dr t),.int .i64 i))
 nodup:(ts.map stepB).Nodup
 ex:∃s r,m cb=some (.cells #[.slice s.a s.len s.cap,.slice r.a r.len r.cap,.map (some mb)] 132 (0,0))/\(∃vs,dE m s 123 22 (vs.map vE.enc)/\Steps h vs ts)/\dE m r 3 1 (rs.map eI)/\
  (∀b i,s.a=some ⟨b,i,none⟩->m0 b=none)/\(∀b i,r.a=some ⟨b,i,none⟩->m0 b=none)
def Sz:Vc.Spec:=λc m h K=>∃v t d cb e ts rs,c=[cP cb,aT v]/\sY h t v/\MF t/\fN d m h cb e ts rs/\fU d/\ts.length<=100000/\
 ∀m' h',PH.le h h'->fN d m' h' cb e (bT t ts).1 rs->K (cI (bT t ts).2) m' h'
noncomputable def byQ:Ctx:=tR [(140,bVQ),(135,Zo),(136,NA),(137,TP),(141,afJ)] [] [] [] [1060] [(140,[0])] false
abbrev Oh(a:vE->Step->Prop):Prop:=∃(x:vE)(c:Step),a x c
noncomputable abbrev nI(a:Nat):cn:=lD (Value.map (Option.some a))
noncomputable abbrev En(a:di):Value:=Value.string (ByteArray.mk (Array.mk a))
abbrev JI(a:Sl)(b:PH)(c:cu->Prop):Prop:=KS (λx d=>aA (fP (Dj a) (Dj x)) (iD b x d) (c d))
abbrev SZ(a:Sl->cv->Prop):Prop:=∃(x:Sl)(c:cv),a x c
attribute [push_cast] Oh nI En JI SZ
def Vb(cb:Nat)(v:vE)(m:MH)(h:PH)(K:cr):Prop:=
  ∃(x:List cn),Oh (λJ t=>aA (uC [] v.enc=uC x J.enc) (sY h t J) (aA (MF t) (fU m) (lY x.length/\∃(b:di),jX x (stepB t)=bA b/\∃(y:Nat),aU m h cb 2 (nI y)/\∃(k:List (Value×Int))(O:Value->Prop),aA (wS m y (List.map (fun(p:Value×Int)=>(p.1,eN p.2)) k)) (EM O) (aA (O (En b)) (∀(e:Value×Int),List.Mem e k->O e.1) (((∀(e:Value×Int),List.Mem e k->e.1=En b->False)->pE (λL p=>aA (fP (jU v.where_) (jU L)) (dO h p L) (Cy h p (λd M=>vR v.columns M (λl=>jJ (λs j=>cZ M j (Ints j s l) (JI v.on j (λV=>jJ (λP n=>cZ j n (iD n P V) (vR v.group n (λW=>jJ (λQ u=>cZ n u (Ints u Q W) (SZ (λR S=>aA (fP (Dj v.order)
 (Dj R)) (jO u R S) (jJ (λT f=>cZ u f (jO f T S) (∃(g:Sl),aU m f cb 0 (aY g)/\∃(z:Sl),FM (aU m f cb 0 (aY z)) (aU m f cb 0 (aY z)) (λF=>oZ (dE m (gJ z) 123 22 F) F 272 (lE (λU G=>eF m G (gJ z) U 123 22 (fK F (aL (eN v.op) (eN v.table) (aL (eN d.op) (eN d.cmp) (aL (tE d) (tF d) (aL (eN (A8 d.left)) (sA d) (aL (sB d) (sD d) (aL (tH d) (tI d) (aL (tJ d) (tK d) (aL (hJ d.args) (hJ s) (aL (hJ P) (hJ Q) (aL (hJ T) (eN v.limit) (AV v.left v.right))))))))))))->j9 (λc E=>aA (E8 G cb (kI c E 0)) (0<c.size) (∀(A:MH),dQ G A cb (kW (hJ U) 1 c.toList) E->∃(D:Nat),aU A f cb 2 (nI D)/\JH A D (λO1=>O1 (En b)) (λH=>H) (λe=>
 e) (En b) (λH=>∀(I:MH),qV A I D->wS I D (H++Db (En b) (eN (aH g)))->K (eV (aH g)) I f)))))))))))))))))))))))/\∀(g:Int),List.Mem (En b,g) k->K (eV g) m h)))))
theorem Wf(h:∀x∈ts,stepB x≠stepB t):bT t ts=(ts++[t],ts.length):=by
 unfold bT
 grind
theorem We{x:Step}(c:(ts.map stepB).Nodup)(d:ts[i]? =some x)(e:stepB x=stepB t):bT t ts=(ts,i):=by
 unfold bT;obtain⟨f,n⟩:=List.getElem?_eq_some_iff.1 d
 have:ts.findIdx? (λx=>stepB x==stepB t)=some i:=by
  rw[findIdx?_eq_some_iff_getElem];refine⟨f,bg,λj u=>?_⟩;intro g;have g:stepB ts[j]=stepB t:=bg
  have:=(getElem_inj (h₀:=bf) (h₁:=bg) c (i:=j) (j:=i)).1 bg;omega
 rw[this]
theorem dM(t:Step)(ts:de):(bT t ts).1.length<=ts.length+1:=by
 unfold bT;grind
theorem fN.mono{m0:MH}{f:Nat}(c:fN m0 m h cb f ts rs)(le:PH.le h h'):fN m0 m h' cb f ts rs:=by
 obtain⟨s,r,d,⟨g,j,n,u⟩,x⟩:=c.ex;exact⟨c.sub,c.cb0,c.mb0,c.map_,c.nodup,s,r,d,⟨g,j,n,λi t e=>let⟨v,d,e2⟩:=u i t e;⟨v,d,e2.mono le⟩⟩,x⟩
theorem UH{ts:de}{k:Value}{y:Int}(h:(k,y)∈ts.mapIdx λi t=>(Value.string (Dr t),(i:Int))):∃(i:Nat)(t:Step),ts[i]? =some t/\k= .string (Dr t)/\y=i:=by
 grind
theorem Kx{a b:Step}:Value.string (Dr a)=Value.string (Dr b)↔stepB a=stepB b:=by
 constructor
 .intro h;have:=congrArg (λv=>match v with|Value.string s=>s.data.toList|_=>[]) h;simpa[Dr]using this
 .intro h;unfold Dr;rw[h]
theorem DB:cm 82 Sz:=by
 refine iH func82 ?_;rintro b3 m h K ⟨v,t,m0,cb,d,ts,rs,rfl,f,hk,c,ht,hl,hK⟩;refine⟨byQ,rfl,aE Yz (aE O7 (aE H9 (aE O6 (aE Yy aG)))),Vb cb v m h K,ax,?_⟩;dsimp only[Vb,push_cast];obtain⟨s,r,O,⟨vs,V,W,a6⟩,X,b4,a7⟩:=c.ex;have F:=dE.slen V;rw[length_map,W]at F
 have Y:(ts.mapIdx λi t=>(Value.string (Dr t),(i:Int))).map (λp=>(p.1,eN p.2))=ts.mapIdx λi t=>(.string (Dr t),.int .i64 i):=by
  apply ext_getElem?
  grind
 have a8:∀b i,s.a=some ⟨b,i,none⟩->b≠cb:=λb i e P=>by
  obtain⟨E,G⟩:=dE.blk V e
  grind
 have H:cb≠d:=λe=>by
  obtain⟨es,cl,G,_⟩:=c.map_.ex
  grind
 refine⟨[],v,t,rfl,f,hk,ht.sub c.sub,ay,stepB t,rfl,d,.of_m O rfl,ts.mapIdx λi t=>(.string (Dr t),(i:Int)),_,by rw[Y];exact c.map_,BS,⟨_,rfl⟩,λe Z=>?_,λa9=>⟨v.where_,t.wher,rfl,f.where_,λv1 h1 g r1=>⟨v.columns,t.columns,rfl,f.columns_.mono g,λs2 h2 n r2=>⟨v.on,t.on,rfl,f.on_.mono (g.trans n),λs3 G z r3=>⟨v.group,t.group,rfl,f.group_.mono ((g.trans n).trans z),λs4 h4 A r4=>⟨v.order,t.order,rfl,f.order_.mono (((g.trans n).trans z).trans A),λs5 h5 D r5=>?_⟩⟩⟩⟩⟩,λy hy=>?_⟩
 .obtain⟨i,t',_,I,_⟩:=UH (k:=e.1) (y:=e.2) Z
  grind
 .have J:∀x∈ts,stepB x≠stepB t:=by
   intro x hx e;obtain⟨i,L⟩:=mem_iff_getElem?.1 hx;have b':=(bm L);refine a9 (.string (Dr x),(i:Int)) ?_ (Kx.2 e);refine mem_mapIdx.2 ⟨i,b',?_⟩
   grind
  rw[Wf J]at hK;have le:PH.le h h5:=(((g.trans n).trans z).trans A).trans D;have b5:sY h5 t ⟨v.op,v.table,v1,s2,s3,s4,s5,v.limit,v.left,v.right⟩:=⟨f.op_,f.table_,r1.mono (((n.trans z).trans A).trans D),r2.mono ((z.trans A).trans D),r3.mono (A.trans D),r4.mono D,r5,f.limit_,f.left_,f.right_⟩
  have Q:aU m h5 cb 0 [.slice s.a s.len s.cap]:=.of_m O rfl;refine⟨s,Q,s,Q,Q,vs.map vE.enc,V,bg,bg,λU m1 R=>?_⟩;have a':m1 cb=some (.cells #[.slice s.a s.len s.cap,.slice r.a r.len r.cap,.map (some d)] 132 (0,0)):=R.other cb _ O (λi e=>a8 cb i e rfl);refine⟨_,_,⟨a'⟩,ay,λm2 S=>?_⟩;have S:iP m1 m2 cb (.cells #[.slice U.a U.len U.cap,.slice r.a r.len r.cap,.map (some d)] 132 (0,0)):=S;obtain⟨es,cl,b0,b1⟩:=c.map_.ex
  have a0:m1 d=some (.map es cl):=R.other d _ b0 (λi e=>by
   obtain⟨E,G⟩:=dE.blk V e
   grind)
  have a1:m2 d=some (.map es cl):=by rw[S.other d (Ne.symm H)];exact a0
  refine⟨d,.of_m S.at_ rfl,ts.mapIdx λi t=>(.string (Dr t),.int .i64 i),_,⟨es,cl,a1,b1⟩,BS,⟨_,rfl⟩,λe Z=>?_,λe Z P=>?_,λm3 T a2=>?_⟩
  .obtain⟨i,L,I⟩:=mem_mapIdx.1 Z
   grind
  .obtain⟨i,L,I⟩:=mem_mapIdx.1 Z;rw[<-I]at P;exact J ts[i] (getElem_mem L) (Kx.1 P)
  .rw[F]at a2⊢
   have a3:∀b i,U.a=some ⟨b,i,none⟩->b≠cb:=λb i e P=>by
    obtain⟨E,G⟩:=dE.blk R.row e
    grind
   have a4:∀b i,U.a=some ⟨b,i,none⟩->b≠d:=λb i e P=>by
    obtain⟨E,G⟩:=dE.blk R.row e
    grind
   have a5:∀b o,m b=some o->b≠cb->b≠d->(∀i,s.a≠some ⟨b,i,none⟩)->m3 b=some o:=λb o e n1 n2 n3=>by
    rw[T.other b n2,S.other b n1];exact R.other b o e n3
   refine hK m3 h5 le ⟨λb o e=>a5 b o (c.sub b o e) (λM=>by rw[M,c.cb0]at e;cases e) (λM=>by rw[M,c.mb0]at e;cases e) (λi M=>bg),c.cb0,c.mb0,?_,?_,U,r,?_,⟨vs++[⟨v.op,v.table,v1,s2,s3,s4,s5,v.limit,v.left,v.right⟩],?_,?_,?_⟩,?_,?_,a7⟩
   .rw[mapIdx_append];simpa[Dr]using a2
   .rw[bw,nodup_append];refine⟨c.nodup,ay,λa ha b hb=>?_⟩
    grind
   .rw[T.other cb H];exact S.at_
   .rw[bw];refine dE.keep R.row (λb i e=>?_);rw[T.other b (a4 b i e),S.other b (a3 b i e)]
   .simp[W]
   .intro i x hx;by_cases L:i<ts.length
    .rw[getElem?_append_left L]at hx;obtain⟨u,I,P⟩:=a6 i x hx;exact⟨u,bg,P.mono le⟩
    grind
   .refine dE.keep X (λb i e=>?_);obtain⟨E,G⟩:=dE.blk X e;rw[G];refine a5 b _ G (λM=>?_) (λM=>?_) (λj M=>?_)
    .grind
    .grind
    .obtain⟨b2,h4⟩:=dE.blk V M
     grind
   .intro b i e;rcases R.fresh b i e with h1|⟨j,h1⟩
    .cases e0:m0 b with
     |none=>rfl
     |some o=>rw[c.sub b o e0]at h1;cases h1
    grind
 .obtain⟨i,t',L,I,rfl⟩:=UH hy;have I:stepB t=stepB t':=Kx.1 I;rw[We c.nodup L I.symm]at hK;exact hK m h (.refl _) c
inductive PN where
 |mk (q:Query) (args:List PN) (rows env:Nat) (width:Int)
abbrev eh:=List PN
def PN.q:PN->Query
 |.mk q _ _ _ _=>q
def PN.args:PN->eh
 |.mk _ a _ _ _=>a
def PN.rows:PN->Nat
 |.mk _ _ r _ _=>r
def PN.env:PN->Nat
 |.mk _ _ _ e _=>e
def PN.width:PN->Int
 |.mk _ _ _ _ w=>w
mutual
def nE(h:PH):PN->gC->Prop
 |.mk q args r e w,v=>cJ h q v.query/\v.rows=(r:Int)/\v.env=(e:Int)/\v.width=w/\args.length<=1000/\∃c:List gC,cC h v.args 25 (c.map gC.enc)/\kQ h args c
def kQ(h:PH):eh->List gC->Prop
 |[],d=>d=[]
 |p::ps,d=>∃v c,d=v::c/\nE h p v/\kQ h ps c
end
mutual
theorem nE.mono{h h':PH}(le:PH.le h h'):∀{p:PN}{v:gC},nE h p v->nE h' p v
 |.mk ..,_,⟨c,d,e,f,g,j,n,u⟩=>⟨c.mono le,d,e,f,g,j,n.mono le,kQ.mono le u⟩
theorem kQ.mono{h h':PH}(le:PH.le h h'):∀{ps:eh}{vs:List gC},kQ h ps vs->kQ h' ps vs
 |[],_,h=>h
 |_::_,_,⟨v,c,d,e,f⟩=>⟨v,c,d,nE.mono le e,kQ.mono le f⟩
end
theorem kQ.length{h:PH}:∀{ps:eh}{vs:List gC},kQ h ps vs->vs.length=ps.length
 |[],_,h=>by rw[show _=[]from h];rfl
 |_::_,_,⟨_,_,c,_,d⟩=>by rw[c];simp[kQ.length d]
theorem kQ.get{h:PH}:∀{ps:eh}{vs:List gC},kQ h ps vs->∀{i:Nat}{p:PN},ps[i]? =some p->∃v,vs[i]? =some v/\nE h p v
 |[],_,_,i,p,e=>by simp at e
 |p0::ps,_,⟨v,c,rfl,f,d⟩,0,p,e=>bg
 |p0::ps,_,⟨v,c,rfl,f,d⟩,i+1,p,e=>by simp at e;simpa using kQ.get d e
theorem kQ.snoc{h:PH}{p:PN}{v:gC}(x:nE h p v):∀{ps:eh}{vs:List gC},kQ h ps vs->kQ h (ps++[p]) (vs++[v])
 |[],_,h=>by rw[show _=[]from h];exact⟨v,[],rfl,x,rfl⟩
 |_::_,_,⟨u,c,d,e,f⟩=>⟨u,c++[v],by rw[d];rfl,e,kQ.snoc x f⟩
def Hw(op:Int):Bool:=op==7||op==9||op==10
def DJ(s:jB)(op ta:Int)(co:cq)(ps:eh):Int:=
 if op=1 then((jL s ta).length:Int)else if op=3 then(co.length:Int)else
 if op=4 then(ps.map PN.width).getD 0 0+(ps.map PN.width).getD 1 0 else(ps.map PN.width).getD 0 0
def yM(op ta:Int)(w:Pred)(co:cq)(on:cu)(gr:cq)(od:cv)(li:Int)(ks:dl):Step:=
 ⟨op,ta,w,co,on,gr,od,li,((ks.getD 0 0:Nat):Int),((ks.getD 1 0:Nat):Int)⟩
def YY(s:jB)(op ta:Int)(w:Pred)(co:cq)(on:cu)(gr:cq)(od:cv)(li:Int)(args:cz)(ps:eh)(ts:de):PN×de:=
 let a:=bT (yM op ta w co on gr od li (ps.map PN.rows)) ts
 if Hw op=true then(.mk (.mk op ta w co on gr od li args) ps a.2 ((ps.map PN.env).getD 0 0) (DJ s op ta co ps),a.1)
 else
  let b:=bT (yM op ta w co on gr od li (ps.map PN.env)) a.1
  (.mk (.mk op ta w co on gr od li args) ps a.2 b.2 (DJ s op ta co ps),b.1)
mutual
def eW(s:jB):Query->de->PN×de
 |.mk op ta w co on gr od li args,ts=>YY s op ta w co on gr od li args (dT s args ts).1 (dT s args ts).2
def dT(s:jB):cz->de->eh×de
 |[],ts=>([],ts)
 |q::qs,ts=>((eW s q ts).1::(dT s qs (eW s q ts).2).1,(dT s qs (eW s q ts).2).2)
end
def dL(l r:Int)(on:cu):Step:=⟨5,0,eJ,[],on,[],[],0,l,r⟩
def bY(l r:Int):Step:=⟨8,0,eJ,[],[],[],[],0,l,r⟩
def mT(l:Int)(co:cq):Step:=⟨3,0,eJ,co,[],[],[],0,l,0⟩
def NW(l r:Int)(gr:cq)(od:cv)(li:Int):Step:=⟨10,0,eJ,[],[],gr,od,li,l,r⟩
def gS(a n:Int):cq:=(List.range n.toNat).map fun(i:Nat)=>a+(i:Int)
def nZ(co:cq):cu:=((List.range co.length).filter λi=>decide (co.idxOf (co.getD i 0)=i)).map λi=>(co.getD i 0,(i:Int))
def pW(on:cu):cu:=on.map λp=>(p.2,p.1)
def tA(gr:cq):cu:=gr.map λc=>(c,c)
def AA(a:PN)(d:Int)(gr:cq)(od:cv)(li:Int)(ts:de):de×Nat:=
 let x:=bT (dL a.env d (tA gr)) ts
 bT (NW x.2 a.rows gr od li) x.1
def AU(a n:Int):cu:=(List.range n.toNat).map fun(i:Nat)=>(a+(i:Int),(i:Int))
def fG(p:PN)(d:Int)(ts:de)(rs:cq):de×cq:=
 match p with
 |.mk (.mk op _ _ co on gr od li _) args _ _ _=>
  match args with
  |[]=>if op=1 then(ts,rs++[d])else(ts,rs)
  |[a]=>
   if op=2 then fG a d ts rs
   else if op=3 then(let x:=bT (dL a.env d (nZ co)) ts;fG a x.2 x.1 rs)
   else if op=9 then(let x:=AA a d gr od li ts;fG a x.2 x.1 rs)
   else(ts,rs)
  |a::b::_=>
   if op=4 then
    let x:=bT (dL d b.rows (AU a.width b.width)) ts
    let y:=bT (mT x.2 (gS 0 a.width)) x.1
    let z:=fG a y.2 y.1 rs
    let u:=bT (mT d (gS a.width b.width)) z.1
    fG b u.2 u.1 z.2
   else if op=5 then
    let x:=bT (dL d b.rows on) ts
    let z:=fG a x.2 x.1 rs
    let y:=bT (dL b.env d (pW on)) z.1
    fG b y.2 y.1 z.2
   else if op=6 then
    let x:=bT (bY a.env d) ts
    let z:=fG a x.2 x.1 rs
    let y:=bT (bY b.env d) z.1
    fG b y.2 y.1 z.2
   else if op=7\/op=8 then
    let z:=fG a d ts rs
    let x:=bT (bY b.env d) z.1
    let y:=bT (bY x.2 a.rows) x.1
    fG b y.2 y.1 z.2
   else if op=10 then
    let z:=fG a d ts rs
    let x:=AA b d gr od li z.1
    fG b x.2 x.1 z.2
   else(ts,rs)
 termination_by SizeOf.sizeOf p
def Zg:Vc.Spec:=λc m h K=>∃l r:Int,∃o on d cb e ts rs,c=[cP cb,cI l,cI r,cS o]/\iD h o on/\on.length<=1000/\fN d m h cb e ts rs/\fU d/\ts.length<=100000/\
 ∀m' h',PH.le h h'->fN d m' h' cb e (bT (dL l r on) ts).1 rs->K (cI (bT (dL l r on) ts).2) m' h'
def aeX:Vc.Spec:=λc m h K=>∃l r:Int,∃d cb e ts rs,c=[cP cb,cI l,cI r]/\fN d m h cb e ts rs/\fU d/\ts.length<=100000/\
 ∀m' h',PH.le h h'->fN d m' h' cb e (bT (bY l r) ts).1 rs->K (cI (bT (bY l r) ts).2) m' h'
def biQ:Vc.Spec:=λd m h K=>∃l:Int,∃c co e cb f ts rs,d=[cP cb,cI l,cS c]/\Ints h c co/\co.length<=1000/\fN e m h cb f ts rs/\fU e/\ts.length<=100000/\
 ∀m' h',PH.le h h'->fN e m' h' cb f (bT (mT l co) ts).1 rs->K (cI (bT (mT l co) ts).2) m' h'
def bPJ:Vc.Spec:=λc m h K=>∃a n:Int,c=[cI a,cI n]/\0<=a/\0<=n/\a<=1000/\n<=1000/\∀s h',PH.le h h'->Ints h' s (gS a n)->K (cS s) m h'
def bPQ:Vc.Spec:=λc m h K=>∃s on,c=[cS s]/\iD h s on/\on.length<=1000/\∀s h',PH.le h h'->iD h' s (pW on)->K (cS s) m h'
def blQ:Vc.Spec:=λc m h K=>∃s l x,∃i:Nat,c=[cS s,cI x]/\Ints h s l/\l[i]? =some x/\K (cI (l.idxOf x:Nat)) m h
def bmJ:Vc.Spec:=λc m h K=>∃s co,c=[cS s]/\Ints h s co/\co.length<=1000/\∀s h',PH.le h h'->iD h' s (nZ co)->K (cS s) m h'
def aPN(v:gC):CV:=.val (.agg ⟨v.enc⟩)
def biX:Vc.Spec:=λc m h K=>∃v p d f op ta w co on gr od li args e cb g ts rs,c=[cP cb,aPN v,cI d,aQ f]/\nE h p v/\cJ h (.mk op ta w co on gr od li args) f/\gr.length<=1000/\od.length<=1000/\fN e m h cb g ts rs/\fU e/\ts.length<=99999/\
 ∀m' h',PH.le h h'->fN e m' h' cb g (AA p d gr od li ts).1 rs->K (cI (AA p d gr od li ts).2) m' h'
noncomputable def a6X(a n:Int)(m:MH)(h:PH):Ctx:=
 dD [] [(3,{A:=Nat×cq,st:=λ⟨i,l⟩=>bQ 19 21 [(0,iv a),(5,.at (.lst 16)),(7,iv n),(8,iv i)] [(16,.lst 3 1 (l.map eI))] m h})] [] [] false
noncomputable def a6Q(s:Sl)(m:MH)(h:PH):Ctx:=
 dD [] [(3,{A:=Nat×cu,st:=λ⟨i,l⟩=>bQ 22 23 [(3,.at (.lst 19)),(6,sv s),(7,iv s.len),(8,iv i)] [(19,.lst 101 2 (l.map kY))] m h})] [] [] false
noncomputable def aYZ(s:Sl)(x:Int)(m:MH)(h:PH):Ctx:=
 dD [] [(2,{A:=Nat,st:=λi=>bQ 19 21 [(0,sv s),(1,iv x),(7,iv s.len),(8,iv i)] [] m h})] [] [] false
noncomputable def a6Z(s:Sl)(m:MH)(h:PH):Ctx:=
 dD [(215,blQ)] [(3,{A:=Nat×cu,st:=λ⟨i,l⟩=>bQ 26 27 [(0,sv s),(3,.at (.lst 23)),(6,sv s),(7,iv s.len),(8,iv i)] [(23,.lst 101 2 (l.map kY))] m h})] [] [] false
noncomputable def a5J(v:gC)(c:QV)(cb:Nat)(d:Int)(m:MH)(h:PH):Ctx:=
 dD [(142,Zg),(82,Sz)] [(3,{A:=Nat×cu,st:=λ⟨i,l⟩=>bQ 43 47 [(0,pv cb),(2,iv d),(5,.at (.ptr 5 0)),(7,.at (.ptr 7 0)),(9,.at (.lst 24)),(13,sv c.group),(14,iv c.group.len),(15,iv i)] [(5,.cells 136 (v.enc.map .val)),(7,.cells 38 (c.enc.map .val)),(24,.lst 101 2 (l.map kY))] m h})] [] [] false
abbrev FI(a:de->cq->Prop):Prop:=∃(x:de)(c:cq),a x c
abbrev JN(a:dk)(b:Nat->dk)(c d:Prop)(e:Nat->Option Obj)(g:PH)(i:MH->Nat->Nat->de->cq->Prop):Prop:=∃(x:MH),bI (λf n=>FI (λj u=>aA (a=b f) c (aA d (fN x e g f n j u) (aA (fU x) (j.length<=100000) (i x f n j u)))))
abbrev Ea(a:dk)(b:PH)(c:Nat->Option Obj)(d:Step->de->MH->PH->Prop):Prop:=Oh (λx e=>JN a (λf=>gZ (kB f) (fM x.enc)) (sY b e x) (MF e) c b (λf u y j z=>iB (λn g=>cZ b g (fN f n g u y (bT e j).1 z) (d e j n g))))
noncomputable abbrev oX(a:Step)(b:de):Int:=(↑(bT a b).2:Int)
attribute [push_cast] FI JN Ea oX
def RQ(cb:Nat)(l r:Int)(o:Sl)(m:MH)(h:PH)(K:cr):Prop:=
  Ea (gZ (kB cb) (fM (u0 (eN 5) cW lI (hJ o) lI lI cW (AV l r)))) h m (λt c d e=>K (eV (oX t c)) d e)
def RM(cb:Nat)(l r:Int)(m:MH)(h:PH)(K:cr):Prop:=
  Ea (gZ (kB cb) (fM (u0 (eN 8) cW lI lI lI lI cW (AV l r)))) h m (λt c d e=>K (eV (oX t c)) d e)
noncomputable abbrev Jy(a:Int)(b:Sl)(c:cn):cn:=u0 (eN a) cW (hJ b) lI lI lI cW c
attribute [push_cast] Jy
def RO(cb:Nat)(l:Int)(c:Sl)(m:MH)(h:PH)(K:cr):Prop:=
  Ea (gZ (kB cb) (fM (Jy 3 c (rL (eN l) cW)))) h m (λt d e f=>K (eV (oX t d)) e f)
def Lv(a n:Int)(m:MH)(h:PH)(K:cr):Prop:=
  Jz (λI x=>aA (I x) (gW a) (aA (eL 16) (gW n) (aA (bB x.1) (sL (mW x)) (aA (m=m) (h=h) True)))) (λI d x=>I x->aX (↑x.1:Int) n (mV (mW x) 8 (∃(c:Nat×cq),aA (I c) (d c<d x) (aA (gW a) (eL 16) (aA (gW n) (bD (gG (bF x.1 1)) c.1) (aA (sM (mW x) (fI (a+(↑x.1:Int))) (mW c)) (m=m) (bL h h)))))) (vP h (mW x) K m))
abbrev M9(a:(Nat×cu->Prop)->(Nat×cu)->Prop)(b:(Nat×cu->Prop)->(Nat×cu->Nat)->(Nat×cu)->Prop):Prop:=∃(x:Nat×cu->Prop)(d:Nat×cu->Nat),(∃(c:Nat×cu),a x c)/\∀(c:Nat×cu),b x d c
noncomputable abbrev rY(a:Nat×cu):List cn:=A1 a.2
attribute [push_cast] M9 rY
def RN(s:Sl)(m:MH)(h:PH)(K:cr):Prop:=
  M9 (λI x=>aA (I x) (eL 19) (aA (aI s) (bJ s) (aA (bB x.1) (qG 101 2 (rY x)) (aA (m=m) (h=h) True)))) (λI d x=>I x->aX (↑x.1:Int) (aH s) (bI (λb o=>aA (bK s.a b o) (0<=(↑x.1:Int)) ((↑x.1:Int)<aH s/\∃(y:Int×Int),aA (aU m h b (bN o x.1 2) (uH y)) (bV 1) (aA Bg (bV 0) (oZ Bf (rY x) 16 (∃(c:Nat×cu),aA (I c) (d c<d x) (aA (eL 19) (aI s) (aA (bJ s) (bD (gG (bF x.1 1)) c.1) (aA (Option.some (Own.lst 101 2 (fK (rY x) (AV y.2 y.1)))=Option.some (Own.lst 101 2 (rY c))) (m=m) (bL h h)))))))))) (bU h 2 (rY x) (λe f=>K (Dj e) m f)))
def Lm(s:Sl)(x:Int)(m:MH)(h:PH)(K:cr):Prop:=
  nO (λI c=>aA (I c) (aI s) (aA (gW x) (bJ s) (bO (bB c) (m=m) (h=h)))) (λI e c=>I c->aX (↑c:Int) (aH s) (bI (λb o=>aA (bK s.a b o) (0<=(↑c:Int)) ((↑c:Int)<aH s/\∃(y:Int),aU m h b (bN o c 1) (bG y)/\dW x y (K (eV (↑c:Int)) m h) (∃(d:Nat),aA (I d) (e d<e c) (aA (aI s) (gW x) (aA (bJ s) (bD (gG (bF c 1)) d) (aA (m=m) (h=h) True))))))) (K (eV (Int.negSucc 0)) m h))
def RP(s:Sl)(m:MH)(h:PH)(K:cr):Prop:=
  M9 (λI x=>aA (I x) (aI s) (aA (eL 23) (aI s) (aA (bJ s) (bB x.1) (aA (qG 101 2 (rY x)) (m=m) (bL h h))))) (λI d x=>I x->aX (↑x.1:Int) (aH s) (bI (λb o=>aA (bK s.a b o) (0<=(↑x.1:Int)) ((↑x.1:Int)<aH s/\∃(y:Int),aU m h b (bN o x.1 1) (bG y)/\B0 (λe l=>∃(f:Int)(i:Nat),aA (hX s y=hX e f) (Ints h e l) (l[i]? =Option.some f/\dW (↑(idxOf f l):Int) (↑x.1:Int) (mV (rY x) 16 (∃(c:Nat×cu),aA (I c) (d c<d x) (aA (aI s) (eL 23) (aA (aI s) (bJ s) (aA (bD (gG (bF x.1 1)) c.1) (Option.some (Own.lst 101 2 (fK (rY x) (AV y (↑x.1:Int))))=Option.some (Own.lst 101 2 (rY c))) (bP (m=m) h h)))))) (∃(c:Nat×cu),aA (I c) (d c<d x) (aA (aI s)
 (eL 23) (aA (aI s) (bJ s) (aA (bD (gG (bF x.1 1)) c.1) (Option.some (Own.lst 101 2 (rY x))=Option.some (Own.lst 101 2 (rY c))) (bP (m=m) h h)))))))))) (bU h 2 (rY x) (λe g=>K (Dj e) m g)))
abbrev Gy(a:Nat)(b c:Int)(d:Sl)(e:PH)(g:Nat->Option Obj)(i:Int->Int->cu->MH->Nat->Nat->de->cq->Prop):Prop:=FN (λx n=>KS (λu f=>JN (dA a (eV b::fZ (eV c) d)) (λj=>dA j (eV x::fZ (eV n) u)) (iD e u f) (lY f.length) g e (λj y z A D=>i x n f j y z A D)))
noncomputable abbrev WY:OV:=OV.mk 0 0 (VV.mk 0 0 (ByteArray.mk (Array.mk [])))
noncomputable abbrev JP:Pred:=Pred.mk 0 0 WY WY []
noncomputable abbrev xL(a:cu)(b c:Int):Step:=Step.mk 5 0 JP [] a [] [] 0 b c
attribute [push_cast] Gy WY JP xL
def RL(cb:Nat)(v:gC)(d:Int)(e:QV)(m:MH)(h:PH)(K:cr):Prop:=
  M9 (λI x=>aA (I x) (cR cb) (aA (gW d) dN (aA (eP 7) (eL 24) (aA (aI e.group) (bJ e.group) (aA (bB x.1) (eQ (mZ 136 v.enc)) (aA (eY e) (qG 101 2 (rY x)) (bP (m=m) h h))))))) (λI j x=>I x->aX (↑x.1:Int) (aH e.group) (bI (λb o=>aA (bK e.group.a b o) (0<=(↑x.1:Int)) ((↑x.1:Int)<aH e.group/\∃(y:Int),oZ (aU m h b (bN o x.1 1) (bG y)) (rY x) 16 (∃(f:Nat×cu),aA (I f) (j f<j x) (aA (cR cb) (gW d) (aA dN (eP 7) (aA (eL 24) (aI e.group) (aA (bJ e.group) (bD (gG (bF x.1 1)) f.1) (aA (eQ (mZ 136 v.enc)) (eY e) (bO (Option.some (Own.lst 101 2 (fK (rY x) (AV y y)))=Option.some (Own.lst 101 2 (rY f))) (m=m) (h=h))))))))))) (bU h 2 (rY x) (λs n=>Gy cb
 v.env d s n m (λl r o z c A t D=>iB (λu g=>cZ n g (fN z u g c A (bT (xL o l r) t).1 D) (Ea (gZ (kB cb) (CV.val (Value.agg (Array.mk (u0 (eN 10) cW lI lI (B4 e) (B5 e) (BX e) (AV (oX (xL o l r) t) v.rows)))))) g u (λE F G H=>K (eV (oX E F)) G H)))))))
theorem bpJ(h:PH):dO h eJ fS:=⟨rfl,rfl,rfl,rfl,ay,[],cC.nil _ _,rfl⟩
theorem PY(h:PH):Ints h bR []:=⟨cC.nil _ _,ay⟩
theorem bZX(h:PH):iD h bR []:=⟨cC.nil _ _,ay⟩
theorem bYQ(h:PH):jO h bR []:=⟨cC.nil _ _,ay⟩
theorem bqQ:(mU eJ).length<=1000000000:=by
 have c:=fY [0,0];have d:=fY [0];have g:=zB 0;have f:Cf ⟨0,0,⟨0,0,⟨#[]⟩⟩⟩=hU [0,0]++(hU [0]++(lO 0++[32])++hU [0]++[]):=rfl;have e:mU eJ=hU [0,0]++Cf ⟨0,0,⟨0,0,⟨#[]⟩⟩⟩++Cf ⟨0,0,⟨0,0,⟨#[]⟩⟩⟩++hU [0]++[]:=rfl
 grind
theorem bJX{d:Nat}{l r:Int}{o:Sl}{on:cu}{m0:MH}(e:iD h o on)(n:on.length<=1000)(c:fN m0 m h cb d ts rs)(f:fU m0)(g:ts.length<=100000)
 (j:∀m' h',PH.le h h'->fN m0 m' h' cb d (bT (dL l r on) ts).1 rs->K (cI (bT (dL l r on) ts).2) m' h'):RQ cb l r o m h K:=
 ⟨⟨5,0,fS,bR,o,bR,bR,0,l,r⟩,dL l r on,m0,cb,d,ts,rs,rfl,⟨rfl,rfl,bpJ h,PY h,e,PY h,bYQ h,rfl,rfl,rfl⟩,⟨bqQ,by simp[dL],by simp[dL];omega,by simp[dL],by simp[dL]⟩,c,f,g,j⟩
theorem bIZ{d:Nat}{l r:Int}{m0:MH}(c:fN m0 m h cb d ts rs)(e:fU m0)(f:ts.length<=100000)
 (g:∀m' h',PH.le h h'->fN m0 m' h' cb d (bT (bY l r) ts).1 rs->K (cI (bT (bY l r) ts).2) m' h'):RM cb l r m h K:=
 ⟨⟨8,0,fS,bR,bR,bR,bR,0,l,r⟩,bY l r,m0,cb,d,ts,rs,rfl,⟨rfl,rfl,bpJ h,PY h,bZX h,PY h,bYQ h,rfl,rfl,rfl⟩,⟨bqQ,by simp[bY],by simp[bY],by simp[bY],by simp[bY]⟩,c,e,f,g⟩
theorem bJQ{d:Nat}{l:Int}{s:Sl}{m0:MH}(e:Ints h s co)(n:co.length<=1000)(c:fN m0 m h cb d ts rs)(f:fU m0)(g:ts.length<=100000)
 (j:∀m' h',PH.le h h'->fN m0 m' h' cb d (bT (mT l co) ts).1 rs->K (cI (bT (mT l co) ts).2) m' h'):RO cb l s m h K:=
 ⟨⟨3,0,fS,s,bR,bR,bR,0,l,0⟩,mT l co,m0,cb,d,ts,rs,rfl,⟨rfl,rfl,bpJ h,e,bZX h,PY h,bYQ h,rfl,rfl,rfl⟩,⟨bqQ,by simp[mT];omega,by simp[mT],by simp[mT],by simp[mT]⟩,c,f,g,j⟩
theorem O5:cm 142 Zg:=by
 refine iH func142 ?_;rintro d m h K ⟨l,r,o,on,u,cb,x,ts,rs,rfl,e,f,c,g,j,n⟩;refine⟨dD [(82,Sz)] [] [] [] false,rfl,aE DB aG,RQ cb l r o m h K,ax,?_⟩;exact bJX e f c g j n
theorem Yr:cm 147 aeX:=by
 refine iH func147 ?_;rintro d m h K ⟨l,r,j,cb,n,ts,rs,rfl,c,e,f,g⟩;refine⟨dD [(82,Sz)] [] [] [] false,rfl,aE DB aG,RM cb l r m h K,ax,?_⟩;exact bIZ c e f g
theorem Yu:cm 144 biQ:=by
 refine iH func144 ?_;rintro d m h K ⟨l,s,co,u,cb,x,ts,rs,rfl,e,f,c,g,j,n⟩;refine⟨dD [(82,Sz)] [] [] [] false,rfl,aE DB aG,RO cb l s m h K,ax,?_⟩;exact bJQ e f c g j n
theorem bIJ{a n:Int}(y:0<=a)(z:0<=n)(d:a<=1000)(f:n<=1000)(g:∀s h',PH.le h h'->Ints h' s (gS a n)->K (cS s) m h'):Lv a n m h K:=by
 dsimp only[Lv,push_cast];obtain⟨k,rfl⟩:∃k:Nat,n=k:=⟨n.toNat,aD⟩
 refine⟨λ⟨i,l⟩=>i<=k/\l=gS a (i:Nat),λ⟨i,_⟩=>k-i,⟨(0,[]),⟨aD,rfl⟩,MT⟩,?_⟩;rintro⟨i,l⟩ ⟨A,rfl⟩;dsimp only;have c:(gS a (i:Nat)).length=i:=by simp[gS]
 refine aF (λj=>?_) (λu s h' le x=>?_)
 .refine⟨bg,bg,(i+1,gS a ((i+1:Nat):Int)),⟨aD,rfl⟩,aD,?_⟩
  have e:gS a ((i+1:Nat):Int)=gS a (i:Nat)++[IntKind.i64.wrap (a+(i:Int))]:=by
   rw[dY aD aD];simp[gS,range_succ]
  rw[e,bw];exact MT
 .have:i=k:=by omega
  subst this;exact g s h' le ⟨x,aD⟩
theorem Yt:cm 145 bPJ:=by
 refine iH func145 ?_;rintro c m h K ⟨a,n,rfl,d,e,f,g,j⟩;refine⟨a6X a n m h,rfl,aG,Lv a n m h K,ax,?_⟩;exact bIJ d e f g j
theorem Ys:cm 146 bPQ:=by
 refine iH func146 ?_;rintro u m h K ⟨s,on,rfl,f,A,y⟩;refine⟨a6Q s m h,rfl,aG,RN s m h K,ax,?_⟩;dsimp only[RN,push_cast];have d:=f.slen;refine⟨λ⟨i,l⟩=>i<=on.length/\l=pW (on.take i),λ⟨i,_⟩=>on.length-i,⟨(0,[]),⟨aD,rfl⟩,MT⟩,?_⟩;rintro⟨i,l⟩ ⟨D,rfl⟩;dsimp only;have g:(pW (on.take i)).length=i:=by simp[pW];omega
 refine aF (λc=>?_) (λz s h' le j=>?_)
 .obtain⟨x,n⟩:=eU d c;obtain⟨b,o,e,r⟩:=f.at n;refine⟨b,o,e,aD,c,x,.imm r,aD,aD,aD,aD,bg,bg,(i+1,pW (on.take (i+1))),⟨aD,rfl⟩,aD,?_⟩;have e:pW (on.take (i+1))=pW (on.take i)++[(x.2,x.1)]:=by rw[cd,n];simp[pW]
  rw[e,bw];exact MT
 .rw[bu aD]at j;exact y s h' le ⟨j,bg⟩
theorem aQJ{x:Int}(d:l[i]? =some x)(c:∀j y,j<i->l[j]? =some y->x≠y):l.idxOf x=i:=by
 induction l generalizing i with
 |nil=>simp at d
 |cons a l e=>
  cases i with
  |zero=>grind
  |succ i=>
   have f:=c 0 a aD rfl
   grind
theorem bHQ{s:Sl}{x:Int}{d:Nat}(g:Ints h s l)(E:l[d]? =some x)(A:K (cI (l.idxOf x:Nat)) m h):Lm s x m h K:=by
 dsimp only[Lm,push_cast];have n:=g.slen;have F:=g.len;have I:=(bm E);refine⟨λi=>i<=d/\∀j y,j<i->l[j]? =some y->x≠y,λi=>d-i,⟨0,⟨aD,λj y G=>by omega⟩,MT⟩,?_⟩;rintro i ⟨J,u⟩;refine aF (λc=>?_) (λH=>by omega);obtain⟨y,D⟩:=eU n c;obtain⟨b,o,e,r⟩:=g.at' D;refine⟨b,o,e,aD,c,y,.imm r,aC (λf=>?_) (λf=>?_)⟩
 .have f:x=y:=bg
  subst f;rw[aQJ D u]at A;exact A
 .have f:x≠y:=bg
  have:i≠d:=λe=>bg
  refine⟨i+1,⟨aD,λj z G L=>?_⟩,bg,MT⟩
  grind
theorem XQ:cm 215 blQ:=by
 refine iH func215 ?_;rintro c m h K ⟨s,l,x,i,rfl,d,e,f⟩;refine⟨aYZ s x m h,rfl,aG,Lm s x m h K,ax,?_⟩;exact bHQ d e f
def EV(co:cq)(i:Nat):cu:=((List.range i).filter λi=>decide (co.idxOf (co.getD i 0)=i)).map λi=>(co.getD i 0,(i:Int))
theorem OF(co:cq)(i:Nat):(EV co i).length<=i:=by
 have:=length_filter_le (λi=>decide (co.idxOf (co.getD i 0)=i)) (List.range i);simp[EV]at this⊢;omega
theorem Yv:cm 143 bmJ:=by
 refine iH func143 ?_;rintro u m h K ⟨s,co,rfl,f,D,y⟩;refine⟨a6Z s m h,rfl,aE XQ aG,RP s m h K,ax,?_⟩;dsimp only[RP,push_cast];have g:=f.slen;refine⟨λ⟨i,l⟩=>i<=co.length/\l=EV co i,λ⟨i,_⟩=>co.length-i,⟨(0,[]),⟨aD,rfl⟩,MT⟩,?_⟩;rintro⟨i,l⟩ ⟨E,rfl⟩;dsimp only;have n:=OF co i;refine aF (λc=>?_) (λz s h' le A=>?_)
 .obtain⟨x,j⟩:=eU g c;obtain⟨b,o,e,r⟩:=f.at' j;have F:co.getD i 0=x:=by simp[j]
  have step:EV co (i+1)=EV co i++(if co.idxOf x=i then[(x,(i:Int))]else[]):=by
   simp only[EV,range_succ,filter_append,bw]
   grind
  refine⟨b,o,e,aD,c,x,.imm r,s,co,x,i,rfl,f,j,aC (λd=>⟨bg,bg,(i+1,EV co (i+1)),⟨aD,rfl⟩,aD,?_⟩) (λd=>⟨(i+1,EV co (i+1)),⟨aD,rfl⟩,aD,?_⟩)⟩
  .have d:co.idxOf x=i:=bg
   rw[step,if_pos d,bw];exact MT
  .have d:co.idxOf x≠i:=λe=>bg
   rw[step,if_neg d,append_nil];exact MT
 .have:i=co.length:=by omega
  subst this;exact y s h' le ⟨A,by show(EV co co.length).length<=_;omega⟩
theorem Yq:cm 148 biX:=by
 refine iH func148 ?_;rintro P m h K ⟨v,p,d,g,op,ta,w,co,on,gr,od,li,args,H,cb,I,ts,rs,rfl,Q,R,Y,S,c,J,Z,T⟩;refine⟨a5J v g cb d m h,rfl,aE O5 (aE DB aG),RL cb v d g m h K,ax,?_⟩;dsimp only[RL,push_cast];have x:=R.parts;have A:=x.group_.slen;refine⟨λ⟨i,l⟩=>i<=gr.length/\l=tA (gr.take i),λ⟨i,_⟩=>gr.length-i,⟨(0,[]),⟨aD,rfl⟩,MT⟩,?_⟩;rintro⟨i,l⟩ ⟨hi,rfl⟩;dsimp only;have L:(tA (gr.take i)).length=i:=by simp[tA];omega
 refine aF (λj=>?_) (λU s h1 n M=>?_)
 .obtain⟨y,O⟩:=eU A j;obtain⟨b,o,e,r⟩:=x.group_.at' O;refine⟨b,o,e,aD,j,y,.imm r,bg,bg,(i+1,tA (gr.take (i+1))),⟨aD,rfl⟩,aD,?_⟩;have e:tA (gr.take (i+1))=tA (gr.take i)++[(y,y)]:=by rw[cd,O];simp[tA]
  rw[e,bw];exact MT
 .rw[bu aD]at M;obtain⟨q,pa,D,z,wd⟩:=p;obtain⟨_,f,u,_⟩:=Q;rw[u,f];have V:(tA gr).length<=1000:=bg
  have hx:=dM (dL (z:Int) d (tA gr)) ts;refine⟨(z:Int),d,s,tA gr,H,cb,I,ts,rs,rfl,⟨M,aD⟩,V,c.mono n,J,aD,λm1 E F W=>?_⟩;have le:=n.trans F;exact⟨⟨10,0,fS,bR,bR,g.group,g.order,g.limit,_,_⟩,NW (bT (dL (z:Int) d (tA gr)) ts).2 D gr od li,H,cb,I,_,rs,rfl,⟨rfl,rfl,bpJ E,PY E,bZX E,x.group_.mono le,x.order_.mono le,x.limit_,rfl,rfl⟩,⟨bqQ,by simp[NW],by simp[NW],by simp[NW];omega,by simp[NW];omega⟩,W,J,by show(bT (dL (z:Int) d (tA gr)) ts).1.length<=100000;omega,λm' h' G X=>T m' h' (le.trans G) X⟩
def bhX:Vc.Spec:=λc m h K=>∃op,c=[cI op]/\K (cB (Hw op)) m h
def adQ:Vc.Spec:=λc m h K=>∃v s op ta w co on gr od li args,∃ks:dl,c=[aQ v,cS s]/\cJ h (.mk op ta w co on gr od li args) v/\Ints h s (ks.map fun(k:Nat)=>(k:Int))/\∀d,sY h (yM op ta w co on gr od li ks) d->K (aT d) m h
def beZ:Vc.Spec:=λc m h K=>∃sc v s op ta w co on gr od li args ps d,c=[aS sc,aPN v]/\iA h s sc/\mC s/\cJ h (.mk op ta w co on gr od li args) v.query/\cC h v.args 25 (d.map gC.enc)/\kQ h ps d/\((ps.length:Int)=arity op)/\0<=arity op/\(∀p∈ps,0<=p.width/\p.width<=1000)/\K (cI (DJ s op ta co ps)) m h
def U9(op:Int)(m:MH)(h:PH)(K:cr):Prop:=
  cX (op==7) (gO K m h) (op==9) (gO K m h) (K (AQ (op==10)) m h)
noncomputable abbrev Ju(a:QV)(b:cn):cn:=aL (mN (jR a)) (j4 (fC a)) (aL (qC (fC a)) (jY (fC a)) (aL (qP (fC a)) (mN (fC a)) (aL (B3 a) (B6 a) (aL (hJ a.on) (B4 a) (aL (B5 a) (BX a) b)))))
attribute [push_cast] Ju
def Va(v:QV)(s:Sl)(m:MH)(h:PH)(K:cr):Prop:=
  nX (decide (aH s>0)) (bI (λb o=>aA (bK s.a b o) ((0:Int)<=0) (0<aH s/\∃(y:Int),aU m h b (o+0) (bG y)/\eZ (aH s) 1 (bI (λc d=>aA (bK s.a c d) ((0:Int)<=1) (1<aH s/\∃(e:Int),aU m h c (d+1) (bG e)/\K (fM (vO v v (Ju v (AV y e)))) m h))) (K (fM (vO v v (Ju v (rL (eN y) cW)))) m h)))) (aH s) 1 (bI (λb o=>aA (bK s.a b o) ((0:Int)<=1) (1<aH s/\∃(y:Int),aU m h b (o+1) (bG y)/\K (fM (vO v v (Ju v (rL cW (eN y))))) m h))) (K (fM (vO v v (Ju v (rL cW cW)))) m h)
noncomputable abbrev xB(a:gC):Int:=a.query.op
abbrev Eo(a:gC)(b:Int)(c:Nat->Nat->Int->Prop):Prop:=bI (λx d=>aA (bK a.args.a x d) (0<=b) (b<aH a.args/\∃(e:Int),c x d e))
attribute [push_cast] xB Eo
def OK(sc:bW)(v:gC)(m:MH)(h:PH)(K:cr):Prop:=
  cX (xB v==1) (Cw (bC (fM (cD sc)) v.query.table) h (λs d=>K (eV (aH s)) m d)) (xB v==3) (K (eV (CP v.query)) m h) (dW (xB v) 4 (Eo v 0 (λb o y=>aU m h b (o+0+24) (bG y)/\Eo v 1 (λe f c=>aU m h e (f+25+24) (bG c)/\K (eV (fI (y+c))) m h))) (Eo v 0 (λb o y=>aU m h b (o+0+24) (bG y)/\K (eV y) m h)))
theorem QG:cm 84 bhX:=by
 refine iH func84 ?_;rintro f m h K ⟨op,rfl,c⟩;refine⟨dD [] [] [] [] false,rfl,aG,U9 op m h K,ax,?_⟩;dsimp only[U9,push_cast];unfold Hw at c;refine aC (λd=>?_) (λd=>aC (λe=>?_) (λe=>?_))
 .rw[d]at c;exact c
 .rw[d,e]at c;exact c
 .rw[d,e]at c;exact c
theorem arQ:cm 83 adQ:=by
 refine iH func83 ?_;rintro g m h K ⟨v,s,op,ta,w,co,on,gr,od,li,args,ks,rfl,j,c,n⟩;refine⟨dD [] [] [] [] false,rfl,aG,Va v s m h K,ax,?_⟩;dsimp only[Va,push_cast];have x:=j.parts;have d:=c.slen;rw[length_map]at d;have key:∀l r:Int,l=((ks.getD 0 0:Nat):Int)->r=((ks.getD 1 0:Nat):Int)->K (aT ⟨v.op,v.table,v.where_,v.columns,v.on,v.group,v.order,v.limit,l,r⟩) m h:=λl r u y=>n _ ⟨x.op_,x.table_,x.where_,x.columns_,x.on_,x.group_,x.order_,x.limit_,u,y⟩;have get:∀i,i<ks.length->(ks.map fun(k:Nat)=>(k:Int))[i]? =some ((ks.getD i 0:Nat):Int):=λi z=>by simp[z]
 refine aF (λA=>?_) (λA=>aF (λf=>by omega) (λf=>?_))
 .obtain⟨b,o,e,r⟩:=c.at (get 0 aD);refine⟨b,o,e,aD,aD,_,.imm r,aF (λf=>?_) (λf=>?_)⟩
  .obtain⟨b,o,e,r⟩:=c.at (get 1 aD);exact⟨b,o,e,aD,aD,_,.imm r,key _ _ rfl rfl⟩
  .exact key _ 0 rfl bg
 .exact key 0 0 bg bg
theorem bNQ{s:Sl}{vs:List gC}{ps:eh}(c:cC h s 25 (vs.map gC.enc))(d:kQ h ps vs){p:PN}(f:ps[i]? =some p):∃b o v,s.a=some ⟨b,o,none⟩/\bM h b (o+i*25) (gC.enc v)/\nE h p v:=by
 obtain⟨v,g,j⟩:=d.get f;obtain⟨b,o,e,k⟩:=c.get (i:=i) (e:=gC.enc v) (by simp[g])
 grind
theorem MV{o:Nat}{v:gC}(r:bM h b o (gC.enc v)):bM h b (o+21) [.slice v.args.a v.args.len v.args.cap]/\bM h b (o+22) [eN v.rows]/\bM h b (o+23) [eN v.env]/\bM h b (o+24) [eN v.width]:=by
 refine⟨⟨λj x e=>?_⟩,⟨λj x e=>?_⟩,⟨λj x e=>?_⟩,⟨λj x e=>?_⟩⟩<;>
  (have c:j=0:=(by have:=(bm e);simpa using this)
   subst c;simp at e;subst e)
 .exact r.rd 21 _ rfl
 .exact r.rd 22 _ rfl
 .exact r.rd 23 _ rfl
 .exact r.rd 24 _ rfl
theorem nE.width_{p:PN}{v:gC}(x:nE h p v):v.width=p.width:=by
 cases p;exact x.2.2.2.1
theorem nE.rows_{p:PN}{v:gC}(x:nE h p v):v.rows=p.rows:=by
 cases p;exact x.2.1
theorem nE.env_{p:PN}{v:gC}(x:nE h p v):v.env=p.env:=by
 cases p;exact x.2.2.1
theorem arX:cm 81 beZ:=by
 refine Fm func81 ?_;rintro G m h K ⟨sc,v,s,op,ta,w,co,on,gr,od,li,args,ps,T,rfl,H,I,J,D,E,n,y,F,d⟩;refine⟨dD [(139,yJ)] [] [] [] false,rfl,aE EZ aG,OK sc v m h (kX h K),ax,?_⟩;show OK sc v m h (kX h K);dsimp only[OK,push_cast];have x:=J.parts;have L:=x.op_;have M:v.args.len=ps.length:=by have:=D.len;rw[length_map,E.length]at this;exact this
 have one:op≠1->1<=ps.length:=λc=>by
  unfold arity at n y
  grind
 unfold DJ at d;show branch (v.query.op==1) _ _;rw[L,x.table_]
 have get:∀(i:Nat)(j:i<ps.length),∃b o,v.args.a=some ⟨b,o,none⟩/\bM h b (o+i*25+24) [eN ((ps.map PN.width).getD i 0)]:=λi j=>by
  obtain⟨b,o,u,e,r,O⟩:=bNQ D E (bo j);have P:=(MV r).2.2.2;rw[O.width_]at P
  grind
 refine aC (λc=>?_) (λc=>aC (λf=>?_) (λf=>aC (λg=>?_) (λg=>?_)))
 .have c:op=1:=bg
  rw[if_pos c]at d;exact⟨sc,s,ta,rfl,H,I,λU h' le j=>.out (Sub.refl m) le (by rw[j.slen];exact d)⟩
 .have c:op≠1:=bg
  have f:op=3:=bg
  rw[if_neg c,if_pos f]at d;exact .here (by rw[x.columns_.slen];exact d)
 .have c:op≠1:=bg
  have f:op≠3:=bg
  have g:op=4:=bg
  rw[if_neg c,if_neg f,if_pos g]at d;have n:(ps.length:Int)=2:=by rw[n,g];rfl
  have z:0<ps.length:=by omega
  have A:1<ps.length:=by omega
  obtain⟨b,o,e,r⟩:=get 0 z;obtain⟨Q,R,S,V⟩:=get 1 A;have W:=F ps[0] (getElem_mem z);have X:=F ps[1] (getElem_mem A);have Y:(ps.map PN.width).getD 0 0=ps[0].width:=by simp[z]
  have Z:(ps.map PN.width).getD 1 0=ps[1].width:=by simp[A]
  refine⟨b,o,e,aD,aD,(ps.map PN.width).getD 0 0,.imm (bk r),Q,R,S,aD,aD,(ps.map PN.width).getD 1 0,.imm aD,.here ?_⟩;rw[dY aD aD];exact d
 .have c:op≠1:=bg
  have f:op≠3:=bg
  have g:op≠4:=bg
  rw[if_neg c,if_neg f,if_neg g]at d;have:=one c;obtain⟨b,o,e,r⟩:=get 0 aD;exact⟨b,o,e,aD,aD,_,.imm (bk r),.here d⟩
end Go.Ps
