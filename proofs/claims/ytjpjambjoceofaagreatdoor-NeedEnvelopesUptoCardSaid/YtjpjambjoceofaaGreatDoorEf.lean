/- Own work. -/
import Derived.Shelf.SlSorted.Search
import Derived.Shelf.SlSortCmp.NoneTotal
import Derived.Shelf.Small.Strs
import Derived.Shelf.Strconv.Itoa0
import Derived.Shelf.Strconv.Itoa1
import Derived.Shelf.LaysM
import Derived.Shelf.Strconv.Itoa2
import Derived.Shelf.Strconv.AppendUint10
import Derived.Shelf.Strconv.AppendInt10
import Derived.Shelf.Strconv.AppendIntPublic10
import Derived.Test.YtjpjambjoceofaaGreatDoorProg
import Derived.Lib.ItoaLen
import Derived.RangeFuncWrites
import Derived.OrdersIn
import Derived.Test.YtjpjambjoceofaaGreatDoorEe
set_option linter.unusedVariables false
set_option linter.unusedSimpArgs false
namespace Go.Proofs
open Go.Shelf List
def Tryz.lays213_ren:Go.Shelf.Ren:=⟨λ |213=>245|265=>277|n=>n,λ |9=>9|3=>3|n=>n,λ |n=>n⟩
def Tryz.lays106_ren:Go.Shelf.Ren:=⟨λ |106=>184|213=>245|265=>277|n=>n,λ |9=>9|3=>3|n=>n,λ |n=>n⟩
theorem Tryz.lays106:Go.Proofs.Lays.n106 Tryz.prog Tryz.lays106_ren:={
 mixed:=bd
 f106:=func184.trans (congrArg some bd)
 f213:=func245.trans (congrArg some bd)
 f265:=func277.trans (congrArg some bd)
 t3:=Tryz.underlying3
 a3:=Tryz.isAgg3
 z3:=Tryz.sizeOf3
 v3:=Tryz.zeroValue3
 t9:=Tryz.underlying9
 a9:=Tryz.isAgg9
 z9:=Tryz.sizeOf9
 v9:=Tryz.zeroValue9}
open Go.RowKit in
theorem Tryz.strings_Compare(a b:ByteArray)(w:World):
 Calls Tryz.prog 184 #[.string a,.string b] w λe w'=>e= .returned (.int .i64 (Lib.compareBytes a.data.toList b.data.toList))/\w'=w:=Any.strings_Compare Tryz.lays106 a b w
def Tryz.lays283_ren:Go.Shelf.Ren:=⟨λ |283=>305|n=>n,λ |3=>3|9=>9|4=>4|n=>n,λ |n=>n⟩
theorem Tryz.lays283:Go.Proofs.Lays.n283 Tryz.prog Tryz.lays283_ren:={
 mixed:=bd
 f283:=func305.trans (congrArg some bd)
 t3:=Tryz.underlying3
 a3:=Tryz.isAgg3
 z3:=Tryz.sizeOf3
 v3:=Tryz.zeroValue3
 t4:=Tryz.underlying4
 a4:=Tryz.isAgg4
 z4:=Tryz.sizeOf4
 v4:=Tryz.zeroValue4
 t9:=Tryz.underlying9
 a9:=Tryz.isAgg9
 z9:=Tryz.sizeOf9
 v9:=Tryz.zeroValue9}
open Go.Lib in
theorem Tryz.internal_strconv_small(i:Nat)(h:i<100)(w:World):
 Calls Tryz.prog 305 #[.int .i64 i] w λe w'=>e= .returned (.string ⟨(Lib.decDigits i).toArray⟩)/\w'=w:=Any.internal_strconv_small Tryz.lays283 i h w
def Tryz.laysM284_ren:Go.Shelf.Ren:=⟨λ |284=>306|129=>287|317=>310|318=>311|n=>n,λ |53=>301|3=>3|212=>323|0=>0|4=>4|46=>244|5=>5|9=>9|n=>n,λ |17=>1|n=>n⟩
theorem Tryz.laysM284:Go.Proofs.LaysM.n284 Tryz.prog Tryz.laysM284_ren:={
 mixed:=bd
 f129:=func287.trans (congrArg some bd)
 f284:=func306.trans (congrArg some bd)
 f317:=func310.trans (congrArg some bd)
 f318:=func311.trans (congrArg some bd)
 t0:=Tryz.underlying0
 a0:=Tryz.isAgg0
 z0:=Tryz.sizeOf0
 v0:=Tryz.zeroValue0
 t3:=Tryz.underlying3
 a3:=Tryz.isAgg3
 z3:=Tryz.sizeOf3
 v3:=Tryz.zeroValue3
 t4:=Tryz.underlying4
 a4:=Tryz.isAgg4
 z4:=Tryz.sizeOf4
 v4:=Tryz.zeroValue4
 t5:=Tryz.underlying5
 a5:=Tryz.isAgg5
 z5:=Tryz.sizeOf5
 v5:=Tryz.zeroValue5
 t9:=Tryz.underlying9
 a9:=Tryz.isAgg9
 z9:=Tryz.sizeOf9
 v9:=Tryz.zeroValue9
 t46:=Tryz.underlying244
 a46:=Tryz.isAgg244
 z46:=Tryz.sizeOf244
 v46:=Tryz.zeroValue244
 t53:=Tryz.underlying301
 a53:=Tryz.isAgg301
 z53:=Tryz.sizeOf301
 v53:=Tryz.zeroValue301
 t212:=Tryz.underlying323
 a212:=Tryz.isAgg323
 z212:=Tryz.sizeOf323
 v212:=Tryz.zeroValue323
 g17:=bd
 i0:=bd
 i3:=bd
 i4:=bd
 i5:=bd
 i9:=bd
 i46:=bd
 i53:=bd
 i212:=bd
 m17:=by kernel_rfl}
open Go.Lib in
theorem Tryz.internal_strconv_numDigits(u:Nat)(b:1<=u)(c:u<18446744073709551616)(w:World)(a:Lib.TabIs Tryz.prog w "internal/strconv.uint64pow10" .u64 Lib.pow10Tab):
 Calls Tryz.prog 306 #[.int .u64 u] w λe w'=>e= .returned (.int .i64 (Lib.nDigits u))/\w'=w:=Any.internal_strconv_numDigits Tryz.laysM284 u b c w a
def Tryz.lays285_ren:Go.Shelf.Ren:=⟨λ |285=>307|n=>n,λ |37=>22|53=>301|3=>3|4=>4|51=>299|9=>9|5=>5|0=>0|n=>n,λ |n=>n⟩
theorem Tryz.lays285:Go.Proofs.Lays.n285 Tryz.prog Tryz.lays285_ren:={
 mixed:=bd
 f285:=func307.trans (congrArg some bd)
 t0:=Tryz.underlying0
 a0:=Tryz.isAgg0
 z0:=Tryz.sizeOf0
 v0:=Tryz.zeroValue0
 t3:=Tryz.underlying3
 a3:=Tryz.isAgg3
 z3:=Tryz.sizeOf3
 v3:=Tryz.zeroValue3
 t4:=Tryz.underlying4
 a4:=Tryz.isAgg4
 z4:=Tryz.sizeOf4
 v4:=Tryz.zeroValue4
 t5:=Tryz.underlying5
 a5:=Tryz.isAgg5
 z5:=Tryz.sizeOf5
 v5:=Tryz.zeroValue5
 t9:=Tryz.underlying9
 a9:=Tryz.isAgg9
 z9:=Tryz.sizeOf9
 v9:=Tryz.zeroValue9
 t37:=Tryz.underlying22
 a37:=Tryz.isAgg22
 z37:=Tryz.sizeOf22
 v37:=Tryz.zeroValue22
 t51:=Tryz.underlying299
 a51:=Tryz.isAgg299
 z51:=Tryz.sizeOf299
 v51:=Tryz.zeroValue299
 t53:=Tryz.underlying301
 a53:=Tryz.isAgg301
 z53:=Tryz.sizeOf301
 v53:=Tryz.zeroValue301}
open Go.RowKit Go.Sort Go.Lib in
theorem Tryz.internal_strconv_formatBase10(blk off a:Nat)(u:Nat)(d:Array UInt8)(w:World)(h:Holds (fun(b:UInt8)=>Value.int .u8 (b.toNat:Int)) w blk off d)(i:u<10^d.size)(c:u<18446744073709551616)(f:d.size<4611686018427387904):
 Calls Tryz.prog 307 #[.slice (some ⟨blk,off,none⟩) d.size a,.int .u64 u] w λe w'=>
  e= .returned (.tuple #[])/\∃(n j:Nat)(g:Array UInt8),w'=(putRow (fun(b:UInt8)=>Value.int .u8 (b.toNat:Int)) w blk off g).drewN n/\FmtInv d.size u 0 j g:=Any.internal_strconv_formatBase10 Tryz.lays285 blk off a u d w h i c f
def Tryz.sortF_ren:Go.Shelf.Ren:=⟨λ |6=>189|15=>253|14=>252|28=>286|29=>287|20=>278|21=>279|22=>280|23=>281|24=>282|25=>283|26=>284|27=>285|46=>294|47=>295|48=>296|49=>297|50=>298|57=>304|n=>n,λ |22=>53|24=>94|25=>116|3=>3|39=>244|0=>0|53=>299|55=>301|4=>4|46=>293|45=>292|50=>190|5=>5|9=>9|66=>304|70=>264|76=>313|77=>314|n=>n,λ |n=>n⟩
theorem Tryz.sortF:Go.Proofs.SlLaysF.n6 Tryz.prog Tryz.sortF_ren:={
 mixed:=bd
 f6:=⟨Tryz.f189.name,bg,func189.trans (congrArg some bd)⟩
 f14:=⟨Tryz.f252.name,bg,func252.trans (congrArg some bd)⟩
 f15:=func253.trans (congrArg some bd)
 f20:=⟨Tryz.f278.name,bg,func278.trans (congrArg some bd)⟩
 f21:=⟨Tryz.f279.name,bg,func279.trans (congrArg some bd)⟩
 f22:=⟨Tryz.f280.name,bg,func280.trans (congrArg some bd)⟩
 f23:=⟨Tryz.f281.name,bg,func281.trans (congrArg some bd)⟩
 f24:=⟨Tryz.f282.name,bg,func282.trans (congrArg some bd)⟩
 f25:=⟨Tryz.f283.name,bg,func283.trans (congrArg some bd)⟩
 f26:=⟨Tryz.f284.name,bg,func284.trans (congrArg some bd)⟩
 f27:=⟨Tryz.f285.name,bg,func285.trans (congrArg some bd)⟩
 f28:=func286.trans (congrArg some bd)
 f29:=func287.trans (congrArg some bd)
 f46:=⟨Tryz.f294.name,bg,func294.trans (congrArg some bd)⟩
 f47:=func295.trans (congrArg some bd)
 f48:=func296.trans (congrArg some bd)
 f49:=⟨Tryz.f297.name,bg,func297.trans (congrArg some bd)⟩
 f50:=⟨Tryz.f298.name,bg,func298.trans (congrArg some bd)⟩
 f57:=⟨Tryz.f304.name,bg,func304.trans (congrArg some bd)⟩
 t0:=Tryz.underlying0
 a0:=Tryz.isAgg0
 z0:=Tryz.sizeOf0
 v0:=Tryz.zeroValue0
 t3:=Tryz.underlying3
 a3:=Tryz.isAgg3
 z3:=Tryz.sizeOf3
 v3:=Tryz.zeroValue3
 t4:=Tryz.underlying4
 a4:=Tryz.isAgg4
 z4:=Tryz.sizeOf4
 v4:=Tryz.zeroValue4
 t5:=Tryz.underlying5
 a5:=Tryz.isAgg5
 z5:=Tryz.sizeOf5
 v5:=Tryz.zeroValue5
 t9:=Tryz.underlying9
 a9:=Tryz.isAgg9
 z9:=Tryz.sizeOf9
 v9:=Tryz.zeroValue9
 t22:=Tryz.underlying53
 a22:=Tryz.isAgg53
 z22:=Tryz.sizeOf53
 v22:=Tryz.zeroValue53
 a24:=Tryz.isAgg94
 z24:=Tryz.sizeOf94
 t25:=Tryz.underlying116
 a25:=Tryz.isAgg116
 z25:=Tryz.sizeOf116
 v25:=Tryz.zeroValue116
 t39:=Tryz.underlying244
 a39:=Tryz.isAgg244
 z39:=Tryz.sizeOf244
 v39:=Tryz.zeroValue244
 t45:=Tryz.underlying292
 a45:=Tryz.isAgg292
 z45:=Tryz.sizeOf292
 v45:=Tryz.zeroValue292
 t46:=Tryz.underlying293
 a46:=Tryz.isAgg293
 z46:=Tryz.sizeOf293
 v46:=Tryz.zeroValue293
 t50:=Tryz.underlying190
 a50:=Tryz.isAgg190
 z50:=Tryz.sizeOf190
 v50:=Tryz.zeroValue190
 t53:=Tryz.underlying299
 a53:=Tryz.isAgg299
 z53:=Tryz.sizeOf299
 v53:=Tryz.zeroValue299
 t55:=Tryz.underlying301
 a55:=Tryz.isAgg301
 z55:=Tryz.sizeOf301
 v55:=Tryz.zeroValue301
 t66:=Tryz.underlying304
 a66:=Tryz.isAgg304
 z66:=Tryz.sizeOf304
 v66:=Tryz.zeroValue304
 t70:=Tryz.underlying264
 a70:=Tryz.isAgg264
 z70:=Tryz.sizeOf264
 v70:=Tryz.zeroValue264
 t76:=Tryz.underlying313
 a76:=Tryz.isAgg313
 z76:=Tryz.sizeOf313
 v76:=Tryz.zeroValue313
 t77:=Tryz.underlying314
 a77:=Tryz.isAgg314
 z77:=Tryz.sizeOf314
 v77:=Tryz.zeroValue314}
def Tryz.sortN_ren:Go.Shelf.Ren:=⟨λ |6=>189|15=>253|14=>252|28=>286|29=>287|20=>278|21=>279|22=>280|23=>281|24=>282|25=>283|26=>284|27=>285|46=>294|47=>295|48=>296|49=>297|50=>298|57=>304|n=>n,λ |22=>53|24=>94|25=>116|3=>3|39=>244|0=>0|53=>299|55=>301|4=>4|46=>293|45=>292|50=>190|5=>5|9=>9|66=>304|70=>264|76=>313|77=>314|n=>n,λ |n=>n⟩
theorem Tryz.sortN:Go.Proofs.SlLaysF0.n6 Tryz.prog Tryz.sortN_ren:={
 mixed:=bd
 f6:=⟨Tryz.f189.name,bg,func189.trans (congrArg some bd)⟩
 f14:=⟨Tryz.f252.name,bg,func252.trans (congrArg some bd)⟩
 f15:=func253.trans (congrArg some bd)
 f20:=⟨Tryz.f278.name,bg,func278.trans (congrArg some bd)⟩
 f21:=⟨Tryz.f279.name,bg,func279.trans (congrArg some bd)⟩
 f22:=⟨Tryz.f280.name,bg,func280.trans (congrArg some bd)⟩
 f23:=⟨Tryz.f281.name,bg,func281.trans (congrArg some bd)⟩
 f24:=⟨Tryz.f282.name,bg,func282.trans (congrArg some bd)⟩
 f25:=⟨Tryz.f283.name,bg,func283.trans (congrArg some bd)⟩
 f26:=⟨Tryz.f284.name,bg,func284.trans (congrArg some bd)⟩
 f27:=⟨Tryz.f285.name,bg,func285.trans (congrArg some bd)⟩
 f28:=func286.trans (congrArg some bd)
 f29:=func287.trans (congrArg some bd)
 f46:=⟨Tryz.f294.name,bg,func294.trans (congrArg some bd)⟩
 f47:=func295.trans (congrArg some bd)
 f48:=func296.trans (congrArg some bd)
 f49:=⟨Tryz.f297.name,bg,func297.trans (congrArg some bd)⟩
 f50:=⟨Tryz.f298.name,bg,func298.trans (congrArg some bd)⟩
 f57:=⟨Tryz.f304.name,bg,func304.trans (congrArg some bd)⟩
 t0:=Tryz.underlying0
 a0:=Tryz.isAgg0
 z0:=Tryz.sizeOf0
 v0:=Tryz.zeroValue0
 t3:=Tryz.underlying3
 a3:=Tryz.isAgg3
 z3:=Tryz.sizeOf3
 v3:=Tryz.zeroValue3
 t4:=Tryz.underlying4
 a4:=Tryz.isAgg4
 z4:=Tryz.sizeOf4
 v4:=Tryz.zeroValue4
 t5:=Tryz.underlying5
 a5:=Tryz.isAgg5
 z5:=Tryz.sizeOf5
 v5:=Tryz.zeroValue5
 t9:=Tryz.underlying9
 a9:=Tryz.isAgg9
 z9:=Tryz.sizeOf9
 v9:=Tryz.zeroValue9
 t22:=Tryz.underlying53
 a22:=Tryz.isAgg53
 z22:=Tryz.sizeOf53
 v22:=Tryz.zeroValue53
 t25:=Tryz.underlying116
 a25:=Tryz.isAgg116
 z25:=Tryz.sizeOf116
 v25:=Tryz.zeroValue116
 t39:=Tryz.underlying244
 a39:=Tryz.isAgg244
 z39:=Tryz.sizeOf244
 v39:=Tryz.zeroValue244
 t45:=Tryz.underlying292
 a45:=Tryz.isAgg292
 z45:=Tryz.sizeOf292
 v45:=Tryz.zeroValue292
 t46:=Tryz.underlying293
 a46:=Tryz.isAgg293
 z46:=Tryz.sizeOf293
 v46:=Tryz.zeroValue293
 t50:=Tryz.underlying190
 a50:=Tryz.isAgg190
 z50:=Tryz.sizeOf190
 v50:=Tryz.zeroValue190
 t53:=Tryz.underlying299
 a53:=Tryz.isAgg299
 z53:=Tryz.sizeOf299
 v53:=Tryz.zeroValue299
 t55:=Tryz.underlying301
 a55:=Tryz.isAgg301
 z55:=Tryz.sizeOf301
 v55:=Tryz.zeroValue301
 t66:=Tryz.underlying304
 a66:=Tryz.isAgg304
 z66:=Tryz.sizeOf304
 v66:=Tryz.zeroValue304
 t70:=Tryz.underlying264
 a70:=Tryz.isAgg264
 z70:=Tryz.sizeOf264
 v70:=Tryz.zeroValue264
 t76:=Tryz.underlying313
 a76:=Tryz.isAgg313
 z76:=Tryz.sizeOf313
 v76:=Tryz.zeroValue313
 t77:=Tryz.underlying314
 a77:=Tryz.isAgg314
 z77:=Tryz.sizeOf314
 v77:=Tryz.zeroValue314}
def Tryz.searchO_ren:Go.Shelf.Ren:=⟨λ |16=>126|n=>n,λ |3=>3|35=>48|4=>4|38=>244|n=>n,λ |n=>n⟩
theorem Tryz.searchO:Go.Proofs.SlLaysO.n16 Tryz.prog Tryz.searchO_ren:={
 mixed:=bd
 f16:=func126.trans (congrArg some bd)
 t3:=Tryz.underlying3
 a3:=Tryz.isAgg3
 z3:=Tryz.sizeOf3
 v3:=Tryz.zeroValue3
 t4:=Tryz.underlying4
 a4:=Tryz.isAgg4
 z4:=Tryz.sizeOf4
 v4:=Tryz.zeroValue4
 t35:=Tryz.underlying48
 a35:=Tryz.isAgg48
 z35:=Tryz.sizeOf48
 v35:=Tryz.zeroValue48
 t38:=Tryz.underlying244
 a38:=Tryz.isAgg244
 z38:=Tryz.sizeOf244
 v38:=Tryz.zeroValue244}
end Go.Proofs
namespace Go.Ps
open Go Go.Vc Go.Proofs List Tryz
variable{K:bz}{m:MH}{h:PH}{s:jE}{ps:ca}{cb:Nat}{sc:cE}{v:QV}{p:Pred}{l:ca}{i:Nat}{N:Nat}{m':MH}{h':PH}{co:ca}{gr:ca}{od:cg}{ta:Int}{li:Int}{xs:List bx}{sz:Nat}{ks:List ca}{rs:ca}{r:Sl}{a:ca}{b:Nat}
def gJ(m:MH):Prop:=∃T c,m 1=some (.cells (Lib.pow10Tab.map λz=>Value.int .u64 z).toArray T c)
def cU(u:Nat):CV:=.val (.int .u64 u)
def cFX:Vc.Spec:=λc m h K=>∃i:Nat,c=[cI i]/\i<100/\K (Xf ⟨(Lib.decDigits i).toArray⟩) m h
def axQ:Vc.Spec:=λc m h K=>∃u:Nat,c=[cU u]/\1<=u/\u<18446744073709551616/\gJ m/\K (cI (Lib.nDigits u)) m h
def cEJ:Vc.Spec:=λd m h K=>∃b e u:Nat,∃(f:Array Value)(T:TypeId),d=[.val (.slice (some ⟨b,0,none⟩) (Lib.nDigits u) e),cU u]/\u<18446744073709551616/\m b=some (.cells f T (0,0))/\f.toList=replicate 24 (.int .u8 0)/\
 ∀c m',c.size=f.size->c.toList.take (Lib.nDigits u)=Lib.byteCells (Lib.decDigits u)->iL m m' b (.cells c T (0,0))->K (.tup []) m' h
def cjX:Vc.Spec:=λc m h K=>∃xs,∃u:Nat,c=[.lst 5 1 xs,cU u,cI 10]/\u<18446744073709551616/\gJ m/\xs.length+30<=140737488355328/\K (.lst 5 1 (xs++bC (Lib.decDigits u))) m h
def nO(i:Int):cu:=if i<0 then 45::Lib.decDigits (IntKind.u64.wrap (0-IntKind.u64.wrap i)).toNat else Lib.decDigits (IntKind.u64.wrap i).toNat
def QZ:Vc.Spec:=λc m h K=>∃xs i,c=[.lst 5 1 xs,cI i,cI 10]/\gJ m/\xs.length+40<=140737488355328/\K (.lst 5 1 (xs++bC (nO i))) m h
noncomputable abbrev ES(a:bx):bx:=aM (Bn 0) (Bn 0) (aM (Bn 0) (Bn 0) (aM (Bn 0) (Bn 0) (aM (Bn 0) (Bn 0) a)))
noncomputable abbrev Es(a:Int):Value:=Value.int IntKind.u64 a
abbrev Pc(a:Nat):Prop:=a<18446744073709551616
attribute [push_cast] ES Es Pc
def L7(xs:List bx)(u:Nat)(m:MH)(h:PH)(K:bz):Prop:=
  aZ (↑u:Int) 100 (∃(i:Nat),aA (oB (fX (fH (↑u:Int)))=oB (fX (↑i:Int))) (i<100) (aA (oL xs (fR (ByteArray.mk (Array.mk (Lib.decDigits i)))) 1) (oF xs (fR (ByteArray.mk (Array.mk (Lib.decDigits i))))) (K (CV.lst 5 1 (xs++fR (ByteArray.mk (Array.mk (Lib.decDigits i))))) m h))) (jY m h (λb e=>eA m e b (ES (ES (ES []))) 317) (λb e=>∃(d:Nat),aA (oB (CV.val (Es (↑u:Int)))=oB (CV.val (Es (↑d:Int)))) (1<=d) (aA (Pc d) (gJ e) (aA (bZ (↑(Lib.nDigits d):Int)) ((↑(Lib.nDigits d):Int)<=24) (bJ (λg c=>∃(f:Nat),wD (λj T=>aA (cV (CV.val (Value.slice (Option.some (RD b 0)) (yW (Lib.nDigits d)) 24)) (CV.val (Es (↑u:Int)))=cV (CV.val (Value.slice (Option.some (RD g 0)) (Lib.nDigits f) c)) (CV.val (Es
 (↑f:Int)))) (Pc f) (aA (e g=Option.some (oU j T 0)) (j.toList=ES (ES (ES []))) (∀(n:Array Value)(o:MH),n.size=j.size->List.take (Lib.nDigits f) n.toList=Lib.byteCells (Lib.decDigits f)->iL e o g (oU n T 0)->EA (bZ (↑(Lib.nDigits d):Int)) ((↑(Lib.nDigits d):Int)<=24) (λy=>j6 1 y (mJ o h (Sl.mk (Option.some (RD b 0)) (yW (Lib.nDigits d)) 24) 1 y) (oL xs y 1) (oF xs y) (K (CV.lst 5 1 (xs++y)) o h)))))))))))
noncomputable abbrev Pe(a:Int):Int:=IntKind.wrap IntKind.u64 a
noncomputable abbrev kU(a:List bx)(b:cu):List bx:=a++bC b
attribute [push_cast] Pe kU
def R8(xs:List bx)(i:Int)(m:MH)(h:PH)(K:bz):Prop:=
  aZ i 0 (EA (fC (iY xs 1*1)) (jQ xs) (λx=>∃(u:Nat),aA (CV.lst 5 1 (eN xs (oK (Bn 45)))::aW (CV.val (Es (Pe (0-Pe i)))) 10=CV.lst 5 1 x::aW (CV.val (Es (↑u:Int))) 10) (Pc u) (aA (gJ m) (fC (iY x 30)) (K (CV.lst 5 1 (kU x (Lib.decDigits u))) m h)))) (∃(x:List bx)(u:Nat),aA (CV.lst 5 1 xs::aW (CV.val (Es (Pe i))) 10=CV.lst 5 1 x::aW (CV.val (Es (↑u:Int))) 10) (Pc u) (aA (gJ m) (fC (iY x 30)) (K (CV.lst 5 1 (kU x (Lib.decDigits u))) m h)))
noncomputable abbrev Kt(a:List bx)(b:Int):cz:=CV.lst 5 1 a::aW (fX b) 10
attribute [push_cast] Kt
def aQJ(xs:List bx)(i:Int)(m:MH)(h:PH)(K:bz):Prop:=
  ∃(x:List bx)(c:Int),aA (Kt xs i=Kt x c) (gJ m) (fC (iY x 40)/\K (CV.lst 5 1 (kU x (nO c))) m h)
theorem gJ.sub(h:gJ m)(c:Sub m m'):gJ m':=by
 obtain⟨T,d,e⟩:=h;exact⟨T,d,c 1 _ e⟩
theorem Lm{w:World}{c:cz}{vs:bx}(d:AR w m h c vs):xV ⟨w,uC m c vs,h,[]⟩ m h w:=
 ⟨rfl,rfl,rfl,Nat.le_refl _,Nat.le_refl _,λ_ _ _=>rfl,d.hsat,d.msat,d.disj,λ_ _ _ e=>e,λ_ _ _=>rfl,λb o f=>.inr (.inl bk)⟩
theorem Yq:bu 305 cFX:=by
 refine⟨⟨Tryz.f305,func305,rfl,bg⟩,?_⟩;rintro f d m h w K ⟨i,rfl,g,j⟩ c
 obtain⟨v,rfl⟩:∃v,d=[v]:=by
  have:=(sH c.args).1
  match d,this with
  |[v],_=>grind
 have n:v= .int .i64 i:=c.args.1;subst n;refine(Tryz.internal_strconv_small i g w).mono ?_;rintro e t ⟨rfl,rfl⟩;exact⟨_,_,m,h,rfl,j,rfl,Lm c,λb o=>by simp[Xf,gR]at o⟩
theorem Yp:bu 306 axQ:=by
 refine⟨⟨Tryz.f306,func306,rfl,bg⟩,?_⟩;rintro f d m h w K ⟨u,rfl,g,j,⟨T,y,n⟩,o⟩ c
 obtain⟨v,rfl⟩:∃v,d=[v]:=by
  have:=(sH c.args).1
  match d,this with
  |[v],_=>grind
 have t:v= .int .u64 u:=c.args.1;subst t;have z:=c.msat 1 _ n;refine(Tryz.internal_strconv_numDigits u g j w ?_).mono ?_
 .unfold Lib.TabIs World.var?;rw[show Tryz.prog.globalNamed _=some 1 by kernel_rfl]
  grind
 .rintro e A ⟨rfl,rfl⟩;exact⟨_,_,m,h,rfl,o,rfl,Lm c,λb x=>by simp[cI,gR]at x⟩
theorem Yo:bu 307 cEJ:=by
 refine⟨⟨Tryz.f307,func307,rfl,bg⟩,?_⟩;rintro W P m h w K ⟨b,g,u,B,T,rfl,Q,A,C,X⟩ t
 obtain⟨v,H,rfl⟩:∃v H,P=[v,H]:=by
  have:=(sH t.args).1
  match P,this with
  |[v,H],_=>grind
 have Y:v= .slice (some ⟨b,0,none⟩) (Lib.nDigits u) g:=t.args.1;have J:H= .int .u64 u:=t.args.2.1;subst Y J;have R:=t.msat b _ A;have Z:=Lib.nDigits_le20 u Q;have a':B.size=24:=by rw[<-Array.length_toList,C];simp
 have hH:Sort.Holds (fun(b:UInt8)=>Value.int .u8 (b.toNat:Int)) w b 0 (Array.replicate (Lib.nDigits u) (0:UInt8)):=by
  intro j I;simp only[Array.size_replicate]at I;refine⟨?_,?_⟩
  .rw[cell_of_heap R,C,getElem?_replicate,if_pos aD];rw[getElem!_pos _ j bk];simp
  .unfold World.frozen?
   grind
 have S:=Tryz.internal_strconv_formatBase10 b 0 g u (Array.replicate (Lib.nDigits u) (0:UInt8)) w hH (bt (Lib.lt_pow_nDigits u)) Q bj;rw[Array.size_replicate]at S;refine S.mono ?_;rintro e w' ⟨rfl,n,v',z,rfl,U⟩;have a0:z.size=Lib.nDigits u:=U.size;obtain⟨m',y⟩:∃m',iL m m' b (.cells (Sort.putCells (fun(b:UInt8)=>Value.int .u8 (b.toNat:Int)) 0 z B) T (0,0)):=⟨λc=>if c=b then some (.cells (Sort.putCells (fun(b:UInt8)=>Value.int .u8 (b.toNat:Int)) 0 z B) T (0,0))else m c,bf,λc d=>by simp[d]⟩
 have D:(Sort.putRow (fun(b:UInt8)=>Value.int .u8 (b.toNat:Int)) w b 0 z).heap[b]? =some (.cells (Sort.putCells (fun(b:UInt8)=>Value.int .u8 (b.toNat:Int)) 0 z B) T (0,0)):=by
  unfold Sort.putRow Sort.mapBlock;simp only[Array.getElem?_modify,if_true,R];rfl
 have f:∀c,c≠b->(Sort.putRow (fun(b:UInt8)=>Value.int .u8 (b.toNat:Int)) w b 0 z).heap[c]? =w.heap[c]? :=λc d=>by
  unfold Sort.putRow Sort.mapBlock
  grind
 refine⟨.tup [],.tuple #[],m',h,rfl,X _ m' ?_ ?_ y,⟨#[],rfl,rfl⟩,?_,λb A=>by simp[gR]at A⟩
 .simp[Sort.putCells]
 .apply ext_getElem?;intro j;rw[getElem?_take];have hl:(Lib.byteCells (Lib.decDigits u)).length=Lib.nDigits u:=by rw[Lib.byteCells_length,Lib.decDigits_length]
  by_cases I:j<Lib.nDigits u
  .rw[if_pos I,Array.getElem?_toList];have E:j<(Lib.decDigits u).length:=by rw[Lib.decDigits_length];exact I
   have F:j<B.size:=by omega
   simp only[Sort.putCells,Array.getElem?_mapIdx,Array.getElem?_eq_getElem F,Option.map_some,Nat.zero_le,Nat.zero_add,Nat.sub_zero,true_and];rw[if_pos aD,Lib.byteCells,getElem?_map,getElem?_eq_getElem E,Lib.row_is_numeral U j E];rfl
  grind
 .have G:∀c o,m' c=some o->c=b\/m c=some o:=λc o d=>by
   by_cases e:c=b
   .exact .inl e
   .rw[y.other c e]at d;grind
  have V:uC m [.val (.slice (some ⟨b,0,none⟩) (Lib.nDigits u) g),cU u] [.slice (some ⟨b,0,none⟩) (Lib.nDigits u) g,.int .u64 u] b:=.inl (by rw[A];simp);refine⟨rfl,rfl,rfl,Nat.le_add_right _ _,by simp[Sort.putRow,Sort.mapBlock],?_,?_,?_,?_,λ_ _ _ e=>e,λ_ _ _=>rfl,?_⟩
  .intro c _ hn;exact f c (λe=>hn (e▸V))
  .intro c o x L;have M:c≠b:=λe=>by rw[e,t.disj b _ A o]at L;cases L
   show(Sort.putRow (fun(b:UInt8)=>Value.int .u8 (b.toNat:Int)) w b 0 z).cell? ⟨c,o,none⟩=some x;rw[World.cell?_of_block (w:=w) (a:=⟨c,o,none⟩) (f c M)];exact t.hsat c o x L
  .intro c o d;by_cases e:c=b
   .subst e;rw[y.at_]at d;cases d;exact D
   .rw[y.other c e]at d;rw[show((Sort.putRow (fun(b:UInt8)=>Value.int .u8 (b.toNat:Int)) w b 0 z).drewN n).heap[c]? =_ from f c e];exact t.msat c o d
  .intro c o d j;rcases G c o d with rfl|O
   .exact t.disj c _ A j
   .exact t.disj c _ O j
  .intro c o d;rcases G c o d with rfl|O
   .exact .inr V
   .exact .inr (.inl (by rw[O];simp))
theorem GH(l:cu):fR ⟨l.toArray⟩=bC l:=by simp[fR,bC]
theorem MD(l:cu):(bC l).flatten=Lib.byteCells l:=by
 unfold bC Lib.byteCells
 induction l with
 |nil=>rfl
 |cons b r c=>simp[c]
theorem aY(l:cu):(bC l).length=l.length:=by simp[bC]
theorem Yv:bu 299 cjX:=by
 refine FR func299 ?_;rintro x m h K ⟨xs,u,rfl,j,y,D,o⟩;refine⟨sN [(305,cFX),(306,axQ),(307,cEJ)] [] [] [] [317] [] true,rfl,aE Yq (aE Yp (aE Yo aG)),L7 xs u m h (lE h K),bd,?_⟩;show L7 xs u m h (lE h K);dsimp only[L7,push_cast];have z:=Lib.nDigits_le20 u j;have d:=Lib.decDigits_length u;refine aF (λA=>⟨u,?_,aD,?_,?_,?_⟩) (λA b B t e=>?_)
 .rw[eH aD aD]
 .rw[GH,aY];omega
 .rw[GH,aY];omega
 .rw[GH];exact .here o
 .have f:Sub m B:=(Sub.refl m).upd t.m_ e.other;refine⟨u,rfl,aD,j,y.sub f,aD,aD,b,24,u,_,_,bk,j,e.at_,rfl,λn E C c g=>⟨aD,aD,bC (Lib.decDigits u),Ju _,?_,?_,?_,?_⟩⟩
  .refine .lent b 0 n 317 (0,0) rfl ?_ g.at_ ?_
   .rw[Int.toNat_natCast,aY,d]
   .rw[MD,Lib.byteCells_length,d,drop_zero];exact c
  .rw[aY];omega
  .rw[aY];omega
  .exact .sub (f.upd t.m_ g.other) o
theorem a1Q(i:Int):0<=IntKind.u64.wrap i/\IntKind.u64.wrap i<18446744073709551616:=by
 simp only[IntKind.wrap,IntKind.bits,IntKind.signed];simp;omega
theorem zX(i:Int):(nO i).length<=21:=by
 have key:∀n:Int,(Lib.decDigits (IntKind.u64.wrap n).toNat).length<=20:=λn=>by
  rw[Lib.decDigits_length];exact Lib.nDigits_le20 _ (by have:=a1Q n;omega)
 unfold nO
 grind
theorem Yx:bu 288 QZ:=by
 refine hU func288 ?_;rintro e m h K ⟨xs,i,rfl,c,g,d⟩;refine⟨sN [(299,cjX)] [] [] [] [] [(299,[0])] true,rfl,aE Yv aG,R8 xs i m h K,bd,?_⟩;dsimp only[R8,push_cast];have j:=a1Q i;have n:=a1Q (0-IntKind.u64.wrap i);refine aF (λf=>⟨aD,aD,xs++[[.int .u8 45]],(IntKind.u64.wrap (0-IntKind.u64.wrap i)).toNat,?_,aD,c,bj,?_⟩) (λf=>⟨xs,(IntKind.u64.wrap i).toNat,?_,aD,c,aD,?_⟩)
 .grind
 .have:nO i=45::Lib.decDigits (IntKind.u64.wrap (0-IntKind.u64.wrap i)).toNat:=by unfold nO;grind
  rw[this]at d;rw[append_assoc];exact d
 .grind
 .have:nO i=Lib.decDigits (IntKind.u64.wrap i).toNat:=by unfold nO;grind
  grind
theorem Fu:bu 256 QZ:=by
 refine hU func256 ?_;rintro c m h K ⟨xs,i,rfl,d,e,f⟩;refine⟨sN [(288,QZ)] [] [] [] [] [(288,[0])] true,rfl,aE Yx aG,aQJ xs i m h K,bd,?_⟩;exact⟨xs,i,rfl,d,e,f⟩
def CC(a b:Int):Int:=if a<b then-1 else if b<a then 1 else 0
def Rc(a b:ByteArray):Int:=Lib.compareBytes a.data.toList b.data.toList
def nP(a b:VV):Int:=if CC a.kind b.kind≠0 then CC a.kind b.kind else if CC a.int b.int≠0 then CC a.int b.int else Rc a.text b.text
def fQ:cj->cj->Int
 |[],[]=>0
 |[],_::_=> -1
 |_::_,[]=>1
 |x::xs,y::ys=>if nP x y≠0 then nP x y else fQ xs ys
def b9Z:Vc.Spec:=λc m h K=>∃n,c=[cI n]/\K (cB false) m h
def azJ:Vc.Spec:=λc m h K=>∃a b,c=[cI a,cI b]/\K (cI (CC a b)) m h
def ciX:Vc.Spec:=λc m h K=>∃a b,c=[Xf a,Xf b]/\K (cI (Rc a b)) m h
def TG:Vc.Spec:=λc m h K=>∃a b,c=[aV a,aV b]/\K (cI (nP a b)) m h
def NB:Vc.Spec:=λc m h K=>∃s t a b,c=[cS s,cS t]/\cF h s a/\cF h t b/\K (cI (fQ a b)) m h
def ciJ:Vc.Spec:=λc m h K=>∃s t a b,c=[cS s,cS t,.val (.func (.func 108) #[] #[])]/\cF h s a/\cF h t b/\K (cI (fQ a b)) m h
def Rows(h:PH)(s:Sl)(l:cd):Prop:=bY h 1 eS (λr t=>cF h t r) s l
def ceX:Vc.Spec:=λc m h K=>∃s t a b,c=[cS s,cS t]/\Rows h s a/\Rows h t b/\∀r:Bool,(r=true↔a=b)->K (cB r) m h
noncomputable def bmX(s t:Sl)(m:MH)(h:PH):Ctx:=
 dA [(108,TG)] [(2,{A:=Nat,st:=λi=>bQ 39 42 [(0,sv s),(1,sv t),(2,vv (.func (.func 108) #[] #[])),(11,sv s),(12,iv s.len),(13,iv i)] [] m h})] [] [] false
noncomputable def bWZ(s t:Sl)(m:MH)(h:PH):Ctx:=
 dA [(109,TG)] [(2,{A:=Nat,st:=λi=>bQ 43 45 [(0,sv s),(1,sv t),(5,iv i)] [] m h})] [] [] false
noncomputable def b4X(s t:Sl)(m:MH)(h:PH):Ctx:=
 dA [(65,NB)] [(4,{A:=Nat,st:=λi=>bQ 27 29 [(0,sv s),(1,sv t),(12,iv s.len),(13,iv i)] [] m h})] [] [] false
def aSJ(n:Int)(m:MH)(h:PH)(K:bz):Prop:=
  K (Bc (n !=n)) m h
def aSZ(n:Int)(m:MH)(h:PH)(K:bz):Prop:=
  K (Bc (n !=n)) m h
def Mi(a b:Int)(m:MH)(h:PH)(K:bz):Prop:=
  lA a (λ_=>lA b (λ_=>aZ a b (K (fX (Int.negSucc 0)) m h) (fA a b (K (fX 1) m h) (K (fX 0) m h))))
def aTZ(a b:Int)(m:MH)(h:PH)(K:bz):Prop:=
  lA a (λ_=>lA b (λ_=>aZ a b (K (fX (Int.negSucc 0)) m h) (fA a b (K (fX 1) m h) (K (fX 0) m h))))
def Th(a b:VV)(m:MH)(h:PH)(K:bz):Prop:=
  nU 27 a.enc b.enc (λr=>branch r (K (fX 0) m h) (Gi (λc d=>aW (fX a.kind) b.kind=aW (fX c) d/\eC (CC c d) 0 (K (fX (CC c d)) m h) (Gi (λe f=>aW (fX a.int) b.int=aW (fX e) f/\eC (CC e f) 0 (K (fX (CC e f)) m h) (∃(g j:ByteArray),cV (kL a.text) (kL b.text)=cV (kL g) (kL j)/\K (fX (Rc g j)) m h))))))
def Tg(a b:VV)(m:MH)(h:PH)(K:bz):Prop:=
  aZ a.kind b.kind (K (fX (Int.negSucc 0)) m h) (fA a.kind b.kind (K (fX 1) m h) (aZ a.int b.int (K (fX (Int.negSucc 0)) m h) (cW (decide (a.int>b.int)) (K (fX 1) m h) (Op.bytesLess (De a) (De b)) (K (fX (Int.negSucc 0)) m h) (iM (Bool.or (Op.bytesLess (De a) (De b)) (De a==De b)) (K (fX 1) m h) (K (fX 0) m h)))))
abbrev Kv(a b:VV)(c:VV->VV->Prop):Prop:=∃(x d:VV),cV (mF a) (mF b)=cV (mF x) (mF d)/\c x d
attribute [push_cast] Kv
def Sy(s t:Sl)(m:MH)(h:PH)(K:bz):Prop:=
  sZ (λI x=>aA (I x) (aI s) (aA (aI t) (Ap 108) (aA (aI s) (bI s) (aA (bB x) (m=m) (bN h h))))) (λI d x=>I x->aZ (↑x:Int) (aH s) (bJ (λb o=>aA (bM s.a b o) (0<=(↑x:Int)) ((↑x:Int)<aH s/\∃(y:VV),aU m h b (bK o x 3) y.enc/\gM (↑x:Int) (aH t) (K (fX 1) m h) (bJ (λe f=>aA (bM t.a e f) (0<=(↑x:Int)) ((↑x:Int)<aH t/\∃(g:VV),aU m h e (bK f x 3) g.enc/\Kv y g (λa j=>iV (nP a j !=0) (K (fX (nP a j)) m h) (λc=>aA (I c) (d c<d x) (aA (aI s) (aI t) (aA (Ap 108) (aI s) (aA (bI s) (bD (fZ (bE x 1)) c) (aA (m=m) (h=h) True)))))))))))) (aZ (aH s) (aH t) (K (fX (Int.negSucc 0)) m h) (K (fX 0) m h)))
def aVJ(s t:Sl)(m:MH)(h:PH)(K:bz):Prop:=
  ∃(c:Sl),rJ (λd a=>∃(b:cj),aA (BN s t 108=BN c d 108) (cF h c a) (cF h d b/\K (fX (fQ a b)) m h))
def Wr(s t:Sl)(m:MH)(h:PH)(K:bz):Prop:=
  sZ (λI x=>aA (I x) (aI s) (aA (aI t) (bB x) (aA (m=m) (h=h) True))) (λI d x=>I x->aZ (↑x:Int) (aH s) (aZ (↑x:Int) (aH t) (bJ (λb o=>aA (bM s.a b o) (0<=(↑x:Int)) ((↑x:Int)<aH s/\∃(y:VV),aU m h b (bK o x 3) y.enc/\bJ (λe f=>aA (bM t.a e f) (0<=(↑x:Int)) ((↑x:Int)<aH t/\∃(g:VV),aU m h e (bK f x 3) g.enc/\Kv y g (λa j=>iV (nP a j !=0) (K (fX (nP a j)) m h) (λc=>aA (I c) (d c<d x) (aA (aI s) (aI t) (bP (bD (fZ (bE x 1)) c) (m=m) (h=h)))))))))) (aZ (aH s) (aH t) (K (fX (Int.negSucc 0)) m h) (fA (aH s) (aH t) (K (fX 1) m h) (K (fX 0) m h)))) (aZ (aH s) (aH t) (K (fX (Int.negSucc 0)) m h) (fA (aH s) (aH t) (K (fX 1) m h) (K (fX 0) m h))))
def WI(s t:Sl)(m:MH)(h:PH)(K:bz):Prop:=
  eC (aH s) (aH t) (K aX m h) (sZ (λI x=>aA (I x) (aI s) (aA (aI t) (bI s) (bP (bB x) (m=m) (h=h)))) (λI d x=>I x->aZ (↑x:Int) (aH s) (eK s.a (↑x:Int) s (λb o y=>aU m h b (bK o x 1) (bA y)/\eK t.a (↑x:Int) t (λn u e=>aU m h n (bK u x 1) (bA e)/\∃(f:Sl),rJ (λg a=>∃(j:cj),aA (dT y e=dT f g) (cF h f a) (cF h g j/\iV (fQ a j !=0) (K aX m h) (λc=>aA (I c) (d c<d x) (aA (aI s) (aI t) (aA (bI s) (bD (fZ (bE x 1)) c) (aA (m=m) (h=h) True))))))))) (gK K m h)))
theorem HZ{a b:Int}:CC a b=0↔a=b:=by
 unfold CC;omega
theorem H0:∀a b:cu,Lib.compareBytes a b=0↔a=b
 |[],[]=>by simp[Lib.compareBytes]
 |[],_::_=>by simp[Lib.compareBytes]
 |_::_,[]=>by simp[Lib.compareBytes]
 |a::l,b::bs=>by
  simp only[Lib.compareBytes,List.cons.injEq];split
  .grind
  .split
   .grind
   .rename_i c d;rw[H0 l bs]
    grind
theorem aXZ{a b:ByteArray}:Rc a b=0↔a=b:=by
 unfold Rc;rw[H0];constructor
 .intro h;cases a;cases b;simp only[ByteArray.mk.injEq];exact Array.toList_inj.1 h
 grind
theorem Mz{a b:VV}:nP a b=0↔a=b:=by
 obtain⟨k,i,t⟩:=a;obtain⟨d,f,g⟩:=b;simp only[nP,VV.mk.injEq];split
 .rename_i h;exact⟨λe=>absurd e h,λe=>absurd (HZ.2 e.1) h⟩
 .rename_i h;have h:=Classical.not_not.1 h;split
  .rename_i c;exact⟨λe=>absurd e c,λe=>absurd (HZ.2 e.2.1) c⟩
  .rename_i c;have c:=Classical.not_not.1 c;rw[aXZ];simp[HZ.1 h,HZ.1 c]
theorem nB:∀{a b:cj},fQ a b=0↔a=b
 |[],[]=>by simp[fQ]
 |[],_::_=>by simp[fQ]
 |_::_,[]=>by simp[fQ]
 |x::xs,y::ys=>by
  simp only[fQ,List.cons.injEq];split
  .rename_i h;exact⟨λe=>absurd e h,λe=>absurd (Mz.2 e.1) h⟩
  .rename_i h;rw[nB (a:=xs),Mz.1 (Classical.not_not.1 h)];simp
theorem Pn:∀a b:cu,(Op.bytesLess a b=true↔Lib.compareBytes a b= -1)/\(Lib.compareBytes a b= -1\/Lib.compareBytes a b=0\/Lib.compareBytes a b=1)
 |[],[]=>by simp[Lib.compareBytes,Op.bytesLess]
 |[],_::_=>by simp[Lib.compareBytes,Op.bytesLess]
 |_::_,[]=>by simp[Lib.compareBytes,Op.bytesLess]
 |a::l,b::bs=>by
  obtain⟨c,d⟩:=Pn l bs;simp only[Lib.compareBytes,Op.bytesLess]
  grind
theorem arX{a b:Int}(c:K (cI (CC a b)) m h):Mi a b m h K:=by
 dsimp only[Mi,push_cast];refine⟨a,rfl,b,rfl,aF (λd=>?_) (λd=>aF (λe=>?_) (λe=>?_))⟩
 .rw[CC,if_pos d]at c;exact c
 .rw[CC,if_neg d,if_pos e]at c;exact c
 .rw[CC,if_neg d,if_neg e]at c;exact c
theorem YL:bu 243 b9Z:=by
 refine hU func243 ?_;rintro c m h K ⟨n,rfl,d⟩;refine⟨dA [] [] [] [] false,rfl,aG,aSJ n m h K,bd,?_⟩;exact(by show K (cB (n !=n)) m h;grind)
theorem YK:bu 244 b9Z:=by
 refine hU func244 ?_;rintro c m h K ⟨n,rfl,d⟩;refine⟨dA [] [] [] [] false,rfl,aG,aSZ n m h K,bd,?_⟩;exact(by show K (cB (n !=n)) m h;grind)
theorem Zi:bu 182 azJ:=by
 refine hU func182 ?_;rintro c m h K ⟨a,b,rfl,d⟩;refine⟨dA [(243,b9Z)] [] [] [] false,rfl,aE YL aG,Mi a b m h K,bd,?_⟩;exact arX d
theorem Zh:bu 183 azJ:=by
 refine hU func183 ?_;rintro c m h K ⟨a,b,rfl,d⟩;refine⟨dA [(244,b9Z)] [] [] [] false,rfl,aE YK aG,aTZ a b m h K,bd,?_⟩;exact arX d
theorem Zg:bu 184 ciX:=by
 refine⟨⟨Tryz.f184,func184,rfl,bg⟩,?_⟩;rintro j g m h w K ⟨a,b,rfl,n⟩ c
 obtain⟨v,d,rfl⟩:∃v d,g=[v,d]:=by
  have:=(sH c.args).1
  match g,this with
  |[v,d],_=>grind
 have o:v= .string a:=c.args.1;have f:d= .string b:=c.args.2.1;subst o f;refine(Tryz.strings_Compare a b w).mono ?_;rintro e u ⟨rfl,rfl⟩;exact⟨_,_,m,h,rfl,n,rfl,Lm c,λb t=>by simp[cI,gR]at t⟩
theorem IV:bu 108 TG:=by
 refine hU func108 ?_;rintro e m h K ⟨a,b,rfl,c⟩;refine⟨dA [(182,azJ),(183,azJ),(184,ciX)] [] [] [] false,rfl,aE Zi (aE Zh (aE Zg aG)),Th a b m h K,bd,?_⟩;dsimp only[Th,push_cast];refine⟨_,Uu a b,aC (λd=>?_) (λd=>⟨_,_,rfl,aC (λf=>?_) (λf=>⟨_,_,rfl,aC (λg=>?_) (λg=>⟨_,_,rfl,?_⟩)⟩)⟩)⟩
 .rw[Mz.2 (Uv.1 d)]at c;exact c
 .rw[nP,if_pos bk]at c;exact c
 .rw[nP,if_neg bk,if_pos bk]at c;exact c
 .rw[nP,if_neg bk,if_neg bk]at c;exact c
theorem Z3:bu 109 TG:=by
 refine hU func109 ?_;rintro y m h K ⟨a,b,rfl,c⟩;refine⟨dA [] [] [] [] false,rfl,aG,Tg a b m h K,bd,?_⟩;dsimp only[Tg,push_cast];unfold nP CC Rc at c;obtain⟨o,t⟩:=Pn a.text.data.toList b.text.data.toList;refine aF (λd=>?_) (λd=>aF (λf=>?_) (λf=>aF (λg=>?_) (λg=>aF (λu=>?_) (λu=>aC (λj=>?_) (λj=>aC (λn=>?_) (λn=>?_))))))
 .rw[if_pos d]at c;exact c
 .rw[if_neg d,if_pos f]at c;exact c
 .rw[if_neg d,if_neg f,if_pos g]at c;exact c
 .rw[if_neg d,if_neg f,if_neg g,if_pos u]at c;exact c
 all_goals rw[if_neg d,if_neg f,if_neg g,if_neg u]at c
 all_goals rw[ByteArray.toList_eq,ByteArray.toList_eq]at j
 .rw[if_neg bf,if_neg bf,o.1 j]at c;exact c
 .have x:Lib.compareBytes a.text.data.toList b.text.data.toList=1:=by
   rcases t with e|e|e
   .grind
   .rw[H0]at e;rw[ByteArray.toList_eq,ByteArray.toList_eq,e]at n;simp at n
   .exact e
  rw[if_neg bf,if_neg bf,x]at c;exact c
 .have x:Lib.compareBytes a.text.data.toList b.text.data.toList=0:=by
   rw[ByteArray.toList_eq,ByteArray.toList_eq,j]at n;rw[H0];grind
  rw[if_neg bf,if_neg bf,x]at c;exact c
theorem Tp{a b:cj}{x y:VV}(c:a[i]? =some x)(d:b[i]? =some y):fQ (a.drop i) (b.drop i)=if nP x y≠0 then nP x y else fQ (a.drop (i+1)) (b.drop (i+1)):=by
 rw[drop_cons c,drop_cons d,fQ]
theorem Zk:bu 177 ciJ:=by
 refine hU func177 ?_;rintro D m h K ⟨s,t,a,b,rfl,o,C,d⟩;refine⟨bmX s t m h,rfl,aE IV aG,Sy s t m h K,bd,?_⟩;dsimp only[Sy,push_cast];have z:=bY.slen o;have f:=bY.slen C;have E:=o.len;refine⟨λi=>i<=a.length/\i<=b.length/\fQ a b=fQ (a.drop i) (b.drop i),λi=>a.length-i,⟨0,⟨aD,aD,bf⟩,MT⟩,λi⟨S,T,e⟩=>aF (λg=>?_) (λA=>?_)⟩
 .obtain⟨x,B⟩:=eT z g;obtain⟨F,G,u,H,I,rfl⟩:=bY.at o B;refine⟨F,G,H,aD,g,x,.imm I,aF (λA=>?_) (λc=>?_)⟩
  .rw[e,drop_cons B,drop_eq_nil_of_le (show b.length<=i by omega),fQ]at d;exact d
  .have c:(i:Int)<(t.len:Int):=by omega
   obtain⟨y,j⟩:=eT f c;obtain⟨J,L,u,M,O,rfl⟩:=bY.at C j;rw[Tp B j]at e;refine⟨J,L,M,aD,c,y,.imm O,x,y,rfl,aC (λP=>?_) (λQ=>⟨i+1,⟨aD,aD,?_⟩,(show a.length-(i+1)<a.length-i by omega),MT⟩)⟩
   .rw[e,if_pos bk]at d;exact d
   grind
 .have:a.drop i=[]:=drop_eq_nil_of_le aD;rw[this]at e;refine aF (λR=>?_) (λR=>?_)
  .obtain⟨y,j⟩:=eT (l:=b) (i:=i) (n:=t.len) f aD;rw[e,drop_cons j,fQ]at d;exact d
  .rw[e,drop_eq_nil_of_le aD,fQ]at d;exact d
theorem Ct:bu 102 NB:=by
 refine hU func102 ?_;rintro c m h K ⟨s,t,a,b,rfl,d,e,f⟩;refine⟨dA [(177,ciJ)] [] [] [] false,rfl,aE Zk aG,aVJ s t m h K,bd,?_⟩;exact⟨s,t,a,b,rfl,d,e,f⟩
theorem aNZ:bu 65 NB:=by
 refine hU func65 ?_;rintro F m h K ⟨s,t,a,b,rfl,A,E,c⟩;refine⟨bWZ s t m h,rfl,aE Z3 aG,Wr s t m h K,bd,?_⟩;dsimp only[Wr,push_cast];have f:=bY.slen A;have g:=bY.slen E;have G:=A.len;refine⟨λi=>i<=a.length/\i<=b.length/\fQ a b=fQ (a.drop i) (b.drop i),λi=>a.length-i,⟨0,⟨aD,aD,bf⟩,MT⟩,λi⟨T,U,j⟩=>aF (λe=>aF (λd=>?_) (λB=>?_)) (λB=>?_)⟩
 .obtain⟨x,o⟩:=eT f e;obtain⟨y,z⟩:=eT g d;obtain⟨H,I,u,J,L,rfl⟩:=bY.at A o;obtain⟨M,O,u,P,Q,rfl⟩:=bY.at E z;rw[Tp o z]at j;refine⟨H,I,J,aD,e,x,.imm L,M,O,P,aD,d,y,.imm Q,x,y,rfl,aC (λR=>?_) (λS=>⟨i+1,⟨aD,aD,?_⟩,(show a.length-(i+1)<a.length-i by omega),MT⟩)⟩
  .rw[j,if_pos bk]at c;exact c
  grind
 .obtain⟨x,o⟩:=eT f e;rw[j,drop_cons o,drop_eq_nil_of_le (show b.length<=i by omega),fQ]at c;exact aF (λC=>aD) (λC=>aF (λD=>c) (λD=>aD))
 .rw[j,drop_eq_nil_of_le (show a.length<=i by omega)]at c;refine aF (λC=>?_) (λC=>aF (λD=>aD) (λD=>?_))
  .obtain⟨y,z⟩:=eT (l:=b) (i:=i) (n:=t.len) g aD;rw[drop_cons z,fQ]at c;exact c
  .rw[drop_eq_nil_of_le aD,fQ]at c;exact c
theorem aTQ:bu 21 ceX:=by
 refine hU func21 ?_;rintro G m h K ⟨s,t,a,b,rfl,o,C,D⟩;refine⟨b4X s t m h,rfl,aE aNZ aG,WI s t m h K,bd,?_⟩;dsimp only[WI,push_cast];have c:=bY.slen o;have f:=bY.slen C;have H:=o.len;have E:a≠b->K (cB false) m h:=λh=>D false ⟨λe=>(by cases e),λe=>(h e).elim⟩;refine aC (λz=>E (λe=>Gm c f z (by rw[e]))) (λz=>?_);have I:=Fk c f z;refine⟨λi=>i<=a.length/\∀j:Nat,j<i->a[j]? =b[j]?,λi=>a.length-i,⟨0,⟨aD,λj W=>by omega⟩,MT⟩,λi F=>aF (λd=>?_) (λJ=>?_)⟩
 .obtain⟨x,A⟩:=eT c d;obtain⟨y,B⟩:∃y,b[i]? =some y:=eT (n:=s.len) aD d;obtain⟨L,M,u,O,P,Q⟩:=bY.at o A;obtain⟨R,S,v,T,U,V⟩:=bY.at C B;refine⟨L,M,O,aD,d,u,.imm P,R,S,T,aD,aD,v,.imm U,u,v,x,y,rfl,Q,V,aC (λg=>E (JF A B (λe=>?_))) (λX=>?_)⟩
  .rw[nB.2 e]at g;cases g
  .exact⟨i+1,⟨aD,sI A B (nB.1 bk) F.2⟩,(show a.length-(i+1)<a.length-i by omega),MT⟩
 .exact D true ⟨λ_=>vJ I aD F.2,λ_=>rfl⟩
structure GM(h:PH)(P:cj->Prop) where
 s:Sl
 l:cj
 ok:cF h s l
 pr_:P l
def GM.pr{h:PH}{P:cj->Prop}(x:GM h P):Sl×cj:=(x.s,x.l)
def A4(h:PH){R:cj->Prop}(x:GM h R):Value:=.slice x.s.a x.s.len x.s.cap
theorem MK{w w':World}(c:w'.tape=w.tape)(d:w'.os=w.os)(e:w'.output=w.output)(f:w.drawn<=w'.drawn)(g:w.heap.size<=w'.heap.size)(j:∀b,b<w.heap.size->w'.heap[b]? =w.heap[b]?):
 ∃q n,w'=Sort.grow (w.drewN q) n:=by
 refine⟨w'.drawn-w.drawn,w'.heap.extract w.heap.size w'.heap.size,?_⟩;obtain⟨z,A,B,C,D⟩:=w';obtain⟨o,t,u,x,y⟩:=w;dsimp only at c d e f g j;subst c d e;unfold Sort.grow World.drewN;dsimp only;congr 1
 .grind
 .omega
structure ciZ(P:Program)(R:cj->Prop)(g:Nat)(cb:bx)(m2:MH)(h:PH)(cf:cj->cj->Int):Prop where
 ex:∃S,Sound P g S/\∀x y:GM h R,S ([cS x.s,cS y.s]++cb.map .val) m2 h (λr m' h'=>r=cI (cf x.l y.l)/\m'=m2/\h'=h)
theorem byX{P:Program}{R:cj->Prop}{g:Nat}{cb:bx}{m2:MH}{h:PH}[Inhabited (GM h R)]{cf:cj->cj->Int}(I:ciZ P R g cb m2 h cf){w:World}{blk off size:Nat}
 (O:∀b o v,h b o=some v->w.cell? ⟨b,o,none⟩=some v/\b≠blk)(hm:∀b o,m2 b=some o->w.heap[b]? =some o/\b≠blk)(Q:∀b o,m2 b=some o->∀i,h b i=none):
 CmpLays1 P g cb.toArray (A4 h (R:=R)) (λx y=>cf x.l y.l) blk off size w:=by
 obtain⟨S,J,T⟩:=I.ex;intro D L E U x y;obtain⟨W,hW⟩:∃W,Go.Proofs.sortWorld (A4 h (R:=R)) w blk off D E L=W:=⟨_,rfl⟩
 rw[hW]
 have F:∀b,b<w.heap.size->b≠blk->W.heap[b]? =w.heap[b]? :=λb n G=>by
  rw[<-hW];show((Sort.putRow (A4 h) (Sort.ahead w D) blk off E).heap++L)[b]? =_;have J:(Sort.putRow (A4 h) (Sort.ahead w D) blk off E).heap.size=w.heap.size:=by unfold Sort.putRow Sort.mapBlock;simp[Sort.ahead]
  rw[Array.getElem?_append_left aD];unfold Sort.putRow Sort.mapBlock;simp only[Array.getElem?_modify,if_neg (Ne.symm G)];rfl
 have t:∀(l:bx)(w:World),Cy w (l.map .val) l:=λl w=>by
  induction l with
  |nil=>trivial
  |cons a l V=>exact⟨rfl,V⟩
 have A:∀(l:bx)(i:Nat)(c:CV)(u:Value)(b:Nat),(l.map CV.val)[i]? =some c->gR c u=some b->False:=λl i c u b f n=>by
  rw[getElem?_map]at f;cases e:l[i]? with
  |none=>grind
  |some v=>rw[e]at f;simp at f;subst f;simp[gR]at n
 have X:[cS x.s,cS y.s]++cb.map .val=([A4 h x,A4 h y]++cb).map .val:=by simp[cS,A4]
 have B:AR W m2 h ([cS x.s,cS y.s]++cb.map .val) ([A4 h x,A4 h y]++cb):=by
  rw[X];refine⟨t _ _,?_,?_,Q,λi j c d u v b f _ _ _ n _=>(A _ i c u b f n).elim,λi c u b f _ n=>(A _ i c u b f n).elim⟩
  .intro b o v Y;obtain⟨C,Z⟩:=O b o v Y;rw[World.cell?_of_block (w:=w) (w':=W) (a:=⟨b,o,none⟩) (F b (World.block_lt_of_cell? w ⟨b,o,none⟩ C) Z)];exact C
  grind
 have:=J.2 _ _ m2 h W _ (T x y) B;have e2:(([A4 h x,A4 h y]++cb).toArray:Array Value)= #[A4 h x,A4 h y]++cb.toArray:=bf
 rw[e2]at this;refine this.mono ?_;rintro e w' ⟨r,u,m',h',rfl,⟨rfl,rfl,rfl⟩,H,z,_⟩;have hu:u= .int .i64 (cf x.l y.l):=H;subst hu;refine⟨rfl,MK z.tape z.os z.output z.drawn z.size (λb n=>?_)⟩;cases M:m' b with
 |none=>
  refine z.frame b n ?_;rintro(C|⟨i,c,u,f,_,I⟩)
  .exact C M
  grind
 |some o=>rw[z.msat b o M];grind
theorem O2{α:Type}[Inhabited α]{d c:Array α}(h:Sort.PermIn 0 d.size d c):c.toList.Perm d.toList:=by
 obtain⟨e,_,f⟩:=h;have g:d.extract 0 d.size=d:=bf
 have j:c.extract 0 d.size=c:=bk
 grind
theorem RF{h:PH}{R:cj->Prop}:∀(ps:de),(∀p∈ps,cF h p.1 p.2)->(∀p∈ps,R p.2)->∃ds:List (GM h R),ds.map GM.pr=ps
 |[],_,_=>⟨[],rfl⟩
 |p::ps,e,f=>by
  obtain⟨ds,c⟩:=RF (R:=R) ps (λq d=>e q (mem_cons_of_mem _ d)) (λq d=>f q (mem_cons_of_mem _ d));exact⟨⟨p.1,p.2,e p (mem_cons_self ..),f p (mem_cons_self ..)⟩::ds,by rw[map_cons,c];rfl⟩
theorem Rp{R:cj->Prop}{w:World}{m:MH}{h:PH}{s:Sl}{g:Nat}{cb:bx}{ps:de}{cf:cj->cj->Int}{m2:MH}{t:Value}(a':t= .func (.func g) #[] cb.toArray)
 (D:AR w m h [cS s,.val t] [s.val,t])(hg:∃O,Tryz.prog.funcs[g]? =some O/\O.body.isSome=true/\(O.name== "runtime.NumGoroutine")=false)(hr:dC m s 94 1 (ps.map λp=>eS p.1))(hv:∀p∈ps,cF h p.1 p.2)(hR:∀p∈ps,R p.2)(b0:ps.length<=140737488355328)
 (hO:Sort.SWO (Go.Proofs.ltOf (fun(x y:GM h R)=>cf x.l y.l)))(hc:ciZ Tryz.prog R g cb m2 h cf)(H:∀b o,m2 b=some o->m b=some o/\∀i,s.a≠some ⟨b,i,none⟩)
 {K:bz}(hK:∀(I:de)(m':MH),I.Perm ps->I.Pairwise (λp q=>¬cf q.2 p.2<0)->dC m' s 94 1 (I.map λp=>eS p.1)->(∀b,(∀i,s.a≠some ⟨b,i,none⟩)->m' b=m b)->K (.tup []) m' h):
 Calls Tryz.prog 189 #[s.val,t] w λe w'=>∃r u m' h',e= .returned u/\K r m' h'/\D9 w' r u/\xV ⟨w,uC m [cS s,.val t] [s.val,t],h,[]⟩ m' h' w'/\(∀b,gR r u=some b->(w.heap.size<=b\/uC m [cS s,.val t] [s.val,t] b)/\m' b=none/\∀i,h' b i=none):=by
 subst a';by_cases F:ps=[]
 .subst F;have a0:s.len=0:=by have:=dC.slen hr;grind
  have:=AnyF.slices_SortFunc_none Tryz.sortN s.a s.cap (.func (.func g) #[] cb.toArray) w;rw[show s.val= .slice s.a 0 s.cap by rw[<-a0];rfl];refine Calls.mono (show Calls Tryz.prog 189 #[.slice s.a 0 s.cap,.func (.func g) #[] cb.toArray] w _ from this) ?_;rintro e w' ⟨rfl,rfl⟩;exact⟨.tup [],.tuple #[],m,h,rfl,hK [] m (.refl _) .nil hr (λ_ _=>rfl),⟨#[],rfl,rfl⟩,⟨rfl,rfl,rfl,Nat.le_refl _,Nat.le_refl _,λ_ _ _=>rfl,D.hsat,D.msat,D.disj,λ_ _ _ e=>e,λ_ _ _=>rfl,λb o hb=>.inr (.inl bk)⟩,λb hb=>by simp[gR]at hb⟩
 obtain⟨p0,P⟩:=exists_mem_of_ne_nil _ F
 haveI:Inhabited (GM h R):=⟨⟨p0.1,p0.2,hv p0 P,hR p0 P⟩⟩
 rcases hr.ex with⟨rfl,hx⟩|⟨b,z,A,rfl,Q,h0,h1,h2,h3⟩
 .exact(F (bt hx)).elim
 .simp only[length_map]at h0 h3;have J:=D.msat b _ Q;have S:=(Array.getElem?_eq_some_iff.1 J).1;obtain⟨B,T⟩:∃B:List (GM h R),B.map GM.pr=ps:=RF ps hv hR;have U:B.length=ps.length:=bk
  have V:∀j,(G:j<B.length)->A[j]? =some (A4 h B[j]):=λj G=>by
   have:(A.toList.take (ps.length*1))[j]? =((ps.map λp=>eS p.1).flatten)[j]? :=by rw[h3]
   rw[getElem?_take,if_pos aD,Array.getElem?_toList]at this;rw[this, <-T]
   have hf:((B.map GM.pr).map λp:Sl×cj=>eS p.1).flatten=B.map (A4 h):=by
    clear T U G this
    induction B with
    |nil=>rfl
    |cons a l ih=>simp only[map_cons,flatten_cons,ih];rfl
   grind
  have a1:A.size=z:=by omega
  have hH:Sort.Holds (A4 h) w b 0 B.toArray:=by
   intro j G;have G:j<B.length:=by omega
   refine⟨?_,?_⟩
   .rw[cell_of_heap J,Array.getElem?_toList,Nat.zero_add,V j G,getElem!_pos _ j aD];simp
   .unfold World.frozen?
    grind
  obtain⟨O,a2,b1,b3⟩:=hg
  have eg:∀args w,(callFunc g args).run Tryz.prog w= .ok (.enter g args) w:=λargs w=>by
   have a3:¬O.body=none:=bk
   have a4:¬O.name= "runtime.NumGoroutine" :=bk
   simp[callFunc,program,Sem.run,a2,a4,a3]
  have W:=byX (blk:=b) (off:=0) (size:=B.toArray.size) hc (w:=w) (λc o v C=>⟨D.hsat c o v C,λe=>by rw[e,D.disj b _ Q o]at C;cases C⟩) (λc o d=>⟨D.msat c o (H c o d).1,λe=>(H c o d).2 0 (by rw[e])⟩) (λc o d=>D.disj c o (H c o d).1);have L:=Any.slices_SortFunc Tryz.sortF (A4 h) (λ_=>rfl) (λx y=>cf x.l y.l) hO g cb.toArray b 0 z B.toArray w eg W hH S bj;have e3:(Sl.val ⟨some ⟨b,0,none⟩,(ps.map λp=>eS p.1).length,z⟩)= .slice (some ⟨b,0,none⟩) B.toArray.size z:=by simp[Sl.val,U]
  rw[e3];refine Calls.mono L ?_;rintro e w' ⟨rfl,f,n,os,X,a5,rfl⟩;have a6:f.size=B.length:=by have:=X.1;omega
  have a7:=O2 X;obtain⟨m',E⟩:∃m',iL m m' b (.cells (Sort.putCells (A4 h) 0 f A) 94 (0,0)):=⟨λc=>if c=b then some (.cells (Sort.putCells (A4 h) 0 f A) 94 (0,0))else m c,bf,λc d=>by simp[d]⟩
  have b4:(Sort.putRow (A4 h) (Sort.ahead w n) b 0 f).heap.size=w.heap.size:=by unfold Sort.putRow Sort.mapBlock;simp[Sort.ahead]
  have b2:(Go.Proofs.sortWorld (A4 h) w b 0 n f os).heap[b]? =some (.cells (Sort.putCells (A4 h) 0 f A) 94 (0,0)):=by
   show((Sort.putRow (A4 h) (Sort.ahead w n) b 0 f).heap++os)[b]? =_;rw[Array.getElem?_append_left aD];unfold Sort.putRow Sort.mapBlock;simp only[Array.getElem?_modify,if_true];show Option.map _ w.heap[b]? =_;rw[J];rfl
  have Y:∀c,c<w.heap.size->c≠b->(Go.Proofs.sortWorld (A4 h) w b 0 n f os).heap[c]? =w.heap[c]? :=λc d M=>by
   show((Sort.putRow (A4 h) (Sort.ahead w n) b 0 f).heap++os)[c]? =_;rw[Array.getElem?_append_left aD];unfold Sort.putRow Sort.mapBlock;simp only[Array.getElem?_modify,if_neg (Ne.symm M)];rfl
  have hE:uC m [cS ⟨some ⟨b,0,none⟩,(ps.map λp=>eS p.1).length,z⟩,.val (.func (.func g) #[] cb.toArray)] [.slice (some ⟨b,0,none⟩) B.toArray.size z,.func (.func g) #[] cb.toArray] b:=.inl (by rw[Q];simp);refine⟨.tup [],.tuple #[],m',h,rfl,hK (f.toList.map GM.pr) m' ?_ ?_ ?_ (λc d=>E.other c (λe=>d 0 (by rw[e]))),⟨#[],rfl,rfl⟩,⟨rfl,rfl,rfl,Nat.le_add_right _ _,?_,?_,?_,?_,?_,λ_ _ _ e=>e,λ_ _ _=>rfl,?_⟩,λb hb=>by simp[gR]at hb⟩
  .grind
  .rw[pairwise_map,pairwise_iff_getElem];intro i j hi G a8 Z;have hi:i<f.size:=by omega
   have G:j<f.size:=by omega
   have:=a5 i j (Nat.zero_le _) a8 bj;rw[getElem!_pos f i hi,getElem!_pos f j G]at this;unfold Go.Proofs.ltOf at this;simp only[decide_eq_false_iff_not]at this;simp only[Array.getElem_toList]at Z;exact this Z
  .refine⟨⟨λe he=>?_,λe he u hu=>?_⟩,.inr ⟨b,z,_,?_,E.at_,bj,h1,?_,?_⟩⟩
   .obtain⟨x,_,rfl⟩:=mem_map.1 he;rfl
   .obtain⟨x,_,rfl⟩:=mem_map.1 he;have:u= .slice x.1.a x.1.len x.1.cap:=by simpa[eS]using hu
    rw[this];rfl
   .grind
   .simp[Sort.putCells,a1]
   .apply ext_getElem?;intro j
    have hf:((f.toList.map GM.pr).map λp:Sl×cj=>eS p.1).flatten=f.toList.map (A4 h):=by
     generalize f.toList=l
     induction l with
     |nil=>rfl
     |cons a l ih=>simp only[map_cons,flatten_cons,ih];rfl
    rw[hf,getElem?_take];simp only[length_map,Array.length_toList,Nat.mul_one];by_cases G:j<f.size
    .rw[if_pos G,Array.getElem?_toList,getElem?_map,Array.getElem?_toList,Array.getElem?_eq_getElem G];have a9:j<A.size:=by omega
     simp only[Sort.putCells,Array.getElem?_mapIdx,Array.getElem?_eq_getElem a9,Option.map_some,Nat.zero_le,Nat.zero_add,Nat.sub_zero,true_and]
     grind
    grind
  .grind
  .grind
  .intro c o v C;have M:c≠b:=λe=>by rw[e,D.disj b _ Q o]at C;cases C
   have h5:=D.hsat c o v C;rw[World.cell?_of_block (w:=w) (a:=⟨c,o,none⟩) (Y c (World.block_lt_of_cell? w ⟨c,o,none⟩ h5) M)];exact h5
  .intro c o d;by_cases e:c=b
   .subst e;rw[E.at_]at d;grind
   .rw[E.other c e]at d;have h5:=D.msat c o d
    grind
  .intro c o d i;by_cases e:c=b
   .subst e;exact D.disj c _ Q i
   .rw[E.other c e]at d;exact D.disj c o d i
  .intro c o d;by_cases e:c=b
   .grind
   .rw[E.other c e]at d;exact .inr (.inl bk)
end Go.Ps
namespace Go.Vc
open Go List
theorem dC.rd{m:MH}{h:PH}{s:Sl}{E sz:Nat}{xs:List bx}(r:dC m s E sz xs){i:Nat}{e:bx}(c:xs[i]? =some e):∃b,s.a=some ⟨b,0,none⟩/\aU m h b (i*sz) e:=by
 rcases r.ex with⟨_,rfl⟩|⟨b,o,d,rfl,t,A,B,C,u⟩
 .simp at c
 .refine⟨b,rfl,.lent d E (0,0) t ?_⟩;have y:=(List.getElem?_eq_some_iff.1 c).1;have f:=r.rows.len e (mem_of_getElem? c)
  have g:∀(l:List bx)(k:Nat),(∀x∈l,x.length=sz)->l[k]? =some e->(l.flatten.drop (k*sz)).take sz=e:=by
   intro l
   induction l with
   |nil=>grind
   |cons a l D=>
    intro k z F;have j:=z a (mem_cons_self ..);cases k with
    |zero=>
     grind
    |succ k=>
     rw[flatten_cons,Nat.succ_mul,Nat.add_comm, <-drop_drop, <-j,drop_left,j]
     grind
  have n:=g xs i r.rows.len c;rw[f];rw[<-u]at n;rw[drop_take,take_take]at n
  grind
theorem mJ.sub{m m':MH}{h:PH}{s:Sl}{sz:Nat}{c:List bx}(r:mJ m h s sz c)(d:∀b o,m b=some o->m' b=some o):mJ m' h s sz c:=by
 rcases r with r|⟨b,o,e,E,f,g,j,n,t⟩
 .exact .imm r
 .exact .lent b o e E f g j (d _ _ n) t
end Go.Vc
namespace Go.Ps
open Go Go.Vc Go.Proofs List Tryz
variable{K:bz}{m:MH}{h:PH}{s:jE}{ps:ca}{cb:Nat}{sc:cE}{v:QV}{p:Pred}{l:ca}{i:Nat}{N:Nat}{m':MH}{h':PH}{co:ca}{gr:ca}{od:cg}{ta:Int}{li:Int}{xs:List bx}{sz:Nat}{ks:List ca}{rs:ca}{r:Sl}{a:ca}{b:Nat}
structure TH{α:Type}(c:α->α->Int):Prop where
 anti:∀x y,c x y= -c y x
 trans:∀x y z,c x y<=0->c y z<=0->c x z<=0
theorem TH.zero{α:Type}{c:α->α->Int}(h:TH c){x y z:α}(d:c x y<=0)(e:c y z<=0)(f:c x z=0):c x y=0/\c y z=0:=by
 have g:=h.anti x z;have j:=h.anti x y;have n:=h.anti y z;have o:=h.trans z x y aD d;have t:=h.trans y z x e aD;omega
theorem Ue{c d:Int}(h:(if c≠0 then c else d)<=0):c<=0:=by
 omega
theorem TH.lex{α:Type}{c d:α->α->Int}(h:TH c)(k:TH d):TH (λx y=>if c x y≠0 then c x y else d x y):=by
 refine⟨λx y=>?_,λx y z f g=>?_⟩
 .have a:=h.anti x y;have b:=k.anti x y;omega
 .have j:c x y<=0:=Ue f;have n:c y z<=0:=Ue g;have o:=h.trans x y z j n;show(if c x z≠0 then c x z else d x z)<=0;by_cases e:c x z=0
  .obtain⟨t,u⟩:=h.zero j n e;have f:(if c x y≠0 then c x y else d x y)<=0:=f;have g:(if c y z≠0 then c y z else d y z)<=0:=g;rw[if_neg aD]at f;rw[if_neg aD]at g;rw[if_neg (bt e)];exact k.trans x y z f g
  omega
theorem TH.of{α β:Type}{c:α->α->Int}(h:TH c)(f:β->α):TH (λx y=>c (f x) (f y)):=⟨λx y=>h.anti _ _,λx y z=>h.trans _ _ _⟩
theorem Xb:TH CC:=by
 refine⟨λx y=>?_,λx y z=>?_⟩
 .unfold CC;omega
 .unfold CC;omega
theorem Tq:∀a b:cu,Lib.compareBytes a b= -Lib.compareBytes b a
 |[],[]=>rfl
 |[],_::_=>rfl
 |_::_,[]=>rfl
 |a::l,b::k=>by
  simp only[Lib.compareBytes];by_cases c:a<b
  .grind
  .by_cases d:b<a
   .simp[c,d]
   .simp only[c,d,if_false];exact Tq l k
theorem Ql:∀a b c:cu,Lib.compareBytes a b<=0->Lib.compareBytes b c<=0->Lib.compareBytes a c<=0
 |[],_,[],_,_=>by simp[Lib.compareBytes]
 |[],_,_::_,_,_=>by simp[Lib.compareBytes]
 |_::_,[],_,f,_=>by simp[Lib.compareBytes]at f
 |_::_,_::_,[],_,d=>by simp[Lib.compareBytes]at d
 |a::l,b::k,c::q,f,d=>by
  simp only[Lib.compareBytes]at f d⊢
  by_cases g:a<c
  .simp[g]
  .by_cases j:a<b
   .grind
   .by_cases n:b<a
    .grind
    .have e:a=b:=UInt8.le_antisymm (UInt8.not_lt.1 n) (UInt8.not_lt.1 j);subst e;simp only[j,g,if_false]at f d⊢
     by_cases o:c<a
     .grind
     .simp only[o,if_false]at d⊢
      exact Ql l k q f d
theorem Lb:TH nP:=by
 have c:TH Rc:=⟨λx y=>Tq _ _,λx y z=>Ql _ _ _⟩
 exact(Xb.of VV.kind).lex ((Xb.of VV.int).lex (c.of VV.text))
theorem vI:∀a b,fQ a b= -fQ b a
 |[],[]=>rfl
 |[],_::_=>rfl
 |_::_,[]=>rfl
 |x::l,y::k=>by
  have a:=Lb.anti x y;simp only[fQ];by_cases e:nP x y=0
  .rw[if_neg (bt e),if_neg aD];exact vI l k
  omega
theorem Cu:∀a b c,fQ a b<=0->fQ b c<=0->fQ a c<=0
 |[],_,[],_,_=>by simp[fQ]
 |[],_,_::_,_,_=>by simp[fQ]
 |_::_,[],_,d,_=>by simp[fQ]at d
 |_::_,_::_,[],_,f=>by simp[fQ]at f
 |x::l,y::k,z::q,d,f=>by
  simp only[fQ]at d f⊢
  have g:nP x y<=0:=Ue d;have j:nP y z<=0:=Ue f;have n:=Lb.trans x y z g j;by_cases e:nP x z=0
  .obtain⟨o,t⟩:=Lb.zero g j e;rw[if_neg aD]at d;rw[if_neg aD]at f;rw[if_neg (bt e)];exact Cu l k q d f
  omega
theorem GF:TH fQ:=⟨vI,Cu⟩
theorem TH.swo{R:cj->Prop}{cf:cj->cj->Int}(c:TH cf):Sort.SWO (Go.Proofs.ltOf (fun(x y:GM h R)=>cf x.l y.l)):=by
 refine⟨λx=>?_,λx y z d f=>?_,λx y z d f=>?_⟩
 .have:=c.anti x.l x.l;unfold Go.Proofs.ltOf;simp;omega
 .unfold Go.Proofs.ltOf at*
  simp only[decide_eq_true_eq]at*
  have t:=c.trans x.l y.l z.l aD aD;by_cases e:cf x.l z.l=0
  .have:=c.zero (x:=x.l) (y:=y.l) (z:=z.l) aD aD e;omega
  .omega
 .unfold Go.Proofs.ltOf at*
  simp only[decide_eq_false_iff_not]at*
  have g:=c.anti x.l y.l;have j:=c.anti y.l z.l;have n:=c.anti x.l z.l;have t:=c.trans z.l y.l x.l aD aD;omega
def LS(x:cj):cd->cd
 |[]=>[x]
 |y::l=>if fQ x y<0 then x::y::l else if fQ x y=0 then y::l else y::LS x l
def Ef(l:cd):cd:=l.foldr LS []
abbrev pJ(l:cd):Prop:=l.Pairwise λx y=>fQ x y<0
theorem Pu{x z:cj}:∀{l:cd},z∈LS x l↔z=x\/z∈l
 |[]=>by simp[LS]
 |y::l=>by
  simp only[LS];split
  .simp
  .split
   .rename_i _ e;have:=nB.1 e
    grind
   .simp only[mem_cons,Pu (l:=l)]
    grind
theorem Nj{x:cj}:∀{l:cd},pJ l->pJ (LS x l)
 |[],_=>by simp[LS]
 |y::l,h=>by
  obtain⟨g,f⟩:=pairwise_cons.1 h;simp only[LS];split
  .rename_i d;refine pairwise_cons.2 ⟨λz c=>?_,h⟩;rcases mem_cons.1 c with rfl|c
   .exact d
   .have t:=Cu x y z aD bk;by_cases e:fQ x z=0
    .have:=GF.zero (x:=x) (y:=y) (z:=z) aD bk e;omega
    .omega
  .split
   .exact h
   .rename_i j n;refine pairwise_cons.2 ⟨λz c=>?_,Nj f⟩;rcases Pu.1 c with rfl|c
    .have:=vI z y;omega
    grind
theorem Jq{x:cj}:∀{l:cd},x∈Ef l↔x∈l
 |[]=>by simp[Ef]
 |y::l=>by
  show x∈LS y (Ef l)↔_;rw[Pu,Jq,mem_cons]
theorem F5:∀(l:cd),pJ (Ef l)
 |[]=>.nil
 |_::l=>Nj (F5 l)
theorem OK:∀{a b:cd},pJ a->pJ b->(∀x,x∈a↔x∈b)->a=b
 |[],[],_,_,_=>rfl
 |[],y::_,_,_,h=>by have:=(h y).2 bf;simp at this
 |x::_,[],_,_,h=>by have:=(h x).1 bf;simp at this
 |x::a,y::b,c,d,h=>by
  obtain⟨f,g⟩:=pairwise_cons.1 c;obtain⟨j,n⟩:=pairwise_cons.1 d;have o:∀z,¬fQ z z<0:=λz=>by have:=vI z z;omega
  have e:x=y:=by
   rcases mem_cons.1 ((h x).1 bf)with e|t
   .exact e
   .rcases mem_cons.1 ((h y).2 bf)with e|u
    .exact e.symm
    .have B:=f y u;have C:=j x t;have:=vI x y;omega
  subst e;congr 1;refine OK g n (λz=>⟨λA=>?_,λA=>?_⟩)
  .grind
  grind
theorem aiJ{l r:cd}(c:pJ r)(d:∀x,x∈r↔x∈l):r=Ef l:=OK c (F5 l) λx=>by rw[d,Jq]
def aAX:Vc.Spec:=λc m h K=>∃(s:Sl)(d:ck),c=[cS s]/\mJ m h s 1 (d.map eS)/\d.length<=502633886983/\∀e m',dC m' e 94 1 (d.map eS)->(∀b o,m b=some o->m' b=some o)->(∀b i,e.a=some ⟨b,i,none⟩->m b=none)->K (cS e) m' h
def bBJ:Vc.Spec:=λd m h K=>∃(s:Sl)(ps:de),d=[cS s,.val (.func (.func 102) #[] #[])]/\dC m s 94 1 (ps.map λp=>eS p.1)/\(∀p∈ps,cF h p.1 p.2)/\ps.length<=140737488355328/\
 ∀(c:de)(m':MH),c.Perm ps->c.Pairwise (λp q=>¬fQ q.2 p.2<0)->dC m' s 94 1 (c.map λp=>eS p.1)->(∀b,(∀i,s.a≠some ⟨b,i,none⟩)->m' b=m b)->K (.tup []) m' h
structure jL(h:PH)(us:ck)(rs:cd):Prop where
 len:us.length=rs.length
 at_:∀(j:Nat) x,rs[j]? =some x->∃u,us[j]? =some u/\cF h u x
def cDZ:Vc.Spec:=λc m h K=>∃s d l,c=[cS s]/\mJ m h s 1 (d.map eS)/\jL h d l/\l.length<=502633886983/\∀e h',PH.le h h'->Rows h' e (Ef l)->K (cS e) m h'
noncomputable def bvJ:Ctx:=
 dA [(188,aAX),(189,bBJ),(102,NB)] [(5,{A:=Nat×ck×Sl×MH×PH,st:=λ⟨i,c,s,m,h⟩=>bQ 38 39 [(3,sv s),(4,.at (.lst 35)),(11,sv s),(12,iv s.len),(13,iv i)] [(35,.lst 94 1 (c.map eS))] m h})] [] [] false
def P1(n c:Nat)(m:MH)(h:PH)(K:bz):Prop:=
  K j8 m h
theorem bmQ(n c:Nat)(m:MH)(h:PH)(K:bz):P1 n c m h K=(uM (sN [] [] [] [] [53,1053] [] false) Tryz.f188 (bW Tryz.f188) (entry Tryz.f188.ntmps [.val (.slice none n c)] m h) K):=bd
abbrev lD(a:Sl->MH->Prop):Prop:=∀(x:Sl)(c:MH),a x c
abbrev zU(a:Prop)(b:(List bx)->Prop):Prop:=a->∃(x:List bx),b x
abbrev Bm(a:Prop)(b:(List bx)->Prop):Prop:=a/\∃(x:List bx),b x
attribute [push_cast] lD zU Bm
def P0(a:Addr)(n c:Nat)(m:MH)(h:PH)(K:bz):Prop:=
  lD (λs d=>zU (rE m d h s 94 1 []) (λx=>Bm (dC d (iA s.a s) 94 1 x) (λy=>j6 1 y (mJ d h (Sl.mk (Option.some a) n c) 1 y) (oL x y 24) (oF x y) (lD (λe f=>eD d f (iA s.a s) e 94 1 (x++y)->K (fJ e) f h)))))
theorem blJ(a:Addr)(n c:Nat)(m:MH)(h:PH)(K:bz):P0 a n c m h K=(uM (sN [] [] [] [] [53,1053] [] false) Tryz.f188 (bW Tryz.f188) (entry Tryz.f188.ntmps [.val (.slice (some a) n c)] m h) K):=bd
abbrev JU(a:MH)(b:Sl)(c:Nat)(d:de):Prop:=dC a b 94 c (List.map (fun(x:Sl×cj)=>bA x.1) d)
abbrev kE(a:Sl)(b:Sl×MH×PH):Prop:=bS a b.1
noncomputable abbrev pT(a:Nat×ck×Sl×MH×PH):Sl×MH×PH:=a.2.2
noncomputable abbrev rO(a:Nat×ck×Sl×MH×PH):Sl:=(pT a).1
abbrev EF(a:List bx):Prop:=qZ 94 1 a
noncomputable abbrev yU(a:Nat×ck×Sl×MH×PH):List bx:=nN a.2.1
noncomputable abbrev fP(a:Sl×MH×PH):Nat->Nat->Option Value:=a.2.2
noncomputable abbrev sC(a:Nat×ck×Sl×MH×PH):Nat->Nat->Option Value:=fP (pT a)
noncomputable abbrev eU(a:Sl×MH×PH):Nat->Option Obj:=a.2.1
abbrev EW(a:Nat)(b:List bx)(c:Nat):Prop:=fC ((a+b.length)*c)
noncomputable abbrev Fj(a:List bx):List bx:=[]++a
abbrev nT(a b:List bx):Prop:=Option.some (Own.lst 94 1 a)=Option.some (Own.lst 94 1 b)
attribute [push_cast] JU kE pT rO EF yU fP sC eU EW Fj nT
def Mt(s:Sl)(m:MH)(h:PH)(K:bz):Prop:=
  ∃(D:Sl)(u:ck),aA (iT s=iT D) (mJ m h D 1 (nN u)) (u.length<=502633886983/\∀(f:Sl)(A:MH),dC A f 94 1 (nN u)->(∀(b:Nat)(o:Obj),m b=Option.some o->A b=Option.some o)->(∀(b i:Nat),bM f.a b i->m b=Option.none)->∃(B:Sl)(p:de),aA (fF f (Cm 102 wG)=fF B (Cm 102 wG)) (JU A B 1 p) (aA (∀(e:Sl×cj),List.Mem e p->cF h e.1 e.2) (fC p.length) (∀(e:de)(C:MH),List.Perm e p->List.Pairwise (fun(F:Sl×cj)=>fun(q:Sl×cj)=>¬(fQ q.2 F.2<0)) e->JU C B 1 e->(∀(b:Nat),(∀(i:Nat),yF (bM B.a b i))->C b=A b)->∃(I:Nat×ck×Sl×MH×PH->Prop)(g:Nat×ck×Sl×MH×PH->Nat),(∃(x:Nat×ck×Sl×MH×PH),aA (I x) (kE f
 (pT x)) (aA (eL 35) (kE f (pT x)) (aA (cG f (rO x)) (bB x.1) (aA (EF (yU x)) (bH C (pT x).2) (bN h (sC x))))))/\∀(x:Nat×ck×Sl×MH×PH),I x->aZ (↑x.1:Int) (aH (rO x)) (eK (rO x).a (↑x.1:Int) (rO x) (λb o y=>aU (eU (pT x)) (sC x) b (bK o x.1 1) (bA y)/\eO (↑x.1:Int) 0 (∃(d:List bx),j6 3 d (cD (sC x) (iA y.a y) 3 d) (EW 0 d 32) (fC (0+d.length)) (bO (sC x) 3 (Fj d) (λj n=>nG (yU x) 24 (∃(c:Nat×ck×Sl×MH×PH),aA (I c) (g c<g x) (aA (kE (rO x) (pT c)) (eL 35) (aA (kE (rO x) (pT c)) (cG (rO x) (rO c)) (aA (bD (fZ (bE x.1 1)) c.1) (nT (eN (yU x) (bA j)) (yU c)) (aA (bH (eU
 (pT x)) (pT c).2) (n=sC c) True)))))))) (eK (rO x).a (fH ((↑x.1:Int)-1)) (rO x) (λG H d=>aU (eU (pT x)) (sC x) G (fU H (fH ((↑x.1:Int)-1)) 1) (bA d)/\∃(j:Sl),rJ (λt a=>∃(E:cj),aA (dT d y=dT j t) (cF (sC x) j a) (cF (sC x) t E/\eC (fQ a E) 0 (∃(z:List bx),j6 3 z (cD (sC x) (iA y.a y) 3 z) (EW 0 z 32) (fC (0+z.length)) (bO (sC x) 3 (Fj z) (λJ n=>nG (yU x) 24 (∃(c:Nat×ck×Sl×MH×PH),aA (I c) (g c<g x) (aA (kE (rO x) (pT c)) (eL 35) (aA (kE (rO x) (pT c)) (cG (rO x) (rO c)) (aA (bD (fZ (bE x.1 1)) c.1) (nT (eN (yU x) (bA J)) (yU c)) (aA (bH (eU (pT x)) (pT c).2)
 (n=sC c) True)))))))) (∃(c:Nat×ck×Sl×MH×PH),aA (I c) (g c<g x) (aA (kE (rO x) (pT c)) (eL 35) (aA (kE (rO x) (pT c)) (cG (rO x) (rO c)) (aA (bD (fZ (bE x.1 1)) c.1) (nT (yU x) (yU c)) (aA (bH (eU (pT x)) (pT c).2) (sC x=sC c) True))))))))))) (bO (sC x) 1 (yU x) (λj n=>K (fJ j) (eU (pT x)) n)))))
theorem Jt(l:ck):jI 1 (l.map eS):=by
 constructor
 .intro e c;obtain⟨x,_,rfl⟩:=mem_map.1 c;rfl
 .intro e c u d;obtain⟨x,_,rfl⟩:=mem_map.1 c;have:u= .slice x.a x.len x.cap:=by simpa[eS]using d
  rw[this];rfl
theorem Vp(l:cj):jI 3 (l.map VV.enc):=by
 constructor
 .intro e c;obtain⟨x,_,rfl⟩:=mem_map.1 c;rfl
 .intro e c u d;obtain⟨x,_,rfl⟩:=mem_map.1 c;simp only[VV.enc,mem_cons,not_mem_nil,or_false]at d;rcases d with rfl|rfl|rfl<;>rfl
theorem Zd:bu 188 aAX:=by
 refine dU (fn:=Tryz.f188) (c:=bW Tryz.f188) func188 rfl bg ?_;rintro A m h K ⟨s,t,rfl,g,D,u⟩;obtain⟨a,n,c⟩:=s;refine⟨sN [] [] [] [] [53,1053] [] false,rfl,aG,?_⟩;cases a with
 |none=>
  show uM _ Tryz.f188 (bW Tryz.f188) (entry Tryz.f188.ntmps [.val (.slice none n c)] m h) K;rw[<-bmQ n c m h K];dsimp only[P1,push_cast]
  have e:t.map eS=[]:=by
   rcases g with g|⟨b,o,F,E,G,e,_⟩
   .rcases g.row with e|⟨b,o,e,_⟩
    .exact e
    .cases e
   .cases e
  rw[e]at u;exact u ⟨none,0,0⟩ m ⟨⟨(λe x=>by cases x),(λe x=>by cases x)⟩,.inl ⟨rfl,rfl⟩⟩ (λb o e=>e) (λb i e=>by cases e)
 |some a=>
  show uM _ Tryz.f188 (bW Tryz.f188) (entry Tryz.f188.ntmps [.val (.slice (some a) n c)] m h) K;rw[<-blJ a n c m h K];dsimp only[P0,push_cast];intro s m' d
  have sub:∀b o,m b=some o->m' b=some o:=λb o f=>by
   rw[d.other b (λi e=>by rw[(d.fresh b i e).m_]at f;cases f)];exact f
  refine⟨[],d.row,t.map eS,Jt t,g.sub sub,bj,bj,λB C y=>u B C (bt y.row) (λb o f=>?_) (λb i e=>?_)⟩
  .exact y.other b o (sub b o f) (λi e=>by have e:s.a=some ⟨b,i,none⟩:=e;rw[(d.fresh b i e).m_]at f;cases f)
  .rcases y.fresh b i e with z|⟨j,z⟩
   .cases H:m b with
    |none=>rfl
    |some o=>grind
   .exact(d.fresh b j z).m_
theorem WM:bu 189 bBJ:=by
 refine⟨⟨Tryz.f189,func189,rfl,bg⟩,?_⟩;rintro f e m h w K ⟨s,ps,rfl,j,n,t,u⟩ c
 obtain⟨v,d,rfl⟩:∃v d,e=[v,d]:=by
  have:=(sH c.args).1
  match e,this with
  |[v,d],_=>grind
 have z:v=s.val:=c.args.1;have A:d= .func (.func 102) #[] #[]:=c.args.2.1;subst z A;refine Rp (R:=λ_=>True) (g:=102) (cb:=[]) (m2:=λ_=>none) (cf:=fQ) rfl c ⟨Tryz.f102,func102,rfl,bg⟩ j n (λ_ _=>trivial) t GF.swo ⟨NB,Ct,λx y=>⟨x.s,y.s,x.l,y.l,rfl,x.ok,y.ok,rfl,rfl,rfl⟩⟩ (λb o B=>by cases B) u
theorem jL.mono{us:ck}{rs:cd}(x:jL h us rs)(le:PH.le h h'):jL h' us rs:=⟨x.len,λj r d=>(x.at_ j r d).imp λ_ c=>⟨c.1,cF.mono c.2 le⟩⟩
theorem jL.nil(h:PH):jL h [] []:=⟨rfl,λj x c=>by simp at c⟩
theorem jL.snoc{us:ck}{rs:cd}(x:jL h us rs){u:Sl}{r:cj}(d:cF h u r):jL h (us++[u]) (rs++[r]):=by
 refine⟨by simp[x.len],λj y c=>?_⟩;by_cases f:j<rs.length
 .rw[getElem?_append_left f]at c;obtain⟨v,g,n⟩:=x.at_ j y c
  grind
 .rw[getElem?_append_right aD]at c;have:=(List.getElem?_eq_some_iff.1 c).1;simp at this;have e:j=rs.length:=by omega
  subst e;simp at c;subst c;exact⟨u,by rw[getElem?_append_right (by rw[x.len];omega),x.len];simp,d⟩
theorem jL.rows{h:PH}{us:ck}{rs:cd}{s:Sl}(x:jL h us rs)(c:cD h s 1 (us.map eS))(d:rs.length<=502633886983):Rows h s rs:=⟨⟨us,c,x.len.symm,x.at_⟩,d⟩
structure aeQ(ps':de)(s1:Sl)(m2:MH)(h:PH)(i:Nat)(us2:ck)(s2:Sl)(mx:MH)(hx:PH):Prop where
 s_:s2=s1
 m_:mx=m2
 le:PH.le h hx
 hi:i<=ps'.length
 hu:us2.length<=i
 ex:∃rs,jL hx us2 rs/\pJ rs/\∀x,x∈rs↔x∈(ps'.take i).map Prod.snd
theorem Nw{e:PH}{u:Sl}{r:cj}{us:ck}{Q:Sl->PH->Prop}(c:cF e u r)(y:us.length<=502633886983)(g:∀s h',e.le h'->cF h' s r->Q s h'):
 ∃d:List bx,jI 3 d/\cD e (Sl.mk u.a u.len u.cap) 3 d/\(0+d.length)*32<=140737488355328/\0+d.length<=140737488355328/\∀(s:Sl)(h':PH),e.le h'->cD h' s 3 ([]++d)->
  ((List.map eS us).length+1)*24<=140737488355328/\(List.map eS us).length<140737488355328/\Q s h':=by
 obtain⟨f,j,n,o⟩:=c.ex;have t:=c.len;refine⟨f.map VV.enc,Vp f,j,bk,bk,λs h' le x=>⟨bk,bk,g s h' le ⟨⟨f,x,n,o⟩,t⟩⟩⟩
theorem b7X{s:Sl}{us:ck}{l:cd}(hr:mJ m h s 1 (us.map eS))(F:jL h us l)(b4:l.length<=502633886983)(hK:∀s' h',PH.le h h'->Rows h' s' (Ef l)->K (cS s') m h'):Mt s m h (lE h K):=by
 dsimp only[Mt,push_cast];have b5:=F.len.symm;have b6:=F.at_;refine⟨s,us,rfl,hr,aD,λs1 m1 a0 a1 b2=>⟨s1,us.zip l,rfl,?_,λp G=>?_,bj,λc m2 d P f a2=>?_⟩⟩
 .have:(us.zip l).map (λp=>[fK p.1])=us.map eS:=by
   rw[show(λp:Sl×cj=>[fK p.1])=eS∘Prod.fst from rfl, <-map_map,map_fst_zip aD]
  grind
 .obtain⟨j,C⟩:=getElem?_of_mem G;rw[getElem?_zip_eq_some]at C
  grind
 .have b7:c.length=us.length:=by rw[d.length_eq];simp;omega
  have Q:=dC.slen f;simp only[length_map]at Q
  have R:∀{i:Nat}{p:Sl×cj},c[i]? =some p->cF h p.1 p.2:=fun{i p} G=>by
   have:=d.mem_iff.1 (mem_of_getElem? G);obtain⟨j,C⟩:=getElem?_of_mem this;rw[getElem?_zip_eq_some]at C
   grind
  have b3:∀x,x∈c.map Prod.snd↔x∈l:=λx=>by
   rw[(d.map Prod.snd).mem_iff,map_snd_zip aD]
  have H:∀b o,m b=some o->m2 b=some o:=λb o hb=>by
   grind
  refine⟨λx=>aeQ c s1 m2 h x.1 x.2.1 x.2.2.1 x.2.2.2.1 x.2.2.2.2,λx=>c.length-x.1,⟨(0,[],s1,m2,h),⟨rfl,rfl,.refl _,bf,bf,[],.nil h,.nil,bf⟩,MT⟩,?_⟩;rintro⟨i,n,I,J,S⟩ ⟨e1,e2,le,hi,a3,rs,u,L,D⟩;dsimp only at e1 e2 le hi a3 u;subst e1 e2;refine aF (λT=>?_) (λa4=>?_)
  .dsimp only at T;have U:i<c.length:=by omega
   obtain⟨p,G⟩:∃p,c[i]? =some p:=⟨_,getElem?_eq_getElem U⟩
   obtain⟨b,e1,r1⟩:=f.rd (h:=S) (i:=i) (e:=eS p.1) (by simp[G];rfl);have M:=cF.mono (R G) le
   have a5:∀x,x∈(c.take (i+1)).map Prod.snd↔x∈(c.take i).map Prod.snd\/x=p.2:=λx=>by
    rw[take_add_one,G];simp
   have V:(∀y∈rs,fQ y p.2<0)->∀(s:Sl)(h':PH),S.le h'->cF h' s p.2->aeQ c I J h (i+1) (n++[s]) I J h':=λhc s h' g A=>by
    refine⟨rfl,rfl,le.trans g,aD,bj,rs++[p.2],(u.mono g).snoc A,pairwise_append.2 ⟨L,bf,λy O z hz=>?_⟩,λx=>?_⟩
    .grind
    grind
   have keep:p.2∈rs->aeQ c I J h (i+1) n I J S:=λhc=>
    ⟨rfl,rfl,le,aD,aD,rs,u,L,λx=>bk⟩
   refine⟨b,0,e1,aD,T,p.1,by simpa[eS]using r1,aC (λh0=>?_) (λh0=>?_)⟩
   .have h0:i=0:=bk
    subst h0
    have b8:rs=[]:=by
     cases rs with
     |nil=>rfl
     |cons y _=>have:=(D y).1 bf;simp at this
    exact Nw M bk (λs h' g A=>⟨(0+1,n++[s],I,J,h'),V bk s h' g A,bk,rfl,rfl,rfl,rfl,rfl,by simp[eS],rfl,rfl,trivial⟩)
   .have h0:i≠0:=bk
    have hw:IntKind.i64.wrap ((i:Int)-1)=((i-1:Nat):Int):=by rw[eH aD aD];omega
    obtain⟨q,W⟩:∃q,c[i-1]? =some q:=⟨_,getElem?_eq_getElem aD⟩
    obtain⟨b',a6,a7⟩:=f.rd (h:=S) (i:=i-1) (e:=eS q.1) (by simp[W];rfl);have a8:=cF.mono (R W) le
    have X:q.2∈rs:=by
     rw[D];refine mem_map.2 ⟨q,?_,rfl⟩;exact mem_of_getElem? (i:=i-1) bk
    have B:∀y∈rs,fQ y q.2<=0:=λy O=>by
     rw[D]at O;obtain⟨z,hz,rfl⟩:=mem_map.1 O;obtain⟨j,C⟩:=getElem?_of_mem hz;have a9:=(List.getElem?_eq_some_iff.1 C).1;simp only[length_take]at a9;rw[getElem?_take,if_pos aD]at C;by_cases e:j=i-1
     .subst e;rw[W]at C;cases C;have:=vI q.2 q.2;omega
     .have h1:=pairwise_iff_getElem.1 P j (i-1) aD aD aD;rw[(List.getElem?_eq_some_iff.1 C).2,(List.getElem?_eq_some_iff.1 W).2]at h1;have:=vI z.2 q.2;omega
    have Y:fQ q.2 p.2<=0:=by
     have h1:=pairwise_iff_getElem.1 P (i-1) i aD aD aD;rw[(List.getElem?_eq_some_iff.1 G).2,(List.getElem?_eq_some_iff.1 W).2]at h1;have:=vI q.2 p.2;omega
    dsimp only;rw[hw];refine⟨b',0,a6,aD,aD,q.1,by simpa[eS]using a7,q.1,p.1,q.2,p.2,rfl,a8,M,aC (λb0=>?_) (λZ=>?_)⟩
    .have b0:fQ q.2 p.2≠0:=bk
     refine Nw M aD (λs h' g A=>⟨(i+1,n++[s],I,J,h'),V (λy O=>?_) s h' g A,aD,rfl,rfl,rfl,rfl,by rw[jO aD],by simp[eS],rfl,rfl,trivial⟩);have t:=Cu y q.2 p.2 (B y O) Y;by_cases e:fQ y p.2=0
     .have:=GF.zero (B y O) Y e;omega
     .omega
    .have Z:fQ q.2 p.2=0:=bk
     exact⟨(i+1,n,I,J,S),keep (by rw[<-nB.1 Z];exact X),aD,rfl,rfl,rfl,rfl,by rw[jO aD],rfl,rfl,rfl,trivial⟩
  .intro s3 h3 E a';dsimp only at a4 a' E;have b1:i=c.length:=by omega
   subst b1;rw[take_length]at D;have e:rs=Ef l:=aiJ L (λx=>bk);subst e;have hl:=u.len;exact⟨m,h3,H,le.trans E,.refl _,hK s3 h3 (le.trans E) ((u.mono E).rows a' aD)⟩
theorem ZZ:bu 115 cDZ:=by
 refine FR func115 ?_;rintro c m h K ⟨s,j,l,rfl,d,e,f,g⟩;refine⟨bvJ,rfl,aE Zd (aE WM (aE Ct aG)),Mt s m h (lE h K),bd,?_⟩;exact b7X d e f g
end Go.Ps
namespace Go.Vc
open Go List
section
variable{B:sJ}{C:Ctx}{ι:cn}{σ:St}{a:Act}{w:World}{o:Oper}{K:St->Prop}
def QK(ι:cn)(σ:St)(b:Nat):Prop:=σ.m b≠none\/∃k o,nth σ.own k=some (some o)/\blk (ι k)=some b
def reB(ι:cn)(σ:St)(ds:List Deferred)(w:World):sJ:=⟨w,QK ι σ,σ.h,ds⟩
theorem aK.rebase(c:aK B ι σ a w):aK (reB ι σ a.defers w) ι σ a w:=by
 have f:=c.wrel;refine⟨c.slots,rfl,c.own,c.dist,λk o b g d=>?_,?_,c.one⟩
 .obtain⟨_,j,n⟩:=c.fresh k o b g d;exact⟨.inr (.inr ⟨k,o,g,d⟩),j,n⟩
 .exact⟨rfl,rfl,rfl,Nat.le_refl _,Nat.le_refl _,λ_ _ _=>rfl,f.hsat,f.msat,f.disj,λ_ _ _ e=>e,λ_ _ _=>rfl,
   λb o d=>.inr (.inl (by rw[d];simp))⟩
theorem aK.mine(c:aK B ι σ a w){b:Nat}(h:QK ι σ b):(B.w0.heap.size<=b\/B.E b)/\b<w.heap.size/\∀i,σ.h b i=none:=by
 rcases h with h|⟨k,o,f,g⟩
 .cases e:σ.m b with
  |none=>grind
  |some d=>exact⟨c.wrel.mfr b d e,(Array.getElem?_eq_some_iff.1 (c.wrel.msat b d e)).1,c.wrel.disj b d e⟩
 .obtain⟨j,_,n⟩:=c.fresh k o b f g;exact⟨j,rB (c.own k o f) g,n⟩
theorem aK.unbase(u:aK B ι σ a w){ds:List Deferred}{x:cn}{τ:St}{y:Act}{w':World}(h:aK (reB ι σ ds w) x τ y w'):aK {B with dfs:=ds} x τ y w':=by
 have d:=u.wrel;have c:=h.wrel
 have j:∀b,(w.heap.size<=b\/QK ι σ b)->B.w0.heap.size<=b\/B.E b:=λb f=>by
  rcases f with n|n
  .exact .inl (Nat.le_trans d.size n)
  .exact(u.mine n).1
 refine⟨h.slots,h.defers,h.own,h.dist,λk o b z f=>?_,?_,h.one⟩
 .obtain⟨A,D,F⟩:=h.fresh k o b z f;exact⟨j b A,D,F⟩
 .have G:w.heap.size<=w'.heap.size:=c.size;refine⟨c.tape.trans d.tape,c.os.trans d.os,c.output.trans d.output,Nat.le_trans d.drawn c.drawn,Nat.le_trans d.size G,?_,c.hsat,c.msat,c.disj,λb i v e=>c.hle b i v (d.hle b i v e),?_,λb o f=>j b (c.mfr b o f)⟩
  .intro b f g
   have t:¬QK ι σ b:=λH=>by
    grind
   have:=c.frame b (Nat.lt_of_lt_of_le f d.size) t;rw[this];exact d.frame b f g
  .intro b f g
   have t:¬QK ι σ b:=λH=>by
    grind
   have:τ.h b=σ.h b:=c.hold b (Nat.lt_of_lt_of_le f d.size) t;rw[this];exact d.hold b f g
theorem aK.grown(g:aK B ι σ a w){w':World}{row:Option Nat}(u:w.grownBy w' row)(x:w.drawn<=w'.drawn)(j:∀r,row=some r->B.w0.heap.size<=r/\¬QK ι σ r/\∃ob:Obj,w.heap[r]? =some ob/\ob.isCells=false):aK B ι σ a w':=by
 have c:=g.wrel;have f:∀b,b<w.heap.size->(∀r,row=some r->b≠r)->w'.heap[b]? =w.heap[b]? :=λb d n=>u.block b d (λe=>n b e.symm rfl);have mine:∀b,QK ι σ b->w'.heap[b]? =w.heap[b]? :=λb d=>f b (g.mine d).2.1 (λr e h=>(j r e).2.1 (h▸d));refine⟨g.slots,g.defers,λk o E=>(g.own k o E).world (λb d=>mine b (.inr ⟨k,o,E,d⟩)),g.dist,g.fresh,?_,g.one⟩;refine⟨u.tape.trans c.tape,u.os.trans c.os,u.output.trans c.output,Nat.le_trans c.drawn x,Nat.le_trans c.size u.size,?_,?_,?_,c.disj,c.hle,c.hold,c.mfr⟩
 .intro b d y;rw[f b (Nat.lt_of_lt_of_le d c.size) (λr e h=>bk)];exact c.frame b d y
 .intro b i v F;have t:=c.hsat b i v F;have z:b<w.heap.size:=World.block_lt_of_cell? w ⟨b,i,none⟩ t
  have n:∀r,row=some r->b≠r:=λr e h=>by
   obtain⟨_,_,ob,A,D⟩:=j r e;unfold World.cell? at t;rw[h]at t;dsimp only at t;rw[A]at t;cases ob<;>simp[Obj.isCells]at D t
  rw[World.cell?_of_block (w:=w) (w':=w') (a:=⟨b,i,none⟩) (f b z n)];exact t
 .intro b o d;rw[mine b (.inl (by rw[d];simp))];exact c.msat b o d
def uW:Code->Bool
 |.skip=>true
 |.ret=>true
 |.exit _=>true
 |.region _ c _=>c.toList.all λo=>match o.op with|.defer _=>false|_=>true
 |.seq x y=>uW x&&uW y
 |.cond _ x y=>uW x&&uW y
 |.block _ x=>uW x
 |.loop x=>uW x
 |_=>false
def Plain(ops:Array Oper):Prop:=∀(i:Nat)(o:Oper),ops[i]? =some o->∀c,o.op≠ .defer c
theorem VA{ops:Array Oper}(h:(ops.toList.all λo=>match o.op with|.defer _=>false|_=>true)=true):Plain ops:=by
 intro i o d c e
 grind
theorem Ac(l:Nat){P:Program}{ops:Array Oper}(c:Plain ops){Q:Exit->Act->World->Prop}:∀(L:cv)(a:Act)(w:World),wpOpsIn Fence.wide 0 P ops Q L a w->wpOpsIn (Fence.wide.inRound l) 0 P ops Q L a w
 |[],_,_,h=>h
 |i::L,a,w,h=>by
  unfold wpOpsIn at h⊢
  cases d:ops[i]? with
  |none=>rw[d]at h;exact Ac l c L a w h
  |some o=>
   rw[d]at h;dsimp only at h⊢
   split
   .rename_i e;rw[if_pos e]at h;exact Ir l (c i o d) (Oper.wpIn_mono (λa w=>Ac l c L a w) h)
   .rename_i e;rw[if_neg e]at h;exact⟨λ_ _=>trivial,Ac l c L _ _ h.2⟩
theorem CE(l:Nat){P:Program}{g:Region.Mode}{ops:Array Oper}(c:Plain ops){Q:Exit->Act->World->Prop}(d:¬LetsOut Q):∀(n:Nat)(L:Array Bool)(a:Act)(w:World),wpAny P g ops Q n L a w->wpAnyIn (Fence.wide.inRound l) 0 P g ops Q n L a w
 |0,_,_,_,h=>h
 |n+1,L,a,w,h=>by
  refine⟨h.1,λi t=>?_⟩;have:=h.2 i t;unfold wpOp at this;unfold wpOpIn;cases e:ops[i]? with
  |none=>rw[e]at this;exact CE l c d n _ _ _ this
  |some o=>
   rw[e]at this;dsimp only at this⊢
   split
   .rename_i f;rw[if_pos f]at this;rcases this with j|j
    .exact Ir l (c i o e) (Oper.wpIn_mono (λa w=>CE l c d n _ a w) (OB j))
    grind
   .rename_i f;rw[if_neg f]at this;exact⟨λ_ _=>trivial,CE l c d n _ _ _ this⟩
theorem FF{F:Fence}{n:Nat}{P:Program}{Q:Exit->Act->World->Prop}{a:Act}{w:World}{c:Code}(I:Nat->Act->World->Prop)(u:Nat)(h₀:I u a w)
 (d:∀k a w,I k a w->c.wpIn F n P (Exit.then (λx w'=>∃g,g<k/\I g x w') Q) a w):(Code.loop c).wpIn F n P Q a w:=by
 refine wpIn_loop (λa w=>∃k,I k a w) (λa w=>leastOf (λk=>I k a w)) ⟨u,h₀⟩ ?_;intro a w y;refine wpIn_mono (d _ a w (leastOf_spec y).1) ?_;intro e x w' j;cases e with
 |normal=>
  obtain⟨g,t,f⟩:=j;exact⟨⟨g,f⟩,Nat.lt_of_le_of_lt ((leastOf_spec ⟨g,f⟩).2 g f) t⟩
 |exit id=>exact j
 |ret=>exact j
 |goto l=>exact j
 |panic z=>exact j
 |outgrown=>exact j
theorem Rl(l:Nat)(F:∀g S,assoc C.specs g=some S->Sound C.P g S):∀(c:Code),uW c=true->∀(σ:St)(Q:A9->St->Prop)(ι:cn)(a:Act)(w:World),aK B ι σ a w->VC C c σ Q->c.wpIn (Fence.wide.inRound l) 0 C.P (QD B Q) a w:=by
 intro c
 induction c with
 |skip=>intro u σ Q ι a w z h;exact wpIn_skip ⟨ι,σ,z,h⟩
 |label l=>intro u;cases u
 |exit id=>intro u σ Q ι a w z h;exact wpIn_exit ⟨ι,σ,z,h⟩
 |ret=>intro u σ Q ι a w z h;exact wpIn_ret ⟨ι,σ,z,h⟩
 |goto l=>intro u;cases u
 |refuse a9=>intro u;cases u
 |scope a8 ih=>intro u;cases u
 |rangeFunc f ps x y G W=>intro u;cases u
 |region id ops a3=>
  intro u σ Q ι a w z h;cases a3 with
  |false=>
   refine wpIn_region (Ac l (VA u) _ _ _ ?_);have:=Lw F (ops:=ops) (Q:=Q) (Lv C id) ops.toList 0 ι σ a w (λj=>bf) z h;rw[range_eq_range'];omega
  |true=>
   simp only[VC]at h;split at h
   .rename_i h1 h2 h3;have a5:=a2Z h1 h2;refine wpIn_region_any h3 (CE l (VA u) (λ⟨_,_,e⟩=>e) _ _ _ _ ?_);refine Ts F a5 (Q:=QD B Q) (R:=Q .normal) (λι σ a w z h=>⟨ι,σ,z,h⟩) (λc a w h=>h) ops.size ops.size _ ι σ a _ (z.drew (w.drawn+1) (Nat.le_succ _)) h _ a ?_ ?_
    .have U:∀i,(Array.replicate ops.size false).getD i false=true->False:=by
      intro i H;by_cases E:i<ops.size
      .simp[Array.getD,E]at H
      grind
     exact⟨bf,bf,λi H=>H,λi o _ H=>(U i H).elim,λi o _ H=>(U i H).elim,λi o _ H=>(U i H).elim,rfl,rfl,λt _=>rfl,λi o _ H=>(U i H).elim⟩
    .unfold wB;rw[filter_eq_self.2]
     .simp
     .intro i H;by_cases E:i<ops.size<;>simp[Array.getD,E]
   grind
 |seq x y G W=>
  intro u σ Q ι a w z h;obtain⟨J,a4⟩:=Bool.and_eq_true_iff.1 u;simp only[VC]at h;split at h
  .obtain⟨h,D⟩:=h;refine wpIn_seq (wpIn_mono (G J σ _ ι a w z h) ?_);intro e O T d;cases e with
   |normal=>
    obtain⟨V,σ',A,x,hx,X⟩:=d;show y.wpIn (Fence.wide.inRound l) 0 C.P (QD B Q) O T;obtain⟨ι2,L,_⟩:=lK A X
    grind
   |exit id=>exact d
   |ret=>exact d
   |goto l=>exact d
   |panic ch=>exact d
   |outgrown=>exact d
  .split at h
   .obtain⟨I,h,D⟩:=h;refine wpIn_seq (wpIn_mono (G J σ _ ι a w z h) ?_);intro e O T d;cases e with
    |normal=>
     obtain⟨V,σ',A,X⟩:=d;show y.wpIn (Fence.wide.inRound l) 0 C.P (QD B Q) O T;obtain⟨x,ι2,hx,L⟩:=AV A X
     grind
    |exit id=>exact d
    |ret=>exact d
    |goto l=>exact d
    |panic ch=>exact d
    |outgrown=>exact d
   .refine wpIn_seq (wpIn_mono (G J σ _ ι a w z h) ?_);intro e O T d;cases e with
    |normal=>
     obtain⟨V,σ',A,h'⟩:=d;show y.wpIn (Fence.wide.inRound l) 0 C.P (QD B Q) O T
     grind
    |exit id=>exact d
    |ret=>exact d
    |goto l=>exact d
    |panic ch=>exact d
    |outgrown=>exact d
 |cond c x y G W=>
  intro u σ Q ι a w z h;obtain⟨J,a4⟩:=Bool.and_eq_true_iff.1 u;simp only[VC]at h;split at h
  .rename_i t hc;have M:=z.ev c;rw[hc]at M;have M:a.eval c= .bool t:=M;rcases uP h with⟨rfl,h⟩|⟨rfl,h⟩
   .exact wpIn_cond_true M (G J _ Q ι a w (z.setTmp hc) h)
   .exact wpIn_cond_false M (W a4 _ Q ι a w (z.setTmp hc) h)
  grind
 |block id c ih=>
  intro u σ Q ι a w z h;refine wpIn_block (wpIn_mono (ih u σ _ ι a w z h) ?_);intro e O T d;cases e with
  |normal=>exact d
  |exit i=>
   obtain⟨V,σ',A,h'⟩:=d;show if i=id then _ else _
   simp only at h';split at h'
   .rename_i hb;rw[if_pos (Nat.eq_of_beq_eq_true hb)];exact⟨V,σ',A,h'⟩
   .rename_i hb;rw[if_neg (λe=>by subst e;simp at hb)];exact⟨V,σ',A,h'⟩
  |ret=>exact d
  |goto l=>exact d
  |panic ch=>exact d
  |outgrown=>exact d
 |loop c ih=>
  intro u σ Q ι a w z h;simp only[VC]at h;split at h
  .rename_i Y hl;obtain⟨⟨x,hx,X⟩,D⟩:=h;obtain⟨ι2,L,_⟩:=lK z X;refine FF (λn a w=>∃x ι,Y.inv x/\Y.mu x=n/\aK B ι (Y.st x) a w) (Y.mu x) ⟨x,ι2,hx,rfl,L⟩ ?_;rintro n O T ⟨x',V,Z,rfl,A⟩;refine wpIn_mono (ih u _ _ V O T A (D x' Z)) ?_;intro e a6 a7 d;cases e with
   |normal=>
    obtain⟨ι3,σ3,a0,y,hy,E,a1⟩:=d;obtain⟨ι4,a2,_⟩:=lK a0 a1;exact⟨Y.mu y,E,y,ι4,hy,rfl,a2⟩
   |exit id=>exact d
   |ret=>exact d
   |goto l=>exact d
   |panic ch=>exact d
   |outgrown=>exact d
  .split at h
   .rename_i Y hl;obtain⟨I,mu,X,D⟩:=h;obtain⟨x,ι2,hx,L⟩:=AV z X;refine FF (λn a w=>∃x ι,I x/\mu x=n/\aK B ι (Y.st x) a w) (mu x) ⟨x,ι2,hx,rfl,L⟩ ?_;rintro n O T ⟨x',V,Z,rfl,A⟩;refine wpIn_mono (ih u _ _ V O T A (D x' Z)) ?_;intro e a6 a7 d;cases e with
    |normal=>
     obtain⟨ι3,σ3,a0,a1⟩:=d;obtain⟨y,ι4,hy,E,a2⟩:=Ny a0 a1;exact⟨mu y,E,y,ι4,hy,rfl,a2⟩
    |exit id=>exact d
    |ret=>exact d
    |goto l=>exact d
    |panic ch=>exact d
    |outgrown=>exact d
   grind
end
end Go.Vc
namespace Go.Vc
open Go List
def sM:Code->Bool
 |.seq x y=>sM x||sM y
 |.cond _ x y=>sM x||sM y
 |.block _ x=>sM x
 |.loop x=>sM x
 |.scope x=>sM x
 |.rangeFunc .. =>true
 |_=>false
structure YDo(P:Program)(l:Nat)(vs:bx)(m:MH)(h:PH)(R:Bool->MH->PH->Prop):Prop where
 go:∀w,XA w m h->∃fn tmps assign body,(Instr.yield l vs.toArray).run P w= .ok (.round l fn tmps assign body) w/\
  RoundIn Fence.wide 0 P l fn tmps assign body w λe w'=>∃u m' h',e= .returned (.bool u)/\R u m' h'/\QQ w m h m' h' w'
def cvZ(P:Program):Spec:=λc m h K=>∃(l:Nat)(d:bx)(R:Bool->MH->PH->Prop),c= .val (.func (.yield l) #[] #[])::d.map .val/\YDo P l d m h R/\∀u m' h',R u m' h'->K (.val (.bool u)) m' h'
theorem Nc:∀{l c:bx},l.map CV.val=c.map CV.val->l=c
 |[],[],_=>rfl
 |a::l,b::c,h=>by
  simp only[map_cons,List.cons.injEq,CV.val.injEq]at h;rw[h.1,Nc h.2]
 |[],_::_,h=>by simp at h
 |_::_,[],h=>by simp at h
theorem XF(P:Program):I7 P (cvZ P):=⟨λl G m h w K⟨H,g,R,d,j,n⟩ t=>by
 simp only[List.cons.injEq,CV.val.injEq,Value.func.injEq,Fn.yield.injEq,and_true]at d;obtain⟨rfl,d⟩:=d;rw[Nc d];obtain⟨x,c,f,y,z,A⟩:=j.go w t;exact⟨x,c,f,y,z,A.mono λe I⟨u,m',h',D,E,F⟩=>⟨_,m',h',D,n u m' h' E,F⟩⟩⟩
def cgZ(P:Program)(Src:PH->bx->List bx->Prop):Spec:=λd m h K=>∃(l:Nat)(c:bx)(xs:List bx)(J:Nat->MH->PH->Prop),
 d= .val (.func (.yield l) #[] #[])::c.map .val/\Src h c xs/\J 0 m h/\
 (∀k e m' h',xs[k]? =some e->PH.le h h'->J k m' h'->YDo P l e m' h' (λr g f=>r=true/\PH.le h' f/\J (k+1) g f))/\
 ∀r m' h',PH.le h h'->J xs.length m' h'->K r m' h'
structure QN(P:Program)(g:FuncId)(Src:PH->bx->List bx->Prop):Prop where
 sound:Sound P g (cgZ P Src)
def RI:SV->SV
 |.at (.val v)=>.at (.val v)
 |.agg c=>match wA c with|some _=>.agg c|none=>.at .junk
 |_=>.at .junk
def VO:Option Own->Option Own:=λ_=>none
def blank(σ:St)(m:MH)(h:PH):St:={sl:=σ.sl.map RI,own:=σ.own.map VO,m:=m,h:=h}
def TZ(l:dl):dr->dl
 |[]=>l
 |(p,x)::r=>TZ (l.set p x) r
def ajJ(σ:St)(es:dr)(m:MH)(h:PH):St:={sl:=TZ (σ.sl.map RI) es,own:=σ.own.map VO,m:=m,h:=h}
def NN(C:Ctx)(x y:Code)(σ:St)(es:dr)(m:MH)(h:PH)(R:MH->PH->Prop):Prop:=
 VC C x (ajJ σ es m h) (λc τ=>match c with
  |.normal=>VC C y τ (λc υ=>match c with
   |.normal=>R υ.m υ.h
   |_=>False)
  |_=>False)
def Yf(C:Ctx)(f:Operand)(ps:Array Tmp)(x y:Code)(σ:St)(K:St->Prop):Prop:=
 match σ.ev f,uW x&&uW y with
 |.at (.val (.func (.func g) j c)),true=>match j.toList with
  |[]=>match ps.toList,C.elemT with
   |[p],[T]=>∃(Src:PH->bx->List bx->Prop)(xs:List (C.dec T).X)(I:Nat->MH->PH->Prop),QN C.P g Src/\Src σ.h c.toList (xs.map λx=>[valOf C.P T ((C.dec T).enc x)])/\I 0 σ.m σ.h/\
    (∀(k:Nat)(e:(C.dec T).X)(m:MH)(h:PH),xs[k]? =some e->PH.le σ.h h->I k m h->NN C x y σ [(p,mk C.P T (((C.dec T).enc e).map .val))] m h (I (k+1)))/\
    ∀(m:MH)(h:PH),PH.le σ.h h->I xs.length m h->K (blank σ m h)
   |[p,q],[T,U]=>∃(Src:PH->bx->List bx->Prop)(xs:List ((C.dec T).X×(C.dec U).X))(I:Nat->MH->PH->Prop),QN C.P g Src/\Src σ.h c.toList (xs.map λx=>[valOf C.P T ((C.dec T).enc x.1),valOf C.P U ((C.dec U).enc x.2)])/\I 0 σ.m σ.h/\
    (∀(k:Nat)(e:(C.dec T).X)(d:(C.dec U).X)(m:MH)(h:PH),xs[k]? =some (e,d)->PH.le σ.h h->I k m h->NN C x y σ [(p,mk C.P T (((C.dec T).enc e).map .val)),(q,mk C.P U (((C.dec U).enc d).map .val))] m h (I (k+1)))/\
    ∀(m:MH)(h:PH),PH.le σ.h h->I xs.length m h->K (blank σ m h)
   |_,_=>False
  |_=>False
 |_,_=>False
def VCF(C:Ctx):Code->St->(A9->St->Prop)->Prop
 |.rangeFunc f ps x y,σ,Q=>Yf C f ps x y σ (Q .normal)
 |.seq a b,σ,Q=>match sM a||sM b with
  |false=>VC C (.seq a b) σ Q
  |true=>match Qj C b with
   |some c=>∃I:c.A->Prop,VCF C a σ (λe τ=>match e with
    |.normal=>Jx c I τ
    |e=>Q e τ)/\∀x,I x->VCF C b (c.st x) Q
   |none=>VCF C a σ (λe τ=>match e with
    |.normal=>VCF C b τ Q
    |e=>Q e τ)
 |.block id c,σ,Q=>match sM c with
  |false=>VC C (.block id c) σ Q
  |true=>VCF C c σ (λe τ=>match e with
   |.exit i=>match Nat.beq i id with|true=>Q .normal τ|false=>Q (.exit i) τ
   |e=>Q e τ)
 |.cond c x y,σ,Q=>match sM x||sM y with
  |false=>VC C (.cond c x y) σ Q
  |true=>match σ.ev c with
   |.at (.val (.bool t))=>branch t (VCF C x (setTmp σ c true) Q) (VCF C y (setTmp σ c false) Q)
   |_=>False
 |c,σ,Q=>VC C c σ Q
def bNX(C:Ctx)(σ:St):List ResultVar->(bx->Prop)->Prop
 |[],K=>K []
 |.cell t T::r,K=>match nth σ.sl t,jD C.P T with
  |some (.at (.val (.pointer (some ⟨b,off,none⟩)))),true=>byQ C T (aU σ.m σ.h b off) λl=>match(mk C.P T (l.map .val)).val? with
   |some v=>bNX C σ r (λrs=>K (v::rs))
   |none=>False
  |_,_=>False
 |_::_,_=>False
def LC(C:Ctx)(fn:Func)(K:bz)(σ:St):Prop:=
 match Iy C σ fn.results.toList with
 |some _=>DR C fn K σ
 |none=>bNX C σ fn.results.toList λrs=>match rs with
  |[r]=>K (.val r) σ.m σ.h
  |rs=>K (.tup (rs.map .val)) σ.m σ.h
def bcJ(C:Ctx)(fn:Func)(c:Code)(σ:St)(K:bz):Prop:=
 VCF C c σ (λe τ=>match e with
  |.normal=>LC C fn K τ
  |.ret=>LC C fn K τ
  |_=>False)
section
variable{B:sJ}{C:Ctx}{ι:cn}{σ:St}{a:Act}{w:World}{K:St->Prop}
theorem aIQ{ι d:cn}{x:SV}{v:Value}(h:Den ι x v):Den d (RI x) v:=by
 cases x with
 |agg g=>
  simp only[RI];split
  .rename_i l e;obtain⟨f,rfl,c⟩:=h;rw[DO e]at c⊢
   exact⟨f,rfl,by rw[iQ.vals]at c⊢;exact c⟩
  .trivial
 |tup xs=>trivial
 |_ y=>cases y<;>first|exact h|trivial
theorem Gs{ι c:cn}:∀{xs:dl}{vs:bx},DenS ι xs vs->DenS c (xs.map RI) vs
 |[],[],_=>trivial
 |_::_,_::_,h=>⟨aIQ h.1,Gs h.2⟩
 |[],_::_,h=>h.elim
 |_::_,[],h=>h.elim
theorem GW(l:di)(k:Nat)(o:Own):nth (l.map VO) k=some (some o)->False:=by
 rw[BC];cases nth l k<;>simp[VO]
theorem aK.blank'{B:sJ}{sl:dl}{l:di}{m:MH}{h:PH}{a:Act}{w:World}(d:DenS (λ_=>.slice none 0 0) sl a.tmps.toList)(e:a.defers=B.dfs)(f:xV B m h w):
 aK B (λ_=>.slice none 0 0) {sl:=sl,own:=l.map VO,m:=m,h:=h} a w:=
 ⟨d,e,λk o c=>(GW l k o c).elim,λk _ o _ _ c=>(GW l k o c).elim,λk o _ c=>(GW l k o c).elim,f,λ_=>rfl⟩
def Cr(D:Nat):Deferred:={target:=.collected D,args:= #[]}
structure MM(B:sJ)(ds:cv)(ι:cn)(σ:St)(a:Act)(w:World):Prop where
 mod:aK {B with dfs:=ds.map Cr} ι σ a w
 size:∀D∈ds,B.w0.heap.size<=D
 mine:∀D∈ds,¬QK ι σ D
 mark:∀D∈ds,w.heap[D]? =some (.deferred (some []))
 nodup:ds.Nodup
def QM(B:sJ)(Q:A9->St->Prop):Exit->Act->World->Prop
 |.normal,a,w=>∃c ι σ,MM B c ι σ a w/\Q .normal σ
 |.exit id,a,w=>∃c ι σ,MM B c ι σ a w/\Q (.exit id) σ
 |.ret,a,w=>∃c ι σ,MM B c ι σ a w/\Q .ret σ
 |_,_,_=>False
theorem MM.step{ds:cv}(c:MM B ds ι σ a w){f:cn}{τ:St}{g:Act}{w':World}(h:aK (reB ι σ (ds.map Cr) w) f τ g w'):MM B ds f τ g w':=by
 have j:∀D∈ds,D<w.heap.size:=λD d=>(Array.getElem?_eq_some_iff.1 (c.mark D d)).1;refine⟨?_,c.size,λD d n=>?_,λD d=>?_,c.nodup⟩
 .exact c.mod.unbase (ds:=ds.map Cr) h
 .rcases(h.mine n).1 with e|e
  .have e:w.heap.size<=D:=e
   grind
  .exact c.mine D d e
 .rw[h.wrel.frame D (j D d) (c.mine D d)];exact c.mark D d
theorem MM.here{ds:cv}(c:MM B ds ι σ a w):aK (reB ι σ (ds.map Cr) w) ι σ a w:=by
 have:=c.mod.rebase;rw[c.mod.defers]at this;exact this
theorem MM.of_QD{ds:cv}(g:MM B ds ι σ a w){Q:A9->St->Prop}{e:Exit}{j:Act}{w':World}(h:QD (reB ι σ (ds.map Cr) w) Q e j w'):QM B Q e j w':=by
 cases e with
 |normal=>obtain⟨c,τ,d,f⟩:=h;exact⟨ds,c,τ,g.step d,f⟩
 |exit id=>obtain⟨c,τ,d,f⟩:=h;exact⟨ds,c,τ,g.step d,f⟩
 |ret=>obtain⟨c,τ,d,f⟩:=h;exact⟨ds,c,τ,g.step d,f⟩
 |goto l=>exact h.elim
 |panic n=>exact h.elim
 |outgrown=>exact h.elim
theorem MM.retag{ds:cv}(d:MM B ds ι σ a w){c:cn}{τ:St}(h:aK (reB ι σ (ds.map Cr) w) c τ a w):MM B ds c τ a w:=d.step h
theorem CK(d:∀g S,assoc C.specs g=some S->Sound C.P g S){ds:cv}(e:MM B ds ι σ a w){c:Code}{Q:A9->St->Prop}(h:VC C c σ Q):c.wp C.P (QM B Q) a w:=
 wp_mono (Jf d c σ Q ι a w e.here h) (λ_ _ _ f=>e.of_QD f)
theorem ON{ι:cn}:∀{es:dr}{vs:bx}{sl:dl}{ts:Array Value},DenS ι (es.map (·.2)) vs->DenS ι sl ts.toList->
 DenS ι (TZ sl es) (((es.map (·.1)).zip vs).foldl (λts(p,v)=>ts.setIfInBounds p v) ts).toList
 |[],[],_,_,_,h=>h
 |(p,x)::es,v::vs,sl,ts,h,c=>by
  refine ON (es:=es) (vs:=vs) h.2 ?_;rw[Array.toList_setIfInBounds];exact c.set p h.1
 |[],_::_,_,_,h,_=>h.elim
 |_::_,[],_,_,h,_=>h.elim
def BB(fn:FuncId)(tmps:Array Value)(ps:Array Tmp)(x y:Code)(D:Nat)(st:LoopState):Loop:={state:=st,pending:=none,fn:=fn,tmps:=tmps,params:=ps,assign:=x,body:=y,defers:=D}
theorem O5{w:World}{l i:Nat}{r:Loop}(h:w.heap[l]? =some (.loop r)):w.cell? ⟨l,i,none⟩=none:=by
 unfold World.cell?
 grind
theorem Vq(A:∀g S,assoc C.specs g=some S->Sound C.P g S){tmps:Array Value}{x y:Code}(hx:uW x=true)(hy:uW y=true)(b3:DenS ι σ.sl tmps.toList)
 {es:dr}{vs:bx}{ps:Array Tmp}(a5:ps.toList=es.map (·.1))(a6:DenS (λ_=>.slice none 0 0) (es.map (·.2)) vs)
 {fn:FuncId}{D l:Nat}{m0 mm:MH}{h0:PH}(b4:m0 l=none)(c2:∀b,b≠l->mm b=m0 b)(b5:mm l=some (.loop (BB fn tmps ps x y D .ready))){R:MH->PH->Prop}
 (hV:NN C x y σ es m0 h0 R)(w:World)(hH:XA w mm h0):
 ∃a7 J assign body,(Instr.yield l vs.toArray).run C.P w= .ok (.round l a7 J assign body) w/\
  RoundIn Fence.wide 0 C.P l a7 J assign body w λex w'=>∃u m' h',ex= .returned (.bool u)/\(u=true/\PH.le h0 h'/\∃m2,m2 l=none/\(∀b,b≠l->m' b=m2 b)/\m' l=some (.loop (BB fn tmps ps x y D .ready))/\R m2 h')/\QQ w mm h0 m' h' w':=by
 have hl:=hH.msat l _ b5;have b6:=(Array.getElem?_eq_some_iff.1 hl).1
 have a8:vs.length=ps.size:=by
  have n:=a6.length;rw[length_map]at n;rw[<-Array.length_toList,a5,length_map,n]
 refine⟨_,_,_,_,run_yield hl (by simpa[BB]using a8),roundIn_of_wpIn trivial ?_⟩;obtain⟨ts,a9⟩:∃ts,((BB fn tmps ps x y D .ready).params.zip vs.toArray).foldl (λtmps(t,a)=>tmps.setIfInBounds t a) (BB fn tmps ps x y D .ready).tmps=ts:=⟨_,rfl⟩
 rw[a9]
 have b':ts=((es.map (·.1)).zip vs).foldl (λts(p,v)=>ts.setIfInBounds p v) tmps:=by
  rw[<-a9, <-a5, <-Array.foldl_toList,Array.toList_zip];rfl
 have E:∀b o,m0 b=some o->mm b=some o:=λb o d=>by
  grind
 have hM:aK ⟨w,λb=>m0 b≠none,h0,[]⟩ (λ_=>.slice none 0 0) (ajJ σ es m0 h0) {tmps:=ts,defers:=[]} w:=by
  refine aK.blank' ?_ rfl ?_
  .show DenS _ (TZ (σ.sl.map RI) es) ts.toList;rw[b'];exact ON a6 (Gs b3)
  .exact⟨rfl,rfl,rfl,Nat.le_refl _,Nat.le_refl _,λ_ _ _=>rfl,hH.hsat,λb o d=>hH.msat b o (E b o d),λb o d=>hH.disj b o (E b o d),λ_ _ _ e=>e,λ_ _ _=>rfl,λb o d=>.inr bk⟩
 refine wpIn_mono (Rl l A x hx _ _ _ _ _ hM hV) ?_;intro ex a1 V F;cases ex with
 |normal=>
  obtain⟨ι1,τ,G,b7⟩:=F;have j:=G.wrel;have b8:¬(λb=>m0 b≠none) l:=λe=>e b4;have a':V.heap[l]? =some (.loop (BB fn tmps ps x y D .ready)):=by rw[j.frame l b6 b8];exact hl
  have X:=(Array.getElem?_eq_some_iff.1 a').1
  have L:¬QK ι1 τ l:=λhm=>by
   rcases(G.mine hm).1 with n|n
   .grind
   grind
  refine⟨_,run_beginRound a' rfl,?_⟩;obtain⟨f,H⟩:∃f,V.putObj l (.loop {BB fn tmps ps x y D .ready with state:=.busy})=f:=⟨_,rfl⟩
  have a0:=(G.rebase.putD (.loop {BB fn tmps ps x y D .ready with state:=.busy}) a' rfl X L).rebase;rw[H]at a0⊢
  have c3:a1.defers=[]:=G.defers;have a0:aK (reB ι1 τ [] f) ι1 τ a1 f:=bk
  have b9:∀b,b≠l->f.heap[b]? =V.heap[b]? :=λb d=>by rw[<-H];exact World.putObj_heap_other (λe=>d e)
  have s2:f.heap.size=V.heap.size:=by rw[<-H];simp
  have c':f.heap[l]? =some (.loop {BB fn tmps ps x y D .ready with state:=.busy}):=by rw[<-H];exact World.putObj_heap_same X
  refine wpIn_mono (Rl l A y hy _ _ _ _ _ a0 b7) ?_;intro ex a2 I F;cases ex with
  |normal=>
   obtain⟨ι2,υ,c0,hR⟩:=F;have c:=c0.wrel;have W:I.heap[l]? =some (.loop {BB fn tmps ps x y D .ready with state:=.busy}):=by rw[c.frame l (by show l<f.heap.size;omega) L];exact c'
   have b0:=(Array.getElem?_eq_some_iff.1 W).1
   have M:∀b,b<w.heap.size->mm b=none->¬QK ι1 τ b:=λb d hn hm=>by
    rcases(G.mine hm).1 with n|n
    .grind
    grind
   have c1:υ.m l=none:=by
    cases e:υ.m l with
    |none=>rfl
    |some o=>
     rcases c.mfr l o e with n|n
     .have n:f.heap.size<=l:=n;omega
     .exact(L n).elim
   obtain⟨O,Q⟩:∃O,I.putObj l (.loop (BB fn tmps ps x y D .ready))=O:=⟨_,rfl⟩
   have a3:∀b,b≠l->O.heap[b]? =I.heap[b]? :=λb d=>by rw[<-Q];exact World.putObj_heap_other (λe=>d e)
   have c4:O.heap[l]? =some (.loop (BB fn tmps ps x y D .ready)):=by rw[<-Q];exact World.putObj_heap_same b0
   have T:=run_endRound (P:=C.P) none W;have T:(Instr.endRound l none).run C.P I= .ok (.bool true) O:=by rw[T, <-Q];rfl
   have Y:PH.le h0 τ.h:=⟨λb i v e=>j.hle b i v e⟩
   have Z:PH.le τ.h υ.h:=⟨λb i v e=>c.hle b i v e⟩
   refine⟨_,_,T,true,λb=>if b=l then some (.loop (BB fn tmps ps x y D .ready))else υ.m b,υ.h,rfl,⟨rfl,⟨λb i v e=>Z.le _ _ _ (Y.le _ _ _ e)⟩,υ.m,c1,λb d=>by simp[d],bf,hR⟩,?_⟩;have t4:O.tape=I.tape/\O.os=I.os/\O.output=I.output/\O.heap.size=I.heap.size:=by rw[<-Q];exact⟨rfl,rfl,rfl,bf⟩
   have t2:f.tape=V.tape/\f.os=V.os/\f.output=V.output:=by rw[<-H];exact⟨rfl,rfl,rfl⟩
   have b1:w.heap.size<=V.heap.size:=j.size;have b2:f.heap.size<=I.heap.size:=c.size;refine⟨?_,?_,?_,?_,?_,?_,⟨?_,?_,?_⟩,⟨λb i v e=>Z.le _ _ _ (Y.le _ _ _ e)⟩,?_,?_⟩
   .rw[t4.1,c.tape];show f.tape=_;rw[t2.1];exact j.tape
   .rw[t4.2.1,c.os];show f.os=_;rw[t2.2.1];exact j.os
   .rw[t4.2.2.1,c.output];show f.output=_;rw[t2.2.2];exact j.output
   .have d4:O.drawn=I.drawn:=by rw[<-Q];rfl
    have d3:f.drawn<=I.drawn:=c.drawn;have d2:f.drawn=V.drawn:=by rw[<-H];rfl
    have d1:w.drawn<=V.drawn:=j.drawn;omega
   .omega
   .intro b d hn;have U:b≠l:=λe=>bk
    rw[a3 b U,c.frame b (by show b<f.heap.size;omega) (M b d hn)];show f.heap[b]? =_;rw[b9 b U];exact j.frame b d (λe=>e bk)
   .intro b i v hv;have a4:=c.hsat b i v hv;have U:b≠l:=λe=>by rw[e,O5 W]at a4;cases a4
    rw[World.cell?_of_block (w:=I) (w':=O) (a:=⟨b,i,none⟩) (a3 b U)];exact a4
   .intro b o d;have z:(if b=l then some (Obj.loop (BB fn tmps ps x y D .ready))else υ.m b)=some o:=d;clear d;split at z
    .grind
    .rename_i e;rw[a3 b e];exact c.msat b o z
   .intro b o d i;have z:(if b=l then some (Obj.loop (BB fn tmps ps x y D .ready))else υ.m b)=some o:=d;clear d;split at z
    .rename_i e;subst e;cases e2:υ.h b i with
     |none=>rfl
     |some v=>have:=c.hsat b i v e2;rw[O5 W]at this;cases this
    .exact c.disj b o z i
   .intro b d hn;have n:υ.h b=τ.h b:=c.hold b (by show b<f.heap.size;omega) (M b d hn);rw[n];have U:b≠l:=λe=>bk
    exact j.hold b d (λe=>e bk)
   .intro b o d;have z:(if b=l then some (Obj.loop (BB fn tmps ps x y D .ready))else υ.m b)=some o:=d;clear d;split at z
    .grind
    .rename_i e;rcases c.mfr b o z with n|n
     .have n:f.heap.size<=b:=n;omega
     .rcases(G.mine n).1 with h2|h2
      .exact .inl h2
      grind
  |ret=>obtain⟨_,_,_,h⟩:=F;exact h.elim
  |exit id=>obtain⟨_,_,_,h⟩:=F;exact h.elim
  |goto t=>exact F.elim
  |panic ch=>exact F.elim
  |outgrown=>exact F.elim
 |ret=>obtain⟨_,_,_,h⟩:=F;exact h.elim
 |exit id=>obtain⟨_,_,_,h⟩:=F;exact h.elim
 |goto t=>exact F.elim
 |panic ch=>exact F.elim
 |outgrown=>exact F.elim
theorem Qs(w:World)(o:Obj){b:Nat}(h:b<w.heap.size):(w.alloc o).heap[b]? =w.heap[b]? :=by
 exact Go.RowKit.Below.heap_alloc _ _ _ h
theorem Xn(w:World)(o:Obj):(w.alloc o).heap[w.heap.size]? =some o:=World.alloc_heap_new w o
theorem ahZ(w:World):∀l:bx,Cy w (l.map .val) l
 |[]=>trivial
 |_::l=>⟨rfl,ahZ w l⟩
theorem OC(l:bx)(i:Nat)(c:CV)(u:Value)(b:Nat)(d:(l.map CV.val)[i]? =some c)(f:gR c u=some b):False:=by
 rw[getElem?_map]at d;cases e:l[i]? with
 |none=>grind
 |some v=>rw[e]at d;simp at d;subst d;simp[gR]at f
theorem RJ(X:∀g S,assoc C.specs g=some S->Sound C.P g S){ds:cv}(U:MM B ds ι σ a w){f:Operand}{ps:Array Tmp}{x y:Code}{Q:A9->St->Prop}{g:FuncId}{cs:Array Value}(c6:σ.ev f= .at (.val (.func (.func g) #[] cs)))(hx:uW x=true)(hy:uW y=true)
 {Src:PH->bx->List bx->Prop}(b4:QN C.P g Src){xs:List bx}(b5:Src σ.h cs.toList xs){I:Nat->MH->PH->Prop}(h0:I 0 σ.m σ.h)
 (Y:∀(k:Nat)(vs:bx)(m:MH)(h:PH),xs[k]? =some vs->PH.le σ.h h->I k m h->∃es:dr,ps.toList=es.map (·.1)/\DenS (λ_=>.slice none 0 0) (es.map (·.2)) vs/\NN C x y σ es m h (I (k+1)))
 (b6:∀(m:MH)(h:PH),PH.le σ.h h->I xs.length m h->Q .normal (blank σ m h)):(Code.rangeFunc f ps x y).wp C.P (QM B Q) a w:=by
  obtain⟨a3⟩:=b4;have L:=U.mod.wrel
  have b7:a.eval f= .func (.func g) #[] cs:=by
   have:=U.mod.ev f;rw[c6]at this;exact this
  refine(wpIn_wide (n:=0)).1 (wpIn_rangeFunc ?_);intro fn e1;obtain⟨l,hl⟩:∃l,l=w.heap.size+1:=⟨_,rfl⟩
  obtain⟨D,hD⟩:∃D,D=w.heap.size:=⟨_,rfl⟩
  obtain⟨W1,H⟩:∃W1,(w.alloc (.deferred (some []))).alloc (.loop (BB fn a.tmps ps x y D .ready))=W1:=⟨_,rfl⟩
  have s1:W1.heap.size=w.heap.size+2:=by rw[<-H];simp
  have a7:∀b,b<w.heap.size->W1.heap[b]? =w.heap[b]? :=λb t=>by
   rw[<-H,Qs _ _ bj,Qs _ _ t]
  have b8:W1.heap[D]? =some (.deferred (some [])):=by
   rw[<-H,hD,Qs _ _ bf];exact Xn w _
  have e0:W1.heap[l]? =some (.loop (BB fn a.tmps ps x y D .ready)):=by
   rw[<-H,hl];have:=Xn (w.alloc (.deferred (some []))) (.loop (BB fn a.tmps ps x y D .ready))
   rwa [World.size_alloc]at this
  have c7:∀b o,σ.m b=some o->b<w.heap.size:=λb o t=>(Array.getElem?_eq_some_iff.1 (L.msat b o t)).1;have a8:∀b i v,σ.h b i=some v->b<w.heap.size:=λb i v hv=>World.block_lt_of_cell? w ⟨b,i,none⟩ (L.hsat b i v hv)
  let m1:MH:=λb=>if b=l then some (.loop (BB fn a.tmps ps x y D .ready))else σ.m b
  have c8:m1 l=some (.loop (BB fn a.tmps ps x y D .ready)):=by simp[m1]
  have a9:∀b,b≠l->m1 b=σ.m b:=λb t=>if_neg t
  have c9:σ.m l=none:=by
   cases e:σ.m l with
   |none=>rfl
   |some o=>grind
  have b9:AR W1 m1 σ.h (.val (.func (.yield l) #[] #[])::cs.toList.map .val) (.func (.yield l) #[] #[]::cs.toList):=by
   refine⟨⟨rfl,ahZ _ _⟩,?_,?_,?_,λi j c d u v b hi _ _ _ t _=>(OC (.func (.yield l) #[] #[]::cs.toList) i c u b hi t).elim,λi c u b hi _ t=>(OC (.func (.yield l) #[] #[]::cs.toList) i c u b hi t).elim⟩
   .intro b i v hv;rw[World.cell?_of_block (w:=w) (w':=W1) (a:=⟨b,i,none⟩) (a7 b (a8 b i v hv))];exact L.hsat b i v hv
   .intro b o t;by_cases e:b=l
    .grind
    .rw[a9 b e]at t;rw[a7 b (c7 b o t)];exact L.msat b o t
   .intro b o t i;by_cases e:b=l
    .subst e;cases e2:σ.h b i with
     |none=>rfl
     |some v=>grind
    .rw[a9 b e]at t;exact L.disj b o t i
  have z:∀b,m1 b=none->¬uC m1 (.val (.func (.yield l) #[] #[])::cs.toList.map .val) (.func (.yield l) #[] #[]::cs.toList) b:=by
   rintro b t (G|⟨i,c,u,hi,hu,hc⟩)
   .exact G t
   .exact OC (.func (.yield l) #[] #[]::cs.toList) i c u b hi hc
  let J:Nat->MH->PH->Prop:=λk mm Z=>PH.le σ.h Z/\∃T,T l=none/\(∀b,b≠l->mm b=T b)/\mm l=some (.loop (BB fn a.tmps ps x y D .ready))/\I k T Z
  have b':=a3.2 (.val (.func (.yield l) #[] #[])::cs.toList.map .val) (.func (.yield l) #[] #[]::cs.toList) m1 σ.h W1 (λ_ mm Z=>J xs.length mm Z)
   ⟨l,cs.toList,xs,J,rfl,b5,⟨⟨λ_ _ _ e=>e⟩,σ.m,c9,a9,c8,h0⟩,?_,λ_ _ _ _ hJ=>hJ⟩ b9
  .have b0:(Instr.enterLoop fn a.tmps ps x y Fence.wide.round).run C.P w= .ok (l,[Cr D]) W1:=by
    subst hD hl;rw[<-H];exact run_enterLoop_outer _ _ _ _ _
   refine⟨l,[Cr D],W1,{target:=.fn (.func g) cs,args:= #[.func (.yield l) #[] #[]]},W1,g,(.func (.yield l) #[] #[]::cs.toList).toArray,W1,b0,?_,λ_ _=>trivial,?_,λe=>by simp[Fence.wide]at e,callsIn_wide.2 ?_⟩
   .simp only[resolve,rangeCall,b7];simp[go_sem]
   .obtain⟨gf,hf,c',c0⟩:=a3.1;have c':¬gf.body=none:=bk
    have c0:¬gf.name= "runtime.NumGoroutine" :=bk
    simp only[invoke,callFunc];simp[program,Sem.run,hf,c0,c']
   refine b'.mono ?_;rintro e V ⟨r,u,mm,Z,rfl,⟨a',T,a4,c1,b1,hI⟩,b4,A,_⟩;have c2:=A.msat l _ b1;refine⟨_,_,run_endLoop c2 (by simp[BB]),?_⟩;obtain⟨W,a0⟩:∃W,V.putObj l (.loop {BB fn a.tmps ps x y D .ready with state:=.exhausted})=W:=⟨_,rfl⟩
   rw[a0];have a1:∀b,b≠l->W.heap[b]? =V.heap[b]? :=λb t=>by rw[<-a0];exact World.putObj_heap_other (λe=>t e)
   have t4:W.tape=V.tape/\W.os=V.os/\W.output=V.output/\W.heap.size=V.heap.size:=by rw[<-a0];exact⟨rfl,rfl,rfl,bf⟩
   have t1:W1.tape=w.tape/\W1.os=w.os/\W1.output=w.output:=by rw[<-H];exact⟨rfl,rfl,rfl⟩
   have c5:W1.heap.size<=V.heap.size:=A.size
   have a5:∀b,b<w.heap.size->σ.m b=none->W.heap[b]? =w.heap[b]? :=λb t hn=>by
    have M:b≠l:=by omega
    rw[a1 b M,A.frame b bk (z b bk),a7 b t]
   have F:∀b o,T b=some o->mm b=some o/\b≠l:=λb o t=>by
    grind
   have d':∀b o,T b=some o->W1.heap.size<=b\/∃o',σ.m b=some o':=λb o t=>by
    obtain⟨G,M⟩:=F b o t;rcases A.mfr b o G with h2|h2
    .exact .inl h2
    .refine .inr ?_;cases e:σ.m b with
     |some o'=>grind
     |none=>grind
   have hB:B.w0.heap.size<=w.heap.size:=L.size
   have mB:∀b,b<B.w0.heap.size->¬B.E b->σ.m b=none:=λb t hn=>by
    cases e:σ.m b with
    |none=>rfl
    |some o=>
     rcases L.mfr b o e with G|G
     .grind
     grind
   have O:∀D',D'∈ds->D'<w.heap.size/\σ.m D'=none:=λD' R=>by
    refine⟨(Array.getElem?_eq_some_iff.1 (U.mark D' R)).1,?_⟩;cases e:σ.m D' with
    |none=>rfl
    |some o=>exact(U.mine D' R (.inl (by rw[e];simp))).elim
   have c3:∀b,¬(W1.heap.size<=b)->σ.m b=none->¬QK (λ_=>.slice none 0 0) (blank σ T Z) b:=by
    rintro b G h2 (h3|⟨k,o,hk,_⟩)
    .cases e:T b with
     |none=>exact h3 e
     |some o=>
      grind
    .exact GW _ _ _ hk
   have e3:σ.m D=none:=by
    cases e:σ.m D with
    |none=>rfl
    |some o=>grind
   refine⟨D::ds,λ_=>.slice none 0 0,blank σ T Z,⟨?_,?_,?_,?_,?_⟩,b6 T Z a' hI⟩
   .refine aK.blank' (Gs U.mod.slots) ?_ ⟨?_,?_,?_,?_,?_,?_,?_,?_,?_,?_,?_,?_⟩
    .show[Cr D]++a.defers=_;rw[U.mod.defers];rfl
    .rw[t4.1,A.tape];show W1.tape=_;rw[t1.1];exact L.tape
    .rw[t4.2.1,A.os];show W1.os=_;rw[t1.2.1];exact L.os
    .rw[t4.2.2.1,A.output];show W1.output=_;rw[t1.2.2];exact L.output
    .have d4:W.drawn=V.drawn:=by rw[<-a0];rfl
     have d3:W1.drawn<=V.drawn:=A.drawn;have d2:W1.drawn=w.drawn:=by rw[<-H];rfl
     have d1:B.w0.drawn<=w.drawn:=L.drawn
     grind
    .grind
    .intro b t a2;have t:b<B.w0.heap.size:=t;rw[a5 b aD (mB b t a2)];exact L.frame b t a2
    .intro b i v hv;have b2:=A.hsat b i v hv;have M:b≠l:=λe=>by rw[e,O5 c2]at b2;cases b2
     rw[World.cell?_of_block (w:=V) (w':=W) (a:=⟨b,i,none⟩) (a1 b M)];exact b2
    .intro b o t;obtain⟨G,M⟩:=F b o t;rw[a1 b M];exact A.msat b o G
    .intro b o t i;exact A.disj b o (F b o t).1 i
    .intro b i v hv;exact a'.le _ _ _ (L.hle b i v hv)
    .intro b t a2;have t:b<B.w0.heap.size:=t;have G:Z b=σ.h b:=A.hold b bk (z b bk);rw[G];exact L.hold b t a2
    grind
   .intro D' R;rcases mem_cons.1 R with rfl|G
    .omega
    .exact U.size D' G
   .grind
   .intro D' R;rcases mem_cons.1 R with rfl|G
    .rw[a1 D' aD,A.frame D' bk (z D' bk)];exact b8
    .obtain⟨h2,h3⟩:=O D' G;rw[a5 D' h2 h3];exact U.mark D' G
   .refine nodup_cons.2 ⟨λG=>?_,U.nodup⟩
    grind
  .rintro k e m' h' hk a' ⟨c4,T,a4,c1,b1,hI⟩;refine⟨λw5 hH=>?_⟩;obtain⟨es,d0,d5,hV⟩:=Y k e T h' hk a' hI;obtain⟨d6,b3,d7,d8,d9,hR⟩:=Vq X (σ:=σ) (ι:=ι) hx hy U.mod.slots d0 d5 a4 c1 b1 hV w5 hH;refine⟨d6,b3,d7,d8,d9,hR.mono ?_⟩;rintro ex w6 ⟨u,m6,h6,rfl,⟨rfl,a6,m7,q1,q2,q3,q4⟩,e'⟩;exact⟨_,m6,h6,rfl,⟨rfl,a6,⟨λ_ _ _ e=>a6.le _ _ _ (c4.le _ _ _ e)⟩,m7,q1,q2,q3,q4⟩,e'⟩
theorem Ye(j:∀g S,assoc C.specs g=some S->Sound C.P g S){ds:cv}(J:MM B ds ι σ a w){f:Operand}{ps:Array Tmp}{x y:Code}{Q:A9->St->Prop}(h:Yf C f ps x y σ (Q .normal)):(Code.rangeFunc f ps x y).wp C.P (QM B Q) a w:=by
 unfold Yf at h;split at h
 .rename_i g O X E G;obtain⟨L,M⟩:=Bool.and_eq_true_iff.1 G;split at h
  .rename_i R;obtain rfl:O= #[]:=Array.toList_inj.1 aD;split at h
   .rename_i p T A V;obtain⟨Src,xs,I,D,n,H,c,t⟩:=h;refine RJ j J E L M D n H (λk W m h u d F=>?_) (λm h d F=>t m h d bk);rw[getElem?_map]at u;cases e:xs[k]? with
    |none=>grind
    |some z=>
     rw[e]at u;simp only[Option.map_some,Option.some.injEq]at u;subst u;exact⟨[(p,mk C.P T (((C.dec T).enc z).map .val))],by rw[A];rfl,⟨Ua,trivial⟩,c k z m h e d F⟩
   .rename_i p q T U A V;obtain⟨Src,xs,I,D,n,H,c,t⟩:=h;refine RJ j J E L M D n H (λk W m h u d F=>?_) (λm h d F=>t m h d bk);rw[getElem?_map]at u;cases e:xs[k]? with
    |none=>grind
    |some z=>
     rw[e]at u;simp only[Option.map_some,Option.some.injEq]at u;subst u;exact⟨[(p,mk C.P T (((C.dec T).enc z.1).map .val)),(q,mk C.P U (((C.dec U).enc z.2).map .val))],by rw[A];rfl,⟨Ua,Ua,trivial⟩,c k z.1 z.2 m h e d F⟩
   grind
  grind
 grind
theorem aBQ(d:∀g S,assoc C.specs g=some S->Sound C.P g S):∀(c:Code)(σ:St)(Q:A9->St->Prop)(ds:cv)(ι:cn)(a:Act)(w:World),MM B ds ι σ a w->VCF C c σ Q->c.wp C.P (QM B Q) a w:=by
 intro c
 induction c with
 |rangeFunc f ps x y _ _=>intro σ Q ds ι a w n h;exact Ye d n h
 |seq x y D E=>
  intro σ Q ds ι a w n h;simp only[VCF]at h;split at h
  .exact CK d n h
  .split at h
   .obtain⟨I,h,F⟩:=h;refine wp_seq (wp_mono (D σ _ ds ι a w n h) ?_);intro e J L j;cases e with
    |normal=>
     obtain⟨z,G,H,u,V⟩:=j;obtain⟨W,X,M,O⟩:=AV u.here V;exact E _ Q z X J L (u.retag O) (F W M)
    |exit id=>exact j
    |ret=>exact j
    |goto l=>exact j
    |panic U=>exact j
    |outgrown=>exact j
   .refine wp_seq (wp_mono (D σ _ ds ι a w n h) ?_);intro e J L j;cases e with
    |normal=>
     obtain⟨z,G,H,u,h'⟩:=j;exact E H Q z G J L u h'
    |exit id=>exact j
    |ret=>exact j
    |goto l=>exact j
    |panic U=>exact j
    |outgrown=>exact j
 |cond c x y D E=>
  intro σ Q ds ι a w n h;simp only[VCF]at h;split at h
  .exact CK d n h
  .split at h
   .rename_i t R;have A:=n.mod.ev c;rw[R]at A;have A:a.eval c= .bool t:=A;rcases uP h with⟨rfl,h⟩|⟨rfl,h⟩
    .exact wp_cond_true A (D _ Q ds ι a w (n.retag (n.here.setTmp R)) h)
    .exact wp_cond_false A (E _ Q ds ι a w (n.retag (n.here.setTmp R)) h)
   grind
 |block id c Y=>
  intro σ Q ds ι a w n h;simp only[VCF]at h;split at h
  .exact CK d n h
  .refine wp_block (wp_mono (Y σ _ ds ι a w n h) ?_);intro e J L j;cases e with
   |normal=>exact j
   |exit i=>
    obtain⟨z,G,H,u,h'⟩:=j;show if i=id then _ else _
    simp only at h';split at h'
    .rename_i T;rw[if_pos (Nat.eq_of_beq_eq_true T)];exact⟨z,G,H,u,h'⟩
    .rename_i T;rw[if_neg (λe=>by subst e;simp at T)];exact⟨z,G,H,u,h'⟩
   |ret=>exact j
   |goto l=>exact j
   |panic U=>exact j
   |outgrown=>exact j
 |_=>intro σ Q ds ι a w n h;exact CK d n h
theorem OT(e:aK B ι σ a w):∀{l:List ResultVar}{K:bx->Prop},bNX C σ l K->∃vs,(l.mapM (LV a.tmps)).run C.P w= .ok vs w/\K vs
 |[],K,h=>⟨[],bf,h⟩
 |.tmp t::r,K,h=>h.elim
 |.cell t T::r,K,h=>by
  simp only[bNX]at h;split at h
  .rename_i b off n u;obtain⟨y,f,h⟩:=h;split at h
   .rename_i c;have c:=Nat.eq_of_beq_eq_true c;split at h
    .rename_i v x;obtain⟨vs,z,A⟩:=OT e h;have d:=e.ev (.tmp t);have D:σ.ev (.tmp t)= .at (.val (.pointer (some ⟨b,off,none⟩))):=by simp only[St.ev,n]
     rw[D]at d;have g:a.tmps.getD t undef= .pointer (some ⟨b,off,none⟩):=d;have E:=AT (w:=w) (b:=b) (off:=off) (cs:=(C.dec T).enc y) u c (Ej e.wrel f);have F:=IY (P:=C.P) (T:=T) (ι:=ι) (ats:=((C.dec T).enc y).map .val) (cs:=(C.dec T).enc y) (by rw[iQ.vals]);have j:=F.val? x;refine⟨v::vs,?_,A⟩;simp only[mapM_cons,LV,g,asAddr,Sem.run_bind,Sem.run_pure,Result.andThen_ok,E,z,j]
    grind
   grind
  grind
theorem XM(d:aK B ι σ a w){fn:Func}{K:bz}(h:LC C fn K σ):
 ∃u,(results fn a.tmps).run C.P w= .ok u w/\∃r m' h',K r m' h'/\D9 w r u/\xV B m' h' w/\∀b,gR r u=some b->(B.w0.heap.size<=b\/B.E b)/\m' b=none/\∀i,h' b i=none:=by
 unfold LC at h;split at h
 .exact GS d h
 .obtain⟨c,f,g⟩:=OT d h
  have n:(results fn a.tmps).run C.P w= .ok (if h:c.toArray.size=1 then c.toArray[0]else .tuple c.toArray) w:=by
   rw[OS,Array.mapM_eq_mapM_toList];simp[f]
  split at g
  .rename_i v;exact⟨v,bk,.val v,σ.m,σ.h,g,rfl,d.wrel,λb j=>by simp[gR]at j⟩
  .rename_i t
   have x:c.length≠1:=λe=>by
    match c,e with
    |[v],_=>grind
   exact⟨.tuple c.toArray,bk,.tup (c.map .val),σ.m,σ.h,g,⟨c.toArray,rfl,bf⟩,d.wrel,λb j=>by simp[gR]at j⟩
theorem Nf{F:Fence}{n:Nat}{R:Ending->World->Prop}{fn:Func}{Kc:bz}(g:LC C fn Kc σ)
 (x:∀u w',(∃r m' h',Kc r m' h'/\D9 w' r u/\xV B m' h' w'/\∀b,gR r u=some b->(B.w0.heap.size<=b\/B.E b)/\m' b=none/\∀i,h' b i=none)->R (.returned u) w'):
 ∀(ds:cv)(a:Act)(w:World),MM B ds ι σ a w->LeavesInM F n C.P fn a.tmps R (ds.map Cr) .returning w
 |[],a,w,f=>by
  obtain⟨u,z,r,m',h',A,t,d,G⟩:=XM f.mod g;refine⟨u,z,x u w ⟨r,m',h',A,t,⟨d.tape,d.os,d.output,d.drawn,d.size,d.frame,d.hsat,d.msat,d.disj,d.hle,d.hold,d.mfr⟩,G⟩⟩
 |D::ds,a,w,f=>by
  have y:=f.mark D (mem_cons_self ..);refine⟨bf,.inl ⟨D,_,rfl,run_takeDeferred y,Nf g x ds {a with defers:=ds.map Cr} _ ?_⟩⟩;have H:w.grownBy (w.putObj D (.deferred none)) (some D):=grownBy_putObj' w D _
  have c:=f.mod.grown H (Nat.le_refl _) (λr e=>by
   cases e;exact⟨f.size D (mem_cons_self ..),f.mine D (mem_cons_self ..),_,y,rfl⟩)
  have j:=nodup_cons.1 f.nodup;refine⟨⟨c.slots,?_,c.own,c.dist,c.fresh,⟨c.wrel.tape,c.wrel.os,c.wrel.output,c.wrel.drawn,c.wrel.size,c.wrel.frame,c.wrel.hsat,c.wrel.msat,c.wrel.disj,c.wrel.hle,c.wrel.hold,c.wrel.mfr⟩,c.one⟩,λD' h=>f.size D' (mem_cons_of_mem _ h),λD' h=>f.mine D' (mem_cons_of_mem _ h),λD' h=>?_,j.2⟩
  .rfl
  .rw[World.putObj_heap_other (fun(e:D'=D)=>j.1 bk)];exact f.mark D' (mem_cons_of_mem _ h)
theorem aJQ{P:Program}{f:FuncId}{fn:Func}{c:Code}(H:P.funcs[f]? =some fn)(I:fn.body=some c)(t:(fn.name== "runtime.NumGoroutine")=false){S:Spec}
 (E:∀d m h K,S d m h K->∃C:Ctx,C.P=P/\(∀g S,assoc C.specs g=some S->Sound P g S)/\bcJ C fn c (entry fn.ntmps d m h) K):Sound P f S:=by
 refine⟨⟨fn,H,by rw[I];rfl,t⟩,?_⟩;intro d x m h w K L M;obtain⟨C,rfl,j,O⟩:=E d m h K L;refine callsIn_wide.1 (callsIn_of_wp_marks (n:=0) H I trivial (wpIn_wide.2 ?_))
 have F:MM ⟨w,uC m d x,h,[]⟩ [] (Ni fn.ntmps d x) (entry fn.ntmps d m h) {tmps:=x.toArray++Array.replicate (fn.ntmps-x.toArray.size) undef,defers:=[]} w:=
  ⟨Fx fn.ntmps M,λ_ A=>(not_mem_nil A).elim,λ_ A=>(not_mem_nil A).elim,λ_ A=>(not_mem_nil A).elim,nodup_nil⟩
 refine wp_mono (aBQ j c _ _ _ _ _ w F O) ?_;intro e D y z
 have key:(∃G ι σ,MM ⟨w,uC m d x,h,[]⟩ G ι σ D y/\LC C fn K σ)->LeavesInM Fence.wide 0 C.P fn D.tmps (λe y=>∃r u m' h',e= .returned u/\K r m' h'/\D9 y r u/\xV ⟨w,uC m d x,h,[]⟩ m' h' y/\
  (∀b,gR r u=some b->(w.heap.size<=b\/uC m d x b)/\m' b=none/\∀i,h' b i=none)) D.defers .returning y:=by
  rintro⟨G,ι,σ,J,Q⟩;rw[J.mod.defers];exact Nf Q (λu R⟨r,m',h',T,U,V,W⟩=>⟨r,u,m',h',rfl,T,U,V,W⟩) G D y J
 cases e with
 |normal=>exact key z
 |ret=>exact key z
 |exit id=>obtain⟨_,_,_,_,h⟩:=z;exact h.elim
 |goto l=>exact z.elim
 |panic X=>exact z.elim
 |outgrown=>exact z.elim
theorem Yh{P:Program}{f:FuncId}{fn:Func}{c:Code}(j:P.funcs[f]? =some fn)(n:fn.body=some c)(e:(fn.name== "runtime.NumGoroutine")=false){S:Spec}
 (t:∀d m h K,S d m h K->∃C:Ctx,C.P=P/\(∀g S,assoc C.specs g=some S->Sound P g S)/\bcJ C fn c (entry fn.ntmps d m h) (fY h K)):Sound P f S:=
 .strong (aJQ j n e (S:=λd m h K=>∃K',S d m h K'/\K=fY h K') (by
  grind))
end
end Go.Vc
namespace Go.Ps
open Go Go.Vc Go.Proofs List Tryz
variable{K:bz}{m:MH}{h:PH}{s:jE}{ps:ca}{cb:Nat}{sc:cE}{v:QV}{p:Pred}{l:ca}{i:Nat}{N:Nat}{m':MH}{h':PH}{co:ca}{gr:ca}{od:cg}{ta:Int}{li:Int}{xs:List bx}{sz:Nat}{ks:List ca}{rs:ca}{r:Sl}{a:ca}{b:Nat}
def LU(h:PH)(b:Nat)(l:bx):PH:=λc i=>if c=b then l[i]? else h c i
theorem amZ{l:bx}(d:∀i,h b i=none):PH.le h (LU h b l):=⟨λc i v e=>by
 have:c≠b:=λf=>bk
 simp only[LU,if_neg this];exact e⟩
theorem bRQ{l:bx}:bL (LU h b l) b 0 l:=⟨λi v e=>by simp only[LU,if_true,Nat.zero_add];exact e⟩
structure VOk(v:VV):Prop where
 kind:vZ v.kind
 int:vZ v.int
 text:v.text.size<=64
structure UP(r:cj):Prop where
 len:r.length<=12
 val:∀v∈r,VOk v
def pick(r:cj)(cols:ca):cj:=cols.map λc=>r.getD c.toNat zeroV
structure jU(n:Nat)(cols:ca):Prop where
 at_:∀c∈cols,0<=c/\c<n
 len:cols.length<=100000
def pD(on:ce):ca:=on.map Prod.fst
def jF(on:ce):ca:=on.map Prod.snd
def adJ:Vc.Spec:=λc m h K=>∃s on,c=[cS s]/\iF h s on/\∀a b h',PH.le h h'->Ints h' a (pD on)->Ints h' b (jF on)->K (.tup [cS a,cS b]) m h'
def XE:Vc.Spec:=λd m h K=>∃s t r c,d=[cS s,cS t]/\cF h s r/\Ints h t c/\jU r.length c/\K (cB ((pick r c).all oC)) m h
def bIX:Vc.Spec:=λc m h K=>∃n:Nat,c=[.val (.slice none 0 0),cI n]/\n<=1000/\K (.lst 27 3 []) m h
def XC:Vc.Spec:=λc m h K=>∃d rs,c=[cS d]/\Rows h d rs/\rs.length<=10/\(∀r∈rs,r.length<=12)/\∀e h',PH.le h h'->cF h' e rs.flatten->K (cS e) m h'
noncomputable def bhX(s:Sl)(m:MH)(h:PH):Ctx:=
 dA [] [(2,{A:=Nat×ca×ca,st:=λ⟨i,l,k⟩=>bQ 25 26 [(2,.at (.lst 16)),(3,.at (.lst 21)),(6,sv s),(7,iv s.len),(8,iv i)] [(16,.lst 3 1 (l.map eI)),(21,.lst 3 1 (k.map eI))] m h})] [] [] false
noncomputable def bhQ(s t:Sl)(m:MH)(h:PH):Ctx:=
 dA [(186,Tx)] [(2,{A:=Nat,st:=λi=>bQ 20 22 [(0,sv s),(7,sv t),(8,iv t.len),(9,iv i)] [] m h})] [] [] false
noncomputable def blZ(c:Sl)(m:MH)(h:PH):Ctx:=
 dA [(254,bIX)] [(3,{A:=Nat×Nat,st:=λ⟨i,n⟩=>bQ 36 37 [(0,sv c),(3,iv n),(9,sv c),(10,iv c.len),(11,iv i)] [] m h}),
  (11,{A:=Nat×cj,st:=λ⟨i,l⟩=>bQ 36 37 [(6,.at (.lst 24)),(25,sv c),(26,iv c.len),(27,iv i)] [(24,.lst 27 3 (l.map VV.enc))] m h})] [] [] false
def Ma(s:Sl)(m:MH)(h:PH)(K:bz):Prop:=
  ∃(I:Nat×ca×ca->Prop)(d:Nat×ca×ca->Nat),(∃(x:Nat×ca×ca),aA (I x) (eL 16) (aA (eL 21) (aI s) (aA (bI s) (bB x.1) (aA (tL (cZ x.2.1)) (tL (cZ x.2.2)) (aA (m=m) (h=h) True)))))/\∀(x:Nat×ca×ca),I x->aZ (↑x.1:Int) (aH s) (bJ (λb o=>aA (bM s.a b o) (0<=(↑x.1:Int)) ((↑x.1:Int)<aH s/\∃(y:Int×Int),aA (aU m h b (bK o x.1 2) (pB y)) (bZ 0) (aA ((0:Int)<2) (fC (iY (cZ x.2.1) 1*8)) (aA (jQ (cZ x.2.1)) (bZ 1) (aA ((1:Int)<2) (fC (iY (cZ x.2.2) 1*8)) (jQ (cZ x.2.2)/\∃(c:Nat×ca×ca),aA (I c) (d c<d x) (aA (eL 16) (eL 21) (aA (aI s) (bI s) (aA (bD (fZ (bE x.1 1)) c.1) (jV (eN (cZ x.2.1) (bG y.1))
 c.2.1) (bP (jV (eN (cZ x.2.2) (bG y.2)) c.2.2) (m=m) (h=h)))))))))))) (bO h 1 (cZ x.2.1) (λe f=>bO f 1 (cZ x.2.2) (λg j=>K (CV.tup (dT e g)) m j)))
def L9(s t:Sl)(m:MH)(h:PH)(K:bz):Prop:=
  G9 (λI x=>aA (I x) (aI s) (aA (aI t) (bI t) (bP (bB x) (m=m) (h=h)))) t m h (λI d x y=>bJ (λb o=>aA (bM s.a b o) (0<=y) (y<aH s/\∃(e:VV),aU m h b (fU o y 3) e.enc/\∃(v:VV),qF (mF e) (mF v) (iV (!(oC v)) (K aX m h) (λc=>aA (I c) (d c<d x) (aA (aI s) (aI t) (aA (bI t) (bD (fZ (bE x 1)) c) (aA (m=m) (h=h) True)))))))) (gK K m h)
def Sd(n:Nat)(m:MH)(h:PH)(K:bz):Prop:=
  N9 n 0 32 Ar (K (CV.lst 27 3 []) m h)
def Sv(d:Sl)(m:MH)(h:PH)(K:bz):Prop:=
  Kg (λI x=>aA (I x) (aI d) (aA (bB x.2) (aI d) (aA (bI d) (bB x.1) (aA (m=m) (h=h) True)))) (λI g x=>I x->aZ (↑x.1:Int) (aH d) (eK d.a (↑x.1:Int) d (λb o y=>aU m h b (bK o x.1 1) (bA y)/\aZ (bE x.2 (aH y)) 0 False (∃(c:Nat×Nat),aA (I c) (g c<g x) (aA (aI d) (bD (fZ (bE x.2 (aH y))) c.2) (aA (aI d) (bI d) (aA (bD (fZ (bE x.1 1)) c.1) (m=m) (bN h h))))))) (∃(n:Nat),aA (E3 x.2=E3 n) (mG n) (∃(I1:Nat×cj->Prop)(j:Nat×cj->Nat),(∃(c:Nat×cj),aA (I1 c) (eL 24) (aA (aI d) (bI d) (aA (bB c.1) (qZ 27 3 (List.map VV.enc c.2)) (aA (m=m) (h=h) True))))/\∀(c:Nat×cj),I1 c->aZ (↑c.1:Int) (aH d) (eK d.a (↑c.1:Int) d (λb o y=>IH m
 h b o c.1 1 (bA y) (λe=>j6 3 e (cD h (iA y.a y) 3 e) (oL (List.map VV.enc c.2) e 32) (oF (List.map VV.enc c.2) e) (∃(f:Nat×cj),aA (I1 f) (j f<j c) (aA (eL 24) (aI d) (aA (bI d) (bD (fZ (bE c.1 1)) f.1) (aA (Option.some (Own.lst 27 3 (List.map VV.enc c.2++e))=Option.some (Own.lst 27 3 (List.map VV.enc f.2))) (m=m) (bN h h)))))))) (bO h 3 (List.map VV.enc c.2) (λs t=>K (fJ s) m t)))))
theorem VD{r:cj}{cols:ca}(e:jU r.length cols){v:VV}(f:v∈pick r cols):v∈r:=by
 obtain⟨c,d,rfl⟩:=mem_map.1 f;have:=e.at_ c d
 grind
theorem T4{r:cj}{cols:ca}{i:Nat}{c:Int}(d:jU r.length cols)(e:cols[i]? =some c):∃v,r[c.toNat]? =some v/\(pick r cols)[i]? =some v/\0<=c/\c<r.length:=by
 have:=d.at_ c (mem_of_getElem? e);refine⟨r[c.toNat]'(by omega),getElem?_eq_getElem _,?_,this⟩;unfold pick
 grind
theorem b1X{s:Sl}{on:ce}(f:iF h s on)(z:∀a b h',PH.le h h'->Ints h' a (pD on)->Ints h' b (jF on)->K (.tup [cS a,cS b]) m h'):Ma s m h K:=by
 dsimp only[Ma,push_cast];have g:=f.slen;have G:=f.len;refine⟨λx=>x.1<=on.length/\x.2.1=(on.take x.1).map Prod.fst/\x.2.2=(on.take x.1).map Prod.snd,λx=>on.length-x.1,⟨(0,[],[]),⟨bf,bf,bf⟩,MT⟩,?_⟩;rintro⟨i,l,k⟩ ⟨A,t,u⟩;dsimp only at A t u;subst t u;refine aF (λc=>?_) (λj=>?_)
 .dsimp only at c;obtain⟨p,y⟩:=eT g c;obtain⟨b,o,e,rd⟩:=iF.at f y;refine⟨b,o,e,aD,c,p,.imm rd,aD,aD,?_,?_,aD,aD,?_,?_,(i+1,(on.take (i+1)).map Prod.fst,(on.take (i+1)).map Prod.snd),⟨aD,rfl,rfl⟩,bk,?_⟩
  all_goals (try (simp only[length_map,length_take];omega))
  dsimp only;rw[take_add_one,y,Option.toList_some,map_append,map_append,map_append,map_append];exact MT
 .dsimp only at j⊢
  rw[take_of_length_le aD];intro a H n D b E d F;exact z a b E (n.trans d) ⟨D.mono d,by simp[pD];omega⟩ ⟨F,by simp[jF];omega⟩
theorem b1Q{s t:Sl}{r:cj}{cols:ca}(z:cF h s r)(A:Ints h t cols)(D:jU r.length cols)(g:K (cB ((pick r cols).all oC)) m h):L9 s t m h K:=by
 dsimp only[L9,push_cast];have G:=bY.slen z;have n:=A.slen;have H:=D.len;have I:(pick r cols).length=cols.length:=by simp[pick]
 refine⟨λi=>i<=cols.length/\∀j:Nat,j<i->∀v,(pick r cols)[j]? =some v->oC v=true,λi=>cols.length-i,⟨0,⟨aD,λj E=>by omega⟩,MT⟩,λi⟨T,F⟩=>aF (λd=>?_) (λJ=>?_)⟩
 .obtain⟨c,f⟩:=eT n d;obtain⟨b,o,e,rd⟩:=A.at f;obtain⟨v,x,L,M,U⟩:=T4 D f;obtain⟨O,P,w,Q,y,rfl⟩:=bY.at z x;refine⟨b,o,e,aD,d,c,.imm bk,O,P,Q,M,aD,v,.imm y,v,rfl,aC (λR=>?_) (λV=>⟨i+1,⟨aD,λj E u W=>?_⟩,(show cols.length-(i+1)<cols.length-i by omega),MT⟩)⟩
  .have:(pick r cols).all oC=false:=by
    grind
   rw[this]at g;exact g
  grind
 .have:(pick r cols).all oC=true:=by
   rw[all_eq_true];intro v S;obtain⟨j,E⟩:=getElem?_of_mem S
   grind
  rw[this]at g;exact g
theorem YD:bu 254 bIX:=by
 refine hU func254 ?_;rintro d m h K ⟨n,rfl,f,c⟩;refine⟨dA [] [] [] [] true,rfl,aG,Sd n m h K,bd,?_⟩;dsimp only[Sd,push_cast];have e:IntKind.i64.wrap ((n:Int)-0)=n:=by rw[eH aD aD];omega
 have g:IntKind.i64.wrap ((n:Int)-IntKind.i64.wrap (0-0))=n:=by rw[show IntKind.i64.wrap (0-0)=0 from by rw[eH aD aD];rfl,e]
 exact aF (λj=>⟨aD,aD,aD,aD,aD,aD,aD,c⟩) (λ_=>c)
theorem By{α:Type}{ks:List (List α)}{k:List α}(c:ks[i]? =some k):((ks.take (i+1)).map List.length).sum=((ks.take i).map List.length).sum+k.length:=by
 rw[take_add_one,c];simp
theorem Iu{α:Type}{ks:List (List α)}(h:∀k∈ks,k.length<=12):∀i,((ks.take i).map List.length).sum<=12*i
 |0=>bf
 |i+1=>by
  have c:=Iu h i;cases e:ks[i]? with
  |none=>rw[take_add_one,e];grind
  |some k=>rw[By e];grind
theorem Zb:bu 191 XC:=by
 refine hU func191 ?_;rintro L m h K ⟨G,ks,rfl,y,V,d,M⟩;refine⟨blZ G m h,rfl,aE YD aG,Sv G m h K,bd,?_⟩;dsimp only[Sv,push_cast];have j:=bY.slen y;refine⟨λ⟨i,n⟩=>i<=ks.length/\n=((ks.take i).map List.length).sum,λ⟨i,_⟩=>ks.length-i,⟨(0,0),⟨aD,bf⟩,MT⟩,?_⟩;rintro⟨i,n⟩ ⟨H,rfl⟩;dsimp only;have O:=Iu d i;refine aF (λc=>?_) (λt=>?_)
 .obtain⟨k,e⟩:=eT j c;obtain⟨b,o,g,z,r,f⟩:=bY.at y e;have P:=bY.slen f;have u:=d k (mem_of_getElem? e)
  have Q:IntKind.i64.wrap (((((ks.take i).map List.length).sum:Nat):Int)+(g.len:Int))=((((ks.take (i+1)).map List.length).sum:Nat):Int):=by
   rw[By e,eH aD aD];omega
  refine⟨b,o,z,aD,c,g,.imm r,?_⟩;rw[Q];exact aF (λI=>by omega) (λ_=>⟨(i+1,((ks.take (i+1)).map List.length).sum),⟨aD,rfl⟩,aD,MT⟩)
 .refine⟨((ks.take i).map List.length).sum,rfl,aD,?_⟩;refine⟨λ⟨i,l⟩=>i<=ks.length/\l=(ks.take i).flatten,λ⟨i,_⟩=>ks.length-i,⟨(0,[]),⟨aD,bf⟩,MT⟩,?_⟩;clear O t H;rintro⟨i,l⟩ ⟨H,rfl⟩;dsimp only;have R:(ks.take i).flatten.length<=12*i:=by have:=Iu d i;grind
  refine aF (λc=>?_) (λt g h' A J=>M g h' A ⟨⟨ks.flatten,?_,rfl,λi x S=>⟨x,S,rfl⟩⟩,?_⟩)
  .obtain⟨k,e⟩:=eT j c;obtain⟨b,o,g,z,r,f⟩:=bY.at y e;have u:=d k (mem_of_getElem? e);obtain⟨D,E,T,U⟩:=f.ex
   have F:D=k:=by
    apply ext_getElem?
    grind
   subst F;refine⟨b,o,z,aD,c,g,.imm r,D.map VV.enc,Vp D,E,?_,?_,(i+1,(ks.take (i+1)).flatten),⟨aD,rfl⟩,aD,?_⟩
   .grind
   .grind
   .rw[take_add_one,e,Option.toList_some,flatten_append,map_append,flatten_cons,flatten_nil,append_nil];exact MT
  .grind
  grind
theorem Uy:∀(u:Nat)(b:UInt8),b∈Lib.decDigits u->48<=b.toNat/\b.toNat<=57:=by
 intro u
 induction u using Nat.strongRecOn with
 |_ u d=>
  intro b c;rw[Lib.decDigits]at c
  have one:∀k,k<10->48<=(UInt8.ofNat (48+k)).toNat/\(UInt8.ofNat (48+k)).toNat<=57:=λk e=>by
   rw[UInt8.toNat_ofNat'];omega
  grind
theorem asJ:∀(u v:Nat),Lib.decDigits u=Lib.decDigits v->u=v:=by
 intro u
 induction u using Nat.strongRecOn with
 |_ u g=>
  intro v h;have f:=congrArg List.length h;rw[Lib.decDigits_length,Lib.decDigits_length]at f
  have one:∀a b,a<10->b<10->UInt8.ofNat (48+a)=UInt8.ofNat (48+b)->a=b:=λa b j n e=>by
   have:=congrArg UInt8.toNat e;rw[UInt8.toNat_ofNat',UInt8.toNat_ofNat']at this;omega
  by_cases d:u<10
  .have c:v<10:=by
    apply Classical.byContradiction;intro c;rw[Lib.nDigits_small d,Lib.nDigits_big c]at f;have:=Lib.nDigits_pos (v/10);omega
   rw[Lib.decDigits.eq_def u,Lib.decDigits.eq_def v,dif_pos d,dif_pos c]at h
   grind
  .have c:¬v<10:=λc=>by
    grind
   rw[Lib.decDigits.eq_def u,Lib.decDigits.eq_def v,dif_neg d,dif_neg c]at h;have t:=append_inj' h rfl
   grind
theorem Rg{n:Int}(c:0<=n)(d:n<18446744073709551616):IntKind.u64.wrap n=n:=by
 rw[IntKind.wrap_u64];omega
theorem aAJ{n:Int}(c:n<0)(d: -9223372036854775808<=n):IntKind.u64.wrap (0-IntKind.u64.wrap n)= -n:=by
 rw[IntKind.wrap_u64,IntKind.wrap_u64];omega
theorem DV{n:Int}(h:vZ n)(c:0<=n):nO n=Lib.decDigits n.toNat:=by
 unfold nO;rw[if_neg aD,Rg c (by have:=h.2;omega)]
theorem DW{n:Int}(h:vZ n)(c:n<0):nO n=45::Lib.decDigits (-n).toNat:=by
 unfold nO;rw[if_pos c,aAJ c h.1]
theorem aIX{m n:Int}(c:vZ m)(d:vZ n)(h:nO m=nO n):m=n:=by
 have f:∀u r,Lib.decDigits u=45::r->False:=λu r e=>by
  have:=Uy u 45 (by rw[e];simp);simp at this
 by_cases g:0<=m<;>by_cases j:0<=n
 .rw[DV c g,DV d j]at h;have:=asJ _ _ h;omega
 .rw[DV c g,DW d aD]at h
  grind
 .rw[DW c aD,DV d j]at h
  grind
 .rw[DW c aD,DW d aD]at h;have:=asJ _ _ (List.cons.inj h).2;omega
theorem Vh{α:Type}{x:α}:∀{a b r r':List α},x∉a->x∉b->a++x::r=b++x::r'->a=b/\r=r'
 |[],[],r,r',_,_,h=>⟨rfl,(List.cons.inj h).2⟩
 |[],c::b,r,r',_,e,h=>by
  grind
 |c::a,[],r,r',f,_,h=>by
  grind
 |c::a,d::b,r,r',f,e,h=>by
  have g:=List.cons.inj h;obtain⟨j,n⟩:=Vh (λm=>f (by simp[m])) (λm=>e (by simp[m])) g.2
  grind
structure a0X(κ:cj->ByteArray):Prop where
 inj:∀{a b:cj},a.length=b.length->(∀v∈a,VOk v)->(∀v∈b,VOk v)->(κ a=κ b↔a=b)
structure Step where
 op:Int
 table:Int
 wher:Pred
 columns:ca
 on:ce
 group:ca
 order:cg
 limit:Int
 left:Int
 right:Int
abbrev cq:=List Step
variable{ts:cq}{t:Step}
def Step.query(t:Step):Query:=.mk t.op t.table t.wher t.columns t.on t.group t.order t.limit []
structure uB(h:PH)(t:Step)(v:vY):Prop where
 op_:v.op=t.op
 table_:v.table=t.table
 where_:dD h t.wher v.where_
 columns_:Ints h v.columns t.columns
 on_:iF h v.on t.on
 group_:Ints h v.group t.group
 order_:jT h v.order t.order
 limit_:v.limit=t.limit
 left_:v.left=t.left
 right_:v.right=t.right
theorem uB.mono{v:vY}(x:uB h t v)(le:PH.le h h'):uB h' t v:=⟨x.op_,x.table_,x.where_.mono le,x.columns_.mono le,x.on_.mono le,x.group_.mono le,x.order_.mono le,x.limit_,x.left_,x.right_⟩
def aT(v:vY):CV:=.val (.agg ⟨v.enc⟩)
def hX(l:ca):cu:=l.flatMap λn=>nO n++[32]
def zG(v:VV):cu:=hX [v.kind]++(nO v.int++[32])++hX [(v.text.size:Int)]++v.text.data.toList
def CA(o:OV):cu:=hX [o.kind,o.index]++zG o.value
mutual
def nF:Pred->cu
 |.mk op c l r args=>hX [op,c]++CA l++CA r++hX [(args.length:Int)]++lJ args
def lJ:cr->cu
 |[]=>[]
 |p::ps=>nF p++lJ ps
end
theorem gI:∀l:ca,(hX l).length<=22*l.length
 |[]=>by simp[hX]
 |n::l=>by
  have:=gI l;have c:=zX n;unfold hX at this⊢
  grind
def TI:Vc.Spec:=λc m h K=>∃xs s l,c=[.lst 5 1 xs,cS s]/\Ints h s l/\gJ m/\xs.length+22*l.length+100<=140737488355328/\K (.lst 5 1 (xs++bC (hX l))) m h
def ckZ:Vc.Spec:=λc m h K=>∃xs v,c=[.lst 5 1 xs,aV v]/\gJ m/\xs.length+v.text.size+500<=140737488355328/\K (.lst 5 1 (xs++bC (zG v))) m h
def ckX:Vc.Spec:=λc m h K=>∃xs o,c=[.lst 5 1 xs,aO o]/\gJ m/\xs.length+o.value.text.size+1000<=140737488355328/\K (.lst 5 1 (xs++bC (CA o))) m h
def cjJ(N:Nat):Vc.Spec:=λc m h K=>∃xs v p,c=[.lst 5 1 xs,aP v]/\dD h p v/\SizeOf.sizeOf p<N/\gJ m/\xs.length+(nF p).length+5000<=140737488355328/\K (.lst 5 1 (xs++bC (nF p))) m h
def ckQ:Vc.Spec:=λc m h K=>∃xs v p,c=[.lst 5 1 xs,aP v]/\dD h p v/\gJ m/\xs.length+(nF p).length+5000<=140737488355328/\K (.lst 5 1 (xs++bC (nF p))) m h
noncomputable def biQ(s:Sl)(m:MH)(h:PH):Ctx:=
 dA [(256,QZ)] [(2,{A:=Nat×List bx,st:=λ⟨i,xs⟩=>bQ 21 23 [(0,.at (.lst 21)),(7,sv s),(8,iv s.len),(9,iv i)] [(21,.lst 5 1 xs)] m h})] [] [(256,[0])] true
abbrev JP(a:List bx)(b:Int)(c:List bx)(d:MH)(e:Nat)(g:Int->Prop):Prop:=∃(x:Int),aA (Kt a b=Kt c x) (gJ d) (aA (fC (iY c 40)) (fC (iY (kU c (nO x)) 1*e)) (jQ (kU c (nO x))/\g x))
noncomputable abbrev JO(a:List bx)(b:Int):List bx:=eN (kU a (nO b)) (oK (Bn 32))
attribute [push_cast] JP JO
def Sc(xs:List bx)(s:Sl)(m:MH)(h:PH)(K:bz):Prop:=
  ∃(I:Nat×List bx->Prop)(d:Nat×List bx->Nat),(∃(x:Nat×List bx),aA (I x) (eL 21) (aA (aI s) (bI s) (aA (bB x.1) (Option.some (Own.lst 5 1 xs)=Option.some (Own.lst 5 1 x.2)) (aA (m=m) (h=h) True))))/\∀(x:Nat×List bx),I x->aZ (↑x.1:Int) (aH s) (bJ (λb o=>aA (bM s.a b o) (0<=(↑x.1:Int)) ((↑x.1:Int)<aH s/\∃(y:Int),IH m h b o x.1 1 (bG y) (λe=>JP x.2 y e m 1 (λi=>∃(c:Nat×List bx),aA (I c) (d c<d x) (aA (eL 21) (aI s) (aA (bI s) (bD (fZ (bE x.1 1)) c.1) (aA (Option.some (Own.lst 5 1 (JO e i))=Option.some (Own.lst 5 1 c.2)) (m=m) (bN h h))))))))) (K (CV.lst 5 1 x.2) m h)
abbrev sD(a:PH)(b:Nat)(c:List bx)(d:Sl->PH->(List bx)->Sl->ca->Prop):Prop:=bO a b c (λx e=>∃(f:List bx),CM (λg j=>d x e f g j))
noncomputable abbrev pM(a:List bx)(b:Sl):cz:=cV (CV.lst 5 1 a) (fJ b)
abbrev AH(a:List bx)(b:ca):Prop:=fC (iY a (22*b.length)+100)
abbrev ET(a:List bx)(b:Sl)(c:List bx)(d:Sl)(e:PH)(g:ca)(i:MH)(j:(List bx)->Prop):Prop:=aA (pM a b=pM c d) (Ints e d g) (aA (gJ i) (AH c g) (∃(x:List bx),j x))
attribute [push_cast] sD pM AH ET
def Mg(xs:List bx)(v:VV)(m:MH)(h:PH)(K:bz):Prop:=
  sD h 1 (kP (bG v.kind)) (λs e x n l=>ET xs s x n e l m (λf=>JP (kU x (hX l)) v.int f m 1 (λi=>sD e 1 (kP (bG (↑v.text.size:Int))) (λu g c j d=>aA (pM (JO f i) u=pM c j) (Ints g j d) (aA (gJ m) (AH c d) (aA (oL (kU c (hX d)) (fR v.text) 1) (oF (kU c (hX d)) (fR v.text)) (K (CV.lst 5 1 (kU c (hX d)++fR v.text)) m g)))))))
theorem dN(a b:cu):bC (a++b)=bC a++bC b:=by simp[bC]
theorem Ints.ofRow{s:Sl}(r:cD h s 1 (l.map eI))(c:l.length<=17592186044416):Ints h s l:=⟨r,c⟩
theorem RA{x:Int}(c:l[i]? =some x):hX (l.take (i+1))=hX (l.take i)++nO x++[32]:=by
 rw[take_add_one,c];simp[hX]
theorem YC:bu 255 TI:=by
 refine hU func255 ?_;rintro n m h K ⟨xs,s,l,rfl,f,u,z,A⟩;refine⟨biQ s m h,rfl,aE Fu aG,Sc xs s m h K,bd,?_⟩;dsimp only[Sc,push_cast];have d:=f.slen;refine⟨λ⟨i,g⟩=>i<=l.length/\g=xs++bC (hX (l.take i)),λ⟨i,_⟩=>l.length-i,⟨(0,xs),⟨aD,by simp[hX,bC]⟩,MT⟩,?_⟩;rintro⟨i,g⟩ ⟨D,rfl⟩;dsimp only;refine aF (λc=>?_) (λy=>?_)
 .obtain⟨x,j⟩:=eT d c;obtain⟨b,o,e,r⟩:=f.at' j;have E:=gI (l.take i);have F:=zX x;have G:(l.take i).length=i:=bj
  refine⟨b,o,e,aD,c,x,.imm r,_,x,rfl,u,?_,?_,?_,(i+1,xs++bC (hX (l.take (i+1)))),⟨aD,rfl⟩,aD,?_⟩
  .rw[length_append,aY];omega
  .rw[length_append,length_append,aY,aY];omega
  .rw[length_append,length_append,aY,aY];omega
  .rw[RA j,dN,dN, <-append_assoc, <-append_assoc];exact MT
 grind
theorem Za:bu 192 ckZ:=by
 refine FR func192 ?_;rintro g m h K ⟨xs,v,rfl,c,A,d⟩;refine⟨dA [(255,TI),(256,QZ)] [] [] [(255,[0]),(256,[0])] true,rfl,aE YC (aE Fu aG),Mg xs v m h (lE h K),bd,?_⟩;show Mg xs v m h (lE h K);dsimp only[Mg,push_cast];intro j D e n;have u:=gI [v.kind];have E:=zX v.int;have x:=gI [(v.text.size:Int)];have F:(fR v.text).length=v.text.size:=by simp[fR]
 simp only[length_cons,length_nil]at u x;refine⟨_,j,[v.kind],rfl,.ofRow n bf,c,bj,_,v.int,rfl,c,?_,?_,?_,λy G f z=>⟨_,y,[(v.text.size:Int)],rfl,.ofRow z bf,c,?_,?_,?_,?_⟩⟩
 .rw[length_append,aY];omega
 .simp only[length_append,aY];omega
 .simp only[length_append,aY];omega
 .simp only[length_append,aY,length_cons,length_nil];omega
 .simp only[length_append,aY,length_cons,length_nil];omega
 .simp only[length_append,aY,length_cons,length_nil];omega
 .refine .out (Sub.refl m) (e.trans f) ?_;rw[zG,dN,dN,dN,dN]at d;simp only[append_assoc]at d⊢
  exact d
theorem aYZ(v:VV):v.text.size<=(zG v).length:=by
 have:v.text.data.toList.length=v.text.size:=bf
 simp only[zG,length_append];omega
theorem VI(o:OV):o.value.text.size<=(CA o).length:=by
 have:=aYZ o.value;simp only[CA,length_append];omega
theorem M5{l:cr}{x:Pred}(c:l[i]? =some x):lJ (l.take (i+1))=lJ (l.take i)++nF x:=by
 have key:∀(a:cr),lJ (a++[x])=lJ a++nF x:=by
  intro a
  induction a with
  |nil=>simp[lJ]
  |cons y a d=>simp[lJ,d]
 rw[take_add_one,c];exact key _
theorem Vy{l:cr}:∀(i:Nat),(lJ (l.take i)).length<=(lJ l).length:=by
 induction l with
 |nil=>intro i;simp
 |cons y a c=>
  intro i;cases i with
  |zero=>simp[lJ]
  |succ i=>have:=c i;simp only[take_succ_cons,lJ,length_append];omega
def vP(l:ce):cu:=l.flatMap λp=>hX [p.1,p.2]
def vN(l:cg):cu:=l.flatMap λp=>hX [p.1,if p.2 then 1 else 0]
structure NA(t:Step):Prop where
 wher:(nF t.wher).length<=1000000000
 columns:t.columns.length<=1000000000
 on:t.on.length<=1000000000
 group:t.group.length<=1000000000
 order:t.order.length<=1000000000
theorem VE{l:ce}{x:Int×Int}(c:l[i]? =some x):vP (l.take (i+1))=vP (l.take i)++hX [x.1,x.2]:=by
 rw[take_add_one,c];simp[vP]
theorem MZ{l:cg}{x:Int×Bool}(c:l[i]? =some x):vN (l.take (i+1))=vN (l.take i)++hX [x.1,if x.2 then 1 else 0]:=by
 rw[take_add_one,c];simp[vN]
theorem IA:∀l:ce,(vP l).length<=44*l.length
 |[]=>by simp[vP]
 |n::l=>by
  have:=IA l;have c:=gI [n.1,n.2];unfold vP at this⊢
  grind
theorem OJ:∀l:cg,(vN l).length<=44*l.length
 |[]=>by simp[vN]
 |n::l=>by
  have:=OJ l;have c:=gI [n.1,if n.2 then 1 else 0];unfold vN at this⊢
  grind
def bKQ(N:Nat):Vc.Spec:=λc m h K=>∃v p,c=[aP v]/\dD h p v/\SizeOf.sizeOf p<N/\∀d h',PH.le h h'->dD h' p d->K (aP d) m h'
def agX:Vc.Spec:=λc m h K=>∃v p,c=[aP v]/\dD h p v/\∀d h',PH.le h h'->dD h' p d->K (aP d) m h'
def Oz:Vc.Spec:=λc m h K=>∃s l,c=[cS s]/\Ints h s l/\∀d h',PH.le h h'->Ints h' d l->K (cS d) m h'
def UU:Vc.Spec:=λc m h K=>∃s l,c=[cS s]/\iF h s l/\∀d h',PH.le h h'->iF h' d l->K (cS d) m h'
def aAQ:Vc.Spec:=λc m h K=>∃s l,c=[cS s]/\jT h s l/\∀d h',PH.le h h'->jT h' d l->K (cS d) m h'
def ZP(n c:Nat)(m:MH)(h:PH)(K:bz):Prop:=
  K j8 m h
theorem btJ(n c:Nat)(m:MH)(h:PH)(K:bz):ZP n c m h K=(uM (dA [] [] [] [] false) Tryz.f136 (bW Tryz.f136) (entry Tryz.f136.ntmps [.val (.slice none n c)] m h) K):=bd
def ZO(a:Addr)(n c:Nat)(m:MH)(h:PH)(K:bz):Prop:=
  ∃(y:List bx),j6 1 y (cD h (Sl.mk (Option.some a) n c) 1 y) (EW 0 y 8) (fC (0+y.length)) (bO h 1 (Fj y) (λs d=>K (fJ s) m d))
theorem btZ(a:Addr)(n c:Nat)(m:MH)(h:PH)(K:bz):ZO a n c m h K=(uM (dA [] [] [] [] false) Tryz.f136 (bW Tryz.f136) (entry Tryz.f136.ntmps [.val (.slice (some a) n c)] m h) K):=bd
def ZN(n c:Nat)(m:MH)(h:PH)(K:bz):Prop:=
  K j8 m h
theorem btX(n c:Nat)(m:MH)(h:PH)(K:bz):ZN n c m h K=(uM (dA [] [] [] [] false) Tryz.f137 (bW Tryz.f137) (entry Tryz.f137.ntmps [.val (.slice none n c)] m h) K):=bd
def ZM(a:Addr)(n c:Nat)(m:MH)(h:PH)(K:bz):Prop:=
  ∃(y:List bx),j6 2 y (cD h (Sl.mk (Option.some a) n c) 2 y) (EW 0 y 16) (fC (0+y.length)) (bO h 2 (Fj y) (λs d=>K (fJ s) m d))
theorem btQ(a:Addr)(n c:Nat)(m:MH)(h:PH)(K:bz):ZM a n c m h K=(uM (dA [] [] [] [] false) Tryz.f137 (bW Tryz.f137) (entry Tryz.f137.ntmps [.val (.slice (some a) n c)] m h) K):=bd
def ZJ(n c:Nat)(m:MH)(h:PH)(K:bz):Prop:=
  K j8 m h
theorem bsX(n c:Nat)(m:MH)(h:PH)(K:bz):ZJ n c m h K=(uM (dA [] [] [] [] false) Tryz.f141 (bW Tryz.f141) (entry Tryz.f141.ntmps [.val (.slice none n c)] m h) K):=bd
def ZI(a:Addr)(n c:Nat)(m:MH)(h:PH)(K:bz):Prop:=
  ∃(y:List bx),j6 2 y (cD h (Sl.mk (Option.some a) n c) 2 y) (EW 0 y 16) (fC (0+y.length)) (bO h 2 (Fj y) (λs d=>K (fJ s) m d))
theorem bsQ(a:Addr)(n c:Nat)(m:MH)(h:PH)(K:bz):ZI a n c m h K=(uM (dA [] [] [] [] false) Tryz.f141 (bW Tryz.f141) (entry Tryz.f141.ntmps [.val (.slice (some a) n c)] m h) K):=bd
theorem IU:bu 136 Oz:=by
 refine dU (fn:=Tryz.f136) (c:=bW Tryz.f136) func136 rfl bg ?_;rintro x m h K ⟨⟨a,n,c⟩,l,rfl,g,u⟩;refine⟨dA [] [] [] [] false,rfl,aG,?_⟩;have d:=g.len;cases a with
 |none=>
  have e:=OR g.row;subst e;show uM _ _ _ (entry Tryz.f136.ntmps [.val (.slice none n c)] m h) K;rw[<-btJ n c m h K];exact u ⟨none,0,0⟩ h (.refl _) ⟨.nil _ _,bf⟩
 |some a=>
  show uM _ _ _ (entry Tryz.f136.ntmps [.val (.slice (some a) n c)] m h) K;rw[<-btZ a n c m h K];exact⟨_,mW l,g.row,bj,bj,λy h' j f=>u y h' j ⟨f,d⟩⟩
theorem Qa:bu 137 UU:=by
 refine dU (fn:=Tryz.f137) (c:=bW Tryz.f137) func137 rfl bg ?_;rintro x m h K ⟨⟨a,n,c⟩,l,rfl,g,u⟩;refine⟨dA [] [] [] [] false,rfl,aG,?_⟩;have d:=g.len;cases a with
 |none=>
  have e:=OR g.row;subst e;show uM _ _ _ (entry Tryz.f137.ntmps [.val (.slice none n c)] m h) K;rw[<-btX n c m h K];exact u ⟨none,0,0⟩ h (.refl _) ⟨.nil _ _,bf⟩
 |some a=>
  show uM _ _ _ (entry Tryz.f137.ntmps [.val (.slice (some a) n c)] m h) K;rw[<-btQ a n c m h K];exact⟨_,BA l,g.row,bj,bj,λy h' j f=>u y h' j ⟨f,d⟩⟩
theorem ZK:bu 141 aAQ:=by
 refine dU (fn:=Tryz.f141) (c:=bW Tryz.f141) func141 rfl bg ?_;rintro x m h K ⟨⟨a,n,c⟩,l,rfl,g,u⟩;refine⟨dA [] [] [] [] false,rfl,aG,?_⟩;have d:=g.len;cases a with
 |none=>
  have e:=OR g.row;subst e;show uM _ _ _ (entry Tryz.f141.ntmps [.val (.slice none n c)] m h) K;rw[<-bsX n c m h K];exact u ⟨none,0,0⟩ h (.refl _) ⟨.nil _ _,bf⟩
 |some a=>
  show uM _ _ _ (entry Tryz.f141.ntmps [.val (.slice (some a) n c)] m h) K;rw[<-bsQ a n c m h K];exact⟨_,Bz l,g.row,bj,bj,λy h' j f=>u y h' j ⟨f,d⟩⟩
def stepB(t:Step):cu:=hX [t.op,t.table,t.limit,t.left,t.right]++nF t.wher++hX [(t.columns.length:Int)]++hX t.columns++hX [(t.on.length:Int)]++vP t.on++hX [(t.group.length:Int)]++hX t.group++hX [(t.order.length:Int)]++vN t.order
def cjZ:Vc.Spec:=λc m h K=>∃xs v t,c=[.lst 5 1 xs,aT v]/\uB h t v/\NA t/\gJ m/\xs.length<=1000/\K (.lst 5 1 (xs++bC (stepB t))) m h
noncomputable def bkX(s:Sl)(m:MH)(h:PH):Ctx:=
 dA [(256,QZ)] [(2,{A:=Nat×List bx,st:=λ⟨i,xs⟩=>bQ 21 23 [(0,.at (.lst 21)),(7,sv s),(8,iv s.len),(9,iv i)] [(21,.lst 5 1 xs)] m h})] [] [(256,[0])] true
noncomputable def bkQ(N:Nat)(v:PV)(m:MH):Ctx:=
 dA [(213,TI),(263,ckX),(214,cjJ N)] [(6,{A:=Nat×List bx×PH,st:=λ⟨i,xs,h⟩=>bQ 40 42 [(0,.at (.lst 40)),(29,sv v.args),(30,iv v.args.len),(31,iv i)] [(40,.lst 5 1 xs)] m h})] [] [(213,[0]),(263,[0]),(214,[0])] true
noncomputable def buQ(N:Nat)(v:PV)(m:MH):Ctx:=
 dA [(135,bKQ N)] [(4,{A:=Nat×dg×PH,st:=λ⟨i,c,h⟩=>bQ 24 25 [(1,.at (.ptr 1 0)),(2,.at (.ptr 2 0)),(9,sv v.args),(10,iv v.args.len),(11,iv i)] [(1,.cells 32 ((v.enc.take 12).map .val++[.lst 20])),(2,.cells 32 (fT.enc.map .val)),(20,.lst 32 13 (c.map PV.enc))] m h})] [] [] false
noncomputable def bsZ(v:vY)(m:MH):Ctx:=
 dA [(213,TI),(214,ckQ)] [(7,{A:=Nat×List bx×PH,st:=λ⟨i,xs,h⟩=>bQ 91 93 [(0,.at (.lst 91)),(3,.at (.ptr 3 0)),(44,sv v.on),(45,iv v.on.len),(46,iv i)] [(3,.cells 123 (v.enc.map .val)),(91,.lst 5 1 xs)] m h}),
  (15,{A:=Nat×List bx×PH,st:=λ⟨i,xs,h⟩=>bQ 91 93 [(0,.at (.lst 91)),(75,sv v.order),(76,iv v.order.len),(77,iv i)] [(91,.lst 5 1 xs)] m h})] [] [(213,[0]),(214,[0])] true
def Sm(xs:List bx)(s:Sl)(m:MH)(h:PH)(K:bz):Prop:=
  ∃(I:Nat×List bx->Prop)(d:Nat×List bx->Nat),(∃(x:Nat×List bx),aA (I x) (eL 21) (aA (aI s) (bI s) (aA (bB x.1) (Option.some (Own.lst 5 1 xs)=Option.some (Own.lst 5 1 x.2)) (aA (m=m) (h=h) True))))/\∀(x:Nat×List bx),I x->aZ (↑x.1:Int) (aH s) (bJ (λb o=>aA (bM s.a b o) (0<=(↑x.1:Int)) ((↑x.1:Int)<aH s/\∃(y:Int),IH m h b o x.1 1 (bG y) (λe=>JP x.2 y e m 1 (λi=>∃(c:Nat×List bx),aA (I c) (d c<d x) (aA (eL 21) (aI s) (aA (bI s) (bD (fZ (bE x.1 1)) c.1) (aA (Option.some (Own.lst 5 1 (JO e i))=Option.some (Own.lst 5 1 c.2)) (m=m) (bN h h))))))))) (K (CV.lst 5 1 x.2) m h)
noncomputable abbrev uY(a:List bx)(b:CV):cz:=cV (CV.lst 5 1 a) b
abbrev N2(a:cz)(b:List bx)(c:Sl)(d:PH)(e:ca)(g:MH)(i:(Nat×List bx×PH->Prop)->(Nat×List bx×PH)->Prop)(j:(Nat×List bx×PH->Prop)->(Nat×List bx×PH->Nat)->(Nat×List bx×PH)->Prop):Prop:=aA (a=pM b c) (Ints d c e) (aA (gJ g) (AH b e) (∃(x:Nat×List bx×PH->Prop)(n:Nat×List bx×PH->Nat),(∃(f:Nat×List bx×PH),i x f)/\∀(f:Nat×List bx×PH),j x n f))
abbrev Ey(a:List bx)(b:ca)(c:Nat×List bx×PH):Prop:=Option.some (Own.lst 5 1 (kU a (hX b)))=Option.some (Own.lst 5 1 c.2.1)
noncomputable abbrev rP(a:Nat×List bx×PH):Nat->Nat->Option Value:=a.2.2
attribute [push_cast] uY N2 Ey rP
def Mf(N:Nat)(xs:List bx)(v:PV)(m:MH)(h:PH)(K:bz):Prop:=
  sD h 1 (j4 (bG v.op) (bG v.cmp)) (λs n x G l=>ET xs s x G n l m (λe=>∃(o:OV),aA (uY (kU x (hX l)) (kT v.left)=uY e (kT o)) (gJ m) (fC (iY e (JH o).size+1000)/\∃(f:List bx)(g:OV),aA (uY (kU e (CA o)) (kT v.right)=uY f (kT g)) (gJ m) (fC (iY f (JH g).size+1000)/\sD n 1 (kP (bG (nI v))) (λH u z J A=>N2 (pM (kU f (CA g)) H) z J u A m (λI c=>aA (I c) (eL 40) (aA (aI v.args) (vQ v) (aA (bB c.1) (Ey z A c) (aA (m=m) (u=rP c) True)))) (λI D c=>I c->aZ (↑c.1:Int) (aH v.args) (bJ (λb E=>aA (bM v.args.a b E) (0<=(↑c.1:Int)) ((↑c.1:Int)<aH v.args/\∃(y:PV),IH m (rP c) b E c.1 13 y.enc (λj
 =>pV (λF p=>aA (uY c.2.1 (cQ y)=uY j (cQ F)) (dD (rP c) p F) (aA (pS p N) (gJ m) (fC (iY j (nF p).length+5000)/\∃(d:Nat×List bx×PH),aA (I d) (D d<D c) (aA (eL 40) (aI v.args) (aA (vQ v) (bD (fZ (bE c.1 1)) d.1) (aA (Option.some (Own.lst 5 1 (kU j (nF p)))=Option.some (Own.lst 5 1 d.2.1)) (m=m) (bN (rP c) (rP d)))))))))))) (K (CV.lst 5 1 c.2.1) m (rP c))))))))
noncomputable abbrev Hy(a:Nat×dg×PH):List bx:=List.map PV.enc a.2.1
attribute [push_cast] Hy
def S9(N:Nat)(v:PV)(m:MH)(h:PH)(K:bz):Prop:=
  ∃(I:Nat×dg×PH->Prop)(e:Nat×dg×PH->Nat),(∃(x:Nat×dg×PH),aA (I x) eM (aA dQ (aI v.args) (aA (vQ v) (bB x.1) (aA (eQ (oQ 32 (cO (gC v.op) (gC v.cmp) (cO (gC v.left.kind) (tJ v.left) (cO (tE v.left) (gC (xP v.left)) (cO (tF v.left) (gC v.right.kind) (cO (tJ v.right) (tE v.right) (cO (gC (xP v.right)) (tF v.right) (oD (At.lst 20)))))))))) mN (bP (qZ 32 13 (Hy x)) (m=m) (h=x.2.2))))))/\∀(x:Nat×dg×PH),I x->aZ (↑x.1:Int) (aH v.args) (bJ (λb o=>aA (bM v.args.a b o) (0<=(↑x.1:Int)) ((↑x.1:Int)<aH v.args/\∃(y:PV),aU m x.2.2 b (bK o x.1 13) y.enc/\pV (λf p=>aA (oB (cQ y)=oB (cQ f)) (dD x.2.2 p f) (pS p N/\Eo (λg c=>cC x.2.2 c (dD c p g) (nG
 (Hy x) 136 (∃(d:Nat×dg×PH),aA (I d) (e d<e x) (aA eM dQ (aA (aI v.args) (bI v.args) (aA (bD (fZ (bE x.1 1)) d.1) (eQ (oQ 32 (cO (gC v.op) (gC v.cmp) (cO (gC v.left.kind) (tJ v.left) (cO (tE v.left) (gC (xP v.left)) (cO (tF v.left) (gC v.right.kind) (cO (tJ v.right) (tE v.right) (cO (gC (xP v.right)) (tF v.right) (oD (At.lst 20)))))))))) (tI mN (Option.some (Own.lst 32 13 (eN (Hy x) g.enc))=Option.some (Own.lst 32 13 (Hy d))) (m=m) c d.2.2)))))))))))) (bO x.2.2 13 (Hy x) (λs c=>K (lS (aM (eF v.op) (eF v.cmp) (aM (sW v) (sX v) (aM (j7 v.left) (rU v) (aM (rV v) (rW v) (aM (tA v) (tB v) (aM (tC v) (tD v) (bA s)))))))) m c))
def Mb(xs:List bx)(o:OV)(m:MH)(h:PH)(K:bz):Prop:=
  sD h 1 (oK (kA o)::j4 (oK (qX o)) (bG (AY o))) (λs e x n l=>ET xs s x n e l m (λf=>JP (kU x (hX l)) (xP o) f m 1 (λi=>sD e 1 (kP (bG (↑(JH o).size:Int))) (λu g c j d=>aA (pM (JO f i) u=pM c j) (Ints g j d) (aA (gJ m) (AH c d) (aA (oL (kU c (hX d)) (fR (JH o)) 1) (oF (kU c (hX d)) (fR (JH o))) (K (CV.lst 5 1 (kU c (hX d)++fR (JH o))) m g)))))))
abbrev mA(a:vY):Prop:=eQ (nL 123 a.enc)
attribute [push_cast] mA
def Mo(xs:List bx)(v:vY)(m:MH)(h:PH)(K:bz):Prop:=
  sD h 1 (bG v.op::bG v.table::bG v.limit::j4 (bG v.left) (bG v.right)) (λs G x s1 l=>ET xs s x s1 G l m (λH=>pV (λR p=>aA (uY (kU x (hX l)) (cQ v.where_)=uY H (cQ R)) (dD G p R) (aA (gJ m) (fC (iY H (nF p).length+5000)) (sD G 1 (kP (bG (aH v.columns))) (λs2 J S s3 T=>ET (kU H (nF p)) s2 S s3 J T m (λL=>CM (λU M=>aA (pM (kU S (hX T)) v.columns=pM L U) (Ints J U M) (aA (gJ m) (AH L M) (sD J 1 (kP (bG (aH v.on))) (λs5 V W s6 X=>N2 (pM (kU L (hX M)) s5) W s6 V X m (λI d=>aA (I d) (eL 91) (aA bV (aI v.on) (aA (bI v.on) (bB d.1) (aA (mA v) (Ey W X d) (aA (m=m) (V=rP d) True))))) (λI Y d=>I
 d->aZ (↑d.1:Int) (aH v.on) (bJ (λb o=>aA (bM v.on.a b o) (0<=(↑d.1:Int)) ((↑d.1:Int)<aH v.on/\∃(y:Int×Int),aA (aU m (rP d) b (bK o d.1 2) (pB y)) (bZ 0) (aA ((0:Int)<2) (bZ 1) ((1:Int)<2/\sD (rP d) 1 (j4 (bG y.1) (bG y.2)) (λO n u E z=>aA (pM d.2.1 O=pM u E) (Ints n E z) (aA (gJ m) (AH u z) (∃(f:Nat×List bx×PH),aA (I f) (Y f<Y d) (aA (eL 91) bV (aA (aI v.on) (bI v.on) (aA (bD (fZ (bE d.1 1)) f.1) (mA v) (bP (Ey u z f) (m=m) (n=rP f))))))))))))) (sD (rP d) 1 (kP (bG (aH v.group))) (λO n u E z=>ET d.2.1 O u E n z m (λf=>CM (λZ P=>aA (pM (kU u (hX z)) v.group=pM f Z) (Ints n Z P) (aA
 (gJ m) (AH f P) (sD n 1 (kP (bG (aH v.order))) (λa h5 x8 a1 l6=>N2 (pM (kU f (hX P)) a) x8 a1 h5 l6 m (λI1 c=>aA (I1 c) (eL 91) (aA (aI v.order) (bI v.order) (aA (bB c.1) (Ey x8 l6 c) (aA (m=m) (h5=rP c) True)))) (λI1 F c=>I1 c->aZ (↑c.1:Int) (aH v.order) (bJ (λb o=>aA (bM v.order.a b o) (0<=(↑c.1:Int)) ((↑c.1:Int)<aH v.order/\∃(y:Int×Bool),aU m (rP c) b (bK o c.1 2) (tS y)/\branch y.2 (sD (rP c) 1 (j4 (bG y.1) (bG 1)) (λQ A g D j=>aA (pM c.2.1 Q=pM g D) (Ints A D j) (aA (gJ m) (AH g j) (∃(e:Nat×List bx×PH),aA (I1 e) (F e<F c) (aA (eL 91) (aI v.order) (aA (bI v.order) (bD (fZ (bE c.1 1)) e.1) (aA (Ey g j e) (m=m)
 (bN A (rP e))))))))) (sD (rP c) 1 (j4 (bG y.1) BM) (λQ A g D j=>aA (pM c.2.1 Q=pM g D) (Ints A D j) (aA (gJ m) (AH g j) (∃(e:Nat×List bx×PH),aA (I1 e) (F e<F c) (aA (eL 91) (aI v.order) (aA (bI v.order) (bD (fZ (bE c.1 1)) e.1) (aA (Ey g j e) (m=m) (bN A (rP e)))))))))))) (K (CV.lst 5 1 c.2.1) m (rP c))))))))))))))))))))))
theorem IP:bu 213 TI:=by
 refine hU func213 ?_;rintro n m h K ⟨xs,s,l,rfl,f,u,z,A⟩;refine⟨bkX s m h,rfl,aE Fu aG,Sm xs s m h K,bd,?_⟩;dsimp only[Sm,push_cast];have d:=f.slen;refine⟨λ⟨i,g⟩=>i<=l.length/\g=xs++bC (hX (l.take i)),λ⟨i,_⟩=>l.length-i,⟨(0,xs),⟨aD,by simp[hX,bC]⟩,MT⟩,?_⟩;rintro⟨i,g⟩ ⟨D,rfl⟩;dsimp only;refine aF (λc=>?_) (λy=>?_)
 .obtain⟨x,j⟩:=eT d c;obtain⟨b,o,e,r⟩:=f.at' j;have E:=gI (l.take i);have F:=zX x;have G:(l.take i).length=i:=bj
  refine⟨b,o,e,aD,c,x,.imm r,_,x,rfl,u,?_,?_,?_,(i+1,xs++bC (hX (l.take (i+1)))),⟨aD,rfl⟩,aD,?_⟩
  .rw[length_append,aY];omega
  .rw[length_append,length_append,aY,aY];omega
  .rw[length_append,length_append,aY,aY];omega
  .rw[RA j,dN,dN, <-append_assoc, <-append_assoc];exact MT
 grind
theorem aFX(o:OV):CA o=hX [o.kind,o.index,o.value.kind]++(nO o.value.int++[32])++hX [(o.value.text.size:Int)]++o.value.text.data.toList:=by
 simp[CA,zG,hX]
theorem Yz:bu 263 ckX:=by
 refine FR func263 ?_;rintro g m h K ⟨xs,o,rfl,c,A,d⟩;refine⟨dA [(213,TI),(256,QZ)] [] [] [(213,[0]),(256,[0])] true,rfl,aE IP (aE Fu aG),Mb xs o m h (lE h K),bd,?_⟩;show Mb xs o m h (lE h K);dsimp only[Mb,push_cast];intro j D e n;have u:=gI [o.kind,o.index,o.value.kind];have E:=zX o.value.int;have x:=gI [(o.value.text.size:Int)];have F:(fR o.value.text).length=o.value.text.size:=by simp[fR]
 simp only[length_cons,length_nil]at u x;refine⟨_,j,[o.kind,o.index,o.value.kind],rfl,.ofRow n bf,c,bj,_,o.value.int,rfl,c,?_,?_,?_,λy G f z=>⟨_,y,[(o.value.text.size:Int)],rfl,.ofRow z bf,c,?_,?_,?_,?_⟩⟩
 .rw[length_append,aY];omega
 .simp only[length_append,aY];omega
 .simp only[length_append,aY];omega
 .simp only[length_append,aY,length_cons,length_nil];omega
 .simp only[length_append,aY,length_cons,length_nil];omega
 .simp only[length_append,aY,length_cons,length_nil];omega
 .refine .out (Sub.refl m) (e.trans f) ?_;rw[aFX,dN,dN,dN,dN]at d;simp only[append_assoc]at d⊢
  exact d
theorem WK:∀N,bu 214 (cjJ N)
 |0=>by
  refine RN (fn:=Tryz.f214) (c:=bW Tryz.f214) func214 rfl bg ?_;rintro n m h K ⟨xs,v,p,rfl,_,L,_,_,_⟩;omega
 |N+1=>by
  refine FR func214 ?_;rintro n m h K ⟨xs,v,p,rfl,M,L,j,O,I⟩;refine⟨bkQ N v m,rfl,aE IP (aE Yz (aE (WK N) aG)),Mf N xs v m h (lE h K),bd,?_⟩;show Mf N xs v m h (lE h K);dsimp only[Mf,push_cast];have f:=@wX p;obtain⟨op,P,l,r,d⟩:=p;obtain⟨rfl,rfl,rfl,rfl,x⟩:=M.parts;have y:=x.slen;have z:=x.len;simp only[Pred.args]at f;have b1:=VI v.left;have b2:=VI v.right;have Q:=gI [v.op,v.cmp];have R:=gI [(d.length:Int)];simp only[length_cons,length_nil]at Q R;simp only[nF,length_append]at O;intro S h1 A T;refine⟨_,S,[v.op,v.cmp],rfl,.ofRow T bf,j,bj,_,v.left,rfl,j,?_,_,v.right,rfl,j,?_,λU V D W=>⟨_,U,[(v.args.len:Int)],rfl,.ofRow W bf,j,?_,?_⟩⟩
  .simp only[length_append,aY];omega
  .simp only[length_append,aY];omega
  .simp only[length_append,aY,length_cons,length_nil];omega
  rw[y];refine⟨λ⟨i,J,E⟩=>i<=d.length/\PH.le h E/\J=xs++bC (hX [v.op,v.cmp])++bC (CA v.left)++bC (CA v.right)++bC (hX [(d.length:Int)])++bC (lJ (d.take i)),λ⟨i,_,_⟩=>d.length-i,⟨(0,_,V),⟨aD,A.trans D,rfl⟩,?_⟩,?_⟩
  .simp only[take_zero,lJ,bC,map_nil,append_nil];exact MT
  rintro⟨i,J,E⟩ ⟨hi,g,rfl⟩;dsimp only;refine aF (λF=>?_) (λX=>?_)
  .obtain⟨q,G⟩:=eT rfl F;obtain⟨Y,o,u,e,Z,H⟩:=(x.mono g).at G;have b3:=Vy (l:=d) (i+1);rw[M5 G,length_append]at b3;refine⟨Y,o,e,aD,aD,u,.imm Z,_,u,q,rfl,H,?_,j,?_,(i+1,xs++bC (hX [v.op,v.cmp])++bC (CA v.left)++bC (CA v.right)++bC (hX [(d.length:Int)])++bC (lJ (d.take (i+1))),E),⟨aD,g,rfl⟩,aD,?_⟩
   .grind
   .simp only[length_append,aY];omega
   .rw[M5 G,dN, <-append_assoc];exact MT
  .rw[take_of_length_le aD];refine .out (Sub.refl m) g ?_;simp only[nF,dN, <-append_assoc]at I;exact I
theorem Y3:bu 214 ckQ:=gW WK λ_ _ _ _⟨xs,v,p,e,c,d,f,g⟩=>⟨SizeOf.sizeOf p+1,xs,v,p,e,c,aD,d,f,g⟩
theorem WX:∀N,bu 135 (bKQ N)
 |0=>by
  refine dU (fn:=Tryz.f135) (c:=bW Tryz.f135) func135 rfl bg ?_;rintro E m h K ⟨v,p,rfl,_,O,_⟩;omega
 |N+1=>by
  refine hU func135 ?_;rintro E m h K ⟨v,p,rfl,P,O,Q⟩;refine⟨buQ N v m,rfl,aE (WX N) aG,S9 N v m h K,bd,?_⟩;dsimp only[S9,push_cast];have f:=@wX p;obtain⟨op,R,l,r,ps⟩:=p;obtain⟨rfl,rfl,rfl,rfl,F⟩:=P.parts;have S:=F.slen;have y:=F.len;simp only[Pred.args]at f;refine⟨λ⟨i,z,e⟩=>i<=ps.length/\PH.le h e/\z.length=i/\∀(j:Nat) x,(ps.take i)[j]? =some x->∃u,z[j]? =some u/\dD e x u,λ⟨i,_,_⟩=>ps.length-i,⟨(0,[],h),⟨aD,.refl _,rfl,λj x e=>by simp at e⟩,MT⟩,?_⟩;rintro⟨i,z,e⟩ ⟨hi,g,G,n⟩;dsimp only;refine aF (λA=>?_) (λT J h' d D=>Q ⟨v.op,v.cmp,v.left,v.right,J⟩ h' (g.trans d) (dD.mk (v:=⟨v.op,v.cmp,v.left,v.right,J⟩) ⟨⟨z,D,aD,λj x e=>?_⟩,y⟩))
  .obtain⟨q,L⟩:=eT S A;obtain⟨U,V,u,W,X,H⟩:=(F.mono g).at L;refine⟨U,V,W,aD,A,u,.imm X,u,q,rfl,H,?_,λY h' d Z=>⟨bj,bj,(i+1,z++[Y],h'),⟨aD,g.trans d,by simp[G],λj x e=>?_⟩,aD,?_⟩⟩
   .grind
   .rw[take_add_one,L]at e;by_cases hj:j<i
    .rw[getElem?_append_left bj]at e;obtain⟨u',M,I⟩:=n j x e;exact⟨u',bk,I.mono d⟩
    grind
   .rw[map_append];exact MT
  .rw[take_of_length_le aD]at n;obtain⟨u,M,I⟩:=n j x e;exact⟨u,M,I.mono d⟩
theorem Qb:bu 135 agX:=gW WX λ_ _ _ _⟨v,p,e,c,d⟩=>⟨SizeOf.sizeOf p+1,v,p,e,c,aD,d⟩
theorem ZL:bu 140 cjZ:=by
 refine FR func140 ?_;rintro a' m h K ⟨xs,v,t,rfl,f,E,j,y,F⟩;refine⟨bsZ v m,rfl,aE IP (aE Y3 aG),Mo xs v m h (lE h K),bd,?_⟩;show Mo xs v m h (lE h K);dsimp only[Mo,push_cast];have G:=f.on_.slen;have H:=f.order_.slen;have S:=f.columns_.slen;have T:=f.group_.slen;have k1:=E.wher;have k2:=E.columns;have k3:=E.on;have k4:=E.group;have k5:=E.order;have W:=gI [v.op,v.table,v.limit,v.left,v.right];have X:=gI [(v.columns.len:Int)];have n3:=gI t.columns;have Y:=gI [(v.on.len:Int)];have Z:=gI [(v.group.len:Int)];have n6:=gI t.group;have n7:=gI [(v.order.len:Int)];have n8:=IA t.on;simp only[length_cons,length_nil]at W X Y Z n7;simp only[stepB,dN, <-append_assoc]at F;rw[<-f.op_, <-f.table_, <-f.limit_, <-f.left_, <-f.right_, <-S, <-G, <-T, <-H]at F;intro z D d u;refine⟨_,z,[v.op,v.table,v.limit,v.left,v.right],rfl,.ofRow u bf,j,by simp only[length_cons,length_nil];omega,_,v.where_,t.wher,rfl,f.where_.mono d,j,by simp only[length_append,aY];omega,λs2 h2 I r2=>⟨_,s2,[(v.columns.len:Int)],rfl,.ofRow r2 bf,j,by simp only[length_append,aY,length_cons,length_nil];omega,_,v.columns,t.columns,rfl,f.columns_.mono (d.trans I),j,by simp only[length_append,aY];omega,λs3 h3 U r3=>⟨_,s3,[(v.on.len:Int)],rfl,.ofRow r3 bf,j,by simp only[length_append,aY,length_cons,length_nil];omega,?_⟩⟩⟩;generalize hP:xs++bC (hX [v.op,v.table,v.limit,v.left,v.right])++bC (nF t.wher)++bC (hX [(v.columns.len:Int)])++bC (hX t.columns)++bC (hX [(v.on.len:Int)])=P at F⊢
 have lP:P.length<=30000000000:=by rw[<-hP];simp only[length_append,aY];omega
 have J:=(d.trans I).trans U;clear hP u r2 r3 W X n3 Y;refine⟨λ⟨i,L,y⟩=>i<=t.on.length/\PH.le h y/\L=P++bC (vP (t.on.take i)),λ⟨i,_,_⟩=>t.on.length-i,⟨(0,P,h3),⟨aD,J,by simp[vP,bC]⟩,MT⟩,?_⟩;rintro⟨i,L,y⟩ ⟨hi,c,rfl⟩;dsimp only;refine aF (λn=>?_) (λM=>?_)
 .obtain⟨x,g⟩:=eT G n;obtain⟨b,o,e,r⟩:=(f.on_.mono c).at g;have q1:=IA (t.on.take i);have q2:(t.on.take i).length=i:=bj
  refine⟨b,o,e,aD,n,x,.imm r,aD,aD,aD,aD,λz D d u=>⟨_,z,[x.1,x.2],rfl,.ofRow u bf,j,?_,(i+1,P++bC (vP (t.on.take (i+1))),D),⟨aD,c.trans d,rfl⟩,aD,?_⟩⟩
  .simp only[length_append,aY,length_cons,length_nil];omega
  .rw[VE g,dN, <-append_assoc];exact MT
 rw[take_of_length_le aD];intro s4 h4 A r4;refine⟨_,s4,[(v.group.len:Int)],rfl,.ofRow r4 bf,j,by simp only[length_append,aY,length_cons,length_nil];omega,_,v.group,t.group,rfl,f.group_.mono (c.trans A),j,by simp only[length_append,aY];omega,λs5 h5 O r5=>⟨_,s5,[(v.order.len:Int)],rfl,.ofRow r5 bf,j,by simp only[length_append,aY,length_cons,length_nil];omega,?_⟩⟩;generalize hQ:P++bC (vP t.on)++bC (hX [(v.group.len:Int)])++bC (hX t.group)++bC (hX [(v.order.len:Int)])=Q at F⊢
 have lQ:Q.length<=200000000000:=by rw[<-hQ];simp only[length_append,aY];omega
 have R:=(c.trans A).trans O;clear hQ r4 r5 Z n6 n7 n8 c M hi A O;clear i y;refine⟨λ⟨i,L,y⟩=>i<=t.order.length/\PH.le h y/\L=Q++bC (vN (t.order.take i)),λ⟨i,_,_⟩=>t.order.length-i,⟨(0,Q,h5),⟨aD,R,by simp[vN,bC]⟩,MT⟩,?_⟩;rintro⟨i,L,y⟩ ⟨hi,c,rfl⟩;dsimp only;refine aF (λn=>?_) (λM=>?_)
 .obtain⟨x,g⟩:=eT H n;obtain⟨b,o,e,r⟩:=(f.order_.mono c).at g;have q1:=OJ (t.order.take i);have q2:(t.order.take i).length=i:=bj
  refine⟨b,o,e,aD,n,x,.imm r,aC (λV z D d u=>⟨_,z,[x.1,1],rfl,.ofRow u bf,j,?_,(i+1,Q++bC (vN (t.order.take (i+1))),D),⟨aD,c.trans d,rfl⟩,aD,?_⟩) (λV z D d u=>⟨_,z,[x.1,0],rfl,.ofRow u bf,j,?_,(i+1,Q++bC (vN (t.order.take (i+1))),D),⟨aD,c.trans d,rfl⟩,aD,?_⟩)⟩
  .simp only[length_append,aY,length_cons,length_nil];omega
  .rw[MZ g,dN,V, <-append_assoc];exact MT
  .simp only[length_append,aY,length_cons,length_nil];omega
  .rw[MZ g,dN,V, <-append_assoc];exact MT
 rw[take_of_length_le aD];exact .out (Sub.refl m) c F
def z8(q:Query):Prop:=
 match q with
 |.mk op ta w co on gr od li args=>NA ⟨op,ta,w,co,on,gr,od,li,0,0⟩/\∀a∈args,z8 a
 termination_by SizeOf.sizeOf q
def Steps(h:PH)(vs:List vY)(ts:cq):Prop:=vs.length=ts.length/\∀(i:Nat) t,ts[i]? =some t->∃v,vs[i]? =some v/\uB h t v
theorem Vw{op:Int}{w:Pred}{on:ce}{args:ci}:
 z8 (.mk op ta w co on gr od li args)↔NA ⟨op,ta,w,co,on,gr,od,li,0,0⟩/\∀a∈args,z8 a:=by rw[z8.eq_def]
theorem dC.blk{s:Sl}{E:Nat}(h:dC m s E sz xs)(e:s.a=some ⟨b,i,none⟩):∃c,m b=some (.cells c E (0,0)):=by
 rcases h.ex with⟨rfl,_⟩|⟨f,d,c,rfl,g,_⟩
 .cases e
 grind
theorem dC.slen{s:Sl}{E:Nat}(h:dC m s E sz xs):s.len=xs.length:=by
 rcases h.ex with⟨rfl,rfl⟩|⟨e,c,d,rfl,f,_⟩<;>rfl
theorem dC.keep{s:Sl}{E:Nat}(h:dC m s E sz xs)(f:∀b i,s.a=some ⟨b,i,none⟩->m' b=m b):dC m' s E sz xs:=by
 refine⟨h.rows,?_⟩;rcases h.ex with c|⟨b,d,e,rfl,g,j⟩
 .exact .inl c
 grind
def DP(t:Step):ByteArray:=⟨(stepB t).toArray⟩
def bT(t:Step)(ts:cq):cq×Nat:=match ts.findIdx? (λx=>stepB x==stepB t)with
 |some k=>(ts,k)
 |none=>(ts++[t],ts.length)
structure fN(m0 m:MH)(h:PH)(cb mb:Nat)(ts:cq)(rs:ca):Prop where
 sub:Sub m0 m
 cb0:m0 cb=none
 mb0:m0 mb=none
 map_:xS m mb (ts.mapIdx λi t=>(.string (DP t),.int .i64 i))
 nodup:(ts.map stepB).Nodup
 ex:∃s r,m cb=some (.cells #[.slice s.a s.len s.cap,.slice r.a r.len r.cap,.map (some mb)] 132 (0,0))/\(∃vs,dC m s 123 22 (vs.map vY.enc)/\Steps h vs ts)/\dC m r 3 1 (rs.map eI)/\
  (∀b i,s.a=some ⟨b,i,none⟩->m0 b=none)/\(∀b i,r.a=some ⟨b,i,none⟩->m0 b=none)
def TK:Vc.Spec:=λc m h K=>∃v t d cb e ts rs,c=[cP cb,aT v]/\uB h t v/\NA t/\fN d m h cb e ts rs/\gJ d/\ts.length<=100000/\
 ∀m' h',PH.le h h'->fN d m' h' cb e (bT t ts).1 rs->K (cI (bT t ts).2) m' h'
noncomputable def bUZ:Ctx:=sN [(140,cjZ),(135,agX),(136,Oz),(137,UU),(141,aAQ)] [] [] [] [1060] [(140,[0])] false
abbrev Ph(a:vY->Step->Prop):Prop:=∃(x:vY)(c:Step),a x c
noncomputable abbrev oH(a:vY):CV:=lS a.enc
noncomputable abbrev nY(a:Nat):bx:=oK (Value.map (Option.some a))
noncomputable abbrev EU(a:cu):Value:=Value.string (ByteArray.mk (Array.mk a))
abbrev Ks(a:Sl)(b:PH)(c:ce->Prop):Prop:=LJ (λx d=>aA (iT a=iT x) (iF b x d) (c d))
abbrev Ol(a:Sl->cg->Prop):Prop:=∃(x:Sl)(c:cg),a x c
attribute [push_cast] Ph oH nY EU Ks Ol
def Wm(cb:Nat)(v:vY)(m:MH)(h:PH)(K:bz):Prop:=
  ∃(x:List bx),Ph (λH t=>aA (uY [] (oH v)=uY x (oH H)) (uB h t H) (aA (NA t) (gJ m) (mG x.length/\∃(b:cu),kU x (stepB t)=bC b/\∃(y:Nat),aU m h cb 2 (nY y)/\∃(k:List (Value×Int))(O:Value->Prop),aA (xS m y (List.map (fun(p:Value×Int)=>(p.1,eF p.2)) k)) (Fh O) (aA (O (EU b)) (∀(e:Value×Int),List.Mem e k->O e.1) (((∀(e:Value×Int),List.Mem e k->e.1=EU b->False)->pV (λI p=>aA (oB (cQ v.where_)=oB (cQ I)) (dD h p I) (Eo (λc j=>cC h j (dD j p c) (wR v.columns j (λl=>iR (λs n=>cC j n (Ints n s l) (Ks v.on n (λT=>iR (λJ u=>cC n u (iF u J T) (wR v.group u (λU=>iR (λL z=>cC u z (Ints z L U) (Ol
 (λM P=>aA (iT v.order=iT M) (jT z M P) (iR (λQ d=>cC z d (jT d Q P) (∃(f:Sl),aU m d cb 0 (bA f)/\∃(g:Sl),EA (aU m d cb 0 (bA g)) (aU m d cb 0 (bA g)) (λA=>aA (dC m (iA g.a g) 123 22 A) (fC (iY A 1*272)) (jQ A/\lD (λR S=>eD m S (iA g.a g) R 123 22 (eN A (aM (eF v.op) (eF v.table) (aM (eF c.op) (eF c.cmp) (aM (sW c) (sX c) (aM (eF (AY c.left)) (rU c) (aM (rV c) (rW c) (aM (tA c) (tB c) (aM (tC c) (tD c) (aM (fK c.args) (fK s) (aM (fK J) (fK L) (aM (fK Q) (eF v.limit) (Bi v.left v.right))))))))))))->kC S cb (fK R) (λE=>∃(D:Nat),aU E d cb 2 (nY D)/\Kr E D (λO1=>O1 (EU b)) (λF=>F) (λe=>e) (EU b)
 (λF=>∀(G:MH),rM E G D->xS G D (F++DB (EU b) (eF (aH f)))->K (fX (aH f)) G d)))))))))))))))))))))))/\∀(f:Int),List.Mem (EU b,f) k->K (fX f) m h)))))
theorem Xr(h:∀x∈ts,stepB x≠stepB t):bT t ts=(ts++[t],ts.length):=by
 unfold bT
 grind
theorem Xq{x:Step}(c:(ts.map stepB).Nodup)(d:ts[i]? =some x)(e:stepB x=stepB t):bT t ts=(ts,i):=by
 unfold bT;obtain⟨f,n⟩:=List.getElem?_eq_some_iff.1 d
 have:ts.findIdx? (λx=>stepB x==stepB t)=some i:=by
  rw[findIdx?_eq_some_iff_getElem];refine⟨f,bk,λj u=>?_⟩;intro g;have g:stepB ts[j]=stepB t:=bk
  have:=(getElem_inj (h₀:=bj) (h₁:=bk) c (i:=j) (j:=i)).1 bk;omega
 rw[this]
theorem dP(t:Step)(ts:cq):(bT t ts).1.length<=ts.length+1:=by
 unfold bT;grind
theorem fN.mono{m0:MH}{f:Nat}(c:fN m0 m h cb f ts rs)(le:PH.le h h'):fN m0 m h' cb f ts rs:=by
 obtain⟨s,r,d,⟨g,j,n,u⟩,x⟩:=c.ex;exact⟨c.sub,c.cb0,c.mb0,c.map_,c.nodup,s,r,d,⟨g,j,n,λi t e=>let⟨v,d,e2⟩:=u i t e;⟨v,d,e2.mono le⟩⟩,x⟩
theorem VR{ts:cq}{k:Value}{y:Int}(h:(k,y)∈ts.mapIdx λi t=>(Value.string (DP t),(i:Int))):∃(i:Nat)(t:Step),ts[i]? =some t/\k= .string (DP t)/\y=i:=by
 grind
theorem Lp{a b:Step}:Value.string (DP a)=Value.string (DP b)↔stepB a=stepB b:=by
 constructor
 .intro h;have:=congrArg (λv=>match v with|Value.string s=>s.data.toList|_=>[]) h;simpa[DP]using this
 .intro h;unfold DP;rw[h]
theorem DZ:bu 82 TK:=by
 refine hU func82 ?_;rintro b3 m h K ⟨v,t,m0,cb,d,ts,rs,rfl,f,hk,c,ht,hl,hK⟩;refine⟨bUZ,rfl,aE ZL (aE Qb (aE IU (aE Qa (aE ZK aG)))),Wm cb v m h K,bd,?_⟩;dsimp only[Wm,push_cast];obtain⟨s,r,O,⟨vs,V,W,a6⟩,X,b4,a7⟩:=c.ex;have F:=dC.slen V;rw[length_map,W]at F
 have Y:(ts.mapIdx λi t=>(Value.string (DP t),(i:Int))).map (λp=>(p.1,eF p.2))=ts.mapIdx λi t=>(.string (DP t),.int .i64 i):=by
  apply ext_getElem?
  grind
 have a8:∀b i,s.a=some ⟨b,i,none⟩->b≠cb:=λb i e P=>by
  obtain⟨E,G⟩:=dC.blk V e
  grind
 have H:cb≠d:=λe=>by
  obtain⟨es,cl,G,_⟩:=c.map_.ex
  grind
 refine⟨[],v,t,rfl,f,hk,ht.sub c.sub,bf,stepB t,rfl,d,.of_m O rfl,ts.mapIdx λi t=>(.string (DP t),(i:Int)),_,by rw[Y];exact c.map_,Cf,⟨_,rfl⟩,λe Z=>?_,λa9=>⟨v.where_,t.wher,rfl,f.where_,λv1 h1 g r1=>⟨v.columns,t.columns,rfl,f.columns_.mono g,λs2 h2 n r2=>⟨v.on,t.on,rfl,f.on_.mono (g.trans n),λs3 G z r3=>⟨v.group,t.group,rfl,f.group_.mono ((g.trans n).trans z),λs4 h4 A r4=>⟨v.order,t.order,rfl,f.order_.mono (((g.trans n).trans z).trans A),λs5 h5 D r5=>?_⟩⟩⟩⟩⟩,λy hy=>?_⟩
 .obtain⟨i,t',_,I,_⟩:=VR (k:=e.1) (y:=e.2) Z
  grind
 .have J:∀x∈ts,stepB x≠stepB t:=by
   intro x hx e;obtain⟨i,L⟩:=mem_iff_getElem?.1 hx;have b':=(List.getElem?_eq_some_iff.1 L).1;refine a9 (.string (DP x),(i:Int)) ?_ (Lp.2 e);refine mem_mapIdx.2 ⟨i,b',?_⟩
   grind
  rw[Xr J]at hK;have le:PH.le h h5:=(((g.trans n).trans z).trans A).trans D;have b5:uB h5 t ⟨v.op,v.table,v1,s2,s3,s4,s5,v.limit,v.left,v.right⟩:=⟨f.op_,f.table_,r1.mono (((n.trans z).trans A).trans D),r2.mono ((z.trans A).trans D),r3.mono (A.trans D),r4.mono D,r5,f.limit_,f.left_,f.right_⟩
  have Q:aU m h5 cb 0 [.slice s.a s.len s.cap]:=.of_m O rfl;refine⟨s,Q,s,Q,Q,vs.map vY.enc,V,bk,bk,λU m1 R=>?_⟩;have a':m1 cb=some (.cells #[.slice s.a s.len s.cap,.slice r.a r.len r.cap,.map (some d)] 132 (0,0)):=R.other cb _ O (λi e=>a8 cb i e rfl);refine⟨_,_,⟨a'⟩,bf,λm2 S=>?_⟩;have S:iL m1 m2 cb (.cells #[.slice U.a U.len U.cap,.slice r.a r.len r.cap,.map (some d)] 132 (0,0)):=S;obtain⟨es,cl,b0,b1⟩:=c.map_.ex
  have a0:m1 d=some (.map es cl):=R.other d _ b0 (λi e=>by
   obtain⟨E,G⟩:=dC.blk V e
   grind)
  have a1:m2 d=some (.map es cl):=by rw[S.other d (Ne.symm H)];exact a0
  refine⟨d,.of_m S.at_ rfl,ts.mapIdx λi t=>(.string (DP t),.int .i64 i),_,⟨es,cl,a1,b1⟩,Cf,⟨_,rfl⟩,λe Z=>?_,λe Z P=>?_,λm3 T a2=>?_⟩
  .obtain⟨i,L,I⟩:=mem_mapIdx.1 Z
   grind
  .obtain⟨i,L,I⟩:=mem_mapIdx.1 Z;rw[<-I]at P;exact J ts[i] (getElem_mem L) (Lp.1 P)
  .rw[F]at a2⊢
   have a3:∀b i,U.a=some ⟨b,i,none⟩->b≠cb:=λb i e P=>by
    obtain⟨E,G⟩:=dC.blk R.row e
    grind
   have a4:∀b i,U.a=some ⟨b,i,none⟩->b≠d:=λb i e P=>by
    obtain⟨E,G⟩:=dC.blk R.row e
    grind
   have a5:∀b o,m b=some o->b≠cb->b≠d->(∀i,s.a≠some ⟨b,i,none⟩)->m3 b=some o:=λb o e n1 n2 n3=>by
    rw[T.other b n2,S.other b n1];exact R.other b o e n3
   refine hK m3 h5 le ⟨λb o e=>a5 b o (c.sub b o e) (λM=>by rw[M,c.cb0]at e;cases e) (λM=>by rw[M,c.mb0]at e;cases e) (λi M=>bk),c.cb0,c.mb0,?_,?_,U,r,?_,⟨vs++[⟨v.op,v.table,v1,s2,s3,s4,s5,v.limit,v.left,v.right⟩],?_,?_,?_⟩,?_,?_,a7⟩
   .rw[mapIdx_append];simpa[DP]using a2
   .rw[map_append,nodup_append];refine⟨c.nodup,bf,λa ha b hb=>?_⟩
    grind
   .rw[T.other cb H];exact S.at_
   .rw[map_append];refine dC.keep R.row (λb i e=>?_);rw[T.other b (a4 b i e),S.other b (a3 b i e)]
   .simp[W]
   .intro i x hx;by_cases L:i<ts.length
    .rw[getElem?_append_left L]at hx;obtain⟨u,I,P⟩:=a6 i x hx;exact⟨u,bk,P.mono le⟩
    grind
   .refine dC.keep X (λb i e=>?_);obtain⟨E,G⟩:=dC.blk X e;rw[G];refine a5 b _ G (λM=>?_) (λM=>?_) (λj M=>?_)
    .grind
    .grind
    .obtain⟨b2,h4⟩:=dC.blk V M
     grind
   .intro b i e;rcases R.fresh b i e with h1|⟨j,h1⟩
    .cases e0:m0 b with
     |none=>rfl
     |some o=>rw[c.sub b o e0]at h1;cases h1
    grind
 .obtain⟨i,t',L,I,rfl⟩:=VR hy;have I:stepB t=stepB t':=Lp.1 I;rw[Xq c.nodup L I.symm]at hK;exact hK m h (.refl _) c
inductive PN where
 |mk (q:Query) (args:List PN) (rows env:Nat) (width:Int)
abbrev du:=List PN
def PN.q:PN->Query
 |.mk q _ _ _ _=>q
def PN.args:PN->du
 |.mk _ a _ _ _=>a
def PN.rows:PN->Nat
 |.mk _ _ r _ _=>r
def PN.env:PN->Nat
 |.mk _ _ _ e _=>e
def PN.width:PN->Int
 |.mk _ _ _ _ w=>w
mutual
def nR(h:PH):PN->gO->Prop
 |.mk q args r e w,v=>bU h q v.query/\v.rows=(r:Int)/\v.env=(e:Int)/\v.width=w/\args.length<=1000/\∃c:List gO,cD h v.args 25 (c.map gO.enc)/\kV h args c
def kV(h:PH):du->List gO->Prop
 |[],d=>d=[]
 |p::ps,d=>∃v c,d=v::c/\nR h p v/\kV h ps c
end
mutual
theorem nR.mono{h h':PH}(le:PH.le h h'):∀{p:PN}{v:gO},nR h p v->nR h' p v
 |.mk ..,_,⟨c,d,e,f,g,j,n,u⟩=>⟨c.mono le,d,e,f,g,j,n.mono le,kV.mono le u⟩
theorem kV.mono{h h':PH}(le:PH.le h h'):∀{ps:du}{vs:List gO},kV h ps vs->kV h' ps vs
 |[],_,h=>h
 |_::_,_,⟨v,c,d,e,f⟩=>⟨v,c,d,nR.mono le e,kV.mono le f⟩
end
theorem kV.length{h:PH}:∀{ps:du}{vs:List gO},kV h ps vs->vs.length=ps.length
 |[],_,h=>by rw[show _=[]from h];rfl
 |_::_,_,⟨_,_,c,_,d⟩=>by rw[c];simp[kV.length d]
theorem kV.get{h:PH}:∀{ps:du}{vs:List gO},kV h ps vs->∀{i:Nat}{p:PN},ps[i]? =some p->∃v,vs[i]? =some v/\nR h p v
 |[],_,_,i,p,e=>by simp at e
 |p0::ps,_,⟨v,c,rfl,f,d⟩,0,p,e=>bk
 |p0::ps,_,⟨v,c,rfl,f,d⟩,i+1,p,e=>by simp at e;simpa using kV.get d e
theorem kV.snoc{h:PH}{p:PN}{v:gO}(x:nR h p v):∀{ps:du}{vs:List gO},kV h ps vs->kV h (ps++[p]) (vs++[v])
 |[],_,h=>by rw[show _=[]from h];exact⟨v,[],rfl,x,rfl⟩
 |_::_,_,⟨u,c,d,e,f⟩=>⟨u,c++[v],by rw[d];rfl,e,kV.snoc x f⟩
def Bt(op:Int):Bool:=op==7||op==9||op==10
def Ea(s:jE)(op ta:Int)(co:ca)(ps:du):Int:=
 if op=1 then((jR s ta).length:Int)else if op=3 then(co.length:Int)else
 if op=4 then(ps.map PN.width).getD 0 0+(ps.map PN.width).getD 1 0 else(ps.map PN.width).getD 0 0
def zK(op ta:Int)(w:Pred)(co:ca)(on:ce)(gr:ca)(od:cg)(li:Int)(ks:cv):Step:=
 ⟨op,ta,w,co,on,gr,od,li,((ks.getD 0 0:Nat):Int),((ks.getD 1 0:Nat):Int)⟩
def Z9(s:jE)(op ta:Int)(w:Pred)(co:ca)(on:ce)(gr:ca)(od:cg)(li:Int)(args:ci)(ps:du)(ts:cq):PN×cq:=
 let a:=bT (zK op ta w co on gr od li (ps.map PN.rows)) ts
 if Bt op=true then(.mk (.mk op ta w co on gr od li args) ps a.2 ((ps.map PN.env).getD 0 0) (Ea s op ta co ps),a.1)
 else
  let b:=bT (zK op ta w co on gr od li (ps.map PN.env)) a.1
  (.mk (.mk op ta w co on gr od li args) ps a.2 b.2 (Ea s op ta co ps),b.1)
mutual
def eY(s:jE):Query->cq->PN×cq
 |.mk op ta w co on gr od li args,ts=>Z9 s op ta w co on gr od li args (dX s args ts).1 (dX s args ts).2
def dX(s:jE):ci->cq->du×cq
 |[],ts=>([],ts)
 |q::qs,ts=>((eY s q ts).1::(dX s qs (eY s q ts).2).1,(dX s qs (eY s q ts).2).2)
end
def dO(l r:Int)(on:ce):Step:=⟨5,0,eW,[],on,[],[],0,l,r⟩
def cA(l r:Int):Step:=⟨8,0,eW,[],[],[],[],0,l,r⟩
def nE(l:Int)(co:ca):Step:=⟨3,0,eW,co,[],[],[],0,l,0⟩
def OX(l r:Int)(gr:ca)(od:cg)(li:Int):Step:=⟨10,0,eW,[],[],gr,od,li,l,r⟩
def gU(a n:Int):ca:=(List.range n.toNat).map fun(i:Nat)=>a+(i:Int)
def oR(co:ca):ce:=((List.range co.length).filter λi=>decide (co.idxOf (co.getD i 0)=i)).map λi=>(co.getD i 0,(i:Int))
def qL(on:ce):ce:=on.map λp=>(p.2,p.1)
def uD(gr:ca):ce:=gr.map λc=>(c,c)
def AW(a:PN)(d:Int)(gr:ca)(od:cg)(li:Int)(ts:cq):cq×Nat:=
 let x:=bT (dO a.env d (uD gr)) ts
 bT (OX x.2 a.rows gr od li) x.1
def Bg(a n:Int):ce:=(List.range n.toNat).map fun(i:Nat)=>(a+(i:Int),(i:Int))
def fG(p:PN)(d:Int)(ts:cq)(rs:ca):cq×ca:=
 match p with
 |.mk (.mk op _ _ co on gr od li _) args _ _ _=>
  match args with
  |[]=>if op=1 then(ts,rs++[d])else(ts,rs)
  |[a]=>
   if op=2 then fG a d ts rs
   else if op=3 then(let x:=bT (dO a.env d (oR co)) ts;fG a x.2 x.1 rs)
   else if op=9 then(let x:=AW a d gr od li ts;fG a x.2 x.1 rs)
   else(ts,rs)
  |a::b::_=>
   if op=4 then
    let x:=bT (dO d b.rows (Bg a.width b.width)) ts
    let y:=bT (nE x.2 (gU 0 a.width)) x.1
    let z:=fG a y.2 y.1 rs
    let u:=bT (nE d (gU a.width b.width)) z.1
    fG b u.2 u.1 z.2
   else if op=5 then
    let x:=bT (dO d b.rows on) ts
    let z:=fG a x.2 x.1 rs
    let y:=bT (dO b.env d (qL on)) z.1
    fG b y.2 y.1 z.2
   else if op=6 then
    let x:=bT (cA a.env d) ts
    let z:=fG a x.2 x.1 rs
    let y:=bT (cA b.env d) z.1
    fG b y.2 y.1 z.2
   else if op=7\/op=8 then
    let z:=fG a d ts rs
    let x:=bT (cA b.env d) z.1
    let y:=bT (cA x.2 a.rows) x.1
    fG b y.2 y.1 z.2
   else if op=10 then
    let z:=fG a d ts rs
    let x:=AW b d gr od li z.1
    fG b x.2 x.1 z.2
   else(ts,rs)
 termination_by SizeOf.sizeOf p
def aeX:Vc.Spec:=λc m h K=>∃l r:Int,∃o on d cb e ts rs,c=[cP cb,cI l,cI r,cS o]/\iF h o on/\on.length<=1000/\fN d m h cb e ts rs/\gJ d/\ts.length<=100000/\
 ∀m' h',PH.le h h'->fN d m' h' cb e (bT (dO l r on) ts).1 rs->K (cI (bT (dO l r on) ts).2) m' h'
def ayZ:Vc.Spec:=λc m h K=>∃l r:Int,∃d cb e ts rs,c=[cP cb,cI l,cI r]/\fN d m h cb e ts rs/\gJ d/\ts.length<=100000/\
 ∀m' h',PH.le h h'->fN d m' h' cb e (bT (cA l r) ts).1 rs->K (cI (bT (cA l r) ts).2) m' h'
def bDJ:Vc.Spec:=λd m h K=>∃l:Int,∃c co e cb f ts rs,d=[cP cb,cI l,cS c]/\Ints h c co/\co.length<=1000/\fN e m h cb f ts rs/\gJ e/\ts.length<=100000/\
 ∀m' h',PH.le h h'->fN e m' h' cb f (bT (nE l co) ts).1 rs->K (cI (bT (nE l co) ts).2) m' h'
def ceQ:Vc.Spec:=λc m h K=>∃a n:Int,c=[cI a,cI n]/\0<=a/\0<=n/\a<=1000/\n<=1000/\∀s h',PH.le h h'->Ints h' s (gU a n)->K (cS s) m h'
def cdX:Vc.Spec:=λc m h K=>∃s on,c=[cS s]/\iF h s on/\on.length<=1000/\∀s h',PH.le h h'->iF h' s (qL on)->K (cS s) m h'
def bHX:Vc.Spec:=λc m h K=>∃s l x,∃i:Nat,c=[cS s,cI x]/\Ints h s l/\l[i]? =some x/\K (cI (l.idxOf x:Nat)) m h
def bIJ:Vc.Spec:=λc m h K=>∃s co,c=[cS s]/\Ints h s co/\co.length<=1000/\∀s h',PH.le h h'->iF h' s (oR co)->K (cS s) m h'
def aPN(v:gO):CV:=.val (.agg ⟨v.enc⟩)
def bEQ:Vc.Spec:=λc m h K=>∃v p d f op ta w co on gr od li args e cb g ts rs,c=[cP cb,aPN v,cI d,aQ f]/\nR h p v/\bU h (.mk op ta w co on gr od li args) f/\gr.length<=1000/\od.length<=1000/\fN e m h cb g ts rs/\gJ e/\ts.length<=99999/\
 ∀m' h',PH.le h h'->fN e m' h' cb g (AW p d gr od li ts).1 rs->K (cI (AW p d gr od li ts).2) m' h'
noncomputable def brZ(a n:Int)(m:MH)(h:PH):Ctx:=
 dA [] [(3,{A:=Nat×ca,st:=λ⟨i,l⟩=>bQ 19 21 [(0,iv a),(5,.at (.lst 16)),(7,iv n),(8,iv i)] [(16,.lst 3 1 (l.map eI))] m h})] [] [] false
noncomputable def brX(s:Sl)(m:MH)(h:PH):Ctx:=
 dA [] [(3,{A:=Nat×ce,st:=λ⟨i,l⟩=>bQ 22 23 [(3,.at (.lst 19)),(6,sv s),(7,iv s.len),(8,iv i)] [(19,.lst 101 2 (l.map kX))] m h})] [] [] false
noncomputable def bjJ(s:Sl)(x:Int)(m:MH)(h:PH):Ctx:=
 dA [] [(2,{A:=Nat,st:=λi=>bQ 19 21 [(0,sv s),(1,iv x),(7,iv s.len),(8,iv i)] [] m h})] [] [] false
noncomputable def brJ(s:Sl)(m:MH)(h:PH):Ctx:=
 dA [(215,bHX)] [(3,{A:=Nat×ce,st:=λ⟨i,l⟩=>bQ 26 27 [(0,sv s),(3,.at (.lst 23)),(6,sv s),(7,iv s.len),(8,iv i)] [(23,.lst 101 2 (l.map kX))] m h})] [] [] false
noncomputable def brQ(v:gO)(c:QV)(cb:Nat)(d:Int)(m:MH)(h:PH):Ctx:=
 dA [(142,aeX),(82,TK)] [(3,{A:=Nat×ce,st:=λ⟨i,l⟩=>bQ 43 47 [(0,pv cb),(2,iv d),(5,.at (.ptr 5 0)),(7,.at (.ptr 7 0)),(9,.at (.lst 24)),(13,sv c.group),(14,iv c.group.len),(15,iv i)] [(5,.cells 136 (v.enc.map .val)),(7,.cells 38 (c.enc.map .val)),(24,.lst 101 2 (l.map kX))] m h})] [] [] false
abbrev IJ(a:Nat->Nat->cq->ca->Prop):Prop:=bJ (λx c=>∃(d:cq)(e:ca),a x c d e)
abbrev Ky(a:cz)(b:Nat->cz)(c d:Prop)(e:Nat->Option Obj)(g:PH)(i:MH->Nat->Nat->cq->ca->Prop):Prop:=∃(x:MH),IJ (λf n j u=>aA (a=b f) c (aA d (fN x e g f n j u) (aA (gJ x) (j.length<=100000) (i x f n j u))))
abbrev EE(a:cz)(b:PH)(c:Nat->Option Obj)(d:Step->cq->MH->PH->Prop):Prop:=Ph (λx e=>Ky a (λf=>cV (iD f) (oH x)) (uB b e x) (NA e) c b (λf u y j z=>gA (λn g=>cC b g (fN f n g u y (bT e j).1 z) (d e j n g))))
noncomputable abbrev C0(a:Step)(b:cq):Int:=(↑(bT a b).2:Int)
attribute [push_cast] IJ Ky EE C0
def S7(cb:Nat)(l r:Int)(o:Sl)(m:MH)(h:PH)(K:bz):Prop:=
  EE (cV (iD cb) (lS (vR (eF 5) dE lF (fK o) lF lF dE (Bi l r)))) h m (λt c d e=>K (fX (C0 t c)) d e)
def SZ(cb:Nat)(l r:Int)(m:MH)(h:PH)(K:bz):Prop:=
  EE (cV (iD cb) (lS (vR (eF 8) dE lF lF lF lF dE (Bi l r)))) h m (λt c d e=>K (fX (C0 t c)) d e)
noncomputable abbrev Ke(a:Int)(b:Sl)(c:bx):bx:=vR (eF a) dE (fK b) lF lF lF dE c
attribute [push_cast] Ke
def S5(cb:Nat)(l:Int)(c:Sl)(m:MH)(h:PH)(K:bz):Prop:=
  EE (cV (iD cb) (lS (Ke 3 c (jK (eF l) dE)))) h m (λt d e f=>K (fX (C0 t d)) e f)
def Mn(a n:Int)(m:MH)(h:PH)(K:bz):Prop:=
  Kf (λI x=>aA (I x) (gY a) (aA (eL 16) (gY n) (aA (bB x.1) (tL (qG x)) (aA (m=m) (h=h) True)))) (λI d x=>I x->aZ (↑x.1:Int) n (nG (qG x) 8 (∃(c:Nat×ca),aA (I c) (d c<d x) (aA (gY a) (eL 16) (aA (gY n) (bD (fZ (bE x.1 1)) c.1) (aA (jV (eN (qG x) (bG (fH (a+(↑x.1:Int))))) c.2) (m=m) (bN h h)))))) (bO h 1 (cZ x.2) (λs e=>K (fJ s) m e)))
abbrev N3(a:(Nat×ce->Prop)->(Nat×ce)->Prop)(b:(Nat×ce->Prop)->(Nat×ce->Nat)->(Nat×ce)->Prop):Prop:=∃(x:Nat×ce->Prop)(d:Nat×ce->Nat),(∃(c:Nat×ce),a x c)/\∀(c:Nat×ce),b x d c
noncomputable abbrev qT(a:Nat×ce):List bx:=xH a.2
attribute [push_cast] N3 qT
def S4(s:Sl)(m:MH)(h:PH)(K:bz):Prop:=
  N3 (λI x=>aA (I x) (eL 19) (aA (aI s) (bI s) (aA (bB x.1) (qZ 101 2 (qT x)) (aA (m=m) (h=h) True)))) (λI d x=>I x->aZ (↑x.1:Int) (aH s) (bJ (λb o=>aA (bM s.a b o) (0<=(↑x.1:Int)) ((↑x.1:Int)<aH s/\∃(y:Int×Int),aA (aU m h b (bK o x.1 2) (pB y)) (bZ 1) (aA ((1:Int)<2) (bZ 0) (aA ((0:Int)<2) (fC (iY (qT x) 1*16)) (jQ (qT x)/\∃(c:Nat×ce),aA (I c) (d c<d x) (aA (eL 19) (aI s) (aA (bI s) (bD (fZ (bE x.1 1)) c.1) (aA (Option.some (Own.lst 101 2 (eN (qT x) (Bi y.2 y.1)))=Option.some (Own.lst 101 2 (qT c))) (m=m) (bN h h)))))))))) (bO h 2 (qT x) (λe f=>K (fJ e) m f)))
def Me(s:Sl)(x:Int)(m:MH)(h:PH)(K:bz):Prop:=
  G9 (λI c=>aA (I c) (aI s) (aA (gY x) (bI s) (bP (bB c) (m=m) (h=h)))) s m h (λI e c y=>iV (x==y) (K (fX (↑c:Int)) m h) (λd=>aA (I d) (e d<e c) (aA (aI s) (gY x) (aA (bI s) (bD (fZ (bE c 1)) d) (aA (m=m) (h=h) True))))) (K (fX (Int.negSucc 0)) m h)
def S6(s:Sl)(m:MH)(h:PH)(K:bz):Prop:=
  N3 (λI x=>aA (I x) (aI s) (aA (eL 23) (aI s) (aA (bI s) (bB x.1) (aA (qZ 101 2 (qT x)) (m=m) (bN h h))))) (λI d x=>I x->aZ (↑x.1:Int) (aH s) (bJ (λb o=>aA (bM s.a b o) (0<=(↑x.1:Int)) ((↑x.1:Int)<aH s/\∃(y:Int),aU m h b (bK o x.1 1) (bG y)/\CM (λe l=>∃(f:Int)(i:Nat),aA (iO s y=iO e f) (Ints h e l) (l[i]? =Option.some f/\eO (↑(idxOf f l):Int) (↑x.1:Int) (nG (qT x) 16 (∃(c:Nat×ce),aA (I c) (d c<d x) (aA (aI s) (eL 23) (aA (aI s) (bI s) (aA (bD (fZ (bE x.1 1)) c.1) (Option.some (Own.lst 101 2 (eN (qT x) (Bi y (↑x.1:Int))))=Option.some (Own.lst 101 2 (qT c))) (aA (m=m) (h=h) True)))))) (∃(c:Nat×ce),aA (I c) (d c<d x) (aA
 (aI s) (eL 23) (aA (aI s) (bI s) (aA (bD (fZ (bE x.1 1)) c.1) (BE (qT x) (qT c)) (aA (m=m) (h=h) True)))))))))) (bO h 2 (qT x) (λe g=>K (fJ e) m g)))
abbrev G7(a:Nat)(b c:Int)(d:Sl)(e:PH)(g:Nat->Option Obj)(i:Int->Int->ce->MH->Nat->Nat->cq->ca->Prop):Prop:=Gi (λx n=>LJ (λu f=>Ky (cT a (fX b::cV (fX c) (fJ d))) (λj=>cT j (fX x::cV (fX n) (fJ u))) (iF e u f) (mG f.length) g e (λj y z A D=>i x n f j y z A D)))
noncomputable abbrev X5:OV:=OV.mk 0 0 (VV.mk 0 0 (ByteArray.mk (Array.mk [])))
noncomputable abbrev Df:Pred:=Pred.mk 0 0 X5 X5 []
noncomputable abbrev yK(a:ce)(b c:Int):Step:=Step.mk 5 0 Df [] a [] [] 0 b c
attribute [push_cast] G7 X5 Df yK
def SY(cb:Nat)(v:gO)(d:Int)(e:QV)(m:MH)(h:PH)(K:bz):Prop:=
  N3 (λI x=>aA (I x) (cR cb) (aA (gY d) dR (aA (eP 7) (eL 24) (aA (aI e.group) (bI e.group) (aA (bB x.1) (eQ (nL 136 v.enc)) (aA (dM e) (qZ 101 2 (qT x)) (aA (m=m) (h=h) True))))))) (λI j x=>I x->aZ (↑x.1:Int) (aH e.group) (bJ (λb o=>aA (bM e.group.a b o) (0<=(↑x.1:Int)) ((↑x.1:Int)<aH e.group/\∃(y:Int),aA (aU m h b (bK o x.1 1) (bG y)) (fC (iY (qT x) 1*16)) (jQ (qT x)/\∃(f:Nat×ce),aA (I f) (j f<j x) (aA (cR cb) (gY d) (aA dR (eP 7) (aA (eL 24) (aI e.group) (aA (bI e.group) (bD (fZ (bE x.1 1)) f.1) (aA (eQ (nL 136 v.enc)) (dM e) (bP (Option.some (Own.lst 101 2 (eN (qT x) (Bi y y)))=Option.some (Own.lst 101 2 (qT f))) (m=m) (h=h)))))))))))
 (bO h 2 (qT x) (λs n=>G7 cb v.env d s n m (λl r o z c A t D=>gA (λu g=>cC n g (fN z u g c A (bT (yK o l r) t).1 D) (EE (cV (iD cb) (CV.val (Value.agg (Array.mk (vR (eF 10) dE lF lF (Co e) (Cp e) (Bh e) (Bi (C0 (yK o l r) t) v.rows)))))) g u (λE F G H=>K (fX (C0 E F)) G H)))))))
theorem bLJ(h:PH):dD h eW fT:=⟨rfl,rfl,rfl,rfl,bf,[],cD.nil _ _,rfl⟩
theorem Pv(h:PH):Ints h bR []:=⟨cD.nil _ _,bf⟩
theorem cnZ(h:PH):iF h bR []:=⟨cD.nil _ _,bf⟩
theorem cmX(h:PH):jT h bR []:=⟨cD.nil _ _,bf⟩
theorem bMQ:(nF eW).length<=1000000000:=by
 have c:=gI [0,0];have d:=gI [0];have g:=zX 0;have f:CA ⟨0,0,⟨0,0,⟨#[]⟩⟩⟩=hX [0,0]++(hX [0]++(nO 0++[32])++hX [0]++[]):=rfl;have e:nF eW=hX [0,0]++CA ⟨0,0,⟨0,0,⟨#[]⟩⟩⟩++CA ⟨0,0,⟨0,0,⟨#[]⟩⟩⟩++hX [0]++[]:=rfl
 grind
theorem b6J{d:Nat}{l r:Int}{o:Sl}{on:ce}{m0:MH}(e:iF h o on)(n:on.length<=1000)(c:fN m0 m h cb d ts rs)(f:gJ m0)(g:ts.length<=100000)
 (j:∀m' h',PH.le h h'->fN m0 m' h' cb d (bT (dO l r on) ts).1 rs->K (cI (bT (dO l r on) ts).2) m' h'):S7 cb l r o m h K:=
 ⟨⟨5,0,fT,bR,o,bR,bR,0,l,r⟩,dO l r on,m0,cb,d,ts,rs,rfl,⟨rfl,rfl,bLJ h,Pv h,e,Pv h,cmX h,rfl,rfl,rfl⟩,⟨bMQ,by simp[dO],by simp[dO];omega,by simp[dO],by simp[dO]⟩,c,f,g,j⟩
theorem b6Q{d:Nat}{l r:Int}{m0:MH}(c:fN m0 m h cb d ts rs)(e:gJ m0)(f:ts.length<=100000)
 (g:∀m' h',PH.le h h'->fN m0 m' h' cb d (bT (cA l r) ts).1 rs->K (cI (bT (cA l r) ts).2) m' h'):SZ cb l r m h K:=
 ⟨⟨8,0,fT,bR,bR,bR,bR,0,l,r⟩,cA l r,m0,cb,d,ts,rs,rfl,⟨rfl,rfl,bLJ h,Pv h,cnZ h,Pv h,cmX h,rfl,rfl,rfl⟩,⟨bMQ,by simp[cA],by simp[cA],by simp[cA],by simp[cA]⟩,c,e,f,g⟩
theorem b6Z{d:Nat}{l:Int}{s:Sl}{m0:MH}(e:Ints h s co)(n:co.length<=1000)(c:fN m0 m h cb d ts rs)(f:gJ m0)(g:ts.length<=100000)
 (j:∀m' h',PH.le h h'->fN m0 m' h' cb d (bT (nE l co) ts).1 rs->K (cI (bT (nE l co) ts).2) m' h'):S5 cb l s m h K:=
 ⟨⟨3,0,fT,s,bR,bR,bR,0,l,0⟩,nE l co,m0,cb,d,ts,rs,rfl,⟨rfl,rfl,bLJ h,e,cnZ h,Pv h,cmX h,rfl,rfl,rfl⟩,⟨bMQ,by simp[nE];omega,by simp[nE],by simp[nE],by simp[nE]⟩,c,f,g,j⟩
theorem P9:bu 142 aeX:=by
 refine hU func142 ?_;rintro d m h K ⟨l,r,o,on,u,cb,x,ts,rs,rfl,e,f,c,g,j,n⟩;refine⟨dA [(82,TK)] [] [] [] false,rfl,aE DZ aG,S7 cb l r o m h K,bd,?_⟩;exact b6J e f c g j n
theorem ZD:bu 147 ayZ:=by
 refine hU func147 ?_;rintro d m h K ⟨l,r,j,cb,n,ts,rs,rfl,c,e,f,g⟩;refine⟨dA [(82,TK)] [] [] [] false,rfl,aE DZ aG,SZ cb l r m h K,bd,?_⟩;exact b6Q c e f g
theorem ZG:bu 144 bDJ:=by
 refine hU func144 ?_;rintro d m h K ⟨l,s,co,u,cb,x,ts,rs,rfl,e,f,c,g,j,n⟩;refine⟨dA [(82,TK)] [] [] [] false,rfl,aE DZ aG,S5 cb l s m h K,bd,?_⟩;exact b6Z e f c g j n
theorem b6X{a n:Int}(y:0<=a)(z:0<=n)(d:a<=1000)(f:n<=1000)(g:∀s h',PH.le h h'->Ints h' s (gU a n)->K (cS s) m h'):Mn a n m h K:=by
 dsimp only[Mn,push_cast];obtain⟨k,rfl⟩:∃k:Nat,n=k:=⟨n.toNat,aD⟩
 refine⟨λ⟨i,l⟩=>i<=k/\l=gU a (i:Nat),λ⟨i,_⟩=>k-i,⟨(0,[]),⟨aD,rfl⟩,MT⟩,?_⟩;rintro⟨i,l⟩ ⟨A,rfl⟩;dsimp only;have c:(gU a (i:Nat)).length=i:=by simp[gU]
 refine aF (λj=>?_) (λu s h' le x=>?_)
 .refine⟨bk,bk,(i+1,gU a ((i+1:Nat):Int)),⟨aD,rfl⟩,aD,?_⟩
  have e:gU a ((i+1:Nat):Int)=gU a (i:Nat)++[IntKind.i64.wrap (a+(i:Int))]:=by
   rw[eH aD aD];simp[gU,range_succ]
  rw[e,map_append];exact MT
 .have:i=k:=by omega
  subst this;exact g s h' le ⟨x,aD⟩
theorem ZF:bu 145 ceQ:=by
 refine hU func145 ?_;rintro c m h K ⟨a,n,rfl,d,e,f,g,j⟩;refine⟨brZ a n m h,rfl,aG,Mn a n m h K,bd,?_⟩;exact b6X d e f g j
theorem ZE:bu 146 cdX:=by
 refine hU func146 ?_;rintro u m h K ⟨s,on,rfl,f,A,y⟩;refine⟨brX s m h,rfl,aG,S4 s m h K,bd,?_⟩;dsimp only[S4,push_cast];have d:=f.slen;refine⟨λ⟨i,l⟩=>i<=on.length/\l=qL (on.take i),λ⟨i,_⟩=>on.length-i,⟨(0,[]),⟨aD,rfl⟩,MT⟩,?_⟩;rintro⟨i,l⟩ ⟨D,rfl⟩;dsimp only;have g:(qL (on.take i)).length=i:=by simp[qL];omega
 refine aF (λc=>?_) (λz s h' le j=>?_)
 .obtain⟨x,n⟩:=eT d c;obtain⟨b,o,e,r⟩:=f.at n;refine⟨b,o,e,aD,c,x,.imm r,aD,aD,aD,aD,bk,bk,(i+1,qL (on.take (i+1))),⟨aD,rfl⟩,aD,?_⟩;have e:qL (on.take (i+1))=qL (on.take i)++[(x.2,x.1)]:=by rw[take_add_one,n];simp[qL]
  rw[e,map_append];exact MT
 .rw[take_of_length_le aD]at j;exact y s h' le ⟨j,bk⟩
theorem bcQ{x:Int}(d:l[i]? =some x)(c:∀j y,j<i->l[j]? =some y->x≠y):l.idxOf x=i:=by
 induction l generalizing i with
 |nil=>simp at d
 |cons a l e=>
  cases i with
  |zero=>grind
  |succ i=>
   have f:=c 0 a aD rfl
   grind
theorem b4Z{s:Sl}{x:Int}{d:Nat}(g:Ints h s l)(E:l[d]? =some x)(A:K (cI (l.idxOf x:Nat)) m h):Me s x m h K:=by
 dsimp only[Me,push_cast];have n:=g.slen;have F:=g.len;have I:=(List.getElem?_eq_some_iff.1 E).1;refine⟨λi=>i<=d/\∀j y,j<i->l[j]? =some y->x≠y,λi=>d-i,⟨0,⟨aD,λj y G=>by omega⟩,MT⟩,?_⟩;rintro i ⟨J,u⟩;refine aF (λc=>?_) (λH=>by omega);obtain⟨y,D⟩:=eT n c;obtain⟨b,o,e,r⟩:=g.at' D;refine⟨b,o,e,aD,c,y,.imm r,aC (λf=>?_) (λf=>?_)⟩
 .have f:x=y:=bk
  subst f;rw[bcQ D u]at A;exact A
 .have f:x≠y:=bk
  have:i≠d:=λe=>bk
  refine⟨i+1,⟨aD,λj z G L=>?_⟩,bk,MT⟩
  grind
theorem Y2:bu 215 bHX:=by
 refine hU func215 ?_;rintro c m h K ⟨s,l,x,i,rfl,d,e,f⟩;refine⟨bjJ s x m h,rfl,aG,Me s x m h K,bd,?_⟩;exact b4Z d e f
def Fs(co:ca)(i:Nat):ce:=((List.range i).filter λi=>decide (co.idxOf (co.getD i 0)=i)).map λi=>(co.getD i 0,(i:Int))
theorem PB(co:ca)(i:Nat):(Fs co i).length<=i:=by
 have:=length_filter_le (λi=>decide (co.idxOf (co.getD i 0)=i)) (List.range i);simp[Fs]at this⊢;omega
theorem ZH:bu 143 bIJ:=by
 refine hU func143 ?_;rintro u m h K ⟨s,co,rfl,f,D,y⟩;refine⟨brJ s m h,rfl,aE Y2 aG,S6 s m h K,bd,?_⟩;dsimp only[S6,push_cast];have g:=f.slen;refine⟨λ⟨i,l⟩=>i<=co.length/\l=Fs co i,λ⟨i,_⟩=>co.length-i,⟨(0,[]),⟨aD,rfl⟩,MT⟩,?_⟩;rintro⟨i,l⟩ ⟨E,rfl⟩;dsimp only;have n:=PB co i;refine aF (λc=>?_) (λz s h' le A=>?_)
 .obtain⟨x,j⟩:=eT g c;obtain⟨b,o,e,r⟩:=f.at' j;have F:co.getD i 0=x:=by simp[j]
  have step:Fs co (i+1)=Fs co i++(if co.idxOf x=i then[(x,(i:Int))]else[]):=by
   simp only[Fs,range_succ,filter_append,map_append]
   grind
  refine⟨b,o,e,aD,c,x,.imm r,s,co,x,i,rfl,f,j,aC (λd=>⟨bk,bk,(i+1,Fs co (i+1)),⟨aD,rfl⟩,aD,?_⟩) (λd=>⟨(i+1,Fs co (i+1)),⟨aD,rfl⟩,aD,?_⟩)⟩
  .have d:co.idxOf x=i:=bk
   rw[step,if_pos d,map_append];exact MT
  .have d:co.idxOf x≠i:=λe=>bk
   rw[step,if_neg d,append_nil];exact MT
 .have:i=co.length:=by omega
  subst this;exact y s h' le ⟨A,by show(Fs co co.length).length<=_;omega⟩
theorem ZC:bu 148 bEQ:=by
 refine hU func148 ?_;rintro P m h K ⟨v,p,d,g,op,ta,w,co,on,gr,od,li,args,H,cb,I,ts,rs,rfl,Q,R,Y,S,c,J,Z,T⟩;refine⟨brQ v g cb d m h,rfl,aE P9 (aE DZ aG),SY cb v d g m h K,bd,?_⟩;dsimp only[SY,push_cast];have x:=R.parts;have A:=x.group_.slen;refine⟨λ⟨i,l⟩=>i<=gr.length/\l=uD (gr.take i),λ⟨i,_⟩=>gr.length-i,⟨(0,[]),⟨aD,rfl⟩,MT⟩,?_⟩;rintro⟨i,l⟩ ⟨hi,rfl⟩;dsimp only;have L:(uD (gr.take i)).length=i:=by simp[uD];omega
 refine aF (λj=>?_) (λU s h1 n M=>?_)
 .obtain⟨y,O⟩:=eT A j;obtain⟨b,o,e,r⟩:=x.group_.at' O;refine⟨b,o,e,aD,j,y,.imm r,bk,bk,(i+1,uD (gr.take (i+1))),⟨aD,rfl⟩,aD,?_⟩;have e:uD (gr.take (i+1))=uD (gr.take i)++[(y,y)]:=by rw[take_add_one,O];simp[uD]
  rw[e,map_append];exact MT
 .rw[take_of_length_le aD]at M;obtain⟨q,pa,D,z,wd⟩:=p;obtain⟨_,f,u,_⟩:=Q;rw[u,f];have V:(uD gr).length<=1000:=bk
  have hx:=dP (dO (z:Int) d (uD gr)) ts;refine⟨(z:Int),d,s,uD gr,H,cb,I,ts,rs,rfl,⟨M,aD⟩,V,c.mono n,J,aD,λm1 E F W=>?_⟩;have le:=n.trans F;exact⟨⟨10,0,fT,bR,bR,g.group,g.order,g.limit,_,_⟩,OX (bT (dO (z:Int) d (uD gr)) ts).2 D gr od li,H,cb,I,_,rs,rfl,⟨rfl,rfl,bLJ E,Pv E,cnZ E,x.group_.mono le,x.order_.mono le,x.limit_,rfl,rfl⟩,⟨bMQ,by simp[OX],by simp[OX],by simp[OX];omega,by simp[OX];omega⟩,W,J,by show(bT (dO (z:Int) d (uD gr)) ts).1.length<=100000;omega,λm' h' G X=>T m' h' (le.trans G) X⟩
end Go.Ps
