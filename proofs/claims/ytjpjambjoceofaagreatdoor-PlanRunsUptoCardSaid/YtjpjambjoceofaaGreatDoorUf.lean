/- Own work. -/
import Derived.Shelf.SlSorted.Search
import Derived.Shelf.SlSortCmp.NoneTotal
import Derived.Shelf.Small.Strs
import Derived.Shelf.Strconv.Itoa0
import Derived.Shelf.Strconv.Itoa1
import Derived.Shelf.LaysM
import Derived.Shelf.Strconv.Itoa2
import Derived.Shelf.Strconv.AppendUint10
import Derived.Shelf.Strconv.AppendInt10
import Derived.Shelf.Strconv.AppendIntPublic10
import Derived.Test.YtjpjambjoceofaaGreatDoorProg
import Derived.Lib.ItoaLen
import Derived.RangeFuncWrites
import Derived.OrdersIn
import Derived.Test.YtjpjambjoceofaaGreatDoorUe
set_option linter.unusedVariables false
set_option linter.unusedSimpArgs false
namespace Go.Proofs
open Go.Shelf List
def Tryz.lays213_ren:Go.Shelf.Ren:=⟨λ |213=>245|265=>277|n=>n,λ |9=>9|3=>3|n=>n,λ |n=>n⟩
def Tryz.lays106_ren:Go.Shelf.Ren:=⟨λ |106=>184|213=>245|265=>277|n=>n,λ |9=>9|3=>3|n=>n,λ |n=>n⟩
theorem Tryz.lays106:Go.Proofs.Lays.n106 Tryz.prog Tryz.lays106_ren:={
 mixed:=bu
 f106:=func184.trans (congrArg some bu)
 f213:=func245.trans (congrArg some bu)
 f265:=func277.trans (congrArg some bu)
 t3:=Tryz.underlying3
 a3:=Tryz.isAgg3
 z3:=Tryz.sizeOf3
 v3:=Tryz.zeroValue3
 t9:=Tryz.underlying9
 a9:=Tryz.isAgg9
 z9:=Tryz.sizeOf9
 v9:=Tryz.zeroValue9}
open Go.RowKit in
theorem Tryz.strings_Compare(a b:ByteArray)(w:World):
 Calls Tryz.prog 184 #[.string a,.string b] w λe w'=>e= .returned (.int .i64 (Lib.compareBytes a.data.toList b.data.toList))/\w'=w:=Any.strings_Compare Tryz.lays106 a b w
def Tryz.lays283_ren:Go.Shelf.Ren:=⟨λ |283=>305|n=>n,λ |3=>3|9=>9|4=>4|n=>n,λ |n=>n⟩
theorem Tryz.lays283:Go.Proofs.Lays.n283 Tryz.prog Tryz.lays283_ren:={
 mixed:=bu
 f283:=func305.trans (congrArg some bu)
 t3:=Tryz.underlying3
 a3:=Tryz.isAgg3
 z3:=Tryz.sizeOf3
 v3:=Tryz.zeroValue3
 t4:=Tryz.underlying4
 a4:=Tryz.isAgg4
 z4:=Tryz.sizeOf4
 v4:=Tryz.zeroValue4
 t9:=Tryz.underlying9
 a9:=Tryz.isAgg9
 z9:=Tryz.sizeOf9
 v9:=Tryz.zeroValue9}
open Go.Lib in
theorem Tryz.internal_strconv_small(i:Nat)(h:i<100)(w:World):
 Calls Tryz.prog 305 #[.int .i64 i] w λe w'=>e= .returned (.string ⟨(Lib.decDigits i).toArray⟩)/\w'=w:=Any.internal_strconv_small Tryz.lays283 i h w
def Tryz.laysM284_ren:Go.Shelf.Ren:=⟨λ |284=>306|129=>287|317=>310|318=>311|n=>n,λ |53=>301|3=>3|212=>323|0=>0|4=>4|46=>244|5=>5|9=>9|n=>n,λ |17=>1|n=>n⟩
theorem Tryz.laysM284:Go.Proofs.LaysM.n284 Tryz.prog Tryz.laysM284_ren:={
 mixed:=bu
 f129:=func287.trans (congrArg some bu)
 f284:=func306.trans (congrArg some bu)
 f317:=func310.trans (congrArg some bu)
 f318:=func311.trans (congrArg some bu)
 t0:=Tryz.underlying0
 a0:=Tryz.isAgg0
 z0:=Tryz.sizeOf0
 v0:=Tryz.zeroValue0
 t3:=Tryz.underlying3
 a3:=Tryz.isAgg3
 z3:=Tryz.sizeOf3
 v3:=Tryz.zeroValue3
 t4:=Tryz.underlying4
 a4:=Tryz.isAgg4
 z4:=Tryz.sizeOf4
 v4:=Tryz.zeroValue4
 t5:=Tryz.underlying5
 a5:=Tryz.isAgg5
 z5:=Tryz.sizeOf5
 v5:=Tryz.zeroValue5
 t9:=Tryz.underlying9
 a9:=Tryz.isAgg9
 z9:=Tryz.sizeOf9
 v9:=Tryz.zeroValue9
 t46:=Tryz.underlying244
 a46:=Tryz.isAgg244
 z46:=Tryz.sizeOf244
 v46:=Tryz.zeroValue244
 t53:=Tryz.underlying301
 a53:=Tryz.isAgg301
 z53:=Tryz.sizeOf301
 v53:=Tryz.zeroValue301
 t212:=Tryz.underlying323
 a212:=Tryz.isAgg323
 z212:=Tryz.sizeOf323
 v212:=Tryz.zeroValue323
 g17:=bu
 i0:=bu
 i3:=bu
 i4:=bu
 i5:=bu
 i9:=bu
 i46:=bu
 i53:=bu
 i212:=bu
 m17:=by kernel_rfl}
open Go.Lib in
theorem Tryz.internal_strconv_numDigits(u:Nat)(b:1<=u)(c:u<18446744073709551616)(w:World)(a:Lib.TabIs Tryz.prog w "internal/strconv.uint64pow10" .u64 Lib.pow10Tab):
 Calls Tryz.prog 306 #[.int .u64 u] w λe w'=>e= .returned (.int .i64 (Lib.nDigits u))/\w'=w:=Any.internal_strconv_numDigits Tryz.laysM284 u b c w a
def Tryz.lays285_ren:Go.Shelf.Ren:=⟨λ |285=>307|n=>n,λ |37=>22|53=>301|3=>3|4=>4|51=>299|9=>9|5=>5|0=>0|n=>n,λ |n=>n⟩
theorem Tryz.lays285:Go.Proofs.Lays.n285 Tryz.prog Tryz.lays285_ren:={
 mixed:=bu
 f285:=func307.trans (congrArg some bu)
 t0:=Tryz.underlying0
 a0:=Tryz.isAgg0
 z0:=Tryz.sizeOf0
 v0:=Tryz.zeroValue0
 t3:=Tryz.underlying3
 a3:=Tryz.isAgg3
 z3:=Tryz.sizeOf3
 v3:=Tryz.zeroValue3
 t4:=Tryz.underlying4
 a4:=Tryz.isAgg4
 z4:=Tryz.sizeOf4
 v4:=Tryz.zeroValue4
 t5:=Tryz.underlying5
 a5:=Tryz.isAgg5
 z5:=Tryz.sizeOf5
 v5:=Tryz.zeroValue5
 t9:=Tryz.underlying9
 a9:=Tryz.isAgg9
 z9:=Tryz.sizeOf9
 v9:=Tryz.zeroValue9
 t37:=Tryz.underlying22
 a37:=Tryz.isAgg22
 z37:=Tryz.sizeOf22
 v37:=Tryz.zeroValue22
 t51:=Tryz.underlying299
 a51:=Tryz.isAgg299
 z51:=Tryz.sizeOf299
 v51:=Tryz.zeroValue299
 t53:=Tryz.underlying301
 a53:=Tryz.isAgg301
 z53:=Tryz.sizeOf301
 v53:=Tryz.zeroValue301}
open Go.RowKit Go.Sort Go.Lib in
theorem Tryz.internal_strconv_formatBase10(blk off a:Nat)(u:Nat)(d:Array UInt8)(w:World)(h:Holds (fun(b:UInt8)=>Value.int .u8 (b.toNat:Int)) w blk off d)(i:u<10^d.size)(c:u<18446744073709551616)(f:d.size<4611686018427387904):
 Calls Tryz.prog 307 #[.slice (some ⟨blk,off,none⟩) d.size a,.int .u64 u] w λe w'=>
  e= .returned (.tuple #[])/\∃(n j:Nat)(g:Array UInt8),w'=(putRow (fun(b:UInt8)=>Value.int .u8 (b.toNat:Int)) w blk off g).drewN n/\FmtInv d.size u 0 j g:=Any.internal_strconv_formatBase10 Tryz.lays285 blk off a u d w h i c f
def Tryz.sortF_ren:Go.Shelf.Ren:=⟨λ |6=>189|15=>253|14=>252|28=>286|29=>287|20=>278|21=>279|22=>280|23=>281|24=>282|25=>283|26=>284|27=>285|46=>294|47=>295|48=>296|49=>297|50=>298|57=>304|n=>n,λ |22=>53|24=>94|25=>116|3=>3|39=>244|0=>0|53=>299|55=>301|4=>4|46=>293|45=>292|50=>190|5=>5|9=>9|66=>304|70=>264|76=>313|77=>314|n=>n,λ |n=>n⟩
theorem Tryz.sortF:Go.Proofs.SlLaysF.n6 Tryz.prog Tryz.sortF_ren:={
 mixed:=bu
 f6:=⟨Tryz.f189.name,bz,func189.trans (congrArg some bu)⟩
 f14:=⟨Tryz.f252.name,bz,func252.trans (congrArg some bu)⟩
 f15:=func253.trans (congrArg some bu)
 f20:=⟨Tryz.f278.name,bz,func278.trans (congrArg some bu)⟩
 f21:=⟨Tryz.f279.name,bz,func279.trans (congrArg some bu)⟩
 f22:=⟨Tryz.f280.name,bz,func280.trans (congrArg some bu)⟩
 f23:=⟨Tryz.f281.name,bz,func281.trans (congrArg some bu)⟩
 f24:=⟨Tryz.f282.name,bz,func282.trans (congrArg some bu)⟩
 f25:=⟨Tryz.f283.name,bz,func283.trans (congrArg some bu)⟩
 f26:=⟨Tryz.f284.name,bz,func284.trans (congrArg some bu)⟩
 f27:=⟨Tryz.f285.name,bz,func285.trans (congrArg some bu)⟩
 f28:=func286.trans (congrArg some bu)
 f29:=func287.trans (congrArg some bu)
 f46:=⟨Tryz.f294.name,bz,func294.trans (congrArg some bu)⟩
 f47:=func295.trans (congrArg some bu)
 f48:=func296.trans (congrArg some bu)
 f49:=⟨Tryz.f297.name,bz,func297.trans (congrArg some bu)⟩
 f50:=⟨Tryz.f298.name,bz,func298.trans (congrArg some bu)⟩
 f57:=⟨Tryz.f304.name,bz,func304.trans (congrArg some bu)⟩
 t0:=Tryz.underlying0
 a0:=Tryz.isAgg0
 z0:=Tryz.sizeOf0
 v0:=Tryz.zeroValue0
 t3:=Tryz.underlying3
 a3:=Tryz.isAgg3
 z3:=Tryz.sizeOf3
 v3:=Tryz.zeroValue3
 t4:=Tryz.underlying4
 a4:=Tryz.isAgg4
 z4:=Tryz.sizeOf4
 v4:=Tryz.zeroValue4
 t5:=Tryz.underlying5
 a5:=Tryz.isAgg5
 z5:=Tryz.sizeOf5
 v5:=Tryz.zeroValue5
 t9:=Tryz.underlying9
 a9:=Tryz.isAgg9
 z9:=Tryz.sizeOf9
 v9:=Tryz.zeroValue9
 t22:=Tryz.underlying53
 a22:=Tryz.isAgg53
 z22:=Tryz.sizeOf53
 v22:=Tryz.zeroValue53
 a24:=Tryz.isAgg94
 z24:=Tryz.sizeOf94
 t25:=Tryz.underlying116
 a25:=Tryz.isAgg116
 z25:=Tryz.sizeOf116
 v25:=Tryz.zeroValue116
 t39:=Tryz.underlying244
 a39:=Tryz.isAgg244
 z39:=Tryz.sizeOf244
 v39:=Tryz.zeroValue244
 t45:=Tryz.underlying292
 a45:=Tryz.isAgg292
 z45:=Tryz.sizeOf292
 v45:=Tryz.zeroValue292
 t46:=Tryz.underlying293
 a46:=Tryz.isAgg293
 z46:=Tryz.sizeOf293
 v46:=Tryz.zeroValue293
 t50:=Tryz.underlying190
 a50:=Tryz.isAgg190
 z50:=Tryz.sizeOf190
 v50:=Tryz.zeroValue190
 t53:=Tryz.underlying299
 a53:=Tryz.isAgg299
 z53:=Tryz.sizeOf299
 v53:=Tryz.zeroValue299
 t55:=Tryz.underlying301
 a55:=Tryz.isAgg301
 z55:=Tryz.sizeOf301
 v55:=Tryz.zeroValue301
 t66:=Tryz.underlying304
 a66:=Tryz.isAgg304
 z66:=Tryz.sizeOf304
 v66:=Tryz.zeroValue304
 t70:=Tryz.underlying264
 a70:=Tryz.isAgg264
 z70:=Tryz.sizeOf264
 v70:=Tryz.zeroValue264
 t76:=Tryz.underlying313
 a76:=Tryz.isAgg313
 z76:=Tryz.sizeOf313
 v76:=Tryz.zeroValue313
 t77:=Tryz.underlying314
 a77:=Tryz.isAgg314
 z77:=Tryz.sizeOf314
 v77:=Tryz.zeroValue314}
def Tryz.sortN_ren:Go.Shelf.Ren:=⟨λ |6=>189|15=>253|14=>252|28=>286|29=>287|20=>278|21=>279|22=>280|23=>281|24=>282|25=>283|26=>284|27=>285|46=>294|47=>295|48=>296|49=>297|50=>298|57=>304|n=>n,λ |22=>53|24=>94|25=>116|3=>3|39=>244|0=>0|53=>299|55=>301|4=>4|46=>293|45=>292|50=>190|5=>5|9=>9|66=>304|70=>264|76=>313|77=>314|n=>n,λ |n=>n⟩
theorem Tryz.sortN:Go.Proofs.SlLaysF0.n6 Tryz.prog Tryz.sortN_ren:={
 mixed:=bu
 f6:=⟨Tryz.f189.name,bz,func189.trans (congrArg some bu)⟩
 f14:=⟨Tryz.f252.name,bz,func252.trans (congrArg some bu)⟩
 f15:=func253.trans (congrArg some bu)
 f20:=⟨Tryz.f278.name,bz,func278.trans (congrArg some bu)⟩
 f21:=⟨Tryz.f279.name,bz,func279.trans (congrArg some bu)⟩
 f22:=⟨Tryz.f280.name,bz,func280.trans (congrArg some bu)⟩
 f23:=⟨Tryz.f281.name,bz,func281.trans (congrArg some bu)⟩
 f24:=⟨Tryz.f282.name,bz,func282.trans (congrArg some bu)⟩
 f25:=⟨Tryz.f283.name,bz,func283.trans (congrArg some bu)⟩
 f26:=⟨Tryz.f284.name,bz,func284.trans (congrArg some bu)⟩
 f27:=⟨Tryz.f285.name,bz,func285.trans (congrArg some bu)⟩
 f28:=func286.trans (congrArg some bu)
 f29:=func287.trans (congrArg some bu)
 f46:=⟨Tryz.f294.name,bz,func294.trans (congrArg some bu)⟩
 f47:=func295.trans (congrArg some bu)
 f48:=func296.trans (congrArg some bu)
 f49:=⟨Tryz.f297.name,bz,func297.trans (congrArg some bu)⟩
 f50:=⟨Tryz.f298.name,bz,func298.trans (congrArg some bu)⟩
 f57:=⟨Tryz.f304.name,bz,func304.trans (congrArg some bu)⟩
 t0:=Tryz.underlying0
 a0:=Tryz.isAgg0
 z0:=Tryz.sizeOf0
 v0:=Tryz.zeroValue0
 t3:=Tryz.underlying3
 a3:=Tryz.isAgg3
 z3:=Tryz.sizeOf3
 v3:=Tryz.zeroValue3
 t4:=Tryz.underlying4
 a4:=Tryz.isAgg4
 z4:=Tryz.sizeOf4
 v4:=Tryz.zeroValue4
 t5:=Tryz.underlying5
 a5:=Tryz.isAgg5
 z5:=Tryz.sizeOf5
 v5:=Tryz.zeroValue5
 t9:=Tryz.underlying9
 a9:=Tryz.isAgg9
 z9:=Tryz.sizeOf9
 v9:=Tryz.zeroValue9
 t22:=Tryz.underlying53
 a22:=Tryz.isAgg53
 z22:=Tryz.sizeOf53
 v22:=Tryz.zeroValue53
 t25:=Tryz.underlying116
 a25:=Tryz.isAgg116
 z25:=Tryz.sizeOf116
 v25:=Tryz.zeroValue116
 t39:=Tryz.underlying244
 a39:=Tryz.isAgg244
 z39:=Tryz.sizeOf244
 v39:=Tryz.zeroValue244
 t45:=Tryz.underlying292
 a45:=Tryz.isAgg292
 z45:=Tryz.sizeOf292
 v45:=Tryz.zeroValue292
 t46:=Tryz.underlying293
 a46:=Tryz.isAgg293
 z46:=Tryz.sizeOf293
 v46:=Tryz.zeroValue293
 t50:=Tryz.underlying190
 a50:=Tryz.isAgg190
 z50:=Tryz.sizeOf190
 v50:=Tryz.zeroValue190
 t53:=Tryz.underlying299
 a53:=Tryz.isAgg299
 z53:=Tryz.sizeOf299
 v53:=Tryz.zeroValue299
 t55:=Tryz.underlying301
 a55:=Tryz.isAgg301
 z55:=Tryz.sizeOf301
 v55:=Tryz.zeroValue301
 t66:=Tryz.underlying304
 a66:=Tryz.isAgg304
 z66:=Tryz.sizeOf304
 v66:=Tryz.zeroValue304
 t70:=Tryz.underlying264
 a70:=Tryz.isAgg264
 z70:=Tryz.sizeOf264
 v70:=Tryz.zeroValue264
 t76:=Tryz.underlying313
 a76:=Tryz.isAgg313
 z76:=Tryz.sizeOf313
 v76:=Tryz.zeroValue313
 t77:=Tryz.underlying314
 a77:=Tryz.isAgg314
 z77:=Tryz.sizeOf314
 v77:=Tryz.zeroValue314}
def Tryz.searchO_ren:Go.Shelf.Ren:=⟨λ |16=>126|n=>n,λ |3=>3|35=>48|4=>4|38=>244|n=>n,λ |n=>n⟩
theorem Tryz.searchO:Go.Proofs.SlLaysO.n16 Tryz.prog Tryz.searchO_ren:={
 mixed:=bu
 f16:=func126.trans (congrArg some bu)
 t3:=Tryz.underlying3
 a3:=Tryz.isAgg3
 z3:=Tryz.sizeOf3
 v3:=Tryz.zeroValue3
 t4:=Tryz.underlying4
 a4:=Tryz.isAgg4
 z4:=Tryz.sizeOf4
 v4:=Tryz.zeroValue4
 t35:=Tryz.underlying48
 a35:=Tryz.isAgg48
 z35:=Tryz.sizeOf48
 v35:=Tryz.zeroValue48
 t38:=Tryz.underlying244
 a38:=Tryz.isAgg244
 z38:=Tryz.sizeOf244
 v38:=Tryz.zeroValue244}
end Go.Proofs
namespace Go.Ps
open Go Go.Vc Go.Proofs List Tryz
variable{K:dk}{m:MH}{h:PH}{s:lL}{ps:dl}{cb:Nat}{sc:bX}{v:QV}{q:Query}{p:Pred}{l:dl}{i:Nat}{N:Nat}{m':MH}{h':PH}{co:dl}{gr:dl}{od:dr}{w:Pred}{ta:Int}{li:Int}{xs:List dj}{sz:Nat}{k:Nat}{ks:List dl}{rs:dl}{r:Sl}{a:dl}{b:Nat}
def gS(m:MH):Prop:=∃T c,m 1=some (.cells (Lib.pow10Tab.map λz=>Value.int .u64 z).toArray T c)
def cU(u:Nat):CV:=.val (.int .u64 u)
def cGJ:Vc.Spec:=λc m h K=>∃i:Nat,c=[cI i]/\i<100/\K (Xy ⟨(Lib.decDigits i).toArray⟩) m h
def aBQ:Vc.Spec:=λc m h K=>∃u:Nat,c=[cU u]/\1<=u/\u<18446744073709551616/\gS m/\K (cI (Lib.nDigits u)) m h
def cGX:Vc.Spec:=λd m h K=>∃b e u:Nat,∃(f:Array Value)(T:TypeId),d=[.val (.slice (some ⟨b,0,none⟩) (Lib.nDigits u) e),cU u]/\u<18446744073709551616/\m b=some (.cells f T (0,0))/\f.toList=replicate 24 (.int .u8 0)/\
 ∀c m',c.size=f.size->c.toList.take (Lib.nDigits u)=Lib.byteCells (Lib.decDigits u)->iD m m' b (.cells c T (0,0))->K (.tup []) m' h
def clX:Vc.Spec:=λc m h K=>∃xs,∃u:Nat,c=[.lst 5 1 xs,cU u,cI 10]/\u<18446744073709551616/\gS m/\xs.length+30<=140737488355328/\K (.lst 5 1 (xs++bH (Lib.decDigits u))) m h
def l7(i:Int):dw:=if i<0 then 45::Lib.decDigits (IntKind.u64.wrap (0-IntKind.u64.wrap i)).toNat else Lib.decDigits (IntKind.u64.wrap i).toNat
def X0:Vc.Spec:=λc m h K=>∃xs i,c=[.lst 5 1 xs,cI i,cI 10]/\gS m/\xs.length+40<=140737488355328/\K (.lst 5 1 (xs++bH (l7 i))) m h
noncomputable abbrev N5(a:Nat):List dj:=i7 (ByteArray.mk (Array.mk (Lib.decDigits a)))
noncomputable abbrev EY(a:dj):dj:=bC (zZ 0) (zZ 0) (bC (zZ 0) (zZ 0) (bC (zZ 0) (zZ 0) (bC (zZ 0) (zZ 0) a)))
noncomputable abbrev BF(a:Int):CV:=CV.val (Value.int IntKind.u64 a)
abbrev Po(a:Nat):Prop:=a<18446744073709551616
noncomputable abbrev Fs(a:Nat):Int:=(↑(Lib.nDigits a):Int)
noncomputable abbrev xW(a:Nat):Option Addr:=Option.some (Addr.mk a 0 Option.none)
attribute [push_cast] N5 EY BF Po Fs xW
def Ma(xs:List dj)(u:Nat)(m:MH)(h:PH)(K:dk):Prop:=
  aW (↑u:Int) 100 (∃(i:Nat),aA (w6 (fN (bF (↑u:Int)))=w6 (fN (↑i:Int))) (i<100) (aA (mI xs (N5 i) 1) (mC xs (N5 i)) (K (CV.lst 5 1 (xs++N5 i)) m h))) (mE m h (λb e=>gP m e b (EY (EY (EY []))) 317) (λb e=>∃(d:Nat),aA (w6 (BF (↑u:Int))=w6 (BF (↑d:Int))) (1<=d) (aA (Po d) (gS e) (aA (bY (Fs d)) (Fs d<=24) (aJ (λg c=>∃(f:Nat),kS (λj T=>aA (nO (CV.val (Value.slice (xW b) (Fs d).toNat 24)) (BF (↑u:Int))=nO (CV.val (Value.slice (xW g) (Lib.nDigits f) c)) (BF (↑f:Int))) (Po f) (aA (e g=Option.some (lF j T 0)) (j.toList=EY (EY (EY []))) (∀(n:Array Value)(o:MH),n.size=j.size->List.take (Lib.nDigits f) n.toList=Lib.byteCells
 (Lib.decDigits f)->iD e o g (lF n T 0)->Cr (bY (Fs d)) (Fs d<=24) (λy=>aA (cZ 1 y) (nC o h (Sl.mk (xW b) (Fs d).toNat 24) 1 y) (aA (mI xs y 1) (mC xs y) (K (CV.lst 5 1 (xs++y)) o h))))))))))))
noncomputable abbrev Pp(a:Int):Int:=IntKind.wrap IntKind.u64 a
noncomputable abbrev jL(a:List dj)(b:dw):List dj:=a++bH b
attribute [push_cast] Pp jL
def Sj(xs:List dj)(i:Int)(m:MH)(h:PH)(K:dk):Prop:=
  aW i 0 (Cr (j4 (nY xs 1*1)) (zY xs) (λx=>∃(u:Nat),aA (CV.lst 5 1 (eG xs (kH (zZ 45)))::bD (BF (Pp (0-Pp i))) 10=CV.lst 5 1 x::bD (BF (↑u:Int)) 10) (Po u) (aA (gS m) (j4 (nY x 30)) (K (CV.lst 5 1 (jL x (Lib.decDigits u))) m h)))) (∃(x:List dj)(u:Nat),aA (CV.lst 5 1 xs::bD (BF (Pp i)) 10=CV.lst 5 1 x::bD (BF (↑u:Int)) 10) (Po u) (aA (gS m) (j4 (nY x 30)) (K (CV.lst 5 1 (jL x (Lib.decDigits u))) m h)))
noncomputable abbrev Ev(a:List dj)(b:Int):eb:=CV.lst 5 1 a::bD (fN b) 10
attribute [push_cast] Ev
def aUZ(xs:List dj)(i:Int)(m:MH)(h:PH)(K:dk):Prop:=
  ∃(x:List dj)(c:Int),aI (Ev xs i=Ev x c) (gS m) (j4 (nY x 40)) (K (CV.lst 5 1 (jL x (l7 c))) m h)
theorem gS.sub(h:gS m)(c:Sub m m'):gS m':=by
 obtain⟨T,d,e⟩:=h;exact⟨T,d,c 1 _ e⟩
theorem Lv{w:World}{c:eb}{vs:dj}(d:B9 w m h c vs):A7 ⟨w,y7 m c vs,h,[]⟩ m h w:=
 ⟨rfl,rfl,rfl,Nat.le_refl _,Nat.le_refl _,λ_ _ _=>rfl,d.hsat,d.msat,d.disj,λ_ _ _ e=>e,λ_ _ _=>rfl,λb o f=>.inr (.inl cg)⟩
theorem YD:di 305 cGJ:=by
 refine⟨⟨Tryz.f305,func305,rfl,bz⟩,?_⟩;rintro f d m h w K ⟨i,rfl,g,j⟩ c
 obtain⟨v,rfl⟩:∃v,d=[v]:=by
  have:=(rD c.args).1
  match d,this with
  |[v],_=>grind
 have n:v= .int .i64 i:=c.args.1;subst n;refine(Tryz.internal_strconv_small i g w).mono ?_;rintro e t ⟨rfl,rfl⟩;exact⟨_,_,m,h,rfl,j,rfl,Lv c,λb o=>by simp[Xy,iG]at o⟩
theorem YC:di 306 aBQ:=by
 refine⟨⟨Tryz.f306,func306,rfl,bz⟩,?_⟩;rintro f d m h w K ⟨u,rfl,g,j,⟨T,y,n⟩,o⟩ c
 obtain⟨v,rfl⟩:∃v,d=[v]:=by
  have:=(rD c.args).1
  match d,this with
  |[v],_=>grind
 have t:v= .int .u64 u:=c.args.1;subst t;have z:=c.msat 1 _ n;refine(Tryz.internal_strconv_numDigits u g j w ?_).mono ?_
 .unfold Lib.TabIs World.var?;rw[show Tryz.prog.globalNamed _=some 1 by kernel_rfl]
  grind
 .rintro e A ⟨rfl,rfl⟩;exact⟨_,_,m,h,rfl,o,rfl,Lv c,λb x=>by simp[cI,iG]at x⟩
theorem YB:di 307 cGX:=by
 refine⟨⟨Tryz.f307,func307,rfl,bz⟩,?_⟩;rintro W P m h w K ⟨b,g,u,B,T,rfl,Q,A,C,X⟩ t
 obtain⟨v,H,rfl⟩:∃v H,P=[v,H]:=by
  have:=(rD t.args).1
  match P,this with
  |[v,H],_=>grind
 have Y:v= .slice (some ⟨b,0,none⟩) (Lib.nDigits u) g:=t.args.1;have J:H= .int .u64 u:=t.args.2.1;subst Y J;have R:=t.msat b _ A;have Z:=Lib.nDigits_le20 u Q;have a':B.size=24:=by rw[<-Array.length_toList,C];simp
 have hH:Sort.Holds (fun(b:UInt8)=>Value.int .u8 (b.toNat:Int)) w b 0 (Array.replicate (Lib.nDigits u) (0:UInt8)):=by
  intro j I;simp only[Array.size_replicate]at I;refine⟨?_,?_⟩
  .rw[cell_of_heap R,C,getElem?_replicate,if_pos aC];rw[getElem!_pos _ j cg];simp
  .unfold World.frozen?
   grind
 have S:=Tryz.internal_strconv_formatBase10 b 0 g u (Array.replicate (Lib.nDigits u) (0:UInt8)) w hH (cm (Lib.lt_pow_nDigits u)) Q ce;rw[Array.size_replicate]at S;refine S.mono ?_;rintro e w' ⟨rfl,n,v',z,rfl,U⟩;have a0:z.size=Lib.nDigits u:=U.size;obtain⟨m',y⟩:∃m',iD m m' b (.cells (Sort.putCells (fun(b:UInt8)=>Value.int .u8 (b.toNat:Int)) 0 z B) T (0,0)):=⟨λc=>if c=b then some (.cells (Sort.putCells (fun(b:UInt8)=>Value.int .u8 (b.toNat:Int)) 0 z B) T (0,0))else m c,bx,λc d=>by simp[d]⟩
 have D:(Sort.putRow (fun(b:UInt8)=>Value.int .u8 (b.toNat:Int)) w b 0 z).heap[b]? =some (.cells (Sort.putCells (fun(b:UInt8)=>Value.int .u8 (b.toNat:Int)) 0 z B) T (0,0)):=by
  unfold Sort.putRow Sort.mapBlock;simp only[Array.getElem?_modify,if_true,R];rfl
 have f:∀c,c≠b->(Sort.putRow (fun(b:UInt8)=>Value.int .u8 (b.toNat:Int)) w b 0 z).heap[c]? =w.heap[c]? :=λc d=>by
  unfold Sort.putRow Sort.mapBlock
  grind
 refine⟨.tup [],.tuple #[],m',h,rfl,X _ m' ?_ ?_ y,⟨#[],rfl,rfl⟩,?_,λb A=>by simp[iG]at A⟩
 .simp[Sort.putCells]
 .apply ext_getElem?;intro j;rw[getElem?_take];have hl:(Lib.byteCells (Lib.decDigits u)).length=Lib.nDigits u:=by rw[Lib.byteCells_length,Lib.decDigits_length]
  by_cases I:j<Lib.nDigits u
  .rw[if_pos I,dd];have E:j<(Lib.decDigits u).length:=by rw[Lib.decDigits_length];exact I
   have F:j<B.size:=by omega
   simp only[Sort.putCells,Array.getElem?_mapIdx,Array.getElem?_eq_getElem F,Option.map_some,Nat.zero_le,Nat.zero_add,Nat.sub_zero,true_and];rw[if_pos aC,Lib.byteCells,getElem?_map,cq E,Lib.row_is_numeral U j E];rfl
  grind
 .have G:∀c o,m' c=some o->c=b\/m c=some o:=λc o d=>by
   by_cases e:c=b
   .exact .inl e
   .rw[y.other c e]at d;grind
  have V:y7 m [.val (.slice (some ⟨b,0,none⟩) (Lib.nDigits u) g),cU u] [.slice (some ⟨b,0,none⟩) (Lib.nDigits u) g,.int .u64 u] b:=.inl (by rw[A];simp);refine⟨rfl,rfl,rfl,Nat.le_add_right _ _,by simp[Sort.putRow,Sort.mapBlock],?_,?_,?_,?_,λ_ _ _ e=>e,λ_ _ _=>rfl,?_⟩
  .intro c _ hn;exact f c (λe=>hn (e▸V))
  .intro c o x L;have M:c≠b:=λe=>by rw[e,t.disj b _ A o]at L;cases L
   show(Sort.putRow (fun(b:UInt8)=>Value.int .u8 (b.toNat:Int)) w b 0 z).cell? ⟨c,o,none⟩=some x;rw[World.cell?_of_block (w:=w) (a:=⟨c,o,none⟩) (f c M)];exact t.hsat c o x L
  .intro c o d;by_cases e:c=b
   .subst e;rw[y.at_]at d;cases d;exact D
   .rw[y.other c e]at d;rw[show((Sort.putRow (fun(b:UInt8)=>Value.int .u8 (b.toNat:Int)) w b 0 z).drewN n).heap[c]? =_ from f c e];exact t.msat c o d
  .intro c o d j;rcases G c o d with rfl|O
   .exact t.disj c _ A j
   .exact t.disj c _ O j
  .intro c o d;rcases G c o d with rfl|O
   .exact .inr V
   .exact .inr (.inl (by rw[O];simp))
theorem kD(l:dw):i7 ⟨l.toArray⟩=bH l:=by simp[i7,bH]
theorem MG(l:dw):(bH l).flatten=Lib.byteCells l:=by
 unfold bH Lib.byteCells
 induction l with
 |nil=>rfl
 |cons b r c=>simp[c]
theorem cL(l:dw):(bH l).length=l.length:=by simp[bH]
theorem YH:di 299 clX:=by
 refine DS func299 ?_;rintro x m h K ⟨xs,u,rfl,j,y,D,o⟩;refine⟨rI [(305,cGJ),(306,aBQ),(307,cGX)] [] [] [] [317] [] true,rfl,aE YD (aE YC (aE YB aG)),Ma xs u m h (jF h K),bu,?_⟩;show Ma xs u m h (jF h K);dsimp only[Ma,push_cast];have z:=Lib.nDigits_le20 u j;have d:=Lib.decDigits_length u;refine aD (λA=>⟨u,?_,aC,?_,?_,?_⟩) (λA b B t e=>?_)
 .rw[dL aC aC]
 .rw[kD,cL];omega
 .rw[kD,cL];omega
 .rw[kD];exact .here o
 .have f:Sub m B:=(Sub.refl m).upd t.m_ e.other;refine⟨u,rfl,aC,j,y.sub f,aC,aC,b,24,u,_,_,cg,j,e.at_,rfl,λn E C c g=>⟨aC,aC,bH (Lib.decDigits u),JH _,?_,?_,?_,?_⟩⟩
  .refine .lent b 0 n 317 (0,0) rfl ?_ g.at_ ?_
   .rw[Int.toNat_natCast,cL,d]
   .rw[MG,Lib.byteCells_length,d,drop_zero];exact c
  .rw[cL];omega
  .rw[cL];omega
  .exact .sub (f.upd t.m_ g.other) o
theorem a5Z(i:Int):0<=IntKind.u64.wrap i/\IntKind.u64.wrap i<18446744073709551616:=by
 simp only[IntKind.wrap,IntKind.bits,IntKind.signed];simp;omega
theorem Ib(i:Int):(l7 i).length<=21:=by
 have key:∀n:Int,(Lib.decDigits (IntKind.u64.wrap n).toNat).length<=20:=λn=>by
  rw[Lib.decDigits_length];exact Lib.nDigits_le20 _ (by have:=a5Z n;omega)
 unfold l7
 grind
theorem YK:di 288 X0:=by
 refine fU func288 ?_;rintro e m h K ⟨xs,i,rfl,c,g,d⟩;refine⟨rI [(299,clX)] [] [] [] [] [(299,[0])] true,rfl,aE YH aG,Sj xs i m h K,bu,?_⟩;dsimp only[Sj,push_cast];have j:=a5Z i;have n:=a5Z (0-IntKind.u64.wrap i);refine aD (λf=>⟨aC,aC,xs++[[.int .u8 45]],(IntKind.u64.wrap (0-IntKind.u64.wrap i)).toNat,?_,aC,c,ce,?_⟩) (λf=>⟨xs,(IntKind.u64.wrap i).toNat,?_,aC,c,aC,?_⟩)
 .grind
 .have:l7 i=45::Lib.decDigits (IntKind.u64.wrap (0-IntKind.u64.wrap i)).toNat:=by unfold l7;grind
  rw[this]at d;rw[append_assoc];exact d
 .grind
 .have:l7 i=Lib.decDigits (IntKind.u64.wrap i).toNat:=by unfold l7;grind
  grind
theorem Qf:di 256 X0:=by
 refine fU func256 ?_;rintro c m h K ⟨xs,i,rfl,d,e,f⟩;refine⟨rI [(288,X0)] [] [] [] [] [(288,[0])] true,rfl,aE YK aG,aUZ xs i m h K,bu,?_⟩;exact⟨xs,i,rfl,d,e,f⟩
structure Bk(m:MH)(tb:Nat)(ws:List cR):Prop where
 ex:∃cur:Array Value,m tb=some (.cells cur 87 (0,0))/\cur.toList.take (ws.length*5)=(ws.map cR.enc).flatten
def aBZ:Vc.Spec:=λd m h K=>∃e g n f j w c,∃t:Nat,d=[aS ⟨e,⟨some ⟨g,0,none⟩,n,f⟩⟩,cI t]/\t<n/\Bk m g j/\j[t]? =some w/\Gb h w.columns c/\c.length<=8/\
 ∀o h',PH.le h h'->Ints h' o (c.map pB.kind)->K (cS o) m h'
noncomputable def b2J(cb:Nat):Ctx:=
 rI [(12,Ea),(13,G6),(92,aDX),(46,aBZ),(44,CE)] [] [(5,{A:=Int×Int×MH×PH,st:=λ⟨n,id,m,h⟩=>bO 86 87 [(0,pv cb),(2,.at (.ptr 2 0)),(3,iv n),(4,iv id)] [(2,.cells 43 [.val (.int .i64 0),.val (.slice none 0 0)])] m h}),
  (9,{A:=Int×bX×MH×PH,st:=λ⟨n,s,m,h⟩=>bO 86 87 [(0,pv cb),(2,.at (.ptr 2 0)),(3,iv n),(5,.at (.ptr 5 0))] [(2,.cells 43 [.val (.int .i64 0),.val (.slice none 0 0)]),(5,.cells 43 (s.enc.map .val))] m h}),
  (11,{A:=Int×bX×MH×PH,st:=λ⟨n,s,m,h⟩=>bO 86 87 [(0,pv cb),(2,.at (.ptr 2 0)),(3,iv n),(5,.at (.ptr 5 0))] [(2,.cells 43 [.val (.int .i64 0),.val (.slice none 0 0)]),(5,.cells 43 (s.enc.map .val))] m h}),
  (13,{A:=bX×MH×PH,st:=λ⟨s,m,h⟩=>bO 86 87 [(0,pv cb),(2,.at (.ptr 2 0)),(5,.at (.ptr 5 0))] [(2,.cells 43 [.val (.int .i64 0),.val (.slice none 0 0)]),(5,.cells 43 (s.enc.map .val))] m h}),
  (15,{A:=bX×MH×PH,st:=λ⟨s,m,h⟩=>bO 86 87 [(2,.at (.ptr 2 0)),(5,.at (.ptr 5 0))] [(2,.cells 43 [.val (.int .i64 0),.val (.slice none 0 0)]),(5,.cells 43 (s.enc.map .val))] m h})] [] [41] [] false
def tK(id:Int):List A8:=
 [⟨⟨⟨[112,114,111,106,101,99,116,115]⟩⟩,[⟨⟨⟨[105,100]⟩⟩,4⟩,⟨⟨⟨[111,119,110,101,114]⟩⟩,4⟩],1,[],[]⟩,
  ⟨⟨⟨[116,97,115,107,115]⟩⟩,[⟨⟨⟨[105,100]⟩⟩,id⟩,⟨⟨⟨[112,114,111,106,101,99,116]⟩⟩,4⟩,⟨⟨⟨[116,105,116,108,101]⟩⟩,5⟩,⟨⟨⟨[100,111,110,101]⟩⟩,3⟩],1,[],[]⟩,
  ⟨⟨⟨[109,101,109,98,101,114,115]⟩⟩,[⟨⟨⟨[112,114,111,106,101,99,116]⟩⟩,4⟩,⟨⟨⟨[112,101,114,115,111,110]⟩⟩,4⟩],2,[],[]⟩,
  ⟨⟨⟨[97,114,99,104,105,118,101,100]⟩⟩,[⟨⟨⟨[116,97,115,107]⟩⟩,id⟩],1,[],[]⟩]
structure OG(h:PH)(t:A8)(w:cR):Prop where
 name_:w.name=t.name
 key_:w.key=t.key
 cols_:Gb h w.columns t.columns
def ahQ(h:PH)(id:Int)(ws:List cR):Prop:=ws.length=4/\∀(i:Nat) t,(tK id)[i]? =some t->∃w,ws[i]? =some w/\OG h t w
structure DC(m0:MH)(h0:PH)(cb:Nat)(tb n:Nat)(id:Int)(ws:List cR)(s:bX)(m:MH)(h:PH):Prop where
 le_:PH.le h0 h
 ver0:0<=s.version
 ver1:s.version<=2
 case_:aU m h cb
 n2:2<=n
 n4:n<=4
 sl_:∃cap,s.tables=⟨some ⟨tb,0,none⟩,n,cap⟩/\n<=cap
 id_:id=4\/id=5
 new_:m0 tb=none
 ne_:tb≠cb
 row_:Bk m tb ws
 ws_:ahQ h id ws
 other_:∀b,b≠cb->b≠tb->m b=m0 b
def ayX:Vc.Spec:=λc m h K=>∃cb,c=[cP cb]/\aU m h cb/\∀d n id e s m' h',DC m h cb d n id e s m' h'->K (aS s) m' h'
noncomputable def csZ:Ctx:=
 rI [(39,ayX)] [(3,{A:=Nat×bX×MH×PH,st:=λ⟨i,s,m,h⟩=>bO 25 26 [(2,.at (.ptr 2 0)),(3,.at (.ptr 3 0)),(9,iv s.tables.len),(10,iv i)] [(2,.cells 43 [.val (.int .i64 0),.val (.slice none 0 0)]),(3,.cells 43 (s.enc.map .val))] m h})] [] [] [41] [] false
def L7(v:bX)(t:Int)(m:MH)(h:PH)(K:dk):Prop:=
  aW t 0 (K iO m h) (eK t (gE v) (K iO m h) (N7 v 0 t m h (λo=>o) 1 (λy I x=>aA (I x) (eL 32) (aA (bA y (nP x)) (cJ y (nP x)) (aA (aZ x.1) (xP x.2.2) (aA (m=m) (h=h) True)))) (λI d x=>N6 (I x) x 0 (λb o y=>aR m h b (bE o x.1 2) (nL (wG y) (fE y.kind))) 8 (λy c=>aA (I c) (d c<d x) (aA (eL 32) (bA (nP x) (nP c)) (aA (cJ (nP x) (nP c)) (eR (bF ((↑x.1:Int)+1))=bL c.1) (aA (gU (eG (dT x.2.2) (bQ y.kind)) c.2.2) (m=m) (bR h h))))) (nD h (dT x.2.2) K m))))
theorem b1Z(v:bX)(t:Int)(m:MH)(h:PH)(K:dk):L7 v t m h K=(tB (UM m h) Tryz.f46 (cM Tryz.f46) (entry Tryz.f46.ntmps [aS v,cI t] m h) K):=bu
abbrev yJ:Prop:=eQ (oQ 43 (iU dV Q9))
abbrev C5(a:dw)(b:Int)(c:ByteArray)(d:Int)(e:ByteArray->Int->Prop):Prop:=bD (jM (ByteArray.mk (Array.mk a))) b=bD (jM c) d/\∃(x:ByteArray)(f:Int),e x f
noncomputable abbrev N8(a:Nat)(b:dw):dw:=fQ 112 (fQ 114 (fQ 111 (fQ 106 (fQ 101 (fQ a b)))))
abbrev jN(a:Sl->MH->Prop):Prop:=∀(x:Sl)(c:MH),a x c
noncomputable abbrev zW(a:dw):Value:=Value.string (ByteArray.mk (Array.mk a))
noncomputable abbrev HH(a:dw)(b:Sl)(c:Int):dj:=bC (zW a) (iI b) (bC (fE c) sC lV)
noncomputable abbrev oW(a:bX×MH×PH):Nat->Option Obj:=a.2.1
noncomputable abbrev kQ(a:bX×MH×PH):Nat->Nat->Option Value:=a.2.2
abbrev Hp(a:Int×bX×MH×PH->Prop)(b:Nat)(c:Int)(d:(Int×bX×MH×PH)->Prop)(e:Nat->Option Obj)(g:Nat->Nat->Option Value):Prop:=∃(x:Int×bX×MH×PH),aA (a x) (dE b) (aA cW (dA c x.1) (aA dM yJ (aA (d x) (e=oW x.2) (bR g (kQ x.2)))))
noncomputable abbrev rX(a:Int×bX×MH×PH):bX:=a.2.1
abbrev kK(a b:bX):Prop:=oQ 43 (iU (JR a) (JQ a))=oQ 43 (iU (JR b) (JQ b))
attribute [push_cast] yJ C5 N8 jN zW HH oW kQ Hp rX kK
def WL(cb:Nat)(m:MH)(h:PH)(K:dk):Prop:=
  eW cb 3 m h (λk R=>∃(I:Int×Int×MH×PH->Prop),jT cb 5 R h (λc r G=>lC R G c h (branch r (∃(x:Int×Int×MH×PH),aA (I x) (dE cb) (aA cW (dA (bF (2+k)) x.1) (aA (dA 5 x.2.1) yJ (aA (G=x.2.2.1) (h=x.2.2.2) True)))) (∃(x:Int×Int×MH×PH),aA (I x) (dE cb) (aA cW (dA (bF (2+k)) x.1) (aA (dA 4 x.2.1) yJ (aA (G=x.2.2.1) (h=x.2.2.2) True))))))/\∀(x:Int×Int×MH×PH),I x->eW cb 3 x.2.2.1 x.2.2.2 (λS G=>∃(n:ByteArray)(T:Int),C5 (DJ 105 100) 4 n T (λU V=>C5 (fQ 111 (fQ 119 (fQ 110 (fQ 101 (u7 114))))) 4 U V (λW X=>C5 (DJ 105 100) x.2.1 W X (λY Z=>C5 (N8 99 (u7 116)) 4 Y Z (λn4 k6=>C5 (fQ 116 (fQ 105 (fQ 116 (fQ 108 (u7 101))))) 5
 n4 k6 (λn5 k7=>C5 (fQ 100 (fQ 111 (DJ 110 101))) 3 n5 k7 (λn6 k8=>C5 (N8 99 (u7 116)) 4 n6 k8 (λn7 k9=>bD (jM (ByteArray.mk (Array.mk (fQ 112 (fQ 101 (fQ 114 (fQ 115 (DJ 111 110)))))))) 4=bD (jM n7) k9/\∃(n8:ByteArray)(a:Int),bD (jM (ByteArray.mk (Array.mk (fQ 116 (fQ 97 (DJ 115 107)))))) x.2.1=bD (jM n8) a/\bU x.2.2.2 2 (yN n T::gL (yN U V)) (λs h1=>bU h1 2 (yN W X::yN Y Z::yN n4 k6::gL (yN n5 k7)) (λs1 h2=>bU h2 2 (yN n6 k8::gL (yN n7 k9)) (λs2 h3=>bU h3 2 (gL (yN n8 a)) (λs3 H=>jN (λF L=>qE G L H F 87 5 (HH (N8 99 (DJ 116 115)) s 1::HH (fQ 116 (fQ 97 (fQ 115 (fQ 107 (u7 115))))) s1 1::HH
 (fQ 109 (fQ 101 (fQ 109 (fQ 98 (fQ 101 (fQ 114 (u7 115))))))) s2 2::gL (HH (fQ 97 (fQ 114 (fQ 99 (fQ 104 (fQ 105 (fQ 118 (DJ 101 100))))))) s3 1))->aA (bY x.1) (BU x.1 F) (∃(I1:Int×bX×MH×PH->Prop),jT cb 2 L H (λc r j=>lC L j c H (branch r (bU H 1 (gL (bQ 1)) (λB A=>aJ (λb o=>aI (aK F.a b o) ((0:Int)<=1) (1<(↑x.1.toNat:Int)) (bU A 2 (gL (nL (iI B) cF)) (λC D=>kS (λy E=>aA (Gc j b (lF y E 0)) (nR (o+5+3) y) (∀(z:MH),oX j z b y (o+5+3) (aM C) E->Hp I1 cb x.1 (λf=>oQ 43 (iU (fL S) (At.val (Value.slice F.a x.1.toNat F.cap)))=oQ 43 (iU (JR (rX f)) (JQ (rX f)))) z D))))))) (Hp I1 cb x.1 (λf=>oQ 43 (iU (fL S) (At.val
 (Value.slice F.a x.1.toNat F.cap)))=oQ 43 (iU (JR (rX f)) (JQ (rX f)))) j H)))/\∀(f:Int×bX×MH×PH),I1 f->∃(I2:Int×bX×MH×PH->Prop),fA f.1 2 (jT cb 3 (oW f.2) (kQ f.2) (λc r j=>lC (oW f.2) j c (kQ f.2) (branch r (bU (kQ f.2) 1 (gL (kH cF)) (λB A=>aJ (λb o=>aI (aK (lW (rX f)) b o) ((0:Int)<=2) (2<aF (rX f).tables) (bU A 2 (gL (nL (iI B) cF)) (λC D=>kS (λy E=>aA (Gc j b (lF y E 0)) (nR (o+10+3) y) (∀(z:MH),oX j z b y (o+10+3) (aM C) E->Hp I2 cb f.1 (λg=>kK (rX f) (rX g)) z D))))))) (Hp I2 cb f.1 (λg=>kK (rX f) (rX g)) j (kQ f.2))))) (Hp I2 cb f.1 (λg=>kK (rX f) (rX g)) (oW
 f.2) (kQ f.2))/\∀(g:Int×bX×MH×PH),I2 g->∃(I3:bX×MH×PH->Prop),fA g.1 3 (jT cb 3 (oW g.2) (kQ g.2) (λc r j=>lC (oW g.2) j c (kQ g.2) (branch r (bU (kQ g.2) 1 (gL (kH cF)) (λB A=>aJ (λb o=>aI (aK (lW (rX g)) b o) ((0:Int)<=3) (3<aF (rX g).tables) (bU A 2 (gL (nL (iI B) (fE 1))) (λC D=>kS (λy E=>aA (Gc j b (lF y E 0)) (nR (o+15+3) y) (∀(z:MH),oX j z b y (o+15+3) (aM C) E->∃(e:bX×MH×PH),aA (I3 e) (dE cb) (aA cW dM (aA yJ (kK (rX g) e.1) (aA (z=oW e) (D=kQ e) True)))))))))) (∃(e:bX×MH×PH),aA (I3 e) (dE cb) (aA cW dM (aA yJ (kK (rX g) e.1) (aA (j=oW e) (kQ g.2=kQ
 e) True))))))) (∃(e:bX×MH×PH),aA (I3 e) (dE cb) (aA cW dM (aA yJ (kK (rX g) e.1) (aA (oW g.2=oW e) (kQ g.2=kQ e) True))))/\∀(e:bX×MH×PH),I3 e->∃(I4:bX×MH×PH->Prop),jT cb 3 (oW e) (kQ e) (λc r j=>lC (oW e) j c (kQ e) (branch r (∃(v:Int),aJ (λt n9=>∃(y:Nat)(w:List cR)(w1:cR)(M:List pB)(O:Nat),aA (bD (gV (cD e.1)) 1=bD (gV (nL (fE v) (Value.slice (xW t) n9 y))) (↑O:Int)) (O<n9) (aA (Bk j t w) (w[O]? =Option.some w1) (aA (Gb (kQ e) w1.columns M) (M.length<=8) (fT (λB A=>dN (kQ e) A (Ints A B (List.map pB.kind M)) (uH (λJ C t2=>mV (λP p=>∃(d:Nat),aA (uR cb 0::cA B (bD iO 1)=uR J 0::cA C (fW t2
 (↑d:Int))) (aU j A J) (aA (Ints A C P) (Ints A t2 p) (aI (eX P) (eX p) (nA d) (yI A (λv1 p1 z D=>yZ P p d p1->bK j z J->kI z D J (aJ (λb o=>aI (aK (lW e.1) b o) ((0:Int)<=1) (1<aF e.1.tables) (bU D 13 (gL v1.enc) (λs7 h7=>kS (λQ E=>aA (Gc z b (lF Q E 0)) (nR (o+5+4) Q) (∀(m6:MH),oX z m6 b Q (o+5+4) (aM s7) E->∃(u:bX×MH×PH),aA (I4 u) cW (aA dM yJ (bS (kK e.1 u.1) m6 (oW u) h7 (kQ u)))))))))))))))))))))) (∃(u:bX×MH×PH),aA (I4 u) cW (aA dM yJ (bS (kK e.1 u.1) j (oW u) (kQ e) (kQ u))))))/\∀(u:bX×MH×PH),I4 u->K (gV (cD u.1)) (oW u) (kQ u))))))))))))))))
def UK(cb:Nat)(m:MH)(h:PH)(K:dk):Prop:=
  ∃(c:Nat),aA (uD cb=uD c) (aU m h c) (∀(t n:Nat)(i:Int)(w:List cR)(s:bX),iM (λy z=>DC m h c t n i w s y z->∃(I:Nat×bX×MH×PH->Prop)(A:Nat×bX×MH×PH->Nat),(∃(x:Nat×bX×MH×PH),aA (I x) cW (aA bJ (cJ s.tables x.2.1.tables) (aA (aZ x.1) yJ (aA (kK s x.2.1) (y=oW x.2) (bR z (kQ x.2))))))/\∀(x:Nat×bX×MH×PH),I x->aW (↑x.1:Int) (aF x.2.1.tables) (aJ (λb o=>aI (aK (lW x.2.1) b o) (0<=(↑x.1:Int)) ((↑x.1:Int)<aF x.2.1.tables) (kS (λe E=>aA (Gc (oW x.2) b (lF e E 0)) (nR (bE o x.1 5+3) e) (∀(f:MH),oX (oW x.2) f b e (bE o x.1 5+3) lV E->aJ (λg j=>aI (aK (lW x.2.1) g j) (0<=(↑x.1:Int)) ((↑x.1:Int)<aF x.2.1.tables) (kS
 (λu E1=>aA (Gc f g (lF u E1 0)) (nR (bE j x.1 5+4) u) (∀(B:MH),oX f B g u (bE j x.1 5+4) lV E1->∃(d:Nat×bX×MH×PH),aA (I d) (A d<A x) (aA cW bJ (aA (cJ x.2.1.tables d.2.1.tables) (eR (bF ((↑x.1:Int)+1))=bL d.1) (aA yJ (kK x.2.1 d.2.1) (bG B (oW d.2) (kQ x.2) (kQ d.2)))))))))))))) (K (gV (cD x.2.1)) (oW x.2) (kQ x.2))))
theorem X9{α:Type}(l:List α)(o:Nat)(x:α)(h:o<l.length):splice l o [x]=l.set o x:=by
 rw[set_eq_take_append_cons_drop,if_pos h];simp[splice]
theorem flatten_set:∀(ws:List cR){i k:Nat}{w w':cR}{x:Value},ws[i]? =some w->k<5->w'.enc=w.enc.set k x->((ws.map cR.enc).flatten).set (i*5+k) x=((ws.set i w').map cR.enc).flatten
 |[],i,k,w,w',x,h,_,_=>by simp at h
 |u::ws,0,k,w,w',x,h,c,e=>by
  simp at h;subst h;simp only[map_cons,flatten_cons,set_cons_zero,Nat.zero_mul,Nat.zero_add,e];rw[set_append_left _ _ (by simpa[cR.enc]using c)]
 |u::ws,i+1,k,w,w',x,h,c,e=>by
  simp only[map_cons,flatten_cons,set_cons_succ];have d:u.enc.length=5:=rfl;rw[set_append_right _ _ aC,d,show(i+1)*5+k-5=i*5+k by omega,flatten_set ws cg c e]
theorem bfJ(ws:List cR):((ws.map cR.enc).flatten).length=ws.length*5:=by
 induction ws with
 |nil=>rfl
 |cons w ws c=>simp only[map_cons,flatten_cons,ct,c,de];show 5+_=_;omega
theorem Bk.big{d:Nat}{ws:List cR}{cs:Array Value}{E:TypeId}{e:Nat×Nat}(h:Bk m d ws)(c:m d=some (.cells cs E e)):ws.length*5<=cs.size:=by
 obtain⟨f,g,j⟩:=h.ex;rw[g]at c;simp only[cw,Obj.cells.injEq]at c;obtain⟨rfl,_,_⟩:=c;have:=congrArg List.length j;rw[bfJ]at this
 grind
theorem Bk.store{c:Nat}{ws:List cR}{w w':cR}{x:Value}(h:Bk m c ws)(f:ws[i]? =some w)(g:k<5)(e:w'.enc=w.enc.set k x){cs:Array Value}{E:TypeId}{j:Nat×Nat}(d:m c=some (.cells cs E j))
 (n:m' c=some (.cells (splice cs.toList (i*5+k) [x]).toArray E (0,0))):Bk m' c (ws.set i w'):=by
 have z:=h.big d;have o:=(cn f);obtain⟨t,u,y⟩:=h.ex;rw[u]at d;simp only[cw,Obj.cells.injEq]at d;obtain⟨rfl,rfl,_⟩:=d;refine⟨_,n,?_⟩;rw[X9 _ _ _ cg,length_set,toList_toArray,take_set,y];exact flatten_set ws f g e
theorem Bk.rd{d:Nat}{ws:List cR}(r:Bk m d ws){j:Nat}{w:cR}{x:Value}(f:ws[i]? =some w)(g:w.enc[j]? =some x):aR m h d (i*5+j) [x]:=by
 obtain⟨n,o,t⟩:=r.ex;refine .of_m o ?_;have c:=lJ (xs:=ws.map cR.enc) (sz:=5) (λe u=>by obtain⟨x,_,rfl⟩:=mem_map.1 u;rfl) (by rw[getElem?_map,f];rfl) j x g;rw[<-t,getElem?_take]at c;split at c
 .rw[drop_cons c];rfl
 grind
theorem b1J{g:Int}{j n u:Nat}{ws:List cR}{w:cR}{cols:List pB}{t:Nat}(H:t<n)(B:Bk m j ws)(C:ws[t]? =some w)(z:Gb h w.columns cols)(I:cols.length<=8)
 (D:∀sl h',PH.le h h'->Ints h' sl (cols.map pB.kind)->K (cS sl) m h'):L7 ⟨g,⟨some ⟨j,0,none⟩,n,u⟩⟩ t m h K:=by
 dsimp only[L7,push_cast];have x:=bI.slen z;refine aD (λE=>by omega) (λE=>aD (λF=>cg) (λF=>?_));refine⟨j,0,rfl,aC,aC,w.columns,?_,λ⟨i,sl,l⟩=>sl=w.columns/\i<=cols.length/\l=(cols.take i).map pB.kind,λ⟨i,_,_⟩=>cols.length-i,⟨(0,w.columns,[]),⟨rfl,bx,bx⟩,MT⟩,?_⟩
 .rw[Nat.zero_add,Int.toNat_natCast];exact B.rd C rfl
 rintro⟨i,_,_⟩ ⟨rfl,J,rfl⟩;dsimp only;refine aD (λf=>?_) (λG sl h' y d=>?_)
 .obtain⟨c,A⟩:=dO x f;obtain⟨b,o,e,r⟩:=Gb.at z A;refine⟨b,o,e,aC,f,c,.imm r,?_,?_,(i+1,w.columns,(cols.take (i+1)).map pB.kind),⟨rfl,aC,rfl⟩,aC,?_⟩
  .simp;omega
  .simp;omega
  .rw[iN A,cv];exact MT
 .rw[cu aC]at d;exact D sl h' y ⟨d,ce⟩
theorem Yz:di 46 aBZ:=by
 refine eA (fn:=Tryz.f46) (c:=cM Tryz.f46) func46 rfl bz ?_;rintro e m h K ⟨f,A,n,g,B,w,d,t,rfl,j,o,u,x,y,z⟩;refine⟨UM m h,rfl,aG,?_⟩;rw[<-b1Z];exact b1J j o u x y z
theorem OG.mono{t:A8}{w:cR}(x:OG h t w)(le:PH.le h h'):OG h' t w:=⟨x.name_,x.key_,bI.mono x.cols_ le λ_ _ e=>e⟩
theorem ahQ.mono{id:Int}{ws:List cR}(x:ahQ h id ws)(le:PH.le h h'):ahQ h' id ws:=⟨x.1,λi t e=>let⟨w,e1,e2⟩:=x.2 i t e;⟨w,e1,e2.mono le⟩⟩
theorem ahQ.set{id:Int}{ws:List cR}{w w':cR}(x:ahQ h id ws)(f:ws[i]? =some w)(g:w'.name=w.name)(n:w'.key=w.key)(o:w'.columns=w.columns):ahQ h id (ws.set i w'):=by
 refine⟨by rw[length_set];exact x.1,λj t e=>?_⟩;obtain⟨u,d,c⟩:=x.2 j t e;by_cases y:i=j
 .subst y;rw[f]at d;cases d;exact⟨w',cg,⟨by rw[g];exact c.name_,by rw[n];exact c.key_,by rw[o];exact c.cols_⟩⟩
 grind
theorem DC.on{m0 c:MH}{g d:PH}{e n:Nat}{id:Int}{ws:List cR}{s:bX}(x:DC m0 g cb e n id ws s m h)(le:PH.le h d)(j:bK m c cb)(t:aU c d cb):DC m0 g cb e n id ws s c d:=by
 refine⟨x.le_.trans le,x.ver0,x.ver1,t,x.n2,x.n4,x.sl_,x.id_,x.new_,x.ne_,?_,x.ws_.mono le,λb o u=>by rw[j.other b o];exact x.other_ b o u⟩;obtain⟨f,y,z⟩:=x.row_.ex;exact⟨f,by rw[j.other e x.ne_];exact y,z⟩
theorem DC.store{m0:MH}{t:PH}{c n:Nat}{id:Int}{ws:List cR}{s:bX}(x:DC m0 t cb c n id ws s m h){o:Nat}{w w':cR}{y:Value}(d:ws[i]? =some w)(z:k<5)(A:o=i*5+k)(e:w'.enc=w.enc.set k y)(B:w'.name=w.name)(C:w'.key=w.key)(D:w'.columns=w.columns){Q:MH->Prop}
 (F:∀m2,DC m0 t cb c n id (ws.set i w') s m2 h->Q m2):∃(cs:Array Value)(E:TypeId),Gc m c (.cells cs E (0,0))/\o<cs.size/\∀m2:MH,iD m m2 c (.cells (splice cs.toList o [y]).toArray E (0,0))->Q m2:=by
 obtain⟨f,g,L⟩:=x.row_.ex;have G:=(cn d);refine⟨f,87,⟨g⟩,by have:=x.row_.big g;omega,λm2 j=>F m2 ?_⟩;subst A;refine⟨x.le_,x.ver0,x.ver1,?_,x.n2,x.n4,x.sl_,x.id_,x.new_,x.ne_,x.row_.store d z e g j.at_,x.ws_.set d B C D,λb H u=>by rw[j.other b u];exact x.other_ b H u⟩;obtain⟨r,q,cs,k,I,J⟩:=x.case_;exact⟨r,q,cs,k,by rw[j.other cb x.ne_.symm];exact I,J⟩
theorem Lg{h:PH}{s:Sl}{l:List pB}(r:cE h s 2 (l.map pB.enc))(c:l.length<=8):Gb h s l:=⟨⟨l,r,rfl,λi x e=>⟨x,e,rfl⟩⟩,aC⟩
theorem qE.tabs{m m':MH}{h:PH}{s:Sl}{w:cR}{ws:List cR}(x:qE m m' h s 87 5 ((w::ws).map cR.enc)):∃f d,s=⟨some ⟨f,0,none⟩,ws.length+1,d⟩/\ws.length+1<=d/\Bk m' f (w::ws)/\lZ m h f/\∀b,b≠f->m' b=m b:=by
 rcases x.row.ex with⟨_,e⟩|⟨b,d,g,e,j,n,_,o,t⟩
 .cases e
 .subst e;refine⟨b,d,bx,cg,⟨g,j,cg⟩,x.fresh b 0 rfl,λc u=>x.other c (λi e=>cg)⟩
theorem aSJ:di 39 ayX:=by
 refine fU func39 ?_;rintro a6 m h K ⟨cb,rfl,hc,hK⟩;refine⟨b2J cb,rfl,aE FD (aE rP (aE aPQ (aE Yz (aE Ij aG)))),WL cb m h K,bu,?_⟩;dsimp only[WL,push_cast];refine⟨cb,3,rfl,hc,λk m1 k0 k1 R c1=>?_⟩;have a':IntKind.i64.wrap (2+k)=2+k:=dL aC aC;rw[a'];refine⟨λ⟨n,id,D,I⟩=>2<=n/\n<=4/\(id=4\/id=5)/\I=h/\bK m D cb/\aU D h cb,⟨cb,5,rfl,aC,aC,c1,λr m2 o2 c2=>aB (λ_=>⟨(2+k,5,m2,h),⟨aC,aC,.inr rfl,rfl,R.trans o2,c2⟩,MT⟩) (λ_=>⟨(2+k,4,m2,h),⟨aC,aC,.inl rfl,rfl,R.trans o2,c2⟩,MT⟩)⟩,?_⟩;clear R c1 m1 a' k0 k1 k;rintro⟨n,id,m1,I⟩ ⟨n2,n4,a3,rfl,R,c1⟩;dsimp only;refine⟨cb,3,rfl,c1,λk m2 k0 k1 o2 c2=>?_⟩;refine⟨_,_,rfl,_,_,rfl,_,_,rfl,_,_,rfl,_,_,rfl,_,_,rfl,_,_,rfl,_,_,rfl,_,_,rfl,λs1 h1 a0 r1 s2 h2 S r2 s3 h3 E r3 s4 h4 y r4 tl m3 J=>?_⟩;obtain⟨d,f,rfl,L,M,T,O⟩:=qE.tabs (w:=⟨_,s1,1,cG,cG⟩) (ws:=[⟨_,s2,1,cG,cG⟩,⟨_,s3,2,cG,cG⟩,⟨_,s4,1,cG,cG⟩]) J;simp only[de,length_nil]at L;have U:PH.le I h4:=((a0.trans S).trans E).trans y
 have z:d≠cb:=λe=>by
  obtain⟨r,q,cs,j,q1,_⟩:=c2;have:=T.m_
  grind
 have a1:m d=none:=by rw[<-R.other d z, <-o2.other d z];exact T.m_
 have c3:aU m3 h4 cb:=by
  obtain⟨r,q,cs,j,q1,q2,q3⟩:=c2;exact⟨r,q,cs,j,cg,q2.mono U,q3⟩
 have S0:DC m I cb d n.toNat id _ ⟨k,⟨some ⟨d,0,none⟩,n.toNat,f⟩⟩ m3 h4:=⟨U,k0,cg,c3,aC,aC,⟨f,rfl,aC⟩,a3,a1,z,M,⟨rfl,λi t e=>?_⟩,λb n1 n2=>by rw[O b n2,o2.other b n1,R.other b n1]⟩
 rotate_left
 .match i,e with
  |0,e=>cases e;exact⟨_,rfl,⟨rfl,rfl,Lg (l:=[⟨_,_⟩,⟨_,_⟩]) (r1.mono ((S.trans E).trans y)) bz⟩⟩
  |1,e=>cases e;exact⟨_,rfl,⟨rfl,rfl,Lg (l:=[⟨_,_⟩,⟨_,_⟩,⟨_,_⟩,⟨_,_⟩]) (r2.mono (E.trans y)) bx⟩⟩
  |2,e=>cases e;exact⟨_,rfl,⟨rfl,rfl,Lg (l:=[⟨_,_⟩,⟨_,_⟩]) (r3.mono y) bz⟩⟩
  |3,e=>cases e;exact⟨_,rfl,⟨rfl,rfl,Lg (l:=[⟨_,_⟩]) r4 bx⟩⟩
  |i+4,e=>simp[tK]at e
 generalize a4:(cR.mk _ s1 1 cG cG::_)=a7 at S0;clear a4 M J r1 r2 r3 r4;have A:∀{ws:List cR}{i:Nat},ws.length=4->i<4->∃w,ws[i]? =some w:=λhl hi=>⟨_,cq aC⟩
 refine⟨aC,cg,λ⟨V,s,D,W⟩=>V=n/\∃ws,DC m I cb d n.toNat id ws s D W,⟨cb,2,rfl,aC,aC,c3,λr X o4 c4=>aB (λ_ s5 F a2 r5=>⟨d,0,rfl,aC,aC,λs6 h6 B r6=>?_⟩) (λ_=>⟨(n,⟨k,⟨some ⟨d,0,none⟩,n.toNat,f⟩⟩,X,h4),⟨rfl,_,S0.on (.refl _) o4 c4⟩,MT⟩)⟩,?_⟩
 .obtain⟨w,P⟩:=A (i:=1) S0.ws_.1 aC;exact(S0.on (a2.trans B) o4 (c4.mono (a2.trans B))).store (k:=3) (w':={w with references:=s6}) P aC rfl rfl rfl rfl rfl λx Y=>⟨(n,⟨k,⟨some ⟨d,0,none⟩,n.toNat,f⟩⟩,x,h6),⟨rfl,_,Y⟩,MT⟩
 clear S0 c3 O T a1 L U a0 S E y R o2 c1 c2;rintro⟨V,s,X,F⟩ ⟨rfl,ws,S0⟩;dsimp only;obtain⟨f,c,_⟩:=S0.sl_;have o:s.tables.a=some ⟨d,0,none⟩:=by rw[c]
 have G:s.tables.len=V.toNat:=by rw[c]
 refine⟨λ⟨n,s,D,W⟩=>n=V/\∃ws,DC m I cb d n.toNat id ws s D W,aD (λhn=>⟨cb,3,rfl,aC,aC,S0.case_,λr x Q H=>aB (λ_ s7 h7 u r7=>⟨d,0,o,aC,aC,λs8 h8 g r8=>?_⟩) (λ_=>⟨(V,s,x,F),⟨rfl,_,S0.on (.refl _) Q H⟩,MT⟩)⟩) (λ_=>⟨(V,s,X,F),⟨rfl,_,S0⟩,MT⟩),?_⟩
 .obtain⟨w,P⟩:=A (i:=2) S0.ws_.1 aC;exact(S0.on (u.trans g) Q (H.mono (u.trans g))).store (k:=3) (w':={w with references:=s8}) P aC rfl rfl rfl rfl rfl λx Y=>⟨(V,s,x,h8),⟨rfl,_,Y⟩,MT⟩
 clear S0 o G c;rintro⟨C,s,X,F⟩ ⟨rfl,ws,S0⟩;dsimp only;obtain⟨f,c,_⟩:=S0.sl_;have o:s.tables.a=some ⟨d,0,none⟩:=by rw[c]
 have G:s.tables.len=C.toNat:=by rw[c]
 refine⟨λ⟨s,D,W⟩=>∃ws,DC m I cb d C.toNat id ws s D W,aD (λhn=>⟨cb,3,rfl,aC,aC,S0.case_,λr x Q H=>aB (λ_ s7 h7 u r7=>⟨d,0,o,aC,aC,λs8 h8 g r8=>?_⟩) (λ_=>⟨(s,x,F),⟨_,S0.on (.refl _) Q H⟩,MT⟩)⟩) (λ_=>⟨(s,X,F),⟨_,S0⟩,MT⟩),?_⟩
 .obtain⟨w,P⟩:=A (i:=3) S0.ws_.1 aC;exact(S0.on (u.trans g) Q (H.mono (u.trans g))).store (k:=3) (w':={w with references:=s8}) P aC rfl rfl rfl rfl rfl λx Y=>⟨(s,x,h8),⟨_,Y⟩,MT⟩
 clear S0 o G c;rintro⟨s,X,F⟩ ⟨ws,S0⟩;dsimp only;obtain⟨f,c,_⟩:=S0.sl_;have o:s.tables.a=some ⟨d,0,none⟩:=by rw[c]
 have G:s.tables.len=C.toNat:=by rw[c]
 refine⟨λ⟨s,D,W⟩=>∃ws,DC m I cb d C.toNat id ws s D W,⟨cb,3,rfl,aC,aC,S0.case_,λr x Q H=>aB (λ_=>?_) (λ_=>⟨(s,x,F),⟨_,S0.on (.refl _) Q H⟩,MT⟩)⟩,λ⟨s,X,F⟩⟨ws,S0⟩=>hK _ _ _ _ _ _ _ S0⟩;have S1:=S0.on (.refl _) Q H;obtain⟨w,P,Z⟩:=S1.ws_.2 1 _ rfl;refine⟨s.version,d,C.toNat,f,ws,w,_,1,by rw[c];rfl,aC,S1.row_,P,Z.cols_,bx,λsl h6 B a5=>?_⟩;refine⟨cb,sl,cG,_,[],1,rfl,H.mono B,a5,⟨cE.nil _ _,bx⟩,bx,bx,aC,λa8 p m6 h7 u hp a9 o6 c6=>⟨d,0,o,aC,aC,λs8 h8 g r8=>?_⟩⟩;exact(S1.on ((B.trans u).trans g) o6 (c6.mono g)).store (k:=4) (w':={w with checks:=s8}) P aC rfl rfl rfl rfl rfl λx Y=>⟨(s,x,h8),⟨_,Y⟩,MT⟩
structure D8(s:lL):Prop where
 ex:∃ver n id,0<=ver/\ver<=2/\2<=n/\n<=4/\(id=4\/id=5)/\s=⟨ver,(tK id).take n⟩
def bJZ:Vc.Spec:=λc m h K=>∃cb,c=[cP cb]/\aU m h cb/\∀s v m' h',D8 s->fR h' s v->PH.le h h'->bK m m' cb->aU m' h' cb->K (aS v) m' h'
theorem Wm{f:FuncId}{fn:Func}(n:Tryz.prog.funcs[f]? =some fn){S:Vc.Spec}(j:∀c m h K,S c m h K->∃C:Ctx,C.P=Tryz.prog/\(∀g S,assoc C.specs g=some S->di g S)/\∃N:Prop,N=tB C fn (cM fn) (entry fn.ntmps c m h) (fJ h K)/\N)(o:fn.body=some (cM fn):=by rfl)(d:(fn.name== "runtime.NumGoroutine")=false:=by decide):di f S:=aNQ n o d λc m h K t=>let⟨C,hC,hs,N,e,hn⟩:=j c m h K t;⟨C,hC,hs,e▸hn⟩
theorem bgZ:di 9 bJZ:=by
 refine Wm func9 ?_;rintro W m h K ⟨cb,rfl,X,Y⟩;refine⟨csZ,rfl,aE aSJ aG,UK cb m h (fJ h K),bu,?_⟩;show UK cb m h (fJ h K);dsimp only[UK,push_cast];refine⟨cb,rfl,X,λd n id y s I J S1=>?_⟩;refine⟨λ⟨i,A,Z,B⟩=>A=s/\B=J/\i<=n/\∃y,DC m h cb d n id y s Z J/\∀j w,j<i->y[j]? =some w->w.references=cG/\w.checks=cG,λ⟨i,_,_,_⟩=>n-i,⟨(0,s,I,J),⟨rfl,rfl,aC,y,S1,λj w M=>by omega⟩,MT⟩,?_⟩;clear S1 y I;rintro⟨i,A,I,B⟩ ⟨rfl,rfl,L,y,S1,F⟩;dsimp only;obtain⟨a',G,O⟩:=S1.sl_;have C:A.tables.a=some ⟨d,0,none⟩:=by rw[G]
 have a0:A.tables.len=n:=by rw[G]
 have P:=S1.n4;refine aD (λH=>⟨d,0,C,aC,H,?_⟩) (λa1 f=>?_)
 .obtain⟨w,U⟩:∃w,y[i]? =some w:=⟨_,cq (by have:=S1.ws_.1;omega)⟩
  refine S1.store (i:=i) (k:=3) (w':={w with references:=cG}) U aC aC rfl rfl rfl rfl λm2 S2=>⟨d,0,C,aC,H,?_⟩
  have Q:=(cn U);have R:(y.set i {w with references:=cG})[i]? =some {w with references:=cG}:=getElem?_set_self Q;refine S2.store (i:=i) (k:=4) (w':={w with references:=cG,checks:=cG}) R aC aC rfl rfl rfl rfl λm3 S3=>⟨(i+1,A,m3,B),⟨rfl,rfl,aC,_,S3,λj u M hu=>?_⟩,aC,MT⟩
  grind
 .have f:=f;obtain⟨D,z,S⟩:=S1.row_.ex;have a2:∀i,B d i=none:=f d _ z
  have c:PH.le B (λx i=>if x=d then D[i]? else B x i):=⟨λx i v e=>by
   grind⟩
  refine⟨λb=>if b=d then none else I b,λx i=>if x=d then D[i]? else B x i,λb o e=>?_,S1.le_.trans c,λx i v e=>?_,Y ⟨A.version,(tK id).take n⟩ A _ _ ⟨⟨_,_,_,S1.ver0,S1.ver1,S1.n2,S1.n4,S1.id_,rfl⟩⟩ ⟨rfl,?_⟩ (S1.le_.trans c) ⟨λb hb=>?_⟩ ?_⟩
  .grind
  .by_cases E:x=d
   .subst E;simp at e;exact .inr ⟨D,87,(0,0),z,e,bx⟩
   .simp[E]at e;exact .inl e
  .have V:=S1.ws_.1;have P:=S1.n4;refine⟨⟨y.take n,⟨cg,.inr ⟨d,0,C,λi e L=>⟨λj v M=>?_⟩⟩,cg⟩,by simp[tK];omega,λi t e=>?_⟩,cg⟩
   .rw[map_take,getElem?_take]at L;split at L
    .have J:=lJ (xs:=y.map cR.enc) (sz:=5) (λe he=>by obtain⟨x,_,rfl⟩:=mem_map.1 he;rfl) L j v M
     grind
    grind
   .rw[getElem?_take]at e;split at e
    .rename_i a3;obtain⟨w,e1,e2⟩:=S1.ws_.2 i t e;obtain⟨z1,z2⟩:=F i w aC e1;have T:=e2.mono c
     have g:t.refs=[]/\t.checks=[]:=by
      match i,e with
      |0,e=>cases e;grind
      |1,e=>cases e;grind
      |2,e=>cases e;grind
      |3,e=>cases e;grind
      |i+4,e=>omega
     refine⟨w,cg,⟨T.name_,T.cols_,T.key_,by rw[z1,g.1];exact bI.nil _ _ _ _,by rw[z2,g.2];exact bI.nil _ _ _ _⟩⟩
    .cases e
  .by_cases E:b=d
   .subst E;simp[S1.new_]
   .simp[E];exact S1.other_ b hb E
  .obtain⟨r,q,cs,k,q1,q2,q3⟩:=S1.case_;exact⟨r,q,cs,k,cg,q2.mono c,q3⟩
def QW(q:Query):Prop:=
 match q with
 |.mk _ _ w _ _ _ _ _ args=>DD w/\∀a∈args,QW a
 termination_by SizeOf.sizeOf q
theorem Ul{op:Int}{on:dq}{args:ds}:
 QW (.mk op ta w co on gr od li args)↔DD w/\∀a∈args,QW a:=by rw[QW.eq_def]
def cEX(s:lL):Prop:=∀t,NN (kA s t)
structure bHZ(s:lL)(ps ks:dl)(q0 q:Query):Prop where
 qw:QW q
 siz:∀d,Bm d q0->NO d q
 kin:cEX s->NN ps->NN ks->ks≠[]->ks.length<=12->bM s ps q0=(ks,0)->bM s ps q=(ks,0)
def KQ(K:dk)(m:MH)(h:PH)(cb:Nat)(R:Query->Prop):Prop:=∀w q m' h',PH.le h h'->dZ h' q w->R q->bK m m' cb->aU m' h' cb->K (aQ w) m' h'
def axJ:Vc.Spec:=λc m h K=>∃cb sc p k v s ps ks q,c=[cP cb,aS sc,cS p,cS k,aQ v]/\aU m h cb/\fR h s sc/\nM s/\s.tables.length<=1000/\Ints h p ps/\ps.length<=1000/\Ints h k ks/\ks.length<=1000/\dZ h q v/\QW q/\KQ K m h cb (bHZ s ps ks q)
noncomputable def b2X(cb:Nat)(sc:bX)(p k:Sl)(v:QV):Ctx:=
 cT [(12,Ea),(46,y8),(40,bIX),(13,G6),(44,CE)] [(3,{A:=Int×Nat×MH×PH,st:=λ⟨f,n,m,h⟩=>bO 112 117 [(0,pv cb),(2,sv p),(3,sv k),(6,.at (.ptr 6 0)),(9,.at (.ptr 9 0)),(10,.at (.ptr 10 0)),(11,iv f),(12,iv n)] [(6,.cells 43 (sc.enc.map .val)),(9,.cells 38 (v.enc.map .val)),(10,.cells 38 (Cd.enc.map .val))] m h}),
  (9,{A:=Int×Nat×Int×Sl×dl×Nat×MH×PH,st:=λ⟨f,n,t,c,d,i,m,h⟩=>bO 112 117 [(0,pv cb),(2,sv p),(3,sv k),(6,.at (.ptr 6 0)),(9,.at (.ptr 9 0)),(10,.at (.ptr 10 0)),(11,iv f),(12,iv n),(13,iv t),(14,sv c),(15,.at (.lst 75)),(45,sv k),(46,iv k.len),(47,iv i)] [(6,.cells 43 (sc.enc.map .val)),(9,.cells 38 (v.enc.map .val)),(10,.cells 38 (Cd.enc.map .val)),(75,.lst 3 1 (d.map eI))] m h}),
  (13,{A:=Int×Nat×Int×Sl×dl×Nat×Int×Int×Nat×MH×PH,st:=λ⟨f,n,t,c,d,i,e,g,j,m,h⟩=>bO 112 117 [(0,pv cb),(2,sv p),(3,sv k),(6,.at (.ptr 6 0)),(9,.at (.ptr 9 0)),(10,.at (.ptr 10 0)),(11,iv f),(12,iv n),(13,iv t),(14,sv c),(15,.at (.lst 75)),(17,iv e),(18,iv g),(45,sv k),(46,iv k.len),(47,iv i),(56,iv c.len),(57,iv j)] [(6,.cells 43 (sc.enc.map .val)),(9,.cells 38 (v.enc.map .val)),(10,.cells 38 (Cd.enc.map .val)),(75,.lst 3 1 (d.map eI))] m h})] [] [] false
abbrev mF:Prop:=eP 10
noncomputable abbrev BJ(a:Int×Nat×MH×PH):Nat->Option Obj:=a.2.2.1
noncomputable abbrev uA(a:Int×Nat×MH×PH):Nat->Nat->Option Value:=a.2.2.2
noncomputable abbrev BH(a:Int×Nat×Int×Sl×dl×Nat×MH×PH):Sl:=a.2.2.2.1
noncomputable abbrev BG(a:Int×Nat×Int×Sl×dl×Nat×MH×PH):Nat:=a.2.2.2.2.2.1
noncomputable abbrev BI(a:Int×Nat×Int×Sl×dl×Nat×MH×PH):dl:=a.2.2.2.2.1
noncomputable abbrev AM(a:Int×Nat×Int×Sl×dl×Nat×MH×PH):Nat->Option Obj:=a.2.2.2.2.2.2.1
noncomputable abbrev pV(a:Int×Nat×Int×Sl×dl×Nat×MH×PH):Nat->Nat->Option Value:=a.2.2.2.2.2.2.2
noncomputable abbrev sO(a:Int×Nat×Int×Sl×dl×Nat×Int×Int×Nat×MH×PH):Sl:=a.2.2.2.1
noncomputable abbrev Kl(a:Int×Nat×Int×Sl×dl×Nat×Int×Int×Nat×MH×PH):Int:=a.2.2.2.2.2.2.1
noncomputable abbrev HC(a:Int×Nat×Int×Sl×dl×Nat×Int×Int×Nat×MH×PH):Nat:=a.2.2.2.2.2.1
noncomputable abbrev H0(a:Int×Nat×Int×Sl×dl×Nat×Int×Int×Nat×MH×PH):Nat:=a.2.2.2.2.2.2.2.2.1
noncomputable abbrev Fk(a:Int×Nat×Int×Sl×dl×Nat×Int×Int×Nat×MH×PH):dl:=a.2.2.2.2.1
noncomputable abbrev EZ(a:Int×Nat×Int×Sl×dl×Nat×Int×Int×Nat×MH×PH):Nat->Option Obj:=a.2.2.2.2.2.2.2.2.2.1
noncomputable abbrev E0(a:Int×Nat×Int×Sl×dl×Nat×Int×Int×Nat×MH×PH):Nat->Nat->Option Value:=a.2.2.2.2.2.2.2.2.2.2
noncomputable abbrev Kk(a:Int×Nat×Int×Sl×dl×Nat×Int×Int×Nat×MH×PH):Int:=Int.tmod (bF (a.2.2.2.2.2.2.2.1+(↑(H0 a):Int))) (aF (sO a))
abbrev HD(a:Prop)(b c d:Nat)(e g:Sl)(i:Prop):Prop:=aA a (b<c) (aA (dE d) (aH e) (aA (aH g) gO (aA (eP 9) mF i)))
noncomputable abbrev Eu(a:PV)(b:Sl):dj:=bC (fE 2) cF (bC (fE a.op) (fE a.cmp) (bC (zL a) (zM a) (bC (fE (kU a.left)) (xI a) (bC (xJ a) (xM a) (bC (zR a) (zS a) (bC (zT a) (zU a) (bC (iI a.args) sC (bC sC sC (bC sC cF (aM b))))))))))
attribute [push_cast] mF BJ uA BH BG BI AM pV sO Kl HC H0 Fk EZ E0 Kk HD Eu
def WJ(cb:Nat)(sc:bX)(p k:Sl)(v:QV)(m:MH)(h:PH)(K:dk):Prop:=
  eW cb (bF (gE sc+1)) m h (λV W=>∃(I:Int×Nat×MH×PH->Prop)(M:Int×Nat×MH×PH->Nat),(∃(x:Int×Nat×MH×PH),aA (I x) (dE cb) (aA (aH p) (aH k) (aA gO (eP 9) (aA mF (dA V x.1) (aA (aZ x.2.1) (bP sc) (aA (dJ v) jC (bG W (BJ x) h (uA x))))))))/\∀(x:Int×Nat×MH×PH),I x->aW (↑x.2.1:Int) (aF sc.tables) (uW (gE sc=0)/\C1 (bD (gV (cD sc)) (Int.tmod (bF (x.1+(↑x.2.1:Int))) (gE sc))) (uA x) (λs D=>∃(I1:Int×Nat×Int×Sl×dl×Nat×MH×PH->Prop)(u:Int×Nat×Int×Sl×dl×Nat×MH×PH->Nat),(∃(f:Int×Nat×Int×Sl×dl×Nat×MH×PH),aA (I1 f) (dE cb) (aA (aH p) (aH k) (aA gO (eP 9) (aA mF (dA x.1 f.1) (aA (bV x.2.1 f.2.1) (dA (Int.tmod
 (bF (x.1+(↑x.2.1:Int))) (gE sc)) f.2.2.1) (aA (bA s (BH f)) (eL 75) (aA (aH k) (aY k) (aA (aZ (BG f)) (bP sc) (aA (dJ v) jC (aA (xP (BI f)) (BJ x=AM f) (bR D (pV f))))))))))))/\∀(f:Int×Nat×Int×Sl×dl×Nat×MH×PH),I1 f->aW (↑(BG f):Int) (aF k) (aJ (λb o=>aI (aK k.a b o) (0<=(↑(BG f):Int)) ((↑(BG f):Int)<aF k) (∃(y:Int),aR (AM f) (pV f) b (bE o (BG f) 1) (bQ y)/\eW cb (aF (BH f)) (AM f) (pV f) (λX C=>∃(I2:Int×Nat×Int×Sl×dl×Nat×Int×Int×Nat×MH×PH->Prop)(B:Int×Nat×Int×Sl×dl×Nat×Int×Int×Nat×MH×PH->Nat),(∃(e:Int×Nat×Int×Sl×dl×Nat×Int×Int×Nat×MH×PH),aA (I2 e) (dE cb)
 (aA (aH p) (aH k) (aA gO (eP 9) (aA mF (dA f.1 e.1) (aA (bV f.2.1 e.2.1) (dA f.2.2.1 e.2.2.1) (aA (bA (BH f) (sO e)) (eL 75) (aA (dA y (Kl e)) (dA X e.2.2.2.2.2.2.2.1) (aA (aH k) (aY k) (aA (bV (BG f) (HC e)) (cJ (BH f) (sO e)) (aA (aZ (H0 e)) (bP sc) (aA (dJ v) jC (aA (gU (dT (BI f)) (Fk e)) (C=EZ e) (bR (pV f) (E0 e))))))))))))))/\∀(e:Int×Nat×Int×Sl×dl×Nat×Int×Int×Nat×MH×PH),I2 e->aW (↑(H0 e):Int) (aF (sO e)) (uW (aF (sO e)=0)/\aJ (λS T=>aI (aK (sO e).a S T) (0<=Kk e) (Kk e<aF (sO e)) (∃(U:Int),aR (EZ e) (E0 e) S (cC T (Kk e) 1) (bQ U)/\dD
 U (Kl e) (iY (dT (Fk e)) 8 (∃(g:Int×Nat×Int×Sl×dl×Nat×MH×PH),HD (I1 g) (u g) (u f) cb p k (aA (dA e.1 g.1) (bV e.2.1 g.2.1) (aA (dA e.2.2.1 g.2.2.1) (bA (sO e) (BH g)) (aA (eL 75) (aH k) (aA (aY k) (eR (bF ((↑(HC e):Int)+1))=bL (BG g)) (aA (bP sc) (dJ v) (aA jC (gU (eG (dT (Fk e)) (bQ (Kk e))) (BI g)) (bG (EZ e) (AM g) (E0 e) (pV g)))))))))) (∃(g:Int×Nat×Int×Sl×dl×Nat×Int×Int×Nat×MH×PH),HD (I2 g) (B g) (B e) cb p k (aA (dA e.1 g.1) (bV e.2.1 g.2.1) (aA (dA e.2.2.1 g.2.2.1) (bA (sO e) (sO g)) (aA (eL 75) (dA (Kl e) (Kl g)) (aA (dA e.2.2.2.2.2.2.2.1 g.2.2.2.2.2.2.2.1) (aH k) (aA
 (aY k) (bV (HC e) (HC g)) (aA (cJ (sO e) (sO g)) (eR (bF ((↑(H0 e):Int)+1))=bL (H0 g)) (aA (bP sc) (dJ v) (aA jC (gU (dT (Fk e)) (Fk g)) (bG (EZ e) (EZ g) (E0 e) (E0 g)))))))))))))) (∃(g:Int×Nat×Int×Sl×dl×Nat×MH×PH),HD (I1 g) (u g) (u f) cb p k (aA (dA e.1 g.1) (bV e.2.1 g.2.1) (aA (dA e.2.2.1 g.2.2.1) (bA (sO e) (BH g)) (aA (eL 75) (aH k) (aA (aY k) (eR (bF ((↑(HC e):Int)+1))=bL (BG g)) (aA (bP sc) (dJ v) (aA jC (gU (dT (Fk e)) (BI g)) (bG (EZ e) (AM g) (E0 e) (pV g))))))))))))) (dD f.1 (gE sc) (∃(e:Int×Nat×MH×PH),HD (I e) (M e) (M x) cb p k (aA (dA f.1 e.1)
 (eR (bF ((↑f.2.1:Int)+1))=bL e.2.1) (aA (bP sc) (dJ v) (bS jC (AM f) (BJ e) (pV f) (uA e))))) (aW (↑(dT (BI f)).length:Int) (aF k) (∃(e:Int×Nat×MH×PH),HD (I e) (M e) (M x) cb p k (aA (dA f.1 e.1) (eR (bF ((↑f.2.1:Int)+1))=bL e.2.1) (aA (bP sc) (dJ v) (bS jC (AM f) (BJ e) (pV f) (uA e))))) (pL f.2.2.1 (λt=>jT cb 2 (AM f) (pV f) (λc r C=>lC (AM f) C c (pV f) (branch r (uH (λj z H=>mV (λE n=>∃(d:Nat),aA (uR cb 0::cA (BH f) (fW p 1)=uR j 0::cA z (fW H (↑d:Int))) (aU C (pV f) j) (aA (Ints (pV f) z E) (Ints (pV f) H n) (aI (eX E) (eX n) (nA d) (yI (pV f) (λF G B A=>
 yZ E n d G->bK C B j->kI B A j (bU A 21 (gL (C6 1 t)) (λJ L=>bU L 1 (dT (BI f)) (λO P=>bU P 21 (gL (Eu F J)) (λQ R=>K (gV (B4 3 cF cF (bC MX cF (bC cF cF (bC cF MX (bC sC (iI O) (bC sC sC (bC sC cF (aM Q))))))))) B R))))))))))/\∃(j:Nat),gQ (λz H=>mV (λE n=>∃(d:Nat),aA (uR cb 0::cA (BH f) (fW p 1)=uR j 0::cA z (fW H (↑d:Int))) (aU C (pV f) j) (aA (Ints (pV f) z E) (Ints (pV f) H n) (aI (eX E) (eX n) (nA d) (yI (pV f) (λF G B A=>yZ E n d G->bK C B j->kI B A j (bU A 21 (gL (C6 1 t)) (λJ L=>bU L 1 (dT (BI f)) (λO P=>bU P 21 (gL (Eu F J)) (fun
 Q R=>K (gV (B4 3 cF cF (bC MX cF (bC cF cF (bC cF MX (bC sC (iI O) (bC sC sC (bC sC cF (aM Q))))))))) B R))))))))))) (bU (pV f) 1 (dT (BI f)) (λz A=>bU A 21 (gL (C6 1 t)) (λJ L=>K (gV (B4 3 cF cF (bC MX cF (bC cF cF (bC cF MX (bC sC (iI z) (bC sC sC (bC sC cF (aM J))))))))) C L))))))))))) (uH (λc s t=>mV (λj n=>∃(d:Nat),aA (uR cb 0::cA k (fW p 1)=uR c 0::cA s (fW t (↑d:Int))) (aU (BJ x) (uA x) c) (aA (Ints (uA x) s j) (Ints (uA x) t n) (aI (eX j) (eX n) (nA d) (yI (uA x) (λF G u D=>yZ j n d G->bK (BJ x) u c->kI u D c (bU D 21 (gL v.enc) (λz A=>K (gV (Eu F z)) u
 A))))))))/\∃(c:Nat),gQ (λs t=>mV (λj n=>∃(d:Nat),aA (uR cb 0::cA k (fW p 1)=uR c 0::cA s (fW t (↑d:Int))) (aU (BJ x) (uA x) c) (aA (Ints (uA x) s j) (Ints (uA x) t n) (aI (eX j) (eX n) (nA d) (yI (uA x) (λF G u D=>yZ j n d G->bK (BJ x) u c->kI u D c (bU D 21 (gL v.enc) (λz A=>K (gV (Eu F z)) u A))))))))))
theorem rH(h:PH):Ints h cG []:=⟨cE.nil _ _,bx⟩
theorem wR(h:PH):jA h cG []:=⟨cE.nil _ _,bx⟩
theorem zE(h:PH):iV h cG []:=⟨cE.nil _ _,bx⟩
theorem G7(h:PH):dX h gM iJ:=KT (v:=iJ) rfl
theorem zI{h:PH}{s:Sl}{v:QV}{q:Query}(r:cE h s 21 [QV.enc v])(c:dZ h q v):wV h s [q]:=⟨⟨[v],r,rfl,λi x e=>by
 grind⟩,bx⟩
theorem Gp(h:PH)(t:Int):dZ h (.mk 1 t gM [] [] [] [] 0 []) ⟨1,t,iJ,cG,cG,cG,cG,0,cG⟩:=
 nS.rep ⟨rfl,rfl,G7 h,rH h,wR h,rH h,zE h,rfl,bI.nil _ _ _ _⟩
theorem FK{v:PV}{s:Sl}(c:dX h p v)(d:wV h s [q]):dZ h (.mk 2 0 p [] [] [] [] 0 [q]) ⟨2,0,v,cG,cG,cG,cG,0,s⟩:=
 nS.rep ⟨rfl,rfl,c,rH h,wR h,rH h,zE h,rfl,d⟩
theorem Na{h:PH}{c s:Sl}{cols:dl}{q:Query}(d:Ints h c cols)(e:wV h s [q]):dZ h (.mk 3 0 gM cols [] [] [] 0 [q]) ⟨3,0,iJ,c,cG,cG,cG,0,s⟩:=
 nS.rep ⟨rfl,rfl,G7 h,d,wR h,rH h,zE h,rfl,e⟩
theorem Eh:DD gM:=⟨rM,rM,trivial⟩
theorem OZ{op:Int}{on:dq}(c:DD w)(d:QW q):QW (.mk op ta w co on gr od li [q]):=Ul.2 ⟨c,λa e=>cg⟩
theorem NS(t:Int):QW (.mk 1 t gM [] [] [] [] 0 []):=Ul.2 ⟨Eh,λa c=>by simp at c⟩
theorem amX{a:Int}{n:Nat}(c:0<=a)(d:0<n):0<=a.tmod (n:Int)/\a.tmod (n:Int)<(n:Int):=by
 rw[Int.tmod_eq_emod_of_nonneg c];exact⟨Int.emod_nonneg _ aC,Int.emod_lt_of_pos _ aC⟩
theorem RY{k:dl}{op:Int}{on:dq}(c:arity op=1)(h:bM s ps q=(k,0)):bM s ps (.mk op ta w co on gr od li [q])=eU s ps (.mk op ta w co on gr od li [q]) k []:=by
 have e:eO s ps [q]=([k],0):=wK (by simp[h]);simp[bM,e,c]
theorem Uu(h:l.length<=12):nI l=(l,0):=if_pos h
theorem Yu{s:lL}{ps:dl}{t:Int}(c:0<=t)(d:t<s.tables.length)(e:(kA s t).length<=12):bM s ps (.mk 1 t gM [] [] [] [] 0 [])=(kA s t,0):=by
 have f:bM s ps (.mk 1 t gM [] [] [] [] 0 [])=eU s ps (.mk 1 t gM [] [] [] [] 0 []) [] []:=by simp[bM,eO,arity]
 rw[f];unfold eU;rw[if_neg (by simp[arity,dU])];dsimp only;rw[if_pos rfl,if_pos ⟨c,d⟩,Uu e]
theorem kinds_filter{k:dl}(h:bM s ps q=(k,0))(c:fH k ps w=0)(d:k.length<=12):bM s ps (.mk 2 0 w [] [] [] [] 0 [q])=(k,0):=by
 rw[RY bz h];unfold eU;rw[if_neg (by simp[arity,dU])];dsimp only;rw[if_neg bz,if_pos rfl,if_pos c,Uu d]
theorem Rj{k:dl}(h:bM s ps q=(k,0))(d:co≠[])(e:∀c∈co,F0 k c=true)(g:co.length<=12):bM s ps (.mk 3 0 gM co [] [] [] 0 [q])=(co.map λc=>k.getD c.toNat 0,0):=by
 rw[RY bz h];unfold eU;rw[if_neg (by simp[arity,dU])];dsimp only;rw[if_neg bz,if_neg bz,if_pos rfl,if_pos ⟨d,λj x f=>e x (cr f)⟩,Uu cg]
structure Jp(kt ks co:dl):Prop where
 in_:∀c∈co,F0 kt c=true
 eq_:(co.map λc=>kt.getD c.toNat 0)=ks
theorem Jp.kin{c ks:dl}(x:Jp c ks co)(h:bM s ps q=(c,0))(d:ks≠[])(f:ks.length<=12):bM s ps (.mk 3 0 gM co [] [] [] 0 [q])=(ks,0):=by
 have g:co.length=ks.length:=by rw[<-x.eq_,length_map]
 rw[Rj h (λe=>d (eq_nil_of_length_eq_zero cg)) x.in_ aC,x.eq_]
theorem Jp.snoc{d ks:dl}{c x:Int}(p:Jp d (ks.take i) co)(g:ks[i]? =some x)(j:F0 d c=true)(e:d.getD c.toNat 0=x):Jp d (ks.take (i+1)) (co++[c]):=
 ⟨λy f=>by
  rcases mem_append.1 f with f|f
  .exact p.in_ y f
  grind,by rw[cv,p.eq_,db,g,map_cons,map_nil,e];rfl⟩
theorem aSX:di 42 axJ:=by
 refine fU func42 ?_;rintro d' m h K ⟨cb,sc,p,k,v,s,ps,ks,q,rfl,hc,hs,h8,d0,hp,b',hk,a2,hq,b0,hK⟩;refine⟨b2X cb sc p k v,rfl,aE FD (aE Ii (aE Se (aE rP (aE Ij aG)))),WJ cb sc p k v m h K,by kernel_rfl,?_⟩;have d1:=hs.tables.slen;have b3:=hk.slen;have hw:IntKind.i64.wrap ((sc.tables.len:Int)+1)=(sc.tables.len:Int)+1:=dL aC aC;dsimp only[WJ,push_cast];rw[hw];refine⟨cb,_,rfl,hc,λf W f0 f1 o1 c1=>?_⟩;refine⟨λ⟨f,n,E,o⟩=>0<=f/\f<=sc.tables.len/\n<=sc.tables.len/\PH.le h o/\bK m E cb/\aU E o cb,λ⟨_,n,_,_⟩=>sc.tables.len-n,⟨(f,0,W,h),⟨f0,aC,aC,.refl _,o1,c1⟩,MT⟩,?_⟩;clear f0 f1 o1 c1 W hw;rintro⟨f,n,W,o⟩ ⟨f0,f1,hn,z,o1,c1⟩;dsimp only
 have C:∀(kk:Sl)(kl:dl)(E:MH)(o:PH)(Q:PV->Pred->MH->PH->Prop),Ints o kk kl->kl.length<=1000->PH.le h o->aU E o cb->(∀v p m' h',PH.le o h'->dX h' p v->yZ kl ps 1 p->bK E m' cb->aU m' h' cb->Q v p m' h')->
  ∃(D:Nat)(s t:Sl)(cols u:dl)(I:Nat),[CV.val (.pointer (some ⟨cb,0,none⟩)),CV.val (.slice kk.a kk.len kk.cap),CV.val (.slice p.a p.len p.cap),CV.val (.int .i64 1)]=[CV.val (.pointer (some ⟨D,0,none⟩)),CV.val (.slice s.a s.len s.cap),CV.val (.slice t.a t.len t.cap),CV.val (.int .i64 I)]/\aU E o D/\Ints o s cols/\Ints o t u/\cols.length<=1000/\u.length<=1000/\I<=1000/\
   ∀(v:PV)(p:Pred)(m':MH)(h':PH),PH.le o h'->dX h' p v->yZ cols u I p->bK E m' D->aU m' h' D->Q v p m' h':=λkk kl E o Q h1 h2 H h4 h5=>
  ⟨cb,kk,p,kl,ps,1,rfl,h4,h1,hp.mono H,h2,b',aC,λv p m' h' q1 q2 X q3 q4=>h5 v p m' h' q1 q2 X q3 q4⟩
 refine aD (λd2=>?_) (λd3=>?_)
 rotate_left
 .have fin:∀(w:PV)(p:Pred)(m':MH)(h':PH),PH.le o h'->dX h' p w->yZ ks ps 1 p->bK W m' cb->aU m' h' cb->∀(s:Sl)(c:PH),PH.le h' c->cE c s 21 [QV.enc v]->K (aQ ⟨2,0,w,cG,cG,cG,cG,0,s⟩) m' c:=λw p m' h' q1 q2 X q3 q4 s h2 U q6=>
   hK _ _ m' h2 ((z.trans q1).trans U) (FK (q2.mono U) (zI q6 (hq.mono ((z.trans q1).trans U)))) ⟨OZ X.vals b0,λd hf=>hf.filter,λ_ Y b4 _ J b5=>kinds_filter b5 (X.valid (by decide) b4 Y) J⟩ (o1.trans q3) (q4.mono U)
  exact⟨C k ks W o _ (hk.mono z) a2 z c1 fin,C k ks W o _ (hk.mono z) a2 z c1 fin⟩
 have b6:IntKind.i64.wrap (f+(n:Int))=f+(n:Int):=dL aC aC;rw[b6];refine⟨aC,sc,s,_,rfl,hs.mono z,h8,λA h2 a3 F=>?_⟩;have a4:=F.slen;obtain⟨T,hT⟩:∃T,(f+(n:Int)).tmod (sc.tables.len:Int)=T:=⟨_,rfl⟩
 have a5:=amX (a:=f+(n:Int)) (n:=sc.tables.len) aC aC;rw[hT]at F a4 a5⊢
 have b7:(kA s T).length<=8:=by
  unfold kA;split
  .simp
  .split
   .simp
   .rename_i t ht;simpa using h8 t (mem_of_getElem? ht)
 obtain⟨S,Z⟩:∃S,kA s T=S:=⟨_,rfl⟩
 have L:bM s ps (.mk 1 T gM [] [] [] [] 0 [])=(S,0):=by rw[Yu a5.1 aC aC,Z]
 have a':cEX s->NN S:=λx=>by rw[<-Z];exact x T
 rw[Z]at F a4 b7;refine⟨λ⟨f',n',t,B,cols,i,E,o⟩=>f'=f/\n'=n/\B=A/\t=T/\i<=ks.length/\cols.length<=i/\(cols.length=i->Jp S (ks.take i) cols)/\PH.le h2 o/\bK m E cb/\aU E o cb,λ⟨_,_,_,_,_,i,_,_⟩=>ks.length-i,⟨(f,n,T,A,[],0,W,h2),⟨rfl,rfl,rfl,rfl,aC,by simp,λ_=>⟨by simp,by simp⟩,.refl _,o1,c1.mono a3⟩,MT⟩,?_⟩;rintro⟨f',n',t,A,cols,i,m2,H⟩ ⟨rfl,rfl,rfl,rfl,hi,d4,b8,G,o2,c2⟩;dsimp only;have g:PH.le h H:=(z.trans a3).trans G;refine aD (λV=>?_) (λc7=>?_)
 .obtain⟨x,o⟩:=dO b3 V;obtain⟨b1,b9,e1,r1⟩:=(hk.mono g).at o;refine⟨b1,b9,e1,aC,V,x,.imm (by grind),cb,_,rfl,c2,λfr m3 d5 d6 o3 c3=>?_⟩;refine⟨λ⟨f2,n2,t2,B,a0,i2,M,y,j,E,hy⟩=>f2=f'/\n2=n'/\B=A/\t2=t/\a0=cols/\i2=i/\M=x/\E=m3/\hy=H/\j<=A.len/\y=fr,λ⟨_,_,_,_,_,_,_,_,j,_,_⟩=>A.len-j,⟨(f',n',t,A,cols,i,x,fr,0,m3,H),⟨rfl,rfl,rfl,rfl,rfl,rfl,rfl,rfl,rfl,aC,rfl⟩,MT⟩,?_⟩;rintro⟨f2,n2,t2,A,cols,i,M,y,j,m3,H⟩ ⟨rfl,rfl,rfl,rfl,rfl,rfl,rfl,rfl,rfl,hj,rfl⟩;dsimp only;refine aD (λc8=>?_) (λc9=>⟨(f2,n2,t2,_,_,_,_,_),⟨rfl,rfl,rfl,rfl,by show i+1<=ks.length;omega,by show cols.length<=i+1;omega,λe=>by grind,G,o2.trans o3,c3⟩,by grind,MT⟩);have c':IntKind.i64.wrap (y+(j:Int))=y+(j:Int):=dL aC aC;rw[c'];have hm:=amX (a:=y+(j:Int)) (n:=Sl.len _) aC (show 0<A.len by omega);obtain⟨b2,c0,e2,r2⟩:=(F.mono G).inb (n:=(y+(j:Int)).tmod (A.len:Int)) hm.1 aC;refine⟨aC,b2,c0,e2,hm.1,hm.2,_,.imm (by simpa using r2),aB (λek=>⟨by simp;omega,by simp;omega,(f2,n2,t2,_,cols++[(y+(j:Int)).tmod (A.len:Int)],i+1,_,_),⟨rfl,rfl,rfl,rfl,by grind,by simp;omega,λe=>?_,G,o2.trans o3,c3⟩,by grind,?_⟩) (λ_=>⟨(f2,n2,t2,A,cols,i,M,y,j+1,m3,H),⟨rfl,rfl,rfl,rfl,rfl,rfl,rfl,rfl,rfl,by grind,rfl⟩,by grind,MT⟩)⟩
  .have e:(cols++[(y+(j:Int)).tmod (A.len:Int)]).length=i+1:=e;rw[length_append]at e;exact(b8 (by simpa using e)).snoc o (by simp only[F0,Bool.and_eq_true,decide_eq_true_eq];omega) (by grind)
  .rw[map_append];exact MT
 .have a6:n'+1<=sc.tables.len:=by omega
  have d7:i=ks.length:=by omega
  refine aB (λ_=>⟨(f',n'+1,m2,H),⟨f0,f1,a6,g,o2,c2⟩,by grind,MT⟩) (λ_=>aD (λ_=>⟨(f',n'+1,m2,H),⟨f0,f1,a6,g,o2,c2⟩,by grind,MT⟩) (λd8=>⟨t,rfl,cb,2,rfl,aC,aC,c2,λr m4 o4 c4=>?_⟩))
  have O:Jp S ks cols:=by
   grind
  refine aB (λ_=>?_) (λ_ s1 h5 a7 r5 s2 h6 a1 r6=>?_)
  .have fin:∀(w:PV)(p:Pred)(m':MH)(h':PH),PH.le H h'->dX h' p w->yZ S ps 1 p->bK m4 m' cb->aU m' h' cb->∀(s:Sl)(c:PH),PH.le h' c->cE c s 21 [QV.enc ⟨1,t,iJ,cG,cG,cG,cG,0,cG⟩]->∀(a8:Sl)(P:PH),PH.le c P->cE P a8 1 (cols.map eI)->∀(a9:Sl)(R:PH),PH.le P R->cE R a9 21 [QV.enc ⟨2,0,w,cG,cG,cG,cG,0,s⟩]->K (aQ ⟨3,0,iJ,a8,cG,cG,cG,0,a9⟩) m' R:=λw p m' h' q1 q2 X q3 q4 s h5 U q6 s1 h6 q7 q8 s2 h7 q9 c5=>
    hK _ _ m' h7 ((((g.trans q1).trans U).trans q7).trans q9) (Na (cols:=cols) ⟨q8.mono q9,aC⟩ (zI c5 (FK (q2.mono ((U.trans q7).trans q9)) (zI (q6.mono (q7.trans q9)) (Gp _ t))))) ⟨OZ Eh (OZ X.vals (NS t)),λd _=>NO.three d (pA.one (pA.one pA.scan (by decide)) (by decide)),λc6 Y _ hn J _=>O.kin (kinds_filter L (X.valid (by decide) (a' c6) Y) aC) hn J⟩ ((o2.trans o4).trans q3) (q4.mono ((U.trans q7).trans q9))
   exact⟨C A S m4 H _ (F.mono G) aC g c4 fin,C A S m4 H _ (F.mono G) aC g c4 fin⟩
  .exact hK _ _ m4 h6 ((g.trans a7).trans a1) (Na (cols:=cols) ⟨r5.mono a1,aC⟩ (zI (v:=⟨1,t,iJ,cG,cG,cG,cG,0,cG⟩) r6 (Gp _ t))) ⟨OZ Eh (NS t),λd _=>NO.three d (pA.mono (pA.one pA.scan (by decide)) (by decide) (by decide) (by decide)),λ_ _ _ hn J _=>O.kin L hn J⟩ (o2.trans o4) (c4.mono (a7.trans a1))
def KQ2(K:dk)(m:MH)(h:PH)(cb:Nat)(s:lL)(ps:dl)(d:Nat):Prop:=∀w q m' h',PH.le h h'->dZ h' q w->QW q->Bm d q->(eF s ps q).2=0->bK m m' cb->aU m' h' cb->K (aQ w) m' h'
def ajQ(N:Nat):Vc.Spec:=λd m h K=>∃cb sc p s ps c,d=[cP cb,aS sc,cS p,cI c]/\aU m h cb/\fR h s sc/\cQ s=0/\s.tables≠[]/\Ints h p ps/\ps.length<=1000/\ps.all eH=true/\ -1<=c/\c<=1000/\(c+1).toNat<N/\KQ2 K m h cb s ps c.toNat
noncomputable def caJ(N:Nat)(cb:Nat)(sc:bX)(p:Sl):Ctx:=
 rI [(12,Ea),(40,bIX),(37,wW),(41,bKX),(42,axJ),(43,chQ),(44,CE),(10,ajQ N)] [(11,{A:=QV×QV×Sl×Int×MH×PH,st:=λ⟨a,q,k,n,m,h⟩=>bO 171 175 [(0,pv cb),(2,sv p),(5,.at (.ptr 5 0)),(8,.at (.ptr 8 0)),(10,.at (.ptr 10 0)),(11,sv k),(13,.at (.ptr 13 0)),(14,iv n)] [(5,.cells 43 (sc.enc.map .val)),(8,.cells 38 (Cd.enc.map .val)),(10,.cells 38 (a.enc.map .val)),(13,.cells 38 (q.enc.map .val))] m h})] [(7,{A:=Int×Int×QV×QV×Sl×MH×PH,st:=λ⟨d,op,a,q,k,m,h⟩=>bO 171 175 [(0,pv cb),(2,sv p),(3,iv d),(5,.at (.ptr 5 0)),(8,.at (.ptr 8 0)),(9,iv op),(10,.at (.ptr 10 0)),(11,sv k),(13,.at (.ptr 13 0))] [(5,.cells 43 (sc.enc.map .val)),(8,.cells 38 (Cd.enc.map .val)),(10,.cells 38 (a.enc.map .val)),(13,.cells 38 (q.enc.map .val))] m h}),
  (16,{A:=Int×Int×QV×QV×Sl×Bool×MH×PH,st:=λ⟨d,op,a,q,k,t,m,h⟩=>bO 171 175 [(0,pv cb),(2,sv p),(3,iv d),(5,.at (.ptr 5 0)),(8,.at (.ptr 8 0)),(9,iv op),(10,.at (.ptr 10 0)),(11,sv k),(13,.at (.ptr 13 0)),(59,iv op),(84,bv t)] [(5,.cells 43 (sc.enc.map .val)),(8,.cells 38 (Cd.enc.map .val)),(10,.cells 38 (a.enc.map .val)),(13,.cells 38 (q.enc.map .val))] m h}),
  (24,{A:=Int×QV×QV×Sl×Bool×MH×PH,st:=λ⟨op,a,q,k,t,m,h⟩=>bO 171 175 [(0,pv cb),(2,sv p),(5,.at (.ptr 5 0)),(8,.at (.ptr 8 0)),(10,.at (.ptr 10 0)),(11,sv k),(13,.at (.ptr 13 0)),(59,iv op),(122,bv t)] [(5,.cells 43 (sc.enc.map .val)),(8,.cells 38 (Cd.enc.map .val)),(10,.cells 38 (a.enc.map .val)),(13,.cells 38 (q.enc.map .val))] m h}),
  (20,{A:=QV×QV×QV×Sl×Sl×MH×PH,st:=λ⟨a,b,q,k,l,m,h⟩=>bO 171 175 [(0,pv cb),(2,sv p),(5,.at (.ptr 5 0)),(8,.at (.ptr 8 0)),(10,.at (.ptr 10 0)),(11,sv k),(13,.at (.ptr 13 0)),(15,.at (.ptr 15 0)),(16,sv l)] [(5,.cells 43 (sc.enc.map .val)),(8,.cells 38 (Cd.enc.map .val)),(10,.cells 38 (a.enc.map .val)),(13,.cells 38 (q.enc.map .val)),(15,.cells 38 (b.enc.map .val))] m h}),
  (30,{A:=QV×QV×MH×PH,frz:=true,st:=λ⟨a,q,m,h⟩=>bO 171 175 [(2,sv p),(5,.at (.ptr 5 0)),(8,.at (.ptr 8 0)),(10,.at (.ptr 10 0)),(13,.at (.ptr 13 0))] [(5,.cells 43 (sc.enc.map .val)),(8,.cells 38 (Cd.enc.map .val)),(10,.cells 38 (a.enc.map .val)),(13,.cells 38 (q.enc.map .val))] m h})] [] [36,1036,1033] [] false
abbrev Ky(a:Nat->bX->Sl->lL->dl->Int->Prop):Prop:=∃(x:Nat),EM (λc d=>Gx (λe f=>∃(g:Int),a x c d e f g))
abbrev HS(a:lL):Prop:=uW (a.tables=[])
abbrev H6(a:QV->Query->Prop):Prop:=∀(x:QV)(c:Query),a x c
abbrev Bz(a:eb)(b:Nat->Nat->Option Value)(c:lL->dl->Query->Sl->PH->Prop):Prop:=EM (λx j=>∃(n:QV),Gx (λd e=>∃(f:Query),aA (a=cV (cD x) (fP j (hX n))) (fR b d x) (aA (Ints b j e) (dZ b f n) (fT (λo g=>dN b g (Ints g o (eF d e f).1) (c d e f o g))))))
noncomputable abbrev Km(a:Int×Int×QV×QV×Sl×MH×PH):Sl:=a.2.2.2.2.1
abbrev sW:Prop:=eP 13
abbrev hU(a b:QV):Prop:=nK 38 a.enc=nK 38 b.enc
abbrev tQ(a:dz)(b:QV):Prop:=oQ 38 a=nK 38 b.enc
noncomputable abbrev sV(a:Sl×MH×PH):Nat->Option Obj:=a.2.1
noncomputable abbrev KB(a:Int×Int×QV×QV×Sl×MH×PH):Nat->Option Obj:=sV a.2.2.2.2
noncomputable abbrev uQ(a:Sl×MH×PH):Nat->Nat->Option Value:=a.2.2
noncomputable abbrev HX(a:Int×Int×QV×QV×Sl×MH×PH):Nat->Nat->Option Value:=uQ a.2.2.2.2
abbrev C7(a:Prop)(b:Nat)(c d e:Sl)(g:Prop):Prop:=aA a (dE b) (aA (aH c) dM (aA fF mF (aA (bA d e) sW g)))
noncomputable abbrev HW(a:QV×QV×Sl×Int×MH×PH):Nat->Option Obj:=a.2.2.2.2.1
noncomputable abbrev Fl(a:QV×QV×Sl×Int×MH×PH):Nat->Nat->Option Value:=a.2.2.2.2.2
noncomputable abbrev Uq(a:QV×QV×Sl×Int×MH×PH):Sl:=a.2.1.columns
noncomputable abbrev xZ(a:QV×QV×MH×PH):Nat->Option Obj:=a.2.2.1
noncomputable abbrev AO(a:QV×QV×MH×PH):Nat->Nat->Option Value:=a.2.2.2
noncomputable abbrev mM(a:Int×QV×QV×Sl×Bool×MH×PH):Sl:=a.2.2.2.1
noncomputable abbrev C8(a:Int×QV×QV×Sl×Bool×MH×PH):Bool:=a.2.2.2.2.1
noncomputable abbrev oP(a:Int×QV×QV×Sl×Bool×MH×PH):QV:=a.2.1
noncomputable abbrev DK(a:Int×QV×QV×Sl×Bool×MH×PH):QV:=a.2.2.1
noncomputable abbrev pH(a:Int×Int×QV×QV×Sl×Bool×MH×PH):QV:=DK a.2
noncomputable abbrev pT(a:Int×QV×QV×Sl×Bool×MH×PH):Nat->Option Obj:=a.2.2.2.2.2.1
noncomputable abbrev iR(a:Int×QV×QV×Sl×Bool×MH×PH):Nat->Nat->Option Value:=a.2.2.2.2.2.2
noncomputable abbrev HE(a:QV×QV×QV×Sl×Sl×MH×PH):Sl:=a.2.2.2.2.1
noncomputable abbrev qO(a:QV×QV×QV×Sl×Sl×MH×PH):QV:=a.2.2.1
noncomputable abbrev E3(a:QV×QV×QV×Sl×Sl×MH×PH):Nat->Option Obj:=sV a.2.2.2.2
noncomputable abbrev tU(a:QV×QV×QV×Sl×Sl×MH×PH):Nat->Nat->Option Value:=uQ a.2.2.2.2
abbrev Cq(a:Prop)(b:(List dj)->Prop):Prop:=a->∃(x:List dj),b x
abbrev Cp(a:Prop)(b:(List dj)->Prop):Prop:=a/\∃(x:List dj),b x
noncomputable abbrev KI(a:QV×QV×QV×Sl×Sl×MH×PH):Sl:=(qO a).args
noncomputable abbrev Kn(a:Int)(b:PV)(c:Sl):dz:=cH (fL a) dV (pQ b (cH Q9 Q9 (cH Q9 Q9 (iU dV (jR c)))))
attribute [push_cast] Ky HS H6 Bz Km sW hU tQ sV KB uQ HX C7 HW Fl Uq xZ AO mM C8 oP DK pH pT iR HE qO E3 tU Cq Cp KI Kn
def Xk(N:Nat)(cb:Nat)(sc:bX)(p:Sl)(S:Int)(m:MH)(h:PH)(K:dk):Prop:=
  eW cb 12 m h (λk Z=>aW S 1 (eW cb (ite (gE sc>1) (gE sc) 1) Z h (λF X=>pL F (λt=>K (gV (C6 1 t)) X h))) (cO (bF (1+k)==1) (eW cb (ite (gE sc>1) (gE sc) 1) Z h (λF X=>pL F (λt=>K (gV (C6 1 t)) X h))) (gE sc==0) (eW cb (ite (gE sc>1) (gE sc) 1) Z h (λF X=>pL F (λt=>K (gV (C6 1 t)) X h))) (Ky (λc s p1 s1 p2 d=>aA (uR cb 0::cV (cD sc) (fW p (kY S))=uR c 0::cV (cD s) (fW p1 d)) (aU Z h c) (aA (fR h s1 s) (cQ s1=0) (aA (HS s1) (Ints h p1 p2) (aA (eX p2) (eZ (Bd p2)) (aI (Int.negSucc 0<=d) (d<=1000) ((d+1).toNat<N) (H6 (λw q=>iM (λX h1=>dN h h1 (dZ h1 q w) (QW q->Bm d.toNat q->(eF s1 p2 q).2=0->bK Z X c->
 kI X h1 c (Bz (cV (cD sc) (fP p (hX w))) h1 (λ_ _ _ s2 h2=>∃(I:Int×Int×QV×QV×Sl×MH×PH->Prop),jN (λB u=>qE X u h2 B 38 21 (gL w.enc)->∃(x:Int×Int×QV×QV×Sl×MH×PH),aA (I x) (dE cb) (aA (aH p) (dA S x.1) (aA dM fF (aA (dA (bF (1+k)) x.2.1) mF (aA (bA s2 (Km x)) sW (aA (bP sc) jC (aA (hU w x.2.2.1) (tQ (cH (fL (bF (1+k))) dV (cH (fL 0) dV (cH dV dV (cH (fL 0) dV (cH OF dV (cH (fL 0) dV (cH dV OF (cH Q9 Q9 (cH Q9 Q9 (cH Q9 dV (kM (jR B)))))))))))) x.2.2.2.1) (aA (u=KB x) (h2=HX x) True))))))))/\∀(x:Int×Int×QV×QV×Sl×MH×PH),I x->∃(I1:QV×QV×MH×PH->Prop),dD x.2.1 3 (eW cb 3 (KB x) (HX x) (λF u=>
 ∃(I2:QV×QV×Sl×Int×MH×PH->Prop)(A:QV×QV×Sl×Int×MH×PH->Nat),(∃(f:QV×QV×Sl×Int×MH×PH),C7 (I2 f) cb p (Km x) f.2.2.1 (aA (dA F f.2.2.2.1) (bP sc) (aA jC (hU x.2.2.1 f.1) (bS (hU x.2.2.2.1 f.2.1) u (HW f) (HX x) (Fl f)))))/\∀(f:QV×QV×Sl×Int×MH×PH),I2 f->eK f.2.2.2.1 0 (eW cb (aF f.2.2.1) (HW f) (Fl f) (λP D=>∃(e:List dj),nQ (dC D (cX (Uq f)) 3 1 e) e 8 (jN (λB L=>dY D L (cX (Uq f)) B 3 1 (eG e (bQ P))->∃(j:QV×QV×Sl×Int×MH×PH),aA (I2 j) (A j<A f) (aA (dE cb) (aH p) (aA dM fF (aA mF (bA f.2.2.1 j.2.2.1) (aA sW (dA (kY f.2.2.2.1) j.2.2.2.1) (aA (bP sc) jC (aA (hU f.1 j.1)
 (tQ (cH (fL f.2.1.op) (zX f.2.1) (pQ f.2.1.where_ (cH (jR B) (jR f.2.1.on) (cH (jR f.2.1.group) (jR f.2.1.order) (iU (fL f.2.1.limit) (jR f.2.1.args)))))) j.2.1) (aA (L=HW j) (Fl f=Fl j) True))))))))))) (Bn (HW f) (Fl f)->∃(e:QV×QV×MH×PH),aA (I1 e) (aH p) (aA dM fF (aA mF sW (aA (bP sc) jC (aI (hU f.1 e.1) (hU f.2.1 e.2.1) (CG (HW f) (Fl f) (xZ e) (AO e)) True))))))) (∃(I2:Int×Int×QV×QV×Sl×Bool×MH×PH->Prop),dD x.2.1 4 (∃(f:Int×Int×QV×QV×Sl×Bool×MH×PH),aA (I2 f) (dE cb) (aA (aH p) (dA x.1 f.1) (aA dM fF (aA (dA x.2.1 f.2.1) mF (aA (bA (Km x) (mM f.2)) sW (aA (dA x.2.1 f.2.1) (xN (C8 f.2)) (aA (bP sc)
 jC (aA (hU x.2.2.1 (oP f.2)) (hU x.2.2.2.1 (pH f)) (bG (KB x) (pT f.2) (HX x) (iR f.2)))))))))) (∃(f:Int×Int×QV×QV×Sl×Bool×MH×PH),aA (I2 f) (dE cb) (aA (aH p) (dA x.1 f.1) (aA dM fF (aA (dA x.2.1 f.2.1) mF (aA (bA (Km x) (mM f.2)) sW (aA (dA x.2.1 f.2.1) (iL (x.2.1==5) (C8 f.2)) (aA (bP sc) jC (aA (hU x.2.2.1 (oP f.2)) (hU x.2.2.2.1 (pH f)) (bG (KB x) (pT f.2) (HX x) (iR f.2))))))))))/\∀(f:Int×Int×QV×QV×Sl×Bool×MH×PH),eT (I2 f) (C8 f.2) (Ky (λz B G H J Q=>aA (uR cb 0::cV (cD sc) (fW p (bF (f.1-2)))=uR z 0::cV (cD B) (fW G Q)) (aU (pT f.2) (iR f.2) z) (aA (fR (iR f.2) H B)
 (cQ H=0) (aA (HS H) (Ints (iR f.2) G J) (aA (eX J) (eZ (Bd J)) (aI (Int.negSucc 0<=Q) (Q<=1000) ((Q+1).toNat<N) (H6 (λT M=>iM (λu n=>dN (iR f.2) n (dZ n M T) (QW M->Bm Q.toNat M->(eF H J M).2=0->bK (pT f.2) u z->kI u n z (Bz (cV (cD sc) (fP p (hX T))) n (λ_ _ _ R U=>∃(I3:QV×QV×QV×Sl×Sl×MH×PH->Prop),dD f.2.1 4 (fA (bF (aF (mM f.2)+aF R)) 8 (∃(e:QV×QV×QV×Sl×Sl×MH×PH),C7 (I3 e) cb p (mM f.2) e.2.2.2.1 (aA (eP 15) (bA R (HE e)) (aA (bP sc) jC (aA (hU (oP f.2) e.1) (tQ (cH (fL 5) (zX (pH f)) (pQ (pH f).where_ (cH (jR (pH f).columns) (jR (pH f).on) (cH (jR (pH f).group) (jR (pH
 f).order) (iU (fL (pH f).limit) (jR (pH f).args)))))) (qO e)) (aA (hU T e.2.1) (u=E3 e) (bR U (tU e))))))) (∃(e:QV×QV×QV×Sl×Sl×MH×PH),C7 (I3 e) cb p (mM f.2) e.2.2.2.1 (aA (eP 15) (bA R (HE e)) (aA (bP sc) jC (aA (hU (oP f.2) e.1) (hU (pH f) (qO e)) (aA (hU T e.2.1) (u=E3 e) (bR U (tU e)))))))) (∃(e:QV×QV×QV×Sl×Sl×MH×PH),C7 (I3 e) cb p (mM f.2) e.2.2.2.1 (aA (eP 15) (bA R (HE e)) (aA (bP sc) jC (aA (hU (oP f.2) e.1) (hU (pH f) (qO e)) (aA (hU T e.2.1) (u=E3 e) (bR U (tU e)))))))/\∀(e:QV×QV×QV×Sl×Sl×MH×PH),I3 e->(∃(E:Nat),gQ (λV t=>mV (λa b=>aA (uR cb 0::dK e.2.2.2.1 (HE
 e)=uR E 0::dK V t) (aU (E3 e) (tU e) E) (aA (Ints (tU e) V a) (Ints (tU e) t b) (aA (eX a) (eX b) (∀(o:Sl)(W:dq),iM (λA O=>dN (tU e) O (jA O o W) (W.length<=10->bK (E3 e) A E->kI A O E (jN (λY D=>Cq (qE A D O Y 38 21 (gL e.2.1.enc)) (λj=>Cp (dC D (cX (KI e)) 38 21 j) (λy=>aA (cZ 21 y) (nC D O (cX Y) 21 y) (aA (mI j y 280) (mC j y) (∀(s8:Sl)(L:MH),dY D L (cX (KI e)) s8 38 21 (j++y)->Bn L O->∃(C:QV×QV×MH×PH),aA (I1 C) (aH p) (aA dM fF (aA mF sW (aA (bP sc) jC (aI (hU e.1 C.1) (tQ (cH (fL (qO e).op) (zX (qO e)) (pQ (qO e).where_ (cH (jR (qO e).columns) (jR o)
 (cH (jR (qO e).group) (jR (qO e).order) (iU (fL (qO e).limit) (jR s8)))))) C.2.1) (CG L O (xZ C) (AO C)) True))))))))))))))))))/\jN (λV A=>qE (E3 e) A (tU e) V 38 21 (gL e.2.1.enc)->∃(E:Nat),gQ (λY t=>mV (λa b=>aA (uR cb 0::dK e.2.2.2.1 (HE e)=uR E 0::dK Y t) (aU A (tU e) E) (aA (Ints (tU e) Y a) (Ints (tU e) t b) (aA (eX a) (eX b) (∀(o:Sl)(W:dq),iM (λD O=>dN (tU e) O (jA O o W) (W.length<=10->bK A D E->Cq (aU D O E) (λj=>Cp (dC D (cX (KI e)) 38 21 j) (λy=>aA (cZ 21 y) (nC D O (cX V) 21 y) (aA (mI j y 280) (mC j y) (∀(s8:Sl)(L:MH),dY D L (cX (KI e)) s8 38 21 (j++y)->Bn
 L O->∃(C:QV×QV×MH×PH),aA (I1 C) (aH p) (aA dM fF (aA mF sW (aA (bP sc) jC (aI (hU e.1 C.1) (tQ (cH (fL (qO e).op) (zX (qO e)) (pQ (qO e).where_ (cH (jR (qO e).columns) (jR o) (cH (jR (qO e).group) (jR (qO e).order) (iU (fL (qO e).limit) (jR s8)))))) C.2.1) (CG L O (xZ C) (AO C)) True)))))))))))))))))))))))))))) (∃(I3:Int×QV×QV×Sl×Bool×MH×PH->Prop),cO (f.2.1==6) (∃(e:Int×QV×QV×Sl×Bool×MH×PH),C7 (I3 e) cb p (mM f.2) (mM e) (aA (dA f.2.1 e.1) (xN (C8 e)) (aA (bP sc) jC (aA (hU (oP f.2) (oP e)) (hU (pH f) (DK e)) (aA (pT f.2=pT e) (iR f.2=iR e) True))))) (f.2.1==7) (∃(e:Int×QV×QV×Sl×Bool×MH×PH),
 C7 (I3 e) cb p (mM f.2) (mM e) (aA (dA f.2.1 e.1) (xN (C8 e)) (aA (bP sc) jC (aA (hU (oP f.2) (oP e)) (hU (pH f) (DK e)) (aA (pT f.2=pT e) (iR f.2=iR e) True))))) (∃(e:Int×QV×QV×Sl×Bool×MH×PH),C7 (I3 e) cb p (mM f.2) (mM e) (aA (dA f.2.1 e.1) (iL (f.2.1==8) (C8 e)) (aA (bP sc) jC (aA (hU (oP f.2) (oP e)) (hU (pH f) (DK e)) (aA (pT f.2=pT e) (iR f.2=iR e) True)))))/\∀(e:Int×QV×QV×Sl×Bool×MH×PH),I3 e->cO (C8 e) (∃(z:Nat)(B:bX),gQ (λG F=>∃(v:QV)(H:lL),mV (λJ P=>∃(M:Query),aA (uR cb 0::cV (cD sc) (cA p (fP (mM e) (hX (oP e))))=uR z 0::cV (cD B)
 (cA G (fP F (hX v)))) (aU (pT e) (iR e) z) (aA (fR (iR e) H B) (nM H) (aA (nA H.tables.length) (Ints (iR e) G J) (aA (eX J) (Ints (iR e) F P) (aI (eX P) (dZ (iR e) M v) (QW M) (H6 (λT q2=>iM (λu n=>dN (iR e) n (dZ n q2 T) (bHZ H J P M q2->bK (pT e) u z->kI u n z (jN (λR A=>Cq (qE u A n R 38 21 (gL T.enc)) (λj=>Cp (dC A (cX (DK e).args) 38 21 j) (λy=>aA (cZ 21 y) (nC A n (cX R) 21 y) (aA (mI j y 280) (mC j y) (∀(V:Sl)(D:MH),dY A D (cX (DK e).args) V 38 21 (j++y)->Bn D n->∃(C:QV×QV×MH×PH),aA (I1 C) (aH p) (aA dM fF (aA mF sW (aA (bP sc) jC (aI (hU (oP e) C.1)
 (tQ (qQ (DK e) (jR V)) C.2.1) (CG D n (xZ C) (AO C)) True))))))))))))))))))))) (e.1==9) (∃(z:Nat)(v:QV),DP (λB F=>aA (uR cb 0::iS (DK e).enc (mM e)=uR z 0::iS (Hu v v v (bC (kJ (nJ v)) (qI (fX v)) (bC (qJ (fX v)) (j8 (fX v)) (bC (lY (fX v)) (kJ (fX v)) (bC (Ex v) (Fo v) (bC (iI v.on) sC (bC sC (fE v.limit) (aM v.args)))))))) B) (aU (pT e) (iR e) z) (aA (Ints (iR e) B F) (eX F) (∀(g o:Sl)(P:Int)(g1:dl)(W:dr),iM (λu n=>dN (iR e) n (Ints n g g1) (iV n o W->g1.length<=F.length->W.length<=F.length->bY P->P<=3->bK (pT e) u z->aU u n z->Bn u n->∃(j:QV×QV×MH×PH),aA (I1 j) (aH p) (aA
 dM fF (aA mF sW (aA (bP sc) jC (aI (hU (oP e) j.1) (tQ (cH (fL v.op) (zX v) (pQ v.where_ (cH (jR v.columns) (jR v.on) (cH (jR g) (jR o) (iU (fL P) (jR v.args)))))) j.2.1) (CG u n (xZ j) (AO j)) True)))))))))) (dD e.1 10 (∃(z:Nat)(v:QV),DP (λB F=>aA (uR cb 0::iS (DK e).enc (mM e)=uR z 0::iS (Hu v v v (bC (kJ (nJ v)) (qI (fX v)) (bC (qJ (fX v)) (j8 (fX v)) (bC (lY (fX v)) (kJ (fX v)) (bC (Ex v) (Fo v) (bC (iI v.on) sC (bC sC (fE v.limit) (aM v.args)))))))) B) (aU (pT e) (iR e) z) (aA (Ints (iR e) B F) (eX F) (∀(g o:Sl)(P:Int)(g1:dl)(W:dr),iM (λu n=>dN (iR e) n (Ints n g g1) (iV n o W->
 g1.length<=F.length->W.length<=F.length->bY P->P<=3->bK (pT e) u z->kI u n z (∃(E:Nat)(H:bX),gQ (λG k3=>∃(v1:QV)(R:lL),mV (λJ k4=>∃(M:Query),aA (uR cb 0::cV (cD sc) (cA p (fP (mM e) (hX (oP e))))=uR E 0::cV (cD H) (cA G (fP k3 (hX v1)))) (aU u n E) (aA (fR n R H) (nM R) (aA (nA R.tables.length) (Ints n G J) (aA (eX J) (Ints n k3 k4) (aI (eX k4) (dZ n M v1) (QW M) (H6 (λT q2=>iM (λA U=>dN n U (dZ U q2 T) (bHZ R J k4 M q2->bK u A E->kI A U E (jN (λV D=>Cq (qE A D U V 38 21 (gL T.enc)) (λj=>Cp (dC D (cX v.args) 38 21 j) (λy=>aA (cZ 21 y) (nC D U (cX V) 21 y) (aA (mI j y 280)
 (mC j y) (∀(Y:Sl)(L:MH),dY D L (cX v.args) Y 38 21 (j++y)->Bn L U->∃(C:QV×QV×MH×PH),aA (I1 C) (aH p) (aA dM fF (aA mF sW (aA (bP sc) jC (aI (hU (oP e) C.1) (tQ (cH (fL v.op) (zX v) (pQ v.where_ (cH (jR v.columns) (jR v.on) (cH (jR g) (jR o) (iU (fL P) (jR Y)))))) C.2.1) (CG L U (xZ C) (AO C)) True))))))))))))))))))))))))))) (uH (λz B t=>mV (λE G=>∃(Q:Nat),aA (uR cb 0::cA (mM e) (fW p 2)=uR z 0::cA B (fW t (↑Q:Int))) (aU (pT e) (iR e) z) (aA (Ints (iR e) B E) (Ints (iR e) t G) (aI (eX E) (eX G) (nA Q) (yI (iR e) (λv J u n=>yZ E G Q J->bK (pT e) u z->kI u n z (∀(H:Sl)(A:MH),qE u A
 n H 38 21 (gL (oP e).enc)->Bn A n->∃(j:QV×QV×MH×PH),aA (I1 j) (aH p) (aA dM fF (aA mF sW (aA (bP sc) jC (aI (hU (oP e) j.1) (tQ (Kn 2 v H) j.2.1) (CG A n (xZ j) (AO j)) True)))))))))))/\jN (λB u=>qE (pT e) u (iR e) B 38 21 (gL (oP e).enc)->uH (λz H t=>mV (λE G=>∃(Q:Nat),aA (uR cb 0::cA (mM e) (fW p 2)=uR z 0::cA H (fW t (↑Q:Int))) (aU u (iR e) z) (aA (Ints (iR e) H E) (Ints (iR e) t G) (aI (eX E) (eX G) (nA Q) (yI (iR e) (λv J A n=>yZ E G Q J->bK u A z->aU A n z->Bn A n->∃(j:QV×QV×MH×PH),aA (I1 j) (aH p) (aA dM fF (aA mF sW (aA (bP sc) jC
 (aI (hU (oP e) j.1) (tQ (Kn 2 v B) j.2.1) (CG A n (xZ j) (AO j)) True)))))))))))))))/\∀(f:QV×QV×MH×PH),I1 f->Bz (cV (cD sc) (fP p (hX f.2.1))) (AO f) (λB G M _ n=>cK (eF B G M).2 0 (K (gV f.1.enc) (xZ f) n) (K (gV f.2.1.enc) (xZ f) n))))))))))))))))
structure eC(m0 m:MH)(s:Sl)(E:TypeId)(sz:Nat)(xs:List dj):Prop where
 row:dC m s E sz xs
 fresh:∀b i,s.a=some ⟨b,i,none⟩->m0 b=none
def Kept(m0 m:MH)(cb:Nat):Prop:=∀b o,m0 b=some o->b≠cb->m b=some o
theorem Kept.of{m0:MH}(h:bK m0 m cb):Kept m0 m cb:=λb o e n=>by rw[h.other b n];exact e
theorem Kept.on{m0:MH}(k:Kept m0 m cb)(h:bK m m' cb):Kept m0 m' cb:=λb o e n=>by rw[h.other b n];exact k b o e n
theorem aU.blk(c:aU m h cb):∃cs,m cb=some (.cells cs 83 (0,0)):=by
 obtain⟨r,q,cs,k,d,_⟩:=c
 grind
theorem aU.keep(c:aU m h cb)(e:m' cb=m cb)(le:PH.le h h'):aU m' h' cb:=by
 obtain⟨r,q,d,k,j,f,g⟩:=c;exact⟨r,q,d,k,cg,f.mono le,g⟩
theorem Kept.free{m0:MH}(k:Kept m0 m cb)(c:aU m h cb)(d:m b=none):m0 b=none:=by
 cases e:m0 b with
 |none=>rfl
 |some o=>
  by_cases f:b=cb
  .obtain⟨g,j⟩:=c.blk
   grind
  .rw[k b o e f]at d;cases d
theorem dC.nil(m:MH)(E:TypeId)(sz:Nat):dC m cG E sz []:=⟨⟨λ_ h=>by simp at h,λ_ h=>by simp at h⟩,.inl ⟨rfl,rfl⟩⟩
theorem eC.nil(m0 m:MH)(E:TypeId)(sz:Nat):eC m0 m cG E sz []:=⟨dC.nil m E sz,λb i e=>by cases e⟩
theorem eC.on{m0:MH}{s:Sl}{E:TypeId}(r:eC m0 m s E sz xs)(o:bK m m' cb)(c:aU m h cb)(f:E≠83):eC m0 m' s E sz xs:=by
 refine⟨dC.keep r.row (λb i e=>o.other b (λg=>?_)),r.fresh⟩;obtain⟨d,j⟩:=dC.blk r.row e;obtain⟨n,t⟩:=c.blk
 grind
theorem eC.new{m0:MH}{s t:Sl}{E E':TypeId}{c:Nat}{f:List dj}(r:eC m0 m s E sz xs)(x:qE m m' h t E' c f):eC m0 m' s E sz xs:=by
 refine⟨dC.keep r.row (λb i e=>x.other b (λj g=>?_)),r.fresh⟩;obtain⟨n,d⟩:=dC.blk r.row e;rw[(x.fresh b j g).m_]at d;cases d
theorem qE.frow{m0:MH}{s:Sl}{E:TypeId}(x:qE m m' h s E sz xs)(k:Kept m0 m cb)(c:aU m h cb):eC m0 m' s E sz xs:=⟨x.row,λb i e=>k.free c (x.fresh b i e).m_⟩
theorem qE.at_cb{s:Sl}{E:TypeId}(x:qE m m' h s E sz xs)(c:aU m h cb):m' cb=m cb:=x.other cb (λi e=>by
 obtain⟨f,d⟩:=c.blk;rw[(x.fresh cb i e).m_]at d;cases d)
theorem Kept.new{m0:MH}{s:Sl}{E:TypeId}(k:Kept m0 m cb)(x:qE m m' h s E sz xs):Kept m0 m' cb:=λb o e n=>by
 rw[x.other b (λi c=>by have:=(x.fresh b i c).m_;rw[k b o e n]at this;cases this)];exact k b o e n
theorem eC.grown{m0:MH}{s f:Sl}{E:TypeId}{g:List dj}(r:eC m0 m s E sz xs)(x:dY m m' s f E sz g)(k:Kept m0 m cb)(c:aU m h cb):eC m0 m' f E sz g:=
 ⟨x.row,λb i e=>by
  rcases x.fresh b i e with d|⟨j,d⟩
  .exact k.free c d
  .exact r.fresh b j d⟩
theorem eC.apart{m0:MH}{s t t':Sl}{E E':TypeId}{c:Nat}{g n:List dj}(r:eC m0 m s E sz xs)(q:eC m0 m t E' c g)(x:dY m m' t t' E' c n)(y:E≠E'):eC m0 m' s E sz xs:=by
 refine⟨dC.keep r.row (λb i e=>?_),r.fresh⟩;obtain⟨o,d⟩:=dC.blk r.row e;rw[d];refine x.other b _ d (λj u=>?_);obtain⟨f,z⟩:=dC.blk q.row u
 grind
theorem Kept.grown{m0:MH}{s c:Sl}{E:TypeId}{d:List dj}(k:Kept m0 m cb)(r:eC m0 m s E sz xs)(x:dY m m' s c E sz d):Kept m0 m' cb:=λb o e n=>x.other b o (k b o e n) (λi f=>by rw[r.fresh b i f]at e;cases e)
theorem dY.at_cb{m0:MH}{s d:Sl}{E:TypeId}{f:List dj}(x:dY m m' s d E sz f)(r:eC m0 m s E sz xs)(c:aU m h cb)(n:E≠83):m' cb=m cb:=by
 obtain⟨o,e⟩:=c.blk;rw[e];refine x.other cb _ e (λi g=>?_);obtain⟨j,t⟩:=dC.blk r.row g
 grind
theorem a7Z{sz:Nat}:∀{xs:List dj},(∀e∈xs,e.length=sz)->xs.flatten.length=xs.length*sz
 |[],_=>bx
 |x::xs,h=>by
  simp only[flatten_cons,ct,de];rw[a7Z (λe c=>h e (by simp[c])),h x bx,Nat.add_mul];omega
theorem dC.src{s:Sl}{E:TypeId}{x:dj}(r:dC m s E sz (x::xs)):nC m h s sz (x::xs):=by
 rcases r.ex with⟨_,e⟩|⟨b,d,c,rfl,f,_,_,_,g⟩
 .cases e
 .exact .lent b 0 c E (0,0) rfl rfl f cg
def oF(m0 m:MH):MH:=λb=>match m0 b with|some _=>m b|none=>none
def uI(m0 m:MH)(h:PH):PH:=λb i=>match m0 b,m b with|none,some (.cells c _ _)=>c[i]? |_,_=>h b i
theorem FE{m0 m:MH}{h:PH}(d:Bn m h):PH.le h (uI m0 m h):=⟨λb i v e=>by
 unfold uI;split
 .rename_i f E g j c;rw[d.disj b _ c i]at e;cases e
 .exact e⟩
theorem aMZ{m0:MH}(d:Bn m h):CG m h (oF m0 m) (uI m0 m h):=by
 refine⟨λb o e=>?_,FE d,λb i v e=>?_⟩
 .unfold oF at e
  grind
 .unfold uI at e;split at e
  .rename_i c E f g j;exact .inr ⟨c,E,f,j,e,by unfold oF;rw[g]⟩
  grind
theorem FT{p:Prop}(h:p:=by repeat' (first|with_reducible rfl|exact trivial|exact aMZ (by assumption)|refine⟨?_,?_⟩|rfl)):p:=h
theorem eC.ice{m0 m:MH}{h:PH}{s:Sl}{E:TypeId}{sz:Nat}{xs:List dj}(r:eC m0 m s E sz xs):cE (uI m0 m h) s sz xs:=by
 rcases r.row.ex with⟨rfl,rfl⟩|⟨b,f,g,rfl,u,c,_,_,n⟩
 .exact cE.nil _ _
 .have x:=r.fresh b 0 rfl;refine⟨rfl,.inr ⟨b,0,rfl,λi e o=>⟨λj v t=>?_⟩⟩,c⟩;have d:=lJ r.row.rows.len o j v t;rw[<-n,getElem?_take]at d;split at d
  .unfold uI
   grind
  .cases d
theorem keep_other{m0:MH}(k:Kept m0 m cb):bK m0 (oF m0 m) cb:=⟨λb c=>by
 unfold oF;cases e:m0 b with
 |none=>rfl
 |some o=>exact k b o e c⟩
theorem L2{m0:MH}(c:aU m h cb)(e:m0 cb≠none)(d:Bn m h):aU (oF m0 m) (uI m0 m h) cb:=c.keep (by
 unfold oF
 grind) (FE d)
def QA(d:Nat)(q:Query):Prop:=QW q/\NO d q
structure QM(d:Nat)(m0 m:MH)(h:PH)(v:QV)(vs:eh):Prop where
 wher:∃w,dX h w v.where_/\DD w
 cols:∃co:dl,eC m0 m v.columns 3 1 (co.map eI)/\co.length<=1000
 on_:∃l,jA h v.on l
 group_:∃l,Ints h v.group l
 order_:∃l,iV h v.order l
 args_:eC m0 m v.args 38 21 (vs.map QV.enc)
 len_:vs.length<=2
 reps:∀v∈vs,∃q,dZ h q v/\QA d q
 jl_:d<=1->v.op=4->∀u∈vs.drop 1,u.args.len=0
theorem VJ{d:Nat}{h:PH}:∀{vs:eh},(∀v∈vs,∃q,dZ h q v/\QA d q)->∃c:ds,c.length=vs.length/\(∀q∈c,QA d q)/\∀(i:Nat) q,c[i]? =some q->∃v,vs[i]? =some v/\dZ h q v
 |[],_=>⟨[],rfl,λq f=>by simp at f,λi q e=>by simp at e⟩
 |v::vs,g=>by
  obtain⟨q,f,j⟩:=g v bx;obtain⟨c,n,t,y⟩:=VJ (vs:=vs) (λu o=>g u (by simp[o]));refine⟨q::c,by simp[n],λx z=>cg,λi x e=>?_⟩
  grind
theorem QM.ice{n:Nat}{m0:MH}{vs:eh}(x:QM n m0 m h v vs)(d:Bn m h):∃q,dZ (uI m0 m h) q v/\QW q/\Bm (n+1) q:=by
 obtain⟨w,B,c⟩:=x.wher;obtain⟨co,C,D⟩:=x.cols;obtain⟨on,f⟩:=x.on_;obtain⟨gr,E⟩:=x.group_;obtain⟨od,g⟩:=x.order_;obtain⟨J,F,y,z⟩:=VJ x.reps;have le:=FE (m0:=m0) d;have L:=x.len_
 exact⟨_,nS.rep ⟨rfl,rfl,B.mono le,⟨C.ice,aC⟩,f.mono le,E.mono le,g.mono le,rfl,⟨⟨vs,x.args_.ice,F,λi q e=>let⟨v,j,o⟩:=z i q e;⟨v,j,o.mono le⟩⟩,aC⟩⟩,Ul.2 ⟨c,λa t=>(y a t).1⟩,Bm.node (λa t=>(y a t).2) aC λG f b H=>by
  obtain⟨i,A⟩:=mem_iff_getElem?.1 H;rw[getElem?_drop]at A;obtain⟨u,j,o⟩:=z _ b A;have:=x.jl_ G f u (mem_iff_getElem?.2 ⟨i,by rw[getElem?_drop];exact j⟩);obtain⟨M,O,P,Q,R,S,T,U,I⟩:=b;have V:=o.parts.args_.slen;exact length_eq_zero_iff.1 (by show I.length=0;omega)⟩
theorem QM.on{n:Nat}{m0:MH}{vs:eh}(x:QM n m0 m h v vs)(o:bK m m' cb)(c:aU m h cb)(le:PH.le h h'):QM n m0 m' h' v vs:=by
 obtain⟨w,j,d⟩:=x.wher;obtain⟨co,t,f⟩:=x.cols;obtain⟨on,u⟩:=x.on_;obtain⟨gr,y⟩:=x.group_;obtain⟨od,g⟩:=x.order_;exact⟨⟨w,j.mono le,d⟩,⟨co,t.on o c bz,f⟩,⟨on,u.mono le⟩,⟨gr,y.mono le⟩,⟨od,g.mono le⟩,x.args_.on o c bz,x.len_,(λv z=>let⟨q,e,ew⟩:=x.reps v z;⟨q,e.mono le,ew⟩),x.jl_⟩
theorem QM.new{d:Nat}{m0:MH}{vs:eh}{t:Sl}{E:TypeId}{j:List dj}(x:QM d m0 m h v vs)(n:qE m m' h' t E sz j)(le:PH.le h h'):QM d m0 m' h' v vs:=by
 obtain⟨w,o,c⟩:=x.wher;obtain⟨co,u,f⟩:=x.cols;obtain⟨on,y⟩:=x.on_;obtain⟨gr,z⟩:=x.group_;obtain⟨od,g⟩:=x.order_;exact⟨⟨w,o.mono le,c⟩,⟨co,u.new n,f⟩,⟨on,y.mono le⟩,⟨gr,z.mono le⟩,⟨od,g.mono le⟩,x.args_.new n,x.len_,(λv A=>let⟨q,e,ew⟩:=x.reps v A;⟨q,e.mono le,ew⟩),x.jl_⟩
theorem a1Q{vs:eh}{u y:QV}(c:vs.length<=1)(d:y∈(vs++[u]).drop 1):y=u:=by
 rcases vs with _|⟨a,l⟩
 .simp at d
 .have e:l=[]:=length_eq_zero_iff.1 (by simp at c;simp[c]);subst e;exact mem_singleton.1 d
theorem QM.grow{d:Nat}{m0:MH}{e:QV}{vs:eh}{n:Sl}{u:QV}(x:QM d m0 m h v vs)(g:dY m m' v.args n 38 21 (vs.map QV.enc++[u.enc]))(k:Kept m0 m cb)(c:aU m h cb)(J:∃q,dZ h q u/\QA d q)(o:vs.length<=1)
 (t:e.where_=v.where_)(z:e.columns=v.columns)(A:∃l,jA h e.on l)(B:∃l,Ints h e.group l)(C:∃l,iV h e.order l)(D:e.args=n)(E:d<=1->e.op=4->u.args.len=0):QM d m0 m' h e (vs++[u]):=by
 obtain⟨co,F,j⟩:=x.cols;refine⟨by rw[t];exact x.wher,⟨co,by rw[z];exact F.apart x.args_ g bz,j⟩,A,B,C,by rw[D,cv];exact x.args_.grown g k c,ce,λv G=>?_,λf H y I=>?_⟩
 rotate_left
 .rw[a1Q o I];exact E f H
 rcases mem_append.1 G with f|f
 .exact x.reps v f
 grind
theorem anX(h:cQ s=0):CD s:=Classical.byContradiction λc=>by rw[sS c]at h;cases h
theorem zH(h:cQ s=0):nM s:=λt c=>by
 obtain⟨i,d⟩:=mem_iff_getElem?.1 c;have:=(anX h).2 i t d;exact this.1
theorem IU(h:cQ s=0):s.tables.length<=8:=(anX h).1
theorem IX(s:lL)(ps:dl)(q:Query):(eF s ps q).1.length<=12:=by
 unfold eF;split
 .split
  .split
   .exact z7 s ps q
   .simp[eN]
  .simp[eN]
 .simp[eN]
theorem Ui{t:Int}(c:cQ s=0)(d:ps.all eH=true)(e:0<=t)(f:t<s.tables.length):(eF s ps (.mk 1 t gM [] [] [] [] 0 [])).2=0:=by
 have g:=zH c
 have u:(kA s t).length<=12:=by
  unfold kA;split
  .simp
  .split
   .simp
   .rename_i x j;have:=g x (cr j)
    grind
 have n:bM s ps (.mk 1 t gM [] [] [] [] 0 [])=eU s ps (.mk 1 t gM [] [] [] [] 0 []) [] []:=by simp[bM,eO,arity]
 have o:uT (.mk 1 t gM [] [] [] [] 0 [])=true:=by rfl
 unfold eF;rw[if_pos c,if_pos d,if_pos o,n];unfold eU;rw[if_neg (by simp[arity,dU])];simp only[if_true];rw[if_pos ⟨e,f⟩];unfold nI
 grind
structure Mid(m0:MH)(h3:PH)(cb:Nat)(a q:QV)(mx:MH):Prop where
 case_:aU mx h3 cb
 kept:Kept m0 mx cb
 ex:∃o args,q=⟨o,0,iJ,cG,cG,cG,cG,0,args⟩/\eC m0 mx args 38 21 ([a].map QV.enc)
theorem Mid.qm{d:Nat}{m0 e:MH}{c:PH}{a q:QV}(x:Mid m0 c cb a q e)(n:∃f,dZ c f a/\QA d f):QM d m0 e c q [a]:=by
 obtain⟨o,args,rfl,g⟩:=x.ex;exact⟨⟨_,G7 c,Eh⟩,⟨[],eC.nil _ _ _ _,bx⟩,⟨_,wR _⟩,⟨_,rH _⟩,⟨_,zE _⟩,g,bx,(λv t=>cg),λ_ _ u j=>by simp at j⟩
theorem atJ:∀N,di 10 (ajQ N)
 |0=>by
  refine eA (fn:=Tryz.f10) (c:=cM Tryz.f10) func10 rfl bz ?_;rintro e' m h K ⟨cb,sc,p,s,ps,A,rfl,_,_,_,_,_,_,_,_,_,hN,_⟩;omega
 |N+1=>by
  refine fU func10 ?_;rintro e' m h K ⟨cb,sc,p,s,ps,A,rfl,hc,hs,he,b',hp,a0,a7,d0,d1,hN,hK⟩;refine⟨caJ N cb sc p,rfl,aE FD (aE Se (aE L8 (aE aSZ (aE aSX (aE aSQ (aE Ij (aE (atJ N) aG))))))),Xk N cb sc p A m h K,bu,?_⟩;have g3:=hs.tables.slen;have h8:=zH he;have g4:=IU he;have g5:0<s.tables.length:=length_pos_iff.2 b';have e8:(if(sc.tables.len:Int)>1 then(sc.tables.len:Int)else 1)=(sc.tables.len:Int):=by omega
  have e9:m cb≠none:=by obtain⟨cs,e⟩:=hc.blk;grind
  dsimp only[Xk,push_cast];rw[e8];refine⟨cb,12,rfl,hc,λk m1 k0 k1 o1 c1=>?_⟩;refine aD (λhd=>?_) (λhd=>aB (λ_=>?_) (λ_=>aB (λ_=>?_) (λ_=>?_)))
  .exact⟨cb,_,rfl,c1,λI m2 b9 f' o2 c2=>⟨I,rfl,hK _ _ m2 h (.refl _) (Gp h I) (NS I) (Bm.mono (d:=0) pA.scan (Nat.zero_le _)) (Ui he a7 b9 aC) (o1.trans o2) c2⟩⟩
  .exact⟨cb,_,rfl,c1,λI m2 b9 f' o2 c2=>⟨I,rfl,hK _ _ m2 h (.refl _) (Gp h I) (NS I) (Bm.mono (d:=0) pA.scan (Nat.zero_le _)) (Ui he a7 b9 aC) (o1.trans o2) c2⟩⟩
  .grind
  have f0:IntKind.i64.wrap (A-1)=A-1:=dL aC aC;have f1:IntKind.i64.wrap (A-2)=A-2:=dL aC aC;rw[f0];refine⟨cb,sc,p,s,ps,A-1,rfl,c1,hs,he,b',hp,a0,a7,aC,aC,aC,λa qa m2 h2 c' ra d3 a3 f2 o2 c2=>⟨sc,p,a,s,ps,qa,rfl,hs.mono c',hp.mono c',ra,λkk h3 c0 ik=>?_⟩⟩;have f3:=IX s ps qa;obtain⟨P,f4⟩:∃P,(A-1).toNat=P:=⟨_,rfl⟩
  have f5:A.toNat=P+1:=by omega
  rw[f4]at a3;have W:QA P qa:=⟨d3,a3.arg⟩
  generalize f6:(eF s ps qa).fst=ks at ik f3;clear f6;have B:PH.le h h3:=c'.trans c0;have X:dZ h3 qa a:=ra.mono c0;refine⟨λ⟨d,op,E,q,J,mx,L⟩=>d=A/\E=a/\J=kk/\L=h3/\Mid m h3 cb a q mx/\q.op=op,λR m3 j=>⟨(A,IntKind.i64.wrap (1+k),a,⟨IntKind.i64.wrap (1+k),0,iJ,cG,cG,cG,cG,0,R⟩,kk,m3,h3),⟨rfl,rfl,rfl,rfl,?_⟩,MT⟩,?_⟩
  .have I:=(Kept.of o1).on o2;have c3:=c2.mono c0;exact⟨⟨c3.keep (qE.at_cb j c3) (.refl _),I.new j,_,_,rfl,qE.frow j I c3⟩,rfl⟩
  rintro⟨A,op,E,q,J,mx,L⟩ ⟨rfl,rfl,rfl,rfl,y,G⟩;dsimp only;have F:∀(q:QV)(vs:eh)(C:MH)(D:PH),PH.le L D->Kept m C cb->aU C D cb->QM P m C D q vs->Bn C D->PH.le L (uI m C D)/\bK m (oF m C) cb/\aU (oF m C) (uI m C D) cb/\∃qq,dZ (uI m C D) qq q/\QW qq/\Bm (P+1) qq:=λq vs C D l k c x d=>⟨l.trans (FE d),keep_other k,L2 c e9 d,x.ice d⟩
  have join:∀(q:QV)(u:QV)(R:Sl)(C:MH)(D:PH)(Q:Sl->MH->Prop),PH.le L D->Kept m C cb->aU C D cb->QM P m C D q [E]->eC m C R 38 21 [u.enc]->(∃qu,dZ D qu u/\QA P qu)->
   (∀M m',(∀q':QV,q'.where_=q.where_->q'.columns=q.columns->(∃l,jA D q'.on l)->(∃l,Ints D q'.group l)->(∃l,iV D q'.order l)->q'.args=M->(P<=1->q'.op=4->u.args.len=0)->QM P m m' D q' [E,u])->Kept m m' cb->aU m' D cb->Q M m')->
   ∃xs,dC C ⟨q.args.a,q.args.len,q.args.cap⟩ 38 21 xs/\∃ys,cZ 21 ys/\nC C D ⟨R.a,R.len,R.cap⟩ 21 ys/\(xs.length+ys.length)*280<=140737488355328/\xs.length+ys.length<=140737488355328/\∀(M:Sl)(m':MH),dY C m' ⟨q.args.a,q.args.len,q.args.cap⟩ M 38 21 (xs++ys)->Q M m':=
   λq u R C D Q l k c x f hu hQ=>⟨_,x.args_.row,[u.enc],a8X [u],dC.src f.row,bx,bx,λM m' g=>hQ M m' (λq' e1 e2 e3 e4 e5 e6 e7=>x.grow g k c hu bx e1 e2 e3 e4 e5 e6 e7) (k.grown x.args_ g) (c.keep (dY.at_cb g x.args_ c bz) (.refl _))⟩
  refine⟨λ⟨Y,q,C,D⟩=>Y=E/\PH.le L D/\bK m C cb/\aU C D cb/\∃qq,dZ D qq q/\QW qq/\Bm (P+1) qq,aB (λ_=>?_) (λ_=>?_),?_⟩
  ·
   refine⟨cb,3,rfl,y.case_,λn m3 n0 n1 o3 c3=>?_⟩;refine⟨λ⟨Y,q,I,n,C,D⟩=>Y=E/\I=J/\D=L/\ -1<=n/\n<=2/\aU C L cb/\Kept m C cb/\QM P m C L q [E]/\∃co:dl,eC m C q.columns 3 1 (co.map eI)/\(co.length:Int)<=2-n,λ⟨_,_,_,n,_,_⟩=>(n+1).toNat,⟨(E,q,J,n,m3,L),⟨rfl,rfl,rfl,aC,aC,c3,y.kept.on o3,(y.qm ⟨qa,X,W⟩).on o3 y.case_ (.refl _),[],?_,cg⟩,MT⟩,?_⟩
   .obtain⟨o,args,rfl,hf⟩:=y.ex;exact eC.nil _ _ _ _
   clear y q G c3 o3 m3 n0 n1 n;rintro⟨Y,q,I,n,C,D⟩ ⟨rfl,rfl,rfl,n0,n1,cy,ky,qm,co,d4,g2⟩;dsimp only;refine aD (λhn=>⟨cb,_,rfl,cy,λc m4 _ _ o4 c4=>⟨_,(d4.on o4 cy bz).row,cg,cg,λM Z g=>?_⟩⟩) (λhn d=>⟨(Y,q,oF m C,uI m C D),⟨rfl,F q _ C D (.refl _) ky cy qm d⟩,FT⟩);have S:=d4.on o4 cy bz;have q4:=qm.on o4 cy (.refl _);have k4:=ky.on o4;have a4:eC m Z M 3 1 ((co++[c]).map eI):=by rw[cv];exact S.grown g k4 c4
   have f7:IntKind.i64.wrap (n-1)=n-1:=dL aC aC;rw[f7];refine⟨(Y,{q with columns:=M},I,n-1,Z,D),⟨rfl,rfl,rfl,cg,cg,c4.keep (dY.at_cb g S c4 bz) (.refl _),k4.grown S g,⟨q4.wher,⟨_,a4,cg⟩,q4.on_,q4.group_,q4.order_,q4.args_.apart S g bz,q4.len_,q4.reps,λ_ _ u hu=>by simp at hu⟩,_,a4,cg⟩,cg,MT⟩
  .refine⟨λ⟨d,op,Y,q,I,t,C,D⟩=>d=A/\Y=E/\I=J/\D=L/\Mid m L cb E q C/\(t=false->q.op≠4),aB (λ_=>⟨(A,op,E,q,J,true,mx,L),⟨rfl,rfl,rfl,rfl,y,λe=>by cases e⟩,MT⟩) (λe4=>⟨(A,op,E,q,J,op==5,mx,L),⟨rfl,rfl,rfl,rfl,y,λ_=>by rw[G];exact ne_of_beq_false e4⟩,MT⟩),?_⟩;clear y q mx G;rintro⟨A,op,E,q,J,t,mx,L⟩ ⟨rfl,rfl,rfl,rfl,y,G⟩;dsimp only at G⊢
   refine aB (λ_=>?_) (λet=>?_)
   ·
    rw[f1];refine⟨cb,sc,p,s,ps,A-2,rfl,y.case_,hs.mono B,he,b',hp.mono B,a0,a7,aC,aC,aC,λb qb Z T z rb d5 d6 _ o5 c5=>⟨sc,p,b,s,ps,qb,rfl,hs.mono (B.trans z),hp.mono (B.trans z),rb,λl h6 O il=>?_⟩⟩;have d7:QA P qb:=⟨d5,(d6.mono aC).arg⟩
    have d8:P<=1->b.args.len=0:=λhd=>by
     have e0:Bm 0 qb:=by have:=d6;rwa [show(A-2).toNat=0 by omega]at this
     have e1:=pA.leaf e0;obtain⟨b0,b1,b2,b3,b4,b5,b6,b7,b8⟩:=qb;have h2:=rb.parts.args_.slen;have e1:b8=[]:=e1;rw[e1]at h2;simpa using h2
    have f8:=IX s ps qb;generalize g6:(eF s ps qb).fst=ls at il f8;have U:QM P m Z h6 q [E]:=(y.qm ⟨qa,X,W⟩).on o5 y.case_ (z.trans O);have k6:=y.kept.on o5;have V:=c5.mono O;refine⟨λ⟨Y,b2,q,I,l2,C,D⟩=>Y=E/\b2=b/\I=J/\l2=l/\D=h6/\aU C h6 cb/\Kept m C cb/\QM P m C h6 q [E],aB (λ_=>aD (λ_=>⟨(E,b,{q with op:=5},J,l,Z,h6),⟨rfl,rfl,rfl,rfl,rfl,V,k6,⟨U.wher,U.cols,U.on_,U.group_,U.order_,U.args_,U.len_,U.reps,λ_ _ u hu=>by simp at hu⟩⟩,MT⟩) (λ_=>⟨(E,b,q,J,l,Z,h6),⟨rfl,rfl,rfl,rfl,rfl,V,k6,U⟩,MT⟩)) (λ_=>⟨(E,b,q,J,l,Z,h6),⟨rfl,rfl,rfl,rfl,rfl,V,k6,U⟩,MT⟩),?_⟩;have d9:=rb.mono O;have a1:PH.le L h6:=z.trans O;clear U k6 V o5 c5 rb z y G q;rintro⟨Y,b,q,I,l,C,h6⟩ ⟨rfl,rfl,rfl,rfl,rfl,V,k6,U⟩;dsimp only;refine⟨⟨cb,I,l,ks,ls,rfl,V,ik.mono a1,il,aC,aC,λo on m7 h7 H d' _ o7 c7 R m8 j=>?_⟩,λR m7 j=>⟨cb,I,l,ks,ls,rfl,V.keep (qE.at_cb j V) (.refl _),ik.mono a1,il,aC,aC,λo on m8 h7 H d' _ o8 c8=>?_⟩⟩
    .have k7:=k6.on o7;refine join q b R m8 h7 _ (a1.trans H) (k7.new j) (c7.keep (qE.at_cb j c7) (.refl _)) ((U.on o7 V H).new j (.refl _)) (qE.frow j k7 c7) ⟨qb,d9.mono H,d7⟩ (λM m9 hq k9 c9 d=>?_);exact⟨(Y,{q with on:=o,args:=M},oF m m9,uI m m9 h7),⟨rfl,F _ _ m9 h7 (a1.trans H) k9 c9 (hq {q with on:=o,args:=M} rfl rfl ⟨on,d'⟩ (let⟨l,e⟩:=U.group_;⟨l,e.mono H⟩) (let⟨l,e⟩:=U.order_;⟨l,e.mono H⟩) rfl (λhd _=>d8 hd)) d⟩,FT⟩
    .have k7:=k6.new j;have c7:aU m7 h6 cb:=V.keep (qE.at_cb j V) (.refl _);have k8:=k7.on o8;refine join q b R m8 h7 _ (a1.trans H) k8 c8 ((U.new j (.refl _)).on o8 c7 H) ((qE.frow j k6 V).on o8 c7 bz) ⟨qb,d9.mono H,d7⟩ (λM m9 hq k9 c9 d=>?_);exact⟨(Y,{q with on:=o,args:=M},oF m m9,uI m m9 h7),⟨rfl,F _ _ m9 h7 (a1.trans H) k9 c9 (hq {q with on:=o,args:=M} rfl rfl ⟨on,d'⟩ (let⟨l,e⟩:=U.group_;⟨l,e.mono H⟩) (let⟨l,e⟩:=U.order_;⟨l,e.mono H⟩) rfl (λhd _=>d8 hd)) d⟩,FT⟩
   .replace G:=G et;refine⟨λ⟨op,Y,q,I,t,C,D⟩=>Y=E/\I=J/\D=L/\Mid m L cb E q C/\q.op≠4,aB (λ_=>⟨(op,E,q,J,true,mx,L),⟨rfl,rfl,rfl,y,G⟩,MT⟩) (λ_=>aB (λ_=>⟨(op,E,q,J,true,mx,L),⟨rfl,rfl,rfl,y,G⟩,MT⟩) (λ_=>⟨(op,E,q,J,op==8,mx,L),⟨rfl,rfl,rfl,y,G⟩,MT⟩)),?_⟩;clear y q mx G;rintro⟨op,E,q,J,t,mx,L⟩ ⟨rfl,rfl,rfl,y,G⟩;dsimp only at G⊢
    have q3:=y.qm ⟨qa,X,W⟩;refine aB (λ_=>?_) (λ_=>aB (λ_=>?_) (λ_=>aB (λ_=>?_) (λ_=>?_)))
    ·
     refine⟨cb,sc,p,J,E,s,ps,ks,qa,rfl,y.case_,hs.mono B,h8,aC,hp.mono B,a0,ik,aC,X,W.1,λw qw Z T z f9 a5 o5 c5 R m6 j=>?_⟩;have k5:=y.kept.on o5;refine join q w R m6 T _ z (k5.new j) (c5.keep (qE.at_cb j c5) (.refl _)) ((q3.on o5 y.case_ z).new j (.refl _)) (qE.frow j k5 c5) ⟨qw,f9,a5.qw,a5.siz P a3⟩ (λM m9 hq k9 c9 d=>?_);have q5:=q3.on o5 y.case_ z;exact⟨(E,{q with args:=M},oF m m9,uI m m9 T),⟨rfl,F _ _ m9 T z k9 c9 (hq {q with args:=M} rfl rfl q5.on_ q5.group_ q5.order_ rfl (λ_ e=>absurd e G)) d⟩,FT⟩
    ·
     obtain⟨o,args,rfl,hf⟩:=y.ex;refine⟨cb,⟨o,0,iJ,cG,cG,cG,cG,0,args⟩,J,ks,rfl,y.case_,ik,aC,λg od kk gr a8 Z T z hg a9 _ _ _ _ o5 c5 d=>?_⟩;have q5:=q3.on o5 y.case_ z;exact⟨(E,⟨o,0,iJ,cG,cG,g,od,kk,args⟩,oF m Z,uI m Z T),⟨rfl,F _ [E] Z T z (y.kept.on o5) c5 ⟨q5.wher,q5.cols,q5.on_,⟨gr,hg⟩,⟨a8,a9⟩,q5.args_,q5.len_,q5.reps,λ_ _ u hu=>by simp at hu⟩ d⟩,FT⟩
    ·
     obtain⟨o,args,rfl,hf⟩:=y.ex;refine⟨cb,⟨o,0,iJ,cG,cG,cG,cG,0,args⟩,J,ks,rfl,y.case_,ik,aC,λg od kk gr a8 Z T z hg a9 _ _ _ _ o5 c5=>?_⟩;have q5:=q3.on o5 y.case_ z;have g':QM P m Z T ⟨o,0,iJ,cG,cG,g,od,kk,args⟩ [E]:=⟨q5.wher,q5.cols,q5.on_,⟨gr,hg⟩,⟨a8,a9⟩,q5.args_,q5.len_,q5.reps,λ_ _ u hu=>by simp at hu⟩
     refine⟨cb,sc,p,J,E,s,ps,ks,qa,rfl,c5,hs.mono (B.trans z),h8,aC,hp.mono (B.trans z),a0,ik.mono z,aC,X.mono z,W.1,λw qw m6 h6 O g0 a5 o6 V R m7 j=>?_⟩;have k6:=(y.kept.on o5).on o6;refine join ⟨o,0,iJ,cG,cG,g,od,kk,args⟩ w R m7 h6 _ (z.trans O) (k6.new j) (V.keep (qE.at_cb j V) (.refl _)) ((g'.on o6 c5 O).new j (.refl _)) (qE.frow j k6 V) ⟨qw,g0,a5.qw,a5.siz P a3⟩ (λM m9 hq k9 c9 d=>?_);exact⟨(E,⟨o,0,iJ,cG,cG,g,od,kk,M⟩,oF m m9,uI m m9 h6),⟨rfl,F _ _ m9 h6 (z.trans O) k9 c9 (hq ⟨o,0,iJ,cG,cG,g,od,kk,M⟩ rfl rfl ⟨_,wR _⟩ ⟨gr,hg.mono O⟩ ⟨a8,a9.mono O⟩ rfl (λ_ e=>absurd e G)) d⟩,FT⟩
    ·
     refine⟨⟨cb,J,p,ks,ps,2,rfl,y.case_,ik,hp.mono B,aC,a0,aC,λpv pp Z T z rp d2 o5 c5 R m6 j d=>?_⟩,λR Z j=>⟨cb,J,p,ks,ps,2,rfl,y.case_.keep (qE.at_cb j y.case_) (.refl _),ik,hp.mono B,aC,a0,aC,λpv pp m6 T z rp d2 o6 V d=>?_⟩⟩
     .have k5:=y.kept.on o5;exact⟨(E,⟨2,0,pv,cG,cG,cG,cG,0,R⟩,oF m m6,uI m m6 T),⟨rfl,F _ [E] m6 T z (k5.new j) (c5.keep (qE.at_cb j c5) (.refl _)) ⟨⟨pp,rp,d2.vals⟩,⟨[],eC.nil _ _ _ _,bx⟩,⟨_,wR _⟩,⟨_,rH _⟩,⟨_,zE _⟩,qE.frow j k5 c5,bx,(λv hv=>by simp at hv;subst hv;exact⟨qa,X.mono z,W⟩),λ_ _ u hu=>by simp at hu⟩ d⟩,FT⟩
     .have k5:=y.kept.new j;have c5:aU Z L cb:=y.case_.keep (qE.at_cb j y.case_) (.refl _);exact⟨(E,⟨2,0,pv,cG,cG,cG,cG,0,R⟩,oF m m6,uI m m6 T),⟨rfl,F _ [E] m6 T z (k5.on o6) V ⟨⟨pp,rp,d2.vals⟩,⟨[],eC.nil _ _ _ _,bx⟩,⟨_,wR _⟩,⟨_,rH _⟩,⟨_,zE _⟩,(qE.frow j y.kept y.case_).on o6 c5 bz,bx,(λv hv=>by simp at hv;subst hv;exact⟨qa,X.mono z,W⟩),λ_ _ u hu=>by simp at hu⟩ d⟩,FT⟩
  .rintro⟨Y,q,C,D⟩ ⟨rfl,a6,oy,cy,qq,rq,g1,g7⟩;dsimp only;refine⟨sc,p,q,s,ps,qq,rfl,hs.mono (B.trans a6),hp.mono (B.trans a6),rq,λsl T z _=>aB (λe=>?_) (λe=>?_)⟩
   .exact hK Y qa C T ((B.trans a6).trans z) ((X.mono a6).mono z) W.1 (by rw[f5];exact a3.mono aC) f2 oy (cy.mono z)
   .exact hK q qq C T ((B.trans a6).trans z) (rq.mono z) g1 cg (cm e) oy (cy.mono z)
noncomputable def b5J(cb:Nat)(sc:bX)(p:Sl)(c:Int):Ctx:=
 cT [(12,Ea),(10,ajQ 1000),(13,G6),(37,wW),(44,CE)] [(3,{A:=Int×eh×MH×PH,st:=λ⟨n,xs,m,h⟩=>bO 73 78 [(0,pv cb),(2,sv p),(4,iv c),(6,.at (.ptr 6 0)),(11,.at (.lst 71)),(12,iv n)] [(6,.cells 43 (sc.enc.map .val)),(71,.lst 38 21 (xs.map QV.enc))] m h})] [(7,{A:=Int×eh×QV×Bool×MH×PH,st:=λ⟨n,xs,q,b,m,h⟩=>bO 73 78 [(0,pv cb),(2,sv p),(4,iv c),(6,.at (.ptr 6 0)),(11,.at (.lst 71)),(12,iv n),(13,.at (.ptr 13 0)),(37,bv b)] [(6,.cells 43 (sc.enc.map .val)),(13,.cells 38 (q.enc.map .val)),(71,.lst 38 21 (xs.map QV.enc))] m h}),
  (12,{A:=Int×eh×QV×MH×PH,st:=λ⟨n,xs,q,m,h⟩=>bO 73 78 [(0,pv cb),(2,sv p),(4,iv c),(6,.at (.ptr 6 0)),(11,.at (.lst 71)),(12,iv n),(13,.at (.ptr 13 0))] [(6,.cells 43 (sc.enc.map .val)),(13,.cells 38 (q.enc.map .val)),(71,.lst 38 21 (xs.map QV.enc))] m h})] [] true
noncomputable abbrev Da(a:Int×eh×MH×PH):Nat->Nat->Option Value:=a.2.2.2
noncomputable abbrev sP(a:Int×eh×QV×Bool×MH×PH):List dj:=wJ a.2.1
noncomputable abbrev C9(a:Int×eh×QV×Bool×MH×PH):Nat->Option Obj:=a.2.2.2.2.1
noncomputable abbrev KG(a:Int×eh×QV×Bool×MH×PH):Nat->Nat->Option Value:=a.2.2.2.2.2
abbrev Hq(a:Int×eh×QV×MH×PH->Prop)(b:Nat)(c:Sl)(d:Int)(e:Int×eh×QV×Bool×MH×PH)(g:bX)(i:(Int×eh×QV×MH×PH)->Prop)(j:Nat->Option Obj)(k:Nat->Nat->Option Value):Prop:=∃(x:Int×eh×QV×MH×PH),aA (a x) (dE b) (aA (aH c) (iF d) (aA gO (eL 71) (aA (dA e.1 x.1) sW (aA (bP g) (i x) (aA (bW 38 21 (sP e)=bW 38 21 (wJ x.2.1)) (j=x.2.2.2.1) (bR k x.2.2.2.2))))))
attribute [push_cast] Da sP C9 KG Hq
def WW(cb:Nat)(sc:bX)(p:Sl)(E g:Int)(m:MH)(h:PH)(K:dk):Prop:=
  eW cb (bF (E+1)) m h (λk m1=>∃(I:Int×eh×MH×PH->Prop)(W:Int×eh×MH×PH->Nat),(∃(x:Int×eh×MH×PH),aA (I x) (dE cb) (aA (aH p) (iF g) (aA gO (eL 71) (aA (dA k x.1) (bP sc) (bS (u9 38 21 (wJ x.2.1)) m1 x.2.2.1 h (Da x))))))/\∀(x:Int×eh×MH×PH),I x->fA x.1 0 (Ky (λc s X P Q d=>aA (uR cb 0::cV (cD sc) (fW p g)=uR c 0::cV (cD s) (fW X d)) (aU x.2.2.1 (Da x) c) (aA (fR (Da x) P s) (cQ P=0) (aA (HS P) (Ints (Da x) X Q) (aA (eX Q) (eZ (Bd Q)) (aI (Int.negSucc 0<=d) (d<=1000) ((d+1).toNat<1000) (H6 (λw q=>iM (λF A=>dN (Da x) A (dZ A q w) (QW q->Bm d.toNat q->(eF P Q q).2=0->bK x.2.2.1 F c->kI F
 A c (∃(I1:Int×eh×QV×MH×PH->Prop),(∃(I2:Int×eh×QV×Bool×MH×PH->Prop),fA (j7 (wJ x.2.1)) 0 (jT cb 4 F A (λo r n=>lC F n o A (∃(f:Int×eh×QV×Bool×MH×PH),aA (I2 f) (dE cb) (aA (aH p) (iF g) (aA gO (eL 71) (aA (dA x.1 f.1) sW (aA (iL r f.2.2.2.1) (bP sc) (aA (hU w f.2.2.1) (bW 38 21 (wJ x.2.1)=bW 38 21 (sP f)) (bG n (C9 f) A (KG f)))))))))) (∃(f:Int×eh×QV×Bool×MH×PH),aA (I2 f) (dE cb) (aA (aH p) (iF g) (aA gO (eL 71) (aA (dA x.1 f.1) sW (aA (wH f.2.2.2.1) (bP sc) (aA (hU w f.2.2.1) (bW 38 21 (wJ x.2.1)=bW 38 21 (sP f)) (bG F (C9 f) A (KG f))))))))/\∀(f:Int×eh×QV×Bool×MH×PH),eT (I2
 f) f.2.2.2.1 (oT 0 (sP f) (λe=>DN (sP f) 0 e/\∃(y:QV),List.take 21 (List.drop 0 e)=y.enc/\Bz (cV (cD sc) (fP p (hX y))) (KG f) (λ_ _ _ Y z=>oT 0 (sP f) (λZ=>DN (sP f) 0 Z/\∃(G:QV),aI (List.take 21 (List.drop 0 Z)=G.enc) ((∃(u:dj),DN (sP f) 0 u/\List.take 21 (List.drop 0 u)=G.enc)/\∃(o:Nat),gQ (λH t=>mV (λB C=>∃(D:Nat),aA (uR cb 0::cA Y (fW p 1)=uR o 0::cA H (fW t (↑D:Int))) (aU (C9 f) z o) (aA (Ints z H B) (Ints z t C) (aI (eX B) (eX C) (nA D) (yI z (λv R n J=>yZ B C D R->bK (C9 f) n o->kI n J o (bU J 21 (gL G.enc) (λL S=>Bz (cV (cD sc) (fP p (gV (Eu v L)))) S (λT
 U V _ M=>cK (eF T U V).2 0 (oT 0 (sP f) (λu=>DN (sP f) 0 u/\∃(O:QV),List.take 21 (List.drop 0 u)=O.enc/\Hq I1 cb p g f sc (λj=>hU O j.2.2.1) n M)) (Hq I1 cb p g f sc (λj=>tQ (Kn 2 v L) j.2.2.1) n M))))))))))) (∃(u:dj),DN (sP f) 0 u/\List.take 21 (List.drop 0 u)=G.enc) (uH (λo H t=>mV (λB C=>∃(D:Nat),aA (uR cb 0::cA Y (fW p 1)=uR o 0::cA H (fW t (↑D:Int))) (aU (C9 f) z o) (aA (Ints z H B) (Ints z t C) (aI (eX B) (eX C) (nA D) (yI z (λv R n J=>yZ B C D R->bK (C9 f) n o->kI n J o (bU J 21 (gL G.enc) (λL S=>Bz (cV (cD sc) (fP p (gV (Eu v L)))) S (λT U V _ M=>cK
 (eF T U V).2 0 (oT 0 (sP f) (λu=>DN (sP f) 0 u/\∃(O:QV),List.take 21 (List.drop 0 u)=O.enc/\Hq I1 cb p g f sc (λj=>hU O j.2.2.1) n M)) (Hq I1 cb p g f sc (λj=>tQ (Kn 2 v L) j.2.2.1) n M))))))))))))))) (Hq I1 cb p g f sc (λj=>hU f.2.2.1 j.2.2.1) (C9 f) (KG f)))/\∀(f:Int×eh×QV×MH×PH),I1 f->iY (wJ f.2.1) 280 (∃(j:Int×eh×MH×PH),aA (I j) (W j<W x) (aA (dE cb) (aH p) (aA (iF g) gO (aA (eL 71) (dA (kY f.1) j.1) (rZ (bP sc) (bW 38 21 (eG (wJ f.2.1) f.2.2.1.enc)=bW 38 21 (wJ j.2.1)) f.2.2.2.1 j.2.2.1 f.2.2.2.2 (Da j))))))))))))))))) (K (CV.lst 38 21 (wJ x.2.1)) x.2.2.1 (Da x)))
def Ro(h:PH)(xs:eh)(c:ds):Prop:=c.length=xs.length/\∀(i:Nat) q,c[i]? =some q->∃v,xs[i]? =some v/\dZ h q v
def ccJ(s:lL)(ps:dl)(d:Nat)(c:ds):Prop:=(∀q∈c,(QW q/\(eF s ps q).2=0)/\NO d q)/\∀q,c[0]? =some q->Bm d q
def XO:Vc.Spec:=λe m h K=>∃cb sc p s ps c d,e=[cP cb,aS sc,cS p,cI c,cI d]/\aU m h cb/\fR h s sc/\cQ s=0/\s.tables≠[]/\Ints h p ps/\ps.length<=1000/\ps.all eH=true/\0<=c/\c<=30/\0<=d/\d<=900/\
 ∀xs f m' h',PH.le h h'->Ro h' xs f->ccJ s ps d.toNat f->(f.length:Int)<=c->bK m m' cb->aU m' h' cb->K (.lst 38 21 (xs.map QV.enc)) m' h'
theorem Ro.mono{xs:eh}{c:ds}(r:Ro h xs c)(le:PH.le h h'):Ro h' xs c:=⟨r.1,λi q e=>let⟨v,e1,e2⟩:=r.2 i q e;⟨v,e1,e2.mono le⟩⟩
theorem Ro.snoc{xs:eh}{c:ds}(r:Ro h xs c)(f:dZ h q v):Ro h (xs++[v]) (c++[q]):=by
 refine⟨by simp[r.1],λi x e=>?_⟩;have g:=r.1;by_cases j:i<c.length
 .rw[getElem?_append_left j]at e;obtain⟨u,n,o⟩:=r.2 i x e;exact⟨u,by rw[getElem?_append_left aC];exact n,o⟩
 .rw[getElem?_append_right aC]at e;have d:=(cn e);simp at d;have:i=c.length:=by omega
  subst this;simp at e;subst e;exact⟨v,by rw[getElem?_append_right aC,g];simp,f⟩
theorem aXQ:di 23 XO:=by
 refine fU func23 ?_;rintro b5 m h K ⟨cb,sc,p,s,ps,c,d,rfl,hc,hs,he,a5,U,L,a6,m0,m1,d0,d1,hK⟩;refine⟨b5J cb sc p d,rfl,aE FD (aE (atJ 1000) (aE rP (aE L8 (aE Ij aG)))),WW cb sc p c d m h K,by kernel_rfl,?_⟩;have hw:IntKind.i64.wrap (c+1)=c+1:=dL aC aC;dsimp only[WW,push_cast];rw[hw];refine⟨cb,_,rfl,hc,λk V k0 k1 o1 c1=>?_⟩;refine⟨λ⟨n,xs,S,z⟩=>0<=n/\n<=c/\PH.le h z/\bK m S cb/\aU S z cb/\∃t,Ro z xs t/\ccJ s ps d.toNat t/\(t.length:Int)<=c-n,λ⟨n,_,_,_⟩=>n.toNat,⟨(k,[],V,h),⟨k0,by show k<=c;omega,.refl _,o1,c1,[],⟨rfl,λi q e=>by simp at e⟩,⟨λq hq=>by simp at hq,λq hq=>by simp at hq⟩,by simp;omega⟩,MT⟩,?_⟩;clear o1 c1 k0 k1 V hw;rintro⟨n,xs,S,z⟩ ⟨n0,n1,g,ox,cx,t,rp,j,b6⟩;dsimp only;have b7:xs.length=t.length:=rp.1.symm;refine aD (λhn=>?_) (λhn=>hK xs t S z g rp j aC ox cx);refine⟨cb,sc,p,s,ps,d,rfl,cx,hs.mono g,he,a5,U.mono g,L,a6,by show-1<=d;omega,aC,aC,λw q m2 H f rq qw fq a7 o2 c2=>?_⟩;refine⟨λ⟨n',M,W,F,O⟩=>n'=n/\M=xs/\PH.le H O/\bK S F cb/\aU F O cb/\∃q,dZ O q W/\(QW q/\(eF s ps q).2=0)/\NO d.toNat q/\(t=[]->Bm d.toNat q),?_,?_⟩
 .refine⟨λ⟨n',M,W,b,F,O⟩=>n'=n/\M=xs/\W=w/\O=H/\(b=true->0<xs.length)/\bK S F cb/\aU F H cb,aD (λhl=>⟨cb,4,rfl,aC,aC,c2,λr m3 o3 c3=>⟨(n,xs,w,r,m3,H),⟨rfl,rfl,rfl,rfl,λ_=>by simpa using hl,o2.trans o3,c3⟩,MT⟩⟩) (λ_=>⟨(n,xs,w,false,m2,H),⟨rfl,rfl,rfl,rfl,(λe=>(by cases e)),o2,c2⟩,MT⟩),?_⟩;rintro⟨n,xs,w,b,F,H⟩ ⟨rfl,rfl,rfl,rfl,hb,X,Y⟩;dsimp only;refine aB (λe=>?_) (λ_=>⟨(n,xs,w,F,H),⟨rfl,rfl,.refl _,X,Y,q,rq,⟨qw,a7⟩,fq.arg,λ_=>fq⟩,MT⟩);have b3:=hb e;have P:t[0]? =some (t[0]'(by omega)):=getElem?_eq_getElem _;obtain⟨Q,a8,R⟩:=rp.2 0 _ P;obtain⟨Z,a'⟩:=(j.1 _ (mem_of_getElem? P)).1;have I:=j.2 _ P;have a0:¬t=[]:=λe=>by have h0:=congrArg List.length e;rw[length_nil]at h0;omega
  have o:(xs.map QV.enc)[0]? =some (QV.enc Q):=by rw[getElem?_map,a8];rfl
  have A:(0:Int)<((xs.map QV.enc).length:Int):=by simp;omega
  have fin:∀(pv:PV)(B:Pred)(J:Sl)(G:MH)(C:PH),PH.le H C->dX C B pv->DD B->cE C J 21 [QV.enc Q]->dZ C (.mk 2 0 B [] [] [] [] 0 [t[0]'(by omega)]) ⟨2,0,pv,cG,cG,cG,cG,0,J⟩/\QW (.mk 2 0 B [] [] [] [] 0 [t[0]'(by omega)]):=λpv B J G C l1 l2 l3 l4=>⟨FK l2 (zI l4 (R.mono (f.trans l1))),OZ l3 Z⟩
  refine⟨aC,A,_,o,Q,rfl,sc,p,Q,s,ps,_,rfl,hs.mono (g.trans f),U.mono (g.trans f),R.mono f,λkk h3 D ik=>?_⟩;have a9:=IX s ps (t[0]'(by omega));generalize (eF s ps (t[0]'(by omega))).fst=ks at ik a9;have b4:∀(pv:PV)(B:Pred)(G:MH)(C:PH),PH.le h3 C->dX C B pv->DD B->bK F G cb->aU G C cb->True:=λ_ _ _ _ _ _ _ _ _=>trivial;refine⟨aC,A,_,o,Q,rfl,⟨⟨_,o,rfl⟩,cb,kk,p,ks,ps,1,rfl,Y.mono D,ik,U.mono ((g.trans f).trans D),aC,L,aC,λpv B G C a1 a2 a3 o5 c5 J h6 E r6=>?_⟩,⟨_,o,rfl⟩,cb,kk,p,ks,ps,1,rfl,Y.mono D,ik,U.mono ((g.trans f).trans D),aC,L,aC,λpv B G C a1 a2 a3 o5 c5 J h6 E r6=>?_⟩
  all_goals
   have T:=(D.trans a1).trans E;obtain⟨f1,f2⟩:=fin pv B J G h6 T (a2.mono E) a3.vals r6;refine⟨sc,p,⟨2,0,pv,cG,cG,cG,cG,0,J⟩,s,ps,_,rfl,hs.mono ((g.trans f).trans T),U.mono ((g.trans f).trans T),f1,λsl h7 u _=>aB (λe2=>?_) (λe2=>?_)⟩
   .exact⟨aC,A,_,o,Q,rfl,(n,xs,Q,G,h7),⟨rfl,rfl,T.trans u,X.trans o5,c5.mono (E.trans u),_,R.mono ((f.trans T).trans u),⟨Z,a'⟩,I.arg,λe=>(a0 e).elim⟩,MT⟩
   .exact⟨(n,xs,⟨2,0,pv,cG,cG,cG,cG,0,J⟩,G,h7),⟨rfl,rfl,T.trans u,X.trans o5,c5.mono (E.trans u),_,f1.mono u,⟨f2,by simpa using e2⟩,Bm.filter I,λe=>(a0 e).elim⟩,MT⟩
 .rintro⟨n,xs,W,F,O⟩ ⟨rfl,rfl,a4,X,Y,q2,b',b0,b1,b2⟩;dsimp only;have hw:IntKind.i64.wrap (n-1)=n-1:=dL aC aC;rw[hw];refine⟨by simp;omega,by simp;omega,(n-1,xs++[W],F,O),⟨by show 0<=n-1;omega,by show n-1<=c;omega,(g.trans f).trans a4,ox.trans X,Y,t++[q2],(rp.mono (f.trans a4)).snoc b',⟨λx z=>?_,λx z=>?_⟩,by simp;omega⟩,by show(n-1).toNat<n.toNat;omega,?_⟩
  .rcases mem_append.1 z with h1|h1
   .exact j.1 x h1
   .simp at h1;subst h1;exact⟨b0,b1⟩
  .cases t with
   |nil=>simp at z;subst z;exact b2 rfl
   |cons y l=>simp at z;subst z;exact j.2 y (by simp)
  .rw[map_append];exact MT
def bNJ(N:Nat):Vc.Spec:=λc m h K=>∃v p,c=[aP v]/\dX h p v/\SizeOf.sizeOf p<N/\∀d h',PH.le h h'->dX h' p d->K (aP d) m h'
def bOQ:Vc.Spec:=λc m h K=>∃v p,c=[aP v]/\dX h p v/\∀d h',PH.le h h'->dX h' p d->K (aP d) m h'
def Vg:Vc.Spec:=λc m h K=>∃s l,c=[cS s]/\Ints h s l/\∀d h',PH.le h h'->Ints h' d l->K (cS d) m h'
def aEX:Vc.Spec:=λc m h K=>∃s l,c=[cS s]/\jA h s l/\∀d h',PH.le h h'->jA h' d l->K (cS d) m h'
def aDJ:Vc.Spec:=λc m h K=>∃s l,c=[cS s]/\iV h s l/\∀d h',PH.le h h'->iV h' d l->K (cS d) m h'
def Z2(n c:Nat)(m:MH)(h:PH)(K:dk):Prop:=
  K iO m h
theorem bxJ(n c:Nat)(m:MH)(h:PH)(K:dk):Z2 n c m h K=(tB (cT [] [] [] [] false) Tryz.f136 (cM Tryz.f136) (entry Tryz.f136.ntmps [.val (.slice none n c)] m h) K):=bu
abbrev E4(a:Nat)(b:List dj)(c:Nat):Prop:=j4 ((a+b.length)*c)
noncomputable abbrev Ft(a:List dj):List dj:=[]++a
attribute [push_cast] E4 Ft
def Z1(a:Addr)(n c:Nat)(m:MH)(h:PH)(K:dk):Prop:=
  ∃(y:List dj),aA (cZ 1 y) (cE h (Sl.mk (Option.some a) n c) 1 y) (aA (E4 0 y 8) (j4 (0+y.length)) (nD h (Ft y) K m))
theorem bxZ(a:Addr)(n c:Nat)(m:MH)(h:PH)(K:dk):Z1 a n c m h K=(tB (cT [] [] [] [] false) Tryz.f136 (cM Tryz.f136) (entry Tryz.f136.ntmps [.val (.slice (some a) n c)] m h) K):=bu
def ZZ(n c:Nat)(m:MH)(h:PH)(K:dk):Prop:=
  K iO m h
theorem bxX(n c:Nat)(m:MH)(h:PH)(K:dk):ZZ n c m h K=(tB (cT [] [] [] [] false) Tryz.f137 (cM Tryz.f137) (entry Tryz.f137.ntmps [.val (.slice none n c)] m h) K):=bu
def ZY(a:Addr)(n c:Nat)(m:MH)(h:PH)(K:dk):Prop:=
  ∃(y:List dj),aA (cZ 2 y) (cE h (Sl.mk (Option.some a) n c) 2 y) (aA (E4 0 y 16) (j4 (0+y.length)) (bU h 2 (Ft y) (λs d=>K (F9 s) m d)))
theorem bxQ(a:Addr)(n c:Nat)(m:MH)(h:PH)(K:dk):ZY a n c m h K=(tB (cT [] [] [] [] false) Tryz.f137 (cM Tryz.f137) (entry Tryz.f137.ntmps [.val (.slice (some a) n c)] m h) K):=bu
def ZW(n c:Nat)(m:MH)(h:PH)(K:dk):Prop:=
  K iO m h
theorem bwZ(n c:Nat)(m:MH)(h:PH)(K:dk):ZW n c m h K=(tB (cT [] [] [] [] false) Tryz.f141 (cM Tryz.f141) (entry Tryz.f141.ntmps [.val (.slice none n c)] m h) K):=bu
def ZV(a:Addr)(n c:Nat)(m:MH)(h:PH)(K:dk):Prop:=
  ∃(y:List dj),aA (cZ 2 y) (cE h (Sl.mk (Option.some a) n c) 2 y) (aA (E4 0 y 16) (j4 (0+y.length)) (bU h 2 (Ft y) (λs d=>K (F9 s) m d)))
theorem bwX(a:Addr)(n c:Nat)(m:MH)(h:PH)(K:dk):ZV a n c m h K=(tB (cT [] [] [] [] false) Tryz.f141 (cM Tryz.f141) (entry Tryz.f141.ntmps [.val (.slice (some a) n c)] m h) K):=bu
theorem Qp:di 136 Vg:=by
 refine eA (fn:=Tryz.f136) (c:=cM Tryz.f136) func136 rfl bz ?_;rintro t m h K ⟨⟨a,n,c⟩,l,rfl,g,o⟩;refine⟨cT [] [] [] [] false,rfl,aG,?_⟩;have d:=g.len;cases a with
 |none=>
  have e:=OY g.row;subst e;show tB _ _ _ (entry Tryz.f136.ntmps [.val (.slice none n c)] m h) K;rw[<-bxJ n c m h K];exact o ⟨none,0,0⟩ h (.refl _) ⟨.nil _ _,bx⟩
 |some a=>
  show tB _ _ _ (entry Tryz.f136.ntmps [.val (.slice (some a) n c)] m h) K;rw[<-bxZ a n c m h K];exact⟨_,qF l,g.row,ce,ce,λu h' j f=>o u h' j ⟨f,d⟩⟩
theorem Z0:di 137 aEX:=by
 refine eA (fn:=Tryz.f137) (c:=cM Tryz.f137) func137 rfl bz ?_;rintro t m h K ⟨⟨a,n,c⟩,l,rfl,g,o⟩;refine⟨cT [] [] [] [] false,rfl,aG,?_⟩;have d:=g.len;cases a with
 |none=>
  have e:=OY g.row;subst e;show tB _ _ _ (entry Tryz.f137.ntmps [.val (.slice none n c)] m h) K;rw[<-bxX n c m h K];exact o ⟨none,0,0⟩ h (.refl _) ⟨.nil _ _,bx⟩
 |some a=>
  show tB _ _ _ (entry Tryz.f137.ntmps [.val (.slice (some a) n c)] m h) K;rw[<-bxQ a n c m h K];exact⟨_,JG l,g.row,ce,ce,λu h' j f=>o u h' j ⟨f,d⟩⟩
theorem ZX:di 141 aDJ:=by
 refine eA (fn:=Tryz.f141) (c:=cM Tryz.f141) func141 rfl bz ?_;rintro t m h K ⟨⟨a,n,c⟩,l,rfl,g,o⟩;refine⟨cT [] [] [] [] false,rfl,aG,?_⟩;have d:=g.len;cases a with
 |none=>
  have e:=OY g.row;subst e;show tB _ _ _ (entry Tryz.f141.ntmps [.val (.slice none n c)] m h) K;rw[<-bwZ n c m h K];exact o ⟨none,0,0⟩ h (.refl _) ⟨.nil _ _,bx⟩
 |some a=>
  show tB _ _ _ (entry Tryz.f141.ntmps [.val (.slice (some a) n c)] m h) K;rw[<-bwX a n c m h K];exact⟨_,JF l,g.row,ce,ce,λu h' j f=>o u h' j ⟨f,d⟩⟩
noncomputable def b3X(N:Nat)(v w:QV)(o o':dq)(s c:dr)(ps d:ds)(m:MH)(h:PH):Ctx:=
 ctx [(31,cdJ N),(75,A9),(76,bNX)] [Dx 4 (λi=>bO 133 135 [(2,.at (.ptr 2 0)),(3,.at (.ptr 3 0)),(80,iv v.on.len),(81,iv i)] [(2,.cells 38 (v.enc.map .val)),(3,.cells 38 (w.enc.map .val))] m h) (λi=>i<=o.length/\∀j:Nat,j<i->o[j]? =o'[j]?) (λi=>o.length-i),
  Dx 10 (λi=>bO 133 135 [(2,.at (.ptr 2 0)),(3,.at (.ptr 3 0)),(98,iv v.order.len),(99,iv i)] [(2,.cells 38 (v.enc.map .val)),(3,.cells 38 (w.enc.map .val))] m h) (λi=>i<=s.length/\∀j:Nat,j<i->s[j]? =c[j]?) (λi=>s.length-i),
  Dx 16 (λi=>bO 133 135 [(2,.at (.ptr 2 0)),(3,.at (.ptr 3 0)),(116,iv v.args.len),(117,iv i)] [(2,.cells 38 (v.enc.map .val)),(3,.cells 38 (w.enc.map .val))] m h) (λi=>i<=ps.length/\∀j:Nat,j<i->ps[j]? =d[j]?) (λi=>ps.length-i)] [] [] false
def P9(N:Nat)(v w:QV)(o o':dq)(s z:dr)(ps A:ds)(m:MH)(h:PH)(K:dk):Prop:=
  cO (v.op !=w.op) (K aX m h) (v.table !=w.table) (K aX m h) (cO (v.limit !=w.limit) (K aX m h) (aF v.on !=aF w.on) (K aX m h) (cO (aF v.order !=aF w.order) (K aX m h) (aF v.args !=aF w.args) (K aX m h) (vS v.columns w.columns h (λa b r=>eT (eZ r↔a=b) (!r) (K aX m h) (vS v.group w.group h (λJ L C=>eT (eZ C↔J=L) (!C) (K aX m h) (HF (λD E p q=>aI (fY (B3 v) (B3 w)=fY D.enc E.enc) (dX h p D) (dX h q E) (∀(F:Bool),eT (eZ F↔p=q) (!F) (K aX m h) (pX (∃(x:Nat),aA (EB x o o') cW (aA bJ (aY v.on) (aA (aZ x) (dJ v) (aA (dJ w) (m=m) (bR h h))))) (λx=>EB x o o'->aW (↑x:Int) (aF v.on) (aJ (λf g=>aI (aK v.on.a f g) (0<=(↑x:Int)) ((↑x:Int)<
 aF v.on) (∃(y:Int×Int),aR m h f (bE g x 2) (oD y)/\aJ (λj n=>aI (aK w.on.a j n) (0<=(↑x:Int)) ((↑x:Int)<aF w.on) (∃(t:Int×Int),aR m h j (bE n x 2) (oD t)/\∃(u:Bool),yG (wE 101 (oD y) (oD t) u) u K m h (λe=>aA (EB e o o') (o.length-e<o.length-x) (aA cW bJ (aA (aY v.on) (eR (bF ((↑x:Int)+1))=bL e) (aA (dJ v) (dJ w) (bG m m h h)))))))))) (pX (∃(c:Nat),aA (EC c s z) cW (aA bJ (aY v.order) (aA (aZ c) (dJ v) (aA (dJ w) (m=m) (bR h h))))) (λc=>EC c s z->aW (↑c:Int) (aF v.order) (aJ (λf g=>aI (aK v.order.a f g) (0<=(↑c:Int)) ((↑c:Int)<aF v.order) (∃(y:Int×Bool),aR m h f (bE g c 2) (qX y)/\aJ (λj n=>
 aI (aK w.order.a j n) (0<=(↑c:Int)) ((↑c:Int)<aF w.order) (∃(t:Int×Bool),aR m h j (bE n c 2) (qX t)/\∃(u:Bool),yG (wE 103 (qX y) (qX t) u) u K m h (λe=>aA (EC e s z) (s.length-e<s.length-c) (aA cW bJ (aA (aY v.order) (eR (bF ((↑c:Int)+1))=bL e) (aA (dJ v) (dJ w) (bG m m h h)))))))))) (pX (∃(d:Nat),aA (ED d ps A) cW (aA bJ (uF v) (aA (aZ d) (dJ v) (aA (dJ w) (m=m) (bR h h))))) (λd=>ED d ps A->aW (↑d:Int) (aF v.args) (aJ (λf g=>aI (aK v.args.a f g) (0<=(↑d:Int)) ((↑d:Int)<aF v.args) (∃(y:QV),aR m h f (bE g d 21) y.enc/\aJ (λj n=>aI (aK w.args.a j n) (0<=(↑d:Int)) ((↑d:Int)<aF w.args) (∃(t:QV),aR m
 h j (bE n d 21) t.enc/\Ko (λG H B I=>aA (fY y.enc t.enc=fY G.enc H.enc) (dZ h B G) (aA (dZ h I H) (sB B N) (∀(u:Bool),eT (eZ u↔B=I) (!u) (K aX m h) (∃(e:Nat),aA (ED e ps A) (ps.length-e<ps.length-d) (aA cW bJ (aA (uF v) (eR (bF ((↑d:Int)+1))=bL e) (aA (dJ v) (dJ w) (bG m m h h))))))))))))) (K dR m h))))))))))))))))
theorem cuZ{w:QV}{op C D:Int}{wh G:Pred}{H I:dl}{on f:dq}{g:dr}{E:Int}{ps O:ds}(a:nS h op ta wh co on gr od li ps v)(b:nS h C D G H f I g E O w)
 (hN:∀q∈ps,SizeOf.sizeOf q<N)(hK:∀r:Bool,(r=true↔Query.mk op ta wh co on gr od li ps= .mk C D G H f I g E O)->K (cB r) m h):P9 N v w on f od g ps O m h K:=by
 dsimp only[P9,push_cast];have o:Query.mk op ta wh co on gr od li ps≠ .mk C D G H f I g E O->K (cB false) m h:=λh=>hK false ⟨λe=>(by cases e),λe=>(h e).elim⟩;have oa:=a.on_.slen;have ob:=b.on_.slen;have ol:=a.on_.len;have sa:=a.order_.slen;have sb:=b.order_.slen;have sl:=a.order_.len;have qa:=a.args_.slen;have qb:=b.args_.slen;have ql:=a.args_.len;refine aB (λP=>o λe=>?_) (λP=>aB (λQ=>o λe=>?_) (λQ=>aB (λR=>o λe=>?_) (λR=>aB (λh4=>o λe=>?_) (λh4=>aB (λh5=>o λe=>?_) (λh5=>aB (λh6=>o λe=>?_) (λh6=>⟨_,_,_,_,rfl,a.columns_,b.columns_,λr7 h7=>aB (λZ=>o λe=>?_) (λZ=>⟨_,_,_,_,rfl,a.group_,b.group_,λr8 h8=>aB (λg8=>o λe=>?_) (λg8=>⟨_,_,_,_,rfl,a.where_,b.where_,λr9 h9=>aB (λg9=>o λe=>?_) (λg9=>?_)⟩)⟩)⟩))))))
 .injection e with e _ _ _ _ _ _ _ _;rw[a.op_,b.op_,e]at P;simp at P
 .injection e with _ e _ _ _ _ _ _ _;rw[a.table_,b.table_,e]at Q;simp at Q
 .injection e with _ _ _ _ _ _ _ e _;rw[a.limit_,b.limit_,e]at R;simp at R
 .injection e with _ _ _ _ e _ _ _ _;exact GB oa ob h4 (by rw[e])
 .injection e with _ _ _ _ _ _ e _ _;exact GB sa sb h5 (by rw[e])
 .injection e with _ _ _ _ _ _ _ _ e;exact GB qa qb h6 (by rw[e])
 .injection e with _ _ _ e _ _ _ _ _;rw[h7.2 e]at Z;cases Z
 .injection e with _ _ _ _ _ e _ _ _;rw[h8.2 e]at g8;cases g8
 .injection e with _ _ e _ _ _ _ _ _;rw[h9.2 e]at g9;cases g9
 .have J:op=C:=by rw[a.op_,b.op_]at P;simpa using P
  have L:ta=D:=by rw[a.table_,b.table_]at Q;simpa using Q
  have e3:li=E:=by rw[a.limit_,b.limit_]at R;simpa using R
  have e7:=h7.1 (cm Z);have e8:=h8.1 (cm g8);have e9:=h9.1 (cm g9);subst J L e3 e7 e8 e9;have l4:=Fx oa ob h4;have l5:=Fx sa sb h5;have l6:=Fx qa qb h6;have f1:on≠f->K (cB false) m h:=λc=>o λe=>c (by injection e);have f2:od≠g->K (cB false) m h:=λc=>o λe=>c (by injection e);have M:ps≠O->K (cB false) m h:=λc=>o λe=>c (by injection e);refine⟨⟨0,⟨aC,λj hj=>by omega⟩,MT⟩,λi B=>aD (λd=>?_) (λF=>?_)⟩
  .obtain⟨x,t⟩:=dO oa d;obtain⟨y,A⟩:∃y,f[i]? =some y:=dO (n:=v.on.len) aC d;obtain⟨S,T,J,U⟩:=a.on_.at t;obtain⟨V,W,L,X⟩:=b.on_.at A;refine⟨S,T,J,aC,d,x,.imm U,V,W,L,aC,aC,y,.imm X,_,Xo x y,aB (λc=>f1 (JO t A (λe=>?_))) (λY=>?_)⟩
   .rw[K6.2 e]at c;cases c
   .exact⟨i+1,⟨aC,rE t A (K6.1 (cm Y)) B.2⟩,aC,MT⟩
  .have e4:=uN l4 aC B.2;clear B F;refine⟨⟨0,⟨aC,λj hj=>by omega⟩,MT⟩,λi B=>aD (λd=>?_) (λF=>?_)⟩
   .obtain⟨x,t⟩:=dO sa d;obtain⟨y,A⟩:∃y,g[i]? =some y:=dO (n:=v.order.len) aC d;obtain⟨S,T,J,U⟩:=a.order_.at t;obtain⟨V,W,L,X⟩:=b.order_.at A;refine⟨S,T,J,aC,d,x,.imm U,V,W,L,aC,aC,y,.imm X,_,Xn x y,aB (λc=>f2 (JO t A (λe=>?_))) (λY=>?_)⟩
    .rw[K5.2 e]at c;cases c
    .exact⟨i+1,⟨aC,rE t A (K5.1 (cm Y)) B.2⟩,aC,MT⟩
   .have e5:=uN l5 aC B.2;clear B F;refine⟨⟨0,⟨aC,λj hj=>by omega⟩,MT⟩,λi B=>aD (λd=>?_) (λF=>?_)⟩
    .obtain⟨x,t⟩:=dO qa d;obtain⟨y,A⟩:∃y,O[i]? =some y:=dO (n:=v.args.len) aC d;obtain⟨S,T,u,J,U,ru⟩:=a.args_.at t;obtain⟨V,W,z,L,X,rz⟩:=b.args_.at A;refine⟨S,T,J,aC,d,u,.imm U,V,W,L,aC,aC,z,.imm X,u,z,x,y,rfl,ru,rz,hN x (cr t),λr hr=>aB (λc=>M (JO t A (λe=>?_))) (λY=>?_)⟩
     .have:=hr.2 e;subst this;cases c
     .have a':r=true:=cm Y
      exact⟨i+1,⟨aC,rE t A (hr.1 a') B.2⟩,aC,MT⟩
    .exact hK true ⟨λ_=>by rw[e4,e5,uN l6 aC B.2],λ_=>rfl⟩
theorem asJ:∀N,di 31 (cdJ N)
 |0=>by
  refine eA (fn:=Tryz.f31) (c:=cM Tryz.f31) func31 rfl bz ?_;rintro g m h K ⟨v,w,p,q,rfl,n,_,t,_⟩;omega
 |N+1=>by
  refine fU func31 ?_;rintro g m h K ⟨v,w,p,q,rfl,n,j,t,u⟩;have d:=@vF p;obtain⟨op,ta,D,co,on,gr,od,li,ps⟩:=p;obtain⟨x,y,z,A,e,B,f,C,o⟩:=q;refine⟨b3X N v w on e od f ps o m h,rfl,aE (asJ N) (aE R9 (aE R8 aG)),P9 N v w on e od f ps o m h K,bu,?_⟩;exact cuZ n.parts j.parts (λq j=>by have:=d (q:=q) j;omega) u
theorem aTX:di 31 ceQ:=iQ asJ λ_ _ _ _⟨v,w,p,q,e,c,d,f⟩=>⟨SizeOf.sizeOf p+1,v,w,p,q,e,c,d,aC,f⟩
def CI(a b:Int):Int:=if a<b then-1 else if b<a then 1 else 0
def Rn(a b:ByteArray):Int:=Lib.compareBytes a.data.toList b.data.toList
def jO(a b:VV):Int:=if CI a.kind b.kind≠0 then CI a.kind b.kind else if CI a.int b.int≠0 then CI a.int b.int else Rn a.text b.text
def dQ:dp->dp->Int
 |[],[]=>0
 |[],_::_=> -1
 |_::_,[]=>1
 |x::xs,y::ys=>if jO x y≠0 then jO x y else dQ xs ys
def cdQ:Vc.Spec:=λc m h K=>∃n,c=[cI n]/\K (cB false) m h
def aDZ:Vc.Spec:=λc m h K=>∃a b,c=[cI a,cI b]/\K (cI (CI a b)) m h
def ckQ:Vc.Spec:=λc m h K=>∃a b,c=[Xy a,Xy b]/\K (cI (Rn a b)) m h
def NB:Vc.Spec:=λc m h K=>∃a b,c=[aV a,aV b]/\K (cI (jO a b)) m h
def DF:Vc.Spec:=λc m h K=>∃s t a b,c=[cS s,cS t]/\bT h s a/\bT h t b/\K (cI (dQ a b)) m h
def ckZ:Vc.Spec:=λc m h K=>∃s t a b,c=[cS s,cS t,.val (.func (.func 108) #[] #[])]/\bT h s a/\bT h t b/\K (cI (dQ a b)) m h
def Rows(h:PH)(s:Sl)(l:dm):Prop:=bI h 1 eS (λr t=>bT h t r) s l
def cgZ:Vc.Spec:=λc m h K=>∃s t a b,c=[cS s,cS t]/\Rows h s a/\Rows h t b/\∀r:Bool,(r=true↔a=b)->K (cB r) m h
noncomputable def brZ(s t:Sl)(m:MH)(h:PH):Ctx:=
 cT [(108,NB)] [(2,{A:=Nat,st:=λi=>bO 39 42 [(0,sv s),(1,sv t),(2,vv (.func (.func 108) #[] #[])),(11,sv s),(12,iv s.len),(13,iv i)] [] m h})] [] [] false
noncomputable def b0X(s t:Sl)(m:MH)(h:PH):Ctx:=
 cT [(109,NB)] [(2,{A:=Nat,st:=λi=>bO 43 45 [(0,sv s),(1,sv t),(5,iv i)] [] m h})] [] [] false
noncomputable def b8X(s t:Sl)(m:MH)(h:PH):Ctx:=
 cT [(65,DF)] [(4,{A:=Nat,st:=λi=>bO 27 29 [(0,sv s),(1,sv t),(12,iv s.len),(13,iv i)] [] m h})] [] [] false
def aWJ(n:Int)(m:MH)(h:PH)(K:dk):Prop:=
  K (vD (n !=n)) m h
def aWZ(n:Int)(m:MH)(h:PH)(K:dk):Prop:=
  K (vD (n !=n)) m h
def Ml(a b:Int)(m:MH)(h:PH)(K:dk):Prop:=
  pL a (λ_=>pL b (λ_=>aW a b (K (fN (Int.negSucc 0)) m h) (fA a b (K (fN 1) m h) (K (fN 0) m h))))
def aYQ(a b:Int)(m:MH)(h:PH)(K:dk):Prop:=
  pL a (λ_=>pL b (λ_=>aW a b (K (fN (Int.negSucc 0)) m h) (fA a b (K (fN 1) m h) (K (fN 0) m h))))
def TD(a b:VV)(m:MH)(h:PH)(K:dk):Prop:=
  ∃(r:Bool),hZ (wE 27 a.enc b.enc r) r (K (fN 0) m h) (∃(c d:Int),bD (fN a.kind) b.kind=bD (fN c) d/\cK (CI c d) 0 (K (fN (CI c d)) m h) (∃(e f:Int),bD (fN a.int) b.int=bD (fN e) f/\cK (CI e f) 0 (K (fN (CI e f)) m h) (∃(g j:ByteArray),nO (jM a.text) (jM b.text)=nO (jM g) (jM j)/\K (fN (Rn g j)) m h)))
def TC(a b:VV)(m:MH)(h:PH)(K:dk):Prop:=
  aW a.kind b.kind (K (fN (Int.negSucc 0)) m h) (fA a.kind b.kind (K (fN 1) m h) (aW a.int b.int (K (fN (Int.negSucc 0)) m h) (cO (decide (a.int>b.int)) (K (fN 1) m h) (Op.bytesLess (Dt a) (Dt b)) (K (fN (Int.negSucc 0)) m h) (mB (Bool.or (Op.bytesLess (Dt a) (Dt b)) (Dt a==Dt b)) (K (fN 1) m h) (K (fN 0) m h)))))
noncomputable abbrev xK(a b:VV):eb:=fY a.enc b.enc
attribute [push_cast] xK
def SZ(s t:Sl)(m:MH)(h:PH)(K:dk):Prop:=
  j6 (λI x=>aA (I x) (aH s) (aA (aH t) (Az 108) (aA (aH s) (aY s) (aA (aZ x) (m=m) (bR h h))))) (λI e x=>I x->aW (↑x:Int) (aF s) (aJ (λb o=>aI (aK s.a b o) (0<=(↑x:Int)) ((↑x:Int)<aF s) (∃(y:VV),aR m h b (bE o x 3) y.enc/\eK (↑x:Int) (aF t) (K (fN 1) m h) (aJ (λf g=>aI (aK t.a f g) (0<=(↑x:Int)) ((↑x:Int)<aF t) (∃(j:VV),aR m h f (bE g x 3) j.enc/\∃(a c:VV),xK y j=xK a c/\cK (jO a c) 0 (K (fN (jO a c)) m h) (∃(d:Nat),aA (I d) (e d<e x) (aA (aH s) (aH t) (aA (Az 108) (aH s) (aA (aY s) (eR (bF ((↑x:Int)+1))=bL d) (bG m m h h))))))))))) (aW (aF s) (aF t) (K (fN (Int.negSucc 0)) m h) (K (fN 0) m h)))
def a0X(s t:Sl)(m:MH)(h:PH)(K:dk):Prop:=
  gQ (λc d=>∃(a b:dp),aI (BN s t 108=BN c d 108) (bT h c a) (bT h d b) (K (fN (dQ a b)) m h))
def WB(s t:Sl)(m:MH)(h:PH)(K:dk):Prop:=
  j6 (λI x=>aA (I x) (aH s) (aA (aH t) (aZ x) (bG m m h h))) (λI e x=>I x->aW (↑x:Int) (aF s) (aW (↑x:Int) (aF t) (aJ (λb o=>aI (aK s.a b o) (0<=(↑x:Int)) ((↑x:Int)<aF s) (∃(y:VV),aR m h b (bE o x 3) y.enc/\aJ (λf g=>aI (aK t.a f g) (0<=(↑x:Int)) ((↑x:Int)<aF t) (∃(j:VV),aR m h f (bE g x 3) j.enc/\∃(a c:VV),xK y j=xK a c/\cK (jO a c) 0 (K (fN (jO a c)) m h) (∃(d:Nat),aA (I d) (e d<e x) (aA (aH s) (aH t) (bS (eR (bF ((↑x:Int)+1))=bL d) m m h h)))))))) (aW (aF s) (aF t) (K (fN (Int.negSucc 0)) m h) (fA (aF s) (aF t) (K (fN 1) m h) (K (fN 0) m h)))) (aW (aF s) (aF t) (K (fN (Int.negSucc 0)) m h) (fA (aF s) (aF t) (K (fN 1) m h) (K (fN 0) m h))))
abbrev sF(a b:Sl)(c:PH)(d:dp->dp->Prop):Prop:=gQ (λx e=>∃(f g:dp),aI (dK a b=dK x e) (bT c x f) (bT c e g) (d f g))
attribute [push_cast] sF
def WZ(s t:Sl)(m:MH)(h:PH)(K:dk):Prop:=
  cK (aF s) (aF t) (K aX m h) (j6 (λI x=>aA (I x) (aH s) (aA (aH t) (aY s) (bS (aZ x) m m h h))) (λI d x=>I x->aW (↑x:Int) (aF s) (aJ (λb o=>aI (aK s.a b o) (0<=(↑x:Int)) ((↑x:Int)<aF s) (∃(y:Sl),aR m h b (bE o x 1) (aM y)/\aJ (λe f=>aI (aK t.a e f) (0<=(↑x:Int)) ((↑x:Int)<aF t) (∃(g:Sl),aR m h e (bE f x 1) (aM g)/\sF y g h (λa j=>cK (dQ a j) 0 (K aX m h) (∃(c:Nat),aA (I c) (d c<d x) (aA (aH s) (aH t) (aA (aY s) (eR (bF ((↑x:Int)+1))=bL c) (aA (m=m) (h=h) True)))))))))) (K dR m h)))
theorem Iy{a b:Int}:CI a b=0↔a=b:=by
 unfold CI;omega
theorem Iz:∀a b:dw,Lib.compareBytes a b=0↔a=b
 |[],[]=>by simp[Lib.compareBytes]
 |[],_::_=>by simp[Lib.compareBytes]
 |_::_,[]=>by simp[Lib.compareBytes]
 |a::l,b::bs=>by
  simp only[Lib.compareBytes,List.cons.injEq];split
  .grind
  .split
   .grind
   .rename_i c d;rw[Iz l bs]
    grind
theorem a2J{a b:ByteArray}:Rn a b=0↔a=b:=by
 unfold Rn;rw[Iz];constructor
 .intro h;cases a;cases b;simp only[ByteArray.mk.injEq];exact Array.toList_inj.1 h
 grind
theorem MF{a b:VV}:jO a b=0↔a=b:=by
 obtain⟨k,i,t⟩:=a;obtain⟨d,f,g⟩:=b;simp only[jO,VV.mk.injEq];split
 .rename_i h;exact⟨λe=>absurd e h,λe=>absurd (Iy.2 e.1) h⟩
 .rename_i h;have h:=Classical.not_not.1 h;split
  .rename_i c;exact⟨λe=>absurd e c,λe=>absurd (Iy.2 e.2.1) c⟩
  .rename_i c;have c:=Classical.not_not.1 c;rw[a2J];simp[Iy.1 h,Iy.1 c]
theorem iH:∀{a b:dp},dQ a b=0↔a=b
 |[],[]=>by simp[dQ]
 |[],_::_=>by simp[dQ]
 |_::_,[]=>by simp[dQ]
 |x::xs,y::ys=>by
  simp only[dQ,List.cons.injEq];split
  .rename_i h;exact⟨λe=>absurd e h,λe=>absurd (MF.2 e.1) h⟩
  .rename_i h;rw[iH (a:=xs),MF.1 (Classical.not_not.1 h)];simp
theorem PC:∀a b:dw,(Op.bytesLess a b=true↔Lib.compareBytes a b= -1)/\(Lib.compareBytes a b= -1\/Lib.compareBytes a b=0\/Lib.compareBytes a b=1)
 |[],[]=>by simp[Lib.compareBytes,Op.bytesLess]
 |[],_::_=>by simp[Lib.compareBytes,Op.bytesLess]
 |_::_,[]=>by simp[Lib.compareBytes,Op.bytesLess]
 |a::l,b::bs=>by
  obtain⟨c,d⟩:=PC l bs;simp only[Lib.compareBytes,Op.bytesLess]
  grind
theorem atX{a b:Int}(c:K (cI (CI a b)) m h):Ml a b m h K:=by
 dsimp only[Ml,push_cast];refine⟨a,rfl,b,rfl,aD (λd=>?_) (λd=>aD (λe=>?_) (λe=>?_))⟩
 .rw[CI,if_pos d]at c;exact c
 .rw[CI,if_neg d,if_pos e]at c;exact c
 .rw[CI,if_neg d,if_neg e]at c;exact c
theorem Y1:di 243 cdQ:=by
 refine fU func243 ?_;rintro c m h K ⟨n,rfl,d⟩;refine⟨cT [] [] [] [] false,rfl,aG,aWJ n m h K,bu,?_⟩;exact(by show K (cB (n !=n)) m h;grind)
theorem Y0:di 244 cdQ:=by
 refine fU func244 ?_;rintro c m h K ⟨n,rfl,d⟩;refine⟨cT [] [] [] [] false,rfl,aG,aWZ n m h K,bu,?_⟩;exact(by show K (cB (n !=n)) m h;grind)
theorem ZD:di 182 aDZ:=by
 refine fU func182 ?_;rintro c m h K ⟨a,b,rfl,d⟩;refine⟨cT [(243,cdQ)] [] [] [] false,rfl,aE Y1 aG,Ml a b m h K,bu,?_⟩;exact atX d
theorem ZC:di 183 aDZ:=by
 refine fU func183 ?_;rintro c m h K ⟨a,b,rfl,d⟩;refine⟨cT [(244,cdQ)] [] [] [] false,rfl,aE Y0 aG,aYQ a b m h K,bu,?_⟩;exact atX d
theorem ZB:di 184 ckQ:=by
 refine⟨⟨Tryz.f184,func184,rfl,bz⟩,?_⟩;rintro j g m h w K ⟨a,b,rfl,n⟩ c
 obtain⟨v,d,rfl⟩:∃v d,g=[v,d]:=by
  have:=(rD c.args).1
  match g,this with
  |[v,d],_=>grind
 have o:v= .string a:=c.args.1;have f:d= .string b:=c.args.2.1;subst o f;refine(Tryz.strings_Compare a b w).mono ?_;rintro e u ⟨rfl,rfl⟩;exact⟨_,_,m,h,rfl,n,rfl,Lv c,λb t=>by simp[cI,iG]at t⟩
theorem Jk:di 108 NB:=by
 refine fU func108 ?_;rintro e m h K ⟨a,b,rfl,c⟩;refine⟨cT [(182,aDZ),(183,aDZ),(184,ckQ)] [] [] [] false,rfl,aE ZD (aE ZC (aE ZB aG)),TD a b m h K,bu,?_⟩;dsimp only[TD,push_cast];refine⟨_,K4 a b,aB (λd=>?_) (λd=>⟨_,_,rfl,aB (λf=>?_) (λf=>⟨_,_,rfl,aB (λg=>?_) (λg=>⟨_,_,rfl,?_⟩)⟩)⟩)⟩
 .rw[MF.2 (FN.1 d)]at c;exact c
 .rw[jO,if_pos cg]at c;exact c
 .rw[jO,if_neg cg,if_pos cg]at c;exact c
 .rw[jO,if_neg cg,if_neg cg]at c;exact c
theorem Jj:di 109 NB:=by
 refine fU func109 ?_;rintro y m h K ⟨a,b,rfl,c⟩;refine⟨cT [] [] [] [] false,rfl,aG,TC a b m h K,bu,?_⟩;dsimp only[TC,push_cast];unfold jO CI Rn at c;obtain⟨o,t⟩:=PC a.text.data.toList b.text.data.toList;refine aD (λd=>?_) (λd=>aD (λf=>?_) (λf=>aD (λg=>?_) (λg=>aD (λu=>?_) (λu=>aB (λj=>?_) (λj=>aB (λn=>?_) (λn=>?_))))))
 .rw[if_pos d]at c;exact c
 .rw[if_neg d,if_pos f]at c;exact c
 .rw[if_neg d,if_neg f,if_pos g]at c;exact c
 .rw[if_neg d,if_neg f,if_neg g,if_pos u]at c;exact c
 all_goals rw[if_neg d,if_neg f,if_neg g,if_neg u]at c
 all_goals rw[ByteArray.toList_eq,ByteArray.toList_eq]at j
 .rw[if_neg bx,if_neg bx,o.1 j]at c;exact c
 .have x:Lib.compareBytes a.text.data.toList b.text.data.toList=1:=by
   rcases t with e|e|e
   .grind
   .rw[Iz]at e;rw[ByteArray.toList_eq,ByteArray.toList_eq,e]at n;simp at n
   .exact e
  rw[if_neg bx,if_neg bx,x]at c;exact c
 .have x:Lib.compareBytes a.text.data.toList b.text.data.toList=0:=by
   rw[ByteArray.toList_eq,ByteArray.toList_eq,j]at n;rw[Iz];grind
  rw[if_neg bx,if_neg bx,x]at c;exact c
theorem TL{a b:dp}{x y:VV}(c:a[i]? =some x)(d:b[i]? =some y):dQ (a.drop i) (b.drop i)=if jO x y≠0 then jO x y else dQ (a.drop (i+1)) (b.drop (i+1)):=by
 rw[drop_cons c,drop_cons d,dQ]
theorem ZE:di 177 ckZ:=by
 refine fU func177 ?_;rintro D m h K ⟨s,t,a,b,rfl,o,C,d⟩;refine⟨brZ s t m h,rfl,aE Jk aG,SZ s t m h K,bu,?_⟩;dsimp only[SZ,push_cast];have z:=bI.slen o;have f:=bI.slen C;have E:=o.len;refine⟨λi=>i<=a.length/\i<=b.length/\dQ a b=dQ (a.drop i) (b.drop i),λi=>a.length-i,⟨0,⟨aC,aC,bx⟩,MT⟩,λi⟨S,T,e⟩=>aD (λg=>?_) (λA=>?_)⟩
 .obtain⟨x,B⟩:=dO z g;obtain⟨F,G,u,H,I,rfl⟩:=bI.at o B;refine⟨F,G,H,aC,g,x,.imm I,aD (λA=>?_) (λc=>?_)⟩
  .rw[e,drop_cons B,drop_eq_nil_of_le (show b.length<=i by omega),dQ]at d;exact d
  .have c:(i:Int)<(t.len:Int):=by omega
   obtain⟨y,j⟩:=dO f c;obtain⟨J,L,u,M,O,rfl⟩:=bI.at C j;rw[TL B j]at e;refine⟨J,L,M,aC,c,y,.imm O,x,y,rfl,aB (λP=>?_) (λQ=>⟨i+1,⟨aC,aC,?_⟩,(show a.length-(i+1)<a.length-i by omega),MT⟩)⟩
   .rw[e,if_pos cg]at d;exact d
   grind
 .have:a.drop i=[]:=drop_eq_nil_of_le aC;rw[this]at e;refine aD (λR=>?_) (λR=>?_)
  .obtain⟨y,j⟩:=dO (l:=b) (i:=i) (n:=t.len) f aC;rw[e,drop_cons j,dQ]at d;exact d
  .rw[e,drop_eq_nil_of_le aC,dQ]at d;exact d
theorem Cx:di 102 DF:=by
 refine fU func102 ?_;rintro c m h K ⟨s,t,a,b,rfl,d,e,f⟩;refine⟨cT [(177,ckZ)] [] [] [] false,rfl,aE ZE aG,a0X s t m h K,bu,?_⟩;exact⟨s,t,a,b,rfl,d,e,f⟩
theorem Aa:di 65 DF:=by
 refine fU func65 ?_;rintro F m h K ⟨s,t,a,b,rfl,A,E,c⟩;refine⟨b0X s t m h,rfl,aE Jj aG,WB s t m h K,bu,?_⟩;dsimp only[WB,push_cast];have f:=bI.slen A;have g:=bI.slen E;have G:=A.len;refine⟨λi=>i<=a.length/\i<=b.length/\dQ a b=dQ (a.drop i) (b.drop i),λi=>a.length-i,⟨0,⟨aC,aC,bx⟩,MT⟩,λi⟨T,U,j⟩=>aD (λe=>aD (λd=>?_) (λB=>?_)) (λB=>?_)⟩
 .obtain⟨x,o⟩:=dO f e;obtain⟨y,z⟩:=dO g d;obtain⟨H,I,u,J,L,rfl⟩:=bI.at A o;obtain⟨M,O,u,P,Q,rfl⟩:=bI.at E z;rw[TL o z]at j;refine⟨H,I,J,aC,e,x,.imm L,M,O,P,aC,d,y,.imm Q,x,y,rfl,aB (λR=>?_) (λS=>⟨i+1,⟨aC,aC,?_⟩,(show a.length-(i+1)<a.length-i by omega),MT⟩)⟩
  .rw[j,if_pos cg]at c;exact c
  grind
 .obtain⟨x,o⟩:=dO f e;rw[j,drop_cons o,drop_eq_nil_of_le (show b.length<=i by omega),dQ]at c;exact aD (λC=>aC) (λC=>aD (λD=>c) (λD=>aC))
 .rw[j,drop_eq_nil_of_le (show a.length<=i by omega)]at c;refine aD (λC=>?_) (λC=>aD (λD=>aC) (λD=>?_))
  .obtain⟨y,z⟩:=dO (l:=b) (i:=i) (n:=t.len) g aC;rw[drop_cons z,dQ]at c;exact c
  .rw[drop_eq_nil_of_le aC,dQ]at c;exact c
theorem aXZ:di 21 cgZ:=by
 refine fU func21 ?_;rintro G m h K ⟨s,t,a,b,rfl,o,C,D⟩;refine⟨b8X s t m h,rfl,aE Aa aG,WZ s t m h K,bu,?_⟩;dsimp only[WZ,push_cast];have c:=bI.slen o;have f:=bI.slen C;have H:=o.len;have E:a≠b->K (cB false) m h:=λh=>D false ⟨λe=>(by cases e),λe=>(h e).elim⟩;refine aB (λz=>E (λe=>GB c f z (by rw[e]))) (λz=>?_);have I:=Fx c f z;refine⟨λi=>i<=a.length/\∀j:Nat,j<i->a[j]? =b[j]?,λi=>a.length-i,⟨0,⟨aC,λj W=>by omega⟩,MT⟩,λi F=>aD (λd=>?_) (λJ=>?_)⟩
 .obtain⟨x,A⟩:=dO c d;obtain⟨y,B⟩:∃y,b[i]? =some y:=dO (n:=s.len) aC d;obtain⟨L,M,u,O,P,Q⟩:=bI.at o A;obtain⟨R,S,v,T,U,V⟩:=bI.at C B;refine⟨L,M,O,aC,d,u,.imm P,R,S,T,aC,aC,v,.imm U,u,v,x,y,rfl,Q,V,aB (λg=>E (JO A B (λe=>?_))) (λX=>?_)⟩
  .rw[iH.2 e]at g;cases g
  .exact⟨i+1,⟨aC,rE A B (iH.1 cg) F.2⟩,(show a.length-(i+1)<a.length-i by omega),MT⟩
 .exact D true ⟨λ_=>uN I aC F.2,λ_=>rfl⟩
structure G0(h:PH)(P:dp->Prop) where
 s:Sl
 l:dp
 ok:bT h s l
 pr_:P l
def G0.pr{h:PH}{P:dp->Prop}(x:G0 h P):Sl×dp:=(x.s,x.l)
def A5(h:PH){R:dp->Prop}(x:G0 h R):Value:=.slice x.s.a x.s.len x.s.cap
theorem MQ{w w':World}(c:w'.tape=w.tape)(d:w'.os=w.os)(e:w'.output=w.output)(f:w.drawn<=w'.drawn)(g:w.heap.size<=w'.heap.size)(j:∀b,b<w.heap.size->w'.heap[b]? =w.heap[b]?):
 ∃q n,w'=Sort.grow (w.drewN q) n:=by
 refine⟨w'.drawn-w.drawn,w'.heap.extract w.heap.size w'.heap.size,?_⟩;obtain⟨z,A,B,C,D⟩:=w';obtain⟨o,t,u,x,y⟩:=w;dsimp only at c d e f g j;subst c d e;unfold Sort.grow World.drewN;dsimp only;congr 1
 .grind
 .omega
structure ckX(P:Program)(R:dp->Prop)(g:Nat)(cb:dj)(m2:MH)(h:PH)(cf:dp->dp->Int):Prop where
 ex:∃S,Sound P g S/\∀x y:G0 h R,S ([cS x.s,cS y.s]++cb.map .val) m2 h (λr m' h'=>r=cI (cf x.l y.l)/\m'=m2/\h'=h)
theorem bDQ{P:Program}{R:dp->Prop}{g:Nat}{cb:dj}{m2:MH}{h:PH}[Inhabited (G0 h R)]{cf:dp->dp->Int}(I:ckX P R g cb m2 h cf){w:World}{blk off size:Nat}
 (O:∀b o v,h b o=some v->w.cell? ⟨b,o,none⟩=some v/\b≠blk)(hm:∀b o,m2 b=some o->w.heap[b]? =some o/\b≠blk)(Q:∀b o,m2 b=some o->∀i,h b i=none):
 CmpLays1 P g cb.toArray (A5 h (R:=R)) (λx y=>cf x.l y.l) blk off size w:=by
 obtain⟨S,J,T⟩:=I.ex;intro D L E U x y;obtain⟨W,hW⟩:∃W,Go.Proofs.sortWorld (A5 h (R:=R)) w blk off D E L=W:=⟨_,rfl⟩
 rw[hW]
 have F:∀b,b<w.heap.size->b≠blk->W.heap[b]? =w.heap[b]? :=λb n G=>by
  rw[<-hW];show((Sort.putRow (A5 h) (Sort.ahead w D) blk off E).heap++L)[b]? =_;have J:(Sort.putRow (A5 h) (Sort.ahead w D) blk off E).heap.size=w.heap.size:=by unfold Sort.putRow Sort.mapBlock;simp[Sort.ahead]
  rw[Array.getElem?_append_left aC];unfold Sort.putRow Sort.mapBlock;simp only[Array.getElem?_modify,if_neg (Ne.symm G)];rfl
 have t:∀(l:dj)(w:World),DV w (l.map .val) l:=λl w=>by
  induction l with
  |nil=>trivial
  |cons a l V=>exact⟨rfl,V⟩
 have A:∀(l:dj)(i:Nat)(c:CV)(u:Value)(b:Nat),(l.map CV.val)[i]? =some c->iG c u=some b->False:=λl i c u b f n=>by
  rw[getElem?_map]at f;cases e:l[i]? with
  |none=>grind
  |some v=>rw[e]at f;simp at f;subst f;simp[iG]at n
 have X:[cS x.s,cS y.s]++cb.map .val=([A5 h x,A5 h y]++cb).map .val:=by simp[cS,A5]
 have B:B9 W m2 h ([cS x.s,cS y.s]++cb.map .val) ([A5 h x,A5 h y]++cb):=by
  rw[X];refine⟨t _ _,?_,?_,Q,λi j c d u v b f _ _ _ n _=>(A _ i c u b f n).elim,λi c u b f _ n=>(A _ i c u b f n).elim⟩
  .intro b o v Y;obtain⟨C,Z⟩:=O b o v Y;rw[World.cell?_of_block (w:=w) (w':=W) (a:=⟨b,o,none⟩) (F b (World.block_lt_of_cell? w ⟨b,o,none⟩ C) Z)];exact C
  grind
 have:=J.2 _ _ m2 h W _ (T x y) B;have e2:(([A5 h x,A5 h y]++cb).toArray:Array Value)= #[A5 h x,A5 h y]++cb.toArray:=bx
 rw[e2]at this;refine this.mono ?_;rintro e w' ⟨r,u,m',h',rfl,⟨rfl,rfl,rfl⟩,H,z,_⟩;have hu:u= .int .i64 (cf x.l y.l):=H;subst hu;refine⟨rfl,MQ z.tape z.os z.output z.drawn z.size (λb n=>?_)⟩;cases M:m' b with
 |none=>
  refine z.frame b n ?_;rintro(C|⟨i,c,u,f,_,I⟩)
  .exact C M
  grind
 |some o=>rw[z.msat b o M];grind
theorem O9{α:Type}[Inhabited α]{d c:Array α}(h:Sort.PermIn 0 d.size d c):c.toList.Perm d.toList:=by
 obtain⟨e,_,f⟩:=h;have g:d.extract 0 d.size=d:=bx
 have j:c.extract 0 d.size=c:=cg
 grind
theorem RW{h:PH}{R:dp->Prop}:∀(ps:em),(∀p∈ps,bT h p.1 p.2)->(∀p∈ps,R p.2)->∃c:List (G0 h R),c.map G0.pr=ps
 |[],_,_=>⟨[],rfl⟩
 |p::ps,f,g=>by
  obtain⟨c,d⟩:=RW (R:=R) ps (λq e=>f q (mem_cons_of_mem _ e)) (λq e=>g q (mem_cons_of_mem _ e));exact⟨⟨p.1,p.2,f p (mem_cons_self ..),g p (mem_cons_self ..)⟩::c,by rw[map_cons,d];rfl⟩
theorem RD{R:dp->Prop}{w:World}{m:MH}{h:PH}{s:Sl}{g:Nat}{cb:dj}{ps:em}{cf:dp->dp->Int}{m2:MH}{t:Value}(a':t= .func (.func g) #[] cb.toArray)
 (D:B9 w m h [cS s,.val t] [s.val,t])(hg:∃O,Tryz.prog.funcs[g]? =some O/\O.body.isSome=true/\(O.name== "runtime.NumGoroutine")=false)(hr:dC m s 94 1 (ps.map λp=>eS p.1))(hv:∀p∈ps,bT h p.1 p.2)(hR:∀p∈ps,R p.2)(b0:ps.length<=140737488355328)
 (hO:Sort.SWO (Go.Proofs.ltOf (fun(x y:G0 h R)=>cf x.l y.l)))(hc:ckX Tryz.prog R g cb m2 h cf)(H:∀b o,m2 b=some o->m b=some o/\∀i,s.a≠some ⟨b,i,none⟩)
 {K:dk}(hK:∀(I:em)(m':MH),I.Perm ps->I.Pairwise (λp q=>¬cf q.2 p.2<0)->dC m' s 94 1 (I.map λp=>eS p.1)->(∀b,(∀i,s.a≠some ⟨b,i,none⟩)->m' b=m b)->K (.tup []) m' h):
 Calls Tryz.prog 189 #[s.val,t] w λe w'=>∃r u m' h',e= .returned u/\K r m' h'/\G5 w' r u/\A7 ⟨w,y7 m [cS s,.val t] [s.val,t],h,[]⟩ m' h' w'/\(∀b,iG r u=some b->(w.heap.size<=b\/y7 m [cS s,.val t] [s.val,t] b)/\m' b=none/\∀i,h' b i=none):=by
 subst a';by_cases F:ps=[]
 .subst F;have a0:s.len=0:=by have:=dC.slen hr;grind
  have:=AnyF.slices_SortFunc_none Tryz.sortN s.a s.cap (.func (.func g) #[] cb.toArray) w;rw[show s.val= .slice s.a 0 s.cap by rw[<-a0];rfl];refine Calls.mono (show Calls Tryz.prog 189 #[.slice s.a 0 s.cap,.func (.func g) #[] cb.toArray] w _ from this) ?_;rintro e w' ⟨rfl,rfl⟩;exact⟨.tup [],.tuple #[],m,h,rfl,hK [] m (.refl _) .nil hr (λ_ _=>rfl),⟨#[],rfl,rfl⟩,⟨rfl,rfl,rfl,Nat.le_refl _,Nat.le_refl _,λ_ _ _=>rfl,D.hsat,D.msat,D.disj,λ_ _ _ e=>e,λ_ _ _=>rfl,λb o hb=>.inr (.inl cg)⟩,λb hb=>by simp[iG]at hb⟩
 obtain⟨p0,P⟩:=exists_mem_of_ne_nil _ F
 haveI:Inhabited (G0 h R):=⟨⟨p0.1,p0.2,hv p0 P,hR p0 P⟩⟩
 rcases hr.ex with⟨rfl,hx⟩|⟨b,z,A,rfl,Q,h0,h1,h2,h3⟩
 .exact(F (cm hx)).elim
 .simp only[length_map]at h0 h3;have J:=D.msat b _ Q;have S:=(Array.getElem?_eq_some_iff.1 J).1;obtain⟨B,T⟩:∃B:List (G0 h R),B.map G0.pr=ps:=RW ps hv hR;have U:B.length=ps.length:=cg
  have V:∀j,(G:j<B.length)->A[j]? =some (A5 h B[j]):=λj G=>by
   have:(A.toList.take (ps.length*1))[j]? =((ps.map λp=>eS p.1).flatten)[j]? :=by rw[h3]
   rw[getElem?_take,if_pos aC,dd]at this;rw[this, <-T]
   have hf:((B.map G0.pr).map λp:Sl×dp=>eS p.1).flatten=B.map (A5 h):=by
    clear T U G this
    induction B with
    |nil=>rfl
    |cons a l ih=>simp only[map_cons,flatten_cons,ih];rfl
   grind
  have a1:A.size=z:=by omega
  have hH:Sort.Holds (A5 h) w b 0 B.toArray:=by
   intro j G;have G:j<B.length:=by omega
   refine⟨?_,?_⟩
   .rw[cell_of_heap J,dd,Nat.zero_add,V j G,getElem!_pos _ j aC];simp
   .unfold World.frozen?
    grind
  obtain⟨O,a2,b1,b3⟩:=hg
  have eg:∀args w,(callFunc g args).run Tryz.prog w= .ok (.enter g args) w:=λargs w=>by
   have a3:¬O.body=none:=cg
   have a4:¬O.name= "runtime.NumGoroutine" :=cg
   simp[callFunc,program,Sem.run,a2,a4,a3]
  have W:=bDQ (blk:=b) (off:=0) (size:=B.toArray.size) hc (w:=w) (λc o v C=>⟨D.hsat c o v C,λe=>by rw[e,D.disj b _ Q o]at C;cases C⟩) (λc o d=>⟨D.msat c o (H c o d).1,λe=>(H c o d).2 0 (by rw[e])⟩) (λc o d=>D.disj c o (H c o d).1);have L:=Any.slices_SortFunc Tryz.sortF (A5 h) (λ_=>rfl) (λx y=>cf x.l y.l) hO g cb.toArray b 0 z B.toArray w eg W hH S ce;have e3:(Sl.val ⟨some ⟨b,0,none⟩,(ps.map λp=>eS p.1).length,z⟩)= .slice (some ⟨b,0,none⟩) B.toArray.size z:=by simp[Sl.val,U]
  rw[e3];refine Calls.mono L ?_;rintro e w' ⟨rfl,f,n,os,X,a5,rfl⟩;have a6:f.size=B.length:=by have:=X.1;omega
  have a7:=O9 X;obtain⟨m',E⟩:∃m',iD m m' b (.cells (Sort.putCells (A5 h) 0 f A) 94 (0,0)):=⟨λc=>if c=b then some (.cells (Sort.putCells (A5 h) 0 f A) 94 (0,0))else m c,bx,λc d=>by simp[d]⟩
  have b4:(Sort.putRow (A5 h) (Sort.ahead w n) b 0 f).heap.size=w.heap.size:=by unfold Sort.putRow Sort.mapBlock;simp[Sort.ahead]
  have b2:(Go.Proofs.sortWorld (A5 h) w b 0 n f os).heap[b]? =some (.cells (Sort.putCells (A5 h) 0 f A) 94 (0,0)):=by
   show((Sort.putRow (A5 h) (Sort.ahead w n) b 0 f).heap++os)[b]? =_;rw[Array.getElem?_append_left aC];unfold Sort.putRow Sort.mapBlock;simp only[Array.getElem?_modify,if_true];show Option.map _ w.heap[b]? =_;rw[J];rfl
  have Y:∀c,c<w.heap.size->c≠b->(Go.Proofs.sortWorld (A5 h) w b 0 n f os).heap[c]? =w.heap[c]? :=λc d M=>by
   show((Sort.putRow (A5 h) (Sort.ahead w n) b 0 f).heap++os)[c]? =_;rw[Array.getElem?_append_left aC];unfold Sort.putRow Sort.mapBlock;simp only[Array.getElem?_modify,if_neg (Ne.symm M)];rfl
  have hE:y7 m [cS ⟨some ⟨b,0,none⟩,(ps.map λp=>eS p.1).length,z⟩,.val (.func (.func g) #[] cb.toArray)] [.slice (some ⟨b,0,none⟩) B.toArray.size z,.func (.func g) #[] cb.toArray] b:=.inl (by rw[Q];simp);refine⟨.tup [],.tuple #[],m',h,rfl,hK (f.toList.map G0.pr) m' ?_ ?_ ?_ (λc d=>E.other c (λe=>d 0 (by rw[e]))),⟨#[],rfl,rfl⟩,⟨rfl,rfl,rfl,Nat.le_add_right _ _,?_,?_,?_,?_,?_,λ_ _ _ e=>e,λ_ _ _=>rfl,?_⟩,λb hb=>by simp[iG]at hb⟩
  .grind
  .rw[pairwise_map,pairwise_iff_getElem];intro i j hi G a8 Z;have hi:i<f.size:=by omega
   have G:j<f.size:=by omega
   have:=a5 i j (Nat.zero_le _) a8 ce;rw[getElem!_pos f i hi,getElem!_pos f j G]at this;unfold Go.Proofs.ltOf at this;simp only[decide_eq_false_iff_not]at this;simp only[Array.getElem_toList]at Z;exact this Z
  .refine⟨⟨λe he=>?_,λe he u hu=>?_⟩,.inr ⟨b,z,_,?_,E.at_,ce,h1,?_,?_⟩⟩
   .obtain⟨x,_,rfl⟩:=mem_map.1 he;rfl
   .obtain⟨x,_,rfl⟩:=mem_map.1 he;have:u= .slice x.1.a x.1.len x.1.cap:=by simpa[eS]using hu
    rw[this];rfl
   .grind
   .simp[Sort.putCells,a1]
   .apply ext_getElem?;intro j
    have hf:((f.toList.map G0.pr).map λp:Sl×dp=>eS p.1).flatten=f.toList.map (A5 h):=by
     generalize f.toList=l
     induction l with
     |nil=>rfl
     |cons a l ih=>simp only[map_cons,flatten_cons,ih];rfl
    rw[hf,getElem?_take];simp only[length_map,Array.length_toList,Nat.mul_one];by_cases G:j<f.size
    .rw[if_pos G,dd,getElem?_map,dd,Array.getElem?_eq_getElem G];have a9:j<A.size:=by omega
     simp only[Sort.putCells,Array.getElem?_mapIdx,Array.getElem?_eq_getElem a9,Option.map_some,Nat.zero_le,Nat.zero_add,Nat.sub_zero,true_and]
     grind
    grind
  .grind
  .grind
  .intro c o v C;have M:c≠b:=λe=>by rw[e,D.disj b _ Q o]at C;cases C
   have h5:=D.hsat c o v C;rw[World.cell?_of_block (w:=w) (a:=⟨c,o,none⟩) (Y c (World.block_lt_of_cell? w ⟨c,o,none⟩ h5) M)];exact h5
  .intro c o d;by_cases e:c=b
   .subst e;rw[E.at_]at d;grind
   .rw[E.other c e]at d;have h5:=D.msat c o d
    grind
  .intro c o d i;by_cases e:c=b
   .subst e;exact D.disj c _ Q i
   .rw[E.other c e]at d;exact D.disj c o d i
  .intro c o d;by_cases e:c=b
   .grind
   .rw[E.other c e]at d;exact .inr (.inl cg)
end Go.Ps
namespace Go.Vc
open Go List
theorem dC.rd{m:MH}{h:PH}{s:Sl}{E sz:Nat}{xs:List dj}(r:dC m s E sz xs){i:Nat}{e:dj}(c:xs[i]? =some e):∃b,s.a=some ⟨b,0,none⟩/\aR m h b (i*sz) e:=by
 rcases r.ex with⟨_,rfl⟩|⟨b,o,d,rfl,t,A,B,C,u⟩
 .simp at c
 .refine⟨b,rfl,.lent d E (0,0) t ?_⟩;have y:=(cn c);have f:=r.rows.len e (cr c)
  have g:∀(l:List dj)(k:Nat),(∀x∈l,x.length=sz)->l[k]? =some e->(l.flatten.drop (k*sz)).take sz=e:=by
   intro l
   induction l with
   |nil=>grind
   |cons a l D=>
    intro k z F;have j:=z a (mem_cons_self ..);cases k with
    |zero=>
     grind
    |succ k=>
     rw[flatten_cons,Nat.succ_mul,Nat.add_comm, <-drop_drop, <-j,drop_left,j]
     grind
  have n:=g xs i r.rows.len c;rw[f];rw[<-u]at n;rw[drop_take,take_take]at n
  grind
theorem nC.sub{m m':MH}{h:PH}{s:Sl}{sz:Nat}{c:List dj}(r:nC m h s sz c)(d:∀b o,m b=some o->m' b=some o):nC m' h s sz c:=by
 rcases r with r|⟨b,o,e,E,f,g,j,n,t⟩
 .exact .imm r
 .exact .lent b o e E f g j (d _ _ n) t
end Go.Vc
namespace Go.Ps
open Go Go.Vc Go.Proofs List Tryz
variable{K:dk}{m:MH}{h:PH}{s:lL}{ps:dl}{cb:Nat}{sc:bX}{v:QV}{q:Query}{p:Pred}{l:dl}{i:Nat}{N:Nat}{m':MH}{h':PH}{co:dl}{gr:dl}{od:dr}{w:Pred}{ta:Int}{li:Int}{xs:List dj}{sz:Nat}{k:Nat}{ks:List dl}{rs:dl}{r:Sl}{a:dl}{b:Nat}
structure T1{α:Type}(c:α->α->Int):Prop where
 anti:∀x y,c x y= -c y x
 trans:∀x y z,c x y<=0->c y z<=0->c x z<=0
theorem T1.zero{α:Type}{c:α->α->Int}(h:T1 c){x y z:α}(d:c x y<=0)(e:c y z<=0)(f:c x z=0):c x y=0/\c y z=0:=by
 have g:=h.anti x z;have j:=h.anti x y;have n:=h.anti y z;have o:=h.trans z x y aC d;have t:=h.trans y z x e aC;omega
theorem Uv{c d:Int}(h:(if c≠0 then c else d)<=0):c<=0:=by
 omega
theorem T1.lex{α:Type}{c d:α->α->Int}(h:T1 c)(k:T1 d):T1 (λx y=>if c x y≠0 then c x y else d x y):=by
 refine⟨λx y=>?_,λx y z f g=>?_⟩
 .have a:=h.anti x y;have b:=k.anti x y;omega
 .have j:c x y<=0:=Uv f;have n:c y z<=0:=Uv g;have o:=h.trans x y z j n;show(if c x z≠0 then c x z else d x z)<=0;by_cases e:c x z=0
  .obtain⟨t,u⟩:=h.zero j n e;have f:(if c x y≠0 then c x y else d x y)<=0:=f;have g:(if c y z≠0 then c y z else d y z)<=0:=g;rw[if_neg aC]at f;rw[if_neg aC]at g;rw[if_neg aC];exact k.trans x y z f g
  omega
theorem T1.of{α β:Type}{c:α->α->Int}(h:T1 c)(f:β->α):T1 (λx y=>c (f x) (f y)):=⟨λx y=>h.anti _ _,λx y z=>h.trans _ _ _⟩
theorem Xu:T1 CI:=by
 refine⟨λx y=>?_,λx y z=>?_⟩
 .unfold CI;omega
 .unfold CI;omega
theorem TN:∀a b:dw,Lib.compareBytes a b= -Lib.compareBytes b a
 |[],[]=>rfl
 |[],_::_=>rfl
 |_::_,[]=>rfl
 |a::l,b::k=>by
  simp only[Lib.compareBytes];by_cases c:a<b
  .grind
  .by_cases d:b<a
   .grind
   .simp only[c,d,if_false];exact TN l k
theorem QC:∀a b c:dw,Lib.compareBytes a b<=0->Lib.compareBytes b c<=0->Lib.compareBytes a c<=0
 |[],_,[],_,_=>by simp[Lib.compareBytes]
 |[],_,_::_,_,_=>by simp[Lib.compareBytes]
 |_::_,[],_,f,_=>by simp[Lib.compareBytes]at f
 |_::_,_::_,[],_,d=>by simp[Lib.compareBytes]at d
 |a::l,b::k,c::q,f,d=>by
  simp only[Lib.compareBytes]at f d⊢
  by_cases g:a<c
  .simp[g]
  .by_cases j:a<b
   .grind
   .by_cases n:b<a
    .grind
    .have e:a=b:=UInt8.le_antisymm (UInt8.not_lt.1 n) (UInt8.not_lt.1 j);subst e;simp only[j,g,if_false]at f d⊢
     by_cases o:c<a
     .grind
     .simp only[o,if_false]at d⊢
      exact QC l k q f d
theorem Lk:T1 jO:=by
 have c:T1 Rn:=⟨λx y=>TN _ _,λx y z=>QC _ _ _⟩
 exact(Xu.of VV.kind).lex ((Xu.of VV.int).lex (c.of VV.text))
theorem lQ:∀a b,dQ a b= -dQ b a
 |[],[]=>rfl
 |[],_::_=>rfl
 |_::_,[]=>rfl
 |x::l,y::k=>by
  have a:=Lk.anti x y;simp only[dQ];by_cases e:jO x y=0
  .rw[if_neg aC,if_neg aC];exact lQ l k
  omega
theorem Ac:∀a b c,dQ a b<=0->dQ b c<=0->dQ a c<=0
 |[],_,[],_,_=>by simp[dQ]
 |[],_,_::_,_,_=>by simp[dQ]
 |_::_,[],_,d,_=>by simp[dQ]at d
 |_::_,_::_,[],_,f=>by simp[dQ]at f
 |x::l,y::k,z::q,d,f=>by
  simp only[dQ]at d f⊢
  have g:jO x y<=0:=Uv d;have j:jO y z<=0:=Uv f;have n:=Lk.trans x y z g j;by_cases e:jO x z=0
  .obtain⟨o,t⟩:=Lk.zero g j e;rw[if_neg aC]at d;rw[if_neg aC]at f;rw[if_neg aC];exact Ac l k q d f
  omega
theorem GQ:T1 dQ:=⟨lQ,Ac⟩
theorem T1.swo{R:dp->Prop}{cf:dp->dp->Int}(c:T1 cf):Sort.SWO (Go.Proofs.ltOf (fun(x y:G0 h R)=>cf x.l y.l)):=by
 refine⟨λx=>?_,λx y z d f=>?_,λx y z d f=>?_⟩
 .have:=c.anti x.l x.l;unfold Go.Proofs.ltOf
  grind
 .unfold Go.Proofs.ltOf at*
  simp only[dc]at*
  have t:=c.trans x.l y.l z.l aC aC;by_cases e:cf x.l z.l=0
  .have:=c.zero (x:=x.l) (y:=y.l) (z:=z.l) aC aC e;omega
  .omega
 .unfold Go.Proofs.ltOf at*
  simp only[decide_eq_false_iff_not]at*
  have g:=c.anti x.l y.l;have j:=c.anti y.l z.l;have n:=c.anti x.l z.l;have t:=c.trans z.l y.l x.l aC aC;omega
def L3(x:dp):dm->dm
 |[]=>[x]
 |y::l=>if dQ x y<0 then x::y::l else if dQ x y=0 then y::l else y::L3 x l
def Bb(l:dm):dm:=l.foldr L3 []
abbrev jU(l:dm):Prop:=l.Pairwise λx y=>dQ x y<0
theorem PJ{x z:dp}:∀{l:dm},z∈L3 x l↔z=x\/z∈l
 |[]=>by simp[L3]
 |y::l=>by
  simp only[L3];split
  .simp
  .split
   .rename_i _ e;have:=iH.1 e
    grind
   .simp only[mem_cons,PJ (l:=l)]
    grind
theorem Nk{x:dp}:∀{l:dm},jU l->jU (L3 x l)
 |[],_=>by simp[L3]
 |y::l,h=>by
  obtain⟨g,f⟩:=pairwise_cons.1 h;simp only[L3];split
  .rename_i d;refine pairwise_cons.2 ⟨λz c=>?_,h⟩;rcases mem_cons.1 c with rfl|c
   .exact d
   .have t:=Ac x y z aC cg;by_cases e:dQ x z=0
    .have:=GQ.zero (x:=x) (y:=y) (z:=z) aC cg e;omega
    .omega
  .split
   .exact h
   .rename_i j n;refine pairwise_cons.2 ⟨λz c=>?_,Nk f⟩;rcases PJ.1 c with rfl|c
    .have:=lQ z y;omega
    grind
theorem Gm{x:dp}:∀{l:dm},x∈Bb l↔x∈l
 |[]=>by simp[Bb]
 |y::l=>by
  show x∈L3 y (Bb l)↔_;rw[PJ,Gm,mem_cons]
theorem CM:∀(l:dm),jU (Bb l)
 |[]=>.nil
 |_::l=>Nk (CM l)
theorem IQ:∀{a b:dm},jU a->jU b->(∀x,x∈a↔x∈b)->a=b
 |[],[],_,_,_=>rfl
 |[],y::_,_,_,h=>by have:=(h y).2 bx;grind
 |x::_,[],_,_,h=>by have:=(h x).1 bx;grind
 |x::a,y::b,c,d,h=>by
  obtain⟨f,g⟩:=pairwise_cons.1 c;obtain⟨j,n⟩:=pairwise_cons.1 d;have o:∀z,¬dQ z z<0:=λz=>by have:=lQ z z;omega
  have e:x=y:=by
   rcases mem_cons.1 ((h x).1 bx)with e|t
   .exact e
   .rcases mem_cons.1 ((h y).2 bx)with e|u
    .grind
    .have B:=f y u;have C:=j x t;have:=lQ x y;omega
  subst e;congr 1;refine IQ g n (λz=>⟨λA=>?_,λA=>?_⟩)
  .grind
  grind
theorem Uh{l r:dm}(c:jU r)(d:∀x,x∈r↔x∈l):r=Bb l:=IQ c (CM l) λx=>by rw[d,Gm]
theorem RG{l:dm}(h:jU l):Bb l=l:=(Uh h λ_=>Iff.rfl).symm
def aEZ:Vc.Spec:=λc m h K=>∃(s:Sl)(d:dn),c=[cS s]/\nC m h s 1 (d.map eS)/\d.length<=502633886983/\∀e m',dC m' e 94 1 (d.map eS)->(∀b o,m b=some o->m' b=some o)->(∀b i,e.a=some ⟨b,i,none⟩->m b=none)->K (cS e) m' h
def bHX:Vc.Spec:=λd m h K=>∃(s:Sl)(ps:em),d=[cS s,.val (.func (.func 102) #[] #[])]/\dC m s 94 1 (ps.map λp=>eS p.1)/\(∀p∈ps,bT h p.1 p.2)/\ps.length<=140737488355328/\
 ∀(c:em)(m':MH),c.Perm ps->c.Pairwise (λp q=>¬dQ q.2 p.2<0)->dC m' s 94 1 (c.map λp=>eS p.1)->(∀b,(∀i,s.a≠some ⟨b,i,none⟩)->m' b=m b)->K (.tup []) m' h
structure eD(h:PH)(us:dn)(rs:dm):Prop where
 len:us.length=rs.length
 at_:∀(j:Nat) x,rs[j]? =some x->∃u,us[j]? =some u/\bT h u x
def cEQ:Vc.Spec:=λc m h K=>∃s d l,c=[cS s]/\nC m h s 1 (d.map eS)/\eD h d l/\l.length<=502633886983/\∀e h',PH.le h h'->Rows h' e (Bb l)->K (cS e) m h'
noncomputable def bAZ:Ctx:=
 cT [(188,aEZ),(189,bHX),(102,DF)] [(5,{A:=Nat×dn×Sl×MH×PH,st:=λ⟨i,c,s,m,h⟩=>bO 38 39 [(3,sv s),(4,.at (.lst 35)),(11,sv s),(12,iv s.len),(13,iv i)] [(35,.lst 94 1 (c.map eS))] m h})] [] [] false
def Qj(n c:Nat)(m:MH)(h:PH)(K:dk):Prop:=
  K iO m h
theorem brX(n c:Nat)(m:MH)(h:PH)(K:dk):Qj n c m h K=(tB (rI [] [] [] [] [53,1053] [] false) Tryz.f188 (cM Tryz.f188) (entry Tryz.f188.ntmps [.val (.slice none n c)] m h) K):=bu
def Qi(a:Addr)(n c:Nat)(m:MH)(h:PH)(K:dk):Prop:=
  jN (λs d=>Cq (qE m d h s 94 1 []) (λx=>Cp (dC d (cX s) 94 1 x) (λy=>aA (cZ 1 y) (nC d h (Sl.mk (Option.some a) n c) 1 y) (aA (mI x y 24) (mC x y) (jN (λe f=>dY d f (cX s) e 94 1 (x++y)->K (F9 e) f h))))))
theorem brQ(a:Addr)(n c:Nat)(m:MH)(h:PH)(K:dk):Qi a n c m h K=(tB (rI [] [] [] [] [53,1053] [] false) Tryz.f188 (cM Tryz.f188) (entry Tryz.f188.ntmps [.val (.slice (some a) n c)] m h) K):=bu
abbrev J3(a:MH)(b:Sl)(c:Nat)(d:em):Prop:=dC a b 94 c (List.map (fun(x:Sl×dp)=>aM x.1) d)
noncomputable abbrev kO(a:Nat×dn×Sl×MH×PH):Sl:=a.2.2.1
noncomputable abbrev Ez(a:dn):Option Go.Vc.Own:=bW 94 1 (List.map eS a)
abbrev pE(a:dn):Prop:=bW 94 1 []=Ez a
noncomputable abbrev yA(a:Nat×dn×Sl×MH×PH):Nat->Option Obj:=sV a.2.2
noncomputable abbrev sM(a:Nat×dn×Sl×MH×PH):Nat->Nat->Option Value:=uQ a.2.2
noncomputable abbrev HZ(a:Nat×dn×Sl×MH×PH):List dj:=iA a.2.1
abbrev jS(a:List dj)(b:Sl)(c:dn):Prop:=bW 94 1 (eG a (aM b))=Ez c
abbrev rY(a b:dn):Prop:=Ez a=Ez b
attribute [push_cast] J3 kO Ez pE yA sM HZ jS rY
def Mv(s:Sl)(m:MH)(h:PH)(K:dk):Prop:=
  ∃(C:Sl)(u:dn),aI (eY s=eY C) (nC m h C 1 (iA u)) (u.length<=502633886983) (∀(f:Sl)(n:MH),dC n f 94 1 (iA u)->(∀(b:Nat)(o:Obj),m b=Option.some o->n b=Option.some o)->(∀(b i:Nat),aK f.a b i->m b=Option.none)->∃(t:Sl)(p:em),aA (fP f (Cn 102 Cm)=fP t (Cn 102 Cm)) (J3 n t 1 p) (aA (∀(e:Sl×dp),List.Mem e p->bT h e.1 e.2) (j4 p.length) (∀(e:em)(z:MH),List.Perm e p->List.Pairwise (fun(F:Sl×dp)=>fun(q:Sl×dp)=>¬(dQ q.2 F.2<0)) e->J3 z t 1 e->(∀(b:Nat),(∀(i:Nat),uW (aK t.a b i))->z b=n b)->∃(I:Nat×dn×Sl×MH×PH->Prop)(g:Nat×dn×Sl×MH×PH->Nat),(∃(x:Nat×dn×Sl×MH×PH),aA (I x) (bA f
 (kO x)) (aA (eL 35) (bA f (kO x)) (aA (cJ f (kO x)) (aZ x.1) (aA (pE x.2.1) (z=yA x) (bR h (sM x))))))/\∀(x:Nat×dn×Sl×MH×PH),I x->aW (↑x.1:Int) (aF (kO x)) (aJ (λb o=>aI (aK (kO x).a b o) (0<=(↑x.1:Int)) ((↑x.1:Int)<aF (kO x)) (∃(y:Sl),aR (yA x) (sM x) b (bE o x.1 1) (aM y)/\dD (↑x.1:Int) 0 (∃(d:List dj),aA (cZ 3 d) (cE (sM x) (cX y) 3 d) (aA (E4 0 d 32) (j4 (0+d.length)) (bU (sM x) 3 (Ft d) (λA B=>iY (HZ x) 24 (∃(c:Nat×dn×Sl×MH×PH),aA (I c) (g c<g x) (aA (bA (kO x) (kO c)) (eL 35) (aA (bA (kO x) (kO c)) (cJ (kO x) (kO c)) (aA (eR (bF ((↑x.1:Int)+1))=bL c.1) (jS (HZ x) A
 c.2.1) (bG (yA x) (yA c) B (sM c)))))))))) (aJ (λD E=>aI (aK (kO x).a D E) (0<=bF ((↑x.1:Int)-1)) (bF ((↑x.1:Int)-1)<aF (kO x)) (∃(d:Sl),aR (yA x) (sM x) D (cC E (bF ((↑x.1:Int)-1)) 1) (aM d)/\sF d y (sM x) (λa G=>cK (dQ a G) 0 (∃(j:List dj),aA (cZ 3 j) (cE (sM x) (cX y) 3 j) (aA (E4 0 j 32) (j4 (0+j.length)) (bU (sM x) 3 (Ft j) (λA B=>iY (HZ x) 24 (∃(c:Nat×dn×Sl×MH×PH),aA (I c) (g c<g x) (aA (bA (kO x) (kO c)) (eL 35) (aA (bA (kO x) (kO c)) (cJ (kO x) (kO c)) (aA (eR (bF ((↑x.1:Int)+1))=bL c.1) (jS (HZ x) A c.2.1) (bG (yA x) (yA c) B (sM c)))))))))) (∃(c:Nat×dn
 ×Sl×MH×PH),aA (I c) (g c<g x) (aA (bA (kO x) (kO c)) (eL 35) (aA (bA (kO x) (kO c)) (cJ (kO x) (kO c)) (aA (eR (bF ((↑x.1:Int)+1))=bL c.1) (rY x.2.1 c.2.1) (bG (yA x) (yA c) (sM x) (sM c))))))))))))) (nD (sM x) (HZ x) K (yA x)))))
theorem vE(l:dn):cZ 1 (l.map eS):=by
 constructor
 .intro e c;obtain⟨x,_,rfl⟩:=mem_map.1 c;rfl
 .intro e c u d;obtain⟨x,_,rfl⟩:=mem_map.1 c;have:u= .slice x.a x.len x.cap:=by simpa[eS]using d
  rw[this];rfl
theorem Cf(l:dp):cZ 3 (l.map VV.enc):=by
 constructor
 .intro e c;obtain⟨x,_,rfl⟩:=mem_map.1 c;rfl
 .intro e c u d;obtain⟨x,_,rfl⟩:=mem_map.1 c;simp only[VV.enc,mem_cons,not_mem_nil,or_false]at d;rcases d with rfl|rfl|rfl<;>rfl
theorem Zy:di 188 aEZ:=by
 refine eA (fn:=Tryz.f188) (c:=cM Tryz.f188) func188 rfl bz ?_;rintro A m h K ⟨s,t,rfl,g,D,u⟩;obtain⟨a,n,c⟩:=s;refine⟨rI [] [] [] [] [53,1053] [] false,rfl,aG,?_⟩;cases a with
 |none=>
  show tB _ Tryz.f188 (cM Tryz.f188) (entry Tryz.f188.ntmps [.val (.slice none n c)] m h) K;rw[<-brX n c m h K];dsimp only[Qj,push_cast]
  have e:t.map eS=[]:=by
   rcases g with g|⟨b,o,F,E,G,e,_⟩
   .rcases g.row with e|⟨b,o,e,_⟩
    .exact e
    .cases e
   .cases e
  rw[e]at u;exact u ⟨none,0,0⟩ m ⟨⟨(λe x=>by cases x),(λe x=>by cases x)⟩,.inl ⟨rfl,rfl⟩⟩ (λb o e=>e) (λb i e=>by cases e)
 |some a=>
  show tB _ Tryz.f188 (cM Tryz.f188) (entry Tryz.f188.ntmps [.val (.slice (some a) n c)] m h) K;rw[<-brQ a n c m h K];dsimp only[Qi,push_cast];intro s m' d
  have sub:∀b o,m b=some o->m' b=some o:=λb o f=>by
   rw[d.other b (λi e=>by rw[(d.fresh b i e).m_]at f;cases f)];exact f
  refine⟨[],d.row,t.map eS,vE t,g.sub sub,ce,ce,λB C y=>u B C (cm y.row) (λb o f=>?_) (λb i e=>?_)⟩
  .exact y.other b o (sub b o f) (λi e=>by have e:s.a=some ⟨b,i,none⟩:=e;rw[(d.fresh b i e).m_]at f;cases f)
  .rcases y.fresh b i e with z|⟨j,z⟩
   .cases H:m b with
    |none=>rfl
    |some o=>grind
   .exact(d.fresh b j z).m_
theorem W6:di 189 bHX:=by
 refine⟨⟨Tryz.f189,func189,rfl,bz⟩,?_⟩;rintro f e m h w K ⟨s,ps,rfl,j,n,t,u⟩ c
 obtain⟨v,d,rfl⟩:∃v d,e=[v,d]:=by
  have:=(rD c.args).1
  match e,this with
  |[v,d],_=>grind
 have z:v=s.val:=c.args.1;have A:d= .func (.func 102) #[] #[]:=c.args.2.1;subst z A;refine RD (R:=λ_=>True) (g:=102) (cb:=[]) (m2:=λ_=>none) (cf:=dQ) rfl c ⟨Tryz.f102,func102,rfl,bz⟩ j n (λ_ _=>trivial) t GQ.swo ⟨DF,Cx,λx y=>⟨x.s,y.s,x.l,y.l,rfl,x.ok,y.ok,rfl,rfl,rfl⟩⟩ (λb o B=>by cases B) u
theorem eD.mono{us:dn}{rs:dm}(x:eD h us rs)(le:PH.le h h'):eD h' us rs:=⟨x.len,λj r d=>(x.at_ j r d).imp λ_ c=>⟨c.1,bT.mono c.2 le⟩⟩
theorem eD.nil(h:PH):eD h [] []:=⟨rfl,λj x c=>by simp at c⟩
theorem eD.snoc{us:dn}{rs:dm}(x:eD h us rs){u:Sl}{r:dp}(d:bT h u r):eD h (us++[u]) (rs++[r]):=by
 refine⟨by simp[x.len],λj y c=>?_⟩;by_cases f:j<rs.length
 .rw[getElem?_append_left f]at c;obtain⟨v,g,n⟩:=x.at_ j y c
  grind
 .rw[getElem?_append_right aC]at c;have:=(cn c);simp at this;have e:j=rs.length:=by omega
  subst e;simp at c;subst c;exact⟨u,by rw[getElem?_append_right (by rw[x.len];omega),x.len];simp,d⟩
theorem eD.rows{h:PH}{us:dn}{rs:dm}{s:Sl}(x:eD h us rs)(c:cE h s 1 (us.map eS))(d:rs.length<=502633886983):Rows h s rs:=⟨⟨us,c,x.len.symm,x.at_⟩,d⟩
structure aiJ(ps':em)(s1:Sl)(m2:MH)(h:PH)(i:Nat)(us2:dn)(s2:Sl)(mx:MH)(hx:PH):Prop where
 s_:s2=s1
 m_:mx=m2
 le:PH.le h hx
 hi:i<=ps'.length
 hu:us2.length<=i
 ex:∃rs,eD hx us2 rs/\jU rs/\∀x,x∈rs↔x∈(ps'.take i).map Prod.snd
theorem Nv{e:PH}{u:Sl}{r:dp}{us:dn}{Q:Sl->PH->Prop}(c:bT e u r)(y:us.length<=502633886983)(g:∀s h',e.le h'->bT h' s r->Q s h'):
 ∃d:List dj,cZ 3 d/\cE e (Sl.mk u.a u.len u.cap) 3 d/\(0+d.length)*32<=140737488355328/\0+d.length<=140737488355328/\∀(s:Sl)(h':PH),e.le h'->cE h' s 3 ([]++d)->
  ((List.map eS us).length+1)*24<=140737488355328/\(List.map eS us).length<140737488355328/\Q s h':=by
 obtain⟨f,j,n,o⟩:=c.ex;have t:=c.len;refine⟨f.map VV.enc,Cf f,j,cg,cg,λs h' le x=>⟨cg,cg,g s h' le ⟨⟨f,x,n,o⟩,t⟩⟩⟩
theorem caZ{s:Sl}{us:dn}{l:dm}(hr:nC m h s 1 (us.map eS))(F:eD h us l)(b4:l.length<=502633886983)(hK:∀s' h',PH.le h h'->Rows h' s' (Bb l)->K (cS s') m h'):Mv s m h (jF h K):=by
 dsimp only[Mv,push_cast];have b5:=F.len.symm;have b6:=F.at_;refine⟨s,us,rfl,hr,aC,λs1 m1 a0 a1 b2=>⟨s1,us.zip l,rfl,?_,λp G=>?_,ce,λc m2 d P f a2=>?_⟩⟩
 .have:(us.zip l).map (λp=>[iI p.1])=us.map eS:=by
   rw[show(λp:Sl×dp=>[iI p.1])=eS∘Prod.fst from rfl, <-map_map,map_fst_zip aC]
  grind
 .obtain⟨j,C⟩:=getElem?_of_mem G;rw[getElem?_zip_eq_some]at C
  grind
 .have b7:c.length=us.length:=by rw[d.length_eq];simp;omega
  have Q:=dC.slen f;simp only[length_map]at Q
  have R:∀{i:Nat}{p:Sl×dp},c[i]? =some p->bT h p.1 p.2:=fun{i p} G=>by
   have:=d.mem_iff.1 (cr G);obtain⟨j,C⟩:=getElem?_of_mem this;rw[getElem?_zip_eq_some]at C
   grind
  have b3:∀x,x∈c.map Prod.snd↔x∈l:=λx=>by
   rw[(d.map Prod.snd).mem_iff,map_snd_zip aC]
  have H:∀b o,m b=some o->m2 b=some o:=λb o hb=>by
   grind
  refine⟨λx=>aiJ c s1 m2 h x.1 x.2.1 x.2.2.1 x.2.2.2.1 x.2.2.2.2,λx=>c.length-x.1,⟨(0,[],s1,m2,h),⟨rfl,rfl,.refl _,bx,bx,[],.nil h,.nil,bx⟩,MT⟩,?_⟩;rintro⟨i,n,I,J,S⟩ ⟨e1,e2,le,hi,a3,rs,u,L,D⟩;dsimp only at e1 e2 le hi a3 u;subst e1 e2;refine aD (λT=>?_) (λa4=>?_)
  .dsimp only at T;have U:i<c.length:=by omega
   obtain⟨p,G⟩:∃p,c[i]? =some p:=⟨_,cq U⟩
   obtain⟨b,e1,r1⟩:=f.rd (h:=S) (i:=i) (e:=eS p.1) (by simp[G];rfl);have M:=bT.mono (R G) le
   have a5:∀x,x∈(c.take (i+1)).map Prod.snd↔x∈(c.take i).map Prod.snd\/x=p.2:=λx=>by
    rw[db,G];simp
   have V:(∀y∈rs,dQ y p.2<0)->∀(s:Sl)(h':PH),S.le h'->bT h' s p.2->aiJ c I J h (i+1) (n++[s]) I J h':=λhc s h' g A=>by
    refine⟨rfl,rfl,le.trans g,aC,ce,rs++[p.2],(u.mono g).snoc A,pairwise_append.2 ⟨L,bx,λy O z hz=>?_⟩,λx=>?_⟩
    .grind
    grind
   have keep:p.2∈rs->aiJ c I J h (i+1) n I J S:=λhc=>
    ⟨rfl,rfl,le,aC,aC,rs,u,L,λx=>cg⟩
   refine⟨b,0,e1,aC,T,p.1,by simpa[eS]using r1,aB (λh0=>?_) (λh0=>?_)⟩
   .have h0:i=0:=cg
    subst h0
    have b8:rs=[]:=by
     cases rs with
     |nil=>rfl
     |cons y _=>have:=(D y).1 bx;simp at this
    exact Nv M cg (λs h' g A=>⟨(0+1,n++[s],I,J,h'),V cg s h' g A,cg,rfl,rfl,rfl,rfl,rfl,by simp[eS],rfl,rfl,trivial⟩)
   .have h0:i≠0:=cg
    have hw:IntKind.i64.wrap ((i:Int)-1)=((i-1:Nat):Int):=by rw[dL aC aC];omega
    obtain⟨q,W⟩:∃q,c[i-1]? =some q:=⟨_,cq aC⟩
    obtain⟨b',a6,a7⟩:=f.rd (h:=S) (i:=i-1) (e:=eS q.1) (by simp[W];rfl);have a8:=bT.mono (R W) le
    have X:q.2∈rs:=by
     rw[D];refine mem_map.2 ⟨q,?_,rfl⟩;exact mem_of_getElem? (i:=i-1) cg
    have B:∀y∈rs,dQ y q.2<=0:=λy O=>by
     rw[D]at O;obtain⟨z,hz,rfl⟩:=mem_map.1 O;obtain⟨j,C⟩:=getElem?_of_mem hz;have a9:=(cn C);simp only[length_take]at a9;rw[getElem?_take,if_pos aC]at C;by_cases e:j=i-1
     .subst e;rw[W]at C;cases C;have:=lQ q.2 q.2;omega
     .have h1:=pairwise_iff_getElem.1 P j (i-1) aC aC aC;rw[(List.getElem?_eq_some_iff.1 C).2,(List.getElem?_eq_some_iff.1 W).2]at h1;have:=lQ z.2 q.2;omega
    have Y:dQ q.2 p.2<=0:=by
     have h1:=pairwise_iff_getElem.1 P (i-1) i aC aC aC;rw[(List.getElem?_eq_some_iff.1 G).2,(List.getElem?_eq_some_iff.1 W).2]at h1;have:=lQ q.2 p.2;omega
    dsimp only;rw[hw];refine⟨b',0,a6,aC,aC,q.1,by simpa[eS]using a7,q.1,p.1,q.2,p.2,rfl,a8,M,aB (λb0=>?_) (λZ=>?_)⟩
    .have b0:dQ q.2 p.2≠0:=cg
     refine Nv M aC (λs h' g A=>⟨(i+1,n++[s],I,J,h'),V (λy O=>?_) s h' g A,aC,rfl,rfl,rfl,rfl,by rw[fD aC],by simp[eS],rfl,rfl,trivial⟩);have t:=Ac y q.2 p.2 (B y O) Y;by_cases e:dQ y p.2=0
     .have:=GQ.zero (B y O) Y e;omega
     .omega
    .have Z:dQ q.2 p.2=0:=cg
     exact⟨(i+1,n,I,J,S),keep (by rw[<-iH.1 Z];exact X),aC,rfl,rfl,rfl,rfl,by rw[fD aC],rfl,rfl,rfl,trivial⟩
  .intro s3 h3 E a';dsimp only at a4 a' E;have b1:i=c.length:=by omega
   subst b1;rw[take_length]at D;have e:rs=Bb l:=Uh L (λx=>cg);subst e;have hl:=u.len;exact⟨m,h3,H,le.trans E,.refl _,hK s3 h3 (le.trans E) ((u.mono E).rows a' aC)⟩
theorem abX:di 115 cEQ:=by
 refine DS func115 ?_;rintro c m h K ⟨s,j,l,rfl,d,e,f,g⟩;refine⟨bAZ,rfl,aE Zy (aE W6 (aE Cx aG)),Mv s m h (jF h K),bu,?_⟩;exact caZ d e f g
end Go.Ps
namespace Go.Vc
open Go List
section
variable{B:tI}{C:Ctx}{ι:du}{σ:St}{a:Act}{w:World}{o:Oper}{K:St->Prop}
end
end Go.Vc
namespace Go.Vc
open Go List
section
variable{B:tI}{C:Ctx}{ι:du}{σ:St}{a:Act}{w:World}{K:St->Prop}
end
end Go.Vc
namespace Go.Ps
open Go Go.Vc Go.Proofs List Tryz
variable{K:dk}{m:MH}{h:PH}{s:lL}{ps:dl}{cb:Nat}{sc:bX}{v:QV}{q:Query}{p:Pred}{l:dl}{i:Nat}{N:Nat}{m':MH}{h':PH}{co:dl}{gr:dl}{od:dr}{w:Pred}{ta:Int}{li:Int}{xs:List dj}{sz:Nat}{k:Nat}{ks:List dl}{rs:dl}{r:Sl}{a:dl}{b:Nat}
def oZ(h:PH)(b:Nat)(l:dj):PH:=λc i=>if c=b then l[i]? else h c i
theorem apZ{l:dj}(d:∀i,h b i=none):PH.le h (oZ h b l):=⟨λc i v e=>by
 have:c≠b:=λf=>cg
 simp only[oZ,if_neg this];exact e⟩
end Go.Ps
