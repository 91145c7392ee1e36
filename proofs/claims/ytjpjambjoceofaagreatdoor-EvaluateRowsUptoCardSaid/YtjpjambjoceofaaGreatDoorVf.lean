/- Own work. -/
import Derived.Shelf.SlSorted.Search
import Derived.Shelf.SlSortCmp.NoneTotal
import Derived.Shelf.Small.Strs
import Derived.Shelf.Strconv.Itoa0
import Derived.Shelf.Strconv.Itoa1
import Derived.Shelf.LaysM
import Derived.Shelf.Strconv.Itoa2
import Derived.Shelf.Strconv.AppendUint10
import Derived.Shelf.Strconv.AppendInt10
import Derived.Shelf.Strconv.AppendIntPublic10
import Derived.Test.YtjpjambjoceofaaGreatDoorProg
import Derived.Lib.ItoaLen
import Derived.RangeFuncWrites
import Derived.OrdersIn
import Derived.Test.YtjpjambjoceofaaGreatDoorVe
set_option linter.unusedVariables false
set_option linter.unusedSimpArgs false
namespace Go.Proofs
open Go.Shelf List
def Tryz.lays213_ren:Go.Shelf.Ren:=⟨λ |213=>245|265=>277|n=>n,λ |9=>9|3=>3|n=>n,λ |n=>n⟩
def Tryz.lays106_ren:Go.Shelf.Ren:=⟨λ |106=>184|213=>245|265=>277|n=>n,λ |9=>9|3=>3|n=>n,λ |n=>n⟩
theorem Tryz.lays106:Go.Proofs.Lays.n106 Tryz.prog Tryz.lays106_ren:={
 mixed:=bu
 f106:=func184.trans (congrArg some bu)
 f213:=func245.trans (congrArg some bu)
 f265:=func277.trans (congrArg some bu)
 t3:=Tryz.underlying3
 a3:=Tryz.isAgg3
 z3:=Tryz.sizeOf3
 v3:=Tryz.zeroValue3
 t9:=Tryz.underlying9
 a9:=Tryz.isAgg9
 z9:=Tryz.sizeOf9
 v9:=Tryz.zeroValue9}
open Go.RowKit in
theorem Tryz.strings_Compare(a b:ByteArray)(w:World):
 Calls Tryz.prog 184 #[.string a,.string b] w λe w'=>e= .returned (.int .i64 (Lib.compareBytes a.data.toList b.data.toList))/\w'=w:=Any.strings_Compare Tryz.lays106 a b w
def Tryz.lays283_ren:Go.Shelf.Ren:=⟨λ |283=>305|n=>n,λ |3=>3|9=>9|4=>4|n=>n,λ |n=>n⟩
theorem Tryz.lays283:Go.Proofs.Lays.n283 Tryz.prog Tryz.lays283_ren:={
 mixed:=bu
 f283:=func305.trans (congrArg some bu)
 t3:=Tryz.underlying3
 a3:=Tryz.isAgg3
 z3:=Tryz.sizeOf3
 v3:=Tryz.zeroValue3
 t4:=Tryz.underlying4
 a4:=Tryz.isAgg4
 z4:=Tryz.sizeOf4
 v4:=Tryz.zeroValue4
 t9:=Tryz.underlying9
 a9:=Tryz.isAgg9
 z9:=Tryz.sizeOf9
 v9:=Tryz.zeroValue9}
open Go.Lib in
theorem Tryz.internal_strconv_small(i:Nat)(h:i<100)(w:World):
 Calls Tryz.prog 305 #[.int .i64 i] w λe w'=>e= .returned (.string ⟨(Lib.decDigits i).toArray⟩)/\w'=w:=Any.internal_strconv_small Tryz.lays283 i h w
def Tryz.laysM284_ren:Go.Shelf.Ren:=⟨λ |284=>306|129=>287|317=>310|318=>311|n=>n,λ |53=>301|3=>3|212=>323|0=>0|4=>4|46=>244|5=>5|9=>9|n=>n,λ |17=>1|n=>n⟩
theorem Tryz.laysM284:Go.Proofs.LaysM.n284 Tryz.prog Tryz.laysM284_ren:={
 mixed:=bu
 f129:=func287.trans (congrArg some bu)
 f284:=func306.trans (congrArg some bu)
 f317:=func310.trans (congrArg some bu)
 f318:=func311.trans (congrArg some bu)
 t0:=Tryz.underlying0
 a0:=Tryz.isAgg0
 z0:=Tryz.sizeOf0
 v0:=Tryz.zeroValue0
 t3:=Tryz.underlying3
 a3:=Tryz.isAgg3
 z3:=Tryz.sizeOf3
 v3:=Tryz.zeroValue3
 t4:=Tryz.underlying4
 a4:=Tryz.isAgg4
 z4:=Tryz.sizeOf4
 v4:=Tryz.zeroValue4
 t5:=Tryz.underlying5
 a5:=Tryz.isAgg5
 z5:=Tryz.sizeOf5
 v5:=Tryz.zeroValue5
 t9:=Tryz.underlying9
 a9:=Tryz.isAgg9
 z9:=Tryz.sizeOf9
 v9:=Tryz.zeroValue9
 t46:=Tryz.underlying244
 a46:=Tryz.isAgg244
 z46:=Tryz.sizeOf244
 v46:=Tryz.zeroValue244
 t53:=Tryz.underlying301
 a53:=Tryz.isAgg301
 z53:=Tryz.sizeOf301
 v53:=Tryz.zeroValue301
 t212:=Tryz.underlying323
 a212:=Tryz.isAgg323
 z212:=Tryz.sizeOf323
 v212:=Tryz.zeroValue323
 g17:=bu
 i0:=bu
 i3:=bu
 i4:=bu
 i5:=bu
 i9:=bu
 i46:=bu
 i53:=bu
 i212:=bu
 m17:=by kernel_rfl}
open Go.Lib in
theorem Tryz.internal_strconv_numDigits(u:Nat)(b:1<=u)(c:u<18446744073709551616)(w:World)(a:Lib.TabIs Tryz.prog w "internal/strconv.uint64pow10" .u64 Lib.pow10Tab):
 Calls Tryz.prog 306 #[.int .u64 u] w λe w'=>e= .returned (.int .i64 (Lib.nDigits u))/\w'=w:=Any.internal_strconv_numDigits Tryz.laysM284 u b c w a
def Tryz.lays285_ren:Go.Shelf.Ren:=⟨λ |285=>307|n=>n,λ |37=>22|53=>301|3=>3|4=>4|51=>299|9=>9|5=>5|0=>0|n=>n,λ |n=>n⟩
theorem Tryz.lays285:Go.Proofs.Lays.n285 Tryz.prog Tryz.lays285_ren:={
 mixed:=bu
 f285:=func307.trans (congrArg some bu)
 t0:=Tryz.underlying0
 a0:=Tryz.isAgg0
 z0:=Tryz.sizeOf0
 v0:=Tryz.zeroValue0
 t3:=Tryz.underlying3
 a3:=Tryz.isAgg3
 z3:=Tryz.sizeOf3
 v3:=Tryz.zeroValue3
 t4:=Tryz.underlying4
 a4:=Tryz.isAgg4
 z4:=Tryz.sizeOf4
 v4:=Tryz.zeroValue4
 t5:=Tryz.underlying5
 a5:=Tryz.isAgg5
 z5:=Tryz.sizeOf5
 v5:=Tryz.zeroValue5
 t9:=Tryz.underlying9
 a9:=Tryz.isAgg9
 z9:=Tryz.sizeOf9
 v9:=Tryz.zeroValue9
 t37:=Tryz.underlying22
 a37:=Tryz.isAgg22
 z37:=Tryz.sizeOf22
 v37:=Tryz.zeroValue22
 t51:=Tryz.underlying299
 a51:=Tryz.isAgg299
 z51:=Tryz.sizeOf299
 v51:=Tryz.zeroValue299
 t53:=Tryz.underlying301
 a53:=Tryz.isAgg301
 z53:=Tryz.sizeOf301
 v53:=Tryz.zeroValue301}
open Go.RowKit Go.Sort Go.Lib in
theorem Tryz.internal_strconv_formatBase10(blk off a:Nat)(u:Nat)(d:Array UInt8)(w:World)(h:Holds (fun(b:UInt8)=>Value.int .u8 (b.toNat:Int)) w blk off d)(i:u<10^d.size)(c:u<18446744073709551616)(f:d.size<4611686018427387904):
 Calls Tryz.prog 307 #[.slice (some ⟨blk,off,none⟩) d.size a,.int .u64 u] w λe w'=>
  e= .returned (.tuple #[])/\∃(n j:Nat)(g:Array UInt8),w'=(putRow (fun(b:UInt8)=>Value.int .u8 (b.toNat:Int)) w blk off g).drewN n/\FmtInv d.size u 0 j g:=Any.internal_strconv_formatBase10 Tryz.lays285 blk off a u d w h i c f
def Tryz.sortF_ren:Go.Shelf.Ren:=⟨λ |6=>189|15=>253|14=>252|28=>286|29=>287|20=>278|21=>279|22=>280|23=>281|24=>282|25=>283|26=>284|27=>285|46=>294|47=>295|48=>296|49=>297|50=>298|57=>304|n=>n,λ |22=>53|24=>94|25=>116|3=>3|39=>244|0=>0|53=>299|55=>301|4=>4|46=>293|45=>292|50=>190|5=>5|9=>9|66=>304|70=>264|76=>313|77=>314|n=>n,λ |n=>n⟩
theorem Tryz.sortF:Go.Proofs.SlLaysF.n6 Tryz.prog Tryz.sortF_ren:={
 mixed:=bu
 f6:=⟨Tryz.f189.name,bz,func189.trans (congrArg some bu)⟩
 f14:=⟨Tryz.f252.name,bz,func252.trans (congrArg some bu)⟩
 f15:=func253.trans (congrArg some bu)
 f20:=⟨Tryz.f278.name,bz,func278.trans (congrArg some bu)⟩
 f21:=⟨Tryz.f279.name,bz,func279.trans (congrArg some bu)⟩
 f22:=⟨Tryz.f280.name,bz,func280.trans (congrArg some bu)⟩
 f23:=⟨Tryz.f281.name,bz,func281.trans (congrArg some bu)⟩
 f24:=⟨Tryz.f282.name,bz,func282.trans (congrArg some bu)⟩
 f25:=⟨Tryz.f283.name,bz,func283.trans (congrArg some bu)⟩
 f26:=⟨Tryz.f284.name,bz,func284.trans (congrArg some bu)⟩
 f27:=⟨Tryz.f285.name,bz,func285.trans (congrArg some bu)⟩
 f28:=func286.trans (congrArg some bu)
 f29:=func287.trans (congrArg some bu)
 f46:=⟨Tryz.f294.name,bz,func294.trans (congrArg some bu)⟩
 f47:=func295.trans (congrArg some bu)
 f48:=func296.trans (congrArg some bu)
 f49:=⟨Tryz.f297.name,bz,func297.trans (congrArg some bu)⟩
 f50:=⟨Tryz.f298.name,bz,func298.trans (congrArg some bu)⟩
 f57:=⟨Tryz.f304.name,bz,func304.trans (congrArg some bu)⟩
 t0:=Tryz.underlying0
 a0:=Tryz.isAgg0
 z0:=Tryz.sizeOf0
 v0:=Tryz.zeroValue0
 t3:=Tryz.underlying3
 a3:=Tryz.isAgg3
 z3:=Tryz.sizeOf3
 v3:=Tryz.zeroValue3
 t4:=Tryz.underlying4
 a4:=Tryz.isAgg4
 z4:=Tryz.sizeOf4
 v4:=Tryz.zeroValue4
 t5:=Tryz.underlying5
 a5:=Tryz.isAgg5
 z5:=Tryz.sizeOf5
 v5:=Tryz.zeroValue5
 t9:=Tryz.underlying9
 a9:=Tryz.isAgg9
 z9:=Tryz.sizeOf9
 v9:=Tryz.zeroValue9
 t22:=Tryz.underlying53
 a22:=Tryz.isAgg53
 z22:=Tryz.sizeOf53
 v22:=Tryz.zeroValue53
 a24:=Tryz.isAgg94
 z24:=Tryz.sizeOf94
 t25:=Tryz.underlying116
 a25:=Tryz.isAgg116
 z25:=Tryz.sizeOf116
 v25:=Tryz.zeroValue116
 t39:=Tryz.underlying244
 a39:=Tryz.isAgg244
 z39:=Tryz.sizeOf244
 v39:=Tryz.zeroValue244
 t45:=Tryz.underlying292
 a45:=Tryz.isAgg292
 z45:=Tryz.sizeOf292
 v45:=Tryz.zeroValue292
 t46:=Tryz.underlying293
 a46:=Tryz.isAgg293
 z46:=Tryz.sizeOf293
 v46:=Tryz.zeroValue293
 t50:=Tryz.underlying190
 a50:=Tryz.isAgg190
 z50:=Tryz.sizeOf190
 v50:=Tryz.zeroValue190
 t53:=Tryz.underlying299
 a53:=Tryz.isAgg299
 z53:=Tryz.sizeOf299
 v53:=Tryz.zeroValue299
 t55:=Tryz.underlying301
 a55:=Tryz.isAgg301
 z55:=Tryz.sizeOf301
 v55:=Tryz.zeroValue301
 t66:=Tryz.underlying304
 a66:=Tryz.isAgg304
 z66:=Tryz.sizeOf304
 v66:=Tryz.zeroValue304
 t70:=Tryz.underlying264
 a70:=Tryz.isAgg264
 z70:=Tryz.sizeOf264
 v70:=Tryz.zeroValue264
 t76:=Tryz.underlying313
 a76:=Tryz.isAgg313
 z76:=Tryz.sizeOf313
 v76:=Tryz.zeroValue313
 t77:=Tryz.underlying314
 a77:=Tryz.isAgg314
 z77:=Tryz.sizeOf314
 v77:=Tryz.zeroValue314}
def Tryz.sortN_ren:Go.Shelf.Ren:=⟨λ |6=>189|15=>253|14=>252|28=>286|29=>287|20=>278|21=>279|22=>280|23=>281|24=>282|25=>283|26=>284|27=>285|46=>294|47=>295|48=>296|49=>297|50=>298|57=>304|n=>n,λ |22=>53|24=>94|25=>116|3=>3|39=>244|0=>0|53=>299|55=>301|4=>4|46=>293|45=>292|50=>190|5=>5|9=>9|66=>304|70=>264|76=>313|77=>314|n=>n,λ |n=>n⟩
theorem Tryz.sortN:Go.Proofs.SlLaysF0.n6 Tryz.prog Tryz.sortN_ren:={
 mixed:=bu
 f6:=⟨Tryz.f189.name,bz,func189.trans (congrArg some bu)⟩
 f14:=⟨Tryz.f252.name,bz,func252.trans (congrArg some bu)⟩
 f15:=func253.trans (congrArg some bu)
 f20:=⟨Tryz.f278.name,bz,func278.trans (congrArg some bu)⟩
 f21:=⟨Tryz.f279.name,bz,func279.trans (congrArg some bu)⟩
 f22:=⟨Tryz.f280.name,bz,func280.trans (congrArg some bu)⟩
 f23:=⟨Tryz.f281.name,bz,func281.trans (congrArg some bu)⟩
 f24:=⟨Tryz.f282.name,bz,func282.trans (congrArg some bu)⟩
 f25:=⟨Tryz.f283.name,bz,func283.trans (congrArg some bu)⟩
 f26:=⟨Tryz.f284.name,bz,func284.trans (congrArg some bu)⟩
 f27:=⟨Tryz.f285.name,bz,func285.trans (congrArg some bu)⟩
 f28:=func286.trans (congrArg some bu)
 f29:=func287.trans (congrArg some bu)
 f46:=⟨Tryz.f294.name,bz,func294.trans (congrArg some bu)⟩
 f47:=func295.trans (congrArg some bu)
 f48:=func296.trans (congrArg some bu)
 f49:=⟨Tryz.f297.name,bz,func297.trans (congrArg some bu)⟩
 f50:=⟨Tryz.f298.name,bz,func298.trans (congrArg some bu)⟩
 f57:=⟨Tryz.f304.name,bz,func304.trans (congrArg some bu)⟩
 t0:=Tryz.underlying0
 a0:=Tryz.isAgg0
 z0:=Tryz.sizeOf0
 v0:=Tryz.zeroValue0
 t3:=Tryz.underlying3
 a3:=Tryz.isAgg3
 z3:=Tryz.sizeOf3
 v3:=Tryz.zeroValue3
 t4:=Tryz.underlying4
 a4:=Tryz.isAgg4
 z4:=Tryz.sizeOf4
 v4:=Tryz.zeroValue4
 t5:=Tryz.underlying5
 a5:=Tryz.isAgg5
 z5:=Tryz.sizeOf5
 v5:=Tryz.zeroValue5
 t9:=Tryz.underlying9
 a9:=Tryz.isAgg9
 z9:=Tryz.sizeOf9
 v9:=Tryz.zeroValue9
 t22:=Tryz.underlying53
 a22:=Tryz.isAgg53
 z22:=Tryz.sizeOf53
 v22:=Tryz.zeroValue53
 t25:=Tryz.underlying116
 a25:=Tryz.isAgg116
 z25:=Tryz.sizeOf116
 v25:=Tryz.zeroValue116
 t39:=Tryz.underlying244
 a39:=Tryz.isAgg244
 z39:=Tryz.sizeOf244
 v39:=Tryz.zeroValue244
 t45:=Tryz.underlying292
 a45:=Tryz.isAgg292
 z45:=Tryz.sizeOf292
 v45:=Tryz.zeroValue292
 t46:=Tryz.underlying293
 a46:=Tryz.isAgg293
 z46:=Tryz.sizeOf293
 v46:=Tryz.zeroValue293
 t50:=Tryz.underlying190
 a50:=Tryz.isAgg190
 z50:=Tryz.sizeOf190
 v50:=Tryz.zeroValue190
 t53:=Tryz.underlying299
 a53:=Tryz.isAgg299
 z53:=Tryz.sizeOf299
 v53:=Tryz.zeroValue299
 t55:=Tryz.underlying301
 a55:=Tryz.isAgg301
 z55:=Tryz.sizeOf301
 v55:=Tryz.zeroValue301
 t66:=Tryz.underlying304
 a66:=Tryz.isAgg304
 z66:=Tryz.sizeOf304
 v66:=Tryz.zeroValue304
 t70:=Tryz.underlying264
 a70:=Tryz.isAgg264
 z70:=Tryz.sizeOf264
 v70:=Tryz.zeroValue264
 t76:=Tryz.underlying313
 a76:=Tryz.isAgg313
 z76:=Tryz.sizeOf313
 v76:=Tryz.zeroValue313
 t77:=Tryz.underlying314
 a77:=Tryz.isAgg314
 z77:=Tryz.sizeOf314
 v77:=Tryz.zeroValue314}
def Tryz.searchO_ren:Go.Shelf.Ren:=⟨λ |16=>126|n=>n,λ |3=>3|35=>48|4=>4|38=>244|n=>n,λ |n=>n⟩
theorem Tryz.searchO:Go.Proofs.SlLaysO.n16 Tryz.prog Tryz.searchO_ren:={
 mixed:=bu
 f16:=func126.trans (congrArg some bu)
 t3:=Tryz.underlying3
 a3:=Tryz.isAgg3
 z3:=Tryz.sizeOf3
 v3:=Tryz.zeroValue3
 t4:=Tryz.underlying4
 a4:=Tryz.isAgg4
 z4:=Tryz.sizeOf4
 v4:=Tryz.zeroValue4
 t35:=Tryz.underlying48
 a35:=Tryz.isAgg48
 z35:=Tryz.sizeOf48
 v35:=Tryz.zeroValue48
 t38:=Tryz.underlying244
 a38:=Tryz.isAgg244
 z38:=Tryz.sizeOf244
 v38:=Tryz.zeroValue244}
end Go.Proofs
namespace Go.Ps
open Go Go.Vc Go.Proofs List Tryz
variable{K:dk}{m:MH}{h:PH}{s:oL}{ps:dm}{cb:Nat}{sc:bW}{v:QV}{q:Query}{p:Pred}{l:dm}{i:Nat}{N:Nat}{m':MH}{h':PH}{co:dm}{gr:dm}{od:dr}{w:Pred}{ta:Int}{li:Int}{xs:List dj}{sz:Nat}{ks:List dm}{rs:dm}{r:Sl}{a:dm}{b:Nat}
def jV(m:MH):Prop:=∃T c,m 1=some (.cells (Lib.pow10Tab.map λz=>Value.int .u64 z).toArray T c)
def cU(u:Nat):CV:=.val (.int .u64 u)
def b0X:Vc.Spec:=λc m h K=>∃i:Nat,c=[cI i]/\i<100/\K (SZ ⟨(Lib.decDigits i).toArray⟩) m h
def ZP:Vc.Spec:=λc m h K=>∃u:Nat,c=[cU u]/\1<=u/\u<18446744073709551616/\jV m/\K (cI (Lib.nDigits u)) m h
def bZX:Vc.Spec:=λd m h K=>∃b e u:Nat,∃(f:Array Value)(T:TypeId),d=[.val (.slice (some ⟨b,0,none⟩) (Lib.nDigits u) e),cU u]/\u<18446744073709551616/\m b=some (.cells f T (0,0))/\f.toList=replicate 24 (.int .u8 0)/\
 ∀c m',c.size=f.size->c.toList.take (Lib.nDigits u)=Lib.byteCells (Lib.decDigits u)->gI m m' b (.cells c T (0,0))->K (.tup []) m' h
def bIZ:Vc.Spec:=λc m h K=>∃xs,∃u:Nat,c=[.lst 5 1 xs,cU u,cI 10]/\u<18446744073709551616/\jV m/\xs.length+30<=140737488355328/\K (.lst 5 1 (xs++bP (Lib.decDigits u))) m h
def lP(i:Int):dw:=if i<0 then 45::Lib.decDigits (IntKind.u64.wrap (0-IntKind.u64.wrap i)).toNat else Lib.decDigits (IntKind.u64.wrap i).toNat
def Z6:Vc.Spec:=λc m h K=>∃xs i,c=[.lst 5 1 xs,cI i,cI 10]/\jV m/\xs.length+40<=140737488355328/\K (.lst 5 1 (xs++bP (lP i))) m h
noncomputable abbrev Mp(a:Nat):List dj:=jM (ByteArray.mk (Array.mk (Lib.decDigits a)))
noncomputable abbrev DP(a:dj):dj:=a8 (Ag 0) (Ag 0) (a8 (Ag 0) (Ag 0) (a8 (Ag 0) (Ag 0) (a8 (Ag 0) (Ag 0) a)))
noncomputable abbrev AH(a:Int):CV:=CV.val (Value.int IntKind.u64 a)
abbrev NJ(a:Nat):Prop:=a<18446744073709551616
noncomputable abbrev wI(a:Nat):Option Addr:=Option.some (Addr.mk a 0 Option.none)
attribute [push_cast] Mp DP AH NJ wI
def Kv(xs:List dj)(u:Nat)(m:MH)(h:PH)(K:dk):Prop:=
  aR (↑u:Int) 100 (∃(i:Nat),aA (DZ (fQ (iJ (↑u:Int)))=DZ (fQ (↑i:Int))) (i<100) (aA (kH xs (Mp i) 1) (kC xs (Mp i)) (K (CV.lst 5 1 (xs++Mp i)) m h))) (∀(b:Nat)(f:MH),aT (dZ m h b) (bL m f b (DP (DP (DP []))) 317) (∃(d:Nat),aA (DZ (AH (↑u:Int))=DZ (AH (↑d:Int))) (1<=d) (aA (NJ d) (jV f) (aA (cC (↑(Lib.nDigits d):Int)) ((↑(Lib.nDigits d):Int)<=24) (bT (λg c=>∃(e:Nat),gE (λj T=>aA (bJ (CV.val (Value.slice (wI b) (sU (Lib.nDigits d)) 24)) (AH (↑u:Int))=bJ (CV.val (Value.slice (wI g) (Lib.nDigits e) c)) (AH (↑e:Int))) (NJ e) (aA (f g=Option.some (fC j T 0)) (j.toList=DP (DP (DP []))) (∀(n:Array Value)(o:MH),aT (n.size=j.size) (List.take
 (Lib.nDigits e) n.toList=Lib.byteCells (Lib.decDigits e)) (gI f o g (fC n T 0)->u9 (cC (↑(Lib.nDigits d):Int)) ((↑(Lib.nDigits d):Int)<=24) (λy=>aA (cT 1 y) (kS o h (Sl.mk (wI b) (sU (Lib.nDigits d)) 24) 1 y) (aA (kH xs y 1) (kC xs y) (K (CV.lst 5 1 (xs++y)) o h)))))))))))))
noncomputable abbrev FW(a:List dj)(b:CV):ei:=CV.lst 5 1 a::bA b 10
noncomputable abbrev MN(a:Int):Int:=IntKind.wrap IntKind.u64 a
noncomputable abbrev xM(a:List dj)(b:dw):List dj:=a++bP b
attribute [push_cast] FW MN xM
def Qp(xs:List dj)(i:Int)(m:MH)(h:PH)(K:dk):Prop:=
  aR i 0 (u9 (gS (jX xs 1*1)) (dH xs) (λx=>∃(u:Nat),aA (FW (dY xs (nT (Ag 45))) (AH (MN (0-MN i)))=FW x (AH (↑u:Int))) (NJ u) (aA (jV m) (gS (jX x 30)) (K (CV.lst 5 1 (xM x (Lib.decDigits u))) m h)))) (∃(x:List dj)(u:Nat),aA (FW xs (AH (MN i))=FW x (AH (↑u:Int))) (NJ u) (aA (jV m) (gS (jX x 30)) (K (CV.lst 5 1 (xM x (Lib.decDigits u))) m h)))
noncomputable abbrev BN(a:List dj)(b:Int):ei:=CV.lst 5 1 a::bA (fQ b) 10
attribute [push_cast] BN
def alZ(xs:List dj)(i:Int)(m:MH)(h:PH)(K:dk):Prop:=
  ∃(x:List dj)(c:Int),aA (BN xs i=BN x c) (jV m) (gS (jX x 40)/\K (CV.lst 5 1 (xM x (lP c))) m h)
theorem jV.sub(h:jV m)(c:Sub m m'):jV m':=by
 obtain⟨T,d,e⟩:=h;exact⟨T,d,c 1 _ e⟩
theorem JL{w:World}{c:ei}{vs:dj}(d:zD w m h c vs):vN ⟨w,sI m c vs,h,[]⟩ m h w:=
 ⟨rfl,rfl,rfl,Nat.le_refl _,Nat.le_refl _,λ_ _ _=>rfl,d.hsat,d.msat,d.disj,λ_ _ _ e=>e,λ_ _ _=>rfl,λb o f=>.inr (.inl cg)⟩
theorem WM:di 305 b0X:=by
 refine⟨⟨Tryz.f305,func305,rfl,bz⟩,?_⟩;rintro f d m h w K ⟨i,rfl,g,j⟩ c
 obtain⟨v,rfl⟩:∃v,d=[v]:=by
  have:=(qC c.args).1
  match d,this with
  |[v],_=>grind
 have n:v= .int .i64 i:=c.args.1;subst n;refine(Tryz.internal_strconv_small i g w).mono ?_;rintro e t ⟨rfl,rfl⟩;exact⟨_,_,m,h,rfl,j,rfl,JL c,λb o=>by simp[SZ,gK]at o⟩
theorem WL:di 306 ZP:=by
 refine⟨⟨Tryz.f306,func306,rfl,bz⟩,?_⟩;rintro f d m h w K ⟨u,rfl,g,j,⟨T,z,n⟩,o⟩ c
 obtain⟨v,rfl⟩:∃v,d=[v]:=by
  have:=(qC c.args).1
  match d,this with
  |[v],_=>grind
 have t:v= .int .u64 u:=c.args.1;subst t;have A:=c.msat 1 _ n;refine(Tryz.internal_strconv_numDigits u g j w ?_).mono ?_
 .unfold Lib.TabIs World.var?;rw[show Tryz.prog.globalNamed _=some 1 by kernel_rfl]
  grind
 .rintro e B ⟨rfl,rfl⟩;exact⟨_,_,m,h,rfl,o,rfl,JL c,λb y=>by simp[cI,gK]at y⟩
theorem WK:di 307 bZX:=by
 refine⟨⟨Tryz.f307,func307,rfl,bz⟩,?_⟩;rintro W P m h w K ⟨b,g,u,B,T,rfl,Q,A,C,X⟩ t
 obtain⟨v,H,rfl⟩:∃v H,P=[v,H]:=by
  have:=(qC t.args).1
  match P,this with
  |[v,H],_=>grind
 have Y:v= .slice (some ⟨b,0,none⟩) (Lib.nDigits u) g:=t.args.1;have J:H= .int .u64 u:=t.args.2.1;subst Y J;have R:=t.msat b _ A;have Z:=Lib.nDigits_le20 u Q;have a':B.size=24:=by rw[<-Array.length_toList,C];simp
 have hH:Sort.Holds (fun(b:UInt8)=>Value.int .u8 (b.toNat:Int)) w b 0 (Array.replicate (Lib.nDigits u) (0:UInt8)):=by
  intro j I;simp only[Array.size_replicate]at I;refine⟨?_,?_⟩
  .rw[cell_of_heap R,C,getElem?_replicate,if_pos aC];rw[getElem!_pos _ j cg];simp
  .unfold World.frozen?
   grind
 have S:=Tryz.internal_strconv_formatBase10 b 0 g u (Array.replicate (Lib.nDigits u) (0:UInt8)) w hH (cm (Lib.lt_pow_nDigits u)) Q ce;rw[Array.size_replicate]at S;refine S.mono ?_;rintro e w' ⟨rfl,n,v',z,rfl,U⟩;have a0:z.size=Lib.nDigits u:=U.size;obtain⟨m',y⟩:∃m',gI m m' b (.cells (Sort.putCells (fun(b:UInt8)=>Value.int .u8 (b.toNat:Int)) 0 z B) T (0,0)):=⟨λc=>if c=b then some (.cells (Sort.putCells (fun(b:UInt8)=>Value.int .u8 (b.toNat:Int)) 0 z B) T (0,0))else m c,bx,λc d=>by simp[d]⟩
 have D:(Sort.putRow (fun(b:UInt8)=>Value.int .u8 (b.toNat:Int)) w b 0 z).heap[b]? =some (.cells (Sort.putCells (fun(b:UInt8)=>Value.int .u8 (b.toNat:Int)) 0 z B) T (0,0)):=by
  unfold Sort.putRow Sort.mapBlock;simp only[Array.getElem?_modify,if_true,R];rfl
 have f:∀c,c≠b->(Sort.putRow (fun(b:UInt8)=>Value.int .u8 (b.toNat:Int)) w b 0 z).heap[c]? =w.heap[c]? :=λc d=>by
  unfold Sort.putRow Sort.mapBlock
  grind
 refine⟨.tup [],.tuple #[],m',h,rfl,X _ m' ?_ ?_ y,⟨#[],rfl,rfl⟩,?_,λb A=>by simp[gK]at A⟩
 .simp[Sort.putCells]
 .apply ext_getElem?;intro j;rw[getElem?_take];have hl:(Lib.byteCells (Lib.decDigits u)).length=Lib.nDigits u:=by rw[Lib.byteCells_length,Lib.decDigits_length]
  by_cases I:j<Lib.nDigits u
  .rw[if_pos I,dd];have E:j<(Lib.decDigits u).length:=by rw[Lib.decDigits_length];exact I
   have F:j<B.size:=by omega
   simp only[Sort.putCells,Array.getElem?_mapIdx,Array.getElem?_eq_getElem F,Option.map_some,Nat.zero_le,Nat.zero_add,Nat.sub_zero,true_and];rw[if_pos aC,Lib.byteCells,getElem?_map,cq E,Lib.row_is_numeral U j E];rfl
  grind
 .have G:∀c o,m' c=some o->c=b\/m c=some o:=λc o d=>by
   by_cases e:c=b
   .exact .inl e
   .rw[y.other c e]at d;grind
  have V:sI m [.val (.slice (some ⟨b,0,none⟩) (Lib.nDigits u) g),cU u] [.slice (some ⟨b,0,none⟩) (Lib.nDigits u) g,.int .u64 u] b:=.inl (by rw[A];simp);refine⟨rfl,rfl,rfl,Nat.le_add_right _ _,by simp[Sort.putRow,Sort.mapBlock],?_,?_,?_,?_,λ_ _ _ e=>e,λ_ _ _=>rfl,?_⟩
  .intro c _ hn;exact f c (λe=>hn (e▸V))
  .intro c o x L;have M:c≠b:=λe=>by rw[e,t.disj b _ A o]at L;cases L
   show(Sort.putRow (fun(b:UInt8)=>Value.int .u8 (b.toNat:Int)) w b 0 z).cell? ⟨c,o,none⟩=some x;rw[World.cell?_of_block (w:=w) (a:=⟨c,o,none⟩) (f c M)];exact t.hsat c o x L
  .intro c o d;by_cases e:c=b
   .subst e;rw[y.at_]at d;cases d;exact D
   .rw[y.other c e]at d;rw[show((Sort.putRow (fun(b:UInt8)=>Value.int .u8 (b.toNat:Int)) w b 0 z).drewN n).heap[c]? =_ from f c e];exact t.msat c o d
  .intro c o d j;rcases G c o d with rfl|O
   .exact t.disj c _ A j
   .exact t.disj c _ O j
  .intro c o d;rcases G c o d with rfl|O
   .exact .inr V
   .exact .inr (.inl (by rw[O];simp))
theorem FD(l:dw):jM ⟨l.toArray⟩=bP l:=by simp[jM,bP]
theorem K6(l:dw):(bP l).flatten=Lib.byteCells l:=by
 unfold bP Lib.byteCells
 induction l with
 |nil=>rfl
 |cons b r c=>simp[c]
theorem qI(l:dw):(bP l).length=l.length:=by simp[bP]
theorem WR:di 299 bIZ:=by
 refine Ht func299 ?_;rintro y m h K ⟨xs,u,rfl,j,z,E,o⟩;refine⟨vM [(305,b0X),(306,ZP),(307,bZX)] [] [] [] [317] [] true,rfl,aD WM (aD WL (aD WK aF)),Kv xs u m h (lQ h K),bu,?_⟩;show Kv xs u m h (lQ h K);dsimp only[Kv,push_cast];have A:=Lib.nDigits_le20 u j;have d:=Lib.decDigits_length u;refine aE (λB=>⟨u,?_,aC,?_,?_,?_⟩) (λB b C t e=>?_)
 .rw[dR aC aC]
 .rw[FD,qI];omega
 .rw[FD,qI];omega
 .rw[FD];exact .here o
 .have f:Sub m C:=(Sub.refl m).upd t.m_ e.other;refine⟨u,rfl,aC,j,z.sub f,aC,aC,b,24,u,_,_,cg,j,e.at_,rfl,λn F D c g=>⟨aC,aC,bP (Lib.decDigits u),H8 _,?_,?_,?_,?_⟩⟩
  .refine .lent b 0 n 317 (0,0) rfl ?_ g.at_ ?_
   .rw[Int.toNat_natCast,qI,d]
   .rw[K6,Lib.byteCells_length,d,drop_zero];exact c
  .rw[qI];omega
  .rw[qI];omega
  .exact .sub (f.upd t.m_ g.other) o
theorem avX(i:Int):0<=IntKind.u64.wrap i/\IntKind.u64.wrap i<18446744073709551616:=by
 simp only[IntKind.wrap,IntKind.bits,IntKind.signed];simp;omega
theorem xQ(i:Int):(lP i).length<=21:=by
 have key:∀n:Int,(Lib.decDigits (IntKind.u64.wrap n).toNat).length<=20:=λn=>by
  rw[Lib.decDigits_length];exact Lib.nDigits_le20 _ (by have:=avX n;omega)
 unfold lP
 grind
theorem WV:di 288 Z6:=by
 refine gO func288 ?_;rintro e m h K ⟨xs,i,rfl,c,g,d⟩;refine⟨vM [(299,bIZ)] [] [] [] [] [(299,[0])] true,rfl,aD WR aF,Qp xs i m h K,bu,?_⟩;dsimp only[Qp,push_cast];have j:=avX i;have n:=avX (0-IntKind.u64.wrap i);refine aE (λf=>⟨aC,aC,xs++[[.int .u8 45]],(IntKind.u64.wrap (0-IntKind.u64.wrap i)).toNat,?_,aC,c,ce,?_⟩) (λf=>⟨xs,(IntKind.u64.wrap i).toNat,?_,aC,c,aC,?_⟩)
 .grind
 .have:lP i=45::Lib.decDigits (IntKind.u64.wrap (0-IntKind.u64.wrap i)).toNat:=by unfold lP;grind
  rw[this]at d;rw[append_assoc];exact d
 .grind
 .have:lP i=Lib.decDigits (IntKind.u64.wrap i).toNat:=by unfold lP;grind
  grind
theorem W5:di 256 Z6:=by
 refine gO func256 ?_;rintro c m h K ⟨xs,i,rfl,d,e,f⟩;refine⟨vM [(288,Z6)] [] [] [] [] [(288,[0])] true,rfl,aD WV aF,alZ xs i m h K,bu,?_⟩;exact⟨xs,i,rfl,d,e,f⟩
def BE(a b:Int):Int:=if a<b then-1 else if b<a then 1 else 0
def Po(a b:ByteArray):Int:=Lib.compareBytes a.data.toList b.data.toList
def jL(a b:VV):Int:=if BE a.kind b.kind≠0 then BE a.kind b.kind else if BE a.int b.int≠0 then BE a.int b.int else Po a.text b.text
def eJ:dn->dn->Int
 |[],[]=>0
 |[],_::_=> -1
 |_::_,[]=>1
 |x::xs,y::ys=>if jL x y≠0 then jL x y else eJ xs ys
def bAJ:Vc.Spec:=λc m h K=>∃n,c=[cI n]/\K (cB false) m h
def Z1:Vc.Spec:=λc m h K=>∃a b,c=[cI a,cI b]/\K (cI (BE a b)) m h
def bHZ:Vc.Spec:=λc m h K=>∃a b,c=[SZ a,SZ b]/\K (cI (Po a b)) m h
def LZ:Vc.Spec:=λc m h K=>∃a b,c=[aV a,aV b]/\K (cI (jL a b)) m h
def C4:Vc.Spec:=λc m h K=>∃s t a b,c=[cS s,cS t]/\bI h s a/\bI h t b/\K (cI (eJ a b)) m h
def bIQ:Vc.Spec:=λc m h K=>∃s t a b,c=[cS s,cS t,.val (.func (.func 108) #[] #[])]/\bI h s a/\bI h t b/\K (cI (eJ a b)) m h
def Rows(h:PH)(s:Sl)(l:dl):Prop:=aZ h 1 eS (λr t=>bI h t r) s l
def bEX:Vc.Spec:=λc m h K=>∃s t a b,c=[cS s,cS t]/\Rows h s a/\Rows h t b/\∀r:Bool,(r=true↔a=b)->K (cB r) m h
noncomputable def aSJ(s t:Sl)(m:MH)(h:PH):Ctx:=
 dG [(108,LZ)] [(2,{A:=Nat,st:=λi=>bK 39 42 [(0,sv s),(1,sv t),(2,vv (.func (.func 108) #[] #[])),(11,sv s),(12,iv s.len),(13,iv i)] [] m h})] [] [] false
noncomputable def boX(s t:Sl)(m:MH)(h:PH):Ctx:=
 dG [(109,LZ)] [(2,{A:=Nat,st:=λi=>bK 43 45 [(0,sv s),(1,sv t),(5,iv i)] [] m h})] [] [] false
noncomputable def bvX(s t:Sl)(m:MH)(h:PH):Ctx:=
 dG [(65,C4)] [(4,{A:=Nat,st:=λi=>bK 27 29 [(0,sv s),(1,sv t),(12,iv s.len),(13,iv i)] [] m h})] [] [] false
def anZ(n:Int)(m:MH)(h:PH)(K:dk):Prop:=
  K (zU (n !=n)) m h
def anX(n:Int)(m:MH)(h:PH)(K:dk):Prop:=
  K (zU (n !=n)) m h
def KL(a b:Int)(m:MH)(h:PH)(K:dk):Prop:=
  ∃(n:Int),rQ a n/\∃(c:Int),rQ b c/\aR a b (K (fQ (Int.negSucc 0)) m h) (eR a b (K (fQ 1) m h) (K (fQ 0) m h))
def apQ(a b:Int)(m:MH)(h:PH)(K:dk):Prop:=
  ∃(n:Int),rQ a n/\∃(c:Int),rQ b c/\aR a b (K (fQ (Int.negSucc 0)) m h) (eR a b (K (fQ 1) m h) (K (fQ 0) m h))
def Ry(a b:VV)(m:MH)(h:PH)(K:dk):Prop:=
  ∃(r:Bool),iX (mK 27 a.enc b.enc r) r (K (fQ 0) m h) (∃(c d:Int),iX (bA (fQ a.kind) b.kind=bA (fQ c) d) (BE c d !=0) (K (fQ (BE c d)) m h) (∃(e f:Int),iX (bA (fQ a.int) b.int=bA (fQ e) f) (BE e f !=0) (K (fQ (BE e f)) m h) (∃(g j:ByteArray),bJ (qV a.text) (qV b.text)=bJ (qV g) (qV j)/\K (fQ (Po g j)) m h)))
def Rx(a b:VV)(m:MH)(h:PH)(K:dk):Prop:=
  aR a.kind b.kind (K (fQ (Int.negSucc 0)) m h) (eR a.kind b.kind (K (fQ 1) m h) (aR a.int b.int (K (fQ (Int.negSucc 0)) m h) (cH (decide (a.int>b.int)) (K (fQ 1) m h) (Op.bytesLess (B7 a) (B7 b)) (K (fQ (Int.negSucc 0)) m h) (branch (!(Bool.or (Op.bytesLess (B7 a) (B7 b)) (B7 a==B7 b))) (K (fQ 1) m h) (K (fQ 0) m h)))))
abbrev E7(a:VV->VV->Prop):Prop:=∃(x c:VV),a x c
attribute [push_cast] E7
def Ra(s t:Sl)(m:MH)(h:PH)(K:dk):Prop:=
  kX (λI x=>aA (I x) (aG s) (aA (aG t) (D0 108) (aA (aG s) (a7 s) (aA (aY x) (m=m) (bH h h))))) (λI e x=>I x->aR (↑x:Int) (aH s) (bT (λb o=>aA (bX s.a b o) (0<=(↑x:Int)) ((↑x:Int)<aH s/\∃(y:VV),aK m h b (bC o x 3) y.enc/\fY (↑x:Int) (aH t) (K (fQ 1) m h) (bT (λf g=>aA (bX t.a f g) (0<=(↑x:Int)) ((↑x:Int)<aH t/\∃(j:VV),aK m h f (bC g x 3) j.enc/\E7 (λa c=>bJ (fT y) (fT j)=bJ (fT a) (fT c)/\gR (jL a c !=0) (K (fQ (jL a c)) m h) (λd=>aA (I d) (e d<e x) (aA (aG s) (aG t) (aA (D0 108) (aG s) (aA (a7 s) (aU (aW x 1) d) (bE (m=m) h h)))))))))))) (aR (aH s) (aH t) (K (fQ (Int.negSucc 0)) m h) (K (fQ 0) m h)))
def arQ(s t:Sl)(m:MH)(h:PH)(K:dk):Prop:=
  ∃(c:Sl),pL (λd a=>∃(b:dn),aA (fD s::dW t (AI 108)=fD c::dW d (AI 108)) (bI h c a) (bI h d b/\K (fQ (eJ a b)) m h))
def UP(s t:Sl)(m:MH)(h:PH)(K:dk):Prop:=
  kX (λI x=>aA (I x) (aG s) (aA (aG t) (aY x) (bE (m=m) h h))) (λI e x=>I x->aR (↑x:Int) (aH s) (aR (↑x:Int) (aH t) (bT (λb o=>aA (bX s.a b o) (0<=(↑x:Int)) ((↑x:Int)<aH s/\∃(y:VV),aK m h b (bC o x 3) y.enc/\bT (λf g=>aA (bX t.a f g) (0<=(↑x:Int)) ((↑x:Int)<aH t/\∃(j:VV),aK m h f (bC g x 3) j.enc/\E7 (λa c=>bJ (fT y) (fT j)=bJ (fT a) (fT c)/\gR (jL a c !=0) (K (fQ (jL a c)) m h) (λd=>aA (I d) (e d<e x) (aA (aG s) (aG t) (bG (aU (aW x 1) d) (m=m) (h=h)))))))))) (aR (aH s) (aH t) (K (fQ (Int.negSucc 0)) m h) (eR (aH s) (aH t) (K (fQ 1) m h) (K (fQ 0) m h)))) (aR (aH s) (aH t) (K (fQ (Int.negSucc 0)) m h) (eR (aH s) (aH t) (K (fQ
 1) m h) (K (fQ 0) m h))))
abbrev AD(a b:Sl)(c:PH)(d:dn->dn->Prop):Prop:=∃(x:Sl),pL (λe f=>∃(g:dn),aA (fN a b=fN x e) (bI c x f) (bI c e g/\d f g))
attribute [push_cast] AD
def U8(s t:Sl)(m:MH)(h:PH)(K:dk):Prop:=
  fW (aH s) (aH t) (K aX m h) (kX (λI x=>aA (I x) (aG s) (aA (aG t) (a7 s) (bG (aY x) (m=m) (h=h)))) (λI d x=>I x->aR (↑x:Int) (aH s) (cK s.a (↑x:Int) s (λb o y=>aK m h b (bC o x 1) (aM y)/\cK t.a (↑x:Int) t (λf g e=>aK m h f (bC g x 1) (aM e)/\AD y e h (λa j=>gR (eJ a j !=0) (K aX m h) (λc=>aA (I c) (d c<d x) (aA (aG s) (aG t) (aA (a7 s) (aU (aW x 1) c) (aA (m=m) (h=h) True)))))))) (K eW m h)))
theorem GR{a b:Int}:BE a b=0↔a=b:=by
 unfold BE;omega
theorem GS:∀a b:dw,Lib.compareBytes a b=0↔a=b
 |[],[]=>by simp[Lib.compareBytes]
 |[],_::_=>by simp[Lib.compareBytes]
 |_::_,[]=>by simp[Lib.compareBytes]
 |a::l,b::bs=>by
  simp only[Lib.compareBytes,List.cons.injEq];split
  .grind
  .split
   .grind
   .rename_i c d;rw[GS l bs]
    grind
theorem asJ{a b:ByteArray}:Po a b=0↔a=b:=by
 unfold Po;rw[GS];constructor
 .intro h;cases a;cases b;simp only[ByteArray.mk.injEq];exact Array.toList_inj.1 h
 grind
theorem K4{a b:VV}:jL a b=0↔a=b:=by
 obtain⟨k,i,t⟩:=a;obtain⟨d,f,g⟩:=b;simp only[jL,VV.mk.injEq];split
 .rename_i h;exact⟨λe=>absurd e h,λe=>absurd (GR.2 e.1) h⟩
 .rename_i h;have h:=Classical.not_not.1 h;split
  .rename_i c;exact⟨λe=>absurd e c,λe=>absurd (GR.2 e.2.1) c⟩
  .rename_i c;have c:=Classical.not_not.1 c;rw[asJ];simp[GR.1 h,GR.1 c]
theorem i7:∀{a b:dn},eJ a b=0↔a=b
 |[],[]=>by simp[eJ]
 |[],_::_=>by simp[eJ]
 |_::_,[]=>by simp[eJ]
 |x::xs,y::ys=>by
  simp only[eJ,List.cons.injEq];split
  .rename_i h;exact⟨λe=>absurd e h,λe=>absurd (K4.2 e.1) h⟩
  .rename_i h;rw[i7 (a:=xs),K4.1 (Classical.not_not.1 h)];simp
theorem NS:∀a b:dw,(Op.bytesLess a b=true↔Lib.compareBytes a b= -1)/\(Lib.compareBytes a b= -1\/Lib.compareBytes a b=0\/Lib.compareBytes a b=1)
 |[],[]=>by simp[Lib.compareBytes,Op.bytesLess]
 |[],_::_=>by simp[Lib.compareBytes,Op.bytesLess]
 |_::_,[]=>by simp[Lib.compareBytes,Op.bytesLess]
 |a::l,b::bs=>by
  obtain⟨c,d⟩:=NS l bs;simp only[Lib.compareBytes,Op.bytesLess]
  grind
theorem Zn{a b:Int}(c:K (cI (BE a b)) m h):KL a b m h K:=by
 dsimp only[KL,push_cast];refine⟨a,rfl,b,rfl,aE (λd=>?_) (λd=>aE (λe=>?_) (λe=>?_))⟩
 .rw[BE,if_pos d]at c;exact c
 .rw[BE,if_neg d,if_pos e]at c;exact c
 .rw[BE,if_neg d,if_neg e]at c;exact c
theorem Xe:di 243 bAJ:=by
 refine gO func243 ?_;rintro c m h K ⟨n,rfl,d⟩;refine⟨dG [] [] [] [] false,rfl,aF,anZ n m h K,bu,?_⟩;exact(by show K (cB (n !=n)) m h;grind)
theorem Xd:di 244 bAJ:=by
 refine gO func244 ?_;rintro c m h K ⟨n,rfl,d⟩;refine⟨dG [] [] [] [] false,rfl,aF,anX n m h K,bu,?_⟩;exact(by show K (cB (n !=n)) m h;grind)
theorem XT:di 182 Z1:=by
 refine gO func182 ?_;rintro c m h K ⟨a,b,rfl,d⟩;refine⟨dG [(243,bAJ)] [] [] [] false,rfl,aD Xe aF,KL a b m h K,bu,?_⟩;exact Zn d
theorem XS:di 183 Z1:=by
 refine gO func183 ?_;rintro c m h K ⟨a,b,rfl,d⟩;refine⟨dG [(244,bAJ)] [] [] [] false,rfl,aD Xd aF,apQ a b m h K,bu,?_⟩;exact Zn d
theorem XR:di 184 bHZ:=by
 refine⟨⟨Tryz.f184,func184,rfl,bz⟩,?_⟩;rintro j g m h w K ⟨a,b,rfl,n⟩ c
 obtain⟨v,d,rfl⟩:∃v d,g=[v,d]:=by
  have:=(qC c.args).1
  match g,this with
  |[v,d],_=>grind
 have o:v= .string a:=c.args.1;have f:d= .string b:=c.args.2.1;subst o f;refine(Tryz.strings_Compare a b w).mono ?_;rintro e u ⟨rfl,rfl⟩;exact⟨_,_,m,h,rfl,n,rfl,JL c,λb t=>by simp[cI,gK]at t⟩
theorem HB:di 108 LZ:=by
 refine gO func108 ?_;rintro e m h K ⟨a,b,rfl,c⟩;refine⟨dG [(182,Z1),(183,Z1),(184,bHZ)] [] [] [] false,rfl,aD XT (aD XS (aD XR aF)),Ry a b m h K,bu,?_⟩;dsimp only[Ry,push_cast];refine⟨_,Eg a b,aB (λd=>?_) (λd=>⟨_,_,rfl,aB (λf=>?_) (λf=>⟨_,_,rfl,aB (λg=>?_) (λg=>⟨_,_,rfl,?_⟩)⟩)⟩)⟩
 .rw[K4.2 (Eh.1 d)]at c;exact c
 .rw[jL,if_pos cg]at c;exact c
 .rw[jL,if_neg cg,if_pos cg]at c;exact c
 .rw[jL,if_neg cg,if_neg cg]at c;exact c
theorem HA:di 109 LZ:=by
 refine gO func109 ?_;rintro z m h K ⟨a,b,rfl,c⟩;refine⟨dG [] [] [] [] false,rfl,aF,Rx a b m h K,bu,?_⟩;dsimp only[Rx,push_cast];unfold jL BE Po at c;obtain⟨o,t⟩:=NS a.text.data.toList b.text.data.toList;refine aE (λd=>?_) (λd=>aE (λf=>?_) (λf=>aE (λg=>?_) (λg=>aE (λu=>?_) (λu=>aB (λj=>?_) (λj=>aB (λn=>?_) (λn=>?_))))))
 .rw[if_pos d]at c;exact c
 .rw[if_neg d,if_pos f]at c;exact c
 .rw[if_neg d,if_neg f,if_pos g]at c;exact c
 .rw[if_neg d,if_neg f,if_neg g,if_pos u]at c;exact c
 all_goals rw[if_neg d,if_neg f,if_neg g,if_neg u]at c
 all_goals rw[ByteArray.toList_eq,ByteArray.toList_eq]at j
 .rw[if_neg bx,if_neg bx,o.1 j]at c;exact c
 .have y:Lib.compareBytes a.text.data.toList b.text.data.toList=1:=by
   rcases t with e|e|e
   .grind
   .rw[GS]at e;rw[ByteArray.toList_eq,ByteArray.toList_eq,e]at n;simp at n
   .exact e
  rw[if_neg bx,if_neg bx,y]at c;exact c
 .have y:Lib.compareBytes a.text.data.toList b.text.data.toList=0:=by
   rw[ByteArray.toList_eq,ByteArray.toList_eq,j]at n;rw[GS];grind
  rw[if_neg bx,if_neg bx,y]at c;exact c
theorem RJ{a b:dn}{x y:VV}(hx:a[i]? =some x)(c:b[i]? =some y):eJ (a.drop i) (b.drop i)=if jL x y≠0 then jL x y else eJ (a.drop (i+1)) (b.drop (i+1)):=by
 rw[drop_cons hx,drop_cons c,eJ]
theorem XX:di 177 bIQ:=by
 refine gO func177 ?_;rintro D m h K ⟨s,t,a,b,rfl,o,C,d⟩;refine⟨aSJ s t m h,rfl,aD HB aF,Ra s t m h K,bu,?_⟩;dsimp only[Ra,push_cast];have z:=aZ.slen o;have f:=aZ.slen C;have E:=o.len;refine⟨λi=>i<=a.length/\i<=b.length/\eJ a b=eJ (a.drop i) (b.drop i),λi=>a.length-i,⟨0,⟨aC,aC,bx⟩,MT⟩,λi⟨S,T,e⟩=>aE (λg=>?_) (λA=>?_)⟩
 .obtain⟨x,B⟩:=eN z g;obtain⟨F,G,u,H,I,rfl⟩:=aZ.at o B;refine⟨F,G,H,aC,g,x,.imm I,aE (λA=>?_) (λc=>?_)⟩
  .rw[e,drop_cons B,drop_eq_nil_of_le (show b.length<=i by omega),eJ]at d;exact d
  .have c:(i:Int)<(t.len:Int):=by omega
   obtain⟨y,j⟩:=eN f c;obtain⟨J,L,u,M,O,rfl⟩:=aZ.at C j;rw[RJ B j]at e;refine⟨J,L,M,aC,c,y,.imm O,x,y,rfl,aB (λP=>?_) (λQ=>⟨i+1,⟨aC,aC,?_⟩,(show a.length-(i+1)<a.length-i by omega),MT⟩)⟩
   .rw[e,if_pos cg]at d;exact d
   grind
 .have:a.drop i=[]:=drop_eq_nil_of_le aC;rw[this]at e;refine aE (λR=>?_) (λR=>?_)
  .obtain⟨y,j⟩:=eN (l:=b) (i:=i) (n:=t.len) f aC;rw[e,drop_cons j,eJ]at d;exact d
  .rw[e,drop_eq_nil_of_le aC,eJ]at d;exact d
theorem Ef:di 102 C4:=by
 refine gO func102 ?_;rintro c m h K ⟨s,t,a,b,rfl,d,e,f⟩;refine⟨dG [(177,bIQ)] [] [] [] false,rfl,aD XX aF,arQ s t m h K,bu,?_⟩;exact⟨s,t,a,b,rfl,d,e,f⟩
theorem xR:di 65 C4:=by
 refine gO func65 ?_;rintro F m h K ⟨s,t,a,b,rfl,A,E,c⟩;refine⟨boX s t m h,rfl,aD HA aF,UP s t m h K,bu,?_⟩;dsimp only[UP,push_cast];have f:=aZ.slen A;have g:=aZ.slen E;have G:=A.len;refine⟨λi=>i<=a.length/\i<=b.length/\eJ a b=eJ (a.drop i) (b.drop i),λi=>a.length-i,⟨0,⟨aC,aC,bx⟩,MT⟩,λi⟨T,U,j⟩=>aE (λe=>aE (λd=>?_) (λB=>?_)) (λB=>?_)⟩
 .obtain⟨x,o⟩:=eN f e;obtain⟨y,z⟩:=eN g d;obtain⟨H,I,u,J,L,rfl⟩:=aZ.at A o;obtain⟨M,O,u,P,Q,rfl⟩:=aZ.at E z;rw[RJ o z]at j;refine⟨H,I,J,aC,e,x,.imm L,M,O,P,aC,d,y,.imm Q,x,y,rfl,aB (λR=>?_) (λS=>⟨i+1,⟨aC,aC,?_⟩,(show a.length-(i+1)<a.length-i by omega),MT⟩)⟩
  .rw[j,if_pos cg]at c;exact c
  grind
 .obtain⟨x,o⟩:=eN f e;rw[j,drop_cons o,drop_eq_nil_of_le (show b.length<=i by omega),eJ]at c;exact aE (λC=>aC) (λC=>aE (λD=>c) (λD=>aC))
 .rw[j,drop_eq_nil_of_le (show a.length<=i by omega)]at c;refine aE (λC=>?_) (λC=>aE (λD=>aC) (λD=>?_))
  .obtain⟨y,z⟩:=eN (l:=b) (i:=i) (n:=t.len) g aC;rw[drop_cons z,eJ]at c;exact c
  .rw[drop_eq_nil_of_le aC,eJ]at c;exact c
theorem aoX:di 21 bEX:=by
 refine gO func21 ?_;rintro G m h K ⟨s,t,a,b,rfl,o,C,D⟩;refine⟨bvX s t m h,rfl,aD xR aF,U8 s t m h K,bu,?_⟩;dsimp only[U8,push_cast];have c:=aZ.slen o;have f:=aZ.slen C;have H:=o.len;have E:a≠b->K (cB false) m h:=λh=>D false ⟨λe=>(by cases e),λe=>(h e).elim⟩;refine aB (λz=>E (λe=>NT c f z (by rw[e]))) (λz=>?_);have I:=Ke c f z;refine⟨λi=>i<=a.length/\∀j:Nat,j<i->a[j]? =b[j]?,λi=>a.length-i,⟨0,⟨aC,λj W=>by omega⟩,MT⟩,λi F=>aE (λd=>?_) (λJ=>?_)⟩
 .obtain⟨x,A⟩:=eN c d;obtain⟨y,B⟩:∃y,b[i]? =some y:=eN (n:=s.len) aC d;obtain⟨L,M,u,O,P,Q⟩:=aZ.at o A;obtain⟨R,S,v,T,U,V⟩:=aZ.at C B;refine⟨L,M,O,aC,d,u,.imm P,R,S,T,aC,aC,v,.imm U,u,v,x,y,rfl,Q,V,aB (λg=>E (PX A B (λe=>?_))) (λX=>?_)⟩
  .rw[i7.2 e]at g;cases g
  .exact⟨i+1,⟨aC,xV A B (i7.1 cg) F.2⟩,(show a.length-(i+1)<a.length-i by omega),MT⟩
 .exact D true ⟨λ_=>A9 I aC F.2,λ_=>rfl⟩
structure FH(h:PH)(P:dn->Prop) where
 s:Sl
 l:dn
 ok:bI h s l
 pr_:P l
def FH.pr{h:PH}{P:dn->Prop}(x:FH h P):Sl×dn:=(x.s,x.l)
def zK(h:PH){R:dn->Prop}(x:FH h R):Value:=.slice x.s.a x.s.len x.s.cap
theorem Li{w w':World}(c:w'.tape=w.tape)(d:w'.os=w.os)(e:w'.output=w.output)(f:w.drawn<=w'.drawn)(g:w.heap.size<=w'.heap.size)(j:∀b,b<w.heap.size->w'.heap[b]? =w.heap[b]?):
 ∃q n,w'=Sort.grow (w.drewN q) n:=by
 refine⟨w'.drawn-w.drawn,w'.heap.extract w.heap.size w'.heap.size,?_⟩;obtain⟨A,B,C,D,E⟩:=w';obtain⟨o,t,u,y,z⟩:=w;dsimp only at c d e f g j;subst c d e;unfold Sort.grow World.drewN;dsimp only;congr 1
 .grind
 .omega
structure bHJ(P:Program)(R:dn->Prop)(g:Nat)(cb:dj)(m2:MH)(h:PH)(cf:dn->dn->Int):Prop where
 ex:∃S,Sound P g S/\∀x y:FH h R,S ([cS x.s,cS y.s]++cb.map .val) m2 h (λr m' h'=>r=cI (cf x.l y.l)/\m'=m2/\h'=h)
theorem a1Q{P:Program}{R:dn->Prop}{g:Nat}{cb:dj}{m2:MH}{h:PH}[Inhabited (FH h R)]{cf:dn->dn->Int}(I:bHJ P R g cb m2 h cf){w:World}{blk off size:Nat}
 (O:∀b o v,h b o=some v->w.cell? ⟨b,o,none⟩=some v/\b≠blk)(hm:∀b o,m2 b=some o->w.heap[b]? =some o/\b≠blk)(Q:∀b o,m2 b=some o->∀i,h b i=none):
 CmpLays1 P g cb.toArray (zK h (R:=R)) (λx y=>cf x.l y.l) blk off size w:=by
 obtain⟨S,J,T⟩:=I.ex;intro D L E U x y;obtain⟨W,hW⟩:∃W,Go.Proofs.sortWorld (zK h (R:=R)) w blk off D E L=W:=⟨_,rfl⟩
 rw[hW]
 have F:∀b,b<w.heap.size->b≠blk->W.heap[b]? =w.heap[b]? :=λb n G=>by
  rw[<-hW];show((Sort.putRow (zK h) (Sort.ahead w D) blk off E).heap++L)[b]? =_;have J:(Sort.putRow (zK h) (Sort.ahead w D) blk off E).heap.size=w.heap.size:=by unfold Sort.putRow Sort.mapBlock;simp[Sort.ahead]
  rw[Array.getElem?_append_left aC];unfold Sort.putRow Sort.mapBlock;simp only[Array.getElem?_modify,if_neg (Ne.symm G)];rfl
 have t:∀(l:dj)(w:World),CG w (l.map .val) l:=λl w=>by
  induction l with
  |nil=>trivial
  |cons a l V=>exact⟨rfl,V⟩
 have A:∀(l:dj)(i:Nat)(c:CV)(u:Value)(b:Nat),(l.map CV.val)[i]? =some c->gK c u=some b->False:=λl i c u b f n=>by
  rw[getElem?_map]at f;cases e:l[i]? with
  |none=>grind
  |some v=>rw[e]at f;simp at f;subst f;simp[gK]at n
 have X:[cS x.s,cS y.s]++cb.map .val=([zK h x,zK h y]++cb).map .val:=by simp[cS,zK]
 have B:zD W m2 h ([cS x.s,cS y.s]++cb.map .val) ([zK h x,zK h y]++cb):=by
  rw[X];refine⟨t _ _,?_,?_,Q,λi j c d u v b f _ _ _ n _=>(A _ i c u b f n).elim,λi c u b f _ n=>(A _ i c u b f n).elim⟩
  .intro b o v Y;obtain⟨C,Z⟩:=O b o v Y;rw[World.cell?_of_block (w:=w) (w':=W) (a:=⟨b,o,none⟩) (F b (World.block_lt_of_cell? w ⟨b,o,none⟩ C) Z)];exact C
  grind
 have:=J.2 _ _ m2 h W _ (T x y) B;have e2:(([zK h x,zK h y]++cb).toArray:Array Value)= #[zK h x,zK h y]++cb.toArray:=bx
 rw[e2]at this;refine this.mono ?_;rintro e w' ⟨r,u,m',h',rfl,⟨rfl,rfl,rfl⟩,H,z,_⟩;have hu:u= .int .i64 (cf x.l y.l):=H;subst hu;refine⟨rfl,Li z.tape z.os z.output z.drawn z.size (λb n=>?_)⟩;cases M:m' b with
 |none=>
  refine z.frame b n ?_;rintro(C|⟨i,c,u,f,_,I⟩)
  .exact C M
  grind
 |some o=>rw[z.msat b o M];grind
theorem Nx{α:Type}[Inhabited α]{d c:Array α}(h:Sort.PermIn 0 d.size d c):c.toList.Perm d.toList:=by
 obtain⟨e,_,f⟩:=h;have g:d.extract 0 d.size=d:=bx
 have j:c.extract 0 d.size=c:=cg
 grind
theorem PZ{h:PH}{R:dn->Prop}:∀(ps:en),(∀p∈ps,bI h p.1 p.2)->(∀p∈ps,R p.2)->∃ds:List (FH h R),ds.map FH.pr=ps
 |[],_,_=>⟨[],rfl⟩
 |p::ps,e,f=>by
  obtain⟨ds,c⟩:=PZ (R:=R) ps (λq d=>e q (mem_cons_of_mem _ d)) (λq d=>f q (mem_cons_of_mem _ d));exact⟨⟨p.1,p.2,e p (mem_cons_self ..),f p (mem_cons_self ..)⟩::ds,by rw[map_cons,c];rfl⟩
theorem PD{R:dn->Prop}{w:World}{m:MH}{h:PH}{s:Sl}{g:Nat}{cb:dj}{ps:en}{cf:dn->dn->Int}{m2:MH}{t:Value}(a':t= .func (.func g) #[] cb.toArray)
 (D:zD w m h [cS s,.val t] [s.val,t])(hg:∃O,Tryz.prog.funcs[g]? =some O/\O.body.isSome=true/\(O.name== "runtime.NumGoroutine")=false)(hr:cM m s 94 1 (ps.map λp=>eS p.1))(hv:∀p∈ps,bI h p.1 p.2)(hR:∀p∈ps,R p.2)(b2:ps.length<=140737488355328)
 (hO:Sort.SWO (Go.Proofs.ltOf (fun(x y:FH h R)=>cf x.l y.l)))(hc:bHJ Tryz.prog R g cb m2 h cf)(H:∀b o,m2 b=some o->m b=some o/\∀i,s.a≠some ⟨b,i,none⟩)
 {K:dk}(hK:∀(I:en)(m':MH),I.Perm ps->I.Pairwise (λp q=>¬cf q.2 p.2<0)->cM m' s 94 1 (I.map λp=>eS p.1)->(∀b,(∀i,s.a≠some ⟨b,i,none⟩)->m' b=m b)->K (.tup []) m' h):
 Calls Tryz.prog 189 #[s.val,t] w λe w'=>∃r u m' h',e= .returned u/\K r m' h'/\C5 w' r u/\vN ⟨w,sI m [cS s,.val t] [s.val,t],h,[]⟩ m' h' w'/\(∀b,gK r u=some b->(w.heap.size<=b\/sI m [cS s,.val t] [s.val,t] b)/\m' b=none/\∀i,h' b i=none):=by
 subst a';by_cases F:ps=[]
 .subst F;have a0:s.len=0:=by have:=cM.slen hr;grind
  have:=AnyF.slices_SortFunc_none Tryz.sortN s.a s.cap (.func (.func g) #[] cb.toArray) w;rw[show s.val= .slice s.a 0 s.cap by rw[<-a0];rfl];refine Calls.mono (show Calls Tryz.prog 189 #[.slice s.a 0 s.cap,.func (.func g) #[] cb.toArray] w _ from this) ?_;rintro e w' ⟨rfl,rfl⟩;exact⟨.tup [],.tuple #[],m,h,rfl,hK [] m (.refl _) .nil hr (λ_ _=>rfl),⟨#[],rfl,rfl⟩,⟨rfl,rfl,rfl,Nat.le_refl _,Nat.le_refl _,λ_ _ _=>rfl,D.hsat,D.msat,D.disj,λ_ _ _ e=>e,λ_ _ _=>rfl,λb o hb=>.inr (.inl cg)⟩,λb hb=>by simp[gK]at hb⟩
 obtain⟨p0,P⟩:=exists_mem_of_ne_nil _ F
 haveI:Inhabited (FH h R):=⟨⟨p0.1,p0.2,hv p0 P,hR p0 P⟩⟩
 rcases hr.ex with⟨rfl,hx⟩|⟨b,z,A,rfl,Q,h0,h1,h2,h3⟩
 .exact(F (cm hx)).elim
 .simp only[length_map]at h0 h3;have J:=D.msat b _ Q;have S:=(Array.getElem?_eq_some_iff.1 J).1;obtain⟨B,T⟩:∃B:List (FH h R),B.map FH.pr=ps:=PZ ps hv hR;have U:B.length=ps.length:=cg
  have V:∀j,(G:j<B.length)->A[j]? =some (zK h B[j]):=λj G=>by
   have:(A.toList.take (ps.length*1))[j]? =((ps.map λp=>eS p.1).flatten)[j]? :=by rw[h3]
   rw[getElem?_take,if_pos aC,dd]at this;rw[this, <-T]
   have hf:((B.map FH.pr).map λp:Sl×dn=>eS p.1).flatten=B.map (zK h):=by
    clear T U G this
    induction B with
    |nil=>rfl
    |cons a l ih=>simp only[map_cons,flatten_cons,ih];rfl
   grind
  have a1:A.size=z:=by omega
  have hH:Sort.Holds (zK h) w b 0 B.toArray:=by
   intro j G;have G:j<B.length:=by omega
   refine⟨?_,?_⟩
   .rw[cell_of_heap J,dd,Nat.zero_add,V j G,getElem!_pos _ j aC];simp
   .unfold World.frozen?
    grind
  obtain⟨O,a2,b3,b5⟩:=hg
  have eg:∀args w,(callFunc g args).run Tryz.prog w= .ok (.enter g args) w:=λargs w=>by
   have a3:¬O.body=none:=cg
   have a4:¬O.name= "runtime.NumGoroutine" :=cg
   simp[callFunc,program,Sem.run,a2,a4,a3]
  have W:=a1Q (blk:=b) (off:=0) (size:=B.toArray.size) hc (w:=w) (λc o v C=>⟨D.hsat c o v C,λe=>by rw[e,D.disj b _ Q o]at C;cases C⟩) (λc o d=>⟨D.msat c o (H c o d).1,λe=>(H c o d).2 0 (by rw[e])⟩) (λc o d=>D.disj c o (H c o d).1);have L:=Any.slices_SortFunc Tryz.sortF (zK h) (λ_=>rfl) (λx y=>cf x.l y.l) hO g cb.toArray b 0 z B.toArray w eg W hH S ce;have e3:(Sl.val ⟨some ⟨b,0,none⟩,(ps.map λp=>eS p.1).length,z⟩)= .slice (some ⟨b,0,none⟩) B.toArray.size z:=by simp[Sl.val,U]
  rw[e3];refine Calls.mono L ?_;rintro e w' ⟨rfl,f,n,os,X,a5,rfl⟩;have a6:f.size=B.length:=by have:=X.1;omega
  have a9:=Nx X;obtain⟨m',E⟩:∃m',gI m m' b (.cells (Sort.putCells (zK h) 0 f A) 94 (0,0)):=⟨λc=>if c=b then some (.cells (Sort.putCells (zK h) 0 f A) 94 (0,0))else m c,bx,λc d=>by simp[d]⟩
  have b6:(Sort.putRow (zK h) (Sort.ahead w n) b 0 f).heap.size=w.heap.size:=by unfold Sort.putRow Sort.mapBlock;simp[Sort.ahead]
  have b4:(Go.Proofs.sortWorld (zK h) w b 0 n f os).heap[b]? =some (.cells (Sort.putCells (zK h) 0 f A) 94 (0,0)):=by
   show((Sort.putRow (zK h) (Sort.ahead w n) b 0 f).heap++os)[b]? =_;rw[Array.getElem?_append_left aC];unfold Sort.putRow Sort.mapBlock;simp only[Array.getElem?_modify,if_true];show Option.map _ w.heap[b]? =_;rw[J];rfl
  have Y:∀c,c<w.heap.size->c≠b->(Go.Proofs.sortWorld (zK h) w b 0 n f os).heap[c]? =w.heap[c]? :=λc d M=>by
   show((Sort.putRow (zK h) (Sort.ahead w n) b 0 f).heap++os)[c]? =_;rw[Array.getElem?_append_left aC];unfold Sort.putRow Sort.mapBlock;simp only[Array.getElem?_modify,if_neg (Ne.symm M)];rfl
  have hE:sI m [cS ⟨some ⟨b,0,none⟩,(ps.map λp=>eS p.1).length,z⟩,.val (.func (.func g) #[] cb.toArray)] [.slice (some ⟨b,0,none⟩) B.toArray.size z,.func (.func g) #[] cb.toArray] b:=.inl (by rw[Q];simp);refine⟨.tup [],.tuple #[],m',h,rfl,hK (f.toList.map FH.pr) m' ?_ ?_ ?_ (λc d=>E.other c (λe=>d 0 (by rw[e]))),⟨#[],rfl,rfl⟩,⟨rfl,rfl,rfl,Nat.le_add_right _ _,?_,?_,?_,?_,?_,λ_ _ _ e=>e,λ_ _ _=>rfl,?_⟩,λb hb=>by simp[gK]at hb⟩
  .grind
  .rw[pairwise_map,pairwise_iff_getElem];intro i j hi G b0 Z;have hi:i<f.size:=by omega
   have G:j<f.size:=by omega
   have:=a5 i j (Nat.zero_le _) b0 ce;rw[getElem!_pos f i hi,getElem!_pos f j G]at this;unfold Go.Proofs.ltOf at this;simp only[decide_eq_false_iff_not]at this;simp only[Array.getElem_toList]at Z;exact this Z
  .refine⟨⟨λe he=>?_,λe he u hu=>?_⟩,.inr ⟨b,z,_,?_,E.at_,ce,h1,?_,?_⟩⟩
   .obtain⟨x,_,rfl⟩:=mem_map.1 he;rfl
   .obtain⟨x,_,rfl⟩:=mem_map.1 he;have:u= .slice x.1.a x.1.len x.1.cap:=by simpa[eS]using hu
    rw[this];rfl
   .grind
   .simp[Sort.putCells,a1]
   .apply ext_getElem?;intro j
    have hf:((f.toList.map FH.pr).map λp:Sl×dn=>eS p.1).flatten=f.toList.map (zK h):=by
     generalize f.toList=l
     induction l with
     |nil=>rfl
     |cons a l ih=>simp only[map_cons,flatten_cons,ih];rfl
    rw[hf,getElem?_take];simp only[length_map,Array.length_toList,Nat.mul_one];by_cases G:j<f.size
    .rw[if_pos G,dd,getElem?_map,dd,Array.getElem?_eq_getElem G];have b1:j<A.size:=by omega
     simp only[Sort.putCells,Array.getElem?_mapIdx,Array.getElem?_eq_getElem b1,Option.map_some,Nat.zero_le,Nat.zero_add,Nat.sub_zero,true_and]
     grind
    grind
  .grind
  .grind
  .intro c o v C;have M:c≠b:=λe=>by rw[e,D.disj b _ Q o]at C;cases C
   have h5:=D.hsat c o v C;rw[World.cell?_of_block (w:=w) (a:=⟨c,o,none⟩) (Y c (World.block_lt_of_cell? w ⟨c,o,none⟩ h5) M)];exact h5
  .intro c o d;by_cases e:c=b
   .subst e;rw[E.at_]at d;grind
   .rw[E.other c e]at d;have h5:=D.msat c o d
    grind
  .intro c o d i;by_cases e:c=b
   .subst e;exact D.disj c _ Q i
   .rw[E.other c e]at d;exact D.disj c o d i
  .intro c o d;by_cases e:c=b
   .grind
   .rw[E.other c e]at d;exact .inr (.inl cg)
end Go.Ps
namespace Go.Vc
open Go List
theorem cM.rd{m:MH}{h:PH}{s:Sl}{E sz:Nat}{xs:List dj}(r:cM m s E sz xs){i:Nat}{e:dj}(c:xs[i]? =some e):∃b,s.a=some ⟨b,0,none⟩/\aK m h b (i*sz) e:=by
 rcases r.ex with⟨_,rfl⟩|⟨b,o,d,rfl,t,A,B,C,u⟩
 .simp at c
 .refine⟨b,rfl,.lent d E (0,0) t ?_⟩;have y:=(cn c);have f:=r.rows.len e (cr c)
  have g:∀(l:List dj)(k:Nat),(∀x∈l,x.length=sz)->l[k]? =some e->(l.flatten.drop (k*sz)).take sz=e:=by
   intro l
   induction l with
   |nil=>grind
   |cons a l D=>
    intro k z F;have j:=z a (mem_cons_self ..);cases k with
    |zero=>
     grind
    |succ k=>
     rw[flatten_cons,Nat.succ_mul,Nat.add_comm, <-drop_drop, <-j,drop_left,j]
     grind
  have n:=g xs i r.rows.len c;rw[f];rw[<-u]at n;rw[drop_take,take_take]at n
  grind
theorem kS.sub{m m':MH}{h:PH}{s:Sl}{sz:Nat}{c:List dj}(r:kS m h s sz c)(d:∀b o,m b=some o->m' b=some o):kS m' h s sz c:=by
 rcases r with r|⟨b,o,e,E,f,g,j,n,t⟩
 .exact .imm r
 .exact .lent b o e E f g j (d _ _ n) t
theorem cM.src{m:MH}{h:PH}{s:Sl}{E sz:Nat}{xs:List dj}(r:cM m s E sz xs):kS m h s sz xs:=by
 rcases r.ex with⟨rfl,rfl⟩|⟨b,d,c,rfl,e,f,g,j,n⟩
 .exact .imm (bN.nil h sz)
 .refine .lent b 0 c E (0,0) rfl rfl e ?_
  grind
end Go.Vc
namespace Go.Ps
open Go Go.Vc Go.Proofs List Tryz
variable{K:dk}{m:MH}{h:PH}{s:oL}{ps:dm}{cb:Nat}{sc:bW}{v:QV}{q:Query}{p:Pred}{l:dm}{i:Nat}{N:Nat}{m':MH}{h':PH}{co:dm}{gr:dm}{od:dr}{w:Pred}{ta:Int}{li:Int}{xs:List dj}{sz:Nat}{ks:List dm}{rs:dm}{r:Sl}{a:dm}{b:Nat}
structure RZ{α:Type}(c:α->α->Int):Prop where
 anti:∀x y,c x y= -c y x
 trans:∀x y z,c x y<=0->c y z<=0->c x z<=0
theorem RZ.zero{α:Type}{c:α->α->Int}(h:RZ c){x y z:α}(d:c x y<=0)(e:c y z<=0)(f:c x z=0):c x y=0/\c y z=0:=by
 have g:=h.anti x z;have j:=h.anti x y;have n:=h.anti y z;have o:=h.trans z x y aC d;have t:=h.trans y z x e aC;omega
theorem SA{c d:Int}(h:(if c≠0 then c else d)<=0):c<=0:=by
 omega
theorem RZ.lex{α:Type}{c d:α->α->Int}(h:RZ c)(k:RZ d):RZ (λx y=>if c x y≠0 then c x y else d x y):=by
 refine⟨λx y=>?_,λx y z f g=>?_⟩
 .have a:=h.anti x y;have b:=k.anti x y;omega
 .have j:c x y<=0:=SA f;have n:c y z<=0:=SA g;have o:=h.trans x y z j n;show(if c x z≠0 then c x z else d x z)<=0;by_cases e:c x z=0
  .obtain⟨t,u⟩:=h.zero j n e;have f:(if c x y≠0 then c x y else d x y)<=0:=f;have g:(if c y z≠0 then c y z else d y z)<=0:=g;rw[if_neg aC]at f;rw[if_neg aC]at g;rw[if_neg aC];exact k.trans x y z f g
  omega
theorem RZ.of{α β:Type}{c:α->α->Int}(h:RZ c)(f:β->α):RZ (λx y=>c (f x) (f y)):=⟨λx y=>h.anti _ _,λx y z=>h.trans _ _ _⟩
theorem VI:RZ BE:=by
 refine⟨λx y=>?_,λx y z=>?_⟩
 .unfold BE;omega
 .unfold BE;omega
theorem RM:∀a b:dw,Lib.compareBytes a b= -Lib.compareBytes b a
 |[],[]=>rfl
 |[],_::_=>rfl
 |_::_,[]=>rfl
 |a::l,b::k=>by
  simp only[Lib.compareBytes];by_cases c:a<b
  .grind
  .by_cases d:b<a
   .grind
   .simp only[c,d,if_false];exact RM l k
theorem OM:∀a b c:dw,Lib.compareBytes a b<=0->Lib.compareBytes b c<=0->Lib.compareBytes a c<=0
 |[],_,[],_,_=>by simp[Lib.compareBytes]
 |[],_,_::_,_,_=>by simp[Lib.compareBytes]
 |_::_,[],_,f,_=>by simp[Lib.compareBytes]at f
 |_::_,_::_,[],_,d=>by simp[Lib.compareBytes]at d
 |a::l,b::k,c::q,f,d=>by
  simp only[Lib.compareBytes]at f d⊢
  by_cases g:a<c
  .simp[g]
  .by_cases j:a<b
   .grind
   .by_cases n:b<a
    .grind
    .have e:a=b:=UInt8.le_antisymm (UInt8.not_lt.1 n) (UInt8.not_lt.1 j);subst e;simp only[j,g,if_false]at f d⊢
     by_cases o:c<a
     .grind
     .simp only[o,if_false]at d⊢
      exact OM l k q f d
theorem JE:RZ jL:=by
 have c:RZ Po:=⟨λx y=>RM _ _,λx y z=>OM _ _ _⟩
 exact(VI.of VV.kind).lex ((VI.of VV.int).lex (c.of VV.text))
theorem lJ:∀a b,eJ a b= -eJ b a
 |[],[]=>rfl
 |[],_::_=>rfl
 |_::_,[]=>rfl
 |x::l,y::k=>by
  have a:=JE.anti x y;simp only[eJ];by_cases e:jL x y=0
  .rw[if_neg aC,if_neg aC];exact lJ l k
  omega
theorem xT:∀a b c,eJ a b<=0->eJ b c<=0->eJ a c<=0
 |[],_,[],_,_=>by simp[eJ]
 |[],_,_::_,_,_=>by simp[eJ]
 |_::_,[],_,d,_=>by simp[eJ]at d
 |_::_,_::_,[],_,f=>by simp[eJ]at f
 |x::l,y::k,z::q,d,f=>by
  simp only[eJ]at d f⊢
  have g:jL x y<=0:=SA d;have j:jL y z<=0:=SA f;have n:=JE.trans x y z g j;by_cases e:jL x z=0
  .obtain⟨o,t⟩:=JE.zero g j e;rw[if_neg aC]at d;rw[if_neg aC]at f;rw[if_neg aC];exact xT l k q d f
  omega
theorem FA:RZ eJ:=⟨lJ,xT⟩
theorem RZ.swo{R:dn->Prop}{cf:dn->dn->Int}(c:RZ cf):Sort.SWO (Go.Proofs.ltOf (fun(x y:FH h R)=>cf x.l y.l)):=by
 refine⟨λx=>?_,λx y z d f=>?_,λx y z d f=>?_⟩
 .have:=c.anti x.l x.l;unfold Go.Proofs.ltOf
  grind
 .unfold Go.Proofs.ltOf at*
  simp only[dc]at*
  have t:=c.trans x.l y.l z.l aC aC;by_cases e:cf x.l z.l=0
  .have:=c.zero (x:=x.l) (y:=y.l) (z:=z.l) aC aC e;omega
  .omega
 .unfold Go.Proofs.ltOf at*
  simp only[decide_eq_false_iff_not]at*
  have g:=c.anti x.l y.l;have j:=c.anti y.l z.l;have n:=c.anti x.l z.l;have t:=c.trans z.l y.l x.l aC aC;omega
def Kl(x:dn):dl->dl
 |[]=>[x]
 |y::l=>if eJ x y<0 then x::y::l else if eJ x y=0 then y::l else y::Kl x l
def uR(l:dl):dl:=l.foldr Kl []
abbrev oK(l:dl):Prop:=l.Pairwise λx y=>eJ x y<0
theorem N2{x z:dn}:∀{l:dl},z∈Kl x l↔z=x\/z∈l
 |[]=>by simp[Kl]
 |y::l=>by
  simp only[Kl];split
  .simp
  .split
   .rename_i _ e;have:=i7.1 e
    grind
   .simp only[mem_cons,N2 (l:=l)]
    grind
theorem LF{x:dn}:∀{l:dl},oK l->oK (Kl x l)
 |[],_=>by simp[Kl]
 |y::l,h=>by
  obtain⟨g,f⟩:=pairwise_cons.1 h;simp only[Kl];split
  .rename_i d;refine pairwise_cons.2 ⟨λz c=>?_,h⟩;rcases mem_cons.1 c with rfl|c
   .exact d
   .have t:=xT x y z aC cg;by_cases e:eJ x z=0
    .have:=FA.zero (x:=x) (y:=y) (z:=z) aC cg e;omega
    .omega
  .split
   .exact h
   .rename_i j n;refine pairwise_cons.2 ⟨λz c=>?_,LF f⟩;rcases N2.1 c with rfl|c
    .have:=lJ z y;omega
    grind
theorem EU{x:dn}:∀{l:dl},x∈uR l↔x∈l
 |[]=>by simp[uR]
 |y::l=>by
  show x∈Kl y (uR l)↔_;rw[N2,EU,mem_cons]
theorem BJ:∀(l:dl),oK (uR l)
 |[]=>.nil
 |_::l=>LF (BJ l)
theorem He:∀{a b:dl},oK a->oK b->(∀x,x∈a↔x∈b)->a=b
 |[],[],_,_,_=>rfl
 |[],y::_,_,_,h=>by have:=(h y).2 bx;grind
 |x::_,[],_,_,h=>by have:=(h x).1 bx;grind
 |x::a,y::b,c,d,h=>by
  obtain⟨f,g⟩:=pairwise_cons.1 c;obtain⟨j,n⟩:=pairwise_cons.1 d;have o:∀z,¬eJ z z<0:=λz=>by have:=lJ z z;omega
  have e:x=y:=by
   rcases mem_cons.1 ((h x).1 bx)with e|t
   .exact e
   .rcases mem_cons.1 ((h y).2 bx)with e|u
    .grind
    .have B:=f y u;have C:=j x t;have:=lJ x y;omega
  subst e;congr 1;refine He g n (λz=>⟨λA=>?_,λA=>?_⟩)
  .grind
  grind
theorem Sh{l r:dl}(c:oK r)(d:∀x,x∈r↔x∈l):r=uR l:=He c (BJ l) λx=>by rw[d,EU]
theorem JQ{l:dl}(h:oK l):uR l=l:=(Sh h λ_=>Iff.rfl).symm
def Z3:Vc.Spec:=λc m h K=>∃(s:Sl)(d:dq),c=[cS s]/\kS m h s 1 (d.map eS)/\d.length<=502633886983/\∀e m',cM m' e 94 1 (d.map eS)->(∀b o,m b=some o->m' b=some o)->(∀b i,e.a=some ⟨b,i,none⟩->m b=none)->K (cS e) m' h
def a4Z:Vc.Spec:=λd m h K=>∃(s:Sl)(ps:en),d=[cS s,.val (.func (.func 102) #[] #[])]/\cM m s 94 1 (ps.map λp=>eS p.1)/\(∀p∈ps,bI h p.1 p.2)/\ps.length<=140737488355328/\
 ∀(c:en)(m':MH),c.Perm ps->c.Pairwise (λp q=>¬eJ q.2 p.2<0)->cM m' s 94 1 (c.map λp=>eS p.1)->(∀b,(∀i,s.a≠some ⟨b,i,none⟩)->m' b=m b)->K (.tup []) m' h
structure dT(h:PH)(us:dq)(rs:dl):Prop where
 len:us.length=rs.length
 at_:∀(j:Nat) x,rs[j]? =some x->∃u,us[j]? =some u/\bI h u x
def bAZ:Vc.Spec:=λc m h K=>∃s d l,c=[cS s]/\kS m h s 1 (d.map eS)/\dT h d l/\l.length<=502633886983/\∀e h',PH.le h h'->Rows h' e (uR l)->K (cS e) m h'
noncomputable def aXJ:Ctx:=
 dG [(188,Z3),(189,a4Z),(102,C4)] [(5,{A:=Nat×dq×Sl×MH×PH,st:=λ⟨i,c,s,m,h⟩=>bK 38 39 [(3,sv s),(4,.at (.lst 35)),(11,sv s),(12,iv s.len),(13,iv i)] [(35,.lst 94 1 (c.map eS))] m h})] [] [] false
def Ow(n c:Nat)(m:MH)(h:PH)(K:dk):Prop:=
  K nK m h
theorem aSX(n c:Nat)(m:MH)(h:PH)(K:dk):Ow n c m h K=(Bx (vM [] [] [] [] [53,1053] [] false) Tryz.f188 (cL Tryz.f188) (entry Tryz.f188.ntmps [.val (.slice none n c)] m h) K):=bu
abbrev fX(a:Sl->MH->Prop):Prop:=∀(x:Sl)(c:MH),a x c
abbrev tH(a:Prop)(b:(List dj)->Prop):Prop:=a/\∃(x:List dj),b x
attribute [push_cast] fX tH
def Ov(a:Addr)(n c:Nat)(m:MH)(h:PH)(K:dk):Prop:=
  fX (λs d=>qJ m d h s 94 1 []->∃(x:List dj),tH (cM d (bD s) 94 1 x) (λy=>aA (cT 1 y) (kS d h (Sl.mk (Option.some a) n c) 1 y) (aA (kH x y 24) (kC x y) (fX (λe f=>bV d f (bD s) e 94 1 (x++y)->K (fD e) f h)))))
theorem aSQ(a:Addr)(n c:Nat)(m:MH)(h:PH)(K:dk):Ov a n c m h K=(Bx (vM [] [] [] [] [53,1053] [] false) Tryz.f188 (cL Tryz.f188) (entry Tryz.f188.ntmps [.val (.slice (some a) n c)] m h) K):=bu
abbrev ML(a:dq):Prop:=a.length<=502633886983
abbrev Iy(a:Sl)(b:Nat)(c:dq)(d:MH->Nat->Obj->Prop)(e:Nat->Prop)(g:MH->Prop):Prop:=∀(x:MH),aT (cM x a 94 b (j7 c)) (∀(f:Nat)(j:Obj),d x f j) ((∀(f j:Nat),bX a.a f j->e f)->g x)
abbrev DX(a:MH)(b:Nat):Prop:=a b=Option.none
abbrev Iz(a:MH)(b:Sl)(c:Nat)(d:en):Prop:=cM a b 94 c (List.map (fun(x:Sl×dn)=>aM x.1) d)
abbrev Mt(a:(Nat×dq×Sl×MH×PH->Prop)->(Nat×dq×Sl×MH×PH)->Prop)(b:(Nat×dq×Sl×MH×PH->Prop)->(Nat×dq×Sl×MH×PH->Nat)->(Nat×dq×Sl×MH×PH)->Prop):Prop:=∃(x:Nat×dq×Sl×MH×PH->Prop)(d:Nat×dq×Sl×MH×PH->Nat),(∃(c:Nat×dq×Sl×MH×PH),a x c)/\∀(c:Nat×dq×Sl×MH×PH),b x d c
noncomputable abbrev fL(a:Nat×dq×Sl×MH×PH):Sl:=a.2.2.1
noncomputable abbrev pA(a:dq):Option Go.Vc.Own:=Cy 94 1 a
noncomputable abbrev BV(a:Nat×dq×Sl×MH×PH):Option Go.Vc.Own:=pA a.2.1
abbrev gH(a:MH)(b:Sl×MH×PH):Prop:=cW a b.2
noncomputable abbrev gJ(a:Sl×MH×PH):Nat->Nat->Option Value:=a.2.2
noncomputable abbrev kY(a:Nat×dq×Sl×MH×PH):Nat->Nat->Option Value:=gJ a.2.2
noncomputable abbrev iO(a:Sl×MH×PH):Nat->Option Obj:=a.2.1
noncomputable abbrev p6(a:Nat×dq×Sl×MH×PH):Nat->Option Obj:=iO a.2.2
noncomputable abbrev Dw(a:List dj):Nat:=0+a.length
abbrev NN(a b:Prop)(c:(Nat×dq×Sl×MH×PH)->Prop):Prop:=aA a b (∃(x:Nat×dq×Sl×MH×PH),c x)
noncomputable abbrev oG(a:Nat×dq×Sl×MH×PH):List dj:=j7 a.2.1
attribute [push_cast] ML Iy DX Iz Mt fL pA BV gH gJ kY iO p6 Dw NN oG
def KW(s:Sl)(m:MH)(h:PH)(K:dk):Prop:=
  ∃(C:Sl)(u:dq),aA (p9 s C) (kS m h C 1 (j7 u)) (ML u/\∀(g:Sl),Iy g 1 u (λn b o=>m b=Option.some o->n b=Option.some o) (λb=>DX m b) (λn=>∃(t:Sl)(p:en),aA (dW g (AI 102)=dW t (AI 102)) (Iz n t 1 p) (aA (∀(e:Sl×dn),List.Mem e p->bI h e.1 e.2) (gS p.length) (∀(e:en)(z:MH),aT (List.Perm e p) (List.Pairwise (fun(D:Sl×dn)=>fun(q:Sl×dn)=>¬(eJ q.2 D.2<0)) e) (aT (Iz z t 1 e) (∀(b:Nat),(∀(i:Nat),kF (bX t.a b i))->z b=n b) (Mt (λI x=>aA (I x) (bF g (fL x)) (aA (eL 35) (bF g (fL x)) (aA (dA g (fL x)) (aY x.1) (aA (kN 94 1 (BV x)) (gH z x.2.2) (bH h (kY x)))))) (λI f x=>I x->aR
 (↑x.1:Int) (aH (fL x)) (cK (fL x).a (↑x.1:Int) (fL x) (λb o y=>aK (p6 x) (kY x) b (bC o x.1 1) (aM y)/\dJ (↑x.1:Int) 0 (∃(d:List dj),aA (cT 3 d) (bN (kY x) (bD y) 3 d) (aA (gS (Dw d*32)) (gS (Dw d)) (bU (kY x) 3 ([]++d) (λA B=>NN (iS (oG x)) (dH (oG x)) (λc=>aA (I c) (f c<f x) (aA (bF (fL x) (fL c)) (eL 35) (aA (bF (fL x) (fL c)) (dA (fL x) (fL c)) (aA (aU (aW x.1 1) c.1) (cD 94 1 (dY (oG x) (aM A))=BV c) (bE (gH (p6 x) c.2.2) B (kY c)))))))))) (cK (fL x).a (iJ ((↑x.1:Int)-1)) (fL x) (λE F d=>aK (p6 x) (kY x) E (cF F (iJ ((↑x.1:Int)-1)) 1) (aM d)/\AD d y (kY x) (λa G
 =>fW (eJ a G) 0 (∃(j:List dj),aA (cT 3 j) (bN (kY x) (bD y) 3 j) (aA (gS (Dw j*32)) (gS (Dw j)) (bU (kY x) 3 ([]++j) (λA B=>NN (iS (oG x)) (dH (oG x)) (λc=>aA (I c) (f c<f x) (aA (bF (fL x) (fL c)) (eL 35) (aA (bF (fL x) (fL c)) (dA (fL x) (fL c)) (aA (aU (aW x.1 1) c.1) (cD 94 1 (dY (oG x) (aM A))=BV c) (bE (gH (p6 x) c.2.2) B (kY c)))))))))) (∃(c:Nat×dq×Sl×MH×PH),aA (I c) (f c<f x) (aA (bF (fL x) (fL c)) (eL 35) (aA (bF (fL x) (fL c)) (dA (fL x) (fL c)) (aA (aU (aW x.1 1) c.1) (BV x=BV c) (bE (gH (p6 x) c.2.2) (kY x) (kY c))))))))))) (oB (kY x) (oG x) K
 (p6 x)))))))))
theorem qF(l:dq):cT 1 (l.map eS):=by
 constructor
 .intro e c;obtain⟨x,_,rfl⟩:=mem_map.1 c;rfl
 .intro e c u d;obtain⟨x,_,rfl⟩:=mem_map.1 c;have:u= .slice x.a x.len x.cap:=by simpa[eS]using d
  rw[this];rfl
theorem Bf(l:dn):cT 3 (l.map VV.enc):=by
 constructor
 .intro e c;obtain⟨x,_,rfl⟩:=mem_map.1 c;rfl
 .intro e c u d;obtain⟨x,_,rfl⟩:=mem_map.1 c;simp only[VV.enc,mem_cons,not_mem_nil,or_false]at d;rcases d with rfl|rfl|rfl<;>rfl
theorem XO:di 188 Z3:=by
 refine eC (fn:=Tryz.f188) (c:=cL Tryz.f188) func188 rfl bz ?_;rintro B m h K ⟨s,t,rfl,g,F,u⟩;obtain⟨a,n,c⟩:=s;refine⟨vM [] [] [] [] [53,1053] [] false,rfl,aF,?_⟩;cases a with
 |none=>
  show Bx _ Tryz.f188 (cL Tryz.f188) (entry Tryz.f188.ntmps [.val (.slice none n c)] m h) K;rw[<-aSX n c m h K];dsimp only[Ow,push_cast]
  have e:t.map eS=[]:=by
   rcases g with g|⟨b,o,G,E,H,e,_⟩
   .rcases g.row with e|⟨b,o,e,_⟩
    .exact e
    .cases e
   .cases e
  rw[e]at u;exact u ⟨none,0,0⟩ m ⟨⟨(λe y=>by cases y),(λe y=>by cases y)⟩,.inl ⟨rfl,rfl⟩⟩ (λb o e=>e) (λb i e=>by cases e)
 |some a=>
  show Bx _ Tryz.f188 (cL Tryz.f188) (entry Tryz.f188.ntmps [.val (.slice (some a) n c)] m h) K;rw[<-aSQ a n c m h K];dsimp only[Ov,push_cast];intro s m' d
  have sub:∀b o,m b=some o->m' b=some o:=λb o f=>by
   rw[d.other b (λi e=>by rw[(d.fresh b i e).m_]at f;cases f)];exact f
  refine⟨[],d.row,t.map eS,qF t,g.sub sub,ce,ce,λC D z=>u C D (cm z.row) (λb o f=>?_) (λb i e=>?_)⟩
  .exact z.other b o (sub b o f) (λi e=>by have e:s.a=some ⟨b,i,none⟩:=e;rw[(d.fresh b i e).m_]at f;cases f)
  .rcases z.fresh b i e with A|⟨j,A⟩
   .cases I:m b with
    |none=>rfl
    |some o=>grind
   .exact(d.fresh b j A).m_
theorem Vf:di 189 a4Z:=by
 refine⟨⟨Tryz.f189,func189,rfl,bz⟩,?_⟩;rintro f e m h w K ⟨s,ps,rfl,j,n,t,u⟩ c
 obtain⟨v,d,rfl⟩:∃v d,e=[v,d]:=by
  have:=(qC c.args).1
  match e,this with
  |[v,d],_=>grind
 have z:v=s.val:=c.args.1;have A:d= .func (.func 102) #[] #[]:=c.args.2.1;subst z A;refine PD (R:=λ_=>True) (g:=102) (cb:=[]) (m2:=λ_=>none) (cf:=eJ) rfl c ⟨Tryz.f102,func102,rfl,bz⟩ j n (λ_ _=>trivial) t FA.swo ⟨C4,Ef,λx y=>⟨x.s,y.s,x.l,y.l,rfl,x.ok,y.ok,rfl,rfl,rfl⟩⟩ (λb o B=>by cases B) u
theorem dT.mono{us:dq}{rs:dl}(x:dT h us rs)(le:PH.le h h'):dT h' us rs:=⟨x.len,λj r d=>(x.at_ j r d).imp λ_ c=>⟨c.1,bI.mono c.2 le⟩⟩
theorem dT.nil(h:PH):dT h [] []:=⟨rfl,λj x c=>by simp at c⟩
theorem dT.snoc{us:dq}{rs:dl}(x:dT h us rs){u:Sl}{r:dn}(d:bI h u r):dT h (us++[u]) (rs++[r]):=by
 refine⟨by simp[x.len],λj y c=>?_⟩;by_cases f:j<rs.length
 .rw[getElem?_append_left f]at c;obtain⟨v,g,n⟩:=x.at_ j y c
  grind
 .rw[getElem?_append_right aC]at c;have:=(cn c);simp at this;have e:j=rs.length:=by omega
  subst e;simp at c;subst c;exact⟨u,by rw[getElem?_append_right (by rw[x.len];omega),x.len];simp,d⟩
theorem dT.rows{h:PH}{us:dq}{rs:dl}{s:Sl}(x:dT h us rs)(c:bN h s 1 (us.map eS))(d:rs.length<=502633886983):Rows h s rs:=⟨⟨us,c,x.len.symm,x.at_⟩,d⟩
structure YF(ps':en)(s1:Sl)(m2:MH)(h:PH)(i:Nat)(us2:dq)(s2:Sl)(mx:MH)(hx:PH):Prop where
 s_:s2=s1
 m_:mx=m2
 le:PH.le h hx
 hi:i<=ps'.length
 hu:us2.length<=i
 ex:∃rs,dT hx us2 rs/\oK rs/\∀x,x∈rs↔x∈(ps'.take i).map Prod.snd
theorem LQ{hx:PH}{u:Sl}{r:dn}{us:dq}{Q:Sl->PH->Prop}(c:bI hx u r)(y:us.length<=502633886983)(f:∀s h',hx.le h'->bI h' s r->Q s h'):
 ∃d:List dj,cT 3 d/\bN hx (Sl.mk u.a u.len u.cap) 3 d/\(0+d.length)*32<=140737488355328/\0+d.length<=140737488355328/\∀(s:Sl)(h':PH),hx.le h'->bN h' s 3 ([]++d)->
  ((List.map eS us).length+1)*24<=140737488355328/\(List.map eS us).length<140737488355328/\Q s h':=by
 obtain⟨e,g,j,n⟩:=c.ex;have o:=c.len;refine⟨e.map VV.enc,Bf e,g,cg,cg,λs h' le t=>⟨cg,cg,f s h' le ⟨⟨e,t,j,n⟩,o⟩⟩⟩
theorem bxJ{s:Sl}{us:dq}{l:dl}(hr:kS m h s 1 (us.map eS))(F:dT h us l)(b6:l.length<=502633886983)(hK:∀s' h',PH.le h h'->Rows h' s' (uR l)->K (cS s') m h'):KW s m h (lQ h K):=by
 dsimp only[KW,push_cast];have b7:=F.len.symm;have b8:=F.at_;refine⟨s,us,rfl,hr,aC,λs1 m1 a0 a1 b4=>⟨s1,us.zip l,rfl,?_,λp G=>?_,ce,λc m2 d P f a2=>?_⟩⟩
 .have:(us.zip l).map (λp=>[fF p.1])=us.map eS:=by
   rw[show(λp:Sl×dn=>[fF p.1])=eS∘Prod.fst from rfl, <-map_map,map_fst_zip aC]
  grind
 .obtain⟨j,C⟩:=getElem?_of_mem G;rw[getElem?_zip_eq_some]at C
  grind
 .have b9:c.length=us.length:=by rw[d.length_eq];simp;omega
  have Q:=cM.slen f;simp only[length_map]at Q
  have R:∀{i:Nat}{p:Sl×dn},c[i]? =some p->bI h p.1 p.2:=fun{i p} G=>by
   have:=d.mem_iff.1 (cr G);obtain⟨j,C⟩:=getElem?_of_mem this;rw[getElem?_zip_eq_some]at C
   grind
  have b5:∀x,x∈c.map Prod.snd↔x∈l:=λx=>by
   rw[(d.map Prod.snd).mem_iff,map_snd_zip aC]
  have H:∀b o,m b=some o->m2 b=some o:=λb o hb=>by
   grind
  refine⟨λx=>YF c s1 m2 h x.1 x.2.1 x.2.2.1 x.2.2.2.1 x.2.2.2.2,λx=>c.length-x.1,⟨(0,[],s1,m2,h),⟨rfl,rfl,.refl _,bx,bx,[],.nil h,.nil,bx⟩,MT⟩,?_⟩;rintro⟨i,n,I,J,S⟩ ⟨e1,e2,le,hi,a3,rs,u,L,D⟩;dsimp only at e1 e2 le hi a3 u;subst e1 e2;refine aE (λT=>?_) (λa4=>?_)
  .dsimp only at T;have U:i<c.length:=by omega
   obtain⟨p,G⟩:∃p,c[i]? =some p:=⟨_,cq U⟩
   obtain⟨b,e1,r1⟩:=f.rd (h:=S) (i:=i) (e:=eS p.1) (by simp[G];rfl);have M:=bI.mono (R G) le
   have a5:∀x,x∈(c.take (i+1)).map Prod.snd↔x∈(c.take i).map Prod.snd\/x=p.2:=λx=>by
    rw[db,G];simp
   have V:(∀y∈rs,eJ y p.2<0)->∀(s:Sl)(h':PH),S.le h'->bI h' s p.2->YF c I J h (i+1) (n++[s]) I J h':=λhc s h' g A=>by
    refine⟨rfl,rfl,le.trans g,aC,ce,rs++[p.2],(u.mono g).snoc A,pairwise_append.2 ⟨L,bx,λy O z hz=>?_⟩,λx=>?_⟩
    .grind
    grind
   have keep:p.2∈rs->YF c I J h (i+1) n I J S:=λhc=>
    ⟨rfl,rfl,le,aC,aC,rs,u,L,λx=>cg⟩
   refine⟨b,0,e1,aC,T,p.1,by simpa[eS]using r1,aB (λh0=>?_) (λh0=>?_)⟩
   .have h0:i=0:=cg
    subst h0
    have c':rs=[]:=by
     cases rs with
     |nil=>rfl
     |cons y _=>have:=(D y).1 bx;simp at this
    exact LQ M cg (λs h' g A=>⟨(0+1,n++[s],I,J,h'),V cg s h' g A,cg,rfl,rfl,rfl,rfl,rfl,by simp[eS],rfl,rfl,trivial⟩)
   .have h0:i≠0:=cg
    have hw:IntKind.i64.wrap ((i:Int)-1)=((i-1:Nat):Int):=by rw[dR aC aC];omega
    obtain⟨q,W⟩:∃q,c[i-1]? =some q:=⟨_,cq aC⟩
    obtain⟨b',a6,a9⟩:=f.rd (h:=S) (i:=i-1) (e:=eS q.1) (by simp[W];rfl);have b0:=bI.mono (R W) le
    have X:q.2∈rs:=by
     rw[D];refine mem_map.2 ⟨q,?_,rfl⟩;exact mem_of_getElem? (i:=i-1) cg
    have B:∀y∈rs,eJ y q.2<=0:=λy O=>by
     rw[D]at O;obtain⟨z,hz,rfl⟩:=mem_map.1 O;obtain⟨j,C⟩:=getElem?_of_mem hz;have b1:=(cn C);simp only[length_take]at b1;rw[getElem?_take,if_pos aC]at C;by_cases e:j=i-1
     .subst e;rw[W]at C;cases C;have:=lJ q.2 q.2;omega
     .have h1:=pairwise_iff_getElem.1 P j (i-1) aC aC aC;rw[(List.getElem?_eq_some_iff.1 C).2,(List.getElem?_eq_some_iff.1 W).2]at h1;have:=lJ z.2 q.2;omega
    have Y:eJ q.2 p.2<=0:=by
     have h1:=pairwise_iff_getElem.1 P (i-1) i aC aC aC;rw[(List.getElem?_eq_some_iff.1 G).2,(List.getElem?_eq_some_iff.1 W).2]at h1;have:=lJ q.2 p.2;omega
    dsimp only;rw[hw];refine⟨b',0,a6,aC,aC,q.1,by simpa[eS]using a9,q.1,p.1,q.2,p.2,rfl,b0,M,aB (λb2=>?_) (λZ=>?_)⟩
    .have b2:eJ q.2 p.2≠0:=cg
     refine LQ M aC (λs h' g A=>⟨(i+1,n++[s],I,J,h'),V (λy O=>?_) s h' g A,aC,rfl,rfl,rfl,rfl,by rw[fP aC],by simp[eS],rfl,rfl,trivial⟩);have t:=xT y q.2 p.2 (B y O) Y;by_cases e:eJ y p.2=0
     .have:=FA.zero (B y O) Y e;omega
     .omega
    .have Z:eJ q.2 p.2=0:=cg
     exact⟨(i+1,n,I,J,S),keep (by rw[<-i7.1 Z];exact X),aC,rfl,rfl,rfl,rfl,by rw[fP aC],rfl,rfl,rfl,trivial⟩
  .intro s3 h3 E a';dsimp only at a4 a' E;have b3:i=c.length:=by omega
   subst b3;rw[take_length]at D;have e:rs=uR l:=Sh L (λx=>cg);subst e;have hl:=u.len;exact⟨m,h3,H,le.trans E,.refl _,hK s3 h3 (le.trans E) ((u.mono E).rows a' aC)⟩
theorem Hz:di 115 bAZ:=by
 refine Ht func115 ?_;rintro c m h K ⟨s,j,l,rfl,d,e,f,g⟩;refine⟨aXJ,rfl,aD XO (aD Vf (aD Ef aF)),KW s m h (lQ h K),bu,?_⟩;exact bxJ d e f g
end Go.Ps
namespace Go.Vc
open Go List
section
variable{B:qE}{C:Ctx}{ι:dv}{σ:St}{a:Act}{w:World}{o:Oper}{K:St->Prop}
def O3(ι:dv)(σ:St)(b:Nat):Prop:=σ.m b≠none\/∃k o,nth σ.own k=some (some o)/\blk (ι k)=some b
def reB(ι:dv)(σ:St)(ds:List Deferred)(w:World):qE:=⟨w,O3 ι σ,σ.h,ds⟩
theorem aJ.rebase(c:aJ B ι σ a w):aJ (reB ι σ a.defers w) ι σ a w:=by
 have f:=c.wrel;refine⟨c.slots,rfl,c.own,c.dist,λk o b g d=>?_,?_,c.one⟩
 .obtain⟨_,j,n⟩:=c.fresh k o b g d;exact⟨.inr (.inr ⟨k,o,g,d⟩),j,n⟩
 .exact⟨rfl,rfl,rfl,Nat.le_refl _,Nat.le_refl _,λ_ _ _=>rfl,f.hsat,f.msat,f.disj,λ_ _ _ e=>e,λ_ _ _=>rfl,
   λb o d=>.inr (.inl (by rw[d];simp))⟩
theorem aJ.mine(c:aJ B ι σ a w){b:Nat}(h:O3 ι σ b):(B.w0.heap.size<=b\/B.E b)/\b<w.heap.size/\∀i,σ.h b i=none:=by
 rcases h with h|⟨k,o,f,g⟩
 .cases e:σ.m b with
  |none=>grind
  |some d=>exact⟨c.wrel.mfr b d e,(Array.getElem?_eq_some_iff.1 (c.wrel.msat b d e)).1,c.wrel.disj b d e⟩
 .obtain⟨j,_,n⟩:=c.fresh k o b f g;exact⟨j,pB (c.own k o f) g,n⟩
theorem aJ.unbase(u:aJ B ι σ a w){ds:List Deferred}{y:dv}{τ:St}{z:Act}{w':World}(h:aJ (reB ι σ ds w) y τ z w'):aJ {B with dfs:=ds} y τ z w':=by
 have d:=u.wrel;have c:=h.wrel
 have j:∀b,(w.heap.size<=b\/O3 ι σ b)->B.w0.heap.size<=b\/B.E b:=λb f=>by
  rcases f with n|n
  .exact .inl (dg d.size n)
  .exact(u.mine n).1
 refine⟨h.slots,h.defers,h.own,h.dist,λk o b A f=>?_,?_,h.one⟩
 .obtain⟨D,F,G⟩:=h.fresh k o b A f;exact⟨j b D,F,G⟩
 .have H:w.heap.size<=w'.heap.size:=c.size;refine⟨c.tape.trans d.tape,c.os.trans d.os,c.output.trans d.output,dg d.drawn c.drawn,dg d.size H,?_,c.hsat,c.msat,c.disj,λb i v e=>c.hle b i v (d.hle b i v e),?_,λb o f=>j b (c.mfr b o f)⟩
  .intro b f g
   have t:¬O3 ι σ b:=λI=>by
    grind
   have:=c.frame b (dh f d.size) t;rw[this];exact d.frame b f g
  .intro b f g
   have t:¬O3 ι σ b:=λI=>by
    grind
   have:τ.h b=σ.h b:=c.hold b (dh f d.size) t;rw[this];exact d.hold b f g
theorem aJ.grown(g:aJ B ι σ a w){w':World}{row:Option Nat}(u:w.grownBy w' row)(y:w.drawn<=w'.drawn)(j:∀r,row=some r->B.w0.heap.size<=r/\¬O3 ι σ r/\∃ob:Obj,w.heap[r]? =some ob/\ob.isCells=false):aJ B ι σ a w':=by
 have c:=g.wrel;have f:∀b,b<w.heap.size->(∀r,row=some r->b≠r)->w'.heap[b]? =w.heap[b]? :=λb d n=>u.block b d (λe=>n b e.symm rfl);have mine:∀b,O3 ι σ b->w'.heap[b]? =w.heap[b]? :=λb d=>f b (g.mine d).2.1 (λr e h=>(j r e).2.1 (h▸d));refine⟨g.slots,g.defers,λk o F=>(g.own k o F).world (λb d=>mine b (.inr ⟨k,o,F,d⟩)),g.dist,g.fresh,?_,g.one⟩;refine⟨u.tape.trans c.tape,u.os.trans c.os,u.output.trans c.output,dg c.drawn y,dg c.size u.size,?_,?_,?_,c.disj,c.hle,c.hold,c.mfr⟩
 .intro b d z;rw[f b (dh d c.size) (λr e h=>cg)];exact c.frame b d z
 .intro b i v G;have t:=c.hsat b i v G;have A:b<w.heap.size:=World.block_lt_of_cell? w ⟨b,i,none⟩ t
  have n:∀r,row=some r->b≠r:=λr e h=>by
   obtain⟨_,_,ob,D,E⟩:=j r e;unfold World.cell? at t;rw[h]at t;dsimp only at t;rw[D]at t;cases ob<;>simp[Obj.isCells]at E t
  rw[World.cell?_of_block (w:=w) (w':=w') (a:=⟨b,i,none⟩) (f b A n)];exact t
 .intro b o d;rw[mine b (.inl (by rw[d];simp))];exact c.msat b o d
def sN:Code->Bool
 |.skip=>true
 |.ret=>true
 |.exit _=>true
 |.region _ c _=>c.toList.all λo=>match o.op with|.defer _=>false|_=>true
 |.seq x y=>sN x&&sN y
 |.cond _ x y=>sN x&&sN y
 |.block _ x=>sN x
 |.loop x=>sN x
 |_=>false
def Plain(ops:Array Oper):Prop:=∀(i:Nat)(o:Oper),ops[i]? =some o->∀c,o.op≠ .defer c
theorem T5{ops:Array Oper}(h:(ops.toList.all λo=>match o.op with|.defer _=>false|_=>true)=true):Plain ops:=by
 intro i o d c e
 grind
theorem x9(l:Nat){P:Program}{ops:Array Oper}(c:Plain ops){Q:Exit->Act->World->Prop}:∀(L:eh)(a:Act)(w:World),wpOpsIn Fence.wide 0 P ops Q L a w->wpOpsIn (Fence.wide.inRound l) 0 P ops Q L a w
 |[],_,_,h=>h
 |i::L,a,w,h=>by
  unfold wpOpsIn at h⊢
  cases d:ops[i]? with
  |none=>rw[d]at h;exact x9 l c L a w h
  |some o=>
   rw[d]at h;dsimp only at h⊢
   split
   .rename_i e;rw[if_pos e]at h;exact G9 l (c i o d) (Oper.wpIn_mono (λa w=>x9 l c L a w) h)
   .rename_i e;rw[if_neg e]at h;exact⟨λ_ _=>trivial,x9 l c L _ _ h.2⟩
theorem BG(l:Nat){P:Program}{g:Region.Mode}{ops:Array Oper}(c:Plain ops){Q:Exit->Act->World->Prop}(d:¬LetsOut Q):∀(n:Nat)(L:Array Bool)(a:Act)(w:World),wpAny P g ops Q n L a w->wpAnyIn (Fence.wide.inRound l) 0 P g ops Q n L a w
 |0,_,_,_,h=>h
 |n+1,L,a,w,h=>by
  refine⟨h.1,λi t=>?_⟩;have:=h.2 i t;unfold wpOp at this;unfold wpOpIn;cases e:ops[i]? with
  |none=>rw[e]at this;exact BG l c d n _ _ _ this
  |some o=>
   rw[e]at this;dsimp only at this⊢
   split
   .rename_i f;rw[if_pos f]at this;rcases this with j|j
    .exact G9 l (c i o e) (Oper.wpIn_mono (λa w=>BG l c d n _ a w) (M9 j))
    grind
   .rename_i f;rw[if_neg f]at this;exact⟨λ_ _=>trivial,BG l c d n _ _ _ this⟩
theorem Et{F:Fence}{n:Nat}{P:Program}{Q:Exit->Act->World->Prop}{a:Act}{w:World}{c:Code}(I:Nat->Act->World->Prop)(u:Nat)(z:I u a w)
 (d:∀k a w,I k a w->c.wpIn F n P (Exit.then (λy w'=>∃g,g<k/\I g y w') Q) a w):(Code.loop c).wpIn F n P Q a w:=by
 refine wpIn_loop (λa w=>∃k,I k a w) (λa w=>leastOf (λk=>I k a w)) ⟨u,z⟩ ?_;intro a w A;refine wpIn_mono (d _ a w (leastOf_spec A).1) ?_;intro e y w' j;cases e with
 |normal=>
  obtain⟨g,t,f⟩:=j;exact⟨⟨g,f⟩,Nat.lt_of_le_of_lt ((leastOf_spec ⟨g,f⟩).2 g f) t⟩
 |exit id=>exact j
 |ret=>exact j
 |goto l=>exact j
 |panic D=>exact j
 |outgrown=>exact j
theorem Px(l:Nat)(F:∀g S,assoc C.specs g=some S->Sound C.P g S):∀(c:Code),sN c=true->∀(σ:St)(Q:zO->St->Prop)(ι:dv)(a:Act)(w:World),aJ B ι σ a w->VC C c σ Q->c.wpIn (Fence.wide.inRound l) 0 C.P (QD B Q) a w:=by
 intro c
 induction c with
 |skip=>intro u σ Q ι a w z h;exact wpIn_skip ⟨ι,σ,z,h⟩
 |label l=>intro u;cases u
 |exit id=>intro u σ Q ι a w z h;exact wpIn_exit ⟨ι,σ,z,h⟩
 |ret=>intro u σ Q ι a w z h;exact wpIn_ret ⟨ι,σ,z,h⟩
 |goto l=>intro u;cases u
 |refuse b0=>intro u;cases u
 |scope b' ih=>intro u;cases u
 |rangeFunc f ps x y G W=>intro u;cases u
 |region id ops a3=>
  intro u σ Q ι a w z h;cases a3 with
  |false=>
   refine wpIn_region (x9 l (T5 u) _ _ _ ?_);have:=JS F (ops:=ops) (Q:=Q) (JR C id) ops.toList 0 ι σ a w (λj=>bx) z h;rw[range_eq_range'];omega
  |true=>
   simp only[VC]at h;split at h
   .rename_i h1 h2 h3;have a5:=awJ h1 h2;refine wpIn_region_any h3 (BG l (T5 u) (λ⟨_,_,e⟩=>e) _ _ _ _ ?_);refine RO F a5 (Q:=QD B Q) (R:=Q .normal) (λι σ a w z h=>⟨ι,σ,z,h⟩) (λc a w h=>h) ops.size ops.size _ ι σ a _ (z.drew (w.drawn+1) (Nat.le_succ _)) h _ a ?_ ?_
    .have U:∀i,(Array.replicate ops.size false).getD i false=true->False:=by
      intro i H;by_cases E:i<ops.size
      .simp[Array.getD,E]at H
      grind
     exact⟨bx,bx,λi H=>H,λi o _ H=>(U i H).elim,λi o _ H=>(U i H).elim,λi o _ H=>(U i H).elim,rfl,rfl,λt _=>rfl,λi o _ H=>(U i H).elim⟩
    .unfold tP;rw[filter_eq_self.2]
     .simp
     .intro i H;by_cases E:i<ops.size<;>simp[Array.getD,E]
   grind
 |seq x y G W=>
  intro u σ Q ι a w z h;obtain⟨J,a4⟩:=Bool.and_eq_true_iff.1 u;simp only[VC]at h;split at h
  .obtain⟨h,D⟩:=h;refine wpIn_seq (wpIn_mono (G J σ _ ι a w z h) ?_);intro e O T d;cases e with
   |normal=>
    obtain⟨V,σ',A,x,hx,X⟩:=d;show y.wpIn (Fence.wide.inRound l) 0 C.P (QD B Q) O T;obtain⟨ι2,L,_⟩:=lA A X
    grind
   |exit id=>exact d
   |ret=>exact d
   |goto l=>exact d
   |panic ch=>exact d
   |outgrown=>exact d
  .split at h
   .obtain⟨I,h,D⟩:=h;refine wpIn_seq (wpIn_mono (G J σ _ ι a w z h) ?_);intro e O T d;cases e with
    |normal=>
     obtain⟨V,σ',A,X⟩:=d;show y.wpIn (Fence.wide.inRound l) 0 C.P (QD B Q) O T;obtain⟨x,ι2,hx,L⟩:=zF A X
     grind
    |exit id=>exact d
    |ret=>exact d
    |goto l=>exact d
    |panic ch=>exact d
    |outgrown=>exact d
   .refine wpIn_seq (wpIn_mono (G J σ _ ι a w z h) ?_);intro e O T d;cases e with
    |normal=>
     obtain⟨V,σ',A,h'⟩:=d;show y.wpIn (Fence.wide.inRound l) 0 C.P (QD B Q) O T
     grind
    |exit id=>exact d
    |ret=>exact d
    |goto l=>exact d
    |panic ch=>exact d
    |outgrown=>exact d
 |cond c x y G W=>
  intro u σ Q ι a w z h;obtain⟨J,a4⟩:=Bool.and_eq_true_iff.1 u;simp only[VC]at h;split at h
  .rename_i t hc;have M:=z.ev c;rw[hc]at M;have M:a.eval c= .bool t:=M;rcases sE h with⟨rfl,h⟩|⟨rfl,h⟩
   .exact wpIn_cond_true M (G J _ Q ι a w (z.setTmp hc) h)
   .exact wpIn_cond_false M (W a4 _ Q ι a w (z.setTmp hc) h)
  grind
 |block id c ih=>
  intro u σ Q ι a w z h;refine wpIn_block (wpIn_mono (ih u σ _ ι a w z h) ?_);intro e O T d;cases e with
  |normal=>exact d
  |exit i=>
   obtain⟨V,σ',A,h'⟩:=d;show if i=id then _ else _
   simp only at h';split at h'
   .rename_i hb;rw[if_pos (da hb)];exact⟨V,σ',A,h'⟩
   .rename_i hb;rw[if_neg (λe=>by subst e;simp at hb)];exact⟨V,σ',A,h'⟩
  |ret=>exact d
  |goto l=>exact d
  |panic ch=>exact d
  |outgrown=>exact d
 |loop c ih=>
  intro u σ Q ι a w z h;simp only[VC]at h;split at h
  .rename_i Y hl;obtain⟨⟨x,hx,X⟩,D⟩:=h;obtain⟨ι2,L,_⟩:=lA z X;refine Et (λn a w=>∃x ι,Y.inv x/\Y.mu x=n/\aJ B ι (Y.st x) a w) (Y.mu x) ⟨x,ι2,hx,rfl,L⟩ ?_;rintro n O T ⟨x',V,Z,rfl,A⟩;refine wpIn_mono (ih u _ _ V O T A (D x' Z)) ?_;intro e a6 a9 d;cases e with
   |normal=>
    obtain⟨ι3,σ3,a0,y,hy,E,a1⟩:=d;obtain⟨ι4,a2,_⟩:=lA a0 a1;exact⟨Y.mu y,E,y,ι4,hy,rfl,a2⟩
   |exit id=>exact d
   |ret=>exact d
   |goto l=>exact d
   |panic ch=>exact d
   |outgrown=>exact d
  .split at h
   .rename_i Y hl;obtain⟨I,mu,X,D⟩:=h;obtain⟨x,ι2,hx,L⟩:=zF z X;refine Et (λn a w=>∃x ι,I x/\mu x=n/\aJ B ι (Y.st x) a w) (mu x) ⟨x,ι2,hx,rfl,L⟩ ?_;rintro n O T ⟨x',V,Z,rfl,A⟩;refine wpIn_mono (ih u _ _ V O T A (D x' Z)) ?_;intro e a6 a9 d;cases e with
    |normal=>
     obtain⟨ι3,σ3,a0,a1⟩:=d;obtain⟨y,ι4,hy,E,a2⟩:=LU a0 a1;exact⟨mu y,E,y,ι4,hy,rfl,a2⟩
    |exit id=>exact d
    |ret=>exact d
    |goto l=>exact d
    |panic ch=>exact d
    |outgrown=>exact d
   grind
end
end Go.Vc
namespace Go.Vc
open Go List
def qG:Code->Bool
 |.seq x y=>qG x||qG y
 |.cond _ x y=>qG x||qG y
 |.block _ x=>qG x
 |.loop x=>qG x
 |.scope x=>qG x
 |.rangeFunc .. =>true
 |_=>false
structure YDo(P:Program)(l:Nat)(vs:dj)(m:MH)(h:PH)(R:Bool->MH->PH->Prop):Prop where
 go:∀w,V0 w m h->∃fn tmps assign body,(Instr.yield l vs.toArray).run P w= .ok (.round l fn tmps assign body) w/\
  RoundIn Fence.wide 0 P l fn tmps assign body w λe w'=>∃u m' h',e= .returned (.bool u)/\R u m' h'/\O6 w m h m' h' w'
def a3X(P:Program):Spec:=λc m h K=>∃(l:Nat)(d:dj)(R:Bool->MH->PH->Prop),c= .val (.func (.yield l) #[] #[])::d.map .val/\YDo P l d m h R/\∀u m' h',R u m' h'->K (.val (.bool u)) m' h'
theorem Ly:∀{l l':dj},l.map CV.val=l'.map CV.val->l=l'
 |[],[],_=>rfl
 |a::l,b::l',h=>by
  simp only[map_cons,List.cons.injEq,CV.val.injEq]at h;rw[h.1,Ly h.2]
 |[],_::_,h=>by simp at h
 |_::_,[],h=>by simp at h
theorem M8(P:Program):La P (a3X P):=⟨λl H m h w K⟨I,g,R,d,j,n⟩ t=>by
 simp only[List.cons.injEq,CV.val.injEq,Value.func.injEq,Fn.yield.injEq,and_true]at d;obtain⟨rfl,d⟩:=d;rw[Ly d];obtain⟨y,c,f,z,A,D⟩:=j.go w t;exact⟨y,c,f,z,A,D.mono λe J⟨u,m',h',E,F,G⟩=>⟨_,m',h',E,n u m' h' F,G⟩⟩⟩
def baJ(P:Program)(Src:PH->dj->List dj->Prop):Spec:=λd m h K=>∃(l:Nat)(c:dj)(xs:List dj)(J:Nat->MH->PH->Prop),
 d= .val (.func (.yield l) #[] #[])::c.map .val/\Src h c xs/\J 0 m h/\
 (∀k e m' h',xs[k]? =some e->PH.le h h'->J k m' h'->YDo P l e m' h' (λr g f=>r=true/\PH.le h' f/\J (k+1) g f))/\
 ∀r m' h',PH.le h h'->J xs.length m' h'->K r m' h'
structure HP(P:Program)(g:FuncId)(Src:PH->dj->List dj->Prop):Prop where
 sound:Sound P g (baJ P Src)
def P2:SV->SV
 |.at (.val v)=>.at (.val v)
 |.agg c=>match tO c with|some _=>.agg c|none=>.at .junk
 |_=>.at .junk
def Ui:Option Own->Option Own:=λ_=>none
def blank(σ:St)(m:MH)(h:PH):St:={sl:=σ.sl.map P2,own:=σ.own.map Ui,m:=m,h:=h}
def Si(l:fd):fh->fd
 |[]=>l
 |(p,x)::r=>Si (l.set p x) r
def YX(σ:St)(es:fh)(m:MH)(h:PH):St:={sl:=Si (σ.sl.map P2) es,own:=σ.own.map Ui,m:=m,h:=h}
def Mb(C:Ctx)(x y:Code)(σ:St)(es:fh)(m:MH)(h:PH)(R:MH->PH->Prop):Prop:=
 VC C x (YX σ es m h) (λc τ=>match c with
  |.normal=>VC C y τ (λc υ=>match c with
   |.normal=>R υ.m υ.h
   |_=>False)
  |_=>False)
def WC(C:Ctx)(f:Operand)(ps:Array Tmp)(x y:Code)(σ:St)(K:St->Prop):Prop:=
 match σ.ev f,sN x&&sN y with
 |.at (.val (.func (.func g) j c)),true=>match j.toList with
  |[]=>match ps.toList,C.elemT with
   |[p],[T]=>∃(Src:PH->dj->List dj->Prop)(xs:List (C.dec T).X)(I:Nat->MH->PH->Prop),HP C.P g Src/\Src σ.h c.toList (xs.map λx=>[valOf C.P T ((C.dec T).enc x)])/\I 0 σ.m σ.h/\
    (∀(k:Nat)(e:(C.dec T).X)(m:MH)(h:PH),xs[k]? =some e->PH.le σ.h h->I k m h->Mb C x y σ [(p,mk C.P T (((C.dec T).enc e).map .val))] m h (I (k+1)))/\
    ∀(m:MH)(h:PH),PH.le σ.h h->I xs.length m h->K (blank σ m h)
   |[p,q],[T,U]=>∃(Src:PH->dj->List dj->Prop)(xs:List ((C.dec T).X×(C.dec U).X))(I:Nat->MH->PH->Prop),HP C.P g Src/\Src σ.h c.toList (xs.map λx=>[valOf C.P T ((C.dec T).enc x.1),valOf C.P U ((C.dec U).enc x.2)])/\I 0 σ.m σ.h/\
    (∀(k:Nat)(e:(C.dec T).X)(d:(C.dec U).X)(m:MH)(h:PH),xs[k]? =some (e,d)->PH.le σ.h h->I k m h->Mb C x y σ [(p,mk C.P T (((C.dec T).enc e).map .val)),(q,mk C.P U (((C.dec U).enc d).map .val))] m h (I (k+1)))/\
    ∀(m:MH)(h:PH),PH.le σ.h h->I xs.length m h->K (blank σ m h)
   |_,_=>False
  |_=>False
 |_,_=>False
def VCF(C:Ctx):Code->St->(zO->St->Prop)->Prop
 |.rangeFunc f ps x y,σ,Q=>WC C f ps x y σ (Q .normal)
 |.seq a b,σ,Q=>match qG a||qG b with
  |false=>VC C (.seq a b) σ Q
  |true=>match OH C b with
   |some c=>∃I:c.A->Prop,VCF C a σ (λe τ=>match e with
    |.normal=>Ic c I τ
    |e=>Q e τ)/\∀x,I x->VCF C b (c.st x) Q
   |none=>VCF C a σ (λe τ=>match e with
    |.normal=>VCF C b τ Q
    |e=>Q e τ)
 |.block id c,σ,Q=>match qG c with
  |false=>VC C (.block id c) σ Q
  |true=>VCF C c σ (λe τ=>match e with
   |.exit i=>match Nat.beq i id with|true=>Q .normal τ|false=>Q (.exit i) τ
   |e=>Q e τ)
 |.cond c x y,σ,Q=>match qG x||qG y with
  |false=>VC C (.cond c x y) σ Q
  |true=>match σ.ev c with
   |.at (.val (.bool t))=>branch t (VCF C x (setTmp σ c true) Q) (VCF C y (setTmp σ c false) Q)
   |_=>False
 |c,σ,Q=>VC C c σ Q
def bgX(C:Ctx)(σ:St):List ResultVar->(dj->Prop)->Prop
 |[],K=>K []
 |.cell t T::r,K=>match nth σ.sl t,iR C.P T with
  |some (.at (.val (.pointer (some ⟨b,off,none⟩)))),true=>a0J C T (aK σ.m σ.h b off) λl=>match(mk C.P T (l.map .val)).val? with
   |some v=>bgX C σ r (λrs=>K (v::rs))
   |none=>False
  |_,_=>False
 |_::_,_=>False
def JX(C:Ctx)(fn:Func)(K:dk)(σ:St):Prop:=
 match Hj C σ fn.results.toList with
 |some _=>CI C fn K σ
 |none=>bgX C σ fn.results.toList λrs=>match rs with
  |[r]=>K (.val r) σ.m σ.h
  |rs=>K (.tup (rs.map .val)) σ.m σ.h
def Zd(C:Ctx)(fn:Func)(c:Code)(σ:St)(K:dk):Prop:=
 VCF C c σ (λe τ=>match e with
  |.normal=>JX C fn K τ
  |.ret=>JX C fn K τ
  |_=>False)
section
variable{B:qE}{C:Ctx}{ι:dv}{σ:St}{a:Act}{w:World}{K:St->Prop}
theorem aeZ{ι d:dv}{x:SV}{v:Value}(h:Den ι x v):Den d (P2 x) v:=by
 cases x with
 |«at» y=>cases y<;>first|exact h|trivial
 |agg g=>
  simp only[P2];split
  .rename_i l e;obtain⟨f,rfl,c⟩:=h;rw[CH e]at c⊢
   exact⟨f,rfl,by rw[iK.vals]at c⊢;exact c⟩
  .trivial
 |tup xs=>trivial
theorem Fl{ι c:dv}:∀{xs:fd}{vs:dj},DenS ι xs vs->DenS c (xs.map P2) vs
 |[],[],_=>trivial
 |_::_,_::_,h=>⟨aeZ h.1,Fl h.2⟩
 |[],_::_,h=>h.elim
 |_::_,[],h=>h.elim
theorem FQ(l:fa)(k:Nat)(o:Own):nth (l.map Ui) k=some (some o)->False:=by
 rw[Ay];cases nth l k<;>simp[Ui]
theorem aJ.blank'{B:qE}{sl:fd}{l:fa}{m:MH}{h:PH}{a:Act}{w:World}(d:DenS (λ_=>.slice none 0 0) sl a.tmps.toList)(e:a.defers=B.dfs)(f:vN B m h w):
 aJ B (λ_=>.slice none 0 0) {sl:=sl,own:=l.map Ui,m:=m,h:=h} a w:=
 ⟨d,e,λk o c=>(FQ l k o c).elim,λk _ o _ _ c=>(FQ l k o c).elim,λk o _ c=>(FQ l k o c).elim,f,λ_=>rfl⟩
def Bs(D:Nat):Deferred:={target:=.collected D,args:= #[]}
structure MM(B:qE)(ds:eh)(ι:dv)(σ:St)(a:Act)(w:World):Prop where
 mod:aJ {B with dfs:=ds.map Bs} ι σ a w
 size:∀D∈ds,B.w0.heap.size<=D
 mine:∀D∈ds,¬O3 ι σ D
 mark:∀D∈ds,w.heap[D]? =some (.deferred (some []))
 nodup:ds.Nodup
def QM(B:qE)(Q:zO->St->Prop):Exit->Act->World->Prop
 |.normal,a,w=>∃c ι σ,MM B c ι σ a w/\Q .normal σ
 |.exit id,a,w=>∃c ι σ,MM B c ι σ a w/\Q (.exit id) σ
 |.ret,a,w=>∃c ι σ,MM B c ι σ a w/\Q .ret σ
 |_,_,_=>False
theorem MM.step{ds:eh}(c:MM B ds ι σ a w){f:dv}{τ:St}{g:Act}{w':World}(h:aJ (reB ι σ (ds.map Bs) w) f τ g w'):MM B ds f τ g w':=by
 have j:∀D∈ds,D<w.heap.size:=λD d=>(Array.getElem?_eq_some_iff.1 (c.mark D d)).1;refine⟨?_,c.size,λD d n=>?_,λD d=>?_,c.nodup⟩
 .exact c.mod.unbase (ds:=ds.map Bs) h
 .rcases(h.mine n).1 with e|e
  .have e:w.heap.size<=D:=e
   grind
  .exact c.mine D d e
 .rw[h.wrel.frame D (j D d) (c.mine D d)];exact c.mark D d
theorem MM.here{ds:eh}(c:MM B ds ι σ a w):aJ (reB ι σ (ds.map Bs) w) ι σ a w:=by
 have:=c.mod.rebase;rw[c.mod.defers]at this;exact this
theorem MM.of_QD{ds:eh}(g:MM B ds ι σ a w){Q:zO->St->Prop}{e:Exit}{j:Act}{w':World}(h:QD (reB ι σ (ds.map Bs) w) Q e j w'):QM B Q e j w':=by
 cases e with
 |normal=>obtain⟨c,τ,d,f⟩:=h;exact⟨ds,c,τ,g.step d,f⟩
 |exit id=>obtain⟨c,τ,d,f⟩:=h;exact⟨ds,c,τ,g.step d,f⟩
 |ret=>obtain⟨c,τ,d,f⟩:=h;exact⟨ds,c,τ,g.step d,f⟩
 |goto l=>exact h.elim
 |panic n=>exact h.elim
 |outgrown=>exact h.elim
theorem MM.retag{ds:eh}(d:MM B ds ι σ a w){c:dv}{τ:St}(h:aJ (reB ι σ (ds.map Bs) w) c τ a w):MM B ds c τ a w:=d.step h
theorem BK(d:∀g S,assoc C.specs g=some S->Sound C.P g S){ds:eh}(e:MM B ds ι σ a w){c:Code}{Q:zO->St->Prop}(h:VC C c σ Q):c.wp C.P (QM B Q) a w:=
 wp_mono (HS d c σ Q ι a w e.here h) (λ_ _ _ f=>e.of_QD f)
theorem Ni{ι:dv}:∀{es:fh}{vs:dj}{sl:fd}{ts:Array Value},DenS ι (es.map (·.2)) vs->DenS ι sl ts.toList->
 DenS ι (Si sl es) (((es.map (·.1)).zip vs).foldl (λts(p,v)=>ts.setIfInBounds p v) ts).toList
 |[],[],_,_,_,h=>h
 |(p,x)::es,v::vs,sl,ts,h,c=>by
  refine Ni (es:=es) (vs:=vs) h.2 ?_;rw[Array.toList_setIfInBounds];exact c.set p h.1
 |[],_::_,_,_,h,_=>h.elim
 |_::_,[],_,_,h,_=>h.elim
def Ax(fn:FuncId)(tmps:Array Value)(ps:Array Tmp)(x y:Code)(D:Nat)(st:LoopState):Loop:={state:=st,pending:=none,fn:=fn,tmps:=tmps,params:=ps,assign:=x,body:=y,defers:=D}
theorem NB{w:World}{l i:Nat}{r:Loop}(h:w.heap[l]? =some (.loop r)):w.cell? ⟨l,i,none⟩=none:=by
 unfold World.cell?
 grind
theorem TW(A:∀g S,assoc C.specs g=some S->Sound C.P g S){tmps:Array Value}{x y:Code}(hx:sN x=true)(hy:sN y=true)(b5:DenS ι σ.sl tmps.toList)
 {es:fh}{vs:dj}{ps:Array Tmp}(a5:ps.toList=es.map (·.1))(a6:DenS (λ_=>.slice none 0 0) (es.map (·.2)) vs)
 {fn:FuncId}{D l:Nat}{m0 mm:MH}{h0:PH}(b6:m0 l=none)(c4:∀b,b≠l->mm b=m0 b)(b7:mm l=some (.loop (Ax fn tmps ps x y D .ready))){R:MH->PH->Prop}
 (hV:Mb C x y σ es m0 h0 R)(w:World)(hH:V0 w mm h0):
 ∃a9 J assign body,(Instr.yield l vs.toArray).run C.P w= .ok (.round l a9 J assign body) w/\
  RoundIn Fence.wide 0 C.P l a9 J assign body w λex w'=>∃u m' h',ex= .returned (.bool u)/\(u=true/\PH.le h0 h'/\∃m2,m2 l=none/\(∀b,b≠l->m' b=m2 b)/\m' l=some (.loop (Ax fn tmps ps x y D .ready))/\R m2 h')/\O6 w mm h0 m' h' w':=by
 have hl:=hH.msat l _ b7;have b8:=(Array.getElem?_eq_some_iff.1 hl).1
 have b':vs.length=ps.size:=by
  have n:=a6.length;rw[length_map]at n;rw[<-Array.length_toList,a5,length_map,n]
 refine⟨_,_,_,_,run_yield hl (by simpa[Ax]using b'),roundIn_of_wpIn trivial ?_⟩;obtain⟨ts,b0⟩:∃ts,((Ax fn tmps ps x y D .ready).params.zip vs.toArray).foldl (λtmps(t,a)=>tmps.setIfInBounds t a) (Ax fn tmps ps x y D .ready).tmps=ts:=⟨_,rfl⟩
 rw[b0]
 have b1:ts=((es.map (·.1)).zip vs).foldl (λts(p,v)=>ts.setIfInBounds p v) tmps:=by
  rw[<-b0, <-a5, <-Array.foldl_toList,Array.toList_zip];rfl
 have E:∀b o,m0 b=some o->mm b=some o:=λb o d=>by
  grind
 have hM:aJ ⟨w,λb=>m0 b≠none,h0,[]⟩ (λ_=>.slice none 0 0) (YX σ es m0 h0) {tmps:=ts,defers:=[]} w:=by
  refine aJ.blank' ?_ rfl ?_
  .show DenS _ (Si (σ.sl.map P2) es) ts.toList;rw[b1];exact Ni a6 (Fl b5)
  .exact⟨rfl,rfl,rfl,Nat.le_refl _,Nat.le_refl _,λ_ _ _=>rfl,hH.hsat,λb o d=>hH.msat b o (E b o d),λb o d=>hH.disj b o (E b o d),λ_ _ _ e=>e,λ_ _ _=>rfl,λb o d=>.inr cg⟩
 refine wpIn_mono (Px l A x hx _ _ _ _ _ hM hV) ?_;intro ex a1 V F;cases ex with
 |normal=>
  obtain⟨ι1,τ,G,b9⟩:=F;have j:=G.wrel;have c':¬(λb=>m0 b≠none) l:=λe=>e b6;have a':V.heap[l]? =some (.loop (Ax fn tmps ps x y D .ready)):=by rw[j.frame l b8 c'];exact hl
  have X:=(Array.getElem?_eq_some_iff.1 a').1
  have L:¬O3 ι1 τ l:=λhm=>by
   rcases(G.mine hm).1 with n|n
   .grind
   grind
  refine⟨_,run_beginRound a' rfl,?_⟩;obtain⟨f,H⟩:∃f,V.putObj l (.loop {Ax fn tmps ps x y D .ready with state:=.busy})=f:=⟨_,rfl⟩
  have a0:=(G.rebase.putD (.loop {Ax fn tmps ps x y D .ready with state:=.busy}) a' rfl X L).rebase;rw[H]at a0⊢
  have c5:a1.defers=[]:=G.defers;have a0:aJ (reB ι1 τ [] f) ι1 τ a1 f:=cg
  have c0:∀b,b≠l->f.heap[b]? =V.heap[b]? :=λb d=>by rw[<-H];exact World.putObj_heap_other (λe=>d e)
  have s2:f.heap.size=V.heap.size:=by rw[<-H];simp
  have c1:f.heap[l]? =some (.loop {Ax fn tmps ps x y D .ready with state:=.busy}):=by rw[<-H];exact World.putObj_heap_same X
  refine wpIn_mono (Px l A y hy _ _ _ _ _ a0 b9) ?_;intro ex a2 I F;cases ex with
  |normal=>
   obtain⟨ι2,υ,c2,hR⟩:=F;have c:=c2.wrel;have W:I.heap[l]? =some (.loop {Ax fn tmps ps x y D .ready with state:=.busy}):=by rw[c.frame l (by show l<f.heap.size;omega) L];exact c1
   have b2:=(Array.getElem?_eq_some_iff.1 W).1
   have M:∀b,b<w.heap.size->mm b=none->¬O3 ι1 τ b:=λb d hn hm=>by
    rcases(G.mine hm).1 with n|n
    .grind
    grind
   have c3:υ.m l=none:=by
    cases e:υ.m l with
    |none=>rfl
    |some o=>
     rcases c.mfr l o e with n|n
     .have n:f.heap.size<=l:=n;omega
     .exact(L n).elim
   obtain⟨O,Q⟩:∃O,I.putObj l (.loop (Ax fn tmps ps x y D .ready))=O:=⟨_,rfl⟩
   have a3:∀b,b≠l->O.heap[b]? =I.heap[b]? :=λb d=>by rw[<-Q];exact World.putObj_heap_other (λe=>d e)
   have c6:O.heap[l]? =some (.loop (Ax fn tmps ps x y D .ready)):=by rw[<-Q];exact World.putObj_heap_same b2
   have T:=run_endRound (P:=C.P) none W;have T:(Instr.endRound l none).run C.P I= .ok (.bool true) O:=by rw[T, <-Q];rfl
   have Y:PH.le h0 τ.h:=⟨λb i v e=>j.hle b i v e⟩
   have Z:PH.le τ.h υ.h:=⟨λb i v e=>c.hle b i v e⟩
   refine⟨_,_,T,true,λb=>if b=l then some (.loop (Ax fn tmps ps x y D .ready))else υ.m b,υ.h,rfl,⟨rfl,⟨λb i v e=>Z.le _ _ _ (Y.le _ _ _ e)⟩,υ.m,c3,λb d=>by simp[d],bx,hR⟩,?_⟩;have t4:O.tape=I.tape/\O.os=I.os/\O.output=I.output/\O.heap.size=I.heap.size:=by rw[<-Q];exact⟨rfl,rfl,rfl,bx⟩
   have t2:f.tape=V.tape/\f.os=V.os/\f.output=V.output:=by rw[<-H];exact⟨rfl,rfl,rfl⟩
   have b3:w.heap.size<=V.heap.size:=j.size;have b4:f.heap.size<=I.heap.size:=c.size;refine⟨?_,?_,?_,?_,?_,?_,⟨?_,?_,?_⟩,⟨λb i v e=>Z.le _ _ _ (Y.le _ _ _ e)⟩,?_,?_⟩
   .rw[t4.1,c.tape];show f.tape=_;rw[t2.1];exact j.tape
   .rw[t4.2.1,c.os];show f.os=_;rw[t2.2.1];exact j.os
   .rw[t4.2.2.1,c.output];show f.output=_;rw[t2.2.2];exact j.output
   .have d4:O.drawn=I.drawn:=by rw[<-Q];rfl
    have d3:f.drawn<=I.drawn:=c.drawn;have d2:f.drawn=V.drawn:=by rw[<-H];rfl
    have d1:w.drawn<=V.drawn:=j.drawn;omega
   .omega
   .intro b d hn;have U:b≠l:=λe=>cg
    rw[a3 b U,c.frame b (by show b<f.heap.size;omega) (M b d hn)];show f.heap[b]? =_;rw[c0 b U];exact j.frame b d (λe=>e cg)
   .intro b i v hv;have a4:=c.hsat b i v hv;have U:b≠l:=λe=>by rw[e,NB W]at a4;cases a4
    rw[World.cell?_of_block (w:=I) (w':=O) (a:=⟨b,i,none⟩) (a3 b U)];exact a4
   .intro b o d;have z:(if b=l then some (Obj.loop (Ax fn tmps ps x y D .ready))else υ.m b)=some o:=d;clear d;split at z
    .grind
    .rename_i e;rw[a3 b e];exact c.msat b o z
   .intro b o d i;have z:(if b=l then some (Obj.loop (Ax fn tmps ps x y D .ready))else υ.m b)=some o:=d;clear d;split at z
    .rename_i e;subst e;cases e2:υ.h b i with
     |none=>rfl
     |some v=>have:=c.hsat b i v e2;rw[NB W]at this;cases this
    .exact c.disj b o z i
   .intro b d hn;have n:υ.h b=τ.h b:=c.hold b (by show b<f.heap.size;omega) (M b d hn);rw[n];have U:b≠l:=λe=>cg
    exact j.hold b d (λe=>e cg)
   .intro b o d;have z:(if b=l then some (Obj.loop (Ax fn tmps ps x y D .ready))else υ.m b)=some o:=d;clear d;split at z
    .grind
    .rename_i e;rcases c.mfr b o z with n|n
     .have n:f.heap.size<=b:=n;omega
     .rcases(G.mine n).1 with h2|h2
      .grind
      grind
  |ret=>obtain⟨_,_,_,h⟩:=F;grind
  |exit id=>obtain⟨_,_,_,h⟩:=F;grind
  |goto t=>exact F.elim
  |panic ch=>exact F.elim
  |outgrown=>exact F.elim
 |ret=>obtain⟨_,_,_,h⟩:=F;grind
 |exit id=>obtain⟨_,_,_,h⟩:=F;grind
 |goto t=>exact F.elim
 |panic ch=>exact F.elim
 |outgrown=>exact F.elim
theorem OS(w:World)(o:Obj){b:Nat}(h:b<w.heap.size):(w.alloc o).heap[b]? =w.heap[b]? :=by
 exact Go.RowKit.Below.heap_alloc _ _ _ h
theorem VR(w:World)(o:Obj):(w.alloc o).heap[w.heap.size]? =some o:=World.alloc_heap_new w o
theorem YP(w:World):∀l:dj,CG w (l.map .val) l
 |[]=>trivial
 |_::l=>⟨rfl,YP w l⟩
theorem Na(l:dj)(i:Nat)(c:CV)(u:Value)(b:Nat)(d:(l.map CV.val)[i]? =some c)(f:gK c u=some b):False:=by
 rw[getElem?_map]at d;cases e:l[i]? with
 |none=>grind
 |some v=>rw[e]at d;simp at d;subst d;simp[gK]at f
theorem P4(X:∀g S,assoc C.specs g=some S->Sound C.P g S){ds:eh}(U:MM B ds ι σ a w){f:Operand}{ps:Array Tmp}{x y:Code}{Q:zO->St->Prop}{g:FuncId}{cs:Array Value}(c8:σ.ev f= .at (.val (.func (.func g) #[] cs)))(hx:sN x=true)(hy:sN y=true)
 {Src:PH->dj->List dj->Prop}(b6:HP C.P g Src){xs:List dj}(b7:Src σ.h cs.toList xs){I:Nat->MH->PH->Prop}(h0:I 0 σ.m σ.h)
 (Y:∀(k:Nat)(vs:dj)(m:MH)(h:PH),xs[k]? =some vs->PH.le σ.h h->I k m h->∃es:fh,ps.toList=es.map (·.1)/\DenS (λ_=>.slice none 0 0) (es.map (·.2)) vs/\Mb C x y σ es m h (I (k+1)))
 (b8:∀(m:MH)(h:PH),PH.le σ.h h->I xs.length m h->Q .normal (blank σ m h)):(Code.rangeFunc f ps x y).wp C.P (QM B Q) a w:=by
  obtain⟨a3⟩:=b6;have L:=U.mod.wrel
  have b9:a.eval f= .func (.func g) #[] cs:=by
   have:=U.mod.ev f;rw[c8]at this;exact this
  refine(wpIn_wide (n:=0)).1 (wpIn_rangeFunc ?_);intro fn e4;obtain⟨l,hl⟩:∃l,l=w.heap.size+1:=⟨_,rfl⟩
  obtain⟨D,hD⟩:∃D,D=w.heap.size:=⟨_,rfl⟩
  obtain⟨W1,G⟩:∃W1,(w.alloc (.deferred (some []))).alloc (.loop (Ax fn a.tmps ps x y D .ready))=W1:=⟨_,rfl⟩
  have s1:W1.heap.size=w.heap.size+2:=by rw[<-G];simp
  have a9:∀b,b<w.heap.size->W1.heap[b]? =w.heap[b]? :=λb t=>by
   rw[<-G,OS _ _ ce,OS _ _ t]
  have c':W1.heap[D]? =some (.deferred (some [])):=by
   rw[<-G,hD,OS _ _ bx];exact VR w _
  have e3:W1.heap[l]? =some (.loop (Ax fn a.tmps ps x y D .ready)):=by
   rw[<-G,hl];have:=VR (w.alloc (.deferred (some []))) (.loop (Ax fn a.tmps ps x y D .ready))
   rwa [World.size_alloc]at this
  have c9:∀b o,σ.m b=some o->b<w.heap.size:=λb o t=>(Array.getElem?_eq_some_iff.1 (L.msat b o t)).1;have b':∀b i v,σ.h b i=some v->b<w.heap.size:=λb i v hv=>World.block_lt_of_cell? w ⟨b,i,none⟩ (L.hsat b i v hv)
  let m1:MH:=λb=>if b=l then some (.loop (Ax fn a.tmps ps x y D .ready))else σ.m b
  have d':m1 l=some (.loop (Ax fn a.tmps ps x y D .ready)):=by simp[m1]
  have b0:∀b,b≠l->m1 b=σ.m b:=λb t=>if_neg t
  have d0:σ.m l=none:=by
   cases e:σ.m l with
   |none=>rfl
   |some o=>grind
  have c0:zD W1 m1 σ.h (.val (.func (.yield l) #[] #[])::cs.toList.map .val) (.func (.yield l) #[] #[]::cs.toList):=by
   refine⟨⟨rfl,YP _ _⟩,?_,?_,?_,λi j c d u v b hi _ _ _ t _=>(Na (.func (.yield l) #[] #[]::cs.toList) i c u b hi t).elim,λi c u b hi _ t=>(Na (.func (.yield l) #[] #[]::cs.toList) i c u b hi t).elim⟩
   .intro b i v hv;rw[World.cell?_of_block (w:=w) (w':=W1) (a:=⟨b,i,none⟩) (a9 b (b' b i v hv))];exact L.hsat b i v hv
   .intro b o t;by_cases e:b=l
    .grind
    .rw[b0 b e]at t;rw[a9 b (c9 b o t)];exact L.msat b o t
   .intro b o t i;by_cases e:b=l
    .subst e;cases e2:σ.h b i with
     |none=>rfl
     |some v=>grind
    .rw[b0 b e]at t;exact L.disj b o t i
  have z:∀b,m1 b=none->¬sI m1 (.val (.func (.yield l) #[] #[])::cs.toList.map .val) (.func (.yield l) #[] #[]::cs.toList) b:=by
   rintro b t (H|⟨i,c,u,hi,hu,hc⟩)
   .grind
   .exact Na (.func (.yield l) #[] #[]::cs.toList) i c u b hi hc
  let J:Nat->MH->PH->Prop:=λk mm Z=>PH.le σ.h Z/\∃T,T l=none/\(∀b,b≠l->mm b=T b)/\mm l=some (.loop (Ax fn a.tmps ps x y D .ready))/\I k T Z
  have b1:=a3.2 (.val (.func (.yield l) #[] #[])::cs.toList.map .val) (.func (.yield l) #[] #[]::cs.toList) m1 σ.h W1 (λ_ mm Z=>J xs.length mm Z)
   ⟨l,cs.toList,xs,J,rfl,b7,⟨⟨λ_ _ _ e=>e⟩,σ.m,d0,b0,d',h0⟩,?_,λ_ _ _ _ hJ=>hJ⟩ c0
  .have b2:(Instr.enterLoop fn a.tmps ps x y Fence.wide.round).run C.P w= .ok (l,[Bs D]) W1:=by
    subst hD hl;rw[<-G];exact run_enterLoop_outer _ _ _ _ _
   refine⟨l,[Bs D],W1,{target:=.fn (.func g) cs,args:= #[.func (.yield l) #[] #[]]},W1,g,(.func (.yield l) #[] #[]::cs.toList).toArray,W1,b2,?_,λ_ _=>trivial,?_,λe=>by simp[Fence.wide]at e,callsIn_wide.2 ?_⟩
   .simp only[resolve,rangeCall,b9];simp[go_sem]
   .obtain⟨gf,hf,c1,c2⟩:=a3.1;have c1:¬gf.body=none:=cg
    have c2:¬gf.name= "runtime.NumGoroutine" :=cg
    simp only[invoke,callFunc];simp[program,Sem.run,hf,c2,c1]
   refine b1.mono ?_;rintro e V ⟨r,u,mm,Z,rfl,⟨a',T,a4,c3,b3,hI⟩,b6,A,_⟩;have c4:=A.msat l _ b3;refine⟨_,_,run_endLoop c4 (by simp[Ax]),?_⟩;obtain⟨W,a0⟩:∃W,V.putObj l (.loop {Ax fn a.tmps ps x y D .ready with state:=.exhausted})=W:=⟨_,rfl⟩
   rw[a0];have a1:∀b,b≠l->W.heap[b]? =V.heap[b]? :=λb t=>by rw[<-a0];exact World.putObj_heap_other (λe=>t e)
   have t4:W.tape=V.tape/\W.os=V.os/\W.output=V.output/\W.heap.size=V.heap.size:=by rw[<-a0];exact⟨rfl,rfl,rfl,bx⟩
   have t1:W1.tape=w.tape/\W1.os=w.os/\W1.output=w.output:=by rw[<-G];exact⟨rfl,rfl,rfl⟩
   have c7:W1.heap.size<=V.heap.size:=A.size
   have a5:∀b,b<w.heap.size->σ.m b=none->W.heap[b]? =w.heap[b]? :=λb t hn=>by
    have M:b≠l:=by omega
    rw[a1 b M,A.frame b cg (z b cg),a9 b t]
   have F:∀b o,T b=some o->mm b=some o/\b≠l:=λb o t=>by
    grind
   have d5:∀b o,T b=some o->W1.heap.size<=b\/∃o',σ.m b=some o':=λb o t=>by
    obtain⟨H,M⟩:=F b o t;rcases A.mfr b o H with h2|h2
    .grind
    .refine .inr ?_;cases e:σ.m b with
     |some o'=>grind
     |none=>grind
   have hB:B.w0.heap.size<=w.heap.size:=L.size
   have mB:∀b,b<B.w0.heap.size->¬B.E b->σ.m b=none:=λb t hn=>by
    cases e:σ.m b with
    |none=>rfl
    |some o=>
     rcases L.mfr b o e with H|H
     .grind
     grind
   have O:∀D',D'∈ds->D'<w.heap.size/\σ.m D'=none:=λD' R=>by
    refine⟨(Array.getElem?_eq_some_iff.1 (U.mark D' R)).1,?_⟩;cases e:σ.m D' with
    |none=>rfl
    |some o=>exact(U.mine D' R (.inl cg)).elim
   have c5:∀b,¬(W1.heap.size<=b)->σ.m b=none->¬O3 (λ_=>.slice none 0 0) (blank σ T Z) b:=by
    rintro b H h2 (h3|⟨k,o,hk,_⟩)
    .cases e:T b with
     |none=>exact h3 e
     |some o=>
      grind
    .exact FQ _ _ _ hk
   have e5:σ.m D=none:=by
    cases e:σ.m D with
    |none=>rfl
    |some o=>grind
   refine⟨D::ds,λ_=>.slice none 0 0,blank σ T Z,⟨?_,?_,?_,?_,?_⟩,b8 T Z a' hI⟩
   .refine aJ.blank' (Fl U.mod.slots) ?_ ⟨?_,?_,?_,?_,?_,?_,?_,?_,?_,?_,?_,?_⟩
    .show[Bs D]++a.defers=_;rw[U.mod.defers];rfl
    .rw[t4.1,A.tape];show W1.tape=_;rw[t1.1];exact L.tape
    .rw[t4.2.1,A.os];show W1.os=_;rw[t1.2.1];exact L.os
    .rw[t4.2.2.1,A.output];show W1.output=_;rw[t1.2.2];exact L.output
    .have d4:W.drawn=V.drawn:=by rw[<-a0];rfl
     have d3:W1.drawn<=V.drawn:=A.drawn;have d2:W1.drawn=w.drawn:=by rw[<-G];rfl
     have d1:B.w0.drawn<=w.drawn:=L.drawn
     grind
    .grind
    .intro b t a2;have t:b<B.w0.heap.size:=t;rw[a5 b aC (mB b t a2)];exact L.frame b t a2
    .intro b i v hv;have b4:=A.hsat b i v hv;have M:b≠l:=λe=>by rw[e,NB c4]at b4;cases b4
     rw[World.cell?_of_block (w:=V) (w':=W) (a:=⟨b,i,none⟩) (a1 b M)];exact b4
    .intro b o t;obtain⟨H,M⟩:=F b o t;rw[a1 b M];exact A.msat b o H
    .intro b o t i;exact A.disj b o (F b o t).1 i
    .intro b i v hv;exact a'.le _ _ _ (L.hle b i v hv)
    .intro b t a2;have t:b<B.w0.heap.size:=t;have H:Z b=σ.h b:=A.hold b cg (z b cg);rw[H];exact L.hold b t a2
    grind
   .intro D' R;rcases mem_cons.1 R with rfl|H
    .omega
    .exact U.size D' H
   .grind
   .intro D' R;rcases mem_cons.1 R with rfl|H
    .rw[a1 D' aC,A.frame D' cg (z D' cg)];exact c'
    .obtain⟨h2,h3⟩:=O D' H;rw[a5 D' h2 h3];exact U.mark D' H
   .refine nodup_cons.2 ⟨λH=>?_,U.nodup⟩
    grind
  .rintro k e m' h' hk a' ⟨c6,T,a4,c3,b3,hI⟩;refine⟨λw5 hH=>?_⟩;obtain⟨es,d6,d7,hV⟩:=Y k e T h' hk a' hI;obtain⟨d8,b5,d9,e',e0,hR⟩:=TW X (σ:=σ) (ι:=ι) hx hy U.mod.slots d6 d7 a4 c3 b3 hV w5 hH;refine⟨d8,b5,d9,e',e0,hR.mono ?_⟩;rintro ex w6 ⟨u,m6,h6,rfl,⟨rfl,a6,m7,q1,q2,q3,q4⟩,e1⟩;exact⟨_,m6,h6,rfl,⟨rfl,a6,⟨λ_ _ _ e=>a6.le _ _ _ (c6.le _ _ _ e)⟩,m7,q1,q2,q3,q4⟩,e1⟩
theorem WB(j:∀g S,assoc C.specs g=some S->Sound C.P g S){ds:eh}(J:MM B ds ι σ a w){f:Operand}{ps:Array Tmp}{x y:Code}{Q:zO->St->Prop}(h:WC C f ps x y σ (Q .normal)):(Code.rangeFunc f ps x y).wp C.P (QM B Q) a w:=by
 unfold WC at h;split at h
 .rename_i g O X D F;obtain⟨L,M⟩:=Bool.and_eq_true_iff.1 F;split at h
  .rename_i R;obtain rfl:O= #[]:=Array.toList_inj.1 aC;split at h
   .rename_i p T G V;obtain⟨Src,xs,I,A,n,H,c,t⟩:=h;refine P4 j J D L M A n H (λk W m h u d E=>?_) (λm h d E=>t m h d cg);rw[getElem?_map]at u;cases e:xs[k]? with
    |none=>grind
    |some z=>
     rw[e]at u;simp only[Option.map_some,cw]at u;subst u;exact⟨[(p,mk C.P T (((C.dec T).enc z).map .val))],cg,⟨Sv,trivial⟩,c k z m h e d E⟩
   .rename_i p q T U G V;obtain⟨Src,xs,I,A,n,H,c,t⟩:=h;refine P4 j J D L M A n H (λk W m h u d E=>?_) (λm h d E=>t m h d cg);rw[getElem?_map]at u;cases e:xs[k]? with
    |none=>grind
    |some z=>
     rw[e]at u;simp only[Option.map_some,cw]at u;subst u;exact⟨[(p,mk C.P T (((C.dec T).enc z.1).map .val)),(q,mk C.P U (((C.dec U).enc z.2).map .val))],cg,⟨Sv,Sv,trivial⟩,c k z.1 z.2 m h e d E⟩
   grind
  grind
 grind
theorem Z9(d:∀g S,assoc C.specs g=some S->Sound C.P g S):∀(c:Code)(σ:St)(Q:zO->St->Prop)(ds:eh)(ι:dv)(a:Act)(w:World),MM B ds ι σ a w->VCF C c σ Q->c.wp C.P (QM B Q) a w:=by
 intro c
 induction c with
 |rangeFunc f ps x y _ _=>intro σ Q ds ι a w n h;exact WB d n h
 |seq x y D E=>
  intro σ Q ds ι a w n h;simp only[VCF]at h;split at h
  .exact BK d n h
  .split at h
   .obtain⟨I,h,F⟩:=h;refine wp_seq (wp_mono (D σ _ ds ι a w n h) ?_);intro e J L j;cases e with
    |normal=>
     obtain⟨z,G,H,u,V⟩:=j;obtain⟨W,X,M,O⟩:=zF u.here V;exact E _ Q z X J L (u.retag O) (F W M)
    |exit id=>exact j
    |ret=>exact j
    |goto l=>exact j
    |panic U=>exact j
    |outgrown=>exact j
   .refine wp_seq (wp_mono (D σ _ ds ι a w n h) ?_);intro e J L j;cases e with
    |normal=>
     obtain⟨z,G,H,u,h'⟩:=j;exact E H Q z G J L u h'
    |exit id=>exact j
    |ret=>exact j
    |goto l=>exact j
    |panic U=>exact j
    |outgrown=>exact j
 |cond c x y D E=>
  intro σ Q ds ι a w n h;simp only[VCF]at h;split at h
  .exact BK d n h
  .split at h
   .rename_i t R;have A:=n.mod.ev c;rw[R]at A;have A:a.eval c= .bool t:=A;rcases sE h with⟨rfl,h⟩|⟨rfl,h⟩
    .exact wp_cond_true A (D _ Q ds ι a w (n.retag (n.here.setTmp R)) h)
    .exact wp_cond_false A (E _ Q ds ι a w (n.retag (n.here.setTmp R)) h)
   grind
 |block id c Y=>
  intro σ Q ds ι a w n h;simp only[VCF]at h;split at h
  .exact BK d n h
  .refine wp_block (wp_mono (Y σ _ ds ι a w n h) ?_);intro e J L j;cases e with
   |normal=>exact j
   |exit i=>
    obtain⟨z,G,H,u,h'⟩:=j;show if i=id then _ else _
    simp only at h';split at h'
    .rename_i T;rw[if_pos (da T)];exact⟨z,G,H,u,h'⟩
    .rename_i T;rw[if_neg (λe=>by subst e;simp at T)];exact⟨z,G,H,u,h'⟩
   |ret=>exact j
   |goto l=>exact j
   |panic U=>exact j
   |outgrown=>exact j
 |_=>intro σ Q ds ι a w n h;exact BK d n h
theorem Nq(e:aJ B ι σ a w):∀{l:List ResultVar}{K:dj->Prop},bgX C σ l K->∃vs,(l.mapM (Km a.tmps)).run C.P w= .ok vs w/\K vs
 |[],K,h=>⟨[],bx,h⟩
 |.tmp t::r,K,h=>h.elim
 |.cell t T::r,K,h=>by
  simp only[bgX]at h;split at h
  .rename_i b off n u;obtain⟨y,f,h⟩:=h;split at h
   .rename_i c;have c:=da c;split at h
    .rename_i v z;obtain⟨vs,A,D⟩:=Nq e h;have d:=e.ev (.tmp t);have E:σ.ev (.tmp t)= .at (.val (.pointer (some ⟨b,off,none⟩))):=by simp only[St.ev,n]
     rw[E]at d;have g:a.tmps.getD t undef= .pointer (some ⟨b,off,none⟩):=d;have F:=zE (w:=w) (b:=b) (off:=off) (cs:=(C.dec T).enc y) u c (Db e.wrel f);have G:=HE (P:=C.P) (T:=T) (ι:=ι) (ats:=((C.dec T).enc y).map .val) (cs:=(C.dec T).enc y) (by rw[iK.vals]);have j:=G.val? z;refine⟨v::vs,?_,D⟩;simp only[mapM_cons,Km,g,asAddr,Sem.run_bind,Sem.run_pure,Result.andThen_ok,F,A,j]
    grind
   grind
  grind
theorem We(d:aJ B ι σ a w){fn:Func}{K:dk}(h:JX C fn K σ):
 ∃u,(results fn a.tmps).run C.P w= .ok u w/\∃r m' h',K r m' h'/\C5 w r u/\vN B m' h' w/\∀b,gK r u=some b->(B.w0.heap.size<=b\/B.E b)/\m' b=none/\∀i,h' b i=none:=by
 unfold JX at h;split at h
 .exact FO d h
 .obtain⟨c,f,g⟩:=Nq d h
  have n:(results fn a.tmps).run C.P w= .ok (if h:c.toArray.size=1 then c.toArray[0]else .tuple c.toArray) w:=by
   rw[Np,Array.mapM_eq_mapM_toList];simp[f]
  split at g
  .rename_i v;exact⟨v,cg,.val v,σ.m,σ.h,g,rfl,d.wrel,λb j=>by simp[gK]at j⟩
  .rename_i t
   have y:c.length≠1:=λe=>by
    match c,e with
    |[v],_=>grind
   exact⟨.tuple c.toArray,cg,.tup (c.map .val),σ.m,σ.h,g,⟨c.toArray,rfl,bx⟩,d.wrel,λb j=>by simp[gK]at j⟩
theorem LA{F:Fence}{n:Nat}{R:Ending->World->Prop}{fn:Func}{Kc:dk}(g:JX C fn Kc σ)
 (y:∀u w',(∃r m' h',Kc r m' h'/\C5 w' r u/\vN B m' h' w'/\∀b,gK r u=some b->(B.w0.heap.size<=b\/B.E b)/\m' b=none/\∀i,h' b i=none)->R (.returned u) w'):
 ∀(ds:eh)(a:Act)(w:World),MM B ds ι σ a w->LeavesInM F n C.P fn a.tmps R (ds.map Bs) .returning w
 |[],a,w,f=>by
  obtain⟨u,A,r,m',h',G,t,d,H⟩:=We f.mod g;refine⟨u,A,y u w ⟨r,m',h',G,t,⟨d.tape,d.os,d.output,d.drawn,d.size,d.frame,d.hsat,d.msat,d.disj,d.hle,d.hold,d.mfr⟩,H⟩⟩
 |D::ds,a,w,f=>by
  have z:=f.mark D (mem_cons_self ..);refine⟨bx,.inl ⟨D,_,rfl,run_takeDeferred z,LA g y ds {a with defers:=ds.map Bs} _ ?_⟩⟩;have I:w.grownBy (w.putObj D (.deferred none)) (some D):=grownBy_putObj' w D _
  have c:=f.mod.grown I (Nat.le_refl _) (λr e=>by
   cases e;exact⟨f.size D (mem_cons_self ..),f.mine D (mem_cons_self ..),_,z,rfl⟩)
  have j:=nodup_cons.1 f.nodup;refine⟨⟨c.slots,?_,c.own,c.dist,c.fresh,⟨c.wrel.tape,c.wrel.os,c.wrel.output,c.wrel.drawn,c.wrel.size,c.wrel.frame,c.wrel.hsat,c.wrel.msat,c.wrel.disj,c.wrel.hle,c.wrel.hold,c.wrel.mfr⟩,c.one⟩,λD' h=>f.size D' (mem_cons_of_mem _ h),λD' h=>f.mine D' (mem_cons_of_mem _ h),λD' h=>?_,j.2⟩
  .rfl
  .rw[World.putObj_heap_other (fun(e:D'=D)=>j.1 cg)];exact f.mark D' (mem_cons_of_mem _ h)
theorem P8{P:Program}{f:FuncId}{fn:Func}{c:Code}(I:P.funcs[f]? =some fn)(L:fn.body=some c)(t:(fn.name== "runtime.NumGoroutine")=false){S:Spec}
 (F:∀d m h K,S d m h K->∃C:Ctx,C.P=P/\(∀g S,assoc C.specs g=some S->Sound P g S)/\Zd C fn c (entry fn.ntmps d m h) K):Sound P f S:=by
 refine⟨⟨fn,I,cg,t⟩,?_⟩;intro d y m h w K M O;obtain⟨C,rfl,j,Q⟩:=F d m h K M;refine callsIn_wide.1 (callsIn_of_wp_marks (n:=0) I L trivial (wpIn_wide.2 ?_))
 have G:MM ⟨w,sI m d y,h,[]⟩ [] (LD fn.ntmps d y) (entry fn.ntmps d m h) {tmps:=y.toArray++Array.replicate (fn.ntmps-y.toArray.size) undef,defers:=[]} w:=
  ⟨Ei fn.ntmps O,λ_ D=>(not_mem_nil D).elim,λ_ D=>(not_mem_nil D).elim,λ_ D=>(not_mem_nil D).elim,nodup_nil⟩
 refine wp_mono (Z9 j c _ _ _ _ _ w G Q) ?_;intro e E z A
 have key:(∃H ι σ,MM ⟨w,sI m d y,h,[]⟩ H ι σ E z/\JX C fn K σ)->LeavesInM Fence.wide 0 C.P fn E.tmps (λe z=>∃r u m' h',e= .returned u/\K r m' h'/\C5 z r u/\vN ⟨w,sI m d y,h,[]⟩ m' h' z/\
  (∀b,gK r u=some b->(w.heap.size<=b\/sI m d y b)/\m' b=none/\∀i,h' b i=none)) E.defers .returning z:=by
  rintro⟨H,ι,σ,J,R⟩;rw[J.mod.defers];exact LA R (λu T⟨r,m',h',U,V,W,X⟩=>⟨r,u,m',h',rfl,U,V,W,X⟩) H E z J
 cases e with
 |normal=>exact key A
 |ret=>exact key A
 |exit id=>obtain⟨_,_,_,_,h⟩:=A;grind
 |goto l=>exact A.elim
 |panic Y=>exact A.elim
 |outgrown=>exact A.elim
theorem WE{P:Program}{f:FuncId}{fn:Func}{c:Code}(j:P.funcs[f]? =some fn)(n:fn.body=some c)(e:(fn.name== "runtime.NumGoroutine")=false){S:Spec}
 (t:∀d m h K,S d m h K->∃C:Ctx,C.P=P/\(∀g S,assoc C.specs g=some S->Sound P g S)/\Zd C fn c (entry fn.ntmps d m h) (eX h K)):Sound P f S:=
 .strong (P8 j n e (S:=λd m h K=>∃K',S d m h K'/\K=eX h K') (by
  grind))
end
end Go.Vc
namespace Go.Ps
open Go Go.Vc Go.Proofs List Tryz
variable{K:dk}{m:MH}{h:PH}{s:oL}{ps:dm}{cb:Nat}{sc:bW}{v:QV}{q:Query}{p:Pred}{l:dm}{i:Nat}{N:Nat}{m':MH}{h':PH}{co:dm}{gr:dm}{od:dr}{w:Pred}{ta:Int}{li:Int}{xs:List dj}{sz:Nat}{ks:List dm}{rs:dm}{r:Sl}{a:dm}{b:Nat}
def Pf(b:Nat):Value:=.func (.func 233) #[] #[.pointer (some ⟨b,0,none⟩)]
structure G7(h:PH)(b:Nat)(us:dq):Prop where
 ex:∃s:Sl,bB h b 0 [s.val]/\bN h s 1 (us.map eS)/\us.length<=502633886983
theorem G7.mono{us:dq}(x:G7 h b us)(le:PH.le h h'):G7 h' b us:=by
 obtain⟨s,c,d,e⟩:=x.ex;exact⟨s,c.mono le,d.mono le,e⟩
def xW:PH->dj->List dj->Prop:=λh c xs=>∃b d,c=[.pointer (some ⟨b,0,none⟩)]/\G7 h b d/\xs=d.map eS
noncomputable def SS(specs:List (Nat×Vc.Spec))(loops:em)(cuts:em)(heapT:fe):Ctx:={vM specs loops cuts [] heapT [] false with elemT:=[94]}
def RQ:Vc.Spec:=λc m h K=>∃s,c=[cS s]/\∀b h',PH.le h h'->bB h' b 0 [s.val]->K (.val (Pf b)) m h'
def Tt:Vc.Spec:=λc m h K=>∃s b d f,c=[cS s,.val (Pf b)]/\cM m s 94 1 (d.map eS)/\G7 h b f/\d.length<=502633886983/\
 ∀e m',cM m' e 94 1 ((d++f).map eS)->(∀x o,m x=some o->(∀i,s.a≠some ⟨x,i,none⟩)->m' x=some o)->(∀x i,e.a=some ⟨x,i,none⟩->m x=none\/∃i,s.a=some ⟨x,i,none⟩)->K (cS e) m' h
def V4:Vc.Spec:=λc m h K=>∃b e,c=[.val (Pf b)]/\G7 h b e/\
 ∀d m',cM m' d 94 1 (e.map eS)->(∀x o,m x=some o->m' x=some o)->(∀x i,d.a=some ⟨x,i,none⟩->m x=none)->K (cS d) m' h
noncomputable def aNQ(b:Nat)(l:Nat)(s:Sl):Ctx:=
 {dG [] [(1,{A:=Nat×MH×PH,st:=λ⟨i,m,h⟩=>bK 16 18 [(0,vv (.func (.yield l) #[] #[])),(1,vv (.pointer (some ⟨b,0,none⟩))),(5,sv s),(6,iv s.len),(7,iv i)] [] m h})] [] [] false with yield:=some (a3X Tryz.prog)}
noncomputable abbrev rD(a:Nat):CV:=CV.val (Value.func (Fn.func 233) vG (Dm a))
attribute [push_cast] rD
def KM(s:Sl)(m:MH)(h:PH)(K:dk):Prop:=
  ∀(b:Nat)(c:MH),aT (dZ m h b) (bL m c b (aM s) 53) (K (rD b) c h)
noncomputable abbrev dO(a:Nat×MH×PH):Nat->Nat->Option Value:=a.2.2
noncomputable abbrev fV(a:Nat×MH×PH):Nat->Option Obj:=a.2.1
attribute [push_cast] dO fV
def QC(b l:Nat)(s:Sl)(m:MH)(h:PH)(K:dk):Prop:=
  kW m h b 0 (λy=>∃(I:Nat×MH×PH->Prop)(f:Nat×MH×PH->Nat),(∃(x:Nat×MH×PH),aA (I x) (D2 l) (aA (dN b) (bF y s) (aA (dA y s) (aY x.1) (aA (cW m x.2) (h=dO x) True))))/\∀(x:Nat×MH×PH),I x->aR (↑x.1:Int) (aH s) (cK s.a (↑x.1:Int) s (λn o g=>aA (aK (fV x) (dO x) n (bC o x.1 1) (aM g)) (MQ (a3X Proofs.Tryz.prog)) (∃(j:Nat)(v:dj)(R:Bool->MH->PH->Prop),aA (bJ (B8 l) (fD g)=B8 j::List.map CV.val v) (YDo Proofs.Tryz.prog j v (fV x) (dO x) R) (∀(u:Bool),gU (λd e=>hU (R u d e) (!u) (K (CV.tup []) d e) (∃(c:Nat×MH×PH),aA (I c) (f c<f x) (aA (D2 l) (dN b) (aA (aG s) (a7 s) (aA (aU (aW x.1 1) c.1) (cW d c.2) (bH e (dO c))))))))))) (K (CV.tup
 []) (fV x) (dO x)))
abbrev tZ(a:PH->dj->List dj->Prop)(b:Nat->Nat->Option Value)(c:Nat)(d:MH)(e:(Nat->MH->PH->Prop)->Nat->Sl->MH->PH->Prop)(g:MH->PH->Prop):Prop:=∃(x:dq)(n:Nat->MH->PH->Prop),aA (HP Proofs.Tryz.prog 233 a) (a b (nT (vQp c 0)) (List.map (fun(f:Sl)=>aM f) x)) (aA (n 0 d b) (∀(f:Nat)(j:Sl),gU (λu t=>aT (x[f]? =Option.some j) (PH.le b t) (e n f j u t))) (gU (λf j=>dD b j (n x.length f j) (g f j))))
abbrev FX(a:MH)(b:PH)(c:Nat)(d:Sl->(List dj)->Prop):Prop:=∃(x:Sl),aK a b c 0 (aM x)/\∃(e:List dj),aA (cM a (bD x) 94 1 e) (iS e) (dH e/\d x e)
attribute [push_cast] tZ FX
def Qr(s:Sl)(b:Nat)(m:MH)(h:PH)(K:dk):Prop:=
  ∀(d:Nat)(n:MH),aT (dZ m h d) (bL m n d (aM s) 53) (∃(S:PH->dj->List dj->Prop),tZ S h b n (λI k e f g=>I k f g->FX f g d (λy x=>fX (λt j=>bV f j (bD y) t 94 1 (dY x (aM e))->gE (λc E=>aA (sK j d (fC c E 0)) (fE 0 c) (∀(u:MH),bL j u d (jC (fF t) 1 c) E->I (cE k) u g))))) (λf g=>kW f g d 0 (λy=>K (fD y) f g)))
def alX(b:Nat)(m:MH)(h:PH)(K:dk):Prop:=
  ∃(s:Sl)(d:Nat)(u v:dq),aA (bJ nK (rD b)=dW s (rD d)) (cM m s 94 1 (j7 u)) (aA (G7 h d v) (ML u) (∀(e:Sl),Iy e 1 (u++v) (λc x o=>aT (m x=Option.some o) (∀(i:Nat),kF (bX s.a x i)) (c x=Option.some o)) (λx=>DX m x\/∃(i:Nat),bX s.a x i) (λc=>K (fD e) c h)))
def kP(h:PH)(b:Nat)(l:dj):PH:=λc i=>if c=b then l[i]? else h c i
theorem Cd{l:dj}(d:∀i,h b i=none):PH.le h (kP h b l):=⟨λc i v e=>by
 have:c≠b:=λf=>cg
 simp only[kP,if_neg this];exact e⟩
theorem Za{l:dj}:bB (kP h b l) b 0 l:=⟨λi v e=>by simp only[kP,if_true,Nat.zero_add];exact e⟩
theorem bkZ{f:FuncId}{fn:Func}(n:Tryz.prog.funcs[f]? =some fn){S:Vc.Spec}(j:∀c m h K,S c m h K->∃C:Ctx,C.P=Tryz.prog/\(∀g S,assoc C.specs g=some S->di g S)/\∃N:Prop,N=Bx C fn (cL fn) (entry fn.ntmps c m h) (eX h K)/\N)(t:fn.body=some (cL fn):=by rfl)(d:(fn.name== "runtime.NumGoroutine")=false:=by decide):di f S:=afJ n t d λc m h K u=>let⟨C,hC,hs,N,e,hn⟩:=j c m h K u;⟨C,hC,hs,e▸hn⟩
theorem XW:di 178 RQ:=by
 refine bkZ func178 ?_;rintro n m h K ⟨s,rfl,t⟩;refine⟨dG [] [] [] [] false,rfl,aF,KM s m h (eX h K),bu,?_⟩;show KM s m h (eX h K);dsimp only[KM,push_cast];intro b m' c g u
 have sub:∀f o,m f=some o->m' f=some o:=λf o d=>by
  rw[g.other f (λe=>by rw[e,c.m_]at d;cases d)];exact d
 refine⟨m,kP h b [s.val],sub,Cd c.h_,λf i v e=>?_,t b _ (Cd c.h_) Za⟩;by_cases j:f=b
 .subst j;simp only[kP,if_true]at e;exact .inr ⟨_,_,_,g.at_,by simpa[Sl.val]using e,c.m_⟩
 .simp only[kP,if_neg j]at e;exact .inl e
theorem Xo:di 233 (baJ Tryz.prog xW):=by
 refine gO func233 ?_;rintro I m h K ⟨l,A,xs,J,rfl,⟨b,j,rfl,d,rfl⟩,L,c,f⟩;obtain⟨s,M,D,U⟩:=d.ex;refine⟨aNQ b l s,rfl,aF,QC b l s m h K,bu,?_⟩;dsimp only[QC,push_cast];have g:=D.len;simp only[length_map]at g;refine⟨s,.imm M,λx=>x.1<=j.length/\PH.le h x.2.2/\J x.1 x.2.1 x.2.2,λx=>j.length-x.1,⟨(0,m,h),⟨bx,.refl _,L⟩,MT⟩,?_⟩;rintro⟨i,E,F⟩ ⟨O,le,G⟩;dsimp only at O le G⊢
 refine aE (λn=>?_) (λP=>f _ E F le cg);obtain⟨u,H⟩:∃u,j[i]? =some u:=⟨_,cq aC⟩
 obtain⟨Q,R,S,T⟩:=D.get (i:=i) (e:=eS u) (by simp[H]);refine⟨Q,R,S,aC,n,u,.imm (T.mono le),M8 _,l,_,_,rfl,c i (eS u) E F (by simp[H]) le G,?_⟩;rintro t m' h' ⟨rfl,y,z⟩;exact⟨(i+1,m',h'),⟨aC,le.trans y,z⟩,aC,MT⟩
theorem wZ:HP Tryz.prog 233 xW:=⟨Xo⟩
theorem b1J{f:FuncId}{fn:Func}(n:Tryz.prog.funcs[f]? =some fn){S:Vc.Spec}(j:∀c m h K,S c m h K->∃C:Ctx,C.P=Tryz.prog/\(∀g S,assoc C.specs g=some S->di g S)/\∃N:Prop,N=Zd C fn (cL fn) (entry fn.ntmps c m h) K/\N)(t:fn.body=some (cL fn):=by rfl)(d:(fn.name== "runtime.NumGoroutine")=false:=by decide):di f S:=P8 n t d λc m h K u=>let⟨C,hC,hs,N,e,hn⟩:=j c m h K u;⟨C,hC,hs,e▸hn⟩
theorem Ol:di 272 Tt:=by
 refine b1J func272 ?_;rintro S m h K ⟨s,b,J,A,rfl,L,P,hl,T⟩;refine⟨SS [] [] [] [200002,1053],rfl,aF,Qr s b m h K,bu,?_⟩;dsimp only[Qr,push_cast];intro t U M Q;have V:A.length<=502633886983:=by obtain⟨_,_,_,E⟩:=P.ex;exact E
 have sub:∀x o,m x=some o->U x=some o/\x≠t:=λx o c=>by
  have:x≠t:=λe=>by rw[e,M.m_]at c;cases c
  exact⟨by rw[Q.other x this];exact c,this⟩
 have O:∀i,s.a≠some ⟨t,i,none⟩:=λi e=>by
  obtain⟨o,W⟩:=cM.blk L e
  grind
 refine⟨xW,A,λk D c=>c=h/\∃f,D t=some (.cells #[.slice f.a f.len f.cap] 53 (0,0))/\cM D f 94 1 ((J++A.take k).map eS)/\(∀i,f.a≠some ⟨t,i,none⟩)/\(∀x o,m x=some o->(∀i,s.a≠some ⟨x,i,none⟩)->D x=some o/\∀i,f.a≠some ⟨x,i,none⟩)/\(∀x i,f.a=some ⟨x,i,none⟩->m x=none\/∃i,s.a=some ⟨x,i,none⟩),
  wZ,⟨b,A,rfl,P,rfl⟩,⟨rfl,s,Q.at_,?_,O,λx o c F=>⟨(sub x o c).1,F⟩,λx i e=>.inr ⟨i,e⟩⟩,?_,?_⟩
 .rw[take_zero,append_nil]
  exact cM.keep L (λx i e=>by
   obtain⟨o,W⟩:=cM.blk L e
   grind)
 .rintro k e D c R-⟨rfl,f,n,d,G,g,H⟩
  have X:=(cn R);refine⟨f,.of_m n rfl,_,d,ce,ce,λY m2 u=>⟨_,_,⟨u.other t _ n G⟩,bx,λm3 y=>⟨rfl,Y,y.at_,?_,?_,?_,?_⟩⟩⟩
  .have Z:(J++A.take (k+1)).map eS=(J++A.take k).map eS++[eS e]:=by
    rw[db,R];simp
   rw[Z];refine cM.keep u.row (λx i z=>y.other x (λe3=>?_));subst e3;rcases u.fresh x i z with I|⟨j,I⟩
   .grind
   grind
  .intro i z;rcases u.fresh t i z with I|⟨j,I⟩
   .grind
   grind
  .intro x o c F;obtain⟨I,h2⟩:=g x o c F;refine⟨by rw[y.other x (sub x o c).2];exact u.other x o I h2,λi z=>?_⟩;rcases u.fresh x i z with E|⟨j,E⟩
   .grind
   grind
  .intro x i z;rcases u.fresh x i z with E|⟨j,E⟩
   .cases e4:m x with
    |none=>grind
    |some o=>
     grind
   grind
 .rintro D c-⟨rfl,f,n,d,G,g,H⟩
  rw[take_length]at d;exact⟨f,.of_m n rfl,T f D d (λx o c F=>(g x o c F).1) H⟩
theorem WX:di 273 V4:=by
 refine gO func273 ?_;rintro c m h K ⟨b,d,rfl,f,g⟩;refine⟨dG [(272,Tt)] [] [] [] false,rfl,aD Ol aF,alX b m h K,bu,?_⟩;exact⟨⟨none,0,0⟩,b,[],d,rfl,⟨qF [],.inl ⟨rfl,rfl⟩⟩,f,bx,λn m' t u y=>g n m' t (λx o z=>u x o z (λi e=>by cases e)) (λx i e=>(y x i e).elim id λ⟨j,e⟩=>by cases e)⟩
structure VOk(v:VV):Prop where
 kind:nL v.kind
 int:nL v.int
 text:v.text.size<=64
structure Pq(r:dn):Prop where
 len:r.length<=12
 val:∀v∈r,VOk v
def EC(v:VV):dw:=lP v.kind++58::(lP v.int++58::(lP (v.text.size:Int)++58::v.text.data.toList))
def CN(r:dn):dw:=r.flatMap EC
def eF(r:dn):ByteArray:=⟨(CN r).toArray⟩
def pick(r:dn)(cols:dm):dn:=cols.map λc=>r.getD c.toNat zeroV
structure gP(n:Nat)(cols:dm):Prop where
 at_:∀c∈cols,0<=c/\c<n
 len:cols.length<=100000
def bdZ:Vc.Spec:=λc m h K=>∃xs v,c=[.lst 5 1 xs,aV v]/\jV m/\v.text.size<=64/\xs.length+300<=140737488355328/\K (.lst 5 1 (xs++bP (EC v))) m h
def a9J:Vc.Spec:=λd m h K=>∃s t r c,d=[cS s,cS t]/\bI h s r/\Ints h t c/\Pq r/\gP r.length c/\jV m/\K (SZ (eF (pick r c))) m h
def ZV:Vc.Spec:=λc m h K=>∃s r,c=[cS s]/\bI h s r/\Pq r/\jV m/\K (SZ (eF r)) m h
def fZ(on:dp):dm:=on.map Prod.fst
def fU(on:dp):dm:=on.map Prod.snd
def YE:Vc.Spec:=λc m h K=>∃s on,c=[cS s]/\lE h s on/\∀a b h',PH.le h h'->Ints h' a (fZ on)->Ints h' b (fU on)->K (.tup [cS a,cS b]) m h'
def V6:Vc.Spec:=λd m h K=>∃s t r c,d=[cS s,cS t]/\bI h s r/\Ints h t c/\gP r.length c/\K (cB ((pick r c).all jF)) m h
def bbQ:Vc.Spec:=λc m h K=>∃n:Nat,c=[.val (.slice none 0 0),cI n]/\n<=1000/\K (.lst 27 3 []) m h
def V3:Vc.Spec:=λc m h K=>∃d rs,c=[cS d]/\Rows h d rs/\rs.length<=10/\(∀r∈rs,r.length<=12)/\∀e h',PH.le h h'->bI h' e rs.flatten->K (cS e) m h'
noncomputable def aJZ:Ctx:=vM [(256,Z6)] [] [] [] [] [(256,[0])] true
noncomputable def aKX(s t:Sl)(m:MH)(h:PH):Ctx:=
 vM [(291,bdZ)] [(3,{A:=Nat×dw,st:=λ⟨i,l⟩=>bK 23 25 [(0,sv s),(5,.at (.lst 19)),(8,sv t),(9,iv t.len),(10,iv i)] [(19,.lst 5 1 (bP l))] m h})] [] [] [] [(291,[0])] false
noncomputable def aJX(s:Sl)(m:MH)(h:PH):Ctx:=
 vM [(291,bdZ)] [(3,{A:=Nat×dw,st:=λ⟨i,l⟩=>bK 18 19 [(3,.at (.lst 14)),(6,sv s),(7,iv s.len),(8,iv i)] [(14,.lst 5 1 (bP l))] m h})] [] [] [] [(291,[0])] false
noncomputable def aKJ(s:Sl)(m:MH)(h:PH):Ctx:=
 dG [] [(2,{A:=Nat×dm×dm,st:=λ⟨i,l,k⟩=>bK 25 26 [(2,.at (.lst 16)),(3,.at (.lst 21)),(6,sv s),(7,iv s.len),(8,iv i)] [(16,.lst 3 1 (l.map eI)),(21,.lst 3 1 (k.map eI))] m h})] [] [] false
noncomputable def aKZ(s t:Sl)(m:MH)(h:PH):Ctx:=
 dG [(186,LY)] [(2,{A:=Nat,st:=λi=>bK 20 22 [(0,sv s),(7,sv t),(8,iv t.len),(9,iv i)] [] m h})] [] [] false
noncomputable def aRJ(c:Sl)(m:MH)(h:PH):Ctx:=
 dG [(254,bbQ)] [(3,{A:=Nat×Nat,st:=λ⟨i,n⟩=>bK 36 37 [(0,sv c),(3,iv n),(9,sv c),(10,iv c.len),(11,iv i)] [] m h}),
  (11,{A:=Nat×dn,st:=λ⟨i,l⟩=>bK 36 37 [(6,.at (.lst 24)),(25,sv c),(26,iv c.len),(27,iv i)] [(24,.lst 27 3 (l.map VV.enc))] m h})] [] [] false
noncomputable abbrev F5(a:List dj)(b:Int):List dj:=dY (xM a (lP b)) (nT (Ag 58))
attribute [push_cast] F5
def Qo(xs:List dj)(v:VV)(m:MH)(h:PH)(K:dk):Prop:=
  ∃(x:List dj)(i:Int),aA (BN xs v.kind=BN x i) (jV m) (aA (gS (jX x 40)) (gS (jX (xM x (lP i)) 1*1)) (tH (dH (xM x (lP i))) (λe=>∃(f:Int),aA (BN (F5 x i) v.int=BN e f) (jV m) (aA (gS (jX e 40)) (gS (jX (xM e (lP f)) 1*1)) (tH (dH (xM e (lP f))) (λc=>∃(d:Int),aA (FW (F5 e f) (fQ (↑v.text.size:Int))=BN c d) (jV m) (aA (gS (jX c 40)) (gS (jX (xM c (lP d)) 1*1)) (aA (dH (xM c (lP d))) (kH (F5 c d) (jM v.text) 1) (kC (F5 c d) (jM v.text)/\K (CV.lst 5 1 (F5 c d++jM v.text)) m h)))))))))
noncomputable abbrev AJ(a:Nat×dw):List dj:=bP a.2
attribute [push_cast] AJ
def Qs(s t:Sl)(m:MH)(h:PH)(K:dk):Prop:=
  ∃(I:Nat×dw->Prop)(e:Nat×dw->Nat),(∃(x:Nat×dw),aA (I x) (aG s) (aA (eL 19) (aG t) (aA (a7 t) (aY x.1) (aA (kN 5 1 (cD 5 1 (AJ x))) (m=m) (bH h h)))))/\∀(x:Nat×dw),I x->aR (↑x.1:Int) (aH t) (eU t.a 0 (↑x.1:Int) t (λb o y=>aK m h b (bC o x.1 1) (cO y)/\bT (λf g=>aA (bX s.a f g) (0<=y) (y<aH s/\∃(j:VV),aK m h f (cF g y 3) j.enc/\∃(d:List dj)(v:VV),aA (bJ (CV.lst 5 1 (AJ x)) (fT j)=bJ (CV.lst 5 1 d) (fT v)) (jV m) (aA (v.text.size<=64) (gS (jX d 300)) (∃(c:Nat×dw),aA (I c) (e c<e x) (aA (aG s) (eL 19) (aA (aG t) (a7 t) (aA (aU (aW x.1 1) c.1) (cD 5 1 (xM d (EC v))=cD 5 1 (AJ c)) (bE (m=m) h
 h)))))))))) (∃(b:dw),AJ x=bP b/\K (zZ b) m h)
def Qn(s:Sl)(m:MH)(h:PH)(K:dk):Prop:=
  ∃(I:Nat×dw->Prop)(e:Nat×dw->Nat),(∃(x:Nat×dw),aA (I x) (eL 14) (aA (aG s) (a7 s) (aA (aY x.1) (kN 5 1 (cD 5 1 (AJ x))) (aA (m=m) (h=h) True))))/\∀(x:Nat×dw),I x->aR (↑x.1:Int) (aH s) (bT (λb o=>aA (bX s.a b o) (0<=(↑x.1:Int)) ((↑x.1:Int)<aH s/\∃(y:VV),aK m h b (bC o x.1 3) y.enc/\∃(d:List dj)(v:VV),aA (bJ (CV.lst 5 1 (AJ x)) (fT y)=bJ (CV.lst 5 1 d) (fT v)) (jV m) (aA (v.text.size<=64) (gS (jX d 300)) (∃(c:Nat×dw),aA (I c) (e c<e x) (aA (eL 14) (aG s) (aA (a7 s) (aU (aW x.1 1) c.1) (aA (cD 5 1 (xM d (EC v))=cD 5 1 (AJ c)) (m=m) (bH h h))))))))) (∃(b:dw),AJ x=bP b/\K (zZ b) m h)
def KA(s:Sl)(m:MH)(h:PH)(K:dk):Prop:=
  ∃(I:Nat×dm×dm->Prop)(d:Nat×dm×dm->Nat),(∃(x:Nat×dm×dm),aA (I x) (eL 16) (aA (eL 21) (aG s) (aA (a7 s) (aY x.1) (aA (uA x.2.1) (uA x.2.2) (bE (m=m) h h)))))/\∀(x:Nat×dm×dm),I x->aR (↑x.1:Int) (aH s) (bT (λb o=>aA (bX s.a b o) (0<=(↑x.1:Int)) ((↑x.1:Int)<aH s/\∃(y:Int×Int),aA (aK m h b (bC o x.1 2) (wO y)) (cC 0) (aA ((0:Int)<2) (yE (fH x.2.1)) (aA (dH (fH x.2.1)) (cC 1) (aA ((1:Int)<2) (yE (fH x.2.2)) (dH (fH x.2.2)/\∃(c:Nat×dm×dm),aA (I c) (d c<d x) (aA (eL 16) (eL 21) (aA (aG s) (a7 s) (aA (aU (aW x.1 1) c.1) (v8 (fH x.2.1) y.1 c.2.1) (bG (v8 (fH x.2.2) y.2 c.2.2) (m=m) (h=
 h)))))))))))) (bU h 1 (fH x.2.1) (λe f=>bU f 1 (fH x.2.2) (λg j=>K (CV.tup (fN e g)) m j)))
def Kz(s t:Sl)(m:MH)(h:PH)(K:dk):Prop:=
  kX (λI x=>aA (I x) (aG s) (aA (aG t) (a7 t) (bG (aY x) (m=m) (h=h)))) (λI d x=>I x->aR (↑x:Int) (aH t) (eU t.a 0 (↑x:Int) t (λb o y=>aK m h b (bC o x 1) (cO y)/\bT (λe f=>aA (bX s.a e f) (0<=y) (y<aH s/\∃(g:VV),aK m h e (cF f y 3) g.enc/\∃(v:VV),uJ g v/\gR (!(jF v)) (K aX m h) (λc=>aA (I c) (d c<d x) (aA (aG s) (aG t) (aA (a7 t) (aU (aW x 1) c) (aA (m=m) (h=h) True)))))))) (K eW m h))
def QB(n:Nat)(m:MH)(h:PH)(K:dk):Prop:=
  eR (iJ ((↑n:Int)-iJ ((0:Int)-0))) 0 (aA (cC 0) (cC 0) (aA (0<iJ ((↑n:Int)-0)) (Jf (iJ ((↑n:Int)-0)*32)) (aA (Jf (iJ ((↑n:Int)-0))) ((0:Int)<=0) (cC (jY (B6 (iJ ((↑n:Int)-0)) Bl))/\K (CV.lst 27 3 []) m h)))) (K (CV.lst 27 3 []) m h)
noncomputable abbrev j6(a:dn):List dj:=List.map VV.enc a
attribute [push_cast] j6
def Q5(d:Sl)(m:MH)(h:PH)(K:dk):Prop:=
  Gj (λI x=>aA (I x) (aG d) (aA (aY x.2) (aG d) (aA (a7 d) (aY x.1) (aA (m=m) (h=h) True)))) (λI g x=>I x->aR (↑x.1:Int) (aH d) (cK d.a (↑x.1:Int) d (λb o y=>aK m h b (bC o x.1 1) (aM y)/\aR (aW x.2 (aH y)) 0 False (∃(c:Nat×Nat),aA (I c) (g c<g x) (aA (aG d) (aU (aW x.2 (aH y)) c.2) (aA (aG d) (a7 d) (aA (aU (aW x.1 1) c.1) (m=m) (bH h h))))))) (∃(n:Nat),aA (mF nK x.2=mF nK n) (nV n) (∃(I1:Nat×dn->Prop)(j:Nat×dn->Nat),(∃(c:Nat×dn),aA (I1 c) (eL 24) (aA (aG d) (a7 d) (aA (aY c.1) (kN 27 3 (cD 27 3 (j6 c.2))) (aA (m=m) (h=h) True))))/\∀(c:Nat×dn),I1 c->aR (↑c.1:Int) (aH d) (cK d.a (↑c.1:Int) d (λb o y=>aK m h
 b (bC o c.1 1) (aM y)/\∃(e:List dj),aA (cT 3 e) (bN h (bD y) 3 e) (aA (kH (j6 c.2) e 32) (kC (j6 c.2) e) (∃(f:Nat×dn),aA (I1 f) (j f<j c) (aA (eL 24) (aG d) (aA (a7 d) (aU (aW c.1 1) f.1) (aA (cD 27 3 (j6 c.2++e)=cD 27 3 (j6 f.2)) (m=m) (bH h h)))))))) (bU h 3 (j6 c.2) (λs t=>K (fD s) m t)))))
theorem JH(a b:dw):bP a++bP b=bP (a++b):=by simp[bP]
theorem atX{v:VV}(h:v.text.size<=64):(EC v).length<=130:=by
 have c:=xQ v.kind;have d:=xQ v.int;have e:=xQ (v.text.size:Int);have f:v.text.data.toList.length=v.text.size:=Array.length_toList;simp only[EC,ct,de];omega
theorem Oh:di 291 bdZ:=by
 refine gO func291 ?_;rintro f m h K ⟨xs,v,rfl,c,j,n,t⟩;refine⟨aJZ,rfl,aD W5 aF,Qo xs v m h K,bu,?_⟩;dsimp only[Qo,push_cast];have u:=xQ v.kind;have y:=xQ v.int;have z:=xQ (v.text.size:Int);have A:v.text.data.toList.length=v.text.size:=Array.length_toList;have g:∀l:dw,(bP l).length=l.length:=λl=>by simp[bP]
 have d:jM v.text=bP v.text.data.toList:=rfl;refine⟨_,_,rfl,c,aC,?_,?_,_,_,rfl,c,?_,?_,?_,_,_,rfl,c,?_,?_,?_,?_,?_,?_⟩
 all_goals (try (simp only[ct,g,d,de,length_nil];omega))
 have e:xs++bP (EC v)=xs++bP (lP v.kind)++[[Value.int IntKind.u8 58]]++bP (lP v.int)++[[Value.int IntKind.u8 58]]++bP (lP (v.text.size:Int))++[[Value.int IntKind.u8 58]]++jM v.text:=by
  rw[d];simp only[EC,bP,cv,map_cons,append_assoc,cons_append,nil_append];rfl
 grind
theorem Up{r:dn}(h:∀v∈r,v.text.size<=64):(CN r).length<=130*r.length:=by
 induction r with
 |nil=>simp[CN]
 |cons v l c=>
  have f:=atX (h v (mem_cons_self ..));have d:=c (λu e=>h u (mem_cons_of_mem _ e));simp only[CN,flatMap_cons,ct,de]at d⊢
  omega
theorem P1{r:dn}{v:VV}(c:r[i]? =some v):CN (r.take (i+1))=CN (r.take i)++EC v:=by
 rw[db,c];simp[CN]
theorem T8{r:dn}{cols:dm}(e:gP r.length cols){v:VV}(f:v∈pick r cols):v∈r:=by
 obtain⟨c,d,rfl⟩:=mem_map.1 f;have:=e.at_ c d
 grind
theorem Sp{r:dn}{cols:dm}{i:Nat}{c:Int}(d:gP r.length cols)(e:cols[i]? =some c):∃v,r[c.toNat]? =some v/\(pick r cols)[i]? =some v/\0<=c/\c<r.length:=by
 have:=d.at_ c (cr e);refine⟨r[c.toNat]'(by omega),cq _,?_,this⟩;unfold pick
 grind
theorem Ee:di 271 a9J:=by
 refine gO func271 ?_;rintro I m h K ⟨s,t,r,d,rfl,F,G,J,y,L,M⟩;refine⟨aKX s t m h,rfl,aD Oh aF,Qs s t m h K,bu,?_⟩;dsimp only[Qs,push_cast];have O:=aZ.slen F;have z:=G.slen;have P:=y.len;have Q:(pick r d).length=d.length:=by simp[pick]
 have g:∀v∈pick r d,v.text.size<=64:=λv R=>(J.val v (T8 y R)).text;refine⟨λx=>x.1<=d.length/\x.2=CN ((pick r d).take x.1),λx=>d.length-x.1,⟨(0,[]),⟨bx,by simp[CN]⟩,MT⟩,?_⟩;rintro⟨i,l⟩ ⟨S,H⟩;dsimp only at S H;subst H;refine aE (λf=>?_) (λA=>?_)
 .dsimp only at f;obtain⟨c,j⟩:=eN z f;obtain⟨b,o,e,rd⟩:=G.at j;obtain⟨v,D,n,T,Y⟩:=Sp y j;obtain⟨U,V,w,W,E,rfl⟩:=aZ.at F D;have Z:=Up (r:=(pick r d).take i) (λu X=>g u (mem_of_mem_take X));refine⟨b,o,e,aC,f,c,.imm cg,U,V,W,T,aC,v,.imm E,_,v,rfl,L,g v (cr n),?_,(i+1,CN ((pick r d).take (i+1))),⟨aC,rfl⟩,cg,?_⟩
  .have:(bP (CN ((pick r d).take i))).length=(CN ((pick r d).take i)).length:=by simp[bP]
   grind
  .dsimp only;rw[P1 n,JH];exact MT
 .dsimp only at A⊢
  rw[cu aC];exact⟨_,rfl,M⟩
theorem WT:di 292 ZV:=by
 refine gO func292 ?_;rintro y m h K ⟨s,r,rfl,n,d,z,A⟩;refine⟨aJX s m h,rfl,aD Oh aF,Qn s m h K,bu,?_⟩;dsimp only[Qn,push_cast];have e:=aZ.slen n;have D:=d.len;refine⟨λx=>x.1<=r.length/\x.2=CN (r.take x.1),λx=>r.length-x.1,⟨(0,[]),⟨bx,by simp[CN]⟩,MT⟩,?_⟩;rintro⟨i,l⟩ ⟨E,t⟩;dsimp only at E t;subst t;refine aE (λc=>?_) (λf=>?_)
 .dsimp only at c;obtain⟨v,g⟩:=eN e c;obtain⟨F,G,w,H,j,rfl⟩:=aZ.at n g;have J:=Up (r:=r.take i) (λu I=>(d.val u (mem_of_mem_take I)).text);refine⟨F,G,H,aC,c,v,.imm j,_,v,rfl,z,(d.val v (cr g)).text,?_,(i+1,CN (r.take (i+1))),⟨aC,rfl⟩,cg,?_⟩
  .have:(bP (CN (r.take i))).length=(CN (r.take i)).length:=by simp[bP]
   grind
  .dsimp only;rw[P1 g,JH];exact MT
 .dsimp only at f⊢
  rw[cu aC];exact⟨_,rfl,A⟩
theorem bsZ{s:Sl}{on:dp}(f:lE h s on)(z:∀a b h',PH.le h h'->Ints h' a (fZ on)->Ints h' b (fU on)->K (.tup [cS a,cS b]) m h'):KA s m h K:=by
 dsimp only[KA,push_cast];have g:=f.slen;have G:=f.len;refine⟨λx=>x.1<=on.length/\x.2.1=(on.take x.1).map Prod.fst/\x.2.2=(on.take x.1).map Prod.snd,λx=>on.length-x.1,⟨(0,[],[]),⟨bx,bx,bx⟩,MT⟩,?_⟩;rintro⟨i,l,k⟩ ⟨A,t,u⟩;dsimp only at A t u;subst t u;refine aE (λc=>?_) (λj=>?_)
 .dsimp only at c;obtain⟨p,y⟩:=eN g c;obtain⟨b,o,e,rd⟩:=lE.at f y;refine⟨b,o,e,aC,c,p,.imm rd,aC,aC,?_,?_,aC,aC,?_,?_,(i+1,(on.take (i+1)).map Prod.fst,(on.take (i+1)).map Prod.snd),⟨aC,rfl,rfl⟩,cg,?_⟩
  all_goals (try (simp only[length_map,length_take];omega))
  dsimp only;rw[db,y,Option.toList_some,cv,cv,cv,cv];exact MT
 .dsimp only at j⊢
  rw[cu aC];intro a H n D b E d F;exact z a b E (n.trans d) ⟨D.mono d,by simp[fZ];omega⟩ ⟨F,by simp[fU];omega⟩
theorem Om:di 269 YE:=by
 refine gO func269 ?_;rintro c m h K ⟨s,on,rfl,d,e⟩;refine⟨aKJ s m h,rfl,aF,KA s m h K,bu,?_⟩;exact bsZ d e
theorem bsX{s t:Sl}{r:dn}{cols:dm}(A:bI h s r)(D:Ints h t cols)(E:gP r.length cols)(g:K (cB ((pick r cols).all jF)) m h):Kz s t m h K:=by
 dsimp only[Kz,push_cast];have H:=aZ.slen A;have n:=D.slen;have I:=E.len;have J:(pick r cols).length=cols.length:=by simp[pick]
 refine⟨λi=>i<=cols.length/\∀j:Nat,j<i->∀v,(pick r cols)[j]? =some v->jF v=true,λi=>cols.length-i,⟨0,⟨aC,λj F=>by omega⟩,MT⟩,λi⟨U,G⟩=>aE (λd=>?_) (λL=>?_)⟩
 .obtain⟨c,f⟩:=eN n d;obtain⟨b,o,e,rd⟩:=D.at f;obtain⟨v,y,M,O,V⟩:=Sp E f;obtain⟨P,Q,w,R,z,rfl⟩:=aZ.at A y;refine⟨b,o,e,aC,d,c,.imm cg,P,Q,R,O,aC,v,.imm z,v,rfl,aB (λS=>?_) (λW=>⟨i+1,⟨aC,λj F u X=>?_⟩,(show cols.length-(i+1)<cols.length-i by omega),MT⟩)⟩
  .have:(pick r cols).all jF=false:=by
    grind
   rw[this]at g;exact g
  grind
 .have:(pick r cols).all jF=true:=by
   rw[all_eq_true];intro v T;obtain⟨j,F⟩:=getElem?_of_mem T
   grind
  rw[this]at g;exact g
theorem WY:di 270 V6:=by
 refine gO func270 ?_;rintro d m h K ⟨s,t,r,c,rfl,e,f,g,j⟩;refine⟨aKZ s t m h,rfl,aD Hw aF,Kz s t m h K,bu,?_⟩;exact bsX e f g j
theorem W6:di 254 bbQ:=by
 refine gO func254 ?_;rintro d m h K ⟨n,rfl,f,c⟩;refine⟨dG [] [] [] [] true,rfl,aF,QB n m h K,bu,?_⟩;dsimp only[QB,push_cast];have e:IntKind.i64.wrap ((n:Int)-0)=n:=by rw[dR aC aC];omega
 have g:IntKind.i64.wrap ((n:Int)-IntKind.i64.wrap (0-0))=n:=by rw[show IntKind.i64.wrap (0-0)=0 from by rw[dR aC aC];rfl,e]
 exact aE (λj=>⟨aC,aC,aC,aC,aC,aC,aC,c⟩) (λ_=>c)
theorem HZ{α:Type}{ks:List (List α)}{k:List α}(c:ks[i]? =some k):((ks.take (i+1)).map List.length).sum=((ks.take i).map List.length).sum+k.length:=by
 rw[db,c];simp
theorem Hd{α:Type}{ks:List (List α)}(h:∀k∈ks,k.length<=12):∀i,((ks.take i).map List.length).sum<=12*i
 |0=>bx
 |i+1=>by
  have c:=Hd h i;cases e:ks[i]? with
  |none=>rw[db,e];grind
  |some k=>rw[HZ e];grind
theorem XN:di 191 V3:=by
 refine gO func191 ?_;rintro L m h K ⟨G,ks,rfl,y,V,d,M⟩;refine⟨aRJ G m h,rfl,aD W6 aF,Q5 G m h K,bu,?_⟩;dsimp only[Q5,push_cast];have j:=aZ.slen y;refine⟨λ⟨i,n⟩=>i<=ks.length/\n=((ks.take i).map List.length).sum,λ⟨i,_⟩=>ks.length-i,⟨(0,0),⟨aC,bx⟩,MT⟩,?_⟩;rintro⟨i,n⟩ ⟨H,rfl⟩;dsimp only;have O:=Hd d i;refine aE (λc=>?_) (λt=>?_)
 .obtain⟨k,e⟩:=eN j c;obtain⟨b,o,g,z,r,f⟩:=aZ.at y e;have P:=aZ.slen f;have u:=d k (cr e)
  have Q:IntKind.i64.wrap (((((ks.take i).map List.length).sum:Nat):Int)+(g.len:Int))=((((ks.take (i+1)).map List.length).sum:Nat):Int):=by
   rw[HZ e,dR aC aC];omega
  refine⟨b,o,z,aC,c,g,.imm r,?_⟩;rw[Q];exact aE (λI=>by omega) (λ_=>⟨(i+1,((ks.take (i+1)).map List.length).sum),⟨aC,rfl⟩,aC,MT⟩)
 .refine⟨((ks.take i).map List.length).sum,rfl,aC,?_⟩;refine⟨λ⟨i,l⟩=>i<=ks.length/\l=(ks.take i).flatten,λ⟨i,_⟩=>ks.length-i,⟨(0,[]),⟨aC,bx⟩,MT⟩,?_⟩;clear O t H;rintro⟨i,l⟩ ⟨H,rfl⟩;dsimp only;have R:(ks.take i).flatten.length<=12*i:=by have:=Hd d i;grind
  refine aE (λc=>?_) (λt g h' A J=>M g h' A ⟨⟨ks.flatten,?_,rfl,λi x S=>⟨x,S,rfl⟩⟩,?_⟩)
  .obtain⟨k,e⟩:=eN j c;obtain⟨b,o,g,z,r,f⟩:=aZ.at y e;have u:=d k (cr e);obtain⟨D,E,T,U⟩:=f.ex
   have F:D=k:=by
    apply ext_getElem?
    grind
   subst F;refine⟨b,o,z,aC,c,g,.imm r,D.map VV.enc,Bf D,E,?_,?_,(i+1,(ks.take (i+1)).flatten),⟨aC,rfl⟩,aC,?_⟩
   .grind
   .grind
   .rw[db,e,Option.toList_some,flatten_append,cv,flatten_cons,flatten_nil,append_nil];exact MT
  .grind
  grind
theorem SR:∀(u:Nat)(b:UInt8),b∈Lib.decDigits u->48<=b.toNat/\b.toNat<=57:=by
 intro u
 induction u using Nat.strongRecOn with
 |_ u d=>
  intro b c;rw[Lib.decDigits]at c
  have one:∀k,k<10->48<=(UInt8.ofNat (48+k)).toNat/\(UInt8.ofNat (48+k)).toNat<=57:=λk e=>by
   rw[UInt8.toNat_ofNat'];omega
  grind
theorem Zt:∀(u v:Nat),Lib.decDigits u=Lib.decDigits v->u=v:=by
 intro u
 induction u using Nat.strongRecOn with
 |_ u g=>
  intro v h;have f:=congrArg List.length h;rw[Lib.decDigits_length,Lib.decDigits_length]at f
  have one:∀a b,a<10->b<10->UInt8.ofNat (48+a)=UInt8.ofNat (48+b)->a=b:=λa b j n e=>by
   have:=congrArg UInt8.toNat e;rw[UInt8.toNat_ofNat',UInt8.toNat_ofNat']at this;omega
  by_cases d:u<10
  .have c:v<10:=by
    apply Classical.byContradiction;intro c;rw[Lib.nDigits_small d,Lib.nDigits_big c]at f;have:=Lib.nDigits_pos (v/10);omega
   rw[Lib.decDigits.eq_def u,Lib.decDigits.eq_def v,dif_pos d,dif_pos c]at h
   grind
  .have c:¬v<10:=λc=>by
    grind
   rw[Lib.decDigits.eq_def u,Lib.decDigits.eq_def v,dif_neg d,dif_neg c]at h;have t:=append_inj' h rfl
   grind
theorem Z7{n:Int}(c:0<=n)(d:n<18446744073709551616):IntKind.u64.wrap n=n:=by
 rw[IntKind.wrap_u64];omega
theorem Z8{n:Int}(c:n<0)(d: -9223372036854775808<=n):IntKind.u64.wrap (0-IntKind.u64.wrap n)= -n:=by
 rw[IntKind.wrap_u64,IntKind.wrap_u64];omega
theorem CO{n:Int}(h:nL n)(c:0<=n):lP n=Lib.decDigits n.toNat:=by
 unfold lP;rw[if_neg aC,Z7 c (by have:=h.2;omega)]
theorem CP{n:Int}(h:nL n)(c:n<0):lP n=45::Lib.decDigits (-n).toNat:=by
 unfold lP;rw[if_pos c,Z8 c h.1]
theorem P3{n:Int}(h:nL n){b:UInt8}(c:b∈lP n):b≠58:=by
 intro e;subst e;by_cases f:0<=n
 .rw[CO h f]at c;have:=SR _ _ c
  grind
 .rw[CP h aC]at c;rcases mem_cons.1 c with d|d
  .cases d
  .have:=SR _ _ d
   grind
theorem aeJ{m n:Int}(c:nL m)(d:nL n)(h:lP m=lP n):m=n:=by
 have f:∀u r,Lib.decDigits u=45::r->False:=λu r e=>by
  have:=SR u 45 cg
  grind
 by_cases g:0<=m<;>by_cases j:0<=n
 .rw[CO c g,CO d j]at h;have:=Zt _ _ h;omega
 .rw[CO c g,CP d aC]at h
  grind
 .rw[CP c aC,CO d j]at h
  grind
 .rw[CP c aC,CP d aC]at h;have:=Zt _ _ (List.cons.inj h).2;omega
theorem TO{α:Type}{x:α}:∀{a b r r':List α},x∉a->x∉b->a++x::r=b++x::r'->a=b/\r=r'
 |[],[],r,r',_,_,h=>⟨rfl,(List.cons.inj h).2⟩
 |[],c::b,r,r',_,e,h=>by
  grind
 |c::a,[],r,r',f,_,h=>by
  grind
 |c::a,d::b,r,r',f,e,h=>by
  have g:=List.cons.inj h;obtain⟨j,n⟩:=TO (λm=>f (by simp[m])) (λm=>e (by simp[m])) g.2
  grind
theorem E0{m n:Int}{r r':dw}(d:nL m)(e:nL n)(h:lP m++58::r=lP n++58::r'):m=n/\r=r':=by
 obtain⟨f,g⟩:=TO (λc=>P3 d c rfl) (λc=>P3 e c rfl) h;exact⟨aeJ d e f,g⟩
theorem Yq{u v:VV}{r r':dw}(c:VOk u)(d:VOk v)(h:EC u++r=EC v++r'):u=v/\r=r':=by
 simp only[EC,append_assoc,cons_append]at h;obtain⟨e,h⟩:=E0 c.kind d.kind h;obtain⟨f,h⟩:=E0 c.int d.int h;have sz:∀w:VV,VOk w->nL (w.text.size:Int):=λw g=>⟨aC,by have:=g.text;omega⟩
 obtain⟨A,h⟩:=E0 (sz u c) (sz v d) h
 have j:u.text.data.toList.length=v.text.data.toList.length:=by
  have:u.text.size=v.text.size:=by omega
  rw[Array.length_toList,Array.length_toList];exact this
 obtain⟨n,y⟩:=append_inj h j;refine⟨?_,y⟩;obtain⟨k,i,t⟩:=u;obtain⟨D,E,z⟩:=v;simp only[VV.mk.injEq]at e f⊢
 refine⟨e,f,?_⟩;cases t;cases z;simp only[ByteArray.mk.injEq];exact Array.toList_inj.1 n
theorem Uq:∀{a b:dn},a.length=b.length->(∀v∈a,VOk v)->(∀v∈b,VOk v)->CN a=CN b->a=b
 |[],[],_,_,_,_=>rfl
 |x::a,y::b,c,e,f,h=>by
  simp only[CN,flatMap_cons]at h;obtain⟨g,j⟩:=Yq (e x (mem_cons_self ..)) (f y (mem_cons_self ..)) h;rw[g,Uq cg (λv d=>e v (mem_cons_of_mem _ d)) (λv d=>f v (mem_cons_of_mem _ d)) j]
 |[],_::_,c,_,_,_=>by simp at c
 |_::_,[],c,_,_,_=>by simp at c
theorem NZ{a b:dn}(c:a.length=b.length)(d:∀v∈a,VOk v)(e:∀v∈b,VOk v):eF a=eF b↔a=b:=by
 constructor
 .intro h;simp only[eF,ByteArray.mk.injEq]at h;exact Uq c d e cg
 grind
structure auZ(κ:dn->ByteArray):Prop where
 inj:∀{a b:dn},a.length=b.length->(∀v∈a,VOk v)->(∀v∈b,VOk v)->(κ a=κ b↔a=b)
theorem N0:auZ eF:=⟨NZ⟩
structure Step where
 op:Int
 table:Int
 wher:Pred
 columns:dm
 on:dp
 group:dm
 order:dr
 limit:Int
 left:Int
 right:Int
variable{ts:List Step}{t:Step}
def L1(l:dm):dw:=l.flatMap λn=>lP n++[32]
def bDX(v:VV):dw:=L1 [v.kind]++(lP v.int++[32])++L1 [(v.text.size:Int)]++v.text.data.toList
def bhZ(o:OV):dw:=L1 [o.kind,o.index]++bDX o.value
mutual
def Ew:Pred->dw
 |.mk op c l r args=>L1 [op,c]++bhZ l++bhZ r++L1 [(args.length:Int)]++De args
def De:dx->dw
 |[]=>[]
 |p::ps=>Ew p++De ps
end
theorem Bj:∀l:dm,(L1 l).length<=22*l.length
 |[]=>by simp[L1]
 |n::l=>by
  have:=Bj l;have c:=xQ n;unfold L1 at this⊢
  grind
structure baQ(t:Step):Prop where
 wher:(Ew t.wher).length<=1000000000
 columns:t.columns.length<=1000000000
 on:t.on.length<=1000000000
 group:t.group.length<=1000000000
 order:t.order.length<=1000000000
def HJ(q:Query):Prop:=
 match q with
 |.mk op ta w co on gr od li args=>baQ ⟨op,ta,w,co,on,gr,od,li,0,0⟩/\∀a∈args,HJ a
 termination_by SizeOf.sizeOf q
theorem azX{op:Int}{on:dp}{args:dt}:
 HJ (.mk op ta w co on gr od li args)↔baQ ⟨op,ta,w,co,on,gr,od,li,0,0⟩/\∀a∈args,HJ a:=by rw[HJ.eq_def]
theorem cM.blk{s:Sl}{E:Nat}(h:cM m s E sz xs)(e:s.a=some ⟨b,i,none⟩):∃c,m b=some (.cells c E (0,0)):=by
 rcases h.ex with⟨rfl,_⟩|⟨f,d,c,rfl,g,_⟩
 .cases e
 grind
theorem cM.slen{s:Sl}{E:Nat}(h:cM m s E sz xs):s.len=xs.length:=by
 rcases h.ex with⟨rfl,rfl⟩|⟨e,c,d,rfl,f,_⟩<;>rfl
theorem cM.keep{s:Sl}{E:Nat}(h:cM m s E sz xs)(f:∀b i,s.a=some ⟨b,i,none⟩->m' b=m b):cM m' s E sz xs:=by
 refine⟨h.rows,?_⟩;rcases h.ex with c|⟨b,d,e,rfl,g,j⟩
 .exact .inl c
 grind
theorem b1Z(h:PH):Ints h cJ []:=⟨bN.nil _ _,bx⟩
theorem bhJ{α:Type}{l:List α}(h:(l.length:Int)=1):∃a,l=[a]:=by
 match l,h with
 |[a],_=>grind
 |[],h=>simp at h
 |_::_::_,h=>grind
theorem awQ{α:Type}{l:List α}(h:(l.length:Int)=2):∃a b,l=[a,b]:=by
 match l,h with
 |[a,b],_=>grind
 |[],h=>simp at h
 |[_],h=>simp at h
 |_::_::_::_,h=>grind
def xS(r:dn)(o:OV):VV:=if o.kind=3 then o.value else if o.kind=1/\0<=o.index/\o.index<r.length then r.getD o.index.toNat zeroV else zeroV
def TH(d c:Int):Bool:=if d=1 then c==0 else if d=2 then c !=0 else if d=3 then decide (c<0)else if d=4 then decide (c<=0)else if d=5 then decide (c>0)else if d=6 then decide (c>=0)else false
def qB(c:Int)(a b:VV):Bool:=jF a&&jF b&&a.kind==b.kind&&TH c (jL a b)
mutual
def iD(r:dn):Pred->Bool
 |.mk op c a b args=>if op=1 then true else if op=3 then qB c (xS r a) (xS r b)else if op=4 then Fs r args else if op=5 then Fp r args else if op=6 then N3 r args else false
def Fs(r:dn):dx->Bool
 |[]=>true
 |p::ps=>iD r p&&Fs r ps
def Fp(r:dn):dx->Bool
 |[]=>false
 |p::ps=>iD r p||Fp r ps
def N3(r:dn):dx->Bool
 |[]=>false
 |p::_=> !iD r p
end
theorem Fq(r:dn):∀ps,Fs r ps=ps.all (iD r)
 |[]=>by simp[Fs]
 |p::ps=>by simp[Fs,Fq r ps]
theorem Fo(r:dn):∀ps,Fp r ps=ps.any (iD r)
 |[]=>by simp[Fp]
 |p::ps=>by simp[Fp,Fo r ps]
def DenS:Vc.Spec:=λc m h K=>∃o s r,c=[aO o,cS s,nK]/\bI h s r/\K (aV (xS r o)) m h
def L9(p:Int->Bool):Vc.Spec:=λd m h K=>∃c,d=[cI c]/\K (cB (p c)) m h
def bHX:Vc.Spec:=λc m h K=>∃op,c=[cI op]/\
 branch (op==1) (K (fv 246) m h) (branch (op==2) (K (fv 247) m h) (branch (op==3) (K (fv 248) m h) (branch (op==4) (K (fv 249) m h) (branch (op==5) (K (fv 250) m h) (branch (op==6) (K (fv 251) m h) (K (.val .nilFunc) m h))))))
def Tk(N:Nat):Vc.Spec:=λc m h K=>∃v s p r,c=[aP v,cS s,nK]/\eA h p v/\bI h s r/\SizeOf.sizeOf p<N/\K (cB (iD r p)) m h
def Tl:Vc.Spec:=λc m h K=>∃v s p r,c=[aP v,cS s,nK]/\eA h p v/\bI h s r/\K (cB (iD r p)) m h
noncomputable def aYQ(N:Nat)(v:PV)(s:Sl)(m:MH)(h:PH):Ctx:=
 dG [(185,DenS),(186,LY),(187,bHX),(108,LZ),(114,Tk N),(246,L9 (λc=>c==0)),(247,L9 (λc=>c !=0)),(248,L9 (λc=>decide (c<0))),(249,L9 (λc=>decide (c<=0))),(250,L9 (λc=>decide (c>0))),(251,L9 (λc=>decide (c>=0)))] [(12,{A:=Nat,st:=λi=>bK 102 105 [(1,sv s),(2,vv sJ),(60,sv v.args),(61,iv v.args.len),(62,iv i)] [] m h}),
  (20,{A:=Nat,st:=λi=>bK 102 105 [(1,sv s),(2,vv sJ),(75,sv v.args),(76,iv v.args.len),(77,iv i)] [] m h})] [(6,{A:=VV×VV,st:=λ⟨a,b⟩=>bK 102 105 [(3,.at (.ptr 3 0)),(7,.at (.ptr 7 0)),(8,.at (.ptr 8 0))] [(3,.cells 32 (v.enc.map .val)),(7,.cells 27 (a.enc.map .val)),(8,.cells 27 (b.enc.map .val))] m h})] [] false
abbrev IG(a:Int)(b:OV)(c:MH)(d:PH)(e:Nat)(g:VV->Prop):Prop:=bT (λx f=>aA (bX Option.none x f) (a<=b.index) (b.index<a/\∃(j:VV),aK c d x (cF f b.index e) j.enc/\g j))
attribute [push_cast] IG
def Q8(o:OV)(s:Sl)(m:MH)(h:PH)(K:dk):Prop:=
  cH (o.kind==3) (K (fT o.value) m h) (o.kind==2) (aR o.index 0 (K (pN Bl) m h) (fY o.index 0 (K (pN Bl) m h) (IG 0 o m h 3 (λy=>K (fT y) m h)))) (dJ o.kind 1 (aR o.index 0 (K (pN Bl) m h) (fY o.index (aH s) (K (pN Bl) m h) (bT (λb c=>aA (bX s.a b c) (0<=o.index) (o.index<aH s/\∃(y:VV),aK m h b (cF c o.index 3) y.enc/\K (fT y) m h))))) (K (pN Bl) m h))
def KK(op:Int)(m:MH)(h:PH)(K:dk):Prop:=
  ∀(b:Nat)(e:MH),aT (dZ m h b) (bL m e b (a8 Value.nilFunc Value.nilFunc (a8 Value.nilFunc Value.nilFunc (a8 Value.nilFunc Value.nilFunc MP))) 275) (gE (λc E=>aA (sK e b (fC c E 0)) (7<=c.size) (∀(d:MH),bL e d b (a8 Value.nilFunc (nC 246) (a8 (nC 247) (nC 248) (a8 (nC 249) (nC 250) (jC (nC 251) 7 c)))) E->aR op 0 (K (CV.val Value.nilFunc) d h) (fY op 7 (K (CV.val Value.nilFunc) d h) (aA (cC op) (op<7) (∃(y:Option Nat),aK d h b (cF 0 op 1) (nT (a0X y))/\K (CV.val (a0X y)) d h))))))
def anQ(c:Int)(m:MH)(h:PH)(K:dk):Prop:=
  K (zU (c==0)) m h
def amJ(c:Int)(m:MH)(h:PH)(K:dk):Prop:=
  K (zU (c !=0)) m h
def amZ(c:Int)(m:MH)(h:PH)(K:dk):Prop:=
  K (zU (decide (c<0))) m h
def amX(c:Int)(m:MH)(h:PH)(K:dk):Prop:=
  K (zU (decide (c<=0))) m h
def amQ(c:Int)(m:MH)(h:PH)(K:dk):Prop:=
  K (zU (decide (c>0))) m h
def alJ(c:Int)(m:MH)(h:PH)(K:dk):Prop:=
  K (zU (decide (c>=0))) m h
noncomputable abbrev pW(a:OV)(b:Sl):ei:=pN a.enc::dW b nK
abbrev vX(a:dn)(b:OV)(c:VV):Prop:=oQ 27 (eO (At.val (fB (xS a b).kind)) (At.val (fB (xS a b).int)) (vH (At.val (Value.string (xS a b).text))))=Ey 27 c.enc
abbrev sS(a:Prop)(b:PV)(c:dn)(d:OV)(e:VV×VV)(g:Prop)(i:MH)(j:PH):Prop:=aA a cA (aA (eP 7) eZ (aA (iU b) (vX c d e.1) (aA g (i=i) (bH j j))))
abbrev wD(a:PV)(b:Sl)(c:PH)(d:OV->dn->(VV×VV)->Prop):Prop:=uW (λx e f=>aA (pW a.right b=pW x e) (bI c e f) (∃(g:VV×VV),d x f g))
abbrev DA(a:VV×VV)(b:Int->Prop):Prop:=E7 (λx c=>bJ (fT a.1) (fT a.2)=bJ (fT x) (fT c)/\∃(d:Int),rQ (jL x c) d/\b d)
noncomputable abbrev D4(a:PV)(b:Sl):ei:=dM a::dW b nK
abbrev DE(a:PV)(b:Sl)(c:PH)(d:Nat)(e:Pred->dn->Prop):Prop:=D3 (λx g f j=>aA (D4 a b=D4 x g) (eA c f x) (aA (bI c g j) (rU f d) (e f j)))
attribute [push_cast] pW vX sS wD DA D4 DE
def Rw(N:Nat)(v:PV)(s:Sl)(m:MH)(h:PH)(K:dk):Prop:=
  cH (v.op==1) (K eW m h) (v.op==3) (∃(I:VV×VV->Prop),aA (uW (λo f r=>aA (pW v.left s=pW o f) (bI h f r) (aA (uW (λd n e=>aA (pW v.right s=pW d n) (bI h n e) ((∃(x:VV×VV),sS (I x) v r o x (vX e d x.2) m h)/\∃(x:VV×VV),sS (I x) v r o x (vX e d x.2) m h))) (wD v s h (λd e x=>sS (I x) v r o x (vX e d x.2) m h)/\wD v s h (λd e x=>sS (I x) v r o x (vX e d x.2) m h)) (wD v s h (λd e x=>sS (I x) v r o x (vX e d x.2) m h)/\wD v s h (λd e x=>sS (I x) v r o x (vX e d x.2) m h))))) (uW (λo f r=>aA (pW v.left s=pW o f) (bI h f r) (wD v s h (λd e x=>sS (I x) v r o x (vX e d x.2) m h)/\wD v s h (λd e x=>sS (I x) v r o x (vX
 e d x.2) m h)))/\uW (λo f r=>aA (pW v.left s=pW o f) (bI h f r) (wD v s h (λd e x=>sS (I x) v r o x (vX e d x.2) m h)))) (uW (λo f r=>aA (pW v.left s=pW o f) (bI h f r) (wD v s h (λd e x=>sS (I x) v r o x (vX e d x.2) m h)/\wD v s h (λd e x=>sS (I x) v r o x (vX e d x.2) m h)))/\uW (λo f r=>aA (pW v.left s=pW o f) (bI h f r) (wD v s h (λd e x=>sS (I x) v r o x (vX e d x.2) m h))))/\∀(x:VV×VV),I x->∃(u:VV),iX (uJ x.1 u) (!(jF u)) (K aX m h) (∃(z:VV),uJ x.2 z/\cH (!(jF z)) (K aX m h) (x.1.kind !=x.2.kind) (K aX m h) (yF v.cmp (λo=>cH (o==1) (DA x (λc=>K (zU (c==0)) m h)) (o==2) (DA x (λc=>K (zU (c !=0)) m h)) (cH
 (o==3) (DA x (λc=>K (zU (decide (c<0))) m h)) (o==4) (DA x (λc=>K (zU (decide (c<=0))) m h)) (cH (o==5) (DA x (λc=>K (zU (decide (c>0))) m h)) (o==6) (DA x (λc=>K (zU (decide (c>=0))) m h)) (K aX m h))))))) (cH (v.op==4) (kX (λI x=>aA (I x) (aG s) (aA (eQ sQn) (aG v.args) (aA (rO v) (aY x) (aA (m=m) (h=h) True)))) (λI j x=>I x->aR (↑x:Int) (aH v.args) (bT (λb o=>aA (bX v.args.a b o) (0<=(↑x:Int)) ((↑x:Int)<aH v.args/\∃(y:PV),aK m h b (bC o x 13) y.enc/\DE y s h N (λp r=>gR (!(iD r p)) (K aX m h) (λg=>aA (I g) (j g<j x) (aA (aG s) (eQ sQn) (aA (aG v.args) (a7 v.args) (aA (aU (aW x 1) g) (m=m) (bH h h))))))))) (K eW m h))) (v.op==5) (kX (λI x=>aA (I x)
 (aG s) (aA (eQ sQn) (aG v.args) (aA (rO v) (aY x) (aA (m=m) (h=h) True)))) (λI j x=>I x->aR (↑x:Int) (aH v.args) (bT (λb o=>aA (bX v.args.a b o) (0<=(↑x:Int)) ((↑x:Int)<aH v.args/\∃(y:PV),aK m h b (bC o x 13) y.enc/\DE y s h N (λp r=>gR (iD r p) (K eW m h) (λg=>aA (I g) (j g<j x) (aA (aG s) (eQ sQn) (aA (aG v.args) (a7 v.args) (aA (aU (aW x 1) g) (m=m) (bH h h))))))))) (K aX m h))) (dJ v.op 6 (eR (mS v) 0 (bT (λb o=>aA (bX v.args.a b o) ((0:Int)<=0) (0<aH v.args/\∃(y:PV),aK m h b (cZ o) y.enc/\DE y s h N (λp r=>K (CV.val (Value.bool (!(iD r p)))) m h)))) (K aX m h)) (K aX m h)))
theorem XQ:di 185 DenS:=by
 refine gO func185 ?_;rintro y m h K ⟨o,s,r,rfl,j,c⟩;refine⟨dG [] [] [] [] false,rfl,aF,Q8 o s m h K,bu,?_⟩;dsimp only[Q8,push_cast];have z:=aZ.slen j;unfold xS at c;refine aB (λd=>?_) (λd=>aB (λn=>?_) (λn=>aB (λf=>?_) (λf=>?_)))
 .rw[if_pos cg]at c;exact c
 .have n:o.kind=2:=cg
  rw[if_neg aC,if_neg aC]at c;exact aE (λ_=>c) (λu=>aE (λ_=>c) (λg=>absurd (show o.index>=((0:Nat):Int)by omega) g))
 .have d:o.kind≠3:=cg
  have f:o.kind=1:=cg
  rw[if_neg d]at c;refine aE (λu=>?_) (λu=>aE (λg=>?_) (λg=>?_))
  .rw[if_neg aC]at c;exact c
  .rw[if_neg aC]at c;exact c
  .rw[if_pos ⟨f,aC,aC⟩]at c
   have A:r[o.index.toNat]? =some (r.getD o.index.toNat zeroV):=by
    grind
   obtain⟨b,off,v,e,rd,rfl⟩:=aZ.at j A;exact⟨b,off,e,aC,aC,_,.imm rd,c⟩
 .have d:o.kind≠3:=cg
  have f:o.kind≠1:=cg
  rw[if_neg d,if_neg (λe=>f e.1)]at c;exact c
theorem XP:di 187 bHX:=by
 refine Ht func187 ?_;rintro u m h K ⟨op,rfl,f⟩;refine⟨vM [] [] [] [] [275] [] false,rfl,aF,KK op m h (lQ h K),bu,?_⟩;show KK op m h (lQ h K);dsimp only[KK,push_cast];intro b J n g;refine⟨_,_,⟨g.at_⟩,bz,λy j=>?_⟩;have c:Sub m y:=((Sub.refl m).upd n.m_ g.other).upd n.m_ j.other;have e:=j.at_
 have d:∀k,¬(1<=op/\op<=6)->op=k->K (.val .nilFunc) m h:=λk L _=>by
  have:(op==1)=false/\(op==2)=false/\(op==3)=false/\(op==4)=false/\(op==5)=false/\(op==6)=false:=by
   grind
  obtain⟨z,A,D,E,F,G⟩:=this;rw[z,A,D,E,F,G]at f;exact f
 refine aE (λH=>.sub c (d _ aC rfl)) (λH=>aE (λI=>.sub c (d _ aC rfl)) (λI=>⟨aC,aC,?_⟩));have:op=0\/op=1\/op=2\/op=3\/op=4\/op=5\/op=6:=by omega
 rcases this with rfl|rfl|rfl|rfl|rfl|rfl|rfl
 .exact⟨none,.lent _ _ _ e rfl,.sub c (d 0 aC rfl)⟩
 .exact⟨some 246,.lent _ _ _ e rfl,.sub c f⟩
 .exact⟨some 247,.lent _ _ _ e rfl,.sub c f⟩
 .exact⟨some 248,.lent _ _ _ e rfl,.sub c f⟩
 .exact⟨some 249,.lent _ _ _ e rfl,.sub c f⟩
 .exact⟨some 250,.lent _ _ _ e rfl,.sub c f⟩
 .exact⟨some 251,.lent _ _ _ e rfl,.sub c f⟩
theorem Xc:di 246 (L9 (λc=>c==0)):=by
 refine gO func246 ?_;rintro d m h K ⟨c,rfl,e⟩;refine⟨dG [] [] [] [] false,rfl,aF,anQ c m h K,bu,?_⟩;exact e
theorem Xb:di 247 (L9 (λc=>c !=0)):=by
 refine gO func247 ?_;rintro d m h K ⟨c,rfl,e⟩;refine⟨dG [] [] [] [] false,rfl,aF,amJ c m h K,bu,?_⟩;exact e
theorem Xa:di 248 (L9 (λc=>decide (c<0))):=by
 refine gO func248 ?_;rintro d m h K ⟨c,rfl,e⟩;refine⟨dG [] [] [] [] false,rfl,aF,amZ c m h K,bu,?_⟩;exact e
theorem W9:di 249 (L9 (λc=>decide (c<=0))):=by
 refine gO func249 ?_;rintro d m h K ⟨c,rfl,e⟩;refine⟨dG [] [] [] [] false,rfl,aF,amX c m h K,bu,?_⟩;exact e
theorem W8:di 250 (L9 (λc=>decide (c>0))):=by
 refine gO func250 ?_;rintro d m h K ⟨c,rfl,e⟩;refine⟨dG [] [] [] [] false,rfl,aF,amQ c m h K,bu,?_⟩;exact e
theorem W7:di 251 (L9 (λc=>decide (c>=0))):=by
 refine gO func251 ?_;rintro d m h K ⟨c,rfl,e⟩;refine⟨dG [] [] [] [] false,rfl,aF,alJ c m h K,bu,?_⟩;exact e
theorem Vv:∀N,di 114 (Tk N)
 |0=>by
  refine eC (fn:=Tryz.f114) (c:=cL Tryz.f114) func114 rfl bz ?_;rintro V m h K ⟨v,s,p,r,rfl,_,_,hN,_⟩;omega
 |N+1=>by
  refine gO func114 ?_;rintro V m h K ⟨v,s,p,r,rfl,hp,F,hN,d⟩;refine⟨aYQ N v s m h,rfl,aD XQ (aD Hw (aD XP (aD HB (aD (Vv N) (aD Xc (aD Xb (aD Xa (aD W9 (aD W8 (aD W7 aF)))))))))),Rw N v s m h K,bu,?_⟩;dsimp only[Rw,push_cast];have z:=@xA p;obtain⟨op,a1,l,q,ps⟩:=p;obtain⟨rfl,rfl,rfl,rfl,G⟩:=hp.parts;have W:=G.slen;have a0:=G.len;simp only[Pred.args]at z;simp only[iD]at d;refine aB (λh1=>?_) (λh1=>aB (λh3=>?_) (λh3=>aB (λh4=>?_) (λh4=>aB (λh5=>?_) (λh5=>aB (λh6=>?_) (λh6=>?_)))))
  .rw[if_pos cg]at d;exact d
  all_goals have n1:v.op≠1:=cm h1
  .rw[if_neg n1,if_pos cg]at d;refine⟨λx=>x=(xS r v.left,xS r v.right),?_,?_⟩
   .repeat' (first|exact⟨_,rfl,MT⟩|refine⟨v.left,s,r,rfl,F,?_⟩|refine⟨v.right,s,r,rfl,F,?_⟩|refine And.intro ?_ ?_)
   .rintro⟨a,b⟩ H;simp only[Prod.mk.injEq]at H;obtain⟨rfl,rfl⟩:=H;generalize xS r v.left=a at d⊢
    generalize xS r v.right=b at d⊢
    have X:qB v.cmp a b=false->K (cB false) m h:=λe=>cg
    refine⟨a,rfl,aB (λn=>X ?_) (λn=>⟨b,rfl,aB (λI=>X ?_) (λI=>aB (λJ=>X ?_) (λJ=>⟨v.cmp,rfl,?_⟩))⟩)⟩
    .have n:jF a=false:=cg
     simp[qB,n]
    .have I:jF b=false:=cg
     simp[qB,I]
    .have J:a.kind≠b.kind:=cg
     simp[qB,J]
    .have n:jF a=true:=cg
     have I:jF b=true:=cg
     have J:a.kind=b.kind:=cg
     have e4:qB v.cmp a b=TH v.cmp (jL a b):=by simp[qB,n,I,J]
     rw[e4]at d;unfold TH at d;refine aB (λA=>?_) (λA=>aB (λD=>?_) (λD=>aB (λE=>?_) (λE=>aB (λL=>?_) (λL=>aB (λT=>?_) (λT=>aB (λY=>?_) (λY=>?_))))))
     all_goals simp only[beq_iff_eq,beq_eq_false_iff_ne]at*
     .rw[if_pos A]at d;exact⟨a,b,rfl,_,rfl,d⟩
     .rw[if_neg A,if_pos D]at d;exact⟨a,b,rfl,_,rfl,d⟩
     .rw[if_neg A,if_neg D,if_pos E]at d;exact⟨a,b,rfl,_,rfl,d⟩
     .rw[if_neg A,if_neg D,if_neg E,if_pos L]at d;exact⟨a,b,rfl,_,rfl,d⟩
     .rw[if_neg A,if_neg D,if_neg E,if_neg L,if_pos T]at d;exact⟨a,b,rfl,_,rfl,d⟩
     .rw[if_neg A,if_neg D,if_neg E,if_neg L,if_neg T,if_pos Y]at d;exact⟨a,b,rfl,_,rfl,d⟩
     .rw[if_neg A,if_neg D,if_neg E,if_neg L,if_neg T,if_neg Y]at d;exact d
  all_goals have n3:v.op≠3:=cm h3
  all_goals rw[if_neg n1,if_neg n3]at d
  .rw[if_pos cg,Fq]at d;refine⟨λi=>i<=ps.length/\∀j:Nat,j<i->∀x,ps[j]? =some x->iD r x=true,λi=>ps.length-i,⟨0,⟨aC,λj M=>by omega⟩,MT⟩,λi⟨hi,O⟩=>aE (λf=>?_) (λZ=>?_)⟩
   .obtain⟨x,g⟩:=eN W f;obtain⟨P,Q,u,n,U,R⟩:=G.at g;have:=z (cr g);refine⟨P,Q,n,aC,f,u,.imm U,u,s,x,r,rfl,R,F,aC,aB (λa'=>?_) (λhe=>⟨i+1,⟨aC,λj M y S=>?_⟩,(show ps.length-(i+1)<ps.length-i by omega),MT⟩)⟩
    .have:ps.all (iD r)=false:=by
      grind
     rw[this]at d;exact d
    grind
   .have:ps.all (iD r)=true:=by
     rw[all_eq_true];intro y S;obtain⟨j,M⟩:=getElem?_of_mem S
     grind
    rw[this]at d;exact d
  all_goals have n4:v.op≠4:=cm h4
  all_goals rw[if_neg n4]at d
  .rw[if_pos cg,Fo]at d;refine⟨λi=>i<=ps.length/\∀j:Nat,j<i->∀x,ps[j]? =some x->iD r x=false,λi=>ps.length-i,⟨0,⟨aC,λj M=>by omega⟩,MT⟩,λi⟨hi,O⟩=>aE (λf=>?_) (λZ=>?_)⟩
   .obtain⟨x,g⟩:=eN W f;obtain⟨P,Q,u,n,U,R⟩:=G.at g;have:=z (cr g);refine⟨P,Q,n,aC,f,u,.imm U,u,s,x,r,rfl,R,F,aC,aB (λhe=>?_) (λa'=>⟨i+1,⟨aC,λj M y S=>?_⟩,(show ps.length-(i+1)<ps.length-i by omega),MT⟩)⟩
    .have:ps.any (iD r)=true:=any_eq_true.2 ⟨x,cr g,he⟩;rw[this]at d;exact d
    grind
   .have:ps.any (iD r)=false:=by
     rw[any_eq_false];intro y S;obtain⟨j,M⟩:=getElem?_of_mem S
     grind
    rw[this]at d;exact d
  all_goals have n5:v.op≠5:=cm h5
  all_goals rw[if_neg n5]at d
  .rw[if_pos cg]at d;refine aE (λh7=>?_) (λh7=>?_)
   .obtain⟨x,g⟩:=eN (i:=0) W aC;obtain⟨P,Q,u,n,U,R⟩:=G.at g;have:=z (cr g)
    have e7:N3 r ps= !iD r x:=by
     cases ps with
     |nil=>simp at g
     |cons y _=>simp at g;subst g;rfl
    rw[e7]at d;exact⟨P,Q,n,aC,aC,u,.imm aC,u,s,x,r,rfl,R,F,aC,d⟩
   .have:ps=[]:=length_eq_zero_iff.1 aC;subst this;exact d
  .rw[if_neg cg]at d;exact d
theorem Yf:di 114 Tl:=jE Vv λ_ _ _ _⟨v,s,p,r,e,c,d,f⟩=>⟨SizeOf.sizeOf p+1,v,s,p,r,e,c,d,aC,f⟩
structure Pp(h:PH)(b:Nat)(l:dl):Prop where
 ex:∃us,G7 h b us/\dT h us l
theorem Pp.mono{l:dl}(x:Pp h b l)(le:PH.le h h'):Pp h' b l:=by
 obtain⟨c,d,e⟩:=x.ex;exact⟨c,d.mono le,e.mono le⟩
structure tN(h:PH)(t:Sl)(bs:eh)(ls:List dl):Prop where
 row:bN h t 1 (bs.map λb=>[Pf b])
 len:bs.length=ls.length
 at_:∀(i b:Nat)(l:dl),bs[i]? =some b->ls[i]? =some l->Pp h b l
structure jG(w:Nat)(l:dl):Prop where
 row:∀r∈l,Pq r
 wid:∀r∈l,r.length=w
 srt:oK l
 len:l.length<=8000000
def P6(l:dl)(x:dn):Bool:=l.any λy=>eJ x y==0
theorem MX{l:dl}{x:dn}:P6 l x=true↔x∈l:=by
 simp only[P6,any_eq_true,beq_iff_eq,i7]
 grind
def Tx(ok:Query->List dl->Prop)(f:Query->List dl->dl):Vc.Spec:=λc m h K=>∃v t q g d,c=[aQ v,cS t]/\bR h q v/\tN h t g d/\jV m/\ok q d/\
 ∀e h',PH.le h h'->Rows h' e (f q d)->K (cS e) m h'
def Tr:Vc.Spec:=λd m h K=>∃t i f c w,d=[cS t,cB i]/\tN h t f c/\jV m/\2<=c.length/\(∀l∈c,jG w l)/\
 ∀e h',PH.le h h'->Rows h' e ((c.getD 0 []).filter λx=>P6 (c.getD 1 []) x==i)->K (cS e) m h'
noncomputable def aMJ:Ctx:=SS [(115,bAZ)] [(6,{A:=Nat×Nat×Sl×Sl×dn×MH×PH,st:=λ⟨i,b,e,c,l,m,h⟩=>bK 40 42 [(5,vv (.pointer (some ⟨b,0,none⟩))),(6,sv e),(7,.at (.lst 17)),(19,sv c),(20,iv c.len),(21,iv i)] [(17,.lst 27 3 (l.map VV.enc))] m h})] [] [200002,200005,1053]
noncomputable abbrev vY(a:Nat):dj:=nT (Value.func (Fn.func 233) vG (Dm a))
abbrev Jb(a:Option Addr)(b c:Int)(d:Sl)(e:MH)(g:Nat->Nat->Option Value)(i:Nat->Nat)(j:Nat->(PH->dj->List dj->Prop)->Prop):Prop:=bT (λx f=>aA (bX a x f) (b<=c) (c<aH d/\∃(n:Nat),aK e g x (i f) (vY n)/\∃(u:PH->dj->List dj->Prop),j n u))
abbrev Dv(a:Nat->Option Obj)(b:Nat->Nat->Option Value)(c:Sl)(d:Nat->MH->Nat->(PH->dj->List dj->Prop)->Prop):Prop:=∀(x:Nat)(e:MH),aT (dZ a b x) (bL a e x iA 53) (Jb c.a 0 0 c e b (λf=>cZ f) (λf g=>d x e f g))
attribute [push_cast] vY Jb Dv
def KH(v:QV)(t:Sl)(m:MH)(h:PH)(K:dk):Prop:=
  ∀(b:Nat)(u:MH),aT (dZ m h b) (bL m u b v.enc 38) (Dv u h t (λg F y S=>tZ S h y F (λI k e f d=>I k f d->∃(j:PV),aK f d b 2 j.enc/\D3 (λz s p r=>aA (D4 j e=D4 z s) (eA d p z) (bI d s r/\branch (iD r p) (FX f d g (λG x=>fX (λA n=>bV f n (bD G) A 94 1 (dY x (aM e))->gE (λc E=>aA (sK n g (fC c E 0)) (fE 0 c) (∀(D:MH),bL n D g (jC (fF A) 1 c) E->I (cE k) D d))))) (I (cE k) f d)))) (λf d=>kW f d g 0 (λj=>K (fD j) f d))))
noncomputable abbrev yO(a:Nat×Nat×Sl×Sl×dn×MH×PH):Sl:=a.2.2.2.1
noncomputable abbrev DQ(a:Nat×Nat×Sl×Sl×dn×MH×PH):List dj:=j6 a.2.2.2.2.1
noncomputable abbrev BU(a:Nat×Nat×Sl×Sl×dn×MH×PH):Nat->Nat->Option Value:=a.2.2.2.2.2.2
noncomputable abbrev DR(a:Nat×Nat×Sl×Sl×dn×MH×PH):Nat->Option Obj:=a.2.2.2.2.2.1
abbrev wA(a:dl)(b:Nat):Prop:=a.length<=b
abbrev qP(a:PH)(b:dl)(c:dk)(d:MH):Prop:=jT (λx e=>dD a e (Rows e x b) (c (fD x) d e))
attribute [push_cast] yO DQ BU DR wA qP
def KG(v:QV)(t:Sl)(m:MH)(h:PH)(K:dk):Prop:=
  ∀(b:Nat)(F:MH),aT (dZ m h b) (bL m F b v.enc 38) (Dv F h t (λG Q y S=>tZ S h y Q (λI k e j f=>I k j f->∃(g:Sl),aA (aK j f b 15 (aM g)) (cC (aH g)) (aA (aH g<=aH g) (sA (aH g*32)) (sA (aH g)/\kW j f b 15 (λH=>∃(I1:Nat×Nat×Sl×Sl×dn×MH×PH->Prop)(J:Nat×Nat×Sl×Sl×dn×MH×PH->Nat),(∃(x:Nat×Nat×Sl×Sl×dn×MH×PH),aA (I1 x) (fO G x.2.1) (aA (bF e x.2.2.1) (eL 17) (aA (bF H (yO x)) (dA H (yO x)) (aA (aY x.1) (cD 27 3 (B6 (aH g) Bl)=cD 27 3 (DQ x)) (bE (cW j x.2.2.2.2.2) f (BU x))))))/\∀(x:Nat×Nat×Sl×Sl×dn×MH×PH),I1 x->aR (↑x.1:Int) (aH (yO x)) (eU (yO x).a 0 (↑x.1:Int) (yO x) (λR o n
 =>aK (DR x) (BU x) R (bC o x.1 1) (cO n)/\bT (λL M=>aA (bX x.2.2.1.a L M) (0<=n) (n<aH x.2.2.1/\∃(z:VV),aA (aK (DR x) (BU x) L (cF M n 3) z.enc) (0<=(↑x.1:Int)) ((↑x.1:Int)<jY (DQ x)/\∃(A:dj),aA (uN (DQ x) (sU x.1) A) (3<=A.length) (∃(d:Nat×Nat×Sl×Sl×dn×MH×PH),aA (I1 d) (J d<J x) (aA (fO x.2.1 d.2.1) (bF x.2.2.1 d.2.2.1) (aA (eL 17) (bF (yO x) (yO d)) (aA (dA (yO x) (yO d)) (aU (aW x.1 1) d.1) (bG (cD 27 3 (List.set (DQ x) (sU x.1) (a8 (fB z.kind) (fB z.int) (Value.string z.text::List.drop 3 A)))=cD 27 3 (DQ d)) (cW (DR x) d.2.2.2.2.2) (BU x=BU d))))))))))) (kW (DR x) (BU x) x.2.1 0 (λn=>bU
 (BU x) 3 (DQ x) (λs T=>∃(d:List dj),aA (cM (DR x) (bD n) 94 1 d) (iS d) (dH d/\fX (λO D=>bV (DR x) D (bD n) O 94 1 (dY d (aM s))->gE (λc E=>aA (sK D x.2.1 (fC c E 0)) (fE 0 c) (∀(P:MH),bL D P x.2.1 (jC (fF O) 1 c) E->I (cE k) P T))))))))))) (λj f=>kW j f G 0 (λg=>∃(s:Sl)(u:dq)(l:dl),aA (jZ g=jZ s) (kS j f s 1 (j7 u)) (aA (dT f u l) (wA l 502633886983) (qP f (uR l) K j))))))
def KD(v:QV)(t:Sl)(m:MH)(h:PH)(K:dk):Prop:=
  bT (λb o=>aA (bX t.a b o) ((0:Int)<=0) (0<aH t/\∃(y:Nat),aK m h b (cZ o) (vY y)/\bT (λe f=>aA (bX t.a e f) ((0:Int)<=1) (1<aH t/\∃(g:Nat),aA (aK m h e (cE f) (vY g)) (bB h e (cE f) (vY g)) (∃(z:Nat)(A:dq),aA (iY (rD y) (rD z)) (G7 h z A) (∀(s:Sl),Iy s 1 A (λc x d=>m x=Option.some d->c x=Option.some d) (λx=>DX m x) (λc=>bB h b (cZ o) (vY y)/\∃(j:Sl)(D:Nat)(u E:dq),aA (dW s (rD g)=dW j (rD D)) (cM c j 94 1 (j7 u)) (aA (G7 h D E) (ML u) (∀(F:Sl),Iy F 1 (u++E) (λn x d=>aT (c x=Option.some d) (∀(i:Nat),kF (bX j.a x i)) (n x=Option.some d)) (λx=>DX c x\/∃(i:Nat),bX j.a x i)
 (λn=>aA (bB h b (cZ o) (vY y)) (bB h e (cE f) (vY g)) (∃(G:Sl)(H:dq)(l:dl),aA (jZ F=jZ G) (kS n h G 1 (j7 H)) (aA (dT h H l) (wA l 502633886983) (qP h (uR l) K n)))))))))))))
abbrev DS(a:MH)(b:PH)(c:Nat)(d:Nat->MH->Prop):Prop:=∀(x:Nat)(e:MH),aT (dZ a b x) (bL a e x (nT (Value.map Option.none)) c) (d x e)
noncomputable abbrev qW(a:Nat):dj:=nT (Value.map (Option.some a))
abbrev dP(a:MH)(b:PH)(c d:Nat):Prop:=aK a b c 0 (qW d)
abbrev wE(a:MH)(b:Nat)(c:(Value->Prop)->Value->Prop)(d:(Value->Prop)->Prop)(e:Value)(g:(Value×Value)->Value×Value)(i:du->du)(j:du->(Value×Value)->Prop)(k:du->Prop)(l:du->du->Value->du->Prop):Prop:=Ws (λx n=>aA (pG a b x) (Gw (c n)) (aA (d n) (gG (Instr.sameBits 10000 e e)) (aA (∀(f:Value×Value),List.Mem (g f) (i x)->(c n) (g f).1) ((∀(f:Value×Value),j x f)->k x) (∀(f:du)(u:Value)(y:du),l x f u y))))
noncomputable abbrev E4(a:dn):Value:=Value.string (eF a)
attribute [push_cast] DS qW dP wE E4
def Ky(t:Sl)(i:Bool)(m:MH)(h:PH)(K:dk):Prop:=
  ∀(b:Nat)(T:MH),aT (dZ m h b) (bL m T b (nT (Value.bool i)) 4) (DF T h 0 (λW X=>DS X h 169 (λD U=>gE (λc E=>aA (sK U D (fC c E 0)) (fE 0 c) (∀(R:MH),bL U R D (jC (Value.map (Option.some W)) 1 c) E->Jb t.a 0 1 t R h (λo=>cE o) (λy S=>tZ S h y R (λI k e j n=>I k j n->∃(u:Nat),aA (dP j n D u) (dP j n D u) (pL (λs r=>aA (jZ e=jZ s) (bI n s r) (aA (Pq r) (jV j) (aK j n D 0 (qW u)/\wE j u (λO=>O) (λO=>O (E4 r)) (E4 r) (λz=>z) (λg=>g) (λg z=>rX (List.Mem z g) (z.1=E4 r)) (λg=>∀(A:MH),aT (j8 j A u) (pG A u (g++Ac (E4 r) Cv)) (I (cE k) A n)) (λg l v V=>g=l++mW (E4 r) v V->∀(A:MH),aT
 (j8 j A u) (pG A u (l++mW (E4 r) Cv V)) (I (cE k) A n))))))) (λj n=>Dv j n t (λF A u S1=>tZ S1 n u A (λI k e d f=>I k d f->∃(J:Nat),aK d f D 0 (qW J)/\∃(L:Bool),aA (aK d f b 0 (nT (Value.bool L))) (dP d f D J) (aK d f b 0 (nT (Value.bool L))/\pL (λs r=>aA (jZ e=jZ s) (bI f s r) (aA (Pq r) (jV d) (aA (dP d f D J) (aK d f b 0 (nT (Value.bool L))) (aK d f b 0 (nT (Value.bool L))/\∃(g:List (Value×Bool))(O:Value->Prop),aA (Cp d J (List.map (fun(p:Value×Bool)=>(p.1,Value.bool p.2)) g)) (Gw O) (aA (O (E4 r)) (∀(z:Value×Bool),List.Mem z g->O z.1) (hU (∀(z:Value×Bool),rX (List.Mem z g) (z.1=E4 r)) (false==L) (FX d f F (λQ x=>fX (fun
 M G=>bV d G (bD Q) M 94 1 (dY x (aM e))->gE (λH E1=>aA (sK G F (fC H E1 0)) (fE 0 H) (∀(P:MH),bL G P F (jC (fF M) 1 H) E1->I (cE k) P f))))) (I (cE k) d f)/\∀(Q:Bool),hU (List.Mem (E4 r,Q) g) (Q==L) (FX d f F (λY x=>fX (λM G=>bV d G (bD Y) M 94 1 (dY x (aM e))->gE (λH E1=>aA (sK G F (fC H E1 0)) (fE 0 H) (∀(P:MH),bL G P F (jC (fF M) 1 H) E1->I (cE k) P f))))) (I (cE k) d f))))))))) (λd f=>kW d f F 0 (λJ=>K (fD J) d f))))))))))
abbrev Af(a:eh->(List dl)->Prop):Prop:=∃(x:eh)(c:List dl),a x c
abbrev wF(a:List dl)(b:dl->Prop):Prop:=∀(x:dl),List.Mem x a->b x
noncomputable abbrev Di(a:List dl)(b:Nat):dl:=List.getD a b []
attribute [push_cast] Af wF Di
def aoQ(v:QV)(t:Sl)(m:MH)(h:PH)(K:dk):Prop:=
  ∃(c:Sl)(i:Bool),Af (λb l=>∃(w:Nat),aA (dW t aX=dW c (zU i)) (tN h c b l) (aA (jV m) (2<=l.length) (wF l (λd=>jG w d)/\qP h (filter (fun(x:dn)=>P6 (Di l 1) x==i) (Di l 0)) K m)))
def anJ(v:QV)(t:Sl)(m:MH)(h:PH)(K:dk):Prop:=
  ∃(c:Sl)(i:Bool),Af (λb l=>∃(w:Nat),aA (dW t eW=dW c (zU i)) (tN h c b l) (aA (jV m) (2<=l.length) (wF l (λd=>jG w d)/\qP h (filter (fun(x:dn)=>P6 (Di l 1) x==i) (Di l 0)) K m)))
abbrev Br(a:Sl->dn->dm->Prop):Prop:=pL (λx c=>∃(d:dm),a x c d)
abbrev lW(a:dn)(b:dm):Prop:=gP a.length b
noncomputable abbrev dU(a:dn)(b:dm):Value:=E4 (pick a b)
attribute [push_cast] Br lW dU
def KE(v:QV)(t:Sl)(m:MH)(h:PH)(K:dk):Prop:=
  E9 (λs o=>aA (p9 v.on s) (lE h s o) (∀(a:Sl),jT (λb z=>dD h z (Ints z a (fZ o)) (Ints z b (fU o)->∀(J:Nat)(R:MH),aT (dZ m z J) (bL m R J iA 33) (∀(L:Nat)(T:MH),aT (dZ R z L) (bL R T L iA 33) (gE (λc E=>aA (sK T J (fC c E 0)) (fE 0 c) (∀(U:MH),bL T U J (jC (fF a) 1 c) E->gE (λV E1=>aA (sK U L (fC V E1 0)) (fE 0 V) (∀(m4:MH),bL U m4 L (jC (fF b) 1 V) E1->DF m4 z 0 (λb3 m5=>DS m5 z 169 (λG m6=>gE (λW E2=>aA (sK m6 G (fC W E2 0)) (fE 0 W) (∀(X:MH),bL m6 X G (jC (Value.map (Option.some b3)) 1 W) E2->Jb t.a 0 1 t X z (λo1=>cE o1) (λy S=>tZ S z y X (λI k e n j=>I k n j->∃(u:Nat),aK n j G 0 (qW u)
 /\∃(A:Sl),aA (aK n j L 0 (aM A)) (dP n j G u) (∃(M:Sl),Br (λP r d=>aA (fN e A=fN M P) (bI j M r) (aA (Ints j P d) (Pq r) (aA (lW r d) (jV n) (dP n j G u/\wE n u (λO=>O) (λO=>O (dU r d)) (dU r d) (λH=>H) (λD=>D) (λD H=>rX (List.Mem H D) (H.1=dU r d)) (λD=>∀(F:MH),aT (j8 n F u) (pG F u (D++Ac (dU r d) Cv)) (I (cE k) F j)) (λD l v1 l1=>D=l++mW (dU r d) v1 l1->∀(F:MH),aT (j8 n F u) (pG F u (l++mW (dU r d) Cv l1)) (I (cE k) F j)))))))) (λn j=>Dv n j t (λQ F u S1=>tZ S1 j u F (λI k e f g=>I k f g->∃(A:Nat),aK f g G 0 (qW A)/\∃(Y:Sl),aA (aK f g J 0 (aM Y)) (dP f g
 G A) (∃(M:Sl),Br (λP r d=>aA (fN e Y=fN M P) (bI g M r) (aA (Ints g P d) (Pq r) (aA (lW r d) (jV f) (aA (dP f g G A) (aK f g J 0 (aM Y)) (MF f A (λO=>O (dU r d)) (λD H=>rX (List.Mem H D) (H.1=dU r d)) (I (cE k) f g) (dU r d) (FX f g Q (λy4 x=>fX (λs2 Z=>bV f Z (bD y4) s2 94 1 (dY x (aM e))->gE (λc4 E3=>aA (sK Z Q (fC c4 E3 0)) (fE 0 c4) (∀(a3:MH),bL Z a3 Q (jC (fF s2) 1 c4) E3->I (cE k) a3 g)))))))))))) (λf g=>kW f g Q 0 (λA=>K (fD A) f g)))))))))))))))))))
def En(m c:MH)(b:Nat):Prop:=∀x o,m x=some o->x≠b->c x=some o
structure pE(m mx:MH)(b:Nat)(us:dq):Prop where
 ex:∃s:Sl,mx b=some (.cells #[.slice s.a s.len s.cap] 53 (0,0))/\cM mx s 94 1 (us.map eS)/\∀i x,s.a=some ⟨x,i,none⟩->m x=none
theorem pE.new(c:m' b=some (.cells #[sJ] 53 (0,0))):pE m m' b []:=⟨⟨none,0,0⟩,c,⟨qF [],.inl ⟨rfl,rfl⟩⟩,λi x e=>by cases e⟩
theorem Ii{c:MH}{s:Sl}{us:dq}{e:Sl}{Q:MH->Prop}(d:∃o,m b=some o)(F:En m c b)(G:c b=some (.cells #[.slice s.a s.len s.cap] 53 (0,0)))(f:cM c s 94 1 (us.map eS))(H:∀i x,s.a=some ⟨x,i,none⟩->m x=none)(R:us.length<=502633886983)(I:∀m',En m m' b->pE m m' b (us++[e])->Q m'):
 ∃xs:List dj,cM c (Sl.mk s.a s.len s.cap) 94 1 xs/\(xs.length+1)*24<=140737488355328/\xs.length<140737488355328/\∀(z:Sl)(m':MH),bV c m' (Sl.mk s.a s.len s.cap) z 94 1 (xs++[[fF e]])->
  ∃(cs:Array Value)(E:TypeId),sK m' b (.cells cs E (0,0))/\0<cs.size/\∀m2:MH,gI m' m2 b (.cells (Array.mk (fF z::cs.toList.drop 1)) E (0,0))->Q m2:=by
 obtain⟨S,d⟩:=d;have A:∀i,s.a≠some ⟨b,i,none⟩:=λi g=>cg
 refine⟨us.map eS,f,cg,cg,λz m' n=>⟨_,_,⟨n.other b _ G A⟩,bx,λm2 D=>I m2 ?_ ⟨z,D.at_,?_,?_⟩⟩⟩
 .intro x o J u;rw[D.other x u];exact n.other x o (F x o J u) (λi g=>cg)
 .have L:(us++[e]).map eS=us.map eS++[[fF e]]:=by simp[eS]
  rw[L];refine cM.keep n.row (λx i g=>D.other x (λM=>?_));subst M;rcases n.fresh x i g with y|⟨j,y⟩
  .grind
  grind
 .intro i x g;rcases n.fresh x i g with y|⟨j,y⟩
  .cases O:m x with
   |none=>rfl
   |some o=>
    by_cases P:x=b
    .grind
    .rw[F x o O P]at y;cases y
  grind
theorem pE.app{c:MH}{hx:PH}{us:dq}{e:Sl}{Q:MH->Prop}(f:∃o,m b=some o)(u:En m c b)(o:pE m c b us)(z:us.length<=502633886983)(A:∀m',En m m' b->pE m m' b (us++[e])->Q m'):
 ∃y:Sl,aK c hx b 0 [fF y]/\∃xs:List dj,cM c (Sl.mk y.a y.len y.cap) 94 1 xs/\(xs.length+1)*24<=140737488355328/\xs.length<140737488355328/\∀(j:Sl)(m':MH),bV c m' (Sl.mk y.a y.len y.cap) j 94 1 (xs++[[fF e]])->
  ∃(cs:Array Value)(E:TypeId),sK m' b (.cells cs E (0,0))/\0<cs.size/\∀m2:MH,gI m' m2 b (.cells (Array.mk (fF j::cs.toList.drop 1)) E (0,0))->Q m2:=by
 obtain⟨s,n,d,g⟩:=o.ex;exact⟨s,.of_m n rfl,Ii f u n d g z A⟩
theorem eX.sub{hx:PH}{r:CV}(sub:Sub m m')(le:PH.le h hx)(c:K r m hx):eX h K r m' hx:=λ_=>⟨m,hx,sub,le,λ_ _ _ e=>.inl e,c⟩
theorem eX.row{hx:PH}{s:Sl}{us:dq}(sub:Sub m m')(le:PH.le h hx)(n:cM m' s 94 1 (us.map eS))(G:∀i b,s.a=some ⟨b,i,none⟩->m b=none)(y:∀h',PH.le hx h'->bN h' s 1 (us.map eS)->K (cS s) m h'):eX h K (cS s) m' hx:=by
 intro H;rcases n.ex with⟨rfl,f⟩|⟨b,I,d,rfl,z,J,T,U,L⟩
 .refine⟨m,hx,sub,le,λb i v e=>.inl e,y hx (.refl _) ?_⟩;rw[f];exact bN.nil _ _
 .have A:∀i,hx b i=none:=H b _ z;refine⟨m,kP hx b d.toList,sub,le.trans (Cd A),λD i v e=>?_,y _ (Cd A) ⟨?_,?_,?_⟩⟩
  .by_cases E:D=b
   .subst E;simp only[kP,if_true]at e;exact .inr ⟨d,94,(0,0),z,by rw[<-dd];exact e,G 0 D rfl⟩
   .simp only[kP,if_neg E]at e;exact .inl e
  .simp
  .by_cases M:us.map eS=[]
   .exact .inl M
   .refine .inr ⟨b,0,rfl,λi e c=>⟨λj v F=>?_⟩⟩;have O:=n.rows.len e (cr c);have P:j=0:=cg
    subst P;have Q:=(cn c)
    have R:((us.map eS).flatten)[i]? =some v:=by
     rw[getElem?_map]at c;cases g:us[i]? with
     |none=>grind
     |some u=>
      rw[g]at c;simp at c;subst c;simp[eS]at F;subst F
      have:∀l:dq,(l.map eS).flatten=l.map λu=>Value.slice u.a u.len u.cap:=λl=>by
       induction l with
       |nil=>rfl
       |cons a l S=>simp only[map_cons,flatten_cons,S];rfl
      grind
    rw[<-L,getElem?_take,if_pos aC]at R;simp only[kP,if_true]
    grind
  .exact J
structure sH(m:MH)(y:Nat)(ks:fb):Prop where
 ex:∃kk:fb,pG m y (kk.map λk=>(Value.string k,Value.bool true))/\∀k,k∈kk↔k∈ks
theorem sH.keep{y:Nat}{ks:fb}(s:sH m y ks)(u:m' y=m y):sH m' y ks:=by
 obtain⟨d,⟨e,c,z,f,g,j⟩,n⟩:=s.ex;exact⟨d,⟨e,c,cg,f,g,j⟩,n⟩
theorem sH.new{y:Nat}(h:m y=some (.map #[] 0)):sH m y []:=⟨[],⟨#[],0,h,rfl,bx,bx⟩,bx⟩
theorem sH.get{y:Nat}{ks:fb}{key:ByteArray}{K:Bool->Prop}(s:sH m y ks)(g:∀t:Bool,(t=true↔key∈ks)->K t):
 ∃(d:List (Value×Bool))(Ok:Value->Prop),Cp m y (d.map λp=>(p.1,Value.bool p.2))/\KeyLaw Tryz.prog 9 Ok/\Ok (.string key)/\(∀e,List.Mem e d->Ok e.1)/\((∀e,List.Mem e d->e.1=Value.string key->False)->K false)/\∀t,List.Mem (Value.string key,t) d->K t:=by
 obtain⟨j,⟨u,c,z,A,_,_⟩,D⟩:=s.ex;refine⟨j.map λk=>(Value.string k,true),_,⟨u,c,z,by rw[A];simp⟩,C9,⟨key,rfl⟩,λe E=>?_,λF=>g false ⟨λe=>(by cases e),λf=>?_⟩,λt n=>g t ⟨λ_=>?_,λ_=>?_⟩⟩
 .obtain⟨k,_,rfl⟩:=mem_map.1 (show e∈_ from E)
  grind
 .exact(F (Value.string key,true) (mem_map.2 (⟨key,(D key).2 f,rfl⟩:∃a,a∈j/\(Value.string a,true)=(Value.string key,true))) rfl).elim
 .obtain⟨k,f,e⟩:=mem_map.1 (show(Value.string key,t)∈_ from n)
  grind
 .obtain⟨k,f,e⟩:=mem_map.1 (show(Value.string key,t)∈_ from n)
  grind
theorem TT(key:ByteArray):Instr.sameBits 10000 (Value.string key) (Value.string key)=true:=by
 show(key==key)=true;cases key with
 |mk d=>exact beq_self_eq_true d
theorem sH.put{y:Nat}{ks:fb}{key:ByteArray}{Q:MH->Prop}(s:sH m y ks)(z:∀m':MH,j8 m m' y->sH m' y (key::ks)->Q m'):
 ∃(c:du)(Ok:Value->Prop),pG m y c/\KeyLaw Tryz.prog 9 Ok/\Ok (.string key)/\Instr.sameBits 10000 (Value.string key) (Value.string key)=true/\(∀e,List.Mem e c->Ok e.1)/\((∀e,List.Mem e c->e.1=Value.string key->False)->∀m':MH,j8 m m' y->pG m' y (c++[(Value.string key,Value.bool true)])->Q m')/\
  ∀(g:du)(d:Value)(j:du),c=g++(Value.string key,d)::j->∀m':MH,j8 m m' y->pG m' y (g++(Value.string key,Value.bool true)::j)->Q m':=by
 obtain⟨f,A,E⟩:=s.ex;refine⟨_,_,A,C9,⟨key,rfl⟩,TT key,λe D=>?_,λF m' n u=>z m' n ⟨f++[key],cg,λk=>?_⟩,λg d j e m' n u=>z m' n ⟨f,?_,λk=>?_⟩⟩
 .obtain⟨k,_,rfl⟩:=mem_map.1 (show e∈_ from D)
  grind
 .grind
 .have:(Value.string key,d)∈f.map λk=>(Value.string k,Value.bool true):=by rw[e];simp
  grind
 .have:(Value.string key,d)∈f.map λk=>(Value.string k,Value.bool true):=by rw[e];simp
  grind
theorem tN.get{t:Sl}{d:eh}{ls:List dl}(a:tN h t d ls){l:dl}(f:ls[i]? =some l):∃b off x,t.a=some ⟨b,off,none⟩/\(i:Int)<(t.len:Int)/\bB h b (off+i) [Pf x]/\Pp h x l:=by
 have j:=(cn f);have g:d[i]? =some (d[i]'(by rw[a.len];exact j)):=cq _;obtain⟨b,o,e,rd⟩:=a.row.get (i:=i) (e:=[Pf (d[i]' cg)]) (by simp[g]);have c:=a.row.len;simp only[length_map]at c;have:=a.len;exact⟨b,o,_,e,aC,cg,a.at_ i _ l g f⟩
theorem dT.at'{us:dq}{rs:dl}(x:dT h us rs){u:Sl}(c:us[i]? =some u):∃r,rs[i]? =some r/\bI h u r:=by
 have d:=(cn c);obtain⟨v,e,f⟩:=x.at_ i _ (cq (by rw[<-x.len];exact d))
 grind
theorem kA{α:Type}{l:List α}{k:Nat}{x:α}(p:α->Bool)(hx:l[k]? =some x):(l.take (k+1)).filter p=(l.take k).filter p++(if p x then[x]else[]):=by
 rw[db,hx,Option.toList_some,filter_append]
 grind
theorem Sub.x{d f:MH}(h:Sub m d)(g:m b=none)(hx:En d f b):Sub m f:=λx o c=>hx x o (h x o c) (λe=>cg)
def Ex(n:Nat):Query->List dl->Prop:=λ_ c=>n<=c.length/\∀l∈c,∃w,jG w l
def Jo(q:Query)(ls:List dl):dl:=match q with|.mk _ _ w _ _ _ _ _ _=>(ls.getD 0 []).filter λr=>iD r w
theorem Al{ls:List dl}{i:Nat}(h:i<ls.length):ls[i]? =some (ls.getD i []):=by
 grind
theorem Jm{f:FuncId}{fn:Func}(n:Tryz.prog.funcs[f]? =some fn){S:Vc.Spec}(j:∀c m h K,S c m h K->∃C:Ctx,C.P=Tryz.prog/\(∀g S,assoc C.specs g=some S->di g S)/\∃N:Prop,N=Zd C fn (cL fn) (entry fn.ntmps c m h) (eX h K)/\N)(u:fn.body=some (cL fn):=by rfl)(d:(fn.name== "runtime.NumGoroutine")=false:=by decide):di f S:=WE n u d λc m h K y=>let⟨C,hC,hs,N,e,hn⟩:=j c m h K y;⟨C,hC,hs,e▸hn⟩
theorem Xn:di 234 (Tx (Ex 1) Jo):=by
 refine Jm func234 ?_;rintro a' m h K ⟨v,t,q,bs,ls,rfl,hq,ha,_,A,P⟩;refine⟨SS [(114,Tl)] [] [] [200002,200005,1053],rfl,aD Yf aF,KH v t m h (eX h K),bu,?_⟩;show KH v t m h (eX h K);dsimp only[KH,push_cast];intro b m1 Q D F R G n;have f:Sub m m1:=(Sub.refl m).upd Q.m_ D.other
 have H:m F=none:=by
  cases e:m F with
  |none=>rfl
  |some o=>have I:=f F o e;rw[G.m_]at I;cases I
 have g:Sub m R:=f.upd H n.other;have J:b≠F:=λe=>by have:=G.m_;rw[<-e,D.at_]at this;cases this
 obtain⟨b3,off,x,ea,a0,rd,Z⟩:=ha.get (Al (i:=0) (by have:=A.1;omega));obtain⟨us,u,E⟩:=Z.ex;obtain⟨op,ta,w,co,on,gr,od,li,args⟩:=q;have xq:=hq.parts;obtain⟨wd,z⟩:=A.2 _ (cr (Al (i:=0) (by have:=A.1;omega)));simp only[Jo]at P;generalize ls.getD 0 []=l at u E P z Z;have S:=E.len;have a1:=z.len;refine⟨b3,off,ea,aC,aC,x,.imm rd,xW,us,λk O T=>T=h/\En R O F/\∃c,pE R O F c/\c.length<=k/\dT h c ((l.take k).filter λr=>iD r w),wZ,⟨x,us,rfl,u,rfl⟩,⟨rfl,λx o e _=>e,[],pE.new n.at_,bx,cm (dT.nil h)⟩,?_,?_⟩
 .rintro k e O T hk-⟨rfl,L,c,d,U,j⟩
  obtain⟨r,hr,hv⟩:=E.at' hk;have a2:=(cn hk);refine⟨v.where_,.of_m (L b _ (by rw[n.other b J];exact D.at_) J) rfl,v.where_,e,w,r,rfl,xq.where_,hv,aB (λht=>?_) (λhf=>?_)⟩
  .refine pE.app ⟨_,n.at_⟩ L d aC (λm' V W=>⟨rfl,V,c++[e],W,ce,?_⟩);rw[kA _ hr,if_pos ht];exact j.snoc hv
  .refine⟨rfl,L,c,d,aC,?_⟩;rw[kA _ hr,if_neg (by simp[hf]),append_nil];exact j
 .rintro O T-⟨rfl,L,c,d,U,j⟩
  rw[S,take_length]at j;obtain⟨s,hb,M,X⟩:=d.ex;refine⟨s,.of_m hb rfl,eX.row (g.x H L) (.refl _) M (λi y e=>?_) (λh' le Y=>P s h' le ((j.mono le).rows Y cg))⟩;cases e2:m y with
  |none=>rfl
  |some o=>have I:=X i y e;rw[g y o e2]at I;cases I
end Go.Ps
