/- Own work. -/
import Derived.Shelf.SlSorted.Search
import Derived.Shelf.SlSortCmp.NoneTotal
import Derived.Shelf.Small.Strs
import Derived.Shelf.Strconv.Itoa0
import Derived.Shelf.Strconv.Itoa1
import Derived.Shelf.LaysM
import Derived.Shelf.Strconv.Itoa2
import Derived.Shelf.Strconv.AppendUint10
import Derived.Shelf.Strconv.AppendInt10
import Derived.Shelf.Strconv.AppendIntPublic10
import Derived.Test.YtafjlhgalgfiaaaGreatDoorProg
import Derived.Lib.ItoaLen
import Derived.RangeFuncWrites
import Derived.OrdersIn
import Derived.Test.YtafjlhgalgfiaaaGreatDoorCe
set_option linter.unusedVariables false
set_option linter.unusedSimpArgs false
namespace Go.Proofs
open Go.Shelf List
def Tryz.lays213_ren:Go.Shelf.Ren:=⟨λ |213=>243|265=>261|n=>n,λ |9=>9|3=>3|n=>n,λ |n=>n⟩
def Tryz.lays106_ren:Go.Shelf.Ren:=⟨λ |106=>201|213=>243|265=>261|n=>n,λ |9=>9|3=>3|n=>n,λ |n=>n⟩
theorem Tryz.lays106:Go.Proofs.Lays.n106 Tryz.prog Tryz.lays106_ren:={
 mixed:=ax
 f106:=func201.trans (congrArg some ax)
 f213:=func243.trans (congrArg some ax)
 f265:=func261.trans (congrArg some ax)
 t3:=Tryz.underlying3
 a3:=Tryz.isAgg3
 z3:=Tryz.sizeOf3
 v3:=Tryz.zeroValue3
 t9:=Tryz.underlying9
 a9:=Tryz.isAgg9
 z9:=Tryz.sizeOf9
 v9:=Tryz.zeroValue9}
open Go.RowKit in
theorem Tryz.strings_Compare a b w:
 Calls Tryz.prog 201 #[.string a,.string b] w λe w'=>e= .returned (.int .i64 (Lib.compareBytes a.data.toList b.data.toList))/\w'=w:=Any.strings_Compare Tryz.lays106 a b w
def Tryz.lays283_ren:Go.Shelf.Ren:=⟨λ |283=>270|n=>n,λ |3=>3|9=>9|4=>4|n=>n,λ |n=>n⟩
theorem Tryz.lays283:Go.Proofs.Lays.n283 Tryz.prog Tryz.lays283_ren:={
 mixed:=ax
 f283:=func270.trans (congrArg some ax)
 t3:=Tryz.underlying3
 a3:=Tryz.isAgg3
 z3:=Tryz.sizeOf3
 v3:=Tryz.zeroValue3
 t4:=Tryz.underlying4
 a4:=Tryz.isAgg4
 z4:=Tryz.sizeOf4
 v4:=Tryz.zeroValue4
 t9:=Tryz.underlying9
 a9:=Tryz.isAgg9
 z9:=Tryz.sizeOf9
 v9:=Tryz.zeroValue9}
open Go.Lib in
theorem Tryz.internal_strconv_small(i:Nat)(h:i<100) w:
 Calls Tryz.prog 270 #[.int .i64 i] w λe w'=>e= .returned (.string ⟨(Lib.decDigits i).toArray⟩)/\w'=w:=Any.internal_strconv_small Tryz.lays283 i h w
def Tryz.laysM284_ren:Go.Shelf.Ren:=⟨λ |284=>271|129=>234|317=>275|318=>276|n=>n,λ |53=>263|3=>3|212=>296|0=>0|4=>4|46=>215|5=>5|9=>9|n=>n,λ |17=>1|n=>n⟩
theorem Tryz.laysM284:Go.Proofs.LaysM.n284 Tryz.prog Tryz.laysM284_ren:={
 mixed:=ax
 f129:=func234.trans (congrArg some ax)
 f284:=func271.trans (congrArg some ax)
 f317:=func275.trans (congrArg some ax)
 f318:=func276.trans (congrArg some ax)
 t0:=Tryz.underlying0
 a0:=Tryz.isAgg0
 z0:=Tryz.sizeOf0
 v0:=Tryz.zeroValue0
 t3:=Tryz.underlying3
 a3:=Tryz.isAgg3
 z3:=Tryz.sizeOf3
 v3:=Tryz.zeroValue3
 t4:=Tryz.underlying4
 a4:=Tryz.isAgg4
 z4:=Tryz.sizeOf4
 v4:=Tryz.zeroValue4
 t5:=Tryz.underlying5
 a5:=Tryz.isAgg5
 z5:=Tryz.sizeOf5
 v5:=Tryz.zeroValue5
 t9:=Tryz.underlying9
 a9:=Tryz.isAgg9
 z9:=Tryz.sizeOf9
 v9:=Tryz.zeroValue9
 t46:=Tryz.underlying215
 a46:=Tryz.isAgg215
 z46:=Tryz.sizeOf215
 v46:=Tryz.zeroValue215
 t53:=Tryz.underlying263
 a53:=Tryz.isAgg263
 z53:=Tryz.sizeOf263
 v53:=Tryz.zeroValue263
 t212:=Tryz.underlying296
 a212:=Tryz.isAgg296
 z212:=Tryz.sizeOf296
 v212:=Tryz.zeroValue296
 g17:=ax
 i0:=ax
 i3:=ax
 i4:=ax
 i5:=ax
 i9:=ax
 i46:=ax
 i53:=ax
 i212:=ax
 m17:=by kernel_rfl}
open Go.Lib in
theorem Tryz.internal_strconv_numDigits(u:Nat)(b:1<=u)(c:u<18446744073709551616) w(a:Lib.TabIs Tryz.prog w "internal/strconv.uint64pow10" .u64 Lib.pow10Tab):
 Calls Tryz.prog 271 #[.int .u64 u] w λe w'=>e= .returned (.int .i64 (Lib.nDigits u))/\w'=w:=Any.internal_strconv_numDigits Tryz.laysM284 u b c w a
def Tryz.lays285_ren:Go.Shelf.Ren:=⟨λ |285=>272|n=>n,λ |37=>22|53=>263|3=>3|4=>4|51=>261|9=>9|5=>5|0=>0|n=>n,λ |n=>n⟩
theorem Tryz.lays285:Go.Proofs.Lays.n285 Tryz.prog Tryz.lays285_ren:={
 mixed:=ax
 f285:=func272.trans (congrArg some ax)
 t0:=Tryz.underlying0
 a0:=Tryz.isAgg0
 z0:=Tryz.sizeOf0
 v0:=Tryz.zeroValue0
 t3:=Tryz.underlying3
 a3:=Tryz.isAgg3
 z3:=Tryz.sizeOf3
 v3:=Tryz.zeroValue3
 t4:=Tryz.underlying4
 a4:=Tryz.isAgg4
 z4:=Tryz.sizeOf4
 v4:=Tryz.zeroValue4
 t5:=Tryz.underlying5
 a5:=Tryz.isAgg5
 z5:=Tryz.sizeOf5
 v5:=Tryz.zeroValue5
 t9:=Tryz.underlying9
 a9:=Tryz.isAgg9
 z9:=Tryz.sizeOf9
 v9:=Tryz.zeroValue9
 t37:=Tryz.underlying22
 a37:=Tryz.isAgg22
 z37:=Tryz.sizeOf22
 v37:=Tryz.zeroValue22
 t51:=Tryz.underlying261
 a51:=Tryz.isAgg261
 z51:=Tryz.sizeOf261
 v51:=Tryz.zeroValue261
 t53:=Tryz.underlying263
 a53:=Tryz.isAgg263
 z53:=Tryz.sizeOf263
 v53:=Tryz.zeroValue263}
open Go.RowKit Go.Sort Go.Lib in
theorem Tryz.internal_strconv_formatBase10 blk off a(u:Nat) d w(h:Holds (fun(b:UInt8)=>Value.int .u8 (b.toNat:Int)) w blk off d)(i:u<10^d.size)(c:u<18446744073709551616)(f:d.size<4611686018427387904):
 Calls Tryz.prog 272 #[.slice (some ⟨blk,off,none⟩) d.size a,.int .u64 u] w λe w'=>
  e= .returned (.tuple #[])/\∃(n j:Nat)(g:Array UInt8),w'=(putRow (fun(b:UInt8)=>Value.int .u8 (b.toNat:Int)) w blk off g).drewN n/\FmtInv d.size u 0 j g:=Any.internal_strconv_formatBase10 Tryz.lays285 blk off a u d w h i c f
def Tryz.sortF_ren:Go.Shelf.Ren:=⟨λ |6=>135|15=>182|14=>181|28=>233|29=>234|20=>225|21=>226|22=>227|23=>228|24=>229|25=>230|26=>231|27=>232|46=>254|47=>255|48=>256|49=>257|50=>258|57=>265|n=>n,λ |22=>58|24=>65|25=>116|3=>3|39=>215|0=>0|53=>261|55=>263|4=>4|46=>255|45=>254|50=>136|5=>5|9=>9|66=>274|70=>237|76=>283|77=>284|n=>n,λ |n=>n⟩
theorem Tryz.sortF:Go.Proofs.SlLaysF.n6 Tryz.prog Tryz.sortF_ren:={
 mixed:=ax
 f6:=⟨Tryz.f135.name,az,func135.trans (congrArg some ax)⟩
 f14:=⟨Tryz.f181.name,az,func181.trans (congrArg some ax)⟩
 f15:=func182.trans (congrArg some ax)
 f20:=⟨Tryz.f225.name,az,func225.trans (congrArg some ax)⟩
 f21:=⟨Tryz.f226.name,az,func226.trans (congrArg some ax)⟩
 f22:=⟨Tryz.f227.name,az,func227.trans (congrArg some ax)⟩
 f23:=⟨Tryz.f228.name,az,func228.trans (congrArg some ax)⟩
 f24:=⟨Tryz.f229.name,az,func229.trans (congrArg some ax)⟩
 f25:=⟨Tryz.f230.name,az,func230.trans (congrArg some ax)⟩
 f26:=⟨Tryz.f231.name,az,func231.trans (congrArg some ax)⟩
 f27:=⟨Tryz.f232.name,az,func232.trans (congrArg some ax)⟩
 f28:=func233.trans (congrArg some ax)
 f29:=func234.trans (congrArg some ax)
 f46:=⟨Tryz.f254.name,az,func254.trans (congrArg some ax)⟩
 f47:=func255.trans (congrArg some ax)
 f48:=func256.trans (congrArg some ax)
 f49:=⟨Tryz.f257.name,az,func257.trans (congrArg some ax)⟩
 f50:=⟨Tryz.f258.name,az,func258.trans (congrArg some ax)⟩
 f57:=⟨Tryz.f265.name,az,func265.trans (congrArg some ax)⟩
 t0:=Tryz.underlying0
 a0:=Tryz.isAgg0
 z0:=Tryz.sizeOf0
 v0:=Tryz.zeroValue0
 t3:=Tryz.underlying3
 a3:=Tryz.isAgg3
 z3:=Tryz.sizeOf3
 v3:=Tryz.zeroValue3
 t4:=Tryz.underlying4
 a4:=Tryz.isAgg4
 z4:=Tryz.sizeOf4
 v4:=Tryz.zeroValue4
 t5:=Tryz.underlying5
 a5:=Tryz.isAgg5
 z5:=Tryz.sizeOf5
 v5:=Tryz.zeroValue5
 t9:=Tryz.underlying9
 a9:=Tryz.isAgg9
 z9:=Tryz.sizeOf9
 v9:=Tryz.zeroValue9
 t22:=Tryz.underlying58
 a22:=Tryz.isAgg58
 z22:=Tryz.sizeOf58
 v22:=Tryz.zeroValue58
 a24:=Tryz.isAgg65
 z24:=Tryz.sizeOf65
 t25:=Tryz.underlying116
 a25:=Tryz.isAgg116
 z25:=Tryz.sizeOf116
 v25:=Tryz.zeroValue116
 t39:=Tryz.underlying215
 a39:=Tryz.isAgg215
 z39:=Tryz.sizeOf215
 v39:=Tryz.zeroValue215
 t45:=Tryz.underlying254
 a45:=Tryz.isAgg254
 z45:=Tryz.sizeOf254
 v45:=Tryz.zeroValue254
 t46:=Tryz.underlying255
 a46:=Tryz.isAgg255
 z46:=Tryz.sizeOf255
 v46:=Tryz.zeroValue255
 t50:=Tryz.underlying136
 a50:=Tryz.isAgg136
 z50:=Tryz.sizeOf136
 v50:=Tryz.zeroValue136
 t53:=Tryz.underlying261
 a53:=Tryz.isAgg261
 z53:=Tryz.sizeOf261
 v53:=Tryz.zeroValue261
 t55:=Tryz.underlying263
 a55:=Tryz.isAgg263
 z55:=Tryz.sizeOf263
 v55:=Tryz.zeroValue263
 t66:=Tryz.underlying274
 a66:=Tryz.isAgg274
 z66:=Tryz.sizeOf274
 v66:=Tryz.zeroValue274
 t70:=Tryz.underlying237
 a70:=Tryz.isAgg237
 z70:=Tryz.sizeOf237
 v70:=Tryz.zeroValue237
 t76:=Tryz.underlying283
 a76:=Tryz.isAgg283
 z76:=Tryz.sizeOf283
 v76:=Tryz.zeroValue283
 t77:=Tryz.underlying284
 a77:=Tryz.isAgg284
 z77:=Tryz.sizeOf284
 v77:=Tryz.zeroValue284}
def Tryz.sortN_ren:Go.Shelf.Ren:=⟨λ |6=>135|15=>182|14=>181|28=>233|29=>234|20=>225|21=>226|22=>227|23=>228|24=>229|25=>230|26=>231|27=>232|46=>254|47=>255|48=>256|49=>257|50=>258|57=>265|n=>n,λ |22=>58|24=>65|25=>116|3=>3|39=>215|0=>0|53=>261|55=>263|4=>4|46=>255|45=>254|50=>136|5=>5|9=>9|66=>274|70=>237|76=>283|77=>284|n=>n,λ |n=>n⟩
theorem Tryz.sortN:Go.Proofs.SlLaysF0.n6 Tryz.prog Tryz.sortN_ren:={
 mixed:=ax
 f6:=⟨Tryz.f135.name,az,func135.trans (congrArg some ax)⟩
 f14:=⟨Tryz.f181.name,az,func181.trans (congrArg some ax)⟩
 f15:=func182.trans (congrArg some ax)
 f20:=⟨Tryz.f225.name,az,func225.trans (congrArg some ax)⟩
 f21:=⟨Tryz.f226.name,az,func226.trans (congrArg some ax)⟩
 f22:=⟨Tryz.f227.name,az,func227.trans (congrArg some ax)⟩
 f23:=⟨Tryz.f228.name,az,func228.trans (congrArg some ax)⟩
 f24:=⟨Tryz.f229.name,az,func229.trans (congrArg some ax)⟩
 f25:=⟨Tryz.f230.name,az,func230.trans (congrArg some ax)⟩
 f26:=⟨Tryz.f231.name,az,func231.trans (congrArg some ax)⟩
 f27:=⟨Tryz.f232.name,az,func232.trans (congrArg some ax)⟩
 f28:=func233.trans (congrArg some ax)
 f29:=func234.trans (congrArg some ax)
 f46:=⟨Tryz.f254.name,az,func254.trans (congrArg some ax)⟩
 f47:=func255.trans (congrArg some ax)
 f48:=func256.trans (congrArg some ax)
 f49:=⟨Tryz.f257.name,az,func257.trans (congrArg some ax)⟩
 f50:=⟨Tryz.f258.name,az,func258.trans (congrArg some ax)⟩
 f57:=⟨Tryz.f265.name,az,func265.trans (congrArg some ax)⟩
 t0:=Tryz.underlying0
 a0:=Tryz.isAgg0
 z0:=Tryz.sizeOf0
 v0:=Tryz.zeroValue0
 t3:=Tryz.underlying3
 a3:=Tryz.isAgg3
 z3:=Tryz.sizeOf3
 v3:=Tryz.zeroValue3
 t4:=Tryz.underlying4
 a4:=Tryz.isAgg4
 z4:=Tryz.sizeOf4
 v4:=Tryz.zeroValue4
 t5:=Tryz.underlying5
 a5:=Tryz.isAgg5
 z5:=Tryz.sizeOf5
 v5:=Tryz.zeroValue5
 t9:=Tryz.underlying9
 a9:=Tryz.isAgg9
 z9:=Tryz.sizeOf9
 v9:=Tryz.zeroValue9
 t22:=Tryz.underlying58
 a22:=Tryz.isAgg58
 z22:=Tryz.sizeOf58
 v22:=Tryz.zeroValue58
 t25:=Tryz.underlying116
 a25:=Tryz.isAgg116
 z25:=Tryz.sizeOf116
 v25:=Tryz.zeroValue116
 t39:=Tryz.underlying215
 a39:=Tryz.isAgg215
 z39:=Tryz.sizeOf215
 v39:=Tryz.zeroValue215
 t45:=Tryz.underlying254
 a45:=Tryz.isAgg254
 z45:=Tryz.sizeOf254
 v45:=Tryz.zeroValue254
 t46:=Tryz.underlying255
 a46:=Tryz.isAgg255
 z46:=Tryz.sizeOf255
 v46:=Tryz.zeroValue255
 t50:=Tryz.underlying136
 a50:=Tryz.isAgg136
 z50:=Tryz.sizeOf136
 v50:=Tryz.zeroValue136
 t53:=Tryz.underlying261
 a53:=Tryz.isAgg261
 z53:=Tryz.sizeOf261
 v53:=Tryz.zeroValue261
 t55:=Tryz.underlying263
 a55:=Tryz.isAgg263
 z55:=Tryz.sizeOf263
 v55:=Tryz.zeroValue263
 t66:=Tryz.underlying274
 a66:=Tryz.isAgg274
 z66:=Tryz.sizeOf274
 v66:=Tryz.zeroValue274
 t70:=Tryz.underlying237
 a70:=Tryz.isAgg237
 z70:=Tryz.sizeOf237
 v70:=Tryz.zeroValue237
 t76:=Tryz.underlying283
 a76:=Tryz.isAgg283
 z76:=Tryz.sizeOf283
 v76:=Tryz.zeroValue283
 t77:=Tryz.underlying284
 a77:=Tryz.isAgg284
 z77:=Tryz.sizeOf284
 v77:=Tryz.zeroValue284}
def Tryz.searchO_ren:Go.Shelf.Ren:=⟨λ |16=>108|n=>n,λ |3=>3|35=>75|4=>4|38=>215|n=>n,λ |n=>n⟩
theorem Tryz.searchO:Go.Proofs.SlLaysO.n16 Tryz.prog Tryz.searchO_ren:={
 mixed:=ax
 f16:=func108.trans (congrArg some ax)
 t3:=Tryz.underlying3
 a3:=Tryz.isAgg3
 z3:=Tryz.sizeOf3
 v3:=Tryz.zeroValue3
 t4:=Tryz.underlying4
 a4:=Tryz.isAgg4
 z4:=Tryz.sizeOf4
 v4:=Tryz.zeroValue4
 t35:=Tryz.underlying75
 a35:=Tryz.isAgg75
 z35:=Tryz.sizeOf75
 v35:=Tryz.zeroValue75
 t38:=Tryz.underlying215
 a38:=Tryz.isAgg215
 z38:=Tryz.sizeOf215
 v38:=Tryz.zeroValue215}
end Go.Proofs
namespace Go.Ps
open Go Go.Vc Go.Proofs List Tryz
variable{K:bo}{m:MH}{h:PH}{s:jQ}{ps:bn}{cb:Nat}{sc:bZ}{v:QV}{p:Pred}{l:bn}{i:Nat}{N:Nat}{m':MH}{h':PH}{co:bn}{gr:bn}{od:bz}{ta:Int}{li:Int}{xs:List bt}{sz:Nat}{ks:List bn}{rs:bn}{r:Sl}{a:bn}{b:Nat}
def eA(m:MH):=∃T c,m 1=some (.cells (Lib.pow10Tab.map λz=>Value.int .u64 z).toArray T c)
def cU(u:Nat):CV:=.val (.int .u64 u)
def cUX:Vc.Spec:=λc m h K=>∃i:Nat,c=[cI i]/\i<100/\K (RY ⟨(Lib.decDigits i).toArray⟩) m h
def aJJ:Vc.Spec:=λc m h K=>∃u:Nat,c=[cU u]/\1<=u/\u<18446744073709551616/\eA m/\K (cI (Lib.nDigits u)) m h
def cTQ:Vc.Spec:=λd m h K=>∃b e u:Nat,∃(f:Array Value)(T:TypeId),d=[.val (.slice (some ⟨b,0,none⟩) (Lib.nDigits u) e),cU u]/\u<18446744073709551616/\m b=some (.cells f T (0,0))/\f.toList=replicate 24 (.int .u8 0)/\
 ∀c m',c.size=f.size->c.toList.take (Lib.nDigits u)=Lib.byteCells (Lib.decDigits u)->lF m m' b (.cells c T (0,0))->K (.tup []) m' h
def cCQ:Vc.Spec:=λc m h K=>∃xs,∃u:Nat,c=[.lst 5 1 xs,cU u,cI 10]/\u<18446744073709551616/\eA m/\xs.length+30<=140737488355328/\K (.lst 5 1 (xs++aX (Lib.decDigits u))) m h
def mC i:=if i<0 then 45::Lib.decDigits (IntKind.u64.wrap (0-IntKind.u64.wrap i)).toNat else Lib.decDigits (IntKind.u64.wrap i).toNat
def Of:Vc.Spec:=λc m h K=>∃xs i,c=[.lst 5 1 xs,cI i,cI 10]/\eA m/\xs.length+40<=140737488355328/\K (.lst 5 1 (xs++aX (mC i))) m h
abbrev vF(a:bo)(b:List bt)(c:MH)(d:Nat->Nat->Option Value):=a (CV.lst 5 1 b) c d
abbrev Fm:=Value.int IntKind.u8 0
abbrev FP a:=bF Fm Fm (bF Fm Fm (bF Fm Fm (bF Fm Fm a)))
abbrev Ci a:=CV.val (Value.int IntKind.u64 a)
abbrev K7 a:=a<18446744073709551616
abbrev pB a:=Option.some (Addr.mk a 0 Option.none)
attribute [push_cast] vF Fm FP Ci K7 pB
def MA(xs:List bt)(u:Nat)(m:MH)(h:PH)(K:bo):=
  aY (↑u:Int) 100 (∃(i:Nat),aA (vG (iR (fG (↑u:Int)))=vG (iR (↑i:Int))) (i<100) (aA (sL xs (fE (ByteArray.mk (Array.mk (Lib.decDigits i)))) 1) (sM xs (fE (ByteArray.mk (Array.mk (Lib.decDigits i))))) (vF K (xs++fE (ByteArray.mk (Array.mk (Lib.decDigits i)))) m h))) (∀(b:Nat)(f:MH),bG (cF m h b) (bK m f b (FP (FP (FP []))) 290) (∃(d:Nat),aA (vG (Ci (↑u:Int))=vG (Ci (↑d:Int))) (1<=d) (aA (K7 d) (eA f) (aA (cH (↑(Lib.nDigits d):Int)) ((↑(Lib.nDigits d):Int)<=24) (bJ (λg c=>∃(e:Nat),jN (λj T=>aA (tO (CV.val (Value.slice (pB b) (lD (Lib.nDigits d)) 24)) (Ci (↑u:Int))=tO (CV.val (Value.slice (pB g) (Lib.nDigits e) c)) (Ci (↑e:Int))) (K7 e) (aA (f g=Option.some
 (gG j T 0)) (j.toList=FP (FP (FP []))) (∀(n:Array Value)(o:MH),bG (n.size=j.size) (List.take (Lib.nDigits e) n.toList=Lib.byteCells (Lib.decDigits e)) (lF f o g (gG n T 0)->Da (cH (↑(Lib.nDigits d):Int)) ((↑(Lib.nDigits d):Int)<=24) (λy=>aA (fN 1 y) (uN o h (Sl.mk (pB b) (lD (Lib.nDigits d)) 24) 1 y) (aA (sL xs y 1) (sM xs y) (vF K (xs++y) o h)))))))))))))
abbrev Qd a:=IntKind.wrap IntKind.u64 a
abbrev mL a b:=a++aX b
attribute [push_cast] Qd mL
def S8 xs i m h K:=
  aY i 0 (Da (i7 (jW xs 1) 1) (dO xs) (λx=>∃(u:Nat),aA (CV.lst 5 1 (dL xs (xE 45))::eZ (Ci (Qd (0-Qd i))) 10=CV.lst 5 1 x::eZ (Ci (↑u:Int)) 10) (K7 u) (aA (eA m) (nT (jW x 30)) (vF K (mL x (Lib.decDigits u)) m h)))) (∃(x:List bt)(u:Nat),aA (CV.lst 5 1 xs::eZ (Ci (Qd i)) 10=CV.lst 5 1 x::eZ (Ci (↑u:Int)) 10) (K7 u) (aA (eA m) (nT (jW x 30)) (vF K (mL x (Lib.decDigits u)) m h)))
abbrev yY a b:=CV.lst 5 1 a::eZ (iR b) 10
abbrev sN a b:=mL a (mC b)
attribute [push_cast] yY sN
def bbX xs i m h K:=
  ∃(x:List bt)(c:Int),aI (yY xs i=yY x c) (eA m) (nT (jW x 40)) (vF K (sN x c) m h)
theorem eA.sub(h:eA m)(c:Sub m m'):eA m':=by
 obtain⟨T,d,e⟩:=h;exact⟨T,d,c 1 _ e⟩
theorem LU{w c vs}(d:CK w m h c vs):Dt ⟨w,yE m c vs,h,[]⟩ m h w:=
 ⟨rfl,rfl,rfl,Nat.le_refl _,Nat.le_refl _,λ_ _ _=>rfl,d.hsat,d.msat,d.disj,λ_ _ _ e=>e,λ_ _ _=>rfl,λb o f=>.inr (.inl bg)⟩
theorem Zn:bm 270 cUX:=by
 refine⟨⟨Tryz.f270,func270,rfl,az⟩,?_⟩;rintro f d m h w K ⟨i,rfl,g,j⟩ c
 obtain⟨v,rfl⟩:∃v,d=[v]:=by
  have:=(qW c.args).1
  match d,this with
  |[v],_=>grind
 have n:v= .int .i64 i:=c.args.1;subst n;refine(Tryz.internal_strconv_small i g w).mono ?_;rintro e t ⟨rfl,rfl⟩;exact⟨_,_,m,h,rfl,j,rfl,LU c,λb o=>by simp[RY,jP]at o⟩
theorem Zm:bm 271 aJJ:=by
 refine⟨⟨Tryz.f271,func271,rfl,az⟩,?_⟩;rintro f d m h w K ⟨u,rfl,g,j,⟨T,z,n⟩,o⟩ c
 obtain⟨v,rfl⟩:∃v,d=[v]:=by
  have:=(qW c.args).1
  match d,this with
  |[v],_=>grind
 have t:v= .int .u64 u:=c.args.1;subst t;have A:=c.msat 1 _ n;refine(Tryz.internal_strconv_numDigits u g j w ?_).mono ?_
 .unfold Lib.TabIs World.var?;rw[show Tryz.prog.globalNamed _=some 1 by kernel_rfl]
  grind
 .rintro e B ⟨rfl,rfl⟩;exact⟨_,_,m,h,rfl,o,rfl,LU c,λb y=>by simp[cI,jP]at y⟩
theorem Zl:bm 272 cTQ:=by
 refine⟨⟨Tryz.f272,func272,rfl,az⟩,?_⟩;rintro W P m h w K ⟨b,g,u,B,T,rfl,Q,A,C,X⟩ t
 obtain⟨v,H,rfl⟩:∃v H,P=[v,H]:=by
  have:=(qW t.args).1
  match P,this with
  |[v,H],_=>grind
 have Y:v= .slice (some ⟨b,0,none⟩) (Lib.nDigits u) g:=t.args.1;have J:H= .int .u64 u:=t.args.2.1;subst Y J;have R:=t.msat b _ A;have Z:=Lib.nDigits_le20 u Q;have a':B.size=24:=by rw[<-Array.length_toList,C];simp
 have hH:Sort.Holds (fun(b:UInt8)=>Value.int .u8 (b.toNat:Int)) w b 0 (Array.replicate (Lib.nDigits u) (0:UInt8)):=by
  intro j I;simp only[Array.size_replicate]at I;refine⟨?_,?_⟩
  .rw[cell_of_heap R,C,getElem?_replicate,if_pos aC];rw[getElem!_pos _ j bg];simp
  .unfold World.frozen?
   grind
 have S:=Tryz.internal_strconv_formatBase10 b 0 g u (Array.replicate (Lib.nDigits u) (0:UInt8)) w hH (bk (Lib.lt_pow_nDigits u)) Q bf;rw[Array.size_replicate]at S;refine S.mono ?_;rintro e w' ⟨rfl,n,v',z,rfl,U⟩;have a0:z.size=Lib.nDigits u:=U.size;obtain⟨m',y⟩:∃m',lF m m' b (.cells (Sort.putCells (fun(b:UInt8)=>Value.int .u8 (b.toNat:Int)) 0 z B) T (0,0)):=⟨λc=>if c=b then some (.cells (Sort.putCells (fun(b:UInt8)=>Value.int .u8 (b.toNat:Int)) 0 z B) T (0,0))else m c,ay,λc d=>by simp[d]⟩
 have D:(Sort.putRow (fun(b:UInt8)=>Value.int .u8 (b.toNat:Int)) w b 0 z).heap[b]? =some (.cells (Sort.putCells (fun(b:UInt8)=>Value.int .u8 (b.toNat:Int)) 0 z B) T (0,0)):=by
  unfold Sort.putRow Sort.mapBlock;simp only[Array.getElem?_modify,if_true,R];rfl
 have f:∀c,c≠b->(Sort.putRow (fun(b:UInt8)=>Value.int .u8 (b.toNat:Int)) w b 0 z).heap[c]? =w.heap[c]? :=λc d=>by
  unfold Sort.putRow Sort.mapBlock
  grind
 refine⟨.tup [],.tuple #[],m',h,rfl,X _ m' ?_ ?_ y,⟨#[],rfl,rfl⟩,?_,λb A=>by simp[jP]at A⟩
 .simp[Sort.putCells]
 .apply ext_getElem?;intro j;rw[getElem?_take];have hl:(Lib.byteCells (Lib.decDigits u)).length=Lib.nDigits u:=by rw[Lib.byteCells_length,Lib.decDigits_length]
  by_cases I:j<Lib.nDigits u
  .rw[if_pos I,Array.getElem?_toList];have E:j<(Lib.decDigits u).length:=by rw[Lib.decDigits_length];exact I
   have F:j<B.size:=by omega
   simp only[Sort.putCells,Array.getElem?_mapIdx,Array.getElem?_eq_getElem F,Option.map_some,Nat.zero_le,Nat.zero_add,Nat.sub_zero,true_and];rw[if_pos aC,Lib.byteCells,getElem?_map,getElem?_eq_getElem E,Lib.row_is_numeral U j E];rfl
  grind
 .have G:∀c o,m' c=some o->c=b\/m c=some o:=λc o d=>by
   by_cases e:c=b
   .exact .inl e
   .rw[y.other c e]at d;grind
  have V:yE m [.val (.slice (some ⟨b,0,none⟩) (Lib.nDigits u) g),cU u] [.slice (some ⟨b,0,none⟩) (Lib.nDigits u) g,.int .u64 u] b:=.inl (by rw[A];simp);refine⟨rfl,rfl,rfl,Nat.le_add_right _ _,by simp[Sort.putRow,Sort.mapBlock],?_,?_,?_,?_,λ_ _ _ e=>e,λ_ _ _=>rfl,?_⟩
  .intro c _ hn;exact f c (λe=>hn (e▸V))
  .intro c o x L;have M:c≠b:=λe=>by rw[e,t.disj b _ A o]at L;cases L
   show(Sort.putRow (fun(b:UInt8)=>Value.int .u8 (b.toNat:Int)) w b 0 z).cell? ⟨c,o,none⟩=some x;rw[World.cell?_of_block (w:=w) (a:=⟨c,o,none⟩) (f c M)];exact t.hsat c o x L
  .intro c o d;by_cases e:c=b
   .subst e;rw[y.at_]at d;cases d;exact D
   .rw[y.other c e]at d;rw[show((Sort.putRow (fun(b:UInt8)=>Value.int .u8 (b.toNat:Int)) w b 0 z).drewN n).heap[c]? =_ from f c e];exact t.msat c o d
  .intro c o d j;rcases G c o d with rfl|O
   .exact t.disj c _ A j
   .exact t.disj c _ O j
  .intro c o d;rcases G c o d with rfl|O
   .exact .inr V
   .exact .inr (.inl (by rw[O];simp))
theorem Hr l:fE ⟨l.toArray⟩=aX l:=by simp[fE,aX]
theorem Nb l:(aX l).flatten=Lib.byteCells l:=by
 unfold aX Lib.byteCells
 induction l with
 |nil=>rfl
 |cons b r c=>simp[c]
theorem bC l:(aX l).length=l.length:=by simp[aX]
theorem Zt:bm 260 cCQ:=by
 refine EN func260 ?_;rintro y m h K ⟨xs,u,rfl,j,z,E,o⟩;refine⟨qV [(270,cUX),(271,aJJ),(272,cTQ)] [] [] [] [290] [] true,rfl,aE Zn (aE Zm (aE Zl aG)),MA xs u m h (lR h K),ax,?_⟩;show MA xs u m h (lR h K);dsimp only[MA,push_cast];have A:=Lib.nDigits_le20 u j;have d:=Lib.decDigits_length u;refine aF (λB=>⟨u,?_,aC,?_,?_,?_⟩) (λB b C t e=>?_)
 .rw[fB aC aC]
 .rw[Hr,bC];omega
 .rw[Hr,bC];omega
 .rw[Hr];exact .here o
 .have f:Sub m C:=(Sub.refl m).upd t.m_ e.other;refine⟨u,rfl,aC,j,z.sub f,aC,aC,b,24,u,_,_,bg,j,e.at_,rfl,λn F D c g=>⟨aC,aC,aX (Lib.decDigits u),JY _,?_,?_,?_,?_⟩⟩
  .refine .lent b 0 n 290 (0,0) rfl ?_ g.at_ ?_
   .rw[Int.toNat_natCast,bC,d]
   .rw[Nb,Lib.byteCells_length,d,drop_zero];exact c
  .rw[bC];omega
  .rw[bC];omega
  .exact .sub (f.upd t.m_ g.other) o
theorem bkZ i:0<=IntKind.u64.wrap i/\IntKind.u64.wrap i<18446744073709551616:=by
 simp only[IntKind.wrap,IntKind.bits,IntKind.signed];simp;omega
theorem oO i:(mC i).length<=21:=by
 have key:∀n:Int,(Lib.decDigits (IntKind.u64.wrap n).toNat).length<=20:=λn=>by
  rw[Lib.decDigits_length];exact Lib.nDigits_le20 _ (by have:=bkZ n;omega)
 unfold mC
 grind
theorem ZA:bm 240 Of:=by
 refine iQ func240 ?_;rintro e m h K ⟨xs,i,rfl,c,g,d⟩;refine⟨qV [(260,cCQ)] [] [] [] [] [(260,[0])] true,rfl,aE Zt aG,S8 xs i m h K,ax,?_⟩;dsimp only[S8,push_cast];have j:=bkZ i;have n:=bkZ (0-IntKind.u64.wrap i);refine aF (λf=>⟨aC,aC,xs++[[.int .u8 45]],(IntKind.u64.wrap (0-IntKind.u64.wrap i)).toNat,?_,aC,c,bf,?_⟩) (λf=>⟨xs,(IntKind.u64.wrap i).toNat,?_,aC,c,aC,?_⟩)
 .grind
 .have:mC i=45::Lib.decDigits (IntKind.u64.wrap (0-IntKind.u64.wrap i)).toNat:=by unfold mC;grind
  rw[this]at d;rw[append_assoc];exact d
 .grind
 .have:mC i=Lib.decDigits (IntKind.u64.wrap i).toNat:=by unfold mC;grind
  grind
theorem Dc:bm 195 Of:=by
 refine iQ func195 ?_;rintro c m h K ⟨xs,i,rfl,d,e,f⟩;refine⟨qV [(240,Of)] [] [] [] [] [(240,[0])] true,rfl,aE ZA aG,bbX xs i m h K,ax,?_⟩;exact⟨xs,i,rfl,d,e,f⟩
def Dr(a b:Int):=if a<b then-1 else if b<a then 1 else 0
def RX(a b:ByteArray):=Lib.compareBytes a.data.toList b.data.toList
def oZ(a b:VV):=if Dr a.kind b.kind≠0 then Dr a.kind b.kind else if Dr a.int b.int≠0 then Dr a.int b.int else RX a.text b.text
def eW:ca->ca->Int
 |[],[]=>0
 |[],_::_=> -1
 |_::_,[]=>1
 |x::xs,y::ys=>if oZ x y≠0 then oZ x y else eW xs ys
def ctQ:Vc.Spec:=λc m h K=>∃n,c=[cI n]/\K (cB false) m h
def aNX:Vc.Spec:=λc m h K=>∃a b,c=[cI a,cI b]/\K (cI (Dr a b)) m h
def cBX:Vc.Spec:=λc m h K=>∃a b,c=[RY a,RY b]/\K (cI (RX a b)) m h
def Um:Vc.Spec:=λc m h K=>∃a b,c=[aV a,aV b]/\K (cI (oZ a b)) m h
def I8:Vc.Spec:=λc m h K=>∃s t a b,c=[cS s,cS t]/\bS h s a/\bS h t b/\K (cI (eW a b)) m h
def cBJ:Vc.Spec:=λc m h K=>∃s t a b,c=[cS s,cS t,.val (.func (.func 156) #[] #[])]/\bS h s a/\bS h t b/\K (cI (eW a b)) m h
def Rows h s l:=bL h 1 eS (λr t=>bS h t r) s l
def cwJ:Vc.Spec:=λc m h K=>∃s t a b,c=[cS s,cS t]/\Rows h s a/\Rows h t b/\∀r:Bool,(r=true↔a=b)->K (cB r) m h
noncomputable def bGX s t m h:=
 dE [(156,Um)] [(2,{A:=Nat,st:=λi=>bU 39 42 [(0,sv s),(1,sv t),(2,vv (.func (.func 156) #[] #[])),(11,sv s),(12,iv s.len),(13,iv i)] [] m h})] [] [] false
noncomputable def f55_ctx s t m h:=
 dE [(119,Um)] [(2,{A:=Nat,st:=λi=>bU 43 45 [(0,sv s),(1,sv t),(5,iv i)] [] m h})] [] [] false
noncomputable def coZ s t m h:=
 dE [(55,I8)] [(4,{A:=Nat,st:=λi=>bU 27 29 [(0,sv s),(1,sv t),(12,iv s.len),(13,iv i)] [] m h})] [] [] false
def a8Q(n:Int)(m:MH)(h:PH)(K:bo):=
  K (Af (n !=n)) m h
def a7J(n:Int)(m:MH)(h:PH)(K:bo):=
  K (Af (n !=n)) m h
def MO(a b:Int)(m:MH)(h:PH)(K:bo):=
  ∃(n:Int),rR a n/\∃(c:Int),rR b c/\aY a b (K (iR (Int.negSucc 0)) m h) (fR a b (K (iR 1) m h) (K (iR 0) m h))
def bbQ(a b:Int)(m:MH)(h:PH)(K:bo):=
  ∃(n:Int),rR a n/\∃(c:Int),rR b c/\aY a b (K (iR (Int.negSucc 0)) m h) (fR a b (K (iR 1) m h) (K (iR 0) m h))
def Tv(a b:VV)(m:MH)(h:PH)(K:bo):=
  ∃(r:Bool),hX (zS 30 a.enc b.enc r) r (K (iR 0) m h) (G5 (λc d=>eZ (iR a.kind) b.kind=eZ (iR c) d/\cV (Dr c d) 0 (K (iR (Dr c d)) m h) (G5 (λe f=>eZ (iR a.int) b.int=eZ (iR e) f/\cV (Dr e f) 0 (K (iR (Dr e f)) m h) (∃(g j:ByteArray),tO (rV a.text) (rV b.text)=tO (rV g) (rV j)/\K (iR (RX g j)) m h)))))
def TU(a b:VV)(m:MH)(h:PH)(K:bo):=
  aY a.kind b.kind (K (iR (Int.negSucc 0)) m h) (fR a.kind b.kind (K (iR 1) m h) (aY a.int b.int (K (iR (Int.negSucc 0)) m h) (dR (decide (a.int>b.int)) (K (iR 1) m h) (Op.bytesLess (DV a) (DV b)) (K (iR (Int.negSucc 0)) m h) (nX (Bool.or (Op.bytesLess (DV a) (DV b)) (DV a==DV b)) (K (iR 1) m h) (K (iR 0) m h)))))
def Tw(s t:Sl)(m:MH)(h:PH)(K:bo):=
  pN (λI x=>aA (I x) (aJ s) (aA (aJ t) (A5 156) (aA (aJ s) (bI s) (aA (bA x) (m=m) (bT h h))))) (λI e x=>I x->aY (↑x:Int) (aH s) (bJ (λb o=>aI (aW s.a b o) (0<=(↑x:Int)) ((↑x:Int)<aH s) (∃(y:VV),aK m h b (o+bM x 3) y.enc/\iA (↑x:Int) (aH t) (K (iR 1) m h) (bJ (λf g=>aI (aW t.a f g) (0<=(↑x:Int)) ((↑x:Int)<aH t) (∃(j:VV),aK m h f (g+bM x 3) j.enc/\∃(a c:VV),eF y.enc (j4 j)=eF a.enc (j4 c)/\cV (oZ a c) 0 (K (iR (oZ a c)) m h) (∃(d:Nat),aA (I d) (e d<e x) (aA (aJ s) (aJ t) (aA (A5 156) (aJ s) (aA (bI s) (gK (bE x 1)=bO d) (dY m m h h))))))))))) (aY (aH s) (aH t) (K (iR (Int.negSucc 0)) m h) (K (iR 0) m h)))
abbrev oS(a:Sl->ca->Prop):=∃(x:Sl)(c:ca),a x c
attribute [push_cast] oS
def bxJ(s t:Sl)(m:MH)(h:PH)(K:bo):=
  ∃(c:Sl),oS (λd a=>∃(b:ca),aI (cX s (fZ t (mJ 156 sF))=cX c (fZ d (mJ 156 sF))) (bS h c a) (bS h d b) (K (iR (eW a b)) m h))
def ag(s t:Sl)(m:MH)(h:PH)(K:bo):=
  pN (λI x=>aA (I x) (aJ s) (aA (aJ t) (bA x) (dY m m h h))) (λI e x=>I x->aY (↑x:Int) (aH s) (aY (↑x:Int) (aH t) (bJ (λb o=>aI (aW s.a b o) (0<=(↑x:Int)) ((↑x:Int)<aH s) (∃(y:VV),aK m h b (o+bM x 3) y.enc/\bJ (λf g=>aI (aW t.a f g) (0<=(↑x:Int)) ((↑x:Int)<aH t) (∃(j:VV),aK m h f (g+bM x 3) j.enc/\∃(a c:VV),eF y.enc (j4 j)=eF a.enc (j4 c)/\cV (oZ a c) 0 (K (iR (oZ a c)) m h) (∃(d:Nat),aA (I d) (e d<e x) (aA (aJ s) (aJ t) (cZ (gK (bE x 1)=bO d) m m h h)))))))) (aY (aH s) (aH t) (K (iR (Int.negSucc 0)) m h) (fR (aH s) (aH t) (K (iR 1) m h) (K (iR 0) m h)))) (aY (aH s) (aH t) (K (iR (Int.negSucc 0)) m h) (fR (aH s) (aH t) (K (iR 1) m h) (K (iR 0)
 m h))))
def XZ(s t:Sl)(m:MH)(h:PH)(K:bo):=
  cV (aH s) (aH t) (K bH m h) (pN (λI x=>aA (I x) (aJ s) (aA (aJ t) (bI s) (cZ (bA x) m m h h))) (λI d x=>I x->aY (↑x:Int) (aH s) (bJ (λb o=>aI (aW s.a b o) (0<=(↑x:Int)) ((↑x:Int)<aH s) (∃(y:Sl),aK m h b (o+bM x 1) (aR y)/\bJ (λe f=>aI (aW t.a e f) (0<=(↑x:Int)) ((↑x:Int)<aH t) (∃(g:Sl),aK m h e (f+bM x 1) (aR g)/\∃(j:Sl),oS (λn a=>∃(u:ca),aI (cJ y g=cJ j n) (bS h j a) (bS h n u) (cV (eW a u) 0 (K bH m h) (∃(c:Nat),aA (I c) (d c<d x) (aA (aJ s) (aJ t) (aA (bI s) (gK (bE x 1)=bO c) (aA (m=m) (h=h) True))))))))))) (K iM m h)))
theorem IJ{a b}:Dr a b=0↔a=b:=by
 unfold Dr;omega
theorem IK:∀a b:ck,Lib.compareBytes a b=0↔a=b
 |[],[]=>by simp[Lib.compareBytes]
 |[],_::_=>by simp[Lib.compareBytes]
 |_::_,[]=>by simp[Lib.compareBytes]
 |a::l,b::bs=>by
  simp only[Lib.compareBytes,List.cons.injEq];split
  .grind
  .split
   .grind
   .rename_i c d;rw[IK l bs]
    grind
theorem bgJ{a b}:RX a b=0↔a=b:=by
 unfold RX;rw[IK];constructor
 .intro h;cases a;cases b;simp only[ByteArray.mk.injEq];exact Array.toList_inj.1 h
 grind
theorem Na{a b}:oZ a b=0↔a=b:=by
 obtain⟨k,i,t⟩:=a;obtain⟨d,f,g⟩:=b;simp only[oZ,VV.mk.injEq];split
 .rename_i h;exact⟨λe=>absurd e h,λe=>absurd (IJ.2 e.1) h⟩
 .rename_i h;have h:=Classical.not_not.1 h;split
  .rename_i c;exact⟨λe=>absurd e c,λe=>absurd (IJ.2 e.2.1) c⟩
  .rename_i c;have c:=Classical.not_not.1 c;rw[bgJ];simp[IJ.1 h,IJ.1 c]
theorem lB:∀{a b:ca},eW a b=0↔a=b
 |[],[]=>by simp[eW]
 |[],_::_=>by simp[eW]
 |_::_,[]=>by simp[eW]
 |x::xs,y::ys=>by
  simp only[eW,List.cons.injEq];split
  .rename_i h;exact⟨λe=>absurd e h,λe=>absurd (Na.2 e.1) h⟩
  .rename_i h;rw[lB (a:=xs),Na.1 (Classical.not_not.1 h)];simp
theorem Qn:∀a b:ck,(Op.bytesLess a b=true↔Lib.compareBytes a b= -1)/\(Lib.compareBytes a b= -1\/Lib.compareBytes a b=0\/Lib.compareBytes a b=1)
 |[],[]=>by simp[Lib.compareBytes,Op.bytesLess]
 |[],_::_=>by simp[Lib.compareBytes,Op.bytesLess]
 |_::_,[]=>by simp[Lib.compareBytes,Op.bytesLess]
 |a::l,b::bs=>by
  obtain⟨c,d⟩:=Qn l bs;simp only[Lib.compareBytes,Op.bytesLess]
  grind
theorem aEQ{a b}(c:K (cI (Dr a b)) m h):MO a b m h K:=by
 dsimp only[MO,push_cast];refine⟨a,rfl,b,rfl,aF (λd=>?_) (λd=>aF (λe=>?_) (λe=>?_))⟩
 .rw[Dr,if_pos d]at c;exact c
 .rw[Dr,if_neg d,if_pos e]at c;exact c
 .rw[Dr,if_neg d,if_neg e]at c;exact c
theorem Zz:bm 241 ctQ:=by
 refine iQ func241 ?_;rintro c m h K ⟨n,rfl,d⟩;refine⟨dE [] [] [] [] false,rfl,aG,a8Q n m h K,ax,?_⟩;exact(by show K (cB (n !=n)) m h;grind)
theorem Zy:bm 242 ctQ:=by
 refine iQ func242 ?_;rintro c m h K ⟨n,rfl,d⟩;refine⟨dE [] [] [] [] false,rfl,aG,a7J n m h K,ax,?_⟩;exact(by show K (cB (n !=n)) m h;grind)
theorem ZY:bm 199 aNX:=by
 refine iQ func199 ?_;rintro c m h K ⟨a,b,rfl,d⟩;refine⟨dE [(241,ctQ)] [] [] [] false,rfl,aE Zz aG,MO a b m h K,ax,?_⟩;exact aEQ d
theorem ZX:bm 200 aNX:=by
 refine iQ func200 ?_;rintro c m h K ⟨a,b,rfl,d⟩;refine⟨dE [(242,ctQ)] [] [] [] false,rfl,aE Zy aG,bbQ a b m h K,ax,?_⟩;exact aEQ d
theorem ZW:bm 201 cBX:=by
 refine⟨⟨Tryz.f201,func201,rfl,az⟩,?_⟩;rintro j g m h w K ⟨a,b,rfl,n⟩ c
 obtain⟨v,d,rfl⟩:∃v d,g=[v,d]:=by
  have:=(qW c.args).1
  match g,this with
  |[v,d],_=>grind
 have o:v= .string a:=c.args.1;have f:d= .string b:=c.args.2.1;subst o f;refine(Tryz.strings_Compare a b w).mono ?_;rintro e u ⟨rfl,rfl⟩;exact⟨_,_,m,h,rfl,n,rfl,LU c,λb t=>by simp[cI,jP]at t⟩
theorem Jv:bm 156 Um:=by
 refine iQ func156 ?_;rintro e m h K ⟨a,b,rfl,c⟩;refine⟨dE [(199,aNX),(200,aNX),(201,cBX)] [] [] [] false,rfl,aE ZY (aE ZX (aE ZW aG)),Tv a b m h K,ax,?_⟩;dsimp only[Tv,push_cast];refine⟨_,Vi a b,aD (λd=>?_) (λd=>⟨_,_,rfl,aD (λf=>?_) (λf=>⟨_,_,rfl,aD (λg=>?_) (λg=>⟨_,_,rfl,?_⟩)⟩)⟩)⟩
 .rw[Na.2 (Vj.1 d)]at c;exact c
 .rw[oZ,if_pos bg]at c;exact c
 .rw[oZ,if_neg bg,if_pos bg]at c;exact c
 .rw[oZ,if_neg bg,if_neg bg]at c;exact c
theorem akZ:bm 119 Um:=by
 refine iQ func119 ?_;rintro z m h K ⟨a,b,rfl,c⟩;refine⟨dE [] [] [] [] false,rfl,aG,TU a b m h K,ax,?_⟩;dsimp only[TU,push_cast];unfold oZ Dr RX at c;obtain⟨o,t⟩:=Qn a.text.data.toList b.text.data.toList;refine aF (λd=>?_) (λd=>aF (λf=>?_) (λf=>aF (λg=>?_) (λg=>aF (λu=>?_) (λu=>aD (λj=>?_) (λj=>aD (λn=>?_) (λn=>?_))))))
 .rw[if_pos d]at c;exact c
 .rw[if_neg d,if_pos f]at c;exact c
 .rw[if_neg d,if_neg f,if_pos g]at c;exact c
 .rw[if_neg d,if_neg f,if_neg g,if_pos u]at c;exact c
 all_goals rw[if_neg d,if_neg f,if_neg g,if_neg u]at c
 all_goals rw[ByteArray.toList_eq,ByteArray.toList_eq]at j
 .rw[if_neg ay,if_neg ay,o.1 j]at c;exact c
 .have y:Lib.compareBytes a.text.data.toList b.text.data.toList=1:=by
   rcases t with e|e|e
   .grind
   .rw[IK]at e;rw[ByteArray.toList_eq,ByteArray.toList_eq,e]at n;simp at n
   .exact e
  rw[if_neg ay,if_neg ay,y]at c;exact c
 .have y:Lib.compareBytes a.text.data.toList b.text.data.toList=0:=by
   rw[ByteArray.toList_eq,ByteArray.toList_eq,j]at n;rw[IK];grind
  rw[if_neg ay,if_neg ay,y]at c;exact c
theorem T3{a b:ca}{x y}(hx:a[i]? =some x)(c:b[i]? =some y):eW (a.drop i) (b.drop i)=if oZ x y≠0 then oZ x y else eW (a.drop (i+1)) (b.drop (i+1)):=by
 rw[drop_cons hx,drop_cons c,eW]
theorem afQ:bm 155 cBJ:=by
 refine iQ func155 ?_;rintro D m h K ⟨s,t,a,b,rfl,o,C,d⟩;refine⟨bGX s t m h,rfl,aE Jv aG,Tw s t m h K,ax,?_⟩;dsimp only[Tw,push_cast];have z:=bL.slen o;have f:=bL.slen C;have E:=o.len;refine⟨λi=>i<=a.length/\i<=b.length/\eW a b=eW (a.drop i) (b.drop i),λi=>a.length-i,⟨0,⟨aC,aC,ay⟩,MT⟩,λi⟨S,T,e⟩=>aF (λg=>?_) (λA=>?_)⟩
 .obtain⟨x,B⟩:=eV z g;obtain⟨F,G,u,H,I,rfl⟩:=bL.at o B;refine⟨F,G,H,aC,g,x,.imm I,aF (λA=>?_) (λc=>?_)⟩
  .rw[e,drop_cons B,drop_eq_nil_of_le (show b.length<=i by omega),eW]at d;exact d
  .have c:(i:Int)<(t.len:Int):=by omega
   obtain⟨y,j⟩:=eV f c;obtain⟨J,L,u,M,O,rfl⟩:=bL.at C j;rw[T3 B j]at e;refine⟨J,L,M,aC,c,y,.imm O,x,y,rfl,aD (λP=>?_) (λQ=>⟨i+1,⟨aC,aC,?_⟩,(show a.length-(i+1)<a.length-i by omega),MT⟩)⟩
   .rw[e,if_pos bg]at d;exact d
   grind
 .have:a.drop i=[]:=drop_eq_nil_of_le aC;rw[this]at e;refine aF (λR=>?_) (λR=>?_)
  .obtain⟨y,j⟩:=eV (l:=b) (i:=i) (n:=t.len) f aC;rw[e,drop_cons j,eW]at d;exact d
  .rw[e,drop_eq_nil_of_le aC,eW]at d;exact d
theorem ES:bm 93 I8:=by
 refine iQ func93 ?_;rintro c m h K ⟨s,t,a,b,rfl,d,e,f⟩;refine⟨dE [(155,cBJ)] [] [] [] false,rfl,aE afQ aG,bxJ s t m h K,ax,?_⟩;exact⟨s,t,a,b,rfl,d,e,f⟩
theorem aa:bm 55 I8:=by
 refine iQ func55 ?_;rintro F m h K ⟨s,t,a,b,rfl,A,E,c⟩;refine⟨f55_ctx s t m h,rfl,aE akZ aG,ag s t m h K,ax,?_⟩;dsimp only[ag,push_cast];have f:=bL.slen A;have g:=bL.slen E;have G:=A.len;refine⟨λi=>i<=a.length/\i<=b.length/\eW a b=eW (a.drop i) (b.drop i),λi=>a.length-i,⟨0,⟨aC,aC,ay⟩,MT⟩,λi⟨T,U,j⟩=>aF (λe=>aF (λd=>?_) (λB=>?_)) (λB=>?_)⟩
 .obtain⟨x,o⟩:=eV f e;obtain⟨y,z⟩:=eV g d;obtain⟨H,I,u,J,L,rfl⟩:=bL.at A o;obtain⟨M,O,u,P,Q,rfl⟩:=bL.at E z;rw[T3 o z]at j;refine⟨H,I,J,aC,e,x,.imm L,M,O,P,aC,d,y,.imm Q,x,y,rfl,aD (λR=>?_) (λS=>⟨i+1,⟨aC,aC,?_⟩,(show a.length-(i+1)<a.length-i by omega),MT⟩)⟩
  .rw[j,if_pos bg]at c;exact c
  grind
 .obtain⟨x,o⟩:=eV f e;rw[j,drop_cons o,drop_eq_nil_of_le (show b.length<=i by omega),eW]at c;exact aF (λC=>aC) (λC=>aF (λD=>c) (λD=>aC))
 .rw[j,drop_eq_nil_of_le (show a.length<=i by omega)]at c;refine aF (λC=>?_) (λC=>aF (λD=>aC) (λD=>?_))
  .obtain⟨y,z⟩:=eV (l:=b) (i:=i) (n:=t.len) g aC;rw[drop_cons z,eW]at c;exact c
  .rw[drop_eq_nil_of_le aC,eW]at c;exact c
theorem bcX:bm 16 cwJ:=by
 refine iQ func16 ?_;rintro G m h K ⟨s,t,a,b,rfl,o,C,D⟩;refine⟨coZ s t m h,rfl,aE aa aG,XZ s t m h K,ax,?_⟩;dsimp only[XZ,push_cast];have c:=bL.slen o;have f:=bL.slen C;have H:=o.len;have E:a≠b->K (cB false) m h:=λh=>D false ⟨λe=>(by cases e),λe=>(h e).elim⟩;refine aD (λz=>E (λe=>Qo c f z (by rw[e]))) (λz=>?_);have I:=Mk c f z;refine⟨λi=>i<=a.length/\∀j:Nat,j<i->a[j]? =b[j]?,λi=>a.length-i,⟨0,⟨aC,λj W=>by omega⟩,MT⟩,λi F=>aF (λd=>?_) (λJ=>?_)⟩
 .obtain⟨x,A⟩:=eV c d;obtain⟨y,B⟩:∃y,b[i]? =some y:=eV (n:=s.len) aC d;obtain⟨L,M,u,O,P,Q⟩:=bL.at o A;obtain⟨R,S,v,T,U,V⟩:=bL.at C B;refine⟨L,M,O,aC,d,u,.imm P,R,S,T,aC,aC,v,.imm U,u,v,x,y,rfl,Q,V,aD (λg=>E (Sp A B (λe=>?_))) (λX=>?_)⟩
  .rw[lB.2 e]at g;cases g
  .exact⟨i+1,⟨aC,AB A B (lB.1 bg) F.2⟩,(show a.length-(i+1)<a.length-i by omega),MT⟩
 .exact D true ⟨λ_=>CW I aC F.2,λ_=>rfl⟩
structure Hu(h:PH)(P:ca->Prop) where
 s:Sl
 l:ca
 ok:bS h s l
 pr_:P l
def Hu.pr{h P}(x:Hu h P):=(x.s,x.l)
def BD h{R}(x:Hu h R):Value:=.slice x.s.a x.s.len x.s.cap
theorem No{w w':World}(c:w'.tape=w.tape)(d:w'.os=w.os)(e:w'.output=w.output)(f:w.drawn<=w'.drawn)(g:w.heap.size<=w'.heap.size)(j:∀b,b<w.heap.size->w'.heap[b]? =w.heap[b]?):
 ∃q n,w'=Sort.grow (w.drewN q) n:=by
 refine⟨w'.drawn-w.drawn,w'.heap.extract w.heap.size w'.heap.size,?_⟩;obtain⟨A,B,C,D,E⟩:=w';obtain⟨o,t,u,y,z⟩:=w;dsimp only at c d e f g j;subst c d e;unfold Sort.grow World.drewN;dsimp only;congr 1
 .grind
 .omega
structure cBZ(P:Program)(R:ca->Prop)(g:Nat)(cb:bt)(m2:MH)(h:PH)(cf:ca->ca->Int):Prop where
 ex:∃S,Sound P g S/\∀x y:Hu h R,S ([cS x.s,cS y.s]++cb.map .val) m2 h (λr m' h'=>r=cI (cf x.l y.l)/\m'=m2/\h'=h)
theorem bPZ{P R g cb m2 h}[Inhabited (Hu h R)]{cf}(I:cBZ P R g cb m2 h cf){w blk off size}(Q:∀b o v,h b o=some v->w.cell? ⟨b,o,none⟩=some v/\b≠blk)(hm:∀b o,m2 b=some o->w.heap[b]? =some o/\b≠blk)(T:∀b o,m2 b=some o->∀i,h b i=none):
 CmpLays1 P g cb.toArray (BD h (R:=R)) (λx y=>cf x.l y.l) blk off size w:=by
 obtain⟨S,J,U⟩:=I.ex;intro D L E V x y;obtain⟨W,M⟩:∃W,Go.Proofs.sortWorld (BD h (R:=R)) w blk off D E L=W:=⟨_,rfl⟩
 rw[M]
 have F:∀b,b<w.heap.size->b≠blk->W.heap[b]? =w.heap[b]? :=λb n G=>by
  rw[<-M];show((Sort.putRow (BD h) (Sort.ahead w D) blk off E).heap++L)[b]? =_;have J:(Sort.putRow (BD h) (Sort.ahead w D) blk off E).heap.size=w.heap.size:=by unfold Sort.putRow Sort.mapBlock;simp[Sort.ahead]
  rw[Array.getElem?_append_left aC];unfold Sort.putRow Sort.mapBlock;simp only[Array.getElem?_modify,if_neg (Ne.symm G)];rfl
 have t:∀(l:bt)(w:World),Dm w (l.map .val) l:=λl w=>by
  induction l with
  |nil=>trivial
  |cons a l X=>exact⟨rfl,X⟩
 have A:∀(l:bt)(i:Nat)(c:CV)(u:Value)(b:Nat),(l.map CV.val)[i]? =some c->jP c u=some b->False:=λl i c u b f n=>by
  rw[getElem?_map]at f;cases e:l[i]? with
  |none=>grind
  |some v=>rw[e]at f;simp at f;subst f;simp[jP]at n
 have Y:[cS x.s,cS y.s]++cb.map .val=([BD h x,BD h y]++cb).map .val:=by simp[cS,BD]
 have B:CK W m2 h ([cS x.s,cS y.s]++cb.map .val) ([BD h x,BD h y]++cb):=by
  rw[Y];refine⟨t _ _,?_,?_,T,λi j c d u v b f _ _ _ n _=>(A _ i c u b f n).elim,λi c u b f _ n=>(A _ i c u b f n).elim⟩
  .intro b o v Z;obtain⟨C,h2⟩:=Q b o v Z;rw[World.cell?_of_block (w:=w) (w':=W) (a:=⟨b,o,none⟩) (F b (World.block_lt_of_cell? w ⟨b,o,none⟩ C) h2)];exact C
  grind
 have:=J.2 _ _ m2 h W _ (U x y) B;have e2:(([BD h x,BD h y]++cb).toArray:Array Value)= #[BD h x,BD h y]++cb.toArray:=ay
 rw[e2]at this;refine this.mono ?_;rintro e w' ⟨r,u,m',h',rfl,⟨rfl,rfl,rfl⟩,H,z,_⟩;have hu:u= .int .i64 (cf x.l y.l):=H;subst hu;refine⟨rfl,No z.tape z.os z.output z.drawn z.size (λb n=>?_)⟩;cases O:m' b with
 |none=>
  refine z.frame b n ?_;rintro(C|⟨i,c,u,f,_,I⟩)
  .exact C O
  grind
 |some o=>rw[z.msat b o O];grind
theorem P1{α}[Inhabited α]{d:Array α}{c}(h:Sort.PermIn 0 d.size d c):c.toList.Perm d.toList:=by
 obtain⟨e,_,f⟩:=h;have g:d.extract 0 d.size=d:=ay
 have j:c.extract 0 d.size=c:=bg
 grind
theorem Sr{h:PH}{R:ca->Prop}:∀(ps:cu),(∀p∈ps,bS h p.1 p.2)->(∀p∈ps,R p.2)->∃ds:List (Hu h R),ds.map Hu.pr=ps
 |[],_,_=>⟨[],rfl⟩
 |p::ps,e,f=>by
  obtain⟨ds,c⟩:=Sr (R:=R) ps (λq d=>e q (mem_cons_of_mem _ d)) (λq d=>f q (mem_cons_of_mem _ d));exact⟨⟨p.1,p.2,e p (mem_cons_self ..),f p (mem_cons_self ..)⟩::ds,by rw[map_cons,c];rfl⟩
theorem L0{R:ca->Prop}{w m h s g cb ps cf m2 t}(a':t= .func (.func g) #[] cb.toArray)(D:CK w m h [cS s,.val t] [s.val,t])(hg:∃O,Tryz.prog.funcs[g]? =some O/\O.body.isSome=true/\(O.name== "runtime.NumGoroutine")=false)(hr:cT m s 65 1 (ps.map λp=>eS p.1))(hv:∀p∈ps,bS h p.1 p.2)(hR:∀p∈ps,R p.2)(b0:ps.length<=140737488355328)(hO:Sort.SWO (Go.Proofs.ltOf (fun(x y:Hu h R)=>cf x.l y.l)))(hc:cBZ Tryz.prog R g cb m2 h cf)(H:∀b o,m2 b=some o->m b=some o/\∀i,s.a≠some ⟨b,i,none⟩){K:bo}(hK:∀(I:cu)(m':MH),I.Perm ps->I.Pairwise (λp q=>¬cf q.2 p.2<0)->cT m' s 65 1 (I.map λp=>eS p.1)->(∀b,(∀i,s.a≠some ⟨b,i,none⟩)->m' b=m b)->K (.tup []) m' h):
 Calls Tryz.prog 135 #[s.val,t] w λe w'=>∃r u m' h',e= .returned u/\K r m' h'/\IP w' r u/\Dt ⟨w,yE m [cS s,.val t] [s.val,t],h,[]⟩ m' h' w'/\(∀b,jP r u=some b->(w.heap.size<=b\/yE m [cS s,.val t] [s.val,t] b)/\m' b=none/\∀i,h' b i=none):=by
 subst a';by_cases F:ps=[]
 .subst F;have a0:s.len=0:=by have:=cT.slen hr;grind
  have:=AnyF.slices_SortFunc_none Tryz.sortN s.a s.cap (.func (.func g) #[] cb.toArray) w;rw[show s.val= .slice s.a 0 s.cap by rw[<-a0];rfl];refine Calls.mono (show Calls Tryz.prog 135 #[.slice s.a 0 s.cap,.func (.func g) #[] cb.toArray] w _ from this) ?_;rintro e w' ⟨rfl,rfl⟩;exact⟨.tup [],.tuple #[],m,h,rfl,hK [] m (.refl _) .nil hr (λ_ _=>rfl),⟨#[],rfl,rfl⟩,⟨rfl,rfl,rfl,Nat.le_refl _,Nat.le_refl _,λ_ _ _=>rfl,D.hsat,D.msat,D.disj,λ_ _ _ e=>e,λ_ _ _=>rfl,λb o hb=>.inr (.inl bg)⟩,λb hb=>by simp[jP]at hb⟩
 obtain⟨p0,P⟩:=exists_mem_of_ne_nil _ F
 haveI:Inhabited (Hu h R):=⟨⟨p0.1,p0.2,hv p0 P,hR p0 P⟩⟩
 rcases hr.ex with⟨rfl,hx⟩|⟨b,z,A,rfl,Q,h0,h1,h2,h3⟩
 .exact(F (bk hx)).elim
 .simp only[length_map]at h0 h3;have J:=D.msat b _ Q;have S:=(Array.getElem?_eq_some_iff.1 J).1;obtain⟨B,T⟩:∃B:List (Hu h R),B.map Hu.pr=ps:=Sr ps hv hR;have U:B.length=ps.length:=bg
  have V:∀j,(G:j<B.length)->A[j]? =some (BD h B[j]):=λj G=>by
   have:(A.toList.take (ps.length*1))[j]? =((ps.map λp=>eS p.1).flatten)[j]? :=by rw[h3]
   rw[getElem?_take,if_pos aC,Array.getElem?_toList]at this;rw[this, <-T]
   have hf:((B.map Hu.pr).map λp:Sl×ca=>eS p.1).flatten=B.map (BD h):=by
    clear T U G this
    induction B with
    |nil=>rfl
    |cons a l ih=>simp only[map_cons,flatten_cons,ih];rfl
   grind
  have a1:A.size=z:=by omega
  have hH:Sort.Holds (BD h) w b 0 B.toArray:=by
   intro j G;have G:j<B.length:=by omega
   refine⟨?_,?_⟩
   .rw[cell_of_heap J,Array.getElem?_toList,Nat.zero_add,V j G,getElem!_pos _ j aC];simp
   .unfold World.frozen?
    grind
  obtain⟨O,a2,b1,b3⟩:=hg
  have eg:∀args w,(callFunc g args).run Tryz.prog w= .ok (.enter g args) w:=λargs w=>by
   have a3:¬O.body=none:=bg
   have a4:¬O.name= "runtime.NumGoroutine" :=bg
   simp[callFunc,program,Sem.run,a2,a4,a3]
  have W:=bPZ (blk:=b) (off:=0) (size:=B.toArray.size) hc (w:=w) (λc o v C=>⟨D.hsat c o v C,λe=>by rw[e,D.disj b _ Q o]at C;cases C⟩) (λc o d=>⟨D.msat c o (H c o d).1,λe=>(H c o d).2 0 (by rw[e])⟩) (λc o d=>D.disj c o (H c o d).1);have L:=Any.slices_SortFunc Tryz.sortF (BD h) (λ_=>rfl) (λx y=>cf x.l y.l) hO g cb.toArray b 0 z B.toArray w eg W hH S bf;have e3:(Sl.val ⟨some ⟨b,0,none⟩,(ps.map λp=>eS p.1).length,z⟩)= .slice (some ⟨b,0,none⟩) B.toArray.size z:=by simp[Sl.val,U]
  rw[e3];refine Calls.mono L ?_;rintro e w' ⟨rfl,f,n,os,X,a5,rfl⟩;have a6:f.size=B.length:=by have:=X.1;omega
  have a7:=P1 X;obtain⟨m',E⟩:∃m',lF m m' b (.cells (Sort.putCells (BD h) 0 f A) 65 (0,0)):=⟨λc=>if c=b then some (.cells (Sort.putCells (BD h) 0 f A) 65 (0,0))else m c,ay,λc d=>by simp[d]⟩
  have b4:(Sort.putRow (BD h) (Sort.ahead w n) b 0 f).heap.size=w.heap.size:=by unfold Sort.putRow Sort.mapBlock;simp[Sort.ahead]
  have b2:(Go.Proofs.sortWorld (BD h) w b 0 n f os).heap[b]? =some (.cells (Sort.putCells (BD h) 0 f A) 65 (0,0)):=by
   show((Sort.putRow (BD h) (Sort.ahead w n) b 0 f).heap++os)[b]? =_;rw[Array.getElem?_append_left aC];unfold Sort.putRow Sort.mapBlock;simp only[Array.getElem?_modify,if_true];show Option.map _ w.heap[b]? =_;rw[J];rfl
  have Y:∀c,c<w.heap.size->c≠b->(Go.Proofs.sortWorld (BD h) w b 0 n f os).heap[c]? =w.heap[c]? :=λc d M=>by
   show((Sort.putRow (BD h) (Sort.ahead w n) b 0 f).heap++os)[c]? =_;rw[Array.getElem?_append_left aC];unfold Sort.putRow Sort.mapBlock;simp only[Array.getElem?_modify,if_neg (Ne.symm M)];rfl
  have hE:yE m [cS ⟨some ⟨b,0,none⟩,(ps.map λp=>eS p.1).length,z⟩,.val (.func (.func g) #[] cb.toArray)] [.slice (some ⟨b,0,none⟩) B.toArray.size z,.func (.func g) #[] cb.toArray] b:=.inl (by rw[Q];simp);refine⟨.tup [],.tuple #[],m',h,rfl,hK (f.toList.map Hu.pr) m' ?_ ?_ ?_ (λc d=>E.other c (λe=>d 0 (by rw[e]))),⟨#[],rfl,rfl⟩,⟨rfl,rfl,rfl,Nat.le_add_right _ _,?_,?_,?_,?_,?_,λ_ _ _ e=>e,λ_ _ _=>rfl,?_⟩,λb hb=>by simp[jP]at hb⟩
  .grind
  .rw[pairwise_map,pairwise_iff_getElem];intro i j hi G a8 Z;have hi:i<f.size:=by omega
   have G:j<f.size:=by omega
   have:=a5 i j (Nat.zero_le _) a8 bf;rw[getElem!_pos f i hi,getElem!_pos f j G]at this;unfold Go.Proofs.ltOf at this;simp only[decide_eq_false_iff_not]at this;simp only[Array.getElem_toList]at Z;exact this Z
  .refine⟨⟨λe he=>?_,λe he u hu=>?_⟩,.inr ⟨b,z,_,?_,E.at_,bf,h1,?_,?_⟩⟩
   .obtain⟨x,_,rfl⟩:=mem_map.1 he;rfl
   .obtain⟨x,_,rfl⟩:=mem_map.1 he;have:u= .slice x.1.a x.1.len x.1.cap:=by simpa[eS]using hu
    rw[this];rfl
   .grind
   .simp[Sort.putCells,a1]
   .apply ext_getElem?;intro j
    have hf:((f.toList.map Hu.pr).map λp:Sl×ca=>eS p.1).flatten=f.toList.map (BD h):=by
     generalize f.toList=l
     induction l with
     |nil=>rfl
     |cons a l ih=>simp only[map_cons,flatten_cons,ih];rfl
    rw[hf,getElem?_take];simp only[length_map,Array.length_toList,Nat.mul_one];by_cases G:j<f.size
    .rw[if_pos G,Array.getElem?_toList,getElem?_map,Array.getElem?_toList,Array.getElem?_eq_getElem G];have a9:j<A.size:=by omega
     simp only[Sort.putCells,Array.getElem?_mapIdx,Array.getElem?_eq_getElem a9,Option.map_some,Nat.zero_le,Nat.zero_add,Nat.sub_zero,true_and]
     grind
    grind
  .grind
  .grind
  .intro c o v C;have M:c≠b:=λe=>by rw[e,D.disj b _ Q o]at C;cases C
   have h5:=D.hsat c o v C;rw[World.cell?_of_block (w:=w) (a:=⟨c,o,none⟩) (Y c (World.block_lt_of_cell? w ⟨c,o,none⟩ h5) M)];exact h5
  .intro c o d;by_cases e:c=b
   .subst e;rw[E.at_]at d;grind
   .rw[E.other c e]at d;have h5:=D.msat c o d
    grind
  .intro c o d i;by_cases e:c=b
   .subst e;exact D.disj c _ Q i
   .rw[E.other c e]at d;exact D.disj c o d i
  .intro c o d;by_cases e:c=b
   .grind
   .rw[E.other c e]at d;exact .inr (.inl bg)
end Go.Ps
namespace Go.Vc
open Go List
theorem cT.rd{m h s E sz xs}(r:cT m s E sz xs){i e}(c:xs[i]? =some e):∃b,s.a=some ⟨b,0,none⟩/\aK m h b (i*sz) e:=by
 rcases r.ex with⟨_,rfl⟩|⟨b,o,d,rfl,t,A,B,C,u⟩
 .simp at c
 .refine⟨b,rfl,.lent d E (0,0) t ?_⟩;have y:=(List.getElem?_eq_some_iff.1 c).1;have f:=r.rows.len e (mem_of_getElem? c)
  have g:∀(l:List bt)(k:Nat),(∀x∈l,x.length=sz)->l[k]? =some e->(l.flatten.drop (k*sz)).take sz=e:=by
   intro l
   induction l with
   |nil=>grind
   |cons a l D=>
    intro k z F;have j:=z a (mem_cons_self ..);cases k with
    |zero=>
     grind
    |succ k=>
     rw[flatten_cons,Nat.succ_mul,Nat.add_comm, <-drop_drop, <-j,drop_left,j]
     grind
  have n:=g xs i r.rows.len c;rw[f];rw[<-u]at n;rw[drop_take,take_take]at n
  grind
theorem uN.sub{m m' h s sz c}(r:uN m h s sz c)(d:∀b o,m b=some o->m' b=some o):uN m' h s sz c:=by
 rcases r with r|⟨b,o,e,E,f,g,j,n,t⟩
 .exact .imm r
 .exact .lent b o e E f g j (d _ _ n) t
theorem cT.src{m h s E sz xs}(r:cT m s E sz xs):uN m h s sz xs:=by
 rcases r.ex with⟨rfl,rfl⟩|⟨b,d,c,rfl,e,f,g,j,n⟩
 .exact .imm (dC.nil h sz)
 .refine .lent b 0 c E (0,0) rfl rfl e ?_
  grind
end Go.Vc
namespace Go.Ps
open Go Go.Vc Go.Proofs List Tryz
variable{K:bo}{m:MH}{h:PH}{s:jQ}{ps:bn}{cb:Nat}{sc:bZ}{v:QV}{p:Pred}{l:bn}{i:Nat}{N:Nat}{m':MH}{h':PH}{co:bn}{gr:bn}{od:bz}{ta:Int}{li:Int}{xs:List bt}{sz:Nat}{ks:List bn}{rs:bn}{r:Sl}{a:bn}{b:Nat}
structure Un{α:Type}(c:α->α->Int):Prop where
 anti:∀x y,c x y= -c y x
 trans:∀x y z,c x y<=0->c y z<=0->c x z<=0
theorem Un.zero{α}{c:α->α->Int}(h:Un c){x y z}(d:c x y<=0)(e:c y z<=0)(f:c x z=0):c x y=0/\c y z=0:=by
 have g:=h.anti x z;have j:=h.anti x y;have n:=h.anti y z;have o:=h.trans z x y aC d;have t:=h.trans y z x e aC;omega
theorem UZ{c d:Int}(h:(if c≠0 then c else d)<=0):c<=0:=by
 omega
theorem Un.lex{α}{c:α->α->Int}{d}(h:Un c)(k:Un d):Un (λx y=>if c x y≠0 then c x y else d x y):=by
 refine⟨λx y=>?_,λx y z f g=>?_⟩
 .have a:=h.anti x y;have b:=k.anti x y;omega
 .have j:c x y<=0:=UZ f;have n:c y z<=0:=UZ g;have o:=h.trans x y z j n;show(if c x z≠0 then c x z else d x z)<=0;by_cases e:c x z=0
  .obtain⟨t,u⟩:=h.zero j n e;have f:(if c x y≠0 then c x y else d x y)<=0:=f;have g:(if c y z≠0 then c y z else d y z)<=0:=g;rw[if_neg aC]at f;rw[if_neg aC]at g;rw[if_neg (bk e)];exact k.trans x y z f g
  omega
theorem Un.of{α β c}(h:Un c)(f:β->α):Un (λx y=>c (f x) (f y)):=⟨λx y=>h.anti _ _,λx y z=>h.trans _ _ _⟩
theorem Yn:Un Dr:=by
 refine⟨λx y=>?_,λx y z=>?_⟩
 .unfold Dr;omega
 .unfold Dr;omega
theorem T4:∀a b:ck,Lib.compareBytes a b= -Lib.compareBytes b a
 |[],[]=>rfl
 |[],_::_=>rfl
 |_::_,[]=>rfl
 |a::l,b::k=>by
  simp only[Lib.compareBytes];by_cases c:a<b
  .grind
  .by_cases d:b<a
   .simp[c,d]
   .simp only[c,d,if_false];exact T4 l k
theorem Rl:∀a b c:ck,Lib.compareBytes a b<=0->Lib.compareBytes b c<=0->Lib.compareBytes a c<=0
 |[],_,[],_,_=>by simp[Lib.compareBytes]
 |[],_,_::_,_,_=>by simp[Lib.compareBytes]
 |_::_,[],_,f,_=>by simp[Lib.compareBytes]at f
 |_::_,_::_,[],_,d=>by simp[Lib.compareBytes]at d
 |a::l,b::k,c::q,f,d=>by
  simp only[Lib.compareBytes]at f d⊢
  by_cases g:a<c
  .simp[g]
  .by_cases j:a<b
   .grind
   .by_cases n:b<a
    .grind
    .have e:a=b:=UInt8.le_antisymm (UInt8.not_lt.1 n) (UInt8.not_lt.1 j);subst e;simp only[j,g,if_false]at f d⊢
     by_cases o:c<a
     .grind
     .simp only[o,if_false]at d⊢
      exact Rl l k q f d
theorem LG:Un oZ:=by
 have c:Un RX:=⟨λx y=>T4 _ _,λx y z=>Rl _ _ _⟩
 exact(Yn.of VV.kind).lex ((Yn.of VV.int).lex (c.of VV.text))
theorem pV:∀a b,eW a b= -eW b a
 |[],[]=>rfl
 |[],_::_=>rfl
 |_::_,[]=>rfl
 |x::l,y::k=>by
  have a:=LG.anti x y;simp only[eW];by_cases e:oZ x y=0
  .rw[if_neg (bk e),if_neg aC];exact pV l k
  omega
theorem Df:∀a b c,eW a b<=0->eW b c<=0->eW a c<=0
 |[],_,[],_,_=>by simp[eW]
 |[],_,_::_,_,_=>by simp[eW]
 |_::_,[],_,d,_=>by simp[eW]at d
 |_::_,_::_,[],_,f=>by simp[eW]at f
 |x::l,y::k,z::q,d,f=>by
  simp only[eW]at d f⊢
  have g:oZ x y<=0:=UZ d;have j:oZ y z<=0:=UZ f;have n:=LG.trans x y z g j;by_cases e:oZ x z=0
  .obtain⟨o,t⟩:=LG.zero g j e;rw[if_neg aC]at d;rw[if_neg aC]at f;rw[if_neg (bk e)];exact Df l k q d f
  omega
theorem Hq:Un eW:=⟨pV,Df⟩
theorem Un.swo{R cf}(c:Un cf):Sort.SWO (Go.Proofs.ltOf (fun(x y:Hu h R)=>cf x.l y.l)):=by
 refine⟨λx=>?_,λx y z d f=>?_,λx y z d f=>?_⟩
 .have:=c.anti x.l x.l;unfold Go.Proofs.ltOf;simp;omega
 .unfold Go.Proofs.ltOf at*
  simp only[decide_eq_true_eq]at*
  have t:=c.trans x.l y.l z.l aC aC;by_cases e:cf x.l z.l=0
  .have:=c.zero (x:=x.l) (y:=y.l) (z:=z.l) aC aC e;omega
  .omega
 .unfold Go.Proofs.ltOf at*
  simp only[decide_eq_false_iff_not]at*
  have g:=c.anti x.l y.l;have j:=c.anti y.l z.l;have n:=c.anti x.l z.l;have t:=c.trans z.l y.l x.l aC aC;omega
def Mq(x:ca):br->br
 |[]=>[x]
 |y::l=>if eW x y<0 then x::y::l else if eW x y=0 then y::l else y::Mq x l
def Eb(l:br):=l.foldr Mq []
abbrev lN(l:br):=l.Pairwise λx y=>eW x y<0
theorem Qv{x z:ca}:∀{l:br},z∈Mq x l↔z=x\/z∈l
 |[]=>by simp[Mq]
 |y::l=>by
  simp only[Mq];split
  .simp
  .split
   .rename_i _ e;have:=lB.1 e
    grind
   .simp only[mem_cons,Qv (l:=l)]
    grind
theorem NW{x:ca}:∀{l:br},lN l->lN (Mq x l)
 |[],_=>by simp[Mq]
 |y::l,h=>by
  obtain⟨g,f⟩:=pairwise_cons.1 h;simp only[Mq];split
  .rename_i d;refine pairwise_cons.2 ⟨λz c=>?_,h⟩;rcases mem_cons.1 c with rfl|c
   .exact d
   .have t:=Df x y z aC bg;by_cases e:eW x z=0
    .have:=Hq.zero (x:=x) (y:=y) (z:=z) aC bg e;omega
    .omega
  .split
   .exact h
   .rename_i j n;refine pairwise_cons.2 ⟨λz c=>?_,NW f⟩;rcases Qv.1 c with rfl|c
    .have:=pV z y;omega
    grind
theorem ED{x:ca}:∀{l:br},x∈Eb l↔x∈l
 |[]=>by simp[Eb]
 |y::l=>by
  show x∈Mq y (Eb l)↔_;rw[Qv,ED,mem_cons]
theorem GW:∀(l:br),lN (Eb l)
 |[]=>.nil
 |_::l=>NW (GW l)
theorem PD:∀{a b:br},lN a->lN b->(∀x,x∈a↔x∈b)->a=b
 |[],[],_,_,_=>rfl
 |[],y::_,_,_,h=>by have:=(h y).2 ay;simp at this
 |x::_,[],_,_,h=>by have:=(h x).1 ay;simp at this
 |x::a,y::b,c,d,h=>by
  obtain⟨f,g⟩:=pairwise_cons.1 c;obtain⟨j,n⟩:=pairwise_cons.1 d;have o:∀z,¬eW z z<0:=λz=>by have:=pV z z;omega
  have e:x=y:=by
   rcases mem_cons.1 ((h x).1 ay)with e|t
   .exact e
   .rcases mem_cons.1 ((h y).2 ay)with e|u
    .exact e.symm
    .have B:=f y u;have C:=j x t;have:=pV x y;omega
  subst e;congr 1;refine PD g n (λz=>⟨λA=>?_,λA=>?_⟩)
  .grind
  grind
theorem UF{l r}(c:lN r)(d:∀x,x∈r↔x∈l):r=Eb l:=PD c (GW l) λx=>by rw[d,ED]
theorem aPJ{l}(h:lN l):Eb l=l:=(UF h λ_=>Iff.rfl).symm
def aNJ:Vc.Spec:=λc m h K=>∃(s:Sl)(d:bx),c=[cS s]/\uN m h s 1 (d.map eS)/\d.length<=502633886983/\∀e m',cT m' e 65 1 (d.map eS)->(∀b o,m b=some o->m' b=some o)->(∀b i,e.a=some ⟨b,i,none⟩->m b=none)->K (cS e) m' h
def bTQ:Vc.Spec:=λd m h K=>∃(s:Sl)(ps:cu),d=[cS s,.val (.func (.func 93) #[] #[])]/\cT m s 65 1 (ps.map λp=>eS p.1)/\(∀p∈ps,bS h p.1 p.2)/\ps.length<=140737488355328/\
 ∀(c:cu)(m':MH),c.Perm ps->c.Pairwise (λp q=>¬eW q.2 p.2<0)->cT m' s 65 1 (c.map λp=>eS p.1)->(∀b,(∀i,s.a≠some ⟨b,i,none⟩)->m' b=m b)->K (.tup []) m' h
structure eX(h:PH)(us:bx)(rs:br):Prop where
 len:us.length=rs.length
 at_:∀(j:Nat) x,rs[j]? =some x->∃u,us[j]? =some u/\bS h u x
def bjQ:Vc.Spec:=λc m h K=>∃s d l,c=[cS s]/\uN m h s 1 (d.map eS)/\eX h d l/\l.length<=502633886983/\∀e h',PH.le h h'->Rows h' e (Eb l)->K (cS e) m h'
noncomputable def cdJ:=
 dE [(134,aNJ),(135,bTQ),(93,I8)] [(5,{A:=Nat×bx×Sl×MH×PH,st:=λ⟨i,c,s,m,h⟩=>bU 38 39 [(3,sv s),(4,.at (.lst 35)),(11,sv s),(12,iv s.len),(13,iv i)] [(35,.lst 65 1 (c.map eS))] m h})] [] [] false
def Ra(n c:Nat)(m:MH)(h:PH)(K:bo):=
  K EZ m h
theorem bJJ n c m h K:Ra n c m h K=(wW (qV [] [] [] [] [58,1058] [] false) Tryz.f134 (dX Tryz.f134) (entry Tryz.f134.ntmps [.val (.slice none n c)] m h) K):=ax
abbrev jU(a:Sl->MH->Prop):=∀(x:Sl)(c:MH),a x c
abbrev Fs(a:Prop)(b:(List bt)->Prop):=a/\∃(x:List bt),b x
attribute [push_cast] jU Fs
def Q9(a:Addr)(n c:Nat)(m:MH)(h:PH)(K:bo):=
  jU (λs d=>sA m d h s 65 1 []->∃(x:List bt),Fs (cT d (dN s) 65 1 x) (λy=>aA (fN 1 y) (uN d h (Sl.mk (Option.some a) n c) 1 y) (aA (sL x y 24) (sM x y) (jU (λe f=>fY d f (dN s) e 65 1 (x++y)->K (mQ e) f h)))))
theorem bJZ a n c m h K:Q9 a n c m h K=(wW (qV [] [] [] [] [58,1058] [] false) Tryz.f134 (dX Tryz.f134) (entry Tryz.f134.ntmps [.val (.slice (some a) n c)] m h) K):=ax
abbrev Kn(a:Nat)(b:bx)(c:MH->Nat->Obj->Prop)(d:Nat->Prop)(e:Sl->MH->Prop):=∀(x:Sl)(g:MH),bG (cT g x 65 a (gH b)) (∀(f:Nat)(j:Obj),c g f j) ((∀(f j:Nat),aW x.a f j->d f)->e x g)
abbrev F9(a:MH)(b:Nat):=a b=Option.none
abbrev Fx a b c:=cT a b 65 1 (List.map (fun(x:Sl×ca)=>aR x.1) c)
abbrev OY(a:(Nat×bx×Sl×MH×PH->Prop)->(Nat×bx×Sl×MH×PH)->Prop)(b:(Nat×bx×Sl×MH×PH->Prop)->(Nat×bx×Sl×MH×PH->Nat)->(Nat×bx×Sl×MH×PH)->Prop):=∃(x:Nat×bx×Sl×MH×PH->Prop)(d:Nat×bx×Sl×MH×PH->Nat),(∃(c:Nat×bx×Sl×MH×PH),a x c)/\∀(c:Nat×bx×Sl×MH×PH),b x d c
abbrev gU(a:Nat×bx×Sl×MH×PH):=a.2.2.1
abbrev AR a:=Ii 65 a
abbrev j5(a:Nat×bx×Sl×MH×PH):=a.2.2.2
abbrev rH a:=(j5 a).2
abbrev Gb(a:List bt):=[]++a
abbrev Qh(a b:Prop)(c:(Nat×bx×Sl×MH×PH)->Prop):=aA a b (∃(x:Nat×bx×Sl×MH×PH),c x)
abbrev rE(a:Nat×bx×Sl×MH×PH):=gH a.2.1
abbrev xA a b c:=bR 65 1 (dL a (aR b))=mV 65 c
abbrev fJ(a b:MH×PH):=dJ a.1 b
abbrev rG a b:=mV 65 a=mV 65 b
abbrev dA(a b:MH×PH):=fC a.2 b
attribute [push_cast] Kn F9 Fx OY gU AR j5 rH Gb Qh rE xA fJ rG dA
def QN s m h K:=
  ∃(D:Sl)(u:bx),aI (eO (mQ s) (mQ D)) (uN m h D 1 (gH u)) (u.length<=502633886983) (Kn 1 u (λj b o=>m b=Option.some o->j b=Option.some o) (λb=>F9 m b) (λn j=>∃(z:Sl)(p:cu),aA (fZ n (mJ 93 sF)=fZ z (mJ 93 sF)) (Fx j z p) (aA (∀(e:Sl×ca),List.Mem e p->bS h e.1 e.2) (nT p.length) (∀(e:cu)(B:MH),bG (List.Perm e p) (List.Pairwise (fun(H:Sl×ca)=>fun(q:Sl×ca)=>¬(eW q.2 H.2<0)) e) (bG (Fx B z e) (∀(b:Nat),(∀(i:Nat),mK (aW z.a b i))->B b=j b) (OY (λI x=>aA (I x) (aZ n (gU x)) (aA (eL 35) (aZ n (gU x)) (aA (bN n (gU x)) (bA x.1) (aA (AR x.2.1) (dJ B (j5 x)) (kZ (fC h (j5 x))))))) (λI f
 x=>I x->aY (↑x.1:Int) (aH (gU x)) (bJ (λb o=>aI (aW (gU x).a b o) (0<=(↑x.1:Int)) ((↑x.1:Int)<aH (gU x)) (∃(y:Sl),aK (j5 x).1 (rH x) b (o+bM x.1 1) (aR y)/\eU (↑x.1:Int) 0 (∃(d:List bt),aA (fN 3 d) (dC (rH x) (dN y) 3 d) (aA (i7 (0+d.length) 32) (nT (0+d.length)) (bY (rH x) 3 (Gb d) (λA C=>Qh (kB (rE x)) (dO (rE x)) (λc=>aA (I c) (f c<f x) (aA (aZ (gU x) (gU c)) (eL 35) (aA (aZ (gU x) (gU c)) (bN (gU x) (gU c)) (aA (gK (bE x.1 1)=bO c.1) (xA (rE x) A c.2.1) (aA (fJ (j5 x) (j5 c)) (fC C (j5 c)) True))))))))) (bJ (λE F=>aI (aW (gU x).a E F) (0<=fG ((↑x.1:Int)-1)) (fG ((↑x.1:Int)-1)<
 aH (gU x)) (∃(d:Sl),aK (j5 x).1 (rH x) E (F+gY (fG ((↑x.1:Int)-1)) 1) (aR d)/\∃(A:Sl),oS (λt a=>∃(G:ca),aI (cJ d y=cJ A t) (bS (rH x) A a) (bS (rH x) t G) (cV (eW a G) 0 (∃(g:List bt),aA (fN 3 g) (dC (rH x) (dN y) 3 g) (aA (i7 (0+g.length) 32) (nT (0+g.length)) (bY (rH x) 3 (Gb g) (λJ C=>Qh (kB (rE x)) (dO (rE x)) (λc=>aA (I c) (f c<f x) (aA (aZ (gU x) (gU c)) (eL 35) (aA (aZ (gU x) (gU c)) (bN (gU x) (gU c)) (aA (gK (bE x.1 1)=bO c.1) (xA (rE x) J c.2.1) (aA (fJ (j5 x) (j5 c)) (fC C (j5 c)) True))))))))) (∃(c:Nat×bx×Sl×MH×PH),aA (I c) (f c<f x) (aA (aZ (gU
 x) (gU c)) (eL 35) (aA (aZ (gU x) (gU c)) (bN (gU x) (gU c)) (aA (gK (bE x.1 1)=bO c.1) (rG x.2.1 c.2.1) (aA (fJ (j5 x) (j5 c)) (dA (j5 x) (j5 c)) True))))))))))))) (tZ (rH x) (rE x) K (j5 x).1))))))))
theorem Bt(l:bx):fN 1 (l.map eS):=by
 constructor
 .intro e c;obtain⟨x,_,rfl⟩:=mem_map.1 c;rfl
 .intro e c u d;obtain⟨x,_,rfl⟩:=mem_map.1 c;have:u= .slice x.a x.len x.cap:=by simpa[eS]using d
  rw[this];rfl
theorem PL(l:ca):fN 3 (l.map VV.enc):=by
 constructor
 .intro e c;obtain⟨x,_,rfl⟩:=mem_map.1 c;rfl
 .intro e c u d;obtain⟨x,_,rfl⟩:=mem_map.1 c;simp only[VV.enc,mem_cons,not_mem_nil,or_false]at d;rcases d with rfl|rfl|rfl<;>rfl
theorem ajQ:bm 134 aNJ:=by
 refine fK (fn:=Tryz.f134) (c:=dX Tryz.f134) func134 rfl az ?_;rintro B m h K ⟨s,t,rfl,g,F,u⟩;obtain⟨a,n,c⟩:=s;refine⟨qV [] [] [] [] [58,1058] [] false,rfl,aG,?_⟩;cases a with
 |none=>
  show wW _ Tryz.f134 (dX Tryz.f134) (entry Tryz.f134.ntmps [.val (.slice none n c)] m h) K;rw[<-bJJ n c m h K];dsimp only[Ra,push_cast]
  have e:t.map eS=[]:=by
   rcases g with g|⟨b,o,G,E,H,e,_⟩
   .rcases g.row with e|⟨b,o,e,_⟩
    .exact e
    .cases e
   .cases e
  rw[e]at u;exact u ⟨none,0,0⟩ m ⟨⟨(λe y=>by cases y),(λe y=>by cases y)⟩,.inl ⟨rfl,rfl⟩⟩ (λb o e=>e) (λb i e=>by cases e)
 |some a=>
  show wW _ Tryz.f134 (dX Tryz.f134) (entry Tryz.f134.ntmps [.val (.slice (some a) n c)] m h) K;rw[<-bJZ a n c m h K];dsimp only[Q9,push_cast];intro s m' d
  have sub:∀b o,m b=some o->m' b=some o:=λb o f=>by
   rw[d.other b (λi e=>by rw[(d.fresh b i e).m_]at f;cases f)];exact f
  refine⟨[],d.row,t.map eS,Bt t,g.sub sub,bf,bf,λC D z=>u C D (bk z.row) (λb o f=>?_) (λb i e=>?_)⟩
  .exact z.other b o (sub b o f) (λi e=>by have e:s.a=some ⟨b,i,none⟩:=e;rw[(d.fresh b i e).m_]at f;cases f)
  .rcases z.fresh b i e with A|⟨j,A⟩
   .cases I:m b with
    |none=>rfl
    |some o=>grind
   .exact(d.fresh b j A).m_
theorem X3:bm 135 bTQ:=by
 refine⟨⟨Tryz.f135,func135,rfl,az⟩,?_⟩;rintro f e m h w K ⟨s,ps,rfl,j,n,t,u⟩ c
 obtain⟨v,d,rfl⟩:∃v d,e=[v,d]:=by
  have:=(qW c.args).1
  match e,this with
  |[v,d],_=>grind
 have z:v=s.val:=c.args.1;have A:d= .func (.func 93) #[] #[]:=c.args.2.1;subst z A;refine L0 (R:=λ_=>True) (g:=93) (cb:=[]) (m2:=λ_=>none) (cf:=eW) rfl c ⟨Tryz.f93,func93,rfl,az⟩ j n (λ_ _=>trivial) t Hq.swo ⟨I8,ES,λx y=>⟨x.s,y.s,x.l,y.l,rfl,x.ok,y.ok,rfl,rfl,rfl⟩⟩ (λb o B=>by cases B) u
theorem eX.mono{us rs}(x:eX h us rs)(le:PH.le h h'):eX h' us rs:=⟨x.len,λj r d=>(x.at_ j r d).imp λ_ c=>⟨c.1,bS.mono c.2 le⟩⟩
theorem eX.nil h:eX h [] []:=⟨rfl,λj x c=>by simp at c⟩
theorem eX.snoc{us rs}(x:eX h us rs){u r}(d:bS h u r):eX h (us++[u]) (rs++[r]):=by
 refine⟨by simp[x.len],λj y c=>?_⟩;by_cases f:j<rs.length
 .rw[getElem?_append_left f]at c;obtain⟨v,g,n⟩:=x.at_ j y c
  grind
 .rw[getElem?_append_right aC]at c;have:=(List.getElem?_eq_some_iff.1 c).1;simp at this;have e:j=rs.length:=by omega
  subst e;simp at c;subst c;exact⟨u,by rw[getElem?_append_right (by rw[x.len];omega),x.len];simp,d⟩
theorem eX.rows{h us rs s}(x:eX h us rs)(c:dC h s 1 (us.map eS))(d:rs.length<=502633886983):Rows h s rs:=⟨⟨us,c,x.len.symm,x.at_⟩,d⟩
structure aqZ(ps':cu)(s1:Sl)(m2:MH)(h:PH)(i:Nat)(us2:bx)(s2:Sl)(mx:MH)(hx:PH):Prop where
 s_:s2=s1
 m_:mx=m2
 le:PH.le h hx
 hi:i<=ps'.length
 hu:us2.length<=i
 ex:∃rs,eX hx us2 rs/\lN rs/\∀x,x∈rs↔x∈(ps'.take i).map Prod.snd
theorem Oa{hx u r us}{Q:Sl->PH->Prop}(c:bS hx u r)(y:us.length<=502633886983)(f:∀s h',hx.le h'->bS h' s r->Q s h'):
 ∃d:List bt,fN 3 d/\dC hx (Sl.mk u.a u.len u.cap) 3 d/\(0+d.length)*32<=140737488355328/\0+d.length<=140737488355328/\∀(s:Sl)(h':PH),hx.le h'->dC h' s 3 ([]++d)->
  ((List.map eS us).length+1)*24<=140737488355328/\(List.map eS us).length<140737488355328/\Q s h':=by
 obtain⟨e,g,j,n⟩:=c.ex;have o:=c.len;refine⟨e.map VV.enc,PL e,g,bg,bg,λs h' le t=>⟨bg,bg,f s h' le ⟨⟨e,t,j,n⟩,o⟩⟩⟩
theorem cJX{s us l}(hr:uN m h s 1 (us.map eS))(F:eX h us l)(b4:l.length<=502633886983)(hK:∀s' h',PH.le h h'->Rows h' s' (Eb l)->K (cS s') m h'):QN s m h (lR h K):=by
 dsimp only[QN,push_cast];have b5:=F.len.symm;have b6:=F.at_;refine⟨s,us,rfl,hr,aC,λs1 m1 a0 a1 b2=>⟨s1,us.zip l,rfl,?_,λp G=>?_,bf,λc m2 d P f a2=>?_⟩⟩
 .have:(us.zip l).map (λp=>[dP p.1])=us.map eS:=by
   rw[show(λp:Sl×ca=>[dP p.1])=eS∘Prod.fst from rfl, <-map_map,map_fst_zip aC]
  grind
 .obtain⟨j,C⟩:=getElem?_of_mem G;rw[getElem?_zip_eq_some]at C
  grind
 .have b7:c.length=us.length:=by rw[d.length_eq];simp;omega
  have Q:=cT.slen f;simp only[length_map]at Q
  have R:∀{i:Nat}{p:Sl×ca},c[i]? =some p->bS h p.1 p.2:=fun{i p} G=>by
   have:=d.mem_iff.1 (mem_of_getElem? G);obtain⟨j,C⟩:=getElem?_of_mem this;rw[getElem?_zip_eq_some]at C
   grind
  have b3:∀x,x∈c.map Prod.snd↔x∈l:=λx=>by
   rw[(d.map Prod.snd).mem_iff,map_snd_zip aC]
  have H:∀b o,m b=some o->m2 b=some o:=λb o hb=>by
   grind
  refine⟨λx=>aqZ c s1 m2 h x.1 x.2.1 x.2.2.1 x.2.2.2.1 x.2.2.2.2,λx=>c.length-x.1,⟨(0,[],s1,m2,h),⟨rfl,rfl,.refl _,ay,ay,[],.nil h,.nil,ay⟩,MT⟩,?_⟩;rintro⟨i,n,I,J,S⟩ ⟨e1,e2,le,hi,a3,rs,u,L,D⟩;dsimp only at e1 e2 le hi a3 u;subst e1 e2;refine aF (λT=>?_) (λa4=>?_)
  .dsimp only at T;have U:i<c.length:=by omega
   obtain⟨p,G⟩:∃p,c[i]? =some p:=⟨_,getElem?_eq_getElem U⟩
   obtain⟨b,e1,r1⟩:=f.rd (h:=S) (i:=i) (e:=eS p.1) (by simp[G];rfl);have M:=bS.mono (R G) le
   have a5:∀x,x∈(c.take (i+1)).map Prod.snd↔x∈(c.take i).map Prod.snd\/x=p.2:=λx=>by
    rw[take_add_one,G];simp
   have V:(∀y∈rs,eW y p.2<0)->∀(s:Sl)(h':PH),S.le h'->bS h' s p.2->aqZ c I J h (i+1) (n++[s]) I J h':=λhc s h' g A=>by
    refine⟨rfl,rfl,le.trans g,aC,bf,rs++[p.2],(u.mono g).snoc A,pairwise_append.2 ⟨L,ay,λy O z hz=>?_⟩,λx=>?_⟩
    .grind
    grind
   have keep:p.2∈rs->aqZ c I J h (i+1) n I J S:=λhc=>
    ⟨rfl,rfl,le,aC,aC,rs,u,L,λx=>bg⟩
   refine⟨b,0,e1,aC,T,p.1,by simpa[eS]using r1,aD (λh0=>?_) (λh0=>?_)⟩
   .have h0:i=0:=bg
    subst h0
    have b8:rs=[]:=by
     cases rs with
     |nil=>rfl
     |cons y _=>have:=(D y).1 ay;simp at this
    exact Oa M bg (λs h' g A=>⟨(0+1,n++[s],I,J,h'),V bg s h' g A,bg,rfl,rfl,rfl,rfl,rfl,by simp[eS],rfl,rfl,trivial⟩)
   .have h0:i≠0:=bg
    have hw:IntKind.i64.wrap ((i:Int)-1)=((i-1:Nat):Int):=by rw[fB aC aC];omega
    obtain⟨q,W⟩:∃q,c[i-1]? =some q:=⟨_,getElem?_eq_getElem aC⟩
    obtain⟨b',a6,a7⟩:=f.rd (h:=S) (i:=i-1) (e:=eS q.1) (by simp[W];rfl);have a8:=bS.mono (R W) le
    have X:q.2∈rs:=by
     rw[D];refine mem_map.2 ⟨q,?_,rfl⟩;exact mem_of_getElem? (i:=i-1) bg
    have B:∀y∈rs,eW y q.2<=0:=λy O=>by
     rw[D]at O;obtain⟨z,hz,rfl⟩:=mem_map.1 O;obtain⟨j,C⟩:=getElem?_of_mem hz;have a9:=(List.getElem?_eq_some_iff.1 C).1;simp only[length_take]at a9;rw[getElem?_take,if_pos aC]at C;by_cases e:j=i-1
     .subst e;rw[W]at C;cases C;have:=pV q.2 q.2;omega
     .have h1:=pairwise_iff_getElem.1 P j (i-1) aC aC aC;rw[(List.getElem?_eq_some_iff.1 C).2,(List.getElem?_eq_some_iff.1 W).2]at h1;have:=pV z.2 q.2;omega
    have Y:eW q.2 p.2<=0:=by
     have h1:=pairwise_iff_getElem.1 P (i-1) i aC aC aC;rw[(List.getElem?_eq_some_iff.1 G).2,(List.getElem?_eq_some_iff.1 W).2]at h1;have:=pV q.2 p.2;omega
    dsimp only;rw[hw];refine⟨b',0,a6,aC,aC,q.1,by simpa[eS]using a7,q.1,p.1,q.2,p.2,rfl,a8,M,aD (λb0=>?_) (λZ=>?_)⟩
    .have b0:eW q.2 p.2≠0:=bg
     refine Oa M aC (λs h' g A=>⟨(i+1,n++[s],I,J,h'),V (λy O=>?_) s h' g A,aC,rfl,rfl,rfl,rfl,by rw[iS aC],by simp[eS],rfl,rfl,trivial⟩);have t:=Df y q.2 p.2 (B y O) Y;by_cases e:eW y p.2=0
     .have:=Hq.zero (B y O) Y e;omega
     .omega
    .have Z:eW q.2 p.2=0:=bg
     exact⟨(i+1,n,I,J,S),keep (by rw[<-lB.1 Z];exact X),aC,rfl,rfl,rfl,rfl,by rw[iS aC],rfl,rfl,rfl,trivial⟩
  .intro s3 h3 E a';dsimp only at a4 a' E;have b1:i=c.length:=by omega
   subst b1;rw[take_length]at D;have e:rs=Eb l:=UF L (λx=>bg);subst e;have hl:=u.len;exact⟨m,h3,H,le.trans E,.refl _,hK s3 h3 (le.trans E) ((u.mono E).rows a' aC)⟩
theorem ET:bm 71 bjQ:=by
 refine EN func71 ?_;rintro c m h K ⟨s,j,l,rfl,d,e,f,g⟩;refine⟨cdJ,rfl,aE ajQ (aE X3 (aE ES aG)),QN s m h (lR h K),ax,?_⟩;exact cJX d e f g
end Go.Ps
namespace Go.Vc
open Go List
section
variable{B:v7}{C:Ctx}{ι:ci}{σ:St}{a:Act}{w:World}{o:Oper}{K:St->Prop}
def RB(ι:ci)(σ:St)(b:Nat):=σ.m b≠none\/∃k o,nth σ.own k=some (some o)/\blk (ι k)=some b
def reB(ι:ci)(σ:St)(ds:List Deferred)(w:World):v7:=⟨w,RB ι σ,σ.h,ds⟩
theorem aM.rebase(c:aM B ι σ a w):aM (reB ι σ a.defers w) ι σ a w:=by
 have f:=c.wrel;refine⟨c.slots,rfl,c.own,c.dist,λk o b g d=>?_,?_,c.one⟩
 .obtain⟨_,j,n⟩:=c.fresh k o b g d;exact⟨.inr (.inr ⟨k,o,g,d⟩),j,n⟩
 .exact⟨rfl,rfl,rfl,Nat.le_refl _,Nat.le_refl _,λ_ _ _=>rfl,f.hsat,f.msat,f.disj,λ_ _ _ e=>e,λ_ _ _=>rfl,
   λb o d=>.inr (.inl (by rw[d];simp))⟩
theorem aM.mine(c:aM B ι σ a w){b}(h:RB ι σ b):(B.w0.heap.size<=b\/B.E b)/\b<w.heap.size/\∀i,σ.h b i=none:=by
 rcases h with h|⟨k,o,f,g⟩
 .cases e:σ.m b with
  |none=>grind
  |some d=>exact⟨c.wrel.mfr b d e,(Array.getElem?_eq_some_iff.1 (c.wrel.msat b d e)).1,c.wrel.disj b d e⟩
 .obtain⟨j,_,n⟩:=c.fresh k o b f g;exact⟨j,tE (c.own k o f) g,n⟩
theorem aM.unbase(u:aM B ι σ a w){ds y τ z w'}(h:aM (reB ι σ ds w) y τ z w'):aM {B with dfs:=ds} y τ z w':=by
 have d:=u.wrel;have c:=h.wrel
 have j:∀b,(w.heap.size<=b\/RB ι σ b)->B.w0.heap.size<=b\/B.E b:=λb f=>by
  rcases f with n|n
  .exact .inl (Nat.le_trans d.size n)
  .exact(u.mine n).1
 refine⟨h.slots,h.defers,h.own,h.dist,λk o b A f=>?_,?_,h.one⟩
 .obtain⟨D,F,G⟩:=h.fresh k o b A f;exact⟨j b D,F,G⟩
 .have H:w.heap.size<=w'.heap.size:=c.size;refine⟨c.tape.trans d.tape,c.os.trans d.os,c.output.trans d.output,Nat.le_trans d.drawn c.drawn,Nat.le_trans d.size H,?_,c.hsat,c.msat,c.disj,λb i v e=>c.hle b i v (d.hle b i v e),?_,λb o f=>j b (c.mfr b o f)⟩
  .intro b f g
   have t:¬RB ι σ b:=λI=>by
    grind
   have:=c.frame b (Nat.lt_of_lt_of_le f d.size) t;rw[this];exact d.frame b f g
  .intro b f g
   have t:¬RB ι σ b:=λI=>by
    grind
   have:τ.h b=σ.h b:=c.hold b (Nat.lt_of_lt_of_le f d.size) t;rw[this];exact d.hold b f g
theorem aM.grown(g:aM B ι σ a w){w' row}(u:w.grownBy w' row)(y:w.drawn<=w'.drawn)(j:∀r,row=some r->B.w0.heap.size<=r/\¬RB ι σ r/\∃ob:Obj,w.heap[r]? =some ob/\ob.isCells=false):aM B ι σ a w':=by
 have c:=g.wrel;have f:∀b,b<w.heap.size->(∀r,row=some r->b≠r)->w'.heap[b]? =w.heap[b]? :=λb d n=>u.block b d (λe=>n b e.symm rfl);have mine:∀b,RB ι σ b->w'.heap[b]? =w.heap[b]? :=λb d=>f b (g.mine d).2.1 (λr e h=>(j r e).2.1 (h▸d));refine⟨g.slots,g.defers,λk o F=>(g.own k o F).world (λb d=>mine b (.inr ⟨k,o,F,d⟩)),g.dist,g.fresh,?_,g.one⟩;refine⟨u.tape.trans c.tape,u.os.trans c.os,u.output.trans c.output,Nat.le_trans c.drawn y,Nat.le_trans c.size u.size,?_,?_,?_,c.disj,c.hle,c.hold,c.mfr⟩
 .intro b d z;rw[f b (Nat.lt_of_lt_of_le d c.size) (λr e h=>bg)];exact c.frame b d z
 .intro b i v G;have t:=c.hsat b i v G;have A:b<w.heap.size:=World.block_lt_of_cell? w ⟨b,i,none⟩ t
  have n:∀r,row=some r->b≠r:=λr e h=>by
   obtain⟨_,_,ob,D,E⟩:=j r e;unfold World.cell? at t;rw[h]at t;dsimp only at t;rw[D]at t;cases ob<;>simp[Obj.isCells]at E t
  rw[World.cell?_of_block (w:=w) (w':=w') (a:=⟨b,i,none⟩) (f b A n)];exact t
 .intro b o d;rw[mine b (.inl (by rw[d];simp))];exact c.msat b o d
def vE:Code->Bool
 |.skip=>true
 |.ret=>true
 |.exit _=>true
 |.region _ c _=>c.toList.all λo=>match o.op with|.defer _=>false|_=>true
 |.seq x y=>vE x&&vE y
 |.cond _ x y=>vE x&&vE y
 |.block _ x=>vE x
 |.loop x=>vE x
 |_=>false
def Plain(ops:Array Oper):=∀(i:Nat)(o:Oper),ops[i]? =some o->∀c,o.op≠ .defer c
theorem Wv{ops}(h:(ops.toList.all λo=>match o.op with|.defer _=>false|_=>true)=true):Plain ops:=by
 intro i o d c e
 grind
theorem AF(l:Nat){P:Program}{ops:Array Oper}(c:Plain ops){Q:Exit->Act->World->Prop}:∀(L:cm)(a:Act)(w:World),wpOpsIn Fence.wide 0 P ops Q L a w->wpOpsIn (Fence.wide.inRound l) 0 P ops Q L a w
 |[],_,_,h=>h
 |i::L,a,w,h=>by
  unfold wpOpsIn at h⊢
  cases d:ops[i]? with
  |none=>rw[d]at h;exact AF l c L a w h
  |some o=>
   rw[d]at h;dsimp only at h⊢
   split
   .rename_i e;rw[if_pos e]at h;exact Pq l (c i o d) (Oper.wpIn_mono (λa w=>AF l c L a w) h)
   .rename_i e;rw[if_neg e]at h;exact⟨λ_ _=>trivial,AF l c L _ _ h.2⟩
theorem Dv(l:Nat){P:Program}{g:Region.Mode}{ops:Array Oper}(c:Plain ops){Q:Exit->Act->World->Prop}(d:¬LetsOut Q):∀(n:Nat)(L:Array Bool)(a:Act)(w:World),wpAny P g ops Q n L a w->wpAnyIn (Fence.wide.inRound l) 0 P g ops Q n L a w
 |0,_,_,_,h=>h
 |n+1,L,a,w,h=>by
  refine⟨h.1,λi t=>?_⟩;have:=h.2 i t;unfold wpOp at this;unfold wpOpIn;cases e:ops[i]? with
  |none=>rw[e]at this;exact Dv l c d n _ _ _ this
  |some o=>
   rw[e]at this;dsimp only at this⊢
   split
   .rename_i f;rw[if_pos f]at this;rcases this with j|j
    .exact Pq l (c i o e) (Oper.wpIn_mono (λa w=>Dv l c d n _ a w) (Pr j))
    grind
   .rename_i f;rw[if_neg f]at this;exact⟨λ_ _=>trivial,Dv l c d n _ _ _ this⟩
theorem Gw{F n P Q a w c}(I:Nat->Act->World->Prop) u(h₀:I u a w)(d:∀k a w,I k a w->c.wpIn F n P (Exit.then (λy w'=>∃g,g<k/\I g y w') Q) a w):(Code.loop c).wpIn F n P Q a w:=by
 refine wpIn_loop (λa w=>∃k,I k a w) (λa w=>leastOf (λk=>I k a w)) ⟨u,h₀⟩ ?_;intro a w z;refine wpIn_mono (d _ a w (leastOf_spec z).1) ?_;intro e y w' j;cases e with
 |normal=>
  obtain⟨g,t,f⟩:=j;exact⟨⟨g,f⟩,Nat.lt_of_le_of_lt ((leastOf_spec ⟨g,f⟩).2 g f) t⟩
 |exit id=>exact j
 |ret=>exact j
 |goto l=>exact j
 |panic A=>exact j
 |outgrown=>exact j
theorem R7 l(F:∀g S,assoc C.specs g=some S->Sound C.P g S):∀(c:Code),vE c=true->∀(σ:St)(Q:GF->St->Prop)(ι:ci)(a:Act)(w:World),aM B ι σ a w->VC C c σ Q->c.wpIn (Fence.wide.inRound l) 0 C.P (QD B Q) a w:=by
 intro c
 induction c with
 |skip=>intro u σ Q ι a w z h;exact wpIn_skip ⟨ι,σ,z,h⟩
 |label l=>intro u;cases u
 |exit id=>intro u σ Q ι a w z h;exact wpIn_exit ⟨ι,σ,z,h⟩
 |ret=>intro u σ Q ι a w z h;exact wpIn_ret ⟨ι,σ,z,h⟩
 |goto l=>intro u;cases u
 |refuse a9=>intro u;cases u
 |scope a8 ih=>intro u;cases u
 |rangeFunc f ps x y G W=>intro u;cases u
 |region id ops a3=>
  intro u σ Q ι a w z h;cases a3 with
  |false=>
   refine wpIn_region (AF l (Wv u) _ _ _ ?_);have:=L3 F (ops:=ops) (Q:=Q) (YQ C id) ops.toList 0 ι σ a w (λj=>ay) z h;rw[range_eq_range'];omega
  |true=>
   simp only[VC]at h;split at h
   .rename_i h1 h2 h3;have a5:=bmQ h1 h2;refine wpIn_region_any h3 (Dv l (Wv u) (λ⟨_,_,e⟩=>e) _ _ _ _ ?_);refine T6 F a5 (Q:=QD B Q) (R:=Q .normal) (λι σ a w z h=>⟨ι,σ,z,h⟩) (λc a w h=>h) ops.size ops.size _ ι σ a _ (z.drew (w.drawn+1) (Nat.le_succ _)) h _ a ?_ ?_
    .have U:∀i,(Array.replicate ops.size false).getD i false=true->False:=by
      intro i H;by_cases E:i<ops.size
      .simp[Array.getD,E]at H
      grind
     exact⟨ay,ay,λi H=>H,λi o _ H=>(U i H).elim,λi o _ H=>(U i H).elim,λi o _ H=>(U i H).elim,rfl,rfl,λt _=>rfl,λi o _ H=>(U i H).elim⟩
    .unfold wS;rw[filter_eq_self.2]
     .simp
     .intro i H;by_cases E:i<ops.size<;>simp[Array.getD,E]
   grind
 |seq x y G W=>
  intro u σ Q ι a w z h;obtain⟨J,a4⟩:=Bool.and_eq_true_iff.1 u;simp only[VC]at h;split at h
  .obtain⟨h,D⟩:=h;refine wpIn_seq (wpIn_mono (G J σ _ ι a w z h) ?_);intro e O T d;cases e with
   |normal=>
    obtain⟨V,σ',A,x,hx,X⟩:=d;show y.wpIn (Fence.wide.inRound l) 0 C.P (QD B Q) O T;obtain⟨ι2,L,_⟩:=qD A X
    grind
   |exit id=>exact d
   |ret=>exact d
   |goto l=>exact d
   |panic ch=>exact d
   |outgrown=>exact d
  .split at h
   .obtain⟨I,h,D⟩:=h;refine wpIn_seq (wpIn_mono (G J σ _ ι a w z h) ?_);intro e O T d;cases e with
    |normal=>
     obtain⟨V,σ',A,X⟩:=d;show y.wpIn (Fence.wide.inRound l) 0 C.P (QD B Q) O T;obtain⟨x,ι2,hx,L⟩:=Bv A X
     grind
    |exit id=>exact d
    |ret=>exact d
    |goto l=>exact d
    |panic ch=>exact d
    |outgrown=>exact d
   .refine wpIn_seq (wpIn_mono (G J σ _ ι a w z h) ?_);intro e O T d;cases e with
    |normal=>
     obtain⟨V,σ',A,h'⟩:=d;show y.wpIn (Fence.wide.inRound l) 0 C.P (QD B Q) O T
     grind
    |exit id=>exact d
    |ret=>exact d
    |goto l=>exact d
    |panic ch=>exact d
    |outgrown=>exact d
 |cond c x y G W=>
  intro u σ Q ι a w z h;obtain⟨J,a4⟩:=Bool.and_eq_true_iff.1 u;simp only[VC]at h;split at h
  .rename_i t hc;have M:=z.ev c;rw[hc]at M;have M:a.eval c= .bool t:=M;rcases yD h with⟨rfl,h⟩|⟨rfl,h⟩
   .exact wpIn_cond_true M (G J _ Q ι a w (z.setTmp hc) h)
   .exact wpIn_cond_false M (W a4 _ Q ι a w (z.setTmp hc) h)
  grind
 |block id c ih=>
  intro u σ Q ι a w z h;refine wpIn_block (wpIn_mono (ih u σ _ ι a w z h) ?_);intro e O T d;cases e with
  |normal=>exact d
  |exit i=>
   obtain⟨V,σ',A,h'⟩:=d;show if i=id then _ else _
   simp only at h';split at h'
   .rename_i hb;rw[if_pos (Nat.eq_of_beq_eq_true hb)];exact⟨V,σ',A,h'⟩
   .rename_i hb;rw[if_neg (λe=>by subst e;simp at hb)];exact⟨V,σ',A,h'⟩
  |ret=>exact d
  |goto l=>exact d
  |panic ch=>exact d
  |outgrown=>exact d
 |loop c ih=>
  intro u σ Q ι a w z h;simp only[VC]at h;split at h
  .rename_i Y hl;obtain⟨⟨x,hx,X⟩,D⟩:=h;obtain⟨ι2,L,_⟩:=qD z X;refine Gw (λn a w=>∃x ι,Y.inv x/\Y.mu x=n/\aM B ι (Y.st x) a w) (Y.mu x) ⟨x,ι2,hx,rfl,L⟩ ?_;rintro n O T ⟨x',V,Z,rfl,A⟩;refine wpIn_mono (ih u _ _ V O T A (D x' Z)) ?_;intro e a6 a7 d;cases e with
   |normal=>
    obtain⟨ι3,σ3,a0,y,hy,E,a1⟩:=d;obtain⟨ι4,a2,_⟩:=qD a0 a1;exact⟨Y.mu y,E,y,ι4,hy,rfl,a2⟩
   |exit id=>exact d
   |ret=>exact d
   |goto l=>exact d
   |panic ch=>exact d
   |outgrown=>exact d
  .split at h
   .rename_i Y hl;obtain⟨I,mu,X,D⟩:=h;obtain⟨x,ι2,hx,L⟩:=Bv z X;refine Gw (λn a w=>∃x ι,I x/\mu x=n/\aM B ι (Y.st x) a w) (mu x) ⟨x,ι2,hx,rfl,L⟩ ?_;rintro n O T ⟨x',V,Z,rfl,A⟩;refine wpIn_mono (ih u _ _ V O T A (D x' Z)) ?_;intro e a6 a7 d;cases e with
    |normal=>
     obtain⟨ι3,σ3,a0,a1⟩:=d;obtain⟨y,ι4,hy,E,a2⟩:=Oc a0 a1;exact⟨mu y,E,y,ι4,hy,rfl,a2⟩
    |exit id=>exact d
    |ret=>exact d
    |goto l=>exact d
    |panic ch=>exact d
    |outgrown=>exact d
   grind
end
end Go.Vc
namespace Go.Vc
open Go List
def tG:Code->Bool
 |.seq x y=>tG x||tG y
 |.cond _ x y=>tG x||tG y
 |.block _ x=>tG x
 |.loop x=>tG x
 |.scope x=>tG x
 |.rangeFunc .. =>true
 |_=>false
structure YDo(P:Program)(l:Nat)(vs:bt)(m:MH)(h:PH)(R:Bool->MH->PH->Prop):Prop where
 go:∀w,YJ w m h->∃fn tmps assign body,(Instr.yield l vs.toArray).run P w= .ok (.round l fn tmps assign body) w/\
  RoundIn Fence.wide 0 P l fn tmps assign body w λe w'=>∃u m' h',e= .returned (.bool u)/\R u m' h'/\VI w m h m' h' w'
def bQJ(P:Program):Spec:=λc m h K=>∃(l:Nat)(d:bt)(R:Bool->MH->PH->Prop),c= .val (.func (.yield l) #[] #[])::d.map .val/\YDo P l d m h R/\∀u m' h',R u m' h'->K (.val (.bool u)) m' h'
theorem NP:∀{l c:bt},l.map CV.val=c.map CV.val->l=c
 |[],[],_=>rfl
 |a::l,b::c,h=>by
  simp only[map_cons,List.cons.injEq,CV.val.injEq]at h;rw[h.1,NP h.2]
 |[],_::_,h=>by simp at h
 |_::_,[],h=>by simp at h
theorem Pp P:Vu P (bQJ P):=⟨λl H m h w K⟨I,g,R,d,j,n⟩ t=>by
 simp only[List.cons.injEq,CV.val.injEq,Value.func.injEq,Fn.yield.injEq,and_true]at d;obtain⟨rfl,d⟩:=d;rw[NP d];obtain⟨y,c,f,z,A,D⟩:=j.go w t;exact⟨y,c,f,z,A,D.mono λe J⟨u,m',h',E,F,G⟩=>⟨_,m',h',E,n u m' h' F,G⟩⟩⟩
def bYJ(P:Program)(Src:PH->bt->List bt->Prop):Spec:=λd m h K=>∃(l:Nat)(c:bt)(xs:List bt)(J:Nat->MH->PH->Prop),
 d= .val (.func (.yield l) #[] #[])::c.map .val/\Src h c xs/\J 0 m h/\
 (∀k e m' h',xs[k]? =some e->PH.le h h'->J k m' h'->YDo P l e m' h' (λr g f=>r=true/\PH.le h' f/\J (k+1) g f))/\
 ∀r m' h',PH.le h h'->J xs.length m' h'->K r m' h'
structure Hy(P:Program)(g:FuncId)(Src:PH->bt->List bt->Prop):Prop where
 sound:Sound P g (bYJ P Src)
def Sv:SV->SV
 |.at (.val v)=>.at (.val v)
 |.agg c=>match wR c with|some _=>.agg c|none=>.at .junk
 |_=>.at .junk
def WG:Option Own->Option Own:=λ_=>none
def blank(σ:St)(m:MH)(h:PH):St:={sl:=σ.sl.map Sv,own:=σ.own.map WG,m:=m,h:=h}
def UG(l:de):List (Nat×SV)->de
 |[]=>l
 |(p,x)::r=>UG (l.set p x) r
def awX(σ:St)(es:List (Nat×SV))(m:MH)(h:PH):St:={sl:=UG (σ.sl.map Sv) es,own:=σ.own.map WG,m:=m,h:=h}
def Oy(C:Ctx)(x y:Code)(σ:St)(es:List (Nat×SV))(m:MH)(h:PH)(R:MH->PH->Prop):=
 VC C x (awX σ es m h) (λc τ=>match c with
  |.normal=>VC C y τ (λc υ=>match c with
   |.normal=>R υ.m υ.h
   |_=>False)
  |_=>False)
def Zi(C:Ctx)(f:Operand)(ps:Array Tmp)(x y:Code)(σ:St)(K:St->Prop):Prop:=
 match σ.ev f,vE x&&vE y with
 |.at (.val (.func (.func g) j c)),true=>match j.toList with
  |[]=>match ps.toList,C.elemT with
   |[p],[T]=>∃(Src:PH->bt->List bt->Prop)(xs:List (C.dec T).X)(I:Nat->MH->PH->Prop),Hy C.P g Src/\Src σ.h c.toList (xs.map λx=>[valOf C.P T ((C.dec T).enc x)])/\I 0 σ.m σ.h/\
    (∀(k:Nat)(e:(C.dec T).X)(m:MH)(h:PH),xs[k]? =some e->PH.le σ.h h->I k m h->Oy C x y σ [(p,mk C.P T (((C.dec T).enc e).map .val))] m h (I (k+1)))/\
    ∀(m:MH)(h:PH),PH.le σ.h h->I xs.length m h->K (blank σ m h)
   |[p,q],[T,U]=>∃(Src:PH->bt->List bt->Prop)(xs:List ((C.dec T).X×(C.dec U).X))(I:Nat->MH->PH->Prop),Hy C.P g Src/\Src σ.h c.toList (xs.map λx=>[valOf C.P T ((C.dec T).enc x.1),valOf C.P U ((C.dec U).enc x.2)])/\I 0 σ.m σ.h/\
    (∀(k:Nat)(e:(C.dec T).X)(d:(C.dec U).X)(m:MH)(h:PH),xs[k]? =some (e,d)->PH.le σ.h h->I k m h->Oy C x y σ [(p,mk C.P T (((C.dec T).enc e).map .val)),(q,mk C.P U (((C.dec U).enc d).map .val))] m h (I (k+1)))/\
    ∀(m:MH)(h:PH),PH.le σ.h h->I xs.length m h->K (blank σ m h)
   |_,_=>False
  |_=>False
 |_,_=>False
def VCF(C:Ctx):Code->St->(GF->St->Prop)->Prop
 |.rangeFunc f ps x y,σ,Q=>Zi C f ps x y σ (Q .normal)
 |.seq a b,σ,Q=>match tG a||tG b with
  |false=>VC C (.seq a b) σ Q
  |true=>match bPX C b with
   |some c=>∃I:c.A->Prop,VCF C a σ (λe τ=>match e with
    |.normal=>J1 c I τ
    |e=>Q e τ)/\∀x,I x->VCF C b (c.st x) Q
   |none=>VCF C a σ (λe τ=>match e with
    |.normal=>VCF C b τ Q
    |e=>Q e τ)
 |.block id c,σ,Q=>match tG c with
  |false=>VC C (.block id c) σ Q
  |true=>VCF C c σ (λe τ=>match e with
   |.exit i=>match Nat.beq i id with|true=>Q .normal τ|false=>Q (.exit i) τ
   |e=>Q e τ)
 |.cond c x y,σ,Q=>match tG x||tG y with
  |false=>VC C (.cond c x y) σ Q
  |true=>match σ.ev c with
   |.at (.val (.bool t))=>branch t (VCF C x (setTmp σ c true) Q) (VCF C y (setTmp σ c false) Q)
   |_=>False
 |c,σ,Q=>VC C c σ Q
def b4Z(C:Ctx)(σ:St):List ResultVar->(bt->Prop)->Prop
 |[],K=>K []
 |.cell t T::r,K=>match nth σ.sl t,j7 C.P T with
  |some (.at (.val (.pointer (some ⟨b,c,none⟩)))),true=>bPQ C T (aK σ.m σ.h b c) λl=>match(mk C.P T (l.map .val)).val? with
   |some v=>b4Z C σ r (λrs=>K (v::rs))
   |none=>False
  |_,_=>False
 |_::_,_=>False
def L9 C fn K σ:=
 match Jf C σ fn.results.toList with
 |some _=>Sh C fn K σ
 |none=>b4Z C σ fn.results.toList λrs=>match rs with
  |[r]=>K (.val r) σ.m σ.h
  |rs=>K (.tup (rs.map .val)) σ.m σ.h
def aAX C fn c σ K:=
 VCF C c σ (λe τ=>match e with
  |.normal=>L9 C fn K τ
  |.ret=>L9 C fn K τ
  |_=>False)
section
variable{B:v7}{C:Ctx}{ι:ci}{σ:St}{a:Act}{w:World}{K:St->Prop}
theorem aVQ{ι d x v}(h:Den ι x v):Den d (Sv x) v:=by
 cases x with
 |«at» y=>cases y<;>first|exact h|trivial
 |agg g=>
  simp only[Sv];split
  .rename_i l e;obtain⟨f,rfl,c⟩:=h;rw[EB e]at c⊢
   exact⟨f,rfl,by rw[j8.vals]at c⊢;exact c⟩
  .trivial
 |tup xs=>trivial
theorem Hd{ι c:ci}:∀{xs:de}{vs:bt},DenS ι xs vs->DenS c (xs.map Sv) vs
 |[],[],_=>trivial
 |_::_,_::_,h=>⟨aVQ h.1,Hd h.2⟩
 |[],_::_,h=>h.elim
 |_::_,[],h=>h.elim
theorem HG(l:db) k o:nth (l.map WG) k=some (some o)->False:=by
 rw[Cc];cases nth l k<;>simp[WG]
theorem aM.blank'{B sl}{l:db}{m h a w}(d:DenS (λ_=>.slice none 0 0) sl a.tmps.toList)(e:a.defers=B.dfs)(f:Dt B m h w):
 aM B (λ_=>.slice none 0 0) {sl:=sl,own:=l.map WG,m:=m,h:=h} a w:=
 ⟨d,e,λk o c=>(HG l k o c).elim,λk _ o _ _ c=>(HG l k o c).elim,λk o _ c=>(HG l k o c).elim,f,λ_=>rfl⟩
def Db(D:Nat):Deferred:={target:=.collected D,args:= #[]}
structure MM(B:v7)(ds:cm)(ι:ci)(σ:St)(a:Act)(w:World):Prop where
 mod:aM {B with dfs:=ds.map Db} ι σ a w
 size:∀D∈ds,B.w0.heap.size<=D
 mine:∀D∈ds,¬RB ι σ D
 mark:∀D∈ds,w.heap[D]? =some (.deferred (some []))
 nodup:ds.Nodup
def QM(B:v7)(Q:GF->St->Prop):Exit->Act->World->Prop
 |.normal,a,w=>∃c ι σ,MM B c ι σ a w/\Q .normal σ
 |.exit id,a,w=>∃c ι σ,MM B c ι σ a w/\Q (.exit id) σ
 |.ret,a,w=>∃c ι σ,MM B c ι σ a w/\Q .ret σ
 |_,_,_=>False
theorem MM.step{ds}(c:MM B ds ι σ a w){f τ g w'}(h:aM (reB ι σ (ds.map Db) w) f τ g w'):MM B ds f τ g w':=by
 have j:∀D∈ds,D<w.heap.size:=λD d=>(Array.getElem?_eq_some_iff.1 (c.mark D d)).1;refine⟨?_,c.size,λD d n=>?_,λD d=>?_,c.nodup⟩
 .exact c.mod.unbase (ds:=ds.map Db) h
 .rcases(h.mine n).1 with e|e
  .have e:w.heap.size<=D:=e
   grind
  .exact c.mine D d e
 .rw[h.wrel.frame D (j D d) (c.mine D d)];exact c.mark D d
theorem MM.here{ds}(c:MM B ds ι σ a w):aM (reB ι σ (ds.map Db) w) ι σ a w:=by
 have:=c.mod.rebase;rw[c.mod.defers]at this;exact this
theorem MM.of_QD{ds}(g:MM B ds ι σ a w){Q e j w'}(h:QD (reB ι σ (ds.map Db) w) Q e j w'):QM B Q e j w':=by
 cases e with
 |normal=>obtain⟨c,τ,d,f⟩:=h;exact⟨ds,c,τ,g.step d,f⟩
 |exit id=>obtain⟨c,τ,d,f⟩:=h;exact⟨ds,c,τ,g.step d,f⟩
 |ret=>obtain⟨c,τ,d,f⟩:=h;exact⟨ds,c,τ,g.step d,f⟩
 |goto l=>exact h.elim
 |panic n=>exact h.elim
 |outgrown=>exact h.elim
theorem MM.retag{ds}(d:MM B ds ι σ a w){c τ}(h:aM (reB ι σ (ds.map Db) w) c τ a w):MM B ds c τ a w:=d.step h
theorem DC(d:∀g S,assoc C.specs g=some S->Sound C.P g S){ds}(e:MM B ds ι σ a w){c Q}(h:VC C c σ Q):c.wp C.P (QM B Q) a w:=
 wp_mono (VZ d c σ Q ι a w e.here h) (λ_ _ _ f=>e.of_QD f)
theorem PF{ι:ci}:∀{es:List (Nat×SV)}{vs:bt}{sl:de}{ts:Array Value},DenS ι (es.map (·.2)) vs->DenS ι sl ts.toList->
 DenS ι (UG sl es) (((es.map (·.1)).zip vs).foldl (λts(p,v)=>ts.setIfInBounds p v) ts).toList
 |[],[],_,_,_,h=>h
 |(p,x)::es,v::vs,sl,ts,h,c=>by
  refine PF (es:=es) (vs:=vs) h.2 ?_;rw[Array.toList_setIfInBounds];exact c.set p h.1
 |[],_::_,_,_,h,_=>h.elim
 |_::_,[],_,_,h,_=>h.elim
def Cb(fn:FuncId)(tmps:Array Value)(ps:Array Tmp)(x y:Code)(D:Nat)(st:LoopState):Loop:={state:=st,pending:=none,fn:=fn,tmps:=tmps,params:=ps,assign:=x,body:=y,defers:=D}
theorem P7{w:World}{l i r}(h:w.heap[l]? =some (.loop r)):w.cell? ⟨l,i,none⟩=none:=by
 unfold World.cell?
 grind
theorem Wl(A:∀g S,assoc C.specs g=some S->Sound C.P g S){tmps:Array Value}{x y:Code}(hx:vE x=true)(hy:vE y=true)(b3:DenS ι σ.sl tmps.toList){es:List (Nat×SV)}{vs:bt}{ps:Array Tmp}(a5:ps.toList=es.map (·.1))(a6:DenS (λ_=>.slice none 0 0) (es.map (·.2)) vs){fn D l m0 mm h0}(b4:m0 l=none)(c2:∀b,b≠l->mm b=m0 b)(b5:mm l=some (.loop (Cb fn tmps ps x y D .ready))){R}(hV:Oy C x y σ es m0 h0 R) w(hH:YJ w mm h0):
 ∃a7 J assign body,(Instr.yield l vs.toArray).run C.P w= .ok (.round l a7 J assign body) w/\
  RoundIn Fence.wide 0 C.P l a7 J assign body w λex w'=>∃u m' h',ex= .returned (.bool u)/\(u=true/\PH.le h0 h'/\∃m2,m2 l=none/\(∀b,b≠l->m' b=m2 b)/\m' l=some (.loop (Cb fn tmps ps x y D .ready))/\R m2 h')/\VI w mm h0 m' h' w':=by
 have hl:=hH.msat l _ b5;have b6:=(Array.getElem?_eq_some_iff.1 hl).1
 have a8:vs.length=ps.size:=by
  have n:=a6.length;rw[length_map]at n;rw[<-Array.length_toList,a5,length_map,n]
 refine⟨_,_,_,_,run_yield hl (by simpa[Cb]using a8),roundIn_of_wpIn trivial ?_⟩;obtain⟨ts,a9⟩:∃ts,((Cb fn tmps ps x y D .ready).params.zip vs.toArray).foldl (λtmps(t,a)=>tmps.setIfInBounds t a) (Cb fn tmps ps x y D .ready).tmps=ts:=⟨_,rfl⟩
 rw[a9]
 have b':ts=((es.map (·.1)).zip vs).foldl (λts(p,v)=>ts.setIfInBounds p v) tmps:=by
  rw[<-a9, <-a5, <-Array.foldl_toList,Array.toList_zip];rfl
 have E:∀b o,m0 b=some o->mm b=some o:=λb o d=>by
  grind
 have hM:aM ⟨w,λb=>m0 b≠none,h0,[]⟩ (λ_=>.slice none 0 0) (awX σ es m0 h0) {tmps:=ts,defers:=[]} w:=by
  refine aM.blank' ?_ rfl ?_
  .show DenS _ (UG (σ.sl.map Sv) es) ts.toList;rw[b'];exact PF a6 (Hd b3)
  .exact⟨rfl,rfl,rfl,Nat.le_refl _,Nat.le_refl _,λ_ _ _=>rfl,hH.hsat,λb o d=>hH.msat b o (E b o d),λb o d=>hH.disj b o (E b o d),λ_ _ _ e=>e,λ_ _ _=>rfl,λb o d=>.inr bg⟩
 refine wpIn_mono (R7 l A x hx _ _ _ _ _ hM hV) ?_;intro ex a1 V F;cases ex with
 |normal=>
  obtain⟨ι1,τ,G,b7⟩:=F;have j:=G.wrel;have b8:¬(λb=>m0 b≠none) l:=λe=>e b4;have a':V.heap[l]? =some (.loop (Cb fn tmps ps x y D .ready)):=by rw[j.frame l b6 b8];exact hl
  have X:=(Array.getElem?_eq_some_iff.1 a').1
  have L:¬RB ι1 τ l:=λhm=>by
   rcases(G.mine hm).1 with n|n
   .grind
   grind
  refine⟨_,run_beginRound a' rfl,?_⟩;obtain⟨f,H⟩:∃f,V.putObj l (.loop {Cb fn tmps ps x y D .ready with state:=.busy})=f:=⟨_,rfl⟩
  have a0:=(G.rebase.putD (.loop {Cb fn tmps ps x y D .ready with state:=.busy}) a' rfl X L).rebase;rw[H]at a0⊢
  have c3:a1.defers=[]:=G.defers;have a0:aM (reB ι1 τ [] f) ι1 τ a1 f:=bg
  have b9:∀b,b≠l->f.heap[b]? =V.heap[b]? :=λb d=>by rw[<-H];exact World.putObj_heap_other (λe=>d e)
  have s2:f.heap.size=V.heap.size:=by rw[<-H];simp
  have c':f.heap[l]? =some (.loop {Cb fn tmps ps x y D .ready with state:=.busy}):=by rw[<-H];exact World.putObj_heap_same X
  refine wpIn_mono (R7 l A y hy _ _ _ _ _ a0 b7) ?_;intro ex a2 I F;cases ex with
  |normal=>
   obtain⟨ι2,υ,c0,hR⟩:=F;have c:=c0.wrel;have W:I.heap[l]? =some (.loop {Cb fn tmps ps x y D .ready with state:=.busy}):=by rw[c.frame l (by show l<f.heap.size;omega) L];exact c'
   have b0:=(Array.getElem?_eq_some_iff.1 W).1
   have M:∀b,b<w.heap.size->mm b=none->¬RB ι1 τ b:=λb d hn hm=>by
    rcases(G.mine hm).1 with n|n
    .grind
    grind
   have c1:υ.m l=none:=by
    cases e:υ.m l with
    |none=>rfl
    |some o=>
     rcases c.mfr l o e with n|n
     .have n:f.heap.size<=l:=n;omega
     .exact(L n).elim
   obtain⟨O,Q⟩:∃O,I.putObj l (.loop (Cb fn tmps ps x y D .ready))=O:=⟨_,rfl⟩
   have a3:∀b,b≠l->O.heap[b]? =I.heap[b]? :=λb d=>by rw[<-Q];exact World.putObj_heap_other (λe=>d e)
   have c4:O.heap[l]? =some (.loop (Cb fn tmps ps x y D .ready)):=by rw[<-Q];exact World.putObj_heap_same b0
   have T:=run_endRound (P:=C.P) none W;have T:(Instr.endRound l none).run C.P I= .ok (.bool true) O:=by rw[T, <-Q];rfl
   have Y:PH.le h0 τ.h:=⟨λb i v e=>j.hle b i v e⟩
   have Z:PH.le τ.h υ.h:=⟨λb i v e=>c.hle b i v e⟩
   refine⟨_,_,T,true,λb=>if b=l then some (.loop (Cb fn tmps ps x y D .ready))else υ.m b,υ.h,rfl,⟨rfl,⟨λb i v e=>Z.le _ _ _ (Y.le _ _ _ e)⟩,υ.m,c1,λb d=>by simp[d],ay,hR⟩,?_⟩;have t4:O.tape=I.tape/\O.os=I.os/\O.output=I.output/\O.heap.size=I.heap.size:=by rw[<-Q];exact⟨rfl,rfl,rfl,ay⟩
   have t2:f.tape=V.tape/\f.os=V.os/\f.output=V.output:=by rw[<-H];exact⟨rfl,rfl,rfl⟩
   have b1:w.heap.size<=V.heap.size:=j.size;have b2:f.heap.size<=I.heap.size:=c.size;refine⟨?_,?_,?_,?_,?_,?_,⟨?_,?_,?_⟩,⟨λb i v e=>Z.le _ _ _ (Y.le _ _ _ e)⟩,?_,?_⟩
   .rw[t4.1,c.tape];show f.tape=_;rw[t2.1];exact j.tape
   .rw[t4.2.1,c.os];show f.os=_;rw[t2.2.1];exact j.os
   .rw[t4.2.2.1,c.output];show f.output=_;rw[t2.2.2];exact j.output
   .have d4:O.drawn=I.drawn:=by rw[<-Q];rfl
    have d3:f.drawn<=I.drawn:=c.drawn;have d2:f.drawn=V.drawn:=by rw[<-H];rfl
    have d1:w.drawn<=V.drawn:=j.drawn;omega
   .omega
   .intro b d hn;have U:b≠l:=λe=>bg
    rw[a3 b U,c.frame b (by show b<f.heap.size;omega) (M b d hn)];show f.heap[b]? =_;rw[b9 b U];exact j.frame b d (λe=>e bg)
   .intro b i v hv;have a4:=c.hsat b i v hv;have U:b≠l:=λe=>by rw[e,P7 W]at a4;cases a4
    rw[World.cell?_of_block (w:=I) (w':=O) (a:=⟨b,i,none⟩) (a3 b U)];exact a4
   .intro b o d;have z:(if b=l then some (Obj.loop (Cb fn tmps ps x y D .ready))else υ.m b)=some o:=d;clear d;split at z
    .grind
    .rename_i e;rw[a3 b e];exact c.msat b o z
   .intro b o d i;have z:(if b=l then some (Obj.loop (Cb fn tmps ps x y D .ready))else υ.m b)=some o:=d;clear d;split at z
    .rename_i e;subst e;cases e2:υ.h b i with
     |none=>rfl
     |some v=>have:=c.hsat b i v e2;rw[P7 W]at this;cases this
    .exact c.disj b o z i
   .intro b d hn;have n:υ.h b=τ.h b:=c.hold b (by show b<f.heap.size;omega) (M b d hn);rw[n];have U:b≠l:=λe=>bg
    exact j.hold b d (λe=>e bg)
   .intro b o d;have z:(if b=l then some (Obj.loop (Cb fn tmps ps x y D .ready))else υ.m b)=some o:=d;clear d;split at z
    .grind
    .rename_i e;rcases c.mfr b o z with n|n
     .have n:f.heap.size<=b:=n;omega
     .rcases(G.mine n).1 with h2|h2
      .exact .inl h2
      grind
  |ret=>obtain⟨_,_,_,h⟩:=F;exact h.elim
  |exit id=>obtain⟨_,_,_,h⟩:=F;exact h.elim
  |goto t=>exact F.elim
  |panic ch=>exact F.elim
  |outgrown=>exact F.elim
 |ret=>obtain⟨_,_,_,h⟩:=F;exact h.elim
 |exit id=>obtain⟨_,_,_,h⟩:=F;exact h.elim
 |goto t=>exact F.elim
 |panic ch=>exact F.elim
 |outgrown=>exact F.elim
theorem Rp(w:World) o{b}(h:b<w.heap.size):(w.alloc o).heap[b]? =w.heap[b]? :=by
 exact Go.RowKit.Below.heap_alloc _ _ _ h
theorem Yx(w:World) o:(w.alloc o).heap[w.heap.size]? =some o:=World.alloc_heap_new w o
theorem auX(w:World):∀l:bt,Dm w (l.map .val) l
 |[]=>trivial
 |_::l=>⟨rfl,auX w l⟩
theorem Pt(l:bt)(i:Nat) c u b(d:(l.map CV.val)[i]? =some c)(f:jP c u=some b):False:=by
 rw[getElem?_map]at d;cases e:l[i]? with
 |none=>grind
 |some v=>rw[e]at d;simp at d;subst d;simp[jP]at f
theorem Sy(X:∀g S,assoc C.specs g=some S->Sound C.P g S){ds:cm}(U:MM B ds ι σ a w){f:Operand}{ps:Array Tmp}{x y Q g cs}(c6:σ.ev f= .at (.val (.func (.func g) #[] cs)))(hx:vE x=true)(hy:vE y=true){Src}(b4:Hy C.P g Src){xs}(b5:Src σ.h cs.toList xs){I:Nat->MH->PH->Prop}(h0:I 0 σ.m σ.h)(Y:∀(k:Nat)(vs:bt)(m:MH)(h:PH),xs[k]? =some vs->PH.le σ.h h->I k m h->∃es:List (Nat×SV),ps.toList=es.map (·.1)/\DenS (λ_=>.slice none 0 0) (es.map (·.2)) vs/\Oy C x y σ es m h (I (k+1)))(b6:∀(m:MH)(h:PH),PH.le σ.h h->I xs.length m h->Q .normal (blank σ m h)):(Code.rangeFunc f ps x y).wp C.P (QM B Q) a w:=by
  obtain⟨a3⟩:=b4;have L:=U.mod.wrel
  have b7:a.eval f= .func (.func g) #[] cs:=by
   have:=U.mod.ev f;rw[c6]at this;exact this
  refine(wpIn_wide (n:=0)).1 (wpIn_rangeFunc ?_);intro fn e1;obtain⟨l,hl⟩:∃l,l=w.heap.size+1:=⟨_,rfl⟩
  obtain⟨D,hD⟩:∃D,D=w.heap.size:=⟨_,rfl⟩
  obtain⟨W1,H⟩:∃W1,(w.alloc (.deferred (some []))).alloc (.loop (Cb fn a.tmps ps x y D .ready))=W1:=⟨_,rfl⟩
  have s1:W1.heap.size=w.heap.size+2:=by rw[<-H];simp
  have a7:∀b,b<w.heap.size->W1.heap[b]? =w.heap[b]? :=λb t=>by
   rw[<-H,Rp _ _ bf,Rp _ _ t]
  have b8:W1.heap[D]? =some (.deferred (some [])):=by
   rw[<-H,hD,Rp _ _ ay];exact Yx w _
  have e0:W1.heap[l]? =some (.loop (Cb fn a.tmps ps x y D .ready)):=by
   rw[<-H,hl];have:=Yx (w.alloc (.deferred (some []))) (.loop (Cb fn a.tmps ps x y D .ready))
   rwa [World.size_alloc]at this
  have c7:∀b o,σ.m b=some o->b<w.heap.size:=λb o t=>(Array.getElem?_eq_some_iff.1 (L.msat b o t)).1;have a8:∀b i v,σ.h b i=some v->b<w.heap.size:=λb i v hv=>World.block_lt_of_cell? w ⟨b,i,none⟩ (L.hsat b i v hv)
  let m1:MH:=λb=>if b=l then some (.loop (Cb fn a.tmps ps x y D .ready))else σ.m b
  have c8:m1 l=some (.loop (Cb fn a.tmps ps x y D .ready)):=by simp[m1]
  have a9:∀b,b≠l->m1 b=σ.m b:=λb t=>if_neg t
  have c9:σ.m l=none:=by
   cases e:σ.m l with
   |none=>rfl
   |some o=>grind
  have b9:CK W1 m1 σ.h (.val (.func (.yield l) #[] #[])::cs.toList.map .val) (.func (.yield l) #[] #[]::cs.toList):=by
   refine⟨⟨rfl,auX _ _⟩,?_,?_,?_,λi j c d u v b hi _ _ _ t _=>(Pt (.func (.yield l) #[] #[]::cs.toList) i c u b hi t).elim,λi c u b hi _ t=>(Pt (.func (.yield l) #[] #[]::cs.toList) i c u b hi t).elim⟩
   .intro b i v hv;rw[World.cell?_of_block (w:=w) (w':=W1) (a:=⟨b,i,none⟩) (a7 b (a8 b i v hv))];exact L.hsat b i v hv
   .intro b o t;by_cases e:b=l
    .grind
    .rw[a9 b e]at t;rw[a7 b (c7 b o t)];exact L.msat b o t
   .intro b o t i;by_cases e:b=l
    .subst e;cases e2:σ.h b i with
     |none=>rfl
     |some v=>grind
    .rw[a9 b e]at t;exact L.disj b o t i
  have z:∀b,m1 b=none->¬yE m1 (.val (.func (.yield l) #[] #[])::cs.toList.map .val) (.func (.yield l) #[] #[]::cs.toList) b:=by
   rintro b t (G|⟨i,c,u,hi,hu,hc⟩)
   .exact G t
   .exact Pt (.func (.yield l) #[] #[]::cs.toList) i c u b hi hc
  let J:Nat->MH->PH->Prop:=λk mm Z=>PH.le σ.h Z/\∃T,T l=none/\(∀b,b≠l->mm b=T b)/\mm l=some (.loop (Cb fn a.tmps ps x y D .ready))/\I k T Z
  have b':=a3.2 (.val (.func (.yield l) #[] #[])::cs.toList.map .val) (.func (.yield l) #[] #[]::cs.toList) m1 σ.h W1 (λ_ mm Z=>J xs.length mm Z)
   ⟨l,cs.toList,xs,J,rfl,b5,⟨⟨λ_ _ _ e=>e⟩,σ.m,c9,a9,c8,h0⟩,?_,λ_ _ _ _ hJ=>hJ⟩ b9
  .have b0:(Instr.enterLoop fn a.tmps ps x y Fence.wide.round).run C.P w= .ok (l,[Db D]) W1:=by
    subst hD hl;rw[<-H];exact run_enterLoop_outer _ _ _ _ _
   refine⟨l,[Db D],W1,{target:=.fn (.func g) cs,args:= #[.func (.yield l) #[] #[]]},W1,g,(.func (.yield l) #[] #[]::cs.toList).toArray,W1,b0,?_,λ_ _=>trivial,?_,λe=>by simp[Fence.wide]at e,callsIn_wide.2 ?_⟩
   .simp only[resolve,rangeCall,b7];simp[go_sem]
   .obtain⟨gf,hf,c',c0⟩:=a3.1;have c':¬gf.body=none:=bg
    have c0:¬gf.name= "runtime.NumGoroutine" :=bg
    simp only[invoke,callFunc];simp[program,Sem.run,hf,c0,c']
   refine b'.mono ?_;rintro e V ⟨r,u,mm,Z,rfl,⟨a',T,a4,c1,b1,hI⟩,b4,A,_⟩;have c2:=A.msat l _ b1;refine⟨_,_,run_endLoop c2 (by simp[Cb]),?_⟩;obtain⟨W,a0⟩:∃W,V.putObj l (.loop {Cb fn a.tmps ps x y D .ready with state:=.exhausted})=W:=⟨_,rfl⟩
   rw[a0];have a1:∀b,b≠l->W.heap[b]? =V.heap[b]? :=λb t=>by rw[<-a0];exact World.putObj_heap_other (λe=>t e)
   have t4:W.tape=V.tape/\W.os=V.os/\W.output=V.output/\W.heap.size=V.heap.size:=by rw[<-a0];exact⟨rfl,rfl,rfl,ay⟩
   have t1:W1.tape=w.tape/\W1.os=w.os/\W1.output=w.output:=by rw[<-H];exact⟨rfl,rfl,rfl⟩
   have c5:W1.heap.size<=V.heap.size:=A.size
   have a5:∀b,b<w.heap.size->σ.m b=none->W.heap[b]? =w.heap[b]? :=λb t hn=>by
    have M:b≠l:=by omega
    rw[a1 b M,A.frame b bg (z b bg),a7 b t]
   have F:∀b o,T b=some o->mm b=some o/\b≠l:=λb o t=>by
    grind
   have d':∀b o,T b=some o->W1.heap.size<=b\/∃o',σ.m b=some o':=λb o t=>by
    obtain⟨G,M⟩:=F b o t;rcases A.mfr b o G with h2|h2
    .exact .inl h2
    .refine .inr ?_;cases e:σ.m b with
     |some o'=>grind
     |none=>grind
   have hB:B.w0.heap.size<=w.heap.size:=L.size
   have mB:∀b,b<B.w0.heap.size->¬B.E b->σ.m b=none:=λb t hn=>by
    cases e:σ.m b with
    |none=>rfl
    |some o=>
     rcases L.mfr b o e with G|G
     .grind
     grind
   have O:∀D',D'∈ds->D'<w.heap.size/\σ.m D'=none:=λD' R=>by
    refine⟨(Array.getElem?_eq_some_iff.1 (U.mark D' R)).1,?_⟩;cases e:σ.m D' with
    |none=>rfl
    |some o=>exact(U.mine D' R (.inl (by rw[e];simp))).elim
   have c3:∀b,¬(W1.heap.size<=b)->σ.m b=none->¬RB (λ_=>.slice none 0 0) (blank σ T Z) b:=by
    rintro b G h2 (h3|⟨k,o,hk,_⟩)
    .cases e:T b with
     |none=>exact h3 e
     |some o=>
      grind
    .exact HG _ _ _ hk
   have e3:σ.m D=none:=by
    cases e:σ.m D with
    |none=>rfl
    |some o=>grind
   refine⟨D::ds,λ_=>.slice none 0 0,blank σ T Z,⟨?_,?_,?_,?_,?_⟩,b6 T Z a' hI⟩
   .refine aM.blank' (Hd U.mod.slots) ?_ ⟨?_,?_,?_,?_,?_,?_,?_,?_,?_,?_,?_,?_⟩
    .show[Db D]++a.defers=_;rw[U.mod.defers];rfl
    .rw[t4.1,A.tape];show W1.tape=_;rw[t1.1];exact L.tape
    .rw[t4.2.1,A.os];show W1.os=_;rw[t1.2.1];exact L.os
    .rw[t4.2.2.1,A.output];show W1.output=_;rw[t1.2.2];exact L.output
    .have d4:W.drawn=V.drawn:=by rw[<-a0];rfl
     have d3:W1.drawn<=V.drawn:=A.drawn;have d2:W1.drawn=w.drawn:=by rw[<-H];rfl
     have d1:B.w0.drawn<=w.drawn:=L.drawn
     grind
    .grind
    .intro b t a2;have t:b<B.w0.heap.size:=t;rw[a5 b aC (mB b t a2)];exact L.frame b t a2
    .intro b i v hv;have b2:=A.hsat b i v hv;have M:b≠l:=λe=>by rw[e,P7 c2]at b2;cases b2
     rw[World.cell?_of_block (w:=V) (w':=W) (a:=⟨b,i,none⟩) (a1 b M)];exact b2
    .intro b o t;obtain⟨G,M⟩:=F b o t;rw[a1 b M];exact A.msat b o G
    .intro b o t i;exact A.disj b o (F b o t).1 i
    .intro b i v hv;exact a'.le _ _ _ (L.hle b i v hv)
    .intro b t a2;have t:b<B.w0.heap.size:=t;have G:Z b=σ.h b:=A.hold b bg (z b bg);rw[G];exact L.hold b t a2
    grind
   .intro D' R;rcases mem_cons.1 R with rfl|G
    .omega
    .exact U.size D' G
   .grind
   .intro D' R;rcases mem_cons.1 R with rfl|G
    .rw[a1 D' aC,A.frame D' bg (z D' bg)];exact b8
    .obtain⟨h2,h3⟩:=O D' G;rw[a5 D' h2 h3];exact U.mark D' G
   .refine nodup_cons.2 ⟨λG=>?_,U.nodup⟩
    grind
  .rintro k e m' h' hk a' ⟨c4,T,a4,c1,b1,hI⟩;refine⟨λw5 hH=>?_⟩;obtain⟨es,d0,d5,hV⟩:=Y k e T h' hk a' hI;obtain⟨d6,b3,d7,d8,d9,hR⟩:=Wl X (σ:=σ) (ι:=ι) hx hy U.mod.slots d0 d5 a4 c1 b1 hV w5 hH;refine⟨d6,b3,d7,d8,d9,hR.mono ?_⟩;rintro ex w6 ⟨u,m6,h6,rfl,⟨rfl,a6,m7,q1,q2,q3,q4⟩,e'⟩;exact⟨_,m6,h6,rfl,⟨rfl,a6,⟨λ_ _ _ e=>a6.le _ _ _ (c4.le _ _ _ e)⟩,m7,q1,q2,q3,q4⟩,e'⟩
theorem Zh(j:∀g S,assoc C.specs g=some S->Sound C.P g S){ds}(J:MM B ds ι σ a w){f ps x y Q}(h:Zi C f ps x y σ (Q .normal)):(Code.rangeFunc f ps x y).wp C.P (QM B Q) a w:=by
 unfold Zi at h;split at h
 .rename_i g O X E G;obtain⟨L,M⟩:=Bool.and_eq_true_iff.1 G;split at h
  .rename_i R;obtain rfl:O= #[]:=Array.toList_inj.1 aC;split at h
   .rename_i p T A V;obtain⟨Src,xs,I,D,n,H,c,t⟩:=h;refine Sy j J E L M D n H (λk W m h u d F=>?_) (λm h d F=>t m h d bg);rw[getElem?_map]at u;cases e:xs[k]? with
    |none=>grind
    |some z=>
     rw[e]at u;simp only[Option.map_some,Option.some.injEq]at u;subst u;exact⟨[(p,mk C.P T (((C.dec T).enc z).map .val))],by rw[A];rfl,⟨UT,trivial⟩,c k z m h e d F⟩
   .rename_i p q T U A V;obtain⟨Src,xs,I,D,n,H,c,t⟩:=h;refine Sy j J E L M D n H (λk W m h u d F=>?_) (λm h d F=>t m h d bg);rw[getElem?_map]at u;cases e:xs[k]? with
    |none=>grind
    |some z=>
     rw[e]at u;simp only[Option.map_some,Option.some.injEq]at u;subst u;exact⟨[(p,mk C.P T (((C.dec T).enc z.1).map .val)),(q,mk C.P U (((C.dec U).enc z.2).map .val))],by rw[A];rfl,⟨UT,UT,trivial⟩,c k z.1 z.2 m h e d F⟩
   grind
  grind
 grind
theorem aOX(d:∀g S,assoc C.specs g=some S->Sound C.P g S):∀(c:Code)(σ:St)(Q:GF->St->Prop)(ds:cm)(ι:ci)(a:Act)(w:World),MM B ds ι σ a w->VCF C c σ Q->c.wp C.P (QM B Q) a w:=by
 intro c
 induction c with
 |rangeFunc f ps x y _ _=>intro σ Q ds ι a w n h;exact Zh d n h
 |seq x y D E=>
  intro σ Q ds ι a w n h;simp only[VCF]at h;split at h
  .exact DC d n h
  .split at h
   .obtain⟨I,h,F⟩:=h;refine wp_seq (wp_mono (D σ _ ds ι a w n h) ?_);intro e J L j;cases e with
    |normal=>
     obtain⟨z,G,H,u,V⟩:=j;obtain⟨W,X,M,O⟩:=Bv u.here V;exact E _ Q z X J L (u.retag O) (F W M)
    |exit id=>exact j
    |ret=>exact j
    |goto l=>exact j
    |panic U=>exact j
    |outgrown=>exact j
   .refine wp_seq (wp_mono (D σ _ ds ι a w n h) ?_);intro e J L j;cases e with
    |normal=>
     obtain⟨z,G,H,u,h'⟩:=j;exact E H Q z G J L u h'
    |exit id=>exact j
    |ret=>exact j
    |goto l=>exact j
    |panic U=>exact j
    |outgrown=>exact j
 |cond c x y D E=>
  intro σ Q ds ι a w n h;simp only[VCF]at h;split at h
  .exact DC d n h
  .split at h
   .rename_i t R;have A:=n.mod.ev c;rw[R]at A;have A:a.eval c= .bool t:=A;rcases yD h with⟨rfl,h⟩|⟨rfl,h⟩
    .exact wp_cond_true A (D _ Q ds ι a w (n.retag (n.here.setTmp R)) h)
    .exact wp_cond_false A (E _ Q ds ι a w (n.retag (n.here.setTmp R)) h)
   grind
 |block id c Y=>
  intro σ Q ds ι a w n h;simp only[VCF]at h;split at h
  .exact DC d n h
  .refine wp_block (wp_mono (Y σ _ ds ι a w n h) ?_);intro e J L j;cases e with
   |normal=>exact j
   |exit i=>
    obtain⟨z,G,H,u,h'⟩:=j;show if i=id then _ else _
    simp only at h';split at h'
    .rename_i T;rw[if_pos (Nat.eq_of_beq_eq_true T)];exact⟨z,G,H,u,h'⟩
    .rename_i T;rw[if_neg (λe=>by subst e;simp at T)];exact⟨z,G,H,u,h'⟩
   |ret=>exact j
   |goto l=>exact j
   |panic U=>exact j
   |outgrown=>exact j
 |_=>intro σ Q ds ι a w n h;exact DC d n h
theorem PQ(e:aM B ι σ a w):∀{l:List ResultVar}{K:bt->Prop},b4Z C σ l K->∃vs,(l.mapM (Mr a.tmps)).run C.P w= .ok vs w/\K vs
 |[],K,h=>⟨[],ay,h⟩
 |.tmp t::r,K,h=>h.elim
 |.cell t T::r,K,h=>by
  simp only[b4Z]at h;split at h
  .rename_i b off n u;obtain⟨y,f,h⟩:=h;split at h
   .rename_i c;have c:=Nat.eq_of_beq_eq_true c;split at h
    .rename_i v z;obtain⟨vs,A,D⟩:=PQ e h;have d:=e.ev (.tmp t);have E:σ.ev (.tmp t)= .at (.val (.pointer (some ⟨b,off,none⟩))):=by simp only[St.ev,n]
     rw[E]at d;have g:a.tmps.getD t undef= .pointer (some ⟨b,off,none⟩):=d;have F:=Br (w:=w) (b:=b) (off:=off) (cs:=(C.dec T).enc y) u c (Ff e.wrel f);have G:=JC (P:=C.P) (T:=T) (ι:=ι) (ats:=((C.dec T).enc y).map .val) (cs:=(C.dec T).enc y) (by rw[j8.vals]);have j:=G.val? z;refine⟨v::vs,?_,D⟩;simp only[mapM_cons,Mr,g,asAddr,Sem.run_bind,Sem.run_pure,Result.andThen_ok,F,A,j]
    grind
   grind
  grind
theorem YR(d:aM B ι σ a w){fn K}(h:L9 C fn K σ):
 ∃u,(results fn a.tmps).run C.P w= .ok u w/\∃r m' h',K r m' h'/\IP w r u/\Dt B m' h' w/\∀b,jP r u=some b->(B.w0.heap.size<=b\/B.E b)/\m' b=none/\∀i,h' b i=none:=by
 unfold L9 at h;split at h
 .exact Sg d h
 .obtain⟨c,f,g⟩:=PQ d h
  have n:(results fn a.tmps).run C.P w= .ok (if h:c.toArray.size=1 then c.toArray[0]else .tuple c.toArray) w:=by
   rw[PO,Array.mapM_eq_mapM_toList];simp[f]
  split at g
  .rename_i v;exact⟨v,bg,.val v,σ.m,σ.h,g,rfl,d.wrel,λb j=>by simp[jP]at j⟩
  .rename_i t
   have y:c.length≠1:=λe=>by
    match c,e with
    |[v],_=>grind
   exact⟨.tuple c.toArray,bg,.tup (c.map .val),σ.m,σ.h,g,⟨c.toArray,rfl,ay⟩,d.wrel,λb j=>by simp[jP]at j⟩
theorem NR{F:Fence}{n:Nat}{R:Ending->World->Prop}{fn:Func}{Kc:bo}(g:L9 C fn Kc σ)
 (y:∀u w',(∃r m' h',Kc r m' h'/\IP w' r u/\Dt B m' h' w'/\∀b,jP r u=some b->(B.w0.heap.size<=b\/B.E b)/\m' b=none/\∀i,h' b i=none)->R (.returned u) w'):
 ∀(ds:cm)(a:Act)(w:World),MM B ds ι σ a w->LeavesInM F n C.P fn a.tmps R (ds.map Db) .returning w
 |[],a,w,f=>by
  obtain⟨u,A,r,m',h',G,t,d,H⟩:=YR f.mod g;refine⟨u,A,y u w ⟨r,m',h',G,t,⟨d.tape,d.os,d.output,d.drawn,d.size,d.frame,d.hsat,d.msat,d.disj,d.hle,d.hold,d.mfr⟩,H⟩⟩
 |D::ds,a,w,f=>by
  have z:=f.mark D (mem_cons_self ..);refine⟨ay,.inl ⟨D,_,rfl,run_takeDeferred z,NR g y ds {a with defers:=ds.map Db} _ ?_⟩⟩;have I:w.grownBy (w.putObj D (.deferred none)) (some D):=grownBy_putObj' w D _
  have c:=f.mod.grown I (Nat.le_refl _) (λr e=>by
   cases e;exact⟨f.size D (mem_cons_self ..),f.mine D (mem_cons_self ..),_,z,rfl⟩)
  have j:=nodup_cons.1 f.nodup;refine⟨⟨c.slots,?_,c.own,c.dist,c.fresh,⟨c.wrel.tape,c.wrel.os,c.wrel.output,c.wrel.drawn,c.wrel.size,c.wrel.frame,c.wrel.hsat,c.wrel.msat,c.wrel.disj,c.wrel.hle,c.wrel.hold,c.wrel.mfr⟩,c.one⟩,λD' h=>f.size D' (mem_cons_of_mem _ h),λD' h=>f.mine D' (mem_cons_of_mem _ h),λD' h=>?_,j.2⟩
  .rfl
  .rw[World.putObj_heap_other (fun(e:D'=D)=>j.1 bg)];exact f.mark D' (mem_cons_of_mem _ h)
theorem SB{P f fn c}(I:P.funcs[f]? =some fn)(J:fn.body=some c)(t:(fn.name== "runtime.NumGoroutine")=false){S}(F:∀d m h K,S d m h K->∃C:Ctx,C.P=P/\(∀g S,assoc C.specs g=some S->Sound P g S)/\aAX C fn c (entry fn.ntmps d m h) K):Sound P f S:=by
 refine⟨⟨fn,I,by rw[J];rfl,t⟩,?_⟩;intro d y m h w K M O;obtain⟨C,rfl,j,Q⟩:=F d m h K M;refine callsIn_wide.1 (callsIn_of_wp_marks (n:=0) I J trivial (wpIn_wide.2 ?_))
 have G:MM ⟨w,yE m d y,h,[]⟩ [] (NU fn.ntmps d y) (entry fn.ntmps d m h) {tmps:=y.toArray++Array.replicate (fn.ntmps-y.toArray.size) undef,defers:=[]} w:=
  ⟨Lu fn.ntmps O,λ_ D=>(not_mem_nil D).elim,λ_ D=>(not_mem_nil D).elim,λ_ D=>(not_mem_nil D).elim,nodup_nil⟩
 refine wp_mono (aOX j c _ _ _ _ _ w G Q) ?_;intro e E z A
 have key:(∃H ι σ,MM ⟨w,yE m d y,h,[]⟩ H ι σ E z/\L9 C fn K σ)->LeavesInM Fence.wide 0 C.P fn E.tmps (λe z=>∃r u m' h',e= .returned u/\K r m' h'/\IP z r u/\Dt ⟨w,yE m d y,h,[]⟩ m' h' z/\
  (∀b,jP r u=some b->(w.heap.size<=b\/yE m d y b)/\m' b=none/\∀i,h' b i=none)) E.defers .returning z:=by
  rintro⟨H,ι,σ,L,R⟩;rw[L.mod.defers];exact NR R (λu T⟨r,m',h',U,V,W,X⟩=>⟨r,u,m',h',rfl,U,V,W,X⟩) H E z L
 cases e with
 |normal=>exact key A
 |ret=>exact key A
 |exit id=>obtain⟨_,_,_,_,h⟩:=A;exact h.elim
 |goto l=>exact A.elim
 |panic Y=>exact A.elim
 |outgrown=>exact A.elim
theorem Zj{P f fn c}(j:P.funcs[f]? =some fn)(n:fn.body=some c)(e:(fn.name== "runtime.NumGoroutine")=false){S}(t:∀d m h K,S d m h K->∃C:Ctx,C.P=P/\(∀g S,assoc C.specs g=some S->Sound P g S)/\aAX C fn c (entry fn.ntmps d m h) (cN h K)):Sound P f S:=
 .strong (SB j n e (S:=λd m h K=>∃K',S d m h K'/\K=cN h K') (by
  grind))
end
end Go.Vc
namespace Go.Ps
open Go Go.Vc Go.Proofs List Tryz
variable{K:bo}{m:MH}{h:PH}{s:jQ}{ps:bn}{cb:Nat}{sc:bZ}{v:QV}{p:Pred}{l:bn}{i:Nat}{N:Nat}{m':MH}{h':PH}{co:bn}{gr:bn}{od:bz}{ta:Int}{li:Int}{xs:List bt}{sz:Nat}{ks:List bn}{rs:bn}{r:Sl}{a:bn}{b:Nat}
def RP(b:Nat):Value:=.func (.func 214) #[] #[.pointer (some ⟨b,0,none⟩)]
structure I7(h:PH)(b:Nat)(us:bx):Prop where
 ex:∃s:Sl,cO h b 0 [s.val]/\dC h s 1 (us.map eS)/\us.length<=502633886983
theorem I7.mono{us}(x:I7 h b us)(le:PH.le h h'):I7 h' b us:=by
 obtain⟨s,c,d,e⟩:=x.ex;exact⟨s,c.mono le,d.mono le,e⟩
def AD:PH->bt->List bt->Prop:=λh c xs=>∃b d,c=[.pointer (some ⟨b,0,none⟩)]/\I7 h b d/\xs=d.map eS
noncomputable def Vl specs loops cuts heapT:={qV specs loops cuts [] heapT [] false with elemT:=[65]}
def T9:Vc.Spec:=λc m h K=>∃s,c=[cS s]/\∀b h',PH.le h h'->cO h' b 0 [s.val]->K (.val (RP b)) m h'
def VQ:Vc.Spec:=λc m h K=>∃s b d f,c=[cS s,.val (RP b)]/\cT m s 65 1 (d.map eS)/\I7 h b f/\d.length<=502633886983/\
 ∀e m',cT m' e 65 1 ((d++f).map eS)->(∀x o,m x=some o->(∀i,s.a≠some ⟨x,i,none⟩)->m' x=some o)->(∀x i,e.a=some ⟨x,i,none⟩->m x=none\/∃i,s.a=some ⟨x,i,none⟩)->K (cS e) m' h
def YL:Vc.Spec:=λc m h K=>∃b e,c=[.val (RP b)]/\I7 h b e/\
 ∀d m',cT m' d 65 1 (e.map eS)->(∀x o,m x=some o->m' x=some o)->(∀x i,d.a=some ⟨x,i,none⟩->m x=none)->K (cS d) m' h
noncomputable def bDQ b l s:=
 {dE [] [(1,{A:=Nat×MH×PH,st:=λ⟨i,m,h⟩=>bU 16 18 [(0,vv (.func (.yield l) #[] #[])),(1,vv (.pointer (some ⟨b,0,none⟩))),(5,sv s),(6,iv s.len),(7,iv i)] [] m h})] [] [] false with yield:=some (bQJ Tryz.prog)}
abbrev uB a:=mJ 214 (BS a)
attribute [push_cast] uB
def MS(s:Sl)(m:MH)(h:PH)(K:bo):=
  ∀(b:Nat)(c:MH),bG (cF m h b) (bK m c b (aR s) 58) (K (uB b) c h)
abbrev oT(a:Nat×MH×PH):=a.2.1
abbrev kV(a:Nat×MH×PH):=a.2.2
abbrev UQ(a:Nat->bt->Prop):=∃(x:Nat)(c:bt),a x c
abbrev Cm a:=CV.val (Value.func (Fn.yield a) sF sF)
abbrev xT(a:bo)(b:MH)(c:PH):=a (CV.tup []) b c
attribute [push_cast] oT kV UQ Cm xT
def Tb b l s m h K:=
  kS m h b 0 (λy=>∃(I:Nat×MH×PH->Prop)(f:Nat×MH×PH->Nat),(∃(x:Nat×MH×PH),aA (I x) (CE (Fn.yield l) sF) (aA (cQ b) (aZ y s) (aA (bN y s) (bA x.1) (aA (dJ m x.2) (fC h x.2) True))))/\∀(x:Nat×MH×PH),I x->aY (↑x.1:Int) (aH s) (bJ (λg o=>aI (aW s.a g o) (0<=(↑x.1:Int)) ((↑x.1:Int)<aH s) (∃(j:Sl),aA (aK (oT x) (kV x) g (o+bM x.1 1) (aR j)) (Vu Proofs.Tryz.prog (bQJ Proofs.Tryz.prog)) (UQ (λn v=>∃(R:Bool->MH->PH->Prop),aA (tO (Cm l) (mQ j)=Cm n::List.map CV.val v) (YDo Proofs.Tryz.prog n v (oT x) (kV x) R) (∀(u:Bool),eT (λd e=>gX (R u d e) (!u) (xT K d e) (∃(c:Nat×MH×PH),aA (I c) (f c<f x) (aA (CE (Fn.yield l) sF) (cQ b) (aA (aJ s) (bI
 s) (aA (gK (bE x.1 1)=bO c.1) (dJ d c.2) (kZ (fC e c.2))))))))))))) (xT K (oT x) (kV x)))
abbrev zM a:=oN (R9 a 0)
abbrev w8(a:PH->bt->List bt->Prop)(b:Nat->Nat->Option Value)(c:Nat)(d:MH)(e:bx->(Nat->MH->PH->Prop)->Nat->Sl->Prop)(g:MH->PH->Prop):=∃(x:bx)(n:Nat->MH->PH->Prop),aA (Hy Proofs.Tryz.prog 214 a) (a b (zM c) (List.map (fun(f:Sl)=>aR f) x)) (aA (n 0 d b) (∀(f:Nat)(j:Sl),e x n f j) (eT (λf j=>bQ b j (n x.length f j) (g f j))))
abbrev CD(a:bx)(b:Nat)(c:Sl):=a[b]? =Option.some c
abbrev HS(a:bx)(b:Nat)(c:Sl)(d:PH)(e:Nat->MH->PH->Prop)(g:MH->PH->Sl->Prop):=eT (λx f=>bG (CD a b c) (PH.le d f) (e b x f->∃(j:Sl),g x f j))
abbrev Fq(a:MH)(b:PH)(c d:Nat)(e:bt)(g:(List bt)->Prop):=aK a b c d e/\∃(x:List bt),g x
attribute [push_cast] zM w8 CD HS Fq
def S6(s:Sl)(b:Nat)(m:MH)(h:PH)(K:bo):=
  ∀(d:Nat)(t:MH),bG (cF m h d) (bK m t d (aR s) 58) (∃(S:PH->bt->List bt->Prop),w8 S h b t (λx I k e=>HS x k e h I (λf g y=>Fq f g d 0 (aR y) (λj=>aI (cT f (dN y) 65 1 j) (kB j) (dO j) (jU (λu n=>fY f n (dN y) u 65 1 (dL j (aR e))->jN (λc E=>aA (yA n d (gG c E 0)) (0<c.size) (∀(z:MH),bK n z d (fA (dP u) 1 c) E->I (k+1) z g))))))) (λf g=>kS f g d 0 (λy=>K (mQ y) f g)))
abbrev K5(a:Nat->bx->Prop):=∃(x:Nat)(c:bx),a x c
attribute [push_cast] K5
def a7Z(b:Nat)(m:MH)(h:PH)(K:bo):=
  ∃(s:Sl),K5 (λd u=>∃(v:bx),aA (tO EZ (uB b)=fZ s (uB d)) (cT m s 65 1 (gH u)) (aA (I7 h d v) (u.length<=502633886983) (Kn 1 (u++v) (λc x o=>bG (m x=Option.some o) (∀(i:Nat),mK (aW s.a x i)) (c x=Option.some o)) (λx=>F9 m x\/∃(i:Nat),aW s.a x i) (λe c=>K (mQ e) c h))))
def qS(h:PH)(b:Nat)(l:bt):=λc i=>if c=b then l[i]? else h c i
theorem D1{l}(d:∀i,h b i=none):PH.le h (qS h b l):=⟨λc i v e=>by
 have:c≠b:=λf=>bg
 simp only[qS,if_neg this];exact e⟩
theorem azZ{l}:cO (qS h b l) b 0 l:=⟨λi v e=>by simp only[qS,if_true,Nat.zero_add];exact e⟩
theorem RU{f fn}(n:Tryz.prog.funcs[f]? =some fn){S}(j:∀c m h K,S c m h K->∃C:Ctx,C.P=Tryz.prog/\(∀g S,assoc C.specs g=some S->bm g S)/\∃N:Prop,N=wW C fn (dX fn) (entry fn.ntmps c m h) (cN h K)/\N)(t:fn.body=some (dX fn):=by rfl)(d:(fn.name== "runtime.NumGoroutine")=false:=by decide):bm f S:=aVJ n t d λc m h K u=>let⟨C,hC,hs,N,e,hn⟩:=j c m h K u;⟨C,hC,hs,e▸hn⟩
theorem acJ:bm 171 T9:=by
 refine RU func171 ?_;rintro n m h K ⟨s,rfl,t⟩;refine⟨dE [] [] [] [] false,rfl,aG,MS s m h (cN h K),ax,?_⟩;show MS s m h (cN h K);dsimp only[MS,push_cast];intro b m' c g u
 have sub:∀f o,m f=some o->m' f=some o:=λf o d=>by
  rw[g.other f (λe=>by rw[e,c.m_]at d;cases d)];exact d
 refine⟨m,qS h b [s.val],sub,D1 c.h_,λf i v e=>?_,t b _ (D1 c.h_) azZ⟩;by_cases j:f=b
 .subst j;simp only[qS,if_true]at e;exact .inr ⟨_,_,_,g.at_,by simpa[Sl.val]using e,c.m_⟩
 .simp only[qS,if_neg j]at e;exact .inl e
theorem ZM:bm 214 (bYJ Tryz.prog AD):=by
 refine iQ func214 ?_;rintro I m h K ⟨l,A,xs,J,rfl,⟨b,j,rfl,d,rfl⟩,L,c,f⟩;obtain⟨s,M,D,U⟩:=d.ex;refine⟨bDQ b l s,rfl,aG,Tb b l s m h K,ax,?_⟩;dsimp only[Tb,push_cast];have g:=D.len;simp only[length_map]at g;refine⟨s,.imm M,λx=>x.1<=j.length/\PH.le h x.2.2/\J x.1 x.2.1 x.2.2,λx=>j.length-x.1,⟨(0,m,h),⟨ay,.refl _,L⟩,MT⟩,?_⟩;rintro⟨i,E,F⟩ ⟨O,le,G⟩;dsimp only at O le G⊢
 refine aF (λn=>?_) (λP=>f _ E F le bg);obtain⟨u,H⟩:∃u,j[i]? =some u:=⟨_,getElem?_eq_getElem aC⟩
 obtain⟨Q,R,S,T⟩:=D.get (i:=i) (e:=eS u) (by simp[H]);refine⟨Q,R,S,aC,n,u,.imm (T.mono le),Pp _,l,_,_,rfl,c i (eS u) E F (by simp[H]) le G,?_⟩;rintro t m' h' ⟨rfl,y,z⟩;exact⟨(i+1,m',h'),⟨aC,le.trans y,z⟩,aC,MT⟩
theorem z6:Hy Tryz.prog 214 AD:=⟨ZM⟩
theorem cWQ{f fn}(n:Tryz.prog.funcs[f]? =some fn){S}(j:∀c m h K,S c m h K->∃C:Ctx,C.P=Tryz.prog/\(∀g S,assoc C.specs g=some S->bm g S)/\∃N:Prop,N=aAX C fn (dX fn) (entry fn.ntmps c m h) K/\N)(t:fn.body=some (dX fn):=by rfl)(d:(fn.name== "runtime.NumGoroutine")=false:=by decide):bm f S:=SB n t d λc m h K u=>let⟨C,hC,hs,N,e,hn⟩:=j c m h K u;⟨C,hC,hs,e▸hn⟩
theorem QX:bm 249 VQ:=by
 refine cWQ func249 ?_;rintro S m h K ⟨s,b,J,A,rfl,L,P,hl,T⟩;refine⟨Vl [] [] [] [200002,1058],rfl,aG,S6 s b m h K,ax,?_⟩;dsimp only[S6,push_cast];intro t U M Q;have V:A.length<=502633886983:=by obtain⟨_,_,_,E⟩:=P.ex;exact E
 have sub:∀x o,m x=some o->U x=some o/\x≠t:=λx o c=>by
  have:x≠t:=λe=>by rw[e,M.m_]at c;cases c
  exact⟨by rw[Q.other x this];exact c,this⟩
 have O:∀i,s.a≠some ⟨t,i,none⟩:=λi e=>by
  obtain⟨o,W⟩:=cT.blk L e
  grind
 refine⟨AD,A,λk D c=>c=h/\∃f,D t=some (.cells #[.slice f.a f.len f.cap] 58 (0,0))/\cT D f 65 1 ((J++A.take k).map eS)/\(∀i,f.a≠some ⟨t,i,none⟩)/\(∀x o,m x=some o->(∀i,s.a≠some ⟨x,i,none⟩)->D x=some o/\∀i,f.a≠some ⟨x,i,none⟩)/\(∀x i,f.a=some ⟨x,i,none⟩->m x=none\/∃i,s.a=some ⟨x,i,none⟩),
  z6,⟨b,A,rfl,P,rfl⟩,⟨rfl,s,Q.at_,?_,O,λx o c F=>⟨(sub x o c).1,F⟩,λx i e=>.inr ⟨i,e⟩⟩,?_,?_⟩
 .rw[take_zero,append_nil]
  exact cT.keep L (λx i e=>by
   obtain⟨o,W⟩:=cT.blk L e
   grind)
 .rintro k e D c R-⟨rfl,f,n,d,G,g,H⟩
  have X:=(List.getElem?_eq_some_iff.1 R).1;refine⟨f,.of_m n rfl,_,d,bf,bf,λY m2 u=>⟨_,_,⟨u.other t _ n G⟩,ay,λm3 y=>⟨rfl,Y,y.at_,?_,?_,?_,?_⟩⟩⟩
  .have Z:(J++A.take (k+1)).map eS=(J++A.take k).map eS++[eS e]:=by
    rw[take_add_one,R];simp
   rw[Z];refine cT.keep u.row (λx i z=>y.other x (λe3=>?_));subst e3;rcases u.fresh x i z with I|⟨j,I⟩
   .grind
   grind
  .intro i z;rcases u.fresh t i z with I|⟨j,I⟩
   .grind
   grind
  .intro x o c F;obtain⟨I,h2⟩:=g x o c F;refine⟨by rw[y.other x (sub x o c).2];exact u.other x o I h2,λi z=>?_⟩;rcases u.fresh x i z with E|⟨j,E⟩
   .grind
   grind
  .intro x i z;rcases u.fresh x i z with E|⟨j,E⟩
   .cases e4:m x with
    |none=>grind
    |some o=>
     grind
   grind
 .rintro D c-⟨rfl,f,n,d,G,g,H⟩
  rw[take_length]at d;exact⟨f,.of_m n rfl,T f D d (λx o c F=>(g x o c F).1) H⟩
theorem Zw:bm 250 YL:=by
 refine iQ func250 ?_;rintro c m h K ⟨b,d,rfl,f,g⟩;refine⟨dE [(249,VQ)] [] [] [] false,rfl,aE QX aG,a7Z b m h K,ax,?_⟩;exact⟨⟨none,0,0⟩,b,[],d,rfl,⟨Bt [],.inl ⟨rfl,rfl⟩⟩,f,ay,λn m' t u y=>g n m' t (λx o z=>u x o z (λi e=>by cases e)) (λx i e=>(y x i e).elim id λ⟨j,e⟩=>by cases e)⟩
structure YN(v:VV):Prop where
 kind:uR v.kind
 int:uR v.int
 text:v.text.size<=64
structure Ot(r:ca):Prop where
 len:r.length<=12
 val:∀v∈r,YN v
def GD(v:VV):=mC v.kind++58::(mC v.int++58::(mC (v.text.size:Int)++58::v.text.data.toList))
def EM(r:ca):=r.flatMap GD
def fD(r:ca):ByteArray:=⟨(EM r).toArray⟩
def pick(r:ca)(cols:bn):=cols.map λc=>r.getD c.toNat zeroV
structure jM(n:Nat)(cols:bn):Prop where
 at_:∀c∈cols,0<=c/\c<n
 len:cols.length<=100000
def b1Z:Vc.Spec:=λc m h K=>∃xs v,c=[.lst 5 1 xs,aV v]/\eA m/\v.text.size<=64/\xs.length+300<=140737488355328/\K (.lst 5 1 (xs++aX (GD v))) m h
def bYQ:Vc.Spec:=λd m h K=>∃s t r c,d=[cS s,cS t]/\bS h s r/\Ints h t c/\Ot r/\jM r.length c/\eA m/\K (RY (fD (pick r c))) m h
def aLJ:Vc.Spec:=λc m h K=>∃s r,c=[cS s]/\bS h s r/\Ot r/\eA m/\K (RY (fD r)) m h
def kE(on:bu):=on.map Prod.fst
def fM(on:bu):=on.map Prod.snd
def Ni:Vc.Spec:=λc m h K=>∃s on,c=[cS s]/\jC h s on/\∀a b h',PH.le h h'->Ints h' a (kE on)->Ints h' b (fM on)->K (.tup [cS a,cS b]) m h'
def LS:Vc.Spec:=λd m h K=>∃s t r c,d=[cS s,cS t]/\bS h s r/\Ints h t c/\jM r.length c/\K (cB ((pick r c).all pI)) m h
def b0Q:Vc.Spec:=λc m h K=>∃n:Nat,c=[.val (.slice none 0 0),cI n]/\n<=1000/\K (.lst 30 3 []) m h
def RH:Vc.Spec:=λc m h K=>∃d rs,c=[cS d]/\Rows h d rs/\rs.length<=10/\(∀r∈rs,r.length<=12)/\∀e h',PH.le h h'->bS h' e rs.flatten->K (cS e) m h'
noncomputable def bAX:=qV [(195,Of)] [] [] [] [] [(195,[0])] true
noncomputable def bBQ s t m h:=
 qV [(262,b1Z)] [(3,{A:=Nat×ck,st:=λ⟨i,l⟩=>bU 23 25 [(0,sv s),(5,.at (.lst 19)),(8,sv t),(9,iv t.len),(10,iv i)] [(19,.lst 5 1 (aX l))] m h})] [] [] [] [(262,[0])] false
noncomputable def bAQ s m h:=
 qV [(262,b1Z)] [(3,{A:=Nat×ck,st:=λ⟨i,l⟩=>bU 18 19 [(3,.at (.lst 14)),(6,sv s),(7,iv s.len),(8,iv i)] [(14,.lst 5 1 (aX l))] m h})] [] [] [] [(262,[0])] false
noncomputable def XR s m h:=
 dE [] [(2,{A:=Nat×bn×bn,st:=λ⟨i,l,k⟩=>bU 25 26 [(2,.at (.lst 16)),(3,.at (.lst 21)),(6,sv s),(7,iv s.len),(8,iv i)] [(16,.lst 3 1 (l.map eI)),(21,.lst 3 1 (k.map eI))] m h})] [] [] false
noncomputable def XQ s t m h:=
 dE [(158,Ud)] [(2,{A:=Nat,st:=λi=>bU 20 22 [(0,sv s),(7,sv t),(8,iv t.len),(9,iv i)] [] m h})] [] [] false
noncomputable def bGQ c m h:=
 dE [(208,b0Q)] [(3,{A:=Nat×Nat,st:=λ⟨i,n⟩=>bU 36 37 [(0,sv c),(3,iv n),(9,sv c),(10,iv c.len),(11,iv i)] [] m h}),
  (11,{A:=Nat×ca,st:=λ⟨i,l⟩=>bU 36 37 [(6,.at (.lst 24)),(25,sv c),(26,iv c.len),(27,iv i)] [(24,.lst 30 3 (l.map VV.enc))] m h})] [] [] false
def S4(xs:List bt)(v:VV)(m:MH)(h:PH)(K:bo):=
  ∃(x:List bt)(i:Int),aA (yY xs v.kind=yY x i) (eA m) (aA (nT (jW x 40)) (i7 (jW (sN x i) 1) 1) (Fs (dO (sN x i)) (λe=>∃(f:Int),aA (yY (dL (sN x i) (xE 58)) v.int=yY e f) (eA m) (aA (nT (jW e 40)) (i7 (jW (sN e f) 1) 1) (Fs (dO (sN e f)) (λc=>∃(d:Int),aA (yY (dL (sN e f) (xE 58)) (↑v.text.size:Int)=yY c d) (eA m) (aA (nT (jW c 40)) (i7 (jW (sN c d) 1) 1) (aI (dO (sN c d)) (sL (dL (sN c d) (xE 58)) (fE v.text) 1) (sM (dL (sN c d) (xE 58)) (fE v.text)) (vF K (dL (sN c d) (xE 58)++fE v.text) m h)))))))))
abbrev OW(a:(Nat×ck->Prop)->(Nat×ck)->Prop)(b:(Nat×ck->Prop)->(Nat×ck->Nat)->(Nat×ck)->Prop):=∃(x:Nat×ck->Prop)(d:Nat×ck->Nat),(∃(c:Nat×ck),a x c)/\∀(c:Nat×ck),b x d c
abbrev vQ(a:Nat×ck):=aX a.2
abbrev p7 a b:=tO (CV.lst 5 1 a) b
abbrev Kp(a:List bt)(b:ck->Prop):=∃(x:ck),a=aX x/\b x
attribute [push_cast] OW vQ p7 Kp
def S7(s t:Sl)(m:MH)(h:PH)(K:bo):=
  OW (λI x=>aA (I x) (aJ s) (aA (eL 19) (aJ t) (aA (bI t) (bA x.1) (aA (uW 5 1 (vQ x)) (m=m) (bT h h))))) (λI e x=>I x->aY (↑x.1:Int) (aH t) (bJ (λb o=>aI (aW t.a b o) (0<=(↑x.1:Int)) ((↑x.1:Int)<aH t) (∃(y:Int),aK m h b (o+bM x.1 1) (bB y)/\bJ (λf g=>aI (aW s.a f g) (0<=y) (y<aH s) (∃(j:VV),aK m h f (g+gY y 3) j.enc/\∃(d:List bt)(v:VV),aA (p7 (vQ x) (j4 j)=p7 d (j4 v)) (eA m) (aA (v.text.size<=64) (nT (jW d 300)) (∃(c:Nat×ck),aA (I c) (e c<e x) (aA (aJ s) (eL 19) (aA (aJ t) (bI t) (aA (gK (bE x.1 1)=bO c.1) (bR 5 1 (mL d (GD v))=bR 5 1 (vQ c)) (dY m m h h))))))))))) (Kp (vQ x) (λb=>K (vX b) m
 h)))
def SZ(s:Sl)(m:MH)(h:PH)(K:bo):=
  OW (λI x=>aA (I x) (eL 14) (aA (aJ s) (bI s) (aA (bA x.1) (uW 5 1 (vQ x)) (aA (m=m) (h=h) True)))) (λI e x=>I x->aY (↑x.1:Int) (aH s) (bJ (λb o=>aI (aW s.a b o) (0<=(↑x.1:Int)) ((↑x.1:Int)<aH s) (∃(y:VV),G4 m h b o x.1 3 y.enc (λd=>∃(v:VV),aA (p7 (vQ x) (j4 y)=p7 d (j4 v)) (eA m) (aA (v.text.size<=64) (nT (jW d 300)) (∃(c:Nat×ck),aA (I c) (e c<e x) (aA (eL 14) (aJ s) (aA (bI s) (gK (bE x.1 1)=bO c.1) (aA (bR 5 1 (mL d (GD v))=bR 5 1 (vQ c)) (m=m) (bT h h)))))))))) (Kp (vQ x) (λb=>K (vX b) m h)))
def It(s:Sl)(m:MH)(h:PH)(K:bo):=
  ∃(I:Nat×bn×bn->Prop)(d:Nat×bn×bn->Nat),(∃(x:Nat×bn×bn),aA (I x) (eL 16) (aA (eL 21) (aJ s) (aA (bI s) (bA x.1) (aA (sS x.2.1) (sS x.2.2) (dY m m h h)))))/\∀(x:Nat×bn×bn),I x->aY (↑x.1:Int) (aH s) (bJ (λb o=>aI (aW s.a b o) (0<=(↑x.1:Int)) ((↑x.1:Int)<aH s) (∃(y:Int×Int),aA (aK m h b (o+bM x.1 2) (vO y)) (cH 0) (aA ((0:Int)<2) (AL (gW x.2.1)) (aA (dO (gW x.2.1)) (cH 1) (aA ((1:Int)<2) (AL (gW x.2.2)) (dO (gW x.2.2)/\∃(c:Nat×bn×bn),aA (I c) (d c<d x) (aA (eL 16) (eL 21) (aA (aJ s) (bI s) (aA (gK (bE x.1 1)=bO c.1) (lK (dL (gW x.2.1) (bB y.1)) c.2.1) (cZ (lK (dL (gW x.2.2) (bB
 y.2)) c.2.2) m m h h))))))))))) (bY h 1 (gW x.2.1) (λe f=>bY f 1 (gW x.2.2) (λg j=>K (CV.tup (cJ e g)) m j)))
def Is(s t:Sl)(m:MH)(h:PH)(K:bo):=
  pN (λI x=>aA (I x) (aJ s) (aA (aJ t) (bI t) (cZ (bA x) m m h h))) (λI d x=>I x->aY (↑x:Int) (aH t) (bJ (λb o=>aI (aW t.a b o) (0<=(↑x:Int)) ((↑x:Int)<aH t) (∃(y:Int),aK m h b (o+bM x 1) (bB y)/\bJ (λe f=>aI (aW s.a e f) (0<=y) (y<aH s) (∃(g:VV),aK m h e (f+gY y 3) g.enc/\∃(v:VV),hX (eO (j4 g) (j4 v)) (!(pI v)) (K bH m h) (∃(c:Nat),aA (I c) (d c<d x) (aA (aJ s) (aJ t) (aA (bI t) (gK (bE x 1)=bO c) (aA (m=m) (h=h) True))))))))) (K iM m h))
def Td(n:Nat)(m:MH)(h:PH)(K:bo):=
  fR (fG ((↑n:Int)-fG ((0:Int)-0))) 0 (aA (cH 0) (cH 0) (aA (0<fG ((↑n:Int)-0)) (Jp (fG ((↑n:Int)-0)*32)) (aI (Jp (fG ((↑n:Int)-0))) ((0:Int)<=0) (cH (sQ (wG (fG ((↑n:Int)-0)) zD))) (K (CV.lst 30 3 []) m h)))) (K (CV.lst 30 3 []) m h)
abbrev Ep a:=List.map VV.enc a
attribute [push_cast] Ep
def Ts(d:Sl)(m:MH)(h:PH)(K:bo):=
  Ib (λI x=>aA (I x) (aJ d) (aA (bA x.2) (aJ d) (aA (bI d) (bA x.1) (aA (m=m) (h=h) True)))) (λI g x=>I x->aY (↑x.1:Int) (aH d) (bJ (λb o=>aI (aW d.a b o) (0<=(↑x.1:Int)) ((↑x.1:Int)<aH d) (∃(y:Sl),aK m h b (o+bM x.1 1) (aR y)/\aY (bE x.2 (aH y)) 0 False (∃(c:Nat×Nat),aA (I c) (g c<g x) (aA (aJ d) (gK (bE x.2 (aH y))=bO c.2) (aA (aJ d) (bI d) (aA (gK (bE x.1 1)=bO c.1) (m=m) (bT h h)))))))) (∃(n:Nat),aA (F1 x.2=F1 n) (nO n) (∃(I1:Nat×ca->Prop)(j:Nat×ca->Nat),(∃(c:Nat×ca),aA (I1 c) (eL 24) (aA (aJ d) (bI d) (aA (bA c.1) (uW 30 3 (Ep c.2)) (aA (m=m) (h=h) True))))/\∀(c:Nat×ca),I1 c->aY (↑c.1:Int) (aH d)
 (bJ (λb o=>aI (aW d.a b o) (0<=(↑c.1:Int)) ((↑c.1:Int)<aH d) (∃(y:Sl),G4 m h b o c.1 1 (aR y) (λe=>aA (fN 3 e) (dC h (dN y) 3 e) (aA (sL (Ep c.2) e 32) (sM (Ep c.2) e) (∃(f:Nat×ca),aA (I1 f) (j f<j c) (aA (eL 24) (aJ d) (aA (bI d) (gK (bE c.1 1)=bO f.1) (aA (bR 30 3 (Ep c.2++e)=bR 30 3 (Ep f.2)) (m=m) (bT h h)))))))))) (bY h 3 (Ep c.2) (λs t=>K (mQ s) m t)))))
theorem LJ a b:aX a++aX b=aX (a++b):=by simp[aX]
theorem biQ{v}(h:v.text.size<=64):(GD v).length<=130:=by
 have c:=oO v.kind;have d:=oO v.int;have e:=oO (v.text.size:Int);have f:v.text.data.toList.length=v.text.size:=Array.length_toList;simp only[GD,length_append,length_cons];omega
theorem QS:bm 262 b1Z:=by
 refine iQ func262 ?_;rintro f m h K ⟨xs,v,rfl,c,j,n,t⟩;refine⟨bAX,rfl,aE Dc aG,S4 xs v m h K,ax,?_⟩;dsimp only[S4,push_cast];have u:=oO v.kind;have y:=oO v.int;have z:=oO (v.text.size:Int);have A:v.text.data.toList.length=v.text.size:=Array.length_toList;have g:∀l:ck,(aX l).length=l.length:=λl=>by simp[aX]
 have d:fE v.text=aX v.text.data.toList:=rfl;refine⟨_,_,rfl,c,aC,?_,?_,_,_,rfl,c,?_,?_,?_,_,_,rfl,c,?_,?_,?_,?_,?_,?_⟩
 all_goals (try (simp only[length_append,g,d,length_cons,length_nil];omega))
 have e:xs++aX (GD v)=xs++aX (mC v.kind)++[[Value.int IntKind.u8 58]]++aX (mC v.int)++[[Value.int IntKind.u8 58]]++aX (mC (v.text.size:Int))++[[Value.int IntKind.u8 58]]++fE v.text:=by
  rw[d];simp only[GD,aX,map_append,map_cons,append_assoc,cons_append,nil_append];rfl
 grind
theorem WN{r}(h:∀v∈r,v.text.size<=64):(EM r).length<=130*r.length:=by
 induction r with
 |nil=>simp[EM]
 |cons v l c=>
  have f:=biQ (h v (mem_cons_self ..));have d:=c (λu e=>h u (mem_cons_of_mem _ e));simp only[EM,flatMap_cons,length_append,length_cons]at d⊢
  omega
theorem Su{r:ca}{v}(c:r[i]? =some v):EM (r.take (i+1))=EM (r.take i)++GD v:=by
 rw[take_add_one,c];simp[EM]
theorem P0{r cols}(e:jM r.length cols){v}(f:v∈pick r cols):v∈r:=by
 obtain⟨c,d,rfl⟩:=mem_map.1 f;have:=e.at_ c d
 grind
theorem J6{r cols}{i:Nat}{c}(d:jM r.length cols)(e:cols[i]? =some c):∃v,r[c.toNat]? =some v/\(pick r cols)[i]? =some v/\0<=c/\c<r.length:=by
 have:=d.at_ c (mem_of_getElem? e);refine⟨r[c.toNat]'(by omega),getElem?_eq_getElem _,?_,this⟩;unfold pick
 grind
theorem Gj:bm 248 bYQ:=by
 refine iQ func248 ?_;rintro I m h K ⟨s,t,r,d,rfl,F,G,J,y,L,M⟩;refine⟨bBQ s t m h,rfl,aE QS aG,S7 s t m h K,ax,?_⟩;dsimp only[S7,push_cast];have O:=bL.slen F;have z:=G.slen;have P:=y.len;have Q:(pick r d).length=d.length:=by simp[pick]
 have g:∀v∈pick r d,v.text.size<=64:=λv R=>(J.val v (P0 y R)).text;refine⟨λx=>x.1<=d.length/\x.2=EM ((pick r d).take x.1),λx=>d.length-x.1,⟨(0,[]),⟨ay,by simp[EM]⟩,MT⟩,?_⟩;rintro⟨i,l⟩ ⟨S,H⟩;dsimp only at S H;subst H;refine aF (λf=>?_) (λA=>?_)
 .dsimp only at f;obtain⟨c,j⟩:=eV z f;obtain⟨b,o,e,rd⟩:=G.at j;obtain⟨v,D,n,T,Y⟩:=J6 y j;obtain⟨U,V,w,W,E,rfl⟩:=bL.at F D;have Z:=WN (r:=(pick r d).take i) (λu X=>g u (mem_of_mem_take X));refine⟨b,o,e,aC,f,c,.imm bg,U,V,W,T,aC,v,.imm E,_,v,rfl,L,g v (mem_of_getElem? n),?_,(i+1,EM ((pick r d).take (i+1))),⟨aC,rfl⟩,bg,?_⟩
  .have:(aX (EM ((pick r d).take i))).length=(EM ((pick r d).take i)).length:=by simp[aX]
   grind
  .dsimp only;rw[Su n,LJ];exact MT
 .dsimp only at A⊢
  rw[take_of_length_le aC];exact⟨_,rfl,M⟩
theorem Zs:bm 263 aLJ:=by
 refine iQ func263 ?_;rintro y m h K ⟨s,r,rfl,n,d,z,A⟩;refine⟨bAQ s m h,rfl,aE QS aG,SZ s m h K,ax,?_⟩;dsimp only[SZ,push_cast];have e:=bL.slen n;have D:=d.len;refine⟨λx=>x.1<=r.length/\x.2=EM (r.take x.1),λx=>r.length-x.1,⟨(0,[]),⟨ay,by simp[EM]⟩,MT⟩,?_⟩;rintro⟨i,l⟩ ⟨E,t⟩;dsimp only at E t;subst t;refine aF (λc=>?_) (λf=>?_)
 .dsimp only at c;obtain⟨v,g⟩:=eV e c;obtain⟨F,G,w,H,j,rfl⟩:=bL.at n g;have J:=WN (r:=r.take i) (λu I=>(d.val u (mem_of_mem_take I)).text);refine⟨F,G,H,aC,c,v,.imm j,_,v,rfl,z,(d.val v (mem_of_getElem? g)).text,?_,(i+1,EM (r.take (i+1))),⟨aC,rfl⟩,bg,?_⟩
  .have:(aX (EM (r.take i))).length=(EM (r.take i)).length:=by simp[aX]
   grind
  .dsimp only;rw[Su g,LJ];exact MT
 .dsimp only at f⊢
  rw[take_of_length_le aC];exact⟨_,rfl,A⟩
theorem aDZ{s on}(f:jC h s on)(z:∀a b h',PH.le h h'->Ints h' a (kE on)->Ints h' b (fM on)->K (.tup [cS a,cS b]) m h'):It s m h K:=by
 dsimp only[It,push_cast];have g:=f.slen;have G:=f.len;refine⟨λx=>x.1<=on.length/\x.2.1=(on.take x.1).map Prod.fst/\x.2.2=(on.take x.1).map Prod.snd,λx=>on.length-x.1,⟨(0,[],[]),⟨ay,ay,ay⟩,MT⟩,?_⟩;rintro⟨i,l,k⟩ ⟨A,t,u⟩;dsimp only at A t u;subst t u;refine aF (λc=>?_) (λj=>?_)
 .dsimp only at c;obtain⟨p,y⟩:=eV g c;obtain⟨b,o,e,rd⟩:=jC.at f y;refine⟨b,o,e,aC,c,p,.imm rd,aC,aC,?_,?_,aC,aC,?_,?_,(i+1,(on.take (i+1)).map Prod.fst,(on.take (i+1)).map Prod.snd),⟨aC,rfl,rfl⟩,bg,?_⟩
  all_goals (try (simp only[length_map,length_take];omega))
  dsimp only;rw[take_add_one,y,Option.toList_some,map_append,map_append,map_append,map_append];exact MT
 .dsimp only at j⊢
  rw[take_of_length_le aC];intro a H n D b E d F;exact z a b E (n.trans d) ⟨D.mono d,by simp[kE];omega⟩ ⟨F,by simp[fM];omega⟩
theorem QY:bm 246 Ni:=by
 refine iQ func246 ?_;rintro c m h K ⟨s,on,rfl,d,e⟩;refine⟨XR s m h,rfl,aG,It s m h K,ax,?_⟩;exact aDZ d e
theorem aDX{s t r cols}(A:bS h s r)(D:Ints h t cols)(E:jM r.length cols)(g:K (cB ((pick r cols).all pI)) m h):Is s t m h K:=by
 dsimp only[Is,push_cast];have H:=bL.slen A;have n:=D.slen;have I:=E.len;have J:(pick r cols).length=cols.length:=by simp[pick]
 refine⟨λi=>i<=cols.length/\∀j:Nat,j<i->∀v,(pick r cols)[j]? =some v->pI v=true,λi=>cols.length-i,⟨0,⟨aC,λj F=>by omega⟩,MT⟩,λi⟨U,G⟩=>aF (λd=>?_) (λL=>?_)⟩
 .obtain⟨c,f⟩:=eV n d;obtain⟨b,o,e,rd⟩:=D.at f;obtain⟨v,y,M,O,V⟩:=J6 E f;obtain⟨P,Q,w,R,z,rfl⟩:=bL.at A y;refine⟨b,o,e,aC,d,c,.imm bg,P,Q,R,O,aC,v,.imm z,v,rfl,aD (λS=>?_) (λW=>⟨i+1,⟨aC,λj F u X=>?_⟩,(show cols.length-(i+1)<cols.length-i by omega),MT⟩)⟩
  .have:(pick r cols).all pI=false:=by
    grind
   rw[this]at g;exact g
  grind
 .have:(pick r cols).all pI=true:=by
   rw[all_eq_true];intro v T;obtain⟨j,F⟩:=getElem?_of_mem T
   grind
  rw[this]at g;exact g
theorem Zx:bm 247 LS:=by
 refine iQ func247 ?_;rintro d m h K ⟨s,t,r,c,rfl,e,f,g,j⟩;refine⟨XQ s t m h,rfl,aE Gl aG,Is s t m h K,ax,?_⟩;exact aDX e f g j
theorem ZP:bm 208 b0Q:=by
 refine iQ func208 ?_;rintro d m h K ⟨n,rfl,f,c⟩;refine⟨dE [] [] [] [] true,rfl,aG,Td n m h K,ax,?_⟩;dsimp only[Td,push_cast];have e:IntKind.i64.wrap ((n:Int)-0)=n:=by rw[fB aC aC];omega
 have g:IntKind.i64.wrap ((n:Int)-IntKind.i64.wrap (0-0))=n:=by rw[show IntKind.i64.wrap (0-0)=0 from by rw[fB aC aC];rfl,e]
 exact aF (λj=>⟨aC,aC,aC,aC,aC,aC,aC,c⟩) (λ_=>c)
theorem Ca{α}{ks:List (List α)}{k}(c:ks[i]? =some k):((ks.take (i+1)).map List.length).sum=((ks.take i).map List.length).sum+k.length:=by
 rw[take_add_one,c];simp
theorem Ja{α:Type}{ks:List (List α)}(h:∀k∈ks,k.length<=12):∀i,((ks.take i).map List.length).sum<=12*i
 |0=>ay
 |i+1=>by
  have c:=Ja h i;cases e:ks[i]? with
  |none=>rw[take_add_one,e];grind
  |some k=>rw[Ca e];grind
theorem Q4:bm 161 RH:=by
 refine iQ func161 ?_;rintro L m h K ⟨G,ks,rfl,y,V,d,M⟩;refine⟨bGQ G m h,rfl,aE ZP aG,Ts G m h K,ax,?_⟩;dsimp only[Ts,push_cast];have j:=bL.slen y;refine⟨λ⟨i,n⟩=>i<=ks.length/\n=((ks.take i).map List.length).sum,λ⟨i,_⟩=>ks.length-i,⟨(0,0),⟨aC,ay⟩,MT⟩,?_⟩;rintro⟨i,n⟩ ⟨H,rfl⟩;dsimp only;have O:=Ja d i;refine aF (λc=>?_) (λt=>?_)
 .obtain⟨k,e⟩:=eV j c;obtain⟨b,o,g,z,r,f⟩:=bL.at y e;have P:=bL.slen f;have u:=d k (mem_of_getElem? e)
  have Q:IntKind.i64.wrap (((((ks.take i).map List.length).sum:Nat):Int)+(g.len:Int))=((((ks.take (i+1)).map List.length).sum:Nat):Int):=by
   rw[Ca e,fB aC aC];omega
  refine⟨b,o,z,aC,c,g,.imm r,?_⟩;rw[Q];exact aF (λI=>by omega) (λ_=>⟨(i+1,((ks.take (i+1)).map List.length).sum),⟨aC,rfl⟩,aC,MT⟩)
 .refine⟨((ks.take i).map List.length).sum,rfl,aC,?_⟩;refine⟨λ⟨i,l⟩=>i<=ks.length/\l=(ks.take i).flatten,λ⟨i,_⟩=>ks.length-i,⟨(0,[]),⟨aC,ay⟩,MT⟩,?_⟩;clear O t H;rintro⟨i,l⟩ ⟨H,rfl⟩;dsimp only;have R:(ks.take i).flatten.length<=12*i:=by have:=Ja d i;grind
  refine aF (λc=>?_) (λt g h' A J=>M g h' A ⟨⟨ks.flatten,?_,rfl,λi x S=>⟨x,S,rfl⟩⟩,?_⟩)
  .obtain⟨k,e⟩:=eV j c;obtain⟨b,o,g,z,r,f⟩:=bL.at y e;have u:=d k (mem_of_getElem? e);obtain⟨D,E,T,U⟩:=f.ex
   have F:D=k:=by
    apply ext_getElem?
    grind
   subst F;refine⟨b,o,z,aC,c,g,.imm r,D.map VV.enc,PL D,E,?_,?_,(i+1,(ks.take (i+1)).flatten),⟨aC,rfl⟩,aC,?_⟩
   .grind
   .grind
   .rw[take_add_one,e,Option.toList_some,flatten_append,map_append,flatten_cons,flatten_nil,append_nil];exact MT
  .grind
  grind
theorem LB:∀(u:Nat)(b:UInt8),b∈Lib.decDigits u->48<=b.toNat/\b.toNat<=57:=by
 intro u
 induction u using Nat.strongRecOn with
 |_ u d=>
  intro b c;rw[Lib.decDigits]at c
  have one:∀k,k<10->48<=(UInt8.ofNat (48+k)).toNat/\(UInt8.ofNat (48+k)).toNat<=57:=λk e=>by
   rw[UInt8.toNat_ofNat'];omega
  grind
theorem aFJ:∀(u v:Nat),Lib.decDigits u=Lib.decDigits v->u=v:=by
 intro u
 induction u using Nat.strongRecOn with
 |_ u g=>
  intro v h;have f:=congrArg List.length h;rw[Lib.decDigits_length,Lib.decDigits_length]at f
  have one:∀a b,a<10->b<10->UInt8.ofNat (48+a)=UInt8.ofNat (48+b)->a=b:=λa b j n e=>by
   have:=congrArg UInt8.toNat e;rw[UInt8.toNat_ofNat',UInt8.toNat_ofNat']at this;omega
  by_cases d:u<10
  .have c:v<10:=by
    apply Classical.byContradiction;intro c;rw[Lib.nDigits_small d,Lib.nDigits_big c]at f;have:=Lib.nDigits_pos (v/10);omega
   rw[Lib.decDigits.eq_def u,Lib.decDigits.eq_def v,dif_pos d,dif_pos c]at h
   grind
  .have c:¬v<10:=λc=>by
    grind
   rw[Lib.decDigits.eq_def u,Lib.decDigits.eq_def v,dif_neg d,dif_neg c]at h;have t:=append_inj' h rfl
   grind
theorem R4{n}(c:0<=n)(d:n<18446744073709551616):IntKind.u64.wrap n=n:=by
 rw[IntKind.wrap_u64];omega
theorem aOQ{n}(c:n<0)(d: -9223372036854775808<=n):IntKind.u64.wrap (0-IntKind.u64.wrap n)= -n:=by
 rw[IntKind.wrap_u64,IntKind.wrap_u64];omega
theorem CO{n}(h:uR n)(c:0<=n):mC n=Lib.decDigits n.toNat:=by
 unfold mC;rw[if_neg aC,R4 c (by have:=h.2;omega)]
theorem CP{n}(h:uR n)(c:n<0):mC n=45::Lib.decDigits (-n).toNat:=by
 unfold mC;rw[if_pos c,aOQ c h.1]
theorem Sw{n}(h:uR n){b}(c:b∈mC n):b≠58:=by
 intro e;subst e;by_cases f:0<=n
 .rw[CO h f]at c;have:=LB _ _ c;simp at this
 .rw[CP h aC]at c;rcases mem_cons.1 c with d|d
  .cases d
  .have:=LB _ _ d;simp at this
theorem Sx{m n}(c:uR m)(d:uR n)(h:mC m=mC n):m=n:=by
 have f:∀u r,Lib.decDigits u=45::r->False:=λu r e=>by
  have:=LB u 45 (by rw[e];simp);simp at this
 by_cases g:0<=m<;>by_cases j:0<=n
 .rw[CO c g,CO d j]at h;have:=aFJ _ _ h;omega
 .rw[CO c g,CP d aC]at h
  grind
 .rw[CP c aC,CO d j]at h
  grind
 .rw[CP c aC,CP d aC]at h;have:=aFJ _ _ (List.cons.inj h).2;omega
theorem PA{α:Type}{x:α}:∀{a b r r':List α},x∉a->x∉b->a++x::r=b++x::r'->a=b/\r=r'
 |[],[],r,r',_,_,h=>⟨rfl,(List.cons.inj h).2⟩
 |[],c::b,r,r',_,e,h=>by
  grind
 |c::a,[],r,r',f,_,h=>by
  grind
 |c::a,d::b,r,r',f,e,h=>by
  have g:=List.cons.inj h;obtain⟨j,n⟩:=PA (λm=>f (by simp[m])) (λm=>e (by simp[m])) g.2
  grind
theorem G0{m n r r'}(d:uR m)(e:uR n)(h:mC m++58::r=mC n++58::r'):m=n/\r=r':=by
 obtain⟨f,g⟩:=PA (λc=>Sw d c rfl) (λc=>Sw e c rfl) h;exact⟨Sx d e f,g⟩
theorem aoX{u v r r'}(c:YN u)(d:YN v)(h:GD u++r=GD v++r'):u=v/\r=r':=by
 simp only[GD,append_assoc,cons_append]at h;obtain⟨e,h⟩:=G0 c.kind d.kind h;obtain⟨f,h⟩:=G0 c.int d.int h;have sz:∀w:VV,YN w->uR (w.text.size:Int):=λw g=>⟨aC,by have:=g.text;omega⟩
 obtain⟨A,h⟩:=G0 (sz u c) (sz v d) h
 have j:u.text.data.toList.length=v.text.data.toList.length:=by
  have:u.text.size=v.text.size:=by omega
  rw[Array.length_toList,Array.length_toList];exact this
 obtain⟨n,y⟩:=append_inj h j;refine⟨?_,y⟩;obtain⟨k,i,t⟩:=u;obtain⟨D,E,z⟩:=v;simp only[VV.mk.injEq]at e f⊢
 refine⟨e,f,?_⟩;cases t;cases z;simp only[ByteArray.mk.injEq];exact Array.toList_inj.1 n
theorem WO:∀{a b:ca},a.length=b.length->(∀v∈a,YN v)->(∀v∈b,YN v)->EM a=EM b->a=b
 |[],[],_,_,_,_=>rfl
 |x::a,y::b,c,e,f,h=>by
  simp only[EM,flatMap_cons]at h;obtain⟨g,j⟩:=aoX (e x (mem_cons_self ..)) (f y (mem_cons_self ..)) h;rw[g,WO bg (λv d=>e v (mem_cons_of_mem _ d)) (λv d=>f v (mem_cons_of_mem _ d)) j]
 |[],_::_,c,_,_,_=>by simp at c
 |_::_,[],c,_,_,_=>by simp at c
theorem Qs{a b}(c:a.length=b.length)(d:∀v∈a,YN v)(e:∀v∈b,YN v):fD a=fD b↔a=b:=by
 constructor
 .intro h;simp only[fD,ByteArray.mk.injEq]at h;exact WO c d e bg
 grind
structure asQ(κ:ca->ByteArray):Prop where
 inj:∀{a b:ca},a.length=b.length->(∀v∈a,YN v)->(∀v∈b,YN v)->(κ a=κ b↔a=b)
theorem Qt:asQ fD:=⟨Qs⟩
structure Step where
 op:Int
 table:Int
 wher:Pred
 columns:bn
 on:bu
 group:bn
 order:bz
 limit:Int
 left:Int
 right:Int
abbrev cg:=List Step
variable{ts:cg}{t:Step}
def Step.query(t:Step):Query:=.mk t.op t.table t.wher t.columns t.on t.group t.order t.limit []
structure uO(h:PH)(t:Step)(v:wQ):Prop where
 op_:v.op=t.op
 table_:v.table=t.table
 where_:fH h t.wher v.where_
 columns_:Ints h v.columns t.columns
 on_:jC h v.on t.on
 group_:Ints h v.group t.group
 order_:jB h v.order t.order
 limit_:v.limit=t.limit
 left_:v.left=t.left
 right_:v.right=t.right
theorem uO.mono{v}(x:uO h t v)(le:PH.le h h'):uO h' t v:=⟨x.op_,x.table_,x.where_.mono le,x.columns_.mono le,x.on_.mono le,x.group_.mono le,x.order_.mono le,x.limit_,x.left_,x.right_⟩
def aT(v:wQ):CV:=.val (.agg ⟨v.enc⟩)
def jH(l:bn):=l.flatMap λn=>mC n++[32]
def Ad(v:VV):=jH [v.kind]++(mC v.int++[32])++jH [(v.text.size:Int)]++v.text.data.toList
def Dp(o:OV):=jH [o.kind,o.index]++Ad o.value
mutual
def sD:Pred->ck
 |.mk op c l r args=>jH [op,c]++Dp l++Dp r++jH [(args.length:Int)]++pL args
def pL:cn->ck
 |[]=>[]
 |p::ps=>sD p++pL ps
end
theorem iD:∀l:bn,(jH l).length<=22*l.length
 |[]=>by simp[jH]
 |n::l=>by
  have:=iD l;have c:=oO n;unfold jH at this⊢
  grind
def Uo:Vc.Spec:=λc m h K=>∃xs s l,c=[.lst 5 1 xs,cS s]/\Ints h s l/\eA m/\xs.length+22*l.length+100<=140737488355328/\K (.lst 5 1 (xs++aX (jH l))) m h
def cDX:Vc.Spec:=λc m h K=>∃xs v,c=[.lst 5 1 xs,aV v]/\eA m/\xs.length+v.text.size+500<=140737488355328/\K (.lst 5 1 (xs++aX (Ad v))) m h
def cDQ:Vc.Spec:=λc m h K=>∃xs o,c=[.lst 5 1 xs,aO o]/\eA m/\xs.length+o.value.text.size+1000<=140737488355328/\K (.lst 5 1 (xs++aX (Dp o))) m h
def cCZ(N:Nat):Vc.Spec:=λc m h K=>∃xs v p,c=[.lst 5 1 xs,aP v]/\fH h p v/\SizeOf.sizeOf p<N/\eA m/\xs.length+(sD p).length+5000<=140737488355328/\K (.lst 5 1 (xs++aX (sD p))) m h
def cCJ:Vc.Spec:=λc m h K=>∃xs v p,c=[.lst 5 1 xs,aP v]/\fH h p v/\eA m/\xs.length+(sD p).length+5000<=140737488355328/\K (.lst 5 1 (xs++aX (sD p))) m h
noncomputable def bDX s m h:=
 dE [(195,Of)] [(2,{A:=Nat×List bt,st:=λ⟨i,xs⟩=>bU 21 23 [(0,.at (.lst 21)),(7,sv s),(8,iv s.len),(9,iv i)] [(21,.lst 5 1 xs)] m h})] [] [(195,[0])] true
abbrev Kk(a:List bt)(b:Int)(c:List bt)(d:MH)(e:Nat)(g:Int->Prop):=∃(x:Int),aA (yY a b=yY c x) (eA d) (aA (nT (jW c 40)) (i7 (jW (sN c x) 1) e) (dO (sN c x)/\g x))
attribute [push_cast] Kk
def Tc xs s m h K:=
  ∃(I:Nat×List bt->Prop)(d:Nat×List bt->Nat),(∃(x:Nat×List bt),aA (I x) (eL 21) (aA (aJ s) (bI s) (aA (bA x.1) (bR 5 1 xs=bR 5 1 x.2) (aA (m=m) (h=h) True))))/\∀(x:Nat×List bt),I x->aY (↑x.1:Int) (aH s) (bJ (λb o=>aI (aW s.a b o) (0<=(↑x.1:Int)) ((↑x.1:Int)<aH s) (∃(y:Int),G4 m h b o x.1 1 (bB y) (λe=>Kk x.2 y e m 1 (λi=>∃(c:Nat×List bt),aA (I c) (d c<d x) (aA (eL 21) (aJ s) (aA (bI s) (gK (bE x.1 1)=bO c.1) (aA (bR 5 1 (dL (sN e i) (xE 32))=bR 5 1 c.2) (m=m) (bT h h))))))))) (vF K x.2 m h)
abbrev wM(a:Nat->Nat->Option Value)(b:Nat)(c:List bt)(d:Sl->PH->(List bt)->Prop):=bY a b c (λx e=>∃(f:List bt),d x e f)
abbrev mN a b:=tO (CV.lst 5 1 a) (mQ b)
abbrev Bi(a:List bt)(b:bn):=nT (jW a (22*b.length)+100)
abbrev FR(a:List bt)(b:Sl)(c:List bt)(d:Sl)(e:PH)(g:bn)(i:MH)(j:(List bt)->Prop):=aA (mN a b=mN c d) (Ints e d g) (aA (eA i) (Bi c g) (∃(x:List bt),j x))
attribute [push_cast] wM mN Bi FR
def MU(xs:List bt)(v:VV)(m:MH)(h:PH)(K:bo):=
  wM h 1 (lT (bB v.kind)) (λs e x=>rT (λn l=>FR xs s x n e l m (λf=>Kk (mL x (jH l)) v.int f m 1 (λi=>wM e 1 (lT (bB (↑v.text.size:Int))) (λu g c=>rT (λj d=>aA (mN (dL (sN f i) (xE 32)) u=mN c j) (Ints g j d) (aA (eA m) (Bi c d) (aA (sL (mL c (jH d)) (fE v.text) 1) (sM (mL c (jH d)) (fE v.text)) (vF K (mL c (jH d)++fE v.text) m g)))))))))
theorem dT a b:aX (a++b)=aX a++aX b:=by simp[aX]
theorem Ints.ofRow{s}(r:dC h s 1 (l.map eI))(c:l.length<=17592186044416):Ints h s l:=⟨r,c⟩
theorem Sn{x}(hx:l[i]? =some x):jH (l.take (i+1))=jH (l.take i)++mC x++[32]:=by
 rw[take_add_one,hx];simp[jH]
theorem ZO:bm 209 Uo:=by
 refine iQ func209 ?_;rintro n m h K ⟨xs,s,l,rfl,f,u,z,A⟩;refine⟨bDX s m h,rfl,aE Dc aG,Tc xs s m h K,ax,?_⟩;dsimp only[Tc,push_cast];have d:=f.slen;refine⟨λ⟨i,g⟩=>i<=l.length/\g=xs++aX (jH (l.take i)),λ⟨i,_⟩=>l.length-i,⟨(0,xs),⟨aC,by simp[jH,aX]⟩,MT⟩,?_⟩;rintro⟨i,g⟩ ⟨D,rfl⟩;dsimp only;refine aF (λc=>?_) (λy=>?_)
 .obtain⟨x,j⟩:=eV d c;obtain⟨b,o,e,r⟩:=f.at' j;have E:=iD (l.take i);have F:=oO x;have G:(l.take i).length=i:=bf
  refine⟨b,o,e,aC,c,x,.imm r,_,x,rfl,u,?_,?_,?_,(i+1,xs++aX (jH (l.take (i+1)))),⟨aC,rfl⟩,aC,?_⟩
  .rw[length_append,bC];omega
  .rw[length_append,length_append,bC,bC];omega
  .rw[length_append,length_append,bC,bC];omega
  .rw[Sn j,dT,dT, <-append_assoc, <-append_assoc];exact MT
 grind
theorem aeQ:bm 162 cDX:=by
 refine EN func162 ?_;rintro g m h K ⟨xs,v,rfl,c,D,d⟩;refine⟨dE [(209,Uo),(195,Of)] [] [] [(209,[0]),(195,[0])] true,rfl,aE ZO (aE Dc aG),MU xs v m h (lR h K),ax,?_⟩;show MU xs v m h (lR h K);dsimp only[MU,push_cast];intro j E e n;have u:=iD [v.kind];have F:=oO v.int;have y:=iD [(v.text.size:Int)];have G:(fE v.text).length=v.text.size:=by simp[fE]
 simp only[length_cons,length_nil]at u y;refine⟨_,j,[v.kind],rfl,.ofRow n ay,c,bf,_,v.int,rfl,c,?_,?_,?_,λz H f A=>⟨_,z,[(v.text.size:Int)],rfl,.ofRow A ay,c,?_,?_,?_,?_⟩⟩
 .rw[length_append,bC];omega
 .simp only[length_append,bC];omega
 .simp only[length_append,bC];omega
 .simp only[length_append,bC,length_cons,length_nil];omega
 .simp only[length_append,bC,length_cons,length_nil];omega
 .simp only[length_append,bC,length_cons,length_nil];omega
 .refine .out (Sub.refl m) (e.trans f) ?_;rw[Ad,dT,dT,dT,dT]at d;simp only[append_assoc]at d⊢
  exact d
theorem bhJ v:v.text.size<=(Ad v).length:=by
 have:v.text.data.toList.length=v.text.size:=ay
 simp only[Ad,length_append];omega
theorem WB o:o.value.text.size<=(Dp o).length:=by
 have:=bhJ o.value;simp only[Dp,length_append];omega
theorem NI{l:cn}{x}(hx:l[i]? =some x):pL (l.take (i+1))=pL (l.take i)++sD x:=by
 have key:∀(a:cn),pL (a++[x])=pL a++sD x:=by
  intro a
  induction a with
  |nil=>simp[pL]
  |cons y a c=>simp[pL,c]
 rw[take_add_one,hx];exact key _
theorem Wt{l}:∀(i:Nat),(pL (l.take i)).length<=(pL l).length:=by
 induction l with
 |nil=>intro i;simp
 |cons y a c=>
  intro i;cases i with
  |zero=>simp[pL]
  |succ i=>have:=c i;simp only[take_succ_cons,pL,length_append];omega
def wE(l:bu):=l.flatMap λp=>jH [p.1,p.2]
def wC(l:bz):=l.flatMap λp=>jH [p.1,if p.2 then 1 else 0]
structure Oe(t:Step):Prop where
 wher:(sD t.wher).length<=1000000000
 columns:t.columns.length<=1000000000
 on:t.on.length<=1000000000
 group:t.group.length<=1000000000
 order:t.order.length<=1000000000
theorem Wy{l:bu}{x}(hx:l[i]? =some x):wE (l.take (i+1))=wE (l.take i)++jH [x.1,x.2]:=by
 rw[take_add_one,hx];simp[wE]
theorem NC{l:bz}{x}(hx:l[i]? =some x):wC (l.take (i+1))=wC (l.take i)++jH [x.1,if x.2 then 1 else 0]:=by
 rw[take_add_one,hx];simp[wC]
theorem Jh:∀l:bu,(wE l).length<=44*l.length
 |[]=>by simp[wE]
 |n::l=>by
  have:=Jh l;have c:=iD [n.1,n.2];unfold wE at this⊢
  grind
theorem PC:∀l:bz,(wC l).length<=44*l.length
 |[]=>by simp[wC]
 |n::l=>by
  have:=PC l;have c:=iD [n.1,if n.2 then 1 else 0];unfold wC at this⊢
  grind
def b0J(N:Nat):Vc.Spec:=λc m h K=>∃v p,c=[aP v]/\fH h p v/\SizeOf.sizeOf p<N/\∀d h',PH.le h h'->fH h' p d->K (aP d) m h'
def atX:Vc.Spec:=λc m h K=>∃v p,c=[aP v]/\fH h p v/\∀d h',PH.le h h'->fH h' p d->K (aP d) m h'
def Po:Vc.Spec:=λc m h K=>∃s l,c=[cS s]/\Ints h s l/\∀d h',PH.le h h'->Ints h' d l->K (cS d) m h'
def VN:Vc.Spec:=λc m h K=>∃s l,c=[cS s]/\jC h s l/\∀d h',PH.le h h'->jC h' d l->K (cS d) m h'
def aNZ:Vc.Spec:=λc m h K=>∃s l,c=[cS s]/\jB h s l/\∀d h',PH.le h h'->jB h' d l->K (cS d) m h'
def a2Q(n c:Nat)(m:MH)(h:PH)(K:bo):=
  K EZ m h
theorem ccZ n c m h K:a2Q n c m h K=(wW (dE [] [] [] [] false) Tryz.f78 (dX Tryz.f78) (entry Tryz.f78.ntmps [.val (.slice none n c)] m h) K):=ax
def a1J a n c m h K:=
  ∃(y:List bt),aA (fN 1 y) (dC h (Sl.mk (Option.some a) n c) 1 y) (aA (i7 (0+y.length) 8) (nT (0+y.length)) (tZ h (Gb y) K m))
theorem ccX a n c m h K:a1J a n c m h K=(wW (dE [] [] [] [] false) Tryz.f78 (dX Tryz.f78) (entry Tryz.f78.ntmps [.val (.slice (some a) n c)] m h) K):=ax
def a1Z(n c:Nat)(m:MH)(h:PH)(K:bo):=
  K EZ m h
theorem ccQ n c m h K:a1Z n c m h K=(wW (dE [] [] [] [] false) Tryz.f79 (dX Tryz.f79) (entry Tryz.f79.ntmps [.val (.slice none n c)] m h) K):=ax
def a1X(a:Addr)(n c:Nat)(m:MH)(h:PH)(K:bo):=
  ∃(y:List bt),aA (fN 2 y) (dC h (Sl.mk (Option.some a) n c) 2 y) (aA (i7 (0+y.length) 16) (nT (0+y.length)) (bY h 2 (Gb y) (λs d=>K (mQ s) m d)))
theorem cbJ a n c m h K:a1X a n c m h K=(wW (dE [] [] [] [] false) Tryz.f79 (dX Tryz.f79) (entry Tryz.f79.ntmps [.val (.slice (some a) n c)] m h) K):=ax
def a0J(n c:Nat)(m:MH)(h:PH)(K:bo):=
  K EZ m h
theorem cbZ n c m h K:a0J n c m h K=(wW (dE [] [] [] [] false) Tryz.f80 (dX Tryz.f80) (entry Tryz.f80.ntmps [.val (.slice none n c)] m h) K):=ax
def a0Z(a:Addr)(n c:Nat)(m:MH)(h:PH)(K:bo):=
  ∃(y:List bt),aA (fN 2 y) (dC h (Sl.mk (Option.some a) n c) 2 y) (aA (i7 (0+y.length) 16) (nT (0+y.length)) (bY h 2 (Gb y) (λs d=>K (mQ s) m d)))
theorem cbX a n c m h K:a0Z a n c m h K=(wW (dE [] [] [] [] false) Tryz.f80 (dX Tryz.f80) (entry Tryz.f80.ntmps [.val (.slice (some a) n c)] m h) K):=ax
theorem Mt:bm 78 Po:=by
 refine fK (fn:=Tryz.f78) (c:=dX Tryz.f78) func78 rfl az ?_;rintro y m h K ⟨⟨a,n,c⟩,l,rfl,g,u⟩;refine⟨dE [] [] [] [] false,rfl,aG,?_⟩;have d:=g.len;cases a with
 |none=>
  have e:=PM g.row;subst e;show wW _ _ _ (entry Tryz.f78.ntmps [.val (.slice none n c)] m h) K;rw[<-ccZ n c m h K];exact u ⟨none,0,0⟩ h (.refl _) ⟨.nil _ _,ay⟩
 |some a=>
  show wW _ _ _ (entry Tryz.f78.ntmps [.val (.slice (some a) n c)] m h) K;rw[<-ccX a n c m h K];exact⟨_,Bs l,g.row,bf,bf,λz h' j f=>u z h' j ⟨f,d⟩⟩
theorem SI:bm 79 VN:=by
 refine fK (fn:=Tryz.f79) (c:=dX Tryz.f79) func79 rfl az ?_;rintro y m h K ⟨⟨a,n,c⟩,l,rfl,g,u⟩;refine⟨dE [] [] [] [] false,rfl,aG,?_⟩;have d:=g.len;cases a with
 |none=>
  have e:=PM g.row;subst e;show wW _ _ _ (entry Tryz.f79.ntmps [.val (.slice none n c)] m h) K;rw[<-ccQ n c m h K];exact u ⟨none,0,0⟩ h (.refl _) ⟨.nil _ _,ay⟩
 |some a=>
  show wW _ _ _ (entry Tryz.f79.ntmps [.val (.slice (some a) n c)] m h) K;rw[<-cbJ a n c m h K];exact⟨_,UJ l,g.row,bf,bf,λz h' j f=>u z h' j ⟨f,d⟩⟩
theorem a1Q:bm 80 aNZ:=by
 refine fK (fn:=Tryz.f80) (c:=dX Tryz.f80) func80 rfl az ?_;rintro y m h K ⟨⟨a,n,c⟩,l,rfl,g,u⟩;refine⟨dE [] [] [] [] false,rfl,aG,?_⟩;have d:=g.len;cases a with
 |none=>
  have e:=PM g.row;subst e;show wW _ _ _ (entry Tryz.f80.ntmps [.val (.slice none n c)] m h) K;rw[<-cbZ n c m h K];exact u ⟨none,0,0⟩ h (.refl _) ⟨.nil _ _,ay⟩
 |some a=>
  show wW _ _ _ (entry Tryz.f80.ntmps [.val (.slice (some a) n c)] m h) K;rw[<-cbX a n c m h K];exact⟨_,UI l,g.row,bf,bf,λz h' j f=>u z h' j ⟨f,d⟩⟩
def stepB(t:Step):=jH [t.op,t.table,t.limit,t.left,t.right]++sD t.wher++jH [(t.columns.length:Int)]++jH t.columns++jH [(t.on.length:Int)]++wE t.on++jH [(t.group.length:Int)]++jH t.group++jH [(t.order.length:Int)]++wC t.order
def cCX:Vc.Spec:=λc m h K=>∃xs v t,c=[.lst 5 1 xs,aT v]/\uO h t v/\Oe t/\eA m/\xs.length<=1000/\K (.lst 5 1 (xs++aX (stepB t))) m h
noncomputable def bIZ s m h:=
 dE [(195,Of)] [(2,{A:=Nat×List bt,st:=λ⟨i,xs⟩=>bU 21 23 [(0,.at (.lst 21)),(7,sv s),(8,iv s.len),(9,iv i)] [(21,.lst 5 1 xs)] m h})] [] [(195,[0])] true
noncomputable def bIX(N:Nat)(v:PV)(m:MH):=
 dE [(142,Uo),(196,cDQ),(143,cCZ N)] [(6,{A:=Nat×List bt×PH,st:=λ⟨i,xs,h⟩=>bU 40 42 [(0,.at (.lst 40)),(29,sv v.args),(30,iv v.args.len),(31,iv i)] [(40,.lst 5 1 xs)] m h})] [] [(142,[0]),(196,[0]),(143,[0])] true
noncomputable def ccJ(N:Nat)(v:PV)(m:MH):=
 dE [(77,b0J N)] [(4,{A:=Nat×dj×PH,st:=λ⟨i,c,h⟩=>bU 24 25 [(1,.at (.ptr 1 0)),(2,.at (.ptr 2 0)),(9,sv v.args),(10,iv v.args.len),(11,iv i)] [(1,.cells 35 ((v.enc.take 12).map .val++[.lst 20])),(2,.cells 35 (jG.enc.map .val)),(20,.lst 35 13 (c.map PV.enc))] m h})] [] [] false
noncomputable def cdQ(v:wQ)(m:MH):=
 dE [(142,Uo),(143,cCJ)] [(7,{A:=Nat×List bt×PH,st:=λ⟨i,xs,h⟩=>bU 91 93 [(0,.at (.lst 91)),(3,.at (.ptr 3 0)),(44,sv v.on),(45,iv v.on.len),(46,iv i)] [(3,.cells 101 (v.enc.map .val)),(91,.lst 5 1 xs)] m h}),
  (15,{A:=Nat×List bt×PH,st:=λ⟨i,xs,h⟩=>bU 91 93 [(0,.at (.lst 91)),(75,sv v.order),(76,iv v.order.len),(77,iv i)] [(91,.lst 5 1 xs)] m h})] [] [(142,[0]),(143,[0])] true
def TG xs s m h K:=
  ∃(I:Nat×List bt->Prop)(d:Nat×List bt->Nat),(∃(x:Nat×List bt),aA (I x) (eL 21) (aA (aJ s) (bI s) (aA (bA x.1) (bR 5 1 xs=bR 5 1 x.2) (aA (m=m) (h=h) True))))/\∀(x:Nat×List bt),I x->aY (↑x.1:Int) (aH s) (bJ (λb o=>aI (aW s.a b o) (0<=(↑x.1:Int)) ((↑x.1:Int)<aH s) (∃(y:Int),G4 m h b o x.1 1 (bB y) (λe=>Kk x.2 y e m 1 (λi=>∃(c:Nat×List bt),aA (I c) (d c<d x) (aA (eL 21) (aJ s) (aA (bI s) (gK (bE x.1 1)=bO c.1) (aA (bR 5 1 (dL (sN e i) (xE 32))=bR 5 1 c.2) (m=m) (bT h h))))))))) (vF K x.2 m h)
abbrev OM(a:cr)(b:List bt)(c:Sl)(d:PH)(e:bn)(g:MH)(i:(Nat×List bt×PH->Prop)->(Nat×List bt×PH)->Prop)(j:(Nat×List bt×PH->Prop)->(Nat×List bt×PH->Nat)->(Nat×List bt×PH)->Prop):=aA (a=mN b c) (Ints d c e) (aA (eA g) (Bi b e) (∃(x:Nat×List bt×PH->Prop)(n:Nat×List bt×PH->Nat),(∃(f:Nat×List bt×PH),i x f)/\∀(f:Nat×List bt×PH),j x n f))
abbrev Fv(a:List bt)(b:bn)(c:Nat×List bt×PH):=bR 5 1 (mL a (jH b))=bR 5 1 c.2.1
abbrev oC(a:Nat×List bt×PH):=a.2.2
attribute [push_cast] OM Fv oC
def MX N xs v m h K:=
  wM h 1 (lY (bB v.op) (bB v.cmp)) (λs n x=>rT (λG l=>FR xs s x G n l m (λe=>∃(o:OV),aI (p7 (mL x (jH l)) (kQ v.left.enc)=p7 e (kQ o.enc)) (eA m) (nT (jW e (Bz o).size+1000)) (∃(f:List bt)(g:OV),aI (p7 (mL e (Dp o)) (kQ (zR v))=p7 f (kQ g.enc)) (eA m) (nT (jW f (Bz g).size+1000)) (wM n 1 (lT (bB (uI v))) (λH u z=>rT (λJ A=>OM (mN (mL f (Dp g)) H) z J u A m (λI c=>aA (I c) (eL 40) (aA (aJ v.args) (bI v.args) (aA (bA c.1) (Fv z A c) (aA (m=m) (u=oC c) True)))) (λI D c=>I c->aY (↑c.1:Int) (aH v.args) (bJ (λb E=>aI (aW v.args.a b E) (0<=(↑c.1:Int)) ((↑c.1:Int)<aH v.args) (∃(y:PV),G4 m
 (oC c) b E c.1 13 y.enc (λj=>sP (λF p=>aA (p7 c.2.1 (gP y)=p7 j (gP F)) (fH (oC c) p F) (aA (sJ p N) (eA m) (nT (jW j (sD p).length+5000)/\∃(d:Nat×List bt×PH),aA (I d) (D d<D c) (aA (eL 40) (aJ v.args) (aA (bI v.args) (gK (bE c.1 1)=bO d.1) (aA (bR 5 1 (mL j (sD p))=bR 5 1 d.2.1) (m=m) (bT (oC c) (oC d)))))))))))) (vF K c.2.1 m (oC c))))))))))
abbrev FQ(a:Nat×dj×PH):=List.map PV.enc a.2.1
attribute [push_cast] FQ
def Xi(N:Nat)(v:PV)(m:MH)(h:PH)(K:bo):=
  ∃(I:Nat×dj×PH->Prop)(e:Nat×dj×PH->Nat),(∃(x:Nat×dj×PH),aA (I x) eM (aA (eP 2) (aJ v.args) (aA (bI v.args) (bA x.1) (aA (eQ (oQ 35 (gA (j9 v.op) (j9 v.cmp) (gA (j9 v.left.kind) (Bj v.left) (gA (j9 (pY v.left)) (j9 (Gz v.left)) (gA (Nf (Bz v.left)) (j9 v.right.kind) (gA (Bj v.right) (j9 (pY v.right)) (gA (j9 (Gz v.right)) (Nf (Bz v.right)) (wA (At.lst 20)))))))))) vJ (cZ (uW 35 13 (FQ x)) m m h x.2.2)))))/\∀(x:Nat×dj×PH),I x->aY (↑x.1:Int) (aH v.args) (bJ (λb o=>aI (aW v.args.a b o) (0<=(↑x.1:Int)) ((↑x.1:Int)<aH v.args) (∃(y:PV),aK m x.2.2 b (o+bM x.1 13) y.enc/\sP (λf p=>aI (eO (gP y) (gP f)) (fH x.2.2 p f) (sJ p N) (∀(g:PV)(c:PH),bQ x.2.2 c (fH
 c p g) (aA (i7 (jW (FQ x) 1) 136) (dO (FQ x)) (∃(d:Nat×dj×PH),aA (I d) (e d<e x) (aA eM iU (aA (aJ v.args) (bI v.args) (aA (gK (bE x.1 1)=bO d.1) (eQ (oQ 35 (gA (j9 v.op) (j9 v.cmp) (gA (j9 v.left.kind) (Bj v.left) (gA (j9 (pY v.left)) (j9 (Gz v.left)) (gA (Nf (Bz v.left)) (j9 v.right.kind) (gA (Bj v.right) (j9 (pY v.right)) (gA (j9 (Gz v.right)) (Nf (Bz v.right)) (wA (At.lst 20)))))))))) (aA vJ (bR 35 13 (dL (FQ x) g.enc)=bR 35 13 (FQ d)) (aA (m=m) (c=d.2.2) True)))))))))))) (bY x.2.2 13 (FQ x) (λs c=>K (kQ (bF (fV v.op) (fV v.cmp) (bF (nR v.left) (yQ v.left) (bF (fV (pY v.left)) (tT v.left) (bF (BX v.left) (nR v.right) (bF (yQ v.right) (fV (pY v.right)) (bF
 (tT v.right) (BX v.right) (aR s)))))))) m c))
def MP xs o m h K:=
  wM h 1 (oN (nR o)::lY (oN (yQ o)) (bB (pY o))) (λs e x=>rT (λn l=>FR xs s x n e l m (λf=>Kk (mL x (jH l)) (Gz o) f m 1 (λi=>wM e 1 (lT (bB (↑(Bz o).size:Int))) (λu g c=>rT (λj d=>aA (mN (dL (sN f i) (xE 32)) u=mN c j) (Ints g j d) (aA (eA m) (Bi c d) (aA (sL (mL c (jH d)) (fE (Bz o)) 1) (sM (mL c (jH d)) (fE (Bz o))) (vF K (mL c (jH d)++fE (Bz o)) m g)))))))))
abbrev nL(a:wQ):=eQ (pZ 101 a.enc)
attribute [push_cast] nL
def QJ xs v m h K:=
  wM h 1 (bB v.op::bB v.table::bB v.limit::lY (bB v.left) (bB v.right)) (λs G x=>rT (λs1 l=>FR xs s x s1 G l m (λH=>sP (λR p=>aA (p7 (mL x (jH l)) (gP v.where_)=p7 H (gP R)) (fH G p R) (aA (eA m) (nT (jW H (sD p).length+5000)) (wM G 1 (lT (bB (aH v.columns))) (λs2 J S=>rT (λs3 T=>FR (mL H (sD p)) s2 S s3 J T m (λL=>rT (λU M=>aA (mN (mL S (jH T)) v.columns=mN L U) (Ints J U M) (aA (eA m) (Bi L M) (wM J 1 (lT (bB (aH v.on))) (λs5 V W=>rT (λs6 X=>OM (mN (mL L (jH M)) s5) W s6 V X m (λI d=>aA (I d) (eL 91) (aA (eP 3) (aJ v.on) (aA (bI v.on) (bA d.1) (aA (nL v) (Fv W X d) (dY m m V
 (oC d)))))) (λI Y d=>I d->aY (↑d.1:Int) (aH v.on) (bJ (λb o=>aI (aW v.on.a b o) (0<=(↑d.1:Int)) ((↑d.1:Int)<aH v.on) (∃(y:Int×Int),aA (aK m (oC d) b (o+bM d.1 2) (vO y)) (cH 0) (aA ((0:Int)<2) (cH 1) ((1:Int)<2/\wM (oC d) 1 (lY (bB y.1) (bB y.2)) (λO n u=>rT (λE z=>aA (mN d.2.1 O=mN u E) (Ints n E z) (aA (eA m) (Bi u z) (∃(f:Nat×List bt×PH),aA (I f) (Y f<Y d) (aA (eL 91) jR (aA (aJ v.on) (bI v.on) (aA (gK (bE d.1 1)=bO f.1) (nL v) (cZ (Fv u z f) m m n (oC f)))))))))))))) (wM (oC d) 1 (lT (bB (aH v.group))) (λO n u=>rT (λE z=>FR d.2.1 O u E n z m (λf=>rT (λZ P=>aA (mN (mL
 u (jH z)) v.group=mN f Z) (Ints n Z P) (aA (eA m) (Bi f P) (wM n 1 (lT (bB (aH v.order))) (λa h5 x8=>rT (λa1 l6=>OM (mN (mL f (jH P)) a) x8 a1 h5 l6 m (λI1 c=>aA (I1 c) (eL 91) (aA (aJ v.order) (bI v.order) (aA (bA c.1) (Fv x8 l6 c) (aA (m=m) (h5=oC c) True)))) (λI1 F c=>I1 c->aY (↑c.1:Int) (aH v.order) (bJ (λb o=>aI (aW v.order.a b o) (0<=(↑c.1:Int)) ((↑c.1:Int)<aH v.order) (∃(y:Int×Bool),aK m (oC c) b (o+bM c.1 2) (A4 y)/\branch y.2 (wM (oC c) 1 (lY (bB y.1) (bB 1)) (λQ A g=>rT (λD j=>aA (mN c.2.1 Q=mN g D) (Ints A D j) (aA (eA m) (Bi g j) (∃(e:Nat×List bt×PH),aA (I1 e) (F e<F c) (aA (eL 91) (aJ
 v.order) (aA (bI v.order) (gK (bE c.1 1)=bO e.1) (aA (Fv g j e) (m=m) (bT A (oC e)))))))))) (wM (oC c) 1 (lY (bB y.1) (oN cL)) (λQ A g=>rT (λD j=>aA (mN c.2.1 Q=mN g D) (Ints A D j) (aA (eA m) (Bi g j) (∃(e:Nat×List bt×PH),aA (I1 e) (F e<F c) (aA (eL 91) (aJ v.order) (aA (bI v.order) (gK (bE c.1 1)=bO e.1) (aA (Fv g j e) (m=m) (bT A (oC e))))))))))))) (vF K c.2.1 m (oC c)))))))))))))))))))))))))))
theorem Jw:bm 142 Uo:=by
 refine iQ func142 ?_;rintro n m h K ⟨xs,s,l,rfl,f,u,z,A⟩;refine⟨bIZ s m h,rfl,aE Dc aG,TG xs s m h K,ax,?_⟩;dsimp only[TG,push_cast];have d:=f.slen;refine⟨λ⟨i,g⟩=>i<=l.length/\g=xs++aX (jH (l.take i)),λ⟨i,_⟩=>l.length-i,⟨(0,xs),⟨aC,by simp[jH,aX]⟩,MT⟩,?_⟩;rintro⟨i,g⟩ ⟨D,rfl⟩;dsimp only;refine aF (λc=>?_) (λy=>?_)
 .obtain⟨x,j⟩:=eV d c;obtain⟨b,o,e,r⟩:=f.at' j;have E:=iD (l.take i);have F:=oO x;have G:(l.take i).length=i:=bf
  refine⟨b,o,e,aC,c,x,.imm r,_,x,rfl,u,?_,?_,?_,(i+1,xs++aX (jH (l.take (i+1)))),⟨aC,rfl⟩,aC,?_⟩
  .rw[length_append,bC];omega
  .rw[length_append,length_append,bC,bC];omega
  .rw[length_append,length_append,bC,bC];omega
  .rw[Sn j,dT,dT, <-append_assoc, <-append_assoc];exact MT
 grind
theorem aRJ o:Dp o=jH [o.kind,o.index,o.value.kind]++(mC o.value.int++[32])++jH [(o.value.text.size:Int)]++o.value.text.data.toList:=by
 simp[Dp,Ad,jH]
theorem Z1:bm 196 cDQ:=by
 refine EN func196 ?_;rintro g m h K ⟨xs,o,rfl,c,D,d⟩;refine⟨dE [(142,Uo),(195,Of)] [] [] [(142,[0]),(195,[0])] true,rfl,aE Jw (aE Dc aG),MP xs o m h (lR h K),ax,?_⟩;show MP xs o m h (lR h K);dsimp only[MP,push_cast];intro j E e n;have u:=iD [o.kind,o.index,o.value.kind];have F:=oO o.value.int;have y:=iD [(o.value.text.size:Int)];have G:(fE o.value.text).length=o.value.text.size:=by simp[fE]
 simp only[length_cons,length_nil]at u y;refine⟨_,j,[o.kind,o.index,o.value.kind],rfl,.ofRow n ay,c,bf,_,o.value.int,rfl,c,?_,?_,?_,λz H f A=>⟨_,z,[(o.value.text.size:Int)],rfl,.ofRow A ay,c,?_,?_,?_,?_⟩⟩
 .rw[length_append,bC];omega
 .simp only[length_append,bC];omega
 .simp only[length_append,bC];omega
 .simp only[length_append,bC,length_cons,length_nil];omega
 .simp only[length_append,bC,length_cons,length_nil];omega
 .simp only[length_append,bC,length_cons,length_nil];omega
 .refine .out (Sub.refl m) (e.trans f) ?_;rw[aRJ,dT,dT,dT,dT]at d;simp only[append_assoc]at d⊢
  exact d
theorem X0:∀N,bm 143 (cCZ N)
 |0=>by
  refine SC (fn:=Tryz.f143) (c:=dX Tryz.f143) func143 rfl az ?_;rintro n m h K ⟨xs,v,p,rfl,_,M,_,_,_⟩;omega
 |N+1=>by
  refine EN func143 ?_;rintro n m h K ⟨xs,v,p,rfl,O,M,j,P,J⟩;refine⟨bIX N v m,rfl,aE Jw (aE Z1 (aE (X0 N) aG)),MX N xs v m h (lR h K),ax,?_⟩;show MX N xs v m h (lR h K);dsimp only[MX,push_cast];have f:=@Bq p;obtain⟨op,Q,l,r,d⟩:=p;obtain⟨rfl,rfl,rfl,rfl,y⟩:=O.parts;have z:=y.slen;have A:=y.len;simp only[Pred.args]at f;have b1:=WB v.left;have b2:=WB v.right;have R:=iD [v.op,v.cmp];have S:=iD [(d.length:Int)];simp only[length_cons,length_nil]at R S;simp only[sD,length_append]at P;intro T h1 D U;refine⟨_,T,[v.op,v.cmp],rfl,.ofRow U ay,j,bf,_,v.left,rfl,j,?_,_,v.right,rfl,j,?_,λV W E X=>⟨_,V,[(v.args.len:Int)],rfl,.ofRow X ay,j,?_,?_⟩⟩
  .simp only[length_append,bC];omega
  .simp only[length_append,bC];omega
  .simp only[length_append,bC,length_cons,length_nil];omega
  rw[z];refine⟨λ⟨i,L,F⟩=>i<=d.length/\PH.le h F/\L=xs++aX (jH [v.op,v.cmp])++aX (Dp v.left)++aX (Dp v.right)++aX (jH [(d.length:Int)])++aX (pL (d.take i)),λ⟨i,_,_⟩=>d.length-i,⟨(0,_,W),⟨aC,D.trans E,rfl⟩,?_⟩,?_⟩
  .simp only[take_zero,pL,aX,map_nil,append_nil];exact MT
  rintro⟨i,L,F⟩ ⟨hi,g,rfl⟩;dsimp only;refine aF (λG=>?_) (λY=>?_)
  .obtain⟨q,H⟩:=eV rfl G;obtain⟨Z,o,u,e,rr,I⟩:=(y.mono g).at H;have b3:=Wt (l:=d) (i+1);rw[NI H,length_append]at b3;refine⟨Z,o,e,aC,aC,u,.imm rr,_,u,q,rfl,I,?_,j,?_,(i+1,xs++aX (jH [v.op,v.cmp])++aX (Dp v.left)++aX (Dp v.right)++aX (jH [(d.length:Int)])++aX (pL (d.take (i+1))),F),⟨aC,g,rfl⟩,aC,?_⟩
   .grind
   .simp only[length_append,bC];omega
   .rw[NI H,dT, <-append_assoc];exact MT
  .rw[take_of_length_le aC];refine .out (Sub.refl m) g ?_;simp only[sD,dT, <-append_assoc]at J;exact J
theorem ahJ:bm 143 cCJ:=mM X0 λ_ _ _ _⟨xs,v,p,e,c,d,f,g⟩=>⟨SizeOf.sizeOf p+1,xs,v,p,e,c,aC,d,f,g⟩
theorem aBZ:∀N,bm 77 (b0J N)
 |0=>by
  refine fK (fn:=Tryz.f77) (c:=dX Tryz.f77) func77 rfl az ?_;rintro E m h K ⟨v,p,rfl,_,O,_⟩;omega
 |N+1=>by
  refine iQ func77 ?_;rintro E m h K ⟨v,p,rfl,P,O,Q⟩;refine⟨ccJ N v m,rfl,aE (aBZ N) aG,Xi N v m h K,ax,?_⟩;dsimp only[Xi,push_cast];have f:=@Bq p;obtain⟨op,R,l,r,ps⟩:=p;obtain⟨rfl,rfl,rfl,rfl,F⟩:=P.parts;have S:=F.slen;have y:=F.len;simp only[Pred.args]at f;refine⟨λ⟨i,z,e⟩=>i<=ps.length/\PH.le h e/\z.length=i/\∀(j:Nat) x,(ps.take i)[j]? =some x->∃u,z[j]? =some u/\fH e x u,λ⟨i,_,_⟩=>ps.length-i,⟨(0,[],h),⟨aC,.refl _,rfl,λj x e=>by simp at e⟩,MT⟩,?_⟩;rintro⟨i,z,e⟩ ⟨hi,g,G,n⟩;dsimp only;refine aF (λA=>?_) (λT J h' d D=>Q ⟨v.op,v.cmp,v.left,v.right,J⟩ h' (g.trans d) (fH.mk (v:=⟨v.op,v.cmp,v.left,v.right,J⟩) ⟨⟨z,D,aC,λj x e=>?_⟩,y⟩))
  .obtain⟨q,L⟩:=eV S A;obtain⟨U,V,u,W,X,H⟩:=(F.mono g).at L;refine⟨U,V,W,aC,A,u,.imm X,u,q,rfl,H,?_,λY h' d Z=>⟨bf,bf,(i+1,z++[Y],h'),⟨aC,g.trans d,by simp[G],λj x e=>?_⟩,aC,?_⟩⟩
   .grind
   .rw[take_add_one,L]at e;by_cases hj:j<i
    .rw[getElem?_append_left bf]at e;obtain⟨u',M,I⟩:=n j x e;exact⟨u',bg,I.mono d⟩
    grind
   .rw[map_append];exact MT
  .rw[take_of_length_le aC]at n;obtain⟨u,M,I⟩:=n j x e;exact⟨u,M,I.mono d⟩
theorem SJ:bm 77 atX:=mM aBZ λ_ _ _ _⟨v,p,e,c,d⟩=>⟨SizeOf.sizeOf p+1,v,p,e,c,aC,d⟩
theorem a2X:bm 76 cCX:=by
 refine EN func76 ?_;rintro a' m h K ⟨xs,v,t,rfl,f,E,j,y,F⟩;refine⟨cdQ v m,rfl,aE Jw (aE ahJ aG),QJ xs v m h (lR h K),ax,?_⟩;show QJ xs v m h (lR h K);dsimp only[QJ,push_cast];have G:=f.on_.slen;have H:=f.order_.slen;have S:=f.columns_.slen;have T:=f.group_.slen;have k1:=E.wher;have k2:=E.columns;have k3:=E.on;have k4:=E.group;have k5:=E.order;have W:=iD [v.op,v.table,v.limit,v.left,v.right];have X:=iD [(v.columns.len:Int)];have n3:=iD t.columns;have Y:=iD [(v.on.len:Int)];have Z:=iD [(v.group.len:Int)];have n6:=iD t.group;have n7:=iD [(v.order.len:Int)];have n8:=Jh t.on;simp only[length_cons,length_nil]at W X Y Z n7;simp only[stepB,dT, <-append_assoc]at F;rw[<-f.op_, <-f.table_, <-f.limit_, <-f.left_, <-f.right_, <-S, <-G, <-T, <-H]at F;intro z D d u;refine⟨_,z,[v.op,v.table,v.limit,v.left,v.right],rfl,.ofRow u ay,j,by simp only[length_cons,length_nil];omega,_,v.where_,t.wher,rfl,f.where_.mono d,j,by simp only[length_append,bC];omega,λs2 h2 I r2=>⟨_,s2,[(v.columns.len:Int)],rfl,.ofRow r2 ay,j,by simp only[length_append,bC,length_cons,length_nil];omega,_,v.columns,t.columns,rfl,f.columns_.mono (d.trans I),j,by simp only[length_append,bC];omega,λs3 h3 U r3=>⟨_,s3,[(v.on.len:Int)],rfl,.ofRow r3 ay,j,by simp only[length_append,bC,length_cons,length_nil];omega,?_⟩⟩⟩;generalize hP:xs++aX (jH [v.op,v.table,v.limit,v.left,v.right])++aX (sD t.wher)++aX (jH [(v.columns.len:Int)])++aX (jH t.columns)++aX (jH [(v.on.len:Int)])=P at F⊢
 have lP:P.length<=30000000000:=by rw[<-hP];simp only[length_append,bC];omega
 have J:=(d.trans I).trans U;clear hP u r2 r3 W X n3 Y;refine⟨λ⟨i,L,y⟩=>i<=t.on.length/\PH.le h y/\L=P++aX (wE (t.on.take i)),λ⟨i,_,_⟩=>t.on.length-i,⟨(0,P,h3),⟨aC,J,by simp[wE,aX]⟩,MT⟩,?_⟩;rintro⟨i,L,y⟩ ⟨hi,c,rfl⟩;dsimp only;refine aF (λn=>?_) (λM=>?_)
 .obtain⟨x,g⟩:=eV G n;obtain⟨b,o,e,r⟩:=(f.on_.mono c).at g;have q1:=Jh (t.on.take i);have q2:(t.on.take i).length=i:=bf
  refine⟨b,o,e,aC,n,x,.imm r,aC,aC,aC,aC,λz D d u=>⟨_,z,[x.1,x.2],rfl,.ofRow u ay,j,?_,(i+1,P++aX (wE (t.on.take (i+1))),D),⟨aC,c.trans d,rfl⟩,aC,?_⟩⟩
  .simp only[length_append,bC,length_cons,length_nil];omega
  .rw[Wy g,dT, <-append_assoc];exact MT
 rw[take_of_length_le aC];intro s4 h4 A r4;refine⟨_,s4,[(v.group.len:Int)],rfl,.ofRow r4 ay,j,by simp only[length_append,bC,length_cons,length_nil];omega,_,v.group,t.group,rfl,f.group_.mono (c.trans A),j,by simp only[length_append,bC];omega,λs5 h5 O r5=>⟨_,s5,[(v.order.len:Int)],rfl,.ofRow r5 ay,j,by simp only[length_append,bC,length_cons,length_nil];omega,?_⟩⟩;generalize hQ:P++aX (wE t.on)++aX (jH [(v.group.len:Int)])++aX (jH t.group)++aX (jH [(v.order.len:Int)])=Q at F⊢
 have lQ:Q.length<=200000000000:=by rw[<-hQ];simp only[length_append,bC];omega
 have R:=(c.trans A).trans O;clear hQ r4 r5 Z n6 n7 n8 c M hi A O;clear i y;refine⟨λ⟨i,L,y⟩=>i<=t.order.length/\PH.le h y/\L=Q++aX (wC (t.order.take i)),λ⟨i,_,_⟩=>t.order.length-i,⟨(0,Q,h5),⟨aC,R,by simp[wC,aX]⟩,MT⟩,?_⟩;rintro⟨i,L,y⟩ ⟨hi,c,rfl⟩;dsimp only;refine aF (λn=>?_) (λM=>?_)
 .obtain⟨x,g⟩:=eV H n;obtain⟨b,o,e,r⟩:=(f.order_.mono c).at g;have q1:=PC (t.order.take i);have q2:(t.order.take i).length=i:=bf
  refine⟨b,o,e,aC,n,x,.imm r,aD (λV z D d u=>⟨_,z,[x.1,1],rfl,.ofRow u ay,j,?_,(i+1,Q++aX (wC (t.order.take (i+1))),D),⟨aC,c.trans d,rfl⟩,aC,?_⟩) (λV z D d u=>⟨_,z,[x.1,0],rfl,.ofRow u ay,j,?_,(i+1,Q++aX (wC (t.order.take (i+1))),D),⟨aC,c.trans d,rfl⟩,aC,?_⟩)⟩
  .simp only[length_append,bC,length_cons,length_nil];omega
  .rw[NC g,dT,V, <-append_assoc];exact MT
  .simp only[length_append,bC,length_cons,length_nil];omega
  .rw[NC g,dT,V, <-append_assoc];exact MT
 rw[take_of_length_le aC];exact .out (Sub.refl m) c F
def Dk(q:Query):Prop:=
 match q with
 |.mk op ta w co on gr od li args=>Oe ⟨op,ta,w,co,on,gr,od,li,0,0⟩/\∀a∈args,Dk a
 termination_by SizeOf.sizeOf q
def Steps(h:PH)(vs:List wQ)(ts:cg):=vs.length=ts.length/\∀(i:Nat) t,ts[i]? =some t->∃v,vs[i]? =some v/\uO h t v
theorem Wq{op w on args}:
 Dk (.mk op ta w co on gr od li args)↔Oe ⟨op,ta,w,co,on,gr,od,li,0,0⟩/\∀a∈args,Dk a:=by rw[Dk.eq_def]
theorem cT.blk{s E}(h:cT m s E sz xs)(e:s.a=some ⟨b,i,none⟩):∃c,m b=some (.cells c E (0,0)):=by
 rcases h.ex with⟨rfl,_⟩|⟨f,d,c,rfl,g,_⟩
 .cases e
 grind
theorem cT.slen{s E}(h:cT m s E sz xs):s.len=xs.length:=by
 rcases h.ex with⟨rfl,rfl⟩|⟨e,c,d,rfl,f,_⟩<;>rfl
theorem cT.keep{s E}(h:cT m s E sz xs)(f:∀b i,s.a=some ⟨b,i,none⟩->m' b=m b):cT m' s E sz xs:=by
 refine⟨h.rows,?_⟩;rcases h.ex with c|⟨b,d,e,rfl,g,j⟩
 .exact .inl c
 grind
def EC(t:Step):ByteArray:=⟨(stepB t).toArray⟩
def bV t ts:=match ts.findIdx? (λx=>stepB x==stepB t)with
 |some k=>(ts,k)
 |none=>(ts++[t],ts.length)
structure gT(m0 m:MH)(h:PH)(cb mb:Nat)(ts:cg)(rs:bn):Prop where
 sub:Sub m0 m
 cb0:m0 cb=none
 mb0:m0 mb=none
 map_:uP m mb (ts.mapIdx λi t=>(.string (EC t),.int .i64 i))
 nodup:(ts.map stepB).Nodup
 ex:∃s r,m cb=some (.cells #[.slice s.a s.len s.cap,.slice r.a r.len r.cap,.map (some mb)] 93 (0,0))/\(∃vs,cT m s 101 22 (vs.map wQ.enc)/\Steps h vs ts)/\cT m r 3 1 (rs.map eI)/\
  (∀b i,s.a=some ⟨b,i,none⟩->m0 b=none)/\(∀b i,r.a=some ⟨b,i,none⟩->m0 b=none)
def Uq:Vc.Spec:=λc m h K=>∃v t d cb e ts rs,c=[cP cb,aT v]/\uO h t v/\Oe t/\gT d m h cb e ts rs/\eA d/\ts.length<=100000/\
 ∀m' h',PH.le h h'->gT d m' h' cb e (bV t ts).1 rs->K (cI (bV t ts).2) m' h'
noncomputable def ciQ:=qV [(76,cCX),(77,atX),(78,Po),(79,VN),(80,aNZ)] [] [] [] [1043] [(76,[0])] false
abbrev Qf(a:wQ->Step->Prop):=∃(x:wQ)(c:Step),a x c
abbrev oA a:=oN (C8 a)
abbrev FU a:=Value.string (ByteArray.mk (Array.mk a))
abbrev FI(a:MH)(b:PH)(c d:Nat)(e:Sl->Sl->Prop):=∃(x:Sl),aK a b c d (aR x)/\∃(f:Sl),e x f
abbrev F6(a:PV)(b:Value)(c:bt):=bF (BX a.left) (nR a.right) (bF (yQ a.right) (fV (pY a.right)) (bF (tT a.right) (BX a.right) (bF (dP a.args) b c)))
attribute [push_cast] Qf oA FU FI F6
def XC(cb:Nat)(v:wQ)(m:MH)(h:PH)(K:bo):=
  ∃(x:List bt),Qf (λL t=>aA (p7 [] (kQ v.enc)=p7 x (kQ L.enc)) (uO h t L) (aA (Oe t) (eA m) (nO x.length/\Kp (mL x (stepB t)) (λb=>∃(y:Nat),aK m h cb 2 (oA y)/\∃(k:List (Value×Int))(O:Value->Prop),aA (uP m y (List.map (fun(p:Value×Int)=>(p.1,fV p.2)) k)) (C6 O) (aA (O (FU b)) (∀(e:Value×Int),List.Mem e k->O e.1) (((∀(e:Value×Int),bG (List.Mem e k) (e.1=FU b) False)->sP (λM p=>aA (eO (gP v.where_) (gP M)) (fH h p M) (∀(d:PV)(j:PH),bQ h j (fH j p d) (xC v.columns j (λl=>∀(s:Sl)(n:PH),bQ j n (Ints n s l) (G6 (λP Q=>aA (eO (mQ v.on) (mQ P)) (jC n P Q) (∀(R:Sl)(u:PH),bQ n u (jC u R Q) (xC v.group u (λX=>∀(S:Sl)(z:PH),
 bQ u z (Ints z S X) (∃(T:Sl)(U:bz),aA (eO (mQ v.order) (mQ T)) (jB z T U) (∀(V:Sl)(f:PH),bQ z f (jB f V U) (FI m f cb 0 (λg A=>Da (aK m f cb 0 (aR A)) (aK m f cb 0 (aR A)) (λD=>aI (cT m (dN A) 101 22 D) (i7 (jW D 1) 272) (dO D) (jU (λW H=>fY m H (dN A) W 101 22 (dL D (bF (fV v.op) (fV v.table) (bF (fV d.op) (fV d.cmp) (bF (nR d.left) (yQ d.left) (bF (fV (pY d.left)) (tT d.left) (F6 d (dP s) (bF (dP R) (dP S) (bF (dP V) (fV v.limit) (Ed v.left v.right)))))))))->jN (λc E=>aA (yA H cb (gG c E 0)) (0<c.size) (∀(F:MH),bK H F cb (fA (dP W) 1 c) E->∃(G:Nat),aK F f cb 2 (oA G)/\KV F G (λO1=>O1 (FU b)) (λI=>I) (fun
 e=>e) (FU b) (λI=>∀(J:MH),bG (jY F J G) (uP J G (gV I (FU b) (fV (aH g)) [])) (K (iR (aH g)) J f)))))))))))))))))))))/\∀(g:Int),List.Mem (FU b,g) k->K (iR g) m h))))))
theorem YB(h:∀x∈ts,stepB x≠stepB t):bV t ts=(ts++[t],ts.length):=by
 unfold bV
 grind
theorem YA{x}(c:(ts.map stepB).Nodup)(d:ts[i]? =some x)(e:stepB x=stepB t):bV t ts=(ts,i):=by
 unfold bV;obtain⟨f,n⟩:=List.getElem?_eq_some_iff.1 d
 have:ts.findIdx? (λx=>stepB x==stepB t)=some i:=by
  rw[findIdx?_eq_some_iff_getElem];refine⟨f,bg,λj u=>?_⟩;intro g;have g:stepB ts[j]=stepB t:=bg
  have:=(getElem_inj (h₀:=bf) (h₁:=bg) c (i:=j) (j:=i)).1 bg;omega
 rw[this]
theorem dV t ts:(bV t ts).1.length<=ts.length+1:=by
 unfold bV;grind
theorem gT.mono{m0 f}(c:gT m0 m h cb f ts rs)(le:PH.le h h'):gT m0 m h' cb f ts rs:=by
 obtain⟨s,r,d,⟨g,j,n,u⟩,y⟩:=c.ex;exact⟨c.sub,c.cb0,c.mb0,c.map_,c.nodup,s,r,d,⟨g,j,n,λi t e=>let⟨v,d,e2⟩:=u i t e;⟨v,d,e2.mono le⟩⟩,y⟩
theorem WJ{ts:cg}{k y}(h:(k,y)∈ts.mapIdx λi t=>(Value.string (EC t),(i:Int))):∃(i:Nat)(t:Step),ts[i]? =some t/\k= .string (EC t)/\y=i:=by
 grind
theorem LX{a b}:Value.string (EC a)=Value.string (EC b)↔stepB a=stepB b:=by
 constructor
 .intro h;have:=congrArg (λv=>match v with|Value.string s=>s.data.toList|_=>[]) h;simpa[EC]using this
 .intro h;unfold EC;rw[h]
theorem EV:bm 40 Uq:=by
 refine iQ func40 ?_;rintro b3 m h K ⟨v,t,m0,cb,d,ts,rs,rfl,f,hk,c,ht,hl,hK⟩;refine⟨ciQ,rfl,aE a2X (aE SJ (aE Mt (aE SI (aE a1Q aG)))),XC cb v m h K,ax,?_⟩;dsimp only[XC,push_cast];obtain⟨s,r,O,⟨vs,V,W,a6⟩,X,b4,a7⟩:=c.ex;have F:=cT.slen V;rw[length_map,W]at F
 have Y:(ts.mapIdx λi t=>(Value.string (EC t),(i:Int))).map (λp=>(p.1,fV p.2))=ts.mapIdx λi t=>(.string (EC t),.int .i64 i):=by
  apply ext_getElem?
  grind
 have a8:∀b i,s.a=some ⟨b,i,none⟩->b≠cb:=λb i e P=>by
  obtain⟨E,G⟩:=cT.blk V e
  grind
 have H:cb≠d:=λe=>by
  obtain⟨es,cl,G,_⟩:=c.map_.ex
  grind
 refine⟨[],v,t,rfl,f,hk,ht.sub c.sub,ay,stepB t,rfl,d,.of_m O rfl,ts.mapIdx λi t=>(.string (EC t),(i:Int)),_,by rw[Y];exact c.map_,CZ,⟨_,rfl⟩,λe Z=>?_,λa9=>⟨v.where_,t.wher,rfl,f.where_,λv1 h1 g r1=>⟨v.columns,t.columns,rfl,f.columns_.mono g,λs2 h2 n r2=>⟨v.on,t.on,rfl,f.on_.mono (g.trans n),λs3 G z r3=>⟨v.group,t.group,rfl,f.group_.mono ((g.trans n).trans z),λs4 h4 A r4=>⟨v.order,t.order,rfl,f.order_.mono (((g.trans n).trans z).trans A),λs5 h5 D r5=>?_⟩⟩⟩⟩⟩,λy hy=>?_⟩
 .obtain⟨i,t',_,I,_⟩:=WJ (k:=e.1) (y:=e.2) Z
  grind
 .have J:∀x∈ts,stepB x≠stepB t:=by
   intro x hx e;obtain⟨i,L⟩:=mem_iff_getElem?.1 hx;have b':=(List.getElem?_eq_some_iff.1 L).1;refine a9 (.string (EC x),(i:Int)) ?_ (LX.2 e);refine mem_mapIdx.2 ⟨i,b',?_⟩
   grind
  rw[YB J]at hK;have le:PH.le h h5:=(((g.trans n).trans z).trans A).trans D;have b5:uO h5 t ⟨v.op,v.table,v1,s2,s3,s4,s5,v.limit,v.left,v.right⟩:=⟨f.op_,f.table_,r1.mono (((n.trans z).trans A).trans D),r2.mono ((z.trans A).trans D),r3.mono (A.trans D),r4.mono D,r5,f.limit_,f.left_,f.right_⟩
  have Q:aK m h5 cb 0 [.slice s.a s.len s.cap]:=.of_m O rfl;refine⟨s,Q,s,Q,Q,vs.map wQ.enc,V,bg,bg,λU m1 R=>?_⟩;have a':m1 cb=some (.cells #[.slice s.a s.len s.cap,.slice r.a r.len r.cap,.map (some d)] 93 (0,0)):=R.other cb _ O (λi e=>a8 cb i e rfl);refine⟨_,_,⟨a'⟩,ay,λm2 S=>?_⟩;have S:lF m1 m2 cb (.cells #[.slice U.a U.len U.cap,.slice r.a r.len r.cap,.map (some d)] 93 (0,0)):=S;obtain⟨es,cl,b0,b1⟩:=c.map_.ex
  have a0:m1 d=some (.map es cl):=R.other d _ b0 (λi e=>by
   obtain⟨E,G⟩:=cT.blk V e
   grind)
  have a1:m2 d=some (.map es cl):=by rw[S.other d (Ne.symm H)];exact a0
  refine⟨d,.of_m S.at_ rfl,ts.mapIdx λi t=>(.string (EC t),.int .i64 i),_,⟨es,cl,a1,b1⟩,CZ,⟨_,rfl⟩,λe Z=>?_,λe Z P=>?_,λm3 T a2=>?_⟩
  .obtain⟨i,L,I⟩:=mem_mapIdx.1 Z
   grind
  .obtain⟨i,L,I⟩:=mem_mapIdx.1 Z;rw[<-I]at P;exact J ts[i] (getElem_mem L) (LX.1 P)
  .rw[F]at a2⊢
   have a3:∀b i,U.a=some ⟨b,i,none⟩->b≠cb:=λb i e P=>by
    obtain⟨E,G⟩:=cT.blk R.row e
    grind
   have a4:∀b i,U.a=some ⟨b,i,none⟩->b≠d:=λb i e P=>by
    obtain⟨E,G⟩:=cT.blk R.row e
    grind
   have a5:∀b o,m b=some o->b≠cb->b≠d->(∀i,s.a≠some ⟨b,i,none⟩)->m3 b=some o:=λb o e n1 n2 n3=>by
    rw[T.other b n2,S.other b n1];exact R.other b o e n3
   refine hK m3 h5 le ⟨λb o e=>a5 b o (c.sub b o e) (λM=>by rw[M,c.cb0]at e;cases e) (λM=>by rw[M,c.mb0]at e;cases e) (λi M=>bg),c.cb0,c.mb0,?_,?_,U,r,?_,⟨vs++[⟨v.op,v.table,v1,s2,s3,s4,s5,v.limit,v.left,v.right⟩],?_,?_,?_⟩,?_,?_,a7⟩
   .rw[mapIdx_append];simpa[EC]using a2
   .rw[map_append,nodup_append];refine⟨c.nodup,ay,λa ha b hb=>?_⟩
    grind
   .rw[T.other cb H];exact S.at_
   .rw[map_append];refine cT.keep R.row (λb i e=>?_);rw[T.other b (a4 b i e),S.other b (a3 b i e)]
   .simp[W]
   .intro i x hx;by_cases L:i<ts.length
    .rw[getElem?_append_left L]at hx;obtain⟨u,I,P⟩:=a6 i x hx;exact⟨u,bg,P.mono le⟩
    grind
   .refine cT.keep X (λb i e=>?_);obtain⟨E,G⟩:=cT.blk X e;rw[G];refine a5 b _ G (λM=>?_) (λM=>?_) (λj M=>?_)
    .grind
    .grind
    .obtain⟨b2,h4⟩:=cT.blk V M
     grind
   .intro b i e;rcases R.fresh b i e with h1|⟨j,h1⟩
    .cases e0:m0 b with
     |none=>rfl
     |some o=>rw[c.sub b o e0]at h1;cases h1
    grind
 .obtain⟨i,t',L,I,rfl⟩:=WJ hy;have I:stepB t=stepB t':=LX.1 I;rw[YA c.nodup L I.symm]at hK;exact hK m h (.refl _) c
inductive PN where
 |mk (q:Query) (args:List PN) (rows env:Nat) (width:Int)
abbrev dp:=List PN
def PN.q:PN->Query
 |.mk q _ _ _ _=>q
def PN.args:PN->dp
 |.mk _ a _ _ _=>a
def PN.rows:PN->Nat
 |.mk _ _ r _ _=>r
def PN.env:PN->Nat
 |.mk _ _ _ e _=>e
def PN.width:PN->Int
 |.mk _ _ _ _ w=>w
mutual
def pA(h:PH):PN->iK->Prop
 |.mk q args r e w,v=>dG h q v.query/\v.rows=(r:Int)/\v.env=(e:Int)/\v.width=w/\args.length<=1000/\∃c:List iK,dC h v.args 25 (c.map iK.enc)/\mA h args c
def mA(h:PH):dp->List iK->Prop
 |[],d=>d=[]
 |p::ps,d=>∃v c,d=v::c/\pA h p v/\mA h ps c
end
mutual
theorem pA.mono{h h':PH}(le:PH.le h h'):∀{p:PN}{v:iK},pA h p v->pA h' p v
 |.mk ..,_,⟨c,d,e,f,g,j,n,u⟩=>⟨c.mono le,d,e,f,g,j,n.mono le,mA.mono le u⟩
theorem mA.mono{h h':PH}(le:PH.le h h'):∀{ps:dp}{vs:List iK},mA h ps vs->mA h' ps vs
 |[],_,h=>h
 |_::_,_,⟨v,c,d,e,f⟩=>⟨v,c,d,pA.mono le e,mA.mono le f⟩
end
theorem mA.length{h:PH}:∀{ps:dp}{vs:List iK},mA h ps vs->vs.length=ps.length
 |[],_,h=>by rw[show _=[]from h];rfl
 |_::_,_,⟨_,_,c,_,d⟩=>by rw[c];simp[mA.length d]
theorem mA.get{h:PH}:∀{ps:dp}{vs:List iK},mA h ps vs->∀{i:Nat}{p:PN},ps[i]? =some p->∃v,vs[i]? =some v/\pA h p v
 |[],_,_,i,p,e=>by simp at e
 |p0::ps,_,⟨v,c,rfl,f,d⟩,0,p,e=>bg
 |p0::ps,_,⟨v,c,rfl,f,d⟩,i+1,p,e=>by simp at e;simpa using mA.get d e
theorem mA.snoc{h:PH}{p:PN}{v:iK}(x:pA h p v):∀{ps:dp}{vs:List iK},mA h ps vs->mA h (ps++[p]) (vs++[v])
 |[],_,h=>by rw[show _=[]from h];exact⟨v,[],rfl,x,rfl⟩
 |_::_,_,⟨u,c,d,e,f⟩=>⟨u,c++[v],by rw[d];rfl,e,mA.snoc x f⟩
def DB(op:Int):=op==7||op==9||op==10
def E8(s:jQ)(op ta:Int)(co:bn)(ps:dp):=
 if op=1 then((jA s ta).length:Int)else if op=3 then(co.length:Int)else
 if op=4 then(ps.map PN.width).getD 0 0+(ps.map PN.width).getD 1 0 else(ps.map PN.width).getD 0 0
def Ag(op ta:Int)(w:Pred)(co:bn)(on:bu)(gr:bn)(od:bz)(li:Int)(ks:cm):Step:=
 ⟨op,ta,w,co,on,gr,od,li,((ks.getD 0 0:Nat):Int),((ks.getD 1 0:Nat):Int)⟩
def anQ(s:jQ)(op ta:Int)(w:Pred)(co:bn)(on:bu)(gr:bn)(od:bz)(li:Int)(args:ce)(ps:dp)(ts:cg):PN×cg:=
 let a:=bV (Ag op ta w co on gr od li (ps.map PN.rows)) ts
 if DB op=true then(.mk (.mk op ta w co on gr od li args) ps a.2 ((ps.map PN.env).getD 0 0) (E8 s op ta co ps),a.1)
 else
  let b:=bV (Ag op ta w co on gr od li (ps.map PN.env)) a.1
  (.mk (.mk op ta w co on gr od li args) ps a.2 b.2 (E8 s op ta co ps),b.1)
mutual
def fP(s:jQ):Query->cg->PN×cg
 |.mk op ta w co on gr od li args,ts=>anQ s op ta w co on gr od li args (eG s args ts).1 (eG s args ts).2
def eG(s:jQ):ce->cg->dp×cg
 |[],ts=>([],ts)
 |q::qs,ts=>((fP s q ts).1::(eG s qs (fP s q ts).2).1,(eG s qs (fP s q ts).2).2)
end
def dU(l r:Int)(on:bu):Step:=⟨5,0,fO,[],on,[],[],0,l,r⟩
def cM(l r:Int):Step:=⟨8,0,fO,[],[],[],[],0,l,r⟩
def oR(l:Int)(co:bn):Step:=⟨3,0,fO,co,[],[],[],0,l,0⟩
def PX(l r:Int)(gr:bn)(od:bz)(li:Int):Step:=⟨10,0,fO,[],[],gr,od,li,l,r⟩
def iV(a n:Int):=(List.range n.toNat).map fun(i:Nat)=>a+(i:Int)
def pR(co:bn):=((List.range co.length).filter λi=>decide (co.idxOf (co.getD i 0)=i)).map λi=>(co.getD i 0,(i:Int))
def rM(on:bu):=on.map λp=>(p.2,p.1)
def uQ(gr:bn):=gr.map λc=>(c,c)
def Bx(a:PN)(d:Int)(gr:bn)(od:bz)(li:Int)(ts:cg):=
 let x:=bV (dU a.env d (uQ gr)) ts
 bV (PX x.2 a.rows gr od li) x.1
def BO(a n:Int):=(List.range n.toNat).map fun(i:Nat)=>(a+(i:Int),(i:Int))
def gC(p:PN)(d:Int)(ts:cg)(rs:bn):cg×bn:=
 match p with
 |.mk (.mk op _ _ co on gr od li _) args _ _ _=>
  match args with
  |[]=>if op=1 then(ts,rs++[d])else(ts,rs)
  |[a]=>
   if op=2 then gC a d ts rs
   else if op=3 then(let x:=bV (dU a.env d (pR co)) ts;gC a x.2 x.1 rs)
   else if op=9 then(let x:=Bx a d gr od li ts;gC a x.2 x.1 rs)
   else(ts,rs)
  |a::b::_=>
   if op=4 then
    let x:=bV (dU d b.rows (BO a.width b.width)) ts
    let y:=bV (oR x.2 (iV 0 a.width)) x.1
    let z:=gC a y.2 y.1 rs
    let u:=bV (oR d (iV a.width b.width)) z.1
    gC b u.2 u.1 z.2
   else if op=5 then
    let x:=bV (dU d b.rows on) ts
    let z:=gC a x.2 x.1 rs
    let y:=bV (dU b.env d (rM on)) z.1
    gC b y.2 y.1 z.2
   else if op=6 then
    let x:=bV (cM a.env d) ts
    let z:=gC a x.2 x.1 rs
    let y:=bV (cM b.env d) z.1
    gC b y.2 y.1 z.2
   else if op=7\/op=8 then
    let z:=gC a d ts rs
    let x:=bV (cM b.env d) z.1
    let y:=bV (cM x.2 a.rows) x.1
    gC b y.2 y.1 z.2
   else if op=10 then
    let z:=gC a d ts rs
    let x:=Bx b d gr od li z.1
    gC b x.2 x.1 z.2
   else(ts,rs)
 termination_by SizeOf.sizeOf p
end Go.Ps
