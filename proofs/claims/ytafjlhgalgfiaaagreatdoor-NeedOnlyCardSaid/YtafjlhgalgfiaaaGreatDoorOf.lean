/- Own work. -/
import Derived.Shelf.SlSorted.Search
import Derived.Shelf.SlSortCmp.NoneTotal
import Derived.Shelf.Small.Strs
import Derived.Shelf.Strconv.Itoa0
import Derived.Shelf.Strconv.Itoa1
import Derived.Shelf.LaysM
import Derived.Shelf.Strconv.Itoa2
import Derived.Shelf.Strconv.AppendUint10
import Derived.Shelf.Strconv.AppendInt10
import Derived.Shelf.Strconv.AppendIntPublic10
import Derived.Test.YtafjlhgalgfiaaaGreatDoorProg
import Derived.Lib.ItoaLen
import Derived.RangeFuncWrites
import Derived.OrdersIn
import Derived.Test.YtafjlhgalgfiaaaGreatDoorOe
set_option linter.unusedVariables false
set_option linter.unusedSimpArgs false
namespace Go.Proofs
open Go.Shelf List
def Tryz.lays213_ren:Go.Shelf.Ren:=⟨λ |213=>243|265=>261|n=>n,λ |9=>9|3=>3|n=>n,λ |n=>n⟩
def Tryz.lays106_ren:Go.Shelf.Ren:=⟨λ |106=>201|213=>243|265=>261|n=>n,λ |9=>9|3=>3|n=>n,λ |n=>n⟩
theorem Tryz.lays106:Go.Proofs.Lays.n106 Tryz.prog Tryz.lays106_ren:={
 mixed:=ax
 f106:=func201.trans (congrArg some ax)
 f213:=func243.trans (congrArg some ax)
 f265:=func261.trans (congrArg some ax)
 t3:=Tryz.underlying3
 a3:=Tryz.isAgg3
 z3:=Tryz.sizeOf3
 v3:=Tryz.zeroValue3
 t9:=Tryz.underlying9
 a9:=Tryz.isAgg9
 z9:=Tryz.sizeOf9
 v9:=Tryz.zeroValue9}
open Go.RowKit in
theorem Tryz.strings_Compare a b w:
 Calls Tryz.prog 201 #[.string a,.string b] w λe w'=>e= .returned (.int .i64 (Lib.compareBytes a.data.toList b.data.toList))/\w'=w:=Any.strings_Compare Tryz.lays106 a b w
def Tryz.lays283_ren:Go.Shelf.Ren:=⟨λ |283=>270|n=>n,λ |3=>3|9=>9|4=>4|n=>n,λ |n=>n⟩
theorem Tryz.lays283:Go.Proofs.Lays.n283 Tryz.prog Tryz.lays283_ren:={
 mixed:=ax
 f283:=func270.trans (congrArg some ax)
 t3:=Tryz.underlying3
 a3:=Tryz.isAgg3
 z3:=Tryz.sizeOf3
 v3:=Tryz.zeroValue3
 t4:=Tryz.underlying4
 a4:=Tryz.isAgg4
 z4:=Tryz.sizeOf4
 v4:=Tryz.zeroValue4
 t9:=Tryz.underlying9
 a9:=Tryz.isAgg9
 z9:=Tryz.sizeOf9
 v9:=Tryz.zeroValue9}
open Go.Lib in
theorem Tryz.internal_strconv_small(i:Nat)(h:i<100) w:
 Calls Tryz.prog 270 #[.int .i64 i] w λe w'=>e= .returned (.string ⟨(Lib.decDigits i).toArray⟩)/\w'=w:=Any.internal_strconv_small Tryz.lays283 i h w
def Tryz.laysM284_ren:Go.Shelf.Ren:=⟨λ |284=>271|129=>234|317=>275|318=>276|n=>n,λ |53=>263|3=>3|212=>296|0=>0|4=>4|46=>215|5=>5|9=>9|n=>n,λ |17=>1|n=>n⟩
theorem Tryz.laysM284:Go.Proofs.LaysM.n284 Tryz.prog Tryz.laysM284_ren:={
 mixed:=ax
 f129:=func234.trans (congrArg some ax)
 f284:=func271.trans (congrArg some ax)
 f317:=func275.trans (congrArg some ax)
 f318:=func276.trans (congrArg some ax)
 t0:=Tryz.underlying0
 a0:=Tryz.isAgg0
 z0:=Tryz.sizeOf0
 v0:=Tryz.zeroValue0
 t3:=Tryz.underlying3
 a3:=Tryz.isAgg3
 z3:=Tryz.sizeOf3
 v3:=Tryz.zeroValue3
 t4:=Tryz.underlying4
 a4:=Tryz.isAgg4
 z4:=Tryz.sizeOf4
 v4:=Tryz.zeroValue4
 t5:=Tryz.underlying5
 a5:=Tryz.isAgg5
 z5:=Tryz.sizeOf5
 v5:=Tryz.zeroValue5
 t9:=Tryz.underlying9
 a9:=Tryz.isAgg9
 z9:=Tryz.sizeOf9
 v9:=Tryz.zeroValue9
 t46:=Tryz.underlying215
 a46:=Tryz.isAgg215
 z46:=Tryz.sizeOf215
 v46:=Tryz.zeroValue215
 t53:=Tryz.underlying263
 a53:=Tryz.isAgg263
 z53:=Tryz.sizeOf263
 v53:=Tryz.zeroValue263
 t212:=Tryz.underlying296
 a212:=Tryz.isAgg296
 z212:=Tryz.sizeOf296
 v212:=Tryz.zeroValue296
 g17:=ax
 i0:=ax
 i3:=ax
 i4:=ax
 i5:=ax
 i9:=ax
 i46:=ax
 i53:=ax
 i212:=ax
 m17:=by kernel_rfl}
open Go.Lib in
theorem Tryz.internal_strconv_numDigits(u:Nat)(b:1<=u)(c:u<18446744073709551616) w(a:Lib.TabIs Tryz.prog w "internal/strconv.uint64pow10" .u64 Lib.pow10Tab):
 Calls Tryz.prog 271 #[.int .u64 u] w λe w'=>e= .returned (.int .i64 (Lib.nDigits u))/\w'=w:=Any.internal_strconv_numDigits Tryz.laysM284 u b c w a
def Tryz.lays285_ren:Go.Shelf.Ren:=⟨λ |285=>272|n=>n,λ |37=>22|53=>263|3=>3|4=>4|51=>261|9=>9|5=>5|0=>0|n=>n,λ |n=>n⟩
theorem Tryz.lays285:Go.Proofs.Lays.n285 Tryz.prog Tryz.lays285_ren:={
 mixed:=ax
 f285:=func272.trans (congrArg some ax)
 t0:=Tryz.underlying0
 a0:=Tryz.isAgg0
 z0:=Tryz.sizeOf0
 v0:=Tryz.zeroValue0
 t3:=Tryz.underlying3
 a3:=Tryz.isAgg3
 z3:=Tryz.sizeOf3
 v3:=Tryz.zeroValue3
 t4:=Tryz.underlying4
 a4:=Tryz.isAgg4
 z4:=Tryz.sizeOf4
 v4:=Tryz.zeroValue4
 t5:=Tryz.underlying5
 a5:=Tryz.isAgg5
 z5:=Tryz.sizeOf5
 v5:=Tryz.zeroValue5
 t9:=Tryz.underlying9
 a9:=Tryz.isAgg9
 z9:=Tryz.sizeOf9
 v9:=Tryz.zeroValue9
 t37:=Tryz.underlying22
 a37:=Tryz.isAgg22
 z37:=Tryz.sizeOf22
 v37:=Tryz.zeroValue22
 t51:=Tryz.underlying261
 a51:=Tryz.isAgg261
 z51:=Tryz.sizeOf261
 v51:=Tryz.zeroValue261
 t53:=Tryz.underlying263
 a53:=Tryz.isAgg263
 z53:=Tryz.sizeOf263
 v53:=Tryz.zeroValue263}
open Go.RowKit Go.Sort Go.Lib in
theorem Tryz.internal_strconv_formatBase10 blk off a(u:Nat) d w(h:Holds (fun(b:UInt8)=>Value.int .u8 (b.toNat:Int)) w blk off d)(i:u<10^d.size)(c:u<18446744073709551616)(f:d.size<4611686018427387904):
 Calls Tryz.prog 272 #[.slice (some ⟨blk,off,none⟩) d.size a,.int .u64 u] w λe w'=>
  e= .returned (.tuple #[])/\∃(n j:Nat)(g:Array UInt8),w'=(putRow (fun(b:UInt8)=>Value.int .u8 (b.toNat:Int)) w blk off g).drewN n/\FmtInv d.size u 0 j g:=Any.internal_strconv_formatBase10 Tryz.lays285 blk off a u d w h i c f
def Tryz.sortF_ren:Go.Shelf.Ren:=⟨λ |6=>135|15=>182|14=>181|28=>233|29=>234|20=>225|21=>226|22=>227|23=>228|24=>229|25=>230|26=>231|27=>232|46=>254|47=>255|48=>256|49=>257|50=>258|57=>265|n=>n,λ |22=>58|24=>65|25=>116|3=>3|39=>215|0=>0|53=>261|55=>263|4=>4|46=>255|45=>254|50=>136|5=>5|9=>9|66=>274|70=>237|76=>283|77=>284|n=>n,λ |n=>n⟩
theorem Tryz.sortF:Go.Proofs.SlLaysF.n6 Tryz.prog Tryz.sortF_ren:={
 mixed:=ax
 f6:=⟨Tryz.f135.name,az,func135.trans (congrArg some ax)⟩
 f14:=⟨Tryz.f181.name,az,func181.trans (congrArg some ax)⟩
 f15:=func182.trans (congrArg some ax)
 f20:=⟨Tryz.f225.name,az,func225.trans (congrArg some ax)⟩
 f21:=⟨Tryz.f226.name,az,func226.trans (congrArg some ax)⟩
 f22:=⟨Tryz.f227.name,az,func227.trans (congrArg some ax)⟩
 f23:=⟨Tryz.f228.name,az,func228.trans (congrArg some ax)⟩
 f24:=⟨Tryz.f229.name,az,func229.trans (congrArg some ax)⟩
 f25:=⟨Tryz.f230.name,az,func230.trans (congrArg some ax)⟩
 f26:=⟨Tryz.f231.name,az,func231.trans (congrArg some ax)⟩
 f27:=⟨Tryz.f232.name,az,func232.trans (congrArg some ax)⟩
 f28:=func233.trans (congrArg some ax)
 f29:=func234.trans (congrArg some ax)
 f46:=⟨Tryz.f254.name,az,func254.trans (congrArg some ax)⟩
 f47:=func255.trans (congrArg some ax)
 f48:=func256.trans (congrArg some ax)
 f49:=⟨Tryz.f257.name,az,func257.trans (congrArg some ax)⟩
 f50:=⟨Tryz.f258.name,az,func258.trans (congrArg some ax)⟩
 f57:=⟨Tryz.f265.name,az,func265.trans (congrArg some ax)⟩
 t0:=Tryz.underlying0
 a0:=Tryz.isAgg0
 z0:=Tryz.sizeOf0
 v0:=Tryz.zeroValue0
 t3:=Tryz.underlying3
 a3:=Tryz.isAgg3
 z3:=Tryz.sizeOf3
 v3:=Tryz.zeroValue3
 t4:=Tryz.underlying4
 a4:=Tryz.isAgg4
 z4:=Tryz.sizeOf4
 v4:=Tryz.zeroValue4
 t5:=Tryz.underlying5
 a5:=Tryz.isAgg5
 z5:=Tryz.sizeOf5
 v5:=Tryz.zeroValue5
 t9:=Tryz.underlying9
 a9:=Tryz.isAgg9
 z9:=Tryz.sizeOf9
 v9:=Tryz.zeroValue9
 t22:=Tryz.underlying58
 a22:=Tryz.isAgg58
 z22:=Tryz.sizeOf58
 v22:=Tryz.zeroValue58
 a24:=Tryz.isAgg65
 z24:=Tryz.sizeOf65
 t25:=Tryz.underlying116
 a25:=Tryz.isAgg116
 z25:=Tryz.sizeOf116
 v25:=Tryz.zeroValue116
 t39:=Tryz.underlying215
 a39:=Tryz.isAgg215
 z39:=Tryz.sizeOf215
 v39:=Tryz.zeroValue215
 t45:=Tryz.underlying254
 a45:=Tryz.isAgg254
 z45:=Tryz.sizeOf254
 v45:=Tryz.zeroValue254
 t46:=Tryz.underlying255
 a46:=Tryz.isAgg255
 z46:=Tryz.sizeOf255
 v46:=Tryz.zeroValue255
 t50:=Tryz.underlying136
 a50:=Tryz.isAgg136
 z50:=Tryz.sizeOf136
 v50:=Tryz.zeroValue136
 t53:=Tryz.underlying261
 a53:=Tryz.isAgg261
 z53:=Tryz.sizeOf261
 v53:=Tryz.zeroValue261
 t55:=Tryz.underlying263
 a55:=Tryz.isAgg263
 z55:=Tryz.sizeOf263
 v55:=Tryz.zeroValue263
 t66:=Tryz.underlying274
 a66:=Tryz.isAgg274
 z66:=Tryz.sizeOf274
 v66:=Tryz.zeroValue274
 t70:=Tryz.underlying237
 a70:=Tryz.isAgg237
 z70:=Tryz.sizeOf237
 v70:=Tryz.zeroValue237
 t76:=Tryz.underlying283
 a76:=Tryz.isAgg283
 z76:=Tryz.sizeOf283
 v76:=Tryz.zeroValue283
 t77:=Tryz.underlying284
 a77:=Tryz.isAgg284
 z77:=Tryz.sizeOf284
 v77:=Tryz.zeroValue284}
def Tryz.sortN_ren:Go.Shelf.Ren:=⟨λ |6=>135|15=>182|14=>181|28=>233|29=>234|20=>225|21=>226|22=>227|23=>228|24=>229|25=>230|26=>231|27=>232|46=>254|47=>255|48=>256|49=>257|50=>258|57=>265|n=>n,λ |22=>58|24=>65|25=>116|3=>3|39=>215|0=>0|53=>261|55=>263|4=>4|46=>255|45=>254|50=>136|5=>5|9=>9|66=>274|70=>237|76=>283|77=>284|n=>n,λ |n=>n⟩
theorem Tryz.sortN:Go.Proofs.SlLaysF0.n6 Tryz.prog Tryz.sortN_ren:={
 mixed:=ax
 f6:=⟨Tryz.f135.name,az,func135.trans (congrArg some ax)⟩
 f14:=⟨Tryz.f181.name,az,func181.trans (congrArg some ax)⟩
 f15:=func182.trans (congrArg some ax)
 f20:=⟨Tryz.f225.name,az,func225.trans (congrArg some ax)⟩
 f21:=⟨Tryz.f226.name,az,func226.trans (congrArg some ax)⟩
 f22:=⟨Tryz.f227.name,az,func227.trans (congrArg some ax)⟩
 f23:=⟨Tryz.f228.name,az,func228.trans (congrArg some ax)⟩
 f24:=⟨Tryz.f229.name,az,func229.trans (congrArg some ax)⟩
 f25:=⟨Tryz.f230.name,az,func230.trans (congrArg some ax)⟩
 f26:=⟨Tryz.f231.name,az,func231.trans (congrArg some ax)⟩
 f27:=⟨Tryz.f232.name,az,func232.trans (congrArg some ax)⟩
 f28:=func233.trans (congrArg some ax)
 f29:=func234.trans (congrArg some ax)
 f46:=⟨Tryz.f254.name,az,func254.trans (congrArg some ax)⟩
 f47:=func255.trans (congrArg some ax)
 f48:=func256.trans (congrArg some ax)
 f49:=⟨Tryz.f257.name,az,func257.trans (congrArg some ax)⟩
 f50:=⟨Tryz.f258.name,az,func258.trans (congrArg some ax)⟩
 f57:=⟨Tryz.f265.name,az,func265.trans (congrArg some ax)⟩
 t0:=Tryz.underlying0
 a0:=Tryz.isAgg0
 z0:=Tryz.sizeOf0
 v0:=Tryz.zeroValue0
 t3:=Tryz.underlying3
 a3:=Tryz.isAgg3
 z3:=Tryz.sizeOf3
 v3:=Tryz.zeroValue3
 t4:=Tryz.underlying4
 a4:=Tryz.isAgg4
 z4:=Tryz.sizeOf4
 v4:=Tryz.zeroValue4
 t5:=Tryz.underlying5
 a5:=Tryz.isAgg5
 z5:=Tryz.sizeOf5
 v5:=Tryz.zeroValue5
 t9:=Tryz.underlying9
 a9:=Tryz.isAgg9
 z9:=Tryz.sizeOf9
 v9:=Tryz.zeroValue9
 t22:=Tryz.underlying58
 a22:=Tryz.isAgg58
 z22:=Tryz.sizeOf58
 v22:=Tryz.zeroValue58
 t25:=Tryz.underlying116
 a25:=Tryz.isAgg116
 z25:=Tryz.sizeOf116
 v25:=Tryz.zeroValue116
 t39:=Tryz.underlying215
 a39:=Tryz.isAgg215
 z39:=Tryz.sizeOf215
 v39:=Tryz.zeroValue215
 t45:=Tryz.underlying254
 a45:=Tryz.isAgg254
 z45:=Tryz.sizeOf254
 v45:=Tryz.zeroValue254
 t46:=Tryz.underlying255
 a46:=Tryz.isAgg255
 z46:=Tryz.sizeOf255
 v46:=Tryz.zeroValue255
 t50:=Tryz.underlying136
 a50:=Tryz.isAgg136
 z50:=Tryz.sizeOf136
 v50:=Tryz.zeroValue136
 t53:=Tryz.underlying261
 a53:=Tryz.isAgg261
 z53:=Tryz.sizeOf261
 v53:=Tryz.zeroValue261
 t55:=Tryz.underlying263
 a55:=Tryz.isAgg263
 z55:=Tryz.sizeOf263
 v55:=Tryz.zeroValue263
 t66:=Tryz.underlying274
 a66:=Tryz.isAgg274
 z66:=Tryz.sizeOf274
 v66:=Tryz.zeroValue274
 t70:=Tryz.underlying237
 a70:=Tryz.isAgg237
 z70:=Tryz.sizeOf237
 v70:=Tryz.zeroValue237
 t76:=Tryz.underlying283
 a76:=Tryz.isAgg283
 z76:=Tryz.sizeOf283
 v76:=Tryz.zeroValue283
 t77:=Tryz.underlying284
 a77:=Tryz.isAgg284
 z77:=Tryz.sizeOf284
 v77:=Tryz.zeroValue284}
def Tryz.searchO_ren:Go.Shelf.Ren:=⟨λ |16=>108|n=>n,λ |3=>3|35=>75|4=>4|38=>215|n=>n,λ |n=>n⟩
theorem Tryz.searchO:Go.Proofs.SlLaysO.n16 Tryz.prog Tryz.searchO_ren:={
 mixed:=ax
 f16:=func108.trans (congrArg some ax)
 t3:=Tryz.underlying3
 a3:=Tryz.isAgg3
 z3:=Tryz.sizeOf3
 v3:=Tryz.zeroValue3
 t4:=Tryz.underlying4
 a4:=Tryz.isAgg4
 z4:=Tryz.sizeOf4
 v4:=Tryz.zeroValue4
 t35:=Tryz.underlying75
 a35:=Tryz.isAgg75
 z35:=Tryz.sizeOf75
 v35:=Tryz.zeroValue75
 t38:=Tryz.underlying215
 a38:=Tryz.isAgg215
 z38:=Tryz.sizeOf215
 v38:=Tryz.zeroValue215}
end Go.Proofs
namespace Go.Ps
open Go Go.Vc Go.Proofs List Tryz
variable{K:cq}{m:MH}{h:PH}{s:jZ}{ps:cn}{cb:Nat}{sc:bT}{v:QV}{p:Pred}{l:cn}{i:Nat}{N:Nat}{m':MH}{h':PH}{co:cn}{gr:cn}{od:cv}{ta:Int}{li:Int}{xs:List cr}{sz:Nat}{ks:List cn}{rs:cn}{r:Sl}{a:cn}{b:Nat}
def eK(m:MH):=∃T c,m 1=some (.cells (Lib.pow10Tab.map λz=>Value.int .u64 z).toArray T c)
def cU(u:Nat):CV:=.val (.int .u64 u)
def cZZ:Vc.Spec:=λc m h K=>∃i:Nat,c=[cI i]/\i<100/\K (Ss ⟨(Lib.decDigits i).toArray⟩) m h
def aQX:Vc.Spec:=λc m h K=>∃u:Nat,c=[cU u]/\1<=u/\u<18446744073709551616/\eK m/\K (cI (Lib.nDigits u)) m h
def cYX:Vc.Spec:=λd m h K=>∃b e u:Nat,∃(f:Array Value)(T:TypeId),d=[.val (.slice (some ⟨b,0,none⟩) (Lib.nDigits u) e),cU u]/\u<18446744073709551616/\m b=some (.cells f T (0,0))/\f.toList=replicate 24 (.int .u8 0)/\
 ∀c m',c.size=f.size->c.toList.take (Lib.nDigits u)=Lib.byteCells (Lib.decDigits u)->lI m m' b (.cells c T (0,0))->K (.tup []) m' h
def cIQ:Vc.Spec:=λc m h K=>∃xs,∃u:Nat,c=[.lst 5 1 xs,cU u,cI 10]/\u<18446744073709551616/\eK m/\xs.length+30<=140737488355328/\K (.lst 5 1 (xs++aX (Lib.decDigits u))) m h
def mP i:=if i<0 then 45::Lib.decDigits (IntKind.u64.wrap (0-IntKind.u64.wrap i)).toNat else Lib.decDigits (IntKind.u64.wrap i).toNat
def OI:Vc.Spec:=λc m h K=>∃xs i,c=[.lst 5 1 xs,cI i,cI 10]/\eK m/\xs.length+40<=140737488355328/\K (.lst 5 1 (xs++aX (mP i))) m h
abbrev vQ(a:cq)(b:List cr)(c:MH)(d:Nat->Nat->Option Value):=a (CV.lst 5 1 b) c d
abbrev F7 a:=bG (Value.int IntKind.u8 0) (Value.int IntKind.u8 0) (bG (Value.int IntKind.u8 0) (Value.int IntKind.u8 0) (bG (Value.int IntKind.u8 0) (Value.int IntKind.u8 0) (bG (Value.int IntKind.u8 0) (Value.int IntKind.u8 0) a)))
abbrev Cv a:=CV.val (Value.int IntKind.u64 a)
abbrev Ls a:=a<18446744073709551616
abbrev pP a:=Option.some (Addr.mk a 0 Option.none)
attribute [push_cast] vQ F7 Cv Ls pP
def M0(xs:List cr)(u:Nat)(m:MH)(h:PH)(K:cq):=
  aY (↑u:Int) 100 (∃(i:Nat),aA (Gs (jA (iF (↑u:Int)))=Gs (jA (↑i:Int))) (i<100) (aA (sQ xs (fO (ByteArray.mk (Array.mk (Lib.decDigits i)))) 1) (sR xs (fO (ByteArray.mk (Array.mk (Lib.decDigits i))))) (vQ K (xs++fO (ByteArray.mk (Array.mk (Lib.decDigits i)))) m h))) (∀(b:Nat)(f:MH),bH (cW m h b) (bJ m f b (F7 (F7 (F7 []))) 290) (∃(d:Nat),aA (Gs (Cv (↑u:Int))=Gs (Cv (↑d:Int))) (1<=d) (aA (Ls d) (eK f) (aA (cN (↑(Lib.nDigits d):Int)) ((↑(Lib.nDigits d):Int)<=24) (bK (λg c=>∃(e:Nat),gT (λj T=>aA (tN (CV.val (Value.slice (pP b) (nL (Lib.nDigits d)) 24)) (Cv (↑u:Int))=tN (CV.val (Value.slice (pP g) (Lib.nDigits e) c)) (Cv (↑e:Int))) (Ls e) (aA (f g=Option.some
 (fA j T 0)) (j.toList=F7 (F7 (F7 []))) (∀(n:Array Value)(o:MH),bH (n.size=j.size) (List.take (Lib.nDigits e) n.toList=Lib.byteCells (Lib.decDigits e)) (lI f o g (fA n T 0)->Ca (cN (↑(Lib.nDigits d):Int)) ((↑(Lib.nDigits d):Int)<=24) (λy=>aA (gC 1 y) (vI o h (Sl.mk (pP b) (nL (Lib.nDigits d)) 24) 1 y) (aA (sQ xs y 1) (sR xs y) (vQ K (xs++y) o h)))))))))))))
abbrev Qz a:=IntKind.wrap IntKind.u64 a
abbrev mX a b:=a++aX b
attribute [push_cast] Qz mX
def Tz xs i m h K:=
  aY i 0 (Ca (jN (kB xs 1) 1) (eA xs) (λx=>∃(u:Nat),aA (CV.lst 5 1 (dP xs (xT 45))::cT (Cv (Qz (0-Qz i))) 10=CV.lst 5 1 x::cT (Cv (↑u:Int)) 10) (Ls u) (aA (eK m) (oK (kB x 30)) (vQ K (mX x (Lib.decDigits u)) m h)))) (∃(x:List cr)(u:Nat),aA (CV.lst 5 1 xs::cT (Cv (Qz i)) 10=CV.lst 5 1 x::cT (Cv (↑u:Int)) 10) (Ls u) (aA (eK m) (oK (kB x 30)) (vQ K (mX x (Lib.decDigits u)) m h)))
abbrev zR a b:=CV.lst 5 1 a::cT (jA b) 10
abbrev sS a b:=mX a (mP b)
attribute [push_cast] zR sS
def bgZ xs i m h K:=
  ∃(x:List cr)(c:Int),aA (zR xs i=zR x c) (eK m) (oK (kB x 40)/\vQ K (sS x c) m h)
theorem eK.sub(h:eK m)(c:Sub m m'):eK m':=by
 obtain⟨T,d,e⟩:=h;exact⟨T,d,c 1 _ e⟩
theorem Me{w c vs}(d:CS w m h c vs):DF ⟨w,yZ m c vs,h,[]⟩ m h w:=
 ⟨rfl,rfl,rfl,Nat.le_refl _,Nat.le_refl _,λ_ _ _=>rfl,d.hsat,d.msat,d.disj,λ_ _ _ e=>e,λ_ _ _=>rfl,λb o f=>.inr (.inl (by grind))⟩
theorem ZJ:cm 270 cZZ:=by
 refine⟨⟨Tryz.f270,func270,rfl,az⟩,?_⟩;rintro f d m h w K ⟨i,rfl,g,j⟩ c
 obtain⟨v,rfl⟩:∃v,d=[v]:=by
  have:=(rH c.args).1
  match d,this with
  |[v],_=>grind
 have n:v= .int .i64 i:=c.args.1;subst n;refine(Tryz.internal_strconv_small i g w).mono ?_;rintro e t ⟨rfl,rfl⟩;exact⟨_,_,m,h,rfl,j,rfl,Me c,λb o=>by simp[Ss,j6]at o⟩
theorem ZI:cm 271 aQX:=by
 refine⟨⟨Tryz.f271,func271,rfl,az⟩,?_⟩;rintro f d m h w K ⟨u,rfl,g,j,⟨T,z,n⟩,o⟩ c
 obtain⟨v,rfl⟩:∃v,d=[v]:=by
  have:=(rH c.args).1
  match d,this with
  |[v],_=>grind
 have t:v= .int .u64 u:=c.args.1;subst t;have A:=c.msat 1 _ n;refine(Tryz.internal_strconv_numDigits u g j w ?_).mono ?_
 .unfold Lib.TabIs World.var?;rw[show Tryz.prog.globalNamed _=some 1 by kernel_rfl]
  grind
 .rintro e B ⟨rfl,rfl⟩;exact⟨_,_,m,h,rfl,o,rfl,Me c,λb y=>by simp[cI,j6]at y⟩
theorem ZH:cm 272 cYX:=by
 refine⟨⟨Tryz.f272,func272,rfl,az⟩,?_⟩;rintro W P m h w K ⟨b,g,u,B,T,rfl,Q,A,C,X⟩ t
 obtain⟨v,H,rfl⟩:∃v H,P=[v,H]:=by
  have:=(rH t.args).1
  match P,this with
  |[v,H],_=>grind
 have Y:v= .slice (some ⟨b,0,none⟩) (Lib.nDigits u) g:=t.args.1;have J:H= .int .u64 u:=t.args.2.1;subst Y J;have R:=t.msat b _ A;have Z:=Lib.nDigits_le20 u Q;have a':B.size=24:=by rw[<-Array.length_toList,C];simp
 have hH:Sort.Holds (fun(b:UInt8)=>Value.int .u8 (b.toNat:Int)) w b 0 (Array.replicate (Lib.nDigits u) (0:UInt8)):=by
  intro j I;simp only[Array.size_replicate]at I;refine⟨?_,?_⟩
  .rw[cell_of_heap R,C,getElem?_replicate,if_pos aC];rw[getElem!_pos _ j bg];simp
  .unfold World.frozen?
   grind
 have S:=Tryz.internal_strconv_formatBase10 b 0 g u (Array.replicate (Lib.nDigits u) (0:UInt8)) w hH (bk (Lib.lt_pow_nDigits u)) Q bf;rw[Array.size_replicate]at S;refine S.mono ?_;rintro e w' ⟨rfl,n,v',z,rfl,U⟩;have a0:z.size=Lib.nDigits u:=U.size;obtain⟨m',y⟩:∃m',lI m m' b (.cells (Sort.putCells (fun(b:UInt8)=>Value.int .u8 (b.toNat:Int)) 0 z B) T (0,0)):=⟨λc=>if c=b then some (.cells (Sort.putCells (fun(b:UInt8)=>Value.int .u8 (b.toNat:Int)) 0 z B) T (0,0))else m c,ay,λc d=>by simp[d]⟩
 have D:(Sort.putRow (fun(b:UInt8)=>Value.int .u8 (b.toNat:Int)) w b 0 z).heap[b]? =some (.cells (Sort.putCells (fun(b:UInt8)=>Value.int .u8 (b.toNat:Int)) 0 z B) T (0,0)):=by
  unfold Sort.putRow Sort.mapBlock;simp only[Array.getElem?_modify,if_true,R];rfl
 have f:∀c,c≠b->(Sort.putRow (fun(b:UInt8)=>Value.int .u8 (b.toNat:Int)) w b 0 z).heap[c]? =w.heap[c]? :=λc d=>by
  unfold Sort.putRow Sort.mapBlock
  grind
 refine⟨.tup [],.tuple #[],m',h,rfl,X _ m' ?_ ?_ y,⟨#[],rfl,rfl⟩,?_,λb A=>by simp[j6]at A⟩
 .simp[Sort.putCells]
 .apply ext_getElem?;intro j;rw[getElem?_take];have hl:(Lib.byteCells (Lib.decDigits u)).length=Lib.nDigits u:=by rw[Lib.byteCells_length,Lib.decDigits_length]
  by_cases I:j<Lib.nDigits u
  .rw[if_pos I,cg];have E:j<(Lib.decDigits u).length:=by rw[Lib.decDigits_length];exact I
   have F:j<B.size:=by omega
   simp only[Sort.putCells,Array.getElem?_mapIdx,Array.getElem?_eq_getElem F,Option.map_some,Nat.zero_le,Nat.zero_add,Nat.sub_zero,true_and];rw[if_pos aC,Lib.byteCells,getElem?_map,bn E,Lib.row_is_numeral U j E];rfl
  grind
 .have G:∀c o,m' c=some o->c=b\/m c=some o:=λc o d=>by
   by_cases e:c=b
   .exact .inl e
   .rw[y.other c e]at d;grind
  have V:yZ m [.val (.slice (some ⟨b,0,none⟩) (Lib.nDigits u) g),cU u] [.slice (some ⟨b,0,none⟩) (Lib.nDigits u) g,.int .u64 u] b:=.inl (by rw[A];simp);refine⟨rfl,rfl,rfl,Nat.le_add_right _ _,by simp[Sort.putRow,Sort.mapBlock],?_,?_,?_,?_,λ_ _ _ e=>e,λ_ _ _=>rfl,?_⟩
  .intro c _ hn;exact f c (λe=>hn (e▸V))
  .intro c o x L;have M:c≠b:=λe=>by rw[e,t.disj b _ A o]at L;cases L
   show(Sort.putRow (fun(b:UInt8)=>Value.int .u8 (b.toNat:Int)) w b 0 z).cell? ⟨c,o,none⟩=some x;rw[World.cell?_of_block (w:=w) (a:=⟨c,o,none⟩) (f c M)];exact t.hsat c o x L
  .intro c o d;by_cases e:c=b
   .subst e;rw[y.at_]at d;cases d;exact D
   .rw[y.other c e]at d;rw[show((Sort.putRow (fun(b:UInt8)=>Value.int .u8 (b.toNat:Int)) w b 0 z).drewN n).heap[c]? =_ from f c e];exact t.msat c o d
  .intro c o d j;rcases G c o d with rfl|O
   .exact t.disj c _ A j
   .exact t.disj c _ O j
  .intro c o d;rcases G c o d with rfl|O
   .exact .inr V
   .exact .inr (.inl (by rw[O];simp))
theorem HL l:fO ⟨l.toArray⟩=aX l:=by simp[fO,aX]
theorem NC l:(aX l).flatten=Lib.byteCells l:=by
 unfold aX Lib.byteCells
 induction l with
 |nil=>rfl
 |cons b r c=>simp[c]
theorem aZ l:(aX l).length=l.length:=by simp[aX]
theorem ZP:cm 260 cIQ:=by
 refine EY func260 ?_;rintro y m h K ⟨xs,u,rfl,j,z,E,o⟩;refine⟨qD [(270,cZZ),(271,aQX),(272,cYX)] [] [] [] [290] [] true,rfl,aE ZJ (aE ZI (aE ZH aH)),M0 xs u m h (lZ h K),ax,?_⟩;show M0 xs u m h (lZ h K);dsimp only[M0,push_cast];have A:=Lib.nDigits_le20 u j;have d:=Lib.decDigits_length u;refine aF (λB=>⟨u,?_,aC,?_,?_,?_⟩) (λB b C t e=>?_)
 .rw[fL aC aC]
 .rw[HL,aZ];omega
 .rw[HL,aZ];omega
 .rw[HL];exact .here o
 .have f:Sub m C:=(Sub.refl m).upd t.m_ e.other;refine⟨u,rfl,aC,j,z.sub f,aC,aC,b,24,u,_,_,bg,j,e.at_,rfl,λn F D c g=>⟨aC,aC,aX (Lib.decDigits u),Km _,?_,?_,?_,?_⟩⟩
  .refine .lent b 0 n 290 (0,0) rfl ?_ g.at_ ?_
   .rw[Int.toNat_natCast,aZ,d]
   .rw[NC,Lib.byteCells_length,d,drop_zero];exact c
  .rw[aZ];omega
  .rw[aZ];omega
  .exact .sub (f.upd t.m_ g.other) o
theorem boX i:0<=IntKind.u64.wrap i/\IntKind.u64.wrap i<18446744073709551616:=by
 simp only[IntKind.wrap,IntKind.bits,IntKind.signed];simp;omega
theorem pE i:(mP i).length<=21:=by
 have key:∀n:Int,(Lib.decDigits (IntKind.u64.wrap n).toNat).length<=20:=λn=>by
  rw[Lib.decDigits_length];exact Lib.nDigits_le20 _ (by have:=boX n;omega)
 unfold mP
 grind
theorem ZW:cm 240 OI:=by
 refine jC func240 ?_;rintro e m h K ⟨xs,i,rfl,c,g,d⟩;refine⟨qD [(260,cIQ)] [] [] [] [] [(260,[0])] true,rfl,aE ZP aH,Tz xs i m h K,ax,?_⟩;dsimp only[Tz,push_cast];have j:=boX i;have n:=boX (0-IntKind.u64.wrap i);refine aF (λf=>⟨aC,aC,xs++[[.int .u8 45]],(IntKind.u64.wrap (0-IntKind.u64.wrap i)).toNat,?_,aC,c,bf,?_⟩) (λf=>⟨xs,(IntKind.u64.wrap i).toNat,?_,aC,c,aC,?_⟩)
 .grind
 .have:mP i=45::Lib.decDigits (IntKind.u64.wrap (0-IntKind.u64.wrap i)).toNat:=by unfold mP;grind
  rw[this]at d;rw[append_assoc];exact d
 .grind
 .have:mP i=Lib.decDigits (IntKind.u64.wrap i).toNat:=by unfold mP;grind
  grind
theorem Dp:cm 195 OI:=by
 refine jC func195 ?_;rintro c m h K ⟨xs,i,rfl,d,e,f⟩;refine⟨qD [(240,OI)] [] [] [] [] [(240,[0])] true,rfl,aE ZW aH,bgZ xs i m h K,ax,?_⟩;exact⟨xs,i,rfl,d,e,f⟩
def DD(a b:Int):=if a<b then-1 else if b<a then 1 else 0
def Sr(a b:ByteArray):=Lib.compareBytes a.data.toList b.data.toList
def pN(a b:VV):=if DD a.kind b.kind≠0 then DD a.kind b.kind else if DD a.int b.int≠0 then DD a.int b.int else Sr a.text b.text
def fG:cz->cz->Int
 |[],[]=>0
 |[],_::_=> -1
 |_::_,[]=>1
 |x::xs,y::ys=>if pN x y≠0 then pN x y else fG xs ys
def czX:Vc.Spec:=λc m h K=>∃n,c=[cI n]/\K (cB false) m h
def aTZ:Vc.Spec:=λc m h K=>∃a b,c=[cI a,cI b]/\K (cI (DD a b)) m h
def cHX:Vc.Spec:=λc m h K=>∃a b,c=[Ss a,Ss b]/\K (cI (Sr a b)) m h
def UP:Vc.Spec:=λc m h K=>∃a b,c=[aV a,aV b]/\K (cI (pN a b)) m h
def Jv:Vc.Spec:=λc m h K=>∃s t a b,c=[cS s,cS t]/\bQ h s a/\bQ h t b/\K (cI (fG a b)) m h
def cHJ:Vc.Spec:=λc m h K=>∃s t a b,c=[cS s,cS t,.val (.func (.func 156) #[] #[])]/\bQ h s a/\bQ h t b/\K (cI (fG a b)) m h
def Rows h s l:=bM h 1 eS (λr t=>bQ h t r) s l
def bZJ:Vc.Spec:=λc m h K=>∃s t a b,c=[cS s,cS t]/\Rows h s a/\Rows h t b/\∀r:Bool,(r=true↔a=b)->K (cB r) m h
noncomputable def bJJ s t m h:=
 dK [(156,UP)] [(2,{A:=Nat,st:=λi=>bY 39 42 [(0,sv s),(1,sv t),(2,vv (.func (.func 156) #[] #[])),(11,sv s),(12,iv s.len),(13,iv i)] [] m h})] [] [] false
noncomputable def f55_ctx s t m h:=
 dK [(119,UP)] [(2,{A:=Nat,st:=λi=>bY 43 45 [(0,sv s),(1,sv t),(5,iv i)] [] m h})] [] [] false
noncomputable def cuJ s t m h:=
 dK [(55,Jv)] [(4,{A:=Nat,st:=λi=>bY 27 29 [(0,sv s),(1,sv t),(12,iv s.len),(13,iv i)] [] m h})] [] [] false
def bdX(n:Int)(m:MH)(h:PH)(K:cq):=
  K (Aw (n !=n)) m h
def bdQ(n:Int)(m:MH)(h:PH)(K:cq):=
  K (Aw (n !=n)) m h
def Nd(a b:Int)(m:MH)(h:PH)(K:cq):=
  ∃(n:Int),mG a n/\∃(c:Int),mG b c/\aY a b (K (jA (Int.negSucc 0)) m h) (gA a b (K (jA 1) m h) (K (jA 0) m h))
def bgX(a b:Int)(m:MH)(h:PH)(K:cq):=
  ∃(n:Int),mG a n/\∃(c:Int),mG b c/\aY a b (K (jA (Int.negSucc 0)) m h) (gA a b (K (jA 1) m h) (K (jA 0) m h))
def TY(a b:VV)(m:MH)(h:PH)(K:cq):=
  ∃(r:Bool),gX (Af 30 a.enc b.enc r) r (K (jA 0) m h) (Hn (λc d=>gX (cT (jA a.kind) b.kind=cT (jA c) d) (DD c d !=0) (K (jA (DD c d)) m h) (Hn (λe f=>gX (cT (jA a.int) b.int=cT (jA e) f) (DD e f !=0) (K (jA (DD e f)) m h) (∃(g j:ByteArray),tN (rZ a.text) (rZ b.text)=tN (rZ g) (rZ j)/\K (jA (Sr g j)) m h)))))
def Uo(a b:VV)(m:MH)(h:PH)(K:cq):=
  aY a.kind b.kind (K (jA (Int.negSucc 0)) m h) (gA a.kind b.kind (K (jA 1) m h) (aY a.int b.int (K (jA (Int.negSucc 0)) m h) (dQ (decide (a.int>b.int)) (K (jA 1) m h) (Op.bytesLess (D6 a) (D6 b)) (K (jA (Int.negSucc 0)) m h) (pI (Bool.or (Op.bytesLess (D6 a) (D6 b)) (D6 a==D6 b)) (K (jA 1) m h) (K (jA 0) m h)))))
def TZ(s t:Sl)(m:MH)(h:PH)(K:cq):=
  nI (λI x=>aA (I x) (aI s) (aA (aI t) (Bj 156) (aA (aI s) (bI s) (aA (bA x) (m=m) (bU h h))))) (λI e x=>I x->aY (↑x:Int) (aG s) (bK (λb o=>aA (aR s.a b o) (0<=(↑x:Int)) ((↑x:Int)<aG s/\∃(y:VV),aK m h b (bL o x 3) y.enc/\iO (↑x:Int) (aG t) (K (jA 1) m h) (bK (λf g=>aA (aR t.a f g) (0<=(↑x:Int)) ((↑x:Int)<aG t/\∃(j:VV),aK m h f (bL g x 3) j.enc/\∃(a c:VV),gX (eU y.enc (lV j)=eU a.enc (lV c)) (pN a c !=0) (K (jA (pN a c)) m h) (∃(d:Nat),aA (I d) (e d<e x) (aA (aI s) (aI t) (aA (Bj 156) (aI s) (aA (bI s) (iH (bE x 1)=bP d) (eM m m h h))))))))))) (aY (aG s) (aG t) (K (jA (Int.negSucc 0)) m h) (K (jA 0) m h)))
abbrev pX(a:Sl->cz->Prop):=∃(x:Sl)(c:cz),a x c
attribute [push_cast] pX
def bBQ(s t:Sl)(m:MH)(h:PH)(K:cq):=
  ∃(c:Sl),pX (λd a=>∃(b:cz),aA (dC s (gO t (mV 156 sJ))=dC c (gO d (mV 156 sJ))) (bQ h c a) (bQ h d b/\K (jA (fG a b)) m h))
def ah(s t:Sl)(m:MH)(h:PH)(K:cq):=
  nI (λI x=>aA (I x) (aI s) (aA (aI t) (bA x) (eM m m h h))) (λI e x=>I x->aY (↑x:Int) (aG s) (aY (↑x:Int) (aG t) (bK (λb o=>aA (aR s.a b o) (0<=(↑x:Int)) ((↑x:Int)<aG s/\∃(y:VV),aK m h b (bL o x 3) y.enc/\bK (λf g=>aA (aR t.a f g) (0<=(↑x:Int)) ((↑x:Int)<aG t/\∃(j:VV),aK m h f (bL g x 3) j.enc/\∃(a c:VV),gX (eU y.enc (lV j)=eU a.enc (lV c)) (pN a c !=0) (K (jA (pN a c)) m h) (∃(d:Nat),aA (I d) (e d<e x) (aA (aI s) (aI t) (dJ (iH (bE x 1)=bP d) m m h h)))))))) (aY (aG s) (aG t) (K (jA (Int.negSucc 0)) m h) (gA (aG s) (aG t) (K (jA 1) m h) (K (jA 0) m h)))) (aY (aG s) (aG t) (K (jA (Int.negSucc 0)) m h) (gA (aG s) (aG t) (K (jA 1) m h) (K (jA 0) m
 h))))
def Yi(s t:Sl)(m:MH)(h:PH)(K:cq):=
  dR (aG s) (aG t) (K bD m h) (nI (λI x=>aA (I x) (aI s) (aA (aI t) (bI s) (dJ (bA x) m m h h))) (λI d x=>I x->aY (↑x:Int) (aG s) (bK (λb o=>aA (aR s.a b o) (0<=(↑x:Int)) ((↑x:Int)<aG s/\∃(y:Sl),aK m h b (bL o x 1) (aL y)/\bK (λe f=>aA (aR t.a e f) (0<=(↑x:Int)) ((↑x:Int)<aG t/\∃(g:Sl),aK m h e (bL f x 1) (aL g)/\∃(j:Sl),pX (λn a=>∃(u:cz),aA (cD y g=cD j n) (bQ h j a) (bQ h n u/\dR (fG a u) 0 (K bD m h) (∃(c:Nat),aA (I c) (d c<d x) (aA (aI s) (aI t) (aA (bI s) (iH (bE x 1)=bP c) (aA (m=m) (h=h) True))))))))))) (K jF m h)))
theorem Jc{a b}:DD a b=0↔a=b:=by
 unfold DD;omega
theorem Jd:∀a b:dg,Lib.compareBytes a b=0↔a=b
 |[],[]=>by simp[Lib.compareBytes]
 |[],_::_=>by simp[Lib.compareBytes]
 |_::_,[]=>by simp[Lib.compareBytes]
 |a::l,b::bs=>by
  simp only[Lib.compareBytes,List.cons.injEq];split
  .grind
  .split
   .grind
   .rename_i c d;rw[Jd l bs]
    grind
theorem blX{a b}:Sr a b=0↔a=b:=by
 unfold Sr;rw[Jd];constructor
 .intro h;cases a;cases b;simp only[ByteArray.mk.injEq];exact Array.toList_inj.1 h
 grind
theorem NB{a b}:pN a b=0↔a=b:=by
 obtain⟨k,i,t⟩:=a;obtain⟨d,f,g⟩:=b;simp only[pN,VV.mk.injEq];split
 .rename_i h;exact⟨λe=>absurd e h,λe=>absurd (Jc.2 e.1) h⟩
 .rename_i h;have h:=Classical.not_not.1 h;split
  .rename_i c;exact⟨λe=>absurd e c,λe=>absurd (Jc.2 e.2.1) c⟩
  .rename_i c;have c:=Classical.not_not.1 c;rw[blX];simp[Jc.1 h,Jc.1 c]
theorem lG:∀{a b:cz},fG a b=0↔a=b
 |[],[]=>by simp[fG]
 |[],_::_=>by simp[fG]
 |_::_,[]=>by simp[fG]
 |x::xs,y::ys=>by
  simp only[fG,List.cons.injEq];split
  .rename_i h;exact⟨λe=>absurd e h,λe=>absurd (NB.2 e.1) h⟩
  .rename_i h;rw[lG (a:=xs),NB.1 (Classical.not_not.1 h)];simp
theorem QO:∀a b:dg,(Op.bytesLess a b=true↔Lib.compareBytes a b= -1)/\(Lib.compareBytes a b= -1\/Lib.compareBytes a b=0\/Lib.compareBytes a b=1)
 |[],[]=>by simp[Lib.compareBytes,Op.bytesLess]
 |[],_::_=>by simp[Lib.compareBytes,Op.bytesLess]
 |_::_,[]=>by simp[Lib.compareBytes,Op.bytesLess]
 |a::l,b::bs=>by
  obtain⟨c,d⟩:=QO l bs;simp only[Lib.compareBytes,Op.bytesLess]
  grind
theorem aKQ{a b}(c:K (cI (DD a b)) m h):Nd a b m h K:=by
 dsimp only[Nd,push_cast];refine⟨a,rfl,b,rfl,aF (λd=>?_) (λd=>aF (λe=>?_) (λe=>?_))⟩
 .rw[DD,if_pos d]at c;exact c
 .rw[DD,if_neg d,if_pos e]at c;exact c
 .rw[DD,if_neg d,if_neg e]at c;exact c
theorem ZV:cm 241 czX:=by
 refine jC func241 ?_;rintro c m h K ⟨n,rfl,d⟩;refine⟨dK [] [] [] [] false,rfl,aH,bdX n m h K,ax,?_⟩;exact(by show K (cB (n !=n)) m h;grind)
theorem ZU:cm 242 czX:=by
 refine jC func242 ?_;rintro c m h K ⟨n,rfl,d⟩;refine⟨dK [] [] [] [] false,rfl,aH,bdQ n m h K,ax,?_⟩;exact(by show K (cB (n !=n)) m h;grind)
theorem acZ:cm 199 aTZ:=by
 refine jC func199 ?_;rintro c m h K ⟨a,b,rfl,d⟩;refine⟨dK [(241,czX)] [] [] [] false,rfl,aE ZV aH,Nd a b m h K,ax,?_⟩;exact aKQ d
theorem acX:cm 200 aTZ:=by
 refine jC func200 ?_;rintro c m h K ⟨a,b,rfl,d⟩;refine⟨dK [(242,czX)] [] [] [] false,rfl,aE ZU aH,bgX a b m h K,ax,?_⟩;exact aKQ d
theorem acQ:cm 201 cHX:=by
 refine⟨⟨Tryz.f201,func201,rfl,az⟩,?_⟩;rintro j g m h w K ⟨a,b,rfl,n⟩ c
 obtain⟨v,d,rfl⟩:∃v d,g=[v,d]:=by
  have:=(rH c.args).1
  match g,this with
  |[v,d],_=>grind
 have o:v= .string a:=c.args.1;have f:d= .string b:=c.args.2.1;subst o f;refine(Tryz.strings_Compare a b w).mono ?_;rintro e u ⟨rfl,rfl⟩;exact⟨_,_,m,h,rfl,n,rfl,Me c,λb t=>by simp[cI,j6]at t⟩
theorem JT:cm 156 UP:=by
 refine jC func156 ?_;rintro e m h K ⟨a,b,rfl,c⟩;refine⟨dK [(199,aTZ),(200,aTZ),(201,cHX)] [] [] [] false,rfl,aE acZ (aE acX (aE acQ aH)),TY a b m h K,ax,?_⟩;dsimp only[TY,push_cast];refine⟨_,VL a b,aD (λd=>?_) (λd=>⟨_,_,rfl,aD (λf=>?_) (λf=>⟨_,_,rfl,aD (λg=>?_) (λg=>⟨_,_,rfl,?_⟩)⟩)⟩)⟩
 .rw[NB.2 (VM.1 d)]at c;exact c
 .rw[pN,if_pos bg]at c;exact c
 .rw[pN,if_neg bg,if_pos bg]at c;exact c
 .rw[pN,if_neg bg,if_neg bg]at c;exact c
theorem aqQ:cm 119 UP:=by
 refine jC func119 ?_;rintro z m h K ⟨a,b,rfl,c⟩;refine⟨dK [] [] [] [] false,rfl,aH,Uo a b m h K,ax,?_⟩;dsimp only[Uo,push_cast];unfold pN DD Sr at c;obtain⟨o,t⟩:=QO a.text.data.toList b.text.data.toList;refine aF (λd=>?_) (λd=>aF (λf=>?_) (λf=>aF (λg=>?_) (λg=>aF (λu=>?_) (λu=>aD (λj=>?_) (λj=>aD (λn=>?_) (λn=>?_))))))
 .rw[if_pos d]at c;exact c
 .rw[if_neg d,if_pos f]at c;exact c
 .rw[if_neg d,if_neg f,if_pos g]at c;exact c
 .rw[if_neg d,if_neg f,if_neg g,if_pos u]at c;exact c
 all_goals rw[if_neg d,if_neg f,if_neg g,if_neg u]at c
 all_goals rw[ByteArray.toList_eq,ByteArray.toList_eq]at j
 .rw[if_neg ay,if_neg ay,o.1 j]at c;exact c
 .have y:Lib.compareBytes a.text.data.toList b.text.data.toList=1:=by
   rcases t with e|e|e
   .grind
   .rw[Jd]at e;rw[ByteArray.toList_eq,ByteArray.toList_eq,e]at n;simp at n
   .exact e
  rw[if_neg ay,if_neg ay,y]at c;exact c
 .have y:Lib.compareBytes a.text.data.toList b.text.data.toList=0:=by
   rw[ByteArray.toList_eq,ByteArray.toList_eq,j]at n;rw[Jd];grind
  rw[if_neg ay,if_neg ay,y]at c;exact c
theorem Uw{a b:cz}{x y}(hx:a[i]? =some x)(c:b[i]? =some y):fG (a.drop i) (b.drop i)=if pN x y≠0 then pN x y else fG (a.drop (i+1)) (b.drop (i+1)):=by
 rw[drop_cons hx,drop_cons c,fG]
theorem akX:cm 155 cHJ:=by
 refine jC func155 ?_;rintro D m h K ⟨s,t,a,b,rfl,o,C,d⟩;refine⟨bJJ s t m h,rfl,aE JT aH,TZ s t m h K,ax,?_⟩;dsimp only[TZ,push_cast];have z:=bM.slen o;have f:=bM.slen C;have E:=o.len;refine⟨λi=>i<=a.length/\i<=b.length/\fG a b=fG (a.drop i) (b.drop i),λi=>a.length-i,⟨0,⟨aC,aC,ay⟩,MT⟩,λi⟨S,T,e⟩=>aF (λg=>?_) (λA=>?_)⟩
 .obtain⟨x,B⟩:=fK z g;obtain⟨F,G,u,H,I,rfl⟩:=bM.at o B;refine⟨F,G,H,aC,g,x,.imm I,aF (λA=>?_) (λc=>?_)⟩
  .rw[e,drop_cons B,drop_eq_nil_of_le (show b.length<=i by omega),fG]at d;exact d
  .have c:(i:Int)<(t.len:Int):=by omega
   obtain⟨y,j⟩:=fK f c;obtain⟨J,L,u,M,O,rfl⟩:=bM.at C j;rw[Uw B j]at e;refine⟨J,L,M,aC,c,y,.imm O,x,y,rfl,aD (λP=>?_) (λQ=>⟨i+1,⟨aC,aC,?_⟩,(show a.length-(i+1)<a.length-i by omega),MT⟩)⟩
   .rw[e,if_pos bg]at d;exact d
   grind
 .have:a.drop i=[]:=drop_eq_nil_of_le aC;rw[this]at e;refine aF (λR=>?_) (λR=>?_)
  .obtain⟨y,j⟩:=fK (l:=b) (i:=i) (n:=t.len) f aC;rw[e,drop_cons j,fG]at d;exact d
  .rw[e,drop_eq_nil_of_le aC,fG]at d;exact d
theorem E4:cm 93 Jv:=by
 refine jC func93 ?_;rintro c m h K ⟨s,t,a,b,rfl,d,e,f⟩;refine⟨dK [(155,cHJ)] [] [] [] false,rfl,aE akX aH,bBQ s t m h K,ax,?_⟩;exact⟨s,t,a,b,rfl,d,e,f⟩
theorem aa:cm 55 Jv:=by
 refine jC func55 ?_;rintro F m h K ⟨s,t,a,b,rfl,A,E,c⟩;refine⟨f55_ctx s t m h,rfl,aE aqQ aH,ah s t m h K,ax,?_⟩;dsimp only[ah,push_cast];have f:=bM.slen A;have g:=bM.slen E;have G:=A.len;refine⟨λi=>i<=a.length/\i<=b.length/\fG a b=fG (a.drop i) (b.drop i),λi=>a.length-i,⟨0,⟨aC,aC,ay⟩,MT⟩,λi⟨T,U,j⟩=>aF (λe=>aF (λd=>?_) (λB=>?_)) (λB=>?_)⟩
 .obtain⟨x,o⟩:=fK f e;obtain⟨y,z⟩:=fK g d;obtain⟨H,I,u,J,L,rfl⟩:=bM.at A o;obtain⟨M,O,u,P,Q,rfl⟩:=bM.at E z;rw[Uw o z]at j;refine⟨H,I,J,aC,e,x,.imm L,M,O,P,aC,d,y,.imm Q,x,y,rfl,aD (λR=>?_) (λS=>⟨i+1,⟨aC,aC,?_⟩,(show a.length-(i+1)<a.length-i by omega),MT⟩)⟩
  .rw[j,if_pos bg]at c;exact c
  grind
 .obtain⟨x,o⟩:=fK f e;rw[j,drop_cons o,drop_eq_nil_of_le (show b.length<=i by omega),fG]at c;exact aF (λC=>aC) (λC=>aF (λD=>c) (λD=>aC))
 .rw[j,drop_eq_nil_of_le (show a.length<=i by omega)]at c;refine aF (λC=>?_) (λC=>aF (λD=>aC) (λD=>?_))
  .obtain⟨y,z⟩:=fK (l:=b) (i:=i) (n:=t.len) g aC;rw[drop_cons z,fG]at c;exact c
  .rw[drop_eq_nil_of_le aC,fG]at c;exact c
theorem TR:cm 16 bZJ:=by
 refine jC func16 ?_;rintro G m h K ⟨s,t,a,b,rfl,o,C,D⟩;refine⟨cuJ s t m h,rfl,aE aa aH,Yi s t m h K,ax,?_⟩;dsimp only[Yi,push_cast];have c:=bM.slen o;have f:=bM.slen C;have H:=o.len;have E:a≠b->K (cB false) m h:=λh=>D false ⟨λe=>(by cases e),λe=>(h e).elim⟩;refine aD (λz=>E (λe=>QP c f z (by rw[e]))) (λz=>?_);have I:=MG c f z;refine⟨λi=>i<=a.length/\∀j:Nat,j<i->a[j]? =b[j]?,λi=>a.length-i,⟨0,⟨aC,λj W=>by omega⟩,MT⟩,λi F=>aF (λd=>?_) (λJ=>?_)⟩
 .obtain⟨x,A⟩:=fK c d;obtain⟨y,B⟩:∃y,b[i]? =some y:=fK (n:=s.len) aC d;obtain⟨L,M,u,O,P,Q⟩:=bM.at o A;obtain⟨R,S,v,T,U,V⟩:=bM.at C B;refine⟨L,M,O,aC,d,u,.imm P,R,S,T,aC,aC,v,.imm U,u,v,x,y,rfl,Q,V,aD (λg=>E (SS A B (λe=>?_))) (λX=>?_)⟩
  .rw[lG.2 e]at g;cases g
  .exact⟨i+1,⟨aC,AS A B (lG.1 bg) F.2⟩,(show a.length-(i+1)<a.length-i by omega),MT⟩
 .exact D true ⟨λ_=>C4 I aC F.2,λ_=>rfl⟩
structure HO(h:PH)(P:cz->Prop) where
 s:Sl
 l:cz
 ok:bQ h s l
 pr_:P l
def HO.pr{h P}(x:HO h P):=(x.s,x.l)
def BU h{R}(x:HO h R):Value:=.slice x.s.a x.s.len x.s.cap
theorem NN{w w':World}(c:w'.tape=w.tape)(d:w'.os=w.os)(e:w'.output=w.output)(f:w.drawn<=w'.drawn)(g:w.heap.size<=w'.heap.size)(j:∀b,b<w.heap.size->w'.heap[b]? =w.heap[b]?):
 ∃q n,w'=Sort.grow (w.drewN q) n:=by
 refine⟨w'.drawn-w.drawn,w'.heap.extract w.heap.size w'.heap.size,?_⟩;obtain⟨A,B,C,D,E⟩:=w';obtain⟨o,t,u,y,z⟩:=w;dsimp only at c d e f g j;subst c d e;unfold Sort.grow World.drewN;dsimp only;congr 1
 .grind
 .omega
structure cHZ(P:Program)(R:cz->Prop)(g:Nat)(cb:cr)(m2:MH)(h:PH)(cf:cz->cz->Int):Prop where
 ex:∃S,Sound P g S/\∀x y:HO h R,S ([cS x.s,cS y.s]++cb.map .val) m2 h (λr m' h'=>r=cI (cf x.l y.l)/\m'=m2/\h'=h)
theorem bUX{P R g cb m2 h}[Inhabited (HO h R)]{cf}(I:cHZ P R g cb m2 h cf){w blk off size}(Q:∀b o v,h b o=some v->w.cell? ⟨b,o,none⟩=some v/\b≠blk)(hm:∀b o,m2 b=some o->w.heap[b]? =some o/\b≠blk)(T:∀b o,m2 b=some o->∀i,h b i=none):
 CmpLays1 P g cb.toArray (BU h (R:=R)) (λx y=>cf x.l y.l) blk off size w:=by
 obtain⟨S,J,U⟩:=I.ex;intro D L E V x y;obtain⟨W,M⟩:∃W,Go.Proofs.sortWorld (BU h (R:=R)) w blk off D E L=W:=⟨_,rfl⟩
 rw[M]
 have F:∀b,b<w.heap.size->b≠blk->W.heap[b]? =w.heap[b]? :=λb n G=>by
  rw[<-M];show((Sort.putRow (BU h) (Sort.ahead w D) blk off E).heap++L)[b]? =_;have J:(Sort.putRow (BU h) (Sort.ahead w D) blk off E).heap.size=w.heap.size:=by unfold Sort.putRow Sort.mapBlock;simp[Sort.ahead]
  rw[Array.getElem?_append_left aC];unfold Sort.putRow Sort.mapBlock;simp only[Array.getElem?_modify,if_neg (Ne.symm G)];rfl
 have t:∀(l:cr)(w:World),DA w (l.map .val) l:=λl w=>by
  induction l with
  |nil=>trivial
  |cons a l X=>exact⟨rfl,X⟩
 have A:∀(l:cr)(i:Nat)(c:CV)(u:Value)(b:Nat),(l.map CV.val)[i]? =some c->j6 c u=some b->False:=λl i c u b f n=>by
  rw[getElem?_map]at f;cases e:l[i]? with
  |none=>grind
  |some v=>rw[e]at f;simp at f;subst f;simp[j6]at n
 have Y:[cS x.s,cS y.s]++cb.map .val=([BU h x,BU h y]++cb).map .val:=by simp[cS,BU]
 have B:CS W m2 h ([cS x.s,cS y.s]++cb.map .val) ([BU h x,BU h y]++cb):=by
  rw[Y];refine⟨t _ _,?_,?_,T,λi j c d u v b f _ _ _ n _=>(A _ i c u b f n).elim,λi c u b f _ n=>(A _ i c u b f n).elim⟩
  .intro b o v Z;obtain⟨C,h2⟩:=Q b o v Z;rw[World.cell?_of_block (w:=w) (w':=W) (a:=⟨b,o,none⟩) (F b (World.block_lt_of_cell? w ⟨b,o,none⟩ C) h2)];exact C
  grind
 have:=J.2 _ _ m2 h W _ (U x y) B;have e2:(([BU h x,BU h y]++cb).toArray:Array Value)= #[BU h x,BU h y]++cb.toArray:=ay
 rw[e2]at this;refine this.mono ?_;rintro e w' ⟨r,u,m',h',rfl,⟨rfl,rfl,rfl⟩,H,z,_⟩;have hu:u= .int .i64 (cf x.l y.l):=H;subst hu;refine⟨rfl,NN z.tape z.os z.output z.drawn z.size (λb n=>?_)⟩;cases O:m' b with
 |none=>
  refine z.frame b n ?_;rintro(C|⟨i,c,u,f,_,I⟩)
  .exact C O
  grind
 |some o=>rw[z.msat b o O];grind
theorem Qp{α}[Inhabited α]{d:Array α}{c}(h:Sort.PermIn 0 d.size d c):c.toList.Perm d.toList:=by
 obtain⟨e,_,f⟩:=h;have g:d.extract 0 d.size=d:=ay
 have j:c.extract 0 d.size=c:=bg
 grind
theorem SX{h:PH}{R:cz->Prop}:∀(ps:dl),(∀p∈ps,bQ h p.1 p.2)->(∀p∈ps,R p.2)->∃ds:List (HO h R),ds.map HO.pr=ps
 |[],_,_=>⟨[],rfl⟩
 |p::ps,e,f=>by
  obtain⟨ds,c⟩:=SX (R:=R) ps (λq d=>e q (mem_cons_of_mem _ d)) (λq d=>f q (mem_cons_of_mem _ d));exact⟨⟨p.1,p.2,e p (mem_cons_self ..),f p (mem_cons_self ..)⟩::ds,by rw[map_cons,c];rfl⟩
theorem Mk{R:cz->Prop}{w m h s g cb ps cf m2 t}(a':t= .func (.func g) #[] cb.toArray)(D:CS w m h [cS s,.val t] [s.val,t])(hg:∃O,Tryz.prog.funcs[g]? =some O/\O.body.isSome=true/\(O.name== "runtime.NumGoroutine")=false)(hr:cL m s 65 1 (ps.map λp=>eS p.1))(hv:∀p∈ps,bQ h p.1 p.2)(hR:∀p∈ps,R p.2)(b0:ps.length<=140737488355328)(hO:Sort.SWO (Go.Proofs.ltOf (fun(x y:HO h R)=>cf x.l y.l)))(hc:cHZ Tryz.prog R g cb m2 h cf)(H:∀b o,m2 b=some o->m b=some o/\∀i,s.a≠some ⟨b,i,none⟩){K:cq}(hK:∀(I:dl)(m':MH),I.Perm ps->I.Pairwise (λp q=>¬cf q.2 p.2<0)->cL m' s 65 1 (I.map λp=>eS p.1)->(∀b,(∀i,s.a≠some ⟨b,i,none⟩)->m' b=m b)->K (.tup []) m' h):
 Calls Tryz.prog 135 #[s.val,t] w λe w'=>∃r u m' h',e= .returned u/\K r m' h'/\Jh w' r u/\DF ⟨w,yZ m [cS s,.val t] [s.val,t],h,[]⟩ m' h' w'/\(∀b,j6 r u=some b->(w.heap.size<=b\/yZ m [cS s,.val t] [s.val,t] b)/\m' b=none/\∀i,h' b i=none):=by
 subst a';by_cases F:ps=[]
 .subst F;have a0:s.len=0:=by have:=cL.slen hr;grind
  have:=AnyF.slices_SortFunc_none Tryz.sortN s.a s.cap (.func (.func g) #[] cb.toArray) w;rw[show s.val= .slice s.a 0 s.cap by rw[<-a0];rfl];refine Calls.mono (show Calls Tryz.prog 135 #[.slice s.a 0 s.cap,.func (.func g) #[] cb.toArray] w _ from this) ?_;rintro e w' ⟨rfl,rfl⟩;exact⟨.tup [],.tuple #[],m,h,rfl,hK [] m (.refl _) .nil hr (λ_ _=>rfl),⟨#[],rfl,rfl⟩,⟨rfl,rfl,rfl,Nat.le_refl _,Nat.le_refl _,λ_ _ _=>rfl,D.hsat,D.msat,D.disj,λ_ _ _ e=>e,λ_ _ _=>rfl,λb o hb=>.inr (.inl bg)⟩,λb hb=>by simp[j6]at hb⟩
 obtain⟨p0,P⟩:=exists_mem_of_ne_nil _ F
 haveI:Inhabited (HO h R):=⟨⟨p0.1,p0.2,hv p0 P,hR p0 P⟩⟩
 rcases hr.ex with⟨rfl,hx⟩|⟨b,z,A,rfl,Q,h0,h1,h2,h3⟩
 .exact(F (bk hx)).elim
 .simp only[length_map]at h0 h3;have J:=D.msat b _ Q;have S:=(Array.getElem?_eq_some_iff.1 J).1;obtain⟨B,T⟩:∃B:List (HO h R),B.map HO.pr=ps:=SX ps hv hR;have U:B.length=ps.length:=bg
  have V:∀j,(G:j<B.length)->A[j]? =some (BU h B[j]):=λj G=>by
   have:(A.toList.take (ps.length*1))[j]? =((ps.map λp=>eS p.1).flatten)[j]? :=by rw[h3]
   rw[getElem?_take,if_pos aC,cg]at this;rw[this, <-T]
   have hf:((B.map HO.pr).map λp:Sl×cz=>eS p.1).flatten=B.map (BU h):=by
    clear T U G this
    induction B with
    |nil=>rfl
    |cons a l ih=>simp only[map_cons,flatten_cons,ih];rfl
   grind
  have a1:A.size=z:=by omega
  have hH:Sort.Holds (BU h) w b 0 B.toArray:=by
   intro j G;have G:j<B.length:=by omega
   refine⟨?_,?_⟩
   .rw[cell_of_heap J,cg,Nat.zero_add,V j G,getElem!_pos _ j aC];simp
   .unfold World.frozen?
    grind
  obtain⟨O,a2,b1,b3⟩:=hg
  have eg:∀args w,(callFunc g args).run Tryz.prog w= .ok (.enter g args) w:=λargs w=>by
   have a3:¬O.body=none:=bg
   have a4:¬O.name= "runtime.NumGoroutine" :=bg
   simp[callFunc,program,Sem.run,a2,a4,a3]
  have W:=bUX (blk:=b) (off:=0) (size:=B.toArray.size) hc (w:=w) (λc o v C=>⟨D.hsat c o v C,λe=>by rw[e,D.disj b _ Q o]at C;cases C⟩) (λc o d=>⟨D.msat c o (H c o d).1,λe=>(H c o d).2 0 (by rw[e])⟩) (λc o d=>D.disj c o (H c o d).1);have L:=Any.slices_SortFunc Tryz.sortF (BU h) (λ_=>rfl) (λx y=>cf x.l y.l) hO g cb.toArray b 0 z B.toArray w eg W hH S bf;have e3:(Sl.val ⟨some ⟨b,0,none⟩,(ps.map λp=>eS p.1).length,z⟩)= .slice (some ⟨b,0,none⟩) B.toArray.size z:=by simp[Sl.val,U]
  rw[e3];refine Calls.mono L ?_;rintro e w' ⟨rfl,f,n,os,X,a5,rfl⟩;have a6:f.size=B.length:=by have:=X.1;omega
  have a7:=Qp X;obtain⟨m',E⟩:∃m',lI m m' b (.cells (Sort.putCells (BU h) 0 f A) 65 (0,0)):=⟨λc=>if c=b then some (.cells (Sort.putCells (BU h) 0 f A) 65 (0,0))else m c,ay,λc d=>by simp[d]⟩
  have b4:(Sort.putRow (BU h) (Sort.ahead w n) b 0 f).heap.size=w.heap.size:=by unfold Sort.putRow Sort.mapBlock;simp[Sort.ahead]
  have b2:(Go.Proofs.sortWorld (BU h) w b 0 n f os).heap[b]? =some (.cells (Sort.putCells (BU h) 0 f A) 65 (0,0)):=by
   show((Sort.putRow (BU h) (Sort.ahead w n) b 0 f).heap++os)[b]? =_;rw[Array.getElem?_append_left aC];unfold Sort.putRow Sort.mapBlock;simp only[Array.getElem?_modify,if_true];show Option.map _ w.heap[b]? =_;rw[J];rfl
  have Y:∀c,c<w.heap.size->c≠b->(Go.Proofs.sortWorld (BU h) w b 0 n f os).heap[c]? =w.heap[c]? :=λc d M=>by
   show((Sort.putRow (BU h) (Sort.ahead w n) b 0 f).heap++os)[c]? =_;rw[Array.getElem?_append_left aC];unfold Sort.putRow Sort.mapBlock;simp only[Array.getElem?_modify,if_neg (Ne.symm M)];rfl
  have hE:yZ m [cS ⟨some ⟨b,0,none⟩,(ps.map λp=>eS p.1).length,z⟩,.val (.func (.func g) #[] cb.toArray)] [.slice (some ⟨b,0,none⟩) B.toArray.size z,.func (.func g) #[] cb.toArray] b:=.inl (by rw[Q];simp);refine⟨.tup [],.tuple #[],m',h,rfl,hK (f.toList.map HO.pr) m' ?_ ?_ ?_ (λc d=>E.other c (λe=>d 0 (by rw[e]))),⟨#[],rfl,rfl⟩,⟨rfl,rfl,rfl,Nat.le_add_right _ _,?_,?_,?_,?_,?_,λ_ _ _ e=>e,λ_ _ _=>rfl,?_⟩,λb hb=>by simp[j6]at hb⟩
  .grind
  .rw[pairwise_map,pairwise_iff_getElem];intro i j hi G a8 Z;have hi:i<f.size:=by omega
   have G:j<f.size:=by omega
   have:=a5 i j (Nat.zero_le _) a8 bf;rw[getElem!_pos f i hi,getElem!_pos f j G]at this;unfold Go.Proofs.ltOf at this;simp only[decide_eq_false_iff_not]at this;simp only[Array.getElem_toList]at Z;exact this Z
  .refine⟨⟨λe he=>?_,λe he u hu=>?_⟩,.inr ⟨b,z,_,?_,E.at_,bf,h1,?_,?_⟩⟩
   .obtain⟨x,_,rfl⟩:=mem_map.1 he;rfl
   .obtain⟨x,_,rfl⟩:=mem_map.1 he;have:u= .slice x.1.a x.1.len x.1.cap:=by simpa[eS]using hu
    rw[this];rfl
   .grind
   .simp[Sort.putCells,a1]
   .apply ext_getElem?;intro j
    have hf:((f.toList.map HO.pr).map λp:Sl×cz=>eS p.1).flatten=f.toList.map (BU h):=by
     generalize f.toList=l
     induction l with
     |nil=>rfl
     |cons a l ih=>simp only[map_cons,flatten_cons,ih];rfl
    rw[hf,getElem?_take];simp only[length_map,Array.length_toList,Nat.mul_one];by_cases G:j<f.size
    .rw[if_pos G,cg,getElem?_map,cg,Array.getElem?_eq_getElem G];have a9:j<A.size:=by omega
     simp only[Sort.putCells,Array.getElem?_mapIdx,Array.getElem?_eq_getElem a9,Option.map_some,Nat.zero_le,Nat.zero_add,Nat.sub_zero,true_and]
     grind
    grind
  .grind
  .grind
  .intro c o v C;have M:c≠b:=λe=>by rw[e,D.disj b _ Q o]at C;cases C
   have h5:=D.hsat c o v C;rw[World.cell?_of_block (w:=w) (a:=⟨c,o,none⟩) (Y c (World.block_lt_of_cell? w ⟨c,o,none⟩ h5) M)];exact h5
  .intro c o d;by_cases e:c=b
   .subst e;rw[E.at_]at d;grind
   .rw[E.other c e]at d;have h5:=D.msat c o d
    grind
  .intro c o d i;by_cases e:c=b
   .subst e;exact D.disj c _ Q i
   .rw[E.other c e]at d;exact D.disj c o d i
  .intro c o d;by_cases e:c=b
   .grind
   .rw[E.other c e]at d;exact .inr (.inl bg)
end Go.Ps
namespace Go.Vc
open Go List
theorem cL.rd{m h s E sz xs}(r:cL m s E sz xs){i e}(c:xs[i]? =some e):∃b,s.a=some ⟨b,0,none⟩/\aK m h b (i*sz) e:=by
 rcases r.ex with⟨_,rfl⟩|⟨b,o,d,rfl,t,A,B,C,u⟩
 .simp at c
 .refine⟨b,rfl,.lent d E (0,0) t ?_⟩;have y:=(bm c);have f:=r.rows.len e (bo c)
  have g:∀(l:List cr)(k:Nat),(∀x∈l,x.length=sz)->l[k]? =some e->(l.flatten.drop (k*sz)).take sz=e:=by
   intro l
   induction l with
   |nil=>grind
   |cons a l D=>
    intro k z F;have j:=z a (mem_cons_self ..);cases k with
    |zero=>
     grind
    |succ k=>
     rw[flatten_cons,Nat.succ_mul,Nat.add_comm, <-drop_drop, <-j,drop_left,j]
     grind
  have n:=g xs i r.rows.len c;rw[f];rw[<-u]at n;rw[drop_take,take_take]at n
  grind
theorem vI.sub{m m' h s sz c}(r:vI m h s sz c)(d:∀b o,m b=some o->m' b=some o):vI m' h s sz c:=by
 rcases r with r|⟨b,o,e,E,f,g,j,n,t⟩
 .exact .imm r
 .exact .lent b o e E f g j (d _ _ n) t
theorem cL.src{m h s E sz xs}(r:cL m s E sz xs):vI m h s sz xs:=by
 rcases r.ex with⟨rfl,rfl⟩|⟨b,d,c,rfl,e,f,g,j,n⟩
 .exact .imm (dH.nil h sz)
 .refine .lent b 0 c E (0,0) rfl rfl e ?_
  grind
end Go.Vc
namespace Go.Ps
open Go Go.Vc Go.Proofs List Tryz
variable{K:cq}{m:MH}{h:PH}{s:jZ}{ps:cn}{cb:Nat}{sc:bT}{v:QV}{p:Pred}{l:cn}{i:Nat}{N:Nat}{m':MH}{h':PH}{co:cn}{gr:cn}{od:cv}{ta:Int}{li:Int}{xs:List cr}{sz:Nat}{ks:List cn}{rs:cn}{r:Sl}{a:cn}{b:Nat}
structure UQ{α:Type}(c:α->α->Int):Prop where
 anti:∀x y,c x y= -c y x
 trans:∀x y z,c x y<=0->c y z<=0->c x z<=0
theorem UQ.zero{α}{c:α->α->Int}(h:UQ c){x y z}(d:c x y<=0)(e:c y z<=0)(f:c x z=0):c x y=0/\c y z=0:=by
 have g:=h.anti x z;have j:=h.anti x y;have n:=h.anti y z;have o:=h.trans z x y aC d;have t:=h.trans y z x e aC;omega
theorem Vu{c d:Int}(h:(if c≠0 then c else d)<=0):c<=0:=by
 omega
theorem UQ.lex{α}{c:α->α->Int}{d}(h:UQ c)(k:UQ d):UQ (λx y=>if c x y≠0 then c x y else d x y):=by
 refine⟨λx y=>?_,λx y z f g=>?_⟩
 .have a:=h.anti x y;have b:=k.anti x y;omega
 .have j:c x y<=0:=Vu f;have n:c y z<=0:=Vu g;have o:=h.trans x y z j n;show(if c x z≠0 then c x z else d x z)<=0;by_cases e:c x z=0
  .obtain⟨t,u⟩:=h.zero j n e;have f:(if c x y≠0 then c x y else d x y)<=0:=f;have g:(if c y z≠0 then c y z else d y z)<=0:=g;rw[if_neg aC]at f;rw[if_neg aC]at g;rw[if_neg (bk e)];exact k.trans x y z f g
  omega
theorem UQ.of{α β c}(h:UQ c)(f:β->α):UQ (λx y=>c (f x) (f y)):=⟨λx y=>h.anti _ _,λx y z=>h.trans _ _ _⟩
theorem YF:UQ DD:=by
 refine⟨λx y=>?_,λx y z=>?_⟩
 .unfold DD;omega
 .unfold DD;omega
theorem Uy:∀a b:dg,Lib.compareBytes a b= -Lib.compareBytes b a
 |[],[]=>rfl
 |[],_::_=>rfl
 |_::_,[]=>rfl
 |a::l,b::k=>by
  simp only[Lib.compareBytes];by_cases c:a<b
  .grind
  .by_cases d:b<a
   .simp[c,d]
   .simp only[c,d,if_false];exact Uy l k
theorem RN:∀a b c:dg,Lib.compareBytes a b<=0->Lib.compareBytes b c<=0->Lib.compareBytes a c<=0
 |[],_,[],_,_=>by simp[Lib.compareBytes]
 |[],_,_::_,_,_=>by simp[Lib.compareBytes]
 |_::_,[],_,f,_=>by simp[Lib.compareBytes]at f
 |_::_,_::_,[],_,d=>by simp[Lib.compareBytes]at d
 |a::l,b::k,c::q,f,d=>by
  simp only[Lib.compareBytes]at f d⊢
  by_cases g:a<c
  .simp[g]
  .by_cases j:a<b
   .grind
   .by_cases n:b<a
    .grind
    .have e:a=b:=UInt8.le_antisymm (UInt8.not_lt.1 n) (UInt8.not_lt.1 j);subst e;simp only[j,g,if_false]at f d⊢
     by_cases o:c<a
     .grind
     .simp only[o,if_false]at d⊢
      exact RN l k q f d
theorem L0:UQ pN:=by
 have c:UQ Sr:=⟨λx y=>Uy _ _,λx y z=>RN _ _ _⟩
 exact(YF.of VV.kind).lex ((YF.of VV.int).lex (c.of VV.text))
theorem qH:∀a b,fG a b= -fG b a
 |[],[]=>rfl
 |[],_::_=>rfl
 |_::_,[]=>rfl
 |x::l,y::k=>by
  have a:=L0.anti x y;simp only[fG];by_cases e:pN x y=0
  .rw[if_neg (bk e),if_neg aC];exact qH l k
  omega
theorem Ds:∀a b c,fG a b<=0->fG b c<=0->fG a c<=0
 |[],_,[],_,_=>by simp[fG]
 |[],_,_::_,_,_=>by simp[fG]
 |_::_,[],_,d,_=>by simp[fG]at d
 |_::_,_::_,[],_,f=>by simp[fG]at f
 |x::l,y::k,z::q,d,f=>by
  simp only[fG]at d f⊢
  have g:pN x y<=0:=Vu d;have j:pN y z<=0:=Vu f;have n:=L0.trans x y z g j;by_cases e:pN x z=0
  .obtain⟨o,t⟩:=L0.zero g j e;rw[if_neg aC]at d;rw[if_neg aC]at f;rw[if_neg (bk e)];exact Ds l k q d f
  omega
theorem HK:UQ fG:=⟨qH,Ds⟩
theorem UQ.swo{R cf}(c:UQ cf):Sort.SWO (Go.Proofs.ltOf (fun(x y:HO h R)=>cf x.l y.l)):=by
 refine⟨λx=>?_,λx y z d f=>?_,λx y z d f=>?_⟩
 .have:=c.anti x.l x.l;unfold Go.Proofs.ltOf;simp;omega
 .unfold Go.Proofs.ltOf at*
  simp only[ce]at*
  have t:=c.trans x.l y.l z.l aC aC;by_cases e:cf x.l z.l=0
  .have:=c.zero (x:=x.l) (y:=y.l) (z:=z.l) aC aC e;omega
  .omega
 .unfold Go.Proofs.ltOf at*
  simp only[decide_eq_false_iff_not]at*
  have g:=c.anti x.l y.l;have j:=c.anti y.l z.l;have n:=c.anti x.l z.l;have t:=c.trans z.l y.l x.l aC aC;omega
def MP(x:cz):ct->ct
 |[]=>[x]
 |y::l=>if fG x y<0 then x::y::l else if fG x y=0 then y::l else y::MP x l
def Fp(l:ct):=l.foldr MP []
abbrev lJ(l:ct):=l.Pairwise λx y=>fG x y<0
theorem QZ{x z:cz}:∀{l:ct},z∈MP x l↔z=x\/z∈l
 |[]=>by simp[MP]
 |y::l=>by
  simp only[MP];split
  .simp
  .split
   .rename_i _ e;have:=lG.1 e
    grind
   .simp only[mem_cons,QZ (l:=l)]
    grind
theorem Ol{x:cz}:∀{l:ct},lJ l->lJ (MP x l)
 |[],_=>by simp[MP]
 |y::l,h=>by
  obtain⟨g,f⟩:=pairwise_cons.1 h;simp only[MP];split
  .rename_i d;refine pairwise_cons.2 ⟨λz c=>?_,h⟩;rcases mem_cons.1 c with rfl|c
   .exact d
   .have t:=Ds x y z aC bg;by_cases e:fG x z=0
    .have:=HK.zero (x:=x) (y:=y) (z:=z) aC bg e;omega
    .omega
  .split
   .exact h
   .rename_i j n;refine pairwise_cons.2 ⟨λz c=>?_,Ol f⟩;rcases QZ.1 c with rfl|c
    .have:=qH z y;omega
    grind
theorem Da{x:cz}:∀{l:ct},x∈Fp l↔x∈l
 |[]=>by simp[Fp]
 |y::l=>by
  show x∈MP y (Fp l)↔_;rw[QZ,Da,mem_cons]
theorem Hd:∀(l:ct),lJ (Fp l)
 |[]=>.nil
 |_::l=>Ol (Hd l)
theorem Jz:∀{a b:ct},lJ a->lJ b->(∀x,x∈a↔x∈b)->a=b
 |[],[],_,_,_=>rfl
 |[],y::_,_,_,h=>by have:=(h y).2 ay;simp at this
 |x::_,[],_,_,h=>by have:=(h x).1 ay;simp at this
 |x::a,y::b,c,d,h=>by
  obtain⟨f,g⟩:=pairwise_cons.1 c;obtain⟨j,n⟩:=pairwise_cons.1 d;have o:∀z,¬fG z z<0:=λz=>by have:=qH z z;omega
  have e:x=y:=by
   rcases mem_cons.1 ((h x).1 ay)with e|t
   .exact e
   .rcases mem_cons.1 ((h y).2 ay)with e|u
    .exact e.symm
    .have B:=f y u;have C:=j x t;have:=qH x y;omega
  subst e;congr 1;refine Jz g n (λz=>⟨λA=>?_,λA=>?_⟩)
  .grind
  grind
theorem aBQ{l r}(c:lJ r)(d:∀x,x∈r↔x∈l):r=Fp l:=Jz c (Hd l) λx=>by rw[d,Da]
def aUQ:Vc.Spec:=λc m h K=>∃(s:Sl)(d:cw),c=[cS s]/\vI m h s 1 (d.map eS)/\d.length<=502633886983/\∀e m',cL m' e 65 1 (d.map eS)->(∀b o,m b=some o->m' b=some o)->(∀b i,e.a=some ⟨b,i,none⟩->m b=none)->K (cS e) m' h
def bXJ:Vc.Spec:=λd m h K=>∃(s:Sl)(ps:dl),d=[cS s,.val (.func (.func 93) #[] #[])]/\cL m s 65 1 (ps.map λp=>eS p.1)/\(∀p∈ps,bQ h p.1 p.2)/\ps.length<=140737488355328/\
 ∀(c:dl)(m':MH),c.Perm ps->c.Pairwise (λp q=>¬fG q.2 p.2<0)->cL m' s 65 1 (c.map λp=>eS p.1)->(∀b,(∀i,s.a≠some ⟨b,i,none⟩)->m' b=m b)->K (.tup []) m' h
structure fE(h:PH)(us:cw)(rs:ct):Prop where
 len:us.length=rs.length
 at_:∀(j:Nat) x,rs[j]? =some x->∃u,us[j]? =some u/\bQ h u x
def bYZ:Vc.Spec:=λc m h K=>∃s d l,c=[cS s]/\vI m h s 1 (d.map eS)/\fE h d l/\l.length<=502633886983/\∀e h',PH.le h h'->Rows h' e (Fp l)->K (cS e) m h'
noncomputable def ckJ:=
 dK [(134,aUQ),(135,bXJ),(93,Jv)] [(5,{A:=Nat×cw×Sl×MH×PH,st:=λ⟨i,c,s,m,h⟩=>bY 38 39 [(3,sv s),(4,.at (.lst 35)),(11,sv s),(12,iv s.len),(13,iv i)] [(35,.lst 65 1 (c.map eS))] m h})] [] [] false
def RA(n c:Nat)(m:MH)(h:PH)(K:cq):=
  K EH m h
theorem bNZ n c m h K:RA n c m h K=(xH (qD [] [] [] [] [58,1058] [] false) Tryz.f134 (eD Tryz.f134) (entry Tryz.f134.ntmps [.val (.slice none n c)] m h) K):=ax
abbrev jW(a:Sl->MH->Prop):=∀(x:Sl)(c:MH),a x c
abbrev FF(a:Prop)(b:(List cr)->Prop):=a/\∃(x:List cr),b x
attribute [push_cast] jW FF
def Rz(a:Addr)(n c:Nat)(m:MH)(h:PH)(K:cq):=
  jW (λs d=>sE m d h s 65 1 []->∃(x:List cr),FF (cL d (dL s) 65 1 x) (λy=>aA (gC 1 y) (vI d h (Sl.mk (Option.some a) n c) 1 y) (aA (sQ x y 24) (sR x y) (jW (λe f=>gK d f (dL s) e 65 1 (x++y)->K (nW e) f h)))))
theorem bNX a n c m h K:Rz a n c m h K=(xH (qD [] [] [] [] [58,1058] [] false) Tryz.f134 (eD Tryz.f134) (entry Tryz.f134.ntmps [.val (.slice (some a) n c)] m h) K):=ax
abbrev KJ(a:Nat)(b:cw)(c:MH->Nat->Obj->Prop)(d:Sl->MH->Prop):=∀(x:Sl)(e:MH),bH (cL e x 65 a (fJ b)) (∀(f:Nat)(g:Obj),c e f g) (d x e)
abbrev Gr(a:MH)(b:Nat):=a b=Option.none
abbrev FL a b c:=cL a b 65 1 (List.map (fun(x:Sl×cz)=>aL x.1) c)
abbrev Pq(a:(Nat×cw×Sl×MH×PH->Prop)->(Nat×cw×Sl×MH×PH)->Prop)(b:(Nat×cw×Sl×MH×PH->Prop)->(Nat×cw×Sl×MH×PH->Nat)->(Nat×cw×Sl×MH×PH)->Prop):=∃(x:Nat×cw×Sl×MH×PH->Prop)(d:Nat×cw×Sl×MH×PH->Nat),(∃(c:Nat×cw×Sl×MH×PH),a x c)/\∀(c:Nat×cw×Sl×MH×PH),b x d c
abbrev iI(a:Nat×cw×Sl×MH×PH):=a.2.2.1
abbrev A4 a:=bW 65 1 []=oI 65 1 a
abbrev kF(a:Nat×cw×Sl×MH×PH):=a.2.2.2
abbrev rQ a:=(kF a).2
abbrev Gu(a:List cr):=[]++a
abbrev QF(a b:Prop)(c:(Nat×cw×Sl×MH×PH)->Prop):=aA a b (∃(x:Nat×cw×Sl×MH×PH),c x)
abbrev rO(a:Nat×cw×Sl×MH×PH):=fJ a.2.1
abbrev xO a b c:=bW 65 1 (dP a (aL b))=oI 65 1 c
abbrev iJ(a b:MH×PH):=bO a.1 b
abbrev tC a b:=oI 65 1 a=oI 65 1 b
abbrev eO(a b:MH×PH):=cF a.2 b
attribute [push_cast] KJ Gr FL Pq iI A4 kF rQ Gu QF rO xO iJ tC eO
def Rf s m h K:=
  ∃(D:Sl)(u:cw),aA (eY (nW s) (nW D)) (vI m h D 1 (fJ u)) (u.length<=502633886983/\KJ 1 u (λn b o=>m b=Option.some o->n b=Option.some o) (λg n=>(∀(b i:Nat),aR g.a b i->Gr m b)->∃(z:Sl)(p:dl),aA (gO g (mV 93 sJ)=gO z (mV 93 sJ)) (FL n z p) (aA (∀(e:Sl×cz),List.Mem e p->bQ h e.1 e.2) (oK p.length) (∀(e:dl)(B:MH),bH (List.Perm e p) (List.Pairwise (fun(H:Sl×cz)=>fun(q:Sl×cz)=>¬(fG q.2 H.2<0)) e) (bH (FL B z e) (∀(b:Nat),(∀(i:Nat),mW (aR z.a b i))->B b=n b) (Pq (λI x=>aA (I x) (aW g (iI x)) (aA (eL 35) (aW g (iI x)) (aA (bN g (iI x)) (bA x.1) (aA (A4 x.2.1) (bO B (kF x)) (kY (cF
 h (kF x))))))) (λI f x=>I x->aY (↑x.1:Int) (aG (iI x)) (bK (λb o=>aA (aR (iI x).a b o) (0<=(↑x.1:Int)) ((↑x.1:Int)<aG (iI x)/\∃(y:Sl),aK (kF x).1 (rQ x) b (bL o x.1 1) (aL y)/\fC (↑x.1:Int) 0 (∃(d:List cr),aA (gC 3 d) (dH (rQ x) (dL y) 3 d) (aA (jN (0+d.length) 32) (oK (0+d.length)) (cK (rQ x) 3 (Gu d) (λA C=>QF (lL (rO x)) (eA (rO x)) (λc=>aA (I c) (f c<f x) (aA (aW (iI x) (iI c)) (eL 35) (aA (aW (iI x) (iI c)) (bN (iI x) (iI c)) (aA (iH (bE x.1 1)=bP c.1) (xO (rO x) A c.2.1) (aA (iJ (kF x) (kF c)) (cF C (kF c)) True))))))))) (bK (λE F=>aA (aR (iI x).a E F) (0<=iF ((↑x.1:Int)-1))
 (iF ((↑x.1:Int)-1)<aG (iI x)/\∃(d:Sl),aK (kF x).1 (rQ x) E (gH F (iF ((↑x.1:Int)-1)) 1) (aL d)/\∃(A:Sl),pX (λt a=>∃(G:cz),aA (cD d y=cD A t) (bQ (rQ x) A a) (bQ (rQ x) t G/\dR (fG a G) 0 (∃(j:List cr),aA (gC 3 j) (dH (rQ x) (dL y) 3 j) (aA (jN (0+j.length) 32) (oK (0+j.length)) (cK (rQ x) 3 (Gu j) (λJ C=>QF (lL (rO x)) (eA (rO x)) (λc=>aA (I c) (f c<f x) (aA (aW (iI x) (iI c)) (eL 35) (aA (aW (iI x) (iI c)) (bN (iI x) (iI c)) (aA (iH (bE x.1 1)=bP c.1) (xO (rO x) J c.2.1) (aA (iJ (kF x) (kF c)) (cF C (kF c)) True))))))))) (∃(c:Nat×cw×Sl×MH×PH),aA (I c) (f c<
 f x) (aA (aW (iI x) (iI c)) (eL 35) (aA (aW (iI x) (iI c)) (bN (iI x) (iI c)) (aA (iH (bE x.1 1)=bP c.1) (tC x.2.1 c.2.1) (aA (iJ (kF x) (kF c)) (eO (kF x) (kF c)) True))))))))))))) (vU (rQ x) (rO x) K (kF x).1))))))))
theorem BN(l:cw):gC 1 (l.map eS):=by
 constructor
 .intro e c;obtain⟨x,_,rfl⟩:=mem_map.1 c;rfl
 .intro e c u d;obtain⟨x,_,rfl⟩:=mem_map.1 c;have:u= .slice x.a x.len x.cap:=by simpa[eS]using d
  rw[this];rfl
theorem Qd(l:cz):gC 3 (l.map VV.enc):=by
 constructor
 .intro e c;obtain⟨x,_,rfl⟩:=mem_map.1 c;rfl
 .intro e c u d;obtain⟨x,_,rfl⟩:=mem_map.1 c;simp only[VV.enc,mem_cons,not_mem_nil,or_false]at d;rcases d with rfl|rfl|rfl<;>rfl
theorem aoZ:cm 134 aUQ:=by
 refine fW (fn:=Tryz.f134) (c:=eD Tryz.f134) func134 rfl az ?_;rintro B m h K ⟨s,t,rfl,g,F,u⟩;obtain⟨a,n,c⟩:=s;refine⟨qD [] [] [] [] [58,1058] [] false,rfl,aH,?_⟩;cases a with
 |none=>
  show xH _ Tryz.f134 (eD Tryz.f134) (entry Tryz.f134.ntmps [.val (.slice none n c)] m h) K;rw[<-bNZ n c m h K];dsimp only[RA,push_cast]
  have e:t.map eS=[]:=by
   rcases g with g|⟨b,o,G,E,H,e,_⟩
   .rcases g.row with e|⟨b,o,e,_⟩
    .exact e
    .cases e
   .cases e
  rw[e]at u;exact u ⟨none,0,0⟩ m ⟨⟨(λe y=>by cases y),(λe y=>by cases y)⟩,.inl ⟨rfl,rfl⟩⟩ (λb o e=>e) (λb i e=>by cases e)
 |some a=>
  show xH _ Tryz.f134 (eD Tryz.f134) (entry Tryz.f134.ntmps [.val (.slice (some a) n c)] m h) K;rw[<-bNX a n c m h K];dsimp only[Rz,push_cast];intro s m' d
  have sub:∀b o,m b=some o->m' b=some o:=λb o f=>by
   rw[d.other b (λi e=>by rw[(d.fresh b i e).m_]at f;cases f)];exact f
  refine⟨[],d.row,t.map eS,BN t,g.sub sub,bf,bf,λC D z=>u C D (bk z.row) (λb o f=>?_) (λb i e=>?_)⟩
  .exact z.other b o (sub b o f) (λi e=>by have e:s.a=some ⟨b,i,none⟩:=e;rw[(d.fresh b i e).m_]at f;cases f)
  .rcases z.fresh b i e with A|⟨j,A⟩
   .cases I:m b with
    |none=>rfl
    |some o=>grind
   .exact(d.fresh b j A).m_
theorem Ym:cm 135 bXJ:=by
 refine⟨⟨Tryz.f135,func135,rfl,az⟩,?_⟩;rintro f e m h w K ⟨s,ps,rfl,j,n,t,u⟩ c
 obtain⟨v,d,rfl⟩:∃v d,e=[v,d]:=by
  have:=(rH c.args).1
  match e,this with
  |[v,d],_=>grind
 have z:v=s.val:=c.args.1;have A:d= .func (.func 93) #[] #[]:=c.args.2.1;subst z A;refine Mk (R:=λ_=>True) (g:=93) (cb:=[]) (m2:=λ_=>none) (cf:=fG) rfl c ⟨Tryz.f93,func93,rfl,az⟩ j n (λ_ _=>trivial) t HK.swo ⟨Jv,E4,λx y=>⟨x.s,y.s,x.l,y.l,rfl,x.ok,y.ok,rfl,rfl,rfl⟩⟩ (λb o B=>by cases B) u
theorem fE.mono{us rs}(x:fE h us rs)(le:PH.le h h'):fE h' us rs:=⟨x.len,λj r d=>(x.at_ j r d).imp λ_ c=>⟨c.1,bQ.mono c.2 le⟩⟩
theorem fE.nil h:fE h [] []:=⟨rfl,λj x c=>by simp at c⟩
theorem fE.snoc{us rs}(x:fE h us rs){u r}(d:bQ h u r):fE h (us++[u]) (rs++[r]):=by
 refine⟨by simp[x.len],λj y c=>?_⟩;by_cases f:j<rs.length
 .rw[getElem?_append_left f]at c;obtain⟨v,g,n⟩:=x.at_ j y c
  grind
 .rw[getElem?_append_right aC]at c;have:=(bm c);simp at this;have e:j=rs.length:=by omega
  subst e;simp at c;subst c;exact⟨u,by rw[getElem?_append_right (by rw[x.len];omega),x.len];simp,d⟩
theorem fE.rows{h us rs s}(x:fE h us rs)(c:dH h s 1 (us.map eS))(d:rs.length<=502633886983):Rows h s rs:=⟨⟨us,c,x.len.symm,x.at_⟩,d⟩
structure awJ(ps':dl)(s1:Sl)(m2:MH)(h:PH)(i:Nat)(us2:cw)(s2:Sl)(mx:MH)(hx:PH):Prop where
 s_:s2=s1
 m_:mx=m2
 le:PH.le h hx
 hi:i<=ps'.length
 hu:us2.length<=i
 ex:∃rs,fE hx us2 rs/\lJ rs/\∀x,x∈rs↔x∈(ps'.take i).map Prod.snd
theorem OB{hx u r us}{Q:Sl->PH->Prop}(c:bQ hx u r)(y:us.length<=502633886983)(f:∀s h',hx.le h'->bQ h' s r->Q s h'):
 ∃d:List cr,gC 3 d/\dH hx (Sl.mk u.a u.len u.cap) 3 d/\(0+d.length)*32<=140737488355328/\0+d.length<=140737488355328/\∀(s:Sl)(h':PH),hx.le h'->dH h' s 3 ([]++d)->
  ((List.map eS us).length+1)*24<=140737488355328/\(List.map eS us).length<140737488355328/\Q s h':=by
 obtain⟨e,g,j,n⟩:=c.ex;have o:=c.len;refine⟨e.map VV.enc,Qd e,g,bg,bg,λs h' le t=>⟨bg,bg,f s h' le ⟨⟨e,t,j,n⟩,o⟩⟩⟩
theorem cPZ{s us l}(hr:vI m h s 1 (us.map eS))(F:fE h us l)(b4:l.length<=502633886983)(hK:∀s' h',PH.le h h'->Rows h' s' (Fp l)->K (cS s') m h'):Rf s m h (lZ h K):=by
 dsimp only[Rf,push_cast];have b5:=F.len.symm;have b6:=F.at_;refine⟨s,us,rfl,hr,aC,λs1 m1 a0 a1 b2=>⟨s1,us.zip l,rfl,?_,λp G=>?_,bf,λc m2 d P f a2=>?_⟩⟩
 .have:(us.zip l).map (λp=>[dW p.1])=us.map eS:=by
   rw[show(λp:Sl×cz=>[dW p.1])=eS∘Prod.fst from rfl, <-map_map,map_fst_zip aC]
  grind
 .obtain⟨j,C⟩:=getElem?_of_mem G;rw[getElem?_zip_eq_some]at C
  grind
 .have b7:c.length=us.length:=by rw[d.length_eq];simp;omega
  have Q:=cL.slen f;simp only[length_map]at Q
  have R:∀{i:Nat}{p:Sl×cz},c[i]? =some p->bQ h p.1 p.2:=fun{i p} G=>by
   have:=d.mem_iff.1 (bo G);obtain⟨j,C⟩:=getElem?_of_mem this;rw[getElem?_zip_eq_some]at C
   grind
  have b3:∀x,x∈c.map Prod.snd↔x∈l:=λx=>by
   rw[(d.map Prod.snd).mem_iff,map_snd_zip aC]
  have H:∀b o,m b=some o->m2 b=some o:=λb o hb=>by
   grind
  refine⟨λx=>awJ c s1 m2 h x.1 x.2.1 x.2.2.1 x.2.2.2.1 x.2.2.2.2,λx=>c.length-x.1,⟨(0,[],s1,m2,h),⟨rfl,rfl,.refl _,ay,ay,[],.nil h,.nil,ay⟩,MT⟩,?_⟩;rintro⟨i,n,I,J,S⟩ ⟨e1,e2,le,hi,a3,rs,u,L,D⟩;dsimp only at e1 e2 le hi a3 u;subst e1 e2;refine aF (λT=>?_) (λa4=>?_)
  .dsimp only at T;have U:i<c.length:=by omega
   obtain⟨p,G⟩:∃p,c[i]? =some p:=⟨_,bn U⟩
   obtain⟨b,e1,r1⟩:=f.rd (h:=S) (i:=i) (e:=eS p.1) (by simp[G];rfl);have M:=bQ.mono (R G) le
   have a5:∀x,x∈(c.take (i+1)).map Prod.snd↔x∈(c.take i).map Prod.snd\/x=p.2:=λx=>by
    rw[cd,G];simp
   have V:(∀y∈rs,fG y p.2<0)->∀(s:Sl)(h':PH),S.le h'->bQ h' s p.2->awJ c I J h (i+1) (n++[s]) I J h':=λhc s h' g A=>by
    refine⟨rfl,rfl,le.trans g,aC,bf,rs++[p.2],(u.mono g).snoc A,pairwise_append.2 ⟨L,ay,λy O z hz=>?_⟩,λx=>?_⟩
    .grind
    grind
   have keep:p.2∈rs->awJ c I J h (i+1) n I J S:=λhc=>
    ⟨rfl,rfl,le,aC,aC,rs,u,L,λx=>bg⟩
   refine⟨b,0,e1,aC,T,p.1,by simpa[eS]using r1,aD (λh0=>?_) (λh0=>?_)⟩
   .have h0:i=0:=bg
    subst h0
    have b8:rs=[]:=by
     cases rs with
     |nil=>rfl
     |cons y _=>have:=(D y).1 ay;simp at this
    exact OB M bg (λs h' g A=>⟨(0+1,n++[s],I,J,h'),V bg s h' g A,bg,rfl,rfl,rfl,rfl,rfl,by simp[eS],rfl,rfl,trivial⟩)
   .have h0:i≠0:=bg
    have hw:IntKind.i64.wrap ((i:Int)-1)=((i-1:Nat):Int):=by rw[fL aC aC];omega
    obtain⟨q,W⟩:∃q,c[i-1]? =some q:=⟨_,bn aC⟩
    obtain⟨b',a6,a7⟩:=f.rd (h:=S) (i:=i-1) (e:=eS q.1) (by simp[W];rfl);have a8:=bQ.mono (R W) le
    have X:q.2∈rs:=by
     rw[D];refine mem_map.2 ⟨q,?_,rfl⟩;exact mem_of_getElem? (i:=i-1) bg
    have B:∀y∈rs,fG y q.2<=0:=λy O=>by
     rw[D]at O;obtain⟨z,hz,rfl⟩:=mem_map.1 O;obtain⟨j,C⟩:=getElem?_of_mem hz;have a9:=(bm C);simp only[length_take]at a9;rw[getElem?_take,if_pos aC]at C;by_cases e:j=i-1
     .subst e;rw[W]at C;cases C;have:=qH q.2 q.2;omega
     .have h1:=pairwise_iff_getElem.1 P j (i-1) aC aC aC;rw[(List.getElem?_eq_some_iff.1 C).2,(List.getElem?_eq_some_iff.1 W).2]at h1;have:=qH z.2 q.2;omega
    have Y:fG q.2 p.2<=0:=by
     have h1:=pairwise_iff_getElem.1 P (i-1) i aC aC aC;rw[(List.getElem?_eq_some_iff.1 G).2,(List.getElem?_eq_some_iff.1 W).2]at h1;have:=qH q.2 p.2;omega
    dsimp only;rw[hw];refine⟨b',0,a6,aC,aC,q.1,by simpa[eS]using a7,q.1,p.1,q.2,p.2,rfl,a8,M,aD (λb0=>?_) (λZ=>?_)⟩
    .have b0:fG q.2 p.2≠0:=bg
     refine OB M aC (λs h' g A=>⟨(i+1,n++[s],I,J,h'),V (λy O=>?_) s h' g A,aC,rfl,rfl,rfl,rfl,by rw[jK aC],by simp[eS],rfl,rfl,trivial⟩);have t:=Ds y q.2 p.2 (B y O) Y;by_cases e:fG y p.2=0
     .have:=HK.zero (B y O) Y e;omega
     .omega
    .have Z:fG q.2 p.2=0:=bg
     exact⟨(i+1,n,I,J,S),keep (by rw[<-lG.1 Z];exact X),aC,rfl,rfl,rfl,rfl,by rw[jK aC],rfl,rfl,rfl,trivial⟩
  .intro s3 h3 E a';dsimp only at a4 a' E;have b1:i=c.length:=by omega
   subst b1;rw[take_length]at D;have e:rs=Fp l:=aBQ L (λx=>bg);subst e;have hl:=u.len;exact⟨m,h3,H,le.trans E,.refl _,hK s3 h3 (le.trans E) ((u.mono E).rows a' aC)⟩
theorem IL:cm 71 bYZ:=by
 refine EY func71 ?_;rintro c m h K ⟨s,j,l,rfl,d,e,f,g⟩;refine⟨ckJ,rfl,aE aoZ (aE Ym (aE E4 aH)),Rf s m h (lZ h K),ax,?_⟩;exact cPZ d e f g
end Go.Ps
namespace Go.Vc
open Go List
section
variable{B:wL}{C:Ctx}{ι:dc}{σ:St}{a:Act}{w:World}{o:Oper}{K:St->Prop}
def R6(ι:dc)(σ:St)(b:Nat):=σ.m b≠none\/∃k o,nth σ.own k=some (some o)/\blk (ι k)=some b
def reB(ι:dc)(σ:St)(ds:List Deferred)(w:World):wL:=⟨w,R6 ι σ,σ.h,ds⟩
theorem aM.rebase(c:aM B ι σ a w):aM (reB ι σ a.defers w) ι σ a w:=by
 have f:=c.wrel;refine⟨c.slots,rfl,c.own,c.dist,λk o b g d=>?_,?_,c.one⟩
 .obtain⟨_,j,n⟩:=c.fresh k o b g d;exact⟨.inr (.inr ⟨k,o,g,d⟩),j,n⟩
 .exact⟨rfl,rfl,rfl,Nat.le_refl _,Nat.le_refl _,λ_ _ _=>rfl,f.hsat,f.msat,f.disj,λ_ _ _ e=>e,λ_ _ _=>rfl,
   λb o d=>.inr (.inl (by rw[d];simp))⟩
theorem aM.mine(c:aM B ι σ a w){b}(h:R6 ι σ b):(B.w0.heap.size<=b\/B.E b)/\b<w.heap.size/\∀i,σ.h b i=none:=by
 rcases h with h|⟨k,o,f,g⟩
 .cases e:σ.m b with
  |none=>grind
  |some d=>exact⟨c.wrel.mfr b d e,(Array.getElem?_eq_some_iff.1 (c.wrel.msat b d e)).1,c.wrel.disj b d e⟩
 .obtain⟨j,_,n⟩:=c.fresh k o b f g;exact⟨j,tL (c.own k o f) g,n⟩
theorem aM.unbase(u:aM B ι σ a w){ds y τ z w'}(h:aM (reB ι σ ds w) y τ z w'):aM {B with dfs:=ds} y τ z w':=by
 have d:=u.wrel;have c:=h.wrel
 have j:∀b,(w.heap.size<=b\/R6 ι σ b)->B.w0.heap.size<=b\/B.E b:=λb f=>by
  rcases f with n|n
  .exact .inl (cj d.size n)
  .exact(u.mine n).1
 refine⟨h.slots,h.defers,h.own,h.dist,λk o b A f=>?_,?_,h.one⟩
 .obtain⟨D,F,G⟩:=h.fresh k o b A f;exact⟨j b D,F,G⟩
 .have H:w.heap.size<=w'.heap.size:=c.size;refine⟨c.tape.trans d.tape,c.os.trans d.os,c.output.trans d.output,cj d.drawn c.drawn,cj d.size H,?_,c.hsat,c.msat,c.disj,λb i v e=>c.hle b i v (d.hle b i v e),?_,λb o f=>j b (c.mfr b o f)⟩
  .intro b f g
   have t:¬R6 ι σ b:=λI=>by
    grind
   have:=c.frame b (ck f d.size) t;rw[this];exact d.frame b f g
  .intro b f g
   have t:¬R6 ι σ b:=λI=>by
    grind
   have:τ.h b=σ.h b:=c.hold b (ck f d.size) t;rw[this];exact d.hold b f g
theorem aM.grown(g:aM B ι σ a w){w' row}(u:w.grownBy w' row)(y:w.drawn<=w'.drawn)(j:∀r,row=some r->B.w0.heap.size<=r/\¬R6 ι σ r/\∃ob:Obj,w.heap[r]? =some ob/\ob.isCells=false):aM B ι σ a w':=by
 have c:=g.wrel;have f:∀b,b<w.heap.size->(∀r,row=some r->b≠r)->w'.heap[b]? =w.heap[b]? :=λb d n=>u.block b d (λe=>n b e.symm rfl);have mine:∀b,R6 ι σ b->w'.heap[b]? =w.heap[b]? :=λb d=>f b (g.mine d).2.1 (λr e h=>(j r e).2.1 (h▸d));refine⟨g.slots,g.defers,λk o F=>(g.own k o F).world (λb d=>mine b (.inr ⟨k,o,F,d⟩)),g.dist,g.fresh,?_,g.one⟩;refine⟨u.tape.trans c.tape,u.os.trans c.os,u.output.trans c.output,cj c.drawn y,cj c.size u.size,?_,?_,?_,c.disj,c.hle,c.hold,c.mfr⟩
 .intro b d z;rw[f b (ck d c.size) (λr e h=>bg)];exact c.frame b d z
 .intro b i v G;have t:=c.hsat b i v G;have A:b<w.heap.size:=World.block_lt_of_cell? w ⟨b,i,none⟩ t
  have n:∀r,row=some r->b≠r:=λr e h=>by
   obtain⟨_,_,ob,D,E⟩:=j r e;unfold World.cell? at t;rw[h]at t;dsimp only at t;rw[D]at t;cases ob<;>simp[Obj.isCells]at E t
  rw[World.cell?_of_block (w:=w) (w':=w') (a:=⟨b,i,none⟩) (f b A n)];exact t
 .intro b o d;rw[mine b (.inl (by rw[d];simp))];exact c.msat b o d
def vP:Code->Bool
 |.skip=>true
 |.ret=>true
 |.exit _=>true
 |.region _ c _=>c.toList.all λo=>match o.op with|.defer _=>false|_=>true
 |.seq x y=>vP x&&vP y
 |.cond _ x y=>vP x&&vP y
 |.block _ x=>vP x
 |.loop x=>vP x
 |_=>false
def Plain(ops:Array Oper):=∀(i:Nat)(o:Oper),ops[i]? =some o->∀c,o.op≠ .defer c
theorem WV{ops}(h:(ops.toList.all λo=>match o.op with|.defer _=>false|_=>true)=true):Plain ops:=by
 intro i o d c e
 grind
theorem AV(l:Nat){P:Program}{ops:Array Oper}(c:Plain ops){Q:Exit->Act->World->Prop}:∀(L:di)(a:Act)(w:World),wpOpsIn Fence.wide 0 P ops Q L a w->wpOpsIn (Fence.wide.inRound l) 0 P ops Q L a w
 |[],_,_,h=>h
 |i::L,a,w,h=>by
  unfold wpOpsIn at h⊢
  cases d:ops[i]? with
  |none=>rw[d]at h;exact AV l c L a w h
  |some o=>
   rw[d]at h;dsimp only at h⊢
   split
   .rename_i e;rw[if_pos e]at h;exact PS l (c i o d) (Oper.wpIn_mono (λa w=>AV l c L a w) h)
   .rename_i e;rw[if_neg e]at h;exact⟨λ_ _=>trivial,AV l c L _ _ h.2⟩
theorem DI(l:Nat){P:Program}{g:Region.Mode}{ops:Array Oper}(c:Plain ops){Q:Exit->Act->World->Prop}(d:¬LetsOut Q):∀(n:Nat)(L:Array Bool)(a:Act)(w:World),wpAny P g ops Q n L a w->wpAnyIn (Fence.wide.inRound l) 0 P g ops Q n L a w
 |0,_,_,_,h=>h
 |n+1,L,a,w,h=>by
  refine⟨h.1,λi t=>?_⟩;have:=h.2 i t;unfold wpOp at this;unfold wpOpIn;cases e:ops[i]? with
  |none=>rw[e]at this;exact DI l c d n _ _ _ this
  |some o=>
   rw[e]at this;dsimp only at this⊢
   split
   .rename_i f;rw[if_pos f]at this;rcases this with j|j
    .exact PS l (c i o e) (Oper.wpIn_mono (λa w=>DI l c d n _ a w) (PT j))
    grind
   .rename_i f;rw[if_neg f]at this;exact⟨λ_ _=>trivial,DI l c d n _ _ _ this⟩
theorem GO{F n P Q a w c}(I:Nat->Act->World->Prop) u(h₀:I u a w)(d:∀k a w,I k a w->c.wpIn F n P (Exit.then (λy w'=>∃g,g<k/\I g y w') Q) a w):(Code.loop c).wpIn F n P Q a w:=by
 refine wpIn_loop (λa w=>∃k,I k a w) (λa w=>leastOf (λk=>I k a w)) ⟨u,h₀⟩ ?_;intro a w z;refine wpIn_mono (d _ a w (leastOf_spec z).1) ?_;intro e y w' j;cases e with
 |normal=>
  obtain⟨g,t,f⟩:=j;exact⟨⟨g,f⟩,Nat.lt_of_le_of_lt ((leastOf_spec ⟨g,f⟩).2 g f) t⟩
 |exit id=>exact j
 |ret=>exact j
 |goto l=>exact j
 |panic A=>exact j
 |outgrown=>exact j
theorem Sz l(F:∀g S,assoc C.specs g=some S->Sound C.P g S):∀(c:Code),vP c=true->∀(σ:St)(Q:GZ->St->Prop)(ι:dc)(a:Act)(w:World),aM B ι σ a w->VC C c σ Q->c.wpIn (Fence.wide.inRound l) 0 C.P (QD B Q) a w:=by
 intro c
 induction c with
 |skip=>intro u σ Q ι a w z h;exact wpIn_skip ⟨ι,σ,z,h⟩
 |label l=>intro u;cases u
 |exit id=>intro u σ Q ι a w z h;exact wpIn_exit ⟨ι,σ,z,h⟩
 |ret=>intro u σ Q ι a w z h;exact wpIn_ret ⟨ι,σ,z,h⟩
 |goto l=>intro u;cases u
 |refuse a9=>intro u;cases u
 |scope a8 ih=>intro u;cases u
 |rangeFunc f ps x y G W=>intro u;cases u
 |region id ops a3=>
  intro u σ Q ι a w z h;cases a3 with
  |false=>
   refine wpIn_region (AV l (WV u) _ _ _ ?_);have:=Mo F (ops:=ops) (Q:=Q) (Ze C id) ops.toList 0 ι σ a w (λj=>ay) z h;rw[range_eq_range'];omega
  |true=>
   simp only[VC]at h;split at h
   .rename_i h1 h2 h3;have a5:=bpJ h1 h2;refine wpIn_region_any h3 (DI l (WV u) (λ⟨_,_,e⟩=>e) _ _ _ _ ?_);refine UA F a5 (Q:=QD B Q) (R:=Q .normal) (λι σ a w z h=>⟨ι,σ,z,h⟩) (λc a w h=>h) ops.size ops.size _ ι σ a _ (z.drew (w.drawn+1) (Nat.le_succ _)) h _ a ?_ ?_
    .have U:∀i,(Array.replicate ops.size false).getD i false=true->False:=by
      intro i H;by_cases E:i<ops.size
      .simp[Array.getD,E]at H
      grind
     exact⟨ay,ay,λi H=>H,λi o _ H=>(U i H).elim,λi o _ H=>(U i H).elim,λi o _ H=>(U i H).elim,rfl,rfl,λt _=>rfl,λi o _ H=>(U i H).elim⟩
    .unfold xC;rw[filter_eq_self.2]
     .simp
     .intro i H;by_cases E:i<ops.size<;>simp[Array.getD,E]
   grind
 |seq x y G W=>
  intro u σ Q ι a w z h;obtain⟨J,a4⟩:=Bool.and_eq_true_iff.1 u;simp only[VC]at h;split at h
  .obtain⟨h,D⟩:=h;refine wpIn_seq (wpIn_mono (G J σ _ ι a w z h) ?_);intro e O T d;cases e with
   |normal=>
    obtain⟨V,σ',A,x,hx,X⟩:=d;show y.wpIn (Fence.wide.inRound l) 0 C.P (QD B Q) O T;obtain⟨ι2,L,_⟩:=qV A X
    grind
   |exit id=>exact d
   |ret=>exact d
   |goto l=>exact d
   |panic ch=>exact d
   |outgrown=>exact d
  .split at h
   .obtain⟨I,h,D⟩:=h;refine wpIn_seq (wpIn_mono (G J σ _ ι a w z h) ?_);intro e O T d;cases e with
    |normal=>
     obtain⟨V,σ',A,X⟩:=d;show y.wpIn (Fence.wide.inRound l) 0 C.P (QD B Q) O T;obtain⟨x,ι2,hx,L⟩:=BP A X
     grind
    |exit id=>exact d
    |ret=>exact d
    |goto l=>exact d
    |panic ch=>exact d
    |outgrown=>exact d
   .refine wpIn_seq (wpIn_mono (G J σ _ ι a w z h) ?_);intro e O T d;cases e with
    |normal=>
     obtain⟨V,σ',A,h'⟩:=d;show y.wpIn (Fence.wide.inRound l) 0 C.P (QD B Q) O T
     grind
    |exit id=>exact d
    |ret=>exact d
    |goto l=>exact d
    |panic ch=>exact d
    |outgrown=>exact d
 |cond c x y G W=>
  intro u σ Q ι a w z h;obtain⟨J,a4⟩:=Bool.and_eq_true_iff.1 u;simp only[VC]at h;split at h
  .rename_i t hc;have M:=z.ev c;rw[hc]at M;have M:a.eval c= .bool t:=M;rcases yX h with⟨rfl,h⟩|⟨rfl,h⟩
   .exact wpIn_cond_true M (G J _ Q ι a w (z.setTmp hc) h)
   .exact wpIn_cond_false M (W a4 _ Q ι a w (z.setTmp hc) h)
  grind
 |block id c ih=>
  intro u σ Q ι a w z h;refine wpIn_block (wpIn_mono (ih u σ _ ι a w z h) ?_);intro e O T d;cases e with
  |normal=>exact d
  |exit i=>
   obtain⟨V,σ',A,h'⟩:=d;show if i=id then _ else _
   simp only at h';split at h'
   .rename_i hb;rw[if_pos (ca hb)];exact⟨V,σ',A,h'⟩
   .rename_i hb;rw[if_neg (λe=>by subst e;simp at hb)];exact⟨V,σ',A,h'⟩
  |ret=>exact d
  |goto l=>exact d
  |panic ch=>exact d
  |outgrown=>exact d
 |loop c ih=>
  intro u σ Q ι a w z h;simp only[VC]at h;split at h
  .rename_i Y hl;obtain⟨⟨x,hx,X⟩,D⟩:=h;obtain⟨ι2,L,_⟩:=qV z X;refine GO (λn a w=>∃x ι,Y.inv x/\Y.mu x=n/\aM B ι (Y.st x) a w) (Y.mu x) ⟨x,ι2,hx,rfl,L⟩ ?_;rintro n O T ⟨x',V,Z,rfl,A⟩;refine wpIn_mono (ih u _ _ V O T A (D x' Z)) ?_;intro e a6 a7 d;cases e with
   |normal=>
    obtain⟨ι3,σ3,a0,y,hy,E,a1⟩:=d;obtain⟨ι4,a2,_⟩:=qV a0 a1;exact⟨Y.mu y,E,y,ι4,hy,rfl,a2⟩
   |exit id=>exact d
   |ret=>exact d
   |goto l=>exact d
   |panic ch=>exact d
   |outgrown=>exact d
  .split at h
   .rename_i Y hl;obtain⟨I,mu,X,D⟩:=h;obtain⟨x,ι2,hx,L⟩:=BP z X;refine GO (λn a w=>∃x ι,I x/\mu x=n/\aM B ι (Y.st x) a w) (mu x) ⟨x,ι2,hx,rfl,L⟩ ?_;rintro n O T ⟨x',V,Z,rfl,A⟩;refine wpIn_mono (ih u _ _ V O T A (D x' Z)) ?_;intro e a6 a7 d;cases e with
    |normal=>
     obtain⟨ι3,σ3,a0,a1⟩:=d;obtain⟨y,ι4,hy,E,a2⟩:=OD a0 a1;exact⟨mu y,E,y,ι4,hy,rfl,a2⟩
    |exit id=>exact d
    |ret=>exact d
    |goto l=>exact d
    |panic ch=>exact d
    |outgrown=>exact d
   grind
end
end Go.Vc
namespace Go.Vc
open Go List
def tO:Code->Bool
 |.seq x y=>tO x||tO y
 |.cond _ x y=>tO x||tO y
 |.block _ x=>tO x
 |.loop x=>tO x
 |.scope x=>tO x
 |.rangeFunc .. =>true
 |_=>false
structure YDo(P:Program)(l:Nat)(vs:cr)(m:MH)(h:PH)(R:Bool->MH->PH->Prop):Prop where
 go:∀w,Y5 w m h->∃fn tmps assign body,(Instr.yield l vs.toArray).run P w= .ok (.round l fn tmps assign body) w/\
  RoundIn Fence.wide 0 P l fn tmps assign body w λe w'=>∃u m' h',e= .returned (.bool u)/\R u m' h'/\V9 w m h m' h' w'
def bVJ(P:Program):Spec:=λc m h K=>∃(l:Nat)(d:cr)(R:Bool->MH->PH->Prop),c= .val (.func (.yield l) #[] #[])::d.map .val/\YDo P l d m h R/\∀u m' h',R u m' h'->K (.val (.bool u)) m' h'
theorem Oe:∀{l c:cr},l.map CV.val=c.map CV.val->l=c
 |[],[],_=>rfl
 |a::l,b::c,h=>by
  simp only[map_cons,List.cons.injEq,CV.val.injEq]at h;rw[h.1,Oe h.2]
 |[],_::_,h=>by simp at h
 |_::_,[],h=>by simp at h
theorem PR P:VY P (bVJ P):=⟨λl H m h w K⟨I,g,R,d,j,n⟩ t=>by
 simp only[List.cons.injEq,CV.val.injEq,Value.func.injEq,Fn.yield.injEq,and_true]at d;obtain⟨rfl,d⟩:=d;rw[Oe d];obtain⟨y,c,f,z,A,D⟩:=j.go w t;exact⟨y,c,f,z,A,D.mono λe J⟨u,m',h',E,F,G⟩=>⟨_,m',h',E,n u m' h' F,G⟩⟩⟩
def b4J(P:Program)(Src:PH->cr->List cr->Prop):Spec:=λd m h K=>∃(l:Nat)(c:cr)(xs:List cr)(J:Nat->MH->PH->Prop),
 d= .val (.func (.yield l) #[] #[])::c.map .val/\Src h c xs/\J 0 m h/\
 (∀k e m' h',xs[k]? =some e->PH.le h h'->J k m' h'->YDo P l e m' h' (λr g f=>r=true/\PH.le h' f/\J (k+1) g f))/\
 ∀r m' h',PH.le h h'->J xs.length m' h'->K r m' h'
structure HQ(P:Program)(g:FuncId)(Src:PH->cr->List cr->Prop):Prop where
 sound:Sound P g (b4J P Src)
def S4:SV->SV
 |.at (.val v)=>.at (.val v)
 |.agg c=>match xB c with|some _=>.agg c|none=>.at .junk
 |_=>.at .junk
def W6:Option Own->Option Own:=λ_=>none
def blank(σ:St)(m:MH)(h:PH):St:={sl:=σ.sl.map S4,own:=σ.own.map W6,m:=m,h:=h}
def Va(l:dx):List (Nat×SV)->dx
 |[]=>l
 |(p,x)::r=>Va (l.set p x) r
def aCX(σ:St)(es:List (Nat×SV))(m:MH)(h:PH):St:={sl:=Va (σ.sl.map S4) es,own:=σ.own.map W6,m:=m,h:=h}
def OZ(C:Ctx)(x y:Code)(σ:St)(es:List (Nat×SV))(m:MH)(h:PH)(R:MH->PH->Prop):=
 VC C x (aCX σ es m h) (λc τ=>match c with
  |.normal=>VC C y τ (λc υ=>match c with
   |.normal=>R υ.m υ.h
   |_=>False)
  |_=>False)
def ZD(C:Ctx)(f:Operand)(ps:Array Tmp)(x y:Code)(σ:St)(K:St->Prop):Prop:=
 match σ.ev f,vP x&&vP y with
 |.at (.val (.func (.func g) j c)),true=>match j.toList with
  |[]=>match ps.toList,C.elemT with
   |[p],[T]=>∃(Src:PH->cr->List cr->Prop)(xs:List (C.dec T).X)(I:Nat->MH->PH->Prop),HQ C.P g Src/\Src σ.h c.toList (xs.map λx=>[valOf C.P T ((C.dec T).enc x)])/\I 0 σ.m σ.h/\
    (∀(k:Nat)(e:(C.dec T).X)(m:MH)(h:PH),xs[k]? =some e->PH.le σ.h h->I k m h->OZ C x y σ [(p,mk C.P T (((C.dec T).enc e).map .val))] m h (I (k+1)))/\
    ∀(m:MH)(h:PH),PH.le σ.h h->I xs.length m h->K (blank σ m h)
   |[p,q],[T,U]=>∃(Src:PH->cr->List cr->Prop)(xs:List ((C.dec T).X×(C.dec U).X))(I:Nat->MH->PH->Prop),HQ C.P g Src/\Src σ.h c.toList (xs.map λx=>[valOf C.P T ((C.dec T).enc x.1),valOf C.P U ((C.dec U).enc x.2)])/\I 0 σ.m σ.h/\
    (∀(k:Nat)(e:(C.dec T).X)(d:(C.dec U).X)(m:MH)(h:PH),xs[k]? =some (e,d)->PH.le σ.h h->I k m h->OZ C x y σ [(p,mk C.P T (((C.dec T).enc e).map .val)),(q,mk C.P U (((C.dec U).enc d).map .val))] m h (I (k+1)))/\
    ∀(m:MH)(h:PH),PH.le σ.h h->I xs.length m h->K (blank σ m h)
   |_,_=>False
  |_=>False
 |_,_=>False
def VCF(C:Ctx):Code->St->(GZ->St->Prop)->Prop
 |.rangeFunc f ps x y,σ,Q=>ZD C f ps x y σ (Q .normal)
 |.seq a b,σ,Q=>match tO a||tO b with
  |false=>VC C (.seq a b) σ Q
  |true=>match bTZ C b with
   |some c=>∃I:c.A->Prop,VCF C a σ (λe τ=>match e with
    |.normal=>Kp c I τ
    |e=>Q e τ)/\∀x,I x->VCF C b (c.st x) Q
   |none=>VCF C a σ (λe τ=>match e with
    |.normal=>VCF C b τ Q
    |e=>Q e τ)
 |.block id c,σ,Q=>match tO c with
  |false=>VC C (.block id c) σ Q
  |true=>VCF C c σ (λe τ=>match e with
   |.exit i=>match Nat.beq i id with|true=>Q .normal τ|false=>Q (.exit i) τ
   |e=>Q e τ)
 |.cond c x y,σ,Q=>match tO x||tO y with
  |false=>VC C (.cond c x y) σ Q
  |true=>match σ.ev c with
   |.at (.val (.bool t))=>branch t (VCF C x (setTmp σ c true) Q) (VCF C y (setTmp σ c false) Q)
   |_=>False
 |c,σ,Q=>VC C c σ Q
def cbQ(C:Ctx)(σ:St):List ResultVar->(cr->Prop)->Prop
 |[],K=>K []
 |.cell t T::r,K=>match nth σ.sl t,kJ C.P T with
  |some (.at (.val (.pointer (some ⟨b,c,none⟩)))),true=>bTX C T (aK σ.m σ.h b c) λl=>match(mk C.P T (l.map .val)).val? with
   |some v=>cbQ C σ r (λrs=>K (v::rs))
   |none=>False
  |_,_=>False
 |_::_,_=>False
def Mu C fn K σ:=
 match JE C σ fn.results.toList with
 |some _=>SJ C fn K σ
 |none=>cbQ C σ fn.results.toList λrs=>match rs with
  |[r]=>K (.val r) σ.m σ.h
  |rs=>K (.tup (rs.map .val)) σ.m σ.h
def aGX C fn c σ K:=
 VCF C c σ (λe τ=>match e with
  |.normal=>Mu C fn K τ
  |.ret=>Mu C fn K τ
  |_=>False)
section
variable{B:wL}{C:Ctx}{ι:dc}{σ:St}{a:Act}{w:World}{K:St->Prop}
theorem a1Q{ι d x v}(h:Den ι x v):Den d (S4 x) v:=by
 cases x with
 |«at» y=>cases y<;>first|exact h|trivial
 |agg g=>
  simp only[S4];split
  .rename_i l e;obtain⟨f,rfl,c⟩:=h;rw[EJ e]at c⊢
   exact⟨f,rfl,by rw[kK.vals]at c⊢;exact c⟩
  .trivial
 |tup xs=>trivial
theorem Hu{ι c:dc}:∀{xs:dx}{vs:cr},DenS ι xs vs->DenS c (xs.map S4) vs
 |[],[],_=>trivial
 |_::_,_::_,h=>⟨a1Q h.1,Hu h.2⟩
 |[],_::_,h=>h.elim
 |_::_,[],h=>h.elim
theorem HZ(l:dv) k o:nth (l.map W6) k=some (some o)->False:=by
 rw[Cp];cases nth l k<;>simp[W6]
theorem aM.blank'{B sl}{l:dv}{m h a w}(d:DenS (λ_=>.slice none 0 0) sl a.tmps.toList)(e:a.defers=B.dfs)(f:DF B m h w):
 aM B (λ_=>.slice none 0 0) {sl:=sl,own:=l.map W6,m:=m,h:=h} a w:=
 ⟨d,e,λk o c=>(HZ l k o c).elim,λk _ o _ _ c=>(HZ l k o c).elim,λk o _ c=>(HZ l k o c).elim,f,λ_=>rfl⟩
def Dm(D:Nat):Deferred:={target:=.collected D,args:= #[]}
structure MM(B:wL)(ds:di)(ι:dc)(σ:St)(a:Act)(w:World):Prop where
 mod:aM {B with dfs:=ds.map Dm} ι σ a w
 size:∀D∈ds,B.w0.heap.size<=D
 mine:∀D∈ds,¬R6 ι σ D
 mark:∀D∈ds,w.heap[D]? =some (.deferred (some []))
 nodup:ds.Nodup
def QM(B:wL)(Q:GZ->St->Prop):Exit->Act->World->Prop
 |.normal,a,w=>∃c ι σ,MM B c ι σ a w/\Q .normal σ
 |.exit id,a,w=>∃c ι σ,MM B c ι σ a w/\Q (.exit id) σ
 |.ret,a,w=>∃c ι σ,MM B c ι σ a w/\Q .ret σ
 |_,_,_=>False
theorem MM.step{ds}(c:MM B ds ι σ a w){f τ g w'}(h:aM (reB ι σ (ds.map Dm) w) f τ g w'):MM B ds f τ g w':=by
 have j:∀D∈ds,D<w.heap.size:=λD d=>(Array.getElem?_eq_some_iff.1 (c.mark D d)).1;refine⟨?_,c.size,λD d n=>?_,λD d=>?_,c.nodup⟩
 .exact c.mod.unbase (ds:=ds.map Dm) h
 .rcases(h.mine n).1 with e|e
  .have e:w.heap.size<=D:=e
   grind
  .exact c.mine D d e
 .rw[h.wrel.frame D (j D d) (c.mine D d)];exact c.mark D d
theorem MM.here{ds}(c:MM B ds ι σ a w):aM (reB ι σ (ds.map Dm) w) ι σ a w:=by
 have:=c.mod.rebase;rw[c.mod.defers]at this;exact this
theorem MM.of_QD{ds}(g:MM B ds ι σ a w){Q e j w'}(h:QD (reB ι σ (ds.map Dm) w) Q e j w'):QM B Q e j w':=by
 cases e with
 |normal=>obtain⟨c,τ,d,f⟩:=h;exact⟨ds,c,τ,g.step d,f⟩
 |exit id=>obtain⟨c,τ,d,f⟩:=h;exact⟨ds,c,τ,g.step d,f⟩
 |ret=>obtain⟨c,τ,d,f⟩:=h;exact⟨ds,c,τ,g.step d,f⟩
 |goto l=>exact h.elim
 |panic n=>exact h.elim
 |outgrown=>exact h.elim
theorem MM.retag{ds}(d:MM B ds ι σ a w){c τ}(h:aM (reB ι σ (ds.map Dm) w) c τ a w):MM B ds c τ a w:=d.step h
theorem DP(d:∀g S,assoc C.specs g=some S->Sound C.P g S){ds}(e:MM B ds ι σ a w){c Q}(h:VC C c σ Q):c.wp C.P (QM B Q) a w:=
 wp_mono (Wp d c σ Q ι a w e.here h) (λ_ _ _ f=>e.of_QD f)
theorem P9{ι:dc}:∀{es:List (Nat×SV)}{vs:cr}{sl:dx}{ts:Array Value},DenS ι (es.map (·.2)) vs->DenS ι sl ts.toList->
 DenS ι (Va sl es) (((es.map (·.1)).zip vs).foldl (λts(p,v)=>ts.setIfInBounds p v) ts).toList
 |[],[],_,_,_,h=>h
 |(p,x)::es,v::vs,sl,ts,h,c=>by
  refine P9 (es:=es) (vs:=vs) h.2 ?_;rw[Array.toList_setIfInBounds];exact c.set p h.1
 |[],_::_,_,_,h,_=>h.elim
 |_::_,[],_,_,h,_=>h.elim
def Co(fn:FuncId)(tmps:Array Value)(ps:Array Tmp)(x y:Code)(D:Nat)(st:LoopState):Loop:={state:=st,pending:=none,fn:=fn,tmps:=tmps,params:=ps,assign:=x,body:=y,defers:=D}
theorem Qt{w:World}{l i r}(h:w.heap[l]? =some (.loop r)):w.cell? ⟨l,i,none⟩=none:=by
 unfold World.cell?
 grind
theorem WK(A:∀g S,assoc C.specs g=some S->Sound C.P g S){tmps:Array Value}{x y:Code}(hx:vP x=true)(hy:vP y=true)(b3:DenS ι σ.sl tmps.toList){es:List (Nat×SV)}{vs:cr}{ps:Array Tmp}(a5:ps.toList=es.map (·.1))(a6:DenS (λ_=>.slice none 0 0) (es.map (·.2)) vs){fn D l m0 mm h0}(b4:m0 l=none)(c2:∀b,b≠l->mm b=m0 b)(b5:mm l=some (.loop (Co fn tmps ps x y D .ready))){R}(hV:OZ C x y σ es m0 h0 R) w(hH:Y5 w mm h0):
 ∃a7 J assign body,(Instr.yield l vs.toArray).run C.P w= .ok (.round l a7 J assign body) w/\
  RoundIn Fence.wide 0 C.P l a7 J assign body w λex w'=>∃u m' h',ex= .returned (.bool u)/\(u=true/\PH.le h0 h'/\∃m2,m2 l=none/\(∀b,b≠l->m' b=m2 b)/\m' l=some (.loop (Co fn tmps ps x y D .ready))/\R m2 h')/\V9 w mm h0 m' h' w':=by
 have hl:=hH.msat l _ b5;have b6:=(Array.getElem?_eq_some_iff.1 hl).1
 have a8:vs.length=ps.size:=by
  have n:=a6.length;rw[length_map]at n;rw[<-Array.length_toList,a5,length_map,n]
 refine⟨_,_,_,_,run_yield hl (by simpa[Co]using a8),roundIn_of_wpIn trivial ?_⟩;obtain⟨ts,a9⟩:∃ts,((Co fn tmps ps x y D .ready).params.zip vs.toArray).foldl (λtmps(t,a)=>tmps.setIfInBounds t a) (Co fn tmps ps x y D .ready).tmps=ts:=⟨_,rfl⟩
 rw[a9]
 have b':ts=((es.map (·.1)).zip vs).foldl (λts(p,v)=>ts.setIfInBounds p v) tmps:=by
  rw[<-a9, <-a5, <-Array.foldl_toList,Array.toList_zip];rfl
 have E:∀b o,m0 b=some o->mm b=some o:=λb o d=>by
  grind
 have hM:aM ⟨w,λb=>m0 b≠none,h0,[]⟩ (λ_=>.slice none 0 0) (aCX σ es m0 h0) {tmps:=ts,defers:=[]} w:=by
  refine aM.blank' ?_ rfl ?_
  .show DenS _ (Va (σ.sl.map S4) es) ts.toList;rw[b'];exact P9 a6 (Hu b3)
  .exact⟨rfl,rfl,rfl,Nat.le_refl _,Nat.le_refl _,λ_ _ _=>rfl,hH.hsat,λb o d=>hH.msat b o (E b o d),λb o d=>hH.disj b o (E b o d),λ_ _ _ e=>e,λ_ _ _=>rfl,λb o d=>.inr bg⟩
 refine wpIn_mono (Sz l A x hx _ _ _ _ _ hM hV) ?_;intro ex a1 V F;cases ex with
 |normal=>
  obtain⟨ι1,τ,G,b7⟩:=F;have j:=G.wrel;have b8:¬(λb=>m0 b≠none) l:=λe=>e b4;have a':V.heap[l]? =some (.loop (Co fn tmps ps x y D .ready)):=by rw[j.frame l b6 b8];exact hl
  have X:=(Array.getElem?_eq_some_iff.1 a').1
  have L:¬R6 ι1 τ l:=λhm=>by
   rcases(G.mine hm).1 with n|n
   .grind
   grind
  refine⟨_,run_beginRound a' rfl,?_⟩;obtain⟨f,H⟩:∃f,V.putObj l (.loop {Co fn tmps ps x y D .ready with state:=.busy})=f:=⟨_,rfl⟩
  have a0:=(G.rebase.putD (.loop {Co fn tmps ps x y D .ready with state:=.busy}) a' rfl X L).rebase;rw[H]at a0⊢
  have c3:a1.defers=[]:=G.defers;have a0:aM (reB ι1 τ [] f) ι1 τ a1 f:=bg
  have b9:∀b,b≠l->f.heap[b]? =V.heap[b]? :=λb d=>by rw[<-H];exact World.putObj_heap_other (λe=>d e)
  have s2:f.heap.size=V.heap.size:=by rw[<-H];simp
  have c':f.heap[l]? =some (.loop {Co fn tmps ps x y D .ready with state:=.busy}):=by rw[<-H];exact World.putObj_heap_same X
  refine wpIn_mono (Sz l A y hy _ _ _ _ _ a0 b7) ?_;intro ex a2 I F;cases ex with
  |normal=>
   obtain⟨ι2,υ,c0,hR⟩:=F;have c:=c0.wrel;have W:I.heap[l]? =some (.loop {Co fn tmps ps x y D .ready with state:=.busy}):=by rw[c.frame l (by show l<f.heap.size;omega) L];exact c'
   have b0:=(Array.getElem?_eq_some_iff.1 W).1
   have M:∀b,b<w.heap.size->mm b=none->¬R6 ι1 τ b:=λb d hn hm=>by
    rcases(G.mine hm).1 with n|n
    .grind
    grind
   have c1:υ.m l=none:=by
    cases e:υ.m l with
    |none=>rfl
    |some o=>
     rcases c.mfr l o e with n|n
     .have n:f.heap.size<=l:=n;omega
     .exact(L n).elim
   obtain⟨O,Q⟩:∃O,I.putObj l (.loop (Co fn tmps ps x y D .ready))=O:=⟨_,rfl⟩
   have a3:∀b,b≠l->O.heap[b]? =I.heap[b]? :=λb d=>by rw[<-Q];exact World.putObj_heap_other (λe=>d e)
   have c4:O.heap[l]? =some (.loop (Co fn tmps ps x y D .ready)):=by rw[<-Q];exact World.putObj_heap_same b0
   have T:=run_endRound (P:=C.P) none W;have T:(Instr.endRound l none).run C.P I= .ok (.bool true) O:=by rw[T, <-Q];rfl
   have Y:PH.le h0 τ.h:=⟨λb i v e=>j.hle b i v e⟩
   have Z:PH.le τ.h υ.h:=⟨λb i v e=>c.hle b i v e⟩
   refine⟨_,_,T,true,λb=>if b=l then some (.loop (Co fn tmps ps x y D .ready))else υ.m b,υ.h,rfl,⟨rfl,⟨λb i v e=>Z.le _ _ _ (Y.le _ _ _ e)⟩,υ.m,c1,λb d=>by simp[d],ay,hR⟩,?_⟩;have t4:O.tape=I.tape/\O.os=I.os/\O.output=I.output/\O.heap.size=I.heap.size:=by rw[<-Q];exact⟨rfl,rfl,rfl,ay⟩
   have t2:f.tape=V.tape/\f.os=V.os/\f.output=V.output:=by rw[<-H];exact⟨rfl,rfl,rfl⟩
   have b1:w.heap.size<=V.heap.size:=j.size;have b2:f.heap.size<=I.heap.size:=c.size;refine⟨?_,?_,?_,?_,?_,?_,⟨?_,?_,?_⟩,⟨λb i v e=>Z.le _ _ _ (Y.le _ _ _ e)⟩,?_,?_⟩
   .rw[t4.1,c.tape];show f.tape=_;rw[t2.1];exact j.tape
   .rw[t4.2.1,c.os];show f.os=_;rw[t2.2.1];exact j.os
   .rw[t4.2.2.1,c.output];show f.output=_;rw[t2.2.2];exact j.output
   .have d4:O.drawn=I.drawn:=by rw[<-Q];rfl
    have d3:f.drawn<=I.drawn:=c.drawn;have d2:f.drawn=V.drawn:=by rw[<-H];rfl
    have d1:w.drawn<=V.drawn:=j.drawn;omega
   .omega
   .intro b d hn;have U:b≠l:=λe=>bg
    rw[a3 b U,c.frame b (by show b<f.heap.size;omega) (M b d hn)];show f.heap[b]? =_;rw[b9 b U];exact j.frame b d (λe=>e bg)
   .intro b i v hv;have a4:=c.hsat b i v hv;have U:b≠l:=λe=>by rw[e,Qt W]at a4;cases a4
    rw[World.cell?_of_block (w:=I) (w':=O) (a:=⟨b,i,none⟩) (a3 b U)];exact a4
   .intro b o d;have z:(if b=l then some (Obj.loop (Co fn tmps ps x y D .ready))else υ.m b)=some o:=d;clear d;split at z
    .grind
    .rename_i e;rw[a3 b e];exact c.msat b o z
   .intro b o d i;have z:(if b=l then some (Obj.loop (Co fn tmps ps x y D .ready))else υ.m b)=some o:=d;clear d;split at z
    .rename_i e;subst e;cases e2:υ.h b i with
     |none=>rfl
     |some v=>have:=c.hsat b i v e2;rw[Qt W]at this;cases this
    .exact c.disj b o z i
   .intro b d hn;have n:υ.h b=τ.h b:=c.hold b (by show b<f.heap.size;omega) (M b d hn);rw[n];have U:b≠l:=λe=>bg
    exact j.hold b d (λe=>e bg)
   .intro b o d;have z:(if b=l then some (Obj.loop (Co fn tmps ps x y D .ready))else υ.m b)=some o:=d;clear d;split at z
    .grind
    .rename_i e;rcases c.mfr b o z with n|n
     .have n:f.heap.size<=b:=n;omega
     .rcases(G.mine n).1 with h2|h2
      .exact .inl h2
      grind
  |ret=>obtain⟨_,_,_,h⟩:=F;exact h.elim
  |exit id=>obtain⟨_,_,_,h⟩:=F;exact h.elim
  |goto t=>exact F.elim
  |panic ch=>exact F.elim
  |outgrown=>exact F.elim
 |ret=>obtain⟨_,_,_,h⟩:=F;exact h.elim
 |exit id=>obtain⟨_,_,_,h⟩:=F;exact h.elim
 |goto t=>exact F.elim
 |panic ch=>exact F.elim
 |outgrown=>exact F.elim
theorem RR(w:World) o{b}(h:b<w.heap.size):(w.alloc o).heap[b]? =w.heap[b]? :=by
 exact Go.RowKit.Below.heap_alloc _ _ _ h
theorem YQ(w:World) o:(w.alloc o).heap[w.heap.size]? =some o:=World.alloc_heap_new w o
theorem aAQ(w:World):∀l:cr,DA w (l.map .val) l
 |[]=>trivial
 |_::l=>⟨rfl,aAQ w l⟩
theorem PU(l:cr)(i:Nat) c u b(d:(l.map CV.val)[i]? =some c)(f:j6 c u=some b):False:=by
 rw[getElem?_map]at d;cases e:l[i]? with
 |none=>grind
 |some v=>rw[e]at d;simp at d;subst d;simp[j6]at f
theorem S7(X:∀g S,assoc C.specs g=some S->Sound C.P g S){ds:di}(U:MM B ds ι σ a w){f:Operand}{ps:Array Tmp}{x y Q g cs}(c6:σ.ev f= .at (.val (.func (.func g) #[] cs)))(hx:vP x=true)(hy:vP y=true){Src}(b4:HQ C.P g Src){xs}(b5:Src σ.h cs.toList xs){I:Nat->MH->PH->Prop}(h0:I 0 σ.m σ.h)(Y:∀(k:Nat)(vs:cr)(m:MH)(h:PH),xs[k]? =some vs->PH.le σ.h h->I k m h->∃es:List (Nat×SV),ps.toList=es.map (·.1)/\DenS (λ_=>.slice none 0 0) (es.map (·.2)) vs/\OZ C x y σ es m h (I (k+1)))(b6:∀(m:MH)(h:PH),PH.le σ.h h->I xs.length m h->Q .normal (blank σ m h)):(Code.rangeFunc f ps x y).wp C.P (QM B Q) a w:=by
  obtain⟨a3⟩:=b4;have L:=U.mod.wrel
  have b7:a.eval f= .func (.func g) #[] cs:=by
   have:=U.mod.ev f;rw[c6]at this;exact this
  refine(wpIn_wide (n:=0)).1 (wpIn_rangeFunc ?_);intro fn e1;obtain⟨l,hl⟩:∃l,l=w.heap.size+1:=⟨_,rfl⟩
  obtain⟨D,hD⟩:∃D,D=w.heap.size:=⟨_,rfl⟩
  obtain⟨W1,H⟩:∃W1,(w.alloc (.deferred (some []))).alloc (.loop (Co fn a.tmps ps x y D .ready))=W1:=⟨_,rfl⟩
  have s1:W1.heap.size=w.heap.size+2:=by rw[<-H];simp
  have a7:∀b,b<w.heap.size->W1.heap[b]? =w.heap[b]? :=λb t=>by
   rw[<-H,RR _ _ bf,RR _ _ t]
  have b8:W1.heap[D]? =some (.deferred (some [])):=by
   rw[<-H,hD,RR _ _ ay];exact YQ w _
  have e0:W1.heap[l]? =some (.loop (Co fn a.tmps ps x y D .ready)):=by
   rw[<-H,hl];have:=YQ (w.alloc (.deferred (some []))) (.loop (Co fn a.tmps ps x y D .ready))
   rwa [World.size_alloc]at this
  have c7:∀b o,σ.m b=some o->b<w.heap.size:=λb o t=>(Array.getElem?_eq_some_iff.1 (L.msat b o t)).1;have a8:∀b i v,σ.h b i=some v->b<w.heap.size:=λb i v hv=>World.block_lt_of_cell? w ⟨b,i,none⟩ (L.hsat b i v hv)
  let m1:MH:=λb=>if b=l then some (.loop (Co fn a.tmps ps x y D .ready))else σ.m b
  have c8:m1 l=some (.loop (Co fn a.tmps ps x y D .ready)):=by simp[m1]
  have a9:∀b,b≠l->m1 b=σ.m b:=λb t=>if_neg t
  have c9:σ.m l=none:=by
   cases e:σ.m l with
   |none=>rfl
   |some o=>grind
  have b9:CS W1 m1 σ.h (.val (.func (.yield l) #[] #[])::cs.toList.map .val) (.func (.yield l) #[] #[]::cs.toList):=by
   refine⟨⟨rfl,aAQ _ _⟩,?_,?_,?_,λi j c d u v b hi _ _ _ t _=>(PU (.func (.yield l) #[] #[]::cs.toList) i c u b hi t).elim,λi c u b hi _ t=>(PU (.func (.yield l) #[] #[]::cs.toList) i c u b hi t).elim⟩
   .intro b i v hv;rw[World.cell?_of_block (w:=w) (w':=W1) (a:=⟨b,i,none⟩) (a7 b (a8 b i v hv))];exact L.hsat b i v hv
   .intro b o t;by_cases e:b=l
    .grind
    .rw[a9 b e]at t;rw[a7 b (c7 b o t)];exact L.msat b o t
   .intro b o t i;by_cases e:b=l
    .subst e;cases e2:σ.h b i with
     |none=>rfl
     |some v=>grind
    .rw[a9 b e]at t;exact L.disj b o t i
  have z:∀b,m1 b=none->¬yZ m1 (.val (.func (.yield l) #[] #[])::cs.toList.map .val) (.func (.yield l) #[] #[]::cs.toList) b:=by
   rintro b t (G|⟨i,c,u,hi,hu,hc⟩)
   .exact G t
   .exact PU (.func (.yield l) #[] #[]::cs.toList) i c u b hi hc
  let J:Nat->MH->PH->Prop:=λk mm Z=>PH.le σ.h Z/\∃T,T l=none/\(∀b,b≠l->mm b=T b)/\mm l=some (.loop (Co fn a.tmps ps x y D .ready))/\I k T Z
  have b':=a3.2 (.val (.func (.yield l) #[] #[])::cs.toList.map .val) (.func (.yield l) #[] #[]::cs.toList) m1 σ.h W1 (λ_ mm Z=>J xs.length mm Z)
   ⟨l,cs.toList,xs,J,rfl,b5,⟨⟨λ_ _ _ e=>e⟩,σ.m,c9,a9,c8,h0⟩,?_,λ_ _ _ _ hJ=>hJ⟩ b9
  .have b0:(Instr.enterLoop fn a.tmps ps x y Fence.wide.round).run C.P w= .ok (l,[Dm D]) W1:=by
    subst hD hl;rw[<-H];exact run_enterLoop_outer _ _ _ _ _
   refine⟨l,[Dm D],W1,{target:=.fn (.func g) cs,args:= #[.func (.yield l) #[] #[]]},W1,g,(.func (.yield l) #[] #[]::cs.toList).toArray,W1,b0,?_,λ_ _=>trivial,?_,λe=>by simp[Fence.wide]at e,callsIn_wide.2 ?_⟩
   .simp only[resolve,rangeCall,b7];simp[go_sem]
   .obtain⟨gf,hf,c',c0⟩:=a3.1;have c':¬gf.body=none:=bg
    have c0:¬gf.name= "runtime.NumGoroutine" :=bg
    simp only[invoke,callFunc];simp[program,Sem.run,hf,c0,c']
   refine b'.mono ?_;rintro e V ⟨r,u,mm,Z,rfl,⟨a',T,a4,c1,b1,hI⟩,b4,A,_⟩;have c2:=A.msat l _ b1;refine⟨_,_,run_endLoop c2 (by simp[Co]),?_⟩;obtain⟨W,a0⟩:∃W,V.putObj l (.loop {Co fn a.tmps ps x y D .ready with state:=.exhausted})=W:=⟨_,rfl⟩
   rw[a0];have a1:∀b,b≠l->W.heap[b]? =V.heap[b]? :=λb t=>by rw[<-a0];exact World.putObj_heap_other (λe=>t e)
   have t4:W.tape=V.tape/\W.os=V.os/\W.output=V.output/\W.heap.size=V.heap.size:=by rw[<-a0];exact⟨rfl,rfl,rfl,ay⟩
   have t1:W1.tape=w.tape/\W1.os=w.os/\W1.output=w.output:=by rw[<-H];exact⟨rfl,rfl,rfl⟩
   have c5:W1.heap.size<=V.heap.size:=A.size
   have a5:∀b,b<w.heap.size->σ.m b=none->W.heap[b]? =w.heap[b]? :=λb t hn=>by
    have M:b≠l:=by omega
    rw[a1 b M,A.frame b bg (z b bg),a7 b t]
   have F:∀b o,T b=some o->mm b=some o/\b≠l:=λb o t=>by
    grind
   have d':∀b o,T b=some o->W1.heap.size<=b\/∃o',σ.m b=some o':=λb o t=>by
    obtain⟨G,M⟩:=F b o t;rcases A.mfr b o G with h2|h2
    .exact .inl h2
    .refine .inr ?_;cases e:σ.m b with
     |some o'=>grind
     |none=>grind
   have hB:B.w0.heap.size<=w.heap.size:=L.size
   have mB:∀b,b<B.w0.heap.size->¬B.E b->σ.m b=none:=λb t hn=>by
    cases e:σ.m b with
    |none=>rfl
    |some o=>
     rcases L.mfr b o e with G|G
     .grind
     grind
   have O:∀D',D'∈ds->D'<w.heap.size/\σ.m D'=none:=λD' R=>by
    refine⟨(Array.getElem?_eq_some_iff.1 (U.mark D' R)).1,?_⟩;cases e:σ.m D' with
    |none=>rfl
    |some o=>exact(U.mine D' R (.inl (by rw[e];simp))).elim
   have c3:∀b,¬(W1.heap.size<=b)->σ.m b=none->¬R6 (λ_=>.slice none 0 0) (blank σ T Z) b:=by
    rintro b G h2 (h3|⟨k,o,hk,_⟩)
    .cases e:T b with
     |none=>exact h3 e
     |some o=>
      grind
    .exact HZ _ _ _ hk
   have e3:σ.m D=none:=by
    cases e:σ.m D with
    |none=>rfl
    |some o=>grind
   refine⟨D::ds,λ_=>.slice none 0 0,blank σ T Z,⟨?_,?_,?_,?_,?_⟩,b6 T Z a' hI⟩
   .refine aM.blank' (Hu U.mod.slots) ?_ ⟨?_,?_,?_,?_,?_,?_,?_,?_,?_,?_,?_,?_⟩
    .show[Dm D]++a.defers=_;rw[U.mod.defers];rfl
    .rw[t4.1,A.tape];show W1.tape=_;rw[t1.1];exact L.tape
    .rw[t4.2.1,A.os];show W1.os=_;rw[t1.2.1];exact L.os
    .rw[t4.2.2.1,A.output];show W1.output=_;rw[t1.2.2];exact L.output
    .have d4:W.drawn=V.drawn:=by rw[<-a0];rfl
     have d3:W1.drawn<=V.drawn:=A.drawn;have d2:W1.drawn=w.drawn:=by rw[<-H];rfl
     have d1:B.w0.drawn<=w.drawn:=L.drawn
     grind
    .grind
    .intro b t a2;have t:b<B.w0.heap.size:=t;rw[a5 b aC (mB b t a2)];exact L.frame b t a2
    .intro b i v hv;have b2:=A.hsat b i v hv;have M:b≠l:=λe=>by rw[e,Qt c2]at b2;cases b2
     rw[World.cell?_of_block (w:=V) (w':=W) (a:=⟨b,i,none⟩) (a1 b M)];exact b2
    .intro b o t;obtain⟨G,M⟩:=F b o t;rw[a1 b M];exact A.msat b o G
    .intro b o t i;exact A.disj b o (F b o t).1 i
    .intro b i v hv;exact a'.le _ _ _ (L.hle b i v hv)
    .intro b t a2;have t:b<B.w0.heap.size:=t;have G:Z b=σ.h b:=A.hold b bg (z b bg);rw[G];exact L.hold b t a2
    grind
   .intro D' R;rcases mem_cons.1 R with rfl|G
    .omega
    .exact U.size D' G
   .grind
   .intro D' R;rcases mem_cons.1 R with rfl|G
    .rw[a1 D' aC,A.frame D' bg (z D' bg)];exact b8
    .obtain⟨h2,h3⟩:=O D' G;rw[a5 D' h2 h3];exact U.mark D' G
   .refine nodup_cons.2 ⟨λG=>?_,U.nodup⟩
    grind
  .rintro k e m' h' hk a' ⟨c4,T,a4,c1,b1,hI⟩;refine⟨λw5 hH=>?_⟩;obtain⟨es,d0,d5,hV⟩:=Y k e T h' hk a' hI;obtain⟨d6,b3,d7,d8,d9,hR⟩:=WK X (σ:=σ) (ι:=ι) hx hy U.mod.slots d0 d5 a4 c1 b1 hV w5 hH;refine⟨d6,b3,d7,d8,d9,hR.mono ?_⟩;rintro ex w6 ⟨u,m6,h6,rfl,⟨rfl,a6,m7,q1,q2,q3,q4⟩,e'⟩;exact⟨_,m6,h6,rfl,⟨rfl,a6,⟨λ_ _ _ e=>a6.le _ _ _ (c4.le _ _ _ e)⟩,m7,q1,q2,q3,q4⟩,e'⟩
theorem ZC(j:∀g S,assoc C.specs g=some S->Sound C.P g S){ds}(J:MM B ds ι σ a w){f ps x y Q}(h:ZD C f ps x y σ (Q .normal)):(Code.rangeFunc f ps x y).wp C.P (QM B Q) a w:=by
 unfold ZD at h;split at h
 .rename_i g O X E G;obtain⟨L,M⟩:=Bool.and_eq_true_iff.1 G;split at h
  .rename_i R;obtain rfl:O= #[]:=Array.toList_inj.1 aC;split at h
   .rename_i p T A V;obtain⟨Src,xs,I,D,n,H,c,t⟩:=h;refine S7 j J E L M D n H (λk W m h u d F=>?_) (λm h d F=>t m h d bg);rw[getElem?_map]at u;cases e:xs[k]? with
    |none=>grind
    |some z=>
     rw[e]at u;simp only[Option.map_some,bx]at u;subst u;exact⟨[(p,mk C.P T (((C.dec T).enc z).map .val))],by rw[A];rfl,⟨Vp,trivial⟩,c k z m h e d F⟩
   .rename_i p q T U A V;obtain⟨Src,xs,I,D,n,H,c,t⟩:=h;refine S7 j J E L M D n H (λk W m h u d F=>?_) (λm h d F=>t m h d bg);rw[getElem?_map]at u;cases e:xs[k]? with
    |none=>grind
    |some z=>
     rw[e]at u;simp only[Option.map_some,bx]at u;subst u;exact⟨[(p,mk C.P T (((C.dec T).enc z.1).map .val)),(q,mk C.P U (((C.dec U).enc z.2).map .val))],by rw[A];rfl,⟨Vp,Vp,trivial⟩,c k z.1 z.2 m h e d F⟩
   grind
  grind
 grind
theorem aUJ(d:∀g S,assoc C.specs g=some S->Sound C.P g S):∀(c:Code)(σ:St)(Q:GZ->St->Prop)(ds:di)(ι:dc)(a:Act)(w:World),MM B ds ι σ a w->VCF C c σ Q->c.wp C.P (QM B Q) a w:=by
 intro c
 induction c with
 |rangeFunc f ps x y _ _=>intro σ Q ds ι a w n h;exact ZC d n h
 |seq x y D E=>
  intro σ Q ds ι a w n h;simp only[VCF]at h;split at h
  .exact DP d n h
  .split at h
   .obtain⟨I,h,F⟩:=h;refine wp_seq (wp_mono (D σ _ ds ι a w n h) ?_);intro e J L j;cases e with
    |normal=>
     obtain⟨z,G,H,u,V⟩:=j;obtain⟨W,X,M,O⟩:=BP u.here V;exact E _ Q z X J L (u.retag O) (F W M)
    |exit id=>exact j
    |ret=>exact j
    |goto l=>exact j
    |panic U=>exact j
    |outgrown=>exact j
   .refine wp_seq (wp_mono (D σ _ ds ι a w n h) ?_);intro e J L j;cases e with
    |normal=>
     obtain⟨z,G,H,u,h'⟩:=j;exact E H Q z G J L u h'
    |exit id=>exact j
    |ret=>exact j
    |goto l=>exact j
    |panic U=>exact j
    |outgrown=>exact j
 |cond c x y D E=>
  intro σ Q ds ι a w n h;simp only[VCF]at h;split at h
  .exact DP d n h
  .split at h
   .rename_i t R;have A:=n.mod.ev c;rw[R]at A;have A:a.eval c= .bool t:=A;rcases yX h with⟨rfl,h⟩|⟨rfl,h⟩
    .exact wp_cond_true A (D _ Q ds ι a w (n.retag (n.here.setTmp R)) h)
    .exact wp_cond_false A (E _ Q ds ι a w (n.retag (n.here.setTmp R)) h)
   grind
 |block id c Y=>
  intro σ Q ds ι a w n h;simp only[VCF]at h;split at h
  .exact DP d n h
  .refine wp_block (wp_mono (Y σ _ ds ι a w n h) ?_);intro e J L j;cases e with
   |normal=>exact j
   |exit i=>
    obtain⟨z,G,H,u,h'⟩:=j;show if i=id then _ else _
    simp only at h';split at h'
    .rename_i T;rw[if_pos (ca T)];exact⟨z,G,H,u,h'⟩
    .rename_i T;rw[if_neg (λe=>by subst e;simp at T)];exact⟨z,G,H,u,h'⟩
   |ret=>exact j
   |goto l=>exact j
   |panic U=>exact j
   |outgrown=>exact j
 |_=>intro σ Q ds ι a w n h;exact DP d n h
theorem Qg(e:aM B ι σ a w):∀{l:List ResultVar}{K:cr->Prop},cbQ C σ l K->∃vs,(l.mapM (MQ a.tmps)).run C.P w= .ok vs w/\K vs
 |[],K,h=>⟨[],ay,h⟩
 |.tmp t::r,K,h=>h.elim
 |.cell t T::r,K,h=>by
  simp only[cbQ]at h;split at h
  .rename_i b off n u;obtain⟨y,f,h⟩:=h;split at h
   .rename_i c;have c:=ca c;split at h
    .rename_i v z;obtain⟨vs,A,D⟩:=Qg e h;have d:=e.ev (.tmp t);have E:σ.ev (.tmp t)= .at (.val (.pointer (some ⟨b,off,none⟩))):=by simp only[St.ev,n]
     rw[E]at d;have g:a.tmps.getD t undef= .pointer (some ⟨b,off,none⟩):=d;have F:=BL (w:=w) (b:=b) (off:=off) (cs:=(C.dec T).enc y) u c (Fs e.wrel f);have G:=JZ (P:=C.P) (T:=T) (ι:=ι) (ats:=((C.dec T).enc y).map .val) (cs:=(C.dec T).enc y) (by rw[kK.vals]);have j:=G.val? z;refine⟨v::vs,?_,D⟩;simp only[mapM_cons,MQ,g,asAddr,Sem.run_bind,Sem.run_pure,Result.andThen_ok,F,A,j]
    grind
   grind
  grind
theorem Zf(d:aM B ι σ a w){fn K}(h:Mu C fn K σ):
 ∃u,(results fn a.tmps).run C.P w= .ok u w/\∃r m' h',K r m' h'/\Jh w r u/\DF B m' h' w/\∀b,j6 r u=some b->(B.w0.heap.size<=b\/B.E b)/\m' b=none/\∀i,h' b i=none:=by
 unfold Mu at h;split at h
 .exact SI d h
 .obtain⟨c,f,g⟩:=Qg d h
  have n:(results fn a.tmps).run C.P w= .ok (if h:c.toArray.size=1 then c.toArray[0]else .tuple c.toArray) w:=by
   rw[Qf,Array.mapM_eq_mapM_toList];simp[f]
  split at g
  .rename_i v;exact⟨v,bg,.val v,σ.m,σ.h,g,rfl,d.wrel,λb j=>by simp[j6]at j⟩
  .rename_i t
   have y:c.length≠1:=λe=>by
    match c,e with
    |[v],_=>grind
   exact⟨.tuple c.toArray,bg,.tup (c.map .val),σ.m,σ.h,g,⟨c.toArray,rfl,ay⟩,d.wrel,λb j=>by simp[j6]at j⟩
theorem Og{F:Fence}{n:Nat}{R:Ending->World->Prop}{fn:Func}{Kc:cq}(g:Mu C fn Kc σ)
 (y:∀u w',(∃r m' h',Kc r m' h'/\Jh w' r u/\DF B m' h' w'/\∀b,j6 r u=some b->(B.w0.heap.size<=b\/B.E b)/\m' b=none/\∀i,h' b i=none)->R (.returned u) w'):
 ∀(ds:di)(a:Act)(w:World),MM B ds ι σ a w->LeavesInM F n C.P fn a.tmps R (ds.map Dm) .returning w
 |[],a,w,f=>by
  obtain⟨u,A,r,m',h',G,t,d,H⟩:=Zf f.mod g;refine⟨u,A,y u w ⟨r,m',h',G,t,⟨d.tape,d.os,d.output,d.drawn,d.size,d.frame,d.hsat,d.msat,d.disj,d.hle,d.hold,d.mfr⟩,H⟩⟩
 |D::ds,a,w,f=>by
  have z:=f.mark D (mem_cons_self ..);refine⟨ay,.inl ⟨D,_,rfl,run_takeDeferred z,Og g y ds {a with defers:=ds.map Dm} _ ?_⟩⟩;have I:w.grownBy (w.putObj D (.deferred none)) (some D):=grownBy_putObj' w D _
  have c:=f.mod.grown I (Nat.le_refl _) (λr e=>by
   cases e;exact⟨f.size D (mem_cons_self ..),f.mine D (mem_cons_self ..),_,z,rfl⟩)
  have j:=nodup_cons.1 f.nodup;refine⟨⟨c.slots,?_,c.own,c.dist,c.fresh,⟨c.wrel.tape,c.wrel.os,c.wrel.output,c.wrel.drawn,c.wrel.size,c.wrel.frame,c.wrel.hsat,c.wrel.msat,c.wrel.disj,c.wrel.hle,c.wrel.hold,c.wrel.mfr⟩,c.one⟩,λD' h=>f.size D' (mem_cons_of_mem _ h),λD' h=>f.mine D' (mem_cons_of_mem _ h),λD' h=>?_,j.2⟩
  .rfl
  .rw[World.putObj_heap_other (fun(e:D'=D)=>j.1 bg)];exact f.mark D' (mem_cons_of_mem _ h)
theorem Ta{P f fn c}(I:P.funcs[f]? =some fn)(J:fn.body=some c)(t:(fn.name== "runtime.NumGoroutine")=false){S}(F:∀d m h K,S d m h K->∃C:Ctx,C.P=P/\(∀g S,assoc C.specs g=some S->Sound P g S)/\aGX C fn c (entry fn.ntmps d m h) K):Sound P f S:=by
 refine⟨⟨fn,I,by rw[J];rfl,t⟩,?_⟩;intro d y m h w K M O;obtain⟨C,rfl,j,Q⟩:=F d m h K M;refine callsIn_wide.1 (callsIn_of_wp_marks (n:=0) I J trivial (wpIn_wide.2 ?_))
 have G:MM ⟨w,yZ m d y,h,[]⟩ [] (Oj fn.ntmps d y) (entry fn.ntmps d m h) {tmps:=y.toArray++Array.replicate (fn.ntmps-y.toArray.size) undef,defers:=[]} w:=
  ⟨LQ fn.ntmps O,λ_ D=>(not_mem_nil D).elim,λ_ D=>(not_mem_nil D).elim,λ_ D=>(not_mem_nil D).elim,nodup_nil⟩
 refine wp_mono (aUJ j c _ _ _ _ _ w G Q) ?_;intro e E z A
 have key:(∃H ι σ,MM ⟨w,yZ m d y,h,[]⟩ H ι σ E z/\Mu C fn K σ)->LeavesInM Fence.wide 0 C.P fn E.tmps (λe z=>∃r u m' h',e= .returned u/\K r m' h'/\Jh z r u/\DF ⟨w,yZ m d y,h,[]⟩ m' h' z/\
  (∀b,j6 r u=some b->(w.heap.size<=b\/yZ m d y b)/\m' b=none/\∀i,h' b i=none)) E.defers .returning z:=by
  rintro⟨H,ι,σ,L,R⟩;rw[L.mod.defers];exact Og R (λu T⟨r,m',h',U,V,W,X⟩=>⟨r,u,m',h',rfl,U,V,W,X⟩) H E z L
 cases e with
 |normal=>exact key A
 |ret=>exact key A
 |exit id=>obtain⟨_,_,_,_,h⟩:=A;exact h.elim
 |goto l=>exact A.elim
 |panic Y=>exact A.elim
 |outgrown=>exact A.elim
theorem ZE{P f fn c}(j:P.funcs[f]? =some fn)(n:fn.body=some c)(e:(fn.name== "runtime.NumGoroutine")=false){S}(t:∀d m h K,S d m h K->∃C:Ctx,C.P=P/\(∀g S,assoc C.specs g=some S->Sound P g S)/\aGX C fn c (entry fn.ntmps d m h) (cR h K)):Sound P f S:=
 .strong (Ta j n e (S:=λd m h K=>∃K',S d m h K'/\K=cR h K') (by
  grind))
end
end Go.Vc
namespace Go.Ps
open Go Go.Vc Go.Proofs List Tryz
variable{K:cq}{m:MH}{h:PH}{s:jZ}{ps:cn}{cb:Nat}{sc:bT}{v:QV}{p:Pred}{l:cn}{i:Nat}{N:Nat}{m':MH}{h':PH}{co:cn}{gr:cn}{od:cv}{ta:Int}{li:Int}{xs:List cr}{sz:Nat}{ks:List cn}{rs:cn}{r:Sl}{a:cn}{b:Nat}
def Sh(b:Nat):Value:=.func (.func 214) #[] #[.pointer (some ⟨b,0,none⟩)]
structure Js(h:PH)(b:Nat)(us:cw):Prop where
 ex:∃s:Sl,cO h b 0 [s.val]/\dH h s 1 (us.map eS)/\us.length<=502633886983
theorem Js.mono{us}(x:Js h b us)(le:PH.le h h'):Js h' b us:=by
 obtain⟨s,c,d,e⟩:=x.ex;exact⟨s,c.mono le,d.mono le,e⟩
def AT:PH->cr->List cr->Prop:=λh c xs=>∃b d,c=[.pointer (some ⟨b,0,none⟩)]/\Js h b d/\xs=d.map eS
noncomputable def VO specs loops cuts heapT:={qD specs loops cuts [] heapT [] false with elemT:=[65]}
def UD:Vc.Spec:=λc m h K=>∃s,c=[cS s]/\∀b h',PH.le h h'->cO h' b 0 [s.val]->K (.val (Sh b)) m h'
def Wh:Vc.Spec:=λc m h K=>∃s b d f,c=[cS s,.val (Sh b)]/\cL m s 65 1 (d.map eS)/\Js h b f/\d.length<=502633886983/\
 ∀e m',cL m' e 65 1 ((d++f).map eS)->(∀x o,m x=some o->(∀i,s.a≠some ⟨x,i,none⟩)->m' x=some o)->(∀x i,e.a=some ⟨x,i,none⟩->m x=none\/∃i,s.a=some ⟨x,i,none⟩)->K (cS e) m' h
def Y8:Vc.Spec:=λc m h K=>∃b e,c=[.val (Sh b)]/\Js h b e/\
 ∀d m',cL m' d 65 1 (e.map eS)->(∀x o,m x=some o->m' x=some o)->(∀x i,d.a=some ⟨x,i,none⟩->m x=none)->K (cS d) m' h
noncomputable def bGZ b l s:=
 {dK [] [(1,{A:=Nat×MH×PH,st:=λ⟨i,m,h⟩=>bY 16 18 [(0,vv (.func (.yield l) #[] #[])),(1,vv (.pointer (some ⟨b,0,none⟩))),(5,sv s),(6,iv s.len),(7,iv i)] [] m h})] [] [] false with yield:=some (bVJ Tryz.prog)}
abbrev uM a:=mV 214 (B5 a)
attribute [push_cast] uM
def Ni(s:Sl)(m:MH)(h:PH)(K:cq):=
  ∀(b:Nat)(c:MH),bH (cW m h b) (bJ m c b (aL s) 58) (K (uM b) c h)
abbrev qB(a:Nat×MH×PH):=a.2.1
abbrev lO(a:Nat×MH×PH):=a.2.2
abbrev Vm(a:Nat->cr->Prop):=∃(x:Nat)(c:cr),a x c
abbrev Cw a:=CV.val (Value.func (Fn.yield a) sJ sJ)
abbrev yK(a:cq)(b:MH)(c:PH):=a (CV.tup []) b c
attribute [push_cast] qB lO Vm Cw yK
def TD b l s m h K:=
  ∃(y:Sl),aK m h b 0 (aL y)/\∃(I:Nat×MH×PH->Prop)(f:Nat×MH×PH->Nat),(∃(x:Nat×MH×PH),aA (I x) (CM (Fn.yield l) sJ) (aA (cX b) (aW y s) (aA (bN y s) (bA x.1) (aA (bO m x.2) (cF h x.2) True))))/\∀(x:Nat×MH×PH),I x->aY (↑x.1:Int) (aG s) (bK (λg o=>aA (aR s.a g o) (0<=(↑x.1:Int)) ((↑x.1:Int)<aG s/\∃(j:Sl),aA (aK (qB x) (lO x) g (bL o x.1 1) (aL j)) (VY Proofs.Tryz.prog (bVJ Proofs.Tryz.prog)) (Vm (λn v=>∃(R:Bool->MH->PH->Prop),aA (tN (Cw l) (nW j)=Cw n::List.map CV.val v) (YDo Proofs.Tryz.prog n v (qB x) (lO x) R) (∀(u:Bool),fD (λd e=>gS (R u d e) (!u) (yK K d e) (∃(c:Nat×MH×PH),aA (I c) (f c<f x) (aA (CM (Fn.yield l) sJ) (cX b) (aA (aI
 s) (bI s) (aA (iH (bE x.1 1)=bP c.1) (bO d c.2) (kY (cF e c.2))))))))))))) (yK K (qB x) (lO x))
abbrev Aa a:=pD (SB a 0)
abbrev xM(a:PH->cr->List cr->Prop)(b:Nat->Nat->Option Value)(c:Nat)(d:MH)(e:(Nat->MH->PH->Prop)->Nat->Sl->MH->PH->Prop)(g:cw->(Nat->MH->PH->Prop)->Prop):=∃(x:cw)(j:Nat->MH->PH->Prop),aA (HQ Proofs.Tryz.prog 214 a) (a b (Aa c) (List.map (fun(f:Sl)=>aL f) x)) (aA (j 0 d b) (∀(f:Nat)(n:Sl),fD (λu t=>bH (x[f]? =Option.some n) (PH.le b t) (e j f n u t))) (g x j))
abbrev FV(a:Nat->Nat->Option Value)(b:Nat->MH->PH->Prop)(c:cw)(d:Nat)(e:cq):=fD (λx f=>bS a f (b c.length x f) (∃(g:Sl),aK x f d 0 (aL g)/\e (nW g) x f))
attribute [push_cast] Aa xM FV
def Tx s b m h K:=
  ∀(d:Nat)(n:MH),bH (cW m h d) (bJ m n d (aL s) 58) (∃(S:PH->cr->List cr->Prop),xM S h b n (λI k e f g=>I k f g->∃(y:Sl),aK f g d 0 (aL y)/\∃(x:List cr),aA (cL f (dL y) 65 1 x) (lL x) (eA x/\jW (λt j=>gK f j (dL y) t 65 1 (dP x (aL e))->gT (λc E=>aA (sL j d (fA c E 0)) (0<c.size) (∀(u:MH),bJ j u d (iC (dW t) 1 c) E->I (k+1) u g))))) (λx I=>FV h I x d K))
abbrev Lq(a:Nat->cw->Prop):=∃(x:Nat)(c:cw),a x c
attribute [push_cast] Lq
def bcJ(b:Nat)(m:MH)(h:PH)(K:cq):=
  ∃(s:Sl),Lq (λd u=>∃(v:cw),aA (tN EH (uM b)=gO s (uM d)) (cL m s 65 1 (fJ u)) (aA (Js h d v) (u.length<=502633886983) (KJ 1 (u++v) (λc x o=>bH (m x=Option.some o) (∀(i:Nat),mW (aR s.a x i)) (c x=Option.some o)) (λe c=>(∀(x i:Nat),aR e.a x i->Gr m x\/∃(f:Nat),aR s.a x f)->K (nW e) c h))))
def rF(h:PH)(b:Nat)(l:cr):=λc i=>if c=b then l[i]? else h c i
theorem Eb{l}(d:∀i,h b i=none):PH.le h (rF h b l):=⟨λc i v e=>by
 have:c≠b:=λf=>bg
 simp only[rF,if_neg this];exact e⟩
theorem aFZ{l}:cO (rF h b l) b 0 l:=⟨λi v e=>by simp only[rF,if_true,Nat.zero_add];exact e⟩
theorem Sn{f fn}(n:Tryz.prog.funcs[f]? =some fn){S}(j:∀c m h K,S c m h K->∃C:Ctx,C.P=Tryz.prog/\(∀g S,assoc C.specs g=some S->cm g S)/\∃N:Prop,N=xH C fn (eD fn) (entry fn.ntmps c m h) (cR h K)/\N)(t:fn.body=some (eD fn):=by rfl)(d:(fn.name== "runtime.NumGoroutine")=false:=by decide):cm f S:=a1J n t d λc m h K u=>let⟨C,hC,hs,N,e,hn⟩:=j c m h K u;⟨C,hC,hs,e▸hn⟩
theorem aiQ:cm 171 UD:=by
 refine Sn func171 ?_;rintro n m h K ⟨s,rfl,t⟩;refine⟨dK [] [] [] [] false,rfl,aH,Ni s m h (cR h K),ax,?_⟩;show Ni s m h (cR h K);dsimp only[Ni,push_cast];intro b m' c g u
 have sub:∀f o,m f=some o->m' f=some o:=λf o d=>by
  rw[g.other f (λe=>by rw[e,c.m_]at d;cases d)];exact d
 refine⟨m,rF h b [s.val],sub,Eb c.h_,λf i v e=>?_,t b _ (Eb c.h_) aFZ⟩;by_cases j:f=b
 .subst j;simp only[rF,if_true]at e;exact .inr ⟨_,_,_,g.at_,by simpa[Sl.val]using e,c.m_⟩
 .simp only[rF,if_neg j]at e;exact .inl e
theorem Z8:cm 214 (b4J Tryz.prog AT):=by
 refine jC func214 ?_;rintro I m h K ⟨l,A,xs,J,rfl,⟨b,j,rfl,d,rfl⟩,L,c,f⟩;obtain⟨s,M,D,U⟩:=d.ex;refine⟨bGZ b l s,rfl,aH,TD b l s m h K,ax,?_⟩;dsimp only[TD,push_cast];have g:=D.len;simp only[length_map]at g;refine⟨s,.imm M,λx=>x.1<=j.length/\PH.le h x.2.2/\J x.1 x.2.1 x.2.2,λx=>j.length-x.1,⟨(0,m,h),⟨ay,.refl _,L⟩,MT⟩,?_⟩;rintro⟨i,E,F⟩ ⟨O,le,G⟩;dsimp only at O le G⊢
 refine aF (λn=>?_) (λP=>f _ E F le bg);obtain⟨u,H⟩:∃u,j[i]? =some u:=⟨_,bn aC⟩
 obtain⟨Q,R,S,T⟩:=D.get (i:=i) (e:=eS u) (by simp[H]);refine⟨Q,R,S,aC,n,u,.imm (T.mono le),PR _,l,_,_,rfl,c i (eS u) E F (by simp[H]) le G,?_⟩;rintro t m' h' ⟨rfl,y,z⟩;exact⟨(i+1,m',h'),⟨aC,le.trans y,z⟩,aC,MT⟩
theorem Al:HQ Tryz.prog 214 AT:=⟨Z8⟩
theorem c1Q{f fn}(n:Tryz.prog.funcs[f]? =some fn){S}(j:∀c m h K,S c m h K->∃C:Ctx,C.P=Tryz.prog/\(∀g S,assoc C.specs g=some S->cm g S)/\∃N:Prop,N=aGX C fn (eD fn) (entry fn.ntmps c m h) K/\N)(t:fn.body=some (eD fn):=by rfl)(d:(fn.name== "runtime.NumGoroutine")=false:=by decide):cm f S:=Ta n t d λc m h K u=>let⟨C,hC,hs,N,e,hn⟩:=j c m h K u;⟨C,hC,hs,e▸hn⟩
theorem Rn:cm 249 Wh:=by
 refine c1Q func249 ?_;rintro S m h K ⟨s,b,J,A,rfl,L,P,hl,T⟩;refine⟨VO [] [] [] [200002,1058],rfl,aH,Tx s b m h K,ax,?_⟩;dsimp only[Tx,push_cast];intro t U M Q;have V:A.length<=502633886983:=by obtain⟨_,_,_,E⟩:=P.ex;exact E
 have sub:∀x o,m x=some o->U x=some o/\x≠t:=λx o c=>by
  have:x≠t:=λe=>by rw[e,M.m_]at c;cases c
  exact⟨by rw[Q.other x this];exact c,this⟩
 have O:∀i,s.a≠some ⟨t,i,none⟩:=λi e=>by
  obtain⟨o,W⟩:=cL.blk L e
  grind
 refine⟨AT,A,λk D c=>c=h/\∃f,D t=some (.cells #[.slice f.a f.len f.cap] 58 (0,0))/\cL D f 65 1 ((J++A.take k).map eS)/\(∀i,f.a≠some ⟨t,i,none⟩)/\(∀x o,m x=some o->(∀i,s.a≠some ⟨x,i,none⟩)->D x=some o/\∀i,f.a≠some ⟨x,i,none⟩)/\(∀x i,f.a=some ⟨x,i,none⟩->m x=none\/∃i,s.a=some ⟨x,i,none⟩),
  Al,⟨b,A,rfl,P,rfl⟩,⟨rfl,s,Q.at_,?_,O,λx o c F=>⟨(sub x o c).1,F⟩,λx i e=>.inr ⟨i,e⟩⟩,?_,?_⟩
 .rw[take_zero,append_nil]
  exact cL.keep L (λx i e=>by
   obtain⟨o,W⟩:=cL.blk L e
   grind)
 .rintro k e D c R-⟨rfl,f,n,d,G,g,H⟩
  have X:=(bm R);refine⟨f,.of_m n rfl,_,d,bf,bf,λY m2 u=>⟨_,_,⟨u.other t _ n G⟩,ay,λm3 y=>⟨rfl,Y,y.at_,?_,?_,?_,?_⟩⟩⟩
  .have Z:(J++A.take (k+1)).map eS=(J++A.take k).map eS++[eS e]:=by
    rw[cd,R];simp
   rw[Z];refine cL.keep u.row (λx i z=>y.other x (λe3=>?_));subst e3;rcases u.fresh x i z with I|⟨j,I⟩
   .grind
   grind
  .intro i z;rcases u.fresh t i z with I|⟨j,I⟩
   .grind
   grind
  .intro x o c F;obtain⟨I,h2⟩:=g x o c F;refine⟨by rw[y.other x (sub x o c).2];exact u.other x o I h2,λi z=>?_⟩;rcases u.fresh x i z with E|⟨j,E⟩
   .grind
   grind
  .intro x i z;rcases u.fresh x i z with E|⟨j,E⟩
   .cases e4:m x with
    |none=>grind
    |some o=>
     grind
   grind
 .rintro D c-⟨rfl,f,n,d,G,g,H⟩
  rw[take_length]at d;exact⟨f,.of_m n rfl,T f D d (λx o c F=>(g x o c F).1) H⟩
theorem ZS:cm 250 Y8:=by
 refine jC func250 ?_;rintro c m h K ⟨b,d,rfl,f,g⟩;refine⟨dK [(249,Wh)] [] [] [] false,rfl,aE Rn aH,bcJ b m h K,ax,?_⟩;exact⟨⟨none,0,0⟩,b,[],d,rfl,⟨BN [],.inl ⟨rfl,rfl⟩⟩,f,ay,λn m' t u y=>g n m' t (λx o z=>u x o z (λi e=>by cases e)) (λx i e=>(y x i e).elim id λ⟨j,e⟩=>by cases e)⟩
structure Zb(v:VV):Prop where
 kind:uY v.kind
 int:uY v.int
 text:v.text.size<=64
structure OS(r:cz):Prop where
 len:r.length<=12
 val:∀v∈r,Zb v
def GY(v:VV):=mP v.kind++58::(mP v.int++58::(mP (v.text.size:Int)++58::v.text.data.toList))
def EX(r:cz):=r.flatMap GY
def fN(r:cz):ByteArray:=⟨(EX r).toArray⟩
def pick(r:cz)(cols:cn):=cols.map λc=>r.getD c.toNat zeroV
structure jY(n:Nat)(cols:cn):Prop where
 at_:∀c∈cols,0<=c/\c<n
 len:cols.length<=100000
def b7Z:Vc.Spec:=λc m h K=>∃xs v,c=[.lst 5 1 xs,aV v]/\eK m/\v.text.size<=64/\xs.length+300<=140737488355328/\K (.lst 5 1 (xs++aX (GY v))) m h
def b3J:Vc.Spec:=λd m h K=>∃s t r c,d=[cS s,cS t]/\bQ h s r/\Ints h t c/\OS r/\jY r.length c/\eK m/\K (Ss (fN (pick r c))) m h
def aRJ:Vc.Spec:=λc m h K=>∃s r,c=[cS s]/\bQ h s r/\OS r/\eK m/\K (Ss (fN r)) m h
def jG(on:cu):=on.map Prod.fst
def eG(on:cu):=on.map Prod.snd
def NI:Vc.Spec:=λc m h K=>∃s on,c=[cS s]/\jD h s on/\∀a b h',PH.le h h'->Ints h' a (jG on)->Ints h' b (eG on)->K (.tup [cS a,cS b]) m h'
def Md:Vc.Spec:=λd m h K=>∃s t r c,d=[cS s,cS t]/\bQ h s r/\Ints h t c/\jY r.length c/\K (cB ((pick r c).all pW)) m h
def b6Q:Vc.Spec:=λc m h K=>∃n:Nat,c=[.val (.slice none 0 0),cI n]/\n<=1000/\K (.lst 30 3 []) m h
def Sc:Vc.Spec:=λc m h K=>∃d rs,c=[cS d]/\Rows h d rs/\rs.length<=10/\(∀r∈rs,r.length<=12)/\∀e h',PH.le h h'->bQ h' e rs.flatten->K (cS e) m h'
noncomputable def bDJ:=qD [(195,OI)] [] [] [] [] [(195,[0])] true
noncomputable def bEZ s t m h:=
 qD [(262,b7Z)] [(3,{A:=Nat×dg,st:=λ⟨i,l⟩=>bY 23 25 [(0,sv s),(5,.at (.lst 19)),(8,sv t),(9,iv t.len),(10,iv i)] [(19,.lst 5 1 (aX l))] m h})] [] [] [] [(262,[0])] false
noncomputable def bDZ s m h:=
 qD [(262,b7Z)] [(3,{A:=Nat×dg,st:=λ⟨i,l⟩=>bY 18 19 [(3,.at (.lst 14)),(6,sv s),(7,iv s.len),(8,iv i)] [(14,.lst 5 1 (aX l))] m h})] [] [] [] [(262,[0])] false
noncomputable def X8 s m h:=
 dK [] [(2,{A:=Nat×cn×cn,st:=λ⟨i,l,k⟩=>bY 25 26 [(2,.at (.lst 16)),(3,.at (.lst 21)),(6,sv s),(7,iv s.len),(8,iv i)] [(16,.lst 3 1 (l.map eI)),(21,.lst 3 1 (k.map eI))] m h})] [] [] false
noncomputable def X7 s t m h:=
 dK [(158,UH)] [(2,{A:=Nat,st:=λi=>bY 20 22 [(0,sv s),(7,sv t),(8,iv t.len),(9,iv i)] [] m h})] [] [] false
noncomputable def bJZ c m h:=
 dK [(208,b6Q)] [(3,{A:=Nat×Nat,st:=λ⟨i,n⟩=>bY 36 37 [(0,sv c),(3,iv n),(9,sv c),(10,iv c.len),(11,iv i)] [] m h}),
  (11,{A:=Nat×cz,st:=λ⟨i,l⟩=>bY 36 37 [(6,.at (.lst 24)),(25,sv c),(26,iv c.len),(27,iv i)] [(24,.lst 30 3 (l.map VV.enc))] m h})] [] [] false
def Tv(xs:List cr)(v:VV)(m:MH)(h:PH)(K:cq):=
  ∃(x:List cr)(i:Int),aA (zR xs v.kind=zR x i) (eK m) (aA (oK (kB x 40)) (jN (kB (sS x i) 1) 1) (FF (eA (sS x i)) (λe=>∃(f:Int),aA (zR (dP (sS x i) (xT 58)) v.int=zR e f) (eK m) (aA (oK (kB e 40)) (jN (kB (sS e f) 1) 1) (FF (eA (sS e f)) (λc=>∃(d:Int),aA (zR (dP (sS e f) (xT 58)) (↑v.text.size:Int)=zR c d) (eK m) (aA (oK (kB c 40)) (jN (kB (sS c d) 1) 1) (aA (eA (sS c d)) (sQ (dP (sS c d) (xT 58)) (fO v.text) 1) (sR (dP (sS c d) (xT 58)) (fO v.text)/\vQ K (dP (sS c d) (xT 58)++fO v.text) m h)))))))))
abbrev Po(a:(Nat×dg->Prop)->(Nat×dg)->Prop)(b:(Nat×dg->Prop)->(Nat×dg->Nat)->(Nat×dg)->Prop):=∃(x:Nat×dg->Prop)(d:Nat×dg->Nat),(∃(c:Nat×dg),a x c)/\∀(c:Nat×dg),b x d c
abbrev v8(a:Nat×dg):=aX a.2
abbrev qN a b:=tN (CV.lst 5 1 a) b
abbrev KO(a:List cr)(b:dg->Prop):=∃(x:dg),a=aX x/\b x
attribute [push_cast] Po v8 qN KO
def Ty(s t:Sl)(m:MH)(h:PH)(K:cq):=
  Po (λI x=>aA (I x) (aI s) (aA (eL 19) (aI t) (aA (bI t) (bA x.1) (aA (vB 5 1 (v8 x)) (m=m) (bU h h))))) (λI e x=>I x->aY (↑x.1:Int) (aG t) (bK (λb o=>aA (aR t.a b o) (0<=(↑x.1:Int)) ((↑x.1:Int)<aG t/\∃(y:Int),aK m h b (bL o x.1 1) (bC y)/\bK (λf g=>aA (aR s.a f g) (0<=y) (y<aG s/\∃(j:VV),aK m h f (gH g y 3) j.enc/\∃(d:List cr)(v:VV),aA (qN (v8 x) (lV j)=qN d (lV v)) (eK m) (aA (v.text.size<=64) (oK (kB d 300)) (∃(c:Nat×dg),aA (I c) (e c<e x) (aA (aI s) (eL 19) (aA (aI t) (bI t) (aA (iH (bE x.1 1)=bP c.1) (bW 5 1 (mX d (GY v))=bW 5 1 (v8 c)) (eM m m h h))))))))))) (KO (v8 x) (λb=>K (wI b) m h)))
def Tu(s:Sl)(m:MH)(h:PH)(K:cq):=
  Po (λI x=>aA (I x) (eL 14) (aA (aI s) (bI s) (aA (bA x.1) (vB 5 1 (v8 x)) (aA (m=m) (h=h) True)))) (λI e x=>I x->aY (↑x.1:Int) (aG s) (bK (λb o=>aA (aR s.a b o) (0<=(↑x.1:Int)) ((↑x.1:Int)<aG s/\∃(y:VV),Hm m h b o x.1 3 y.enc (λd=>∃(v:VV),aA (qN (v8 x) (lV y)=qN d (lV v)) (eK m) (aA (v.text.size<=64) (oK (kB d 300)) (∃(c:Nat×dg),aA (I c) (e c<e x) (aA (eL 14) (aI s) (aA (bI s) (iH (bE x.1 1)=bP c.1) (aA (bW 5 1 (mX d (GY v))=bW 5 1 (v8 c)) (m=m) (bU h h)))))))))) (KO (v8 x) (λb=>K (wI b) m h)))
def IQ(s:Sl)(m:MH)(h:PH)(K:cq):=
  ∃(I:Nat×cn×cn->Prop)(d:Nat×cn×cn->Nat),(∃(x:Nat×cn×cn),aA (I x) (eL 16) (aA (eL 21) (aI s) (aA (bI s) (bA x.1) (aA (sU x.2.1) (sU x.2.2) (eM m m h h)))))/\∀(x:Nat×cn×cn),I x->aY (↑x.1:Int) (aG s) (bK (λb o=>aA (aR s.a b o) (0<=(↑x.1:Int)) ((↑x.1:Int)<aG s/\∃(y:Int×Int),aA (aK m h b (bL o x.1 2) (vZ y)) (cN 0) (aA ((0:Int)<2) (A5 (iL x.2.1)) (aA (eA (iL x.2.1)) (cN 1) (aA ((1:Int)<2) (A5 (iL x.2.2)) (eA (iL x.2.2)/\∃(c:Nat×cn×cn),aA (I c) (d c<d x) (aA (eL 16) (eL 21) (aA (aI s) (bI s) (aA (iH (bE x.1 1)=bP c.1) (lW (dP (iL x.2.1) (bC y.1)) c.2.1) (dJ (lW (dP (iL x.2.2) (bC
 y.2)) c.2.2) m m h h))))))))))) (cK h 1 (iL x.2.1) (λe f=>cK f 1 (iL x.2.2) (λg j=>K (CV.tup (cD e g)) m j)))
def IP(s t:Sl)(m:MH)(h:PH)(K:cq):=
  nI (λI x=>aA (I x) (aI s) (aA (aI t) (bI t) (dJ (bA x) m m h h))) (λI d x=>I x->aY (↑x:Int) (aG t) (bK (λb o=>aA (aR t.a b o) (0<=(↑x:Int)) ((↑x:Int)<aG t/\∃(y:Int),aK m h b (bL o x 1) (bC y)/\bK (λe f=>aA (aR s.a e f) (0<=y) (y<aG s/\∃(g:VV),aK m h e (gH f y 3) g.enc/\∃(v:VV),gX (eY (lV g) (lV v)) (!(pW v)) (K bD m h) (∃(c:Nat),aA (I c) (d c<d x) (aA (aI s) (aI t) (aA (bI t) (iH (bE x 1)=bP c) (aA (m=m) (h=h) True))))))))) (K jF m h))
def TF(n:Nat)(m:MH)(h:PH)(K:cq):=
  gA (iF ((↑n:Int)-iF ((0:Int)-0))) 0 (aA (cN 0) (cN 0) (aA (0<vR n) (JN (vR n*32)) (aA (JN (vR n)) ((0:Int)<=0) (cN (nN (tW (vR n) zY))/\K (CV.lst 30 3 []) m h)))) (K (CV.lst 30 3 []) m h)
abbrev Ey a:=List.map VV.enc a
attribute [push_cast] Ey
def TV(d:Sl)(m:MH)(h:PH)(K:cq):=
  Iy (λI x=>aA (I x) (aI d) (aA (bA x.2) (aI d) (aA (bI d) (bA x.1) (aA (m=m) (h=h) True)))) (λI g x=>I x->aY (↑x.1:Int) (aG d) (bK (λb o=>aA (aR d.a b o) (0<=(↑x.1:Int)) ((↑x.1:Int)<aG d/\∃(y:Sl),aK m h b (bL o x.1 1) (aL y)/\aY (bE x.2 (aG y)) 0 False (∃(c:Nat×Nat),aA (I c) (g c<g x) (aA (aI d) (iH (bE x.2 (aG y))=bP c.2) (aA (aI d) (bI d) (aA (iH (bE x.1 1)=bP c.1) (m=m) (bU h h)))))))) (∃(n:Nat),aA (Gg x.2=Gg n) (mY n) (∃(I1:Nat×cz->Prop)(j:Nat×cz->Nat),(∃(c:Nat×cz),aA (I1 c) (eL 24) (aA (aI d) (bI d) (aA (bA c.1) (vB 30 3 (Ey c.2)) (aA (m=m) (h=h) True))))/\∀(c:Nat×cz),I1 c->aY (↑c.1:Int) (aG d)
 (bK (λb o=>aA (aR d.a b o) (0<=(↑c.1:Int)) ((↑c.1:Int)<aG d/\∃(y:Sl),Hm m h b o c.1 1 (aL y) (λe=>aA (gC 3 e) (dH h (dL y) 3 e) (aA (sQ (Ey c.2) e 32) (sR (Ey c.2) e) (∃(f:Nat×cz),aA (I1 f) (j f<j c) (aA (eL 24) (aI d) (aA (bI d) (iH (bE c.1 1)=bP f.1) (aA (bW 30 3 (Ey c.2++e)=bW 30 3 (Ey f.2)) (m=m) (bU h h)))))))))) (cK h 3 (Ey c.2) (λs t=>K (nW s) m t)))))
theorem L3 a b:aX a++aX b=aX (a++b):=by simp[aX]
theorem bmX{v}(h:v.text.size<=64):(GY v).length<=130:=by
 have c:=pE v.kind;have d:=pE v.int;have e:=pE (v.text.size:Int);have f:v.text.data.toList.length=v.text.size:=Array.length_toList;simp only[GY,br,ci];omega
theorem Rk:cm 262 b7Z:=by
 refine jC func262 ?_;rintro f m h K ⟨xs,v,rfl,c,j,n,t⟩;refine⟨bDJ,rfl,aE Dp aH,Tv xs v m h K,ax,?_⟩;dsimp only[Tv,push_cast];have u:=pE v.kind;have y:=pE v.int;have z:=pE (v.text.size:Int);have A:v.text.data.toList.length=v.text.size:=Array.length_toList;have g:∀l:dg,(aX l).length=l.length:=λl=>by simp[aX]
 have d:fO v.text=aX v.text.data.toList:=rfl;refine⟨_,_,rfl,c,aC,?_,?_,_,_,rfl,c,?_,?_,?_,_,_,rfl,c,?_,?_,?_,?_,?_,?_⟩
 all_goals (try (simp only[br,g,d,ci,length_nil];omega))
 have e:xs++aX (GY v)=xs++aX (mP v.kind)++[[Value.int IntKind.u8 58]]++aX (mP v.int)++[[Value.int IntKind.u8 58]]++aX (mP (v.text.size:Int))++[[Value.int IntKind.u8 58]]++fO v.text:=by
  rw[d];simp only[GY,aX,bu,map_cons,append_assoc,cons_append,nil_append];rfl
 grind
theorem Xc{r}(h:∀v∈r,v.text.size<=64):(EX r).length<=130*r.length:=by
 induction r with
 |nil=>simp[EX]
 |cons v l c=>
  have f:=bmX (h v (mem_cons_self ..));have d:=c (λu e=>h u (mem_cons_of_mem _ e));simp only[EX,flatMap_cons,br,ci]at d⊢
  omega
theorem SZ{r:cz}{v}(c:r[i]? =some v):EX (r.take (i+1))=EX (r.take i)++GY v:=by
 rw[cd,c];simp[EX]
theorem Qo{r cols}(e:jY r.length cols){v}(f:v∈pick r cols):v∈r:=by
 obtain⟨c,d,rfl⟩:=mem_map.1 f;have:=e.at_ c d
 grind
theorem Kt{r cols}{i:Nat}{c}(d:jY r.length cols)(e:cols[i]? =some c):∃v,r[c.toNat]? =some v/\(pick r cols)[i]? =some v/\0<=c/\c<r.length:=by
 have:=d.at_ c (bo e);refine⟨r[c.toNat]'(by omega),bn _,?_,this⟩;unfold pick
 grind
theorem GC:cm 248 b3J:=by
 refine jC func248 ?_;rintro I m h K ⟨s,t,r,d,rfl,F,G,J,y,L,M⟩;refine⟨bEZ s t m h,rfl,aE Rk aH,Ty s t m h K,ax,?_⟩;dsimp only[Ty,push_cast];have O:=bM.slen F;have z:=G.slen;have P:=y.len;have Q:(pick r d).length=d.length:=by simp[pick]
 have g:∀v∈pick r d,v.text.size<=64:=λv R=>(J.val v (Qo y R)).text;refine⟨λx=>x.1<=d.length/\x.2=EX ((pick r d).take x.1),λx=>d.length-x.1,⟨(0,[]),⟨ay,by simp[EX]⟩,MT⟩,?_⟩;rintro⟨i,l⟩ ⟨S,H⟩;dsimp only at S H;subst H;refine aF (λf=>?_) (λA=>?_)
 .dsimp only at f;obtain⟨c,j⟩:=fK z f;obtain⟨b,o,e,rd⟩:=G.at j;obtain⟨v,D,n,T,Y⟩:=Kt y j;obtain⟨U,V,w,W,E,rfl⟩:=bM.at F D;have Z:=Xc (r:=(pick r d).take i) (λu X=>g u (mem_of_mem_take X));refine⟨b,o,e,aC,f,c,.imm bg,U,V,W,T,aC,v,.imm E,_,v,rfl,L,g v (bo n),?_,(i+1,EX ((pick r d).take (i+1))),⟨aC,rfl⟩,bg,?_⟩
  .have:(aX (EX ((pick r d).take i))).length=(EX ((pick r d).take i)).length:=by simp[aX]
   grind
  .dsimp only;rw[SZ n,L3];exact MT
 .dsimp only at A⊢
  rw[bt aC];exact⟨_,rfl,M⟩
theorem ZO:cm 263 aRJ:=by
 refine jC func263 ?_;rintro y m h K ⟨s,r,rfl,n,d,z,A⟩;refine⟨bDZ s m h,rfl,aE Rk aH,Tu s m h K,ax,?_⟩;dsimp only[Tu,push_cast];have e:=bM.slen n;have D:=d.len;refine⟨λx=>x.1<=r.length/\x.2=EX (r.take x.1),λx=>r.length-x.1,⟨(0,[]),⟨ay,by simp[EX]⟩,MT⟩,?_⟩;rintro⟨i,l⟩ ⟨E,t⟩;dsimp only at E t;subst t;refine aF (λc=>?_) (λf=>?_)
 .dsimp only at c;obtain⟨v,g⟩:=fK e c;obtain⟨F,G,w,H,j,rfl⟩:=bM.at n g;have J:=Xc (r:=r.take i) (λu I=>(d.val u (mem_of_mem_take I)).text);refine⟨F,G,H,aC,c,v,.imm j,_,v,rfl,z,(d.val v (bo g)).text,?_,(i+1,EX (r.take (i+1))),⟨aC,rfl⟩,bg,?_⟩
  .have:(aX (EX (r.take i))).length=(EX (r.take i)).length:=by simp[aX]
   grind
  .dsimp only;rw[SZ g,L3];exact MT
 .dsimp only at f⊢
  rw[bt aC];exact⟨_,rfl,A⟩
theorem aJZ{s on}(f:jD h s on)(z:∀a b h',PH.le h h'->Ints h' a (jG on)->Ints h' b (eG on)->K (.tup [cS a,cS b]) m h'):IQ s m h K:=by
 dsimp only[IQ,push_cast];have g:=f.slen;have G:=f.len;refine⟨λx=>x.1<=on.length/\x.2.1=(on.take x.1).map Prod.fst/\x.2.2=(on.take x.1).map Prod.snd,λx=>on.length-x.1,⟨(0,[],[]),⟨ay,ay,ay⟩,MT⟩,?_⟩;rintro⟨i,l,k⟩ ⟨A,t,u⟩;dsimp only at A t u;subst t u;refine aF (λc=>?_) (λj=>?_)
 .dsimp only at c;obtain⟨p,y⟩:=fK g c;obtain⟨b,o,e,rd⟩:=jD.at f y;refine⟨b,o,e,aC,c,p,.imm rd,aC,aC,?_,?_,aC,aC,?_,?_,(i+1,(on.take (i+1)).map Prod.fst,(on.take (i+1)).map Prod.snd),⟨aC,rfl,rfl⟩,bg,?_⟩
  all_goals (try (simp only[length_map,length_take];omega))
  dsimp only;rw[cd,y,Option.toList_some,bu,bu,bu,bu];exact MT
 .dsimp only at j⊢
  rw[bt aC];intro a H n D b E d F;exact z a b E (n.trans d) ⟨D.mono d,by simp[jG];omega⟩ ⟨F,by simp[eG];omega⟩
theorem Ro:cm 246 NI:=by
 refine jC func246 ?_;rintro c m h K ⟨s,on,rfl,d,e⟩;refine⟨X8 s m h,rfl,aH,IQ s m h K,ax,?_⟩;exact aJZ d e
theorem aJX{s t r cols}(A:bQ h s r)(D:Ints h t cols)(E:jY r.length cols)(g:K (cB ((pick r cols).all pW)) m h):IP s t m h K:=by
 dsimp only[IP,push_cast];have H:=bM.slen A;have n:=D.slen;have I:=E.len;have J:(pick r cols).length=cols.length:=by simp[pick]
 refine⟨λi=>i<=cols.length/\∀j:Nat,j<i->∀v,(pick r cols)[j]? =some v->pW v=true,λi=>cols.length-i,⟨0,⟨aC,λj F=>by omega⟩,MT⟩,λi⟨U,G⟩=>aF (λd=>?_) (λL=>?_)⟩
 .obtain⟨c,f⟩:=fK n d;obtain⟨b,o,e,rd⟩:=D.at f;obtain⟨v,y,M,O,V⟩:=Kt E f;obtain⟨P,Q,w,R,z,rfl⟩:=bM.at A y;refine⟨b,o,e,aC,d,c,.imm bg,P,Q,R,O,aC,v,.imm z,v,rfl,aD (λS=>?_) (λW=>⟨i+1,⟨aC,λj F u X=>?_⟩,(show cols.length-(i+1)<cols.length-i by omega),MT⟩)⟩
  .have:(pick r cols).all pW=false:=by
    grind
   rw[this]at g;exact g
  grind
 .have:(pick r cols).all pW=true:=by
   rw[all_eq_true];intro v T;obtain⟨j,F⟩:=getElem?_of_mem T
   grind
  rw[this]at g;exact g
theorem ZT:cm 247 Md:=by
 refine jC func247 ?_;rintro d m h K ⟨s,t,r,c,rfl,e,f,g,j⟩;refine⟨X7 s t m h,rfl,aE GD aH,IP s t m h K,ax,?_⟩;exact aJX e f g j
theorem aaX:cm 208 b6Q:=by
 refine jC func208 ?_;rintro d m h K ⟨n,rfl,f,c⟩;refine⟨dK [] [] [] [] true,rfl,aH,TF n m h K,ax,?_⟩;dsimp only[TF,push_cast];have e:IntKind.i64.wrap ((n:Int)-0)=n:=by rw[fL aC aC];omega
 have g:IntKind.i64.wrap ((n:Int)-IntKind.i64.wrap (0-0))=n:=by rw[show IntKind.i64.wrap (0-0)=0 from by rw[fL aC aC];rfl,e]
 exact aF (λj=>⟨aC,aC,aC,aC,aC,aC,aC,c⟩) (λ_=>c)
theorem Cn{α}{ks:List (List α)}{k}(c:ks[i]? =some k):((ks.take (i+1)).map List.length).sum=((ks.take i).map List.length).sum+k.length:=by
 rw[cd,c];simp
theorem Jx{α:Type}{ks:List (List α)}(h:∀k∈ks,k.length<=12):∀i,((ks.take i).map List.length).sum<=12*i
 |0=>ay
 |i+1=>by
  have c:=Jx h i;cases e:ks[i]? with
  |none=>rw[cd,e];grind
  |some k=>rw[Cn e];grind
theorem Rv:cm 161 Sc:=by
 refine jC func161 ?_;rintro L m h K ⟨G,ks,rfl,y,V,d,M⟩;refine⟨bJZ G m h,rfl,aE aaX aH,TV G m h K,ax,?_⟩;dsimp only[TV,push_cast];have j:=bM.slen y;refine⟨λ⟨i,n⟩=>i<=ks.length/\n=((ks.take i).map List.length).sum,λ⟨i,_⟩=>ks.length-i,⟨(0,0),⟨aC,ay⟩,MT⟩,?_⟩;rintro⟨i,n⟩ ⟨H,rfl⟩;dsimp only;have O:=Jx d i;refine aF (λc=>?_) (λt=>?_)
 .obtain⟨k,e⟩:=fK j c;obtain⟨b,o,g,z,r,f⟩:=bM.at y e;have P:=bM.slen f;have u:=d k (bo e)
  have Q:IntKind.i64.wrap (((((ks.take i).map List.length).sum:Nat):Int)+(g.len:Int))=((((ks.take (i+1)).map List.length).sum:Nat):Int):=by
   rw[Cn e,fL aC aC];omega
  refine⟨b,o,z,aC,c,g,.imm r,?_⟩;rw[Q];exact aF (λI=>by omega) (λ_=>⟨(i+1,((ks.take (i+1)).map List.length).sum),⟨aC,rfl⟩,aC,MT⟩)
 .refine⟨((ks.take i).map List.length).sum,rfl,aC,?_⟩;refine⟨λ⟨i,l⟩=>i<=ks.length/\l=(ks.take i).flatten,λ⟨i,_⟩=>ks.length-i,⟨(0,[]),⟨aC,ay⟩,MT⟩,?_⟩;clear O t H;rintro⟨i,l⟩ ⟨H,rfl⟩;dsimp only;have R:(ks.take i).flatten.length<=12*i:=by have:=Jx d i;grind
  refine aF (λc=>?_) (λt g h' A J=>M g h' A ⟨⟨ks.flatten,?_,rfl,λi x S=>⟨x,S,rfl⟩⟩,?_⟩)
  .obtain⟨k,e⟩:=fK j c;obtain⟨b,o,g,z,r,f⟩:=bM.at y e;have u:=d k (bo e);obtain⟨D,E,T,U⟩:=f.ex
   have F:D=k:=by
    apply ext_getElem?
    grind
   subst F;refine⟨b,o,z,aC,c,g,.imm r,D.map VV.enc,Qd D,E,?_,?_,(i+1,(ks.take (i+1)).flatten),⟨aC,rfl⟩,aC,?_⟩
   .grind
   .grind
   .rw[cd,e,Option.toList_some,flatten_append,bu,flatten_cons,flatten_nil,append_nil];exact MT
  .grind
  grind
theorem LX:∀(u:Nat)(b:UInt8),b∈Lib.decDigits u->48<=b.toNat/\b.toNat<=57:=by
 intro u
 induction u using Nat.strongRecOn with
 |_ u d=>
  intro b c;rw[Lib.decDigits]at c
  have one:∀k,k<10->48<=(UInt8.ofNat (48+k)).toNat/\(UInt8.ofNat (48+k)).toNat<=57:=λk e=>by
   rw[UInt8.toNat_ofNat'];omega
  grind
theorem aLJ:∀(u v:Nat),Lib.decDigits u=Lib.decDigits v->u=v:=by
 intro u
 induction u using Nat.strongRecOn with
 |_ u g=>
  intro v h;have f:=congrArg List.length h;rw[Lib.decDigits_length,Lib.decDigits_length]at f
  have one:∀a b,a<10->b<10->UInt8.ofNat (48+a)=UInt8.ofNat (48+b)->a=b:=λa b j n e=>by
   have:=congrArg UInt8.toNat e;rw[UInt8.toNat_ofNat',UInt8.toNat_ofNat']at this;omega
  by_cases d:u<10
  .have c:v<10:=by
    apply Classical.byContradiction;intro c;rw[Lib.nDigits_small d,Lib.nDigits_big c]at f;have:=Lib.nDigits_pos (v/10);omega
   rw[Lib.decDigits.eq_def u,Lib.decDigits.eq_def v,dif_pos d,dif_pos c]at h
   grind
  .have c:¬v<10:=λc=>by
    grind
   rw[Lib.decDigits.eq_def u,Lib.decDigits.eq_def v,dif_neg d,dif_neg c]at h;have t:=append_inj' h rfl
   grind
theorem Sw{n}(c:0<=n)(d:n<18446744073709551616):IntKind.u64.wrap n=n:=by
 rw[IntKind.wrap_u64];omega
theorem aUZ{n}(c:n<0)(d: -9223372036854775808<=n):IntKind.u64.wrap (0-IntKind.u64.wrap n)= -n:=by
 rw[IntKind.wrap_u64,IntKind.wrap_u64];omega
theorem CY{n}(h:uY n)(c:0<=n):mP n=Lib.decDigits n.toNat:=by
 unfold mP;rw[if_neg aC,Sw c (by have:=h.2;omega)]
theorem CZ{n}(h:uY n)(c:n<0):mP n=45::Lib.decDigits (-n).toNat:=by
 unfold mP;rw[if_pos c,aUZ c h.1]
theorem S5{n}(h:uY n){b}(c:b∈mP n):b≠58:=by
 intro e;subst e;by_cases f:0<=n
 .rw[CY h f]at c;have:=LX _ _ c;simp at this
 .rw[CZ h aC]at c;rcases mem_cons.1 c with d|d
  .cases d
  .have:=LX _ _ d;simp at this
theorem S6{m n}(c:uY m)(d:uY n)(h:mP m=mP n):m=n:=by
 have f:∀u r,Lib.decDigits u=45::r->False:=λu r e=>by
  have:=LX u 45 (by rw[e];simp);simp at this
 by_cases g:0<=m<;>by_cases j:0<=n
 .rw[CY c g,CY d j]at h;have:=aLJ _ _ h;omega
 .rw[CY c g,CZ d aC]at h
  grind
 .rw[CZ c aC,CY d j]at h
  grind
 .rw[CZ c aC,CZ d aC]at h;have:=aLJ _ _ (List.cons.inj h).2;omega
theorem P5{α:Type}{x:α}:∀{a b r r':List α},x∉a->x∉b->a++x::r=b++x::r'->a=b/\r=r'
 |[],[],r,r',_,_,h=>⟨rfl,(List.cons.inj h).2⟩
 |[],c::b,r,r',_,e,h=>by
  grind
 |c::a,[],r,r',f,_,h=>by
  grind
 |c::a,d::b,r,r',f,e,h=>by
  have g:=List.cons.inj h;obtain⟨j,n⟩:=P5 (λm=>f (by simp[m])) (λm=>e (by simp[m])) g.2
  grind
theorem Hh{m n r r'}(d:uY m)(e:uY n)(h:mP m++58::r=mP n++58::r'):m=n/\r=r':=by
 obtain⟨f,g⟩:=P5 (λc=>S5 d c rfl) (λc=>S5 e c rfl) h;exact⟨S6 d e f,g⟩
theorem auQ{u v r r'}(c:Zb u)(d:Zb v)(h:GY u++r=GY v++r'):u=v/\r=r':=by
 simp only[GY,append_assoc,cons_append]at h;obtain⟨e,h⟩:=Hh c.kind d.kind h;obtain⟨f,h⟩:=Hh c.int d.int h;have sz:∀w:VV,Zb w->uY (w.text.size:Int):=λw g=>⟨aC,by have:=g.text;omega⟩
 obtain⟨A,h⟩:=Hh (sz u c) (sz v d) h
 have j:u.text.data.toList.length=v.text.data.toList.length:=by
  have:u.text.size=v.text.size:=by omega
  rw[Array.length_toList,Array.length_toList];exact this
 obtain⟨n,y⟩:=append_inj h j;refine⟨?_,y⟩;obtain⟨k,i,t⟩:=u;obtain⟨D,E,z⟩:=v;simp only[VV.mk.injEq]at e f⊢
 refine⟨e,f,?_⟩;cases t;cases z;simp only[ByteArray.mk.injEq];exact Array.toList_inj.1 n
theorem Xd:∀{a b:cz},a.length=b.length->(∀v∈a,Zb v)->(∀v∈b,Zb v)->EX a=EX b->a=b
 |[],[],_,_,_,_=>rfl
 |x::a,y::b,c,e,f,h=>by
  simp only[EX,flatMap_cons]at h;obtain⟨g,j⟩:=auQ (e x (mem_cons_self ..)) (f y (mem_cons_self ..)) h;rw[g,Xd bg (λv d=>e v (mem_cons_of_mem _ d)) (λv d=>f v (mem_cons_of_mem _ d)) j]
 |[],_::_,c,_,_,_=>by simp at c
 |_::_,[],c,_,_,_=>by simp at c
theorem QT{a b}(c:a.length=b.length)(d:∀v∈a,Zb v)(e:∀v∈b,Zb v):fN a=fN b↔a=b:=by
 constructor
 .intro h;simp only[fN,ByteArray.mk.injEq]at h;exact Xd c d e bg
 grind
structure ayQ(κ:cz->ByteArray):Prop where
 inj:∀{a b:cz},a.length=b.length->(∀v∈a,Zb v)->(∀v∈b,Zb v)->(κ a=κ b↔a=b)
theorem QU:ayQ fN:=⟨QT⟩
structure Step where
 op:Int
 table:Int
 wher:Pred
 columns:cn
 on:cu
 group:cn
 order:cv
 limit:Int
 left:Int
 right:Int
abbrev de:=List Step
variable{ts:de}{t:Step}
def Step.query(t:Step):Query:=.mk t.op t.table t.wher t.columns t.on t.group t.order t.limit []
structure uW(h:PH)(t:Step)(v:xA):Prop where
 op_:v.op=t.op
 table_:v.table=t.table
 where_:fP h t.wher v.where_
 columns_:Ints h v.columns t.columns
 on_:jD h v.on t.on
 group_:Ints h v.group t.group
 order_:jP h v.order t.order
 limit_:v.limit=t.limit
 left_:v.left=t.left
 right_:v.right=t.right
theorem uW.mono{v}(x:uW h t v)(le:PH.le h h'):uW h' t v:=⟨x.op_,x.table_,x.where_.mono le,x.columns_.mono le,x.on_.mono le,x.group_.mono le,x.order_.mono le,x.limit_,x.left_,x.right_⟩
def aT(v:xA):CV:=.val (.agg ⟨v.enc⟩)
def jU(l:cn):=l.flatMap λn=>mP n++[32]
def As(v:VV):=jU [v.kind]++(mP v.int++[32])++jU [(v.text.size:Int)]++v.text.data.toList
def DC(o:OV):=jU [o.kind,o.index]++As o.value
mutual
def sH:Pred->dg
 |.mk op c l r args=>jU [op,c]++DC l++DC r++jU [(args.length:Int)]++p8 args
def p8:dh->dg
 |[]=>[]
 |p::ps=>sH p++p8 ps
end
theorem iQ:∀l:cn,(jU l).length<=22*l.length
 |[]=>by simp[jU]
 |n::l=>by
  have:=iQ l;have c:=pE n;unfold jU at this⊢
  grind
def US:Vc.Spec:=λc m h K=>∃xs s l,c=[.lst 5 1 xs,cS s]/\Ints h s l/\eK m/\xs.length+22*l.length+100<=140737488355328/\K (.lst 5 1 (xs++aX (jU l))) m h
def cJX:Vc.Spec:=λc m h K=>∃xs v,c=[.lst 5 1 xs,aV v]/\eK m/\xs.length+v.text.size+500<=140737488355328/\K (.lst 5 1 (xs++aX (As v))) m h
def cJQ:Vc.Spec:=λc m h K=>∃xs o,c=[.lst 5 1 xs,aO o]/\eK m/\xs.length+o.value.text.size+1000<=140737488355328/\K (.lst 5 1 (xs++aX (DC o))) m h
def cIZ(N:Nat):Vc.Spec:=λc m h K=>∃xs v p,c=[.lst 5 1 xs,aP v]/\fP h p v/\SizeOf.sizeOf p<N/\eK m/\xs.length+(sH p).length+5000<=140737488355328/\K (.lst 5 1 (xs++aX (sH p))) m h
def cIJ:Vc.Spec:=λc m h K=>∃xs v p,c=[.lst 5 1 xs,aP v]/\fP h p v/\eK m/\xs.length+(sH p).length+5000<=140737488355328/\K (.lst 5 1 (xs++aX (sH p))) m h
noncomputable def bGJ s m h:=
 dK [(195,OI)] [(2,{A:=Nat×List cr,st:=λ⟨i,xs⟩=>bY 21 23 [(0,.at (.lst 21)),(7,sv s),(8,iv s.len),(9,iv i)] [(21,.lst 5 1 xs)] m h})] [] [(195,[0])] true
abbrev KG(a:List cr)(b:Int)(c:List cr)(d:MH)(e:Nat)(g:Int->Prop):=∃(x:Int),aA (zR a b=zR c x) (eK d) (aA (oK (kB c 40)) (jN (kB (sS c x) 1) e) (eA (sS c x)/\g x))
attribute [push_cast] KG
def TE xs s m h K:=
  ∃(I:Nat×List cr->Prop)(d:Nat×List cr->Nat),(∃(x:Nat×List cr),aA (I x) (eL 21) (aA (aI s) (bI s) (aA (bA x.1) (bW 5 1 xs=bW 5 1 x.2) (aA (m=m) (h=h) True))))/\∀(x:Nat×List cr),I x->aY (↑x.1:Int) (aG s) (bK (λb o=>aA (aR s.a b o) (0<=(↑x.1:Int)) ((↑x.1:Int)<aG s/\∃(y:Int),Hm m h b o x.1 1 (bC y) (λe=>KG x.2 y e m 1 (λi=>∃(c:Nat×List cr),aA (I c) (d c<d x) (aA (eL 21) (aI s) (aA (bI s) (iH (bE x.1 1)=bP c.1) (aA (bW 5 1 (dP (sS e i) (xT 32))=bW 5 1 c.2) (m=m) (bU h h))))))))) (vQ K x.2 m h)
abbrev vC(a:Nat->Nat->Option Value)(b:Nat)(c:List cr)(d:Sl->PH->(List cr)->Prop):=cK a b c (λx e=>∃(f:List cr),d x e f)
abbrev nB a b:=tN (CV.lst 5 1 a) (nW b)
abbrev By(a:List cr)(b:cn):=oK (kB a (22*b.length)+100)
abbrev F9(a:List cr)(b:Sl)(c:List cr)(d:Sl)(e:PH)(g:cn)(i:MH)(j:(List cr)->Prop):=aA (nB a b=nB c d) (Ints e d g) (aA (eK i) (By c g) (∃(x:List cr),j x))
attribute [push_cast] vC nB By F9
def Nj(xs:List cr)(v:VV)(m:MH)(h:PH)(K:cq):=
  vC h 1 (mC (bC v.kind)) (λs e x=>rY (λn l=>F9 xs s x n e l m (λf=>KG (mX x (jU l)) v.int f m 1 (λi=>vC e 1 (mC (bC (↑v.text.size:Int))) (λu g c=>rY (λj d=>aA (nB (dP (sS f i) (xT 32)) u=nB c j) (Ints g j d) (aA (eK m) (By c d) (aA (sQ (mX c (jU d)) (fO v.text) 1) (sR (mX c (jU d)) (fO v.text)) (vQ K (mX c (jU d)++fO v.text) m g)))))))))
theorem dV a b:aX (a++b)=aX a++aX b:=by simp[aX]
theorem Ints.ofRow{s}(r:dH h s 1 (l.map eI))(c:l.length<=17592186044416):Ints h s l:=⟨r,c⟩
theorem SQ{x}(hx:l[i]? =some x):jU (l.take (i+1))=jU (l.take i)++mP x++[32]:=by
 rw[cd,hx];simp[jU]
theorem aaQ:cm 209 US:=by
 refine jC func209 ?_;rintro n m h K ⟨xs,s,l,rfl,f,u,z,A⟩;refine⟨bGJ s m h,rfl,aE Dp aH,TE xs s m h K,ax,?_⟩;dsimp only[TE,push_cast];have d:=f.slen;refine⟨λ⟨i,g⟩=>i<=l.length/\g=xs++aX (jU (l.take i)),λ⟨i,_⟩=>l.length-i,⟨(0,xs),⟨aC,by simp[jU,aX]⟩,MT⟩,?_⟩;rintro⟨i,g⟩ ⟨D,rfl⟩;dsimp only;refine aF (λc=>?_) (λy=>?_)
 .obtain⟨x,j⟩:=fK d c;obtain⟨b,o,e,r⟩:=f.at' j;have E:=iQ (l.take i);have F:=pE x;have G:(l.take i).length=i:=bf
  refine⟨b,o,e,aC,c,x,.imm r,_,x,rfl,u,?_,?_,?_,(i+1,xs++aX (jU (l.take (i+1)))),⟨aC,rfl⟩,aC,?_⟩
  .rw[br,aZ];omega
  .rw[br,br,aZ,aZ];omega
  .rw[br,br,aZ,aZ];omega
  .rw[SQ j,dV,dV, <-append_assoc, <-append_assoc];exact MT
 grind
theorem ajX:cm 162 cJX:=by
 refine EY func162 ?_;rintro g m h K ⟨xs,v,rfl,c,D,d⟩;refine⟨dK [(209,US),(195,OI)] [] [] [(209,[0]),(195,[0])] true,rfl,aE aaQ (aE Dp aH),Nj xs v m h (lZ h K),ax,?_⟩;show Nj xs v m h (lZ h K);dsimp only[Nj,push_cast];intro j E e n;have u:=iQ [v.kind];have F:=pE v.int;have y:=iQ [(v.text.size:Int)];have G:(fO v.text).length=v.text.size:=by simp[fO]
 simp only[ci,length_nil]at u y;refine⟨_,j,[v.kind],rfl,.ofRow n ay,c,bf,_,v.int,rfl,c,?_,?_,?_,λz H f A=>⟨_,z,[(v.text.size:Int)],rfl,.ofRow A ay,c,?_,?_,?_,?_⟩⟩
 .rw[br,aZ];omega
 .simp only[br,aZ];omega
 .simp only[br,aZ];omega
 .simp only[br,aZ,ci,length_nil];omega
 .simp only[br,aZ,ci,length_nil];omega
 .simp only[br,aZ,ci,length_nil];omega
 .refine .out (Sub.refl m) (e.trans f) ?_;rw[As,dV,dV,dV,dV]at d;simp only[append_assoc]at d⊢
  exact d
theorem bmQ v:v.text.size<=(As v).length:=by
 have:v.text.data.toList.length=v.text.size:=ay
 simp only[As,br];omega
theorem W2 o:o.value.text.size<=(DC o).length:=by
 have:=bmQ o.value;simp only[DC,br];omega
theorem N7{l:dh}{x}(hx:l[i]? =some x):p8 (l.take (i+1))=p8 (l.take i)++sH x:=by
 have key:∀(a:dh),p8 (a++[x])=p8 a++sH x:=by
  intro a
  induction a with
  |nil=>simp[p8]
  |cons y a c=>simp[p8,c]
 rw[cd,hx];exact key _
theorem WS{l}:∀(i:Nat),(p8 (l.take i)).length<=(p8 l).length:=by
 induction l with
 |nil=>intro i;simp
 |cons y a c=>
  intro i;cases i with
  |zero=>simp[p8]
  |succ i=>have:=c i;simp only[take_succ_cons,p8,br];omega
def wQ(l:cu):=l.flatMap λp=>jU [p.1,p.2]
def wO(l:cv):=l.flatMap λp=>jU [p.1,if p.2 then 1 else 0]
structure OH(t:Step):Prop where
 wher:(sH t.wher).length<=1000000000
 columns:t.columns.length<=1000000000
 on:t.on.length<=1000000000
 group:t.group.length<=1000000000
 order:t.order.length<=1000000000
theorem WY{l:cu}{x}(hx:l[i]? =some x):wQ (l.take (i+1))=wQ (l.take i)++jU [x.1,x.2]:=by
 rw[cd,hx];simp[wQ]
theorem N2{l:cv}{x}(hx:l[i]? =some x):wO (l.take (i+1))=wO (l.take i)++jU [x.1,if x.2 then 1 else 0]:=by
 rw[cd,hx];simp[wO]
theorem JG:∀l:cu,(wQ l).length<=44*l.length
 |[]=>by simp[wQ]
 |n::l=>by
  have:=JG l;have c:=iQ [n.1,n.2];unfold wQ at this⊢
  grind
theorem P6:∀l:cv,(wO l).length<=44*l.length
 |[]=>by simp[wO]
 |n::l=>by
  have:=P6 l;have c:=iQ [n.1,if n.2 then 1 else 0];unfold wO at this⊢
  grind
def b6J(N:Nat):Vc.Spec:=λc m h K=>∃v p,c=[aP v]/\fP h p v/\SizeOf.sizeOf p<N/\∀d h',PH.le h h'->fP h' p d->K (aP d) m h'
def azQ:Vc.Spec:=λc m h K=>∃v p,c=[aP v]/\fP h p v/\∀d h',PH.le h h'->fP h' p d->K (aP d) m h'
def PQ:Vc.Spec:=λc m h K=>∃s l,c=[cS s]/\Ints h s l/\∀d h',PH.le h h'->Ints h' d l->K (cS d) m h'
def We:Vc.Spec:=λc m h K=>∃s l,c=[cS s]/\jD h s l/\∀d h',PH.le h h'->jD h' d l->K (cS d) m h'
def aTJ:Vc.Spec:=λc m h K=>∃s l,c=[cS s]/\jP h s l/\∀d h',PH.le h h'->jP h' d l->K (cS d) m h'
def a7J(n c:Nat)(m:MH)(h:PH)(K:cq):=
  K EH m h
theorem cjZ n c m h K:a7J n c m h K=(xH (dK [] [] [] [] false) Tryz.f78 (eD Tryz.f78) (entry Tryz.f78.ntmps [.val (.slice none n c)] m h) K):=ax
def a7Z a n c m h K:=
  ∃(y:List cr),aA (gC 1 y) (dH h (Sl.mk (Option.some a) n c) 1 y) (aA (jN (0+y.length) 8) (oK (0+y.length)) (vU h (Gu y) K m))
theorem cjX a n c m h K:a7Z a n c m h K=(xH (dK [] [] [] [] false) Tryz.f78 (eD Tryz.f78) (entry Tryz.f78.ntmps [.val (.slice (some a) n c)] m h) K):=ax
def a7X(n c:Nat)(m:MH)(h:PH)(K:cq):=
  K EH m h
theorem cjQ n c m h K:a7X n c m h K=(xH (dK [] [] [] [] false) Tryz.f79 (eD Tryz.f79) (entry Tryz.f79.ntmps [.val (.slice none n c)] m h) K):=ax
def a7Q(a:Addr)(n c:Nat)(m:MH)(h:PH)(K:cq):=
  ∃(y:List cr),aA (gC 2 y) (dH h (Sl.mk (Option.some a) n c) 2 y) (aA (jN (0+y.length) 16) (oK (0+y.length)) (cK h 2 (Gu y) (λs d=>K (nW s) m d)))
theorem ciJ a n c m h K:a7Q a n c m h K=(xH (dK [] [] [] [] false) Tryz.f79 (eD Tryz.f79) (entry Tryz.f79.ntmps [.val (.slice (some a) n c)] m h) K):=ax
def a6Z(n c:Nat)(m:MH)(h:PH)(K:cq):=
  K EH m h
theorem ciZ n c m h K:a6Z n c m h K=(xH (dK [] [] [] [] false) Tryz.f80 (eD Tryz.f80) (entry Tryz.f80.ntmps [.val (.slice none n c)] m h) K):=ax
def a6X(a:Addr)(n c:Nat)(m:MH)(h:PH)(K:cq):=
  ∃(y:List cr),aA (gC 2 y) (dH h (Sl.mk (Option.some a) n c) 2 y) (aA (jN (0+y.length) 16) (oK (0+y.length)) (cK h 2 (Gu y) (λs d=>K (nW s) m d)))
theorem ciX a n c m h K:a6X a n c m h K=(xH (dK [] [] [] [] false) Tryz.f80 (eD Tryz.f80) (entry Tryz.f80.ntmps [.val (.slice (some a) n c)] m h) K):=ax
theorem MS:cm 78 PQ:=by
 refine fW (fn:=Tryz.f78) (c:=eD Tryz.f78) func78 rfl az ?_;rintro y m h K ⟨⟨a,n,c⟩,l,rfl,g,u⟩;refine⟨dK [] [] [] [] false,rfl,aH,?_⟩;have d:=g.len;cases a with
 |none=>
  have e:=Qe g.row;subst e;show xH _ _ _ (entry Tryz.f78.ntmps [.val (.slice none n c)] m h) K;rw[<-cjZ n c m h K];exact u ⟨none,0,0⟩ h (.refl _) ⟨.nil _ _,ay⟩
 |some a=>
  show xH _ _ _ (entry Tryz.f78.ntmps [.val (.slice (some a) n c)] m h) K;rw[<-cjX a n c m h K];exact⟨_,BM l,g.row,bf,bf,λz h' j f=>u z h' j ⟨f,d⟩⟩
theorem Th:cm 79 We:=by
 refine fW (fn:=Tryz.f79) (c:=eD Tryz.f79) func79 rfl az ?_;rintro y m h K ⟨⟨a,n,c⟩,l,rfl,g,u⟩;refine⟨dK [] [] [] [] false,rfl,aH,?_⟩;have d:=g.len;cases a with
 |none=>
  have e:=Qe g.row;subst e;show xH _ _ _ (entry Tryz.f79.ntmps [.val (.slice none n c)] m h) K;rw[<-cjQ n c m h K];exact u ⟨none,0,0⟩ h (.refl _) ⟨.nil _ _,ay⟩
 |some a=>
  show xH _ _ _ (entry Tryz.f79.ntmps [.val (.slice (some a) n c)] m h) K;rw[<-ciJ a n c m h K];exact⟨_,Ve l,g.row,bf,bf,λz h' j f=>u z h' j ⟨f,d⟩⟩
theorem a6J:cm 80 aTJ:=by
 refine fW (fn:=Tryz.f80) (c:=eD Tryz.f80) func80 rfl az ?_;rintro y m h K ⟨⟨a,n,c⟩,l,rfl,g,u⟩;refine⟨dK [] [] [] [] false,rfl,aH,?_⟩;have d:=g.len;cases a with
 |none=>
  have e:=Qe g.row;subst e;show xH _ _ _ (entry Tryz.f80.ntmps [.val (.slice none n c)] m h) K;rw[<-ciZ n c m h K];exact u ⟨none,0,0⟩ h (.refl _) ⟨.nil _ _,ay⟩
 |some a=>
  show xH _ _ _ (entry Tryz.f80.ntmps [.val (.slice (some a) n c)] m h) K;rw[<-ciX a n c m h K];exact⟨_,Vd l,g.row,bf,bf,λz h' j f=>u z h' j ⟨f,d⟩⟩
def stepB(t:Step):=jU [t.op,t.table,t.limit,t.left,t.right]++sH t.wher++jU [(t.columns.length:Int)]++jU t.columns++jU [(t.on.length:Int)]++wQ t.on++jU [(t.group.length:Int)]++jU t.group++jU [(t.order.length:Int)]++wO t.order
def cIX:Vc.Spec:=λc m h K=>∃xs v t,c=[.lst 5 1 xs,aT v]/\uW h t v/\OH t/\eK m/\xs.length<=1000/\K (.lst 5 1 (xs++aX (stepB t))) m h
noncomputable def bMQ s m h:=
 dK [(195,OI)] [(2,{A:=Nat×List cr,st:=λ⟨i,xs⟩=>bY 21 23 [(0,.at (.lst 21)),(7,sv s),(8,iv s.len),(9,iv i)] [(21,.lst 5 1 xs)] m h})] [] [(195,[0])] true
noncomputable def bLJ(N:Nat)(v:PV)(m:MH):=
 dK [(142,US),(196,cJQ),(143,cIZ N)] [(6,{A:=Nat×List cr×PH,st:=λ⟨i,xs,h⟩=>bY 40 42 [(0,.at (.lst 40)),(29,sv v.args),(30,iv v.args.len),(31,iv i)] [(40,.lst 5 1 xs)] m h})] [] [(142,[0]),(196,[0]),(143,[0])] true
noncomputable def cjJ(N:Nat)(v:PV)(m:MH):=
 dK [(77,b6J N)] [(4,{A:=Nat×eb×PH,st:=λ⟨i,c,h⟩=>bY 24 25 [(1,.at (.ptr 1 0)),(2,.at (.ptr 2 0)),(9,sv v.args),(10,iv v.args.len),(11,iv i)] [(1,.cells 35 ((v.enc.take 12).map .val++[.lst 20])),(2,.cells 35 (jT.enc.map .val)),(20,.lst 35 13 (c.map PV.enc))] m h})] [] [] false
noncomputable def ckQ(v:xA)(m:MH):=
 dK [(142,US),(143,cIJ)] [(7,{A:=Nat×List cr×PH,st:=λ⟨i,xs,h⟩=>bY 91 93 [(0,.at (.lst 91)),(3,.at (.ptr 3 0)),(44,sv v.on),(45,iv v.on.len),(46,iv i)] [(3,.cells 101 (v.enc.map .val)),(91,.lst 5 1 xs)] m h}),
  (15,{A:=Nat×List cr×PH,st:=λ⟨i,xs,h⟩=>bY 91 93 [(0,.at (.lst 91)),(75,sv v.order),(76,iv v.order.len),(77,iv i)] [(91,.lst 5 1 xs)] m h})] [] [(142,[0]),(143,[0])] true
def Ua xs s m h K:=
  ∃(I:Nat×List cr->Prop)(d:Nat×List cr->Nat),(∃(x:Nat×List cr),aA (I x) (eL 21) (aA (aI s) (bI s) (aA (bA x.1) (bW 5 1 xs=bW 5 1 x.2) (aA (m=m) (h=h) True))))/\∀(x:Nat×List cr),I x->aY (↑x.1:Int) (aG s) (bK (λb o=>aA (aR s.a b o) (0<=(↑x.1:Int)) ((↑x.1:Int)<aG s/\∃(y:Int),Hm m h b o x.1 1 (bC y) (λe=>KG x.2 y e m 1 (λi=>∃(c:Nat×List cr),aA (I c) (d c<d x) (aA (eL 21) (aI s) (aA (bI s) (iH (bE x.1 1)=bP c.1) (aA (bW 5 1 (dP (sS e i) (xT 32))=bW 5 1 c.2) (m=m) (bU h h))))))))) (vQ K x.2 m h)
abbrev Pe(a:dk)(b:List cr)(c:Sl)(d:PH)(e:cn)(g:MH)(i:(Nat×List cr×PH->Prop)->(Nat×List cr×PH)->Prop)(j:(Nat×List cr×PH->Prop)->(Nat×List cr×PH->Nat)->(Nat×List cr×PH)->Prop):=aA (a=nB b c) (Ints d c e) (aA (eK g) (By b e) (∃(x:Nat×List cr×PH->Prop)(n:Nat×List cr×PH->Nat),(∃(f:Nat×List cr×PH),i x f)/\∀(f:Nat×List cr×PH),j x n f))
abbrev FI(a:List cr)(b:cn)(c:Nat×List cr×PH):=bW 5 1 (mX a (jU b))=bW 5 1 c.2.1
abbrev oR(a:Nat×List cr×PH):=a.2.2
attribute [push_cast] Pe FI oR
def Nn N xs v m h K:=
  vC h 1 (mJ (bC v.op) (bC v.cmp)) (λs n x=>rY (λG l=>F9 xs s x G n l m (λe=>∃(o:OV),aA (qN (mX x (jU l)) (jO v.left.enc)=qN e (jO o.enc)) (eK m) (oK (kB e (BR o).size+1000)/\∃(f:List cr)(g:OV),aA (qN (mX e (DC o)) (jO (Ad v))=qN f (jO g.enc)) (eK m) (oK (kB f (BR g).size+1000)/\vC n 1 (mC (bC (wF v))) (λH u z=>rY (λJ A=>Pe (nB (mX f (DC g)) H) z J u A m (λI c=>aA (I c) (eL 40) (aA (aI v.args) (bI v.args) (aA (bA c.1) (FI z A c) (aA (m=m) (u=oR c) True)))) (λI D c=>I c->aY (↑c.1:Int) (aG v.args) (bK (λb E=>aA (aR v.args.a b E) (0<=(↑c.1:Int)) ((↑c.1:Int)<aG v.args/\∃(y:PV),Hm m
 (oR c) b E c.1 13 y.enc (λj=>sT (λF p=>aA (qN c.2.1 (gR y)=qN j (gR F)) (fP (oR c) p F) (aA (sP p N) (eK m) (oK (kB j (sH p).length+5000)/\∃(d:Nat×List cr×PH),aA (I d) (D d<D c) (aA (eL 40) (aI v.args) (aA (bI v.args) (iH (bE c.1 1)=bP d.1) (aA (bW 5 1 (mX j (sH p))=bW 5 1 d.2.1) (m=m) (bU (oR c) (oR d)))))))))))) (vQ K c.2.1 m (oR c))))))))))
abbrev F8(a:Nat×eb×PH):=List.map PV.enc a.2.1
attribute [push_cast] F8
def XD(N:Nat)(v:PV)(m:MH)(h:PH)(K:cq):=
  ∃(I:Nat×eb×PH->Prop)(e:Nat×eb×PH->Nat),(∃(x:Nat×eb×PH),aA (I x) fB (aA (eP 2) (aI v.args) (aA (bI v.args) (bA x.1) (aA (eQ (oQ 35 (gU (kL v.op) (kL v.cmp) (gU (kL v.left.kind) (Bz v.left) (gU (kL (qL v.left)) (kL (GU v.left)) (gU (NG (BR v.left)) (kL v.right.kind) (gU (Bz v.right) (kL (qL v.right)) (gU (kL (GU v.right)) (NG (BR v.right)) (uH (At.lst 20)))))))))) vV (dJ (vB 35 13 (F8 x)) m m h x.2.2)))))/\∀(x:Nat×eb×PH),I x->aY (↑x.1:Int) (aG v.args) (bK (λb o=>aA (aR v.args.a b o) (0<=(↑x.1:Int)) ((↑x.1:Int)<aG v.args/\∃(y:PV),aK m x.2.2 b (bL o x.1 13) y.enc/\sT (λf p=>aA (eY (gR y) (gR f)) (fP x.2.2 p f) (sP p N/\∀(g:PV)(c:PH),bS x.2.2 c (fP c
 p g) (aA (jN (kB (F8 x) 1) 136) (eA (F8 x)) (∃(d:Nat×eb×PH),aA (I d) (e d<e x) (aA fB iS (aA (aI v.args) (bI v.args) (aA (iH (bE x.1 1)=bP d.1) (eQ (oQ 35 (gU (kL v.op) (kL v.cmp) (gU (kL v.left.kind) (Bz v.left) (gU (kL (qL v.left)) (kL (GU v.left)) (gU (NG (BR v.left)) (kL v.right.kind) (gU (Bz v.right) (kL (qL v.right)) (gU (kL (GU v.right)) (NG (BR v.right)) (uH (At.lst 20)))))))))) (aA vV (bW 35 13 (dP (F8 x) g.enc)=bW 35 13 (F8 d)) (aA (m=m) (c=d.2.2) True)))))))))))) (cK x.2.2 13 (F8 x) (λs c=>K (jO (bG (gZ v.op) (gZ v.cmp) (bG (zG v.left) (zI v.left) (bG (gZ (qL v.left)) (uC v.left) (bG (Cc v.left) (zG v.right) (bG (zI v.right) (gZ (qL v.right)) (bG (uC
 v.right) (Cc v.right) (aL s)))))))) m c))
def Nf xs o m h K:=
  vC h 1 (pD (zG o)::mJ (pD (zI o)) (bC (qL o))) (λs e x=>rY (λn l=>F9 xs s x n e l m (λf=>KG (mX x (jU l)) (GU o) f m 1 (λi=>vC e 1 (mC (bC (↑(BR o).size:Int))) (λu g c=>rY (λj d=>aA (nB (dP (sS f i) (xT 32)) u=nB c j) (Ints g j d) (aA (eK m) (By c d) (aA (sQ (mX c (jU d)) (fO (BR o)) 1) (sR (mX c (jU d)) (fO (BR o))) (vQ K (mX c (jU d)++fO (BR o)) m g)))))))))
abbrev oG(a:xA):=eQ (qM 101 a.enc)
attribute [push_cast] oG
def Rb xs v m h K:=
  vC h 1 (bC v.op::bC v.table::bC v.limit::mJ (bC v.left) (bC v.right)) (λs G x=>rY (λs1 l=>F9 xs s x s1 G l m (λH=>sT (λR p=>aA (qN (mX x (jU l)) (gR v.where_)=qN H (gR R)) (fP G p R) (aA (eK m) (oK (kB H (sH p).length+5000)) (vC G 1 (mC (bC (aG v.columns))) (λs2 J S=>rY (λs3 T=>F9 (mX H (sH p)) s2 S s3 J T m (λL=>rY (λU M=>aA (nB (mX S (jU T)) v.columns=nB L U) (Ints J U M) (aA (eK m) (By L M) (vC J 1 (mC (bC (aG v.on))) (λs5 V W=>rY (λs6 X=>Pe (nB (mX L (jU M)) s5) W s6 V X m (λI d=>aA (I d) (eL 91) (aA (eP 3) (aI v.on) (aA (bI v.on) (bA d.1) (aA (oG v) (FI W X d) (eM m m V
 (oR d)))))) (λI Y d=>I d->aY (↑d.1:Int) (aG v.on) (bK (λb o=>aA (aR v.on.a b o) (0<=(↑d.1:Int)) ((↑d.1:Int)<aG v.on/\∃(y:Int×Int),aA (aK m (oR d) b (bL o d.1 2) (vZ y)) (cN 0) (aA ((0:Int)<2) (cN 1) ((1:Int)<2/\vC (oR d) 1 (mJ (bC y.1) (bC y.2)) (λO n u=>rY (λE z=>aA (nB d.2.1 O=nB u E) (Ints n E z) (aA (eK m) (By u z) (∃(f:Nat×List cr×PH),aA (I f) (Y f<Y d) (aA (eL 91) j8 (aA (aI v.on) (bI v.on) (aA (iH (bE d.1 1)=bP f.1) (oG v) (dJ (FI u z f) m m n (oR f)))))))))))))) (vC (oR d) 1 (mC (bC (aG v.group))) (λO n u=>rY (λE z=>F9 d.2.1 O u E n z m (λf=>rY (λZ P=>aA (nB (mX
 u (jU z)) v.group=nB f Z) (Ints n Z P) (aA (eK m) (By f P) (vC n 1 (mC (bC (aG v.order))) (λa h5 x8=>rY (λa1 l6=>Pe (nB (mX f (jU P)) a) x8 a1 h5 l6 m (λI1 c=>aA (I1 c) (eL 91) (aA (aI v.order) (bI v.order) (aA (bA c.1) (FI x8 l6 c) (aA (m=m) (h5=oR c) True)))) (λI1 F c=>I1 c->aY (↑c.1:Int) (aG v.order) (bK (λb o=>aA (aR v.order.a b o) (0<=(↑c.1:Int)) ((↑c.1:Int)<aG v.order/\∃(y:Int×Bool),aK m (oR c) b (bL o c.1 2) (Bi y)/\branch y.2 (vC (oR c) 1 (mJ (bC y.1) (bC 1)) (λQ A g=>rY (λD j=>aA (nB c.2.1 Q=nB g D) (Ints A D j) (aA (eK m) (By g j) (∃(e:Nat×List cr×PH),aA (I1 e) (F e<F c) (aA (eL 91) (aI
 v.order) (aA (bI v.order) (iH (bE c.1 1)=bP e.1) (aA (FI g j e) (m=m) (bU A (oR e)))))))))) (vC (oR c) 1 (mJ (bC y.1) (pD bF)) (λQ A g=>rY (λD j=>aA (nB c.2.1 Q=nB g D) (Ints A D j) (aA (eK m) (By g j) (∃(e:Nat×List cr×PH),aA (I1 e) (F e<F c) (aA (eL 91) (aI v.order) (aA (bI v.order) (iH (bE c.1 1)=bP e.1) (aA (FI g j e) (m=m) (bU A (oR e))))))))))))) (vQ K c.2.1 m (oR c)))))))))))))))))))))))))))
theorem JU:cm 142 US:=by
 refine jC func142 ?_;rintro n m h K ⟨xs,s,l,rfl,f,u,z,A⟩;refine⟨bMQ s m h,rfl,aE Dp aH,Ua xs s m h K,ax,?_⟩;dsimp only[Ua,push_cast];have d:=f.slen;refine⟨λ⟨i,g⟩=>i<=l.length/\g=xs++aX (jU (l.take i)),λ⟨i,_⟩=>l.length-i,⟨(0,xs),⟨aC,by simp[jU,aX]⟩,MT⟩,?_⟩;rintro⟨i,g⟩ ⟨D,rfl⟩;dsimp only;refine aF (λc=>?_) (λy=>?_)
 .obtain⟨x,j⟩:=fK d c;obtain⟨b,o,e,r⟩:=f.at' j;have E:=iQ (l.take i);have F:=pE x;have G:(l.take i).length=i:=bf
  refine⟨b,o,e,aC,c,x,.imm r,_,x,rfl,u,?_,?_,?_,(i+1,xs++aX (jU (l.take (i+1)))),⟨aC,rfl⟩,aC,?_⟩
  .rw[br,aZ];omega
  .rw[br,br,aZ,aZ];omega
  .rw[br,br,aZ,aZ];omega
  .rw[SQ j,dV,dV, <-append_assoc, <-append_assoc];exact MT
 grind
theorem aXJ o:DC o=jU [o.kind,o.index,o.value.kind]++(mP o.value.int++[32])++jU [(o.value.text.size:Int)]++o.value.text.data.toList:=by
 simp[DC,As,jU]
theorem adX:cm 196 cJQ:=by
 refine EY func196 ?_;rintro g m h K ⟨xs,o,rfl,c,D,d⟩;refine⟨dK [(142,US),(195,OI)] [] [] [(142,[0]),(195,[0])] true,rfl,aE JU (aE Dp aH),Nf xs o m h (lZ h K),ax,?_⟩;show Nf xs o m h (lZ h K);dsimp only[Nf,push_cast];intro j E e n;have u:=iQ [o.kind,o.index,o.value.kind];have F:=pE o.value.int;have y:=iQ [(o.value.text.size:Int)];have G:(fO o.value.text).length=o.value.text.size:=by simp[fO]
 simp only[ci,length_nil]at u y;refine⟨_,j,[o.kind,o.index,o.value.kind],rfl,.ofRow n ay,c,bf,_,o.value.int,rfl,c,?_,?_,?_,λz H f A=>⟨_,z,[(o.value.text.size:Int)],rfl,.ofRow A ay,c,?_,?_,?_,?_⟩⟩
 .rw[br,aZ];omega
 .simp only[br,aZ];omega
 .simp only[br,aZ];omega
 .simp only[br,aZ,ci,length_nil];omega
 .simp only[br,aZ,ci,length_nil];omega
 .simp only[br,aZ,ci,length_nil];omega
 .refine .out (Sub.refl m) (e.trans f) ?_;rw[aXJ,dV,dV,dV,dV]at d;simp only[append_assoc]at d⊢
  exact d
theorem Yj:∀N,cm 143 (cIZ N)
 |0=>by
  refine Tb (fn:=Tryz.f143) (c:=eD Tryz.f143) func143 rfl az ?_;rintro n m h K ⟨xs,v,p,rfl,_,M,_,_,_⟩;omega
 |N+1=>by
  refine EY func143 ?_;rintro n m h K ⟨xs,v,p,rfl,O,M,j,P,J⟩;refine⟨bLJ N v m,rfl,aE JU (aE adX (aE (Yj N) aH)),Nn N xs v m h (lZ h K),ax,?_⟩;show Nn N xs v m h (lZ h K);dsimp only[Nn,push_cast];have f:=@BK p;obtain⟨op,Q,l,r,d⟩:=p;obtain⟨rfl,rfl,rfl,rfl,y⟩:=O.parts;have z:=y.slen;have A:=y.len;simp only[Pred.args]at f;have b1:=W2 v.left;have b2:=W2 v.right;have R:=iQ [v.op,v.cmp];have S:=iQ [(d.length:Int)];simp only[ci,length_nil]at R S;simp only[sH,br]at P;intro T h1 D U;refine⟨_,T,[v.op,v.cmp],rfl,.ofRow U ay,j,bf,_,v.left,rfl,j,?_,_,v.right,rfl,j,?_,λV W E X=>⟨_,V,[(v.args.len:Int)],rfl,.ofRow X ay,j,?_,?_⟩⟩
  .simp only[br,aZ];omega
  .simp only[br,aZ];omega
  .simp only[br,aZ,ci,length_nil];omega
  rw[z];refine⟨λ⟨i,L,F⟩=>i<=d.length/\PH.le h F/\L=xs++aX (jU [v.op,v.cmp])++aX (DC v.left)++aX (DC v.right)++aX (jU [(d.length:Int)])++aX (p8 (d.take i)),λ⟨i,_,_⟩=>d.length-i,⟨(0,_,W),⟨aC,D.trans E,rfl⟩,?_⟩,?_⟩
  .simp only[take_zero,p8,aX,map_nil,append_nil];exact MT
  rintro⟨i,L,F⟩ ⟨hi,g,rfl⟩;dsimp only;refine aF (λG=>?_) (λY=>?_)
  .obtain⟨q,H⟩:=fK rfl G;obtain⟨Z,o,u,e,rr,I⟩:=(y.mono g).at H;have b3:=WS (l:=d) (i+1);rw[N7 H,br]at b3;refine⟨Z,o,e,aC,aC,u,.imm rr,_,u,q,rfl,I,?_,j,?_,(i+1,xs++aX (jU [v.op,v.cmp])++aX (DC v.left)++aX (DC v.right)++aX (jU [(d.length:Int)])++aX (p8 (d.take (i+1))),F),⟨aC,g,rfl⟩,aC,?_⟩
   .grind
   .simp only[br,aZ];omega
   .rw[N7 H,dV, <-append_assoc];exact MT
  .rw[bt aC];refine .out (Sub.refl m) g ?_;simp only[sH,dV, <-append_assoc]at J;exact J
theorem anQ:cm 143 cIJ:=mZ Yj λ_ _ _ _⟨xs,v,p,e,c,d,f,g⟩=>⟨SizeOf.sizeOf p+1,xs,v,p,e,c,aC,d,f,g⟩
theorem aHZ:∀N,cm 77 (b6J N)
 |0=>by
  refine fW (fn:=Tryz.f77) (c:=eD Tryz.f77) func77 rfl az ?_;rintro E m h K ⟨v,p,rfl,_,O,_⟩;omega
 |N+1=>by
  refine jC func77 ?_;rintro E m h K ⟨v,p,rfl,P,O,Q⟩;refine⟨cjJ N v m,rfl,aE (aHZ N) aH,XD N v m h K,ax,?_⟩;dsimp only[XD,push_cast];have f:=@BK p;obtain⟨op,R,l,r,ps⟩:=p;obtain⟨rfl,rfl,rfl,rfl,F⟩:=P.parts;have S:=F.slen;have y:=F.len;simp only[Pred.args]at f;refine⟨λ⟨i,z,e⟩=>i<=ps.length/\PH.le h e/\z.length=i/\∀(j:Nat) x,(ps.take i)[j]? =some x->∃u,z[j]? =some u/\fP e x u,λ⟨i,_,_⟩=>ps.length-i,⟨(0,[],h),⟨aC,.refl _,rfl,λj x e=>by simp at e⟩,MT⟩,?_⟩;rintro⟨i,z,e⟩ ⟨hi,g,G,n⟩;dsimp only;refine aF (λA=>?_) (λT J h' d D=>Q ⟨v.op,v.cmp,v.left,v.right,J⟩ h' (g.trans d) (fP.mk (v:=⟨v.op,v.cmp,v.left,v.right,J⟩) ⟨⟨z,D,aC,λj x e=>?_⟩,y⟩))
  .obtain⟨q,L⟩:=fK S A;obtain⟨U,V,u,W,X,H⟩:=(F.mono g).at L;refine⟨U,V,W,aC,A,u,.imm X,u,q,rfl,H,?_,λY h' d Z=>⟨bf,bf,(i+1,z++[Y],h'),⟨aC,g.trans d,by simp[G],λj x e=>?_⟩,aC,?_⟩⟩
   .grind
   .rw[cd,L]at e;by_cases hj:j<i
    .rw[getElem?_append_left bf]at e;obtain⟨u',M,I⟩:=n j x e;exact⟨u',bg,I.mono d⟩
    grind
   .rw[bu];exact MT
  .rw[bt aC]at n;obtain⟨u,M,I⟩:=n j x e;exact⟨u,M,I.mono d⟩
theorem Ti:cm 77 azQ:=mZ aHZ λ_ _ _ _⟨v,p,e,c,d⟩=>⟨SizeOf.sizeOf p+1,v,p,e,c,aC,d⟩
theorem a8Q:cm 76 cIX:=by
 refine EY func76 ?_;rintro a' m h K ⟨xs,v,t,rfl,f,E,j,y,F⟩;refine⟨ckQ v m,rfl,aE JU (aE anQ aH),Rb xs v m h (lZ h K),ax,?_⟩;show Rb xs v m h (lZ h K);dsimp only[Rb,push_cast];have G:=f.on_.slen;have H:=f.order_.slen;have S:=f.columns_.slen;have T:=f.group_.slen;have k1:=E.wher;have k2:=E.columns;have k3:=E.on;have k4:=E.group;have k5:=E.order;have W:=iQ [v.op,v.table,v.limit,v.left,v.right];have X:=iQ [(v.columns.len:Int)];have n3:=iQ t.columns;have Y:=iQ [(v.on.len:Int)];have Z:=iQ [(v.group.len:Int)];have n6:=iQ t.group;have n7:=iQ [(v.order.len:Int)];have n8:=JG t.on;simp only[ci,length_nil]at W X Y Z n7;simp only[stepB,dV, <-append_assoc]at F;rw[<-f.op_, <-f.table_, <-f.limit_, <-f.left_, <-f.right_, <-S, <-G, <-T, <-H]at F;intro z D d u;refine⟨_,z,[v.op,v.table,v.limit,v.left,v.right],rfl,.ofRow u ay,j,by simp only[ci,length_nil];omega,_,v.where_,t.wher,rfl,f.where_.mono d,j,by simp only[br,aZ];omega,λs2 h2 I r2=>⟨_,s2,[(v.columns.len:Int)],rfl,.ofRow r2 ay,j,by simp only[br,aZ,ci,length_nil];omega,_,v.columns,t.columns,rfl,f.columns_.mono (d.trans I),j,by simp only[br,aZ];omega,λs3 h3 U r3=>⟨_,s3,[(v.on.len:Int)],rfl,.ofRow r3 ay,j,by simp only[br,aZ,ci,length_nil];omega,?_⟩⟩⟩;generalize hP:xs++aX (jU [v.op,v.table,v.limit,v.left,v.right])++aX (sH t.wher)++aX (jU [(v.columns.len:Int)])++aX (jU t.columns)++aX (jU [(v.on.len:Int)])=P at F⊢
 have lP:P.length<=30000000000:=by rw[<-hP];simp only[br,aZ];omega
 have J:=(d.trans I).trans U;clear hP u r2 r3 W X n3 Y;refine⟨λ⟨i,L,y⟩=>i<=t.on.length/\PH.le h y/\L=P++aX (wQ (t.on.take i)),λ⟨i,_,_⟩=>t.on.length-i,⟨(0,P,h3),⟨aC,J,by simp[wQ,aX]⟩,MT⟩,?_⟩;rintro⟨i,L,y⟩ ⟨hi,c,rfl⟩;dsimp only;refine aF (λn=>?_) (λM=>?_)
 .obtain⟨x,g⟩:=fK G n;obtain⟨b,o,e,r⟩:=(f.on_.mono c).at g;have q1:=JG (t.on.take i);have q2:(t.on.take i).length=i:=bf
  refine⟨b,o,e,aC,n,x,.imm r,aC,aC,aC,aC,λz D d u=>⟨_,z,[x.1,x.2],rfl,.ofRow u ay,j,?_,(i+1,P++aX (wQ (t.on.take (i+1))),D),⟨aC,c.trans d,rfl⟩,aC,?_⟩⟩
  .simp only[br,aZ,ci,length_nil];omega
  .rw[WY g,dV, <-append_assoc];exact MT
 rw[bt aC];intro s4 h4 A r4;refine⟨_,s4,[(v.group.len:Int)],rfl,.ofRow r4 ay,j,by simp only[br,aZ,ci,length_nil];omega,_,v.group,t.group,rfl,f.group_.mono (c.trans A),j,by simp only[br,aZ];omega,λs5 h5 O r5=>⟨_,s5,[(v.order.len:Int)],rfl,.ofRow r5 ay,j,by simp only[br,aZ,ci,length_nil];omega,?_⟩⟩;generalize hQ:P++aX (wQ t.on)++aX (jU [(v.group.len:Int)])++aX (jU t.group)++aX (jU [(v.order.len:Int)])=Q at F⊢
 have lQ:Q.length<=200000000000:=by rw[<-hQ];simp only[br,aZ];omega
 have R:=(c.trans A).trans O;clear hQ r4 r5 Z n6 n7 n8 c M hi A O;clear i y;refine⟨λ⟨i,L,y⟩=>i<=t.order.length/\PH.le h y/\L=Q++aX (wO (t.order.take i)),λ⟨i,_,_⟩=>t.order.length-i,⟨(0,Q,h5),⟨aC,R,by simp[wO,aX]⟩,MT⟩,?_⟩;rintro⟨i,L,y⟩ ⟨hi,c,rfl⟩;dsimp only;refine aF (λn=>?_) (λM=>?_)
 .obtain⟨x,g⟩:=fK H n;obtain⟨b,o,e,r⟩:=(f.order_.mono c).at g;have q1:=P6 (t.order.take i);have q2:(t.order.take i).length=i:=bf
  refine⟨b,o,e,aC,n,x,.imm r,aD (λV z D d u=>⟨_,z,[x.1,1],rfl,.ofRow u ay,j,?_,(i+1,Q++aX (wO (t.order.take (i+1))),D),⟨aC,c.trans d,rfl⟩,aC,?_⟩) (λV z D d u=>⟨_,z,[x.1,0],rfl,.ofRow u ay,j,?_,(i+1,Q++aX (wO (t.order.take (i+1))),D),⟨aC,c.trans d,rfl⟩,aC,?_⟩)⟩
  .simp only[br,aZ,ci,length_nil];omega
  .rw[N2 g,dV,V, <-append_assoc];exact MT
  .simp only[br,aZ,ci,length_nil];omega
  .rw[N2 g,dV,V, <-append_assoc];exact MT
 rw[bt aC];exact .out (Sub.refl m) c F
def Dx(q:Query):Prop:=
 match q with
 |.mk op ta w co on gr od li args=>OH ⟨op,ta,w,co,on,gr,od,li,0,0⟩/\∀a∈args,Dx a
 termination_by SizeOf.sizeOf q
def Steps(h:PH)(vs:List xA)(ts:de):=vs.length=ts.length/\∀(i:Nat) t,ts[i]? =some t->∃v,vs[i]? =some v/\uW h t v
theorem WQ{op w on args}:
 Dx (.mk op ta w co on gr od li args)↔OH ⟨op,ta,w,co,on,gr,od,li,0,0⟩/\∀a∈args,Dx a:=by rw[Dx.eq_def]
theorem cL.blk{s E}(h:cL m s E sz xs)(e:s.a=some ⟨b,i,none⟩):∃c,m b=some (.cells c E (0,0)):=by
 rcases h.ex with⟨rfl,_⟩|⟨f,d,c,rfl,g,_⟩
 .cases e
 grind
theorem cL.slen{s E}(h:cL m s E sz xs):s.len=xs.length:=by
 rcases h.ex with⟨rfl,rfl⟩|⟨e,c,d,rfl,f,_⟩<;>rfl
theorem cL.keep{s E}(h:cL m s E sz xs)(f:∀b i,s.a=some ⟨b,i,none⟩->m' b=m b):cL m' s E sz xs:=by
 refine⟨h.rows,?_⟩;rcases h.ex with c|⟨b,d,e,rfl,g,j⟩
 .exact .inl c
 grind
def EK(t:Step):ByteArray:=⟨(stepB t).toArray⟩
def bZ t ts:=match ts.findIdx? (λx=>stepB x==stepB t)with
 |some k=>(ts,k)
 |none=>(ts++[t],ts.length)
structure iG(m0 m:MH)(h:PH)(cb mb:Nat)(ts:de)(rs:cn):Prop where
 sub:Sub m0 m
 cb0:m0 cb=none
 mb0:m0 mb=none
 map_:uX m mb (ts.mapIdx λi t=>(.string (EK t),.int .i64 i))
 nodup:(ts.map stepB).Nodup
 ex:∃s r,m cb=some (.cells #[.slice s.a s.len s.cap,.slice r.a r.len r.cap,.map (some mb)] 93 (0,0))/\(∃vs,cL m s 101 22 (vs.map xA.enc)/\Steps h vs ts)/\cL m r 3 1 (rs.map eI)/\
  (∀b i,s.a=some ⟨b,i,none⟩->m0 b=none)/\(∀b i,r.a=some ⟨b,i,none⟩->m0 b=none)
def UU:Vc.Spec:=λc m h K=>∃v t d cb e ts rs,c=[cP cb,aT v]/\uW h t v/\OH t/\iG d m h cb e ts rs/\eK d/\ts.length<=100000/\
 ∀m' h',PH.le h h'->iG d m' h' cb e (bZ t ts).1 rs->K (cI (bZ t ts).2) m' h'
noncomputable def coZ:=qD [(76,cIX),(77,azQ),(78,PQ),(79,We),(80,aTJ)] [] [] [] [1043] [(76,[0])] false
abbrev QC(a:xA->Step->Prop):=∃(x:xA)(c:Step),a x c
abbrev oP a:=pD (Dj a)
abbrev Ga a:=Value.string (ByteArray.mk (Array.mk a))
abbrev PD(a:Sl->cv->Prop):=∃(x:Sl)(c:cv),a x c
abbrev xP(a:MH)(b:PH)(c d:Nat)(e:Sl->Sl->Prop):=∃(x:Sl),aK a b c d (aL x)/\∃(f:Sl),e x f
abbrev Gm(a:PV)(b:Value)(c:cr):=bG (Cc a.left) (zG a.right) (bG (zI a.right) (gZ (qL a.right)) (bG (uC a.right) (Cc a.right) (bG (dW a.args) b c)))
attribute [push_cast] QC oP Ga PD xP Gm
def XV(cb:Nat)(v:xA)(m:MH)(h:PH)(K:cq):=
  ∃(x:List cr),QC (λL t=>aA (qN [] (jO v.enc)=qN x (jO L.enc)) (uW h t L) (aA (OH t) (eK m) (mY x.length/\KO (mX x (stepB t)) (λb=>∃(y:Nat),aK m h cb 2 (oP y)/\∃(k:List (Value×Int))(O:Value->Prop),aA (uX m y (List.map (fun(p:Value×Int)=>(p.1,gZ p.2)) k)) (Di O) (aA (O (Ga b)) (∀(e:Value×Int),List.Mem e k->O e.1) (((∀(e:Value×Int),bH (List.Mem e k) (e.1=Ga b) False)->sT (λM p=>aA (eY (gR v.where_) (gR M)) (fP h p M) (∀(d:PV)(j:PH),bS h j (fP j p d) (xQ v.columns j (λl=>∀(s:Sl)(n:PH),bS j n (Ints n s l) (Dl (λP Q=>aA (eY (nW v.on) (nW P)) (jD n P Q) (∀(R:Sl)(u:PH),bS n u (jD u R Q) (xQ v.group u (λX=>∀(S:Sl)(z:PH),
 bS u z (Ints z S X) (PD (λT U=>aA (eY (nW v.order) (nW T)) (jP z T U) (∀(V:Sl)(f:PH),bS z f (jP f V U) (xP m f cb 0 (λg A=>Ca (aK m f cb 0 (aL A)) (aK m f cb 0 (aL A)) (λD=>aA (cL m (dL A) 101 22 D) (jN (kB D 1) 272) (eA D/\jW (λW H=>gK m H (dL A) W 101 22 (dP D (bG (gZ v.op) (gZ v.table) (bG (gZ d.op) (gZ d.cmp) (bG (zG d.left) (zI d.left) (bG (gZ (qL d.left)) (uC d.left) (Gm d (dW s) (bG (dW R) (dW S) (bG (dW V) (gZ v.limit) (BD v.left v.right)))))))))->gT (λc E=>aA (sL H cb (fA c E 0)) (0<c.size) (∀(F:MH),bJ H F cb (iC (dW W) 1 c) E->∃(G:Nat),aK F f cb 2 (oP G)/\Lj F G (λO1=>O1 (Ga b)) (λI=>I) (λe=>e)
 (Ga b) (λI=>∀(J:MH),bH (kD F J G) (uX J G (iK I (Ga b) (gZ (aG g)) [])) (K (jA (aG g)) J f))))))))))))))))))))))/\∀(g:Int),List.Mem (Ga b,g) k->K (jA g) m h))))))
theorem YW(h:∀x∈ts,stepB x≠stepB t):bZ t ts=(ts++[t],ts.length):=by
 unfold bZ
 grind
theorem YV{x}(c:(ts.map stepB).Nodup)(d:ts[i]? =some x)(e:stepB x=stepB t):bZ t ts=(ts,i):=by
 unfold bZ;obtain⟨f,n⟩:=List.getElem?_eq_some_iff.1 d
 have:ts.findIdx? (λx=>stepB x==stepB t)=some i:=by
  rw[findIdx?_eq_some_iff_getElem];refine⟨f,bg,λj u=>?_⟩;intro g;have g:stepB ts[j]=stepB t:=bg
  have:=(getElem_inj (h₀:=bf) (h₁:=bg) c (i:=j) (j:=i)).1 bg;omega
 rw[this]
theorem dZ t ts:(bZ t ts).1.length<=ts.length+1:=by
 unfold bZ;grind
theorem iG.mono{m0 f}(c:iG m0 m h cb f ts rs)(le:PH.le h h'):iG m0 m h' cb f ts rs:=by
 obtain⟨s,r,d,⟨g,j,n,u⟩,y⟩:=c.ex;exact⟨c.sub,c.cb0,c.mb0,c.map_,c.nodup,s,r,d,⟨g,j,n,λi t e=>let⟨v,d,e2⟩:=u i t e;⟨v,d,e2.mono le⟩⟩,y⟩
theorem W9{ts:de}{k y}(h:(k,y)∈ts.mapIdx λi t=>(Value.string (EK t),(i:Int))):∃(i:Nat)(t:Step),ts[i]? =some t/\k= .string (EK t)/\y=i:=by
 grind
theorem Mh{a b}:Value.string (EK a)=Value.string (EK b)↔stepB a=stepB b:=by
 constructor
 .intro h;have:=congrArg (λv=>match v with|Value.string s=>s.data.toList|_=>[]) h;simpa[EK]using this
 .intro h;unfold EK;rw[h]
theorem E5:cm 40 UU:=by
 refine jC func40 ?_;rintro b3 m h K ⟨v,t,m0,cb,d,ts,rs,rfl,f,hk,c,ht,hl,hK⟩;refine⟨coZ,rfl,aE a8Q (aE Ti (aE MS (aE Th (aE a6J aH)))),XV cb v m h K,ax,?_⟩;dsimp only[XV,push_cast];obtain⟨s,r,O,⟨vs,V,W,a6⟩,X,b4,a7⟩:=c.ex;have F:=cL.slen V;rw[length_map,W]at F
 have Y:(ts.mapIdx λi t=>(Value.string (EK t),(i:Int))).map (λp=>(p.1,gZ p.2))=ts.mapIdx λi t=>(.string (EK t),.int .i64 i):=by
  apply ext_getElem?
  grind
 have a8:∀b i,s.a=some ⟨b,i,none⟩->b≠cb:=λb i e P=>by
  obtain⟨E,G⟩:=cL.blk V e
  grind
 have H:cb≠d:=λe=>by
  obtain⟨es,cl,G,_⟩:=c.map_.ex
  grind
 refine⟨[],v,t,rfl,f,hk,ht.sub c.sub,ay,stepB t,rfl,d,.of_m O rfl,ts.mapIdx λi t=>(.string (EK t),(i:Int)),_,by rw[Y];exact c.map_,C7,⟨_,rfl⟩,λe Z=>?_,λa9=>⟨v.where_,t.wher,rfl,f.where_,λv1 h1 g r1=>⟨v.columns,t.columns,rfl,f.columns_.mono g,λs2 h2 n r2=>⟨v.on,t.on,rfl,f.on_.mono (g.trans n),λs3 G z r3=>⟨v.group,t.group,rfl,f.group_.mono ((g.trans n).trans z),λs4 h4 A r4=>⟨v.order,t.order,rfl,f.order_.mono (((g.trans n).trans z).trans A),λs5 h5 D r5=>?_⟩⟩⟩⟩⟩,λy hy=>?_⟩
 .obtain⟨i,t',_,I,_⟩:=W9 (k:=e.1) (y:=e.2) Z
  grind
 .have J:∀x∈ts,stepB x≠stepB t:=by
   intro x hx e;obtain⟨i,L⟩:=mem_iff_getElem?.1 hx;have b':=(bm L);refine a9 (.string (EK x),(i:Int)) ?_ (Mh.2 e);refine mem_mapIdx.2 ⟨i,b',?_⟩
   grind
  rw[YW J]at hK;have le:PH.le h h5:=(((g.trans n).trans z).trans A).trans D;have b5:uW h5 t ⟨v.op,v.table,v1,s2,s3,s4,s5,v.limit,v.left,v.right⟩:=⟨f.op_,f.table_,r1.mono (((n.trans z).trans A).trans D),r2.mono ((z.trans A).trans D),r3.mono (A.trans D),r4.mono D,r5,f.limit_,f.left_,f.right_⟩
  have Q:aK m h5 cb 0 [.slice s.a s.len s.cap]:=.of_m O rfl;refine⟨s,Q,s,Q,Q,vs.map xA.enc,V,bg,bg,λU m1 R=>?_⟩;have a':m1 cb=some (.cells #[.slice s.a s.len s.cap,.slice r.a r.len r.cap,.map (some d)] 93 (0,0)):=R.other cb _ O (λi e=>a8 cb i e rfl);refine⟨_,_,⟨a'⟩,ay,λm2 S=>?_⟩;have S:lI m1 m2 cb (.cells #[.slice U.a U.len U.cap,.slice r.a r.len r.cap,.map (some d)] 93 (0,0)):=S;obtain⟨es,cl,b0,b1⟩:=c.map_.ex
  have a0:m1 d=some (.map es cl):=R.other d _ b0 (λi e=>by
   obtain⟨E,G⟩:=cL.blk V e
   grind)
  have a1:m2 d=some (.map es cl):=by rw[S.other d (Ne.symm H)];exact a0
  refine⟨d,.of_m S.at_ rfl,ts.mapIdx λi t=>(.string (EK t),.int .i64 i),_,⟨es,cl,a1,b1⟩,C7,⟨_,rfl⟩,λe Z=>?_,λe Z P=>?_,λm3 T a2=>?_⟩
  .obtain⟨i,L,I⟩:=mem_mapIdx.1 Z
   grind
  .obtain⟨i,L,I⟩:=mem_mapIdx.1 Z;rw[<-I]at P;exact J ts[i] (getElem_mem L) (Mh.1 P)
  .rw[F]at a2⊢
   have a3:∀b i,U.a=some ⟨b,i,none⟩->b≠cb:=λb i e P=>by
    obtain⟨E,G⟩:=cL.blk R.row e
    grind
   have a4:∀b i,U.a=some ⟨b,i,none⟩->b≠d:=λb i e P=>by
    obtain⟨E,G⟩:=cL.blk R.row e
    grind
   have a5:∀b o,m b=some o->b≠cb->b≠d->(∀i,s.a≠some ⟨b,i,none⟩)->m3 b=some o:=λb o e n1 n2 n3=>by
    rw[T.other b n2,S.other b n1];exact R.other b o e n3
   refine hK m3 h5 le ⟨λb o e=>a5 b o (c.sub b o e) (λM=>by rw[M,c.cb0]at e;cases e) (λM=>by rw[M,c.mb0]at e;cases e) (λi M=>bg),c.cb0,c.mb0,?_,?_,U,r,?_,⟨vs++[⟨v.op,v.table,v1,s2,s3,s4,s5,v.limit,v.left,v.right⟩],?_,?_,?_⟩,?_,?_,a7⟩
   .rw[mapIdx_append];simpa[EK]using a2
   .rw[bu,nodup_append];refine⟨c.nodup,ay,λa ha b hb=>?_⟩
    grind
   .rw[T.other cb H];exact S.at_
   .rw[bu];refine cL.keep R.row (λb i e=>?_);rw[T.other b (a4 b i e),S.other b (a3 b i e)]
   .simp[W]
   .intro i x hx;by_cases L:i<ts.length
    .rw[getElem?_append_left L]at hx;obtain⟨u,I,P⟩:=a6 i x hx;exact⟨u,bg,P.mono le⟩
    grind
   .refine cL.keep X (λb i e=>?_);obtain⟨E,G⟩:=cL.blk X e;rw[G];refine a5 b _ G (λM=>?_) (λM=>?_) (λj M=>?_)
    .grind
    .grind
    .obtain⟨b2,h4⟩:=cL.blk V M
     grind
   .intro b i e;rcases R.fresh b i e with h1|⟨j,h1⟩
    .cases e0:m0 b with
     |none=>rfl
     |some o=>rw[c.sub b o e0]at h1;cases h1
    grind
 .obtain⟨i,t',L,I,rfl⟩:=W9 hy;have I:stepB t=stepB t':=Mh.1 I;rw[YV c.nodup L I.symm]at hK;exact hK m h (.refl _) c
inductive PN where
 |mk (q:Query) (args:List PN) (rows env:Nat) (width:Int)
def PN.q:PN->Query
 |.mk q _ _ _ _=>q
def PN.args:PN->List PN
 |.mk _ a _ _ _=>a
def PN.rows:PN->Nat
 |.mk _ _ r _ _=>r
def PN.env:PN->Nat
 |.mk _ _ _ e _=>e
def PN.width:PN->Int
 |.mk _ _ _ _ w=>w
mutual
def pO(h:PH):PN->iR->Prop
 |.mk q args r e w,v=>dO h q v.query/\v.rows=(r:Int)/\v.env=(e:Int)/\v.width=w/\args.length<=1000/\∃c:List iR,dH h v.args 25 (c.map iR.enc)/\mL h args c
def mL(h:PH):List PN->List iR->Prop
 |[],d=>d=[]
 |p::ps,d=>∃v c,d=v::c/\pO h p v/\mL h ps c
end
mutual
theorem pO.mono{h h':PH}(le:PH.le h h'):∀{p:PN}{v:iR},pO h p v->pO h' p v
 |.mk ..,_,⟨c,d,e,f,g,j,n,u⟩=>⟨c.mono le,d,e,f,g,j,n.mono le,mL.mono le u⟩
theorem mL.mono{h h':PH}(le:PH.le h h'):∀{ps:List PN}{vs:List iR},mL h ps vs->mL h' ps vs
 |[],_,h=>h
 |_::_,_,⟨v,c,d,e,f⟩=>⟨v,c,d,pO.mono le e,mL.mono le f⟩
end
theorem mL.length{h:PH}:∀{ps:List PN}{vs:List iR},mL h ps vs->vs.length=ps.length
 |[],_,h=>by rw[show _=[]from h];rfl
 |_::_,_,⟨_,_,c,_,d⟩=>by rw[c];simp[mL.length d]
theorem mL.get{h:PH}:∀{ps:List PN}{vs:List iR},mL h ps vs->∀{i:Nat}{p:PN},ps[i]? =some p->∃v,vs[i]? =some v/\pO h p v
 |[],_,_,i,p,e=>by simp at e
 |p0::ps,_,⟨v,c,rfl,f,d⟩,0,p,e=>bg
 |p0::ps,_,⟨v,c,rfl,f,d⟩,i+1,p,e=>by simp at e;simpa using mL.get d e
theorem mL.snoc{h:PH}{p:PN}{v:iR}(x:pO h p v):∀{ps:List PN}{vs:List iR},mL h ps vs->mL h (ps++[p]) (vs++[v])
 |[],_,h=>by rw[show _=[]from h];exact⟨v,[],rfl,x,rfl⟩
 |_::_,_,⟨u,c,d,e,f⟩=>⟨u,c++[v],by rw[d];rfl,e,mL.snoc x f⟩
def GQ(op:Int):=op==7||op==9||op==10
def Fj(s:jZ)(op ta:Int)(co:cn)(ps:List PN):=
 if op=1 then((kH s ta).length:Int)else if op=3 then(co.length:Int)else
 if op=4 then(ps.map PN.width).getD 0 0+(ps.map PN.width).getD 1 0 else(ps.map PN.width).getD 0 0
def Az(op ta:Int)(w:Pred)(co:cn)(on:cu)(gr:cn)(od:cv)(li:Int)(ks:di):Step:=
 ⟨op,ta,w,co,on,gr,od,li,((ks.getD 0 0:Nat):Int),((ks.getD 1 0:Nat):Int)⟩
def asZ(s:jZ)(op ta:Int)(w:Pred)(co:cn)(on:cu)(gr:cn)(od:cv)(li:Int)(args:db)(ps:List PN)(ts:de):PN×de:=
 let a:=bZ (Az op ta w co on gr od li (ps.map PN.rows)) ts
 if GQ op=true then(.mk (.mk op ta w co on gr od li args) ps a.2 ((ps.map PN.env).getD 0 0) (Fj s op ta co ps),a.1)
 else
  let b:=bZ (Az op ta w co on gr od li (ps.map PN.env)) a.1
  (.mk (.mk op ta w co on gr od li args) ps a.2 b.2 (Fj s op ta co ps),b.1)
mutual
def gI(s:jZ):Query->de->PN×de
 |.mk op ta w co on gr od li args,ts=>asZ s op ta w co on gr od li args (eW s args ts).1 (eW s args ts).2
def eW(s:jZ):db->de->List PN×de
 |[],ts=>([],ts)
 |q::qs,ts=>((gI s q ts).1::(eW s qs (gI s q ts).2).1,(eW s qs (gI s q ts).2).2)
end
def dX(l r:Int)(on:cu):Step:=⟨5,0,gG,[],on,[],[],0,l,r⟩
def cQ(l r:Int):Step:=⟨8,0,gG,[],[],[],[],0,l,r⟩
def pH(l:Int)(co:cn):Step:=⟨3,0,gG,co,[],[],[],0,l,0⟩
def Ql(l r:Int)(gr:cn)(od:cv)(li:Int):Step:=⟨10,0,gG,[],[],gr,od,li,l,r⟩
def iE(a n:Int):=(List.range n.toNat).map fun(i:Nat)=>a+(i:Int)
def oY(co:cn):=((List.range co.length).filter λi=>decide (co.idxOf (co.getD i 0)=i)).map λi=>(co.getD i 0,(i:Int))
def qI(on:cu):=on.map λp=>(p.2,p.1)
def sA(gr:cn):=gr.map λc=>(c,c)
def BQ(a:PN)(d:Int)(gr:cn)(od:cv)(li:Int)(ts:de):=
 let x:=bZ (dX a.env d (sA gr)) ts
 bZ (Ql x.2 a.rows gr od li) x.1
def Ay(a n:Int):=(List.range n.toNat).map fun(i:Nat)=>(a+(i:Int),(i:Int))
def gV(p:PN)(d:Int)(ts:de)(rs:cn):de×cn:=
 match p with
 |.mk (.mk op _ _ co on gr od li _) args _ _ _=>
  match args with
  |[]=>if op=1 then(ts,rs++[d])else(ts,rs)
  |[a]=>
   if op=2 then gV a d ts rs
   else if op=3 then(let x:=bZ (dX a.env d (oY co)) ts;gV a x.2 x.1 rs)
   else if op=9 then(let x:=BQ a d gr od li ts;gV a x.2 x.1 rs)
   else(ts,rs)
  |a::b::_=>
   if op=4 then
    let x:=bZ (dX d b.rows (Ay a.width b.width)) ts
    let y:=bZ (pH x.2 (iE 0 a.width)) x.1
    let z:=gV a y.2 y.1 rs
    let u:=bZ (pH d (iE a.width b.width)) z.1
    gV b u.2 u.1 z.2
   else if op=5 then
    let x:=bZ (dX d b.rows on) ts
    let z:=gV a x.2 x.1 rs
    let y:=bZ (dX b.env d (qI on)) z.1
    gV b y.2 y.1 z.2
   else if op=6 then
    let x:=bZ (cQ a.env d) ts
    let z:=gV a x.2 x.1 rs
    let y:=bZ (cQ b.env d) z.1
    gV b y.2 y.1 z.2
   else if op=7\/op=8 then
    let z:=gV a d ts rs
    let x:=bZ (cQ b.env d) z.1
    let y:=bZ (cQ x.2 a.rows) x.1
    gV b y.2 y.1 z.2
   else if op=10 then
    let z:=gV a d ts rs
    let x:=BQ b d gr od li z.1
    gV b x.2 x.1 z.2
   else(ts,rs)
 termination_by SizeOf.sizeOf p
end Go.Ps
