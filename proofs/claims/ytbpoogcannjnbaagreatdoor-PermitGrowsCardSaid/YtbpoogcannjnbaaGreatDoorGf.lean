/- Own work. -/
import Derived.Shelf.SlSorted.Search
import Derived.Shelf.SlSortCmp.NoneTotal
import Derived.Shelf.Small.Strs
import Derived.Shelf.Strconv.Itoa0
import Derived.Shelf.Strconv.Itoa1
import Derived.Shelf.LaysM
import Derived.Shelf.Strconv.Itoa2
import Derived.Shelf.Strconv.AppendUint10
import Derived.Shelf.Strconv.AppendInt10
import Derived.Shelf.Strconv.AppendIntPublic10
import Derived.Test.YtbpoogcannjnbaaGreatDoorProg
import Derived.Lib.ItoaLen
import Derived.RangeFuncWrites
import Derived.OrdersIn
import Derived.Test.YtbpoogcannjnbaaGreatDoorGe
set_option linter.unusedVariables false
set_option linter.unusedSimpArgs false
namespace Go.Proofs
open Go.Shelf List
def Tryz.lays213_ren:Go.Shelf.Ren:=⟨λ |213=>198|265=>219|n=>n,λ |9=>9|3=>3|n=>n,λ |n=>n⟩
def Tryz.lays106_ren:Go.Shelf.Ren:=⟨λ |106=>173|213=>198|265=>219|n=>n,λ |9=>9|3=>3|n=>n,λ |n=>n⟩
theorem Tryz.lays106:Go.Proofs.Lays.n106 Tryz.prog Tryz.lays106_ren:={
 mixed:=be
 f106:=func173.trans (congrArg some be)
 f213:=func198.trans (congrArg some be)
 f265:=func219.trans (congrArg some be)
 t3:=Tryz.underlying3
 a3:=Tryz.isAgg3
 z3:=Tryz.sizeOf3
 v3:=Tryz.zeroValue3
 t9:=Tryz.underlying9
 a9:=Tryz.isAgg9
 z9:=Tryz.sizeOf9
 v9:=Tryz.zeroValue9}
open Go.RowKit in
theorem Tryz.strings_Compare(a b:ByteArray)(w:World):
 Calls Tryz.prog 173 #[.string a,.string b] w λe w'=>e= .returned (.int .i64 (Lib.compareBytes a.data.toList b.data.toList))/\w'=w:=Any.strings_Compare Tryz.lays106 a b w
def Tryz.lays283_ren:Go.Shelf.Ren:=⟨λ |283=>260|n=>n,λ |3=>3|9=>9|4=>4|n=>n,λ |n=>n⟩
theorem Tryz.lays283:Go.Proofs.Lays.n283 Tryz.prog Tryz.lays283_ren:={
 mixed:=be
 f283:=func260.trans (congrArg some be)
 t3:=Tryz.underlying3
 a3:=Tryz.isAgg3
 z3:=Tryz.sizeOf3
 v3:=Tryz.zeroValue3
 t4:=Tryz.underlying4
 a4:=Tryz.isAgg4
 z4:=Tryz.sizeOf4
 v4:=Tryz.zeroValue4
 t9:=Tryz.underlying9
 a9:=Tryz.isAgg9
 z9:=Tryz.sizeOf9
 v9:=Tryz.zeroValue9}
open Go.Lib in
theorem Tryz.internal_strconv_small(i:Nat)(h:i<100)(w:World):
 Calls Tryz.prog 260 #[.int .i64 i] w λe w'=>e= .returned (.string ⟨(Lib.decDigits i).toArray⟩)/\w'=w:=Any.internal_strconv_small Tryz.lays283 i h w
def Tryz.laysM284_ren:Go.Shelf.Ren:=⟨λ |284=>261|129=>251|317=>264|318=>265|n=>n,λ |53=>287|3=>3|212=>303|0=>0|4=>4|46=>210|5=>5|9=>9|n=>n,λ |17=>1|n=>n⟩
theorem Tryz.laysM284:Go.Proofs.LaysM.n284 Tryz.prog Tryz.laysM284_ren:={
 mixed:=be
 f129:=func251.trans (congrArg some be)
 f284:=func261.trans (congrArg some be)
 f317:=func264.trans (congrArg some be)
 f318:=func265.trans (congrArg some be)
 t0:=Tryz.underlying0
 a0:=Tryz.isAgg0
 z0:=Tryz.sizeOf0
 v0:=Tryz.zeroValue0
 t3:=Tryz.underlying3
 a3:=Tryz.isAgg3
 z3:=Tryz.sizeOf3
 v3:=Tryz.zeroValue3
 t4:=Tryz.underlying4
 a4:=Tryz.isAgg4
 z4:=Tryz.sizeOf4
 v4:=Tryz.zeroValue4
 t5:=Tryz.underlying5
 a5:=Tryz.isAgg5
 z5:=Tryz.sizeOf5
 v5:=Tryz.zeroValue5
 t9:=Tryz.underlying9
 a9:=Tryz.isAgg9
 z9:=Tryz.sizeOf9
 v9:=Tryz.zeroValue9
 t46:=Tryz.underlying210
 a46:=Tryz.isAgg210
 z46:=Tryz.sizeOf210
 v46:=Tryz.zeroValue210
 t53:=Tryz.underlying287
 a53:=Tryz.isAgg287
 z53:=Tryz.sizeOf287
 v53:=Tryz.zeroValue287
 t212:=Tryz.underlying303
 a212:=Tryz.isAgg303
 z212:=Tryz.sizeOf303
 v212:=Tryz.zeroValue303
 g17:=be
 i0:=be
 i3:=be
 i4:=be
 i5:=be
 i9:=be
 i46:=be
 i53:=be
 i212:=be
 m17:=by kernel_rfl}
open Go.Lib in
theorem Tryz.internal_strconv_numDigits(u:Nat)(b:1<=u)(c:u<18446744073709551616)(w:World)(a:Lib.TabIs Tryz.prog w "internal/strconv.uint64pow10" .u64 Lib.pow10Tab):
 Calls Tryz.prog 261 #[.int .u64 u] w λe w'=>e= .returned (.int .i64 (Lib.nDigits u))/\w'=w:=Any.internal_strconv_numDigits Tryz.laysM284 u b c w a
def Tryz.lays285_ren:Go.Shelf.Ren:=⟨λ |285=>262|n=>n,λ |37=>22|53=>287|3=>3|4=>4|51=>285|9=>9|5=>5|0=>0|n=>n,λ |n=>n⟩
theorem Tryz.lays285:Go.Proofs.Lays.n285 Tryz.prog Tryz.lays285_ren:={
 mixed:=be
 f285:=func262.trans (congrArg some be)
 t0:=Tryz.underlying0
 a0:=Tryz.isAgg0
 z0:=Tryz.sizeOf0
 v0:=Tryz.zeroValue0
 t3:=Tryz.underlying3
 a3:=Tryz.isAgg3
 z3:=Tryz.sizeOf3
 v3:=Tryz.zeroValue3
 t4:=Tryz.underlying4
 a4:=Tryz.isAgg4
 z4:=Tryz.sizeOf4
 v4:=Tryz.zeroValue4
 t5:=Tryz.underlying5
 a5:=Tryz.isAgg5
 z5:=Tryz.sizeOf5
 v5:=Tryz.zeroValue5
 t9:=Tryz.underlying9
 a9:=Tryz.isAgg9
 z9:=Tryz.sizeOf9
 v9:=Tryz.zeroValue9
 t37:=Tryz.underlying22
 a37:=Tryz.isAgg22
 z37:=Tryz.sizeOf22
 v37:=Tryz.zeroValue22
 t51:=Tryz.underlying285
 a51:=Tryz.isAgg285
 z51:=Tryz.sizeOf285
 v51:=Tryz.zeroValue285
 t53:=Tryz.underlying287
 a53:=Tryz.isAgg287
 z53:=Tryz.sizeOf287
 v53:=Tryz.zeroValue287}
open Go.RowKit Go.Sort Go.Lib in
theorem Tryz.internal_strconv_formatBase10(blk off cap:Nat)(u:Nat)(d:Array UInt8)(w:World)(g:Holds (fun(b:UInt8)=>Value.int .u8 (b.toNat:Int)) w blk off d)(h:u<10^d.size)(a:u<18446744073709551616)(c:d.size<4611686018427387904):
 Calls Tryz.prog 262 #[.slice (some ⟨blk,off,none⟩) d.size cap,.int .u64 u] w λe w'=>
  e= .returned (.tuple #[])/\∃(n i:Nat)(f:Array UInt8),w'=(putRow (fun(b:UInt8)=>Value.int .u8 (b.toNat:Int)) w blk off f).drewN n/\FmtInv d.size u 0 i f:=Any.internal_strconv_formatBase10 Tryz.lays285 blk off cap u d w g h a c
def Tryz.sortF_ren:Go.Shelf.Ren:=⟨λ |6=>223|15=>239|14=>238|28=>250|29=>251|20=>242|21=>243|22=>244|23=>245|24=>246|25=>247|26=>248|27=>249|46=>253|47=>254|48=>255|49=>256|50=>257|57=>259|n=>n,λ |22=>95|24=>75|25=>122|3=>3|39=>210|0=>0|53=>285|55=>287|4=>4|46=>279|45=>278|50=>177|5=>5|9=>9|66=>288|70=>199|76=>294|77=>295|n=>n,λ |n=>n⟩
theorem Tryz.sortF:Go.Proofs.SlLaysF.n6 Tryz.prog Tryz.sortF_ren:={
 mixed:=be
 f6:=⟨Tryz.f223.name,bg,func223.trans (congrArg some be)⟩
 f14:=⟨Tryz.f238.name,bg,func238.trans (congrArg some be)⟩
 f15:=func239.trans (congrArg some be)
 f20:=⟨Tryz.f242.name,bg,func242.trans (congrArg some be)⟩
 f21:=⟨Tryz.f243.name,bg,func243.trans (congrArg some be)⟩
 f22:=⟨Tryz.f244.name,bg,func244.trans (congrArg some be)⟩
 f23:=⟨Tryz.f245.name,bg,func245.trans (congrArg some be)⟩
 f24:=⟨Tryz.f246.name,bg,func246.trans (congrArg some be)⟩
 f25:=⟨Tryz.f247.name,bg,func247.trans (congrArg some be)⟩
 f26:=⟨Tryz.f248.name,bg,func248.trans (congrArg some be)⟩
 f27:=⟨Tryz.f249.name,bg,func249.trans (congrArg some be)⟩
 f28:=func250.trans (congrArg some be)
 f29:=func251.trans (congrArg some be)
 f46:=⟨Tryz.f253.name,bg,func253.trans (congrArg some be)⟩
 f47:=func254.trans (congrArg some be)
 f48:=func255.trans (congrArg some be)
 f49:=⟨Tryz.f256.name,bg,func256.trans (congrArg some be)⟩
 f50:=⟨Tryz.f257.name,bg,func257.trans (congrArg some be)⟩
 f57:=⟨Tryz.f259.name,bg,func259.trans (congrArg some be)⟩
 t0:=Tryz.underlying0
 a0:=Tryz.isAgg0
 z0:=Tryz.sizeOf0
 v0:=Tryz.zeroValue0
 t3:=Tryz.underlying3
 a3:=Tryz.isAgg3
 z3:=Tryz.sizeOf3
 v3:=Tryz.zeroValue3
 t4:=Tryz.underlying4
 a4:=Tryz.isAgg4
 z4:=Tryz.sizeOf4
 v4:=Tryz.zeroValue4
 t5:=Tryz.underlying5
 a5:=Tryz.isAgg5
 z5:=Tryz.sizeOf5
 v5:=Tryz.zeroValue5
 t9:=Tryz.underlying9
 a9:=Tryz.isAgg9
 z9:=Tryz.sizeOf9
 v9:=Tryz.zeroValue9
 t22:=Tryz.underlying95
 a22:=Tryz.isAgg95
 z22:=Tryz.sizeOf95
 v22:=Tryz.zeroValue95
 a24:=Tryz.isAgg75
 z24:=Tryz.sizeOf75
 t25:=Tryz.underlying122
 a25:=Tryz.isAgg122
 z25:=Tryz.sizeOf122
 v25:=Tryz.zeroValue122
 t39:=Tryz.underlying210
 a39:=Tryz.isAgg210
 z39:=Tryz.sizeOf210
 v39:=Tryz.zeroValue210
 t45:=Tryz.underlying278
 a45:=Tryz.isAgg278
 z45:=Tryz.sizeOf278
 v45:=Tryz.zeroValue278
 t46:=Tryz.underlying279
 a46:=Tryz.isAgg279
 z46:=Tryz.sizeOf279
 v46:=Tryz.zeroValue279
 t50:=Tryz.underlying177
 a50:=Tryz.isAgg177
 z50:=Tryz.sizeOf177
 v50:=Tryz.zeroValue177
 t53:=Tryz.underlying285
 a53:=Tryz.isAgg285
 z53:=Tryz.sizeOf285
 v53:=Tryz.zeroValue285
 t55:=Tryz.underlying287
 a55:=Tryz.isAgg287
 z55:=Tryz.sizeOf287
 v55:=Tryz.zeroValue287
 t66:=Tryz.underlying288
 a66:=Tryz.isAgg288
 z66:=Tryz.sizeOf288
 v66:=Tryz.zeroValue288
 t70:=Tryz.underlying199
 a70:=Tryz.isAgg199
 z70:=Tryz.sizeOf199
 v70:=Tryz.zeroValue199
 t76:=Tryz.underlying294
 a76:=Tryz.isAgg294
 z76:=Tryz.sizeOf294
 v76:=Tryz.zeroValue294
 t77:=Tryz.underlying295
 a77:=Tryz.isAgg295
 z77:=Tryz.sizeOf295
 v77:=Tryz.zeroValue295}
def Tryz.sortN_ren:Go.Shelf.Ren:=⟨λ |6=>223|15=>239|14=>238|28=>250|29=>251|20=>242|21=>243|22=>244|23=>245|24=>246|25=>247|26=>248|27=>249|46=>253|47=>254|48=>255|49=>256|50=>257|57=>259|n=>n,λ |22=>95|24=>75|25=>122|3=>3|39=>210|0=>0|53=>285|55=>287|4=>4|46=>279|45=>278|50=>177|5=>5|9=>9|66=>288|70=>199|76=>294|77=>295|n=>n,λ |n=>n⟩
theorem Tryz.sortN:Go.Proofs.SlLaysF0.n6 Tryz.prog Tryz.sortN_ren:={
 mixed:=be
 f6:=⟨Tryz.f223.name,bg,func223.trans (congrArg some be)⟩
 f14:=⟨Tryz.f238.name,bg,func238.trans (congrArg some be)⟩
 f15:=func239.trans (congrArg some be)
 f20:=⟨Tryz.f242.name,bg,func242.trans (congrArg some be)⟩
 f21:=⟨Tryz.f243.name,bg,func243.trans (congrArg some be)⟩
 f22:=⟨Tryz.f244.name,bg,func244.trans (congrArg some be)⟩
 f23:=⟨Tryz.f245.name,bg,func245.trans (congrArg some be)⟩
 f24:=⟨Tryz.f246.name,bg,func246.trans (congrArg some be)⟩
 f25:=⟨Tryz.f247.name,bg,func247.trans (congrArg some be)⟩
 f26:=⟨Tryz.f248.name,bg,func248.trans (congrArg some be)⟩
 f27:=⟨Tryz.f249.name,bg,func249.trans (congrArg some be)⟩
 f28:=func250.trans (congrArg some be)
 f29:=func251.trans (congrArg some be)
 f46:=⟨Tryz.f253.name,bg,func253.trans (congrArg some be)⟩
 f47:=func254.trans (congrArg some be)
 f48:=func255.trans (congrArg some be)
 f49:=⟨Tryz.f256.name,bg,func256.trans (congrArg some be)⟩
 f50:=⟨Tryz.f257.name,bg,func257.trans (congrArg some be)⟩
 f57:=⟨Tryz.f259.name,bg,func259.trans (congrArg some be)⟩
 t0:=Tryz.underlying0
 a0:=Tryz.isAgg0
 z0:=Tryz.sizeOf0
 v0:=Tryz.zeroValue0
 t3:=Tryz.underlying3
 a3:=Tryz.isAgg3
 z3:=Tryz.sizeOf3
 v3:=Tryz.zeroValue3
 t4:=Tryz.underlying4
 a4:=Tryz.isAgg4
 z4:=Tryz.sizeOf4
 v4:=Tryz.zeroValue4
 t5:=Tryz.underlying5
 a5:=Tryz.isAgg5
 z5:=Tryz.sizeOf5
 v5:=Tryz.zeroValue5
 t9:=Tryz.underlying9
 a9:=Tryz.isAgg9
 z9:=Tryz.sizeOf9
 v9:=Tryz.zeroValue9
 t22:=Tryz.underlying95
 a22:=Tryz.isAgg95
 z22:=Tryz.sizeOf95
 v22:=Tryz.zeroValue95
 t25:=Tryz.underlying122
 a25:=Tryz.isAgg122
 z25:=Tryz.sizeOf122
 v25:=Tryz.zeroValue122
 t39:=Tryz.underlying210
 a39:=Tryz.isAgg210
 z39:=Tryz.sizeOf210
 v39:=Tryz.zeroValue210
 t45:=Tryz.underlying278
 a45:=Tryz.isAgg278
 z45:=Tryz.sizeOf278
 v45:=Tryz.zeroValue278
 t46:=Tryz.underlying279
 a46:=Tryz.isAgg279
 z46:=Tryz.sizeOf279
 v46:=Tryz.zeroValue279
 t50:=Tryz.underlying177
 a50:=Tryz.isAgg177
 z50:=Tryz.sizeOf177
 v50:=Tryz.zeroValue177
 t53:=Tryz.underlying285
 a53:=Tryz.isAgg285
 z53:=Tryz.sizeOf285
 v53:=Tryz.zeroValue285
 t55:=Tryz.underlying287
 a55:=Tryz.isAgg287
 z55:=Tryz.sizeOf287
 v55:=Tryz.zeroValue287
 t66:=Tryz.underlying288
 a66:=Tryz.isAgg288
 z66:=Tryz.sizeOf288
 v66:=Tryz.zeroValue288
 t70:=Tryz.underlying199
 a70:=Tryz.isAgg199
 z70:=Tryz.sizeOf199
 v70:=Tryz.zeroValue199
 t76:=Tryz.underlying294
 a76:=Tryz.isAgg294
 z76:=Tryz.sizeOf294
 v76:=Tryz.zeroValue294
 t77:=Tryz.underlying295
 a77:=Tryz.isAgg295
 z77:=Tryz.sizeOf295
 v77:=Tryz.zeroValue295}
def Tryz.searchO_ren:Go.Shelf.Ren:=⟨λ |16=>209|n=>n,λ |3=>3|35=>53|4=>4|38=>210|n=>n,λ |n=>n⟩
theorem Tryz.searchO:Go.Proofs.SlLaysO.n16 Tryz.prog Tryz.searchO_ren:={
 mixed:=be
 f16:=func209.trans (congrArg some be)
 t3:=Tryz.underlying3
 a3:=Tryz.isAgg3
 z3:=Tryz.sizeOf3
 v3:=Tryz.zeroValue3
 t4:=Tryz.underlying4
 a4:=Tryz.isAgg4
 z4:=Tryz.sizeOf4
 v4:=Tryz.zeroValue4
 t35:=Tryz.underlying53
 a35:=Tryz.isAgg53
 z35:=Tryz.sizeOf53
 v35:=Tryz.zeroValue53
 t38:=Tryz.underlying210
 a38:=Tryz.isAgg210
 z38:=Tryz.sizeOf210
 v38:=Tryz.zeroValue210}
end Go.Proofs
namespace Go.Ps
open Go Go.Vc Go.Proofs List Tryz
variable{K:dc}{m:MH}{h:PH}{s:j4}{ps:dd}{cb:Nat}{sc:bJ}{v:QV}{q:Query}{p:Pred}{l:dd}{i:Nat}{N:Nat}{m':MH}{h':PH}{co:dd}{gr:dd}{od:dg}{w:Pred}{ta:Int}{li:Int}{xs:List cv}{sz:Nat}{k:Nat}{ks:List dd}{rs:dd}{r:Sl}{a:dd}{b:Nat}
def iL(m:MH):Prop:=∃T c,m 1=some (.cells (Lib.pow10Tab.map λz=>Value.int .u64 z).toArray T c)
def cU(u:Nat):CV:=.val (.int .u64 u)
def ckZ:Vc.Spec:=λc m h K=>∃i:Nat,c=[cI i]/\i<100/\K (Ue ⟨(Lib.decDigits i).toArray⟩) m h
def aqQ:Vc.Spec:=λc m h K=>∃u:Nat,c=[cU u]/\1<=u/\u<18446744073709551616/\iL m/\K (cI (Lib.nDigits u)) m h
def cjJ:Vc.Spec:=λd m h K=>∃b e u:Nat,∃(cs:Array Value)(T:TypeId),d=[.val (.slice (some ⟨b,0,none⟩) (Lib.nDigits u) e),cU u]/\u<18446744073709551616/\m b=some (.cells cs T (0,0))/\cs.toList=replicate 24 (.int .u8 0)/\
 ∀c m',c.size=cs.size->c.toList.take (Lib.nDigits u)=Lib.byteCells (Lib.decDigits u)->gR m m' b (.cells c T (0,0))->K (.tup []) m' h
def b5J:Vc.Spec:=λc m h K=>∃xs,∃u:Nat,c=[.lst 5 1 xs,cU u,cI 10]/\u<18446744073709551616/\iL m/\xs.length+30<=140737488355328/\K (.lst 5 1 (xs++cC (Lib.decDigits u))) m h
def nV(i:Int):dp:=if i<0 then 45::Lib.decDigits (IntKind.u64.wrap (0-IntKind.u64.wrap i)).toNat else Lib.decDigits (IntKind.u64.wrap i).toNat
def atZ:Vc.Spec:=λc m h K=>∃xs i,c=[.lst 5 1 xs,cI i,cI 10]/\iL m/\xs.length+40<=140737488355328/\K (.lst 5 1 (xs++cC (nV i))) m h
noncomputable abbrev NM(a:Nat):List cv:=jW (ByteArray.mk (Array.mk (Lib.decDigits a)))
noncomputable abbrev EW(a:cv):cv:=bH (Bb 0) (Bb 0) (bH (Bb 0) (Bb 0) (bH (Bb 0) (Bb 0) (bH (Bb 0) (Bb 0) a)))
noncomputable abbrev BB(a:Int):CV:=CV.val (Value.int IntKind.u64 a)
abbrev Kt(a:Nat):Prop:=a<18446744073709551616
noncomputable abbrev sT(a:Nat):Option Addr:=Option.some (Dh a 0)
attribute [push_cast] NM EW BB Kt sT
def LU(xs:List cv)(u:Nat)(m:MH)(h:PH)(K:dc):Prop:=
  aY (↑u:Int) 100 (∃(i:Nat),aA (LA (jA (eE (↑u:Int)))=LA (jA (↑i:Int))) (i<100) (aA (u6 xs (NM i) 1) (cW (u7 xs (NM i))) (K (CV.lst 5 1 (xs++NM i)) m h))) (∀(b:Nat)(f:MH),aR (dL m h b) (cL m f b (EW (EW (EW []))) 298) (∃(d:Nat),aA (LA (BB (↑u:Int))=LA (BB (↑d:Int))) (1<=d) (aA (Kt d) (iL f) (aA (sC (Lib.nDigits d)) ((↑(Lib.nDigits d):Int)<=24) (bD (λg c=>∃(e:Nat),mH (λj T=>aA (qS (CV.val (Value.slice (sT b) (nL (Lib.nDigits d)) 24)) (BB (↑u:Int))=qS (CV.val (Value.slice (sT g) (Lib.nDigits e) c)) (BB (↑e:Int))) (Kt e) (aA (f g=Option.some (jI j T 0)) (j.toList=EW (EW (EW []))) (∀(n:Array Value)(o:MH),aR (n.size=j.size) (List.take
 (Lib.nDigits e) n.toList=Lib.byteCells (Lib.decDigits e)) (gR f o g (jI n T 0)->vE (sC (Lib.nDigits d)) ((↑(Lib.nDigits d):Int)<=24) (λy=>aA (dQ 1 y) (oW o h (Sl.mk (sT b) (nL (Lib.nDigits d)) 24) 1 y) (aA (u6 xs y 1) (cW (u7 xs y)) (K (CV.lst 5 1 (xs++y)) o h)))))))))))))
noncomputable abbrev O1(a:Int):Int:=IntKind.wrap IntKind.u64 a
noncomputable abbrev zN(a:List cv)(b:dp):List cv:=a++cC b
attribute [push_cast] O1 zN
def RB(xs:List cv)(i:Int)(m:MH)(h:PH)(K:dc):Prop:=
  aY i 0 (vE (cW (iA xs 1*1)) (fN xs) (λx=>∃(u:Nat),aA (CV.lst 5 1 (eK xs (mI (Bb 45)))::cO (BB (O1 (0-O1 i))) 10=CV.lst 5 1 x::cO (BB (↑u:Int)) 10) (Kt u) (aA (iL m) (cW (iA x 30)) (K (CV.lst 5 1 (zN x (Lib.decDigits u))) m h)))) (∃(x:List cv)(u:Nat),aA (CV.lst 5 1 xs::cO (BB (O1 i)) 10=CV.lst 5 1 x::cO (BB (↑u:Int)) 10) (Kt u) (aA (iL m) (cW (iA x 30)) (K (CV.lst 5 1 (zN x (Lib.decDigits u))) m h)))
noncomputable abbrev Bp(a:List cv)(b:Int):du:=CV.lst 5 1 a::cO (jA b) 10
attribute [push_cast] Bp
def aKZ(xs:List cv)(i:Int)(m:MH)(h:PH)(K:dc):Prop:=
  ∃(x:List cv)(c:Int),aI (Bp xs i=Bp x c) (iL m) (cW (iA x 40)) (K (CV.lst 5 1 (zN x (nV c))) m h)
theorem iL.sub(h:iL m)(c:Sub m m'):iL m':=by
 obtain⟨T,d,e⟩:=h;exact⟨T,d,c 1 _ e⟩
theorem Lh{w:World}{c:du}{vs:cv}(d:AK w m h c vs):xC ⟨w,tA m c vs,h,[]⟩ m h w:=
 ⟨rfl,rfl,rfl,Nat.le_refl _,Nat.le_refl _,λ_ _ _=>rfl,d.hsat,d.msat,d.disj,λ_ _ _ e=>e,λ_ _ _=>rfl,λb o f=>.inr (.inl bk)⟩
theorem Yh:cu 260 ckZ:=by
 refine⟨⟨Tryz.f260,func260,rfl,bg⟩,?_⟩;rintro f d m h w K ⟨i,rfl,g,j⟩ c
 obtain⟨v,rfl⟩:∃v,d=[v]:=by
  have:=(rJ c.args).1
  match d,this with
  |[v],_=>grind
 have n:v= .int .i64 i:=c.args.1;subst n;refine(Tryz.internal_strconv_small i g w).mono ?_;rintro e t ⟨rfl,rfl⟩;exact⟨_,_,m,h,rfl,j,rfl,Lh c,λb o=>by simp[Ue,gA]at o⟩
theorem Yg:cu 261 aqQ:=by
 refine⟨⟨Tryz.f261,func261,rfl,bg⟩,?_⟩;rintro f d m h w K ⟨u,rfl,g,j,⟨T,z,n⟩,o⟩ c
 obtain⟨v,rfl⟩:∃v,d=[v]:=by
  have:=(rJ c.args).1
  match d,this with
  |[v],_=>grind
 have t:v= .int .u64 u:=c.args.1;subst t;have A:=c.msat 1 _ n;refine(Tryz.internal_strconv_numDigits u g j w ?_).mono ?_
 .unfold Lib.TabIs World.var?;rw[show Tryz.prog.globalNamed _=some 1 by kernel_rfl]
  grind
 .rintro e B ⟨rfl,rfl⟩;exact⟨_,_,m,h,rfl,o,rfl,Lh c,λb y=>by simp[cI,gA]at y⟩
theorem Yf:cu 262 cjJ:=by
 refine⟨⟨Tryz.f262,func262,rfl,bg⟩,?_⟩;rintro V O m h w K ⟨b,g,u,cs,T,rfl,P,A,B,W⟩ t
 obtain⟨v,G,rfl⟩:∃v G,O=[v,G]:=by
  have:=(rJ t.args).1
  match O,this with
  |[v,G],_=>grind
 have X:v= .slice (some ⟨b,0,none⟩) (Lib.nDigits u) g:=t.args.1;have I:G= .int .u64 u:=t.args.2.1;subst X I;have Q:=t.msat b _ A;have Y:=Lib.nDigits_le20 u P;have Z:cs.size=24:=by rw[<-Array.length_toList,B];simp
 have hH:Sort.Holds (fun(b:UInt8)=>Value.int .u8 (b.toNat:Int)) w b 0 (Array.replicate (Lib.nDigits u) (0:UInt8)):=by
  intro j H;simp only[Array.size_replicate]at H;refine⟨?_,?_⟩
  .rw[cell_of_heap Q,B,getElem?_replicate,if_pos aC];rw[getElem!_pos _ j bk];simp
  .unfold World.frozen?
   grind
 have R:=Tryz.internal_strconv_formatBase10 b 0 g u (Array.replicate (Lib.nDigits u) (0:UInt8)) w hH (br (Lib.lt_pow_nDigits u)) P bj;rw[Array.size_replicate]at R;refine R.mono ?_;rintro e w' ⟨rfl,n,v',z,rfl,S⟩;have a':z.size=Lib.nDigits u:=S.size;obtain⟨m',y⟩:∃m',gR m m' b (.cells (Sort.putCells (fun(b:UInt8)=>Value.int .u8 (b.toNat:Int)) 0 z cs) T (0,0)):=⟨λc=>if c=b then some (.cells (Sort.putCells (fun(b:UInt8)=>Value.int .u8 (b.toNat:Int)) 0 z cs) T (0,0))else m c,bf,λc d=>by simp[d]⟩
 have C:(Sort.putRow (fun(b:UInt8)=>Value.int .u8 (b.toNat:Int)) w b 0 z).heap[b]? =some (.cells (Sort.putCells (fun(b:UInt8)=>Value.int .u8 (b.toNat:Int)) 0 z cs) T (0,0)):=by
  unfold Sort.putRow Sort.mapBlock;simp only[Array.getElem?_modify,if_true,Q];rfl
 have f:∀c,c≠b->(Sort.putRow (fun(b:UInt8)=>Value.int .u8 (b.toNat:Int)) w b 0 z).heap[c]? =w.heap[c]? :=λc d=>by
  unfold Sort.putRow Sort.mapBlock
  grind
 refine⟨.tup [],.tuple #[],m',h,rfl,W _ m' ?_ ?_ y,⟨#[],rfl,rfl⟩,?_,λb A=>by simp[gA]at A⟩
 .simp[Sort.putCells]
 .apply ext_getElem?;intro j;rw[getElem?_take];have hl:(Lib.byteCells (Lib.decDigits u)).length=Lib.nDigits u:=by rw[Lib.byteCells_length,Lib.decDigits_length]
  by_cases H:j<Lib.nDigits u
  .rw[if_pos H,cn];have D:j<(Lib.decDigits u).length:=by rw[Lib.decDigits_length];exact H
   have E:j<cs.size:=by omega
   simp only[Sort.putCells,Array.getElem?_mapIdx,Array.getElem?_eq_getElem E,Option.map_some,Nat.zero_le,Nat.zero_add,Nat.sub_zero,true_and];rw[if_pos aC,Lib.byteCells,getElem?_map,bu D,Lib.row_is_numeral S j D];rfl
  grind
 .have F:∀c o,m' c=some o->c=b\/m c=some o:=λc o d=>by
   by_cases e:c=b
   .exact .inl e
   .rw[y.other c e]at d;grind
  have U:tA m [.val (.slice (some ⟨b,0,none⟩) (Lib.nDigits u) g),cU u] [.slice (some ⟨b,0,none⟩) (Lib.nDigits u) g,.int .u64 u] b:=.inl (by rw[A];simp);refine⟨rfl,rfl,rfl,Nat.le_add_right _ _,by simp[Sort.putRow,Sort.mapBlock],?_,?_,?_,?_,λ_ _ _ e=>e,λ_ _ _=>rfl,?_⟩
  .intro c _ hn;exact f c (λe=>hn (e▸U))
  .intro c o x J;have L:c≠b:=λe=>by rw[e,t.disj b _ A o]at J;cases J
   show(Sort.putRow (fun(b:UInt8)=>Value.int .u8 (b.toNat:Int)) w b 0 z).cell? ⟨c,o,none⟩=some x;rw[World.cell?_of_block (w:=w) (a:=⟨c,o,none⟩) (f c L)];exact t.hsat c o x J
  .intro c o d;by_cases e:c=b
   .subst e;rw[y.at_]at d;cases d;exact C
   .rw[y.other c e]at d;rw[show((Sort.putRow (fun(b:UInt8)=>Value.int .u8 (b.toNat:Int)) w b 0 z).drewN n).heap[c]? =_ from f c e];exact t.msat c o d
  .intro c o d j;rcases F c o d with rfl|M
   .exact t.disj c _ A j
   .exact t.disj c _ M j
  .intro c o d;rcases F c o d with rfl|M
   .exact .inr U
   .exact .inr (.inl (by rw[M];simp))
theorem GC(l:dp):jW ⟨l.toArray⟩=cC l:=by simp[jW,cC]
theorem Ms(l:dp):(cC l).flatten=Lib.byteCells l:=by
 unfold cC Lib.byteCells
 induction l with
 |nil=>rfl
 |cons b r c=>simp[c]
theorem rV(l:dp):(cC l).length=l.length:=by simp[cC]
theorem Yi:cu 258 b5J:=by
 refine KC func258 ?_;rintro y m h K ⟨xs,u,rfl,j,z,E,o⟩;refine⟨rT [(260,ckZ),(261,aqQ),(262,cjJ)] [] [] [] [298] [] true,rfl,aD Yh (aD Yg (aD Yf aF)),LU xs u m h (oG h K),be,?_⟩;show LU xs u m h (oG h K);dsimp only[LU,push_cast];have A:=Lib.nDigits_le20 u j;have d:=Lib.decDigits_length u;refine aE (λB=>⟨u,?_,aC,?_,?_,?_⟩) (λB b C t e=>?_)
 .rw[dO aC aC]
 .rw[GC,rV];omega
 .rw[GC,rV];omega
 .rw[GC];exact .here o
 .have f:Sub m C:=(Sub.refl m).upd t.m_ e.other;refine⟨u,rfl,aC,j,z.sub f,aC,aC,b,24,u,_,_,bk,j,e.at_,rfl,λn F D c g=>⟨aC,aC,cC (Lib.decDigits u),Jj _,?_,?_,?_,?_⟩⟩
  .refine .lent b 0 n 298 (0,0) rfl ?_ g.at_ ?_
   .rw[Int.toNat_natCast,rV,d]
   .rw[Ms,Lib.byteCells_length,d,drop_zero];exact c
  .rw[rV];omega
  .rw[rV];omega
  .exact .sub (f.upd t.m_ g.other) o
theorem aVQ(i:Int):0<=IntKind.u64.wrap i/\IntKind.u64.wrap i<18446744073709551616:=by
 simp only[IntKind.wrap,IntKind.bits,IntKind.signed];simp;omega
theorem BZ(i:Int):(nV i).length<=21:=by
 have key:∀n:Int,(Lib.decDigits (IntKind.u64.wrap n).toNat).length<=20:=λn=>by
  rw[Lib.decDigits_length];exact Lib.nDigits_le20 _ (by have:=aVQ n;omega)
 unfold nV
 grind
theorem Yj:cu 252 atZ:=by
 refine iB func252 ?_;rintro e m h K ⟨xs,i,rfl,c,g,d⟩;refine⟨rT [(258,b5J)] [] [] [] [] [(258,[0])] true,rfl,aD Yi aF,RB xs i m h K,be,?_⟩;dsimp only[RB,push_cast];have j:=aVQ i;have n:=aVQ (0-IntKind.u64.wrap i);refine aE (λf=>⟨aC,aC,xs++[[.int .u8 45]],(IntKind.u64.wrap (0-IntKind.u64.wrap i)).toNat,?_,aC,c,bj,?_⟩) (λf=>⟨xs,(IntKind.u64.wrap i).toNat,?_,aC,c,aC,?_⟩)
 .grind
 .have:nV i=45::Lib.decDigits (IntKind.u64.wrap (0-IntKind.u64.wrap i)).toNat:=by unfold nV;grind
  rw[this]at d;rw[append_assoc];exact d
 .grind
 .have:nV i=Lib.decDigits (IntKind.u64.wrap i).toNat:=by unfold nV;grind
  grind
theorem Yk:cu 240 atZ:=by
 refine iB func240 ?_;rintro c m h K ⟨xs,i,rfl,d,e,f⟩;refine⟨rT [(252,atZ)] [] [] [] [] [(252,[0])] true,rfl,aD Yj aF,aKZ xs i m h K,be,?_⟩;exact⟨xs,i,rfl,d,e,f⟩
def CD(a b:Int):Int:=if a<b then-1 else if b<a then 1 else 0
def QN(a b:ByteArray):Int:=Lib.compareBytes a.data.toList b.data.toList
def lQ(a b:VV):Int:=if CD a.kind b.kind≠0 then CD a.kind b.kind else if CD a.int b.int≠0 then CD a.int b.int else QN a.text b.text
def cN:de->de->Int
 |[],[]=>0
 |[],_::_=> -1
 |_::_,[]=>1
 |x::xs,y::ys=>if lQ x y≠0 then lQ x y else cN xs ys
def bVJ:Vc.Spec:=λc m h K=>∃n,c=[cI n]/\K (cB false) m h
def asQ:Vc.Spec:=λc m h K=>∃a b,c=[cI a,cI b]/\K (cI (CD a b)) m h
def b4Z:Vc.Spec:=λc m h K=>∃a b,c=[Ue a,Ue b]/\K (cI (QN a b)) m h
def S8:Vc.Spec:=λc m h K=>∃a b,c=[aV a,aV b]/\K (cI (lQ a b)) m h
def FQ:Vc.Spec:=λc m h K=>∃s t a b,c=[cS s,cS t]/\bO h s a/\bO h t b/\K (cI (cN a b)) m h
def b5Q:Vc.Spec:=λc m h K=>∃s t a b,c=[cS s,cS t,.val (.func (.func 151) #[] #[])]/\bO h s a/\bO h t b/\K (cI (cN a b)) m h
def Rows(h:PH)(s:Sl)(l:cw):Prop:=bC h 1 eS (λr t=>bO h t r) s l
noncomputable def bdX(s t:Sl)(m:MH)(h:PH):Ctx:=
 dD [(151,S8)] [(2,{A:=Nat,st:=λi=>bU 39 42 [(0,sv s),(1,sv t),(2,vv (.func (.func 151) #[] #[])),(11,sv s),(12,iv s.len),(13,iv i)] [] m h})] [] [] false
noncomputable def bKQ(s t:Sl)(m:MH)(h:PH):Ctx:=
 dD [(91,S8)] [(2,{A:=Nat,st:=λi=>bU 43 45 [(0,sv s),(1,sv t),(5,iv i)] [] m h})] [] [] false
def aNJ(n:Int)(m:MH)(h:PH)(K:dc):Prop:=
  K (Cr (n !=n)) m h
def aNZ(n:Int)(m:MH)(h:PH)(K:dc):Prop:=
  K (Cr (n !=n)) m h
def Ma(a b:Int)(m:MH)(h:PH)(K:dc):Prop:=
  ∃(n:Int),eN a n/\∃(c:Int),eN b c/\aY a b (K (jA (Int.negSucc 0)) m h) (iG a b K (jA 1) m h (K (jA 0) m h))
def aOJ(a b:Int)(m:MH)(h:PH)(K:dc):Prop:=
  ∃(n:Int),eN a n/\∃(c:Int),eN b c/\aY a b (K (jA (Int.negSucc 0)) m h) (iG a b K (jA 1) m h (K (jA 0) m h))
def R2(a b:VV)(m:MH)(h:PH)(K:dc):Prop:=
  qY 58 a.enc b.enc (λr=>branch r (K (jA 0) m h) (∃(c d:Int),cO (jA a.kind) b.kind=cO (jA c) d/\branch (CD c d !=0) (K (jA (CD c d)) m h) (∃(e f:Int),cO (jA a.int) b.int=cO (jA e) f/\branch (CD e f !=0) (K (jA (CD e f)) m h) (∃(g j:ByteArray),qS (gZ a.text) (gZ b.text)=qS (gZ g) (gZ j)/\K (jA (QN g j)) m h))))
def V3(a b:VV)(m:MH)(h:PH)(K:dc):Prop:=
  aY a.kind b.kind (K (jA (Int.negSucc 0)) m h) (iG a.kind b.kind K (jA 1) m h (aY a.int b.int (K (jA (Int.negSucc 0)) m h) (iG a.int b.int K (jA 1) m h (branch (Op.bytesLess (Da a) (Da b)) (K (jA (Int.negSucc 0)) m h) (branch (!(Bool.or (Op.bytesLess (Da a) (Da b)) (Da a==Da b))) (K (jA 1) m h) (K (jA 0) m h))))))
abbrev Aj(a b:VV)(c:VV->VV->Prop):Prop:=∃(x d:VV),eC a.enc (oD b)=eC x.enc (oD d)/\c x d
attribute [push_cast] Aj
def R3(s t:Sl)(m:MH)(h:PH)(K:dc):Prop:=
  nG (λI x=>aA (I x) (aH s) (aA (aH t) (Fg 151) (aA (aH s) (bI s) (aA (bE x) (m=m) (dH h h))))) (λI d x=>I x->aY (↑x:Int) (aG s) (bD (λb o=>aI (bF s.a b o) (0<=(↑x:Int)) ((↑x:Int)<aG s) (∃(y:VV),aJ m h b (bB o x 3) y.enc/\mE (↑x:Int) (aG t) K (jA 1) m h (bD (λe f=>aI (bF t.a e f) (0<=(↑x:Int)) ((↑x:Int)<aG t) (∃(g:VV),aJ m h e (bB f x 3) g.enc/\Aj y g (λa j=>branch (lQ a j !=0) (K (jA (lQ a j)) m h) (∃(c:Nat),aA (I c) (d c<d x) (aA (aH s) (aH t) (aA (Fg 151) (aH s) (aA (bI s) (fJ (aW x 1)=bY c) (dP m m h h)))))))))))) (aY (aG s) (aG t) (K (jA (Int.negSucc 0)) m h) (K (jA 0) m h)))
abbrev TD(a:Sl->Sl->de->de->Prop):Prop:=jE (λx c=>∃(d e:de),a x c d e)
attribute [push_cast] TD
def aQZ(s t:Sl)(m:MH)(h:PH)(K:dc):Prop:=
  TD (λc d a b=>aI (cQ s (fP t (qU 151 uX))=cQ c (fP d (qU 151 uX))) (bO h c a) (bO h d b) (K (jA (cN a b)) m h))
def Wj(s t:Sl)(m:MH)(h:PH)(K:dc):Prop:=
  nG (λI x=>aA (I x) (aH s) (aA (aH t) (bE x) (dP m m h h))) (λI d x=>I x->aY (↑x:Int) (aG s) (aY (↑x:Int) (aG t) (bD (λb o=>aI (bF s.a b o) (0<=(↑x:Int)) ((↑x:Int)<aG s) (∃(y:VV),aJ m h b (bB o x 3) y.enc/\bD (λe f=>aI (bF t.a e f) (0<=(↑x:Int)) ((↑x:Int)<aG t) (∃(g:VV),aJ m h e (bB f x 3) g.enc/\Aj y g (λa j=>branch (lQ a j !=0) (K (jA (lQ a j)) m h) (∃(c:Nat),aA (I c) (d c<d x) (aA (aH s) (aH t) (cF (fJ (aW x 1)=bY c) m m h h))))))))) (aY (aG s) (aG t) (K (jA (Int.negSucc 0)) m h) (iG (aG s) (aG t) K (jA 1) m h (K (jA 0) m h)))) (aY (aG s) (aG t) (K (jA (Int.negSucc 0)) m h) (iG (aG s) (aG t) K (jA 1) m h (K (jA 0) m h))))
theorem H2{a b:Int}:CD a b=0↔a=b:=by
 unfold CD;omega
theorem H3:∀a b:dp,Lib.compareBytes a b=0↔a=b
 |[],[]=>by simp[Lib.compareBytes]
 |[],_::_=>by simp[Lib.compareBytes]
 |_::_,[]=>by simp[Lib.compareBytes]
 |a::l,b::bs=>by
  simp only[Lib.compareBytes,List.cons.injEq];split
  .grind
  .split
   .grind
   .rename_i c d;rw[H3 l bs]
    grind
theorem aSZ{a b:ByteArray}:QN a b=0↔a=b:=by
 unfold QN;rw[H3];constructor
 .intro h;cases a;cases b;simp only[ByteArray.mk.injEq];exact Array.toList_inj.1 h
 grind
theorem Mr{a b:VV}:lQ a b=0↔a=b:=by
 obtain⟨k,i,t⟩:=a;obtain⟨d,f,g⟩:=b;simp only[lQ,VV.mk.injEq];split
 .rename_i h;exact⟨λe=>absurd e h,λe=>absurd (H2.2 e.1) h⟩
 .rename_i h;have h:=Classical.not_not.1 h;split
  .rename_i c;exact⟨λe=>absurd e c,λe=>absurd (H2.2 e.2.1) c⟩
  .rename_i c;have c:=Classical.not_not.1 c;rw[aSZ];simp[H2.1 h,H2.1 c]
theorem gT:∀{a b:de},cN a b=0↔a=b
 |[],[]=>by simp[cN]
 |[],_::_=>by simp[cN]
 |_::_,[]=>by simp[cN]
 |x::xs,y::ys=>by
  simp only[cN,List.cons.injEq];split
  .rename_i h;exact⟨λe=>absurd e h,λe=>absurd (Mr.2 e.1) h⟩
  .rename_i h;rw[gT (a:=xs),Mr.1 (Classical.not_not.1 h)];simp
theorem Pc:∀a b:dp,(Op.bytesLess a b=true↔Lib.compareBytes a b= -1)/\(Lib.compareBytes a b= -1\/Lib.compareBytes a b=0\/Lib.compareBytes a b=1)
 |[],[]=>by simp[Lib.compareBytes,Op.bytesLess]
 |[],_::_=>by simp[Lib.compareBytes,Op.bytesLess]
 |_::_,[]=>by simp[Lib.compareBytes,Op.bytesLess]
 |a::l,b::bs=>by
  obtain⟨c,d⟩:=Pc l bs;simp only[Lib.compareBytes,Op.bytesLess]
  grind
theorem aiX{a b:Int}(c:K (cI (CD a b)) m h):Ma a b m h K:=by
 dsimp only[Ma,push_cast];refine⟨a,rfl,b,rfl,aE (λd=>?_) (λd=>aE (λe=>?_) (λe=>?_))⟩
 .rw[CD,if_pos d]at c;exact c
 .rw[CD,if_neg d,if_pos e]at c;exact c
 .rw[CD,if_neg d,if_neg e]at c;exact c
theorem YJ:cu 196 bVJ:=by
 refine iB func196 ?_;rintro c m h K ⟨n,rfl,d⟩;refine⟨dD [] [] [] [] false,rfl,aF,aNJ n m h K,be,?_⟩;exact(by show K (cB (n !=n)) m h;grind)
theorem YI:cu 197 bVJ:=by
 refine iB func197 ?_;rintro c m h K ⟨n,rfl,d⟩;refine⟨dD [] [] [] [] false,rfl,aF,aNZ n m h K,be,?_⟩;exact(by show K (cB (n !=n)) m h;grind)
theorem YY:cu 171 asQ:=by
 refine iB func171 ?_;rintro c m h K ⟨a,b,rfl,d⟩;refine⟨dD [(196,bVJ)] [] [] [] false,rfl,aD YJ aF,Ma a b m h K,be,?_⟩;exact aiX d
theorem YX:cu 172 asQ:=by
 refine iB func172 ?_;rintro c m h K ⟨a,b,rfl,d⟩;refine⟨dD [(197,bVJ)] [] [] [] false,rfl,aD YI aF,aOJ a b m h K,be,?_⟩;exact aiX d
theorem YW:cu 173 b4Z:=by
 refine⟨⟨Tryz.f173,func173,rfl,bg⟩,?_⟩;rintro j g m h w K ⟨a,b,rfl,n⟩ c
 obtain⟨v,d,rfl⟩:∃v d,g=[v,d]:=by
  have:=(rJ c.args).1
  match g,this with
  |[v,d],_=>grind
 have o:v= .string a:=c.args.1;have f:d= .string b:=c.args.2.1;subst o f;refine(Tryz.strings_Compare a b w).mono ?_;rintro e u ⟨rfl,rfl⟩;exact⟨_,_,m,h,rfl,n,rfl,Lh c,λb t=>by simp[cI,gA]at t⟩
theorem IJ:cu 151 S8:=by
 refine iB func151 ?_;rintro e m h K ⟨a,b,rfl,c⟩;refine⟨dD [(171,asQ),(172,asQ),(173,b4Z)] [] [] [] false,rfl,aD YY (aD YX (aD YW aF)),R2 a b m h K,be,?_⟩;dsimp only[R2,push_cast];refine⟨_,Oe a b,aB (λd=>?_) (λd=>⟨_,_,rfl,aB (λf=>?_) (λf=>⟨_,_,rfl,aB (λg=>?_) (λg=>⟨_,_,rfl,?_⟩)⟩)⟩)⟩
 .rw[Mr.2 (ajX.1 d)]at c;exact c
 .rw[lQ,if_pos bk]at c;exact c
 .rw[lQ,if_neg bk,if_pos bk]at c;exact c
 .rw[lQ,if_neg bk,if_neg bk]at c;exact c
theorem aCZ:cu 91 S8:=by
 refine iB func91 ?_;rintro z m h K ⟨a,b,rfl,c⟩;refine⟨dD [] [] [] [] false,rfl,aF,V3 a b m h K,be,?_⟩;dsimp only[V3,push_cast];unfold lQ CD QN at c;obtain⟨o,t⟩:=Pc a.text.data.toList b.text.data.toList;refine aE (λd=>?_) (λd=>aE (λf=>?_) (λf=>aE (λg=>?_) (λg=>aE (λu=>?_) (λu=>aB (λj=>?_) (λj=>aB (λn=>?_) (λn=>?_))))))
 .rw[if_pos d]at c;exact c
 .rw[if_neg d,if_pos f]at c;exact c
 .rw[if_neg d,if_neg f,if_pos g]at c;exact c
 .rw[if_neg d,if_neg f,if_neg g,if_pos u]at c;exact c
 all_goals rw[if_neg d,if_neg f,if_neg g,if_neg u]at c
 all_goals rw[ByteArray.toList_eq,ByteArray.toList_eq]at j
 .rw[if_neg bf,if_neg bf,o.1 j]at c;exact c
 .have y:Lib.compareBytes a.text.data.toList b.text.data.toList=1:=by
   rcases t with e|e|e
   .grind
   .rw[H3]at e;rw[ByteArray.toList_eq,ByteArray.toList_eq,e]at n;simp at n
   .exact e
  rw[if_neg bf,if_neg bf,y]at c;exact c
 .have y:Lib.compareBytes a.text.data.toList b.text.data.toList=0:=by
   rw[ByteArray.toList_eq,ByteArray.toList_eq,j]at n;rw[H3];grind
  rw[if_neg bf,if_neg bf,y]at c;exact c
theorem SM{a b:de}{x y:VV}(hx:a[i]? =some x)(c:b[i]? =some y):cN (a.drop i) (b.drop i)=if lQ x y≠0 then lQ x y else cN (a.drop (i+1)) (b.drop (i+1)):=by
 rw[drop_cons hx,drop_cons c,cN]
theorem Zf:cu 150 b5Q:=by
 refine iB func150 ?_;rintro D m h K ⟨s,t,a,b,rfl,o,C,d⟩;refine⟨bdX s t m h,rfl,aD IJ aF,R3 s t m h K,be,?_⟩;dsimp only[R3,push_cast];have z:=bC.slen o;have f:=bC.slen C;have E:=o.len;refine⟨λi=>i<=a.length/\i<=b.length/\cN a b=cN (a.drop i) (b.drop i),λi=>a.length-i,⟨0,⟨aC,aC,bf⟩,MT⟩,λi⟨S,T,e⟩=>aE (λg=>?_) (λA=>?_)⟩
 .obtain⟨x,B⟩:=eO z g;obtain⟨F,G,u,H,I,rfl⟩:=bC.at o B;refine⟨F,G,H,aC,g,x,.imm I,aE (λA=>?_) (λc=>?_)⟩
  .rw[e,drop_cons B,drop_eq_nil_of_le (show b.length<=i by omega),cN]at d;exact d
  .have c:(i:Int)<(t.len:Int):=by omega
   obtain⟨y,j⟩:=eO f c;obtain⟨J,L,u,M,O,rfl⟩:=bC.at C j;rw[SM B j]at e;refine⟨J,L,M,aC,c,y,.imm O,x,y,rfl,aB (λP=>?_) (λQ=>⟨i+1,⟨aC,aC,?_⟩,(show a.length-(i+1)<a.length-i by omega),MT⟩)⟩
   .rw[e,if_pos bk]at d;exact d
   grind
 .have:a.drop i=[]:=drop_eq_nil_of_le aC;rw[this]at e;refine aE (λR=>?_) (λR=>?_)
  .obtain⟨y,j⟩:=eO (l:=b) (i:=i) (n:=t.len) f aC;rw[e,drop_cons j,cN]at d;exact d
  .rw[e,drop_eq_nil_of_le aC,cN]at d;exact d
theorem tN:cu 117 FQ:=by
 refine iB func117 ?_;rintro c m h K ⟨s,t,a,b,rfl,d,e,f⟩;refine⟨dD [(150,b5Q)] [] [] [] false,rfl,aD Zf aF,aQZ s t m h K,be,?_⟩;exact⟨s,t,a,b,rfl,d,e,f⟩
theorem LO:cu 48 FQ:=by
 refine iB func48 ?_;rintro F m h K ⟨s,t,a,b,rfl,A,E,c⟩;refine⟨bKQ s t m h,rfl,aD aCZ aF,Wj s t m h K,be,?_⟩;dsimp only[Wj,push_cast];have f:=bC.slen A;have g:=bC.slen E;have G:=A.len;refine⟨λi=>i<=a.length/\i<=b.length/\cN a b=cN (a.drop i) (b.drop i),λi=>a.length-i,⟨0,⟨aC,aC,bf⟩,MT⟩,λi⟨T,U,j⟩=>aE (λe=>aE (λd=>?_) (λB=>?_)) (λB=>?_)⟩
 .obtain⟨x,o⟩:=eO f e;obtain⟨y,z⟩:=eO g d;obtain⟨H,I,u,J,L,rfl⟩:=bC.at A o;obtain⟨M,O,u,P,Q,rfl⟩:=bC.at E z;rw[SM o z]at j;refine⟨H,I,J,aC,e,x,.imm L,M,O,P,aC,d,y,.imm Q,x,y,rfl,aB (λR=>?_) (λS=>⟨i+1,⟨aC,aC,?_⟩,(show a.length-(i+1)<a.length-i by omega),MT⟩)⟩
  .rw[j,if_pos bk]at c;exact c
  grind
 .obtain⟨x,o⟩:=eO f e;rw[j,drop_cons o,drop_eq_nil_of_le (show b.length<=i by omega),cN]at c;exact aE (λC=>aC) (λC=>aE (λD=>c) (λD=>aC))
 .rw[j,drop_eq_nil_of_le (show a.length<=i by omega)]at c;refine aE (λC=>?_) (λC=>aE (λD=>aC) (λD=>?_))
  .obtain⟨y,z⟩:=eO (l:=b) (i:=i) (n:=t.len) g aC;rw[drop_cons z,cN]at c;exact c
  .rw[drop_eq_nil_of_le aC,cN]at c;exact c
structure GI(h:PH)(P:de->Prop) where
 s:Sl
 l:de
 ok:bO h s l
 pr_:P l
def GI.pr{h:PH}{P:de->Prop}(x:GI h P):Sl×de:=(x.s,x.l)
def AW(h:PH){R:de->Prop}(x:GI h R):Value:=.slice x.s.a x.s.len x.s.cap
theorem MC{w w':World}(c:w'.tape=w.tape)(d:w'.os=w.os)(e:w'.output=w.output)(f:w.drawn<=w'.drawn)(g:w.heap.size<=w'.heap.size)(j:∀b,b<w.heap.size->w'.heap[b]? =w.heap[b]?):
 ∃q n,w'=Sort.grow (w.drewN q) n:=by
 refine⟨w'.drawn-w.drawn,w'.heap.extract w.heap.size w'.heap.size,?_⟩;obtain⟨A,B,C,D,E⟩:=w';obtain⟨o,t,u,y,z⟩:=w;dsimp only at c d e f g j;subst c d e;unfold Sort.grow World.drewN;dsimp only;congr 1
 .grind
 .omega
structure b4J(P:Program)(R:de->Prop)(g:Nat)(cb:cv)(m2:MH)(h:PH)(cf:de->de->Int):Prop where
 ex:∃S,Sound P g S/\∀x y:GI h R,S ([cS x.s,cS y.s]++cb.map .val) m2 h (λr m' h'=>r=cI (cf x.l y.l)/\m'=m2/\h'=h)
theorem bmX{P:Program}{R:de->Prop}{g:Nat}{cb:cv}{m2:MH}{h:PH}[Inhabited (GI h R)]{cf:de->de->Int}(I:b4J P R g cb m2 h cf){w:World}{blk off size:Nat}
 (Q:∀b o v,h b o=some v->w.cell? ⟨b,o,none⟩=some v/\b≠blk)(hm:∀b o,m2 b=some o->w.heap[b]? =some o/\b≠blk)(T:∀b o,m2 b=some o->∀i,h b i=none):
 CmpLays1 P g cb.toArray (AW h (R:=R)) (λx y=>cf x.l y.l) blk off size w:=by
 obtain⟨S,J,U⟩:=I.ex;intro D L E V x y;obtain⟨W,M⟩:∃W,Go.Proofs.sortWorld (AW h (R:=R)) w blk off D E L=W:=⟨_,rfl⟩
 rw[M]
 have F:∀b,b<w.heap.size->b≠blk->W.heap[b]? =w.heap[b]? :=λb n G=>by
  rw[<-M];show((Sort.putRow (AW h) (Sort.ahead w D) blk off E).heap++L)[b]? =_;have J:(Sort.putRow (AW h) (Sort.ahead w D) blk off E).heap.size=w.heap.size:=by unfold Sort.putRow Sort.mapBlock;simp[Sort.ahead]
  rw[Array.getElem?_append_left aC];unfold Sort.putRow Sort.mapBlock;simp only[Array.getElem?_modify,if_neg (Ne.symm G)];rfl
 have t:∀(l:cv)(w:World),Cy w (l.map .val) l:=λl w=>by
  induction l with
  |nil=>trivial
  |cons a l X=>exact⟨rfl,X⟩
 have A:∀(l:cv)(i:Nat)(c:CV)(u:Value)(b:Nat),(l.map CV.val)[i]? =some c->gA c u=some b->False:=λl i c u b f n=>by
  rw[getElem?_map]at f;cases e:l[i]? with
  |none=>grind
  |some v=>rw[e]at f;simp at f;subst f;simp[gA]at n
 have Y:[cS x.s,cS y.s]++cb.map .val=([AW h x,AW h y]++cb).map .val:=by simp[cS,AW]
 have B:AK W m2 h ([cS x.s,cS y.s]++cb.map .val) ([AW h x,AW h y]++cb):=by
  rw[Y];refine⟨t _ _,?_,?_,T,λi j c d u v b f _ _ _ n _=>(A _ i c u b f n).elim,λi c u b f _ n=>(A _ i c u b f n).elim⟩
  .intro b o v Z;obtain⟨C,h2⟩:=Q b o v Z;rw[World.cell?_of_block (w:=w) (w':=W) (a:=⟨b,o,none⟩) (F b (World.block_lt_of_cell? w ⟨b,o,none⟩ C) h2)];exact C
  grind
 have:=J.2 _ _ m2 h W _ (U x y) B;have e2:(([AW h x,AW h y]++cb).toArray:Array Value)= #[AW h x,AW h y]++cb.toArray:=bf
 rw[e2]at this;refine this.mono ?_;rintro e w' ⟨r,u,m',h',rfl,⟨rfl,rfl,rfl⟩,H,z,_⟩;have hu:u= .int .i64 (cf x.l y.l):=H;subst hu;refine⟨rfl,MC z.tape z.os z.output z.drawn z.size (λb n=>?_)⟩;cases O:m' b with
 |none=>
  refine z.frame b n ?_;rintro(C|⟨i,c,u,f,_,I⟩)
  .exact C O
  grind
 |some o=>rw[z.msat b o O];grind
theorem ON{α:Type}[Inhabited α]{d c:Array α}(h:Sort.PermIn 0 d.size d c):c.toList.Perm d.toList:=by
 obtain⟨e,_,f⟩:=h;have g:d.extract 0 d.size=d:=bf
 have j:c.extract 0 d.size=c:=bk
 grind
theorem Rf{h:PH}{R:de->Prop}:∀(ps:dy),(∀p∈ps,bO h p.1 p.2)->(∀p∈ps,R p.2)->∃ds:List (GI h R),ds.map GI.pr=ps
 |[],_,_=>⟨[],rfl⟩
 |p::ps,e,f=>by
  obtain⟨ds,c⟩:=Rf (R:=R) ps (λq d=>e q (mem_cons_of_mem _ d)) (λq d=>f q (mem_cons_of_mem _ d));exact⟨⟨p.1,p.2,e p (mem_cons_self ..),f p (mem_cons_self ..)⟩::ds,by rw[map_cons,c];rfl⟩
theorem Q0{R:de->Prop}{w:World}{m:MH}{h:PH}{s:Sl}{g:Nat}{cb:cv}{ps:dy}{cf:de->de->Int}{m2:MH}{t:Value}(a':t= .func (.func g) #[] cb.toArray)
 (D:AK w m h [cS s,.val t] [s.val,t])(hg:∃O,Tryz.prog.funcs[g]? =some O/\O.body.isSome=true/\(O.name== "runtime.NumGoroutine")=false)(hr:cT m s 75 1 (ps.map λp=>eS p.1))(hv:∀p∈ps,bO h p.1 p.2)(hR:∀p∈ps,R p.2)(b0:ps.length<=140737488355328)
 (hO:Sort.SWO (Go.Proofs.ltOf (fun(x y:GI h R)=>cf x.l y.l)))(hc:b4J Tryz.prog R g cb m2 h cf)(H:∀b o,m2 b=some o->m b=some o/\∀i,s.a≠some ⟨b,i,none⟩)
 {K:dc}(hK:∀(I:dy)(m':MH),I.Perm ps->I.Pairwise (λp q=>¬cf q.2 p.2<0)->cT m' s 75 1 (I.map λp=>eS p.1)->(∀b,(∀i,s.a≠some ⟨b,i,none⟩)->m' b=m b)->K (.tup []) m' h):
 Calls Tryz.prog 223 #[s.val,t] w λe w'=>∃r u m' h',e= .returned u/\K r m' h'/\Ea w' r u/\xC ⟨w,tA m [cS s,.val t] [s.val,t],h,[]⟩ m' h' w'/\(∀b,gA r u=some b->(w.heap.size<=b\/tA m [cS s,.val t] [s.val,t] b)/\m' b=none/\∀i,h' b i=none):=by
 subst a';by_cases F:ps=[]
 .subst F;have a0:s.len=0:=by have:=cT.slen hr;grind
  have:=AnyF.slices_SortFunc_none Tryz.sortN s.a s.cap (.func (.func g) #[] cb.toArray) w;rw[show s.val= .slice s.a 0 s.cap by rw[<-a0];rfl];refine Calls.mono (show Calls Tryz.prog 223 #[.slice s.a 0 s.cap,.func (.func g) #[] cb.toArray] w _ from this) ?_;rintro e w' ⟨rfl,rfl⟩;exact⟨.tup [],.tuple #[],m,h,rfl,hK [] m (.refl _) .nil hr (λ_ _=>rfl),⟨#[],rfl,rfl⟩,⟨rfl,rfl,rfl,Nat.le_refl _,Nat.le_refl _,λ_ _ _=>rfl,D.hsat,D.msat,D.disj,λ_ _ _ e=>e,λ_ _ _=>rfl,λb o hb=>.inr (.inl bk)⟩,λb hb=>by simp[gA]at hb⟩
 obtain⟨p0,P⟩:=exists_mem_of_ne_nil _ F
 haveI:Inhabited (GI h R):=⟨⟨p0.1,p0.2,hv p0 P,hR p0 P⟩⟩
 rcases hr.ex with⟨rfl,hx⟩|⟨b,z,A,rfl,Q,h0,h1,h2,h3⟩
 .exact(F (br hx)).elim
 .simp only[length_map]at h0 h3;have J:=D.msat b _ Q;have S:=(Array.getElem?_eq_some_iff.1 J).1;obtain⟨B,T⟩:∃B:List (GI h R),B.map GI.pr=ps:=Rf ps hv hR;have U:B.length=ps.length:=bk
  have V:∀j,(G:j<B.length)->A[j]? =some (AW h B[j]):=λj G=>by
   have:(A.toList.take (ps.length*1))[j]? =((ps.map λp=>eS p.1).flatten)[j]? :=by rw[h3]
   rw[getElem?_take,if_pos aC,cn]at this;rw[this, <-T]
   have hf:((B.map GI.pr).map λp:Sl×de=>eS p.1).flatten=B.map (AW h):=by
    clear T U G this
    induction B with
    |nil=>rfl
    |cons a l ih=>simp only[map_cons,flatten_cons,ih];rfl
   grind
  have a1:A.size=z:=by omega
  have hH:Sort.Holds (AW h) w b 0 B.toArray:=by
   intro j G;have G:j<B.length:=by omega
   refine⟨?_,?_⟩
   .rw[cell_of_heap J,cn,Nat.zero_add,V j G,getElem!_pos _ j aC];simp
   .unfold World.frozen?
    grind
  obtain⟨O,a2,b1,b3⟩:=hg
  have eg:∀args w,(callFunc g args).run Tryz.prog w= .ok (.enter g args) w:=λargs w=>by
   have a3:¬O.body=none:=bk
   have a4:¬O.name= "runtime.NumGoroutine" :=bk
   simp[callFunc,program,Sem.run,a2,a4,a3]
  have W:=bmX (blk:=b) (off:=0) (size:=B.toArray.size) hc (w:=w) (λc o v C=>⟨D.hsat c o v C,λe=>by rw[e,D.disj b _ Q o]at C;cases C⟩) (λc o d=>⟨D.msat c o (H c o d).1,λe=>(H c o d).2 0 (by rw[e])⟩) (λc o d=>D.disj c o (H c o d).1);have L:=Any.slices_SortFunc Tryz.sortF (AW h) (λ_=>rfl) (λx y=>cf x.l y.l) hO g cb.toArray b 0 z B.toArray w eg W hH S bj;have e3:(Sl.val ⟨some ⟨b,0,none⟩,(ps.map λp=>eS p.1).length,z⟩)= .slice (some ⟨b,0,none⟩) B.toArray.size z:=by simp[Sl.val,U]
  rw[e3];refine Calls.mono L ?_;rintro e w' ⟨rfl,f,n,os,X,a5,rfl⟩;have a6:f.size=B.length:=by have:=X.1;omega
  have a7:=ON X;obtain⟨m',E⟩:∃m',gR m m' b (.cells (Sort.putCells (AW h) 0 f A) 75 (0,0)):=⟨λc=>if c=b then some (.cells (Sort.putCells (AW h) 0 f A) 75 (0,0))else m c,bf,λc d=>by simp[d]⟩
  have b4:(Sort.putRow (AW h) (Sort.ahead w n) b 0 f).heap.size=w.heap.size:=by unfold Sort.putRow Sort.mapBlock;simp[Sort.ahead]
  have b2:(Go.Proofs.sortWorld (AW h) w b 0 n f os).heap[b]? =some (.cells (Sort.putCells (AW h) 0 f A) 75 (0,0)):=by
   show((Sort.putRow (AW h) (Sort.ahead w n) b 0 f).heap++os)[b]? =_;rw[Array.getElem?_append_left aC];unfold Sort.putRow Sort.mapBlock;simp only[Array.getElem?_modify,if_true];show Option.map _ w.heap[b]? =_;rw[J];rfl
  have Y:∀c,c<w.heap.size->c≠b->(Go.Proofs.sortWorld (AW h) w b 0 n f os).heap[c]? =w.heap[c]? :=λc d M=>by
   show((Sort.putRow (AW h) (Sort.ahead w n) b 0 f).heap++os)[c]? =_;rw[Array.getElem?_append_left aC];unfold Sort.putRow Sort.mapBlock;simp only[Array.getElem?_modify,if_neg (Ne.symm M)];rfl
  have hE:tA m [cS ⟨some ⟨b,0,none⟩,(ps.map λp=>eS p.1).length,z⟩,.val (.func (.func g) #[] cb.toArray)] [.slice (some ⟨b,0,none⟩) B.toArray.size z,.func (.func g) #[] cb.toArray] b:=.inl (by rw[Q];simp);refine⟨.tup [],.tuple #[],m',h,rfl,hK (f.toList.map GI.pr) m' ?_ ?_ ?_ (λc d=>E.other c (λe=>d 0 (by rw[e]))),⟨#[],rfl,rfl⟩,⟨rfl,rfl,rfl,Nat.le_add_right _ _,?_,?_,?_,?_,?_,λ_ _ _ e=>e,λ_ _ _=>rfl,?_⟩,λb hb=>by simp[gA]at hb⟩
  .grind
  .rw[pairwise_map,pairwise_iff_getElem];intro i j hi G a8 Z;have hi:i<f.size:=by omega
   have G:j<f.size:=by omega
   have:=a5 i j (Nat.zero_le _) a8 bj;rw[getElem!_pos f i hi,getElem!_pos f j G]at this;unfold Go.Proofs.ltOf at this;simp only[decide_eq_false_iff_not]at this;simp only[Array.getElem_toList]at Z;exact this Z
  .refine⟨⟨λe he=>?_,λe he u hu=>?_⟩,.inr ⟨b,z,_,?_,E.at_,bj,h1,?_,?_⟩⟩
   .obtain⟨x,_,rfl⟩:=mem_map.1 he;rfl
   .obtain⟨x,_,rfl⟩:=mem_map.1 he;have:u= .slice x.1.a x.1.len x.1.cap:=by simpa[eS]using hu
    rw[this];rfl
   .grind
   .simp[Sort.putCells,a1]
   .apply ext_getElem?;intro j
    have hf:((f.toList.map GI.pr).map λp:Sl×de=>eS p.1).flatten=f.toList.map (AW h):=by
     generalize f.toList=l
     induction l with
     |nil=>rfl
     |cons a l ih=>simp only[map_cons,flatten_cons,ih];rfl
    rw[hf,getElem?_take];simp only[length_map,Array.length_toList,Nat.mul_one];by_cases G:j<f.size
    .rw[if_pos G,cn,getElem?_map,cn,Array.getElem?_eq_getElem G];have a9:j<A.size:=by omega
     simp only[Sort.putCells,Array.getElem?_mapIdx,Array.getElem?_eq_getElem a9,Option.map_some,Nat.zero_le,Nat.zero_add,Nat.sub_zero,true_and]
     grind
    grind
  .grind
  .grind
  .intro c o v C;have M:c≠b:=λe=>by rw[e,D.disj b _ Q o]at C;cases C
   have h5:=D.hsat c o v C;rw[World.cell?_of_block (w:=w) (a:=⟨c,o,none⟩) (Y c (World.block_lt_of_cell? w ⟨c,o,none⟩ h5) M)];exact h5
  .intro c o d;by_cases e:c=b
   .subst e;rw[E.at_]at d;grind
   .rw[E.other c e]at d;have h5:=D.msat c o d
    grind
  .intro c o d i;by_cases e:c=b
   .subst e;exact D.disj c _ Q i
   .rw[E.other c e]at d;exact D.disj c o d i
  .intro c o d;by_cases e:c=b
   .grind
   .rw[E.other c e]at d;exact .inr (.inl bk)
end Go.Ps
namespace Go.Vc
open Go List
theorem cT.rd{m:MH}{h:PH}{s:Sl}{E sz:Nat}{xs:List cv}(r:cT m s E sz xs){i:Nat}{e:cv}(c:xs[i]? =some e):∃b,s.a=some ⟨b,0,none⟩/\aJ m h b (i*sz) e:=by
 rcases r.ex with⟨_,rfl⟩|⟨b,o,d,rfl,t,A,B,C,u⟩
 .simp at c
 .refine⟨b,rfl,.lent d E (0,0) t ?_⟩;have y:=(bt c);have f:=r.rows.len e (bx c)
  have g:∀(l:List cv)(k:Nat),(∀x∈l,x.length=sz)->l[k]? =some e->(l.flatten.drop (k*sz)).take sz=e:=by
   intro l
   induction l with
   |nil=>grind
   |cons a l D=>
    intro k z F;have j:=z a (mem_cons_self ..);cases k with
    |zero=>
     grind
    |succ k=>
     rw[flatten_cons,Nat.succ_mul,Nat.add_comm, <-drop_drop, <-j,drop_left,j]
     grind
  have n:=g xs i r.rows.len c;rw[f];rw[<-u]at n;rw[drop_take,take_take]at n
  grind
theorem oW.sub{m m':MH}{h:PH}{s:Sl}{sz:Nat}{c:List cv}(r:oW m h s sz c)(d:∀b o,m b=some o->m' b=some o):oW m' h s sz c:=by
 rcases r with r|⟨b,o,cs,E,e,f,g,j,n⟩
 .exact .imm r
 .exact .lent b o cs E e f g (d _ _ j) n
theorem cT.src{m:MH}{h:PH}{s:Sl}{E sz:Nat}{xs:List cv}(r:cT m s E sz xs):oW m h s sz xs:=by
 rcases r.ex with⟨rfl,rfl⟩|⟨b,d,c,rfl,e,f,g,j,n⟩
 .exact .imm (bX.nil h sz)
 .refine .lent b 0 c E (0,0) rfl rfl e ?_
  grind
end Go.Vc
namespace Go.Ps
open Go Go.Vc Go.Proofs List Tryz
variable{K:dc}{m:MH}{h:PH}{s:j4}{ps:dd}{cb:Nat}{sc:bJ}{v:QV}{q:Query}{p:Pred}{l:dd}{i:Nat}{N:Nat}{m':MH}{h':PH}{co:dd}{gr:dd}{od:dg}{w:Pred}{ta:Int}{li:Int}{xs:List cv}{sz:Nat}{k:Nat}{ks:List dd}{rs:dd}{r:Sl}{a:dd}{b:Nat}
structure S9{α:Type}(c:α->α->Int):Prop where
 anti:∀x y,c x y= -c y x
 trans:∀x y z,c x y<=0->c y z<=0->c x z<=0
theorem S9.zero{α:Type}{c:α->α->Int}(h:S9 c){x y z:α}(d:c x y<=0)(e:c y z<=0)(f:c x z=0):c x y=0/\c y z=0:=by
 have g:=h.anti x z;have j:=h.anti x y;have n:=h.anti y z;have o:=h.trans z x y aC d;have t:=h.trans y z x e aC;omega
theorem TN{c d:Int}(h:(if c≠0 then c else d)<=0):c<=0:=by
 omega
theorem S9.lex{α:Type}{c d:α->α->Int}(h:S9 c)(k:S9 d):S9 (λx y=>if c x y≠0 then c x y else d x y):=by
 refine⟨λx y=>?_,λx y z f g=>?_⟩
 .have a:=h.anti x y;have b:=k.anti x y;omega
 .have j:c x y<=0:=TN f;have n:c y z<=0:=TN g;have o:=h.trans x y z j n;show(if c x z≠0 then c x z else d x z)<=0;by_cases e:c x z=0
  .obtain⟨t,u⟩:=h.zero j n e;have f:(if c x y≠0 then c x y else d x y)<=0:=f;have g:(if c y z≠0 then c y z else d y z)<=0:=g;rw[if_neg aC]at f;rw[if_neg aC]at g;rw[if_neg (br e)];exact k.trans x y z f g
  omega
theorem S9.of{α β:Type}{c:α->α->Int}(h:S9 c)(f:β->α):S9 (λx y=>c (f x) (f y)):=⟨λx y=>h.anti _ _,λx y z=>h.trans _ _ _⟩
theorem Xc:S9 CD:=by
 refine⟨λx y=>?_,λx y z=>?_⟩
 .unfold CD;omega
 .unfold CD;omega
theorem SN:∀a b:dp,Lib.compareBytes a b= -Lib.compareBytes b a
 |[],[]=>rfl
 |[],_::_=>rfl
 |_::_,[]=>rfl
 |a::l,b::k=>by
  simp only[Lib.compareBytes];by_cases c:a<b
  .grind
  .by_cases d:b<a
   .simp[c,d]
   .simp only[c,d,if_false];exact SN l k
theorem P9:∀a b c:dp,Lib.compareBytes a b<=0->Lib.compareBytes b c<=0->Lib.compareBytes a c<=0
 |[],_,[],_,_=>by simp[Lib.compareBytes]
 |[],_,_::_,_,_=>by simp[Lib.compareBytes]
 |_::_,[],_,f,_=>by simp[Lib.compareBytes]at f
 |_::_,_::_,[],_,d=>by simp[Lib.compareBytes]at d
 |a::l,b::k,c::q,f,d=>by
  simp only[Lib.compareBytes]at f d⊢
  by_cases g:a<c
  .simp[g]
  .by_cases j:a<b
   .grind
   .by_cases n:b<a
    .grind
    .have e:a=b:=UInt8.le_antisymm (UInt8.not_lt.1 n) (UInt8.not_lt.1 j);subst e;simp only[j,g,if_false]at f d⊢
     by_cases o:c<a
     .grind
     .simp only[o,if_false]at d⊢
      exact P9 l k q f d
theorem K2:S9 lQ:=by
 have c:S9 QN:=⟨λx y=>SN _ _,λx y z=>P9 _ _ _⟩
 exact(Xc.of VV.kind).lex ((Xc.of VV.int).lex (c.of VV.text))
theorem kL:∀a b,cN a b= -cN b a
 |[],[]=>rfl
 |[],_::_=>rfl
 |_::_,[]=>rfl
 |x::l,y::k=>by
  have a:=K2.anti x y;simp only[cN];by_cases e:lQ x y=0
  .rw[if_neg (br e),if_neg aC];exact kL l k
  omega
theorem zY:∀a b c,cN a b<=0->cN b c<=0->cN a c<=0
 |[],_,[],_,_=>by simp[cN]
 |[],_,_::_,_,_=>by simp[cN]
 |_::_,[],_,d,_=>by simp[cN]at d
 |_::_,_::_,[],_,f=>by simp[cN]at f
 |x::l,y::k,z::q,d,f=>by
  simp only[cN]at d f⊢
  have g:lQ x y<=0:=TN d;have j:lQ y z<=0:=TN f;have n:=K2.trans x y z g j;by_cases e:lQ x z=0
  .obtain⟨o,t⟩:=K2.zero g j e;rw[if_neg aC]at d;rw[if_neg aC]at f;rw[if_neg (br e)];exact zY l k q d f
  omega
theorem GA:S9 cN:=⟨kL,zY⟩
theorem S9.swo{R:de->Prop}{cf:de->de->Int}(c:S9 cf):Sort.SWO (Go.Proofs.ltOf (fun(x y:GI h R)=>cf x.l y.l)):=by
 refine⟨λx=>?_,λx y z d f=>?_,λx y z d f=>?_⟩
 .have:=c.anti x.l x.l;unfold Go.Proofs.ltOf;simp;omega
 .unfold Go.Proofs.ltOf at*
  simp only[cm]at*
  have t:=c.trans x.l y.l z.l aC aC;by_cases e:cf x.l z.l=0
  .have:=c.zero (x:=x.l) (y:=y.l) (z:=z.l) aC aC e;omega
  .omega
 .unfold Go.Proofs.ltOf at*
  simp only[decide_eq_false_iff_not]at*
  have g:=c.anti x.l y.l;have j:=c.anti y.l z.l;have n:=c.anti x.l z.l;have t:=c.trans z.l y.l x.l aC aC;omega
def LG(x:de):cw->cw
 |[]=>[x]
 |y::l=>if cN x y<0 then x::y::l else if cN x y=0 then y::l else y::LG x l
def Ef(l:cw):cw:=l.foldr LG []
abbrev nA(l:cw):Prop:=l.Pairwise λx y=>cN x y<0
theorem Pk{x z:de}:∀{l:cw},z∈LG x l↔z=x\/z∈l
 |[]=>by simp[LG]
 |y::l=>by
  simp only[LG];split
  .simp
  .split
   .rename_i _ e;have:=gT.1 e
    grind
   .simp only[mem_cons,Pk (l:=l)]
    grind
theorem M1{x:de}:∀{l:cw},nA l->nA (LG x l)
 |[],_=>by simp[LG]
 |y::l,h=>by
  obtain⟨g,f⟩:=pairwise_cons.1 h;simp only[LG];split
  .rename_i d;refine pairwise_cons.2 ⟨λz c=>?_,h⟩;rcases mem_cons.1 c with rfl|c
   .exact d
   .have t:=zY x y z aC bk;by_cases e:cN x z=0
    .have:=GA.zero (x:=x) (y:=y) (z:=z) aC bk e;omega
    .omega
  .split
   .exact h
   .rename_i j n;refine pairwise_cons.2 ⟨λz c=>?_,M1 f⟩;rcases Pk.1 c with rfl|c
    .have:=kL z y;omega
    grind
theorem Jh{x:de}:∀{l:cw},x∈Ef l↔x∈l
 |[]=>by simp[Ef]
 |y::l=>by
  show x∈LG y (Ef l)↔_;rw[Pk,Jh,mem_cons]
theorem F7:∀(l:cw),nA (Ef l)
 |[]=>.nil
 |_::l=>M1 (F7 l)
theorem Oy:∀{a b:cw},nA a->nA b->(∀x,x∈a↔x∈b)->a=b
 |[],[],_,_,_=>rfl
 |[],y::_,_,_,h=>by have:=(h y).2 bf;simp at this
 |x::_,[],_,_,h=>by have:=(h x).1 bf;simp at this
 |x::a,y::b,c,d,h=>by
  obtain⟨f,g⟩:=pairwise_cons.1 c;obtain⟨j,n⟩:=pairwise_cons.1 d;have o:∀z,¬cN z z<0:=λz=>by have:=kL z z;omega
  have e:x=y:=by
   rcases mem_cons.1 ((h x).1 bf)with e|t
   .exact e
   .rcases mem_cons.1 ((h y).2 bf)with e|u
    .exact e.symm
    .have B:=f y u;have C:=j x t;have:=kL x y;omega
  subst e;congr 1;refine Oy g n (λz=>⟨λA=>?_,λA=>?_⟩)
  .grind
  grind
theorem aaJ{l r:cw}(c:nA r)(d:∀x,x∈r↔x∈l):r=Ef l:=Oy c (F7 l) λx=>by rw[d,Jh]
def asJ:Vc.Spec:=λc m h K=>∃(s:Sl)(d:dk),c=[cS s]/\oW m h s 1 (d.map eS)/\d.length<=502633886983/\∀e m',cT m' e 75 1 (d.map eS)->(∀b o,m b=some o->m' b=some o)->(∀b i,e.a=some ⟨b,i,none⟩->m b=none)->K (cS e) m' h
def bpX:Vc.Spec:=λd m h K=>∃(s:Sl)(ps:dy),d=[cS s,.val (.func (.func 117) #[] #[])]/\cT m s 75 1 (ps.map λp=>eS p.1)/\(∀p∈ps,bO h p.1 p.2)/\ps.length<=140737488355328/\
 ∀(c:dy)(m':MH),c.Perm ps->c.Pairwise (λp q=>¬cN q.2 p.2<0)->cT m' s 75 1 (c.map λp=>eS p.1)->(∀b,(∀i,s.a≠some ⟨b,i,none⟩)->m' b=m b)->K (.tup []) m' h
structure fQ(h:PH)(us:dk)(rs:cw):Prop where
 len:us.length=rs.length
 at_:∀(j:Nat) x,rs[j]? =some x->∃u,us[j]? =some u/\bO h u x
def bVZ:Vc.Spec:=λc m h K=>∃s d l,c=[cS s]/\oW m h s 1 (d.map eS)/\fQ h d l/\l.length<=502633886983/\∀e h',PH.le h h'->Rows h' e (Ef l)->K (cS e) m h'
noncomputable def baQ:Ctx:=
 dD [(222,asJ),(223,bpX),(117,FQ)] [(5,{A:=Nat×dk×Sl×MH×PH,st:=λ⟨i,c,s,m,h⟩=>bU 38 39 [(3,sv s),(4,.at (.lst 35)),(11,sv s),(12,iv s.len),(13,iv i)] [(35,.lst 75 1 (c.map eS))] m h})] [] [] false
def Py(n c:Nat)(m:MH)(h:PH)(K:dc):Prop:=
  K CE m h
theorem a8Q(n c:Nat)(m:MH)(h:PH)(K:dc):Py n c m h K=(tM (rT [] [] [] [] [95,1095] [] false) Tryz.f222 (cK Tryz.f222) (entry Tryz.f222.ntmps [.val (.slice none n c)] m h) K):=be
abbrev Cc(a:Sl->MH->Prop):Prop:=∀(x:Sl)(c:MH),a x c
abbrev zR(a:Prop)(b:(List cv)->Prop):Prop:=a/\∃(x:List cv),b x
attribute [push_cast] Cc zR
def Px(a:Addr)(n c:Nat)(m:MH)(h:PH)(K:dc):Prop:=
  Cc (λs d=>rK m d h s 75 1 []->∃(x:List cv),zR (cT d (cH s) 75 1 x) (λy=>aA (dQ 1 y) (oW d h (Sl.mk (Option.some a) n c) 1 y) (aA (u6 x y 24) (cW (u7 x y)) (Cc (λe f=>dV d f (cH s) e 75 1 (x++y)->K (mL e) f h)))))
theorem a7J(a:Addr)(n c:Nat)(m:MH)(h:PH)(K:dc):Px a n c m h K=(tM (rT [] [] [] [] [95,1095] [] false) Tryz.f222 (cK Tryz.f222) (entry Tryz.f222.ntmps [.val (.slice (some a) n c)] m h) K):=be
abbrev HC(a:Sl->dk->Prop):Prop:=∃(x:Sl)(c:dk),a x c
abbrev Fm(a:Nat):Prop:=a<=502633886983
abbrev JH(a:Sl)(b:Nat)(c:dk)(d:MH->Nat->Obj->Prop)(e:Nat->Prop)(g:MH->Prop):Prop:=∀(x:MH),aR (cT x a 75 b (vD c)) (∀(f:Nat)(j:Obj),d x f j) ((∀(f j:Nat),bF a.a f j->e f)->g x)
abbrev Fb(a:MH)(b:Nat):Prop:=a b=Option.none
abbrev JJ(a:MH)(b:Sl)(c:Nat)(d:dy):Prop:=cT a b 75 c (List.map (fun(x:Sl×de)=>aM x.1) d)
abbrev NW(a:(Nat×dk×Sl×MH×PH->Prop)->(Nat×dk×Sl×MH×PH)->Prop)(b:(Nat×dk×Sl×MH×PH->Prop)->(Nat×dk×Sl×MH×PH->Nat)->(Nat×dk×Sl×MH×PH)->Prop):Prop:=∃(x:Nat×dk×Sl×MH×PH->Prop)(d:Nat×dk×Sl×MH×PH->Nat),(∃(c:Nat×dk×Sl×MH×PH),a x c)/\∀(c:Nat×dk×Sl×MH×PH),b x d c
noncomputable abbrev tL(a:Nat×dk×Sl×MH×PH):Sl×MH×PH:=a.2.2
noncomputable abbrev fK(a:Nat×dk×Sl×MH×PH):Sl:=(tL a).1
noncomputable abbrev lY(a:Nat×dk×Sl×MH×PH):List cv:=vD a.2.1
abbrev j8(a:MH)(b:Sl×MH×PH):Prop:=iD a b.2
noncomputable abbrev fG(a:Sl×MH×PH):Nat->Option Obj:=a.2.1
noncomputable abbrev qZ(a:Nat×dk×Sl×MH×PH):Nat->Option Obj:=fG (tL a)
noncomputable abbrev eV(a:Sl×MH×PH):Nat->Nat->Option Value:=a.2.2
noncomputable abbrev oP(a:Nat×dk×Sl×MH×PH):Nat->Nat->Option Value:=eV (tL a)
abbrev O5(a b:Prop)(c:(Nat×dk×Sl×MH×PH)->Prop):Prop:=aA a b (∃(x:Nat×dk×Sl×MH×PH),c x)
abbrev ED(a:List cv)(b:Sl)(c:List cv):Prop:=Option.some (Own.lst 75 1 (eK a (aM b)))=Option.some (Own.lst 75 1 c)
abbrev xV(a b:Sl)(c:PH)(d:de->de->Prop):Prop:=TD (λx e f g=>aI (gK a b=gK x e) (bO c x f) (bO c e g) (d f g))
attribute [push_cast] HC Fm JH Fb JJ NW tL fK lY j8 fG qZ eV oP O5 ED xV
def L0(s:Sl)(m:MH)(h:PH)(K:dc):Prop:=
  HC (λC u=>aI (eW (mL s) (mL C)) (oW m h C 1 (vD u)) (Fm u.length) (∀(g:Sl),JH g 1 u (λz b o=>m b=Option.some o->z b=Option.some o) (λb=>Fb m b) (λz=>∃(A:Sl)(p:dy),aA (fP g (qU 117 uX)=fP A (qU 117 uX)) (JJ z A 1 p) (aA (∀(e:Sl×de),List.Mem e p->bO h e.1 e.2) (cW p.length) (∀(e:dy)(B:MH),aR (List.Perm e p) (List.Pairwise (fun(D:Sl×de)=>fun(q:Sl×de)=>¬(cN q.2 D.2<0)) e) (aR (JJ B A 1 e) (∀(b:Nat),(∀(i:Nat),jS (bF A.a b i))->B b=z b) (NW (λI x=>aA (I x) (aX g (fK x)) (aA (eL 35) (aX g (fK x)) (aA (cD g (fK x)) (bE x.1) (aA (pE 75 1 (lY x)) (j8 B (tL x)) (eA h (tL x).2)))))
 (λI f x=>I x->aY (↑x.1:Int) (aG (fK x)) (dN (fK x).a (↑x.1:Int) (fK x) (λb o y=>aJ (qZ x) (oP x) b (bB o x.1 1) (aM y)/\bK (↑x.1:Int) 0 (∃(d:List cv),aA (dQ 3 d) (bX (oP x) (cH y) 3 d) (aA (cW (qW d*32)) (cW (qW d)) (bQ (oP x) 3 (Dd d) (λj n=>O5 (cW (iA (lY x) 1*24)) (fN (lY x)) (λc=>aA (I c) (f c<f x) (aA (aX (fK x) (fK c)) (eL 35) (aA (aX (fK x) (fK c)) (cD (fK x) (fK c)) (aA (fJ (aW x.1 1)=bY c.1) (ED (lY x) j (lY c)) (fM (qZ x) (tL c).2 n))))))))) (dN (fK x).a (eE ((↑x.1:Int)-1)) (fK x) (λE F d=>aJ (qZ x) (oP x) E (eM F (eE ((↑x.1:Int)-1)) 1) (aM d)/\xV d y
 (oP x) (λa G=>nK (cN a G) 0 (∃(t:List cv),aA (dQ 3 t) (bX (oP x) (cH y) 3 t) (aA (cW (qW t*32)) (cW (qW t)) (bQ (oP x) 3 (Dd t) (λj n=>O5 (cW (iA (lY x) 1*24)) (fN (lY x)) (λc=>aA (I c) (f c<f x) (aA (aX (fK x) (fK c)) (eL 35) (aA (aX (fK x) (fK c)) (cD (fK x) (fK c)) (aA (fJ (aW x.1 1)=bY c.1) (ED (lY x) j (lY c)) (fM (qZ x) (tL c).2 n))))))))) (∃(c:Nat×dk×Sl×MH×PH),aA (I c) (f c<f x) (aA (aX (fK x) (fK c)) (eL 35) (aA (aX (fK x) (fK c)) (cD (fK x) (fK c)) (aA (fJ (aW x.1 1)=bY c.1) (Option.some (Own.lst 75 1 (lY x))=Option.some (Own.lst 75 1 (lY c))) (fM (qZ x) (tL c).2
 (oP x))))))))))) (bQ (oP x) 1 (lY x) (λj n=>K (mL j) (qZ x) n))))))))))
theorem vN(l:dk):dQ 1 (l.map eS):=by
 constructor
 .intro e c;obtain⟨x,_,rfl⟩:=mem_map.1 c;rfl
 .intro e c u d;obtain⟨x,_,rfl⟩:=mem_map.1 c;have:u= .slice x.a x.len x.cap:=by simpa[eS]using d
  rw[this];rfl
theorem B8(l:de):dQ 3 (l.map VV.enc):=by
 constructor
 .intro e c;obtain⟨x,_,rfl⟩:=mem_map.1 c;rfl
 .intro e c u d;obtain⟨x,_,rfl⟩:=mem_map.1 c;simp only[VV.enc,mem_cons,not_mem_nil,or_false]at d;rcases d with rfl|rfl|rfl<;>rfl
theorem Yx:cu 222 asJ:=by
 refine eR (fn:=Tryz.f222) (c:=cK Tryz.f222) func222 rfl bg ?_;rintro B m h K ⟨s,t,rfl,g,F,u⟩;obtain⟨a,n,c⟩:=s;refine⟨rT [] [] [] [] [95,1095] [] false,rfl,aF,?_⟩;cases a with
 |none=>
  show tM _ Tryz.f222 (cK Tryz.f222) (entry Tryz.f222.ntmps [.val (.slice none n c)] m h) K;rw[<-a8Q n c m h K];dsimp only[Py,push_cast]
  have e:t.map eS=[]:=by
   rcases g with g|⟨b,o,cs,E,G,e,_⟩
   .rcases g.row with e|⟨b,o,e,_⟩
    .exact e
    .cases e
   .cases e
  rw[e]at u;exact u ⟨none,0,0⟩ m ⟨⟨(λe y=>by cases y),(λe y=>by cases y)⟩,.inl ⟨rfl,rfl⟩⟩ (λb o e=>e) (λb i e=>by cases e)
 |some a=>
  show tM _ Tryz.f222 (cK Tryz.f222) (entry Tryz.f222.ntmps [.val (.slice (some a) n c)] m h) K;rw[<-a7J a n c m h K];dsimp only[Px,push_cast];intro s m' d
  have sub:∀b o,m b=some o->m' b=some o:=λb o f=>by
   rw[d.other b (λi e=>by rw[(d.fresh b i e).m_]at f;cases f)];exact f
  refine⟨[],d.row,t.map eS,vN t,g.sub sub,bj,bj,λC D z=>u C D (br z.row) (λb o f=>?_) (λb i e=>?_)⟩
  .exact z.other b o (sub b o f) (λi e=>by have e:s.a=some ⟨b,i,none⟩:=e;rw[(d.fresh b i e).m_]at f;cases f)
  .rcases z.fresh b i e with A|⟨j,A⟩
   .cases H:m b with
    |none=>rfl
    |some o=>grind
   .exact(d.fresh b j A).m_
theorem WC:cu 223 bpX:=by
 refine⟨⟨Tryz.f223,func223,rfl,bg⟩,?_⟩;rintro f e m h w K ⟨s,ps,rfl,j,n,t,u⟩ c
 obtain⟨v,d,rfl⟩:∃v d,e=[v,d]:=by
  have:=(rJ c.args).1
  match e,this with
  |[v,d],_=>grind
 have z:v=s.val:=c.args.1;have A:d= .func (.func 117) #[] #[]:=c.args.2.1;subst z A;refine Q0 (R:=λ_=>True) (g:=117) (cb:=[]) (m2:=λ_=>none) (cf:=cN) rfl c ⟨Tryz.f117,func117,rfl,bg⟩ j n (λ_ _=>trivial) t GA.swo ⟨FQ,tN,λx y=>⟨x.s,y.s,x.l,y.l,rfl,x.ok,y.ok,rfl,rfl,rfl⟩⟩ (λb o B=>by cases B) u
theorem fQ.mono{us:dk}{rs:cw}(x:fQ h us rs)(le:PH.le h h'):fQ h' us rs:=⟨x.len,λj r d=>(x.at_ j r d).imp λ_ c=>⟨c.1,bO.mono c.2 le⟩⟩
theorem fQ.nil(h:PH):fQ h [] []:=⟨rfl,λj x c=>by simp at c⟩
theorem fQ.snoc{us:dk}{rs:cw}(x:fQ h us rs){u:Sl}{r:de}(d:bO h u r):fQ h (us++[u]) (rs++[r]):=by
 refine⟨by simp[x.len],λj y c=>?_⟩;by_cases f:j<rs.length
 .rw[getElem?_append_left f]at c;obtain⟨v,g,n⟩:=x.at_ j y c
  grind
 .rw[getElem?_append_right aC]at c;have:=(bt c);simp at this;have e:j=rs.length:=by omega
  subst e;simp at c;subst c;exact⟨u,by rw[getElem?_append_right (by rw[x.len];omega),x.len];simp,d⟩
theorem fQ.rows{h:PH}{us:dk}{rs:cw}{s:Sl}(x:fQ h us rs)(c:bX h s 1 (us.map eS))(d:rs.length<=502633886983):Rows h s rs:=⟨⟨us,c,x.len.symm,x.at_⟩,d⟩
structure Z1(ps':dy)(s1:Sl)(m2:MH)(h:PH)(i:Nat)(us2:dk)(s2:Sl)(mx:MH)(hx:PH):Prop where
 s_:s2=s1
 m_:mx=m2
 le:PH.le h hx
 hi:i<=ps'.length
 hu:us2.length<=i
 ex:∃rs,fQ hx us2 rs/\nA rs/\∀x,x∈rs↔x∈(ps'.take i).map Prod.snd
theorem Nj{hx:PH}{u:Sl}{r:de}{us:dk}{Q:Sl->PH->Prop}(c:bO hx u r)(y:us.length<=502633886983)(f:∀s h',hx.le h'->bO h' s r->Q s h'):
 ∃d:List cv,dQ 3 d/\bX hx (Sl.mk u.a u.len u.cap) 3 d/\(0+d.length)*32<=140737488355328/\0+d.length<=140737488355328/\∀(s:Sl)(h':PH),hx.le h'->bX h' s 3 ([]++d)->
  ((List.map eS us).length+1)*24<=140737488355328/\(List.map eS us).length<140737488355328/\Q s h':=by
 obtain⟨e,g,j,n⟩:=c.ex;have o:=c.len;refine⟨e.map VV.enc,B8 e,g,bk,bk,λs h' le t=>⟨bk,bk,f s h' le ⟨⟨e,t,j,n⟩,o⟩⟩⟩
theorem bOX{s:Sl}{us:dk}{l:cw}(hr:oW m h s 1 (us.map eS))(F:fQ h us l)(b4:l.length<=502633886983)(hK:∀s' h',PH.le h h'->Rows h' s' (Ef l)->K (cS s') m h'):L0 s m h (oG h K):=by
 dsimp only[L0,push_cast];have b5:=F.len.symm;have b6:=F.at_;refine⟨s,us,rfl,hr,aC,λs1 m1 a0 a1 b2=>⟨s1,us.zip l,rfl,?_,λp G=>?_,bj,λc m2 d P f a2=>?_⟩⟩
 .have:(us.zip l).map (λp=>[eF p.1])=us.map eS:=by
   rw[show(λp:Sl×de=>[eF p.1])=eS∘Prod.fst from rfl, <-map_map,map_fst_zip aC]
  grind
 .obtain⟨j,C⟩:=getElem?_of_mem G;rw[getElem?_zip_eq_some]at C
  grind
 .have b7:c.length=us.length:=by rw[d.length_eq];simp;omega
  have Q:=cT.slen f;simp only[length_map]at Q
  have R:∀{i:Nat}{p:Sl×de},c[i]? =some p->bO h p.1 p.2:=fun{i p} G=>by
   have:=d.mem_iff.1 (bx G);obtain⟨j,C⟩:=getElem?_of_mem this;rw[getElem?_zip_eq_some]at C
   grind
  have b3:∀x,x∈c.map Prod.snd↔x∈l:=λx=>by
   rw[(d.map Prod.snd).mem_iff,map_snd_zip aC]
  have H:∀b o,m b=some o->m2 b=some o:=λb o hb=>by
   grind
  refine⟨λx=>Z1 c s1 m2 h x.1 x.2.1 x.2.2.1 x.2.2.2.1 x.2.2.2.2,λx=>c.length-x.1,⟨(0,[],s1,m2,h),⟨rfl,rfl,.refl _,bf,bf,[],.nil h,.nil,bf⟩,MT⟩,?_⟩;rintro⟨i,n,I,J,S⟩ ⟨e1,e2,le,hi,a3,rs,u,L,D⟩;dsimp only at e1 e2 le hi a3 u;subst e1 e2;refine aE (λT=>?_) (λa4=>?_)
  .dsimp only at T;have U:i<c.length:=by omega
   obtain⟨p,G⟩:∃p,c[i]? =some p:=⟨_,bu U⟩
   obtain⟨b,e1,r1⟩:=f.rd (h:=S) (i:=i) (e:=eS p.1) (by simp[G];rfl);have M:=bO.mono (R G) le
   have a5:∀x,x∈(c.take (i+1)).map Prod.snd↔x∈(c.take i).map Prod.snd\/x=p.2:=λx=>by
    rw[cj,G];simp
   have V:(∀y∈rs,cN y p.2<0)->∀(s:Sl)(h':PH),S.le h'->bO h' s p.2->Z1 c I J h (i+1) (n++[s]) I J h':=λhc s h' g A=>by
    refine⟨rfl,rfl,le.trans g,aC,bj,rs++[p.2],(u.mono g).snoc A,pairwise_append.2 ⟨L,bf,λy O z hz=>?_⟩,λx=>?_⟩
    .grind
    grind
   have keep:p.2∈rs->Z1 c I J h (i+1) n I J S:=λhc=>
    ⟨rfl,rfl,le,aC,aC,rs,u,L,λx=>bk⟩
   refine⟨b,0,e1,aC,T,p.1,by simpa[eS]using r1,aB (λh0=>?_) (λh0=>?_)⟩
   .have h0:i=0:=bk
    subst h0
    have b8:rs=[]:=by
     cases rs with
     |nil=>rfl
     |cons y _=>have:=(D y).1 bf;simp at this
    exact Nj M bk (λs h' g A=>⟨(0+1,n++[s],I,J,h'),V bk s h' g A,bk,rfl,rfl,rfl,rfl,rfl,by simp[eS],rfl,rfl,trivial⟩)
   .have h0:i≠0:=bk
    have hw:IntKind.i64.wrap ((i:Int)-1)=((i-1:Nat):Int):=by rw[dO aC aC];omega
    obtain⟨q,W⟩:∃q,c[i-1]? =some q:=⟨_,bu aC⟩
    obtain⟨b',a6,a7⟩:=f.rd (h:=S) (i:=i-1) (e:=eS q.1) (by simp[W];rfl);have a8:=bO.mono (R W) le
    have X:q.2∈rs:=by
     rw[D];refine mem_map.2 ⟨q,?_,rfl⟩;exact mem_of_getElem? (i:=i-1) bk
    have B:∀y∈rs,cN y q.2<=0:=λy O=>by
     rw[D]at O;obtain⟨z,hz,rfl⟩:=mem_map.1 O;obtain⟨j,C⟩:=getElem?_of_mem hz;have a9:=(bt C);simp only[length_take]at a9;rw[getElem?_take,if_pos aC]at C;by_cases e:j=i-1
     .subst e;rw[W]at C;cases C;have:=kL q.2 q.2;omega
     .have h1:=pairwise_iff_getElem.1 P j (i-1) aC aC aC;rw[(List.getElem?_eq_some_iff.1 C).2,(List.getElem?_eq_some_iff.1 W).2]at h1;have:=kL z.2 q.2;omega
    have Y:cN q.2 p.2<=0:=by
     have h1:=pairwise_iff_getElem.1 P (i-1) i aC aC aC;rw[(List.getElem?_eq_some_iff.1 G).2,(List.getElem?_eq_some_iff.1 W).2]at h1;have:=kL q.2 p.2;omega
    dsimp only;rw[hw];refine⟨b',0,a6,aC,aC,q.1,by simpa[eS]using a7,q.1,p.1,q.2,p.2,rfl,a8,M,aB (λb0=>?_) (λZ=>?_)⟩
    .have b0:cN q.2 p.2≠0:=bk
     refine Nj M aC (λs h' g A=>⟨(i+1,n++[s],I,J,h'),V (λy O=>?_) s h' g A,aC,rfl,rfl,rfl,rfl,by rw[jG aC],by simp[eS],rfl,rfl,trivial⟩);have t:=zY y q.2 p.2 (B y O) Y;by_cases e:cN y p.2=0
     .have:=GA.zero (B y O) Y e;omega
     .omega
    .have Z:cN q.2 p.2=0:=bk
     exact⟨(i+1,n,I,J,S),keep (by rw[<-gT.1 Z];exact X),aC,rfl,rfl,rfl,rfl,by rw[jG aC],rfl,rfl,rfl,trivial⟩
  .intro s3 h3 E a';dsimp only at a4 a' E;have b1:i=c.length:=by omega
   subst b1;rw[take_length]at D;have e:rs=Ef l:=aaJ L (λx=>bk);subst e;have hl:=u.len;exact⟨m,h3,H,le.trans E,.refl _,hK s3 h3 (le.trans E) ((u.mono E).rows a' aC)⟩
theorem II:cu 200 bVZ:=by
 refine KC func200 ?_;rintro c m h K ⟨s,j,l,rfl,d,e,f,g⟩;refine⟨baQ,rfl,aD Yx (aD WC (aD tN aF)),L0 s m h (oG h K),be,?_⟩;exact bOX d e f g
end Go.Ps
namespace Go.Vc
open Go List
section
variable{B:rL}{C:Ctx}{ι:dj}{σ:St}{a:Act}{w:World}{o:Oper}{K:St->Prop}
def Qr(ι:dj)(σ:St)(b:Nat):Prop:=σ.m b≠none\/∃k o,nth σ.own k=some (some o)/\blk (ι k)=some b
def reB(ι:dj)(σ:St)(ds:List Deferred)(w:World):rL:=⟨w,Qr ι σ,σ.h,ds⟩
theorem aK.rebase(c:aK B ι σ a w):aK (reB ι σ a.defers w) ι σ a w:=by
 have f:=c.wrel;refine⟨c.slots,rfl,c.own,c.dist,λk o b g d=>?_,?_,c.one⟩
 .obtain⟨_,j,n⟩:=c.fresh k o b g d;exact⟨.inr (.inr ⟨k,o,g,d⟩),j,n⟩
 .exact⟨rfl,rfl,rfl,Nat.le_refl _,Nat.le_refl _,λ_ _ _=>rfl,f.hsat,f.msat,f.disj,λ_ _ _ e=>e,λ_ _ _=>rfl,
   λb o d=>.inr (.inl (by rw[d];simp))⟩
theorem aK.mine(c:aK B ι σ a w){b:Nat}(h:Qr ι σ b):(B.w0.heap.size<=b\/B.E b)/\b<w.heap.size/\∀i,σ.h b i=none:=by
 rcases h with h|⟨k,o,f,g⟩
 .cases e:σ.m b with
  |none=>grind
  |some d=>exact⟨c.wrel.mfr b d e,(Array.getElem?_eq_some_iff.1 (c.wrel.msat b d e)).1,c.wrel.disj b d e⟩
 .obtain⟨j,_,n⟩:=c.fresh k o b f g;exact⟨j,qG (c.own k o f) g,n⟩
theorem aK.unbase(u:aK B ι σ a w){ds:List Deferred}{y:dj}{τ:St}{z:Act}{w':World}(h:aK (reB ι σ ds w) y τ z w'):aK {B with dfs:=ds} y τ z w':=by
 have d:=u.wrel;have c:=h.wrel
 have j:∀b,(w.heap.size<=b\/Qr ι σ b)->B.w0.heap.size<=b\/B.E b:=λb f=>by
  rcases f with n|n
  .exact .inl (cr d.size n)
  .exact(u.mine n).1
 refine⟨h.slots,h.defers,h.own,h.dist,λk o b A f=>?_,?_,h.one⟩
 .obtain⟨D,F,G⟩:=h.fresh k o b A f;exact⟨j b D,F,G⟩
 .have H:w.heap.size<=w'.heap.size:=c.size;refine⟨c.tape.trans d.tape,c.os.trans d.os,c.output.trans d.output,cr d.drawn c.drawn,cr d.size H,?_,c.hsat,c.msat,c.disj,λb i v e=>c.hle b i v (d.hle b i v e),?_,λb o f=>j b (c.mfr b o f)⟩
  .intro b f g
   have t:¬Qr ι σ b:=λI=>by
    grind
   have:=c.frame b (ct f d.size) t;rw[this];exact d.frame b f g
  .intro b f g
   have t:¬Qr ι σ b:=λI=>by
    grind
   have:τ.h b=σ.h b:=c.hold b (ct f d.size) t;rw[this];exact d.hold b f g
theorem aK.grown(g:aK B ι σ a w){w':World}{row:Option Nat}(u:w.grownBy w' row)(y:w.drawn<=w'.drawn)(j:∀r,row=some r->B.w0.heap.size<=r/\¬Qr ι σ r/\∃ob:Obj,w.heap[r]? =some ob/\ob.isCells=false):aK B ι σ a w':=by
 have c:=g.wrel;have f:∀b,b<w.heap.size->(∀r,row=some r->b≠r)->w'.heap[b]? =w.heap[b]? :=λb d n=>u.block b d (λe=>n b e.symm rfl);have mine:∀b,Qr ι σ b->w'.heap[b]? =w.heap[b]? :=λb d=>f b (g.mine d).2.1 (λr e h=>(j r e).2.1 (h▸d));refine⟨g.slots,g.defers,λk o F=>(g.own k o F).world (λb d=>mine b (.inr ⟨k,o,F,d⟩)),g.dist,g.fresh,?_,g.one⟩;refine⟨u.tape.trans c.tape,u.os.trans c.os,u.output.trans c.output,cr c.drawn y,cr c.size u.size,?_,?_,?_,c.disj,c.hle,c.hold,c.mfr⟩
 .intro b d z;rw[f b (ct d c.size) (λr e h=>bk)];exact c.frame b d z
 .intro b i v G;have t:=c.hsat b i v G;have A:b<w.heap.size:=World.block_lt_of_cell? w ⟨b,i,none⟩ t
  have n:∀r,row=some r->b≠r:=λr e h=>by
   obtain⟨_,_,ob,D,E⟩:=j r e;unfold World.cell? at t;rw[h]at t;dsimp only at t;rw[D]at t;cases ob<;>simp[Obj.isCells]at E t
  rw[World.cell?_of_block (w:=w) (w':=w') (a:=⟨b,i,none⟩) (f b A n)];exact t
 .intro b o d;rw[mine b (.inl (by rw[d];simp))];exact c.msat b o d
def uA:Code->Bool
 |.skip=>true
 |.ret=>true
 |.exit _=>true
 |.region _ c _=>c.toList.all λo=>match o.op with|.defer _=>false|_=>true
 |.seq x y=>uA x&&uA y
 |.cond _ x y=>uA x&&uA y
 |.block _ x=>uA x
 |.loop x=>uA x
 |_=>false
def Plain(ops:Array Oper):Prop:=∀(i:Nat)(o:Oper),ops[i]? =some o->∀c,o.op≠ .defer c
theorem Vm{ops:Array Oper}(h:(ops.toList.all λo=>match o.op with|.defer _=>false|_=>true)=true):Plain ops:=by
 intro i o d c e
 grind
theorem Ab(l:Nat){P:Program}{ops:Array Oper}(c:Plain ops){Q:Exit->Act->World->Prop}:∀(L:dq)(a:Act)(w:World),wpOpsIn Fence.wide 0 P ops Q L a w->wpOpsIn (Fence.wide.inRound l) 0 P ops Q L a w
 |[],_,_,h=>h
 |i::L,a,w,h=>by
  unfold wpOpsIn at h⊢
  cases d:ops[i]? with
  |none=>rw[d]at h;exact Ab l c L a w h
  |some o=>
   rw[d]at h;dsimp only at h⊢
   split
   .rename_i e;rw[if_pos e]at h;exact Im l (c i o d) (Oper.wpIn_mono (λa w=>Ab l c L a w) h)
   .rename_i e;rw[if_neg e]at h;exact⟨λ_ _=>trivial,Ab l c L _ _ h.2⟩
theorem CF(l:Nat){P:Program}{g:Region.Mode}{ops:Array Oper}(c:Plain ops){Q:Exit->Act->World->Prop}(d:¬LetsOut Q):∀(n:Nat)(L:Array Bool)(a:Act)(w:World),wpAny P g ops Q n L a w->wpAnyIn (Fence.wide.inRound l) 0 P g ops Q n L a w
 |0,_,_,_,h=>h
 |n+1,L,a,w,h=>by
  refine⟨h.1,λi t=>?_⟩;have:=h.2 i t;unfold wpOp at this;unfold wpOpIn;cases e:ops[i]? with
  |none=>rw[e]at this;exact CF l c d n _ _ _ this
  |some o=>
   rw[e]at this;dsimp only at this⊢
   split
   .rename_i f;rw[if_pos f]at this;rcases this with j|j
    .exact Im l (c i o e) (Oper.wpIn_mono (λa w=>CF l c d n _ a w) (Oo j))
    grind
   .rename_i f;rw[if_neg f]at this;exact⟨λ_ _=>trivial,CF l c d n _ _ _ this⟩
theorem FF{F:Fence}{n:Nat}{P:Program}{Q:Exit->Act->World->Prop}{a:Act}{w:World}{c:Code}(I:Nat->Act->World->Prop)(u:Nat)(z:I u a w)
 (d:∀k a w,I k a w->c.wpIn F n P (Exit.then (λy w'=>∃g,g<k/\I g y w') Q) a w):(Code.loop c).wpIn F n P Q a w:=by
 refine wpIn_loop (λa w=>∃k,I k a w) (λa w=>leastOf (λk=>I k a w)) ⟨u,z⟩ ?_;intro a w A;refine wpIn_mono (d _ a w (leastOf_spec A).1) ?_;intro e y w' j;cases e with
 |normal=>
  obtain⟨g,t,f⟩:=j;exact⟨⟨g,f⟩,Nat.lt_of_le_of_lt ((leastOf_spec ⟨g,f⟩).2 g f) t⟩
 |exit id=>exact j
 |ret=>exact j
 |goto l=>exact j
 |panic D=>exact j
 |outgrown=>exact j
theorem QX(l:Nat)(F:∀g S,assoc C.specs g=some S->Sound C.P g S):∀(c:Code),uA c=true->∀(σ:St)(Q:AZ->St->Prop)(ι:dj)(a:Act)(w:World),aK B ι σ a w->VC C c σ Q->c.wpIn (Fence.wide.inRound l) 0 C.P (QD B Q) a w:=by
 intro c
 induction c with
 |skip=>intro u σ Q ι a w z h;exact wpIn_skip ⟨ι,σ,z,h⟩
 |label l=>intro u;cases u
 |exit id=>intro u σ Q ι a w z h;exact wpIn_exit ⟨ι,σ,z,h⟩
 |ret=>intro u σ Q ι a w z h;exact wpIn_ret ⟨ι,σ,z,h⟩
 |goto l=>intro u;cases u
 |refuse a9=>intro u;cases u
 |scope a8 ih=>intro u;cases u
 |rangeFunc f ps x y G W=>intro u;cases u
 |region id ops a3=>
  intro u σ Q ι a w z h;cases a3 with
  |false=>
   refine wpIn_region (Ab l (Vm u) _ _ _ ?_);have:=Lp F (ops:=ops) (Q:=Q) (Lo C id) ops.toList 0 ι σ a w (λj=>bf) z h;rw[range_eq_range'];omega
  |true=>
   simp only[VC]at h;split at h
   .rename_i h1 h2 h3;have a5:=aXQ h1 h2;refine wpIn_region_any h3 (CF l (Vm u) (λ⟨_,_,e⟩=>e) _ _ _ _ ?_);refine SP F a5 (Q:=QD B Q) (R:=Q .normal) (λι σ a w z h=>⟨ι,σ,z,h⟩) (λc a w h=>h) ops.size ops.size _ ι σ a _ (z.drew (w.drawn+1) (Nat.le_succ _)) h _ a ?_ ?_
    .have U:∀i,(Array.replicate ops.size false).getD i false=true->False:=by
      intro i H;by_cases E:i<ops.size
      .simp[Array.getD,E]at H
      grind
     exact⟨bf,bf,λi H=>H,λi o _ H=>(U i H).elim,λi o _ H=>(U i H).elim,λi o _ H=>(U i H).elim,rfl,rfl,λt _=>rfl,λi o _ H=>(U i H).elim⟩
    .unfold vM;rw[filter_eq_self.2]
     .simp
     .intro i H;by_cases E:i<ops.size<;>simp[Array.getD,E]
   grind
 |seq x y G W=>
  intro u σ Q ι a w z h;obtain⟨J,a4⟩:=Bool.and_eq_true_iff.1 u;simp only[VC]at h;split at h
  .obtain⟨h,D⟩:=h;refine wpIn_seq (wpIn_mono (G J σ _ ι a w z h) ?_);intro e O T d;cases e with
   |normal=>
    obtain⟨V,σ',A,x,hx,X⟩:=d;show y.wpIn (Fence.wide.inRound l) 0 C.P (QD B Q) O T;obtain⟨ι2,L,_⟩:=lK A X
    grind
   |exit id=>exact d
   |ret=>exact d
   |goto l=>exact d
   |panic ch=>exact d
   |outgrown=>exact d
  .split at h
   .obtain⟨I,h,D⟩:=h;refine wpIn_seq (wpIn_mono (G J σ _ ι a w z h) ?_);intro e O T d;cases e with
    |normal=>
     obtain⟨V,σ',A,X⟩:=d;show y.wpIn (Fence.wide.inRound l) 0 C.P (QD B Q) O T;obtain⟨x,ι2,hx,L⟩:=AQ A X
     grind
    |exit id=>exact d
    |ret=>exact d
    |goto l=>exact d
    |panic ch=>exact d
    |outgrown=>exact d
   .refine wpIn_seq (wpIn_mono (G J σ _ ι a w z h) ?_);intro e O T d;cases e with
    |normal=>
     obtain⟨V,σ',A,h'⟩:=d;show y.wpIn (Fence.wide.inRound l) 0 C.P (QD B Q) O T
     grind
    |exit id=>exact d
    |ret=>exact d
    |goto l=>exact d
    |panic ch=>exact d
    |outgrown=>exact d
 |cond c x y G W=>
  intro u σ Q ι a w z h;obtain⟨J,a4⟩:=Bool.and_eq_true_iff.1 u;simp only[VC]at h;split at h
  .rename_i t hc;have M:=z.ev c;rw[hc]at M;have M:a.eval c= .bool t:=M;rcases tQ h with⟨rfl,h⟩|⟨rfl,h⟩
   .exact wpIn_cond_true M (G J _ Q ι a w (z.setTmp hc) h)
   .exact wpIn_cond_false M (W a4 _ Q ι a w (z.setTmp hc) h)
  grind
 |block id c ih=>
  intro u σ Q ι a w z h;refine wpIn_block (wpIn_mono (ih u σ _ ι a w z h) ?_);intro e O T d;cases e with
  |normal=>exact d
  |exit i=>
   obtain⟨V,σ',A,h'⟩:=d;show if i=id then _ else _
   simp only at h';split at h'
   .rename_i hb;rw[if_pos (ci hb)];exact⟨V,σ',A,h'⟩
   .rename_i hb;rw[if_neg (λe=>by subst e;simp at hb)];exact⟨V,σ',A,h'⟩
  |ret=>exact d
  |goto l=>exact d
  |panic ch=>exact d
  |outgrown=>exact d
 |loop c ih=>
  intro u σ Q ι a w z h;simp only[VC]at h;split at h
  .rename_i Y hl;obtain⟨⟨x,hx,X⟩,D⟩:=h;obtain⟨ι2,L,_⟩:=lK z X;refine FF (λn a w=>∃x ι,Y.inv x/\Y.mu x=n/\aK B ι (Y.st x) a w) (Y.mu x) ⟨x,ι2,hx,rfl,L⟩ ?_;rintro n O T ⟨x',V,Z,rfl,A⟩;refine wpIn_mono (ih u _ _ V O T A (D x' Z)) ?_;intro e a6 a7 d;cases e with
   |normal=>
    obtain⟨ι3,σ3,a0,y,hy,E,a1⟩:=d;obtain⟨ι4,a2,_⟩:=lK a0 a1;exact⟨Y.mu y,E,y,ι4,hy,rfl,a2⟩
   |exit id=>exact d
   |ret=>exact d
   |goto l=>exact d
   |panic ch=>exact d
   |outgrown=>exact d
  .split at h
   .rename_i Y hl;obtain⟨I,mu,X,D⟩:=h;obtain⟨x,ι2,hx,L⟩:=AQ z X;refine FF (λn a w=>∃x ι,I x/\mu x=n/\aK B ι (Y.st x) a w) (mu x) ⟨x,ι2,hx,rfl,L⟩ ?_;rintro n O T ⟨x',V,Z,rfl,A⟩;refine wpIn_mono (ih u _ _ V O T A (D x' Z)) ?_;intro e a6 a7 d;cases e with
    |normal=>
     obtain⟨ι3,σ3,a0,a1⟩:=d;obtain⟨y,ι4,hy,E,a2⟩:=Nl a0 a1;exact⟨mu y,E,y,ι4,hy,rfl,a2⟩
    |exit id=>exact d
    |ret=>exact d
    |goto l=>exact d
    |panic ch=>exact d
    |outgrown=>exact d
   grind
end
end Go.Vc
namespace Go.Vc
open Go List
def rO:Code->Bool
 |.seq x y=>rO x||rO y
 |.cond _ x y=>rO x||rO y
 |.block _ x=>rO x
 |.loop x=>rO x
 |.scope x=>rO x
 |.rangeFunc .. =>true
 |_=>false
structure YDo(P:Program)(l:Nat)(vs:cv)(m:MH)(h:PH)(R:Bool->MH->PH->Prop):Prop where
 go:∀w,Xt w m h->∃fn tmps assign body,(Instr.yield l vs.toArray).run P w= .ok (.round l fn tmps assign body) w/\
  RoundIn Fence.wide 0 P l fn tmps assign body w λe w'=>∃u m' h',e= .returned (.bool u)/\R u m' h'/\Qu w m h m' h' w'
def boQ(P:Program):Spec:=λc m h K=>∃(l:Nat)(d:cv)(R:Bool->MH->PH->Prop),c= .val (.func (.yield l) #[] #[])::d.map .val/\YDo P l d m h R/\∀u m' h',R u m' h'->K (.val (.bool u)) m' h'
theorem MV:∀{l c:cv},l.map CV.val=c.map CV.val->l=c
 |[],[],_=>rfl
 |a::l,b::c,h=>by
  simp only[map_cons,List.cons.injEq,CV.val.injEq]at h;rw[h.1,MV h.2]
 |[],_::_,h=>by simp at h
 |_::_,[],h=>by simp at h
theorem On(P:Program):Mw P (boQ P):=⟨λl H m h w K⟨I,g,R,d,j,n⟩ t=>by
 simp only[List.cons.injEq,CV.val.injEq,Value.func.injEq,Fn.yield.injEq,and_true]at d;obtain⟨rfl,d⟩:=d;rw[MV d];obtain⟨y,c,f,z,A,D⟩:=j.go w t;exact⟨y,c,f,z,A,D.mono λe J⟨u,m',h',E,F,G⟩=>⟨_,m',h',E,n u m' h' F,G⟩⟩⟩
def btZ(P:Program)(Src:PH->cv->List cv->Prop):Spec:=λd m h K=>∃(l:Nat)(c:cv)(xs:List cv)(J:Nat->MH->PH->Prop),
 d= .val (.func (.yield l) #[] #[])::c.map .val/\Src h c xs/\J 0 m h/\
 (∀k e m' h',xs[k]? =some e->PH.le h h'->J k m' h'->YDo P l e m' h' (λr g f=>r=true/\PH.le h' f/\J (k+1) g f))/\
 ∀r m' h',PH.le h h'->J xs.length m' h'->K r m' h'
structure IY(P:Program)(g:FuncId)(Src:PH->cv->List cv->Prop):Prop where
 sound:Sound P g (btZ P Src)
def Rk:SV->SV
 |.at (.val v)=>.at (.val v)
 |.agg cs=>match vL cs with|some _=>.agg cs|none=>.at .junk
 |_=>.at .junk
def Vu:Option Own->Option Own:=λ_=>none
def blank(σ:St)(m:MH)(h:PH):St:={sl:=σ.sl.map Rk,own:=σ.own.map Vu,m:=m,h:=h}
def Ts(l:ej):eo->ej
 |[]=>l
 |(p,x)::r=>Ts (l.set p x) r
def abJ(σ:St)(es:eo)(m:MH)(h:PH):St:={sl:=Ts (σ.sl.map Rk) es,own:=σ.own.map Vu,m:=m,h:=h}
def Nz(C:Ctx)(x y:Code)(σ:St)(es:eo)(m:MH)(h:PH)(R:MH->PH->Prop):Prop:=
 VC C x (abJ σ es m h) (λc τ=>match c with
  |.normal=>VC C y τ (λc υ=>match c with
   |.normal=>R υ.m υ.h
   |_=>False)
  |_=>False)
def X2(C:Ctx)(f:Operand)(ps:Array Tmp)(x y:Code)(σ:St)(K:St->Prop):Prop:=
 match σ.ev f,uA x&&uA y with
 |.at (.val (.func (.func g) d cs)),true=>match d.toList with
  |[]=>match ps.toList,C.elemT with
   |[p],[T]=>∃(Src:PH->cv->List cv->Prop)(xs:List (C.dec T).X)(I:Nat->MH->PH->Prop),IY C.P g Src/\Src σ.h cs.toList (xs.map λx=>[valOf C.P T ((C.dec T).enc x)])/\I 0 σ.m σ.h/\
    (∀(k:Nat)(e:(C.dec T).X)(m:MH)(h:PH),xs[k]? =some e->PH.le σ.h h->I k m h->Nz C x y σ [(p,mk C.P T (((C.dec T).enc e).map .val))] m h (I (k+1)))/\
    ∀(m:MH)(h:PH),PH.le σ.h h->I xs.length m h->K (blank σ m h)
   |[p,q],[T,U]=>∃(Src:PH->cv->List cv->Prop)(xs:List ((C.dec T).X×(C.dec U).X))(I:Nat->MH->PH->Prop),IY C.P g Src/\Src σ.h cs.toList (xs.map λx=>[valOf C.P T ((C.dec T).enc x.1),valOf C.P U ((C.dec U).enc x.2)])/\I 0 σ.m σ.h/\
    (∀(k:Nat)(e:(C.dec T).X)(c:(C.dec U).X)(m:MH)(h:PH),xs[k]? =some (e,c)->PH.le σ.h h->I k m h->Nz C x y σ [(p,mk C.P T (((C.dec T).enc e).map .val)),(q,mk C.P U (((C.dec U).enc c).map .val))] m h (I (k+1)))/\
    ∀(m:MH)(h:PH),PH.le σ.h h->I xs.length m h->K (blank σ m h)
   |_,_=>False
  |_=>False
 |_,_=>False
def VCF(C:Ctx):Code->St->(AZ->St->Prop)->Prop
 |.rangeFunc f ps x y,σ,Q=>X2 C f ps x y σ (Q .normal)
 |.seq a b,σ,Q=>match rO a||rO b with
  |false=>VC C (.seq a b) σ Q
  |true=>match P5 C b with
   |some c=>∃I:c.A->Prop,VCF C a σ (λe τ=>match e with
    |.normal=>Jm c I τ
    |e=>Q e τ)/\∀x,I x->VCF C b (c.st x) Q
   |none=>VCF C a σ (λe τ=>match e with
    |.normal=>VCF C b τ Q
    |e=>Q e τ)
 |.block id c,σ,Q=>match rO c with
  |false=>VC C (.block id c) σ Q
  |true=>VCF C c σ (λe τ=>match e with
   |.exit i=>match Nat.beq i id with|true=>Q .normal τ|false=>Q (.exit i) τ
   |e=>Q e τ)
 |.cond c x y,σ,Q=>match rO x||rO y with
  |false=>VC C (.cond c x y) σ Q
  |true=>match σ.ev c with
   |.at (.val (.bool t))=>branch t (VCF C x (setTmp σ c true) Q) (VCF C y (setTmp σ c false) Q)
   |_=>False
 |c,σ,Q=>VC C c σ Q
def byX(C:Ctx)(σ:St):List ResultVar->(cv->Prop)->Prop
 |[],K=>K []
 |.cell t T::r,K=>match nth σ.sl t,iU C.P T with
  |some (.at (.val (.pointer (some ⟨b,c,none⟩)))),true=>bmQ C T (aJ σ.m σ.h b c) λl=>match(mk C.P T (l.map .val)).val? with
   |some v=>byX C σ r (λrs=>K (v::rs))
   |none=>False
  |_,_=>False
 |_::_,_=>False
def Lu(C:Ctx)(fn:Func)(K:dc)(σ:St):Prop:=
 match Iv C σ fn.results.toList with
 |some _=>DR C fn K σ
 |none=>byX C σ fn.results.toList λrs=>match rs with
  |[r]=>K (.val r) σ.m σ.h
  |rs=>K (.tup (rs.map .val)) σ.m σ.h
def afZ(C:Ctx)(fn:Func)(c:Code)(σ:St)(K:dc):Prop:=
 VCF C c σ (λe τ=>match e with
  |.normal=>Lu C fn K τ
  |.ret=>Lu C fn K τ
  |_=>False)
section
variable{B:rL}{C:Ctx}{ι:dj}{σ:St}{a:Act}{w:World}{K:St->Prop}
theorem azZ{ι d:dj}{x:SV}{v:Value}(h:Dnt ι x v):Dnt d (Rk x) v:=by
 cases x with
 |agg cs=>
  simp only[Rk];split
  .rename_i l e;obtain⟨f,rfl,c⟩:=h;rw[DQ e]at c⊢
   exact⟨f,rfl,by rw[iM.vals]at c⊢;exact c⟩
  .trivial
 |tup xs=>trivial
 |_ y=>cases y<;>first|exact h|trivial
theorem Gr{ι c:dj}:∀{xs:ej}{vs:cv},DenS ι xs vs->DenS c (xs.map Rk) vs
 |[],[],_=>trivial
 |_::_,_::_,h=>⟨azZ h.1,Gr h.2⟩
 |[],_::_,h=>h.elim
 |_::_,[],h=>h.elim
theorem GP(l:eb)(k:Nat)(o:Own):nth (l.map Vu) k=some (some o)->False:=by
 rw[Bo];cases nth l k<;>simp[Vu]
theorem aK.blank'{B:rL}{sl:ej}{l:eb}{m:MH}{h:PH}{a:Act}{w:World}(d:DenS (λ_=>.slice none 0 0) sl a.tmps.toList)(e:a.defers=B.dfs)(f:xC B m h w):
 aK B (λ_=>.slice none 0 0) {sl:=sl,own:=l.map Vu,m:=m,h:=h} a w:=
 ⟨d,e,λk o c=>(GP l k o c).elim,λk _ o _ _ c=>(GP l k o c).elim,λk o _ c=>(GP l k o c).elim,f,λ_=>rfl⟩
def Cj(D:Nat):Deferred:={target:=.collected D,args:= #[]}
structure MM(B:rL)(ds:dq)(ι:dj)(σ:St)(a:Act)(w:World):Prop where
 mod:aK {B with dfs:=ds.map Cj} ι σ a w
 size:∀D∈ds,B.w0.heap.size<=D
 mine:∀D∈ds,¬Qr ι σ D
 mark:∀D∈ds,w.heap[D]? =some (.deferred (some []))
 nodup:ds.Nodup
def QM(B:rL)(Q:AZ->St->Prop):Exit->Act->World->Prop
 |.normal,a,w=>∃c ι σ,MM B c ι σ a w/\Q .normal σ
 |.exit id,a,w=>∃c ι σ,MM B c ι σ a w/\Q (.exit id) σ
 |.ret,a,w=>∃c ι σ,MM B c ι σ a w/\Q .ret σ
 |_,_,_=>False
theorem MM.step{ds:dq}(c:MM B ds ι σ a w){f:dj}{τ:St}{g:Act}{w':World}(h:aK (reB ι σ (ds.map Cj) w) f τ g w'):MM B ds f τ g w':=by
 have j:∀D∈ds,D<w.heap.size:=λD d=>(Array.getElem?_eq_some_iff.1 (c.mark D d)).1;refine⟨?_,c.size,λD d n=>?_,λD d=>?_,c.nodup⟩
 .exact c.mod.unbase (ds:=ds.map Cj) h
 .rcases(h.mine n).1 with e|e
  .have e:w.heap.size<=D:=e
   grind
  .exact c.mine D d e
 .rw[h.wrel.frame D (j D d) (c.mine D d)];exact c.mark D d
theorem MM.here{ds:dq}(c:MM B ds ι σ a w):aK (reB ι σ (ds.map Cj) w) ι σ a w:=by
 have:=c.mod.rebase;rw[c.mod.defers]at this;exact this
theorem MM.of_QD{ds:dq}(g:MM B ds ι σ a w){Q:AZ->St->Prop}{e:Exit}{j:Act}{w':World}(h:QD (reB ι σ (ds.map Cj) w) Q e j w'):QM B Q e j w':=by
 cases e with
 |normal=>obtain⟨c,τ,d,f⟩:=h;exact⟨ds,c,τ,g.step d,f⟩
 |exit id=>obtain⟨c,τ,d,f⟩:=h;exact⟨ds,c,τ,g.step d,f⟩
 |ret=>obtain⟨c,τ,d,f⟩:=h;exact⟨ds,c,τ,g.step d,f⟩
 |goto l=>exact h.elim
 |panic n=>exact h.elim
 |outgrown=>exact h.elim
theorem MM.retag{ds:dq}(d:MM B ds ι σ a w){c:dj}{τ:St}(h:aK (reB ι σ (ds.map Cj) w) c τ a w):MM B ds c τ a w:=d.step h
theorem CL(d:∀g S,assoc C.specs g=some S->Sound C.P g S){ds:dq}(e:MM B ds ι σ a w){c:Code}{Q:AZ->St->Prop}(h:VC C c σ Q):c.wp C.P (QM B Q) a w:=
 wp_mono (I0 d c σ Q ι a w e.here h) (λ_ _ _ f=>e.of_QD f)
theorem OB{ι:dj}:∀{es:eo}{vs:cv}{sl:ej}{c:Array Value},DenS ι (es.map (·.2)) vs->DenS ι sl c.toList->
 DenS ι (Ts sl es) (((es.map (·.1)).zip vs).foldl (λc(p,v)=>c.setIfInBounds p v) c).toList
 |[],[],_,_,_,h=>h
 |(p,x)::es,v::vs,sl,c,h,d=>by
  refine OB (es:=es) (vs:=vs) h.2 ?_;rw[Array.toList_setIfInBounds];exact d.set p h.1
 |[],_::_,_,_,h,_=>h.elim
 |_::_,[],_,_,h,_=>h.elim
def Bn(fn:FuncId)(tmps:Array Value)(ps:Array Tmp)(x y:Code)(D:Nat)(st:LoopState):Loop:={state:=st,pending:=none,fn:=fn,tmps:=tmps,params:=ps,assign:=x,body:=y,defers:=D}
theorem OU{w:World}{l i:Nat}{r:Loop}(h:w.heap[l]? =some (.loop r)):w.cell? ⟨l,i,none⟩=none:=by
 unfold World.cell?
 grind
theorem Vd(A:∀g S,assoc C.specs g=some S->Sound C.P g S){tmps:Array Value}{x y:Code}(hx:uA x=true)(hy:uA y=true)(b3:DenS ι σ.sl tmps.toList)
 {es:eo}{vs:cv}{ps:Array Tmp}(a5:ps.toList=es.map (·.1))(a6:DenS (λ_=>.slice none 0 0) (es.map (·.2)) vs)
 {fn:FuncId}{D l:Nat}{m0 mm:MH}{h0:PH}(b4:m0 l=none)(c2:∀b,b≠l->mm b=m0 b)(b5:mm l=some (.loop (Bn fn tmps ps x y D .ready))){R:MH->PH->Prop}
 (hV:Nz C x y σ es m0 h0 R)(w:World)(hH:Xt w mm h0):
 ∃a7 J assign body,(Instr.yield l vs.toArray).run C.P w= .ok (.round l a7 J assign body) w/\
  RoundIn Fence.wide 0 C.P l a7 J assign body w λex w'=>∃u m' h',ex= .returned (.bool u)/\(u=true/\PH.le h0 h'/\∃m2,m2 l=none/\(∀b,b≠l->m' b=m2 b)/\m' l=some (.loop (Bn fn tmps ps x y D .ready))/\R m2 h')/\Qu w mm h0 m' h' w':=by
 have hl:=hH.msat l _ b5;have b6:=(Array.getElem?_eq_some_iff.1 hl).1
 have a8:vs.length=ps.size:=by
  have n:=a6.length;rw[length_map]at n;rw[<-Array.length_toList,a5,length_map,n]
 refine⟨_,_,_,_,run_yield hl (by simpa[Bn]using a8),roundIn_of_wpIn trivial ?_⟩;obtain⟨ts,a9⟩:∃ts,((Bn fn tmps ps x y D .ready).params.zip vs.toArray).foldl (λtmps(t,a)=>tmps.setIfInBounds t a) (Bn fn tmps ps x y D .ready).tmps=ts:=⟨_,rfl⟩
 rw[a9]
 have b':ts=((es.map (·.1)).zip vs).foldl (λts(p,v)=>ts.setIfInBounds p v) tmps:=by
  rw[<-a9, <-a5, <-Array.foldl_toList,Array.toList_zip];rfl
 have E:∀b o,m0 b=some o->mm b=some o:=λb o d=>by
  grind
 have hM:aK ⟨w,λb=>m0 b≠none,h0,[]⟩ (λ_=>.slice none 0 0) (abJ σ es m0 h0) {tmps:=ts,defers:=[]} w:=by
  refine aK.blank' ?_ rfl ?_
  .show DenS _ (Ts (σ.sl.map Rk) es) ts.toList;rw[b'];exact OB a6 (Gr b3)
  .exact⟨rfl,rfl,rfl,Nat.le_refl _,Nat.le_refl _,λ_ _ _=>rfl,hH.hsat,λb o d=>hH.msat b o (E b o d),λb o d=>hH.disj b o (E b o d),λ_ _ _ e=>e,λ_ _ _=>rfl,λb o d=>.inr bk⟩
 refine wpIn_mono (QX l A x hx _ _ _ _ _ hM hV) ?_;intro ex a1 V F;cases ex with
 |normal=>
  obtain⟨ι1,τ,G,b7⟩:=F;have j:=G.wrel;have b8:¬(λb=>m0 b≠none) l:=λe=>e b4;have a':V.heap[l]? =some (.loop (Bn fn tmps ps x y D .ready)):=by rw[j.frame l b6 b8];exact hl
  have X:=(Array.getElem?_eq_some_iff.1 a').1
  have L:¬Qr ι1 τ l:=λhm=>by
   rcases(G.mine hm).1 with n|n
   .grind
   grind
  refine⟨_,run_beginRound a' rfl,?_⟩;obtain⟨f,H⟩:∃f,V.putObj l (.loop {Bn fn tmps ps x y D .ready with state:=.busy})=f:=⟨_,rfl⟩
  have a0:=(G.rebase.putD (.loop {Bn fn tmps ps x y D .ready with state:=.busy}) a' rfl X L).rebase;rw[H]at a0⊢
  have c3:a1.defers=[]:=G.defers;have a0:aK (reB ι1 τ [] f) ι1 τ a1 f:=bk
  have b9:∀b,b≠l->f.heap[b]? =V.heap[b]? :=λb d=>by rw[<-H];exact World.putObj_heap_other (λe=>d e)
  have s2:f.heap.size=V.heap.size:=by rw[<-H];simp
  have c':f.heap[l]? =some (.loop {Bn fn tmps ps x y D .ready with state:=.busy}):=by rw[<-H];exact World.putObj_heap_same X
  refine wpIn_mono (QX l A y hy _ _ _ _ _ a0 b7) ?_;intro ex a2 I F;cases ex with
  |normal=>
   obtain⟨ι2,υ,c0,hR⟩:=F;have c:=c0.wrel;have W:I.heap[l]? =some (.loop {Bn fn tmps ps x y D .ready with state:=.busy}):=by rw[c.frame l (by show l<f.heap.size;omega) L];exact c'
   have b0:=(Array.getElem?_eq_some_iff.1 W).1
   have M:∀b,b<w.heap.size->mm b=none->¬Qr ι1 τ b:=λb d hn hm=>by
    rcases(G.mine hm).1 with n|n
    .grind
    grind
   have c1:υ.m l=none:=by
    cases e:υ.m l with
    |none=>rfl
    |some o=>
     rcases c.mfr l o e with n|n
     .have n:f.heap.size<=l:=n;omega
     .exact(L n).elim
   obtain⟨O,Q⟩:∃O,I.putObj l (.loop (Bn fn tmps ps x y D .ready))=O:=⟨_,rfl⟩
   have a3:∀b,b≠l->O.heap[b]? =I.heap[b]? :=λb d=>by rw[<-Q];exact World.putObj_heap_other (λe=>d e)
   have c4:O.heap[l]? =some (.loop (Bn fn tmps ps x y D .ready)):=by rw[<-Q];exact World.putObj_heap_same b0
   have T:=run_endRound (P:=C.P) none W;have T:(Instr.endRound l none).run C.P I= .ok (.bool true) O:=by rw[T, <-Q];rfl
   have Y:PH.le h0 τ.h:=⟨λb i v e=>j.hle b i v e⟩
   have Z:PH.le τ.h υ.h:=⟨λb i v e=>c.hle b i v e⟩
   refine⟨_,_,T,true,λb=>if b=l then some (.loop (Bn fn tmps ps x y D .ready))else υ.m b,υ.h,rfl,⟨rfl,⟨λb i v e=>Z.le _ _ _ (Y.le _ _ _ e)⟩,υ.m,c1,λb d=>by simp[d],bf,hR⟩,?_⟩;have t4:O.tape=I.tape/\O.os=I.os/\O.output=I.output/\O.heap.size=I.heap.size:=by rw[<-Q];exact⟨rfl,rfl,rfl,bf⟩
   have t2:f.tape=V.tape/\f.os=V.os/\f.output=V.output:=by rw[<-H];exact⟨rfl,rfl,rfl⟩
   have b1:w.heap.size<=V.heap.size:=j.size;have b2:f.heap.size<=I.heap.size:=c.size;refine⟨?_,?_,?_,?_,?_,?_,⟨?_,?_,?_⟩,⟨λb i v e=>Z.le _ _ _ (Y.le _ _ _ e)⟩,?_,?_⟩
   .rw[t4.1,c.tape];show f.tape=_;rw[t2.1];exact j.tape
   .rw[t4.2.1,c.os];show f.os=_;rw[t2.2.1];exact j.os
   .rw[t4.2.2.1,c.output];show f.output=_;rw[t2.2.2];exact j.output
   .have d4:O.drawn=I.drawn:=by rw[<-Q];rfl
    have d3:f.drawn<=I.drawn:=c.drawn;have d2:f.drawn=V.drawn:=by rw[<-H];rfl
    have d1:w.drawn<=V.drawn:=j.drawn;omega
   .omega
   .intro b d hn;have U:b≠l:=λe=>bk
    rw[a3 b U,c.frame b (by show b<f.heap.size;omega) (M b d hn)];show f.heap[b]? =_;rw[b9 b U];exact j.frame b d (λe=>e bk)
   .intro b i v hv;have a4:=c.hsat b i v hv;have U:b≠l:=λe=>by rw[e,OU W]at a4;cases a4
    rw[World.cell?_of_block (w:=I) (w':=O) (a:=⟨b,i,none⟩) (a3 b U)];exact a4
   .intro b o d;have z:(if b=l then some (Obj.loop (Bn fn tmps ps x y D .ready))else υ.m b)=some o:=d;clear d;split at z
    .grind
    .rename_i e;rw[a3 b e];exact c.msat b o z
   .intro b o d i;have z:(if b=l then some (Obj.loop (Bn fn tmps ps x y D .ready))else υ.m b)=some o:=d;clear d;split at z
    .rename_i e;subst e;cases e2:υ.h b i with
     |none=>rfl
     |some v=>have:=c.hsat b i v e2;rw[OU W]at this;cases this
    .exact c.disj b o z i
   .intro b d hn;have n:υ.h b=τ.h b:=c.hold b (by show b<f.heap.size;omega) (M b d hn);rw[n];have U:b≠l:=λe=>bk
    exact j.hold b d (λe=>e bk)
   .intro b o d;have z:(if b=l then some (Obj.loop (Bn fn tmps ps x y D .ready))else υ.m b)=some o:=d;clear d;split at z
    .grind
    .rename_i e;rcases c.mfr b o z with n|n
     .have n:f.heap.size<=b:=n;omega
     .rcases(G.mine n).1 with h2|h2
      .exact .inl h2
      grind
  |ret=>obtain⟨_,_,_,h⟩:=F;exact h.elim
  |exit id=>obtain⟨_,_,_,h⟩:=F;exact h.elim
  |goto t=>exact F.elim
  |panic ch=>exact F.elim
  |outgrown=>exact F.elim
 |ret=>obtain⟨_,_,_,h⟩:=F;exact h.elim
 |exit id=>obtain⟨_,_,_,h⟩:=F;exact h.elim
 |goto t=>exact F.elim
 |panic ch=>exact F.elim
 |outgrown=>exact F.elim
theorem Qe(w:World)(o:Obj){b:Nat}(h:b<w.heap.size):(w.alloc o).heap[b]? =w.heap[b]? :=by
 exact Go.RowKit.Below.heap_alloc _ _ _ h
theorem Xl(w:World)(o:Obj):(w.alloc o).heap[w.heap.size]? =some o:=World.alloc_heap_new w o
theorem Z9(w:World):∀l:cv,Cy w (l.map .val) l
 |[]=>trivial
 |_::l=>⟨rfl,Z9 w l⟩
theorem Oq(l:cv)(i:Nat)(c:CV)(u:Value)(b:Nat)(d:(l.map CV.val)[i]? =some c)(f:gA c u=some b):False:=by
 rw[getElem?_map]at d;cases e:l[i]? with
 |none=>grind
 |some v=>rw[e]at d;simp at d;subst d;simp[gA]at f
theorem Rm(X:∀g S,assoc C.specs g=some S->Sound C.P g S){ds:dq}(U:MM B ds ι σ a w){f:Operand}{ps:Array Tmp}{x y:Code}{Q:AZ->St->Prop}{g:FuncId}{cs:Array Value}(c6:σ.ev f= .at (.val (.func (.func g) #[] cs)))(hx:uA x=true)(hy:uA y=true)
 {Src:PH->cv->List cv->Prop}(b4:IY C.P g Src){xs:List cv}(b5:Src σ.h cs.toList xs){I:Nat->MH->PH->Prop}(h0:I 0 σ.m σ.h)
 (Y:∀(k:Nat)(vs:cv)(m:MH)(h:PH),xs[k]? =some vs->PH.le σ.h h->I k m h->∃es:eo,ps.toList=es.map (·.1)/\DenS (λ_=>.slice none 0 0) (es.map (·.2)) vs/\Nz C x y σ es m h (I (k+1)))
 (b6:∀(m:MH)(h:PH),PH.le σ.h h->I xs.length m h->Q .normal (blank σ m h)):(Code.rangeFunc f ps x y).wp C.P (QM B Q) a w:=by
  obtain⟨a3⟩:=b4;have L:=U.mod.wrel
  have b7:a.eval f= .func (.func g) #[] cs:=by
   have:=U.mod.ev f;rw[c6]at this;exact this
  refine(wpIn_wide (n:=0)).1 (wpIn_rangeFunc ?_);intro fn e1;obtain⟨l,hl⟩:∃l,l=w.heap.size+1:=⟨_,rfl⟩
  obtain⟨D,hD⟩:∃D,D=w.heap.size:=⟨_,rfl⟩
  obtain⟨W1,H⟩:∃W1,(w.alloc (.deferred (some []))).alloc (.loop (Bn fn a.tmps ps x y D .ready))=W1:=⟨_,rfl⟩
  have s1:W1.heap.size=w.heap.size+2:=by rw[<-H];simp
  have a7:∀b,b<w.heap.size->W1.heap[b]? =w.heap[b]? :=λb t=>by
   rw[<-H,Qe _ _ bj,Qe _ _ t]
  have b8:W1.heap[D]? =some (.deferred (some [])):=by
   rw[<-H,hD,Qe _ _ bf];exact Xl w _
  have e0:W1.heap[l]? =some (.loop (Bn fn a.tmps ps x y D .ready)):=by
   rw[<-H,hl];have:=Xl (w.alloc (.deferred (some []))) (.loop (Bn fn a.tmps ps x y D .ready))
   rwa [World.size_alloc]at this
  have c7:∀b o,σ.m b=some o->b<w.heap.size:=λb o t=>(Array.getElem?_eq_some_iff.1 (L.msat b o t)).1;have a8:∀b i v,σ.h b i=some v->b<w.heap.size:=λb i v hv=>World.block_lt_of_cell? w ⟨b,i,none⟩ (L.hsat b i v hv)
  let m1:MH:=λb=>if b=l then some (.loop (Bn fn a.tmps ps x y D .ready))else σ.m b
  have c8:m1 l=some (.loop (Bn fn a.tmps ps x y D .ready)):=by simp[m1]
  have a9:∀b,b≠l->m1 b=σ.m b:=λb t=>if_neg t
  have c9:σ.m l=none:=by
   cases e:σ.m l with
   |none=>rfl
   |some o=>grind
  have b9:AK W1 m1 σ.h (.val (.func (.yield l) #[] #[])::cs.toList.map .val) (.func (.yield l) #[] #[]::cs.toList):=by
   refine⟨⟨rfl,Z9 _ _⟩,?_,?_,?_,λi j c d u v b hi _ _ _ t _=>(Oq (.func (.yield l) #[] #[]::cs.toList) i c u b hi t).elim,λi c u b hi _ t=>(Oq (.func (.yield l) #[] #[]::cs.toList) i c u b hi t).elim⟩
   .intro b i v hv;rw[World.cell?_of_block (w:=w) (w':=W1) (a:=⟨b,i,none⟩) (a7 b (a8 b i v hv))];exact L.hsat b i v hv
   .intro b o t;by_cases e:b=l
    .grind
    .rw[a9 b e]at t;rw[a7 b (c7 b o t)];exact L.msat b o t
   .intro b o t i;by_cases e:b=l
    .subst e;cases e2:σ.h b i with
     |none=>rfl
     |some v=>grind
    .rw[a9 b e]at t;exact L.disj b o t i
  have z:∀b,m1 b=none->¬tA m1 (.val (.func (.yield l) #[] #[])::cs.toList.map .val) (.func (.yield l) #[] #[]::cs.toList) b:=by
   rintro b t (G|⟨i,c,u,hi,hu,hc⟩)
   .exact G t
   .exact Oq (.func (.yield l) #[] #[]::cs.toList) i c u b hi hc
  let J:Nat->MH->PH->Prop:=λk mm Z=>PH.le σ.h Z/\∃T,T l=none/\(∀b,b≠l->mm b=T b)/\mm l=some (.loop (Bn fn a.tmps ps x y D .ready))/\I k T Z
  have b':=a3.2 (.val (.func (.yield l) #[] #[])::cs.toList.map .val) (.func (.yield l) #[] #[]::cs.toList) m1 σ.h W1 (λ_ mm Z=>J xs.length mm Z)
   ⟨l,cs.toList,xs,J,rfl,b5,⟨⟨λ_ _ _ e=>e⟩,σ.m,c9,a9,c8,h0⟩,?_,λ_ _ _ _ hJ=>hJ⟩ b9
  .have b0:(Instr.enterLoop fn a.tmps ps x y Fence.wide.round).run C.P w= .ok (l,[Cj D]) W1:=by
    subst hD hl;rw[<-H];exact run_enterLoop_outer _ _ _ _ _
   refine⟨l,[Cj D],W1,{target:=.fn (.func g) cs,args:= #[.func (.yield l) #[] #[]]},W1,g,(.func (.yield l) #[] #[]::cs.toList).toArray,W1,b0,?_,λ_ _=>trivial,?_,λe=>by simp[Fence.wide]at e,callsIn_wide.2 ?_⟩
   .simp only[resolve,rangeCall,b7];simp[go_sem]
   .obtain⟨gf,hf,c',c0⟩:=a3.1;have c':¬gf.body=none:=bk
    have c0:¬gf.name= "runtime.NumGoroutine" :=bk
    simp only[invoke,callFunc];simp[program,Sem.run,hf,c0,c']
   refine b'.mono ?_;rintro e V ⟨r,u,mm,Z,rfl,⟨a',T,a4,c1,b1,hI⟩,b4,A,_⟩;have c2:=A.msat l _ b1;refine⟨_,_,run_endLoop c2 (by simp[Bn]),?_⟩;obtain⟨W,a0⟩:∃W,V.putObj l (.loop {Bn fn a.tmps ps x y D .ready with state:=.exhausted})=W:=⟨_,rfl⟩
   rw[a0];have a1:∀b,b≠l->W.heap[b]? =V.heap[b]? :=λb t=>by rw[<-a0];exact World.putObj_heap_other (λe=>t e)
   have t4:W.tape=V.tape/\W.os=V.os/\W.output=V.output/\W.heap.size=V.heap.size:=by rw[<-a0];exact⟨rfl,rfl,rfl,bf⟩
   have t1:W1.tape=w.tape/\W1.os=w.os/\W1.output=w.output:=by rw[<-H];exact⟨rfl,rfl,rfl⟩
   have c5:W1.heap.size<=V.heap.size:=A.size
   have a5:∀b,b<w.heap.size->σ.m b=none->W.heap[b]? =w.heap[b]? :=λb t hn=>by
    have M:b≠l:=by omega
    rw[a1 b M,A.frame b bk (z b bk),a7 b t]
   have F:∀b o,T b=some o->mm b=some o/\b≠l:=λb o t=>by
    grind
   have d':∀b o,T b=some o->W1.heap.size<=b\/∃o',σ.m b=some o':=λb o t=>by
    obtain⟨G,M⟩:=F b o t;rcases A.mfr b o G with h2|h2
    .exact .inl h2
    .refine .inr ?_;cases e:σ.m b with
     |some o'=>grind
     |none=>grind
   have hB:B.w0.heap.size<=w.heap.size:=L.size
   have mB:∀b,b<B.w0.heap.size->¬B.E b->σ.m b=none:=λb t hn=>by
    cases e:σ.m b with
    |none=>rfl
    |some o=>
     rcases L.mfr b o e with G|G
     .grind
     grind
   have O:∀D',D'∈ds->D'<w.heap.size/\σ.m D'=none:=λD' R=>by
    refine⟨(Array.getElem?_eq_some_iff.1 (U.mark D' R)).1,?_⟩;cases e:σ.m D' with
    |none=>rfl
    |some o=>exact(U.mine D' R (.inl (by rw[e];simp))).elim
   have c3:∀b,¬(W1.heap.size<=b)->σ.m b=none->¬Qr (λ_=>.slice none 0 0) (blank σ T Z) b:=by
    rintro b G h2 (h3|⟨k,o,hk,_⟩)
    .cases e:T b with
     |none=>exact h3 e
     |some o=>
      grind
    .exact GP _ _ _ hk
   have e3:σ.m D=none:=by
    cases e:σ.m D with
    |none=>rfl
    |some o=>grind
   refine⟨D::ds,λ_=>.slice none 0 0,blank σ T Z,⟨?_,?_,?_,?_,?_⟩,b6 T Z a' hI⟩
   .refine aK.blank' (Gr U.mod.slots) ?_ ⟨?_,?_,?_,?_,?_,?_,?_,?_,?_,?_,?_,?_⟩
    .show[Cj D]++a.defers=_;rw[U.mod.defers];rfl
    .rw[t4.1,A.tape];show W1.tape=_;rw[t1.1];exact L.tape
    .rw[t4.2.1,A.os];show W1.os=_;rw[t1.2.1];exact L.os
    .rw[t4.2.2.1,A.output];show W1.output=_;rw[t1.2.2];exact L.output
    .have d4:W.drawn=V.drawn:=by rw[<-a0];rfl
     have d3:W1.drawn<=V.drawn:=A.drawn;have d2:W1.drawn=w.drawn:=by rw[<-H];rfl
     have d1:B.w0.drawn<=w.drawn:=L.drawn
     grind
    .grind
    .intro b t a2;have t:b<B.w0.heap.size:=t;rw[a5 b aC (mB b t a2)];exact L.frame b t a2
    .intro b i v hv;have b2:=A.hsat b i v hv;have M:b≠l:=λe=>by rw[e,OU c2]at b2;cases b2
     rw[World.cell?_of_block (w:=V) (w':=W) (a:=⟨b,i,none⟩) (a1 b M)];exact b2
    .intro b o t;obtain⟨G,M⟩:=F b o t;rw[a1 b M];exact A.msat b o G
    .intro b o t i;exact A.disj b o (F b o t).1 i
    .intro b i v hv;exact a'.le _ _ _ (L.hle b i v hv)
    .intro b t a2;have t:b<B.w0.heap.size:=t;have G:Z b=σ.h b:=A.hold b bk (z b bk);rw[G];exact L.hold b t a2
    grind
   .intro D' R;rcases mem_cons.1 R with rfl|G
    .omega
    .exact U.size D' G
   .grind
   .intro D' R;rcases mem_cons.1 R with rfl|G
    .rw[a1 D' aC,A.frame D' bk (z D' bk)];exact b8
    .obtain⟨h2,h3⟩:=O D' G;rw[a5 D' h2 h3];exact U.mark D' G
   .refine nodup_cons.2 ⟨λG=>?_,U.nodup⟩
    grind
  .rintro k e m' h' hk a' ⟨c4,T,a4,c1,b1,hI⟩;refine⟨λw5 hH=>?_⟩;obtain⟨es,d0,d5,hV⟩:=Y k e T h' hk a' hI;obtain⟨d6,b3,d7,d8,d9,hR⟩:=Vd X (σ:=σ) (ι:=ι) hx hy U.mod.slots d0 d5 a4 c1 b1 hV w5 hH;refine⟨d6,b3,d7,d8,d9,hR.mono ?_⟩;rintro ex w6 ⟨u,m6,h6,rfl,⟨rfl,a6,m7,q1,q2,q3,q4⟩,e'⟩;exact⟨_,m6,h6,rfl,⟨rfl,a6,⟨λ_ _ _ e=>a6.le _ _ _ (c4.le _ _ _ e)⟩,m7,q1,q2,q3,q4⟩,e'⟩
theorem X1(j:∀g S,assoc C.specs g=some S->Sound C.P g S){ds:dq}(J:MM B ds ι σ a w){f:Operand}{ps:Array Tmp}{x y:Code}{Q:AZ->St->Prop}(h:X2 C f ps x y σ (Q .normal)):(Code.rangeFunc f ps x y).wp C.P (QM B Q) a w:=by
 unfold X2 at h;split at h
 .rename_i g O cs E G;obtain⟨L,M⟩:=Bool.and_eq_true_iff.1 G;split at h
  .rename_i R;obtain rfl:O= #[]:=Array.toList_inj.1 aC;split at h
   .rename_i p T A V;obtain⟨Src,xs,I,D,n,H,c,t⟩:=h;refine Rm j J E L M D n H (λk W m h u d F=>?_) (λm h d F=>t m h d bk);rw[getElem?_map]at u;cases e:xs[k]? with
    |none=>grind
    |some z=>
     rw[e]at u;simp only[Option.map_some,ce]at u;subst u;exact⟨[(p,mk C.P T (((C.dec T).enc z).map .val))],by rw[A];rfl,⟨TH,trivial⟩,c k z m h e d F⟩
   .rename_i p q T U A V;obtain⟨Src,xs,I,D,n,H,c,t⟩:=h;refine Rm j J E L M D n H (λk W m h u d F=>?_) (λm h d F=>t m h d bk);rw[getElem?_map]at u;cases e:xs[k]? with
    |none=>grind
    |some z=>
     rw[e]at u;simp only[Option.map_some,ce]at u;subst u;exact⟨[(p,mk C.P T (((C.dec T).enc z.1).map .val)),(q,mk C.P U (((C.dec U).enc z.2).map .val))],by rw[A];rfl,⟨TH,TH,trivial⟩,c k z.1 z.2 m h e d F⟩
   grind
  grind
 grind
theorem auJ(d:∀g S,assoc C.specs g=some S->Sound C.P g S):∀(c:Code)(σ:St)(Q:AZ->St->Prop)(ds:dq)(ι:dj)(a:Act)(w:World),MM B ds ι σ a w->VCF C c σ Q->c.wp C.P (QM B Q) a w:=by
 intro c
 induction c with
 |rangeFunc f ps x y _ _=>intro σ Q ds ι a w n h;exact X1 d n h
 |seq x y D E=>
  intro σ Q ds ι a w n h;simp only[VCF]at h;split at h
  .exact CL d n h
  .split at h
   .obtain⟨I,h,F⟩:=h;refine wp_seq (wp_mono (D σ _ ds ι a w n h) ?_);intro e J L j;cases e with
    |normal=>
     obtain⟨z,G,H,u,V⟩:=j;obtain⟨W,X,M,O⟩:=AQ u.here V;exact E _ Q z X J L (u.retag O) (F W M)
    |exit id=>exact j
    |ret=>exact j
    |goto l=>exact j
    |panic U=>exact j
    |outgrown=>exact j
   .refine wp_seq (wp_mono (D σ _ ds ι a w n h) ?_);intro e J L j;cases e with
    |normal=>
     obtain⟨z,G,H,u,h'⟩:=j;exact E H Q z G J L u h'
    |exit id=>exact j
    |ret=>exact j
    |goto l=>exact j
    |panic U=>exact j
    |outgrown=>exact j
 |cond c x y D E=>
  intro σ Q ds ι a w n h;simp only[VCF]at h;split at h
  .exact CL d n h
  .split at h
   .rename_i t R;have A:=n.mod.ev c;rw[R]at A;have A:a.eval c= .bool t:=A;rcases tQ h with⟨rfl,h⟩|⟨rfl,h⟩
    .exact wp_cond_true A (D _ Q ds ι a w (n.retag (n.here.setTmp R)) h)
    .exact wp_cond_false A (E _ Q ds ι a w (n.retag (n.here.setTmp R)) h)
   grind
 |block id c Y=>
  intro σ Q ds ι a w n h;simp only[VCF]at h;split at h
  .exact CL d n h
  .refine wp_block (wp_mono (Y σ _ ds ι a w n h) ?_);intro e J L j;cases e with
   |normal=>exact j
   |exit i=>
    obtain⟨z,G,H,u,h'⟩:=j;show if i=id then _ else _
    simp only at h';split at h'
    .rename_i T;rw[if_pos (ci T)];exact⟨z,G,H,u,h'⟩
    .rename_i T;rw[if_neg (λe=>by subst e;simp at T)];exact⟨z,G,H,u,h'⟩
   |ret=>exact j
   |goto l=>exact j
   |panic U=>exact j
   |outgrown=>exact j
 |_=>intro σ Q ds ι a w n h;exact CL d n h
theorem OJ(e:aK B ι σ a w):∀{l:List ResultVar}{K:cv->Prop},byX C σ l K->∃vs,(l.mapM (LI a.tmps)).run C.P w= .ok vs w/\K vs
 |[],K,h=>⟨[],bf,h⟩
 |.tmp t::r,K,h=>h.elim
 |.cell t T::r,K,h=>by
  simp only[byX]at h;split at h
  .rename_i b off n u;obtain⟨y,f,h⟩:=h;split at h
   .rename_i c;have c:=ci c;split at h
    .rename_i v z;obtain⟨vs,A,D⟩:=OJ e h;have d:=e.ev (.tmp t);have E:σ.ev (.tmp t)= .at (.val (.pointer (some ⟨b,off,none⟩))):=by simp only[St.ev,n]
     rw[E]at d;have g:a.tmps.getD t undef= .pointer (some ⟨b,off,none⟩):=d;have F:=AO (w:=w) (b:=b) (off:=off) (cs:=(C.dec T).enc y) u c (Ej e.wrel f);have G:=IQ (P:=C.P) (T:=T) (ι:=ι) (ats:=((C.dec T).enc y).map .val) (cs:=(C.dec T).enc y) (by rw[iM.vals]);have j:=G.val? z;refine⟨v::vs,?_,D⟩;simp only[mapM_cons,LI,g,asAddr,Sem.run_bind,Sem.run_pure,Result.andThen_ok,F,A,j]
    grind
   grind
  grind
theorem XK(d:aK B ι σ a w){fn:Func}{K:dc}(h:Lu C fn K σ):
 ∃u,(results fn a.tmps).run C.P w= .ok u w/\∃r m' h',K r m' h'/\Ea w r u/\xC B m' h' w/\∀b,gA r u=some b->(B.w0.heap.size<=b\/B.E b)/\m' b=none/\∀i,h' b i=none:=by
 unfold Lu at h;split at h
 .exact GM d h
 .obtain⟨c,f,g⟩:=OJ d h
  have n:(results fn a.tmps).run C.P w= .ok (if h:c.toArray.size=1 then c.toArray[0]else .tuple c.toArray) w:=by
   rw[OI,Array.mapM_eq_mapM_toList];simp[f]
  split at g
  .rename_i v;exact⟨v,bk,.val v,σ.m,σ.h,g,rfl,d.wrel,λb j=>by simp[gA]at j⟩
  .rename_i t
   have y:c.length≠1:=λe=>by
    match c,e with
    |[v],_=>grind
   exact⟨.tuple c.toArray,bk,.tup (c.map .val),σ.m,σ.h,g,⟨c.toArray,rfl,bf⟩,d.wrel,λb j=>by simp[gA]at j⟩
theorem MX{F:Fence}{n:Nat}{R:Ending->World->Prop}{fn:Func}{Kc:dc}(g:Lu C fn Kc σ)
 (y:∀u w',(∃r m' h',Kc r m' h'/\Ea w' r u/\xC B m' h' w'/\∀b,gA r u=some b->(B.w0.heap.size<=b\/B.E b)/\m' b=none/\∀i,h' b i=none)->R (.returned u) w'):
 ∀(ds:dq)(a:Act)(w:World),MM B ds ι σ a w->LeavesInM F n C.P fn a.tmps R (ds.map Cj) .returning w
 |[],a,w,f=>by
  obtain⟨u,A,r,m',h',G,t,d,H⟩:=XK f.mod g;refine⟨u,A,y u w ⟨r,m',h',G,t,⟨d.tape,d.os,d.output,d.drawn,d.size,d.frame,d.hsat,d.msat,d.disj,d.hle,d.hold,d.mfr⟩,H⟩⟩
 |D::ds,a,w,f=>by
  have z:=f.mark D (mem_cons_self ..);refine⟨bf,.inl ⟨D,_,rfl,run_takeDeferred z,MX g y ds {a with defers:=ds.map Cj} _ ?_⟩⟩;have I:w.grownBy (w.putObj D (.deferred none)) (some D):=grownBy_putObj' w D _
  have c:=f.mod.grown I (Nat.le_refl _) (λr e=>by
   cases e;exact⟨f.size D (mem_cons_self ..),f.mine D (mem_cons_self ..),_,z,rfl⟩)
  have j:=nodup_cons.1 f.nodup;refine⟨⟨c.slots,?_,c.own,c.dist,c.fresh,⟨c.wrel.tape,c.wrel.os,c.wrel.output,c.wrel.drawn,c.wrel.size,c.wrel.frame,c.wrel.hsat,c.wrel.msat,c.wrel.disj,c.wrel.hle,c.wrel.hold,c.wrel.mfr⟩,c.one⟩,λD' h=>f.size D' (mem_cons_of_mem _ h),λD' h=>f.mine D' (mem_cons_of_mem _ h),λD' h=>?_,j.2⟩
  .rfl
  .rw[World.putObj_heap_other (fun(e:D'=D)=>j.1 bk)];exact f.mark D' (mem_cons_of_mem _ h)
theorem Rp{P:Program}{f:FuncId}{fn:Func}{c:Code}(I:P.funcs[f]? =some fn)(J:fn.body=some c)(t:(fn.name== "runtime.NumGoroutine")=false){S:Spec}
 (F:∀d m h K,S d m h K->∃C:Ctx,C.P=P/\(∀g S,assoc C.specs g=some S->Sound P g S)/\afZ C fn c (entry fn.ntmps d m h) K):Sound P f S:=by
 refine⟨⟨fn,I,by rw[J];rfl,t⟩,?_⟩;intro d y m h w K M O;obtain⟨C,rfl,j,Q⟩:=F d m h K M;refine callsIn_wide.1 (callsIn_of_wp_marks (n:=0) I J trivial (wpIn_wide.2 ?_))
 have G:MM ⟨w,tA m d y,h,[]⟩ [] (M0 fn.ntmps d y) (entry fn.ntmps d m h) {tmps:=y.toArray++Array.replicate (fn.ntmps-y.toArray.size) undef,defers:=[]} w:=
  ⟨FB fn.ntmps O,λ_ D=>(not_mem_nil D).elim,λ_ D=>(not_mem_nil D).elim,λ_ D=>(not_mem_nil D).elim,nodup_nil⟩
 refine wp_mono (auJ j c _ _ _ _ _ w G Q) ?_;intro e E z A
 have key:(∃H ι σ,MM ⟨w,tA m d y,h,[]⟩ H ι σ E z/\Lu C fn K σ)->LeavesInM Fence.wide 0 C.P fn E.tmps (λe z=>∃r u m' h',e= .returned u/\K r m' h'/\Ea z r u/\xC ⟨w,tA m d y,h,[]⟩ m' h' z/\
  (∀b,gA r u=some b->(w.heap.size<=b\/tA m d y b)/\m' b=none/\∀i,h' b i=none)) E.defers .returning z:=by
  rintro⟨H,ι,σ,L,R⟩;rw[L.mod.defers];exact MX R (λu T⟨r,m',h',U,V,W,X⟩=>⟨r,u,m',h',rfl,U,V,W,X⟩) H E z L
 cases e with
 |normal=>exact key A
 |ret=>exact key A
 |exit id=>obtain⟨_,_,_,_,h⟩:=A;exact h.elim
 |goto l=>exact A.elim
 |panic Y=>exact A.elim
 |outgrown=>exact A.elim
theorem X6{P:Program}{f:FuncId}{fn:Func}{c:Code}(j:P.funcs[f]? =some fn)(n:fn.body=some c)(e:(fn.name== "runtime.NumGoroutine")=false){S:Spec}
 (t:∀d m h K,S d m h K->∃C:Ctx,C.P=P/\(∀g S,assoc C.specs g=some S->Sound P g S)/\afZ C fn c (entry fn.ntmps d m h) (dE h K)):Sound P f S:=
 .strong (Rp j n e (S:=λd m h K=>∃K',S d m h K'/\K=dE h K') (by
  grind))
end
end Go.Vc
namespace Go.Ps
open Go Go.Vc Go.Proofs List Tryz
variable{K:dc}{m:MH}{h:PH}{s:j4}{ps:dd}{cb:Nat}{sc:bJ}{v:QV}{q:Query}{p:Pred}{l:dd}{i:Nat}{N:Nat}{m':MH}{h':PH}{co:dd}{gr:dd}{od:dg}{w:Pred}{ta:Int}{li:Int}{xs:List cv}{sz:Nat}{k:Nat}{ks:List dd}{rs:dd}{r:Sl}{a:dd}{b:Nat}
def QG(b:Nat):Value:=.func (.func 174) #[] #[.pointer (some ⟨b,0,none⟩)]
structure Ij(h:PH)(b:Nat)(us:dk):Prop where
 ex:∃s:Sl,bA h b 0 [s.val]/\bX h s 1 (us.map eS)/\us.length<=502633886983
theorem Ij.mono{us:dk}(x:Ij h b us)(le:PH.le h h'):Ij h' b us:=by
 obtain⟨s,c,d,e⟩:=x.ex;exact⟨s,c.mono le,d.mono le,e⟩
def z6:PH->cv->List cv->Prop:=λh c xs=>∃b d,c=[.pointer (some ⟨b,0,none⟩)]/\Ij h b d/\xs=d.map eS
noncomputable def Ua(specs:List (Nat×Vc.Spec))(loops:dx)(cuts:dx)(heapT:em):Ctx:={rT specs loops cuts [] heapT [] false with elemT:=[75]}
def SR:Vc.Spec:=λc m h K=>∃s,c=[cS s]/\∀b h',PH.le h h'->bA h' b 0 [s.val]->K (.val (QG b)) m h'
def UC:Vc.Spec:=λc m h K=>∃s b d f,c=[cS s,.val (QG b)]/\cT m s 75 1 (d.map eS)/\Ij h b f/\d.length<=502633886983/\
 ∀e m',cT m' e 75 1 ((d++f).map eS)->(∀x o,m x=some o->(∀i,s.a≠some ⟨x,i,none⟩)->m' x=some o)->(∀x i,e.a=some ⟨x,i,none⟩->m x=none\/∃i,s.a=some ⟨x,i,none⟩)->K (cS e) m' h
def Xx:Vc.Spec:=λc m h K=>∃b e,c=[.val (QG b)]/\Ij h b e/\
 ∀d m',cT m' d 75 1 (e.map eS)->(∀x o,m x=some o->m' x=some o)->(∀x i,d.a=some ⟨x,i,none⟩->m x=none)->K (cS d) m' h
noncomputable def bcX(b:Nat)(l:Nat)(s:Sl):Ctx:=
 {dD [] [(1,{A:=Nat×MH×PH,st:=λ⟨i,m,h⟩=>bU 16 18 [(0,vv (.func (.yield l) #[] #[])),(1,vv (.pointer (some ⟨b,0,none⟩))),(5,sv s),(6,iv s.len),(7,iv i)] [] m h})] [] [] false with yield:=some (boQ Tryz.prog)}
noncomputable abbrev sR(a:Nat):CV:=qU 174 (Eu a)
attribute [push_cast] sR
def Me(s:Sl)(m:MH)(h:PH)(K:dc):Prop:=
  ∀(b:Nat)(c:MH),aR (dL m h b) (cL m c b (aM s) 95) (K (sR b) c h)
abbrev E5(a:(Nat×MH×PH->Prop)->(Nat×MH×PH)->Prop)(b:(Nat×MH×PH->Prop)->(Nat×MH×PH->Nat)->(Nat×MH×PH)->Prop):Prop:=∃(x:Nat×MH×PH->Prop)(d:Nat×MH×PH->Nat),(∃(c:Nat×MH×PH),a x c)/\∀(c:Nat×MH×PH),b x d c
abbrev iK(a:MH)(b:Nat×MH×PH):Prop:=iD a b.2
noncomputable abbrev cA(a:Nat×MH×PH):Nat->Option Obj:=a.2.1
noncomputable abbrev bW(a:Nat×MH×PH):Nat->Nat->Option Value:=a.2.2
abbrev Ks(a:Nat->cv->Prop):Prop:=∃(x:Nat)(c:cv),a x c
attribute [push_cast] E5 iK cA bW Ks
def RX(b l:Nat)(s:Sl)(m:MH)(h:PH)(K:dc):Prop:=
  j5 m h b 0 (λy=>E5 (λI x=>aA (I x) (Fi l) (aA (bZ b) (aX y s) (aA (cD y s) (bE x.1) (aA (iK m x) (fI h x.2) True)))) (λI f x=>I x->aY (↑x.1:Int) (aG s) (dN s.a (↑x.1:Int) s (λn o g=>aA (aJ (cA x) (bW x) n (bB o x.1 1) (aM g)) (N8 (boQ Proofs.Tryz.prog)) (Ks (λj v=>∃(R:Bool->MH->PH->Prop),aA (qS (Db l) (mL g)=Db j::List.map CV.val v) (YDo Proofs.Tryz.prog j v (cA x) (bW x) R) (∀(u:Bool),eZ (λd e=>R u d e->branch (!u) (K A3 d e) (∃(c:Nat×MH×PH),aA (I c) (f c<f x) (aA (Fi l) (bZ b) (aA (aH s) (bI s) (aA (fJ (aW x.1 1)=bY c.1) (iK d c) (eA e c.2))))))))))) (K A3 (cA x) (bW x))))
abbrev HD(a:dk)(b:Nat)(c:Sl):Prop:=a[b]? =Option.some c
abbrev vY(a:PH->cv->List cv->Prop)(b:Nat->Nat->Option Value)(c:Nat)(d:MH)(e:(Nat->MH->PH->Prop)->Nat->Sl->MH->PH->Prop)(g:MH->PH->Prop):Prop:=∃(x:dk)(n:Nat->MH->PH->Prop),aA (IY Proofs.Tryz.prog 174 a) (a b (mI (vQp c 0)) (List.map (fun(f:Sl)=>aM f) x)) (aA (n 0 d b) (∀(f:Nat)(j:Sl),eZ (λu t=>aR (HD x f j) (PH.le b t) (e n f j u t))) (eZ (λf j=>cR b j (n x.length f j) (g f j))))
attribute [push_cast] HD vY
def RO(s:Sl)(b:Nat)(m:MH)(h:PH)(K:dc):Prop:=
  ∀(f:Nat)(n:MH),aR (dL m h f) (cL m n f (aM s) 95) (∃(S:PH->cv->List cv->Prop),vY S h b n (λI k e d g=>I k d g->∃(y:Sl),aJ d g f 0 (aM y)/\∃(x:List cv),aI (cT d (cH y) 75 1 x) (cW (iA x 1*24)) (fN x) (∀(t:Sl)(j:MH),dV d j (cH y) t 75 1 (eK x (aM e))->mH (λc E=>aA (CA j f (jI c E 0)) (0<c.size) (∀(u:MH),cL j u f (jJ (eF t) 1 c) E->I (k+1) u g)))) (λd g=>j5 d g f 0 (λy=>K (mL y) d g)))
abbrev O2(a:Nat->dk->Prop):Prop:=∃(x:Nat)(c:dk),a x c
attribute [push_cast] O2
def aNQ(b:Nat)(m:MH)(h:PH)(K:dc):Prop:=
  ∃(s:Sl),O2 (λd u=>∃(v:dk),aA (qS CE (sR b)=fP s (sR d)) (cT m s 75 1 (vD u)) (aA (Ij h d v) (Fm u.length) (∀(e:Sl),JH e 1 (u++v) (λc x o=>aR (m x=Option.some o) (∀(i:Nat),jS (bF s.a x i)) (c x=Option.some o)) (λx=>Fb m x\/∃(i:Nat),bF s.a x i) (λc=>K (mL e) c h))))
def qE(h:PH)(b:Nat)(l:cv):PH:=λc i=>if c=b then l[i]? else h c i
theorem Dn{l:cv}(d:∀i,h b i=none):PH.le h (qE h b l):=⟨λc i v e=>by
 have:c≠b:=λf=>bk
 simp only[qE,if_neg this];exact e⟩
theorem aeQ{l:cv}:bA (qE h b l) b 0 l:=⟨λi v e=>by simp only[qE,if_true,Nat.zero_add];exact e⟩
theorem X7{f:FuncId}{fn:Func}(n:Tryz.prog.funcs[f]? =some fn){S:Vc.Spec}(j:∀c m h K,S c m h K->∃C:Ctx,C.P=Tryz.prog/\(∀g S,assoc C.specs g=some S->cu g S)/\∃N:Prop,N=tM C fn (cK fn) (entry fn.ntmps c m h) (dE h K)/\N)(t:fn.body=some (cK fn):=by rfl)(d:(fn.name== "runtime.NumGoroutine")=false:=by decide):cu f S:=aAZ n t d λc m h K u=>let⟨C,hC,hs,N,e,hn⟩:=j c m h K u;⟨C,hC,hs,e▸hn⟩
theorem Ze:cu 152 SR:=by
 refine X7 func152 ?_;rintro n m h K ⟨s,rfl,t⟩;refine⟨dD [] [] [] [] false,rfl,aF,Me s m h (dE h K),be,?_⟩;show Me s m h (dE h K);dsimp only[Me,push_cast];intro b m' c g u
 have sub:∀f o,m f=some o->m' f=some o:=λf o d=>by
  rw[g.other f (λe=>by rw[e,c.m_]at d;cases d)];exact d
 refine⟨m,qE h b [s.val],sub,Dn c.h_,λf i v e=>?_,t b _ (Dn c.h_) aeQ⟩;by_cases j:f=b
 .subst j;simp only[qE,if_true]at e;exact .inr ⟨_,_,_,g.at_,by simpa[Sl.val]using e,c.m_⟩
 .simp only[qE,if_neg j]at e;exact .inl e
theorem YV:cu 174 (btZ Tryz.prog z6):=by
 refine iB func174 ?_;rintro I m h K ⟨l,A,xs,J,rfl,⟨b,j,rfl,d,rfl⟩,L,c,f⟩;obtain⟨s,M,D,U⟩:=d.ex;refine⟨bcX b l s,rfl,aF,RX b l s m h K,be,?_⟩;dsimp only[RX,push_cast];have g:=D.len;simp only[length_map]at g;refine⟨s,.imm M,λx=>x.1<=j.length/\PH.le h x.2.2/\J x.1 x.2.1 x.2.2,λx=>j.length-x.1,⟨(0,m,h),⟨bf,.refl _,L⟩,MT⟩,?_⟩;rintro⟨i,E,F⟩ ⟨O,le,G⟩;dsimp only at O le G⊢
 refine aE (λn=>?_) (λP=>f _ E F le bk);obtain⟨u,H⟩:∃u,j[i]? =some u:=⟨_,bu aC⟩
 obtain⟨Q,R,S,T⟩:=D.get (i:=i) (e:=eS u) (by simp[H]);refine⟨Q,R,S,aC,n,u,.imm (T.mono le),On _,l,_,_,rfl,c i (eS u) E F (by simp[H]) le G,?_⟩;rintro t m' h' ⟨rfl,y,z⟩;exact⟨(i+1,m',h'),⟨aC,le.trans y,z⟩,aC,MT⟩
theorem yT:IY Tryz.prog 174 z6:=⟨YV⟩
theorem clZ{f:FuncId}{fn:Func}(n:Tryz.prog.funcs[f]? =some fn){S:Vc.Spec}(j:∀c m h K,S c m h K->∃C:Ctx,C.P=Tryz.prog/\(∀g S,assoc C.specs g=some S->cu g S)/\∃N:Prop,N=afZ C fn (cK fn) (entry fn.ntmps c m h) K/\N)(t:fn.body=some (cK fn):=by rfl)(d:(fn.name== "runtime.NumGoroutine")=false:=by decide):cu f S:=Rp n t d λc m h K u=>let⟨C,hC,hs,N,e,hn⟩:=j c m h K u;⟨C,hC,hs,e▸hn⟩
theorem PC:cu 205 UC:=by
 refine clZ func205 ?_;rintro S m h K ⟨s,b,J,A,rfl,L,P,hl,T⟩;refine⟨Ua [] [] [] [200002,1095],rfl,aF,RO s b m h K,be,?_⟩;dsimp only[RO,push_cast];intro t U M Q;have V:A.length<=502633886983:=by obtain⟨_,_,_,E⟩:=P.ex;exact E
 have sub:∀x o,m x=some o->U x=some o/\x≠t:=λx o c=>by
  have:x≠t:=λe=>by rw[e,M.m_]at c;cases c
  exact⟨by rw[Q.other x this];exact c,this⟩
 have O:∀i,s.a≠some ⟨t,i,none⟩:=λi e=>by
  obtain⟨o,W⟩:=cT.blk L e
  grind
 refine⟨z6,A,λk D c=>c=h/\∃f,D t=some (.cells #[.slice f.a f.len f.cap] 95 (0,0))/\cT D f 75 1 ((J++A.take k).map eS)/\(∀i,f.a≠some ⟨t,i,none⟩)/\(∀x o,m x=some o->(∀i,s.a≠some ⟨x,i,none⟩)->D x=some o/\∀i,f.a≠some ⟨x,i,none⟩)/\(∀x i,f.a=some ⟨x,i,none⟩->m x=none\/∃i,s.a=some ⟨x,i,none⟩),
  yT,⟨b,A,rfl,P,rfl⟩,⟨rfl,s,Q.at_,?_,O,λx o c F=>⟨(sub x o c).1,F⟩,λx i e=>.inr ⟨i,e⟩⟩,?_,?_⟩
 .rw[take_zero,append_nil]
  exact cT.keep L (λx i e=>by
   obtain⟨o,W⟩:=cT.blk L e
   grind)
 .rintro k e D c R-⟨rfl,f,n,d,G,g,H⟩
  have X:=(bt R);refine⟨f,.of_m n rfl,_,d,bj,bj,λY m2 u=>⟨_,_,⟨u.other t _ n G⟩,bf,λm3 y=>⟨rfl,Y,y.at_,?_,?_,?_,?_⟩⟩⟩
  .have Z:(J++A.take (k+1)).map eS=(J++A.take k).map eS++[eS e]:=by
    rw[cj,R];simp
   rw[Z];refine cT.keep u.row (λx i z=>y.other x (λe3=>?_));subst e3;rcases u.fresh x i z with I|⟨j,I⟩
   .grind
   grind
  .intro i z;rcases u.fresh t i z with I|⟨j,I⟩
   .grind
   grind
  .intro x o c F;obtain⟨I,h2⟩:=g x o c F;refine⟨by rw[y.other x (sub x o c).2];exact u.other x o I h2,λi z=>?_⟩;rcases u.fresh x i z with E|⟨j,E⟩
   .grind
   grind
  .intro x i z;rcases u.fresh x i z with E|⟨j,E⟩
   .cases e4:m x with
    |none=>grind
    |some o=>
     grind
   grind
 .rintro D c-⟨rfl,f,n,d,G,g,H⟩
  rw[take_length]at d;exact⟨f,.of_m n rfl,T f D d (λx o c F=>(g x o c F).1) H⟩
theorem YE:cu 206 Xx:=by
 refine iB func206 ?_;rintro c m h K ⟨b,d,rfl,f,g⟩;refine⟨dD [(205,UC)] [] [] [] false,rfl,aD PC aF,aNQ b m h K,be,?_⟩;exact⟨⟨none,0,0⟩,b,[],d,rfl,⟨vN [],.inl ⟨rfl,rfl⟩⟩,f,bf,λn m' t u y=>g n m' t (λx o z=>u x o z (λi e=>by cases e)) (λx i e=>(y x i e).elim id λ⟨j,e⟩=>by cases e)⟩
structure VOk(v:VV):Prop where
 kind:H7 v.kind
 int:H7 v.int
 text:v.text.size<=64
structure UD(r:de):Prop where
 len:r.length<=12
 val:∀v∈r,VOk v
def FL(v:VV):dp:=nV v.kind++58::(nV v.int++58::(nV (v.text.size:Int)++58::v.text.data.toList))
def DV(r:de):dp:=r.flatMap FL
def dZ(r:de):ByteArray:=⟨(DV r).toArray⟩
def pick(r:de)(cols:dd):de:=cols.map λc=>r.getD c.toNat zeroV
structure jB(n:Nat)(cols:dd):Prop where
 at_:∀c∈cols,0<=c/\c<n
 len:cols.length<=100000
def bvJ:Vc.Spec:=λc m h K=>∃xs v,c=[.lst 5 1 xs,aV v]/\iL m/\v.text.size<=64/\xs.length+300<=140737488355328/\K (.lst 5 1 (xs++cC (FL v))) m h
def btQ:Vc.Spec:=λd m h K=>∃s t r c,d=[cS s,cS t]/\bO h s r/\Ints h t c/\UD r/\jB r.length c/\iL m/\K (Ue (dZ (pick r c))) m h
def arQ:Vc.Spec:=λc m h K=>∃s r,c=[cS s]/\bO h s r/\UD r/\iL m/\K (Ue (dZ r)) m h
def nU(on:di):dd:=on.map Prod.fst
def iX(on:di):dd:=on.map Prod.snd
def Z0:Vc.Spec:=λc m h K=>∃s on,c=[cS s]/\lF h s on/\∀a b h',PH.le h h'->Ints h' a (nU on)->Ints h' b (iX on)->K (.tup [cS a,cS b]) m h'
def XB:Vc.Spec:=λd m h K=>∃s t r c,d=[cS s,cS t]/\bO h s r/\Ints h t c/\jB r.length c/\K (cB ((pick r c).all mF)) m h
def buZ:Vc.Spec:=λc m h K=>∃n:Nat,c=[.val (.slice none 0 0),cI n]/\n<=1000/\K (.lst 58 3 []) m h
def Xw:Vc.Spec:=λc m h K=>∃d rs,c=[cS d]/\Rows h d rs/\rs.length<=10/\(∀r∈rs,r.length<=12)/\∀e h',PH.le h h'->bO h' e rs.flatten->K (cS e) m h'
noncomputable def a7Z:Ctx:=rT [(240,atZ)] [] [] [] [] [(240,[0])] true
noncomputable def a9X(s t:Sl)(m:MH)(h:PH):Ctx:=
 rT [(224,bvJ)] [(3,{A:=Nat×dp,st:=λ⟨i,l⟩=>bU 23 25 [(0,sv s),(5,.at (.lst 19)),(8,sv t),(9,iv t.len),(10,iv i)] [(19,.lst 5 1 (cC l))] m h})] [] [] [] [(224,[0])] false
noncomputable def a7X(s:Sl)(m:MH)(h:PH):Ctx:=
 rT [(224,bvJ)] [(3,{A:=Nat×dp,st:=λ⟨i,l⟩=>bU 18 19 [(3,.at (.lst 14)),(6,sv s),(7,iv s.len),(8,iv i)] [(14,.lst 5 1 (cC l))] m h})] [] [] [] [(224,[0])] false
noncomputable def a9J(s:Sl)(m:MH)(h:PH):Ctx:=
 dD [] [(2,{A:=Nat×dd×dd,st:=λ⟨i,l,k⟩=>bU 25 26 [(2,.at (.lst 16)),(3,.at (.lst 21)),(6,sv s),(7,iv s.len),(8,iv i)] [(16,.lst 3 1 (l.map eI)),(21,.lst 3 1 (k.map eI))] m h})] [] [] false
noncomputable def a9Z(s t:Sl)(m:MH)(h:PH):Ctx:=
 dD [(71,Qk)] [(2,{A:=Nat,st:=λi=>bU 20 22 [(0,sv s),(7,sv t),(8,iv t.len),(9,iv i)] [] m h})] [] [] false
noncomputable def a9Q(c:Sl)(m:MH)(h:PH):Ctx:=
 dD [(225,buZ)] [(3,{A:=Nat×Nat,st:=λ⟨i,n⟩=>bU 36 37 [(0,sv c),(3,iv n),(9,sv c),(10,iv c.len),(11,iv i)] [] m h}),
  (11,{A:=Nat×de,st:=λ⟨i,l⟩=>bU 36 37 [(6,.at (.lst 24)),(25,sv c),(26,iv c.len),(27,iv i)] [(24,.lst 58 3 (l.map VV.enc))] m h})] [] [] false
noncomputable abbrev G2(a:List cv)(b:Int):List cv:=eK (zN a (nV b)) (mI (Bb 58))
attribute [push_cast] G2
def RI(xs:List cv)(v:VV)(m:MH)(h:PH)(K:dc):Prop:=
  ∃(x:List cv)(i:Int),aA (Bp xs v.kind=Bp x i) (iL m) (aA (cW (iA x 40)) (cW (iA (zN x (nV i)) 1*1)) (zR (fN (zN x (nV i))) (λe=>∃(f:Int),aA (Bp (G2 x i) v.int=Bp e f) (iL m) (aA (cW (iA e 40)) (cW (iA (zN e (nV f)) 1*1)) (zR (fN (zN e (nV f))) (λc=>∃(d:Int),aA (Bp (G2 e f) (↑v.text.size:Int)=Bp c d) (iL m) (aA (cW (iA c 40)) (cW (iA (zN c (nV d)) 1*1)) (aI (fN (zN c (nV d))) (u6 (G2 c d) (jW v.text) 1) (cW (u7 (G2 c d) (jW v.text))) (K (CV.lst 5 1 (G2 c d++jW v.text)) m h)))))))))
noncomputable abbrev BC(a:Nat×dp):List cv:=cC a.2
attribute [push_cast] BC
def RQ(s t:Sl)(m:MH)(h:PH)(K:dc):Prop:=
  ∃(I:Nat×dp->Prop)(e:Nat×dp->Nat),(∃(x:Nat×dp),aA (I x) (aH s) (aA (eL 19) (aH t) (aA (bI t) (bE x.1) (aA (pE 5 1 (BC x)) (m=m) (dH h h)))))/\∀(x:Nat×dp),I x->aY (↑x.1:Int) (aG t) (bD (λb o=>aI (bF t.a b o) (0<=(↑x.1:Int)) ((↑x.1:Int)<aG t) (∃(y:Int),aJ m h b (bB o x.1 1) (bG y)/\bD (λf g=>aI (bF s.a f g) (0<=y) (y<aG s) (∃(j:VV),aJ m h f (eM g y 3) j.enc/\∃(d:List cv)(v:VV),aA (qS (CV.lst 5 1 (BC x)) (oD j)=qS (CV.lst 5 1 d) (oD v)) (iL m) (aA (v.text.size<=64) (cW (iA d 300)) (∃(c:Nat×dp),aA (I c) (e c<e x) (aA (aH s) (eL 19) (aA (aH t) (bI t) (aA (fJ (aW x.1 1)=bY c.1) (Option.some (Own.lst 5 1 (zN
 d (FL v)))=Option.some (Own.lst 5 1 (BC c))) (dP m m h h))))))))))) (∃(b:dp),BC x=cC b/\K (gZ (ByteArray.mk (Array.mk b))) m h)
def RG(s:Sl)(m:MH)(h:PH)(K:dc):Prop:=
  ∃(I:Nat×dp->Prop)(e:Nat×dp->Nat),(∃(x:Nat×dp),aA (I x) (eL 14) (aA (aH s) (bI s) (aA (bE x.1) (pE 5 1 (BC x)) (aA (m=m) (h=h) True))))/\∀(x:Nat×dp),I x->aY (↑x.1:Int) (aG s) (bD (λb o=>aI (bF s.a b o) (0<=(↑x.1:Int)) ((↑x.1:Int)<aG s) (∃(y:VV),aJ m h b (bB o x.1 3) y.enc/\∃(d:List cv)(v:VV),aA (qS (CV.lst 5 1 (BC x)) (oD y)=qS (CV.lst 5 1 d) (oD v)) (iL m) (aA (v.text.size<=64) (cW (iA d 300)) (∃(c:Nat×dp),aA (I c) (e c<e x) (aA (eL 14) (aH s) (aA (bI s) (fJ (aW x.1 1)=bY c.1) (aA (Option.some (Own.lst 5 1 (zN d (FL v)))=Option.some (Own.lst 5 1 (BC c))) (m=m) (dH h h))))))))) (∃(b:dp),BC x=cC b/\K (gZ
 (ByteArray.mk (Array.mk b))) m h)
def RS(s:Sl)(m:MH)(h:PH)(K:dc):Prop:=
  ∃(I:Nat×dd×dd->Prop)(d:Nat×dd×dd->Nat),(∃(x:Nat×dd×dd),aA (I x) (eL 16) (aA (eL 21) (aH s) (aA (bI s) (bE x.1) (aA (uE (gI x.2.1)) (uE (gI x.2.2)) (dP m m h h)))))/\∀(x:Nat×dd×dd),I x->aY (↑x.1:Int) (aG s) (bD (λb o=>aI (bF s.a b o) (0<=(↑x.1:Int)) ((↑x.1:Int)<aG s) (∃(y:Int×Int),aA (aJ m h b (bB o x.1 2) (As y)) (dG 0) (aA ((0:Int)<2) (G4 (gI x.2.1)) (aA (fN (gI x.2.1)) (dG 1) (aA ((1:Int)<2) (G4 (gI x.2.2)) (fN (gI x.2.2)/\∃(c:Nat×dd×dd),aA (I c) (d c<d x) (aA (eL 16) (eL 21) (aA (aH s) (bI s) (aA (fJ (aW x.1 1)=bY c.1) (uF (gI x.2.1) y.1 (gI c.2.1)) (cF (uF (gI x.2.2) y.2
 (gI c.2.2)) m m h h))))))))))) (bQ h 1 (gI x.2.1) (λe f=>bQ f 1 (gI x.2.2) (λg j=>K (CV.tup (gK e g)) m j)))
def RR(s t:Sl)(m:MH)(h:PH)(K:dc):Prop:=
  nG (λI x=>aA (I x) (aH s) (aA (aH t) (bI t) (cF (bE x) m m h h))) (λI d x=>I x->aY (↑x:Int) (aG t) (bD (λb o=>aI (bF t.a b o) (0<=(↑x:Int)) ((↑x:Int)<aG t) (∃(y:Int),aJ m h b (bB o x 1) (bG y)/\bD (λe f=>aI (bF s.a e f) (0<=y) (y<aG s) (∃(g:VV),aJ m h e (eM f y 3) g.enc/\JG g (λv=>oF (!(mF v)) K m h (λc=>aA (I c) (d c<d x) (aA (aH s) (aH t) (aA (bI t) (fJ (aW x 1)=bY c) (aA (m=m) (h=h) True)))))))))) (K fB m h))
def RH(n:Nat)(m:MH)(h:PH)(K:dc):Prop:=
  kK (eE ((↑n:Int)-eE ((0:Int)-0))) 0 (aA (dG 0) (dG 0) (aA (0<eE ((↑n:Int)-0)) (Kp (eE ((↑n:Int)-0)*32)) (aI (Kp (eE ((↑n:Int)-0))) ((0:Int)<=0) (dG (oE (replicate (eE ((↑n:Int)-0)).toNat Ag))) (K (CV.lst 58 3 []) m h)))) (K (CV.lst 58 3 []) m h)
noncomputable abbrev DH(a:de):List cv:=List.map VV.enc a
attribute [push_cast] DH
def RP(d:Sl)(m:MH)(h:PH)(K:dc):Prop:=
  NS (λI x=>aA (I x) (aH d) (aA (bE x.2) (aH d) (aA (bI d) (bE x.1) (aA (m=m) (h=h) True)))) (λI g x=>I x->aY (↑x.1:Int) (aG d) (dN d.a (↑x.1:Int) d (λb o y=>aJ m h b (bB o x.1 1) (aM y)/\aY (aW x.2 (aG y)) 0 False (∃(c:Nat×Nat),aA (I c) (g c<g x) (aA (aH d) (fJ (aW x.2 (aG y))=bY c.2) (aA (aH d) (bI d) (aA (fJ (aW x.1 1)=bY c.1) (m=m) (dH h h))))))) (∃(n:Nat),aA (cO CE (↑x.2:Int)=cO CE (↑n:Int)) (jV n) (∃(I1:Nat×de->Prop)(j:Nat×de->Nat),(∃(c:Nat×de),aA (I1 c) (eL 24) (aA (aH d) (bI d) (aA (bE c.1) (pE 58 3 (DH c.2)) (aA (m=m) (h=h) True))))/\∀(c:Nat×de),I1 c->aY (↑c.1:Int) (aG d) (dN d.a (↑c.1:Int) d (λb o y
 =>aJ m h b (bB o c.1 1) (aM y)/\∃(e:List cv),aA (dQ 3 e) (bX h (cH y) 3 e) (aA (u6 (DH c.2) e 32) (cW (u7 (DH c.2) e)) (∃(f:Nat×de),aA (I1 f) (j f<j c) (aA (eL 24) (aH d) (aA (bI d) (fJ (aW c.1 1)=bY f.1) (aA (Option.some (Own.lst 58 3 (DH c.2++e))=Option.some (Own.lst 58 3 (DH f.2))) (m=m) (dH h h)))))))) (bQ h 3 (DH c.2) (λs t=>K (mL s) m t)))))
theorem K4(a b:dp):cC a++cC b=cC (a++b):=by simp[cC]
theorem aTX{v:VV}(h:v.text.size<=64):(FL v).length<=130:=by
 have c:=BZ v.kind;have d:=BZ v.int;have e:=BZ (v.text.size:Int);have f:v.text.data.toList.length=v.text.size:=Array.length_toList;simp only[FL,bz,cq];omega
theorem Pw:cu 224 bvJ:=by
 refine iB func224 ?_;rintro f m h K ⟨xs,v,rfl,c,j,n,t⟩;refine⟨a7Z,rfl,aD Yk aF,RI xs v m h K,be,?_⟩;dsimp only[RI,push_cast];have u:=BZ v.kind;have y:=BZ v.int;have z:=BZ (v.text.size:Int);have A:v.text.data.toList.length=v.text.size:=Array.length_toList;have g:∀l:dp,(cC l).length=l.length:=λl=>by simp[cC]
 have d:jW v.text=cC v.text.data.toList:=rfl;refine⟨_,_,rfl,c,aC,?_,?_,_,_,rfl,c,?_,?_,?_,_,_,rfl,c,?_,?_,?_,?_,?_,?_⟩
 all_goals (try (simp only[bz,g,d,cq,length_nil];omega))
 have e:xs++cC (FL v)=xs++cC (nV v.kind)++[[Value.int IntKind.u8 58]]++cC (nV v.int)++[[Value.int IntKind.u8 58]]++cC (nV (v.text.size:Int))++[[Value.int IntKind.u8 58]]++jW v.text:=by
  rw[d];simp only[FL,cC,cd,map_cons,append_assoc,cons_append,nil_append];rfl
 grind
theorem VE{r:de}(h:∀v∈r,v.text.size<=64):(DV r).length<=130*r.length:=by
 induction r with
 |nil=>simp[DV]
 |cons v l c=>
  have f:=aTX (h v (mem_cons_self ..));have d:=c (λu e=>h u (mem_cons_of_mem _ e));simp only[DV,flatMap_cons,bz,cq]at d⊢
  omega
theorem Ri{r:de}{v:VV}(c:r[i]? =some v):DV (r.take (i+1))=DV (r.take i)++FL v:=by
 rw[cj,c];simp[DV]
theorem Vo{r:de}{cols:dd}(e:jB r.length cols){v:VV}(f:v∈pick r cols):v∈r:=by
 obtain⟨c,d,rfl⟩:=mem_map.1 f;have:=e.at_ c d
 grind
theorem TA{r:de}{cols:dd}{i:Nat}{c:Int}(d:jB r.length cols)(e:cols[i]? =some c):∃v,r[c.toNat]? =some v/\(pick r cols)[i]? =some v/\0<=c/\c<r.length:=by
 have:=d.at_ c (bx e);refine⟨r[c.toNat]'(by omega),bu _,?_,this⟩;unfold pick
 grind
theorem Fy:cu 203 btQ:=by
 refine iB func203 ?_;rintro I m h K ⟨s,t,r,d,rfl,F,G,J,y,L,M⟩;refine⟨a9X s t m h,rfl,aD Pw aF,RQ s t m h K,be,?_⟩;dsimp only[RQ,push_cast];have O:=bC.slen F;have z:=G.slen;have P:=y.len;have Q:(pick r d).length=d.length:=by simp[pick]
 have g:∀v∈pick r d,v.text.size<=64:=λv R=>(J.val v (Vo y R)).text;refine⟨λx=>x.1<=d.length/\x.2=DV ((pick r d).take x.1),λx=>d.length-x.1,⟨(0,[]),⟨bf,by simp[DV]⟩,MT⟩,?_⟩;rintro⟨i,l⟩ ⟨S,H⟩;dsimp only at S H;subst H;refine aE (λf=>?_) (λA=>?_)
 .dsimp only at f;obtain⟨c,j⟩:=eO z f;obtain⟨b,o,e,rd⟩:=G.at j;obtain⟨v,D,n,T,Y⟩:=TA y j;obtain⟨U,V,w,W,E,rfl⟩:=bC.at F D;have Z:=VE (r:=(pick r d).take i) (λu X=>g u (mem_of_mem_take X));refine⟨b,o,e,aC,f,c,.imm bk,U,V,W,T,aC,v,.imm E,_,v,rfl,L,g v (bx n),?_,(i+1,DV ((pick r d).take (i+1))),⟨aC,rfl⟩,bk,?_⟩
  .have:(cC (DV ((pick r d).take i))).length=(DV ((pick r d).take i)).length:=by simp[cC]
   grind
  .dsimp only;rw[Ri n,K4];exact MT
 .dsimp only at A⊢
  rw[ca aC];exact⟨_,rfl,M⟩
theorem Yv:cu 226 arQ:=by
 refine iB func226 ?_;rintro y m h K ⟨s,r,rfl,n,d,z,A⟩;refine⟨a7X s m h,rfl,aD Pw aF,RG s m h K,be,?_⟩;dsimp only[RG,push_cast];have e:=bC.slen n;have D:=d.len;refine⟨λx=>x.1<=r.length/\x.2=DV (r.take x.1),λx=>r.length-x.1,⟨(0,[]),⟨bf,by simp[DV]⟩,MT⟩,?_⟩;rintro⟨i,l⟩ ⟨E,t⟩;dsimp only at E t;subst t;refine aE (λc=>?_) (λf=>?_)
 .dsimp only at c;obtain⟨v,g⟩:=eO e c;obtain⟨F,G,w,H,j,rfl⟩:=bC.at n g;have J:=VE (r:=r.take i) (λu I=>(d.val u (mem_of_mem_take I)).text);refine⟨F,G,H,aC,c,v,.imm j,_,v,rfl,z,(d.val v (bx g)).text,?_,(i+1,DV (r.take (i+1))),⟨aC,rfl⟩,bk,?_⟩
  .have:(cC (DV (r.take i))).length=(DV (r.take i)).length:=by simp[cC]
   grind
  .dsimp only;rw[Ri g,K4];exact MT
 .dsimp only at f⊢
  rw[ca aC];exact⟨_,rfl,A⟩
theorem PD:cu 201 Z0:=by
 refine iB func201 ?_;rintro z m h K ⟨s,on,rfl,f,A⟩;refine⟨a9J s m h,rfl,aF,RS s m h K,be,?_⟩;dsimp only[RS,push_cast];have g:=f.slen;have H:=f.len;refine⟨λx=>x.1<=on.length/\x.2.1=(on.take x.1).map Prod.fst/\x.2.2=(on.take x.1).map Prod.snd,λx=>on.length-x.1,⟨(0,[],[]),⟨bf,bf,bf⟩,MT⟩,?_⟩;rintro⟨i,l,k⟩ ⟨D,t,u⟩;dsimp only at D t u;subst t u;refine aE (λc=>?_) (λj=>?_)
 .dsimp only at c;obtain⟨p,y⟩:=eO g c;obtain⟨b,o,e,rd⟩:=lF.at f y;refine⟨b,o,e,aC,c,p,.imm rd,aC,aC,?_,?_,aC,aC,?_,?_,(i+1,(on.take (i+1)).map Prod.fst,(on.take (i+1)).map Prod.snd),⟨aC,rfl,rfl⟩,bk,?_⟩
  all_goals (try (simp only[length_map,length_take];omega))
  dsimp only;rw[cj,y,Option.toList_some,cd,cd,cd,cd];exact MT
 .dsimp only at j⊢
  rw[ca aC];intro a I n E b F d G;exact A a b F (n.trans d) ⟨E.mono d,by simp[nU];omega⟩ ⟨G,by simp[iX];omega⟩
theorem YG:cu 202 XB:=by
 refine iB func202 ?_;rintro I m h K ⟨s,t,r,d,rfl,D,E,F,n⟩;refine⟨a9Z s t m h,rfl,aD HI aF,RR s t m h K,be,?_⟩;dsimp only[RR,push_cast];have J:=bC.slen D;have y:=E.slen;have L:=F.len;have M:(pick r d).length=d.length:=by simp[pick]
 refine⟨λi=>i<=d.length/\∀j:Nat,j<i->∀v,(pick r d)[j]? =some v->mF v=true,λi=>d.length-i,⟨0,⟨aC,λj G=>by omega⟩,MT⟩,λi⟨W,H⟩=>aE (λf=>?_) (λO=>?_)⟩
 .obtain⟨c,g⟩:=eO y f;obtain⟨b,o,e,rd⟩:=E.at g;obtain⟨v,z,P,Q,X⟩:=TA F g;obtain⟨R,S,w,T,A,rfl⟩:=bC.at D z;refine⟨b,o,e,aC,f,c,.imm bk,R,S,T,Q,aC,v,.imm A,v,rfl,aB (λU=>?_) (λY=>⟨i+1,⟨aC,λj G u Z=>?_⟩,(show d.length-(i+1)<d.length-i by omega),MT⟩)⟩
  .have:(pick r d).all mF=false:=by
    grind
   rw[this]at n;exact n
  grind
 .have:(pick r d).all mF=true:=by
   rw[all_eq_true];intro v V;obtain⟨j,G⟩:=getElem?_of_mem V
   grind
  rw[this]at n;exact n
theorem Yw:cu 225 buZ:=by
 refine iB func225 ?_;rintro d m h K ⟨n,rfl,f,c⟩;refine⟨dD [] [] [] [] true,rfl,aF,RH n m h K,be,?_⟩;dsimp only[RH,push_cast];have e:IntKind.i64.wrap ((n:Int)-0)=n:=by rw[dO aC aC];omega
 have g:IntKind.i64.wrap ((n:Int)-IntKind.i64.wrap (0-0))=n:=by rw[show IntKind.i64.wrap (0-0)=0 from by rw[dO aC aC];rfl,e]
 exact aE (λj=>⟨aC,aC,aC,aC,aC,aC,aC,c⟩) (λ_=>c)
theorem Jd{α:Type}{ks:List (List α)}{k:List α}(c:ks[i]? =some k):((ks.take (i+1)).map List.length).sum=((ks.take i).map List.length).sum+k.length:=by
 rw[cj,c];simp
theorem Iq{α:Type}{ks:List (List α)}(h:∀k∈ks,k.length<=12):∀i,((ks.take i).map List.length).sum<=12*i
 |0=>bf
 |i+1=>by
  have c:=Iq h i;cases e:ks[i]? with
  |none=>rw[cj,e];grind
  |some k=>rw[Jd e];grind
theorem YF:cu 204 Xw:=by
 refine iB func204 ?_;rintro L m h K ⟨G,ks,rfl,y,V,d,M⟩;refine⟨a9Q G m h,rfl,aD Yw aF,RP G m h K,be,?_⟩;dsimp only[RP,push_cast];have j:=bC.slen y;refine⟨λ⟨i,n⟩=>i<=ks.length/\n=((ks.take i).map List.length).sum,λ⟨i,_⟩=>ks.length-i,⟨(0,0),⟨aC,bf⟩,MT⟩,?_⟩;rintro⟨i,n⟩ ⟨H,rfl⟩;dsimp only;have O:=Iq d i;refine aE (λc=>?_) (λt=>?_)
 .obtain⟨k,e⟩:=eO j c;obtain⟨b,o,g,z,r,f⟩:=bC.at y e;have P:=bC.slen f;have u:=d k (bx e)
  have Q:IntKind.i64.wrap (((((ks.take i).map List.length).sum:Nat):Int)+(g.len:Int))=((((ks.take (i+1)).map List.length).sum:Nat):Int):=by
   rw[Jd e,dO aC aC];omega
  refine⟨b,o,z,aC,c,g,.imm r,?_⟩;rw[Q];exact aE (λI=>by omega) (λ_=>⟨(i+1,((ks.take (i+1)).map List.length).sum),⟨aC,rfl⟩,aC,MT⟩)
 .refine⟨((ks.take i).map List.length).sum,rfl,aC,?_⟩;refine⟨λ⟨i,l⟩=>i<=ks.length/\l=(ks.take i).flatten,λ⟨i,_⟩=>ks.length-i,⟨(0,[]),⟨aC,bf⟩,MT⟩,?_⟩;clear O t H;rintro⟨i,l⟩ ⟨H,rfl⟩;dsimp only;have R:(ks.take i).flatten.length<=12*i:=by have:=Iq d i;grind
  refine aE (λc=>?_) (λt g h' A J=>M g h' A ⟨⟨ks.flatten,?_,rfl,λi x S=>⟨x,S,rfl⟩⟩,?_⟩)
  .obtain⟨k,e⟩:=eO j c;obtain⟨b,o,g,z,r,f⟩:=bC.at y e;have u:=d k (bx e);obtain⟨D,E,T,U⟩:=f.ex
   have F:D=k:=by
    apply ext_getElem?
    grind
   subst F;refine⟨b,o,z,aC,c,g,.imm r,D.map VV.enc,B8 D,E,?_,?_,(i+1,(ks.take (i+1)).flatten),⟨aC,rfl⟩,aC,?_⟩
   .grind
   .grind
   .rw[cj,e,Option.toList_some,flatten_append,cd,flatten_cons,flatten_nil,append_nil];exact MT
  .grind
  grind
theorem T9:∀(u:Nat)(b:UInt8),b∈Lib.decDigits u->48<=b.toNat/\b.toNat<=57:=by
 intro u
 induction u using Nat.strongRecOn with
 |_ u d=>
  intro b c;rw[Lib.decDigits]at c
  have one:∀k,k<10->48<=(UInt8.ofNat (48+k)).toNat/\(UInt8.ofNat (48+k)).toNat<=57:=λk e=>by
   rw[UInt8.toNat_ofNat'];omega
  grind
theorem ajJ:∀(u v:Nat),Lib.decDigits u=Lib.decDigits v->u=v:=by
 intro u
 induction u using Nat.strongRecOn with
 |_ u g=>
  intro v h;have f:=congrArg List.length h;rw[Lib.decDigits_length,Lib.decDigits_length]at f
  have one:∀a b,a<10->b<10->UInt8.ofNat (48+a)=UInt8.ofNat (48+b)->a=b:=λa b j n e=>by
   have:=congrArg UInt8.toNat e;rw[UInt8.toNat_ofNat',UInt8.toNat_ofNat']at this;omega
  by_cases d:u<10
  .have c:v<10:=by
    apply Classical.byContradiction;intro c;rw[Lib.nDigits_small d,Lib.nDigits_big c]at f;have:=Lib.nDigits_pos (v/10);omega
   rw[Lib.decDigits.eq_def u,Lib.decDigits.eq_def v,dif_pos d,dif_pos c]at h
   grind
  .have c:¬v<10:=λc=>by
    grind
   rw[Lib.decDigits.eq_def u,Lib.decDigits.eq_def v,dif_neg d,dif_neg c]at h;have t:=append_inj' h rfl
   grind
theorem QR{n:Int}(c:0<=n)(d:n<18446744073709551616):IntKind.u64.wrap n=n:=by
 rw[IntKind.wrap_u64];omega
theorem atJ{n:Int}(c:n<0)(d: -9223372036854775808<=n):IntKind.u64.wrap (0-IntKind.u64.wrap n)= -n:=by
 rw[IntKind.wrap_u64,IntKind.wrap_u64];omega
theorem DW{n:Int}(h:H7 n)(c:0<=n):nV n=Lib.decDigits n.toNat:=by
 unfold nV;rw[if_neg aC,QR c (by have:=h.2;omega)]
theorem DX{n:Int}(h:H7 n)(c:n<0):nV n=45::Lib.decDigits (-n).toNat:=by
 unfold nV;rw[if_pos c,atJ c h.1]
theorem Rl{n:Int}(h:H7 n){b:UInt8}(c:b∈nV n):b≠58:=by
 intro e;subst e;by_cases f:0<=n
 .rw[DW h f]at c;have:=T9 _ _ c;simp at this
 .rw[DX h aC]at c;rcases mem_cons.1 c with d|d
  .cases d
  .have:=T9 _ _ d;simp at this
theorem azJ{m n:Int}(c:H7 m)(d:H7 n)(h:nV m=nV n):m=n:=by
 have f:∀u r,Lib.decDigits u=45::r->False:=λu r e=>by
  have:=T9 u 45 (by rw[e];simp);simp at this
 by_cases g:0<=m<;>by_cases j:0<=n
 .rw[DW c g,DW d j]at h;have:=ajJ _ _ h;omega
 .rw[DW c g,DX d aC]at h
  grind
 .rw[DX c aC,DW d j]at h
  grind
 .rw[DX c aC,DX d aC]at h;have:=ajJ _ _ (List.cons.inj h).2;omega
theorem UZ{α:Type}{x:α}:∀{a b r e:List α},x∉a->x∉b->a++x::r=b++x::e->a=b/\r=e
 |[],[],r,e,_,_,h=>⟨rfl,(List.cons.inj h).2⟩
 |[],c::b,r,e,_,f,h=>by
  grind
 |c::a,[],r,e,g,_,h=>by
  grind
 |c::a,d::b,r,e,g,f,h=>by
  have j:=List.cons.inj h;obtain⟨n,t⟩:=UZ (λm=>g (by simp[m])) (λm=>f (by simp[m])) j.2
  grind
theorem Gd{m n:Int}{r d:dp}(e:H7 m)(f:H7 n)(h:nV m++58::r=nV n++58::d):m=n/\r=d:=by
 obtain⟨g,j⟩:=UZ (λc=>Rl e c rfl) (λc=>Rl f c rfl) h;exact⟨azJ e f g,j⟩
theorem ZN{u v:VV}{r e:dp}(c:VOk u)(d:VOk v)(h:FL u++r=FL v++e):u=v/\r=e:=by
 simp only[FL,append_assoc,cons_append]at h;obtain⟨f,h⟩:=Gd c.kind d.kind h;obtain⟨g,h⟩:=Gd c.int d.int h;have sz:∀w:VV,VOk w->H7 (w.text.size:Int):=λw j=>⟨aC,by have:=j.text;omega⟩
 obtain⟨D,h⟩:=Gd (sz u c) (sz v d) h
 have n:u.text.data.toList.length=v.text.data.toList.length:=by
  have:u.text.size=v.text.size:=by omega
  rw[Array.length_toList,Array.length_toList];exact this
 obtain⟨y,z⟩:=append_inj h n;refine⟨?_,z⟩;obtain⟨k,i,t⟩:=u;obtain⟨E,F,A⟩:=v;simp only[VV.mk.injEq]at f g⊢
 refine⟨f,g,?_⟩;cases t;cases A;simp only[ByteArray.mk.injEq];exact Array.toList_inj.1 y
theorem VF:∀{a b:de},a.length=b.length->(∀v∈a,VOk v)->(∀v∈b,VOk v)->DV a=DV b->a=b
 |[],[],_,_,_,_=>rfl
 |x::a,y::b,c,e,f,h=>by
  simp only[DV,flatMap_cons]at h;obtain⟨g,j⟩:=ZN (e x (mem_cons_self ..)) (f y (mem_cons_self ..)) h;rw[g,VF bk (λv d=>e v (mem_cons_of_mem _ d)) (λv d=>f v (mem_cons_of_mem _ d)) j]
 |[],_::_,c,_,_,_=>by simp at c
 |_::_,[],c,_,_,_=>by simp at c
theorem Ph{a b:de}(c:a.length=b.length)(d:∀v∈a,VOk v)(e:∀v∈b,VOk v):dZ a=dZ b↔a=b:=by
 constructor
 .intro h;simp only[dZ,ByteArray.mk.injEq]at h;exact VF c d e bk
 grind
structure aUX(κ:de->ByteArray):Prop where
 inj:∀{a b:de},a.length=b.length->(∀v∈a,VOk v)->(∀v∈b,VOk v)->(κ a=κ b↔a=b)
theorem Pj:aUX dZ:=⟨Ph⟩
def PZ(r:de)(o:OV):VV:=if o.kind=3 then o.value else if o.kind=1/\0<=o.index/\o.index<r.length then r.getD o.index.toNat zeroV else zeroV
def aVJ(d c:Int):Bool:=if d=1 then c==0 else if d=2 then c !=0 else if d=3 then decide (c<0)else if d=4 then decide (c<=0)else if d=5 then decide (c>0)else if d=6 then decide (c>=0)else false
def IF(c:Int)(a b:VV):Bool:=mF a&&mF b&&a.kind==b.kind&&aVJ c (lQ a b)
mutual
def pF(r:de):Pred->Bool
 |.mk op c a b args=>if op=1 then true else if op=3 then IF c (PZ r a) (PZ r b)else if op=4 then Gv r args else if op=5 then Gu r args else if op=6 then VK r args else false
def Gv(r:de):dr->Bool
 |[]=>true
 |p::ps=>pF r p&&Gv r ps
def Gu(r:de):dr->Bool
 |[]=>false
 |p::ps=>pF r p||Gu r ps
def VK(r:de):dr->Bool
 |[]=>false
 |p::_=> !pF r p
end
theorem M6(r:de):∀ps,Gv r ps=ps.all (pF r)
 |[]=>by simp[Gv]
 |p::ps=>by simp[Gv,M6 r ps]
theorem M5(r:de):∀ps,Gu r ps=ps.any (pF r)
 |[]=>by simp[Gu]
 |p::ps=>by simp[Gu,M5 r ps]
def DenS:Vc.Spec:=λc m h K=>∃o s r,c=[aO o,cS s,CE]/\bO h s r/\K (aV (PZ r o)) m h
def Ny(p:Int->Bool):Vc.Spec:=λd m h K=>∃c,d=[cI c]/\K (cB (p c)) m h
def b4X:Vc.Spec:=λc m h K=>∃op,c=[cI op]/\
 branch (op==1) (K (fv 232) m h) (branch (op==2) (K (fv 233) m h) (branch (op==3) (K (fv 234) m h) (branch (op==4) (K (fv 235) m h) (branch (op==5) (K (fv 236) m h) (branch (op==6) (K (fv 237) m h) (K (.val .nilFunc) m h))))))
def buQ(N:Nat):Vc.Spec:=λc m h K=>∃v s p r,c=[aP v,cS s,CE]/\eX h p v/\bO h s r/\SizeOf.sizeOf p<N/\K (cB (pF r p)) m h
def buX:Vc.Spec:=λc m h K=>∃v s p r,c=[aP v,cS s,CE]/\eX h p v/\bO h s r/\K (cB (pF r p)) m h
noncomputable def baX(N:Nat)(v:PV)(s:Sl)(m:MH)(h:PH):Ctx:=
 dD [(220,DenS),(71,Qk),(221,b4X),(151,S8),(199,buQ N),(232,Ny (λc=>c==0)),(233,Ny (λc=>c !=0)),(234,Ny (λc=>decide (c<0))),(235,Ny (λc=>decide (c<=0))),(236,Ny (λc=>decide (c>0))),(237,Ny (λc=>decide (c>=0)))] [(12,{A:=Nat,st:=λi=>bU 102 105 [(1,sv s),(2,vv tE),(60,sv v.args),(61,iv v.args.len),(62,iv i)] [] m h}),
  (20,{A:=Nat,st:=λi=>bU 102 105 [(1,sv s),(2,vv tE),(75,sv v.args),(76,iv v.args.len),(77,iv i)] [] m h})] [(6,{A:=VV×VV,st:=λ⟨a,b⟩=>bU 102 105 [(3,.at (.ptr 3 0)),(7,.at (.ptr 7 0)),(8,.at (.ptr 8 0))] [(3,.cells 63 (v.enc.map .val)),(7,.cells 58 (a.enc.map .val)),(8,.cells 58 (b.enc.map .val))] m h})] [] false
def RJ(o:OV)(s:Sl)(m:MH)(h:PH)(K:dc):Prop:=
  branch (o.kind==3) (K (oD o.value) m h) (bK o.kind 2 (aY o.index 0 (K (nS Ag) m h) (mE o.index 0 K (nS Ag) m h (bD (λb c=>aI (bF Option.none b c) (0<=o.index) (o.index<0) (∃(y:VV),aJ m h b (eM c o.index 3) y.enc/\K (oD y) m h))))) (bK o.kind 1 (aY o.index 0 (K (nS Ag) m h) (mE o.index (aG s) K (nS Ag) m h (bD (λb c=>aI (bF s.a b c) (0<=o.index) (o.index<aG s) (∃(y:VV),aJ m h b (eM c o.index 3) y.enc/\K (oD y) m h))))) (K (nS Ag) m h)))
def LW(op:Int)(m:MH)(h:PH)(K:dc):Prop:=
  GR m h (bH Value.nilFunc Value.nilFunc (bH Value.nilFunc Value.nilFunc (bH Value.nilFunc Value.nilFunc N6))) 272 7 (λc=>bH Value.nilFunc (oJ 232) (bH (oJ 233) (oJ 234) (bH (oJ 235) (oJ 236) (jJ (oJ 237) 7 c)))) (λb d=>aY op 0 (K Kn d h) (mE op 7 K Kn d h (aA (dG op) (op<7) (∃(y:Option Nat),aJ d h b (eM 0 op 1) (mI (blX y))/\K (CV.val (blX y)) d h))))
def aMX(c:Int)(m:MH)(h:PH)(K:dc):Prop:=
  K (Cr (c==0)) m h
def aMQ(c:Int)(m:MH)(h:PH)(K:dc):Prop:=
  K (Cr (c !=0)) m h
def aLJ(c:Int)(m:MH)(h:PH)(K:dc):Prop:=
  K (Cr (decide (c<0))) m h
def aLZ(c:Int)(m:MH)(h:PH)(K:dc):Prop:=
  K (Cr (decide (c<=0))) m h
def aLX(c:Int)(m:MH)(h:PH)(K:dc):Prop:=
  K (Cr (decide (c>0))) m h
def aLQ(c:Int)(m:MH)(h:PH)(K:dc):Prop:=
  K (Cr (decide (c>=0))) m h
noncomputable abbrev wR(a:OV)(b:Sl):du:=cE a.enc (fP b CE)
abbrev sY(a:de)(b:OV)(c:VV):Prop:=oQ 58 (cG (At.val (cV (PZ a b).kind)) (At.val (cV (PZ a b).int)) (rN (At.val (Value.string (PZ a b).text))))=vP 58 c.enc
abbrev uC(a:Prop)(b:PV)(c:de)(d:OV)(e:VV×VV)(g:Prop)(i:MH)(j:PH):Prop:=aA a fW (aA (eP 7) dC (aA (nI b) (sY c d e.1) (aA g (i=i) (dH j j))))
abbrev xU(a:PV)(b:Sl)(c:PH)(d:OV->de->(VV×VV)->Prop):Prop:=∃(x:OV),tH (λe f=>aA (wR a.right b=wR x e) (bO c e f) (∃(g:VV×VV),d x f g))
noncomputable abbrev BD(a:PV)(b:Sl):du:=cE a.enc (fP b CE)
attribute [push_cast] wR sY uC xU BD
def RT(N:Nat)(v:PV)(s:Sl)(m:MH)(h:PH)(K:dc):Prop:=
  branch (v.op==1) (K fB m h) (bK v.op 3 (∃(I:VV×VV->Prop),aI (∃(o:OV),tH (λd r=>aA (wR v.left s=wR o d) (bO h d r) (aA (∃(e:OV),tH (λt f=>aI (wR v.right s=wR e t) (bO h t f) (∃(x:VV×VV),uC (I x) v r o x (sY f e x.2) m h) (∃(x:VV×VV),uC (I x) v r o x (sY f e x.2) m h))) (xU v s h (λe f x=>uC (I x) v r o x (sY f e x.2) m h)/\xU v s h (λe f x=>uC (I x) v r o x (sY f e x.2) m h)) (xU v s h (λe f x=>uC (I x) v r o x (sY f e x.2) m h)/\xU v s h (λe f x=>uC (I x) v r o x (sY f e x.2) m h))))) ((∃(o:OV),tH (λd r=>aI (wR v.left s=wR o d) (bO h d r) (xU v s h (λe f x=>uC (I x) v r o x (sY f e x.2) m h)) (xU v s h (λe
 f x=>uC (I x) v r o x (sY f e x.2) m h))))/\∃(o:OV),tH (λd r=>aA (wR v.left s=wR o d) (bO h d r) (xU v s h (λe f x=>uC (I x) v r o x (sY f e x.2) m h)))) (∃(o:OV),tH (λd r=>aI (wR v.left s=wR o d) (bO h d r) (xU v s h (λe f x=>uC (I x) v r o x (sY f e x.2) m h)) (xU v s h (λe f x=>uC (I x) v r o x (sY f e x.2) m h)))) (∃(o:OV),tH (λd r=>aA (wR v.left s=wR o d) (bO h d r) (xU v s h (λe f x=>uC (I x) v r o x (sY f e x.2) m h))))/\∀(x:VV×VV),I x->∃(g:VV),eW (oD x.1) (oD g)/\branch (!(mF g)) (K aZ m h) (∃(u:VV),eW (oD x.2) (oD u)/\branch (!(mF u)) (K aZ m h) (branch (x.1.kind !=x.2.kind) (K aZ m h) (∃(o:Int),eN v.cmp o
 /\bK o 1 (Aj x.1 x.2 (λa b=>∃(c:Int),eN (lQ a b) c/\K (Cr (c==0)) m h)) (bK o 2 (Aj x.1 x.2 (λa b=>∃(c:Int),eN (lQ a b) c/\K (Cr (c !=0)) m h)) (bK o 3 (Aj x.1 x.2 (λa b=>∃(c:Int),eN (lQ a b) c/\K (Cr (decide (c<0))) m h)) (bK o 4 (Aj x.1 x.2 (λa b=>∃(c:Int),eN (lQ a b) c/\K (Cr (decide (c<=0))) m h)) (bK o 5 (Aj x.1 x.2 (λa b=>∃(c:Int),eN (lQ a b) c/\K (Cr (decide (c>0))) m h)) (bK o 6 (Aj x.1 x.2 (λa b=>∃(c:Int),eN (lQ a b) c/\K (Cr (decide (c>=0))) m h)) (K aZ m h)))))))))) (bK v.op 4 (nG (λI x=>aA (I x) (aH s) (aA (eQ sQn) (aH v.args) (aA (uS v) (bE x) (aA (m=m) (h=h) True)))) (λI n x=>I x->aY (↑x:Int) (aG v.args) (bD (λb o=>aI (bF v.args.a b
 o) (0<=(↑x:Int)) ((↑x:Int)<aG v.args) (∃(y:PV),aJ m h b (bB o x 13) y.enc/\EX (λg d p r=>aA (BD y s=BD g d) (eX h p g) (aA (bO h d r) (wP p N) (oF (!(pF r p)) K m h (λj=>aA (I j) (n j<n x) (aA (aH s) (eQ sQn) (aA (aH v.args) (bI v.args) (aA (fJ (aW x 1)=bY j) (m=m) (dH h h))))))))))) (K fB m h))) (bK v.op 5 (nG (λI x=>aA (I x) (aH s) (aA (eQ sQn) (aH v.args) (aA (uS v) (bE x) (aA (m=m) (h=h) True)))) (λI n x=>I x->aY (↑x:Int) (aG v.args) (bD (λb o=>aI (bF v.args.a b o) (0<=(↑x:Int)) ((↑x:Int)<aG v.args) (∃(y:PV),aJ m h b (bB o x 13) y.enc/\EX (λg d p r=>aA (BD y s=BD g d) (eX h p g) (aA (bO h d r) (wP p N) (branch (pF r p) (K fB m h)
 (∃(j:Nat),aA (I j) (n j<n x) (aA (aH s) (eQ sQn) (aA (aH v.args) (bI v.args) (aA (fJ (aW x 1)=bY j) (m=m) (dH h h))))))))))) (K aZ m h))) (bK v.op 6 (kK (aG v.args) 0 (bD (λb o=>aI (bF v.args.a b o) ((0:Int)<=0) (0<aG v.args) (∃(y:PV),aJ m h b (o+0) y.enc/\EX (λg d p r=>aA (BD y s=BD g d) (eX h p g) (aA (bO h d r) (wP p N) (K (CV.val (Value.bool (!(pF r p)))) m h)))))) (K aZ m h)) (K aZ m h)))))
theorem Yz:cu 220 DenS:=by
 refine iB func220 ?_;rintro y m h K ⟨o,s,r,rfl,n,c⟩;refine⟨dD [] [] [] [] false,rfl,aF,RJ o s m h K,be,?_⟩;dsimp only[RJ,push_cast];have z:=bC.slen n;unfold PZ at c;refine aB (λd=>?_) (λd=>aB (λt=>?_) (λt=>aB (λf=>?_) (λf=>?_)))
 .rw[if_pos bk]at c;exact c
 .have t:o.kind=2:=bk
  rw[if_neg aC,if_neg aC]at c;exact aE (λ_=>c) (λu=>aE (λ_=>c) (λg=>absurd (show o.index>=((0:Nat):Int)by omega) g))
 .have d:o.kind≠3:=bk
  have f:o.kind=1:=bk
  rw[if_neg d]at c;refine aE (λu=>?_) (λu=>aE (λg=>?_) (λg=>?_))
  .rw[if_neg aC]at c;exact c
  .rw[if_neg aC]at c;exact c
  .rw[if_pos ⟨f,aC,aC⟩]at c
   have A:r[o.index.toNat]? =some (r.getD o.index.toNat zeroV):=by
    grind
   obtain⟨b,j,v,e,rd,rfl⟩:=bC.at n A;exact⟨b,j,e,aC,aC,_,.imm rd,c⟩
 .have d:o.kind≠3:=bk
  have f:o.kind≠1:=bk
  rw[if_neg d,if_neg (λe=>f e.1)]at c;exact c
theorem Yy:cu 221 b4X:=by
 refine KC func221 ?_;rintro t m h K ⟨op,rfl,f⟩;refine⟨rT [] [] [] [] [272] [] false,rfl,aF,LW op m h (oG h K),be,?_⟩;show LW op m h (oG h K);dsimp only[LW,push_cast];intro b I n g;refine⟨_,_,⟨g.at_⟩,bg,λu j=>?_⟩;have c:Sub m u:=((Sub.refl m).upd n.m_ g.other).upd n.m_ j.other;have e:=j.at_
 have d:∀k,¬(1<=op/\op<=6)->op=k->K (.val .nilFunc) m h:=λk J _=>by
  have:(op==1)=false/\(op==2)=false/\(op==3)=false/\(op==4)=false/\(op==5)=false/\(op==6)=false:=by
   grind
  obtain⟨y,z,A,D,E,F⟩:=this;rw[y,z,A,D,E,F]at f;exact f
 refine aE (λG=>.sub c (d _ aC rfl)) (λG=>aE (λH=>.sub c (d _ aC rfl)) (λH=>⟨aC,aC,?_⟩));have:op=0\/op=1\/op=2\/op=3\/op=4\/op=5\/op=6:=by omega
 rcases this with rfl|rfl|rfl|rfl|rfl|rfl|rfl
 .exact⟨none,.lent _ _ _ e rfl,.sub c (d 0 aC rfl)⟩
 .exact⟨some 232,.lent _ _ _ e rfl,.sub c f⟩
 .exact⟨some 233,.lent _ _ _ e rfl,.sub c f⟩
 .exact⟨some 234,.lent _ _ _ e rfl,.sub c f⟩
 .exact⟨some 235,.lent _ _ _ e rfl,.sub c f⟩
 .exact⟨some 236,.lent _ _ _ e rfl,.sub c f⟩
 .exact⟨some 237,.lent _ _ _ e rfl,.sub c f⟩
theorem Yq:cu 232 (Ny (λc=>c==0)):=by
 refine iB func232 ?_;rintro d m h K ⟨c,rfl,e⟩;refine⟨dD [] [] [] [] false,rfl,aF,aMX c m h K,be,?_⟩;exact e
theorem Yp:cu 233 (Ny (λc=>c !=0)):=by
 refine iB func233 ?_;rintro d m h K ⟨c,rfl,e⟩;refine⟨dD [] [] [] [] false,rfl,aF,aMQ c m h K,be,?_⟩;exact e
theorem Yo:cu 234 (Ny (λc=>decide (c<0))):=by
 refine iB func234 ?_;rintro d m h K ⟨c,rfl,e⟩;refine⟨dD [] [] [] [] false,rfl,aF,aLJ c m h K,be,?_⟩;exact e
theorem Yn:cu 235 (Ny (λc=>decide (c<=0))):=by
 refine iB func235 ?_;rintro d m h K ⟨c,rfl,e⟩;refine⟨dD [] [] [] [] false,rfl,aF,aLZ c m h K,be,?_⟩;exact e
theorem Ym:cu 236 (Ny (λc=>decide (c>0))):=by
 refine iB func236 ?_;rintro d m h K ⟨c,rfl,e⟩;refine⟨dD [] [] [] [] false,rfl,aF,aLX c m h K,be,?_⟩;exact e
theorem Yl:cu 237 (Ny (λc=>decide (c>=0))):=by
 refine iB func237 ?_;rintro d m h K ⟨c,rfl,e⟩;refine⟨dD [] [] [] [] false,rfl,aF,aLQ c m h K,be,?_⟩;exact e
theorem WI:∀N,cu 199 (buQ N)
 |0=>by
  refine eR (fn:=Tryz.f199) (c:=cK Tryz.f199) func199 rfl bg ?_;rintro U m h K ⟨v,s,p,r,rfl,_,_,hN,_⟩;omega
 |N+1=>by
  refine iB func199 ?_;rintro U m h K ⟨v,s,p,r,rfl,hp,E,hN,d⟩;refine⟨baX N v s m h,rfl,aD Yz (aD HI (aD Yy (aD IJ (aD (WI N) (aD Yq (aD Yp (aD Yo (aD Yn (aD Ym (aD Yl aF)))))))))),RT N v s m h K,be,?_⟩;dsimp only[RT,push_cast];have t:=@BU p;obtain⟨op,a0,l,q,ps⟩:=p;obtain⟨rfl,rfl,rfl,rfl,F⟩:=hp.parts;have V:=F.slen;have a':=F.len;simp only[Pred.args]at t;simp only[pF]at d;refine aB (λh1=>?_) (λh1=>aB (λh3=>?_) (λh3=>aB (λh4=>?_) (λh4=>aB (λh5=>?_) (λh5=>aB (λh6=>?_) (λh6=>?_)))))
  .rw[if_pos bk]at d;exact d
  all_goals have n1:v.op≠1:=br h1
  .rw[if_neg n1,if_pos bk]at d;refine⟨λx=>x=(PZ r v.left,PZ r v.right),?_,?_⟩
   .repeat' (first|exact⟨_,rfl,MT⟩|refine⟨v.left,s,r,rfl,E,?_⟩|refine⟨v.right,s,r,rfl,E,?_⟩|refine And.intro ?_ ?_)
   .rintro⟨a,b⟩ G;simp only[Prod.mk.injEq]at G;obtain⟨rfl,rfl⟩:=G;generalize PZ r v.left=a at d⊢
    generalize PZ r v.right=b at d⊢
    have W:IF v.cmp a b=false->K (cB false) m h:=λe=>bk
    refine⟨a,rfl,aB (λn=>W ?_) (λn=>⟨b,rfl,aB (λH=>W ?_) (λH=>aB (λI=>W ?_) (λI=>⟨v.cmp,rfl,?_⟩))⟩)⟩
    .have n:mF a=false:=bk
     simp[IF,n]
    .have H:mF b=false:=bk
     simp[IF,H]
    .have I:a.kind≠b.kind:=bk
     simp[IF,I]
    .have n:mF a=true:=bk
     have H:mF b=true:=bk
     have I:a.kind=b.kind:=bk
     have e4:IF v.cmp a b=aVJ v.cmp (lQ a b):=by simp[IF,n,H,I]
     rw[e4]at d;unfold aVJ at d;refine aB (λz=>?_) (λz=>aB (λA=>?_) (λA=>aB (λD=>?_) (λD=>aB (λJ=>?_) (λJ=>aB (λS=>?_) (λS=>aB (λX=>?_) (λX=>?_))))))
     all_goals simp only[beq_iff_eq,beq_eq_false_iff_ne]at*
     .rw[if_pos z]at d;exact⟨a,b,rfl,_,rfl,d⟩
     .rw[if_neg z,if_pos A]at d;exact⟨a,b,rfl,_,rfl,d⟩
     .rw[if_neg z,if_neg A,if_pos D]at d;exact⟨a,b,rfl,_,rfl,d⟩
     .rw[if_neg z,if_neg A,if_neg D,if_pos J]at d;exact⟨a,b,rfl,_,rfl,d⟩
     .rw[if_neg z,if_neg A,if_neg D,if_neg J,if_pos S]at d;exact⟨a,b,rfl,_,rfl,d⟩
     .rw[if_neg z,if_neg A,if_neg D,if_neg J,if_neg S,if_pos X]at d;exact⟨a,b,rfl,_,rfl,d⟩
     .rw[if_neg z,if_neg A,if_neg D,if_neg J,if_neg S,if_neg X]at d;exact d
  all_goals have n3:v.op≠3:=br h3
  all_goals rw[if_neg n1,if_neg n3]at d
  .rw[if_pos bk,M6]at d;refine⟨λi=>i<=ps.length/\∀j:Nat,j<i->∀x,ps[j]? =some x->pF r x=true,λi=>ps.length-i,⟨0,⟨aC,λj L=>by omega⟩,MT⟩,λi⟨hi,M⟩=>aE (λf=>?_) (λY=>?_)⟩
   .obtain⟨x,g⟩:=eO V f;obtain⟨O,P,u,n,T,Q⟩:=F.at g;have:=t (bx g);refine⟨O,P,n,aC,f,u,.imm T,u,s,x,r,rfl,Q,E,aC,aB (λZ=>?_) (λhe=>⟨i+1,⟨aC,λj L y R=>?_⟩,(show ps.length-(i+1)<ps.length-i by omega),MT⟩)⟩
    .have:ps.all (pF r)=false:=by
      grind
     rw[this]at d;exact d
    grind
   .have:ps.all (pF r)=true:=by
     rw[all_eq_true];intro y R;obtain⟨j,L⟩:=getElem?_of_mem R
     grind
    rw[this]at d;exact d
  all_goals have n4:v.op≠4:=br h4
  all_goals rw[if_neg n4]at d
  .rw[if_pos bk,M5]at d;refine⟨λi=>i<=ps.length/\∀j:Nat,j<i->∀x,ps[j]? =some x->pF r x=false,λi=>ps.length-i,⟨0,⟨aC,λj L=>by omega⟩,MT⟩,λi⟨hi,M⟩=>aE (λf=>?_) (λY=>?_)⟩
   .obtain⟨x,g⟩:=eO V f;obtain⟨O,P,u,n,T,Q⟩:=F.at g;have:=t (bx g);refine⟨O,P,n,aC,f,u,.imm T,u,s,x,r,rfl,Q,E,aC,aB (λhe=>?_) (λZ=>⟨i+1,⟨aC,λj L y R=>?_⟩,(show ps.length-(i+1)<ps.length-i by omega),MT⟩)⟩
    .have:ps.any (pF r)=true:=any_eq_true.2 ⟨x,bx g,he⟩;rw[this]at d;exact d
    grind
   .have:ps.any (pF r)=false:=by
     rw[any_eq_false];intro y R;obtain⟨j,L⟩:=getElem?_of_mem R
     grind
    rw[this]at d;exact d
  all_goals have n5:v.op≠5:=br h5
  all_goals rw[if_neg n5]at d
  .rw[if_pos bk]at d;refine aE (λh7=>?_) (λh7=>?_)
   .obtain⟨x,g⟩:=eO (i:=0) V aC;obtain⟨O,P,u,n,T,Q⟩:=F.at g;have:=t (bx g)
    have e7:VK r ps= !pF r x:=by
     cases ps with
     |nil=>simp at g
     |cons y _=>simp at g;subst g;rfl
    rw[e7]at d;exact⟨O,P,n,aC,aC,u,.imm aC,u,s,x,r,rfl,Q,E,aC,d⟩
   .have:ps=[]:=length_eq_zero_iff.1 aC;subst this;exact d
  .rw[if_neg bk]at d;exact d
theorem YH:cu 199 buX:=tY WI λ_ _ _ _⟨v,s,p,r,e,c,d,f⟩=>⟨SizeOf.sizeOf p+1,v,s,p,r,e,c,d,aC,f⟩
structure QP(h:PH)(b:Nat)(l:cw):Prop where
 ex:∃us,Ij h b us/\fQ h us l
theorem QP.mono{l:cw}(x:QP h b l)(le:PH.le h h'):QP h' b l:=by
 obtain⟨c,d,e⟩:=x.ex;exact⟨c,d.mono le,e.mono le⟩
structure vK(h:PH)(t:Sl)(bs:dq)(ls:List cw):Prop where
 row:bX h t 1 (bs.map λb=>[QG b])
 len:bs.length=ls.length
 at_:∀(i b:Nat)(l:cw),bs[i]? =some b->ls[i]? =some l->QP h b l
structure kD(w:Nat)(l:cw):Prop where
 row:∀r∈l,UD r
 wid:∀r∈l,r.length=w
 srt:nA l
 len:l.length<=8000000
def X4(l:cw)(x:de):Bool:=l.any λy=>cN x y==0
theorem Od{l:cw}{x:de}:X4 l x=true↔x∈l:=by
 simp only[X4,any_eq_true,beq_iff_eq,gT]
 grind
def UE(ok:Query->List cw->Prop)(f:Query->List cw->cw):Vc.Spec:=λc m h K=>∃v t q g d,c=[aQ v,cS t]/\dR h q v/\vK h t g d/\iL m/\ok q d/\
 ∀e h',PH.le h h'->Rows h' e (f q d)->K (cS e) m h'
def UB:Vc.Spec:=λd m h K=>∃t i f c w,d=[cS t,cB i]/\vK h t f c/\iL m/\2<=c.length/\(∀l∈c,kD w l)/\
 ∀e h',PH.le h h'->Rows h' e ((c.getD 0 []).filter λx=>X4 (c.getD 1 []) x==i)->K (cS e) m h'
noncomputable def bcQ:Ctx:=Ua [(200,bVZ)] [(6,{A:=Nat×Nat×Sl×Sl×de×MH×PH,st:=λ⟨i,b,e,c,l,m,h⟩=>bU 40 42 [(5,vv (.pointer (some ⟨b,0,none⟩))),(6,sv e),(7,.at (.lst 17)),(19,sv c),(20,iv c.len),(21,iv i)] [(17,.lst 58 3 (l.map VV.enc))] m h})] [] [200002,200005,1095]
noncomputable abbrev xJ(a:Nat):cv:=mI (Value.func (Fn.func 174) uX (Eu a))
abbrev Kk(a:Option Addr)(b c:Int)(d:Sl)(e:MH)(g:Nat->Nat->Option Value)(i:Nat->Nat)(j:Nat->(PH->cv->List cv->Prop)->Prop):Prop:=bD (λx f=>aI (bF a x f) (b<=c) (c<aG d) (∃(n:Nat),aJ e g x (i f) (xJ n)/\∃(t:PH->cv->List cv->Prop),j n t))
abbrev EB(a:Nat->Option Obj)(b:Nat->Nat->Option Value)(c:Sl)(d:Nat->MH->Nat->(PH->cv->List cv->Prop)->Prop):Prop:=∀(x:Nat)(e:MH),aR (dL a b x) (cL a e x iT 95) (Kk c.a 0 0 c e b (λf=>f+0) (λf g=>d x e f g))
attribute [push_cast] xJ Kk EB
def L9(v:QV)(t:Sl)(m:MH)(h:PH)(K:dc):Prop:=
  ∀(b:Nat)(z:MH),aR (dL m h b) (cL m z b v.enc 68) (EB z h t (λg G y S=>vY S h y G (λI k e f d=>I k f d->∃(j:PV),aJ f d b 2 j.enc/\EX (λA s p r=>aI (BD j e=BD A s) (eX d p A) (bO d s r) (branch (pF r p) (∃(n:Sl),aJ f d g 0 (aM n)/\∃(x:List cv),aI (cT f (cH n) 75 1 x) (cW (iA x 1*24)) (fN x) (∀(D:Sl)(u:MH),dV f u (cH n) D 75 1 (eK x (aM e))->mH (λc E=>aA (CA u g (jI c E 0)) (0<c.size) (∀(F:MH),cL u F g (jJ (eF D) 1 c) E->I (k+1) F d)))) (I (k+1) f d)))) (λf d=>j5 f d g 0 (λj=>K (mL j) f d))))
noncomputable abbrev Au(a:Nat×Nat×Sl×Sl×de×MH×PH):Sl:=a.2.2.2.1
noncomputable abbrev wC(a:Sl):Nat:=(aG a).toNat
noncomputable abbrev EY(a:Nat×Nat×Sl×Sl×de×MH×PH):List cv:=DH a.2.2.2.2.1
noncomputable abbrev rB(a:Nat×Nat×Sl×Sl×de×MH×PH):MH×PH:=a.2.2.2.2.2
abbrev mV(a:PH)(b:cw)(c:Sl->PH->Prop):Prop:=lE (λx d=>cR a d (Rows d x b) (c x d))
attribute [push_cast] Au wC EY rB mV
def L8(v:QV)(t:Sl)(m:MH)(h:PH)(K:dc):Prop:=
  ∀(b:Nat)(H:MH),aR (dL m h b) (cL m H b v.enc 68) (EB H h t (λJ T y S=>vY S h y T (λI k e j f=>I k j f->∃(g:Sl),aA (aJ j f b 15 (aM g)) (dG (aG g)) (aA (aG g<=aG g) (Cg (aG g*32)) (Cg (aG g)/\j5 j f b 15 (λL=>∃(I1:Nat×Nat×Sl×Sl×de×MH×PH->Prop)(M:Nat×Nat×Sl×Sl×de×MH×PH->Nat),(∃(x:Nat×Nat×Sl×Sl×de×MH×PH),aA (I1 x) (eU J x.2.1) (aA (aX e x.2.2.1) (eL 17) (aA (aX L (Au x)) (cD L (Au x)) (aA (bE x.1) (Option.some (Own.lst 58 3 (replicate (wC g) Ag))=Option.some (Own.lst 58 3 (EY x))) (fM j (rB x) f)))))/\∀(x:Nat×Nat×Sl×Sl×de×MH×PH),I1 x->aY (↑x.1:Int) (aG (Au x)) (bD (λO o=>aI (bF (Au
 x).a O o) (0<=(↑x.1:Int)) ((↑x.1:Int)<aG (Au x)) (∃(n:Int),aJ (rB x).1 (rB x).2 O (bB o x.1 1) (bG n)/\bD (λP Q=>aI (bF x.2.2.1.a P Q) (0<=n) (n<aG x.2.2.1) (∃(z:VV),aI (aJ (rB x).1 (rB x).2 P (eM Q n 3) z.enc) (0<=(↑x.1:Int)) ((↑x.1:Int)<oE (EY x)) (∃(D:cv),aA (pW (EY x) (nL x.1) D) (3<=D.length) (∃(d:Nat×Nat×Sl×Sl×de×MH×PH),aA (I1 d) (M d<M x) (aA (eU x.2.1 d.2.1) (aX x.2.2.1 d.2.2.1) (aA (eL 17) (aX (Au x) (Au d)) (aA (cD (Au x) (Au d)) (fJ (aW x.1 1)=bY d.1) (aI (Option.some (Own.lst 58 3 (List.set (EY x) (nL x.1) (bH (cV z.kind) (cV z.int) (Value.string z.text::List.drop 3 D))))=Option.some (Own.lst 58 3 (EY d))) (iD
 (rB x).1 (rB d)) (fI (rB x).2 (rB d)) True))))))))))) (j5 (rB x).1 (rB x).2 x.2.1 0 (λn=>bQ (rB x).2 3 (EY x) (λs F=>∃(d:List cv),aI (cT (rB x).1 (cH n) 75 1 d) (cW (iA d 1*24)) (fN d) (∀(A:Sl)(G:MH),dV (rB x).1 G (cH n) A 75 1 (eK d (aM s))->mH (λc E=>aA (CA G x.2.1 (jI c E 0)) (0<c.size) (∀(R:MH),cL G R x.2.1 (jJ (eF A) 1 c) E->I (k+1) R F)))))))))) (λj f=>j5 j f J 0 (λg=>HC (λs u=>∃(l:cw),aA (oK g=oK s) (oW j f s 1 (vD u)) (aA (fQ f u l) (Fm l.length) (mV f (Ef l) (λA F=>K (mL A) j F))))))))
def L5(v:QV)(t:Sl)(m:MH)(h:PH)(K:dc):Prop:=
  bD (λb o=>aI (bF t.a b o) ((0:Int)<=0) (0<aG t) (∃(y:Nat),aJ m h b (o+0) (xJ y)/\bD (λe f=>aI (bF t.a e f) ((0:Int)<=1) (1<aG t) (∃(g:Nat),aA (aJ m h e (f+1) (xJ g)) (bA h e (f+1) (xJ g)) (O2 (λz A=>aA (eW (sR y) (sR z)) (Ij h z A) (∀(s:Sl),JH s 1 A (λc x d=>m x=Option.some d->c x=Option.some d) (λx=>Fb m x) (λc=>bA h b (o+0) (xJ y)/\∃(j:Sl),O2 (λD u=>∃(E:dk),aA (fP s (sR g)=fP j (sR D)) (cT c j 75 1 (vD u)) (aA (Ij h D E) (Fm u.length) (∀(F:Sl),JH F 1 (u++E) (λn x d=>aR (c x=Option.some d) (∀(i:Nat),jS (bF j.a x i)) (n x=Option.some d)) (λx=>Fb c x\/∃(i:Nat),bF j.a x i) (fun
 n=>aA (bA h b (o+0) (xJ y)) (bA h e (f+1) (xJ g)) (HC (λG H=>∃(l:cw),aA (oK F=oK G) (oW n h G 1 (vD H)) (aA (fQ h H l) (Fm l.length) (mV h (Ef l) (λI J=>K (mL I) n J)))))))))))))))))
noncomputable abbrev Gf:Value:=Value.map Option.none
noncomputable abbrev bN(a:Nat):cv:=mI (FI a)
abbrev pL(a:MH)(b:Nat)(c d:(Value->Prop)->Prop)(e:Value)(g:dh->Prop)(i:dh->Value->dh->dh)(j:dh->dh->Prop):Prop:=XV (λx n=>aA (mO a b x) (c n) (aA (d n) (gO (Instr.sameBits 10000 e e)) (aA (∀(f:Value×Value),List.Mem f x->n f.1) ((∀(f:Value×Value),aR (List.Mem f x) (f.1=e) False)->g x) (∀(f:dh)(u:Value)(t:dh),x=i f u t->j f t))))
noncomputable abbrev DI(a:de):Value:=Value.string (dZ a)
attribute [push_cast] Gf bN pL DI
def LZ(t:Sl)(i:Bool)(m:MH)(h:PH)(K:dc):Prop:=
  ∀(b:Nat)(W:MH),aR (dL m h b) (cL m W b (tI i) 4) (Ah W h (λY X=>∀(g:Nat)(R:MH),aR (dL X h g) (cL X R g (mI Gf) 197) (mH (λc E=>aA (CA R g (jI c E 0)) (0<c.size) (∀(T:MH),cL R T g (jJ (FI Y) 1 c) E->Kk t.a 0 1 t T h (λo=>o+1) (λy S=>vY S h y T (λI k e j n=>I k j n->∃(u:Nat),aA (aJ j n g 0 (bN u)) (aJ j n g 0 (bN u)) (tH (λs r=>aA (oK e=oK s) (bO n s r) (aA (UD r) (iL j) (aJ j n g 0 (bN u)/\pL j u (λO=>jU 9 O) (λO=>O (DI r)) (DI r) (λG=>∀(z:MH),aR (iV j z u) (mO z u (fA G (DI r) xN [])) (I (k+1) z n)) (λl v U=>fA l (DI r) v U) (λl U=>∀(z:MH),aR (iV j z u) (mO z u (fA l
 (DI r) xN U)) (I (k+1) z n))))))) (λj n=>EB j n t (λA z u S1=>vY S1 n u z (λI k e d f=>I k d f->∃(H:Nat),aJ d f g 0 (bN H)/\∃(J:Bool),aI (aJ d f b 0 (tI J)) (aJ d f g 0 (bN H)) (aJ d f b 0 (tI J)) (tH (λs r=>aA (oK e=oK s) (bO f s r) (aA (UD r) (iL d) (aI (aJ d f g 0 (bN H)) (aJ d f b 0 (tI J)) (aJ d f b 0 (tI J)) (∃(G:List (Value×Bool))(O:Value->Prop),aA (tB d H (List.map (fun(p:Value×Bool)=>(p.1,Value.bool p.2)) G)) (jU 9 O) (aA (O (DI r)) (∀(M:Value×Bool),List.Mem M G->O M.1) (lA (∀(M:Value×Bool),aR (List.Mem M G) (M.1=DI r) False) (false==J) (∃(L:Sl),aJ d f A 0 (aM L)/\∃(x:List cv),aI (cT d (cH L) 75 1
 x) (cW (iA x 1*24)) (fN x) (∀(P:Sl)(D:MH),dV d D (cH L) P 75 1 (eK x (aM e))->mH (λF E1=>aA (CA D A (jI F E1 0)) (0<F.size) (∀(Q:MH),cL D Q A (jJ (eF P) 1 F) E1->I (k+1) Q f)))) (I (k+1) d f)/\∀(L:Bool),lA (List.Mem (DI r,L) G) (L==J) (∃(V:Sl),aJ d f A 0 (aM V)/\∃(x:List cv),aI (cT d (cH V) 75 1 x) (cW (iA x 1*24)) (fN x) (∀(P:Sl)(D:MH),dV d D (cH V) P 75 1 (eK x (aM e))->mH (λF E1=>aA (CA D A (jI F E1 0)) (0<F.size) (∀(Q:MH),cL D Q A (jJ (eF P) 1 F) E1->I (k+1) Q f)))) (I (k+1) d f))))))))) (λd f=>j5 d f A 0 (λH=>K (mL H) d f))))))))))
abbrev Ba(a:dq->(List cw)->Prop):Prop:=∃(x:dq)(c:List cw),a x c
abbrev JR(a:List cw)(b:cw->Prop):Prop:=∀(x:cw),List.Mem x a->b x
attribute [push_cast] Ba JR
def aOZ(v:QV)(t:Sl)(m:MH)(h:PH)(K:dc):Prop:=
  ∃(c:Sl)(i:Bool),Ba (λb l=>∃(w:Nat),aA (fP t aZ=fP c (Cr i)) (vK h c b l) (aA (iL m) (2<=l.length) (JR l (λd=>kD w d)/\mV h (filter (fun(x:de)=>X4 (List.getD l 1 []) x==i) (List.getD l 0 [])) (λs e=>K (mL s) m e))))
def aOX(v:QV)(t:Sl)(m:MH)(h:PH)(K:dc):Prop:=
  ∃(c:Sl)(i:Bool),Ba (λb l=>∃(w:Nat),aA (fP t fB=fP c (Cr i)) (vK h c b l) (aA (iL m) (2<=l.length) (JR l (λd=>kD w d)/\mV h (filter (fun(x:de)=>X4 (List.getD l 1 []) x==i) (List.getD l 0 [])) (λs e=>K (mL s) m e))))
abbrev G3(a b:Sl)(c:PH)(d e:de->dd->Prop):Prop:=jE (λx j=>∃(f:de)(g:dd),aA (gK a b=gK x j) (bO c x f) (aA (Ints c j g) (d f g) (e f g)))
noncomputable abbrev dJ(a:de)(b:dd):Value:=DI (pick a b)
abbrev JK(a b:Sl)(c:PH)(d:MH)(e:Prop)(g i:de->dd->Prop):Prop:=jE (λx n=>∃(f:de)(j:dd),aA (gK a b=gK x n) (bO c x f) (aA (Ints c n j) (UD f) (aA (jB f.length j) (iL d) (aA e (g f j) (i f j)))))
attribute [push_cast] G3 dJ JK
def L6(v:QV)(t:Sl)(m:MH)(h:PH)(K:dc):Prop:=
  ∃(s:Sl)(o:di),aA (eW (mL v.on) (mL s)) (lF h s o) (∀(a:Sl),lE (λb A=>cR h A (Ints A a (nU o)) (Ints A b (iX o)->∀(G:Nat)(L:MH),aR (dL m A G) (cL m L G iT 31) (∀(H:Nat)(M:MH),aR (dL L A H) (cL L M H iT 31) (mH (λc E=>aA (CA M G (jI c E 0)) (0<c.size) (∀(P:MH),cL M P G (jJ (eF a) 1 c) E->mH (λQ E1=>aA (CA P H (jI Q E1 0)) (0<Q.size) (∀(m4:MH),cL P m4 H (jJ (eF b) 1 Q) E1->Ah m4 A (λb3 m5=>∀(n:Nat)(R:MH),aR (dL m5 A n) (cL m5 R n (mI Gf) 197) (mH (λT E2=>aA (CA R n (jI T E2 0)) (0<T.size) (∀(U:MH),cL R U n (jJ (FI b3) 1 T) E2->Kk t.a 0 1 t U A (λo1=>o1+1) (λy S=>vY S A y U (λI k e g j
 =>I k g j->∃(u:Nat),aJ g j n 0 (bN u)/\∃(D:Sl),aA (aJ g j H 0 (aM D)) (aJ g j n 0 (bN u)) (G3 e D j (λr _=>UD r) (λr z=>aI (jB r.length z) (iL g) (aJ g j n 0 (bN u)) (pL g u (λO=>jU 9 O) (λO=>O (dJ r z)) (dJ r z) (λV=>∀(F:MH),aR (iV g F u) (mO F u (fA V (dJ r z) xN [])) (I (k+1) F j)) (λl v1 W=>fA l (dJ r z) v1 W) (λl W=>∀(F:MH),aR (iV g F u) (mO F u (fA l (dJ r z) xN W)) (I (k+1) F j)))))) (λg j=>EB g j t (λJ F u S1=>vY S1 j u F (λI k e d f=>I k d f->∃(D:Nat),aJ d f n 0 (bN D)/\∃(X:Sl),aA (aJ d f G 0 (aM X)) (aJ d f n 0 (bN D)) (JK e X f d (aJ d f n 0 (bN D)) (λ_ _=>
 aJ d f G 0 (aM X)) (λr z=>JI d D (λO=>O (dJ r z)) (dJ r z) (I (k+1) d f) (λV y4=>lA (List.Mem (dJ r z,y4) V) y4 (∃(Y:Sl),aJ d f J 0 (aM Y)/\∃(x:List cv),aI (cT d (cH Y) 75 1 x) (cW (iA x 1*24)) (fN x) (∀(s1:Sl)(Z:MH),dV d Z (cH Y) s1 75 1 (eK x (aM e))->mH (λc4 E3=>aA (CA Z J (jI c4 E3 0)) (0<c4.size) (∀(a3:MH),cL Z a3 J (jJ (eF s1) 1 c4) E3->I (k+1) a3 f)))) (I (k+1) d f))))) (λd f=>j5 d f J 0 (λD=>K (mL D) d f))))))))))))))))))
def FD(m c:MH)(b:Nat):Prop:=∀x o,m x=some o->x≠b->c x=some o
structure qJ(m mx:MH)(b:Nat)(us:dk):Prop where
 ex:∃s:Sl,mx b=some (.cells #[.slice s.a s.len s.cap] 95 (0,0))/\cT mx s 75 1 (us.map eS)/\∀i x,s.a=some ⟨x,i,none⟩->m x=none
theorem qJ.new(c:m' b=some (.cells #[tE] 95 (0,0))):qJ m m' b []:=⟨⟨none,0,0⟩,c,⟨vN [],.inl ⟨rfl,rfl⟩⟩,λi x e=>by cases e⟩
theorem Jr{c:MH}{s:Sl}{us:dk}{e:Sl}{Q:MH->Prop}(d:∃o,m b=some o)(A:FD m c b)(D:c b=some (.cells #[.slice s.a s.len s.cap] 95 (0,0)))(f:cT c s 75 1 (us.map eS))(F:∀i x,s.a=some ⟨x,i,none⟩->m x=none)(O:us.length<=502633886983)(G:∀m',FD m m' b->qJ m m' b (us++[e])->Q m'):
 ∃xs:List cv,cT c (Sl.mk s.a s.len s.cap) 75 1 xs/\(xs.length+1)*24<=140737488355328/\xs.length<140737488355328/\∀(s':Sl)(m':MH),dV c m' (Sl.mk s.a s.len s.cap) s' 75 1 (xs++[[eF e]])->
  ∃(cs:Array Value)(E:TypeId),CA m' b (.cells cs E (0,0))/\0<cs.size/\∀m2:MH,gR m' m2 b (.cells (Array.mk (eF s'::cs.toList.drop 1)) E (0,0))->Q m2:=by
 obtain⟨P,d⟩:=d;have y:∀i,s.a≠some ⟨b,i,none⟩:=λi g=>bk
 refine⟨us.map eS,f,bk,bk,λs' m' n=>⟨_,_,⟨n.other b _ D y⟩,bf,λm2 z=>G m2 ?_ ⟨s',z.at_,?_,?_⟩⟩⟩
 .intro x o H t;rw[z.other x t];exact n.other x o (A x o H t) (λi g=>bk)
 .have I:(us++[e]).map eS=us.map eS++[[eF e]]:=by simp[eS]
  rw[I];refine cT.keep n.row (λx i g=>z.other x (λJ=>?_));subst J;rcases n.fresh x i g with u|⟨j,u⟩
  .grind
  grind
 .intro i x g;rcases n.fresh x i g with u|⟨j,u⟩
  .cases L:m x with
   |none=>rfl
   |some o=>
    by_cases M:x=b
    .grind
    .rw[A x o L M]at u;cases u
  grind
theorem qJ.app{c:MH}{hx:PH}{us:dk}{e:Sl}{Q:MH->Prop}(f:∃o,m b=some o)(n:FD m c b)(o:qJ m c b us)(t:us.length<=502633886983)(u:∀m',FD m m' b->qJ m m' b (us++[e])->Q m'):
 ∃y:Sl,aJ c hx b 0 [eF y]/\∃xs:List cv,cT c (Sl.mk y.a y.len y.cap) 75 1 xs/\(xs.length+1)*24<=140737488355328/\xs.length<140737488355328/\∀(s':Sl)(m':MH),dV c m' (Sl.mk y.a y.len y.cap) s' 75 1 (xs++[[eF e]])->
  ∃(cs:Array Value)(E:TypeId),CA m' b (.cells cs E (0,0))/\0<cs.size/\∀m2:MH,gR m' m2 b (.cells (Array.mk (eF s'::cs.toList.drop 1)) E (0,0))->Q m2:=by
 obtain⟨s,j,d,g⟩:=o.ex;exact⟨s,.of_m j rfl,Jr f n j d g t u⟩
theorem dE.sub{hx:PH}{r:CV}(sub:Sub m m')(le:PH.le h hx)(c:K r m hx):dE h K r m' hx:=λ_=>⟨m,hx,sub,le,λ_ _ _ e=>.inl e,c⟩
theorem dE.row{hx:PH}{s:Sl}{us:dk}(sub:Sub m m')(le:PH.le h hx)(n:cT m' s 75 1 (us.map eS))(F:∀i b,s.a=some ⟨b,i,none⟩->m b=none)(t:∀h',PH.le hx h'->bX h' s 1 (us.map eS)->K (cS s) m h'):dE h K (cS s) m' hx:=by
 intro G;rcases n.ex with⟨rfl,f⟩|⟨b,H,d,rfl,y,I,S,T,J⟩
 .refine⟨m,hx,sub,le,λb i v e=>.inl e,t hx (.refl _) ?_⟩;rw[f];exact bX.nil _ _
 .have z:∀i,hx b i=none:=G b _ y;refine⟨m,qE hx b d.toList,sub,le.trans (Dn z),λA i v e=>?_,t _ (Dn z) ⟨?_,?_,?_⟩⟩
  .by_cases D:A=b
   .subst D;simp only[qE,if_true]at e;exact .inr ⟨d,75,(0,0),y,by rw[<-cn];exact e,F 0 A rfl⟩
   .simp only[qE,if_neg D]at e;exact .inl e
  .simp
  .by_cases L:us.map eS=[]
   .exact .inl L
   .refine .inr ⟨b,0,rfl,λi e c=>⟨λj v E=>?_⟩⟩;have M:=n.rows.len e (bx c);have O:j=0:=bk
    subst O;have P:=(bt c)
    have Q:((us.map eS).flatten)[i]? =some v:=by
     rw[getElem?_map]at c;cases g:us[i]? with
     |none=>grind
     |some u=>
      rw[g]at c;simp at c;subst c;simp[eS]at E;subst E
      have:∀l:dk,(l.map eS).flatten=l.map λu=>Value.slice u.a u.len u.cap:=λl=>by
       induction l with
       |nil=>rfl
       |cons a l R=>simp only[map_cons,flatten_cons,R];rfl
      grind
    rw[<-J,getElem?_take,if_pos aC]at Q;simp only[qE,if_true]
    grind
  .exact I
structure tT(m:MH)(y:Nat)(ks:eh):Prop where
 ex:∃kk:eh,mO m y (kk.map λk=>(Value.string k,Value.bool true))/\∀k,k∈kk↔k∈ks
theorem tT.keep{y:Nat}{ks:eh}(s:tT m y ks)(t:m' y=m y):tT m' y ks:=by
 obtain⟨d,⟨e,c,u,f,g,j⟩,n⟩:=s.ex;exact⟨d,⟨e,c,bk,f,g,j⟩,n⟩
theorem tT.new{y:Nat}(h:m y=some (.map #[] 0)):tT m y []:=⟨[],⟨#[],0,h,rfl,bf,bf⟩,bf⟩
theorem tT.get{y:Nat}{ks:eh}{key:ByteArray}{K:Bool->Prop}(s:tT m y ks)(g:∀t:Bool,(t=true↔key∈ks)->K t):
 ∃(d:List (Value×Bool))(Ok:Value->Prop),tB m y (d.map λp=>(p.1,Value.bool p.2))/\KeyLaw Tryz.prog 9 Ok/\Ok (.string key)/\(∀e,List.Mem e d->Ok e.1)/\((∀e,List.Mem e d->e.1=Value.string key->False)->K false)/\∀t,List.Mem (Value.string key,t) d->K t:=by
 obtain⟨j,⟨u,c,z,A,_,_⟩,D⟩:=s.ex;refine⟨j.map λk=>(Value.string k,true),_,⟨u,c,z,by rw[A];simp⟩,Ee,⟨key,rfl⟩,λe E=>?_,λF=>g false ⟨λe=>(by cases e),λf=>?_⟩,λt n=>g t ⟨λ_=>?_,λ_=>?_⟩⟩
 .obtain⟨k,_,rfl⟩:=mem_map.1 (show e∈_ from E)
  grind
 .exact(F (Value.string key,true) (mem_map.2 (⟨key,(D key).2 f,rfl⟩:∃a,a∈j/\(Value.string a,true)=(Value.string key,true))) rfl).elim
 .obtain⟨k,f,e⟩:=mem_map.1 (show(Value.string key,t)∈_ from n)
  grind
 .obtain⟨k,f,e⟩:=mem_map.1 (show(Value.string key,t)∈_ from n)
  grind
theorem U5(key:ByteArray):Instr.sameBits 10000 (Value.string key) (Value.string key)=true:=by
 show(key==key)=true;cases key with
 |mk d=>exact beq_self_eq_true d
theorem tT.put{y:Nat}{ks:eh}{key:ByteArray}{Q:MH->Prop}(s:tT m y ks)(u:∀m':MH,iV m m' y->tT m' y (key::ks)->Q m'):
 ∃(c:dh)(Ok:Value->Prop),mO m y c/\KeyLaw Tryz.prog 9 Ok/\Ok (.string key)/\Instr.sameBits 10000 (Value.string key) (Value.string key)=true/\(∀e,List.Mem e c->Ok e.1)/\((∀e,List.Mem e c->e.1=Value.string key->False)->∀m':MH,iV m m' y->mO m' y (c++[(Value.string key,Value.bool true)])->Q m')/\
  ∀(g:dh)(d:Value)(j:dh),c=g++(Value.string key,d)::j->∀m':MH,iV m m' y->mO m' y (g++(Value.string key,Value.bool true)::j)->Q m':=by
 obtain⟨f,z,D⟩:=s.ex;refine⟨_,_,z,Ee,⟨key,rfl⟩,U5 key,λe A=>?_,λE m' n t=>u m' n ⟨f++[key],bk,λk=>?_⟩,λg d j e m' n t=>u m' n ⟨f,?_,λk=>?_⟩⟩
 .obtain⟨k,_,rfl⟩:=mem_map.1 (show e∈_ from A)
  grind
 .grind
 .have:(Value.string key,d)∈f.map λk=>(Value.string k,Value.bool true):=by rw[e];simp
  grind
 .have:(Value.string key,d)∈f.map λk=>(Value.string k,Value.bool true):=by rw[e];simp
  grind
theorem vK.get{t:Sl}{d:dq}{ls:List cw}(a:vK h t d ls){l:cw}(f:ls[i]? =some l):∃b off x,t.a=some ⟨b,off,none⟩/\(i:Int)<(t.len:Int)/\bA h b (off+i) [QG x]/\QP h x l:=by
 have j:=(bt f);have g:d[i]? =some (d[i]'(by rw[a.len];exact j)):=bu _;obtain⟨b,o,e,rd⟩:=a.row.get (i:=i) (e:=[QG (d[i]' bk)]) (by simp[g]);have c:=a.row.len;simp only[length_map]at c;have:=a.len;exact⟨b,o,_,e,aC,bk,a.at_ i _ l g f⟩
theorem fQ.at'{us:dk}{rs:cw}(x:fQ h us rs){u:Sl}(c:us[i]? =some u):∃r,rs[i]? =some r/\bO h u r:=by
 have d:=(bt c);obtain⟨v,e,f⟩:=x.at_ i _ (bu (by rw[<-x.len];exact d))
 grind
theorem lN{α:Type}{l:List α}{x:α}(p:α->Bool)(hx:l[k]? =some x):(l.take (k+1)).filter p=(l.take k).filter p++(if p x then[x]else[]):=by
 rw[cj,hx,Option.toList_some,filter_append]
 grind
theorem Sub.x{d f:MH}(h:Sub m d)(g:m b=none)(hx:FD d f b):Sub m f:=λx o c=>hx x o (h x o c) (λe=>bk)
def H9(n:Nat):Query->List cw->Prop:=λ_ c=>n<=c.length/\∀l∈c,∃w,kD w l
def KF(q:Query)(ls:List cw):cw:=match q with|.mk _ _ w _ _ _ _ _ _=>(ls.getD 0 []).filter λr=>pF r w
theorem FW{ls:List cw}{i:Nat}(h:i<ls.length):ls[i]? =some (ls.getD i []):=by
 grind
theorem KB{f:FuncId}{fn:Func}(n:Tryz.prog.funcs[f]? =some fn){S:Vc.Spec}(j:∀c m h K,S c m h K->∃C:Ctx,C.P=Tryz.prog/\(∀g S,assoc C.specs g=some S->cu g S)/\∃N:Prop,N=afZ C fn (cK fn) (entry fn.ntmps c m h) (dE h K)/\N)(t:fn.body=some (cK fn):=by rfl)(d:(fn.name== "runtime.NumGoroutine")=false:=by decide):cu f S:=X6 n t d λc m h K u=>let⟨C,hC,hs,N,e,hn⟩:=j c m h K u;⟨C,hC,hs,e▸hn⟩
theorem YU:cu 175 (UE (H9 1) KF):=by
 refine KB func175 ?_;rintro a' m h K ⟨v,t,q,bs,ls,rfl,hq,ha,_,A,P⟩;refine⟨Ua [(199,buX)] [] [] [200002,200005,1095],rfl,aD YH aF,L9 v t m h (dE h K),be,?_⟩;show L9 v t m h (dE h K);dsimp only[L9,push_cast];intro b m1 Q D F R G n;have f:Sub m m1:=(Sub.refl m).upd Q.m_ D.other
 have H:m F=none:=by
  cases e:m F with
  |none=>rfl
  |some o=>have I:=f F o e;rw[G.m_]at I;cases I
 have g:Sub m R:=f.upd H n.other;have J:b≠F:=λe=>by have:=G.m_;rw[<-e,D.at_]at this;cases this
 obtain⟨b3,S,x,ea,a0,rd,sq⟩:=ha.get (FW (i:=0) (by have:=A.1;omega));obtain⟨us,u,E⟩:=sq.ex;obtain⟨op,ta,w,co,on,gr,od,li,args⟩:=q;have xq:=hq.parts;obtain⟨wd,z⟩:=A.2 _ (bx (FW (i:=0) (by have:=A.1;omega)));simp only[KF]at P;generalize ls.getD 0 []=l at u E P z sq;have T:=E.len;have a1:=z.len;refine⟨b3,S,ea,aC,aC,x,.imm rd,z6,us,λk O U=>U=h/\FD R O F/\∃c,qJ R O F c/\c.length<=k/\fQ h c ((l.take k).filter λr=>pF r w),yT,⟨x,us,rfl,u,rfl⟩,⟨rfl,λx o e _=>e,[],qJ.new n.at_,bf,br (fQ.nil h)⟩,?_,?_⟩
 .rintro k e O U hk-⟨rfl,L,c,d,V,j⟩
  obtain⟨r,hr,hv⟩:=E.at' hk;have a2:=(bt hk);refine⟨v.where_,.of_m (L b _ (by rw[n.other b J];exact D.at_) J) rfl,v.where_,e,w,r,rfl,xq.where_,hv,aB (λht=>?_) (λhf=>?_)⟩
  .refine qJ.app ⟨_,n.at_⟩ L d aC (λm' W X=>⟨rfl,W,c++[e],X,bj,?_⟩);rw[lN _ hr,if_pos ht];exact j.snoc hv
  .refine⟨rfl,L,c,d,aC,?_⟩;rw[lN _ hr,if_neg (by simp[hf]),append_nil];exact j
 .rintro O U-⟨rfl,L,c,d,V,j⟩
  rw[T,take_length]at j;obtain⟨s,hb,M,Y⟩:=d.ex;refine⟨s,.of_m hb rfl,dE.row (g.x H L) (.refl _) M (λi y e=>?_) (λh' le Z=>P s h' le ((j.mono le).rows Z bk))⟩;cases e2:m y with
  |none=>rfl
  |some o=>have I:=Y i y e;rw[g y o e2]at I;cases I
theorem fQ.app{us vs:dk}{a b:cw}(x:fQ h us a)(y:fQ h vs b):fQ h (us++vs) (a++b):=by
 refine⟨by simp[x.len,y.len],λj r c=>?_⟩;have g:=x.len;by_cases d:j<a.length
 .rw[getElem?_append_left d]at c;obtain⟨u,e,f⟩:=x.at_ j r c
  grind
 .rw[getElem?_append_right aC]at c;obtain⟨u,e,f⟩:=y.at_ _ r c
  grind
def Tg(_:Query)(ls:List cw):cw:=Ef (ls.getD 0 []++ls.getD 1 [])
theorem YP:cu 179 (UE (H9 2) Tg):=by
 refine KC func179 ?_;rintro U m h K ⟨v,t,q,bs,ls,rfl,_,Q,_,c,V⟩;refine⟨dD [(206,Xx),(205,UC),(200,bVZ)] [] [] [] false,rfl,aD YE (aD PC (aD II aF)),L5 v t m h (oG h K),be,?_⟩;show L5 v t m h (oG h K);dsimp only[L5,push_cast];have h2:=c.1;obtain⟨b,F,x,W,X,rd,Y⟩:=Q.get (FW (i:=0) aC);obtain⟨Z,j,R,G,S,d,H⟩:=Q.get (FW (i:=1) aC);obtain⟨I,n,u⟩:=Y.ex;obtain⟨z,f,A⟩:=H.ex;obtain⟨_,D⟩:=c.2 _ (bx (FW (i:=0) aC));obtain⟨_,g⟩:=c.2 _ (bx (FW (i:=1) aC));have l1:=D.len;have l2:=g.len;have l3:=u.len;refine⟨b,F,W,aC,aC,x,.imm rd,Z,j,G,aC,aC,R,.imm d,d,x,I,rfl,n,λs1 m1 J L a'=>⟨rd,s1,R,I,z,rfl,J,f,aC,λs2 m2 M O a0=>⟨rd,d,s2,I++z,_,rfl,M.src,u.app A,bk,λs3 T E P=>?_⟩⟩⟩;refine⟨m,T,λy o hy=>O y o (L y o hy) (λi e=>?_),E,.refl _,V s3 T E P⟩
 grind
def Vk(q:Query)(ls:List cw):cw:=match q with|.mk _ _ _ co _ _ _ _ _=>Ef ((ls.getD 0 []).map λr=>pick r co)
def OR(q:Query)(ls:List cw):Prop:=match q with|.mk _ _ _ co _ _ _ _ _=>1<=ls.length/\co.length<=12/\∃w,kD w (ls.getD 0 [])/\jB w co
theorem aZZ{r:de}{y:VV}(d:(pick r co)[i]? =some y)(e:i<co.length):((pick r co).take i++replicate (co.length-i) zeroV).set i y=(pick r co).take (i+1)++replicate (co.length-(i+1)) zeroV:=by
 have c:(pick r co).length=co.length:=by simp[pick]
 rw[set_append,if_neg bj];rw[cj,d,Option.toList_some,append_assoc];congr 1;rw[show co.length-i=(co.length-(i+1))+1 by omega,replicate_succ];simp[c,Nat.min_eq_left (Nat.le_of_lt e)]
theorem axZ{r:de}(d:i<co.length):(((pick r co).take i++replicate (co.length-i) zeroV).map VV.enc)[i]? =some (VV.enc zeroV):=by
 have c:(pick r co).length=co.length:=by simp[pick]
 grind
theorem YT:cu 176 (UE OR Vk):=by
 refine KB func176 ?_;rintro b1 m h K ⟨v,t,q,bs,ls,rfl,hq,ha,_,a',hK⟩;refine⟨bcQ,rfl,aD II aF,L8 v t m h (dE h K),be,?_⟩;show L8 v t m h (dE h K);dsimp only[L8,push_cast];obtain⟨op,ta,w,co,on,gr,od,li,args⟩:=q;obtain⟨b6,b7,wd,f,a0⟩:=a';intro b m1 a1 I E m2 P A;have g:Sub m m1:=(Sub.refl m).upd a1.m_ I.other
 have Q:m E=none:=by
  cases e:m E with
  |none=>rfl
  |some o=>have R:=g E o e;rw[P.m_]at R;cases R
 have J:Sub m m2:=g.upd Q A.other;have S:b≠E:=λe=>by have:=P.m_;rw[<-e,I.at_]at this;cases this
 obtain⟨b3,a2,x,ea,b8,rd,sq⟩:=ha.get (FW (i:=0) aC);obtain⟨us,F,L⟩:=sq.ex;have xq:=hq.parts;have a3:=xq.columns_.slen;simp only[Vk]at hK;generalize ls.getD 0 []=l at F L hK f sq;have a4:=L.len;have b9:=f.len;refine⟨b3,a2,ea,aC,aC,x,.imm rd,z6,us,λk M G=>PH.le h G/\FD m2 M E/\∃d,qJ m2 M E d/\d.length<=k/\fQ G d ((l.take k).map λr=>pick r co),yT,⟨x,us,rfl,F,rfl⟩,⟨.refl _,λx o e _=>e,[],qJ.new A.at_,bf,br (fQ.nil h)⟩,?_,?_⟩
 .rintro k e M G hk-⟨le,Z,d,j,a5,D⟩
  obtain⟨r,hr,hv⟩:=L.at' hk;have c':=(bt hk);have T:M b=some (.cells ⟨v.enc⟩ 68 (0,0)):=Z b _ (by rw[A.other b S];exact I.at_) S;have c0:=f.wid r (bx hr);have U:=bO.mono hv le;have c1:=bC.slen U;have c2:(pick r co).length=co.length:=by simp[pick]
  refine⟨v.columns,.of_m T rfl,aC,aC,aC,aC,v.columns,.of_m T rfl,λz=>z.1<=co.length/\z.2.1=E/\z.2.2.1=e/\z.2.2.2.1=v.columns/\z.2.2.2.2.1=(pick r co).take z.1++replicate (co.length-z.1) zeroV/\z.2.2.2.2.2.1=M/\z.2.2.2.2.2.2=G,λz=>co.length-z.1,⟨(0,E,e,v.columns,replicate co.length zeroV,M,G),⟨bf,rfl,rfl,rfl,bf,rfl,rfl⟩,?_⟩,?_⟩
  .dsimp only;rw[map_replicate,show((v.columns.len:Int)).toNat=co.length by omega];exact MT
  .rintro⟨i,bb,ee,cc,cells,my,hy⟩ ⟨hi,R,e2,e3,e4,e5,e6⟩;dsimp only at hi R e2 e3 e4 e5 e6;subst R e2 e3 e4 e5 e6;refine aE (λH=>?_) (λa6=>?_)
   .dsimp only at H⊢
    obtain⟨c,V⟩:=eO a3 H;obtain⟨b4,o4,e4,c3⟩:=(xq.columns_.mono le).at V;obtain⟨y,a7,a8,h0,h1⟩:=TA (r:=r) bk V;obtain⟨b5,o5,y',e5,a9,rfl⟩:=bC.at U a7;have W:i<co.length:=by omega
    have X:=aZZ a8 W;refine⟨b4,o4,e4,aC,aC,c,.imm bk,b5,o5,e5,h0,aC,y,.imm a9,aC,bj,_,axZ W,by simp[VV.enc],(i+1,bb,ee,v.columns,(pick r co).take (i+1)++replicate (co.length-(i+1)) zeroV,my,hy),⟨aC,rfl,rfl,rfl,rfl,rfl,rfl⟩,aC,?_⟩;dsimp only;refine⟨rfl,rfl,rfl,rfl,rfl,by rw[jG aC],?_,rfl,rfl,trivial⟩;rw[<-X,map_set];rfl
   .dsimp only at a6⊢
    have:i=co.length:=by omega
    subst this;rw[ca aC,Nat.sub_self,replicate_zero,append_nil];obtain⟨s,hb,n,Y⟩:=j.ex;refine⟨s,.of_m hb rfl,λs3 h3 u O=>Jr ⟨_,A.at_⟩ Z hb n Y aC (λm' b' b0=>⟨le.trans u,b',d++[s3],b0,bj,?_⟩)⟩
    have e6:(l.take (k+1)).map (λr=>pick r co)=(l.take k).map (λr=>pick r co)++[pick r co]:=by
     rw[cj,hr];simp
    rw[e6];exact(D.mono u).snoc ⟨⟨_,O,rfl,λi x G=>⟨x,G,rfl⟩⟩,aC⟩
 .rintro M G-⟨le,Z,d,j,a5,D⟩
  rw[a4,take_length]at D;obtain⟨s,hb,n,Y⟩:=j.ex;refine⟨s,.of_m hb rfl,s,d,_,rfl,n.src,D,bj,λs3 h3 u O=>dE.sub (J.x Q Z) (le.trans u) (hK s3 h3 (le.trans u) O)⟩
theorem kG{m0:MH}{o:Obj}(c:Sub m0 m)(g:dL m h b)(j:gR m m' b o):Sub m0 m'/\m0 b=none:=by
 have d:m0 b=none:=by
  cases e:m0 b with
  |none=>rfl
  |some x=>have f:=c b x e;rw[g.m_]at f;cases f
 exact⟨c.upd d j.other,d⟩
theorem mem_keys{l:cw}{w k:Nat}{x:de}(f:kD w l)(hx:UD x)(g:x.length=w):dZ x∈(l.take k).map dZ↔x∈l.take k:=by
 constructor
 .intro h;obtain⟨y,d,e⟩:=mem_map.1 h;have c:=mem_of_mem_take d;rw[(Ph (by rw[f.wid y c,g]) (f.row y c).val hx.val).1 e]at d;exact d
 grind
theorem PB:cu 207 UB:=by
 refine KB func207 ?_;rintro d1 m h K ⟨t,i,bs,ls,w,rfl,ha,hT,h2,a1,hK⟩;refine⟨Ua [(226,arQ)] [] [] [200003,200005,200007,1095,400000,0],rfl,aD Yv aF,LZ t i m h (dE h K),be,?_⟩;show LZ t i m h (dE h K);dsimp only[LZ,push_cast];intro u m1 b4 P d m2 a2 I E m3 W Q;obtain⟨s1,n3⟩:=kG (Sub.refl m) b4 P;obtain⟨s2,ny⟩:=kG s1 a2 I;obtain⟨s3,n5⟩:=kG s2 W Q;refine⟨_,_,⟨Q.at_⟩,bf,λm4 R=>?_⟩;have s4:Sub m m4:=s3.upd n5 R.other;have f:d≠E:=λe=>by have:=W.m_;rw[<-e,I.at_]at this;cases this
 have T:u≠E:=λe=>by have:=W.m_;rw[<-e,I.other u (λF=>by omega),P.at_]at this;cases this
 have X:u≠d:=λF=>by have:=a2.m_;rw[<-F,P.at_]at this;cases this
 have b8:m4 d=some (.map #[] 0):=by rw[R.other d f,Q.other d f];exact I.at_
 have a3:m4 u=some (.cells #[.bool i] 4 (0,0)):=by rw[R.other u T,Q.other u T,I.other u X];exact P.at_
 have Y:m4 E=some (.cells #[.map (some d)] 197 (0,0)):=R.at_;obtain⟨b,b9,x,ea,d2,rd,sq⟩:=ha.get (FW (i:=1) aC);obtain⟨a4,Z,J⟩:=sq.ex;have A:=a1 _ (bx (FW (i:=1) aC));have g:=a1 _ (bx (FW (i:=0) aC));obtain⟨b6,a5,x6,c',d0,c0,a6⟩:=ha.get (FW (i:=0) aC);obtain⟨us,a7,a'⟩:=a6.ex;generalize ls.getD 1 []=U at J A hK sq;generalize ls.getD 0 []=l at a' g hK a6;have c1:=a'.len;have d3:=g.len;have a8:=J.len;refine⟨b,b9,ea,aC,aC,x,.imm rd,z6,a4,λk mx hx=>hx=h/\(∀z o,m4 z=some o->z≠d->mx z=some o)/\tT mx d ((U.take k).map dZ),yT,⟨x,a4,rfl,Z,rfl⟩,⟨rfl,λz o e _=>e,br (tT.new b8)⟩,?_,?_⟩
 .rintro k e mx hx hk-⟨rfl,V,L⟩
  obtain⟨r,hr,hv⟩:=J.at' hk;have M:=bx hr;have r5:aJ mx hx E 0 [Value.map (some d)]:=.of_m (V E _ Y (Ne.symm f)) rfl;refine⟨d,r5,r5,e,r,rfl,hv,A.row r M,hT.sub (λz o F=>V z o (s4 z o F) (λe3=>bk)),r5,L.put (λm' a0 a9=>⟨rfl,λz o F c2=>by rw[a0.other z c2];grind,?_⟩)⟩;obtain⟨kk,h5,h6⟩:=a9.ex;exact⟨kk,h5,λq=>by rw[h6,cj,hr];grind⟩
 .rintro mx hx-⟨rfl,V,L⟩ b7 m5 b' H;rw[a8,take_length]at L;have s5:Sub m mx:=λz o F=>V z o (s4 z o F) (λe3=>bk);obtain⟨s6,n7⟩:=kG s5 b' H;have S:∀z o,mx z=some o->z≠b7:=λz o F e3=>by rw[e3,b'.m_]at F;cases F
  have y7:d≠b7:=by
   obtain⟨kk,⟨es,c,h1,_⟩,_⟩:=L.ex
   grind
  have c3:m5 E=some (.cells #[.map (some d)] 197 (0,0)):=by rw[H.other E (S E _ (V E _ Y (Ne.symm f)))];grind
  have c4:m5 u=some (.cells #[.bool i] 4 (0,0)):=by rw[H.other u (S u _ (V u _ a3 X))];grind
  have b0:tT m5 d (U.map dZ):=L.keep (H.other d y7);have c5:E≠b7:=S E _ (V E _ Y (Ne.symm f));have c6:u≠b7:=S u _ (V u _ a3 X);refine⟨b6,a5,c',aC,aC,x6,.imm c0,z6,us,λk my hy=>hy=hx/\FD m5 my b7/\∃D,qJ m5 my b7 D/\D.length<=k/\fQ hx D ((l.take k).filter λz=>X4 U z==i),yT,⟨x6,us,rfl,a7,rfl⟩,⟨rfl,λz o e _=>e,[],qJ.new H.at_,bf,br (fQ.nil hx)⟩,?_,?_⟩
  .rintro k e my hy hk-⟨rfl,n,D,G,c7,O⟩
   obtain⟨r,hr,hv⟩:=a'.at' hk;have d4:=(bt hk);have M:=bx hr;have r5:aJ my hy E 0 [Value.map (some d)]:=.of_m (n E _ c3 c5) rfl;have r3:aJ my hy u 0 [Value.bool i]:=.of_m (n u _ c4 c6) rfl
   have b1:tT my d (U.map dZ):=by
    obtain⟨kk,⟨es,c,h1,h2,h3,h4⟩,h5⟩:=b0.ex;exact⟨kk,⟨es,c,n d _ h1 y7,h2,h3,h4⟩,h5⟩
   have key:∀t:Bool,(t=true↔dZ r∈U.map dZ)->t=X4 U r:=λt ht=>by
    have h1:=mem_keys (k:=U.length) A (g.row r M) (g.wid r M);rw[take_length]at h1;rw[h1]at ht;cases t
    .cases F:X4 U r with
     |false=>rfl
     |true=>exact ht.2 (Od.1 F)
    .exact(Od.2 (ht.1 rfl)).symm
   refine⟨d,r5,i,r3,r5,r3,e,r,rfl,hv,g.row r M,hT.sub (s6.x n7 n),r5,r3,r3,b1.get (K:=λt=>branch (t==i) _ _) (λt ht=>?_)⟩;have e3:=key t ht;refine aB (λh1=>?_) (λh1=>?_)
   .refine qJ.app ⟨_,H.at_⟩ n G aC (λm' a0 c8=>⟨rfl,a0,D++[e],c8,bj,?_⟩);rw[lN _ hr,if_pos bk];exact O.snoc hv
   .refine⟨rfl,n,D,G,aC,?_⟩;rw[lN _ hr,if_neg bk,append_nil];exact O
  .rintro my hy-⟨rfl,n,D,G,c7,O⟩
   rw[c1,take_length]at O;obtain⟨s,hb,b2,c9⟩:=G.ex;refine⟨s,.of_m hb rfl,dE.row (s6.x n7 n) (.refl _) b2 (λj y e=>?_) (λh' le d'=>hK s h' le ((O.mono le).rows d' bk))⟩;cases F:m y with
   |none=>rfl
   |some o=>have e1:=c9 j y e;rw[s6 y o F]at e1;cases e1
def Dz(_:Query)(ls:List cw):Prop:=2<=ls.length/\∃w,∀l∈ls,kD w l
def TI(_:Query)(ls:List cw):cw:=(ls.getD 0 []).filter λx=>X4 (ls.getD 1 []) x==false
def TR(_:Query)(ls:List cw):cw:=(ls.getD 0 []).filter λx=>X4 (ls.getD 1 []) x==true
theorem YO:cu 180 (UE Dz TI):=by
 refine iB func180 ?_;rintro d m h K ⟨v,t,q,e,f,rfl,_,g,j,⟨n,w,c⟩,u⟩;refine⟨dD [(207,UB)] [] [] [] false,rfl,aD PB aF,aOZ v t m h K,be,?_⟩;exact⟨t,false,e,f,w,rfl,g,j,n,c,u⟩
theorem YN:cu 181 (UE Dz TR):=by
 refine iB func181 ?_;rintro d m h K ⟨v,t,q,e,f,rfl,_,g,j,⟨n,w,c⟩,u⟩;refine⟨dD [(207,UB)] [] [] [] false,rfl,aD PB aF,aOX v t m h K,be,?_⟩;exact⟨t,true,e,f,w,rfl,g,j,n,c,u⟩
end Go.Ps
