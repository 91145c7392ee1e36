/- Own work. -/
import Derived.Shelf.SlSorted.Search
import Derived.Shelf.SlSortCmp.NoneTotal
import Derived.Shelf.Small.Strs
import Derived.Shelf.Strconv.Itoa0
import Derived.Shelf.Strconv.Itoa1
import Derived.Shelf.LaysM
import Derived.Shelf.Strconv.Itoa2
import Derived.Shelf.Strconv.AppendUint10
import Derived.Shelf.Strconv.AppendInt10
import Derived.Shelf.Strconv.AppendIntPublic10
import Derived.Test.YtbpoogcannjnbaaGreatDoorProg
import Derived.Lib.ItoaLen
import Derived.RangeFuncWrites
import Derived.OrdersIn
import Derived.Test.YtbpoogcannjnbaaGreatDoorTd
set_option linter.unusedVariables false
set_option linter.unusedSimpArgs false
namespace Go.Proofs
open Go.Shelf
def Tryz.lays213_ren:Go.Shelf.Ren:=⟨λ |213=>198|265=>219|n=>n,λ |9=>9|3=>3|n=>n,λ |n=>n⟩
def Tryz.lays106_ren:Go.Shelf.Ren:=⟨λ |106=>173|213=>198|265=>219|n=>n,λ |9=>9|3=>3|n=>n,λ |n=>n⟩
theorem Tryz.lays106:Go.Proofs.Lays.n106 Tryz.prog Tryz.lays106_ren:={
 mixed:=by kernel_rfl
 f106:=Tryz.func173.trans (congrArg some (by kernel_rfl))
 f213:=Tryz.func198.trans (congrArg some (by kernel_rfl))
 f265:=Tryz.func219.trans (congrArg some (by kernel_rfl))
 t3:=Tryz.underlying3
 a3:=Tryz.isAgg3
 z3:=Tryz.sizeOf3
 v3:=Tryz.zeroValue3
 t9:=Tryz.underlying9
 a9:=Tryz.isAgg9
 z9:=Tryz.sizeOf9
 v9:=Tryz.zeroValue9}
open Go.RowKit in
theorem Tryz.strings_Compare(a b:ByteArray)(w:World):
 Calls Tryz.prog 173 #[.string a,.string b] w λe w'=>e= .returned (.int .i64 (Lib.compareBytes a.data.toList b.data.toList))/\w'=w:=Any.strings_Compare Tryz.lays106 a b w
def Tryz.lays283_ren:Go.Shelf.Ren:=⟨λ |283=>260|n=>n,λ |3=>3|9=>9|4=>4|n=>n,λ |n=>n⟩
theorem Tryz.lays283:Go.Proofs.Lays.n283 Tryz.prog Tryz.lays283_ren:={
 mixed:=by kernel_rfl
 f283:=Tryz.func260.trans (congrArg some (by kernel_rfl))
 t3:=Tryz.underlying3
 a3:=Tryz.isAgg3
 z3:=Tryz.sizeOf3
 v3:=Tryz.zeroValue3
 t4:=Tryz.underlying4
 a4:=Tryz.isAgg4
 z4:=Tryz.sizeOf4
 v4:=Tryz.zeroValue4
 t9:=Tryz.underlying9
 a9:=Tryz.isAgg9
 z9:=Tryz.sizeOf9
 v9:=Tryz.zeroValue9}
open Go.Lib in
theorem Tryz.internal_strconv_small(i:Nat)(h:i<100)(w:World):
 Calls Tryz.prog 260 #[.int .i64 i] w λe w'=>e= .returned (.string ⟨(Lib.decDigits i).toArray⟩)/\w'=w:=Any.internal_strconv_small Tryz.lays283 i h w
def Tryz.laysM284_ren:Go.Shelf.Ren:=⟨λ |284=>261|129=>251|317=>264|318=>265|n=>n,λ |53=>287|3=>3|212=>303|0=>0|4=>4|46=>210|5=>5|9=>9|n=>n,λ |17=>1|n=>n⟩
theorem Tryz.laysM284:Go.Proofs.LaysM.n284 Tryz.prog Tryz.laysM284_ren:={
 mixed:=by kernel_rfl
 f129:=Tryz.func251.trans (congrArg some (by kernel_rfl))
 f284:=Tryz.func261.trans (congrArg some (by kernel_rfl))
 f317:=Tryz.func264.trans (congrArg some (by kernel_rfl))
 f318:=Tryz.func265.trans (congrArg some (by kernel_rfl))
 t0:=Tryz.underlying0
 a0:=Tryz.isAgg0
 z0:=Tryz.sizeOf0
 v0:=Tryz.zeroValue0
 t3:=Tryz.underlying3
 a3:=Tryz.isAgg3
 z3:=Tryz.sizeOf3
 v3:=Tryz.zeroValue3
 t4:=Tryz.underlying4
 a4:=Tryz.isAgg4
 z4:=Tryz.sizeOf4
 v4:=Tryz.zeroValue4
 t5:=Tryz.underlying5
 a5:=Tryz.isAgg5
 z5:=Tryz.sizeOf5
 v5:=Tryz.zeroValue5
 t9:=Tryz.underlying9
 a9:=Tryz.isAgg9
 z9:=Tryz.sizeOf9
 v9:=Tryz.zeroValue9
 t46:=Tryz.underlying210
 a46:=Tryz.isAgg210
 z46:=Tryz.sizeOf210
 v46:=Tryz.zeroValue210
 t53:=Tryz.underlying287
 a53:=Tryz.isAgg287
 z53:=Tryz.sizeOf287
 v53:=Tryz.zeroValue287
 t212:=Tryz.underlying303
 a212:=Tryz.isAgg303
 z212:=Tryz.sizeOf303
 v212:=Tryz.zeroValue303
 g17:=by kernel_rfl
 i0:=by kernel_rfl
 i3:=by kernel_rfl
 i4:=by kernel_rfl
 i5:=by kernel_rfl
 i9:=by kernel_rfl
 i46:=by kernel_rfl
 i53:=by kernel_rfl
 i212:=by kernel_rfl
 m17:=by kernel_rfl}
open Go.Lib in
theorem Tryz.internal_strconv_numDigits(u:Nat)(h1:1<=u)(h2:u<18446744073709551616)(w:World)(htab:Lib.TabIs Tryz.prog w "internal/strconv.uint64pow10" .u64 Lib.pow10Tab):
 Calls Tryz.prog 261 #[.int .u64 u] w λe w'=>e= .returned (.int .i64 (Lib.nDigits u))/\w'=w:=Any.internal_strconv_numDigits Tryz.laysM284 u h1 h2 w htab
def Tryz.lays285_ren:Go.Shelf.Ren:=⟨λ |285=>262|n=>n,λ |37=>22|53=>287|3=>3|4=>4|51=>285|9=>9|5=>5|0=>0|n=>n,λ |n=>n⟩
theorem Tryz.lays285:Go.Proofs.Lays.n285 Tryz.prog Tryz.lays285_ren:={
 mixed:=by kernel_rfl
 f285:=Tryz.func262.trans (congrArg some (by kernel_rfl))
 t0:=Tryz.underlying0
 a0:=Tryz.isAgg0
 z0:=Tryz.sizeOf0
 v0:=Tryz.zeroValue0
 t3:=Tryz.underlying3
 a3:=Tryz.isAgg3
 z3:=Tryz.sizeOf3
 v3:=Tryz.zeroValue3
 t4:=Tryz.underlying4
 a4:=Tryz.isAgg4
 z4:=Tryz.sizeOf4
 v4:=Tryz.zeroValue4
 t5:=Tryz.underlying5
 a5:=Tryz.isAgg5
 z5:=Tryz.sizeOf5
 v5:=Tryz.zeroValue5
 t9:=Tryz.underlying9
 a9:=Tryz.isAgg9
 z9:=Tryz.sizeOf9
 v9:=Tryz.zeroValue9
 t37:=Tryz.underlying22
 a37:=Tryz.isAgg22
 z37:=Tryz.sizeOf22
 v37:=Tryz.zeroValue22
 t51:=Tryz.underlying285
 a51:=Tryz.isAgg285
 z51:=Tryz.sizeOf285
 v51:=Tryz.zeroValue285
 t53:=Tryz.underlying287
 a53:=Tryz.isAgg287
 z53:=Tryz.sizeOf287
 v53:=Tryz.zeroValue287}
open Go.RowKit Go.Sort Go.Lib in
theorem Tryz.internal_strconv_formatBase10(blk off cap:Nat)(u:Nat)(d:Array UInt8)(w:World)(hH:Holds (fun(b:UInt8)=>Value.int .u8 (b.toNat:Int)) w blk off d)(hu:u<10^d.size)(hu64:u<18446744073709551616)(hsz:d.size<4611686018427387904):
 Calls Tryz.prog 262 #[.slice (some ⟨blk,off,none⟩) d.size cap,.int .u64 u] w λe w'=>
  e= .returned (.tuple #[])/\∃(n v':Nat)(dk:Array UInt8),w'=(putRow (fun(b:UInt8)=>Value.int .u8 (b.toNat:Int)) w blk off dk).drewN n/\FmtInv d.size u 0 v' dk:=Any.internal_strconv_formatBase10 Tryz.lays285 blk off cap u d w hH hu hu64 hsz
def Tryz.sortF_ren:Go.Shelf.Ren:=⟨λ |6=>223|15=>239|14=>238|28=>250|29=>251|20=>242|21=>243|22=>244|23=>245|24=>246|25=>247|26=>248|27=>249|46=>253|47=>254|48=>255|49=>256|50=>257|57=>259|n=>n,λ |22=>95|24=>75|25=>122|3=>3|39=>210|0=>0|53=>285|55=>287|4=>4|46=>279|45=>278|50=>177|5=>5|9=>9|66=>288|70=>199|76=>294|77=>295|n=>n,λ |n=>n⟩
theorem Tryz.sortF:Go.Proofs.SlLaysF.n6 Tryz.prog Tryz.sortF_ren:={
 mixed:=by kernel_rfl
 f6:=⟨Tryz.f223.name,by decide,Tryz.func223.trans (congrArg some (by kernel_rfl))⟩
 f14:=⟨Tryz.f238.name,by decide,Tryz.func238.trans (congrArg some (by kernel_rfl))⟩
 f15:=Tryz.func239.trans (congrArg some (by kernel_rfl))
 f20:=⟨Tryz.f242.name,by decide,Tryz.func242.trans (congrArg some (by kernel_rfl))⟩
 f21:=⟨Tryz.f243.name,by decide,Tryz.func243.trans (congrArg some (by kernel_rfl))⟩
 f22:=⟨Tryz.f244.name,by decide,Tryz.func244.trans (congrArg some (by kernel_rfl))⟩
 f23:=⟨Tryz.f245.name,by decide,Tryz.func245.trans (congrArg some (by kernel_rfl))⟩
 f24:=⟨Tryz.f246.name,by decide,Tryz.func246.trans (congrArg some (by kernel_rfl))⟩
 f25:=⟨Tryz.f247.name,by decide,Tryz.func247.trans (congrArg some (by kernel_rfl))⟩
 f26:=⟨Tryz.f248.name,by decide,Tryz.func248.trans (congrArg some (by kernel_rfl))⟩
 f27:=⟨Tryz.f249.name,by decide,Tryz.func249.trans (congrArg some (by kernel_rfl))⟩
 f28:=Tryz.func250.trans (congrArg some (by kernel_rfl))
 f29:=Tryz.func251.trans (congrArg some (by kernel_rfl))
 f46:=⟨Tryz.f253.name,by decide,Tryz.func253.trans (congrArg some (by kernel_rfl))⟩
 f47:=Tryz.func254.trans (congrArg some (by kernel_rfl))
 f48:=Tryz.func255.trans (congrArg some (by kernel_rfl))
 f49:=⟨Tryz.f256.name,by decide,Tryz.func256.trans (congrArg some (by kernel_rfl))⟩
 f50:=⟨Tryz.f257.name,by decide,Tryz.func257.trans (congrArg some (by kernel_rfl))⟩
 f57:=⟨Tryz.f259.name,by decide,Tryz.func259.trans (congrArg some (by kernel_rfl))⟩
 t0:=Tryz.underlying0
 a0:=Tryz.isAgg0
 z0:=Tryz.sizeOf0
 v0:=Tryz.zeroValue0
 t3:=Tryz.underlying3
 a3:=Tryz.isAgg3
 z3:=Tryz.sizeOf3
 v3:=Tryz.zeroValue3
 t4:=Tryz.underlying4
 a4:=Tryz.isAgg4
 z4:=Tryz.sizeOf4
 v4:=Tryz.zeroValue4
 t5:=Tryz.underlying5
 a5:=Tryz.isAgg5
 z5:=Tryz.sizeOf5
 v5:=Tryz.zeroValue5
 t9:=Tryz.underlying9
 a9:=Tryz.isAgg9
 z9:=Tryz.sizeOf9
 v9:=Tryz.zeroValue9
 t22:=Tryz.underlying95
 a22:=Tryz.isAgg95
 z22:=Tryz.sizeOf95
 v22:=Tryz.zeroValue95
 a24:=Tryz.isAgg75
 z24:=Tryz.sizeOf75
 t25:=Tryz.underlying122
 a25:=Tryz.isAgg122
 z25:=Tryz.sizeOf122
 v25:=Tryz.zeroValue122
 t39:=Tryz.underlying210
 a39:=Tryz.isAgg210
 z39:=Tryz.sizeOf210
 v39:=Tryz.zeroValue210
 t45:=Tryz.underlying278
 a45:=Tryz.isAgg278
 z45:=Tryz.sizeOf278
 v45:=Tryz.zeroValue278
 t46:=Tryz.underlying279
 a46:=Tryz.isAgg279
 z46:=Tryz.sizeOf279
 v46:=Tryz.zeroValue279
 t50:=Tryz.underlying177
 a50:=Tryz.isAgg177
 z50:=Tryz.sizeOf177
 v50:=Tryz.zeroValue177
 t53:=Tryz.underlying285
 a53:=Tryz.isAgg285
 z53:=Tryz.sizeOf285
 v53:=Tryz.zeroValue285
 t55:=Tryz.underlying287
 a55:=Tryz.isAgg287
 z55:=Tryz.sizeOf287
 v55:=Tryz.zeroValue287
 t66:=Tryz.underlying288
 a66:=Tryz.isAgg288
 z66:=Tryz.sizeOf288
 v66:=Tryz.zeroValue288
 t70:=Tryz.underlying199
 a70:=Tryz.isAgg199
 z70:=Tryz.sizeOf199
 v70:=Tryz.zeroValue199
 t76:=Tryz.underlying294
 a76:=Tryz.isAgg294
 z76:=Tryz.sizeOf294
 v76:=Tryz.zeroValue294
 t77:=Tryz.underlying295
 a77:=Tryz.isAgg295
 z77:=Tryz.sizeOf295
 v77:=Tryz.zeroValue295}
def Tryz.sortN_ren:Go.Shelf.Ren:=⟨λ |6=>223|15=>239|14=>238|28=>250|29=>251|20=>242|21=>243|22=>244|23=>245|24=>246|25=>247|26=>248|27=>249|46=>253|47=>254|48=>255|49=>256|50=>257|57=>259|n=>n,λ |22=>95|24=>75|25=>122|3=>3|39=>210|0=>0|53=>285|55=>287|4=>4|46=>279|45=>278|50=>177|5=>5|9=>9|66=>288|70=>199|76=>294|77=>295|n=>n,λ |n=>n⟩
theorem Tryz.sortN:Go.Proofs.SlLaysF0.n6 Tryz.prog Tryz.sortN_ren:={
 mixed:=by kernel_rfl
 f6:=⟨Tryz.f223.name,by decide,Tryz.func223.trans (congrArg some (by kernel_rfl))⟩
 f14:=⟨Tryz.f238.name,by decide,Tryz.func238.trans (congrArg some (by kernel_rfl))⟩
 f15:=Tryz.func239.trans (congrArg some (by kernel_rfl))
 f20:=⟨Tryz.f242.name,by decide,Tryz.func242.trans (congrArg some (by kernel_rfl))⟩
 f21:=⟨Tryz.f243.name,by decide,Tryz.func243.trans (congrArg some (by kernel_rfl))⟩
 f22:=⟨Tryz.f244.name,by decide,Tryz.func244.trans (congrArg some (by kernel_rfl))⟩
 f23:=⟨Tryz.f245.name,by decide,Tryz.func245.trans (congrArg some (by kernel_rfl))⟩
 f24:=⟨Tryz.f246.name,by decide,Tryz.func246.trans (congrArg some (by kernel_rfl))⟩
 f25:=⟨Tryz.f247.name,by decide,Tryz.func247.trans (congrArg some (by kernel_rfl))⟩
 f26:=⟨Tryz.f248.name,by decide,Tryz.func248.trans (congrArg some (by kernel_rfl))⟩
 f27:=⟨Tryz.f249.name,by decide,Tryz.func249.trans (congrArg some (by kernel_rfl))⟩
 f28:=Tryz.func250.trans (congrArg some (by kernel_rfl))
 f29:=Tryz.func251.trans (congrArg some (by kernel_rfl))
 f46:=⟨Tryz.f253.name,by decide,Tryz.func253.trans (congrArg some (by kernel_rfl))⟩
 f47:=Tryz.func254.trans (congrArg some (by kernel_rfl))
 f48:=Tryz.func255.trans (congrArg some (by kernel_rfl))
 f49:=⟨Tryz.f256.name,by decide,Tryz.func256.trans (congrArg some (by kernel_rfl))⟩
 f50:=⟨Tryz.f257.name,by decide,Tryz.func257.trans (congrArg some (by kernel_rfl))⟩
 f57:=⟨Tryz.f259.name,by decide,Tryz.func259.trans (congrArg some (by kernel_rfl))⟩
 t0:=Tryz.underlying0
 a0:=Tryz.isAgg0
 z0:=Tryz.sizeOf0
 v0:=Tryz.zeroValue0
 t3:=Tryz.underlying3
 a3:=Tryz.isAgg3
 z3:=Tryz.sizeOf3
 v3:=Tryz.zeroValue3
 t4:=Tryz.underlying4
 a4:=Tryz.isAgg4
 z4:=Tryz.sizeOf4
 v4:=Tryz.zeroValue4
 t5:=Tryz.underlying5
 a5:=Tryz.isAgg5
 z5:=Tryz.sizeOf5
 v5:=Tryz.zeroValue5
 t9:=Tryz.underlying9
 a9:=Tryz.isAgg9
 z9:=Tryz.sizeOf9
 v9:=Tryz.zeroValue9
 t22:=Tryz.underlying95
 a22:=Tryz.isAgg95
 z22:=Tryz.sizeOf95
 v22:=Tryz.zeroValue95
 t25:=Tryz.underlying122
 a25:=Tryz.isAgg122
 z25:=Tryz.sizeOf122
 v25:=Tryz.zeroValue122
 t39:=Tryz.underlying210
 a39:=Tryz.isAgg210
 z39:=Tryz.sizeOf210
 v39:=Tryz.zeroValue210
 t45:=Tryz.underlying278
 a45:=Tryz.isAgg278
 z45:=Tryz.sizeOf278
 v45:=Tryz.zeroValue278
 t46:=Tryz.underlying279
 a46:=Tryz.isAgg279
 z46:=Tryz.sizeOf279
 v46:=Tryz.zeroValue279
 t50:=Tryz.underlying177
 a50:=Tryz.isAgg177
 z50:=Tryz.sizeOf177
 v50:=Tryz.zeroValue177
 t53:=Tryz.underlying285
 a53:=Tryz.isAgg285
 z53:=Tryz.sizeOf285
 v53:=Tryz.zeroValue285
 t55:=Tryz.underlying287
 a55:=Tryz.isAgg287
 z55:=Tryz.sizeOf287
 v55:=Tryz.zeroValue287
 t66:=Tryz.underlying288
 a66:=Tryz.isAgg288
 z66:=Tryz.sizeOf288
 v66:=Tryz.zeroValue288
 t70:=Tryz.underlying199
 a70:=Tryz.isAgg199
 z70:=Tryz.sizeOf199
 v70:=Tryz.zeroValue199
 t76:=Tryz.underlying294
 a76:=Tryz.isAgg294
 z76:=Tryz.sizeOf294
 v76:=Tryz.zeroValue294
 t77:=Tryz.underlying295
 a77:=Tryz.isAgg295
 z77:=Tryz.sizeOf295
 v77:=Tryz.zeroValue295}
def Tryz.searchO_ren:Go.Shelf.Ren:=⟨λ |16=>209|n=>n,λ |3=>3|35=>53|4=>4|38=>210|n=>n,λ |n=>n⟩
theorem Tryz.searchO:Go.Proofs.SlLaysO.n16 Tryz.prog Tryz.searchO_ren:={
 mixed:=by kernel_rfl
 f16:=Tryz.func209.trans (congrArg some (by kernel_rfl))
 t3:=Tryz.underlying3
 a3:=Tryz.isAgg3
 z3:=Tryz.sizeOf3
 v3:=Tryz.zeroValue3
 t4:=Tryz.underlying4
 a4:=Tryz.isAgg4
 z4:=Tryz.sizeOf4
 v4:=Tryz.zeroValue4
 t35:=Tryz.underlying53
 a35:=Tryz.isAgg53
 z35:=Tryz.sizeOf53
 v35:=Tryz.zeroValue53
 t38:=Tryz.underlying210
 a38:=Tryz.isAgg210
 z38:=Tryz.sizeOf210
 v38:=Tryz.zeroValue210}
end Go.Proofs
namespace Go.Ps
open Go Go.Vc Go.Proofs
variable{K:CV->MH->PH->Prop}{m:MH}{h:PH}{s:jR}{ps:List Int}{cb:Nat}{sc:bN}{v:QV}{q:Query}{p:Pred}{l:List Int}{i:Nat}{N:Nat}{m':MH}{h':PH}{co:List Int}{gr:List Int}{on:List (Int×Int)}{od:List (Int×Bool)}{w:Pred}{ta:Int}{li:Int}{xs:List (List Value)}{sz:Nat}{k:Nat}{ks:List (List Int)}{rs:List Int}{r:Sl}{a:List Int}{b:Nat}
def gG(m:MH):Prop:=∃T fz,m 1=some (.cells (Lib.pow10Tab.map λz=>Value.int .u64 z).toArray T fz)
def cU(u:Nat):CV:=.val (.int .u64 u)
def acX:Vc.Spec:=λcvs m h K=>∃i:Nat,cvs=[cI i]/\i<100/\K (RZ ⟨(Lib.decDigits i).toArray⟩) m h
def Td:Vc.Spec:=λcvs m h K=>∃u:Nat,cvs=[cU u]/\1<=u/\u<18446744073709551616/\gG m/\K (cI (Lib.nDigits u)) m h
def abQ:Vc.Spec:=λcvs m h K=>∃b cap u:Nat,∃(cs:Array Value)(T:TypeId),cvs=[.val (.slice (some ⟨b,0,none⟩) (Lib.nDigits u) cap),cU u]/\u<18446744073709551616/\m b=some (.cells cs T (0,0))/\cs.toList=List.replicate 24 (.int .u8 0)/\
 ∀cs' m',cs'.size=cs.size->cs'.toList.take (Lib.nDigits u)=Lib.byteCells (Lib.decDigits u)->eW m m' b (.cells cs' T (0,0))->K (.tup []) m' h
def Zi:Vc.Spec:=λcvs m h K=>∃xs,∃u:Nat,cvs=[.lst 5 1 xs,cU u,cI 10]/\u<18446744073709551616/\gG m/\xs.length+30<=140737488355328/\K (.lst 5 1 (xs++bX (Lib.decDigits u))) m h
def j8(i:Int):List UInt8:=if i<0 then 45::Lib.decDigits (IntKind.u64.wrap (0-IntKind.u64.wrap i)).toNat else Lib.decDigits (IntKind.u64.wrap i).toNat
def To:Vc.Spec:=λcvs m h K=>∃xs i,cvs=[.lst 5 1 xs,cI i,cI 10]/\gG m/\xs.length+40<=140737488355328/\K (.lst 5 1 (xs++bX (j8 i))) m h
noncomputable abbrev HP(a:Nat):List (List Value):=fY (ByteArray.mk (Array.mk (Lib.decDigits a)))
noncomputable abbrev BC(a:Int):Value:=Value.int IntKind.u8 a
noncomputable abbrev Aw(a:List Value):List Value:=aJ (BC 0) (BC 0) (aJ (BC 0) (BC 0) (aJ (BC 0) (BC 0) (aJ (BC 0) (BC 0) a)))
noncomputable abbrev vG(a:Int):CV:=CV.val (Value.int IntKind.u64 a)
abbrev IT(a:Nat):Prop:=a<18446744073709551616
noncomputable abbrev lE(a:Nat):Nat:=(↑a:Int).toNat
abbrev rK(a b:Prop)(c:(List (List Value))->Prop):Prop:=aA a b (∃(x:List (List Value)),c x)
attribute [push_cast] HP BC Aw vG IT lE rK
def Gb(xs:List (List Value))(u:Nat)(m:MH)(h:PH)(K:CV->MH->PH->Prop):Prop:=
  bE (↑u:Int) 100 (∃(i:Nat),aA (fA (qO (↑u:Int)) (↑i:Int)) (i<100) (aA (Ad xs (HP i) 1) (nC xs (HP i).length) (K (CV.lst 5 1 (xs++HP i)) m h))) (gA (λb m1=>bY m h b->bG m m1 b (Aw (Aw (Aw []))) 298->∃(u1:Nat),aA (eV (vG (↑u:Int)) (vG (↑u1:Int))) (1<=u1) (aA (IT u1) (gG m1) (aA (cQ (↑(Lib.nDigits u1):Int)) ((↑(Lib.nDigits u1):Int)<=24) (bK (λb1 c=>∃(u2:Nat),iE (λc1 T=>aA (aK (CV.val (Value.slice (Option.some (Vx b 0)) (lE (Lib.nDigits u1)) 24)) (vG (↑u:Int))=aK (CV.val (Value.slice (Option.some (Vx b1 0)) (Lib.nDigits u2) c)) (vG (↑u2:Int))) (IT u2) (aA (m1 b1=Option.some (fN c1 T 0)) (c1.toList=Aw (Aw (Aw []))) (∀(c2:Array Value)(m2:MH),c2.size=c1.size->List.take
 (Lib.nDigits u2) c2.toList=Lib.byteCells (Lib.decDigits u2)->eW m1 m2 b1 (fN c2 T 0)->rK (cQ (↑(Lib.nDigits u1):Int)) ((↑(Lib.nDigits u1):Int)<=24) (λy=>aA (dU 1 y) (sH m2 h (Sl.mk (Option.some (Vx b 0)) (lE (Lib.nDigits u1)) 24) 1 y) (aA (Ad xs y 1) (nC xs y.length) (K (CV.lst 5 1 (xs++y)) m2 h))))))))))))
noncomputable abbrev Cm(a:List (List Value))(b:CV):List CV:=CV.lst 5 1 a::aK b (dY 10)
noncomputable abbrev IV(a:Int):Int:=IntKind.wrap IntKind.u64 a
noncomputable abbrev sU(a:List (List Value))(b:List UInt8):List (List Value):=a++bX b
attribute [push_cast] Cm IV sU
def Lb(xs:List (List Value))(i:Int)(m:MH)(h:PH)(K:CV->MH->PH->Prop):Prop:=
  bE i 0 (rK (dD (xs.length+1) 1) (eF xs) (λx=>∃(u:Nat),aA (Cm (eR xs (l9 (BC 45))) (vG (IV (0-IV i)))=Cm x (vG (↑u:Int))) (IT u) (aA (gG m) (nC x 30) (K (CV.lst 5 1 (sU x (Lib.decDigits u))) m h)))) (∃(x:List (List Value))(u:Nat),aA (Cm xs (vG (IV i))=Cm x (vG (↑u:Int))) (IT u) (aA (gG m) (nC x 30) (K (CV.lst 5 1 (sU x (Lib.decDigits u))) m h)))
abbrev E8(a:(List (List Value))->Int->Prop):Prop:=∃(x:List (List Value))(x1:Int),a x x1
noncomputable abbrev w9(a:List (List Value))(b:Int):List CV:=CV.lst 5 1 a::aK (dY b) (dY 10)
attribute [push_cast] E8 w9
def Un(xs:List (List Value))(i:Int)(m:MH)(h:PH)(K:CV->MH->PH->Prop):Prop:=
  E8 (λx i1=>aA (w9 xs i=w9 x i1) (gG m) (nC x 40/\K (CV.lst 5 1 (sU x (j8 i1))) m h))
theorem gG.sub(h:gG m)(hs:Sub m m'):gG m':=by
 obtain⟨T,fz,e⟩:=h;exact⟨T,fz,hs 1 _ e⟩
theorem FL{w:World}{cvs:List CV}{vs:List Value}(hp:uD w m h cvs vs):qS ⟨w,mX m cvs vs,h,[]⟩ m h w:=
 ⟨rfl,rfl,rfl,Nat.le_refl _,Nat.le_refl _,λ_ _ _=>rfl,hp.hsat,hp.msat,hp.disj,λ_ _ _ e=>e,λ_ _ _=>rfl,λb o hb=>.inr (.inl (by rw[show m b=some o from hb];simp))⟩
theorem QC:Sound Tryz.prog 260 acX:=by
 refine⟨⟨Tryz.f260,Tryz.func260,rfl,by decide⟩,?_⟩;rintro cvs vs m h w K ⟨i,rfl,hi,hK⟩ hp
 obtain⟨v,rfl⟩:∃v,vs=[v]:=by
  have:=(mG hp.args).1
  match vs,this with
  |[v],_=>exact⟨v,rfl⟩
 have hv:v= .int .i64 i:=hp.args.1;subst hv;refine(Tryz.internal_strconv_small i hi w).mono ?_;rintro e w' ⟨rfl,rfl⟩;exact⟨_,_,m,h,rfl,hK,rfl,FL hp,λb hb=>by simp[RZ,eJ]at hb⟩
theorem QB:Sound Tryz.prog 261 Td:=by
 refine⟨⟨Tryz.f261,Tryz.func261,rfl,by decide⟩,?_⟩;rintro cvs vs m h w K ⟨u,rfl,h1,h2,⟨T,fz,ht⟩,hK⟩ hp
 obtain⟨v,rfl⟩:∃v,vs=[v]:=by
  have:=(mG hp.args).1
  match vs,this with
  |[v],_=>exact⟨v,rfl⟩
 have hv:v= .int .u64 u:=hp.args.1;subst hv;have hg:=hp.msat 1 _ ht;refine(Tryz.internal_strconv_numDigits u h1 h2 w ?_).mono ?_
 .unfold Lib.TabIs World.var?;rw[show Tryz.prog.globalNamed _=some 1 by kernel_rfl];simp only[Option.bind_some,hg]
 .rintro e w' ⟨rfl,rfl⟩;exact⟨_,_,m,h,rfl,hK,rfl,FL hp,λb hb=>by simp[cI,eJ]at hb⟩
theorem QA:Sound Tryz.prog 262 abQ:=by
 refine⟨⟨Tryz.f262,Tryz.func262,rfl,by decide⟩,?_⟩;rintro cvs vs m h w K ⟨b,cap,u,cs,T,rfl,hu,hb,hcs,hK⟩ hp
 obtain⟨v,v2,rfl⟩:∃v v2,vs=[v,v2]:=by
  have:=(mG hp.args).1
  match vs,this with
  |[v,v2],_=>exact⟨v,v2,rfl⟩
 have hv:v= .slice (some ⟨b,0,none⟩) (Lib.nDigits u) cap:=hp.args.1;have hv2:v2= .int .u64 u:=hp.args.2.1;subst hv hv2;have hg:=hp.msat b _ hb;have h20:=Lib.nDigits_le20 u hu;have hsz:cs.size=24:=by rw[<-Array.length_toList,hcs];simp
 have hH:Sort.Holds (fun(b:UInt8)=>Value.int .u8 (b.toNat:Int)) w b 0 (Array.replicate (Lib.nDigits u) (0:UInt8)):=by
  intro j hj;simp only[Array.size_replicate]at hj;refine⟨?_,?_⟩
  .rw[cell_of_heap hg,hcs,List.getElem?_replicate,if_pos aC];rw[getElem!_pos _ j (by simpa using hj)];simp
  .unfold World.frozen?;rw[hg];simp
 have hc:=Tryz.internal_strconv_formatBase10 b 0 cap u (Array.replicate (Lib.nDigits u) (0:UInt8)) w hH (by simpa using Lib.lt_pow_nDigits u) hu (by simp;omega);rw[Array.size_replicate]at hc;refine hc.mono ?_;rintro e w' ⟨rfl,n,v',dk,rfl,hf⟩;have hds:dk.size=Lib.nDigits u:=hf.size;obtain⟨m',hm'⟩:∃m',eW m m' b (.cells (Sort.putCells (fun(b:UInt8)=>Value.int .u8 (b.toNat:Int)) 0 dk cs) T (0,0)):=⟨λb'=>if b'=b then some (.cells (Sort.putCells (fun(b:UInt8)=>Value.int .u8 (b.toNat:Int)) 0 dk cs) T (0,0))else m b',by simp,λb' hb'=>by simp[hb']⟩
 have hnew:(Sort.putRow (fun(b:UInt8)=>Value.int .u8 (b.toNat:Int)) w b 0 dk).heap[b]? =some (.cells (Sort.putCells (fun(b:UInt8)=>Value.int .u8 (b.toNat:Int)) 0 dk cs) T (0,0)):=by
  unfold Sort.putRow Sort.mapBlock;simp only[Array.getElem?_modify,if_true,hg];rfl
 have hold:∀b',b'≠b->(Sort.putRow (fun(b:UInt8)=>Value.int .u8 (b.toNat:Int)) w b 0 dk).heap[b']? =w.heap[b']? :=λb' hb'=>by
  unfold Sort.putRow Sort.mapBlock;simp only[Array.getElem?_modify,if_neg (Ne.symm hb')]
 refine⟨.tup [],.tuple #[],m',h,rfl,hK _ m' ?_ ?_ hm',⟨#[],rfl,rfl⟩,?_,λb hb=>by simp[eJ]at hb⟩
 .simp[Sort.putCells]
 .apply List.ext_getElem?;intro j;rw[List.getElem?_take];have hl:(Lib.byteCells (Lib.decDigits u)).length=Lib.nDigits u:=by rw[Lib.byteCells_length,Lib.decDigits_length]
  by_cases hj:j<Lib.nDigits u
  .rw[if_pos hj,Array.getElem?_toList];have hj2:j<(Lib.decDigits u).length:=by rw[Lib.decDigits_length];exact hj
   have hcsj:j<cs.size:=by omega
   simp only[Sort.putCells,Array.getElem?_mapIdx,Array.getElem?_eq_getElem hcsj,Option.map_some,Nat.zero_le,Nat.zero_add,Nat.sub_zero,true_and];rw[if_pos aC,Lib.byteCells,List.getElem?_map,List.getElem?_eq_getElem hj2,Lib.row_is_numeral hf j hj2];rfl
  .rw[if_neg hj,List.getElem?_eq_none aC]
 .have hmb:∀b' o,m' b'=some o->b'=b\/m b'=some o:=λb' o hb'=>by
   by_cases e:b'=b
   .exact .inl e
   .rw[hm'.other b' e]at hb';exact .inr hb'
  have hE:mX m [.val (.slice (some ⟨b,0,none⟩) (Lib.nDigits u) cap),cU u] [.slice (some ⟨b,0,none⟩) (Lib.nDigits u) cap,.int .u64 u] b:=.inl (by rw[hb];simp);refine⟨rfl,rfl,rfl,Nat.le_add_right _ _,by simp[Sort.putRow,Sort.mapBlock],?_,?_,?_,?_,λ_ _ _ e=>e,λ_ _ _=>rfl,?_⟩
  .intro b' _ hn;exact hold b' (λe=>hn (e▸hE))
  .intro b' o x hx;have hne:b'≠b:=λe=>by rw[e,hp.disj b _ hb o]at hx;cases hx
   show(Sort.putRow (fun(b:UInt8)=>Value.int .u8 (b.toNat:Int)) w b 0 dk).cell? ⟨b',o,none⟩=some x;rw[World.cell?_of_block (w:=w) (a:=⟨b',o,none⟩) (hold b' hne)];exact hp.hsat b' o x hx
  .intro b' o hb';by_cases e:b'=b
   .subst e;rw[hm'.at_]at hb';cases hb';exact hnew
   .rw[hm'.other b' e]at hb';rw[show((Sort.putRow (fun(b:UInt8)=>Value.int .u8 (b.toNat:Int)) w b 0 dk).drewN n).heap[b']? =_ from hold b' e];exact hp.msat b' o hb'
  .intro b' o hb' j;rcases hmb b' o hb' with rfl|h1
   .exact hp.disj b' _ hb j
   .exact hp.disj b' _ h1 j
  .intro b' o hb';rcases hmb b' o hb' with rfl|h1
   .exact .inr hE
   .exact .inr (.inl (by rw[h1];simp))
theorem BZ(l:List UInt8):fY ⟨l.toArray⟩=bX l:=by simp[fY,bX]
theorem GJ(l:List UInt8):(bX l).flatten=Lib.byteCells l:=by
 unfold bX Lib.byteCells
 induction l with
 |nil=>rfl
 |cons b r ih=>simp[ih]
theorem mM(l:List UInt8):(bX l).length=l.length:=by simp[bX]
theorem QE:Sound Tryz.prog 258 Zi:=by
 refine Fh Tryz.func258 ?_;rintro cvs m h K ⟨xs,u,rfl,hu,ht,hl,hK⟩;refine⟨sY [(260,acX),(261,Td),(262,abQ)] [] [] [] [298] [] true,rfl,aD QC (aD QB (aD QA aF)),Gb xs u m h (kY h K),by kernel_rfl,?_⟩;show Gb xs u m h (kY h K);dsimp only[Gb,push_cast];have h20:=Lib.nDigits_le20 u hu;have hdl:=Lib.decDigits_length u;refine aE (λh1=>⟨u,?_,aC,?_,?_,?_⟩) (λh1 b m1 hb hm1=>?_)
 .rw[gD aC aC]
 .rw[BZ,mM];omega
 .rw[BZ,mM];omega
 .rw[BZ];exact .here hK
 .have hs1:Sub m m1:=(Sub.refl m).upd hb.m_ hm1.other;refine⟨u,rfl,aC,hu,ht.sub hs1,aC,aC,b,24,u,_,_,by rw[Int.toNat_natCast],hu,hm1.at_,rfl,λcs' m2 hsz htake hm2=>⟨aC,aC,bX (Lib.decDigits u),MO _,?_,?_,?_,?_⟩⟩
  .refine .lent b 0 cs' 298 (0,0) rfl ?_ hm2.at_ ?_
   .rw[Int.toNat_natCast,mM,hdl]
   .rw[GJ,Lib.byteCells_length,hdl,List.drop_zero];exact htake
  .rw[mM];omega
  .rw[mM];omega
  .exact .sub (hs1.upd hb.m_ hm2.other) hK
theorem U7(i:Int):0<=IntKind.u64.wrap i/\IntKind.u64.wrap i<18446744073709551616:=by
 simp only[IntKind.wrap,IntKind.bits,IntKind.signed];simp;omega
theorem vX(i:Int):(j8 i).length<=21:=by
 have key:∀n:Int,(Lib.decDigits (IntKind.u64.wrap n).toNat).length<=20:=λn=>by
  rw[Lib.decDigits_length];exact Lib.nDigits_le20 _ (by have:=U7 n;omega)
 unfold j8;split
 .have:=key (0-IntKind.u64.wrap i);simp only[List.length_cons];omega
 .have:=key i;omega
theorem QF:Sound Tryz.prog 252 To:=by
 refine jK Tryz.func252 ?_;rintro cvs m h K ⟨xs,i,rfl,ht,hl,hK⟩;refine⟨sY [(258,Zi)] [] [] [] [] [(258,[0])] true,rfl,aD QE aF,Lb xs i m h K,by kernel_rfl,?_⟩;dsimp only[Lb,push_cast];have h1:=U7 i;have h2:=U7 (0-IntKind.u64.wrap i);refine aE (λhn=>⟨aC,aC,xs++[[.int .u8 45]],(IntKind.u64.wrap (0-IntKind.u64.wrap i)).toNat,?_,aC,ht,by simp;omega,?_⟩) (λhn=>⟨xs,(IntKind.u64.wrap i).toNat,?_,aC,ht,aC,?_⟩)
 .rw[show(((IntKind.u64.wrap (0-IntKind.u64.wrap i)).toNat:Nat):Int)=IntKind.u64.wrap (0-IntKind.u64.wrap i)by omega]
 .have:j8 i=45::Lib.decDigits (IntKind.u64.wrap (0-IntKind.u64.wrap i)).toNat:=by unfold j8;rw[if_pos hn]
  rw[this]at hK;rw[List.append_assoc];exact hK
 .rw[show(((IntKind.u64.wrap i).toNat:Nat):Int)=IntKind.u64.wrap i by omega]
 .have:j8 i=Lib.decDigits (IntKind.u64.wrap i).toNat:=by unfold j8;rw[if_neg hn]
  rw[this]at hK;exact hK
theorem QG:Sound Tryz.prog 240 To:=by
 refine jK Tryz.func240 ?_;rintro cvs m h K ⟨xs,i,rfl,ht,hl,hK⟩;refine⟨sY [(252,To)] [] [] [] [] [(252,[0])] true,rfl,aD QF aF,Un xs i m h K,by kernel_rfl,?_⟩;exact⟨xs,i,rfl,ht,hl,hK⟩
def yV(a b:Int):Int:=if a<b then-1 else if b<a then 1 else 0
def Nr(a b:ByteArray):Int:=Lib.compareBytes a.data.toList b.data.toList
def j4(a b:VV):Int:=if yV a.kind b.kind≠0 then yV a.kind b.kind else if yV a.int b.int≠0 then yV a.int b.int else Nr a.text b.text
def cL:List VV->List VV->Int
 |[],[]=>0
 |[],_::_=> -1
 |_::_,[]=>1
 |x::xs,y::ys=>if j4 x y≠0 then j4 x y else cL xs ys
def YH:Vc.Spec:=λcvs m h K=>∃n,cvs=[cI n]/\K (cB false) m h
def Th:Vc.Spec:=λcvs m h K=>∃a b,cvs=[cI a,cI b]/\K (cI (yV a b)) m h
def Zd:Vc.Spec:=λcvs m h K=>∃a b,cvs=[RZ a,RZ b]/\K (cI (Nr a b)) m h
def Tg:Vc.Spec:=λcvs m h K=>∃a b,cvs=[aV a,aV b]/\K (cI (j4 a b)) m h
def Hs:Vc.Spec:=λcvs m h K=>∃s t a b,cvs=[cS s,cS t]/\bB h s a/\bB h t b/\K (cI (cL a b)) m h
def Zf:Vc.Spec:=λcvs m h K=>∃s t a b,cvs=[cS s,cS t,.val (.func (.func 151) #[] #[])]/\bB h s a/\bB h t b/\K (cI (cL a b)) m h
def Rows(h:PH)(s:Sl)(l:List (List VV)):Prop:=aR h 1 eS (λr t=>bB h t r) s l
noncomputable def Wl(s t:Sl)(m:MH)(h:PH):Ctx:=
 dL [(151,Tg)] [(2,{A:=Nat,st:=λi=>cM 39 42 [(0,sv s),(1,sv t),(2,vv (.func (.func 151) #[] #[])),(11,sv s),(12,iv s.len),(13,iv i)] [] m h})] [] [] false
def Uy(n:Int)(m:MH)(h:PH)(K:CV->MH->PH->Prop):Prop:=
  K (yX (n !=n)) m h
def Ux(n:Int)(m:MH)(h:PH)(K:CV->MH->PH->Prop):Prop:=
  K (yX (n !=n)) m h
abbrev oT(a:Prop)(b:Int->Prop):Prop:=a/\∃(x:Int),b x
abbrev EL(a b:Int)(c:Int->Int->Prop):Prop:=∃(x:Int),oT (fA a x) (λx1=>fA b x1/\c x x1)
attribute [push_cast] oT EL
def Gr(a b:Int)(m:MH)(h:PH)(K:CV->MH->PH->Prop):Prop:=
  EL a b (λ_ _=>bE a b (K (dY (Int.negSucc 0)) m h) (branch (decide (a>b)) (K (dY 1) m h) (K (dY 0) m h)))
def UC(a b:Int)(m:MH)(h:PH)(K:CV->MH->PH->Prop):Prop:=
  EL a b (λ_ _=>bE a b (K (dY (Int.negSucc 0)) m h) (branch (decide (a>b)) (K (dY 1) m h) (K (dY 0) m h)))
def LB(a b:VV)(m:MH)(h:PH)(K:CV->MH->PH->Prop):Prop:=
  rN 58 a.enc b.enc (λr=>branch r (K (dY 0) m h) (∃(a1 b1:Int),aK (dY a.kind) (dY b.kind)=aK (dY a1) (dY b1)/\branch (yV a1 b1 !=0) (K (dY (yV a1 b1)) m h) (∃(a2 b2:Int),aK (dY a.int) (dY b.int)=aK (dY a2) (dY b2)/\branch (yV a2 b2 !=0) (K (dY (yV a2 b2)) m h) (∃(a3 b3:ByteArray),aK (wD a.text) (wD b.text)=aK (wD a3) (wD b3)/\K (dY (Nr a3 b3)) m h))))
def LC(s t:Sl)(m:MH)(h:PH)(K:CV->MH->PH->Prop):Prop:=
  rB (λI x=>aA (I x) (aL s) (aA (aL t) (AJ 151) (aA (aL s) (aX s) (aA (bI x) (m=m) (bP h h))))) (λI m1 x=>I x->bE (↑x:Int) (aH s) (bK (λb o=>aA (bL s.a b o) (0<=(↑x:Int)) ((↑x:Int)<aH s/\∃(y:VV),aI m h b (o+aZ x 3) y.enc/\iH (↑x:Int) (aH t) K (dY 1) m h (bK (λb1 o1=>aA (bL t.a b1 o1) (0<=(↑x:Int)) ((↑x:Int)<aH t/\∃(y1:VV),aI m h b1 (o1+aZ x 3) y1.enc/\∃(a b2:VV),aK (kA y) (kA y1)=aK (kA a) (kA b2)/\branch (j4 a b2 !=0) (K (dY (j4 a b2)) m h) (∃(x1:Nat),aA (I x1) (m1 x1<m1 x) (aA (aL s) (aL t) (aA (AJ 151) (aL s) (aA (aX s) (bD (gI (bC x 1)) x1) (bZ m m h h))))))))))) (bE (aH s) (aH t) (K (dY (Int.negSucc 0)) m h) (K (dY 0) m h)))
def UH(s t:Sl)(m:MH)(h:PH)(K:CV->MH->PH->Prop):Prop:=
  fR (λs1 t1=>∃(a b:List VV),aA (dG s::aK (dG t) (gL 151 oI)=dG s1::aK (dG t1) (gL 151 oI)) (bB h s1 a) (bB h t1 b/\K (dY (cL a b)) m h))
theorem Dd{a b:Int}:yV a b=0↔a=b:=by
 unfold yV;constructor
 .intro h;split at h
  .omega
  .split at h<;>omega
 .intro h;subst h;simp
theorem L6:∀a b:List UInt8,Lib.compareBytes a b=0↔a=b
 |[],[]=>by simp[Lib.compareBytes]
 |[],_::_=>by simp[Lib.compareBytes]
 |_::_,[]=>by simp[Lib.compareBytes]
 |a::l,b::bs=>by
  simp only[Lib.compareBytes,List.cons.injEq];split
  .rename_i h;simp;intro e;subst e;exact absurd h (UInt8.lt_irrefl _)
  .split
   .rename_i h;simp;intro e;subst e;exact absurd h (UInt8.lt_irrefl _)
   .rename_i h1 h2;rw[L6 l bs];have:a=b:=UInt8.le_antisymm (UInt8.not_lt.1 h2) (UInt8.not_lt.1 h1);simp[this]
theorem UO{a b:ByteArray}:Nr a b=0↔a=b:=by
 unfold Nr;rw[L6];constructor
 .intro h;cases a;cases b;simp only[ByteArray.mk.injEq];exact Array.toList_inj.1 h
 .intro h;rw[h]
theorem Dc{a b:VV}:j4 a b=0↔a=b:=by
 obtain⟨k,i,t⟩:=a;obtain⟨k',i',t'⟩:=b;simp only[j4,VV.mk.injEq];split
 .rename_i h;exact⟨λe=>absurd e h,λe=>absurd (Dd.2 e.1) h⟩
 .rename_i h;have h:=Classical.not_not.1 h;split
  .rename_i h2;exact⟨λe=>absurd e h2,λe=>absurd (Dd.2 e.2.1) h2⟩
  .rename_i h2;have h2:=Classical.not_not.1 h2;rw[UO];simp[Dd.1 h,Dd.1 h2]
theorem gR:∀{a b:List VV},cL a b=0↔a=b
 |[],[]=>by simp[cL]
 |[],_::_=>by simp[cL]
 |_::_,[]=>by simp[cL]
 |x::xs,y::ys=>by
  simp only[cL,List.cons.injEq];split
  .rename_i h;exact⟨λe=>absurd e h,λe=>absurd (Dc.2 e.1) h⟩
  .rename_i h;rw[gR (a:=xs),Dc.1 (Classical.not_not.1 h)];simp
theorem OI:∀a b:List UInt8,(Op.bytesLess a b=true↔Lib.compareBytes a b= -1)/\(Lib.compareBytes a b= -1\/Lib.compareBytes a b=0\/Lib.compareBytes a b=1)
 |[],[]=>by simp[Lib.compareBytes,Op.bytesLess]
 |[],_::_=>by simp[Lib.compareBytes,Op.bytesLess]
 |_::_,[]=>by simp[Lib.compareBytes,Op.bytesLess]
 |a::l,b::bs=>by
  obtain⟨h1,h2⟩:=OI l bs;simp only[Lib.compareBytes,Op.bytesLess];by_cases hab:a<b
  .simp[hab]
  .by_cases hba:b<a
   .have:¬a=b:=λe=>by subst e;exact UInt8.lt_irrefl _ hba
    simp[hab,hba,this]
   .have:a=b:=UInt8.le_antisymm (UInt8.not_lt.1 hba) (UInt8.not_lt.1 hab);subst this;simp only[hab,if_false];exact⟨by simpa using h1,h2⟩
theorem SX{a b:Int}(hK:K (cI (yV a b)) m h):Gr a b m h K:=by
 dsimp only[Gr,push_cast];refine⟨a,rfl,b,rfl,aE (λh1=>?_) (λh1=>aE (λh2=>?_) (λh2=>?_))⟩
 .rw[yV,if_pos h1]at hK;exact hK
 .rw[yV,if_neg h1,if_pos h2]at hK;exact hK
 .rw[yV,if_neg h1,if_neg h2]at hK;exact hK
theorem Q8:Sound Tryz.prog 196 YH:=by
 refine jK Tryz.func196 ?_;rintro cvs m h K ⟨n,rfl,hK⟩;refine⟨dL [] [] [] [] false,rfl,aF,Uy n m h K,by kernel_rfl,?_⟩;exact(by show K (cB (n !=n)) m h;rw[bne_self_eq_false];exact hK)
theorem Q7:Sound Tryz.prog 197 YH:=by
 refine jK Tryz.func197 ?_;rintro cvs m h K ⟨n,rfl,hK⟩;refine⟨dL [] [] [] [] false,rfl,aF,Ux n m h K,by kernel_rfl,?_⟩;exact(by show K (cB (n !=n)) m h;rw[bne_self_eq_false];exact hK)
theorem Rn:Sound Tryz.prog 171 Th:=by
 refine jK Tryz.func171 ?_;rintro cvs m h K ⟨a,b,rfl,hK⟩;refine⟨dL [(196,YH)] [] [] [] false,rfl,aD Q8 aF,Gr a b m h K,by kernel_rfl,?_⟩;exact SX hK
theorem Rm:Sound Tryz.prog 172 Th:=by
 refine jK Tryz.func172 ?_;rintro cvs m h K ⟨a,b,rfl,hK⟩;refine⟨dL [(197,YH)] [] [] [] false,rfl,aD Q7 aF,UC a b m h K,by kernel_rfl,?_⟩;exact SX hK
theorem Rl:Sound Tryz.prog 173 Zd:=by
 refine⟨⟨Tryz.f173,Tryz.func173,rfl,by decide⟩,?_⟩;rintro cvs vs m h w K ⟨a,b,rfl,hK⟩ hp
 obtain⟨v,v2,rfl⟩:∃v v2,vs=[v,v2]:=by
  have:=(mG hp.args).1
  match vs,this with
  |[v,v2],_=>exact⟨v,v2,rfl⟩
 have hv:v= .string a:=hp.args.1;have hv2:v2= .string b:=hp.args.2.1;subst hv hv2;refine(Tryz.strings_Compare a b w).mono ?_;rintro e w' ⟨rfl,rfl⟩;exact⟨_,_,m,h,rfl,hK,rfl,FL hp,λb hb=>by simp[cI,eJ]at hb⟩
theorem DS:Sound Tryz.prog 151 Tg:=by
 refine jK Tryz.func151 ?_;rintro cvs m h K ⟨a,b,rfl,hK⟩;refine⟨dL [(171,Th),(172,Th),(173,Zd)] [] [] [] false,rfl,aD Rn (aD Rm (aD Rl aF)),LB a b m h K,by kernel_rfl,?_⟩;dsimp only[LB,push_cast];refine⟨_,H4 a b,aB (λh1=>?_) (λh1=>⟨_,_,rfl,aB (λh2=>?_) (λh2=>⟨_,_,rfl,aB (λh3=>?_) (λh3=>⟨_,_,rfl,?_⟩)⟩)⟩)⟩
 .rw[Dc.2 (SZ.1 h1)]at hK;exact hK
 .rw[j4,if_pos (by simpa using h2)]at hK;exact hK
 .rw[j4,if_neg (by simpa using h2),if_pos (by simpa using h3)]at hK;exact hK
 .rw[j4,if_neg (by simpa using h2),if_neg (by simpa using h3)]at hK;exact hK
theorem UP{a b:List VV}{x y:VV}(hx:a[i]? =some x)(hy:b[i]? =some y):cL (a.drop i) (b.drop i)=if j4 x y≠0 then j4 x y else cL (a.drop (i+1)) (b.drop (i+1)):=by
 rw[drop_cons hx,drop_cons hy,cL]
theorem RB:Sound Tryz.prog 150 Zf:=by
 refine jK Tryz.func150 ?_;rintro cvs m h K ⟨s,t,a,b,rfl,ha,hb,hK⟩;refine⟨Wl s t m h,rfl,aD DS aF,LC s t m h K,by kernel_rfl,?_⟩;dsimp only[LC,push_cast];have hsa:=aR.slen ha;have hsb:=aR.slen hb;have hla:=ha.len;refine⟨λi=>i<=a.length/\i<=b.length/\cL a b=cL (a.drop i) (b.drop i),λi=>a.length-i,⟨0,⟨aC,aC,by simp⟩,MT⟩,λi⟨hi,hj,he⟩=>aE (λhlt=>?_) (λhge=>?_)⟩
 .obtain⟨x,hx⟩:=fS hsa hlt;obtain⟨b1,o1,u,e1,r1,rfl⟩:=aR.at ha hx;refine⟨b1,o1,e1,aC,hlt,x,.imm r1,aE (λhge=>?_) (λhlt2=>?_)⟩
  .rw[he,drop_cons hx,List.drop_eq_nil_of_le (show b.length<=i by omega),cL]at hK;exact hK
  .have hlt2:(i:Int)<(t.len:Int):=by omega
   obtain⟨y,hy⟩:=fS hsb hlt2;obtain⟨b2,o2,u,e2,r2,rfl⟩:=aR.at hb hy;rw[UP hx hy]at he;refine⟨b2,o2,e2,aC,hlt2,y,.imm r2,x,y,rfl,aB (λhne=>?_) (λheq=>⟨i+1,⟨aC,aC,?_⟩,(show a.length-(i+1)<a.length-i by omega),MT⟩)⟩
   .rw[he,if_pos (by simpa using hne)]at hK;exact hK
   .rw[he,if_neg (by simpa using heq)]
 .have:a.drop i=[]:=List.drop_eq_nil_of_le aC;rw[this]at he;refine aE (λh1=>?_) (λh1=>?_)
  .obtain⟨y,hy⟩:=fS (l:=b) (i:=i) (n:=t.len) hsb aC;rw[he,drop_cons hy,cL]at hK;exact hK
  .rw[he,List.drop_eq_nil_of_le aC,cL]at hK;exact hK
theorem nL:Sound Tryz.prog 117 Hs:=by
 refine jK Tryz.func117 ?_;rintro cvs m h K ⟨s,t,a,b,rfl,ha,hb,hK⟩;refine⟨dL [(150,Zf)] [] [] [] false,rfl,aD RB aF,UH s t m h K,by kernel_rfl,?_⟩;exact⟨s,t,a,b,rfl,ha,hb,hK⟩
structure Bh(h:PH)(P:List VV->Prop) where
 s:Sl
 l:List VV
 ok:bB h s l
 pr_:P l
def Bh.pr{h:PH}{P:List VV->Prop}(x:Bh h P):Sl×List VV:=(x.s,x.l)
def uK(h:PH){R:List VV->Prop}(x:Bh h R):Value:=.slice x.s.a x.s.len x.s.cap
theorem GQ{w w':World}(h1:w'.tape=w.tape)(h2:w'.os=w.os)(h3:w'.output=w.output)(h4:w.drawn<=w'.drawn)(h5:w.heap.size<=w'.heap.size)(h6:∀b,b<w.heap.size->w'.heap[b]? =w.heap[b]?):
 ∃q os,w'=Sort.grow (w.drewN q) os:=by
 refine⟨w'.drawn-w.drawn,w'.heap.extract w.heap.size w'.heap.size,?_⟩;obtain⟨hp,tp,dr,oo,ou⟩:=w';obtain⟨hp0,tp0,dr0,oo0,ou0⟩:=w;dsimp only at h1 h2 h3 h4 h5 h6;subst h1 h2 h3;unfold Sort.grow World.drewN;dsimp only;congr 1
 .apply Array.ext_getElem?;intro k;rw[Array.getElem?_append];by_cases hk:k<hp0.size
  .rw[if_pos hk];exact h6 k hk
  .rw[if_neg hk,Array.getElem?_extract];by_cases hk2:k<hp.size
   .rw[if_pos aC];congr 1;omega
   .rw[if_neg aC,Array.getElem?_eq_none aC]
 .omega
structure Ze(P:Program)(R:List VV->Prop)(g:Nat)(cb:List Value)(m2:MH)(h:PH)(cf:List VV->List VV->Int):Prop where
 ex:∃S,Sound P g S/\∀x y:Bh h R,S ([cS x.s,cS y.s]++cb.map .val) m2 h (λr m' h'=>r=cI (cf x.l y.l)/\m'=m2/\h'=h)
theorem WJ{P:Program}{R:List VV->Prop}{g:Nat}{cb:List Value}{m2:MH}{h:PH}[Inhabited (Bh h R)]{cf:List VV->List VV->Int}(hc:Ze P R g cb m2 h cf){w:World}{blk off size:Nat}
 (hh:∀b o v,h b o=some v->w.cell? ⟨b,o,none⟩=some v/\b≠blk)(hm:∀b o,m2 b=some o->w.heap[b]? =some o/\b≠blk)(hd:∀b o,m2 b=some o->∀i,h b i=none):
 CmpLays1 P g cb.toArray (uK h (R:=R)) (λx y=>cf x.l y.l) blk off size w:=by
 obtain⟨S,hs,hS⟩:=hc.ex;intro mm os dk hsz x y;obtain⟨W,hW⟩:∃W,Go.Proofs.sortWorld (uK h (R:=R)) w blk off mm dk os=W:=⟨_,rfl⟩
 rw[hW]
 have old:∀b,b<w.heap.size->b≠blk->W.heap[b]? =w.heap[b]? :=λb hb hne=>by
  rw[<-hW];show((Sort.putRow (uK h) (Sort.ahead w mm) blk off dk).heap++os)[b]? =_;have hs:(Sort.putRow (uK h) (Sort.ahead w mm) blk off dk).heap.size=w.heap.size:=by unfold Sort.putRow Sort.mapBlock;simp[Sort.ahead]
  rw[Array.getElem?_append_left aC];unfold Sort.putRow Sort.mapBlock;simp only[Array.getElem?_modify,if_neg (Ne.symm hne)];rfl
 have hvals:∀(l:List Value)(w:World),wT w (l.map .val) l:=λl w=>by
  induction l with
  |nil=>trivial
  |cons a l ih=>exact⟨rfl,ih⟩
 have nov:∀(l:List Value)(i:Nat)(c:CV)(u:Value)(b:Nat),(l.map CV.val)[i]? =some c->eJ c u=some b->False:=λl i c u b hi hb=>by
  rw[List.getElem?_map]at hi;cases e:l[i]? with
  |none=>rw[e]at hi;cases hi
  |some v=>rw[e]at hi;simp at hi;subst hi;simp[eJ]at hb
 have e1:[cS x.s,cS y.s]++cb.map .val=([uK h x,uK h y]++cb).map .val:=by simp[cS,uK]
 have hpre:uD W m2 h ([cS x.s,cS y.s]++cb.map .val) ([uK h x,uK h y]++cb):=by
  rw[e1];refine⟨hvals _ _,?_,?_,hd,λi j c d u v b hi _ _ _ hb _=>(nov _ i c u b hi hb).elim,λi c u b hi _ hb=>(nov _ i c u b hi hb).elim⟩
  .intro b o v hv;obtain⟨h1,h2⟩:=hh b o v hv;rw[World.cell?_of_block (w:=w) (w':=W) (a:=⟨b,o,none⟩) (old b (World.block_lt_of_cell? w ⟨b,o,none⟩ h1) h2)];exact h1
  .intro b o hb;obtain⟨h1,h2⟩:=hm b o hb;rw[old b (Array.getElem?_eq_some_iff.1 h1).1 h2];exact h1
 have:=hs.2 _ _ m2 h W _ (hS x y) hpre;have e2:(([uK h x,uK h y]++cb).toArray:Array Value)= #[uK h x,uK h y]++cb.toArray:=by simp
 rw[e2]at this;refine this.mono ?_;rintro e w' ⟨r,u,m',h',rfl,⟨rfl,rfl,rfl⟩,hok,hw,_⟩;have hu:u= .int .i64 (cf x.l y.l):=hok;subst hu;refine⟨rfl,GQ hw.tape hw.os hw.output hw.drawn hw.size (λb hb=>?_)⟩;cases e3:m' b with
 |none=>
  refine hw.frame b hb ?_;rintro(h1|⟨i,c,u,hi,_,hc⟩)
  .exact h1 e3
  .rw[e1]at hi;exact nov _ i c u b hi hc
 |some o=>rw[hw.msat b o e3];exact(hpre.msat b o e3).symm
theorem IB{α:Type}[Inhabited α]{d d':Array α}(h:Sort.PermIn 0 d.size d d'):d'.toList.Perm d.toList:=by
 obtain⟨h1,_,h3⟩:=h;have e1:d.extract 0 d.size=d:=by simp
 have e2:d'.extract 0 d.size=d':=by rw[<-h1];simp
 rw[e1,e2]at h3;exact h3
theorem KS{h:PH}{R:List VV->Prop}:∀(ps:List (Sl×List VV)),(∀p∈ps,bB h p.1 p.2)->(∀p∈ps,R p.2)->∃ds:List (Bh h R),ds.map Bh.pr=ps
 |[],_,_=>⟨[],rfl⟩
 |p::ps,hv,hR=>by
  obtain⟨ds,hds⟩:=KS (R:=R) ps (λq hq=>hv q (List.mem_cons_of_mem _ hq)) (λq hq=>hR q (List.mem_cons_of_mem _ hq));exact⟨⟨p.1,p.2,hv p (List.mem_cons_self ..),hR p (List.mem_cons_self ..)⟩::ds,by rw[List.map_cons,hds];rfl⟩
theorem Ky{R:List VV->Prop}{w:World}{m:MH}{h:PH}{s:Sl}{g:Nat}{cb:List Value}{ps:List (Sl×List VV)}{cf:List VV->List VV->Int}{m2:MH}{fnv:Value}(hfv:fnv= .func (.func g) #[] cb.toArray)
 (hp:uD w m h [cS s,.val fnv] [s.val,fnv])(hg:∃gf,Tryz.prog.funcs[g]? =some gf/\gf.body.isSome=true/\(gf.name== "runtime.NumGoroutine")=false)(hr:cD m s 75 1 (ps.map λp=>eS p.1))(hv:∀p∈ps,bB h p.1 p.2)(hR:∀p∈ps,R p.2)(hlen:ps.length<=140737488355328)
 (hO:Sort.SWO (Go.Proofs.ltOf (fun(x y:Bh h R)=>cf x.l y.l)))(hc:Ze Tryz.prog R g cb m2 h cf)(hm2:∀b o,m2 b=some o->m b=some o/\∀i,s.a≠some ⟨b,i,none⟩)
 {K:CV->MH->PH->Prop}(hK:∀(ps':List (Sl×List VV))(m':MH),ps'.Perm ps->ps'.Pairwise (λp q=>¬cf q.2 p.2<0)->cD m' s 75 1 (ps'.map λp=>eS p.1)->(∀b,(∀i,s.a≠some ⟨b,i,none⟩)->m' b=m b)->K (.tup []) m' h):
 Calls Tryz.prog 223 #[s.val,fnv] w λe w'=>∃r u m' h',e= .returned u/\K r m' h'/\zU w' r u/\qS ⟨w,mX m [cS s,.val fnv] [s.val,fnv],h,[]⟩ m' h' w'/\(∀b,eJ r u=some b->(w.heap.size<=b\/mX m [cS s,.val fnv] [s.val,fnv] b)/\m' b=none/\∀i,h' b i=none):=by
 subst hfv;by_cases hps0:ps=[]
 .subst hps0;have hl0:s.len=0:=by have:=cD.slen hr;simpa using this
  have:=AnyF.slices_SortFunc_none Tryz.sortN s.a s.cap (.func (.func g) #[] cb.toArray) w;rw[show s.val= .slice s.a 0 s.cap by rw[<-hl0];rfl];refine Calls.mono (show Calls Tryz.prog 223 #[.slice s.a 0 s.cap,.func (.func g) #[] cb.toArray] w _ from this) ?_;rintro e w' ⟨rfl,rfl⟩;exact⟨.tup [],.tuple #[],m,h,rfl,hK [] m (.refl _) .nil hr (λ_ _=>rfl),⟨#[],rfl,rfl⟩,⟨rfl,rfl,rfl,Nat.le_refl _,Nat.le_refl _,λ_ _ _=>rfl,hp.hsat,hp.msat,hp.disj,λ_ _ _ e=>e,λ_ _ _=>rfl,λb o hb=>.inr (.inl (by rw[show m b=some o from hb];simp))⟩,λb hb=>by simp[eJ]at hb⟩
 obtain⟨p0,hp0⟩:=List.exists_mem_of_ne_nil _ hps0
 haveI:Inhabited (Bh h R):=⟨⟨p0.1,p0.2,hv p0 hp0,hR p0 hp0⟩⟩
 rcases hr.ex with⟨rfl,hx⟩|⟨b,cap,cur,rfl,hm,h0,h1,h2,h3⟩
 .exact(hps0 (by simpa using hx)).elim
 .simp only[List.length_map]at h0 h3;have hgb:=hp.msat b _ hm;have hblt:=(Array.getElem?_eq_some_iff.1 hgb).1;obtain⟨ds,hds⟩:∃ds:List (Bh h R),ds.map Bh.pr=ps:=KS ps hv hR;have hdl:ds.length=ps.length:=by rw[<-hds];simp
  have hcur:∀j,(hj:j<ds.length)->cur[j]? =some (uK h ds[j]):=λj hj=>by
   have:(cur.toList.take (ps.length*1))[j]? =((ps.map λp=>eS p.1).flatten)[j]? :=by rw[h3]
   rw[List.getElem?_take,if_pos aC,Array.getElem?_toList]at this;rw[this, <-hds]
   have hf:((ds.map Bh.pr).map λp:Sl×List VV=>eS p.1).flatten=ds.map (uK h):=by
    clear hds hdl hj this
    induction ds with
    |nil=>rfl
    |cons a l ih=>simp only[List.map_cons,List.flatten_cons,ih];rfl
   rw[hf];simp[hj]
  have hsz:cur.size=cap:=by simpa using h2
  have hH:Sort.Holds (uK h) w b 0 ds.toArray:=by
   intro j hj;have hj:j<ds.length:=by simpa using hj
   refine⟨?_,?_⟩
   .rw[cell_of_heap hgb,Array.getElem?_toList,Nat.zero_add,hcur j hj,getElem!_pos _ j (by simpa using hj)];simp
   .unfold World.frozen?;rw[hgb];simp
  obtain⟨gf,hgf,hgb2,hgn⟩:=hg
  have eg:∀args w,(callFunc g args).run Tryz.prog w= .ok (.enter g args) w:=λargs w=>by
   have hbn:¬gf.body=none:=by intro e;rw[e]at hgb2;cases hgb2
   have hnm:¬gf.name= "runtime.NumGoroutine" :=by simpa using hgn
   simp[callFunc,program,Sem.run,hgf,hnm,hbn]
  have hlay:=WJ (blk:=b) (off:=0) (size:=ds.toArray.size) hc (w:=w) (λb' o v hv'=>⟨hp.hsat b' o v hv',λe=>by rw[e,hp.disj b _ hm o]at hv';cases hv'⟩) (λb' o hb'=>⟨hp.msat b' o (hm2 b' o hb').1,λe=>(hm2 b' o hb').2 0 (by rw[e])⟩) (λb' o hb'=>hp.disj b' o (hm2 b' o hb').1);have hcall:=Any.slices_SortFunc Tryz.sortF (uK h) (λ_=>rfl) (λx y=>cf x.l y.l) hO g cb.toArray b 0 cap ds.toArray w eg hlay hH hblt (by simp;omega);have e3:(Sl.val ⟨some ⟨b,0,none⟩,(ps.map λp=>eS p.1).length,cap⟩)= .slice (some ⟨b,0,none⟩) ds.toArray.size cap:=by simp[Sl.val,hdl]
  rw[e3];refine Calls.mono hcall ?_;rintro e w' ⟨rfl,d',n,os,hpm,hst,rfl⟩;have hd'sz:d'.size=ds.length:=by have:=hpm.1;simpa using this
  have hperm:=IB hpm;obtain⟨m',hm'⟩:∃m',eW m m' b (.cells (Sort.putCells (uK h) 0 d' cur) 75 (0,0)):=⟨λb'=>if b'=b then some (.cells (Sort.putCells (uK h) 0 d' cur) 75 (0,0))else m b',by simp,λb' hb'=>by simp[hb']⟩
  have hs0:(Sort.putRow (uK h) (Sort.ahead w n) b 0 d').heap.size=w.heap.size:=by unfold Sort.putRow Sort.mapBlock;simp[Sort.ahead]
  have hnew:(Go.Proofs.sortWorld (uK h) w b 0 n d' os).heap[b]? =some (.cells (Sort.putCells (uK h) 0 d' cur) 75 (0,0)):=by
   show((Sort.putRow (uK h) (Sort.ahead w n) b 0 d').heap++os)[b]? =_;rw[Array.getElem?_append_left aC];unfold Sort.putRow Sort.mapBlock;simp only[Array.getElem?_modify,if_true];show Option.map _ w.heap[b]? =_;rw[hgb];rfl
  have hold:∀b',b'<w.heap.size->b'≠b->(Go.Proofs.sortWorld (uK h) w b 0 n d' os).heap[b']? =w.heap[b']? :=λb' hb' hne=>by
   show((Sort.putRow (uK h) (Sort.ahead w n) b 0 d').heap++os)[b']? =_;rw[Array.getElem?_append_left aC];unfold Sort.putRow Sort.mapBlock;simp only[Array.getElem?_modify,if_neg (Ne.symm hne)];rfl
  have hE:mX m [cS ⟨some ⟨b,0,none⟩,(ps.map λp=>eS p.1).length,cap⟩,.val (.func (.func g) #[] cb.toArray)] [.slice (some ⟨b,0,none⟩) ds.toArray.size cap,.func (.func g) #[] cb.toArray] b:=.inl (by rw[hm];simp);refine⟨.tup [],.tuple #[],m',h,rfl,hK (d'.toList.map Bh.pr) m' ?_ ?_ ?_ (λb' hb'=>hm'.other b' (λe=>hb' 0 (by rw[e]))),⟨#[],rfl,rfl⟩,⟨rfl,rfl,rfl,Nat.le_add_right _ _,?_,?_,?_,?_,?_,λ_ _ _ e=>e,λ_ _ _=>rfl,?_⟩,λb hb=>by simp[eJ]at hb⟩
  .have:=hperm.map (λx:Bh h R=>x.pr);rw[<-hds];exact this
  .rw[List.pairwise_map,List.pairwise_iff_getElem];intro i j hi hj hij hlt;have hi:i<d'.size:=by simpa using hi
   have hj:j<d'.size:=by simpa using hj
   have:=hst i j (Nat.zero_le _) hij (by simp;omega);rw[getElem!_pos d' i hi,getElem!_pos d' j hj]at this;unfold Go.Proofs.ltOf at this;simp only[decide_eq_false_iff_not]at this;simp only[Array.getElem_toList]at hlt;exact this hlt
  .refine⟨⟨λe he=>?_,λe he u hu=>?_⟩,.inr ⟨b,cap,_,?_,hm'.at_,by simp;omega,h1,?_,?_⟩⟩
   .obtain⟨x,_,rfl⟩:=List.mem_map.1 he;rfl
   .obtain⟨x,_,rfl⟩:=List.mem_map.1 he;have:u= .slice x.1.a x.1.len x.1.cap:=by simpa[eS]using hu
    rw[this];rfl
   .simp[hd'sz,hdl]
   .simp[Sort.putCells,hsz]
   .apply List.ext_getElem?;intro j
    have hf:((d'.toList.map Bh.pr).map λp:Sl×List VV=>eS p.1).flatten=d'.toList.map (uK h):=by
     generalize d'.toList=l
     induction l with
     |nil=>rfl
     |cons a l ih=>simp only[List.map_cons,List.flatten_cons,ih];rfl
    rw[hf,List.getElem?_take];simp only[List.length_map,Array.length_toList,Nat.mul_one];by_cases hj:j<d'.size
    .rw[if_pos hj,Array.getElem?_toList,List.getElem?_map,Array.getElem?_toList,Array.getElem?_eq_getElem hj];have hjc:j<cur.size:=by omega
     simp only[Sort.putCells,Array.getElem?_mapIdx,Array.getElem?_eq_getElem hjc,Option.map_some,Nat.zero_le,Nat.zero_add,Nat.sub_zero,true_and];rw[if_pos hj,getElem!_pos d' j hj]
    .rw[if_neg hj,List.getElem?_eq_none (by simp;omega)]
  .show w.heap.size<=(Sort.grow _ os).heap.size;rw[Sort.size_grow,hs0];omega
  .intro b' hb' hn;exact hold b' hb' (λe=>hn (e▸hE))
  .intro b' o v hv';have hne:b'≠b:=λe=>by rw[e,hp.disj b _ hm o]at hv';cases hv'
   have h5:=hp.hsat b' o v hv';rw[World.cell?_of_block (w:=w) (a:=⟨b',o,none⟩) (hold b' (World.block_lt_of_cell? w ⟨b',o,none⟩ h5) hne)];exact h5
  .intro b' o hb';by_cases e:b'=b
   .subst e;rw[hm'.at_]at hb';cases hb';exact hnew
   .rw[hm'.other b' e]at hb';have h5:=hp.msat b' o hb';rw[hold b' (Array.getElem?_eq_some_iff.1 h5).1 e];exact h5
  .intro b' o hb' i;by_cases e:b'=b
   .subst e;exact hp.disj b' _ hm i
   .rw[hm'.other b' e]at hb';exact hp.disj b' o hb' i
  .intro b' o hb';by_cases e:b'=b
   .subst e;exact .inr hE
   .rw[hm'.other b' e]at hb';exact .inr (.inl (by rw[hb'];simp))
end Go.Ps
namespace Go.Vc
open Go
theorem cD.rd{m:MH}{h:PH}{s:Sl}{E sz:Nat}{xs:List (List Value)}(r:cD m s E sz xs){i:Nat}{e:List Value}(hi:xs[i]? =some e):∃b,s.a=some ⟨b,0,none⟩/\aI m h b (i*sz) e:=by
 rcases r.ex with⟨_,rfl⟩|⟨b,cap,cur,rfl,hm,h1,h2,h3,h4⟩
 .simp at hi
 .refine⟨b,rfl,.lent cur E (0,0) hm ?_⟩;have hlt:=(List.getElem?_eq_some_iff.1 hi).1;have hel:=r.rows.len e (List.mem_of_getElem? hi)
  have hfl:∀(l:List (List Value))(k:Nat),(∀x∈l,x.length=sz)->l[k]? =some e->(l.flatten.drop (k*sz)).take sz=e:=by
   intro l
   induction l with
   |nil=>intro k _ hk;simp at hk
   |cons a l ih=>
    intro k hl hk;have ha:=hl a (List.mem_cons_self ..);cases k with
    |zero=>
     simp at hk;subst hk;rw[List.flatten_cons,Nat.zero_mul,List.drop_zero, <-ha,List.take_left]
    |succ k=>
     rw[List.flatten_cons,Nat.succ_mul,Nat.add_comm, <-List.drop_drop, <-ha,List.drop_left,ha];exact ih k (λx hx=>hl x (List.mem_cons_of_mem _ hx)) (by simpa using hk)
  have h5:=hfl xs i r.rows.len hi;rw[hel];rw[<-h4]at h5;rw[List.drop_take,List.take_take]at h5
  have:min sz (xs.length*sz-i*sz)=sz:=by
   rw[<-Nat.sub_mul];have:1*sz<=(xs.length-i)*sz:=Nat.mul_le_mul_right _ aC;omega
  rw[this]at h5;exact h5
theorem sH.sub{m m':MH}{h:PH}{s:Sl}{sz:Nat}{ys:List (List Value)}(r:sH m h s sz ys)(hs:∀b o,m b=some o->m' b=some o):sH m' h s sz ys:=by
 rcases r with r|⟨b,o,cs,E,fz,h1,h2,h3,h4⟩
 .exact .imm r
 .exact .lent b o cs E fz h1 h2 (hs _ _ h3) h4
theorem cD.src{m:MH}{h:PH}{s:Sl}{E sz:Nat}{xs:List (List Value)}(r:cD m s E sz xs):sH m h s sz xs:=by
 rcases r.ex with⟨rfl,rfl⟩|⟨b,cap,cur,rfl,hm,h1,h2,h3,h4⟩
 .exact .imm (bH.nil h sz)
 .refine .lent b 0 cur E (0,0) rfl rfl hm ?_;have:xs.flatten.length=xs.length*sz:=bM r.rows.len;rw[List.drop_zero,this];exact h4
end Go.Vc
namespace Go.Ps
open Go Go.Vc Go.Proofs
variable{K:CV->MH->PH->Prop}{m:MH}{h:PH}{s:jR}{ps:List Int}{cb:Nat}{sc:bN}{v:QV}{q:Query}{p:Pred}{l:List Int}{i:Nat}{N:Nat}{m':MH}{h':PH}{co:List Int}{gr:List Int}{on:List (Int×Int)}{od:List (Int×Bool)}{w:Pred}{ta:Int}{li:Int}{xs:List (List Value)}{sz:Nat}{k:Nat}{ks:List (List Int)}{rs:List Int}{r:Sl}{a:List Int}{b:Nat}
structure Mn{α:Type}(c:α->α->Int):Prop where
 anti:∀x y,c x y= -c y x
 trans:∀x y z,c x y<=0->c y z<=0->c x z<=0
theorem Mn.zero{α:Type}{c:α->α->Int}(h:Mn c){x y z:α}(h1:c x y<=0)(h2:c y z<=0)(h3:c x z=0):c x y=0/\c y z=0:=by
 have a1:=h.anti x z;have a2:=h.anti x y;have a3:=h.anti y z;have t1:=h.trans z x y aC h1;have t2:=h.trans y z x h2 aC;omega
theorem M3{c d:Int}(h:(if c≠0 then c else d)<=0):c<=0:=by
 split at h
 .exact h
 .omega
theorem Mn.lex{α:Type}{c d:α->α->Int}(h:Mn c)(k:Mn d):Mn (λx y=>if c x y≠0 then c x y else d x y):=by
 refine⟨λx y=>?_,λx y z h1 h2=>?_⟩
 .have a:=h.anti x y;have b:=k.anti x y;show(if c x y≠0 then c x y else d x y)= -(if c y x≠0 then c y x else d y x)
  by_cases e:c x y=0
  .rw[if_neg (by simpa using e),if_neg (by have:c y x=0:=by omega
                                           simpa using this)];exact b
  .rw[if_pos e,if_pos aC];exact a
 .have l1:c x y<=0:=M3 h1;have l2:c y z<=0:=M3 h2;have l3:=h.trans x y z l1 l2;show(if c x z≠0 then c x z else d x z)<=0;by_cases e:c x z=0
  .obtain⟨z1,z2⟩:=h.zero l1 l2 e;have h1:(if c x y≠0 then c x y else d x y)<=0:=h1;have h2:(if c y z≠0 then c y z else d y z)<=0:=h2;rw[if_neg (by simpa using z1)]at h1;rw[if_neg (by simpa using z2)]at h2;rw[if_neg (by simpa using e)];exact k.trans x y z h1 h2
  .rw[if_pos e];exact l3
theorem Mn.of{α β:Type}{c:α->α->Int}(h:Mn c)(f:β->α):Mn (λx y=>c (f x) (f y)):=⟨λx y=>h.anti _ _,λx y z=>h.trans _ _ _⟩
theorem PK:Mn yV:=by
 refine⟨λx y=>?_,λx y z=>?_⟩
 .unfold yV;split<;>split<;>(first|omega|(split<;>omega))
 .unfold yV;intro h1 h2;split at h1<;>split at h2<;>(repeat' split at*)<;>omega
theorem L7:∀a b:List UInt8,Lib.compareBytes a b= -Lib.compareBytes b a
 |[],[]=>rfl
 |[],_::_=>rfl
 |_::_,[]=>rfl
 |a::l,b::k=>by
  simp only[Lib.compareBytes];by_cases h1:a<b
  .have h2:¬b<a:=λh=>absurd (UInt8.lt_trans h1 h) (UInt8.lt_irrefl _);simp[h1,h2]
  .by_cases h2:b<a
   .simp[h1,h2]
   .simp only[h1,h2,if_false];exact L7 l k
theorem JQ:∀a b c:List UInt8,Lib.compareBytes a b<=0->Lib.compareBytes b c<=0->Lib.compareBytes a c<=0
 |[],_,[],_,_=>by simp[Lib.compareBytes]
 |[],_,_::_,_,_=>by simp[Lib.compareBytes]
 |_::_,[],_,h1,_=>by simp[Lib.compareBytes]at h1
 |_::_,_::_,[],_,h2=>by simp[Lib.compareBytes]at h2
 |a::l,b::k,c::q,h1,h2=>by
  simp only[Lib.compareBytes]at h1 h2⊢
  by_cases ac:a<c
  .simp[ac]
  .by_cases ab:a<b
   .have bc:¬b<c:=λh=>ac (UInt8.lt_trans ab h);have cb:c<b:=UInt8.lt_of_le_of_lt (UInt8.not_lt.1 ac) ab;simp[bc,cb]at h2
   .by_cases ba:b<a
    .simp[ab,ba]at h1
    .have e:a=b:=UInt8.le_antisymm (UInt8.not_lt.1 ba) (UInt8.not_lt.1 ab);subst e;simp only[ab,ac,if_false]at h1 h2⊢
     by_cases ca:c<a
     .simp[ca]at h2
     .simp only[ca,if_false]at h2⊢
      exact JQ l k q h1 h2
theorem Fx:Mn j4:=by
 have hT:Mn Nr:=⟨λx y=>L7 _ _,λx y z=>JQ _ _ _⟩
 exact(PK.of VV.kind).lex ((PK.of VV.int).lex (hT.of VV.text))
theorem jP:∀a b,cL a b= -cL b a
 |[],[]=>rfl
 |[],_::_=>rfl
 |_::_,[]=>rfl
 |x::l,y::k=>by
  have a:=Fx.anti x y;simp only[cL];by_cases e:j4 x y=0
  .rw[if_neg (by simpa using e),if_neg (by have:j4 y x=0:=by omega
                                           simpa using this)];exact jP l k
  .rw[if_pos e,if_pos aC];exact a
theorem sZ:∀a b c,cL a b<=0->cL b c<=0->cL a c<=0
 |[],_,[],_,_=>by simp[cL]
 |[],_,_::_,_,_=>by simp[cL]
 |_::_,[],_,h1,_=>by simp[cL]at h1
 |_::_,_::_,[],_,h2=>by simp[cL]at h2
 |x::l,y::k,z::q,h1,h2=>by
  simp only[cL]at h1 h2⊢
  have l1:j4 x y<=0:=M3 h1;have l2:j4 y z<=0:=M3 h2;have l3:=Fx.trans x y z l1 l2;by_cases e:j4 x z=0
  .obtain⟨z1,z2⟩:=Fx.zero l1 l2 e;rw[if_neg (by simpa using z1)]at h1;rw[if_neg (by simpa using z2)]at h2;rw[if_neg (by simpa using e)];exact sZ l k q h1 h2
  .rw[if_pos e];exact l3
theorem BX:Mn cL:=⟨jP,sZ⟩
theorem Mn.swo{R:List VV->Prop}{cf:List VV->List VV->Int}(c:Mn cf):Sort.SWO (Go.Proofs.ltOf (fun(x y:Bh h R)=>cf x.l y.l)):=by
 refine⟨λx=>?_,λx y z h1 h2=>?_,λx y z h1 h2=>?_⟩
 .have:=c.anti x.l x.l;unfold Go.Proofs.ltOf;simp;omega
 .unfold Go.Proofs.ltOf at*
  simp only[decide_eq_true_eq]at*
  have t:=c.trans x.l y.l z.l aC aC;by_cases e:cf x.l z.l=0
  .have:=c.zero (x:=x.l) (y:=y.l) (z:=z.l) aC aC e;omega
  .omega
 .unfold Go.Proofs.ltOf at*
  simp only[decide_eq_false_iff_not]at*
  have a1:=c.anti x.l y.l;have a2:=c.anti y.l z.l;have a3:=c.anti x.l z.l;have t:=c.trans z.l y.l x.l aC aC;omega
def F7(x:List VV):List (List VV)->List (List VV)
 |[]=>[x]
 |y::l=>if cL x y<0 then x::y::l else if cL x y=0 then y::l else y::F7 x l
def yI(l:List (List VV)):List (List VV):=l.foldr F7 []
abbrev gP(l:List (List VV)):Prop:=l.Pairwise λx y=>cL x y<0
theorem Jd{x z:List VV}:∀{l:List (List VV)},z∈F7 x l↔z=x\/z∈l
 |[]=>by simp[F7]
 |y::l=>by
  simp only[F7];split
  .simp
  .split
   .rename_i _ e;have:=gR.1 e;subst this;simp
   .simp only[List.mem_cons,Jd (l:=l)];exact⟨λh=>by rcases h with h|h|h<;>simp[h],λh=>by rcases h with h|h|h<;>simp[h]⟩
theorem G8{x:List VV}:∀{l:List (List VV)},gP l->gP (F7 x l)
 |[],_=>by simp[F7]
 |y::l,h=>by
  obtain⟨h1,h2⟩:=List.pairwise_cons.1 h;simp only[F7];split
  .rename_i hlt;refine List.pairwise_cons.2 ⟨λz hz=>?_,h⟩;rcases List.mem_cons.1 hz with rfl|hz
   .exact hlt
   .have t:=sZ x y z aC (by have:=h1 z hz;omega);by_cases e:cL x z=0
    .have:=BX.zero (x:=x) (y:=y) (z:=z) aC (by have:=h1 z hz;omega) e;omega
    .omega
  .split
   .exact h
   .rename_i n1 n2;refine List.pairwise_cons.2 ⟨λz hz=>?_,G8 h2⟩;rcases Jd.1 hz with rfl|hz
    .have:=jP z y;omega
    .exact h1 z hz
theorem y9{x:List VV}:∀{l:List (List VV)},x∈yI l↔x∈l
 |[]=>by simp[yI]
 |y::l=>by
  show x∈F7 y (yI l)↔_;rw[Jd,y9,List.mem_cons]
theorem Bm:∀(l:List (List VV)),gP (yI l)
 |[]=>.nil
 |_::l=>G8 (Bm l)
theorem Im:∀{a b:List (List VV)},gP a->gP b->(∀x,x∈a↔x∈b)->a=b
 |[],[],_,_,_=>rfl
 |[],y::_,_,_,h=>by have:=(h y).2 (by simp);simp at this
 |x::_,[],_,_,h=>by have:=(h x).1 (by simp);simp at this
 |x::a,y::b,ha,hb,h=>by
  obtain⟨a1,a2⟩:=List.pairwise_cons.1 ha;obtain⟨b1,b2⟩:=List.pairwise_cons.1 hb;have irr:∀z,¬cL z z<0:=λz=>by have:=jP z z;omega
  have e:x=y:=by
   rcases List.mem_cons.1 ((h x).1 (by simp))with e|h1
   .exact e
   .rcases List.mem_cons.1 ((h y).2 (by simp))with e|h2
    .exact e.symm
    .have l1:=a1 y h2;have l2:=b1 x h1;have:=jP x y;omega
  subst e;congr 1;refine Im a2 b2 (λz=>⟨λhz=>?_,λhz=>?_⟩)
  .rcases List.mem_cons.1 ((h z).1 (List.mem_cons_of_mem _ hz))with rfl|h1
   .exact absurd (a1 z hz) (irr z)
   .exact h1
  .rcases List.mem_cons.1 ((h z).2 (List.mem_cons_of_mem _ hz))with rfl|h1
   .exact absurd (b1 z hz) (irr z)
   .exact h1
theorem Sq{l r:List (List VV)}(h1:gP r)(h2:∀x,x∈r↔x∈l):r=yI l:=Im h1 (Bm l) λx=>by rw[h2,y9]
def Tk:Vc.Spec:=λcvs m h K=>∃(s:Sl)(us:List Sl),cvs=[cS s]/\sH m h s 1 (us.map eS)/\us.length<=502633886983/\∀s' m',cD m' s' 75 1 (us.map eS)->(∀b o,m b=some o->m' b=some o)->(∀b i,s'.a=some ⟨b,i,none⟩->m b=none)->K (cS s') m' h
def WW:Vc.Spec:=λcvs m h K=>∃(s:Sl)(ps:List (Sl×List VV)),cvs=[cS s,.val (.func (.func 117) #[] #[])]/\cD m s 75 1 (ps.map λp=>eS p.1)/\(∀p∈ps,bB h p.1 p.2)/\ps.length<=140737488355328/\
 ∀(ps':List (Sl×List VV))(m':MH),ps'.Perm ps->ps'.Pairwise (λp q=>¬cL q.2 p.2<0)->cD m' s 75 1 (ps'.map λp=>eS p.1)->(∀b,(∀i,s.a≠some ⟨b,i,none⟩)->m' b=m b)->K (.tup []) m' h
structure eO(h:PH)(us:List Sl)(rs:List (List VV)):Prop where
 len:us.length=rs.length
 at_:∀(j:Nat) x,rs[j]? =some x->∃u,us[j]? =some u/\bB h u x
def YG:Vc.Spec:=λcvs m h K=>∃s us l,cvs=[cS s]/\sH m h s 1 (us.map eS)/\eO h us l/\l.length<=502633886983/\∀s' h',PH.le h h'->Rows h' s' (yI l)->K (cS s') m h'
noncomputable def V8:Ctx:=
 dL [(222,Tk),(223,WW),(117,Hs)] [(5,{A:=Nat×List Sl×Sl×MH×PH,st:=λ⟨i,us,s,m,h⟩=>cM 38 39 [(3,sv s),(4,.at (.lst 35)),(11,sv s),(12,iv s.len),(13,iv i)] [(35,.lst 75 1 (us.map eS))] m h})] [] [] false
def Jq(n c:Nat)(m:MH)(h:PH)(K:CV->MH->PH->Prop):Prop:=
  K uO m h
theorem V0(n c:Nat)(m:MH)(h:PH)(K:CV->MH->PH->Prop):Jq n c m h K=(qI (sY [] [] [] [] [95,1095] [] false) Tryz.f222 (bU Tryz.f222) (entry Tryz.f222.ntmps [.val (.slice none n c)] m h) K):=by kernel_rfl
abbrev fP(a:Sl->MH->Prop):Prop:=∀(x:Sl)(x1:MH),a x x1
attribute [push_cast] fP
def Jp(a:Addr)(n c:Nat)(m:MH)(h:PH)(K:CV->MH->PH->Prop):Prop:=
  fP (λs m1=>YI m m1 h s 75 1 []->∃(x:List (List Value)),cD m1 (cV s) 75 1 x/\∃(y:List (List Value)),aA (dU 1 y) (sH m1 h (Sl.mk (Option.some a) n c) 1 y) (aA (Ad x y 24) (nC x y.length) (fP (λs1 m2=>eX m1 m2 (cV s) s1 75 1 (x++y)->K (dG s1) m2 h))))
theorem VZ(a:Addr)(n c:Nat)(m:MH)(h:PH)(K:CV->MH->PH->Prop):Jp a n c m h K=(qI (sY [] [] [] [] [95,1095] [] false) Tryz.f222 (bU Tryz.f222) (entry Tryz.f222.ntmps [.val (.slice (some a) n c)] m h) K):=by kernel_rfl
abbrev F1(a:Sl->(List Sl)->Prop):Prop:=∃(x:Sl)(x1:List Sl),a x x1
abbrev DJ(a:Nat):Prop:=a<=502633886983
abbrev EC(a:Nat)(b:List Sl)(c:MH->Nat->Obj->Prop)(d:Nat->Prop)(e:Sl->MH->Prop):Prop:=fP (λx x1=>cD x1 x 75 a (qE b)->(∀(x2:Nat)(x3:Obj),c x1 x2 x3)->(∀(x2 x3:Nat),bL x.a x2 x3->d x2)->e x x1)
abbrev xD(a:MH)(b:Nat):Prop:=a b=Option.none
abbrev ED(a:MH)(b:Sl)(c:Nat)(d:List (Sl×List VV)):Prop:=cD a b 75 c (List.map (fun(x:Sl×List VV)=>aM x.1) d)
abbrev HS(a:(Nat×List Sl×Sl×MH×PH->Prop)->(Nat×List Sl×Sl×MH×PH)->Prop)(b:(Nat×List Sl×Sl×MH×PH->Prop)->(Nat×List Sl×Sl×MH×PH->Nat)->(Nat×List Sl×Sl×MH×PH)->Prop):Prop:=∃(x:Nat×List Sl×Sl×MH×PH->Prop)(x1:Nat×List Sl×Sl×MH×PH->Nat),(∃(x2:Nat×List Sl×Sl×MH×PH),a x x2)/\∀(x2:Nat×List Sl×Sl×MH×PH),b x x1 x2
noncomputable abbrev eA(a:Nat×List Sl×Sl×MH×PH):Sl:=a.2.2.1
noncomputable abbrev i6(a:Nat×List Sl×Sl×MH×PH):List (List Value):=qE a.2.1
noncomputable abbrev mU(a:Sl×MH×PH):Nat->Option Obj:=a.2.1
noncomputable abbrev jW(a:Nat×List Sl×Sl×MH×PH):Nat->Option Obj:=mU a.2.2
noncomputable abbrev mD(a:Sl×MH×PH):Nat->Nat->Option Value:=a.2.2
noncomputable abbrev i7(a:Nat×List Sl×Sl×MH×PH):Nat->Nat->Option Value:=mD a.2.2
abbrev IY(a b:Prop)(c:(Nat×List Sl×Sl×MH×PH)->Prop):Prop:=aA a b (∃(x:Nat×List Sl×Sl×MH×PH),c x)
abbrev xE(a b:Sl)(c:PH)(d:(List VV)->(List VV)->Prop):Prop:=fR (λx x1=>∃(x2 x3:List VV),aA (iG a b=iG x x1) (bB c x x2) (bB c x1 x3/\d x2 x3))
attribute [push_cast] F1 DJ EC xD ED HS eA i6 mU jW mD i7 IY xE
def Gh(s:Sl)(m:MH)(h:PH)(K:CV->MH->PH->Prop):Prop:=
  F1 (λs1 u=>aA (nH s s1) (sH m h s1 1 (qE u)) (DJ u.length/\EC 1 u (λm1 b o=>m b=Option.some o->m1 b=Option.some o) (λb=>xD m b) (λs2 m1=>∃(s3:Sl)(p:List (Sl×List VV)),aA (aK (dG s2) (gL 117 oI)=aK (dG s3) (gL 117 oI)) (ED m1 s3 1 p) (aA (∀(p1:Sl×List VV),List.Mem p1 p->bB h p1.1 p1.2) (w7 p.length) (∀(p1:List (Sl×List VV))(m2:MH),List.Perm p1 p->List.Pairwise (fun(p2:Sl×List VV)=>fun(q:Sl×List VV)=>¬(cL q.2 p2.2<0)) p1->ED m2 s3 1 p1->(∀(b:Nat),(∀(i:Nat),jJ (bL s3.a b i))->m2 b=m1 b)->HS (λI x=>aA (I x) (bA s2 (eA x)) (aA (eL 35) (bA s2 (eA x)) (aA (cO s2 (eA x)) (bI x.1) (aA (Option.some (Own.lst 75 1 [])=Option.some (Own.lst 75 1 (i6 x))) (m2=jW x) (bP h
 (i7 x)))))) (λI m3 x=>I x->bE (↑x.1:Int) (aH (eA x)) (dA (eA x) (↑x.1:Int) (λb o y=>aI (jW x) (i7 x) b (o+aZ x.1 1) (aM y)/\bQ (↑x.1:Int) 0 (∃(y1:List (List Value)),aA (dU 3 y1) (bH (i7 x) (cV y) 3 y1) (aA (dD (mC y1) 32) (w7 (mC y1)) (aY (i7 x) 3 (Bz y1) (λs4 h1=>IY (dD ((i6 x).length+1) 24) (eF (i6 x)) (λx1=>aA (I x1) (m3 x1<m3 x) (aA (bA (eA x) (eA x1)) (eL 35) (aA (bA (eA x) (eA x1)) (cO (eA x) (eA x1)) (aA (bD (gI (bC x.1 1)) x1.1) (Option.some (Own.lst 75 1 (eR (i6 x) (aM s4)))=Option.some (Own.lst 75 1 (i6 x1))) (bZ (jW x) (jW x1) h1 (i7 x1)))))))))) (dA (eA x) (qD x.1 1) (λb1 o1 y1=>aI (jW x) (i7 x) b1 (o1+eM (qD
 x.1 1) 1) (aM y1)/\xE y1 y (i7 x) (λa b2=>nG (cL a b2) 0 (∃(y2:List (List Value)),aA (dU 3 y2) (bH (i7 x) (cV y) 3 y2) (aA (dD (mC y2) 32) (w7 (mC y2)) (aY (i7 x) 3 (Bz y2) (λs4 h1=>IY (dD ((i6 x).length+1) 24) (eF (i6 x)) (λx1=>aA (I x1) (m3 x1<m3 x) (aA (bA (eA x) (eA x1)) (eL 35) (aA (bA (eA x) (eA x1)) (cO (eA x) (eA x1)) (aA (bD (gI (bC x.1 1)) x1.1) (Option.some (Own.lst 75 1 (eR (i6 x) (aM s4)))=Option.some (Own.lst 75 1 (i6 x1))) (bZ (jW x) (jW x1) h1 (i7 x1)))))))))) (∃(x1:Nat×List Sl×Sl×MH×PH),aA (I x1) (m3 x1<m3 x) (aA (bA (eA x) (eA x1)) (eL 35) (aA (bA (eA x) (eA x1)) (cO (eA x) (eA x1)) (aA (bD (gI (bC x.1 1)) x1.1)
 (Option.some (Own.lst 75 1 (i6 x))=Option.some (Own.lst 75 1 (i6 x1))) (bZ (jW x) (jW x1) (i7 x) (i7 x1))))))))))) (aY (i7 x) 1 (i6 x) (λs4 h1=>K (dG s4) (jW x) h1))))))))
theorem o9(l:List Sl):dU 1 (l.map eS):=by
 constructor
 .intro e he;obtain⟨x,_,rfl⟩:=List.mem_map.1 he;rfl
 .intro e he u hu;obtain⟨x,_,rfl⟩:=List.mem_map.1 he;have:u= .slice x.a x.len x.cap:=by simpa[eS]using hu
  rw[this];rfl
theorem Bo(l:List VV):dU 3 (l.map VV.enc):=by
 constructor
 .intro e he;obtain⟨x,_,rfl⟩:=List.mem_map.1 he;rfl
 .intro e he u hu;obtain⟨x,_,rfl⟩:=List.mem_map.1 he;simp only[VV.enc,List.mem_cons,List.not_mem_nil,or_false]at hu;rcases hu with rfl|rfl|rfl<;>rfl
theorem QU:Sound Tryz.prog 222 Tk:=by
 refine fU (fn:=Tryz.f222) (c:=bU Tryz.f222) Tryz.func222 rfl (by decide) ?_;rintro cvs m h K ⟨s,us,rfl,hr,hl,hK⟩;obtain⟨a,n,c⟩:=s;refine⟨sY [] [] [] [] [95,1095] [] false,rfl,aF,?_⟩;cases a with
 |none=>
  show qI _ Tryz.f222 (bU Tryz.f222) (entry Tryz.f222.ntmps [.val (.slice none n c)] m h) K;rw[<-V0 n c m h K];dsimp only[Jq,push_cast]
  have e:us.map eS=[]:=by
   rcases hr with hr|⟨b,o,cs,E,fz,e,_⟩
   .rcases hr.row with e|⟨b,o,e,_⟩
    .exact e
    .cases e
   .cases e
  rw[e]at hK;exact hK ⟨none,0,0⟩ m ⟨⟨(λe he=>by cases he),(λe he=>by cases he)⟩,.inl ⟨rfl,rfl⟩⟩ (λb o e=>e) (λb i e=>by cases e)
 |some a=>
  show qI _ Tryz.f222 (bU Tryz.f222) (entry Tryz.f222.ntmps [.val (.slice (some a) n c)] m h) K;rw[<-VZ a n c m h K];dsimp only[Jp,push_cast];intro s m' hnew
  have sub:∀b o,m b=some o->m' b=some o:=λb o hb=>by
   rw[hnew.other b (λi e=>by rw[(hnew.fresh b i e).m_]at hb;cases hb)];exact hb
  refine⟨[],hnew.row,us.map eS,o9 us,hr.sub sub,by simp;omega,by simp;omega,λs' m2 hg=>hK s' m2 (by simpa using hg.row) (λb o hb=>?_) (λb i e=>?_)⟩
  .exact hg.other b o (sub b o hb) (λi e=>by have e:s.a=some ⟨b,i,none⟩:=e;rw[(hnew.fresh b i e).m_]at hb;cases hb)
  .rcases hg.fresh b i e with h1|⟨j,h1⟩
   .cases e2:m b with
    |none=>rfl
    |some o=>rw[sub b o e2]at h1;cases h1
   .exact(hnew.fresh b j h1).m_
theorem Pq:Sound Tryz.prog 223 WW:=by
 refine⟨⟨Tryz.f223,Tryz.func223,rfl,by decide⟩,?_⟩;rintro cvs vs m h w K ⟨s,ps,rfl,hr,hv,hl,hK⟩ hp
 obtain⟨v,v2,rfl⟩:∃v v2,vs=[v,v2]:=by
  have:=(mG hp.args).1
  match vs,this with
  |[v,v2],_=>exact⟨v,v2,rfl⟩
 have h1:v=s.val:=hp.args.1;have h2:v2= .func (.func 117) #[] #[]:=hp.args.2.1;subst h1 h2;refine Ky (R:=λ_=>True) (g:=117) (cb:=[]) (m2:=λ_=>none) (cf:=cL) rfl hp ⟨Tryz.f117,Tryz.func117,rfl,by decide⟩ hr hv (λ_ _=>trivial) hl BX.swo ⟨Hs,nL,λx y=>⟨x.s,y.s,x.l,y.l,rfl,x.ok,y.ok,rfl,rfl,rfl⟩⟩ (λb o hb=>by cases hb) hK
theorem eO.mono{us:List Sl}{rs:List (List VV)}(x:eO h us rs)(le:PH.le h h'):eO h' us rs:=⟨x.len,λj r hr=>(x.at_ j r hr).imp λ_ hu=>⟨hu.1,bB.mono hu.2 le⟩⟩
theorem eO.nil(h:PH):eO h [] []:=⟨rfl,λj x hx=>by simp at hx⟩
theorem eO.snoc{us:List Sl}{rs:List (List VV)}(x:eO h us rs){u:Sl}{r:List VV}(hv:bB h u r):eO h (us++[u]) (rs++[r]):=by
 refine⟨by simp[x.len],λj y hy=>?_⟩;by_cases hj:j<rs.length
 .rw[List.getElem?_append_left hj]at hy;obtain⟨v,h1,h2⟩:=x.at_ j y hy;exact⟨v,by rw[List.getElem?_append_left (by rw[x.len];exact hj)];exact h1,h2⟩
 .rw[List.getElem?_append_right aC]at hy;have:=(List.getElem?_eq_some_iff.1 hy).1;simp at this;have e:j=rs.length:=by omega
  subst e;simp at hy;subst hy;exact⟨u,by rw[List.getElem?_append_right (by rw[x.len];exact Nat.le_refl _),x.len];simp,hv⟩
theorem eO.rows{h:PH}{us:List Sl}{rs:List (List VV)}{s:Sl}(x:eO h us rs)(hr:bH h s 1 (us.map eS))(hl:rs.length<=502633886983):Rows h s rs:=⟨⟨us,hr,x.len.symm,x.at_⟩,hl⟩
structure Sd(ps':List (Sl×List VV))(s1:Sl)(m2:MH)(h:PH)(i:Nat)(us2:List Sl)(s2:Sl)(mx:MH)(hx:PH):Prop where
 s_:s2=s1
 m_:mx=m2
 le:PH.le h hx
 hi:i<=ps'.length
 hu:us2.length<=i
 ex:∃rs,eO hx us2 rs/\gP rs/\∀x,x∈rs↔x∈(ps'.take i).map Prod.snd
theorem Hj{hx:PH}{u:Sl}{r:List VV}{us:List Sl}{Q:Sl->PH->Prop}(hpv:bB hx u r)(hl:us.length<=502633886983)(hQ:∀s h',hx.le h'->bB h' s r->Q s h'):
 ∃ys:List (List Value),dU 3 ys/\bH hx (Sl.mk u.a u.len u.cap) 3 ys/\(0+ys.length)*32<=140737488355328/\0+ys.length<=140737488355328/\∀(s:Sl)(h':PH),hx.le h'->bH h' s 3 ([]++ys)->
  ((List.map eS us).length+1)*24<=140737488355328/\(List.map eS us).length<140737488355328/\Q s h':=by
 obtain⟨vs,h1,h2,h3⟩:=hpv.ex;have hn:=hpv.len;refine⟨vs.map VV.enc,Bo vs,h1,by rw[List.length_map];omega,by rw[List.length_map];omega,λs h' le hr=>⟨by rw[List.length_map];omega,by rw[List.length_map];omega,hQ s h' le ⟨⟨vs,hr,h2,h3⟩,hn⟩⟩⟩
theorem Yf{s:Sl}{us:List Sl}{l:List (List VV)}(hr:sH m h s 1 (us.map eS))(hru0:eO h us l)(hll:l.length<=502633886983)(hK:∀s' h',PH.le h h'->Rows h' s' (yI l)->K (cS s') m h'):Gh s m h (kY h K):=by
 dsimp only[Gh,push_cast];have hul:=hru0.len.symm;have hat:=hru0.at_;refine⟨s,us,rfl,hr,aC,λs1 m1 hrow1 hsub1 hfr1=>⟨s1,us.zip l,rfl,?_,λp hp=>?_,by simp;omega,λps' m2 hperm hpw hrow2 hoth2=>?_⟩⟩
 .have:(us.zip l).map (λp=>[bV p.1])=us.map eS:=by
   rw[show(λp:Sl×List VV=>[bV p.1])=eS∘Prod.fst from rfl, <-List.map_map,List.map_fst_zip aC]
  rw[this];exact hrow1
 .obtain⟨j,hj⟩:=List.getElem?_of_mem hp;rw[List.getElem?_zip_eq_some]at hj;obtain⟨u,h1,h2⟩:=hat j p.2 hj.2;rw[hj.1]at h1;cases h1;exact h2
 .have hpl:ps'.length=us.length:=by rw[hperm.length_eq];simp;omega
  have hs1l:=cD.slen hrow2;simp only[List.length_map]at hs1l
  have hvs:∀{i:Nat}{p:Sl×List VV},ps'[i]? =some p->bB h p.1 p.2:=fun{i p} hp=>by
   have:=hperm.mem_iff.1 (List.mem_of_getElem? hp);obtain⟨j,hj⟩:=List.getElem?_of_mem this;rw[List.getElem?_zip_eq_some]at hj;obtain⟨u,h1,h2⟩:=hat j p.2 hj.2;rw[hj.1]at h1;cases h1;exact h2
  have hmem:∀x,x∈ps'.map Prod.snd↔x∈l:=λx=>by
   rw[(hperm.map Prod.snd).mem_iff,List.map_snd_zip aC]
  have hsubm:∀b o,m b=some o->m2 b=some o:=λb o hb=>by
   rw[hoth2 b (λi e2=>by rw[hfr1 b i e2]at hb;cases hb)];exact hsub1 b o hb
  refine⟨λx=>Sd ps' s1 m2 h x.1 x.2.1 x.2.2.1 x.2.2.2.1 x.2.2.2.2,λx=>ps'.length-x.1,⟨(0,[],s1,m2,h),⟨rfl,rfl,.refl _,by simp,by simp,[],.nil h,.nil,by simp⟩,MT⟩,?_⟩;rintro⟨i,us2,s2,mx,hx⟩ ⟨e1,e2,le,hi,hu2,rs,hru,hso,hme⟩;dsimp only at e1 e2 le hi hu2 hru;subst e1 e2;refine aE (λhlt=>?_) (λhge=>?_)
  .dsimp only at hlt;have hlt2:i<ps'.length:=by omega
   obtain⟨p,hp⟩:∃p,ps'[i]? =some p:=⟨_,List.getElem?_eq_getElem hlt2⟩
   obtain⟨b,e1,r1⟩:=hrow2.rd (h:=hx) (i:=i) (e:=eS p.1) (by simp[hp];rfl);have hpv:=bB.mono (hvs hp) le
   have htake:∀x,x∈(ps'.take (i+1)).map Prod.snd↔x∈(ps'.take i).map Prod.snd\/x=p.2:=λx=>by
    rw[List.take_add_one,hp];simp
   have add:(∀y∈rs,cL y p.2<0)->∀(s:Sl)(h':PH),hx.le h'->bB h' s p.2->Sd ps' s2 mx h (i+1) (us2++[s]) s2 mx h':=λhc s h' le' hv'=>by
    refine⟨rfl,rfl,le.trans le',aC,by simp;omega,rs++[p.2],(hru.mono le').snoc hv',List.pairwise_append.2 ⟨hso,by simp,λy hy z hz=>?_⟩,λx=>?_⟩
    .simp at hz;subst hz;exact hc y hy
    .rw[htake,List.mem_append,hme];simp
   have keep:p.2∈rs->Sd ps' s2 mx h (i+1) us2 s2 mx hx:=λhc=>
    ⟨rfl,rfl,le,aC,aC,rs,hru,hso,λx=>by rw[htake,hme];exact⟨.inl,λh=>h.elim id λe=>by rw[e, <-hme];exact hc⟩⟩
   refine⟨b,0,e1,by show(0:Int)<=(i:Int);omega,hlt,p.1,by simpa[eS]using r1,aB (λh0=>?_) (λh0=>?_)⟩
   .have h0:i=0:=by simpa using h0
    subst h0
    have hrs:rs=[]:=by
     cases rs with
     |nil=>rfl
     |cons y _=>have:=(hme y).1 (by simp);simp at this
    exact Hj hpv (by dsimp only;omega) (λs h' le' hv'=>⟨(0+1,us2++[s],s2,mx,h'),add (by rw[hrs];simp) s h' le' hv',(by dsimp only;omega),rfl,rfl,rfl,rfl,rfl,by simp[eS],rfl,rfl,trivial⟩)
   .have h0:i≠0:=by simpa using h0
    have hw:IntKind.i64.wrap ((i:Int)-1)=((i-1:Nat):Int):=by rw[gD aC aC];omega
    obtain⟨q,hq⟩:∃q,ps'[i-1]? =some q:=⟨_,List.getElem?_eq_getElem aC⟩
    obtain⟨b',e1',r1'⟩:=hrow2.rd (h:=hx) (i:=i-1) (e:=eS q.1) (by simp[hq];rfl);have hqv:=bB.mono (hvs hq) le
    have hqrs:q.2∈rs:=by
     rw[hme];refine List.mem_map.2 ⟨q,?_,rfl⟩;exact List.mem_of_getElem? (i:=i-1) (by rw[List.getElem?_take,if_pos aC];exact hq)
    have hprev:∀y∈rs,cL y q.2<=0:=λy hy=>by
     rw[hme]at hy;obtain⟨z,hz,rfl⟩:=List.mem_map.1 hy;obtain⟨j,hj⟩:=List.getElem?_of_mem hz;have hjl:=(List.getElem?_eq_some_iff.1 hj).1;simp only[List.length_take]at hjl;rw[List.getElem?_take,if_pos aC]at hj;by_cases e:j=i-1
     .subst e;rw[hq]at hj;cases hj;have:=jP q.2 q.2;omega
     .have h1:=List.pairwise_iff_getElem.1 hpw j (i-1) aC aC aC;rw[(List.getElem?_eq_some_iff.1 hj).2,(List.getElem?_eq_some_iff.1 hq).2]at h1;have:=jP z.2 q.2;omega
    have hqp:cL q.2 p.2<=0:=by
     have h1:=List.pairwise_iff_getElem.1 hpw (i-1) i aC aC aC;rw[(List.getElem?_eq_some_iff.1 hp).2,(List.getElem?_eq_some_iff.1 hq).2]at h1;have:=jP q.2 p.2;omega
    dsimp only;rw[hw];refine⟨b',0,e1',aC,aC,q.1,by simpa[eS]using r1',q.1,p.1,q.2,p.2,rfl,hqv,hpv,aB (λhne=>?_) (λheq=>?_)⟩
    .have hne:cL q.2 p.2≠0:=by simpa using hne
     refine Hj hpv aC (λs h' le' hv'=>⟨(i+1,us2++[s],s2,mx,h'),add (λy hy=>?_) s h' le' hv',(by dsimp only;omega),rfl,rfl,rfl,rfl,by rw[j5 aC],by simp[eS],rfl,rfl,trivial⟩);have t:=sZ y q.2 p.2 (hprev y hy) hqp;by_cases e:cL y p.2=0
     .have:=BX.zero (hprev y hy) hqp e;omega
     .omega
    .have heq:cL q.2 p.2=0:=by simpa using heq
     exact⟨(i+1,us2,s2,mx,hx),keep (by rw[<-gR.1 heq];exact hqrs),(by dsimp only;omega),rfl,rfl,rfl,rfl,by rw[j5 aC],rfl,rfl,rfl,trivial⟩
  .intro s3 h3 le3 hr3;dsimp only at hge hr3 le3;have hi2:i=ps'.length:=by omega
   subst hi2;rw[List.take_length]at hme;have e:rs=yI l:=Sq hso (λx=>by rw[hme,hmem]);subst e;have hl:=hru.len;exact⟨m,h3,hsubm,le.trans le3,.refl _,hK s3 h3 (le.trans le3) ((hru.mono le3).rows hr3 aC)⟩
theorem DR:Sound Tryz.prog 200 YG:=by
 refine Fh Tryz.func200 ?_;rintro cvs m h K ⟨s,us,l,rfl,hr,hu,hl,hK⟩;refine⟨V8,rfl,aD QU (aD Pq (aD nL aF)),Gh s m h (kY h K),by kernel_rfl,?_⟩;exact Yf hr hu hl hK
end Go.Ps
namespace Go.Vc
open Go
section
variable{B:mH}{C:Ctx}{ι:Nat->Value}{σ:St}{a:Act}{w:World}{o:Oper}{K:St->Prop}
def J6(ι:Nat->Value)(σ:St)(b:Nat):Prop:=σ.m b≠none\/∃k o,nth σ.own k=some (some o)/\blk (ι k)=some b
def Zt(ι:Nat->Value)(σ:St)(ds:List Deferred)(w:World):mH:=⟨w,J6 ι σ,σ.h,ds⟩
theorem aG.rebase(hM:aG B ι σ a w):aG (Zt ι σ a.defers w) ι σ a w:=by
 have hw:=hM.wrel;refine⟨hM.slots,rfl,hM.own,hM.dist,λk o b hk hb=>?_,?_,hM.one⟩
 .obtain⟨_,f2,f3⟩:=hM.fresh k o b hk hb;exact⟨.inr (.inr ⟨k,o,hk,hb⟩),f2,f3⟩
 .exact⟨rfl,rfl,rfl,Nat.le_refl _,Nat.le_refl _,λ_ _ _=>rfl,hw.hsat,hw.msat,hw.disj,λ_ _ _ e=>e,λ_ _ _=>rfl,
   λb o hb=>.inr (.inl (by rw[hb];simp))⟩
theorem aG.mine(hM:aG B ι σ a w){b:Nat}(h:J6 ι σ b):(B.w0.heap.size<=b\/B.E b)/\b<w.heap.size/\∀i,σ.h b i=none:=by
 rcases h with h|⟨k,o,hk,hb⟩
 .cases e:σ.m b with
  |none=>exact(h e).elim
  |some ob=>exact⟨hM.wrel.mfr b ob e,(Array.getElem?_eq_some_iff.1 (hM.wrel.msat b ob e)).1,hM.wrel.disj b ob e⟩
 .obtain⟨f1,_,f3⟩:=hM.fresh k o b hk hb;exact⟨f1,lI (hM.own k o hk) hb,f3⟩
theorem aG.unbase(hM:aG B ι σ a w){ds:List Deferred}{ι':Nat->Value}{τ:St}{a':Act}{w':World}(h:aG (Zt ι σ ds w) ι' τ a' w'):aG {B with dfs:=ds} ι' τ a' w':=by
 have hw:=hM.wrel;have hw':=h.wrel
 have old:∀b,(w.heap.size<=b\/J6 ι σ b)->B.w0.heap.size<=b\/B.E b:=λb hb=>by
  rcases hb with h1|h1
  .exact .inl (Nat.le_trans hw.size h1)
  .exact(hM.mine h1).1
 refine⟨h.slots,h.defers,h.own,h.dist,λk o b hk hb=>?_,?_,h.one⟩
 .obtain⟨f1,f2,f3⟩:=h.fresh k o b hk hb;exact⟨old b f1,f2,f3⟩
 .have s':w.heap.size<=w'.heap.size:=hw'.size;refine⟨hw'.tape.trans hw.tape,hw'.os.trans hw.os,hw'.output.trans hw.output,Nat.le_trans hw.drawn hw'.drawn,Nat.le_trans hw.size s',?_,hw'.hsat,hw'.msat,hw'.disj,λb i v e=>hw'.hle b i v (hw.hle b i v e),?_,λb o hb=>old b (hw'.mfr b o hb)⟩
  .intro b hb hnE
   have hn:¬J6 ι σ b:=λhm=>by
    rcases(hM.mine hm).1 with h1|h1
    .exact absurd hb (Nat.not_lt.2 h1)
    .exact hnE h1
   have:=hw'.frame b (Nat.lt_of_lt_of_le hb hw.size) hn;rw[this];exact hw.frame b hb hnE
  .intro b hb hnE
   have hn:¬J6 ι σ b:=λhm=>by
    rcases(hM.mine hm).1 with h1|h1
    .exact absurd hb (Nat.not_lt.2 h1)
    .exact hnE h1
   have:τ.h b=σ.h b:=hw'.hold b (Nat.lt_of_lt_of_le hb hw.size) hn;rw[this];exact hw.hold b hb hnE
theorem aG.grown(hM:aG B ι σ a w){w':World}{row:Option Nat}(hg:w.grownBy w' row)(hdr:w.drawn<=w'.drawn)(hrow:∀r,row=some r->B.w0.heap.size<=r/\¬J6 ι σ r/\∃ob:Obj,w.heap[r]? =some ob/\ob.isCells=false):aG B ι σ a w':=by
 have hw:=hM.wrel;have same:∀b,b<w.heap.size->(∀r,row=some r->b≠r)->w'.heap[b]? =w.heap[b]? :=λb hb hne=>hg.block b hb (λe=>hne b e.symm rfl);have mine:∀b,J6 ι σ b->w'.heap[b]? =w.heap[b]? :=λb hb=>same b (hM.mine hb).2.1 (λr e h=>(hrow r e).2.1 (h▸hb));refine⟨hM.slots,hM.defers,λk o hk=>(hM.own k o hk).world (λb hb=>mine b (.inr ⟨k,o,hk,hb⟩)),hM.dist,hM.fresh,?_,hM.one⟩;refine⟨hg.tape.trans hw.tape,hg.os.trans hw.os,hg.output.trans hw.output,Nat.le_trans hw.drawn hdr,Nat.le_trans hw.size hg.size,?_,?_,?_,hw.disj,hw.hle,hw.hold,hw.mfr⟩
 .intro b hb hnE;rw[same b (Nat.lt_of_lt_of_le hb hw.size) (λr e h=>by have:=(hrow r e).1;omega)];exact hw.frame b hb hnE
 .intro b i v hv;have h1:=hw.hsat b i v hv;have hlt:b<w.heap.size:=World.block_lt_of_cell? w ⟨b,i,none⟩ h1
  have hne:∀r,row=some r->b≠r:=λr e h=>by
   obtain⟨_,_,ob,hob,hnc⟩:=hrow r e;unfold World.cell? at h1;rw[h]at h1;dsimp only at h1;rw[hob]at h1;cases ob<;>simp[Obj.isCells]at hnc h1
  rw[World.cell?_of_block (w:=w) (w':=w') (a:=⟨b,i,none⟩) (same b hlt hne)];exact h1
 .intro b o hb;rw[mine b (.inl (by rw[hb];simp))];exact hw.msat b o hb
def nY:Code->Bool
 |.skip=>true
 |.ret=>true
 |.exit _=>true
 |.region _ ops _=>ops.toList.all λo=>match o.op with|.defer _=>false|_=>true
 |.seq x y=>nY x&&nY y
 |.cond _ x y=>nY x&&nY y
 |.block _ x=>nY x
 |.loop x=>nY x
 |_=>false
def Plain(ops:Array Oper):Prop:=∀(i:Nat)(o:Oper),ops[i]? =some o->∀c,o.op≠ .defer c
theorem Ov{ops:Array Oper}(h:(ops.toList.all λo=>match o.op with|.defer _=>false|_=>true)=true):Plain ops:=by
 intro i o ho c e;rw[List.all_eq_true]at h;have:=h o (List.mem_of_getElem? (by rw[Array.getElem?_toList];exact ho));rw[e]at this;cases this
theorem tD(l:Nat){P:Program}{ops:Array Oper}(hd:Plain ops){Q:Exit->Act->World->Prop}:∀(L:List Nat)(a:Act)(w:World),wpOpsIn Fence.wide 0 P ops Q L a w->wpOpsIn (Fence.wide.inRound l) 0 P ops Q L a w
 |[],_,_,h=>h
 |i::L,a,w,h=>by
  unfold wpOpsIn at h⊢
  cases ho:ops[i]? with
  |none=>rw[ho]at h;exact tD l hd L a w h
  |some o=>
   rw[ho]at h;dsimp only at h⊢
   split
   .rename_i hw;rw[if_pos hw]at h;exact Dy l (hd i o ho) (Oper.wpIn_mono (λa w=>tD l hd L a w) h)
   .rename_i hw;rw[if_neg hw]at h;exact⟨λ_ _=>trivial,tD l hd L _ _ h.2⟩
theorem wW(l:Nat){P:Program}{md:Region.Mode}{ops:Array Oper}(hd:Plain ops){Q:Exit->Act->World->Prop}(hQ:¬LetsOut Q):∀(n:Nat)(L:Array Bool)(a:Act)(w:World),wpAny P md ops Q n L a w->wpAnyIn (Fence.wide.inRound l) 0 P md ops Q n L a w
 |0,_,_,_,h=>h
 |n+1,L,a,w,h=>by
  refine⟨h.1,λi hi=>?_⟩;have:=h.2 i hi;unfold wpOp at this;unfold wpOpIn;cases ho:ops[i]? with
  |none=>rw[ho]at this;exact wW l hd hQ n _ _ _ this
  |some o=>
   rw[ho]at this;dsimp only at this⊢
   split
   .rename_i hw;rw[if_pos hw]at this;rcases this with h1|h1
    .exact Dy l (hd i o ho) (Oper.wpIn_mono (λa w=>wW l hd hQ n _ a w) (Ic h1))
    .exact(hQ h1.2).elim
   .rename_i hw;rw[if_neg hw]at this;exact⟨λ_ _=>trivial,wW l hd hQ n _ _ _ this⟩
theorem A5{F:Fence}{n:Nat}{P:Program}{Q:Exit->Act->World->Prop}{a:Act}{w:World}{c:Code}(I:Nat->Act->World->Prop)(n₀:Nat)(h₀:I n₀ a w)
 (round:∀k a w,I k a w->c.wpIn F n P (Exit.then (λa' w'=>∃k',k'<k/\I k' a' w') Q) a w):(Code.loop c).wpIn F n P Q a w:=by
 refine wpIn_loop (λa w=>∃k,I k a w) (λa w=>leastOf (λk=>I k a w)) ⟨n₀,h₀⟩ ?_;intro a w hI;refine wpIn_mono (round _ a w (leastOf_spec hI).1) ?_;intro e a' w' hq;cases e with
 |normal=>
  obtain⟨k',hlt,hI'⟩:=hq;exact⟨⟨k',hI'⟩,Nat.lt_of_le_of_lt ((leastOf_spec ⟨k',hI'⟩).2 k' hI') hlt⟩
 |exit id=>exact hq
 |ret=>exact hq
 |goto l=>exact hq
 |panic ch=>exact hq
 |outgrown=>exact hq
theorem Kw(l:Nat)(hspecs:∀g S,assoc C.specs g=some S->Sound C.P g S):∀(c:Code),nY c=true->∀(σ:St)(Q:uM->St->Prop)(ι:Nat->Value)(a:Act)(w:World),aG B ι σ a w->VC C c σ Q->c.wpIn (Fence.wide.inRound l) 0 C.P (QD B Q) a w:=by
 intro c
 induction c with
 |skip=>intro hs σ Q ι a w hM h;exact wpIn_skip ⟨ι,σ,hM,h⟩
 |label l=>intro hs;cases hs
 |exit id=>intro hs σ Q ι a w hM h;exact wpIn_exit ⟨ι,σ,hM,h⟩
 |ret=>intro hs σ Q ι a w hM h;exact wpIn_ret ⟨ι,σ,hM,h⟩
 |goto l=>intro hs;cases hs
 |refuse why=>intro hs;cases hs
 |scope body ih=>intro hs;cases hs
 |rangeFunc f ps x y ihx ihy=>intro hs;cases hs
 |region id ops draw=>
  intro hs σ Q ι a w hM h;cases draw with
  |false=>
   refine wpIn_region (tD l (Ov hs) _ _ _ ?_);have:=FT hspecs (ops:=ops) (Q:=Q) (FR C id) ops.toList 0 ι σ a w (λj=>by simp) hM h;rw[List.range_eq_range'];simpa using this
  |true=>
   simp only[VC]at h;split at h
   .rename_i h1 h2 h3;have hsa:=Vf h1 h2;refine wpIn_region_any h3 (wW l (Ov hs) (λ⟨_,_,e⟩=>e) _ _ _ _ ?_);refine Ma hspecs hsa (Q:=QD B Q) (R:=Q .normal) (λι σ a w hM h=>⟨ι,σ,hM,h⟩) (λc a w h=>h) ops.size ops.size _ ι σ a _ (hM.drew (w.drawn+1) (Nat.le_succ _)) h _ a ?_ ?_
    .have hno:∀i,(Array.replicate ops.size false).getD i false=true->False:=by
      intro i hi;by_cases hlt:i<ops.size
      .simp[Array.getD,hlt]at hi
      .simp[Array.getD,hlt]at hi
     exact⟨by simp,by simp,λi hi=>hi,λi o _ hi=>(hno i hi).elim,λi o _ hi=>(hno i hi).elim,λi o _ hi=>(hno i hi).elim,rfl,rfl,λt _=>rfl,λi o _ hi=>(hno i hi).elim⟩
    .unfold o8;rw[List.filter_eq_self.2]
     .simp
     .intro i hi;by_cases hlt:i<ops.size<;>simp[Array.getD,hlt]
   .exact h.elim
 |seq x y ihx ihy=>
  intro hs σ Q ι a w hM h;obtain⟨hs1,hs2⟩:=Bool.and_eq_true_iff.1 hs;simp only[VC]at h;split at h
  .obtain⟨h,hall⟩:=h;refine wpIn_seq (wpIn_mono (ihx hs1 σ _ ι a w hM h) ?_);intro e a' w' hq;cases e with
   |normal=>
    obtain⟨ι',σ',hM',x,hx,hm⟩:=hq;show y.wpIn (Fence.wide.inRound l) 0 C.P (QD B Q) a' w';obtain⟨ι2,hM2,_⟩:=iJ hM' hm;exact ihy hs2 _ Q ι2 a' w' hM2 (hall x hx)
   |exit id=>exact hq
   |ret=>exact hq
   |goto l=>exact hq
   |panic ch=>exact hq
   |outgrown=>exact hq
  .split at h
   .obtain⟨I,h,hall⟩:=h;refine wpIn_seq (wpIn_mono (ihx hs1 σ _ ι a w hM h) ?_);intro e a' w' hq;cases e with
    |normal=>
     obtain⟨ι',σ',hM',hm⟩:=hq;show y.wpIn (Fence.wide.inRound l) 0 C.P (QD B Q) a' w';obtain⟨x,ι2,hx,hM2⟩:=uG hM' hm;exact ihy hs2 _ Q ι2 a' w' hM2 (hall x hx)
    |exit id=>exact hq
    |ret=>exact hq
    |goto l=>exact hq
    |panic ch=>exact hq
    |outgrown=>exact hq
   .refine wpIn_seq (wpIn_mono (ihx hs1 σ _ ι a w hM h) ?_);intro e a' w' hq;cases e with
    |normal=>
     obtain⟨ι',σ',hM',h'⟩:=hq;show y.wpIn (Fence.wide.inRound l) 0 C.P (QD B Q) a' w';exact ihy hs2 σ' Q ι' a' w' hM' h'
    |exit id=>exact hq
    |ret=>exact hq
    |goto l=>exact hq
    |panic ch=>exact hq
    |outgrown=>exact hq
 |cond c x y ihx ihy=>
  intro hs σ Q ι a w hM h;obtain⟨hs1,hs2⟩:=Bool.and_eq_true_iff.1 hs;simp only[VC]at h;split at h
  .rename_i t hc;have hev:=hM.ev c;rw[hc]at hev;have hev:a.eval c= .bool t:=hev;rcases nN h with⟨rfl,h⟩|⟨rfl,h⟩
   .exact wpIn_cond_true hev (ihx hs1 _ Q ι a w (hM.setTmp hc) h)
   .exact wpIn_cond_false hev (ihy hs2 _ Q ι a w (hM.setTmp hc) h)
  .exact h.elim
 |block id c ih=>
  intro hs σ Q ι a w hM h;refine wpIn_block (wpIn_mono (ih hs σ _ ι a w hM h) ?_);intro e a' w' hq;cases e with
  |normal=>exact hq
  |exit i=>
   obtain⟨ι',σ',hM',h'⟩:=hq;show if i=id then _ else _
   simp only at h';split at h'
   .rename_i hb;rw[if_pos (Nat.eq_of_beq_eq_true hb)];exact⟨ι',σ',hM',h'⟩
   .rename_i hb;rw[if_neg (λe=>by subst e;simp at hb)];exact⟨ι',σ',hM',h'⟩
  |ret=>exact hq
  |goto l=>exact hq
  |panic ch=>exact hq
  |outgrown=>exact hq
 |loop c ih=>
  intro hs σ Q ι a w hM h;simp only[VC]at h;split at h
  .rename_i ln hl;obtain⟨⟨x,hx,hm⟩,hall⟩:=h;obtain⟨ι2,hM2,_⟩:=iJ hM hm;refine A5 (λn a w=>∃x ι,ln.inv x/\ln.mu x=n/\aG B ι (ln.st x) a w) (ln.mu x) ⟨x,ι2,hx,rfl,hM2⟩ ?_;rintro n a' w' ⟨x',ι',hx',rfl,hM'⟩;refine wpIn_mono (ih hs _ _ ι' a' w' hM' (hall x' hx')) ?_;intro e a'' w'' hq;cases e with
   |normal=>
    obtain⟨ι3,σ3,hM3,y,hy,hlt,hmy⟩:=hq;obtain⟨ι4,hM4,_⟩:=iJ hM3 hmy;exact⟨ln.mu y,hlt,y,ι4,hy,rfl,hM4⟩
   |exit id=>exact hq
   |ret=>exact hq
   |goto l=>exact hq
   |panic ch=>exact hq
   |outgrown=>exact hq
  .split at h
   .rename_i ln hl;obtain⟨I,mu,hm,hall⟩:=h;obtain⟨x,ι2,hx,hM2⟩:=uG hM hm;refine A5 (λn a w=>∃x ι,I x/\mu x=n/\aG B ι (ln.st x) a w) (mu x) ⟨x,ι2,hx,rfl,hM2⟩ ?_;rintro n a' w' ⟨x',ι',hx',rfl,hM'⟩;refine wpIn_mono (ih hs _ _ ι' a' w' hM' (hall x' hx')) ?_;intro e a'' w'' hq;cases e with
    |normal=>
     obtain⟨ι3,σ3,hM3,hmy⟩:=hq;obtain⟨y,ι4,hy,hlt,hM4⟩:=Hl hM3 hmy;exact⟨mu y,hlt,y,ι4,hy,rfl,hM4⟩
    |exit id=>exact hq
    |ret=>exact hq
    |goto l=>exact hq
    |panic ch=>exact hq
    |outgrown=>exact hq
   .exact h.elim
end
end Go.Vc
namespace Go.Vc
open Go
def mK:Code->Bool
 |.seq x y=>mK x||mK y
 |.cond _ x y=>mK x||mK y
 |.block _ x=>mK x
 |.loop x=>mK x
 |.scope x=>mK x
 |.rangeFunc .. =>true
 |_=>false
structure ZL(P:Program)(l:Nat)(vs:List Value)(m:MH)(h:PH)(R:Bool->MH->PH->Prop):Prop where
 go:∀w,PY w m h->∃fn tmps assign body,(Instr.yield l vs.toArray).run P w= .ok (.round l fn tmps assign body) w/\
  RoundIn Fence.wide 0 P l fn tmps assign body w λe w'=>∃u m' h',e= .returned (.bool u)/\R u m' h'/\J9 w m h m' h' w'
def WS(P:Program):Spec:=λcvs m h K=>∃(l:Nat)(vs:List Value)(R:Bool->MH->PH->Prop),cvs= .val (.func (.yield l) #[] #[])::vs.map .val/\ZL P l vs m h R/\∀u m' h',R u m' h'->K (.val (.bool u)) m' h'
theorem G3:∀{l l':List Value},l.map CV.val=l'.map CV.val->l=l'
 |[],[],_=>rfl
 |a::l,b::l',h=>by
  simp only[List.map_cons,List.cons.injEq,CV.val.injEq]at h;rw[h.1,G3 h.2]
 |[],_::_,h=>by simp at h
 |_::_,[],h=>by simp at h
theorem Ib(P:Program):GM P (WS P):=⟨λl vs m h w K⟨l',vs',R,he,hS,hR⟩ hH=>by
 simp only[List.cons.injEq,CV.val.injEq,Value.func.injEq,Fn.yield.injEq,and_true]at he;obtain⟨rfl,he⟩:=he;rw[G3 he];obtain⟨fn,tmps,as_,bd,h1,h2⟩:=hS.go w hH;exact⟨fn,tmps,as_,bd,h1,h2.mono λe w'⟨u,m',h',e1,e2,e3⟩=>⟨_,m',h',e1,hR u m' h' e2,e3⟩⟩⟩
def W8(P:Program)(Src:PH->List Value->List (List Value)->Prop):Spec:=λcvs m h K=>∃(l:Nat)(caps:List Value)(xs:List (List Value))(J:Nat->MH->PH->Prop),
 cvs= .val (.func (.yield l) #[] #[])::caps.map .val/\Src h caps xs/\J 0 m h/\
 (∀k e m' h',xs[k]? =some e->PH.le h h'->J k m' h'->ZL P l e m' h' (λr m2 h2=>r=true/\PH.le h' h2/\J (k+1) m2 h2))/\
 ∀r m' h',PH.le h h'->J xs.length m' h'->K r m' h'
structure D3(P:Program)(g:FuncId)(Src:PH->List Value->List (List Value)->Prop):Prop where
 sound:Sound P g (W8 P Src)
def KW:SV->SV
 |.at (.val v)=>.at (.val v)
 |.agg cs=>match oZ cs with|some _=>.agg cs|none=>.at .junk
 |_=>.at .junk
def OD:Option Own->Option Own:=λ_=>none
def blank(σ:St)(m:MH)(h:PH):St:={sl:=σ.sl.map KW,own:=σ.own.map OD,m:=m,h:=h}
def MI(l:List SV):List (Nat×SV)->List SV
 |[]=>l
 |(p,x)::r=>MI (l.set p x) r
def Su(σ:St)(es:List (Nat×SV))(m:MH)(h:PH):St:={sl:=MI (σ.sl.map KW) es,own:=σ.own.map OD,m:=m,h:=h}
def HD(C:Ctx)(x y:Code)(σ:St)(es:List (Nat×SV))(m:MH)(h:PH)(R:MH->PH->Prop):Prop:=
 VC C x (Su σ es m h) (λex τ=>match ex with
  |.normal=>VC C y τ (λex υ=>match ex with
   |.normal=>R υ.m υ.h
   |_=>False)
  |_=>False)
def Qs(C:Ctx)(f:Operand)(ps:Array Tmp)(x y:Code)(σ:St)(K:St->Prop):Prop:=
 match σ.ev f,nY x&&nY y with
 |.at (.val (.func (.func g) fs cs)),true=>match fs.toList with
  |[]=>match ps.toList,C.elemT with
   |[p],[T]=>∃(Src:PH->List Value->List (List Value)->Prop)(xs:List (C.dec T).X)(I:Nat->MH->PH->Prop),D3 C.P g Src/\Src σ.h cs.toList (xs.map λx=>[valOf C.P T ((C.dec T).enc x)])/\I 0 σ.m σ.h/\
    (∀(k:Nat)(e:(C.dec T).X)(m:MH)(h:PH),xs[k]? =some e->PH.le σ.h h->I k m h->HD C x y σ [(p,mk C.P T (((C.dec T).enc e).map .val))] m h (I (k+1)))/\
    ∀(m:MH)(h:PH),PH.le σ.h h->I xs.length m h->K (blank σ m h)
   |[p,q],[T,U]=>∃(Src:PH->List Value->List (List Value)->Prop)(xs:List ((C.dec T).X×(C.dec U).X))(I:Nat->MH->PH->Prop),D3 C.P g Src/\Src σ.h cs.toList (xs.map λx=>[valOf C.P T ((C.dec T).enc x.1),valOf C.P U ((C.dec U).enc x.2)])/\I 0 σ.m σ.h/\
    (∀(k:Nat)(e:(C.dec T).X)(e':(C.dec U).X)(m:MH)(h:PH),xs[k]? =some (e,e')->PH.le σ.h h->I k m h->HD C x y σ [(p,mk C.P T (((C.dec T).enc e).map .val)),(q,mk C.P U (((C.dec U).enc e').map .val))] m h (I (k+1)))/\
    ∀(m:MH)(h:PH),PH.le σ.h h->I xs.length m h->K (blank σ m h)
   |_,_=>False
  |_=>False
 |_,_=>False
def U3(C:Ctx):Code->St->(uM->St->Prop)->Prop
 |.rangeFunc f ps x y,σ,Q=>Qs C f ps x y σ (Q .normal)
 |.seq a b,σ,Q=>match mK a||mK b with
  |false=>VC C (.seq a b) σ Q
  |true=>match JN C b with
   |some c=>∃I:c.A->Prop,U3 C a σ (λe τ=>match e with
    |.normal=>En c I τ
    |e=>Q e τ)/\∀x,I x->U3 C b (c.st x) Q
   |none=>U3 C a σ (λe τ=>match e with
    |.normal=>U3 C b τ Q
    |e=>Q e τ)
 |.block id c,σ,Q=>match mK c with
  |false=>VC C (.block id c) σ Q
  |true=>U3 C c σ (λe τ=>match e with
   |.exit i=>match Nat.beq i id with|true=>Q .normal τ|false=>Q (.exit i) τ
   |e=>Q e τ)
 |.cond c x y,σ,Q=>match mK x||mK y with
  |false=>VC C (.cond c x y) σ Q
  |true=>match σ.ev c with
   |.at (.val (.bool t))=>branch t (U3 C x (setTmp σ c true) Q) (U3 C y (setTmp σ c false) Q)
   |_=>False
 |c,σ,Q=>VC C c σ Q
def Xw(C:Ctx)(σ:St):List ResultVar->(List Value->Prop)->Prop
 |[],K=>K []
 |.cell t T::r,K=>match nth σ.sl t,fO C.P T with
  |some (.at (.val (.pointer (some ⟨b,off,none⟩)))),true=>WI C T (aI σ.m σ.h b off) λl=>match(mk C.P T (l.map .val)).val? with
   |some v=>Xw C σ r (λrs=>K (v::rs))
   |none=>False
  |_,_=>False
 |_::_,_=>False
def FX(C:Ctx)(fn:Func)(K:CV->MH->PH->Prop)(σ:St):Prop:=
 match DF C σ fn.results.toList with
 |some _=>zA C fn K σ
 |none=>Xw C σ fn.results.toList λrs=>match rs with
  |[r]=>K (.val r) σ.m σ.h
  |rs=>K (.tup (rs.map .val)) σ.m σ.h
def SM(C:Ctx)(fn:Func)(c:Code)(σ:St)(K:CV->MH->PH->Prop):Prop:=
 U3 C c σ (λe τ=>match e with
  |.normal=>FX C fn K τ
  |.ret=>FX C fn K τ
  |_=>False)
section
variable{B:mH}{C:Ctx}{ι:Nat->Value}{σ:St}{a:Act}{w:World}{K:St->Prop}
theorem TM{ι ι':Nat->Value}{x:SV}{v:Value}(h:Den ι x v):Den ι' (KW x) v:=by
 cases x with
 |agg cs=>
  simp only[KW];split
  .rename_i l hl;obtain⟨us,rfl,hd⟩:=h;rw[yZ hl]at hd⊢
   exact⟨us,rfl,by rw[fH.vals]at hd⊢;exact hd⟩
  .trivial
 |tup xs=>trivial
 |_ y=>cases y<;>first|exact h|trivial
theorem BK{ι ι':Nat->Value}:∀{xs:List SV}{vs:List Value},DenS ι xs vs->DenS ι' (xs.map KW) vs
 |[],[],_=>trivial
 |_::_,_::_,h=>⟨TM h.1,BK h.2⟩
 |[],_::_,h=>h.elim
 |_::_,[],h=>h.elim
theorem Cj(l:List (Option Own))(k:Nat)(o:Own):nth (l.map OD) k=some (some o)->False:=by
 rw[vC];cases nth l k<;>simp[OD]
theorem aG.blank'{B:mH}{sl:List SV}{l:List (Option Own)}{m:MH}{h:PH}{a:Act}{w:World}(hs:DenS (λ_=>.slice none 0 0) sl a.tmps.toList)(hd:a.defers=B.dfs)(hw:qS B m h w):
 aG B (λ_=>.slice none 0 0) {sl:=sl,own:=l.map OD,m:=m,h:=h} a w:=
 ⟨hs,hd,λk o hk=>(Cj l k o hk).elim,λk _ o _ _ hk=>(Cj l k o hk).elim,λk o _ hk=>(Cj l k o hk).elim,hw,λ_=>rfl⟩
def wJ(D:Nat):Deferred:={target:=.collected D,args:= #[]}
structure MM(B:mH)(ds:List Nat)(ι:Nat->Value)(σ:St)(a:Act)(w:World):Prop where
 mod:aG {B with dfs:=ds.map wJ} ι σ a w
 size:∀D∈ds,B.w0.heap.size<=D
 mine:∀D∈ds,¬J6 ι σ D
 mark:∀D∈ds,w.heap[D]? =some (.deferred (some []))
 nodup:ds.Nodup
def QM(B:mH)(Q:uM->St->Prop):Exit->Act->World->Prop
 |.normal,a,w=>∃ds ι σ,MM B ds ι σ a w/\Q .normal σ
 |.exit id,a,w=>∃ds ι σ,MM B ds ι σ a w/\Q (.exit id) σ
 |.ret,a,w=>∃ds ι σ,MM B ds ι σ a w/\Q .ret σ
 |_,_,_=>False
theorem MM.step{ds:List Nat}(hM:MM B ds ι σ a w){ι':Nat->Value}{τ:St}{a':Act}{w':World}(h:aG (Zt ι σ (ds.map wJ) w) ι' τ a' w'):MM B ds ι' τ a' w':=by
 have lt:∀D∈ds,D<w.heap.size:=λD hD=>(Array.getElem?_eq_some_iff.1 (hM.mark D hD)).1;refine⟨?_,hM.size,λD hD hm=>?_,λD hD=>?_,hM.nodup⟩
 .exact hM.mod.unbase (ds:=ds.map wJ) h
 .rcases(h.mine hm).1 with h1|h1
  .have h1:w.heap.size<=D:=h1;have:=lt D hD;omega
  .exact hM.mine D hD h1
 .rw[h.wrel.frame D (lt D hD) (hM.mine D hD)];exact hM.mark D hD
theorem MM.here{ds:List Nat}(hM:MM B ds ι σ a w):aG (Zt ι σ (ds.map wJ) w) ι σ a w:=by
 have:=hM.mod.rebase;rw[hM.mod.defers]at this;exact this
theorem MM.of_QD{ds:List Nat}(hM:MM B ds ι σ a w){Q:uM->St->Prop}{e:Exit}{a':Act}{w':World}(h:QD (Zt ι σ (ds.map wJ) w) Q e a' w'):QM B Q e a' w':=by
 cases e with
 |normal=>obtain⟨ι',τ,h1,h2⟩:=h;exact⟨ds,ι',τ,hM.step h1,h2⟩
 |exit id=>obtain⟨ι',τ,h1,h2⟩:=h;exact⟨ds,ι',τ,hM.step h1,h2⟩
 |ret=>obtain⟨ι',τ,h1,h2⟩:=h;exact⟨ds,ι',τ,hM.step h1,h2⟩
 |goto l=>exact h.elim
 |panic ch=>exact h.elim
 |outgrown=>exact h.elim
theorem MM.retag{ds:List Nat}(hM:MM B ds ι σ a w){ι':Nat->Value}{τ:St}(h:aG (Zt ι σ (ds.map wJ) w) ι' τ a w):MM B ds ι' τ a w:=hM.step h
theorem wZ(hspecs:∀g S,assoc C.specs g=some S->Sound C.P g S){ds:List Nat}(hM:MM B ds ι σ a w){c:Code}{Q:uM->St->Prop}(h:VC C c σ Q):c.wp C.P (QM B Q) a w:=
 wp_mono (D5 hspecs c σ Q ι a w hM.here h) (λ_ _ _ hq=>hM.of_QD hq)
theorem Iq{ι:Nat->Value}:∀{es:List (Nat×SV)}{vs:List Value}{sl:List SV}{ts:Array Value},DenS ι (es.map (·.2)) vs->DenS ι sl ts.toList->
 DenS ι (MI sl es) (((es.map (·.1)).zip vs).foldl (λts(p,v)=>ts.setIfInBounds p v) ts).toList
 |[],[],_,_,_,h=>h
 |(p,x)::es,v::vs,sl,ts,h,hs=>by
  refine Iq (es:=es) (vs:=vs) h.2 ?_;rw[Array.toList_setIfInBounds];exact hs.set p h.1
 |[],_::_,_,_,h,_=>h.elim
 |_::_,[],_,_,h,_=>h.elim
def vB(fn:FuncId)(tmps:Array Value)(ps:Array Tmp)(x y:Code)(D:Nat)(st:LoopState):Loop:={state:=st,pending:=none,fn:=fn,tmps:=tmps,params:=ps,assign:=x,body:=y,defers:=D}
theorem II{w:World}{l i:Nat}{r:Loop}(h:w.heap[l]? =some (.loop r)):w.cell? ⟨l,i,none⟩=none:=by
 unfold World.cell?;dsimp only;rw[h]
theorem Om(hspecs:∀g S,assoc C.specs g=some S->Sound C.P g S){tmps:Array Value}{x y:Code}(hx:nY x=true)(hy:nY y=true)(hsl:DenS ι σ.sl tmps.toList)
 {es:List (Nat×SV)}{vs:List Value}{ps:Array Tmp}(hps:ps.toList=es.map (·.1))(hes:DenS (λ_=>.slice none 0 0) (es.map (·.2)) vs)
 {fn:FuncId}{D l:Nat}{m0 mm:MH}{h0:PH}(hl0:m0 l=none)(hmm:∀b,b≠l->mm b=m0 b)(hml:mm l=some (.loop (vB fn tmps ps x y D .ready))){R:MH->PH->Prop}
 (hV:HD C x y σ es m0 h0 R)(w:World)(hH:PY w mm h0):
 ∃fn' tmps' assign body,(Instr.yield l vs.toArray).run C.P w= .ok (.round l fn' tmps' assign body) w/\
  RoundIn Fence.wide 0 C.P l fn' tmps' assign body w λex w'=>∃u m' h',ex= .returned (.bool u)/\(u=true/\PH.le h0 h'/\∃m2,m2 l=none/\(∀b,b≠l->m' b=m2 b)/\m' l=some (.loop (vB fn tmps ps x y D .ready))/\R m2 h')/\J9 w mm h0 m' h' w':=by
 have hl:=hH.msat l _ hml;have hlt:=(Array.getElem?_eq_some_iff.1 hl).1
 have hlen:vs.length=ps.size:=by
  have h1:=hes.length;rw[List.length_map]at h1;rw[<-Array.length_toList,hps,List.length_map,h1]
 refine⟨_,_,_,_,run_yield hl (by simpa[vB]using hlen),roundIn_of_wpIn trivial ?_⟩;obtain⟨ts,hts⟩:∃ts,((vB fn tmps ps x y D .ready).params.zip vs.toArray).foldl (λtmps(t,a)=>tmps.setIfInBounds t a) (vB fn tmps ps x y D .ready).tmps=ts:=⟨_,rfl⟩
 rw[hts]
 have hts2:ts=((es.map (·.1)).zip vs).foldl (λts(p,v)=>ts.setIfInBounds p v) tmps:=by
  rw[<-hts, <-hps, <-Array.foldl_toList,Array.toList_zip];rfl
 have m0some:∀b o,m0 b=some o->mm b=some o:=λb o hb=>by
  rw[hmm b (λe=>by rw[e,hl0]at hb;cases hb)];exact hb
 have hM:aG ⟨w,λb=>m0 b≠none,h0,[]⟩ (λ_=>.slice none 0 0) (Su σ es m0 h0) {tmps:=ts,defers:=[]} w:=by
  refine aG.blank' ?_ rfl ?_
  .show DenS _ (MI (σ.sl.map KW) es) ts.toList;rw[hts2];exact Iq hes (BK hsl)
  .exact⟨rfl,rfl,rfl,Nat.le_refl _,Nat.le_refl _,λ_ _ _=>rfl,hH.hsat,λb o hb=>hH.msat b o (m0some b o hb),λb o hb=>hH.disj b o (m0some b o hb),λ_ _ _ e=>e,λ_ _ _=>rfl,λb o hb=>.inr (by show m0 b≠none;rw[show m0 b=some o from hb];simp)⟩
 refine wpIn_mono (Kw l hspecs x hx _ _ _ _ _ hM hV) ?_;intro ex a1 w1 hq;cases ex with
 |normal=>
  obtain⟨ι1,τ,hM1,hV1⟩:=hq;have hw1:=hM1.wrel;have hnE:¬(λb=>m0 b≠none) l:=λe=>e hl0;have hl1:w1.heap[l]? =some (.loop (vB fn tmps ps x y D .ready)):=by rw[hw1.frame l hlt hnE];exact hl
  have hlt1:=(Array.getElem?_eq_some_iff.1 hl1).1
  have hnM1:¬J6 ι1 τ l:=λhm=>by
   rcases(hM1.mine hm).1 with h1|h1
   .exact absurd hlt (Nat.not_lt.2 h1)
   .exact hnE h1
  refine⟨_,run_beginRound hl1 rfl,?_⟩;obtain⟨w2,hw2⟩:∃w2,w1.putObj l (.loop {vB fn tmps ps x y D .ready with state:=.busy})=w2:=⟨_,rfl⟩
  have hM2:=(hM1.rebase.putD (.loop {vB fn tmps ps x y D .ready with state:=.busy}) hl1 rfl hlt1 hnM1).rebase;rw[hw2]at hM2⊢
  have hd1:a1.defers=[]:=hM1.defers;have hM2:aG (Zt ι1 τ [] w2) ι1 τ a1 w2:=by rw[hd1]at hM2;exact hM2
  have ne2:∀b,b≠l->w2.heap[b]? =w1.heap[b]? :=λb hb=>by rw[<-hw2];exact World.putObj_heap_other (λe=>hb e)
  have s2:w2.heap.size=w1.heap.size:=by rw[<-hw2];simp
  have hl2:w2.heap[l]? =some (.loop {vB fn tmps ps x y D .ready with state:=.busy}):=by rw[<-hw2];exact World.putObj_heap_same hlt1
  refine wpIn_mono (Kw l hspecs y hy _ _ _ _ _ hM2 hV1) ?_;intro ex a2 w3 hq;cases ex with
  |normal=>
   obtain⟨ι2,υ,hM3,hR⟩:=hq;have hw3:=hM3.wrel;have hl3:w3.heap[l]? =some (.loop {vB fn tmps ps x y D .ready with state:=.busy}):=by rw[hw3.frame l (by show l<w2.heap.size;omega) hnM1];exact hl2
   have hlt3:=(Array.getElem?_eq_some_iff.1 hl3).1
   have hmine:∀b,b<w.heap.size->mm b=none->¬J6 ι1 τ b:=λb hb hn hm=>by
    rcases(hM1.mine hm).1 with h1|h1
    .exact absurd hb (Nat.not_lt.2 h1)
    .refine h1 ?_;by_cases e:b=l
     .rw[e];exact hl0
     .rw[<-hmm b e];exact hn
   have hul:υ.m l=none:=by
    cases e:υ.m l with
    |none=>rfl
    |some o=>
     rcases hw3.mfr l o e with h1|h1
     .have h1:w2.heap.size<=l:=h1;omega
     .exact(hnM1 h1).elim
   obtain⟨w4,hw4⟩:∃w4,w3.putObj l (.loop (vB fn tmps ps x y D .ready))=w4:=⟨_,rfl⟩
   have ne4:∀b,b≠l->w4.heap[b]? =w3.heap[b]? :=λb hb=>by rw[<-hw4];exact World.putObj_heap_other (λe=>hb e)
   have hl4:w4.heap[l]? =some (.loop (vB fn tmps ps x y D .ready)):=by rw[<-hw4];exact World.putObj_heap_same hlt3
   have hend:=run_endRound (P:=C.P) none hl3;have hend:(Instr.endRound l none).run C.P w3= .ok (.bool true) w4:=by rw[hend, <-hw4];rfl
   have hle1:PH.le h0 τ.h:=⟨λb i v e=>hw1.hle b i v e⟩
   have hle2:PH.le τ.h υ.h:=⟨λb i v e=>hw3.hle b i v e⟩
   refine⟨_,_,hend,true,λb=>if b=l then some (.loop (vB fn tmps ps x y D .ready))else υ.m b,υ.h,rfl,⟨rfl,⟨λb i v e=>hle2.le _ _ _ (hle1.le _ _ _ e)⟩,υ.m,hul,λb hb=>by simp[hb],by simp,hR⟩,?_⟩;have t4:w4.tape=w3.tape/\w4.os=w3.os/\w4.output=w3.output/\w4.heap.size=w3.heap.size:=by rw[<-hw4];exact⟨rfl,rfl,rfl,by simp⟩
   have t2:w2.tape=w1.tape/\w2.os=w1.os/\w2.output=w1.output:=by rw[<-hw2];exact⟨rfl,rfl,rfl⟩
   have hsize1:w.heap.size<=w1.heap.size:=hw1.size;have hsize3:w2.heap.size<=w3.heap.size:=hw3.size;refine⟨?_,?_,?_,?_,?_,?_,⟨?_,?_,?_⟩,⟨λb i v e=>hle2.le _ _ _ (hle1.le _ _ _ e)⟩,?_,?_⟩
   .rw[t4.1,hw3.tape];show w2.tape=_;rw[t2.1];exact hw1.tape
   .rw[t4.2.1,hw3.os];show w2.os=_;rw[t2.2.1];exact hw1.os
   .rw[t4.2.2.1,hw3.output];show w2.output=_;rw[t2.2.2];exact hw1.output
   .have d4:w4.drawn=w3.drawn:=by rw[<-hw4];rfl
    have d3:w2.drawn<=w3.drawn:=hw3.drawn;have d2:w2.drawn=w1.drawn:=by rw[<-hw2];rfl
    have d1:w.drawn<=w1.drawn:=hw1.drawn;omega
   .omega
   .intro b hb hn;have hbl:b≠l:=λe=>by rw[e,hml]at hn;cases hn
    rw[ne4 b hbl,hw3.frame b (by show b<w2.heap.size;omega) (hmine b hb hn)];show w2.heap[b]? =_;rw[ne2 b hbl];exact hw1.frame b hb (λe=>e (by rw[<-hmm b hbl];exact hn))
   .intro b i v hv;have hv3:=hw3.hsat b i v hv;have hbl:b≠l:=λe=>by rw[e,II hl3]at hv3;cases hv3
    rw[World.cell?_of_block (w:=w3) (w':=w4) (a:=⟨b,i,none⟩) (ne4 b hbl)];exact hv3
   .intro b o hb;have hb2:(if b=l then some (Obj.loop (vB fn tmps ps x y D .ready))else υ.m b)=some o:=hb;clear hb;split at hb2
    .rename_i e;subst e;cases hb2;exact hl4
    .rename_i e;rw[ne4 b e];exact hw3.msat b o hb2
   .intro b o hb i;have hb2:(if b=l then some (Obj.loop (vB fn tmps ps x y D .ready))else υ.m b)=some o:=hb;clear hb;split at hb2
    .rename_i e;subst e;cases e2:υ.h b i with
     |none=>rfl
     |some v=>have:=hw3.hsat b i v e2;rw[II hl3]at this;cases this
    .exact hw3.disj b o hb2 i
   .intro b hb hn;have h1:υ.h b=τ.h b:=hw3.hold b (by show b<w2.heap.size;omega) (hmine b hb hn);rw[h1];have hbl:b≠l:=λe=>by rw[e,hml]at hn;cases hn
    exact hw1.hold b hb (λe=>e (by rw[<-hmm b hbl];exact hn))
   .intro b o hb;have hb2:(if b=l then some (Obj.loop (vB fn tmps ps x y D .ready))else υ.m b)=some o:=hb;clear hb;split at hb2
    .rename_i e;subst e;exact .inr (by rw[hml];simp)
    .rename_i e;rcases hw3.mfr b o hb2 with h1|h1
     .have h1:w2.heap.size<=b:=h1;exact .inl aC
     .rcases(hM1.mine h1).1 with h2|h2
      .exact .inl h2
      .exact .inr (by rw[hmm b e];exact h2)
  |ret=>obtain⟨_,_,_,h⟩:=hq;exact h.elim
  |exit id=>obtain⟨_,_,_,h⟩:=hq;exact h.elim
  |goto t=>exact hq.elim
  |panic ch=>exact hq.elim
  |outgrown=>exact hq.elim
 |ret=>obtain⟨_,_,_,h⟩:=hq;exact h.elim
 |exit id=>obtain⟨_,_,_,h⟩:=hq;exact h.elim
 |goto t=>exact hq.elim
 |panic ch=>exact hq.elim
 |outgrown=>exact hq.elim
theorem JX(w:World)(o:Obj){b:Nat}(h:b<w.heap.size):(w.alloc o).heap[b]? =w.heap[b]? :=by
 exact Go.RowKit.Below.heap_alloc _ _ _ h
theorem PS(w:World)(o:Obj):(w.alloc o).heap[w.heap.size]? =some o:=World.alloc_heap_new w o
theorem Si(w:World):∀l:List Value,wT w (l.map .val) l
 |[]=>trivial
 |_::l=>⟨rfl,Si w l⟩
theorem Ie(l:List Value)(i:Nat)(c:CV)(u:Value)(b:Nat)(hi:(l.map CV.val)[i]? =some c)(hb:eJ c u=some b):False:=by
 rw[List.getElem?_map]at hi;cases e:l[i]? with
 |none=>rw[e]at hi;cases hi
 |some v=>rw[e]at hi;simp at hi;subst hi;simp[eJ]at hb
theorem KY(hspecs:∀g S,assoc C.specs g=some S->Sound C.P g S){ds:List Nat}(hM:MM B ds ι σ a w){f:Operand}{ps:Array Tmp}{x y:Code}{Q:uM->St->Prop}{g:FuncId}{cs:Array Value}(hev:σ.ev f= .at (.val (.func (.func g) #[] cs)))(hx:nY x=true)(hy:nY y=true)
 {Src:PH->List Value->List (List Value)->Prop}(hok:D3 C.P g Src){xs:List (List Value)}(hsrc:Src σ.h cs.toList xs){I:Nat->MH->PH->Prop}(h0:I 0 σ.m σ.h)
 (hround:∀(k:Nat)(vs:List Value)(m:MH)(h:PH),xs[k]? =some vs->PH.le σ.h h->I k m h->∃es:List (Nat×SV),ps.toList=es.map (·.1)/\DenS (λ_=>.slice none 0 0) (es.map (·.2)) vs/\HD C x y σ es m h (I (k+1)))
 (hend:∀(m:MH)(h:PH),PH.le σ.h h->I xs.length m h->Q .normal (blank σ m h)):(Code.rangeFunc f ps x y).wp C.P (QM B Q) a w:=by
  obtain⟨hsnd⟩:=hok;have hw:=hM.mod.wrel
  have hev':a.eval f= .func (.func g) #[] cs:=by
   have:=hM.mod.ev f;rw[hev]at this;exact this
  refine(wpIn_wide (n:=0)).1 (wpIn_rangeFunc ?_);intro fn hfn;obtain⟨l,hl⟩:∃l,l=w.heap.size+1:=⟨_,rfl⟩
  obtain⟨D,hD⟩:∃D,D=w.heap.size:=⟨_,rfl⟩
  obtain⟨W1,hW1⟩:∃W1,(w.alloc (.deferred (some []))).alloc (.loop (vB fn a.tmps ps x y D .ready))=W1:=⟨_,rfl⟩
  have s1:W1.heap.size=w.heap.size+2:=by rw[<-hW1];simp
  have old:∀b,b<w.heap.size->W1.heap[b]? =w.heap[b]? :=λb hb=>by
   rw[<-hW1,JX _ _ (by simp;omega),JX _ _ hb]
  have newD:W1.heap[D]? =some (.deferred (some [])):=by
   rw[<-hW1,hD,JX _ _ (by simp)];exact PS w _
  have newl:W1.heap[l]? =some (.loop (vB fn a.tmps ps x y D .ready)):=by
   rw[<-hW1,hl];have:=PS (w.alloc (.deferred (some []))) (.loop (vB fn a.tmps ps x y D .ready))
   rwa [World.size_alloc]at this
  have mlt:∀b o,σ.m b=some o->b<w.heap.size:=λb o hb=>(Array.getElem?_eq_some_iff.1 (hw.msat b o hb)).1;have hlast:∀b i v,σ.h b i=some v->b<w.heap.size:=λb i v hv=>World.block_lt_of_cell? w ⟨b,i,none⟩ (hw.hsat b i v hv)
  let m1:MH:=λb=>if b=l then some (.loop (vB fn a.tmps ps x y D .ready))else σ.m b
  have m1l:m1 l=some (.loop (vB fn a.tmps ps x y D .ready)):=by simp[m1]
  have m1o:∀b,b≠l->m1 b=σ.m b:=λb hb=>if_neg hb
  have hσl:σ.m l=none:=by
   cases e:σ.m l with
   |none=>rfl
   |some o=>have:=mlt l o e;omega
  have hpre:uD W1 m1 σ.h (.val (.func (.yield l) #[] #[])::cs.toList.map .val) (.func (.yield l) #[] #[]::cs.toList):=by
   refine⟨⟨rfl,Si _ _⟩,?_,?_,?_,λi j c d u v b hi _ _ _ hb _=>(Ie (.func (.yield l) #[] #[]::cs.toList) i c u b hi hb).elim,λi c u b hi _ hb=>(Ie (.func (.yield l) #[] #[]::cs.toList) i c u b hi hb).elim⟩
   .intro b i v hv;rw[World.cell?_of_block (w:=w) (w':=W1) (a:=⟨b,i,none⟩) (old b (hlast b i v hv))];exact hw.hsat b i v hv
   .intro b o hb;by_cases e:b=l
    .subst e;rw[m1l]at hb;cases hb;exact newl
    .rw[m1o b e]at hb;rw[old b (mlt b o hb)];exact hw.msat b o hb
   .intro b o hb i;by_cases e:b=l
    .subst e;cases e2:σ.h b i with
     |none=>rfl
     |some v=>have:=hlast _ _ _ e2;omega
    .rw[m1o b e]at hb;exact hw.disj b o hb i
  have notMoved:∀b,m1 b=none->¬mX m1 (.val (.func (.yield l) #[] #[])::cs.toList.map .val) (.func (.yield l) #[] #[]::cs.toList) b:=by
   rintro b hb (h1|⟨i,c,u,hi,hu,hc⟩)
   .exact h1 hb
   .exact Ie (.func (.yield l) #[] #[]::cs.toList) i c u b hi hc
  let J:Nat->MH->PH->Prop:=λk mm hh=>PH.le σ.h hh/\∃m2,m2 l=none/\(∀b,b≠l->mm b=m2 b)/\mm l=some (.loop (vB fn a.tmps ps x y D .ready))/\I k m2 hh
  have hcall:=hsnd.2 (.val (.func (.yield l) #[] #[])::cs.toList.map .val) (.func (.yield l) #[] #[]::cs.toList) m1 σ.h W1 (λ_ mm hh=>J xs.length mm hh)
   ⟨l,cs.toList,xs,J,rfl,hsrc,⟨⟨λ_ _ _ e=>e⟩,σ.m,hσl,m1o,m1l,h0⟩,?_,λ_ _ _ _ hJ=>hJ⟩ hpre
  .have hrunl:(Instr.enterLoop fn a.tmps ps x y Fence.wide.round).run C.P w= .ok (l,[wJ D]) W1:=by
    subst hD hl;rw[<-hW1];exact run_enterLoop_outer _ _ _ _ _
   refine⟨l,[wJ D],W1,{target:=.fn (.func g) cs,args:= #[.func (.yield l) #[] #[]]},W1,g,(.func (.yield l) #[] #[]::cs.toList).toArray,W1,hrunl,?_,λ_ _=>trivial,?_,λe=>by simp[Fence.wide]at e,callsIn_wide.2 ?_⟩
   .simp only[resolve,rangeCall,hev'];simp[go_sem]
   .obtain⟨gf,hf,hbn,hnm⟩:=hsnd.1;have hbn:¬gf.body=none:=by intro e;rw[e]at hbn;cases hbn
    have hnm:¬gf.name= "runtime.NumGoroutine" :=by simpa using hnm
    simp only[invoke,callFunc];simp[program,Sem.run,hf,hnm,hbn]
   refine hcall.mono ?_;rintro e w3 ⟨r,u,mm,hh,rfl,⟨hle,m2,hm2l,hm2,hml,hI⟩,hok,hw3,_⟩;have hl3:=hw3.msat l _ hml;refine⟨_,_,run_endLoop hl3 (by simp[vB]),?_⟩;obtain⟨w4,hw4⟩:∃w4,w3.putObj l (.loop {vB fn a.tmps ps x y D .ready with state:=.exhausted})=w4:=⟨_,rfl⟩
   rw[hw4];have ne4:∀b,b≠l->w4.heap[b]? =w3.heap[b]? :=λb hb=>by rw[<-hw4];exact World.putObj_heap_other (λe=>hb e)
   have t4:w4.tape=w3.tape/\w4.os=w3.os/\w4.output=w3.output/\w4.heap.size=w3.heap.size:=by rw[<-hw4];exact⟨rfl,rfl,rfl,by simp⟩
   have t1:W1.tape=w.tape/\W1.os=w.os/\W1.output=w.output:=by rw[<-hW1];exact⟨rfl,rfl,rfl⟩
   have h3size:W1.heap.size<=w3.heap.size:=hw3.size
   have same:∀b,b<w.heap.size->σ.m b=none->w4.heap[b]? =w.heap[b]? :=λb hb hn=>by
    have hbl:b≠l:=by omega
    rw[ne4 b hbl,hw3.frame b (by show b<W1.heap.size;omega) (notMoved b (by rw[m1o b hbl];exact hn)),old b hb]
   have m2some:∀b o,m2 b=some o->mm b=some o/\b≠l:=λb o hb=>by
    have hbl:b≠l:=λe=>by rw[e,hm2l]at hb;cases hb
    exact⟨by rw[hm2 b hbl];exact hb,hbl⟩
   have m2old:∀b o,m2 b=some o->W1.heap.size<=b\/∃o',σ.m b=some o':=λb o hb=>by
    obtain⟨h1,hbl⟩:=m2some b o hb;rcases hw3.mfr b o h1 with h2|h2
    .exact .inl h2
    .refine .inr ?_;cases e:σ.m b with
     |some o'=>exact⟨o',rfl⟩
     |none=>exact(notMoved b (by rw[m1o b hbl];exact e) h2).elim
   have hB:B.w0.heap.size<=w.heap.size:=hw.size
   have mB:∀b,b<B.w0.heap.size->¬B.E b->σ.m b=none:=λb hb hn=>by
    cases e:σ.m b with
    |none=>rfl
    |some o=>
     rcases hw.mfr b o e with h1|h1
     .exact absurd hb (Nat.not_lt.2 h1)
     .exact(hn h1).elim
   have keepMark:∀D',D'∈ds->D'<w.heap.size/\σ.m D'=none:=λD' hD'=>by
    refine⟨(Array.getElem?_eq_some_iff.1 (hM.mark D' hD')).1,?_⟩;cases e:σ.m D' with
    |none=>rfl
    |some o=>exact(hM.mine D' hD' (.inl (by rw[e];simp))).elim
   have notMine:∀b,¬(W1.heap.size<=b)->σ.m b=none->¬J6 (λ_=>.slice none 0 0) (blank σ m2 hh) b:=by
    rintro b h1 h2 (h3|⟨k,o,hk,_⟩)
    .cases e:m2 b with
     |none=>exact h3 e
     |some o=>
      rcases m2old b o e with h4|⟨o',h4⟩
      .exact h1 h4
      .rw[h2]at h4;cases h4
    .exact Cj _ _ _ hk
   have hσD:σ.m D=none:=by
    cases e:σ.m D with
    |none=>rfl
    |some o=>have:=mlt D o e;omega
   refine⟨D::ds,λ_=>.slice none 0 0,blank σ m2 hh,⟨?_,?_,?_,?_,?_⟩,hend m2 hh hle hI⟩
   .refine aG.blank' (BK hM.mod.slots) ?_ ⟨?_,?_,?_,?_,?_,?_,?_,?_,?_,?_,?_,?_⟩
    .show[wJ D]++a.defers=_;rw[hM.mod.defers];rfl
    .rw[t4.1,hw3.tape];show W1.tape=_;rw[t1.1];exact hw.tape
    .rw[t4.2.1,hw3.os];show W1.os=_;rw[t1.2.1];exact hw.os
    .rw[t4.2.2.1,hw3.output];show W1.output=_;rw[t1.2.2];exact hw.output
    .have d4:w4.drawn=w3.drawn:=by rw[<-hw4];rfl
     have d3:W1.drawn<=w3.drawn:=hw3.drawn;have d2:W1.drawn=w.drawn:=by rw[<-hW1];rfl
     have d1:B.w0.drawn<=w.drawn:=hw.drawn;show B.w0.drawn<=w4.drawn;omega
    .show B.w0.heap.size<=_;omega
    .intro b hb hnE;have hb:b<B.w0.heap.size:=hb;rw[same b aC (mB b hb hnE)];exact hw.frame b hb hnE
    .intro b i v hv;have hv3:=hw3.hsat b i v hv;have hbl:b≠l:=λe=>by rw[e,II hl3]at hv3;cases hv3
     rw[World.cell?_of_block (w:=w3) (w':=w4) (a:=⟨b,i,none⟩) (ne4 b hbl)];exact hv3
    .intro b o hb;obtain⟨h1,hbl⟩:=m2some b o hb;rw[ne4 b hbl];exact hw3.msat b o h1
    .intro b o hb i;exact hw3.disj b o (m2some b o hb).1 i
    .intro b i v hv;exact hle.le _ _ _ (hw.hle b i v hv)
    .intro b hb hnE;have hb:b<B.w0.heap.size:=hb;have h1:hh b=σ.h b:=hw3.hold b (by show b<W1.heap.size;omega) (notMoved b (by rw[m1o b aC];exact mB b hb hnE));rw[h1];exact hw.hold b hb hnE
    .intro b o hb;rcases m2old b o hb with h1|⟨o',h1⟩
     .exact .inl (by show B.w0.heap.size<=b;omega)
     .exact hw.mfr b o' h1
   .intro D' hD';rcases List.mem_cons.1 hD' with rfl|h1
    .omega
    .exact hM.size D' h1
   .intro D' hD';rcases List.mem_cons.1 hD' with rfl|h1
    .exact notMine D' aC hσD
    .obtain⟨h2,h3⟩:=keepMark D' h1;exact notMine D' aC h3
   .intro D' hD';rcases List.mem_cons.1 hD' with rfl|h1
    .rw[ne4 D' aC,hw3.frame D' (by show D'<W1.heap.size;omega) (notMoved D' (by rw[m1o D' aC];exact hσD))];exact newD
    .obtain⟨h2,h3⟩:=keepMark D' h1;rw[same D' h2 h3];exact hM.mark D' h1
   .refine List.nodup_cons.2 ⟨λh1=>?_,hM.nodup⟩;have:=(keepMark D h1).1;omega
  .rintro k e m' h' hk hle ⟨hle0,m2,hm2l,hm2,hml,hI⟩;refine⟨λw5 hH=>?_⟩;obtain⟨es,hps,hes,hV⟩:=hround k e m2 h' hk hle hI;obtain⟨fn',tmps',as',bd',hy1,hR⟩:=Om hspecs (σ:=σ) (ι:=ι) hx hy hM.mod.slots hps hes hm2l hm2 hml hV w5 hH;refine⟨fn',tmps',as',bd',hy1,hR.mono ?_⟩;rintro ex w6 ⟨u,m6,h6,rfl,⟨rfl,hle6,m7,q1,q2,q3,q4⟩,hfr⟩;exact⟨_,m6,h6,rfl,⟨rfl,hle6,⟨λ_ _ _ e=>hle6.le _ _ _ (hle0.le _ _ _ e)⟩,m7,q1,q2,q3,q4⟩,hfr⟩
theorem Qr(hspecs:∀g S,assoc C.specs g=some S->Sound C.P g S){ds:List Nat}(hM:MM B ds ι σ a w){f:Operand}{ps:Array Tmp}{x y:Code}{Q:uM->St->Prop}(h:Qs C f ps x y σ (Q .normal)):(Code.rangeFunc f ps x y).wp C.P (QM B Q) a w:=by
 unfold Qs at h;split at h
 .rename_i g fs cs hev hnd;obtain⟨hx,hy⟩:=Bool.and_eq_true_iff.1 hnd;split at h
  .rename_i hfs;obtain rfl:fs= #[]:=Array.toList_inj.1 (by simpa using hfs);split at h
   .rename_i p T hps hT;obtain⟨Src,xs,I,hok,hsrc,h0,hround,hend⟩:=h;refine KY hspecs hM hev hx hy hok hsrc h0 (λk vs m h hk hle hI=>?_) (λm h hle hI=>hend m h hle (by simpa using hI));rw[List.getElem?_map]at hk;cases e:xs[k]? with
    |none=>rw[e]at hk;cases hk
    |some z=>
     rw[e]at hk;simp only[Option.map_some,Option.some.injEq]at hk;subst hk;exact⟨[(p,mk C.P T (((C.dec T).enc z).map .val))],by rw[hps];rfl,⟨MX,trivial⟩,hround k z m h e hle hI⟩
   .rename_i p q T U hps hT;obtain⟨Src,xs,I,hok,hsrc,h0,hround,hend⟩:=h;refine KY hspecs hM hev hx hy hok hsrc h0 (λk vs m h hk hle hI=>?_) (λm h hle hI=>hend m h hle (by simpa using hI));rw[List.getElem?_map]at hk;cases e:xs[k]? with
    |none=>rw[e]at hk;cases hk
    |some z=>
     rw[e]at hk;simp only[Option.map_some,Option.some.injEq]at hk;subst hk;exact⟨[(p,mk C.P T (((C.dec T).enc z.1).map .val)),(q,mk C.P U (((C.dec U).enc z.2).map .val))],by rw[hps];rfl,⟨MX,MX,trivial⟩,hround k z.1 z.2 m h e hle hI⟩
   .exact h.elim
  .exact h.elim
 .exact h.elim
theorem Tr(hspecs:∀g S,assoc C.specs g=some S->Sound C.P g S):∀(c:Code)(σ:St)(Q:uM->St->Prop)(ds:List Nat)(ι:Nat->Value)(a:Act)(w:World),MM B ds ι σ a w->U3 C c σ Q->c.wp C.P (QM B Q) a w:=by
 intro c
 induction c with
 |rangeFunc f ps x y _ _=>intro σ Q ds ι a w hM h;exact Qr hspecs hM h
 |seq x y ihx ihy=>
  intro σ Q ds ι a w hM h;simp only[U3]at h;split at h
  .exact wZ hspecs hM h
  .split at h
   .obtain⟨I,h,hall⟩:=h;refine wp_seq (wp_mono (ihx σ _ ds ι a w hM h) ?_);intro e a' w' hq;cases e with
    |normal=>
     obtain⟨ds',ι',σ',hM',hm⟩:=hq;obtain⟨x',ι2,hx',hM2⟩:=uG hM'.here hm;exact ihy _ Q ds' ι2 a' w' (hM'.retag hM2) (hall x' hx')
    |exit id=>exact hq
    |ret=>exact hq
    |goto l=>exact hq
    |panic ch=>exact hq
    |outgrown=>exact hq
   .refine wp_seq (wp_mono (ihx σ _ ds ι a w hM h) ?_);intro e a' w' hq;cases e with
    |normal=>
     obtain⟨ds',ι',σ',hM',h'⟩:=hq;exact ihy σ' Q ds' ι' a' w' hM' h'
    |exit id=>exact hq
    |ret=>exact hq
    |goto l=>exact hq
    |panic ch=>exact hq
    |outgrown=>exact hq
 |cond c x y ihx ihy=>
  intro σ Q ds ι a w hM h;simp only[U3]at h;split at h
  .exact wZ hspecs hM h
  .split at h
   .rename_i t hc;have hev:=hM.mod.ev c;rw[hc]at hev;have hev:a.eval c= .bool t:=hev;rcases nN h with⟨rfl,h⟩|⟨rfl,h⟩
    .exact wp_cond_true hev (ihx _ Q ds ι a w (hM.retag (hM.here.setTmp hc)) h)
    .exact wp_cond_false hev (ihy _ Q ds ι a w (hM.retag (hM.here.setTmp hc)) h)
   .exact h.elim
 |block id c ih=>
  intro σ Q ds ι a w hM h;simp only[U3]at h;split at h
  .exact wZ hspecs hM h
  .refine wp_block (wp_mono (ih σ _ ds ι a w hM h) ?_);intro e a' w' hq;cases e with
   |normal=>exact hq
   |exit i=>
    obtain⟨ds',ι',σ',hM',h'⟩:=hq;show if i=id then _ else _
    simp only at h';split at h'
    .rename_i hb;rw[if_pos (Nat.eq_of_beq_eq_true hb)];exact⟨ds',ι',σ',hM',h'⟩
    .rename_i hb;rw[if_neg (λe=>by subst e;simp at hb)];exact⟨ds',ι',σ',hM',h'⟩
   |ret=>exact hq
   |goto l=>exact hq
   |panic ch=>exact hq
   |outgrown=>exact hq
 |_=>intro σ Q ds ι a w hM h;exact wZ hspecs hM h
theorem Iy(hM:aG B ι σ a w):∀{l:List ResultVar}{K:List Value->Prop},Xw C σ l K->∃vs,(l.mapM (F8 a.tmps)).run C.P w= .ok vs w/\K vs
 |[],K,h=>⟨[],by simp,h⟩
 |.tmp t::r,K,h=>h.elim
 |.cell t T::r,K,h=>by
  simp only[Xw]at h;split at h
  .rename_i b off hs hT;obtain⟨y,hrd,h⟩:=h;split at h
   .rename_i hlen;have hlen:=Nat.eq_of_beq_eq_true hlen;split at h
    .rename_i v hv;obtain⟨vs,h1,h2⟩:=Iy hM h;have hev:=hM.ev (.tmp t);have hx:σ.ev (.tmp t)= .at (.val (.pointer (some ⟨b,off,none⟩))):=by simp only[St.ev,hs]
     rw[hx]at hev;have hp':a.tmps.getD t undef= .pointer (some ⟨b,off,none⟩):=hev;have hl:=uF (w:=w) (b:=b) (off:=off) (cs:=(C.dec T).enc y) hT hlen (z7 hM.wrel hrd);have hd:=DX (P:=C.P) (T:=T) (ι:=ι) (ats:=((C.dec T).enc y).map .val) (cs:=(C.dec T).enc y) (by rw[fH.vals]);have hv2:=hd.val? hv;refine⟨v::vs,?_,h2⟩;simp only[List.mapM_cons,F8,hp',asAddr,Sem.run_bind,Sem.run_pure,Result.andThen_ok,hl,h1,hv2]
    .exact h.elim
   .exact h.elim
  .exact h.elim
theorem Qe(hM:aG B ι σ a w){fn:Func}{K:CV->MH->PH->Prop}(h:FX C fn K σ):
 ∃u,(results fn a.tmps).run C.P w= .ok u w/\∃r m' h',K r m' h'/\zU w r u/\qS B m' h' w/\∀b,eJ r u=some b->(B.w0.heap.size<=b\/B.E b)/\m' b=none/\∀i,h' b i=none:=by
 unfold FX at h;split at h
 .exact Cd hM h
 .obtain⟨vs,hvs,hK⟩:=Iy hM h
  have hres:(results fn a.tmps).run C.P w= .ok (if h:vs.toArray.size=1 then vs.toArray[0]else .tuple vs.toArray) w:=by
   rw[Ix,Array.mapM_eq_mapM_toList];simp[hvs]
  split at hK
  .rename_i v;exact⟨v,by simpa using hres,.val v,σ.m,σ.h,hK,rfl,hM.wrel,λb hb=>by simp[eJ]at hb⟩
  .rename_i hne
   have hnl:vs.length≠1:=λe=>by
    match vs,e with
    |[v],_=>exact hne v rfl
   exact⟨.tuple vs.toArray,by rw[hres,dif_neg (by simpa using hnl)],.tup (vs.map .val),σ.m,σ.h,hK,⟨vs.toArray,rfl,by simp⟩,hM.wrel,λb hb=>by simp[eJ]at hb⟩
theorem G5{F:Fence}{n:Nat}{R:Ending->World->Prop}{fn:Func}{Kc:CV->MH->PH->Prop}(hret:FX C fn Kc σ)
 (hR:∀u w',(∃r m' h',Kc r m' h'/\zU w' r u/\qS B m' h' w'/\∀b,eJ r u=some b->(B.w0.heap.size<=b\/B.E b)/\m' b=none/\∀i,h' b i=none)->R (.returned u) w'):
 ∀(ds:List Nat)(a:Act)(w:World),MM B ds ι σ a w->LeavesInM F n C.P fn a.tmps R (ds.map wJ) .returning w
 |[],a,w,hM=>by
  obtain⟨u,hu,r,m',h',hK,hok,hw,hb⟩:=Qe hM.mod hret;refine⟨u,hu,hR u w ⟨r,m',h',hK,hok,⟨hw.tape,hw.os,hw.output,hw.drawn,hw.size,hw.frame,hw.hsat,hw.msat,hw.disj,hw.hle,hw.hold,hw.mfr⟩,hb⟩⟩
 |D::ds,a,w,hM=>by
  have hD:=hM.mark D (List.mem_cons_self ..);refine⟨by simp,.inl ⟨D,_,rfl,run_takeDeferred hD,G5 hret hR ds {a with defers:=ds.map wJ} _ ?_⟩⟩;have hg:w.grownBy (w.putObj D (.deferred none)) (some D):=grownBy_putObj' w D _
  have hM2:=hM.mod.grown hg (Nat.le_refl _) (λr e=>by
   cases e;exact⟨hM.size D (List.mem_cons_self ..),hM.mine D (List.mem_cons_self ..),_,hD,rfl⟩)
  have hnd:=List.nodup_cons.1 hM.nodup;refine⟨⟨hM2.slots,?_,hM2.own,hM2.dist,hM2.fresh,⟨hM2.wrel.tape,hM2.wrel.os,hM2.wrel.output,hM2.wrel.drawn,hM2.wrel.size,hM2.wrel.frame,hM2.wrel.hsat,hM2.wrel.msat,hM2.wrel.disj,hM2.wrel.hle,hM2.wrel.hold,hM2.wrel.mfr⟩,hM2.one⟩,λD' h=>hM.size D' (List.mem_cons_of_mem _ h),λD' h=>hM.mine D' (List.mem_cons_of_mem _ h),λD' h=>?_,hnd.2⟩
  .rfl
  .rw[World.putObj_heap_other (fun(e:D'=D)=>hnd.1 (by rw[<-e];exact h))];exact hM.mark D' (List.mem_cons_of_mem _ h)
theorem K2{P:Program}{f:FuncId}{fn:Func}{c:Code}(hf:P.funcs[f]? =some fn)(hb:fn.body=some c)(hname:(fn.name== "runtime.NumGoroutine")=false){S:Spec}
 (hvc:∀cvs m h K,S cvs m h K->∃C:Ctx,C.P=P/\(∀g S,assoc C.specs g=some S->Sound P g S)/\SM C fn c (entry fn.ntmps cvs m h) K):Sound P f S:=by
 refine⟨⟨fn,hf,by rw[hb];rfl,hname⟩,?_⟩;intro cvs vs m h w K hS hp;obtain⟨C,rfl,hspecs,hv⟩:=hvc cvs m h K hS;refine callsIn_wide.1 (callsIn_of_wp_marks (n:=0) hf hb trivial (wpIn_wide.2 ?_))
 have hM0:MM ⟨w,mX m cvs vs,h,[]⟩ [] (G7 fn.ntmps cvs vs) (entry fn.ntmps cvs m h) {tmps:=vs.toArray++Array.replicate (fn.ntmps-vs.toArray.size) undef,defers:=[]} w:=
  ⟨AY fn.ntmps hp,λ_ hD=>(List.not_mem_nil hD).elim,λ_ hD=>(List.not_mem_nil hD).elim,λ_ hD=>(List.not_mem_nil hD).elim,List.nodup_nil⟩
 refine wp_mono (Tr hspecs c _ _ _ _ _ w hM0 hv) ?_;intro e a' w' hq
 have key:(∃ds ι σ,MM ⟨w,mX m cvs vs,h,[]⟩ ds ι σ a' w'/\FX C fn K σ)->LeavesInM Fence.wide 0 C.P fn a'.tmps (λe w'=>∃r u m' h',e= .returned u/\K r m' h'/\zU w' r u/\qS ⟨w,mX m cvs vs,h,[]⟩ m' h' w'/\
  (∀b,eJ r u=some b->(w.heap.size<=b\/mX m cvs vs b)/\m' b=none/\∀i,h' b i=none)) a'.defers .returning w':=by
  rintro⟨ds,ι,σ,hM,hr⟩;rw[hM.mod.defers];exact G5 hr (λu w''⟨r,m',h',h1,h2,h3,h4⟩=>⟨r,u,m',h',rfl,h1,h2,h3,h4⟩) ds a' w' hM
 cases e with
 |normal=>exact key hq
 |ret=>exact key hq
 |exit id=>obtain⟨_,_,_,_,h⟩:=hq;exact h.elim
 |goto l=>exact hq.elim
 |panic ch=>exact hq.elim
 |outgrown=>exact hq.elim
theorem Qw{P:Program}{f:FuncId}{fn:Func}{c:Code}(hf:P.funcs[f]? =some fn)(hb:fn.body=some c)(hname:(fn.name== "runtime.NumGoroutine")=false){S:Spec}
 (hvc:∀cvs m h K,S cvs m h K->∃C:Ctx,C.P=P/\(∀g S,assoc C.specs g=some S->Sound P g S)/\SM C fn c (entry fn.ntmps cvs m h) (cH h K)):Sound P f S:=
 .strong (K2 hf hb hname (S:=λcvs m h K=>∃K',S cvs m h K'/\K=cH h K') (by
  rintro cvs m h K ⟨K',hS,rfl⟩;exact hvc cvs m h K' hS))
end
end Go.Vc
namespace Go.Ps
open Go Go.Vc Go.Proofs
variable{K:CV->MH->PH->Prop}{m:MH}{h:PH}{s:jR}{ps:List Int}{cb:Nat}{sc:bN}{v:QV}{q:Query}{p:Pred}{l:List Int}{i:Nat}{N:Nat}{m':MH}{h':PH}{co:List Int}{gr:List Int}{on:List (Int×Int)}{od:List (Int×Bool)}{w:Pred}{ta:Int}{li:Int}{xs:List (List Value)}{sz:Nat}{k:Nat}{ks:List (List Int)}{rs:List Int}{r:Sl}{a:List Int}{b:Nat}
def Kh(b:Nat):Value:=.func (.func 174) #[] #[.pointer (some ⟨b,0,none⟩)]
structure Dx(h:PH)(b:Nat)(us:List Sl):Prop where
 ex:∃s:Sl,bF h b 0 [s.val]/\bH h s 1 (us.map eS)/\us.length<=502633886983
theorem Dx.mono{us:List Sl}(x:Dx h b us)(le:PH.le h h'):Dx h' b us:=by
 obtain⟨s,h1,h2,h3⟩:=x.ex;exact⟨s,h1.mono le,h2.mono le,h3⟩
def tA:PH->List Value->List (List Value)->Prop:=λh caps xs=>∃b us,caps=[.pointer (some ⟨b,0,none⟩)]/\Dx h b us/\xs=us.map eS
noncomputable def Nn(specs:List (Nat×Vc.Spec))(loops:List (Nat×sB))(cuts:List (Nat×sB))(heapT:List TypeId):Ctx:={sY specs loops cuts [] heapT [] false with elemT:=[75]}
def Md:Vc.Spec:=λcvs m h K=>∃s,cvs=[cS s]/\∀b h',PH.le h h'->bF h' b 0 [s.val]->K (.val (Kh b)) m h'
def NO:Vc.Spec:=λcvs m h K=>∃s b us vs,cvs=[cS s,.val (Kh b)]/\cD m s 75 1 (us.map eS)/\Dx h b vs/\us.length<=502633886983/\
 ∀s' m',cD m' s' 75 1 ((us++vs).map eS)->(∀x o,m x=some o->(∀i,s.a≠some ⟨x,i,none⟩)->m' x=some o)->(∀x i,s'.a=some ⟨x,i,none⟩->m x=none\/∃i,s.a=some ⟨x,i,none⟩)->K (cS s') m' h
def P3:Vc.Spec:=λcvs m h K=>∃b vs,cvs=[.val (Kh b)]/\Dx h b vs/\
 ∀s' m',cD m' s' 75 1 (vs.map eS)->(∀x o,m x=some o->m' x=some o)->(∀x i,s'.a=some ⟨x,i,none⟩->m x=none)->K (cS s') m' h
noncomputable def Wi(b:Nat)(l:Nat)(s:Sl):Ctx:=
 {dL [] [(1,{A:=Nat×MH×PH,st:=λ⟨i,m,h⟩=>cM 16 18 [(0,vv (.func (.yield l) #[] #[])),(1,vv (.pointer (some ⟨b,0,none⟩))),(5,sv s),(6,iv s.len),(7,iv i)] [] m h})] [] [] false with yield:=some (WS Tryz.prog)}
def Gv(s:Sl)(m:MH)(h:PH)(K:CV->MH->PH->Prop):Prop:=
  gA (λb m1=>bY m h b->bG m m1 b (aM s) 95->K (gL 174 (lY b)) m1 h)
abbrev gX(a:Nat->Option Obj)(b:Nat->Nat->Option Value)(c d:Nat)(e:Sl->Prop):Prop:=∃(x:Sl),aI a b c d (aM x)/\e x
abbrev AH(a:(Nat×MH×PH->Prop)->(Nat×MH×PH)->Prop)(b:(Nat×MH×PH->Prop)->(Nat×MH×PH->Nat)->(Nat×MH×PH)->Prop):Prop:=∃(x:Nat×MH×PH->Prop)(x1:Nat×MH×PH->Nat),(∃(x2:Nat×MH×PH),a x x2)/\∀(x2:Nat×MH×PH),b x x1 x2
noncomputable abbrev cC(a:Nat×MH×PH):Nat->Option Obj:=a.2.1
noncomputable abbrev cE(a:Nat×MH×PH):Nat->Nat->Option Value:=a.2.2
abbrev IS(a:Nat->(List Value)->Prop):Prop:=∃(x:Nat)(x1:List Value),a x x1
abbrev oS(a:MH->PH->Prop):Prop:=∀(x:MH)(x1:PH),a x x1
attribute [push_cast] gX AH cC cE IS oS
def Ly(b l:Nat)(s:Sl)(m:MH)(h:PH)(K:CV->MH->PH->Prop):Prop:=
  gX m h b 0 (λy=>AH (λI x=>aA (I x) (AN l) (aA (lC b) (bA y s) (aA (cO y s) (bI x.1) (aA (m=cC x) (h=cE x) True)))) (λI m1 x=>I x->bE (↑x.1:Int) (aH s) (dA s (↑x.1:Int) (λb1 o y1=>aA (aI (cC x) (cE x) b1 (o+aZ x.1 1) (aM y1)) (HX (WS Proofs.Tryz.prog)) (IS (λl1 v=>∃(R:Bool->MH->PH->Prop),aA (aK (Bw l) (dG y1)=Bw l1::List.map CV.val v) (ZL Proofs.Tryz.prog l1 v (cC x) (cE x) R) (∀(u:Bool),oS (λm2 h1=>R u m2 h1->branch (!u) (K uX m2 h1) (∃(x1:Nat×MH×PH),aA (I x1) (m1 x1<m1 x) (aA (AN l) (lC b) (aA (aL s) (aX s) (aA (bD (gI (bC x.1 1)) x1.1) (m2=cC x1) (bP h1 (cE x1)))))))))))) (K uX (cC x) (cE x))))
abbrev pI(a:PH->List Value->List (List Value)->Prop)(b:Nat->Nat->Option Value)(c:Nat)(d:MH)(e:(List Sl)->(Nat->MH->PH->Prop)->Nat->Sl->MH->PH->Prop)(g:MH->PH->Prop):Prop:=∃(x:List Sl)(x1:Nat->MH->PH->Prop),aA (D3 Proofs.Tryz.prog 174 a) (a b (l9 (U8 c 0)) (List.map (fun(x2:Sl)=>aM x2) x)) (aA (x1 0 d b) (∀(x2:Nat),fP (λx3 x4=>∀(x5:PH),e x x1 x2 x3 x4 x5)) (oS (λx2 x3=>dZ b x3 (x1 x.length x2 x3) (g x2 x3))))
abbrev p9(a:Prop)(b c:PH)(d e:Prop):Prop:=a->PH.le b c->d->e
abbrev uR(a:List Sl)(b:Nat)(c:Sl):Prop:=a[b]? =Option.some c
abbrev BE(a:MH)(b:PH)(c d:Nat)(e:List Value)(g:(List (List Value))->Prop):Prop:=aI a b c d e/\∃(x:List (List Value)),g x
attribute [push_cast] pI p9 uR BE
def Lp(s:Sl)(b:Nat)(m:MH)(h:PH)(K:CV->MH->PH->Prop):Prop:=
  gA (λb1 m1=>bY m h b1->bG m m1 b1 (aM s) 95->∃(S:PH->List Value->List (List Value)->Prop),pI S h b m1 (λx I k e m2 h1=>p9 (uR x k e) h h1 (I k m2 h1) (∃(y:Sl),BE m2 h1 b1 0 (aM y) (λx1=>aA (cD m2 (cV y) 75 1 x1) (dD (x1.length+1) 24) (eF x1/\fP (λs1 m3=>eX m2 m3 (cV y) s1 75 1 (eR x1 (aM e))->iE (λc E=>aA (wS m3 b1 (fN c E 0)) (0<c.size) (∀(m4:MH),bG m3 m4 b1 (gN (bV s1) 1 c) E->I (k+1) m4 h1))))))) (λm2 h1=>gX m2 h1 b1 0 (λy=>K (dG y) m2 h1)))
def Uw(b:Nat)(m:MH)(h:PH)(K:CV->MH->PH->Prop):Prop:=
  ∃(s:Sl)(b1:Nat)(u v:List Sl),aA (aK uO (gL 174 (lY b))=aK (dG s) (gL 174 (lY b1))) (cD m s 75 1 (qE u)) (aA (Dx h b1 v) (DJ u.length) (EC 1 (u++v) (λm1 x o=>m x=Option.some o->(∀(i:Nat),jJ (bL s.a x i))->m1 x=Option.some o) (λx=>xD m x\/∃(i:Nat),bL s.a x i) (λs1 m1=>K (dG s1) m1 h)))
def wV(h:PH)(b:Nat)(l:List Value):PH:=λb' i=>if b'=b then l[i]? else h b' i
theorem xZ{l:List Value}(hb:∀i,h b i=none):PH.le h (wV h b l):=⟨λb' i v e=>by
 have:b'≠b:=λe2=>by rw[e2,hb]at e;cases e
 simp only[wV,if_neg this];exact e⟩
theorem SH{l:List Value}:bF (wV h b l) b 0 l:=⟨λi v e=>by simp only[wV,if_true,Nat.zero_add];exact e⟩
theorem VP{f:FuncId}{fn:Func}(hf:Tryz.prog.funcs[f]? =some fn){S:Vc.Spec}(hvc:∀cvs m h K,S cvs m h K->∃C:Ctx,C.P=Tryz.prog/\(∀g S,assoc C.specs g=some S->Sound Tryz.prog g S)/\∃N:Prop,N=qI C fn (bU fn) (entry fn.ntmps cvs m h) (cH h K)/\N)(hb:fn.body=some (bU fn):=by rfl)(hname:(fn.name== "runtime.NumGoroutine")=false:=by decide):Sound Tryz.prog f S:=TR hf hb hname λcvs m h K hS=>let⟨C,hC,hs,N,e,hn⟩:=hvc cvs m h K hS;⟨C,hC,hs,e▸hn⟩
theorem RA:Sound Tryz.prog 152 Md:=by
 refine VP Tryz.func152 ?_;rintro cvs m h K ⟨s,rfl,hK⟩;refine⟨dL [] [] [] [] false,rfl,aF,Gv s m h (cH h K),by kernel_rfl,?_⟩;show Gv s m h (cH h K);dsimp only[Gv,push_cast];intro b m' hun hu hd
 have sub:∀b' o,m b'=some o->m' b'=some o:=λb' o hb'=>by
  rw[hu.other b' (λe=>by rw[e,hun.m_]at hb';cases hb')];exact hb'
 refine⟨m,wV h b [s.val],sub,xZ hun.h_,λb' i v e=>?_,hK b _ (xZ hun.h_) SH⟩;by_cases hb:b'=b
 .subst hb;simp only[wV,if_true]at e;exact .inr ⟨_,_,_,hu.at_,by simpa[Sl.val]using e,hun.m_⟩
 .simp only[wV,if_neg hb]at e;exact .inl e
theorem Rk:Sound Tryz.prog 174 (W8 Tryz.prog tA):=by
 refine jK Tryz.func174 ?_;rintro cvs m h K ⟨l,caps,xs,J,rfl,⟨b,us,rfl,hseq,rfl⟩,h0,hround,hend⟩;obtain⟨s,hb,hr,hl⟩:=hseq.ex;refine⟨Wi b l s,rfl,aF,Ly b l s m h K,by kernel_rfl,?_⟩;dsimp only[Ly,push_cast];have hlen:=hr.len;simp only[List.length_map]at hlen;refine⟨s,.imm hb,λx=>x.1<=us.length/\PH.le h x.2.2/\J x.1 x.2.1 x.2.2,λx=>us.length-x.1,⟨(0,m,h),⟨by simp,.refl _,h0⟩,MT⟩,?_⟩;rintro⟨i,mx,hx⟩ ⟨hi,le,hJ⟩;dsimp only at hi le hJ⊢
 refine aE (λhlt=>?_) (λhge=>hend _ mx hx le (by have e:i=us.length:=aC;simp only[List.length_map];rw[<-e];exact hJ));obtain⟨u,hu⟩:∃u,us[i]? =some u:=⟨_,List.getElem?_eq_getElem aC⟩
 obtain⟨b1,o1,e1,r1⟩:=hr.get (i:=i) (e:=eS u) (by simp[hu]);refine⟨b1,o1,e1,aC,hlt,u,.imm (r1.mono le),Ib _,l,_,_,rfl,hround i (eS u) mx hx (by simp[hu]) le hJ,?_⟩;rintro t m' h' ⟨rfl,le',hJ'⟩;exact⟨(i+1,m',h'),⟨by dsimp only;omega,le.trans le',hJ'⟩,(by dsimp only;omega),MT⟩
theorem rX:D3 Tryz.prog 174 tA:=⟨Rk⟩
theorem adQ{f:FuncId}{fn:Func}(hf:Tryz.prog.funcs[f]? =some fn){S:Vc.Spec}(hvc:∀cvs m h K,S cvs m h K->∃C:Ctx,C.P=Tryz.prog/\(∀g S,assoc C.specs g=some S->Sound Tryz.prog g S)/\∃N:Prop,N=SM C fn (bU fn) (entry fn.ntmps cvs m h) K/\N)(hb:fn.body=some (bU fn):=by rfl)(hname:(fn.name== "runtime.NumGoroutine")=false:=by decide):Sound Tryz.prog f S:=K2 hf hb hname λcvs m h K hS=>let⟨C,hC,hs,N,e,hn⟩:=hvc cvs m h K hS;⟨C,hC,hs,e▸hn⟩
theorem Ju:Sound Tryz.prog 205 NO:=by
 refine adQ Tryz.func205 ?_;rintro cvs m h K ⟨s,b,us,vs,rfl,hr,hs,hl,hK⟩;refine⟨Nn [] [] [] [200002,1095],rfl,aF,Lp s b m h K,by kernel_rfl,?_⟩;dsimp only[Lp,push_cast];intro b1 m1 hun hu;have hvl:vs.length<=502633886983:=by obtain⟨_,_,_,h3⟩:=hs.ex;exact h3
 have sub:∀x o,m x=some o->m1 x=some o/\x≠b1:=λx o hx=>by
  have:x≠b1:=λe=>by rw[e,hun.m_]at hx;cases hx
  exact⟨by rw[hu.other x this];exact hx,this⟩
 have hsb:∀i,s.a≠some ⟨b1,i,none⟩:=λi e=>by
  obtain⟨o,ho⟩:=cD.blk hr e;exact(sub b1 _ ho).2 rfl
 refine⟨tA,vs,λk mx hx=>hx=h/\∃s',mx b1=some (.cells #[.slice s'.a s'.len s'.cap] 95 (0,0))/\cD mx s' 75 1 ((us++vs.take k).map eS)/\(∀i,s'.a≠some ⟨b1,i,none⟩)/\(∀x o,m x=some o->(∀i,s.a≠some ⟨x,i,none⟩)->mx x=some o/\∀i,s'.a≠some ⟨x,i,none⟩)/\(∀x i,s'.a=some ⟨x,i,none⟩->m x=none\/∃i,s.a=some ⟨x,i,none⟩),
  rX,⟨b,vs,rfl,hs,rfl⟩,⟨rfl,s,hu.at_,?_,hsb,λx o hx hn=>⟨(sub x o hx).1,hn⟩,λx i e=>.inr ⟨i,e⟩⟩,?_,?_⟩
 .rw[List.take_zero,List.append_nil]
  exact cD.keep hr (λx i e=>by
   obtain⟨o,ho⟩:=cD.blk hr e;rw[(sub x _ ho).1,ho])
 .rintro k e mx hx hk-⟨rfl,s',hb1,hrow,hnb,hoth,hfr⟩
  have hkl:=(List.getElem?_eq_some_iff.1 hk).1;refine⟨s',.of_m hb1 rfl,_,hrow,by simp;omega,by simp;omega,λs2 m2 hg=>⟨_,_,⟨hg.other b1 _ hb1 hnb⟩,by simp,λm3 hu3=>⟨rfl,s2,hu3.at_,?_,?_,?_,?_⟩⟩⟩
  .have e1:(us++vs.take (k+1)).map eS=(us++vs.take k).map eS++[eS e]:=by
    rw[List.take_add_one,hk];simp
   rw[e1];refine cD.keep hg.row (λx i e2=>hu3.other x (λe3=>?_));subst e3;rcases hg.fresh x i e2 with h1|⟨j,h1⟩
   .rw[hb1]at h1;cases h1
   .exact hnb j h1
  .intro i e2;rcases hg.fresh b1 i e2 with h1|⟨j,h1⟩
   .rw[hb1]at h1;cases h1
   .exact hnb j h1
  .intro x o hx hn;obtain⟨h1,h2⟩:=hoth x o hx hn;refine⟨by rw[hu3.other x (sub x o hx).2];exact hg.other x o h1 h2,λi e2=>?_⟩;rcases hg.fresh x i e2 with h3|⟨j,h3⟩
   .rw[h1]at h3;cases h3
   .exact h2 j h3
  .intro x i e2;rcases hg.fresh x i e2 with h3|⟨j,h3⟩
   .cases e4:m x with
    |none=>exact .inl rfl
    |some o=>
     refine .inr (Classical.byContradiction λhn=>?_);have:=(hoth x o e4 (λi e=>hn ⟨i,e⟩)).1;rw[h3]at this;cases this
   .exact hfr x j h3
 .rintro mx hx-⟨rfl,s',hb1,hrow,hnb,hoth,hfr⟩
  rw[List.take_length]at hrow;exact⟨s',.of_m hb1 rfl,hK s' mx hrow (λx o hx hn=>(hoth x o hx hn).1) hfr⟩
theorem Q3:Sound Tryz.prog 206 P3:=by
 refine jK Tryz.func206 ?_;rintro cvs m h K ⟨b,vs,rfl,hs,hK⟩;refine⟨dL [(205,NO)] [] [] [] false,rfl,aD Ju aF,Uw b m h K,by kernel_rfl,?_⟩;exact⟨⟨none,0,0⟩,b,[],vs,rfl,⟨o9 [],.inl ⟨rfl,rfl⟩⟩,hs,by simp,λs' m' hr ho hf=>hK s' m' hr (λx o hx=>ho x o hx (λi e=>by cases e)) (λx i e=>(hf x i e).elim id λ⟨j,e⟩=>by cases e)⟩
structure WT(v:VV):Prop where
 kind:Dl v.kind
 int:Dl v.int
 text:v.text.size<=64
structure NQ(r:List VV):Prop where
 len:r.length<=12
 val:∀v∈r,WT v
def Bb(v:VV):List UInt8:=j8 v.kind++58::(j8 v.int++58::(j8 (v.text.size:Int)++58::v.text.data.toList))
def zE(r:List VV):List UInt8:=r.flatMap Bb
def cG(r:List VV):ByteArray:=⟨(zE r).toArray⟩
def pick(r:List VV)(cols:List Int):List VV:=cols.map λc=>r.getD c.toNat zeroV
structure fQ(n:Nat)(cols:List Int):Prop where
 at_:∀c∈cols,0<=c/\c<n
 len:cols.length<=100000
def Xh:Vc.Spec:=λcvs m h K=>∃xs v,cvs=[.lst 5 1 xs,aV v]/\gG m/\v.text.size<=64/\xs.length+300<=140737488355328/\K (.lst 5 1 (xs++bX (Bb v))) m h
def W6:Vc.Spec:=λcvs m h K=>∃s t r cols,cvs=[cS s,cS t]/\bB h s r/\Ints h t cols/\NQ r/\fQ r.length cols/\gG m/\K (RZ (cG (pick r cols))) m h
def Te:Vc.Spec:=λcvs m h K=>∃s r,cvs=[cS s]/\bB h s r/\NQ r/\gG m/\K (RZ (cG r)) m h
def jM(on:List (Int×Int)):List Int:=on.map Prod.fst
def fI(on:List (Int×Int)):List Int:=on.map Prod.snd
def Sc:Vc.Spec:=λcvs m h K=>∃s on,cvs=[cS s]/\nS h s on/\∀a b h',PH.le h h'->Ints h' a (jM on)->Ints h' b (fI on)->K (.tup [cS a,cS b]) m h'
def P5:Vc.Spec:=λcvs m h K=>∃s t r cols,cvs=[cS s,cS t]/\bB h s r/\Ints h t cols/\fQ r.length cols/\K (cB ((pick r cols).all jD)) m h
def Xc:Vc.Spec:=λcvs m h K=>∃n:Nat,cvs=[.val (.slice none 0 0),cI n]/\n<=1000/\K (.lst 58 3 []) m h
def P2:Vc.Spec:=λcvs m h K=>∃ss rs,cvs=[cS ss]/\Rows h ss rs/\rs.length<=10/\(∀r∈rs,r.length<=12)/\∀sl h',PH.le h h'->bB h' sl rs.flatten->K (cS sl) m h'
noncomputable def VY:Ctx:=sY [(240,To)] [] [] [] [] [(240,[0])] true
noncomputable def V5(s t:Sl)(m:MH)(h:PH):Ctx:=
 sY [(224,Xh)] [(3,{A:=Nat×List UInt8,st:=λ⟨i,l⟩=>cM 23 25 [(0,sv s),(5,.at (.lst 19)),(8,sv t),(9,iv t.len),(10,iv i)] [(19,.lst 5 1 (bX l))] m h})] [] [] [] [(224,[0])] false
noncomputable def VX(s:Sl)(m:MH)(h:PH):Ctx:=
 sY [(224,Xh)] [(3,{A:=Nat×List UInt8,st:=λ⟨i,l⟩=>cM 18 19 [(3,.at (.lst 14)),(6,sv s),(7,iv s.len),(8,iv i)] [(14,.lst 5 1 (bX l))] m h})] [] [] [] [(224,[0])] false
noncomputable def V7(s:Sl)(m:MH)(h:PH):Ctx:=
 dL [] [(2,{A:=Nat×List Int×List Int,st:=λ⟨i,l,k⟩=>cM 25 26 [(2,.at (.lst 16)),(3,.at (.lst 21)),(6,sv s),(7,iv s.len),(8,iv i)] [(16,.lst 3 1 (l.map eI)),(21,.lst 3 1 (k.map eI))] m h})] [] [] false
noncomputable def V6(s t:Sl)(m:MH)(h:PH):Ctx:=
 dL [(71,PW)] [(2,{A:=Nat,st:=λi=>cM 20 22 [(0,sv s),(7,sv t),(8,iv t.len),(9,iv i)] [] m h})] [] [] false
noncomputable def V4(ss:Sl)(m:MH)(h:PH):Ctx:=
 dL [(225,Xc)] [(3,{A:=Nat×Nat,st:=λ⟨i,n⟩=>cM 36 37 [(0,sv ss),(3,iv n),(9,sv ss),(10,iv ss.len),(11,iv i)] [] m h}),
  (11,{A:=Nat×List VV,st:=λ⟨i,l⟩=>cM 36 37 [(6,.at (.lst 24)),(25,sv ss),(26,iv ss.len),(27,iv i)] [(24,.lst 58 3 (l.map VV.enc))] m h})] [] [] false
noncomputable abbrev Cu(a:List (List Value))(b:Int):List (List Value):=eR (sU a (j8 b)) (l9 (BC 58))
attribute [push_cast] Cu
def Lk(xs:List (List Value))(v:VV)(m:MH)(h:PH)(K:CV->MH->PH->Prop):Prop:=
  E8 (λx i=>aA (w9 xs v.kind=w9 x i) (gG m) (aA (nC x 40) (dD ((sU x (j8 i)).length+1) 1) (eF (sU x (j8 i))/\E8 (λx1 i1=>aA (w9 (Cu x i) v.int=w9 x1 i1) (gG m) (aA (nC x1 40) (dD ((sU x1 (j8 i1)).length+1) 1) (eF (sU x1 (j8 i1))/\E8 (λx2 i2=>aA (Cm (Cu x1 i1) (dY (↑v.text.size:Int))=w9 x2 i2) (gG m) (aA (nC x2 40) (dD ((sU x2 (j8 i2)).length+1) 1) (aA (eF (sU x2 (j8 i2))) (Ad (Cu x2 i2) (fY v.text) 1) (nC (Cu x2 i2) (fY v.text).length/\K (CV.lst 5 1 (Cu x2 i2++fY v.text)) m h))))))))))
noncomputable abbrev vH(a:Nat×List UInt8):List (List Value):=bX a.2
attribute [push_cast] vH
def Lr(s t:Sl)(m:MH)(h:PH)(K:CV->MH->PH->Prop):Prop:=
  ∃(I:Nat×List UInt8->Prop)(m1:Nat×List UInt8->Nat),(∃(x:Nat×List UInt8),aA (I x) (aL s) (aA (eL 19) (aL t) (aA (aX t) (bI x.1) (aA (Option.some (Own.lst 5 1 [])=Option.some (Own.lst 5 1 (vH x))) (m=m) (bP h h)))))/\∀(x:Nat×List UInt8),I x->bE (↑x.1:Int) (aH t) (bK (λb o=>aA (bL t.a b o) (0<=(↑x.1:Int)) ((↑x.1:Int)<aH t/\∃(y:Int),aI m h b (o+aZ x.1 1) (bR y)/\bK (λb1 o1=>aA (bL s.a b1 o1) (0<=y) (y<aH s/\∃(y1:VV),aI m h b1 (o1+eM y 3) y1.enc/\∃(x1:List (List Value))(v:VV),aA (aK (CV.lst 5 1 (vH x)) (kA y1)=aK (CV.lst 5 1 x1) (kA v)) (gG m) (aA (v.text.size<=64) (nC x1 300) (∃(x2:Nat×List UInt8),aA (I x2) (m1 x2<m1 x) (aA (aL s) (eL 19) (aA (aL t) (aX t) (aA (bD (gI (bC
 x.1 1)) x2.1) (Option.some (Own.lst 5 1 (sU x1 (Bb v)))=Option.some (Own.lst 5 1 (vH x2))) (bZ m m h h))))))))))) (∃(b:List UInt8),vH x=bX b/\K (wD (ByteArray.mk (Array.mk b))) m h)
def Li(s:Sl)(m:MH)(h:PH)(K:CV->MH->PH->Prop):Prop:=
  ∃(I:Nat×List UInt8->Prop)(m1:Nat×List UInt8->Nat),(∃(x:Nat×List UInt8),aA (I x) (eL 14) (aA (aL s) (aX s) (aA (bI x.1) (Option.some (Own.lst 5 1 [])=Option.some (Own.lst 5 1 (vH x))) (aA (m=m) (h=h) True))))/\∀(x:Nat×List UInt8),I x->bE (↑x.1:Int) (aH s) (bK (λb o=>aA (bL s.a b o) (0<=(↑x.1:Int)) ((↑x.1:Int)<aH s/\∃(y:VV),aI m h b (o+aZ x.1 3) y.enc/\∃(x1:List (List Value))(v:VV),aA (aK (CV.lst 5 1 (vH x)) (kA y)=aK (CV.lst 5 1 x1) (kA v)) (gG m) (aA (v.text.size<=64) (nC x1 300) (∃(x2:Nat×List UInt8),aA (I x2) (m1 x2<m1 x) (aA (eL 14) (aL s) (aA (aX s) (bD (gI (bC x.1 1)) x2.1) (aA (Option.some (Own.lst 5 1 (sU x1 (Bb v)))=Option.some (Own.lst 5 1 (vH x2))) (m=m) (bP h h))))))))) (∃(b:List
 UInt8),vH x=bX b/\K (wD (ByteArray.mk (Array.mk b))) m h)
noncomputable abbrev Ay(a:Nat×List Int×List Int):List (List Value):=List.map eI a.2.1
noncomputable abbrev Az(a:Nat×List Int×List Int):List (List Value):=List.map eI a.2.2
attribute [push_cast] Ay Az
def Lt(s:Sl)(m:MH)(h:PH)(K:CV->MH->PH->Prop):Prop:=
  ∃(I:Nat×List Int×List Int->Prop)(m1:Nat×List Int×List Int->Nat),(∃(x:Nat×List Int×List Int),aA (I x) (eL 16) (aA (eL 21) (aL s) (aA (aX s) (bI x.1) (aA (Cn (Ay x)) (Cn (Az x)) (bZ m m h h)))))/\∀(x:Nat×List Int×List Int),I x->bE (↑x.1:Int) (aH s) (bK (λb o=>aA (bL s.a b o) (0<=(↑x.1:Int)) ((↑x.1:Int)<aH s/\∃(y:Int×Int),aA (aI m h b (o+aZ x.1 2) (Ax y)) (cQ 0) (aA ((0:Int)<2) (dD ((Ay x).length+1) 8) (aA (eF (Ay x)) (cQ 1) (aA ((1:Int)<2) (dD ((Az x).length+1) 8) (eF (Az x)/\∃(x1:Nat×List Int×List Int),aA (I x1) (m1 x1<m1 x) (aA (eL 16) (eL 21) (aA (aL s) (aX s) (aA (bD (gI (bC x.1 1)) x1.1) (Option.some (Own.lst 3 1 (eR (Ay x) (bR y.1)))=
 Option.some (Own.lst 3 1 (Ay x1))) (bT (Option.some (Own.lst 3 1 (eR (Az x) (bR y.2)))=Option.some (Own.lst 3 1 (Az x1))) m m h h))))))))))) (aY h 1 (Ay x) (λs1 h1=>aY h1 1 (Az x) (λs2 h2=>K (CV.tup (iG s1 s2)) m h2)))
def Ls(s t:Sl)(m:MH)(h:PH)(K:CV->MH->PH->Prop):Prop:=
  rB (λI x=>aA (I x) (aL s) (aA (aL t) (aX t) (bT (bI x) m m h h))) (λI m1 x=>I x->bE (↑x:Int) (aH t) (bK (λb o=>aA (bL t.a b o) (0<=(↑x:Int)) ((↑x:Int)<aH t/\∃(y:Int),aI m h b (o+aZ x 1) (bR y)/\bK (λb1 o1=>aA (bL s.a b1 o1) (0<=y) (y<aH s/\∃(y1:VV),aI m h b1 (o1+eM y 3) y1.enc/\vF y1 (λv=>branch (!(jD v)) (K aT m h) (∃(x1:Nat),aA (I x1) (m1 x1<m1 x) (aA (aL s) (aL t) (aA (aX t) (bD (gI (bC x 1)) x1) (aA (m=m) (h=h) True)))))))))) (K gF m h))
def Lj(n:Nat)(m:MH)(h:PH)(K:CV->MH->PH->Prop):Prop:=
  sT (qD n (qO ((0:Int)-0))) 0 (aA (cQ 0) (cQ 0) (aA (0<qD n 0) (IN (qD n 0*32)) (aA (IN (qD n 0)) ((0:Int)<=0) (cQ (uV (List.replicate (qD n 0).toNat tN))/\K (CV.lst 58 3 []) m h)))) (K (CV.lst 58 3 []) m h)
def Lq(ss:Sl)(m:MH)(h:PH)(K:CV->MH->PH->Prop):Prop:=
  HR (λI x=>aA (I x) (aL ss) (aA (bI x.2) (aL ss) (aA (aX ss) (bI x.1) (aA (m=m) (h=h) True)))) (λI m1 x=>I x->bE (↑x.1:Int) (aH ss) (dA ss (↑x.1:Int) (λb o y=>aI m h b (o+aZ x.1 1) (aM y)/\bE (bC x.2 (aH y)) 0 False (∃(x1:Nat×Nat),aA (I x1) (m1 x1<m1 x) (aA (aL ss) (bD (gI (bC x.2 (aH y))) x1.2) (aA (aL ss) (aX ss) (aA (bD (gI (bC x.1 1)) x1.1) (m=m) (bP h h))))))) (∃(n:Nat),aA (aK uO (dY (↑x.2:Int))=aK uO (dY (↑n:Int))) (n<=1000) (∃(I1:Nat×List VV->Prop)(m2:Nat×List VV->Nat),(∃(x1:Nat×List VV),aA (I1 x1) (eL 24) (aA (aL ss) (aX ss) (aA (bI x1.1) (Option.some (Own.lst 58 3 [])=Option.some (Own.lst 58 3 (List.map VV.enc x1.2))) (aA (m=m) (h=h) True))))/\∀(x1:Nat×List VV),I1 x1->
 bE (↑x1.1:Int) (aH ss) (dA ss (↑x1.1:Int) (λb o y=>aI m h b (o+aZ x1.1 1) (aM y)/\∃(y1:List (List Value)),aA (dU 3 y1) (bH h (cV y) 3 y1) (aA (Ad (List.map VV.enc x1.2) y1 32) (nC (List.map VV.enc x1.2) y1.length) (∃(x2:Nat×List VV),aA (I1 x2) (m2 x2<m2 x1) (aA (eL 24) (aL ss) (aA (aX ss) (bD (gI (bC x1.1 1)) x2.1) (aA (Option.some (Own.lst 58 3 (List.map VV.enc x1.2++y1))=Option.some (Own.lst 58 3 (List.map VV.enc x2.2))) (m=m) (bP h h)))))))) (aY h 3 (List.map VV.enc x1.2) (λs h1=>K (dG s) m h1)))))
theorem FA(a b:List UInt8):bX a++bX b=bX (a++b):=by simp[bX]
theorem US{v:VV}(h:v.text.size<=64):(Bb v).length<=130:=by
 have h1:=vX v.kind;have h2:=vX v.int;have h3:=vX (v.text.size:Int);have h4:v.text.data.toList.length=v.text.size:=Array.length_toList;simp only[Bb,List.length_append,List.length_cons];omega
theorem Jo:Sound Tryz.prog 224 Xh:=by
 refine jK Tryz.func224 ?_;rintro cvs m h K ⟨xs,v,rfl,ht,hv,hl,hK⟩;refine⟨VY,rfl,aD QG aF,Lk xs v m h K,by kernel_rfl,?_⟩;dsimp only[Lk,push_cast];have h1:=vX v.kind;have h2:=vX v.int;have h3:=vX (v.text.size:Int);have h4:v.text.data.toList.length=v.text.size:=Array.length_toList;have b1:∀l:List UInt8,(bX l).length=l.length:=λl=>by simp[bX]
 have b2:fY v.text=bX v.text.data.toList:=rfl;refine⟨_,_,rfl,ht,aC,?_,?_,_,_,rfl,ht,?_,?_,?_,_,_,rfl,ht,?_,?_,?_,?_,?_,?_⟩
 all_goals (try (simp only[List.length_append,b1,b2,List.length_cons,List.length_nil];omega))
 have e:xs++bX (Bb v)=xs++bX (j8 v.kind)++[[Value.int IntKind.u8 58]]++bX (j8 v.int)++[[Value.int IntKind.u8 58]]++bX (j8 (v.text.size:Int))++[[Value.int IntKind.u8 58]]++fY v.text:=by
  rw[b2];simp only[Bb,bX,List.map_append,List.map_cons,List.append_assoc,List.cons_append,List.nil_append];rfl
 rw[e]at hK;exact hK
theorem OM{r:List VV}(h:∀v∈r,v.text.size<=64):(zE r).length<=130*r.length:=by
 induction r with
 |nil=>simp[zE]
 |cons v l ih=>
  have h1:=US (h v (List.mem_cons_self ..));have h2:=ih (λu hu=>h u (List.mem_cons_of_mem _ hu));simp only[zE,List.flatMap_cons,List.length_append,List.length_cons]at h2⊢
  omega
theorem KV{r:List VV}{v:VV}(hv:r[i]? =some v):zE (r.take (i+1))=zE (r.take i)++Bb v:=by
 rw[List.take_add_one,hv];simp[zE]
theorem Ox{r:List VV}{cols:List Int}(hc:fQ r.length cols){v:VV}(hv:v∈pick r cols):v∈r:=by
 obtain⟨c,hc1,rfl⟩:=List.mem_map.1 hv;have:=hc.at_ c hc1;rw[List.getD_eq_getElem?_getD,List.getElem?_eq_getElem aC];exact List.getElem_mem _
theorem MR{r:List VV}{cols:List Int}{i:Nat}{c:Int}(hc:fQ r.length cols)(hi:cols[i]? =some c):∃v,r[c.toNat]? =some v/\(pick r cols)[i]? =some v/\0<=c/\c<r.length:=by
 have:=hc.at_ c (List.mem_of_getElem? hi);refine⟨r[c.toNat]'(by omega),List.getElem?_eq_getElem _,?_,this⟩;unfold pick;rw[List.getElem?_map,hi];simp only[Option.map_some,List.getD_eq_getElem?_getD];rw[List.getElem?_eq_getElem aC];rfl
theorem AX:Sound Tryz.prog 203 W6:=by
 refine jK Tryz.func203 ?_;rintro cvs m h K ⟨s,t,r,cols,rfl,hs,ht,hr,hc,hT,hK⟩;refine⟨V5 s t m h,rfl,aD Jo aF,Lr s t m h K,by kernel_rfl,?_⟩;dsimp only[Lr,push_cast];have hsl:=aR.slen hs;have htl:=ht.slen;have hcl:=hc.len;have hpl:(pick r cols).length=cols.length:=by simp[pick]
 have htx:∀v∈pick r cols,v.text.size<=64:=λv hv=>(hr.val v (Ox hc hv)).text;refine⟨λx=>x.1<=cols.length/\x.2=zE ((pick r cols).take x.1),λx=>cols.length-x.1,⟨(0,[]),⟨by simp,by simp[zE]⟩,MT⟩,?_⟩;rintro⟨i,l⟩ ⟨hi,hl⟩;dsimp only at hi hl;subst hl;refine aE (λhlt=>?_) (λhge=>?_)
 .dsimp only at hlt;obtain⟨c,hci⟩:=fS htl hlt;obtain⟨b,o,e,rd⟩:=ht.at hci;obtain⟨v,hv1,hv2,h0,h1⟩:=MR hc hci;obtain⟨b2,o2,w,e2,rd2,rfl⟩:=aR.at hs hv1;have hk:=OM (r:=(pick r cols).take i) (λu hu=>htx u (List.mem_of_mem_take hu));refine⟨b,o,e,by dsimp only;omega,hlt,c,.imm (by simpa using rd),b2,o2,e2,h0,aC,v,.imm rd2,_,v,rfl,hT,htx v (List.mem_of_getElem? hv2),?_,(i+1,zE ((pick r cols).take (i+1))),⟨by dsimp only;omega,rfl⟩,(by dsimp only;omega),?_⟩
  .have:(bX (zE ((pick r cols).take i))).length=(zE ((pick r cols).take i)).length:=by simp[bX]
   rw[List.length_take]at hk;dsimp only;omega
  .dsimp only;rw[KV hv2,FA];exact MT
 .dsimp only at hge⊢
  rw[List.take_of_length_le aC];exact⟨_,rfl,hK⟩
theorem QS:Sound Tryz.prog 226 Te:=by
 refine jK Tryz.func226 ?_;rintro cvs m h K ⟨s,r,rfl,hs,hr,hT,hK⟩;refine⟨VX s m h,rfl,aD Jo aF,Li s m h K,by kernel_rfl,?_⟩;dsimp only[Li,push_cast];have hsl:=aR.slen hs;have hrl:=hr.len;refine⟨λx=>x.1<=r.length/\x.2=zE (r.take x.1),λx=>r.length-x.1,⟨(0,[]),⟨by simp,by simp[zE]⟩,MT⟩,?_⟩;rintro⟨i,l⟩ ⟨hi,hl⟩;dsimp only at hi hl;subst hl;refine aE (λhlt=>?_) (λhge=>?_)
 .dsimp only at hlt;obtain⟨v,hv⟩:=fS hsl hlt;obtain⟨b2,o2,w,e2,rd2,rfl⟩:=aR.at hs hv;have hk:=OM (r:=r.take i) (λu hu=>(hr.val u (List.mem_of_mem_take hu)).text);refine⟨b2,o2,e2,by dsimp only;omega,hlt,v,.imm rd2,_,v,rfl,hT,(hr.val v (List.mem_of_getElem? hv)).text,?_,(i+1,zE (r.take (i+1))),⟨by dsimp only;omega,rfl⟩,(by dsimp only;omega),?_⟩
  .have:(bX (zE (r.take i))).length=(zE (r.take i)).length:=by simp[bX]
   rw[List.length_take]at hk;dsimp only;omega
  .dsimp only;rw[KV hv,FA];exact MT
 .dsimp only at hge⊢
  rw[List.take_of_length_le aC];exact⟨_,rfl,hK⟩
theorem Jv:Sound Tryz.prog 201 Sc:=by
 refine jK Tryz.func201 ?_;rintro cvs m h K ⟨s,on,rfl,hs,hK⟩;refine⟨V7 s m h,rfl,aF,Lt s m h K,by kernel_rfl,?_⟩;dsimp only[Lt,push_cast];have hsl:=hs.slen;have hl:=hs.len;refine⟨λx=>x.1<=on.length/\x.2.1=(on.take x.1).map Prod.fst/\x.2.2=(on.take x.1).map Prod.snd,λx=>on.length-x.1,⟨(0,[],[]),⟨by simp,by simp,by simp⟩,MT⟩,?_⟩;rintro⟨i,l,k⟩ ⟨hi,e1,e2⟩;dsimp only at hi e1 e2;subst e1 e2;refine aE (λhlt=>?_) (λhge=>?_)
 .dsimp only at hlt;obtain⟨p,hp⟩:=fS hsl hlt;obtain⟨b,o,e,rd⟩:=nS.at hs hp;refine⟨b,o,e,by dsimp only;omega,hlt,p,.imm rd,aC,aC,?_,?_,aC,aC,?_,?_,(i+1,(on.take (i+1)).map Prod.fst,(on.take (i+1)).map Prod.snd),⟨by dsimp only;omega,rfl,rfl⟩,(by dsimp only;omega),?_⟩
  all_goals (try (simp only[List.length_map,List.length_take];omega))
  dsimp only;rw[List.take_add_one,hp,Option.toList_some,List.map_append,List.map_append,List.map_append,List.map_append];exact MT
 .dsimp only at hge⊢
  rw[List.take_of_length_le aC];intro a h1 le1 r1 b h2 le2 r2;exact hK a b h2 (le1.trans le2) ⟨r1.mono le2,by simp[jM];omega⟩ ⟨r2,by simp[fI];omega⟩
theorem Q5:Sound Tryz.prog 202 P5:=by
 refine jK Tryz.func202 ?_;rintro cvs m h K ⟨s,t,r,cols,rfl,hs,ht,hc,hK⟩;refine⟨V6 s t m h,rfl,aD CY aF,Ls s t m h K,by kernel_rfl,?_⟩;dsimp only[Ls,push_cast];have hsl:=aR.slen hs;have htl:=ht.slen;have hcl:=hc.len;have hpl:(pick r cols).length=cols.length:=by simp[pick]
 refine⟨λi=>i<=cols.length/\∀j:Nat,j<i->∀v,(pick r cols)[j]? =some v->jD v=true,λi=>cols.length-i,⟨0,⟨aC,λj hj=>by omega⟩,MT⟩,λi⟨hi,hall⟩=>aE (λhlt=>?_) (λhge=>?_)⟩
 .obtain⟨c,hci⟩:=fS htl hlt;obtain⟨b,o,e,rd⟩:=ht.at hci;obtain⟨v,hv1,hv2,h0,h1⟩:=MR hc hci;obtain⟨b2,o2,w,e2,rd2,rfl⟩:=aR.at hs hv1;refine⟨b,o,e,aC,hlt,c,.imm (by simpa using rd),b2,o2,e2,h0,aC,v,.imm rd2,v,rfl,aB (λhne=>?_) (λhe=>⟨i+1,⟨aC,λj hj u hu=>?_⟩,(show cols.length-(i+1)<cols.length-i by omega),MT⟩)⟩
  .have:(pick r cols).all jD=false:=by
    cases e3:(pick r cols).all jD with
    |false=>rfl
    |true=>rw[List.all_eq_true]at e3;rw[e3 v (List.mem_of_getElem? hv2)]at hne;cases hne
   rw[this]at hK;exact hK
  .by_cases e4:j=i
   .subst e4;rw[hv2]at hu;cases hu;simpa using he
   .exact hall j aC u hu
 .have:(pick r cols).all jD=true:=by
   rw[List.all_eq_true];intro v hv;obtain⟨j,hj⟩:=List.getElem?_of_mem hv;exact hall j (by have:=(List.getElem?_eq_some_iff.1 hj).1;omega) v hj
  rw[this]at hK;exact hK
theorem QT:Sound Tryz.prog 225 Xc:=by
 refine jK Tryz.func225 ?_;rintro cvs m h K ⟨n,rfl,hn,hK⟩;refine⟨dL [] [] [] [] true,rfl,aF,Lj n m h K,by kernel_rfl,?_⟩;dsimp only[Lj,push_cast];have h0:IntKind.i64.wrap ((n:Int)-0)=n:=by rw[gD aC aC];omega
 have h1:IntKind.i64.wrap ((n:Int)-IntKind.i64.wrap (0-0))=n:=by rw[show IntKind.i64.wrap (0-0)=0 from by rw[gD aC aC];rfl,h0]
 exact aE (λhp=>⟨aC,aC,aC,aC,aC,aC,aC,hK⟩) (λ_=>hK)
theorem Ed{α:Type}{ks:List (List α)}{k:List α}(hk:ks[i]? =some k):((ks.take (i+1)).map List.length).sum=((ks.take i).map List.length).sum+k.length:=by
 rw[List.take_add_one,hk];simp
theorem DB{α:Type}{ks:List (List α)}(h:∀k∈ks,k.length<=12):∀i,((ks.take i).map List.length).sum<=12*i
 |0=>by simp
 |i+1=>by
  have ih:=DB h i;cases e:ks[i]? with
  |none=>rw[List.take_add_one,e];simp at ih⊢;omega
  |some k=>rw[Ed e];have:=h k (List.mem_of_getElem? e);omega
theorem Q4:Sound Tryz.prog 204 P2:=by
 refine jK Tryz.func204 ?_;rintro cvs m h K ⟨ss,ks,rfl,hs,hl,h12,hK⟩;refine⟨V4 ss m h,rfl,aD QT aF,Lq ss m h K,by kernel_rfl,?_⟩;dsimp only[Lq,push_cast];have hsl:=aR.slen hs;refine⟨λ⟨i,n⟩=>i<=ks.length/\n=((ks.take i).map List.length).sum,λ⟨i,_⟩=>ks.length-i,⟨(0,0),⟨aC,by simp⟩,MT⟩,?_⟩;rintro⟨i,n⟩ ⟨hi,rfl⟩;dsimp only;have hb:=DB h12 i;refine aE (λhlt=>?_) (λhge=>?_)
 .obtain⟨k,hk⟩:=fS hsl hlt;obtain⟨b,o,sl,ea,r,hki⟩:=aR.at hs hk;have hkl:=aR.slen hki;have hk12:=h12 k (List.mem_of_getElem? hk)
  have hw:IntKind.i64.wrap (((((ks.take i).map List.length).sum:Nat):Int)+(sl.len:Int))=((((ks.take (i+1)).map List.length).sum:Nat):Int):=by
   rw[Ed hk,gD aC aC];omega
  refine⟨b,o,ea,aC,hlt,sl,.imm r,?_⟩;rw[hw];exact aE (λhneg=>by omega) (λ_=>⟨(i+1,((ks.take (i+1)).map List.length).sum),⟨aC,rfl⟩,by show ks.length-(i+1)<ks.length-i;omega,MT⟩)
 .refine⟨((ks.take i).map List.length).sum,rfl,aC,?_⟩;refine⟨λ⟨i,l⟩=>i<=ks.length/\l=(ks.take i).flatten,λ⟨i,_⟩=>ks.length-i,⟨(0,[]),⟨aC,by simp⟩,MT⟩,?_⟩;clear hb hge hi;rintro⟨i,l⟩ ⟨hi,rfl⟩;dsimp only;have hfl:(ks.take i).flatten.length<=12*i:=by have:=DB h12 i;simpa[List.length_flatten]using this
  refine aE (λhlt=>?_) (λhge sl h' hle hrow=>hK sl h' hle ⟨⟨ks.flatten,?_,rfl,λi x hx=>⟨x,hx,rfl⟩⟩,?_⟩)
  .obtain⟨k,hk⟩:=fS hsl hlt;obtain⟨b,o,sl,ea,r,hki⟩:=aR.at hs hk;have hk12:=h12 k (List.mem_of_getElem? hk);obtain⟨us,hu1,hu2,hu3⟩:=hki.ex
   have hus:us=k:=by
    apply List.ext_getElem?;intro j;by_cases hj:j<k.length
    .obtain⟨v,h1,h2⟩:=hu3 j _ (List.getElem?_eq_getElem hj);rw[h1,List.getElem?_eq_getElem hj,h2]
    .rw[List.getElem?_eq_none aC,List.getElem?_eq_none aC]
   subst hus;refine⟨b,o,ea,aC,hlt,sl,.imm r,us.map VV.enc,Bo us,hu1,?_,?_,(i+1,(ks.take (i+1)).flatten),⟨aC,rfl⟩,by show ks.length-(i+1)<ks.length-i;omega,?_⟩
   .rw[List.length_map,List.length_map];omega
   .rw[List.length_map,List.length_map];omega
   .rw[List.take_add_one,hk,Option.toList_some,List.flatten_append,List.map_append,List.flatten_cons,List.flatten_nil,List.append_nil];exact MT
  .rw[List.take_of_length_le aC]at hrow;exact hrow
  .rw[List.take_of_length_le aC]at hfl;omega
theorem Nl:∀(u:Nat)(b:UInt8),b∈Lib.decDigits u->48<=b.toNat/\b.toNat<=57:=by
 intro u
 induction u using Nat.strongRecOn with
 |_ u ih=>
  intro b hb;rw[Lib.decDigits]at hb
  have one:∀k,k<10->48<=(UInt8.ofNat (48+k)).toNat/\(UInt8.ofNat (48+k)).toNat<=57:=λk hk=>by
   rw[UInt8.toNat_ofNat'];omega
  split at hb
  .rename_i h;rw[List.mem_singleton]at hb;subst hb;exact one u h
  .rcases List.mem_append.1 hb with h1|h1
   .exact ih (u/10) aC b h1
   .rw[List.mem_singleton]at h1;subst h1;exact one (u%10) aC
theorem S3:∀(u v:Nat),Lib.decDigits u=Lib.decDigits v->u=v:=by
 intro u
 induction u using Nat.strongRecOn with
 |_ u ih=>
  intro v h;have hl:=congrArg List.length h;rw[Lib.decDigits_length,Lib.decDigits_length]at hl
  have one:∀a b,a<10->b<10->UInt8.ofNat (48+a)=UInt8.ofNat (48+b)->a=b:=λa b ha hb e=>by
   have:=congrArg UInt8.toNat e;rw[UInt8.toNat_ofNat',UInt8.toNat_ofNat']at this;omega
  by_cases hu:u<10
  .have hv:v<10:=by
    apply Classical.byContradiction;intro hv;rw[Lib.nDigits_small hu,Lib.nDigits_big hv]at hl;have:=Lib.nDigits_pos (v/10);omega
   rw[Lib.decDigits.eq_def u,Lib.decDigits.eq_def v,dif_pos hu,dif_pos hv]at h;simp only[List.cons.injEq,and_true]at h;exact one u v hu hv h
  .have hv:¬v<10:=λhv=>by
    rw[Lib.nDigits_small hv,Lib.nDigits_big hu]at hl;have:=Lib.nDigits_pos (u/10);omega
   rw[Lib.decDigits.eq_def u,Lib.decDigits.eq_def v,dif_neg hu,dif_neg hv]at h;have h2:=List.append_inj' h rfl;have h3:=ih (u/10) aC (v/10) h2.1;simp only[List.cons.injEq,and_true]at h2;have h4:=one (u%10) (v%10) aC aC h2.2;omega
theorem Ks{n:Int}(h0:0<=n)(h1:n<18446744073709551616):IntKind.u64.wrap n=n:=by
 rw[IntKind.wrap_u64];omega
theorem Tp{n:Int}(h0:n<0)(h1: -9223372036854775808<=n):IntKind.u64.wrap (0-IntKind.u64.wrap n)= -n:=by
 rw[IntKind.wrap_u64,IntKind.wrap_u64];omega
theorem zF{n:Int}(h:Dl n)(h0:0<=n):j8 n=Lib.decDigits n.toNat:=by
 unfold j8;rw[if_neg aC,Ks h0 (by have:=h.2;omega)]
theorem zG{n:Int}(h:Dl n)(h0:n<0):j8 n=45::Lib.decDigits (-n).toNat:=by
 unfold j8;rw[if_pos h0,Tp h0 h.1]
theorem KX{n:Int}(h:Dl n){b:UInt8}(hb:b∈j8 n):b≠58:=by
 intro e;subst e;by_cases h0:0<=n
 .rw[zF h h0]at hb;have:=Nl _ _ hb;simp at this
 .rw[zG h aC]at hb;rcases List.mem_cons.1 hb with h1|h1
  .cases h1
  .have:=Nl _ _ h1;simp at this
theorem TN{m n:Int}(hm:Dl m)(hn:Dl n)(h:j8 m=j8 n):m=n:=by
 have no45:∀u r,Lib.decDigits u=45::r->False:=λu r e=>by
  have:=Nl u 45 (by rw[e];simp);simp at this
 by_cases h0:0<=m<;>by_cases h1:0<=n
 .rw[zF hm h0,zF hn h1]at h;have:=S3 _ _ h;omega
 .rw[zF hm h0,zG hn aC]at h;exact(no45 _ _ h).elim
 .rw[zG hm aC,zF hn h1]at h;exact(no45 _ _ h.symm).elim
 .rw[zG hm aC,zG hn aC]at h;have:=S3 _ _ (List.cons.inj h).2;omega
theorem Od{α:Type}{x:α}:∀{a b r r':List α},x∉a->x∉b->a++x::r=b++x::r'->a=b/\r=r'
 |[],[],r,r',_,_,h=>⟨rfl,(List.cons.inj h).2⟩
 |[],c::b,r,r',_,hb,h=>by
  have:=(List.cons.inj h).1;exact(hb (by rw[this];simp)).elim
 |c::a,[],r,r',ha,_,h=>by
  have:=(List.cons.inj h).1;exact(ha (by rw[<-this];simp)).elim
 |c::a,d::b,r,r',ha,hb,h=>by
  have h1:=List.cons.inj h;obtain⟨e1,e2⟩:=Od (λm=>ha (by simp[m])) (λm=>hb (by simp[m])) h1.2;exact⟨by rw[h1.1,e1],e2⟩
theorem Bt{m n:Int}{r r':List UInt8}(hm:Dl m)(hn:Dl n)(h:j8 m++58::r=j8 n++58::r'):m=n/\r=r':=by
 obtain⟨h1,h2⟩:=Od (λhb=>KX hm hb rfl) (λhb=>KX hn hb rfl) h;exact⟨TN hm hn h1,h2⟩
theorem RW{u v:VV}{r r':List UInt8}(hu:WT u)(hv:WT v)(h:Bb u++r=Bb v++r'):u=v/\r=r':=by
 simp only[Bb,List.append_assoc,List.cons_append]at h;obtain⟨e1,h⟩:=Bt hu.kind hv.kind h;obtain⟨e2,h⟩:=Bt hu.int hv.int h;have sz:∀w:VV,WT w->Dl (w.text.size:Int):=λw hw=>⟨aC,by have:=hw.text;omega⟩
 obtain⟨e3,h⟩:=Bt (sz u hu) (sz v hv) h
 have e4:u.text.data.toList.length=v.text.data.toList.length:=by
  have:u.text.size=v.text.size:=by omega
  rw[Array.length_toList,Array.length_toList];exact this
 obtain⟨e5,e6⟩:=List.append_inj h e4;refine⟨?_,e6⟩;obtain⟨k,i,t⟩:=u;obtain⟨k',i',t'⟩:=v;simp only[VV.mk.injEq]at e1 e2⊢
 refine⟨e1,e2,?_⟩;cases t;cases t';simp only[ByteArray.mk.injEq];exact Array.toList_inj.1 e5
theorem ON:∀{a b:List VV},a.length=b.length->(∀v∈a,WT v)->(∀v∈b,WT v)->zE a=zE b->a=b
 |[],[],_,_,_,_=>rfl
 |x::a,y::b,hl,ha,hb,h=>by
  simp only[zE,List.flatMap_cons]at h;obtain⟨e1,e2⟩:=RW (ha x (List.mem_cons_self ..)) (hb y (List.mem_cons_self ..)) h;rw[e1,ON (by simpa using hl) (λv hv=>ha v (List.mem_cons_of_mem _ hv)) (λv hv=>hb v (List.mem_cons_of_mem _ hv)) e2]
 |[],_::_,hl,_,_,_=>by simp at hl
 |_::_,[],hl,_,_,_=>by simp at hl
theorem Jb{a b:List VV}(hl:a.length=b.length)(ha:∀v∈a,WT v)(hb:∀v∈b,WT v):cG a=cG b↔a=b:=by
 constructor
 .intro h;simp only[cG,ByteArray.mk.injEq]at h;exact ON hl ha hb (by simpa using congrArg Array.toList h)
 .intro h;rw[h]
structure UX(κ:List VV->ByteArray):Prop where
 inj:∀{a b:List VV},a.length=b.length->(∀v∈a,WT v)->(∀v∈b,WT v)->(κ a=κ b↔a=b)
theorem Jc:UX cG:=⟨Jb⟩
def GD(r:List VV)(o:OV):VV:=if o.kind=3 then o.value else if o.kind=1/\0<=o.index/\o.index<r.length then r.getD o.index.toNat zeroV else zeroV
def Vb(cmp c:Int):Bool:=if cmp=1 then c==0 else if cmp=2 then c !=0 else if cmp=3 then decide (c<0)else if cmp=4 then decide (c<=0)else if cmp=5 then decide (c>0)else if cmp=6 then decide (c>=0)else false
def BN(cmp:Int)(a b:VV):Bool:=jD a&&jD b&&a.kind==b.kind&&Vb cmp (j4 a b)
mutual
def iC(r:List VV):Pred->Bool
 |.mk op cmp a b args=>if op=1 then true else if op=3 then BN cmp (GD r a) (GD r b)else if op=4 then BP r args else if op=5 then BO r args else if op=6 then OS r args else false
def BP(r:List VV):List Pred->Bool
 |[]=>true
 |p::ps=>iC r p&&BP r ps
def BO(r:List VV):List Pred->Bool
 |[]=>false
 |p::ps=>iC r p||BO r ps
def OS(r:List VV):List Pred->Bool
 |[]=>false
 |p::_=> !iC r p
end
theorem Hc(r:List VV):∀ps,BP r ps=ps.all (iC r)
 |[]=>by simp[BP]
 |p::ps=>by simp[BP,Hc r ps]
theorem Hb(r:List VV):∀ps,BO r ps=ps.any (iC r)
 |[]=>by simp[BO]
 |p::ps=>by simp[BO,Hb r ps]
def DenS:Vc.Spec:=λcvs m h K=>∃o s r,cvs=[aO o,cS s,uO]/\bB h s r/\K (aV (GD r o)) m h
def HA(p:Int->Bool):Vc.Spec:=λcvs m h K=>∃c,cvs=[cI c]/\K (cB (p c)) m h
def Zc:Vc.Spec:=λcvs m h K=>∃op,cvs=[cI op]/\
 branch (op==1) (K (fv 232) m h) (branch (op==2) (K (fv 233) m h) (branch (op==3) (K (fv 234) m h) (branch (op==4) (K (fv 235) m h) (branch (op==5) (K (fv 236) m h) (branch (op==6) (K (fv 237) m h) (K (.val .nilFunc) m h))))))
def Xa(N:Nat):Vc.Spec:=λcvs m h K=>∃v s p r,cvs=[aP v,cS s,uO]/\fZ h p v/\bB h s r/\SizeOf.sizeOf p<N/\K (cB (iC r p)) m h
def Xb:Vc.Spec:=λcvs m h K=>∃v s p r,cvs=[aP v,cS s,uO]/\fZ h p v/\bB h s r/\K (cB (iC r p)) m h
noncomputable def V9(N:Nat)(v:PV)(s:Sl)(m:MH)(h:PH):Ctx:=
 dL [(220,DenS),(71,PW),(221,Zc),(151,Tg),(199,Xa N),(232,HA (λc=>c==0)),(233,HA (λc=>c !=0)),(234,HA (λc=>decide (c<0))),(235,HA (λc=>decide (c<=0))),(236,HA (λc=>decide (c>0))),(237,HA (λc=>decide (c>=0)))] [(12,{A:=Nat,st:=λi=>cM 102 105 [(1,sv s),(2,vv nV),(60,sv v.args),(61,iv v.args.len),(62,iv i)] [] m h}),
  (20,{A:=Nat,st:=λi=>cM 102 105 [(1,sv s),(2,vv nV),(75,sv v.args),(76,iv v.args.len),(77,iv i)] [] m h})] [(6,{A:=VV×VV,st:=λ⟨a,b⟩=>cM 102 105 [(3,.at (.ptr 3 0)),(7,.at (.ptr 7 0)),(8,.at (.ptr 8 0))] [(3,.cells 63 (v.enc.map .val)),(7,.cells 58 (a.enc.map .val)),(8,.cells 58 (b.enc.map .val))] m h})] [] false
def Ll(o:OV)(s:Sl)(m:MH)(h:PH)(K:CV->MH->PH->Prop):Prop:=
  branch (o.kind==3) (K (kA o.value) m h) (bQ o.kind 2 (bE o.index 0 (K (fB tN) m h) (iH o.index 0 K (fB tN) m h (bK (λb o1=>aA (bL Option.none b o1) (0<=o.index) (o.index<0/\∃(y:VV),aI m h b (o1+eM o.index 3) y.enc/\K (kA y) m h))))) (bQ o.kind 1 (bE o.index 0 (K (fB tN) m h) (iH o.index (aH s) K (fB tN) m h (bK (λb o1=>aA (bL s.a b o1) (0<=o.index) (o.index<aH s/\∃(y:VV),aI m h b (o1+eM o.index 3) y.enc/\K (kA y) m h))))) (K (fB tN) m h)))
def Gd(op:Int)(m:MH)(h:PH)(K:CV->MH->PH->Prop):Prop:=
  Co m h (aJ Value.nilFunc Value.nilFunc (aJ Value.nilFunc Value.nilFunc (aJ Value.nilFunc Value.nilFunc HV))) 272 7 (λc=>aJ Value.nilFunc (nA 232) (aJ (nA 233) (nA 234) (aJ (nA 235) (nA 236) (gN (nA 237) 7 c)))) (λb m1=>bE op 0 (K E9 m1 h) (iH op 7 K E9 m1 h (aA (cQ op) (op<7) (∃(y:Option Nat),aI m1 h b (0+eM op 1) (l9 (WG y))/\K (CV.val (WG y)) m1 h))))
def Ut(c:Int)(m:MH)(h:PH)(K:CV->MH->PH->Prop):Prop:=
  K (yX (c==0)) m h
def Us(c:Int)(m:MH)(h:PH)(K:CV->MH->PH->Prop):Prop:=
  K (yX (c !=0)) m h
def Ur(c:Int)(m:MH)(h:PH)(K:CV->MH->PH->Prop):Prop:=
  K (yX (decide (c<0))) m h
def Uq(c:Int)(m:MH)(h:PH)(K:CV->MH->PH->Prop):Prop:=
  K (yX (decide (c<=0))) m h
def Up(c:Int)(m:MH)(h:PH)(K:CV->MH->PH->Prop):Prop:=
  K (yX (decide (c>0))) m h
def Uo(c:Int)(m:MH)(h:PH)(K:CV->MH->PH->Prop):Prop:=
  K (yX (decide (c>=0))) m h
abbrev rG(a:List VV)(b:OV)(c:VV):Prop:=gO 58 (dP (At.val (cJ (GD a b).kind)) (At.val (cJ (GD a b).int)) (Be (At.val (Value.string (GD a b).text)))) (G2 c.enc)
abbrev oA(a:Prop)(b:PV)(c:List VV)(d:OV)(e:VV×VV)(g:Prop)(i:MH)(j:PH):Prop:=aA a dT (aA (eP 7) (eP 8) (aA (yM b) (rG c d e.1) (aA g (i=i) (bP j j))))
abbrev rM(a:PV)(b:Sl)(c:PH)(d:OV->(List VV)->(VV×VV)->Prop):Prop:=∃(x:OV),pA (λx1 x2=>aA (fB a.right.enc::aK (dG b) uO=fB x.enc::aK (dG x1) uO) (bB c x1 x2) (∃(x3:VV×VV),d x x2 x3))
abbrev Am(a:VV×VV)(b:Int->Prop):Prop:=∃(x x1:VV),oT (aK (kA a.1) (kA a.2)=aK (kA x) (kA x1)) (λx2=>fA (j4 x x1) x2/\b x2)
attribute [push_cast] rG oA rM Am
def Lu(N:Nat)(v:PV)(s:Sl)(m:MH)(h:PH)(K:CV->MH->PH->Prop):Prop:=
  branch (v.op==1) (K gF m h) (bQ v.op 3 (∃(I:VV×VV->Prop),aA (∃(o:OV),pA (λs1 r=>aA (fB v.left.enc::aK (dG s) uO=fB o.enc::aK (dG s1) uO) (bB h s1 r) (aA (∃(o1:OV),pA (λs2 r1=>aA (fB v.right.enc::aK (dG s) uO=fB o1.enc::aK (dG s2) uO) (bB h s2 r1) ((∃(x:VV×VV),oA (I x) v r o x (rG r1 o1 x.2) m h)/\∃(x:VV×VV),oA (I x) v r o x (rG r1 o1 x.2) m h))) (rM v s h (λo1 r1 x=>oA (I x) v r o x (rG r1 o1 x.2) m h)/\rM v s h (λo1 r1 x=>oA (I x) v r o x (rG r1 o1 x.2) m h)) (rM v s h (λo1 r1 x=>oA (I x) v r o x (rG r1 o1 x.2) m h)/\rM v s h (λo1 r1 x=>oA (I x) v r o x (rG r1 o1 x.2) m h))))) ((∃(o:OV),pA (λs1 r=>aA (fB v.left.enc::aK (dG s) uO=fB o.enc::aK (dG s1) uO)
 (bB h s1 r) (rM v s h (λo1 r1 x=>oA (I x) v r o x (rG r1 o1 x.2) m h)/\rM v s h (λo1 r1 x=>oA (I x) v r o x (rG r1 o1 x.2) m h))))/\∃(o:OV),pA (λs1 r=>aA (fB v.left.enc::aK (dG s) uO=fB o.enc::aK (dG s1) uO) (bB h s1 r) (rM v s h (λo1 r1 x=>oA (I x) v r o x (rG r1 o1 x.2) m h)))) ((∃(o:OV),pA (λs1 r=>aA (fB v.left.enc::aK (dG s) uO=fB o.enc::aK (dG s1) uO) (bB h s1 r) (rM v s h (λo1 r1 x=>oA (I x) v r o x (rG r1 o1 x.2) m h)/\rM v s h (λo1 r1 x=>oA (I x) v r o x (rG r1 o1 x.2) m h))))/\∃(o:OV),pA (λs1 r=>aA (fB v.left.enc::aK (dG s) uO=fB o.enc::aK (dG s1) uO) (bB h s1 r) (rM v s h (λo1 r1 x=>oA (I x) v r o x (rG r1 o1 x.2) m h))))/\∀(x:VV×VV),I x->vF
 x.1 (λv1=>branch (!(jD v1)) (K aT m h) (vF x.2 (λv2=>branch (!(jD v2)) (K aT m h) (branch (x.1.kind !=x.2.kind) (K aT m h) (∃(o:Int),fA v.cmp o/\bQ o 1 (Am x (λc=>K (yX (c==0)) m h)) (bQ o 2 (Am x (λc=>K (yX (c !=0)) m h)) (bQ o 3 (Am x (λc=>K (yX (decide (c<0))) m h)) (bQ o 4 (Am x (λc=>K (yX (decide (c<=0))) m h)) (bQ o 5 (Am x (λc=>K (yX (decide (c>0))) m h)) (bQ o 6 (Am x (λc=>K (yX (decide (c>=0))) m h)) (K aT m h)))))))))))) (bQ v.op 4 (rB (λI x=>aA (I x) (aL s) (aA (eQ Zp) (aL v.args) (aA (aX v.args) (bI x) (aA (m=m) (h=h) True)))) (λI m1 x=>I x->bE (↑x:Int) (aH v.args) (bK (λb o=>aA (bL v.args.a b o) (0<=(↑x:Int)) ((↑x:Int)<aH v.args/\∃(y:PV),aI m h b (o
 +aZ x 13) y.enc/\AA (λv1 s1 p r=>aA (fB y.enc::aK (dG s) uO=fB v1.enc::aK (dG s1) uO) (fZ h p v1) (aA (bB h s1 r) (SizeOf.sizeOf p<N) (branch (!(iC r p)) (K aT m h) (∃(x1:Nat),aA (I x1) (m1 x1<m1 x) (aA (aL s) (eQ Zp) (aA (aL v.args) (aX v.args) (aA (bD (gI (bC x 1)) x1) (m=m) (bP h h))))))))))) (K gF m h))) (bQ v.op 5 (rB (λI x=>aA (I x) (aL s) (aA (eQ Zp) (aL v.args) (aA (aX v.args) (bI x) (aA (m=m) (h=h) True)))) (λI m1 x=>I x->bE (↑x:Int) (aH v.args) (bK (λb o=>aA (bL v.args.a b o) (0<=(↑x:Int)) ((↑x:Int)<aH v.args/\∃(y:PV),aI m h b (o+aZ x 13) y.enc/\AA (λv1 s1 p r=>aA (fB y.enc::aK (dG s) uO=fB v1.enc::aK (dG s1) uO) (fZ h p v1) (aA (bB h s1 r) (SizeOf.sizeOf p<
 N) (branch (iC r p) (K gF m h) (∃(x1:Nat),aA (I x1) (m1 x1<m1 x) (aA (aL s) (eQ Zp) (aA (aL v.args) (aX v.args) (aA (bD (gI (bC x 1)) x1) (m=m) (bP h h))))))))))) (K aT m h))) (bQ v.op 6 (sT (aH v.args) 0 (bK (λb o=>aA (bL v.args.a b o) ((0:Int)<=0) (0<aH v.args/\∃(y:PV),aI m h b (o+0) y.enc/\AA (λv1 s1 p r=>aA (fB y.enc::aK (dG s) uO=fB v1.enc::aK (dG s1) uO) (fZ h p v1) (aA (bB h s1 r) (SizeOf.sizeOf p<N) (K (CV.val (Value.bool (!(iC r p)))) m h)))))) (K aT m h)) (K aT m h)))))
theorem QX:Sound Tryz.prog 220 DenS:=by
 refine jK Tryz.func220 ?_;rintro cvs m h K ⟨o,s,r,rfl,hs,hK⟩;refine⟨dL [] [] [] [] false,rfl,aF,Ll o s m h K,by kernel_rfl,?_⟩;dsimp only[Ll,push_cast];have hsl:=aR.slen hs;unfold GD at hK;refine aB (λh1=>?_) (λh1=>aB (λh2=>?_) (λh2=>aB (λh3=>?_) (λh3=>?_)))
 .rw[if_pos (by simpa using h1)]at hK;exact hK
 .have h2:o.kind=2:=by simpa using h2
  rw[if_neg aC,if_neg aC]at hK;exact aE (λ_=>hK) (λn1=>aE (λ_=>hK) (λn2=>absurd (show o.index>=((0:Nat):Int)by omega) n2))
 .have h1:o.kind≠3:=by simpa using h1
  have h3:o.kind=1:=by simpa using h3
  rw[if_neg h1]at hK;refine aE (λn1=>?_) (λn1=>aE (λn2=>?_) (λn2=>?_))
  .rw[if_neg aC]at hK;exact hK
  .rw[if_neg aC]at hK;exact hK
  .rw[if_pos ⟨h3,aC,aC⟩]at hK
   have hx:r[o.index.toNat]? =some (r.getD o.index.toNat zeroV):=by
    rw[List.getD_eq_getElem?_getD,List.getElem?_eq_getElem aC];simp
   obtain⟨b,off,v,e,rd,rfl⟩:=aR.at hs hx;exact⟨b,off,e,aC,aC,_,.imm rd,hK⟩
 .have h1:o.kind≠3:=by simpa using h1
  have h3:o.kind≠1:=by simpa using h3
  rw[if_neg h1,if_neg (λe=>h3 e.1)]at hK;exact hK
theorem QW:Sound Tryz.prog 221 Zc:=by
 refine Fh Tryz.func221 ?_;rintro cvs m h K ⟨op,rfl,hK⟩;refine⟨sY [] [] [] [] [272] [] false,rfl,aF,Gd op m h (kY h K),by kernel_rfl,?_⟩;show Gd op m h (kY h K);dsimp only[Gd,push_cast];intro b m1 hb hm1;refine⟨_,_,⟨hm1.at_⟩,by decide,λm2 hm2=>?_⟩;have hsub:Sub m m2:=((Sub.refl m).upd hb.m_ hm1.other).upd hb.m_ hm2.other;have e:=hm2.at_
 have none_:∀k,¬(1<=op/\op<=6)->op=k->K (.val .nilFunc) m h:=λk hn _=>by
  have:(op==1)=false/\(op==2)=false/\(op==3)=false/\(op==4)=false/\(op==5)=false/\(op==6)=false:=by
   simp only[beq_eq_false_iff_ne];omega
  obtain⟨e1,e2,e3,e4,e5,e6⟩:=this;rw[e1,e2,e3,e4,e5,e6]at hK;exact hK
 refine aE (λh1=>.sub hsub (none_ _ aC rfl)) (λh1=>aE (λh2=>.sub hsub (none_ _ aC rfl)) (λh2=>⟨aC,aC,?_⟩));have:op=0\/op=1\/op=2\/op=3\/op=4\/op=5\/op=6:=by omega
 rcases this with rfl|rfl|rfl|rfl|rfl|rfl|rfl
 .exact⟨none,.lent _ _ _ e rfl,.sub hsub (none_ 0 aC rfl)⟩
 .exact⟨some 232,.lent _ _ _ e rfl,.sub hsub hK⟩
 .exact⟨some 233,.lent _ _ _ e rfl,.sub hsub hK⟩
 .exact⟨some 234,.lent _ _ _ e rfl,.sub hsub hK⟩
 .exact⟨some 235,.lent _ _ _ e rfl,.sub hsub hK⟩
 .exact⟨some 236,.lent _ _ _ e rfl,.sub hsub hK⟩
 .exact⟨some 237,.lent _ _ _ e rfl,.sub hsub hK⟩
theorem QN:Sound Tryz.prog 232 (HA (λc=>c==0)):=by
 refine jK Tryz.func232 ?_;rintro cvs m h K ⟨c,rfl,hK⟩;refine⟨dL [] [] [] [] false,rfl,aF,Ut c m h K,by kernel_rfl,?_⟩;exact hK
theorem QL:Sound Tryz.prog 233 (HA (λc=>c !=0)):=by
 refine jK Tryz.func233 ?_;rintro cvs m h K ⟨c,rfl,hK⟩;refine⟨dL [] [] [] [] false,rfl,aF,Us c m h K,by kernel_rfl,?_⟩;exact hK
theorem QK:Sound Tryz.prog 234 (HA (λc=>decide (c<0))):=by
 refine jK Tryz.func234 ?_;rintro cvs m h K ⟨c,rfl,hK⟩;refine⟨dL [] [] [] [] false,rfl,aF,Ur c m h K,by kernel_rfl,?_⟩;exact hK
theorem QJ:Sound Tryz.prog 235 (HA (λc=>decide (c<=0))):=by
 refine jK Tryz.func235 ?_;rintro cvs m h K ⟨c,rfl,hK⟩;refine⟨dL [] [] [] [] false,rfl,aF,Uq c m h K,by kernel_rfl,?_⟩;exact hK
theorem QI:Sound Tryz.prog 236 (HA (λc=>decide (c>0))):=by
 refine jK Tryz.func236 ?_;rintro cvs m h K ⟨c,rfl,hK⟩;refine⟨dL [] [] [] [] false,rfl,aF,Up c m h K,by kernel_rfl,?_⟩;exact hK
theorem QH:Sound Tryz.prog 237 (HA (λc=>decide (c>=0))):=by
 refine jK Tryz.func237 ?_;rintro cvs m h K ⟨c,rfl,hK⟩;refine⟨dL [] [] [] [] false,rfl,aF,Uo c m h K,by kernel_rfl,?_⟩;exact hK
theorem Pu:∀N,Sound Tryz.prog 199 (Xa N)
 |0=>by
  refine fU (fn:=Tryz.f199) (c:=bU Tryz.f199) Tryz.func199 rfl (by decide) ?_;rintro cvs m h K ⟨v,s,p,r,rfl,_,_,hN,_⟩;omega
 |N+1=>by
  refine jK Tryz.func199 ?_;rintro cvs m h K ⟨v,s,p,r,rfl,hp,hs,hN,hK⟩;refine⟨V9 N v s m h,rfl,aD QX (aD CY (aD QW (aD DS (aD (Pu N) (aD QN (aD QL (aD QK (aD QJ (aD QI (aD QH aF)))))))))),Lu N v s m h K,by kernel_rfl,?_⟩;dsimp only[Lu,push_cast];have hlt:=@FB p;obtain⟨op,cmp,l,q,ps⟩:=p;obtain⟨rfl,rfl,rfl,rfl,ha⟩:=hp.parts;have hl:=ha.slen;have hlen:=ha.len;simp only[Pred.args]at hlt;simp only[iC]at hK;refine aB (λh1=>?_) (λh1=>aB (λh3=>?_) (λh3=>aB (λh4=>?_) (λh4=>aB (λh5=>?_) (λh5=>aB (λh6=>?_) (λh6=>?_)))))
  .rw[if_pos (by simpa using h1)]at hK;exact hK
  all_goals have n1:v.op≠1:=by simpa using h1
  .rw[if_neg n1,if_pos (by simpa using h3)]at hK;refine⟨λx=>x=(GD r v.left,GD r v.right),?_,?_⟩
   .repeat' (first|exact⟨_,rfl,MT⟩|refine⟨v.left,s,r,rfl,hs,?_⟩|refine⟨v.right,s,r,rfl,hs,?_⟩|refine And.intro ?_ ?_)
   .rintro⟨a,b⟩ hab;simp only[Prod.mk.injEq]at hab;obtain⟨rfl,rfl⟩:=hab;generalize GD r v.left=a at hK⊢
    generalize GD r v.right=b at hK⊢
    have hf:BN v.cmp a b=false->K (cB false) m h:=λe=>by rw[e]at hK;exact hK
    refine⟨a,rfl,aB (λe1=>hf ?_) (λe1=>⟨b,rfl,aB (λe2=>hf ?_) (λe2=>aB (λe3=>hf ?_) (λe3=>⟨v.cmp,rfl,?_⟩))⟩)⟩
    .have e1:jD a=false:=by simpa using e1
     simp[BN,e1]
    .have e2:jD b=false:=by simpa using e2
     simp[BN,e2]
    .have e3:a.kind≠b.kind:=by simpa using e3
     simp[BN,e3]
    .have e1:jD a=true:=by simpa using e1
     have e2:jD b=true:=by simpa using e2
     have e3:a.kind=b.kind:=by simpa using e3
     have e4:BN v.cmp a b=Vb v.cmp (j4 a b):=by simp[BN,e1,e2,e3]
     rw[e4]at hK;unfold Vb at hK;refine aB (λc1=>?_) (λc1=>aB (λc2=>?_) (λc2=>aB (λc3=>?_) (λc3=>aB (λc4=>?_) (λc4=>aB (λc5=>?_) (λc5=>aB (λc6=>?_) (λc6=>?_))))))
     all_goals simp only[beq_iff_eq,beq_eq_false_iff_ne]at*
     .rw[if_pos c1]at hK;exact⟨a,b,rfl,_,rfl,hK⟩
     .rw[if_neg c1,if_pos c2]at hK;exact⟨a,b,rfl,_,rfl,hK⟩
     .rw[if_neg c1,if_neg c2,if_pos c3]at hK;exact⟨a,b,rfl,_,rfl,hK⟩
     .rw[if_neg c1,if_neg c2,if_neg c3,if_pos c4]at hK;exact⟨a,b,rfl,_,rfl,hK⟩
     .rw[if_neg c1,if_neg c2,if_neg c3,if_neg c4,if_pos c5]at hK;exact⟨a,b,rfl,_,rfl,hK⟩
     .rw[if_neg c1,if_neg c2,if_neg c3,if_neg c4,if_neg c5,if_pos c6]at hK;exact⟨a,b,rfl,_,rfl,hK⟩
     .rw[if_neg c1,if_neg c2,if_neg c3,if_neg c4,if_neg c5,if_neg c6]at hK;exact hK
  all_goals have n3:v.op≠3:=by simpa using h3
  all_goals rw[if_neg n1,if_neg n3]at hK
  .rw[if_pos (by simpa using h4),Hc]at hK;refine⟨λi=>i<=ps.length/\∀j:Nat,j<i->∀x,ps[j]? =some x->iC r x=true,λi=>ps.length-i,⟨0,⟨aC,λj hj=>by omega⟩,MT⟩,λi⟨hi,hall⟩=>aE (λhlt2=>?_) (λhge=>?_)⟩
   .obtain⟨x,hx⟩:=fS hl hlt2;obtain⟨b1,o1,u,e1,r1,ru⟩:=ha.at hx;have:=hlt (List.mem_of_getElem? hx);refine⟨b1,o1,e1,aC,hlt2,u,.imm r1,u,s,x,r,rfl,ru,hs,aC,aB (λhne=>?_) (λhe=>⟨i+1,⟨aC,λj hj y hy=>?_⟩,(show ps.length-(i+1)<ps.length-i by omega),MT⟩)⟩
    .have:ps.all (iC r)=false:=by
      cases e3:ps.all (iC r)with
      |false=>rfl
      |true=>rw[List.all_eq_true]at e3;rw[e3 x (List.mem_of_getElem? hx)]at hne;cases hne
     rw[this]at hK;exact hK
    .by_cases e4:j=i
     .subst e4;rw[hx]at hy;cases hy;simpa using he
     .exact hall j aC y hy
   .have:ps.all (iC r)=true:=by
     rw[List.all_eq_true];intro y hy;obtain⟨j,hj⟩:=List.getElem?_of_mem hy;exact hall j (by have:=(List.getElem?_eq_some_iff.1 hj).1;omega) y hj
    rw[this]at hK;exact hK
  all_goals have n4:v.op≠4:=by simpa using h4
  all_goals rw[if_neg n4]at hK
  .rw[if_pos (by simpa using h5),Hb]at hK;refine⟨λi=>i<=ps.length/\∀j:Nat,j<i->∀x,ps[j]? =some x->iC r x=false,λi=>ps.length-i,⟨0,⟨aC,λj hj=>by omega⟩,MT⟩,λi⟨hi,hall⟩=>aE (λhlt2=>?_) (λhge=>?_)⟩
   .obtain⟨x,hx⟩:=fS hl hlt2;obtain⟨b1,o1,u,e1,r1,ru⟩:=ha.at hx;have:=hlt (List.mem_of_getElem? hx);refine⟨b1,o1,e1,aC,hlt2,u,.imm r1,u,s,x,r,rfl,ru,hs,aC,aB (λhe=>?_) (λhne=>⟨i+1,⟨aC,λj hj y hy=>?_⟩,(show ps.length-(i+1)<ps.length-i by omega),MT⟩)⟩
    .have:ps.any (iC r)=true:=List.any_eq_true.2 ⟨x,List.mem_of_getElem? hx,he⟩;rw[this]at hK;exact hK
    .by_cases e4:j=i
     .subst e4;rw[hx]at hy;cases hy;exact hne
     .exact hall j aC y hy
   .have:ps.any (iC r)=false:=by
     rw[List.any_eq_false];intro y hy;obtain⟨j,hj⟩:=List.getElem?_of_mem hy;rw[hall j (by have:=(List.getElem?_eq_some_iff.1 hj).1;omega) y hj];simp
    rw[this]at hK;exact hK
  all_goals have n5:v.op≠5:=by simpa using h5
  all_goals rw[if_neg n5]at hK
  .rw[if_pos (by simpa using h6)]at hK;refine aE (λh7=>?_) (λh7=>?_)
   .obtain⟨x,hx⟩:=fS (i:=0) hl aC;obtain⟨b1,o1,u,e1,r1,ru⟩:=ha.at hx;have:=hlt (List.mem_of_getElem? hx)
    have e7:OS r ps= !iC r x:=by
     cases ps with
     |nil=>simp at hx
     |cons y _=>simp at hx;subst hx;rfl
    rw[e7]at hK;exact⟨b1,o1,e1,aC,aC,u,.imm (by simpa using r1),u,s,x,r,rfl,ru,hs,aC,hK⟩
   .have:ps=[]:=List.length_eq_zero_iff.1 aC;subst this;exact hK
  .rw[if_neg (by simpa using h6)]at hK;exact hK
theorem Q6:Sound Tryz.prog 199 Xb:=qU Pu λ_ _ _ _⟨v,s,p,r,e,h1,h2,h3⟩=>⟨SizeOf.sizeOf p+1,v,s,p,r,e,h1,h2,aC,h3⟩
structure Kp(h:PH)(b:Nat)(l:List (List VV)):Prop where
 ex:∃us,Dx h b us/\eO h us l
theorem Kp.mono{l:List (List VV)}(x:Kp h b l)(le:PH.le h h'):Kp h' b l:=by
 obtain⟨us,h1,h2⟩:=x.ex;exact⟨us,h1.mono le,h2.mono le⟩
structure B9(h:PH)(t:Sl)(bs:List Nat)(ls:List (List (List VV))):Prop where
 row:bH h t 1 (bs.map λb=>[Kh b])
 len:bs.length=ls.length
 at_:∀(i b:Nat)(l:List (List VV)),bs[i]? =some b->ls[i]? =some l->Kp h b l
structure gH(w:Nat)(l:List (List VV)):Prop where
 row:∀r∈l,NQ r
 wid:∀r∈l,r.length=w
 srt:gP l
 len:l.length<=8000000
def Qu(l:List (List VV))(x:List VV):Bool:=l.any λy=>cL x y==0
theorem CS{l:List (List VV)}{x:List VV}:Qu l x=true↔x∈l:=by
 simp only[Qu,List.any_eq_true,beq_iff_eq,gR];exact⟨λ⟨y,h1,h2⟩=>h2▸h1,λh=>⟨x,h,rfl⟩⟩
def NR(ok:Query->List (List (List VV))->Prop)(f:Query->List (List (List VV))->List (List VV)):Vc.Spec:=λcvs m h K=>∃v t q bs ls,cvs=[aQ v,cS t]/\fF h q v/\B9 h t bs ls/\gG m/\ok q ls/\
 ∀s' h',PH.le h h'->Rows h' s' (f q ls)->K (cS s') m h'
def NN:Vc.Spec:=λcvs m h K=>∃t i bs ls w,cvs=[cS t,cB i]/\B9 h t bs ls/\gG m/\2<=ls.length/\(∀l∈ls,gH w l)/\
 ∀s' h',PH.le h h'->Rows h' s' ((ls.getD 0 []).filter λx=>Qu (ls.getD 1 []) x==i)->K (cS s') m h'
noncomputable def Wh:Ctx:=Nn [(200,YG)] [(6,{A:=Nat×Nat×Sl×Sl×List VV×MH×PH,st:=λ⟨i,b,e,c,l,m,h⟩=>cM 40 42 [(5,vv (.pointer (some ⟨b,0,none⟩))),(6,sv e),(7,.at (.lst 17)),(19,sv c),(20,iv c.len),(21,iv i)] [(17,.lst 58 3 (l.map VV.enc))] m h})] [] [200002,200005,1095]
noncomputable abbrev rE(a:Nat):List Value:=l9 (Value.func (Fn.func 174) oI (lY a))
abbrev tJ(a:Option Addr)(b c:Int)(d:Sl)(e:MH)(g:Nat->Nat->Option Value)(i:Nat)(j:Nat->(PH->List Value->List (List Value)->Prop)->Prop):Prop:=bK (λx x1=>aA (bL a x x1) (b<=c) (c<aH d/\∃(x2:Nat),aI e g x (x1+i) (rE x2)/\∃(x3:PH->List Value->List (List Value)->Prop),j x2 x3))
attribute [push_cast] rE tJ
def Gq(v:QV)(t:Sl)(m:MH)(h:PH)(K:CV->MH->PH->Prop):Prop:=
  gA (λb m1=>bY m h b->bG m m1 b v.enc 68->gA (λb1 m2=>bY m1 h b1->bG m1 m2 b1 fE 95->tJ t.a 0 0 t m2 h 0 (λy S=>pI S h y m2 (λx I k e m3 h1=>p9 (uR x k e) h h1 (I k m3 h1) (∃(y1:PV),aI m3 h1 b 2 y1.enc/\AA (λv1 s p r=>aA (fB y1.enc::aK (dG e) uO=fB v1.enc::aK (dG s) uO) (fZ h1 p v1) (bB h1 s r/\branch (iC r p) (∃(y2:Sl),BE m3 h1 b1 0 (aM y2) (λx1=>aA (cD m3 (cV y2) 75 1 x1) (dD (x1.length+1) 24) (eF x1/\fP (λs1 m4=>eX m3 m4 (cV y2) s1 75 1 (eR x1 (aM e))->iE (λc E=>aA (wS m4 b1 (fN c E 0)) (0<c.size) (∀(m5:MH),bG m4 m5 b1 (gN (bV s1) 1 c) E->I (k+1) m5 h1)))))) (I (k+1) m3 h1))))) (λm3 h1=>gX m3 h1 b1 0 (λy1=>K (dG y1) m3 h1)))))
noncomputable abbrev tO(a:Nat×Nat×Sl×Sl×List VV×MH×PH):Sl:=a.2.2.2.1
noncomputable abbrev pT(a:Sl):Nat:=(aH a).toNat
noncomputable abbrev AB(a:Nat×Nat×Sl×Sl×List VV×MH×PH):List (List Value):=List.map VV.enc a.2.2.2.2.1
noncomputable abbrev vI(a:Nat×Nat×Sl×Sl×List VV×MH×PH):Nat->Option Obj:=a.2.2.2.2.2.1
noncomputable abbrev xJ(a:Nat×Nat×Sl×Sl×List VV×MH×PH):Nat->Nat->Option Value:=a.2.2.2.2.2.2
abbrev tW(a:List (List Value))(b:Nat)(c:List Value):Prop:=a[b]? =Option.some c
abbrev lT(a:PH)(b:List (List VV))(c:Sl->PH->Prop):Prop:=gT (λx x1=>dZ a x1 (Rows x1 x b) (c x x1))
attribute [push_cast] tO pT AB vI xJ tW lT
def Gp(v:QV)(t:Sl)(m:MH)(h:PH)(K:CV->MH->PH->Prop):Prop:=
  gA (λb m1=>bY m h b->bG m m1 b v.enc 68->gA (λb1 m2=>bY m1 h b1->bG m1 m2 b1 fE 95->tJ t.a 0 0 t m2 h 0 (λy S=>pI S h y m2 (λx I k e m3 h1=>p9 (uR x k e) h h1 (I k m3 h1) (∃(y1:Sl),aA (aI m3 h1 b 15 (aM y1)) (cQ (aH y1)) (aA (aH y1<=aH y1) (kS (aH y1*32)) (kS (aH y1)/\gX m3 h1 b 15 (λy2=>∃(I1:Nat×Nat×Sl×Sl×List VV×MH×PH->Prop)(m4:Nat×Nat×Sl×Sl×List VV×MH×PH->Nat),(∃(x1:Nat×Nat×Sl×Sl×List VV×MH×PH),aA (I1 x1) (cN b1 x1.2.1) (aA (bA e x1.2.2.1) (eL 17) (aA (bA y2 (tO x1)) (cO y2 (tO x1)) (aA (bI x1.1) (Option.some (Own.lst 58 3 (List.replicate (pT y1) tN))=Option.some (Own.lst 58 3 (AB x1))) (bZ m3 (vI x1) h1 (xJ x1))))))/\∀(x1:Nat×Nat×Sl×
 Sl×List VV×MH×PH),I1 x1->bE (↑x1.1:Int) (aH (tO x1)) (bK (λb2 o=>aA (bL (tO x1).a b2 o) (0<=(↑x1.1:Int)) ((↑x1.1:Int)<aH (tO x1)/\∃(y3:Int),aI (vI x1) (xJ x1) b2 (o+aZ x1.1 1) (bR y3)/\bK (λb3 o1=>aA (bL x1.2.2.1.a b3 o1) (0<=y3) (y3<aH x1.2.2.1/\∃(y4:VV),aA (aI (vI x1) (xJ x1) b3 (o1+eM y3 3) y4.enc) (0<=(↑x1.1:Int)) ((↑x1.1:Int)<uV (AB x1)/\∃(e1:List Value),aA (tW (AB x1) (lE x1.1) e1) (3<=e1.length) (∃(x2:Nat×Nat×Sl×Sl×List VV×MH×PH),aA (I1 x2) (m4 x2<m4 x1) (aA (cN x1.2.1 x2.2.1) (bA x1.2.2.1 x2.2.2.1) (aA (eL 17) (bA (tO x1) (tO x2)) (aA (cO (tO x1) (tO x2)) (bD (gI (bC x1.1 1)) x2.1) (bT (Option.some (Own.lst 58 3 (List.set (AB x1)
 (lE x1.1) (aJ (cJ y4.kind) (cJ y4.int) (yQ (Value.string y4.text) 3 e1))))=Option.some (Own.lst 58 3 (AB x2))) (vI x1) (vI x2) (xJ x1) (xJ x2)))))))))))) (gX (vI x1) (xJ x1) x1.2.1 0 (λy3=>aY (xJ x1) 3 (AB x1) (λs h2=>∃(x2:List (List Value)),aA (cD (vI x1) (cV y3) 75 1 x2) (dD (x2.length+1) 24) (eF x2/\fP (λs1 m5=>eX (vI x1) m5 (cV y3) s1 75 1 (eR x2 (aM s))->iE (λc E=>aA (wS m5 x1.2.1 (fN c E 0)) (0<c.size) (∀(m6:MH),bG m5 m6 x1.2.1 (gN (bV s1) 1 c) E->I (k+1) m6 h2)))))))))))) (λm3 h1=>gX m3 h1 b1 0 (λy1=>F1 (λs u=>∃(l:List (List VV)),aA (nH y1 s) (sH m3 h1 s 1 (qE u)) (aA (eO h1 u l) (DJ l.length) (lT h1 (yI l) (λs1 h2=>K (dG s1) m3 h2)))))))))
def Gl(v:QV)(t:Sl)(m:MH)(h:PH)(K:CV->MH->PH->Prop):Prop:=
  bK (λb o=>aA (bL t.a b o) ((0:Int)<=0) (0<aH t/\∃(y:Nat),aI m h b (o+0) (rE y)/\bK (λb1 o1=>aA (bL t.a b1 o1) ((0:Int)<=1) (1<aH t/\∃(y1:Nat),aA (aI m h b1 (o1+1) (rE y1)) (bF h b1 (o1+1) (rE y1)) (∃(b2:Nat)(v1:List Sl),aA (eV (gL 174 (lY y)) (gL 174 (lY b2))) (Dx h b2 v1) (EC 1 v1 (λm1 x o2=>m x=Option.some o2->m1 x=Option.some o2) (λx=>xD m x) (λs m1=>bF h b (o+0) (rE y)/\∃(s1:Sl)(b3:Nat)(u v2:List Sl),aA (aK (dG s) (gL 174 (lY y1))=aK (dG s1) (gL 174 (lY b3))) (cD m1 s1 75 1 (qE u)) (aA (Dx h b3 v2) (DJ u.length) (EC 1 (u++v2) (λm2 x o2=>m1 x=Option.some o2->(∀(i:Nat),jJ (bL s1.a x i))->m2 x=Option.some o2) (λx=>xD m1 x\/∃(i:
 Nat),bL s1.a x i) (λs2 m2=>aA (bF h b (o+0) (rE y)) (bF h b1 (o1+1) (rE y1)) (F1 (λs3 u1=>∃(l:List (List VV)),aA (nH s2 s3) (sH m2 h s3 1 (qE u1)) (aA (eO h u1 l) (DJ l.length) (lT h (yI l) (λs4 h1=>K (dG s4) m2 h1)))))))))))))))
noncomputable abbrev IU:Value:=Value.map Option.none
abbrev EE(a:MH)(b:PH)(c:Nat)(d:Nat->MH->Prop):Prop:=Aq a b (λx x1=>gA (λx2 x3=>bY x1 b x2->bG x1 x3 x2 (l9 IU) c->iE (λx4 x5=>aA (wS x3 x2 (fN x4 x5 0)) (0<x4.size) (∀(x6:MH),bG x3 x6 x2 (gN (Value.map (Option.some x)) 1 x4) x5->d x2 x6))))
noncomputable abbrev aU(a:Nat):List Value:=l9 (Value.map (Option.some a))
abbrev k9(a:MH)(b:Nat)(c d:(Value->Prop)->Prop)(e:Value)(g:(List (Value×Value))->MH->Prop)(i:(List (Value×Value))->Value->(List (Value×Value))->List (Value×Value))(j:(List (Value×Value))->(List (Value×Value))->MH->Prop):Prop:=Qm (λx x1=>aA (jF a b x) (c x1) (aA (d x1) (lN (Instr.sameBits 10000 e e)) (aA (∀(x2:Value×Value),List.Mem x2 x->x1 x2.1) ((∀(x2:Value×Value),List.Mem x2 x->x2.1=e->False)->∀(x2:MH),g x x2) (∀(x2:List (Value×Value))(x3:Value)(x4:List (Value×Value)),x=i x2 x3 x4->∀(x5:MH),j x2 x4 x5))))
noncomputable abbrev Ez(a:List VV):Value:=Value.string (cG a)
attribute [push_cast] IU EE aU k9 Ez
def Gg(t:Sl)(i:Bool)(m:MH)(h:PH)(K:CV->MH->PH->Prop):Prop:=
  gA (λb m1=>bY m h b->bG m m1 b (rD i) 4->EE m1 h 197 (λb1 m2=>tJ t.a 0 1 t m2 h 1 (λy S=>pI S h y m2 (λx I k e m3 h1=>p9 (uR x k e) h h1 (I k m3 h1) (∃(y1:Nat),aA (aI m3 h1 b1 0 (aU y1)) (aI m3 h1 b1 0 (aU y1)) (pA (λs r=>aA (nH e s) (bB h1 s r) (aA (NQ r) (gG m3) (aI m3 h1 b1 0 (aU y1)/\k9 m3 y1 (λO=>j6 9 O) (λO=>O (Ez r)) (Ez r) (λk1 m4=>fK m3 m4 y1->jF m4 y1 (dO k1 (Ez r) sV [])->I (k+1) m4 h1) (λl v l1=>dO l (Ez r) v l1) (λl l1 m4=>fK m3 m4 y1->jF m4 y1 (dO l (Ez r) sV l1)->I (k+1) m4 h1))))))) (λm3 h1=>gA (λb2 m4=>bY m3 h1 b2->bG m3 m4 b2 fE 95->tJ t.a 0 0 t m4 h1 0 (λy1 S1=>pI S1 h1 y1 m4 (λx I k e m5 h2=>p9 (uR x k e) h1 h2 (I k
 m5 h2) (∃(y2:Nat),aI m5 h2 b1 0 (aU y2)/\∃(y3:Bool),aA (aI m5 h2 b 0 (rD y3)) (aI m5 h2 b1 0 (aU y2)) (aI m5 h2 b 0 (rD y3)/\pA (λs r=>aA (nH e s) (bB h2 s r) (aA (NQ r) (gG m5) (aA (aI m5 h2 b1 0 (aU y2)) (aI m5 h2 b 0 (rD y3)) (aI m5 h2 b 0 (rD y3)/\Cv m5 y2 (λO=>O (Ez r)) (Ez r) (branch (false==y3) (∃(y4:Sl),BE m5 h2 b2 0 (aM y4) (λx1=>aA (cD m5 (cV y4) 75 1 x1) (dD (x1.length+1) 24) (eF x1/\fP (λs1 m6=>eX m5 m6 (cV y4) s1 75 1 (eR x1 (aM e))->iE (λc E=>aA (wS m6 b2 (fN c E 0)) (0<c.size) (∀(m7:MH),bG m6 m7 b2 (gN (bV s1) 1 c) E->I (k+1) m7 h2)))))) (I (k+1) m5 h2)) (λy4=>branch (y4==y3) (∃(y5:Sl),BE m5 h2 b2 0 (aM y5) (λx1=>aA (cD m5 (cV y5) 75 1 x1) (dD
 (x1.length+1) 24) (eF x1/\fP (λs1 m6=>eX m5 m6 (cV y5) s1 75 1 (eR x1 (aM e))->iE (λc E=>aA (wS m6 b2 (fN c E 0)) (0<c.size) (∀(m7:MH),bG m6 m7 b2 (gN (bV s1) 1 c) E->I (k+1) m7 h2)))))) (I (k+1) m5 h2))))))))) (λm5 h2=>gX m5 h2 b2 0 (λy2=>K (dG y2) m5 h2))))))))
abbrev MW(a:(List Nat)->(List (List (List VV)))->Prop):Prop:=∃(x:List Nat)(x1:List (List (List VV))),a x x1
attribute [push_cast] MW
def UB(v:QV)(t:Sl)(m:MH)(h:PH)(K:CV->MH->PH->Prop):Prop:=
  ∃(t1:Sl)(i:Bool),MW (λb l=>∃(w:Nat),aA (aK (dG t) aT=aK (dG t1) (yX i)) (B9 h t1 b l) (aA (gG m) (2<=l.length) ((∀(l1:List (List VV)),List.Mem l1 l->gH w l1)/\lT h (List.filter (fun(x:List VV)=>Qu (List.getD l 1 []) x==i) (List.getD l 0 [])) (λs h1=>K (dG s) m h1))))
def UA(v:QV)(t:Sl)(m:MH)(h:PH)(K:CV->MH->PH->Prop):Prop:=
  ∃(t1:Sl)(i:Bool),MW (λb l=>∃(w:Nat),aA (aK (dG t) gF=aK (dG t1) (yX i)) (B9 h t1 b l) (aA (gG m) (2<=l.length) ((∀(l1:List (List VV)),List.Mem l1 l->gH w l1)/\lT h (List.filter (fun(x:List VV)=>Qu (List.getD l 1 []) x==i) (List.getD l 0 [])) (λs h1=>K (dG s) m h1))))
abbrev DK(a:Sl->Sl->(List VV)->(List Int)->Prop):Prop:=fR (λx x1=>∃(x2:List VV)(x3:List Int),a x x1 x2 x3)
noncomputable abbrev dN(a:List VV)(b:List Int):Value:=Ez (pick a b)
abbrev EF(a b:Sl)(c:PH)(d:MH)(e:Prop)(g i:(List VV)->(List Int)->Prop):Prop:=DK (λx x1 x2 x3=>aA (iG a b=iG x x1) (bB c x x2) (aA (Ints c x1 x3) (NQ x2) (aA (fQ x2.length x3) (gG d) (aA e (g x2 x3) (i x2 x3)))))
attribute [push_cast] DK dN EF
def Gm(v:QV)(t:Sl)(m:MH)(h:PH)(K:CV->MH->PH->Prop):Prop:=
  ∃(s:Sl)(o:List (Int×Int)),aA (nH v.on s) (nS h s o) (∀(a:Sl),gT (λb h1=>dZ h h1 (Ints h1 a (jM o)) (Ints h1 b (fI o)->gA (λb1 m1=>bY m h1 b1->bG m m1 b1 fE 31->gA (λb2 m2=>bY m1 h1 b2->bG m1 m2 b2 fE 31->iE (λc E=>aA (wS m2 b1 (fN c E 0)) (0<c.size) (∀(m3:MH),bG m2 m3 b1 (gN (bV a) 1 c) E->iE (λc1 E1=>aA (wS m3 b2 (fN c1 E1 0)) (0<c1.size) (∀(m4:MH),bG m3 m4 b2 (gN (bV b) 1 c1) E1->EE m4 h1 197 (λb3 m5=>tJ t.a 0 1 t m5 h1 1 (λy S=>pI S h1 y m5 (λx I k e m6 h2=>p9 (uR x k e) h1 h2 (I k m6 h2) (∃(y1:Nat),aI m6 h2 b3 0 (aU y1)/\∃(y2:Sl),aA (aI m6 h2 b2 0 (aM y2)) (aI m6 h2 b3 0 (aU y1)) (DK (λs1 t1 r c2=>aA (iG e y2=iG s1 t1) (bB h2 s1 r) (aA (Ints
 h2 t1 c2) (NQ r) (aA (fQ r.length c2) (gG m6) (aI m6 h2 b3 0 (aU y1)/\k9 m6 y1 (λO=>j6 9 O) (λO=>O (dN r c2)) (dN r c2) (λk1 m7=>fK m6 m7 y1->jF m7 y1 (dO k1 (dN r c2) sV [])->I (k+1) m7 h2) (λl v1 l1=>dO l (dN r c2) v1 l1) (λl l1 m7=>fK m6 m7 y1->jF m7 y1 (dO l (dN r c2) sV l1)->I (k+1) m7 h2)))))))) (λm6 h2=>gA (λb4 m7=>bY m6 h2 b4->bG m6 m7 b4 fE 95->tJ t.a 0 0 t m7 h2 0 (λy1 S1=>pI S1 h2 y1 m7 (λx I k e m8 h3=>p9 (uR x k e) h2 h3 (I k m8 h3) (∃(y2:Nat),aI m8 h3 b3 0 (aU y2)/\∃(y3:Sl),aA (aI m8 h3 b1 0 (aM y3)) (aI m8 h3 b3 0 (aU y2)) (EF e y3 h3 m8 (aI m8 h3 b3 0 (aU y2)) (λ_ _=>aI m8 h3 b1 0 (aM y3)) (λr c2=>Cv m8 y2 (λO=>O (dN r c2)) (dN r c2) (I (k+
 1) m8 h3) (λy4=>branch y4 (∃(y5:Sl),BE m8 h3 b4 0 (aM y5) (λx1=>aA (cD m8 (cV y5) 75 1 x1) (dD (x1.length+1) 24) (eF x1/\fP (λs1 m9=>eX m8 m9 (cV y5) s1 75 1 (eR x1 (aM e))->iE (λc3 E2=>aA (wS m9 b4 (fN c3 E2 0)) (0<c3.size) (∀(a1:MH),bG m9 a1 b4 (gN (bV s1) 1 c3) E2->I (k+1) a1 h3)))))) (I (k+1) m8 h3)))))) (λm8 h3=>gX m8 h3 b4 0 (λy2=>K (dG y2) m8 h3))))))))))))))))
def A2(m mx:MH)(b:Nat):Prop:=∀x o,m x=some o->x≠b->mx x=some o
structure lK(m mx:MH)(b:Nat)(us:List Sl):Prop where
 ex:∃s:Sl,mx b=some (.cells #[.slice s.a s.len s.cap] 95 (0,0))/\cD mx s 75 1 (us.map eS)/\∀i x,s.a=some ⟨x,i,none⟩->m x=none
theorem lK.new(hb:m' b=some (.cells #[nV] 95 (0,0))):lK m m' b []:=⟨⟨none,0,0⟩,hb,⟨o9 [],.inl ⟨rfl,rfl⟩⟩,λi x e=>by cases e⟩
theorem Eu{mx:MH}{s:Sl}{us:List Sl}{e:Sl}{Q:MH->Prop}(hmb:∃o,m b=some o)(hs:A2 m mx b)(hb:mx b=some (.cells #[.slice s.a s.len s.cap] 95 (0,0)))(hrow:cD mx s 75 1 (us.map eS))(hfr:∀i x,s.a=some ⟨x,i,none⟩->m x=none)(hl:us.length<=502633886983)(hQ:∀m',A2 m m' b->lK m m' b (us++[e])->Q m'):
 ∃xs:List (List Value),cD mx (Sl.mk s.a s.len s.cap) 75 1 xs/\(xs.length+1)*24<=140737488355328/\xs.length<140737488355328/\∀(s':Sl)(m':MH),eX mx m' (Sl.mk s.a s.len s.cap) s' 75 1 (xs++[[bV e]])->
  ∃(cs:Array Value)(E:TypeId),wS m' b (.cells cs E (0,0))/\0<cs.size/\∀m2:MH,eW m' m2 b (.cells (Array.mk (bV s'::cs.toList.drop 1)) E (0,0))->Q m2:=by
 obtain⟨ob,hmb⟩:=hmb;have hnb:∀i,s.a≠some ⟨b,i,none⟩:=λi e2=>by rw[hfr i b e2]at hmb;cases hmb
 refine⟨us.map eS,hrow,by rw[List.length_map];omega,by rw[List.length_map];omega,λs' m' hg=>⟨_,_,⟨hg.other b _ hb hnb⟩,by simp,λm2 hu=>hQ m2 ?_ ⟨s',hu.at_,?_,?_⟩⟩⟩
 .intro x o hx hne;rw[hu.other x hne];exact hg.other x o (hs x o hx hne) (λi e2=>by have e2:s.a=some ⟨x,i,none⟩:=e2;rw[hfr i x e2]at hx;cases hx)
 .have e1:(us++[e]).map eS=us.map eS++[[bV e]]:=by simp[eS]
  rw[e1];refine cD.keep hg.row (λx i e2=>hu.other x (λe3=>?_));subst e3;rcases hg.fresh x i e2 with h1|⟨j,h1⟩
  .rw[hb]at h1;cases h1
  .exact hnb j h1
 .intro i x e2;rcases hg.fresh x i e2 with h1|⟨j,h1⟩
  .cases e4:m x with
   |none=>rfl
   |some o=>
    by_cases e5:x=b
    .subst e5;rw[hb]at h1;cases h1
    .rw[hs x o e4 e5]at h1;cases h1
  .exact hfr j x h1
theorem lK.app{mx:MH}{hx:PH}{us:List Sl}{e:Sl}{Q:MH->Prop}(hmb:∃o,m b=some o)(hs:A2 m mx b)(o:lK m mx b us)(hl:us.length<=502633886983)(hQ:∀m',A2 m m' b->lK m m' b (us++[e])->Q m'):
 ∃y:Sl,aI mx hx b 0 [bV y]/\∃xs:List (List Value),cD mx (Sl.mk y.a y.len y.cap) 75 1 xs/\(xs.length+1)*24<=140737488355328/\xs.length<140737488355328/\∀(s':Sl)(m':MH),eX mx m' (Sl.mk y.a y.len y.cap) s' 75 1 (xs++[[bV e]])->
  ∃(cs:Array Value)(E:TypeId),wS m' b (.cells cs E (0,0))/\0<cs.size/\∀m2:MH,eW m' m2 b (.cells (Array.mk (bV s'::cs.toList.drop 1)) E (0,0))->Q m2:=by
 obtain⟨s,hb,hrow,hfr⟩:=o.ex;exact⟨s,.of_m hb rfl,Eu hmb hs hb hrow hfr hl hQ⟩
theorem cH.sub{hx:PH}{r:CV}(sub:Sub m m')(le:PH.le h hx)(hK:K r m hx):cH h K r m' hx:=λ_=>⟨m,hx,sub,le,λ_ _ _ e=>.inl e,hK⟩
theorem cH.row{hx:PH}{s:Sl}{us:List Sl}(sub:Sub m m')(le:PH.le h hx)(hr:cD m' s 75 1 (us.map eS))(hf:∀i b,s.a=some ⟨b,i,none⟩->m b=none)(hK:∀h',PH.le hx h'->bH h' s 1 (us.map eS)->K (cS s) m h'):cH h K (cS s) m' hx:=by
 intro hd;rcases hr.ex with⟨rfl,hx0⟩|⟨b,cap,cur,rfl,hm,h1,h2,h3,h4⟩
 .refine⟨m,hx,sub,le,λb i v e=>.inl e,hK hx (.refl _) ?_⟩;rw[hx0];exact bH.nil _ _
 .have hn:∀i,hx b i=none:=hd b _ hm;refine⟨m,wV hx b cur.toList,sub,le.trans (xZ hn),λb' i v e=>?_,hK _ (xZ hn) ⟨?_,?_,?_⟩⟩
  .by_cases hb:b'=b
   .subst hb;simp only[wV,if_true]at e;exact .inr ⟨cur,75,(0,0),hm,by rw[<-Array.getElem?_toList];exact e,hf 0 b' rfl⟩
   .simp only[wV,if_neg hb]at e;exact .inl e
  .simp
  .by_cases hu:us.map eS=[]
   .exact .inl hu
   .refine .inr ⟨b,0,rfl,λi e hi=>⟨λj v hv=>?_⟩⟩;have hel:=hr.rows.len e (List.mem_of_getElem? hi);have hj:j=0:=by have:=(List.getElem?_eq_some_iff.1 hv).1;omega
    subst hj;have hlt:=(List.getElem?_eq_some_iff.1 hi).1
    have h5:((us.map eS).flatten)[i]? =some v:=by
     rw[List.getElem?_map]at hi;cases hu2:us[i]? with
     |none=>rw[hu2]at hi;cases hi
     |some u=>
      rw[hu2]at hi;simp at hi;subst hi;simp[eS]at hv;subst hv
      have:∀l:List Sl,(l.map eS).flatten=l.map λu=>Value.slice u.a u.len u.cap:=λl=>by
       induction l with
       |nil=>rfl
       |cons a l ih=>simp only[List.map_cons,List.flatten_cons,ih];rfl
      rw[this,List.getElem?_map,hu2];rfl
    rw[<-h4,List.getElem?_take,if_pos aC]at h5;simp only[wV,if_true];rw[show 0+i*1+0=i by omega];exact h5
  .exact h1
structure nQ(m:MH)(y:Nat)(ks:List ByteArray):Prop where
 ex:∃kk:List ByteArray,jF m y (kk.map λk=>(Value.string k,Value.bool true))/\∀k,k∈kk↔k∈ks
theorem nQ.keep{y:Nat}{ks:List ByteArray}(s:nQ m y ks)(hk:m' y=m y):nQ m' y ks:=by
 obtain⟨kk,⟨es,c,h1,h2,h3,h4⟩,h5⟩:=s.ex;exact⟨kk,⟨es,c,by rw[hk];exact h1,h2,h3,h4⟩,h5⟩
theorem nQ.new{y:Nat}(h:m y=some (.map #[] 0)):nQ m y []:=⟨[],⟨#[],0,h,rfl,by simp,by simp⟩,by simp⟩
theorem nQ.get{y:Nat}{ks:List ByteArray}{key:ByteArray}{K:Bool->Prop}(s:nQ m y ks)(hK:∀t:Bool,(t=true↔key∈ks)->K t):
 ∃(kvs:List (Value×Bool))(Ok:Value->Prop),nU m y (kvs.map λp=>(p.1,Value.bool p.2))/\KeyLaw Tryz.prog 9 Ok/\Ok (.string key)/\(∀e,List.Mem e kvs->Ok e.1)/\((∀e,List.Mem e kvs->e.1=Value.string key->False)->K false)/\∀t,List.Mem (Value.string key,t) kvs->K t:=by
 obtain⟨kk,⟨es,c,h1,h2,_,_⟩,h5⟩:=s.ex;refine⟨kk.map λk=>(Value.string k,true),_,⟨es,c,h1,by rw[h2];simp⟩,zY,⟨key,rfl⟩,λe he=>?_,λhn=>hK false ⟨λe=>(by cases e),λhk=>?_⟩,λt ht=>hK t ⟨λ_=>?_,λ_=>?_⟩⟩
 .obtain⟨k,_,rfl⟩:=List.mem_map.1 (show e∈_ from he);exact⟨k,rfl⟩
 .exact(hn (Value.string key,true) (List.mem_map.2 (⟨key,(h5 key).2 hk,rfl⟩:∃a,a∈kk/\(Value.string a,true)=(Value.string key,true))) rfl).elim
 .obtain⟨k,hk,e⟩:=List.mem_map.1 (show(Value.string key,t)∈_ from ht);simp only[Prod.mk.injEq,Value.string.injEq]at e;rw[<-e.1];exact(h5 k).1 hk
 .obtain⟨k,hk,e⟩:=List.mem_map.1 (show(Value.string key,t)∈_ from ht);simp only[Prod.mk.injEq]at e;exact e.2.symm
theorem Og(key:ByteArray):Instr.sameBits 10000 (Value.string key) (Value.string key)=true:=by
 show(key==key)=true;cases key with
 |mk d=>exact beq_self_eq_true d
theorem nQ.put{y:Nat}{ks:List ByteArray}{key:ByteArray}{Q:MH->Prop}(s:nQ m y ks)(hQ:∀m':MH,fK m m' y->nQ m' y (key::ks)->Q m'):
 ∃(kvs:List (Value×Value))(Ok:Value->Prop),jF m y kvs/\KeyLaw Tryz.prog 9 Ok/\Ok (.string key)/\Instr.sameBits 10000 (Value.string key) (Value.string key)=true/\(∀e,List.Mem e kvs->Ok e.1)/\((∀e,List.Mem e kvs->e.1=Value.string key->False)->∀m':MH,fK m m' y->jF m' y (kvs++[(Value.string key,Value.bool true)])->Q m')/\
  ∀(l1:List (Value×Value))(v0:Value)(l2:List (Value×Value)),kvs=l1++(Value.string key,v0)::l2->∀m':MH,fK m m' y->jF m' y (l1++(Value.string key,Value.bool true)::l2)->Q m':=by
 obtain⟨kk,hm,h5⟩:=s.ex;refine⟨_,_,hm,zY,⟨key,rfl⟩,Og key,λe he=>?_,λhn m' hs hm'=>hQ m' hs ⟨kk++[key],by simpa using hm',λk=>?_⟩,λl1 v0 l2 e m' hs hm'=>hQ m' hs ⟨kk,?_,λk=>?_⟩⟩
 .obtain⟨k,_,rfl⟩:=List.mem_map.1 (show e∈_ from he);exact⟨k,rfl⟩
 .simp[h5,or_comm]
 .have:(Value.string key,v0)∈kk.map λk=>(Value.string k,Value.bool true):=by rw[e];simp
  obtain⟨k,_,e2⟩:=List.mem_map.1 this;simp only[Prod.mk.injEq]at e2;rw[<-e2.2]at e;rw[e];exact hm'
 .have:(Value.string key,v0)∈kk.map λk=>(Value.string k,Value.bool true):=by rw[e];simp
  obtain⟨k2,hk2,e2⟩:=List.mem_map.1 this;simp only[Prod.mk.injEq,Value.string.injEq]at e2;rw[h5];constructor
  .exact List.mem_cons_of_mem _
  .intro h;rcases List.mem_cons.1 h with rfl|h
   .rw[<-e2.1];exact(h5 k2).1 hk2
   .exact h
theorem B9.get{t:Sl}{bs:List Nat}{ls:List (List (List VV))}(a:B9 h t bs ls){l:List (List VV)}(hl:ls[i]? =some l):∃b off x,t.a=some ⟨b,off,none⟩/\(i:Int)<(t.len:Int)/\bF h b (off+i) [Kh x]/\Kp h x l:=by
 have hi:=(List.getElem?_eq_some_iff.1 hl).1;have hb:bs[i]? =some (bs[i]'(by rw[a.len];exact hi)):=List.getElem?_eq_getElem _;obtain⟨b,o,e,rd⟩:=a.row.get (i:=i) (e:=[Kh (bs[i]'(by rw[a.len];exact hi))]) (by simp[hb]);have hlen:=a.row.len;simp only[List.length_map]at hlen;have:=a.len;exact⟨b,o,_,e,aC,by simpa using rd,a.at_ i _ l hb hl⟩
theorem eO.at'{us:List Sl}{rs:List (List VV)}(x:eO h us rs){u:Sl}(hu:us[i]? =some u):∃r,rs[i]? =some r/\bB h u r:=by
 have hi:=(List.getElem?_eq_some_iff.1 hu).1;obtain⟨v,h1,h2⟩:=x.at_ i _ (List.getElem?_eq_getElem (by rw[<-x.len];exact hi));rw[hu]at h1;cases h1;exact⟨_,List.getElem?_eq_getElem (by rw[<-x.len];exact hi),h2⟩
theorem iL{α:Type}{l:List α}{x:α}(p:α->Bool)(hx:l[k]? =some x):(l.take (k+1)).filter p=(l.take k).filter p++(if p x then[x]else[]):=by
 rw[List.take_add_one,hx,Option.toList_some,List.filter_append];congr 1;cases e:p x<;>simp[e]
theorem Sub.x{m1 mx:MH}(h:Sub m m1)(hb:m b=none)(hx:A2 m1 mx b):Sub m mx:=λx o hxo=>hx x o (h x o hxo) (λe=>by rw[e,hb]at hxo;cases hxo)
def Dp(n:Nat):Query->List (List (List VV))->Prop:=λ_ ls=>n<=ls.length/\∀l∈ls,∃w,gH w l
def CX(q:Query)(ls:List (List (List VV))):List (List VV):=match q with|.mk _ _ w _ _ _ _ _ _=>(ls.getD 0 []).filter λr=>iC r w
theorem Bf{ls:List (List (List VV))}{i:Nat}(h:i<ls.length):ls[i]? =some (ls.getD i []):=by
 rw[List.getD_eq_getElem?_getD,List.getElem?_eq_getElem h];rfl
theorem Fg{f:FuncId}{fn:Func}(hf:Tryz.prog.funcs[f]? =some fn){S:Vc.Spec}(hvc:∀cvs m h K,S cvs m h K->∃C:Ctx,C.P=Tryz.prog/\(∀g S,assoc C.specs g=some S->Sound Tryz.prog g S)/\∃N:Prop,N=SM C fn (bU fn) (entry fn.ntmps cvs m h) (cH h K)/\N)(hb:fn.body=some (bU fn):=by rfl)(hname:(fn.name== "runtime.NumGoroutine")=false:=by decide):Sound Tryz.prog f S:=Qw hf hb hname λcvs m h K hS=>let⟨C,hC,hs,N,e,hn⟩:=hvc cvs m h K hS;⟨C,hC,hs,e▸hn⟩
theorem Rj:Sound Tryz.prog 175 (NR (Dp 1) CX):=by
 refine Fg Tryz.func175 ?_;rintro cvs m h K ⟨v,t,q,bs,ls,rfl,hq,ha,_,hok,hK⟩;refine⟨Nn [(199,Xb)] [] [] [200002,200005,1095],rfl,aD Q6 aF,Gq v t m h (cH h K),by kernel_rfl,?_⟩;show Gq v t m h (cH h K);dsimp only[Gq,push_cast];intro b m1 hb1 hu1 b2 m2 hb2 hu2;have hsub1:Sub m m1:=(Sub.refl m).upd hb1.m_ hu1.other
 have hn2:m b2=none:=by
  cases e:m b2 with
  |none=>rfl
  |some o=>have e1:=hsub1 b2 o e;rw[hb2.m_]at e1;cases e1
 have hsub2:Sub m m2:=hsub1.upd hn2 hu2.other;have hne:b≠b2:=λe=>by have:=hb2.m_;rw[<-e,hu1.at_]at this;cases this
 obtain⟨b3,off,x,ea,hlt,rd,sq⟩:=ha.get (Bf (i:=0) (by have:=hok.1;omega));obtain⟨us,hseq,hru⟩:=sq.ex;obtain⟨op,ta,w,co,on,gr,od,li,args⟩:=q;have xq:=hq.parts;obtain⟨wd,hrel⟩:=hok.2 _ (List.mem_of_getElem? (Bf (i:=0) (by have:=hok.1;omega)));simp only[CX]at hK;generalize ls.getD 0 []=l at hseq hru hK hrel sq;have hul:=hru.len;have hll:=hrel.len;refine⟨b3,off,ea,aC,aC,x,.imm rd,tA,us,λk mx hx=>hx=h/\A2 m2 mx b2/\∃us2,lK m2 mx b2 us2/\us2.length<=k/\eO h us2 ((l.take k).filter λr=>iC r w),rX,⟨x,us,rfl,hseq,rfl⟩,⟨rfl,λx o e _=>e,[],lK.new hu2.at_,by simp,by simpa using eO.nil h⟩,?_,?_⟩
 .rintro k e mx hx hk-⟨rfl,hs,us2,hout,hl2,hr2⟩
  obtain⟨r,hr,hv⟩:=hru.at' hk;have hkl:=(List.getElem?_eq_some_iff.1 hk).1;refine⟨v.where_,.of_m (hs b _ (by rw[hu2.other b hne];exact hu1.at_) hne) rfl,v.where_,e,w,r,rfl,xq.where_,hv,aB (λht=>?_) (λhf=>?_)⟩
  .refine lK.app ⟨_,hu2.at_⟩ hs hout aC (λm' hs' ho'=>⟨rfl,hs',us2++[e],ho',by simp;omega,?_⟩);rw[iL _ hr,if_pos ht];exact hr2.snoc hv
  .refine⟨rfl,hs,us2,hout,aC,?_⟩;rw[iL _ hr,if_neg (by simp[hf]),List.append_nil];exact hr2
 .rintro mx hx-⟨rfl,hs,us2,hout,hl2,hr2⟩
  rw[hul,List.take_length]at hr2;obtain⟨s,hb,hrow,hfr⟩:=hout.ex;refine⟨s,.of_m hb rfl,cH.row (hsub2.x hn2 hs) (.refl _) hrow (λi y e=>?_) (λh' le hri=>hK s h' le ((hr2.mono le).rows hri (by have:=hr2.len;omega)))⟩;cases e2:m y with
  |none=>rfl
  |some o=>have e1:=hfr i y e;rw[hsub2 y o e2]at e1;cases e1
end Go.Ps
