/-
  Part 6 of a proof that a law of the given program returns true: a condition generator that is proved sound, and contracts of functions. No condition of its own. Own work, joined by a program (pack2.py); the shelf's contracts among it as the kit's tool wrote them.
-/
import Derived.Shelf.SlSorted.Search
import Derived.Shelf.SlSortCmp.NoneTotal
import Derived.Shelf.Small.Strs
import Derived.Shelf.Strconv.Itoa0
import Derived.Shelf.Strconv.Itoa1
import Derived.Shelf.LaysM
import Derived.Shelf.Strconv.Itoa2
import Derived.Shelf.Strconv.AppendUint10
import Derived.Shelf.Strconv.AppendInt10
import Derived.Shelf.Strconv.AppendIntPublic10
import Derived.Test.YtileehgdfcknkaaGreatDoorProg
import Derived.Lib.ItoaLen
import Derived.RangeFuncWrites
import Derived.OrdersIn
import Derived.Test.YtileehgdfcknkaaGreatDoorGe
set_option linter.unusedVariables false
set_option linter.unusedSimpArgs false
namespace Go.Proofs
open Go.Shelf
def Tryz.lays213_ren:Go.Shelf.Ren:=⟨λ |213=>132|265=>165|n=>n,λ |9=>9|3=>3|n=>n,λ |n=>n⟩
def Tryz.lays106_ren:Go.Shelf.Ren:=⟨λ |106=>102|213=>132|265=>165|n=>n,λ |9=>9|3=>3|n=>n,λ |n=>n⟩
theorem Tryz.lays106:Go.Proofs.Lays.n106 Tryz.prog Tryz.lays106_ren:={
 mixed:=by kernel_rfl
 f106:=Tryz.func102.trans (congrArg some (by kernel_rfl))
 f213:=Tryz.func132.trans (congrArg some (by kernel_rfl))
 f265:=Tryz.func165.trans (congrArg some (by kernel_rfl))
 t3:=Tryz.underlying3
 a3:=Tryz.isAgg3
 z3:=Tryz.sizeOf3
 v3:=Tryz.zeroValue3
 t9:=Tryz.underlying9
 a9:=Tryz.isAgg9
 z9:=Tryz.sizeOf9
 v9:=Tryz.zeroValue9}
open Go.RowKit in
theorem Tryz.strings_Compare(a b:ByteArray)(w:World):
 Calls Tryz.prog 102 #[.string a,.string b] w λe w'=>e= .returned (.int .i64 (Lib.compareBytes a.data.toList b.data.toList))/\w'=w:=Any.strings_Compare Tryz.lays106 a b w
def Tryz.lays283_ren:Go.Shelf.Ren:=⟨λ |283=>227|n=>n,λ |3=>3|9=>9|4=>4|n=>n,λ |n=>n⟩
theorem Tryz.lays283:Go.Proofs.Lays.n283 Tryz.prog Tryz.lays283_ren:={
 mixed:=by kernel_rfl
 f283:=Tryz.func227.trans (congrArg some (by kernel_rfl))
 t3:=Tryz.underlying3
 a3:=Tryz.isAgg3
 z3:=Tryz.sizeOf3
 v3:=Tryz.zeroValue3
 t4:=Tryz.underlying4
 a4:=Tryz.isAgg4
 z4:=Tryz.sizeOf4
 v4:=Tryz.zeroValue4
 t9:=Tryz.underlying9
 a9:=Tryz.isAgg9
 z9:=Tryz.sizeOf9
 v9:=Tryz.zeroValue9}
open Go.Lib in
theorem Tryz.internal_strconv_small(i:Nat)(h:i<100)(w:World):
 Calls Tryz.prog 227 #[.int .i64 i] w λe w'=>e= .returned (.string ⟨(Lib.decDigits i).toArray⟩)/\w'=w:=Any.internal_strconv_small Tryz.lays283 i h w
def Tryz.laysM284_ren:Go.Shelf.Ren:=⟨λ |284=>228|129=>175|317=>231|318=>232|n=>n,λ |53=>201|3=>3|212=>251|0=>0|4=>4|46=>176|5=>5|9=>9|n=>n,λ |17=>1|n=>n⟩
theorem Tryz.laysM284:Go.Proofs.LaysM.n284 Tryz.prog Tryz.laysM284_ren:={
 mixed:=by kernel_rfl
 f129:=Tryz.func175.trans (congrArg some (by kernel_rfl))
 f284:=Tryz.func228.trans (congrArg some (by kernel_rfl))
 f317:=Tryz.func231.trans (congrArg some (by kernel_rfl))
 f318:=Tryz.func232.trans (congrArg some (by kernel_rfl))
 t0:=Tryz.underlying0
 a0:=Tryz.isAgg0
 z0:=Tryz.sizeOf0
 v0:=Tryz.zeroValue0
 t3:=Tryz.underlying3
 a3:=Tryz.isAgg3
 z3:=Tryz.sizeOf3
 v3:=Tryz.zeroValue3
 t4:=Tryz.underlying4
 a4:=Tryz.isAgg4
 z4:=Tryz.sizeOf4
 v4:=Tryz.zeroValue4
 t5:=Tryz.underlying5
 a5:=Tryz.isAgg5
 z5:=Tryz.sizeOf5
 v5:=Tryz.zeroValue5
 t9:=Tryz.underlying9
 a9:=Tryz.isAgg9
 z9:=Tryz.sizeOf9
 v9:=Tryz.zeroValue9
 t46:=Tryz.underlying176
 a46:=Tryz.isAgg176
 z46:=Tryz.sizeOf176
 v46:=Tryz.zeroValue176
 t53:=Tryz.underlying201
 a53:=Tryz.isAgg201
 z53:=Tryz.sizeOf201
 v53:=Tryz.zeroValue201
 t212:=Tryz.underlying251
 a212:=Tryz.isAgg251
 z212:=Tryz.sizeOf251
 v212:=Tryz.zeroValue251
 g17:=by kernel_rfl
 i0:=by kernel_rfl
 i3:=by kernel_rfl
 i4:=by kernel_rfl
 i5:=by kernel_rfl
 i9:=by kernel_rfl
 i46:=by kernel_rfl
 i53:=by kernel_rfl
 i212:=by kernel_rfl
 m17:=by kernel_rfl}
open Go.Lib in
theorem Tryz.internal_strconv_numDigits(u:Nat)(h1:1<=u)(h2:u<18446744073709551616)(w:World)(htab:Lib.TabIs Tryz.prog w "internal/strconv.uint64pow10" .u64 Lib.pow10Tab):
 Calls Tryz.prog 228 #[.int .u64 u] w λe w'=>e= .returned (.int .i64 (Lib.nDigits u))/\w'=w:=Any.internal_strconv_numDigits Tryz.laysM284 u h1 h2 w htab
def Tryz.lays285_ren:Go.Shelf.Ren:=⟨λ |285=>229|n=>n,λ |37=>22|53=>201|3=>3|4=>4|51=>199|9=>9|5=>5|0=>0|n=>n,λ |n=>n⟩
theorem Tryz.lays285:Go.Proofs.Lays.n285 Tryz.prog Tryz.lays285_ren:={
 mixed:=by kernel_rfl
 f285:=Tryz.func229.trans (congrArg some (by kernel_rfl))
 t0:=Tryz.underlying0
 a0:=Tryz.isAgg0
 z0:=Tryz.sizeOf0
 v0:=Tryz.zeroValue0
 t3:=Tryz.underlying3
 a3:=Tryz.isAgg3
 z3:=Tryz.sizeOf3
 v3:=Tryz.zeroValue3
 t4:=Tryz.underlying4
 a4:=Tryz.isAgg4
 z4:=Tryz.sizeOf4
 v4:=Tryz.zeroValue4
 t5:=Tryz.underlying5
 a5:=Tryz.isAgg5
 z5:=Tryz.sizeOf5
 v5:=Tryz.zeroValue5
 t9:=Tryz.underlying9
 a9:=Tryz.isAgg9
 z9:=Tryz.sizeOf9
 v9:=Tryz.zeroValue9
 t37:=Tryz.underlying22
 a37:=Tryz.isAgg22
 z37:=Tryz.sizeOf22
 v37:=Tryz.zeroValue22
 t51:=Tryz.underlying199
 a51:=Tryz.isAgg199
 z51:=Tryz.sizeOf199
 v51:=Tryz.zeroValue199
 t53:=Tryz.underlying201
 a53:=Tryz.isAgg201
 z53:=Tryz.sizeOf201
 v53:=Tryz.zeroValue201}
open Go.RowKit Go.Sort Go.Lib in
theorem Tryz.internal_strconv_formatBase10(blk off cap:Nat)(u:Nat)(d:Array UInt8)(w:World)(hH:Holds (fun(b:UInt8)=>Value.int .u8 (b.toNat:Int)) w blk off d)(hu:u<10^d.size)(hu64:u<18446744073709551616)(hsz:d.size<4611686018427387904):
 Calls Tryz.prog 229 #[.slice (some ⟨blk,off,none⟩) d.size cap,.int .u64 u] w λe w'=>
  e= .returned (.tuple #[])/\∃(n v':Nat)(dk:Array UInt8),w'=(putRow (fun(b:UInt8)=>Value.int .u8 (b.toNat:Int)) w blk off dk).drewN n/\FmtInv d.size u 0 v' dk:=Any.internal_strconv_formatBase10 Tryz.lays285 blk off cap u d w hH hu hu64 hsz
def Tryz.sortF_ren:Go.Shelf.Ren:=⟨λ |6=>107|15=>134|14=>133|28=>174|29=>175|20=>166|21=>167|22=>168|23=>169|24=>170|25=>171|26=>172|27=>173|46=>198|47=>199|48=>200|49=>201|50=>202|57=>212|n=>n,λ |22=>53|24=>74|25=>107|3=>3|39=>176|0=>0|53=>199|55=>201|4=>4|46=>192|45=>191|50=>196|5=>5|9=>9|66=>220|70=>179|76=>235|77=>236|n=>n,λ |n=>n⟩
theorem Tryz.sortF:Go.Proofs.SlLaysF.n6 Tryz.prog Tryz.sortF_ren:={
 mixed:=by kernel_rfl
 f6:=⟨Tryz.f107.name,by decide,Tryz.func107.trans (congrArg some (by kernel_rfl))⟩
 f14:=⟨Tryz.f133.name,by decide,Tryz.func133.trans (congrArg some (by kernel_rfl))⟩
 f15:=Tryz.func134.trans (congrArg some (by kernel_rfl))
 f20:=⟨Tryz.f166.name,by decide,Tryz.func166.trans (congrArg some (by kernel_rfl))⟩
 f21:=⟨Tryz.f167.name,by decide,Tryz.func167.trans (congrArg some (by kernel_rfl))⟩
 f22:=⟨Tryz.f168.name,by decide,Tryz.func168.trans (congrArg some (by kernel_rfl))⟩
 f23:=⟨Tryz.f169.name,by decide,Tryz.func169.trans (congrArg some (by kernel_rfl))⟩
 f24:=⟨Tryz.f170.name,by decide,Tryz.func170.trans (congrArg some (by kernel_rfl))⟩
 f25:=⟨Tryz.f171.name,by decide,Tryz.func171.trans (congrArg some (by kernel_rfl))⟩
 f26:=⟨Tryz.f172.name,by decide,Tryz.func172.trans (congrArg some (by kernel_rfl))⟩
 f27:=⟨Tryz.f173.name,by decide,Tryz.func173.trans (congrArg some (by kernel_rfl))⟩
 f28:=Tryz.func174.trans (congrArg some (by kernel_rfl))
 f29:=Tryz.func175.trans (congrArg some (by kernel_rfl))
 f46:=⟨Tryz.f198.name,by decide,Tryz.func198.trans (congrArg some (by kernel_rfl))⟩
 f47:=Tryz.func199.trans (congrArg some (by kernel_rfl))
 f48:=Tryz.func200.trans (congrArg some (by kernel_rfl))
 f49:=⟨Tryz.f201.name,by decide,Tryz.func201.trans (congrArg some (by kernel_rfl))⟩
 f50:=⟨Tryz.f202.name,by decide,Tryz.func202.trans (congrArg some (by kernel_rfl))⟩
 f57:=⟨Tryz.f212.name,by decide,Tryz.func212.trans (congrArg some (by kernel_rfl))⟩
 t0:=Tryz.underlying0
 a0:=Tryz.isAgg0
 z0:=Tryz.sizeOf0
 v0:=Tryz.zeroValue0
 t3:=Tryz.underlying3
 a3:=Tryz.isAgg3
 z3:=Tryz.sizeOf3
 v3:=Tryz.zeroValue3
 t4:=Tryz.underlying4
 a4:=Tryz.isAgg4
 z4:=Tryz.sizeOf4
 v4:=Tryz.zeroValue4
 t5:=Tryz.underlying5
 a5:=Tryz.isAgg5
 z5:=Tryz.sizeOf5
 v5:=Tryz.zeroValue5
 t9:=Tryz.underlying9
 a9:=Tryz.isAgg9
 z9:=Tryz.sizeOf9
 v9:=Tryz.zeroValue9
 t22:=Tryz.underlying53
 a22:=Tryz.isAgg53
 z22:=Tryz.sizeOf53
 v22:=Tryz.zeroValue53
 a24:=Tryz.isAgg74
 z24:=Tryz.sizeOf74
 t25:=Tryz.underlying107
 a25:=Tryz.isAgg107
 z25:=Tryz.sizeOf107
 v25:=Tryz.zeroValue107
 t39:=Tryz.underlying176
 a39:=Tryz.isAgg176
 z39:=Tryz.sizeOf176
 v39:=Tryz.zeroValue176
 t45:=Tryz.underlying191
 a45:=Tryz.isAgg191
 z45:=Tryz.sizeOf191
 v45:=Tryz.zeroValue191
 t46:=Tryz.underlying192
 a46:=Tryz.isAgg192
 z46:=Tryz.sizeOf192
 v46:=Tryz.zeroValue192
 t50:=Tryz.underlying196
 a50:=Tryz.isAgg196
 z50:=Tryz.sizeOf196
 v50:=Tryz.zeroValue196
 t53:=Tryz.underlying199
 a53:=Tryz.isAgg199
 z53:=Tryz.sizeOf199
 v53:=Tryz.zeroValue199
 t55:=Tryz.underlying201
 a55:=Tryz.isAgg201
 z55:=Tryz.sizeOf201
 v55:=Tryz.zeroValue201
 t66:=Tryz.underlying220
 a66:=Tryz.isAgg220
 z66:=Tryz.sizeOf220
 v66:=Tryz.zeroValue220
 t70:=Tryz.underlying179
 a70:=Tryz.isAgg179
 z70:=Tryz.sizeOf179
 v70:=Tryz.zeroValue179
 t76:=Tryz.underlying235
 a76:=Tryz.isAgg235
 z76:=Tryz.sizeOf235
 v76:=Tryz.zeroValue235
 t77:=Tryz.underlying236
 a77:=Tryz.isAgg236
 z77:=Tryz.sizeOf236
 v77:=Tryz.zeroValue236}
def Tryz.sortN_ren:Go.Shelf.Ren:=⟨λ |6=>107|15=>134|14=>133|28=>174|29=>175|20=>166|21=>167|22=>168|23=>169|24=>170|25=>171|26=>172|27=>173|46=>198|47=>199|48=>200|49=>201|50=>202|57=>212|n=>n,λ |22=>53|24=>74|25=>107|3=>3|39=>176|0=>0|53=>199|55=>201|4=>4|46=>192|45=>191|50=>196|5=>5|9=>9|66=>220|70=>179|76=>235|77=>236|n=>n,λ |n=>n⟩
theorem Tryz.sortN:Go.Proofs.SlLaysF0.n6 Tryz.prog Tryz.sortN_ren:={
 mixed:=by kernel_rfl
 f6:=⟨Tryz.f107.name,by decide,Tryz.func107.trans (congrArg some (by kernel_rfl))⟩
 f14:=⟨Tryz.f133.name,by decide,Tryz.func133.trans (congrArg some (by kernel_rfl))⟩
 f15:=Tryz.func134.trans (congrArg some (by kernel_rfl))
 f20:=⟨Tryz.f166.name,by decide,Tryz.func166.trans (congrArg some (by kernel_rfl))⟩
 f21:=⟨Tryz.f167.name,by decide,Tryz.func167.trans (congrArg some (by kernel_rfl))⟩
 f22:=⟨Tryz.f168.name,by decide,Tryz.func168.trans (congrArg some (by kernel_rfl))⟩
 f23:=⟨Tryz.f169.name,by decide,Tryz.func169.trans (congrArg some (by kernel_rfl))⟩
 f24:=⟨Tryz.f170.name,by decide,Tryz.func170.trans (congrArg some (by kernel_rfl))⟩
 f25:=⟨Tryz.f171.name,by decide,Tryz.func171.trans (congrArg some (by kernel_rfl))⟩
 f26:=⟨Tryz.f172.name,by decide,Tryz.func172.trans (congrArg some (by kernel_rfl))⟩
 f27:=⟨Tryz.f173.name,by decide,Tryz.func173.trans (congrArg some (by kernel_rfl))⟩
 f28:=Tryz.func174.trans (congrArg some (by kernel_rfl))
 f29:=Tryz.func175.trans (congrArg some (by kernel_rfl))
 f46:=⟨Tryz.f198.name,by decide,Tryz.func198.trans (congrArg some (by kernel_rfl))⟩
 f47:=Tryz.func199.trans (congrArg some (by kernel_rfl))
 f48:=Tryz.func200.trans (congrArg some (by kernel_rfl))
 f49:=⟨Tryz.f201.name,by decide,Tryz.func201.trans (congrArg some (by kernel_rfl))⟩
 f50:=⟨Tryz.f202.name,by decide,Tryz.func202.trans (congrArg some (by kernel_rfl))⟩
 f57:=⟨Tryz.f212.name,by decide,Tryz.func212.trans (congrArg some (by kernel_rfl))⟩
 t0:=Tryz.underlying0
 a0:=Tryz.isAgg0
 z0:=Tryz.sizeOf0
 v0:=Tryz.zeroValue0
 t3:=Tryz.underlying3
 a3:=Tryz.isAgg3
 z3:=Tryz.sizeOf3
 v3:=Tryz.zeroValue3
 t4:=Tryz.underlying4
 a4:=Tryz.isAgg4
 z4:=Tryz.sizeOf4
 v4:=Tryz.zeroValue4
 t5:=Tryz.underlying5
 a5:=Tryz.isAgg5
 z5:=Tryz.sizeOf5
 v5:=Tryz.zeroValue5
 t9:=Tryz.underlying9
 a9:=Tryz.isAgg9
 z9:=Tryz.sizeOf9
 v9:=Tryz.zeroValue9
 t22:=Tryz.underlying53
 a22:=Tryz.isAgg53
 z22:=Tryz.sizeOf53
 v22:=Tryz.zeroValue53
 t25:=Tryz.underlying107
 a25:=Tryz.isAgg107
 z25:=Tryz.sizeOf107
 v25:=Tryz.zeroValue107
 t39:=Tryz.underlying176
 a39:=Tryz.isAgg176
 z39:=Tryz.sizeOf176
 v39:=Tryz.zeroValue176
 t45:=Tryz.underlying191
 a45:=Tryz.isAgg191
 z45:=Tryz.sizeOf191
 v45:=Tryz.zeroValue191
 t46:=Tryz.underlying192
 a46:=Tryz.isAgg192
 z46:=Tryz.sizeOf192
 v46:=Tryz.zeroValue192
 t50:=Tryz.underlying196
 a50:=Tryz.isAgg196
 z50:=Tryz.sizeOf196
 v50:=Tryz.zeroValue196
 t53:=Tryz.underlying199
 a53:=Tryz.isAgg199
 z53:=Tryz.sizeOf199
 v53:=Tryz.zeroValue199
 t55:=Tryz.underlying201
 a55:=Tryz.isAgg201
 z55:=Tryz.sizeOf201
 v55:=Tryz.zeroValue201
 t66:=Tryz.underlying220
 a66:=Tryz.isAgg220
 z66:=Tryz.sizeOf220
 v66:=Tryz.zeroValue220
 t70:=Tryz.underlying179
 a70:=Tryz.isAgg179
 z70:=Tryz.sizeOf179
 v70:=Tryz.zeroValue179
 t76:=Tryz.underlying235
 a76:=Tryz.isAgg235
 z76:=Tryz.sizeOf235
 v76:=Tryz.zeroValue235
 t77:=Tryz.underlying236
 a77:=Tryz.isAgg236
 z77:=Tryz.sizeOf236
 v77:=Tryz.zeroValue236}
def Tryz.searchO_ren:Go.Shelf.Ren:=⟨λ |16=>192|n=>n,λ |3=>3|35=>48|4=>4|38=>176|n=>n,λ |n=>n⟩
theorem Tryz.searchO:Go.Proofs.SlLaysO.n16 Tryz.prog Tryz.searchO_ren:={
 mixed:=by kernel_rfl
 f16:=Tryz.func192.trans (congrArg some (by kernel_rfl))
 t3:=Tryz.underlying3
 a3:=Tryz.isAgg3
 z3:=Tryz.sizeOf3
 v3:=Tryz.zeroValue3
 t4:=Tryz.underlying4
 a4:=Tryz.isAgg4
 z4:=Tryz.sizeOf4
 v4:=Tryz.zeroValue4
 t35:=Tryz.underlying48
 a35:=Tryz.isAgg48
 z35:=Tryz.sizeOf48
 v35:=Tryz.zeroValue48
 t38:=Tryz.underlying176
 a38:=Tryz.isAgg176
 z38:=Tryz.sizeOf176
 v38:=Tryz.zeroValue176}
end Go.Proofs
namespace Go.Ps
open Go Go.Vc Go.Proofs
variable{K:CV->MH->PH->Prop}{m:MH}{h:PH}{s:nY}{ps:List Int}{cb:Nat}{sc:bR}{v:QV}{q:Query}{p:Pred}{l:List Int}{i:Nat}{N:Nat}{m':MH}{h':PH}{co:List Int}{gr:List Int}{od:List (Int×Bool)}{w:Pred}{ta:Int}{li:Int}{xs:List (List Value)}{sz:Nat}{k:Nat}{ks:List (List Int)}{rs:List Int}{r:Sl}{a:List Int}{b:Nat}
def jD(m:MH):Prop:=∃T fz,m 1=some (.cells (Lib.pow10Tab.map λz=>Value.int .u64 z).toArray T fz)
def cU(u:Nat):CV:=.val (.int .u64 u)
def Zz:Vc.Spec:=λcvs m h K=>∃i:Nat,cvs=[cI i]/\i<100/\K (M0 ⟨(Lib.decDigits i).toArray⟩) m h
def Ta:Vc.Spec:=λcvs m h K=>∃u:Nat,cvs=[cU u]/\1<=u/\u<18446744073709551616/\jD m/\K (cI (Lib.nDigits u)) m h
def Zw:Vc.Spec:=λcvs m h K=>∃b cap u:Nat,∃(cs:Array Value)(T:TypeId),cvs=[.val (.slice (some ⟨b,0,none⟩) (Lib.nDigits u) cap),cU u]/\u<18446744073709551616/\m b=some (.cells cs T (0,0))/\cs.toList=List.replicate 24 (.int .u8 0)/\
 ∀cs' m',cs'.size=cs.size->cs'.toList.take (Lib.nDigits u)=Lib.byteCells (Lib.decDigits u)->jQ m m' b (.cells cs' T (0,0))->K (.tup []) m' h
def YO:Vc.Spec:=λcvs m h K=>∃xs,∃u:Nat,cvs=[.lst 5 1 xs,cU u,cI 10]/\u<18446744073709551616/\jD m/\xs.length+30<=140737488355328/\K (.lst 5 1 (xs++aY (Lib.decDigits u))) m h
def kH(i:Int):List UInt8:=if i<0 then 45::Lib.decDigits (IntKind.u64.wrap (0-IntKind.u64.wrap i)).toNat else Lib.decDigits (IntKind.u64.wrap i).toNat
def Tq:Vc.Spec:=λcvs m h K=>∃xs i,cvs=[.lst 5 1 xs,cI i,cI 10]/\jD m/\xs.length+40<=140737488355328/\K (.lst 5 1 (xs++aY (kH i))) m h
noncomputable abbrev HP(a:Nat):List (List Value):=iC (ByteArray.mk (Array.mk (Lib.decDigits a)))
noncomputable abbrev A1(a:List Value):List Value:=aT (Bp 0) (Bp 0) (aT (Bp 0) (Bp 0) (aT (Bp 0) (Bp 0) (aT (Bp 0) (Bp 0) a)))
noncomputable abbrev AE(a:Int):Value:=Value.int IntKind.u64 a
abbrev I8(a:Nat):Prop:=a<18446744073709551616
noncomputable abbrev kC(a:Nat):Option Addr:=Option.some (Addr.mk a 0 Option.none)
attribute [push_cast] HP A1 AE I8 kC
def Gi(xs:List (List Value))(u:Nat)(m:MH)(h:PH)(K:CV->MH->PH->Prop):Prop:=
  aW (↑u:Int) 100 (∃(i:Nat),aA (vL (fH (iN (↑u:Int)))=vL (fH (↑i:Int))) (i<100) (aA (pX xs (HP i) 1) (eO (pY xs (HP i))) (K (CV.lst 5 1 (xs++HP i)) m h))) (∀(b:Nat)(m1:MH),aR (cH m h b) (bC m m1 b (A1 (A1 (A1 []))) 246) (∃(u1:Nat),aA (vL (CV.val (AE (↑u:Int)))=vL (CV.val (AE (↑u1:Int)))) (1<=u1) (aA (I8 u1) (jD m1) (aA (cG (↑(Lib.nDigits u1):Int)) ((↑(Lib.nDigits u1):Int)<=24) (bD (λb1 c=>∃(u2:Nat),fD (λc1 T=>aA (bK (CV.val (Value.slice (kC b) (pU (Lib.nDigits u1)) 24)) (CV.val (AE (↑u:Int)))=bK (CV.val (Value.slice (kC b1) (Lib.nDigits u2) c)) (CV.val (AE (↑u2:Int)))) (I8 u2) (aA (m1 b1=Option.some (dY c1 T 0)) (c1.toList=A1 (A1 (A1 []))) (∀(c2:Array Value)(m2:MH),
 aR (c2.size=c1.size) (List.take (Lib.nDigits u2) c2.toList=Lib.byteCells (Lib.decDigits u2)) (jQ m1 m2 b1 (dY c2 T 0)->zG (cG (↑(Lib.nDigits u1):Int)) ((↑(Lib.nDigits u1):Int)<=24) (λy=>aA (eG 1 y) (oJ m2 h (Sl.mk (kC b) (pU (Lib.nDigits u1)) 24) 1 y) (aA (pX xs y 1) (eO (pY xs y)) (K (CV.lst 5 1 (xs++y)) m2 h)))))))))))))
noncomputable abbrev H5(a:Int):Int:=IntKind.wrap IntKind.u64 a
attribute [push_cast] H5
def K5(xs:List (List Value))(i:Int)(m:MH)(h:PH)(K:CV->MH->PH->Prop):Prop:=
  aW i 0 (zG (eO (lI xs 1*1)) (dN xs) (λx=>∃(u:Nat),aA (CV.lst 5 1 (eT xs (iR (Bp 45)))::cJ (CV.val (AE (H5 (0-H5 i)))) 10=CV.lst 5 1 x::cJ (CV.val (AE (↑u:Int))) 10) (I8 u) (aA (jD m) (eO (lI x 30)) (K (CV.lst 5 1 (x++aY (Lib.decDigits u))) m h)))) (∃(x:List (List Value))(u:Nat),aA (CV.lst 5 1 xs::cJ (CV.val (AE (H5 i))) 10=CV.lst 5 1 x::cJ (CV.val (AE (↑u:Int))) 10) (I8 u) (aA (jD m) (eO (lI x 30)) (K (CV.lst 5 1 (x++aY (Lib.decDigits u))) m h)))
noncomputable abbrev vJ(a:List (List Value))(b:Int):List CV:=CV.lst 5 1 a::cJ (fH b) 10
attribute [push_cast] vJ
def Ul(xs:List (List Value))(i:Int)(m:MH)(h:PH)(K:CV->MH->PH->Prop):Prop:=
  ∃(x:List (List Value))(i1:Int),aH (vJ xs i=vJ x i1) (jD m) (eO (lI x 40)) (K (CV.lst 5 1 (x++aY (kH i1))) m h)
theorem jD.sub(h:jD m)(hs:Sub m m'):jD m':=by
 obtain⟨T,fz,e⟩:=h;exact⟨T,fz,hs 1 _ e⟩
theorem FF{w:World}{cvs:List CV}{vs:List Value}(hp:wE w m h cvs vs):zN ⟨w,rW m cvs vs,h,[]⟩ m h w:=
 ⟨rfl,rfl,rfl,Nat.le_refl _,Nat.le_refl _,λ_ _ _=>rfl,hp.hsat,hp.msat,hp.disj,λ_ _ _ e=>e,λ_ _ _=>rfl,λb o hb=>.inr (.inl (by rw[show m b=some o from hb];simp))⟩
theorem Qs:Sound Tryz.prog 227 Zz:=by
 refine⟨⟨Tryz.f227,Tryz.func227,rfl,by decide⟩,?_⟩;rintro cvs vs m h w K ⟨i,rfl,hi,hK⟩ hp
 obtain⟨v,rfl⟩:∃v,vs=[v]:=by
  have:=(mQ hp.args).1
  match vs,this with
  |[v],_=>exact⟨v,rfl⟩
 have hv:v= .int .i64 i:=hp.args.1;subst hv;refine(Tryz.internal_strconv_small i hi w).mono ?_;rintro e w' ⟨rfl,rfl⟩;exact⟨_,_,m,h,rfl,hK,rfl,FF hp,λb hb=>by simp[M0,gH]at hb⟩
theorem Qr:Sound Tryz.prog 228 Ta:=by
 refine⟨⟨Tryz.f228,Tryz.func228,rfl,by decide⟩,?_⟩;rintro cvs vs m h w K ⟨u,rfl,h1,h2,⟨T,fz,ht⟩,hK⟩ hp
 obtain⟨v,rfl⟩:∃v,vs=[v]:=by
  have:=(mQ hp.args).1
  match vs,this with
  |[v],_=>exact⟨v,rfl⟩
 have hv:v= .int .u64 u:=hp.args.1;subst hv;have hg:=hp.msat 1 _ ht;refine(Tryz.internal_strconv_numDigits u h1 h2 w ?_).mono ?_
 .unfold Lib.TabIs World.var?;rw[show Tryz.prog.globalNamed _=some 1 by kernel_rfl];simp only[Option.bind_some,hg]
 .rintro e w' ⟨rfl,rfl⟩;exact⟨_,_,m,h,rfl,hK,rfl,FF hp,λb hb=>by simp[cI,gH]at hb⟩
theorem Qq:Sound Tryz.prog 229 Zw:=by
 refine⟨⟨Tryz.f229,Tryz.func229,rfl,by decide⟩,?_⟩;rintro cvs vs m h w K ⟨b,cap,u,cs,T,rfl,hu,hb,hcs,hK⟩ hp
 obtain⟨v,v2,rfl⟩:∃v v2,vs=[v,v2]:=by
  have:=(mQ hp.args).1
  match vs,this with
  |[v,v2],_=>exact⟨v,v2,rfl⟩
 have hv:v= .slice (some ⟨b,0,none⟩) (Lib.nDigits u) cap:=hp.args.1;have hv2:v2= .int .u64 u:=hp.args.2.1;subst hv hv2;have hg:=hp.msat b _ hb;have h20:=Lib.nDigits_le20 u hu;have hsz:cs.size=24:=by rw[<-Array.length_toList,hcs];simp
 have hH:Sort.Holds (fun(b:UInt8)=>Value.int .u8 (b.toNat:Int)) w b 0 (Array.replicate (Lib.nDigits u) (0:UInt8)):=by
  intro j hj;simp only[Array.size_replicate]at hj;refine⟨?_,?_⟩
  .rw[cell_of_heap hg,hcs,List.getElem?_replicate,if_pos aC];rw[getElem!_pos _ j (by simpa using hj)];simp
  .unfold World.frozen?;rw[hg];simp
 have hc:=Tryz.internal_strconv_formatBase10 b 0 cap u (Array.replicate (Lib.nDigits u) (0:UInt8)) w hH (by simpa using Lib.lt_pow_nDigits u) hu (by simp;omega);rw[Array.size_replicate]at hc;refine hc.mono ?_;rintro e w' ⟨rfl,n,v',dk,rfl,hf⟩;have hds:dk.size=Lib.nDigits u:=hf.size;obtain⟨m',hm'⟩:∃m',jQ m m' b (.cells (Sort.putCells (fun(b:UInt8)=>Value.int .u8 (b.toNat:Int)) 0 dk cs) T (0,0)):=⟨λb'=>if b'=b then some (.cells (Sort.putCells (fun(b:UInt8)=>Value.int .u8 (b.toNat:Int)) 0 dk cs) T (0,0))else m b',by simp,λb' hb'=>by simp[hb']⟩
 have hnew:(Sort.putRow (fun(b:UInt8)=>Value.int .u8 (b.toNat:Int)) w b 0 dk).heap[b]? =some (.cells (Sort.putCells (fun(b:UInt8)=>Value.int .u8 (b.toNat:Int)) 0 dk cs) T (0,0)):=by
  unfold Sort.putRow Sort.mapBlock;simp only[Array.getElem?_modify,if_true,hg];rfl
 have hold:∀b',b'≠b->(Sort.putRow (fun(b:UInt8)=>Value.int .u8 (b.toNat:Int)) w b 0 dk).heap[b']? =w.heap[b']? :=λb' hb'=>by
  unfold Sort.putRow Sort.mapBlock;simp only[Array.getElem?_modify,if_neg (Ne.symm hb')]
 refine⟨.tup [],.tuple #[],m',h,rfl,hK _ m' ?_ ?_ hm',⟨#[],rfl,rfl⟩,?_,λb hb=>by simp[gH]at hb⟩
 .simp[Sort.putCells]
 .apply List.ext_getElem?;intro j;rw[List.getElem?_take];have hl:(Lib.byteCells (Lib.decDigits u)).length=Lib.nDigits u:=by rw[Lib.byteCells_length,Lib.decDigits_length]
  by_cases hj:j<Lib.nDigits u
  .rw[if_pos hj,Array.getElem?_toList];have hj2:j<(Lib.decDigits u).length:=by rw[Lib.decDigits_length];exact hj
   have hcsj:j<cs.size:=by omega
   simp only[Sort.putCells,Array.getElem?_mapIdx,Array.getElem?_eq_getElem hcsj,Option.map_some,Nat.zero_le,Nat.zero_add,Nat.sub_zero,true_and];rw[if_pos aC,Lib.byteCells,List.getElem?_map,List.getElem?_eq_getElem hj2,Lib.row_is_numeral hf j hj2];rfl
  .rw[if_neg hj,List.getElem?_eq_none aC]
 .have hmb:∀b' o,m' b'=some o->b'=b\/m b'=some o:=λb' o hb'=>by
   by_cases e:b'=b
   .exact .inl e
   .rw[hm'.other b' e]at hb';exact .inr hb'
  have hE:rW m [.val (.slice (some ⟨b,0,none⟩) (Lib.nDigits u) cap),cU u] [.slice (some ⟨b,0,none⟩) (Lib.nDigits u) cap,.int .u64 u] b:=.inl (by rw[hb];simp);refine⟨rfl,rfl,rfl,Nat.le_add_right _ _,by simp[Sort.putRow,Sort.mapBlock],?_,?_,?_,?_,λ_ _ _ e=>e,λ_ _ _=>rfl,?_⟩
  .intro b' _ hn;exact hold b' (λe=>hn (e▸hE))
  .intro b' o x hx;have hne:b'≠b:=λe=>by rw[e,hp.disj b _ hb o]at hx;cases hx
   show(Sort.putRow (fun(b:UInt8)=>Value.int .u8 (b.toNat:Int)) w b 0 dk).cell? ⟨b',o,none⟩=some x;rw[World.cell?_of_block (w:=w) (a:=⟨b',o,none⟩) (hold b' hne)];exact hp.hsat b' o x hx
  .intro b' o hb';by_cases e:b'=b
   .subst e;rw[hm'.at_]at hb';cases hb';exact hnew
   .rw[hm'.other b' e]at hb';rw[show((Sort.putRow (fun(b:UInt8)=>Value.int .u8 (b.toNat:Int)) w b 0 dk).drewN n).heap[b']? =_ from hold b' e];exact hp.msat b' o hb'
  .intro b' o hb' j;rcases hmb b' o hb' with rfl|h1
   .exact hp.disj b' _ hb j
   .exact hp.disj b' _ h1 j
  .intro b' o hb';rcases hmb b' o hb' with rfl|h1
   .exact .inr hE
   .exact .inr (.inl (by rw[h1];simp))
theorem Cg(l:List UInt8):iC ⟨l.toArray⟩=aY l:=by simp[iC,aY]
theorem GL(l:List UInt8):(aY l).flatten=Lib.byteCells l:=by
 unfold aY Lib.byteCells
 induction l with
 |nil=>rfl
 |cons b r ih=>simp[ih]
theorem mT(l:List UInt8):(aY l).length=l.length:=by simp[aY]
theorem Qt:Sound Tryz.prog 226 YO:=by
 refine Fa Tryz.func226 ?_;rintro cvs m h K ⟨xs,u,rfl,hu,ht,hl,hK⟩;refine⟨uM [(227,Zz),(228,Ta),(229,Zw)] [] [] [] [246] [] true,rfl,aD Qs (aD Qr (aD Qq aF)),Gi xs u m h (kG h K),by kernel_rfl,?_⟩;show Gi xs u m h (kG h K);dsimp only[Gi,push_cast];have h20:=Lib.nDigits_le20 u hu;have hdl:=Lib.decDigits_length u;refine aE (λh1=>⟨u,?_,aC,?_,?_,?_⟩) (λh1 b m1 hb hm1=>?_)
 .rw[eB aC aC]
 .rw[Cg,mT];omega
 .rw[Cg,mT];omega
 .rw[Cg];exact .here hK
 .have hs1:Sub m m1:=(Sub.refl m).upd hb.m_ hm1.other;refine⟨u,rfl,aC,hu,ht.sub hs1,aC,aC,b,24,u,_,_,by rw[Int.toNat_natCast],hu,hm1.at_,rfl,λcs' m2 hsz htake hm2=>⟨aC,aC,aY (Lib.decDigits u),Eh _,?_,?_,?_,?_⟩⟩
  .refine .lent b 0 cs' 246 (0,0) rfl ?_ hm2.at_ ?_
   .rw[Int.toNat_natCast,mT,hdl]
   .rw[GL,Lib.byteCells_length,hdl,List.drop_zero];exact htake
  .rw[mT];omega
  .rw[mT];omega
  .exact .sub (hs1.upd hb.m_ hm2.other) hK
theorem UY(i:Int):0<=IntKind.u64.wrap i/\IntKind.u64.wrap i<18446744073709551616:=by
 simp only[IntKind.wrap,IntKind.bits,IntKind.signed];simp;omega
theorem wH(i:Int):(kH i).length<=21:=by
 have key:∀n:Int,(Lib.decDigits (IntKind.u64.wrap n).toNat).length<=20:=λn=>by
  rw[Lib.decDigits_length];exact Lib.nDigits_le20 _ (by have:=UY n;omega)
 unfold kH;split
 .have:=key (0-IntKind.u64.wrap i);simp only[List.length_cons];omega
 .have:=key i;omega
theorem Qu:Sound Tryz.prog 225 Tq:=by
 refine iB Tryz.func225 ?_;rintro cvs m h K ⟨xs,i,rfl,ht,hl,hK⟩;refine⟨uM [(226,YO)] [] [] [] [] [(226,[0])] true,rfl,aD Qt aF,K5 xs i m h K,by kernel_rfl,?_⟩;dsimp only[K5,push_cast];have h1:=UY i;have h2:=UY (0-IntKind.u64.wrap i);refine aE (λhn=>⟨aC,aC,xs++[[.int .u8 45]],(IntKind.u64.wrap (0-IntKind.u64.wrap i)).toNat,?_,aC,ht,by simp;omega,?_⟩) (λhn=>⟨xs,(IntKind.u64.wrap i).toNat,?_,aC,ht,aC,?_⟩)
 .rw[show(((IntKind.u64.wrap (0-IntKind.u64.wrap i)).toNat:Nat):Int)=IntKind.u64.wrap (0-IntKind.u64.wrap i)by omega]
 .have:kH i=45::Lib.decDigits (IntKind.u64.wrap (0-IntKind.u64.wrap i)).toNat:=by unfold kH;rw[if_pos hn]
  rw[this]at hK;rw[List.append_assoc];exact hK
 .rw[show(((IntKind.u64.wrap i).toNat:Nat):Int)=IntKind.u64.wrap i by omega]
 .have:kH i=Lib.decDigits (IntKind.u64.wrap i).toNat:=by unfold kH;rw[if_neg hn]
  rw[this]at hK;exact hK
theorem Qv:Sound Tryz.prog 223 Tq:=by
 refine iB Tryz.func223 ?_;rintro cvs m h K ⟨xs,i,rfl,ht,hl,hK⟩;refine⟨uM [(225,Tq)] [] [] [] [] [(225,[0])] true,rfl,aD Qu aF,Ul xs i m h K,by kernel_rfl,?_⟩;exact⟨xs,i,rfl,ht,hl,hK⟩
def xG(a b:Int):Int:=if a<b then-1 else if b<a then 1 else 0
def Kp(a b:ByteArray):Int:=Lib.compareBytes a.data.toList b.data.toList
def j8(a b:VV):Int:=if xG a.kind b.kind≠0 then xG a.kind b.kind else if xG a.int b.int≠0 then xG a.int b.int else Kp a.text b.text
def dT:List VV->List VV->Int
 |[],[]=>0
 |[],_::_=> -1
 |_::_,[]=>1
 |x::xs,y::ys=>if j8 x y≠0 then j8 x y else dT xs ys
def Yh:Vc.Spec:=λcvs m h K=>∃n,cvs=[cI n]/\K (cB false) m h
def Tl:Vc.Spec:=λcvs m h K=>∃a b,cvs=[cI a,cI b]/\K (cI (xG a b)) m h
def YK:Vc.Spec:=λcvs m h K=>∃a b,cvs=[M0 a,M0 b]/\K (cI (Kp a b)) m h
def L1:Vc.Spec:=λcvs m h K=>∃a b,cvs=[aV a,aV b]/\K (cI (j8 a b)) m h
def FD:Vc.Spec:=λcvs m h K=>∃s t a b,cvs=[cS s,cS t]/\cC h s a/\cC h t b/\K (cI (dT a b)) m h
def YM:Vc.Spec:=λcvs m h K=>∃s t a b,cvs=[cS s,cS t,.val (.func (.func 70) #[] #[])]/\cC h s a/\cC h t b/\K (cI (dT a b)) m h
def Rows(h:PH)(s:Sl)(l:List (List VV)):Prop:=bH h 1 eS (λr t=>cC h t r) s l
def Yu:Vc.Spec:=λcvs m h K=>∃s t a b,cvs=[cS s,cS t]/\Rows h s a/\Rows h t b/\∀r:Bool,(r=true↔a=b)->K (cB r) m h
noncomputable def V7(s t:Sl)(m:MH)(h:PH):Ctx:=
 dL [(70,L1)] [(2,{A:=Nat,st:=λi=>cD 39 42 [(0,sv s),(1,sv t),(2,vv (.func (.func 70) #[] #[])),(11,sv s),(12,iv s.len),(13,iv i)] [] m h})] [] [] false
noncomputable def Xy(s t:Sl)(m:MH)(h:PH):Ctx:=
 dL [(90,L1)] [(2,{A:=Nat,st:=λi=>cD 43 45 [(0,sv s),(1,sv t),(5,iv i)] [] m h})] [] [] false
noncomputable def XN(s t:Sl)(m:MH)(h:PH):Ctx:=
 dL [(62,FD)] [(4,{A:=Nat,st:=λi=>cD 27 29 [(0,sv s),(1,sv t),(12,iv s.len),(13,iv i)] [] m h})] [] [] false
def Uy(n:Int)(m:MH)(h:PH)(K:CV->MH->PH->Prop):Prop:=
  K (zR (n !=n)) m h
def Ux(n:Int)(m:MH)(h:PH)(K:CV->MH->PH->Prop):Prop:=
  K (zR (n !=n)) m h
def GF(a b:Int)(m:MH)(h:PH)(K:CV->MH->PH->Prop):Prop:=
  ∃(n:Int),nR a n/\∃(n1:Int),nR b n1/\aW a b (K (fH (Int.negSucc 0)) m h) (eX a b (K (fH 1) m h) (K (fH 0) m h))
def UE(a b:Int)(m:MH)(h:PH)(K:CV->MH->PH->Prop):Prop:=
  ∃(n:Int),nR a n/\∃(n1:Int),nR b n1/\aW a b (K (fH (Int.negSucc 0)) m h) (eX a b (K (fH 1) m h) (K (fH 0) m h))
def OO(a b:VV)(m:MH)(h:PH)(K:CV->MH->PH->Prop):Prop:=
  ∃(r:Bool),hZ (oP 27 a.enc b.enc r) r (K (fH 0) m h) (∃(a1 b1:Int),hZ (cJ (fH a.kind) b.kind=cJ (fH a1) b1) (xG a1 b1 !=0) (K (fH (xG a1 b1)) m h) (∃(a2 b2:Int),hZ (cJ (fH a.int) b.int=cJ (fH a2) b2) (xG a2 b2 !=0) (K (fH (xG a2 b2)) m h) (∃(a3 b3:ByteArray),bK (CV.val (Value.string a.text)) (CV.val (Value.string b.text))=bK (jI a3) (jI b3)/\K (fH (Kp a3 b3)) m h)))
def OB(a b:VV)(m:MH)(h:PH)(K:CV->MH->PH->Prop):Prop:=
  aW a.kind b.kind (K (fH (Int.negSucc 0)) m h) (eX a.kind b.kind (K (fH 1) m h) (aW a.int b.int (K (fH (Int.negSucc 0)) m h) (dA (decide (a.int>b.int)) (K (fH 1) m h) (Op.bytesLess (yL a) (yL b)) (K (fH (Int.negSucc 0)) m h) (branch (!(Bool.or (Op.bytesLess (yL a) (yL b)) (yL a==yL b))) (K (fH 1) m h) (K (fH 0) m h)))))
def LJ(s t:Sl)(m:MH)(h:PH)(K:CV->MH->PH->Prop):Prop:=
  lV (λI x=>aA (I x) (aJ s) (aA (aJ t) (A2 70) (aA (aJ s) (bJ s) (aA (aZ x) (m=m) (bN h h))))) (λI m1 x=>I x->aW (↑x:Int) (aG s) (bD (λb o=>aH (bE s.a b o) (0<=(↑x:Int)) ((↑x:Int)<aG s) (∃(y:VV),aL m h b (bF o x 3) y.enc/\gK (↑x:Int) (aG t) (K (fH 1) m h) (bD (λb1 o1=>aH (bE t.a b1 o1) (0<=(↑x:Int)) ((↑x:Int)<aG t) (∃(y1:VV),aL m h b1 (bF o1 x 3) y1.enc/\∃(a b2:VV),bK (fC y) (fC y1)=bK (fC a) (fC b2)/\gV (j8 a b2 !=0) (K (fH (j8 a b2)) m h) (λx1=>aA (I x1) (m1 x1<m1 x) (aA (aJ s) (aJ t) (aA (A2 70) (aJ s) (aA (bJ s) (fV (bB x 1)=bM x1) (bT (m=m) h h))))))))))) (aW (aG s) (aG t) (K (fH (Int.negSucc 0)) m h) (K (fH 0) m h)))
def Vq(s t:Sl)(m:MH)(h:PH)(K:CV->MH->PH->Prop):Prop:=
  j3 (λs1 t1=>∃(a b:List VV),aH (cW s (gL t (CV.val (jA 70)))=cW s1 (gL t1 (CV.val (jA 70)))) (cC h s1 a) (cC h t1 b) (K (fH (dT a b)) m h))
def OW(s t:Sl)(m:MH)(h:PH)(K:CV->MH->PH->Prop):Prop:=
  lV (λI x=>aA (I x) (aJ s) (aA (aJ t) (aZ x) (bT (m=m) h h))) (λI m1 x=>I x->aW (↑x:Int) (aG s) (aW (↑x:Int) (aG t) (bD (λb o=>aH (bE s.a b o) (0<=(↑x:Int)) ((↑x:Int)<aG s) (∃(y:VV),aL m h b (bF o x 3) y.enc/\bD (λb1 o1=>aH (bE t.a b1 o1) (0<=(↑x:Int)) ((↑x:Int)<aG t) (∃(y1:VV),aL m h b1 (bF o1 x 3) y1.enc/\∃(a b2:VV),bK (fC y) (fC y1)=bK (fC a) (fC b2)/\gV (j8 a b2 !=0) (K (fH (j8 a b2)) m h) (λx1=>aA (I x1) (m1 x1<m1 x) (aA (aJ s) (aJ t) (aH (fV (bB x 1)=bM x1) (m=m) (h=h) True)))))))) (aW (aG s) (aG t) (K (fH (Int.negSucc 0)) m h) (eX (aG s) (aG t) (K (fH 1) m h) (K (fH 0) m h)))) (aW (aG s) (aG t) (K (fH (Int.negSucc 0)) m h) (eX (aG s) (aG t) (K
 (fH 1) m h) (K (fH 0) m h))))
abbrev xT(a b:Sl)(c:PH)(d:(List VV)->(List VV)->Prop):Prop:=j3 (λx x1=>∃(x2 x3:List VV),aH (gJ a b=gJ x x1) (cC c x x2) (cC c x1 x3) (d x2 x3))
attribute [push_cast] xT
def Pe(s t:Sl)(m:MH)(h:PH)(K:CV->MH->PH->Prop):Prop:=
  eR (aG s) (aG t) (K aU m h) (lV (λI x=>aA (I x) (aJ s) (aA (aJ t) (bJ s) (aH (aZ x) (m=m) (h=h) True))) (λI m1 x=>I x->aW (↑x:Int) (aG s) (cZ s.a (↑x:Int) s (λb o y=>aL m h b (bF o x 1) (aK y)/\cZ t.a (↑x:Int) t (λb1 o1 y1=>aL m h b1 (bF o1 x 1) (aK y1)/\xT y y1 h (λa b2=>gV (dT a b2 !=0) (K aU m h) (λx1=>aA (I x1) (m1 x1<m1 x) (aA (aJ s) (aJ t) (aA (bJ s) (fV (bB x 1)=bM x1) (aA (m=m) (h=h) True)))))))) (K fK m h)))
theorem Dk{a b:Int}:xG a b=0↔a=b:=by
 unfold xG;constructor
 .intro h;split at h
  .omega
  .split at h<;>omega
 .intro h;subst h;simp
theorem Dl:∀a b:List UInt8,Lib.compareBytes a b=0↔a=b
 |[],[]=>by simp[Lib.compareBytes]
 |[],_::_=>by simp[Lib.compareBytes]
 |_::_,[]=>by simp[Lib.compareBytes]
 |a::l,b::bs=>by
  simp only[Lib.compareBytes,List.cons.injEq];split
  .rename_i h;simp;intro e;subst e;exact absurd h (UInt8.lt_irrefl _)
  .split
   .rename_i h;simp;intro e;subst e;exact absurd h (UInt8.lt_irrefl _)
   .rename_i h1 h2;rw[Dl l bs];have:a=b:=UInt8.le_antisymm (UInt8.not_lt.1 h2) (UInt8.not_lt.1 h1);simp[this]
theorem UL{a b:ByteArray}:Kp a b=0↔a=b:=by
 unfold Kp;rw[Dl];constructor
 .intro h;cases a;cases b;simp only[ByteArray.mk.injEq];exact Array.toList_inj.1 h
 .intro h;rw[h]
theorem GK{a b:VV}:j8 a b=0↔a=b:=by
 obtain⟨k,i,t⟩:=a;obtain⟨k',i',t'⟩:=b;simp only[j8,VV.mk.injEq];split
 .rename_i h;exact⟨λe=>absurd e h,λe=>absurd (Dk.2 e.1) h⟩
 .rename_i h;have h:=Classical.not_not.1 h;split
  .rename_i h2;exact⟨λe=>absurd e h2,λe=>absurd (Dk.2 e.2.1) h2⟩
  .rename_i h2;have h2:=Classical.not_not.1 h2;rw[UL];simp[Dk.1 h,Dk.1 h2]
theorem jB:∀{a b:List VV},dT a b=0↔a=b
 |[],[]=>by simp[dT]
 |[],_::_=>by simp[dT]
 |_::_,[]=>by simp[dT]
 |x::xs,y::ys=>by
  simp only[dT,List.cons.injEq];split
  .rename_i h;exact⟨λe=>absurd e h,λe=>absurd (GK.2 e.1) h⟩
  .rename_i h;rw[jB (a:=xs),GK.1 (Classical.not_not.1 h)];simp
theorem Jh:∀a b:List UInt8,(Op.bytesLess a b=true↔Lib.compareBytes a b= -1)/\(Lib.compareBytes a b= -1\/Lib.compareBytes a b=0\/Lib.compareBytes a b=1)
 |[],[]=>by simp[Lib.compareBytes,Op.bytesLess]
 |[],_::_=>by simp[Lib.compareBytes,Op.bytesLess]
 |_::_,[]=>by simp[Lib.compareBytes,Op.bytesLess]
 |a::l,b::bs=>by
  obtain⟨h1,h2⟩:=Jh l bs;simp only[Lib.compareBytes,Op.bytesLess];by_cases hab:a<b
  .simp[hab]
  .by_cases hba:b<a
   .have:¬a=b:=λe=>by subst e;exact UInt8.lt_irrefl _ hba
    simp[hab,hba,this]
   .have:a=b:=UInt8.le_antisymm (UInt8.not_lt.1 hba) (UInt8.not_lt.1 hab);subst this;simp only[hab,if_false];exact⟨by simpa using h1,h2⟩
theorem SN{a b:Int}(hK:K (cI (xG a b)) m h):GF a b m h K:=by
 dsimp only[GF,push_cast];refine⟨a,rfl,b,rfl,aE (λh1=>?_) (λh1=>aE (λh2=>?_) (λh2=>?_))⟩
 .rw[xG,if_pos h1]at hK;exact hK
 .rw[xG,if_neg h1,if_pos h2]at hK;exact hK
 .rw[xG,if_neg h1,if_neg h2]at hK;exact hK
theorem Rn:Sound Tryz.prog 130 Yh:=by
 refine iB Tryz.func130 ?_;rintro cvs m h K ⟨n,rfl,hK⟩;refine⟨dL [] [] [] [] false,rfl,aF,Uy n m h K,by kernel_rfl,?_⟩;exact(by show K (cB (n !=n)) m h;rw[bne_self_eq_false];exact hK)
theorem Rm:Sound Tryz.prog 131 Yh:=by
 refine iB Tryz.func131 ?_;rintro cvs m h K ⟨n,rfl,hK⟩;refine⟨dL [] [] [] [] false,rfl,aF,Ux n m h K,by kernel_rfl,?_⟩;exact(by show K (cB (n !=n)) m h;rw[bne_self_eq_false];exact hK)
theorem RI:Sound Tryz.prog 100 Tl:=by
 refine iB Tryz.func100 ?_;rintro cvs m h K ⟨a,b,rfl,hK⟩;refine⟨dL [(130,Yh)] [] [] [] false,rfl,aD Rn aF,GF a b m h K,by kernel_rfl,?_⟩;exact SN hK
theorem RH:Sound Tryz.prog 101 Tl:=by
 refine iB Tryz.func101 ?_;rintro cvs m h K ⟨a,b,rfl,hK⟩;refine⟨dL [(131,Yh)] [] [] [] false,rfl,aD Rm aF,UE a b m h K,by kernel_rfl,?_⟩;exact SN hK
theorem RG:Sound Tryz.prog 102 YK:=by
 refine⟨⟨Tryz.f102,Tryz.func102,rfl,by decide⟩,?_⟩;rintro cvs vs m h w K ⟨a,b,rfl,hK⟩ hp
 obtain⟨v,v2,rfl⟩:∃v v2,vs=[v,v2]:=by
  have:=(mQ hp.args).1
  match vs,this with
  |[v,v2],_=>exact⟨v,v2,rfl⟩
 have hv:v= .string a:=hp.args.1;have hv2:v2= .string b:=hp.args.2.1;subst hv hv2;refine(Tryz.strings_Compare a b w).mono ?_;rintro e w' ⟨rfl,rfl⟩;exact⟨_,_,m,h,rfl,hK,rfl,FF hp,λb hb=>by simp[cI,gH]at hb⟩
theorem Gd:Sound Tryz.prog 70 L1:=by
 refine iB Tryz.func70 ?_;rintro cvs m h K ⟨a,b,rfl,hK⟩;refine⟨dL [(100,Tl),(101,Tl),(102,YK)] [] [] [] false,rfl,aD RI (aD RH (aD RG aF)),OO a b m h K,by kernel_rfl,?_⟩;dsimp only[OO,push_cast];refine⟨_,Fg a b,aB (λh1=>?_) (λh1=>⟨_,_,rfl,aB (λh2=>?_) (λh2=>⟨_,_,rfl,aB (λh3=>?_) (λh3=>⟨_,_,rfl,?_⟩)⟩)⟩)⟩
 .rw[GK.2 (SP.1 h1)]at hK;exact hK
 .rw[j8,if_pos (by simpa using h2)]at hK;exact hK
 .rw[j8,if_neg (by simpa using h2),if_pos (by simpa using h3)]at hK;exact hK
 .rw[j8,if_neg (by simpa using h2),if_neg (by simpa using h3)]at hK;exact hK
theorem TU:Sound Tryz.prog 90 L1:=by
 refine iB Tryz.func90 ?_;rintro cvs m h K ⟨a,b,rfl,hK⟩;refine⟨dL [] [] [] [] false,rfl,aF,OB a b m h K,by kernel_rfl,?_⟩;dsimp only[OB,push_cast];unfold j8 xG Kp at hK;obtain⟨hl1,hl2⟩:=Jh a.text.data.toList b.text.data.toList;refine aE (λh1=>?_) (λh1=>aE (λh2=>?_) (λh2=>aE (λh3=>?_) (λh3=>aE (λh4=>?_) (λh4=>aB (λh5=>?_) (λh5=>aB (λh6=>?_) (λh6=>?_))))))
 .rw[if_pos h1]at hK;exact hK
 .rw[if_neg h1,if_pos h2]at hK;exact hK
 .rw[if_neg h1,if_neg h2,if_pos h3]at hK;exact hK
 .rw[if_neg h1,if_neg h2,if_neg h3,if_pos h4]at hK;exact hK
 all_goals rw[if_neg h1,if_neg h2,if_neg h3,if_neg h4]at hK
 all_goals rw[ByteArray.toList_eq,ByteArray.toList_eq]at h5
 .rw[if_neg (by simp),if_neg (by simp),hl1.1 h5]at hK;exact hK
 .have e1:Lib.compareBytes a.text.data.toList b.text.data.toList=1:=by
   rcases hl2 with e|e|e
   .rw[hl1.2 e]at h5;cases h5
   .rw[Dl]at e;rw[ByteArray.toList_eq,ByteArray.toList_eq,e]at h6;simp at h6
   .exact e
  rw[if_neg (by simp),if_neg (by simp),e1]at hK;exact hK
 .have e1:Lib.compareBytes a.text.data.toList b.text.data.toList=0:=by
   rw[ByteArray.toList_eq,ByteArray.toList_eq,h5]at h6;rw[Dl];simpa using h6
  rw[if_neg (by simp),if_neg (by simp),e1]at hK;exact hK
theorem LO{a b:List VV}{x y:VV}(hx:a[i]? =some x)(hy:b[i]? =some y):dT (a.drop i) (b.drop i)=if j8 x y≠0 then j8 x y else dT (a.drop (i+1)) (b.drop (i+1)):=by
 rw[drop_cons hx,drop_cons hy,dT]
theorem RF:Sound Tryz.prog 103 YM:=by
 refine iB Tryz.func103 ?_;rintro cvs m h K ⟨s,t,a,b,rfl,ha,hb,hK⟩;refine⟨V7 s t m h,rfl,aD Gd aF,LJ s t m h K,by kernel_rfl,?_⟩;dsimp only[LJ,push_cast];have hsa:=bH.slen ha;have hsb:=bH.slen hb;have hla:=ha.len;refine⟨λi=>i<=a.length/\i<=b.length/\dT a b=dT (a.drop i) (b.drop i),λi=>a.length-i,⟨0,⟨aC,aC,by simp⟩,MT⟩,λi⟨hi,hj,he⟩=>aE (λhlt=>?_) (λhge=>?_)⟩
 .obtain⟨x,hx⟩:=eY hsa hlt;obtain⟨b1,o1,u,e1,r1,rfl⟩:=bH.at ha hx;refine⟨b1,o1,e1,aC,hlt,x,.imm r1,aE (λhge=>?_) (λhlt2=>?_)⟩
  .rw[he,drop_cons hx,List.drop_eq_nil_of_le (show b.length<=i by omega),dT]at hK;exact hK
  .have hlt2:(i:Int)<(t.len:Int):=by omega
   obtain⟨y,hy⟩:=eY hsb hlt2;obtain⟨b2,o2,u,e2,r2,rfl⟩:=bH.at hb hy;rw[LO hx hy]at he;refine⟨b2,o2,e2,aC,hlt2,y,.imm r2,x,y,rfl,aB (λhne=>?_) (λheq=>⟨i+1,⟨aC,aC,?_⟩,(show a.length-(i+1)<a.length-i by omega),MT⟩)⟩
   .rw[he,if_pos (by simpa using hne)]at hK;exact hK
   .rw[he,if_neg (by simpa using heq)]
 .have:a.drop i=[]:=List.drop_eq_nil_of_le aC;rw[this]at he;refine aE (λh1=>?_) (λh1=>?_)
  .obtain⟨y,hy⟩:=eY (l:=b) (i:=i) (n:=t.len) hsb aC;rw[he,drop_cons hy,dT]at hK;exact hK
  .rw[he,List.drop_eq_nil_of_le aC,dT]at hK;exact hK
theorem C3:Sound Tryz.prog 71 FD:=by
 refine iB Tryz.func71 ?_;rintro cvs m h K ⟨s,t,a,b,rfl,ha,hb,hK⟩;refine⟨dL [(103,YM)] [] [] [] false,rfl,aD RF aF,Vq s t m h K,by kernel_rfl,?_⟩;exact⟨s,t,a,b,rfl,ha,hb,hK⟩
theorem Gf:Sound Tryz.prog 62 FD:=by
 refine iB Tryz.func62 ?_;rintro cvs m h K ⟨s,t,a,b,rfl,ha,hb,hK⟩;refine⟨Xy s t m h,rfl,aD TU aF,OW s t m h K,by kernel_rfl,?_⟩;dsimp only[OW,push_cast];have hsa:=bH.slen ha;have hsb:=bH.slen hb;have hla:=ha.len;refine⟨λi=>i<=a.length/\i<=b.length/\dT a b=dT (a.drop i) (b.drop i),λi=>a.length-i,⟨0,⟨aC,aC,by simp⟩,MT⟩,λi⟨hi,hj,he⟩=>aE (λhlt=>aE (λhlt2=>?_) (λhge=>?_)) (λhge=>?_)⟩
 .obtain⟨x,hx⟩:=eY hsa hlt;obtain⟨y,hy⟩:=eY hsb hlt2;obtain⟨b1,o1,u,e1,r1,rfl⟩:=bH.at ha hx;obtain⟨b2,o2,u,e2,r2,rfl⟩:=bH.at hb hy;rw[LO hx hy]at he;refine⟨b1,o1,e1,aC,hlt,x,.imm r1,b2,o2,e2,aC,hlt2,y,.imm r2,x,y,rfl,aB (λhne=>?_) (λheq=>⟨i+1,⟨aC,aC,?_⟩,(show a.length-(i+1)<a.length-i by omega),MT⟩)⟩
  .rw[he,if_pos (by simpa using hne)]at hK;exact hK
  .rw[he,if_neg (by simpa using heq)]
 .obtain⟨x,hx⟩:=eY hsa hlt;rw[he,drop_cons hx,List.drop_eq_nil_of_le (show b.length<=i by omega),dT]at hK;exact aE (λh1=>aC) (λh1=>aE (λh2=>hK) (λh2=>aC))
 .rw[he,List.drop_eq_nil_of_le (show a.length<=i by omega)]at hK;refine aE (λh1=>?_) (λh1=>aE (λh2=>aC) (λh2=>?_))
  .obtain⟨y,hy⟩:=eY (l:=b) (i:=i) (n:=t.len) hsb aC;rw[drop_cons hy,dT]at hK;exact hK
  .rw[List.drop_eq_nil_of_le aC,dT]at hK;exact hK
theorem Uj:Sound Tryz.prog 24 Yu:=by
 refine iB Tryz.func24 ?_;rintro cvs m h K ⟨s,t,a,b,rfl,ha,hb,hK⟩;refine⟨XN s t m h,rfl,aD Gf aF,Pe s t m h K,by kernel_rfl,?_⟩;dsimp only[Pe,push_cast];have hsa:=bH.slen ha;have hsb:=bH.slen hb;have hla:=ha.len;have hf:a≠b->K (cB false) m h:=λh=>hK false ⟨λe=>(by cases e),λe=>(h e).elim⟩;refine aB (λh1=>hf (λe=>F1 hsa hsb h1 (by rw[e]))) (λh1=>?_);have hl:=F2 hsa hsb h1;refine⟨λi=>i<=a.length/\∀j:Nat,j<i->a[j]? =b[j]?,λi=>a.length-i,⟨0,⟨aC,λj hj=>by omega⟩,MT⟩,λi hi=>aE (λhlt=>?_) (λhge=>?_)⟩
 .obtain⟨x,hx⟩:=eY hsa hlt;obtain⟨y,hy⟩:∃y,b[i]? =some y:=eY (n:=s.len) aC hlt;obtain⟨b1,o1,u,e1,r1,ru⟩:=bH.at ha hx;obtain⟨b2,o2,v,e2,r2,rv⟩:=bH.at hb hy;refine⟨b1,o1,e1,aC,hlt,u,.imm r1,b2,o2,e2,aC,aC,v,.imm r2,u,v,x,y,rfl,ru,rv,aB (λhne=>hf (KE hx hy (λe=>?_))) (λhe=>?_)⟩
  .rw[jB.2 e]at hne;cases hne
  .exact⟨i+1,⟨aC,sS hx hy (jB.1 (by simpa using he)) hi.2⟩,(show a.length-(i+1)<a.length-i by omega),MT⟩
 .exact hK true ⟨λ_=>wL hl aC hi.2,λ_=>rfl⟩
structure BA(h:PH)(P:List VV->Prop) where
 s:Sl
 l:List VV
 ok:cC h s l
 pr_:P l
def BA.pr{h:PH}{P:List VV->Prop}(x:BA h P):Sl×List VV:=(x.s,x.l)
def uL(h:PH){R:List VV->Prop}(x:BA h R):Value:=.slice x.s.a x.s.len x.s.cap
theorem GS{w w':World}(h1:w'.tape=w.tape)(h2:w'.os=w.os)(h3:w'.output=w.output)(h4:w.drawn<=w'.drawn)(h5:w.heap.size<=w'.heap.size)(h6:∀b,b<w.heap.size->w'.heap[b]? =w.heap[b]?):
 ∃q os,w'=Sort.grow (w.drewN q) os:=by
 refine⟨w'.drawn-w.drawn,w'.heap.extract w.heap.size w'.heap.size,?_⟩;obtain⟨hp,tp,dr,oo,ou⟩:=w';obtain⟨hp0,tp0,dr0,oo0,ou0⟩:=w;dsimp only at h1 h2 h3 h4 h5 h6;subst h1 h2 h3;unfold Sort.grow World.drewN;dsimp only;congr 1
 .apply Array.ext_getElem?;intro k;rw[Array.getElem?_append];by_cases hk:k<hp0.size
  .rw[if_pos hk];exact h6 k hk
  .rw[if_neg hk,Array.getElem?_extract];by_cases hk2:k<hp.size
   .rw[if_pos aC];congr 1;omega
   .rw[if_neg aC,Array.getElem?_eq_none aC]
 .omega
structure YL(P:Program)(R:List VV->Prop)(g:Nat)(cb:List Value)(m2:MH)(h:PH)(cf:List VV->List VV->Int):Prop where
 ex:∃S,Sound P g S/\∀x y:BA h R,S ([cS x.s,cS y.s]++cb.map .val) m2 h (λr m' h'=>r=cI (cf x.l y.l)/\m'=m2/\h'=h)
theorem Wd{P:Program}{R:List VV->Prop}{g:Nat}{cb:List Value}{m2:MH}{h:PH}[Inhabited (BA h R)]{cf:List VV->List VV->Int}(hc:YL P R g cb m2 h cf){w:World}{blk off size:Nat}
 (hh:∀b o v,h b o=some v->w.cell? ⟨b,o,none⟩=some v/\b≠blk)(hm:∀b o,m2 b=some o->w.heap[b]? =some o/\b≠blk)(hd:∀b o,m2 b=some o->∀i,h b i=none):
 CmpLays1 P g cb.toArray (uL h (R:=R)) (λx y=>cf x.l y.l) blk off size w:=by
 obtain⟨S,hs,hS⟩:=hc.ex;intro mm os dk hsz x y;obtain⟨W,hW⟩:∃W,Go.Proofs.sortWorld (uL h (R:=R)) w blk off mm dk os=W:=⟨_,rfl⟩
 rw[hW]
 have old:∀b,b<w.heap.size->b≠blk->W.heap[b]? =w.heap[b]? :=λb hb hne=>by
  rw[<-hW];show((Sort.putRow (uL h) (Sort.ahead w mm) blk off dk).heap++os)[b]? =_;have hs:(Sort.putRow (uL h) (Sort.ahead w mm) blk off dk).heap.size=w.heap.size:=by unfold Sort.putRow Sort.mapBlock;simp[Sort.ahead]
  rw[Array.getElem?_append_left aC];unfold Sort.putRow Sort.mapBlock;simp only[Array.getElem?_modify,if_neg (Ne.symm hne)];rfl
 have hvals:∀(l:List Value)(w:World),zO w (l.map .val) l:=λl w=>by
  induction l with
  |nil=>trivial
  |cons a l ih=>exact⟨rfl,ih⟩
 have nov:∀(l:List Value)(i:Nat)(c:CV)(u:Value)(b:Nat),(l.map CV.val)[i]? =some c->gH c u=some b->False:=λl i c u b hi hb=>by
  rw[List.getElem?_map]at hi;cases e:l[i]? with
  |none=>rw[e]at hi;cases hi
  |some v=>rw[e]at hi;simp at hi;subst hi;simp[gH]at hb
 have e1:[cS x.s,cS y.s]++cb.map .val=([uL h x,uL h y]++cb).map .val:=by simp[cS,uL]
 have hpre:wE W m2 h ([cS x.s,cS y.s]++cb.map .val) ([uL h x,uL h y]++cb):=by
  rw[e1];refine⟨hvals _ _,?_,?_,hd,λi j c d u v b hi _ _ _ hb _=>(nov _ i c u b hi hb).elim,λi c u b hi _ hb=>(nov _ i c u b hi hb).elim⟩
  .intro b o v hv;obtain⟨h1,h2⟩:=hh b o v hv;rw[World.cell?_of_block (w:=w) (w':=W) (a:=⟨b,o,none⟩) (old b (World.block_lt_of_cell? w ⟨b,o,none⟩ h1) h2)];exact h1
  .intro b o hb;obtain⟨h1,h2⟩:=hm b o hb;rw[old b (Array.getElem?_eq_some_iff.1 h1).1 h2];exact h1
 have:=hs.2 _ _ m2 h W _ (hS x y) hpre;have e2:(([uL h x,uL h y]++cb).toArray:Array Value)= #[uL h x,uL h y]++cb.toArray:=by simp
 rw[e2]at this;refine this.mono ?_;rintro e w' ⟨r,u,m',h',rfl,⟨rfl,rfl,rfl⟩,hok,hw,_⟩;have hu:u= .int .i64 (cf x.l y.l):=hok;subst hu;refine⟨rfl,GS hw.tape hw.os hw.output hw.drawn hw.size (λb hb=>?_)⟩;cases e3:m' b with
 |none=>
  refine hw.frame b hb ?_;rintro(h1|⟨i,c,u,hi,_,hc⟩)
  .exact h1 e3
  .rw[e1]at hi;exact nov _ i c u b hi hc
 |some o=>rw[hw.msat b o e3];exact(hpre.msat b o e3).symm
theorem IM{α:Type}[Inhabited α]{d d':Array α}(h:Sort.PermIn 0 d.size d d'):d'.toList.Perm d.toList:=by
 obtain⟨h1,_,h3⟩:=h;have e1:d.extract 0 d.size=d:=by simp
 have e2:d'.extract 0 d.size=d':=by rw[<-h1];simp
 rw[e1,e2]at h3;exact h3
theorem KG{h:PH}{R:List VV->Prop}:∀(ps:List (Sl×List VV)),(∀p∈ps,cC h p.1 p.2)->(∀p∈ps,R p.2)->∃ds:List (BA h R),ds.map BA.pr=ps
 |[],_,_=>⟨[],rfl⟩
 |p::ps,hv,hR=>by
  obtain⟨ds,hds⟩:=KG (R:=R) ps (λq hq=>hv q (List.mem_cons_of_mem _ hq)) (λq hq=>hR q (List.mem_cons_of_mem _ hq));exact⟨⟨p.1,p.2,hv p (List.mem_cons_self ..),hR p (List.mem_cons_self ..)⟩::ds,by rw[List.map_cons,hds];rfl⟩
theorem Kw{R:List VV->Prop}{w:World}{m:MH}{h:PH}{s:Sl}{g:Nat}{cb:List Value}{ps:List (Sl×List VV)}{cf:List VV->List VV->Int}{m2:MH}{fnv:Value}(hfv:fnv= .func (.func g) #[] cb.toArray)
 (hp:wE w m h [cS s,.val fnv] [s.val,fnv])(hg:∃gf,Tryz.prog.funcs[g]? =some gf/\gf.body.isSome=true/\(gf.name== "runtime.NumGoroutine")=false)(hr:dH m s 74 1 (ps.map λp=>eS p.1))(hv:∀p∈ps,cC h p.1 p.2)(hR:∀p∈ps,R p.2)(hlen:ps.length<=140737488355328)
 (hO:Sort.SWO (Go.Proofs.ltOf (fun(x y:BA h R)=>cf x.l y.l)))(hc:YL Tryz.prog R g cb m2 h cf)(hm2:∀b o,m2 b=some o->m b=some o/\∀i,s.a≠some ⟨b,i,none⟩)
 {K:CV->MH->PH->Prop}(hK:∀(ps':List (Sl×List VV))(m':MH),ps'.Perm ps->ps'.Pairwise (λp q=>¬cf q.2 p.2<0)->dH m' s 74 1 (ps'.map λp=>eS p.1)->(∀b,(∀i,s.a≠some ⟨b,i,none⟩)->m' b=m b)->K (.tup []) m' h):
 Calls Tryz.prog 107 #[s.val,fnv] w λe w'=>∃r u m' h',e= .returned u/\K r m' h'/\Dr w' r u/\zN ⟨w,rW m [cS s,.val fnv] [s.val,fnv],h,[]⟩ m' h' w'/\(∀b,gH r u=some b->(w.heap.size<=b\/rW m [cS s,.val fnv] [s.val,fnv] b)/\m' b=none/\∀i,h' b i=none):=by
 subst hfv;by_cases hps0:ps=[]
 .subst hps0;have hl0:s.len=0:=by have:=dH.slen hr;simpa using this
  have:=AnyF.slices_SortFunc_none Tryz.sortN s.a s.cap (.func (.func g) #[] cb.toArray) w;rw[show s.val= .slice s.a 0 s.cap by rw[<-hl0];rfl];refine Calls.mono (show Calls Tryz.prog 107 #[.slice s.a 0 s.cap,.func (.func g) #[] cb.toArray] w _ from this) ?_;rintro e w' ⟨rfl,rfl⟩;exact⟨.tup [],.tuple #[],m,h,rfl,hK [] m (.refl _) .nil hr (λ_ _=>rfl),⟨#[],rfl,rfl⟩,⟨rfl,rfl,rfl,Nat.le_refl _,Nat.le_refl _,λ_ _ _=>rfl,hp.hsat,hp.msat,hp.disj,λ_ _ _ e=>e,λ_ _ _=>rfl,λb o hb=>.inr (.inl (by rw[show m b=some o from hb];simp))⟩,λb hb=>by simp[gH]at hb⟩
 obtain⟨p0,hp0⟩:=List.exists_mem_of_ne_nil _ hps0
 haveI:Inhabited (BA h R):=⟨⟨p0.1,p0.2,hv p0 hp0,hR p0 hp0⟩⟩
 rcases hr.ex with⟨rfl,hx⟩|⟨b,cap,cur,rfl,hm,h0,h1,h2,h3⟩
 .exact(hps0 (by simpa using hx)).elim
 .simp only[List.length_map]at h0 h3;have hgb:=hp.msat b _ hm;have hblt:=(Array.getElem?_eq_some_iff.1 hgb).1;obtain⟨ds,hds⟩:∃ds:List (BA h R),ds.map BA.pr=ps:=KG ps hv hR;have hdl:ds.length=ps.length:=by rw[<-hds];simp
  have hcur:∀j,(hj:j<ds.length)->cur[j]? =some (uL h ds[j]):=λj hj=>by
   have:(cur.toList.take (ps.length*1))[j]? =((ps.map λp=>eS p.1).flatten)[j]? :=by rw[h3]
   rw[List.getElem?_take,if_pos aC,Array.getElem?_toList]at this;rw[this, <-hds]
   have hf:((ds.map BA.pr).map λp:Sl×List VV=>eS p.1).flatten=ds.map (uL h):=by
    clear hds hdl hj this
    induction ds with
    |nil=>rfl
    |cons a l ih=>simp only[List.map_cons,List.flatten_cons,ih];rfl
   rw[hf];simp[hj]
  have hsz:cur.size=cap:=by simpa using h2
  have hH:Sort.Holds (uL h) w b 0 ds.toArray:=by
   intro j hj;have hj:j<ds.length:=by simpa using hj
   refine⟨?_,?_⟩
   .rw[cell_of_heap hgb,Array.getElem?_toList,Nat.zero_add,hcur j hj,getElem!_pos _ j (by simpa using hj)];simp
   .unfold World.frozen?;rw[hgb];simp
  obtain⟨gf,hgf,hgb2,hgn⟩:=hg
  have eg:∀args w,(callFunc g args).run Tryz.prog w= .ok (.enter g args) w:=λargs w=>by
   have hbn:¬gf.body=none:=by intro e;rw[e]at hgb2;cases hgb2
   have hnm:¬gf.name= "runtime.NumGoroutine" :=by simpa using hgn
   simp[callFunc,program,Sem.run,hgf,hnm,hbn]
  have hlay:=Wd (blk:=b) (off:=0) (size:=ds.toArray.size) hc (w:=w) (λb' o v hv'=>⟨hp.hsat b' o v hv',λe=>by rw[e,hp.disj b _ hm o]at hv';cases hv'⟩) (λb' o hb'=>⟨hp.msat b' o (hm2 b' o hb').1,λe=>(hm2 b' o hb').2 0 (by rw[e])⟩) (λb' o hb'=>hp.disj b' o (hm2 b' o hb').1);have hcall:=Any.slices_SortFunc Tryz.sortF (uL h) (λ_=>rfl) (λx y=>cf x.l y.l) hO g cb.toArray b 0 cap ds.toArray w eg hlay hH hblt (by simp;omega);have e3:(Sl.val ⟨some ⟨b,0,none⟩,(ps.map λp=>eS p.1).length,cap⟩)= .slice (some ⟨b,0,none⟩) ds.toArray.size cap:=by simp[Sl.val,hdl]
  rw[e3];refine Calls.mono hcall ?_;rintro e w' ⟨rfl,d',n,os,hpm,hst,rfl⟩;have hd'sz:d'.size=ds.length:=by have:=hpm.1;simpa using this
  have hperm:=IM hpm;obtain⟨m',hm'⟩:∃m',jQ m m' b (.cells (Sort.putCells (uL h) 0 d' cur) 74 (0,0)):=⟨λb'=>if b'=b then some (.cells (Sort.putCells (uL h) 0 d' cur) 74 (0,0))else m b',by simp,λb' hb'=>by simp[hb']⟩
  have hs0:(Sort.putRow (uL h) (Sort.ahead w n) b 0 d').heap.size=w.heap.size:=by unfold Sort.putRow Sort.mapBlock;simp[Sort.ahead]
  have hnew:(Go.Proofs.sortWorld (uL h) w b 0 n d' os).heap[b]? =some (.cells (Sort.putCells (uL h) 0 d' cur) 74 (0,0)):=by
   show((Sort.putRow (uL h) (Sort.ahead w n) b 0 d').heap++os)[b]? =_;rw[Array.getElem?_append_left aC];unfold Sort.putRow Sort.mapBlock;simp only[Array.getElem?_modify,if_true];show Option.map _ w.heap[b]? =_;rw[hgb];rfl
  have hold:∀b',b'<w.heap.size->b'≠b->(Go.Proofs.sortWorld (uL h) w b 0 n d' os).heap[b']? =w.heap[b']? :=λb' hb' hne=>by
   show((Sort.putRow (uL h) (Sort.ahead w n) b 0 d').heap++os)[b']? =_;rw[Array.getElem?_append_left aC];unfold Sort.putRow Sort.mapBlock;simp only[Array.getElem?_modify,if_neg (Ne.symm hne)];rfl
  have hE:rW m [cS ⟨some ⟨b,0,none⟩,(ps.map λp=>eS p.1).length,cap⟩,.val (.func (.func g) #[] cb.toArray)] [.slice (some ⟨b,0,none⟩) ds.toArray.size cap,.func (.func g) #[] cb.toArray] b:=.inl (by rw[hm];simp);refine⟨.tup [],.tuple #[],m',h,rfl,hK (d'.toList.map BA.pr) m' ?_ ?_ ?_ (λb' hb'=>hm'.other b' (λe=>hb' 0 (by rw[e]))),⟨#[],rfl,rfl⟩,⟨rfl,rfl,rfl,Nat.le_add_right _ _,?_,?_,?_,?_,?_,λ_ _ _ e=>e,λ_ _ _=>rfl,?_⟩,λb hb=>by simp[gH]at hb⟩
  .have:=hperm.map (λx:BA h R=>x.pr);rw[<-hds];exact this
  .rw[List.pairwise_map,List.pairwise_iff_getElem];intro i j hi hj hij hlt;have hi:i<d'.size:=by simpa using hi
   have hj:j<d'.size:=by simpa using hj
   have:=hst i j (Nat.zero_le _) hij (by simp;omega);rw[getElem!_pos d' i hi,getElem!_pos d' j hj]at this;unfold Go.Proofs.ltOf at this;simp only[decide_eq_false_iff_not]at this;simp only[Array.getElem_toList]at hlt;exact this hlt
  .refine⟨⟨λe he=>?_,λe he u hu=>?_⟩,.inr ⟨b,cap,_,?_,hm'.at_,by simp;omega,h1,?_,?_⟩⟩
   .obtain⟨x,_,rfl⟩:=List.mem_map.1 he;rfl
   .obtain⟨x,_,rfl⟩:=List.mem_map.1 he;have:u= .slice x.1.a x.1.len x.1.cap:=by simpa[eS]using hu
    rw[this];rfl
   .simp[hd'sz,hdl]
   .simp[Sort.putCells,hsz]
   .apply List.ext_getElem?;intro j
    have hf:((d'.toList.map BA.pr).map λp:Sl×List VV=>eS p.1).flatten=d'.toList.map (uL h):=by
     generalize d'.toList=l
     induction l with
     |nil=>rfl
     |cons a l ih=>simp only[List.map_cons,List.flatten_cons,ih];rfl
    rw[hf,List.getElem?_take];simp only[List.length_map,Array.length_toList,Nat.mul_one];by_cases hj:j<d'.size
    .rw[if_pos hj,Array.getElem?_toList,List.getElem?_map,Array.getElem?_toList,Array.getElem?_eq_getElem hj];have hjc:j<cur.size:=by omega
     simp only[Sort.putCells,Array.getElem?_mapIdx,Array.getElem?_eq_getElem hjc,Option.map_some,Nat.zero_le,Nat.zero_add,Nat.sub_zero,true_and];rw[if_pos hj,getElem!_pos d' j hj]
    .rw[if_neg hj,List.getElem?_eq_none (by simp;omega)]
  .show w.heap.size<=(Sort.grow _ os).heap.size;rw[Sort.size_grow,hs0];omega
  .intro b' hb' hn;exact hold b' hb' (λe=>hn (e▸hE))
  .intro b' o v hv';have hne:b'≠b:=λe=>by rw[e,hp.disj b _ hm o]at hv';cases hv'
   have h5:=hp.hsat b' o v hv';rw[World.cell?_of_block (w:=w) (a:=⟨b',o,none⟩) (hold b' (World.block_lt_of_cell? w ⟨b',o,none⟩ h5) hne)];exact h5
  .intro b' o hb';by_cases e:b'=b
   .subst e;rw[hm'.at_]at hb';cases hb';exact hnew
   .rw[hm'.other b' e]at hb';have h5:=hp.msat b' o hb';rw[hold b' (Array.getElem?_eq_some_iff.1 h5).1 e];exact h5
  .intro b' o hb' i;by_cases e:b'=b
   .subst e;exact hp.disj b' _ hm i
   .rw[hm'.other b' e]at hb';exact hp.disj b' o hb' i
  .intro b' o hb';by_cases e:b'=b
   .subst e;exact .inr hE
   .rw[hm'.other b' e]at hb';exact .inr (.inl (by rw[hb'];simp))
end Go.Ps
namespace Go.Vc
open Go
theorem dH.rd{m:MH}{h:PH}{s:Sl}{E sz:Nat}{xs:List (List Value)}(r:dH m s E sz xs){i:Nat}{e:List Value}(hi:xs[i]? =some e):∃b,s.a=some ⟨b,0,none⟩/\aL m h b (i*sz) e:=by
 rcases r.ex with⟨_,rfl⟩|⟨b,cap,cur,rfl,hm,h1,h2,h3,h4⟩
 .simp at hi
 .refine⟨b,rfl,.lent cur E (0,0) hm ?_⟩;have hlt:=(List.getElem?_eq_some_iff.1 hi).1;have hel:=r.rows.len e (List.mem_of_getElem? hi)
  have hfl:∀(l:List (List Value))(k:Nat),(∀x∈l,x.length=sz)->l[k]? =some e->(l.flatten.drop (k*sz)).take sz=e:=by
   intro l
   induction l with
   |nil=>intro k _ hk;simp at hk
   |cons a l ih=>
    intro k hl hk;have ha:=hl a (List.mem_cons_self ..);cases k with
    |zero=>
     simp at hk;subst hk;rw[List.flatten_cons,Nat.zero_mul,List.drop_zero, <-ha,List.take_left]
    |succ k=>
     rw[List.flatten_cons,Nat.succ_mul,Nat.add_comm, <-List.drop_drop, <-ha,List.drop_left,ha];exact ih k (λx hx=>hl x (List.mem_cons_of_mem _ hx)) (by simpa using hk)
  have h5:=hfl xs i r.rows.len hi;rw[hel];rw[<-h4]at h5;rw[List.drop_take,List.take_take]at h5
  have:min sz (xs.length*sz-i*sz)=sz:=by
   rw[<-Nat.sub_mul];have:1*sz<=(xs.length-i)*sz:=Nat.mul_le_mul_right _ aC;omega
  rw[this]at h5;exact h5
theorem oJ.sub{m m':MH}{h:PH}{s:Sl}{sz:Nat}{ys:List (List Value)}(r:oJ m h s sz ys)(hs:∀b o,m b=some o->m' b=some o):oJ m' h s sz ys:=by
 rcases r with r|⟨b,o,cs,E,fz,h1,h2,h3,h4⟩
 .exact .imm r
 .exact .lent b o cs E fz h1 h2 (hs _ _ h3) h4
theorem dH.src{m:MH}{h:PH}{s:Sl}{E sz:Nat}{xs:List (List Value)}(r:dH m s E sz xs):oJ m h s sz xs:=by
 rcases r.ex with⟨rfl,rfl⟩|⟨b,cap,cur,rfl,hm,h1,h2,h3,h4⟩
 .exact .imm (cR.nil h sz)
 .refine .lent b 0 cur E (0,0) rfl rfl hm ?_;have:xs.flatten.length=xs.length*sz:=bU r.rows.len;rw[List.drop_zero,this];exact h4
end Go.Vc
namespace Go.Ps
open Go Go.Vc Go.Proofs
variable{K:CV->MH->PH->Prop}{m:MH}{h:PH}{s:nY}{ps:List Int}{cb:Nat}{sc:bR}{v:QV}{q:Query}{p:Pred}{l:List Int}{i:Nat}{N:Nat}{m':MH}{h':PH}{co:List Int}{gr:List Int}{od:List (Int×Bool)}{w:Pred}{ta:Int}{li:Int}{xs:List (List Value)}{sz:Nat}{k:Nat}{ks:List (List Int)}{rs:List Int}{r:Sl}{a:List Int}{b:Nat}
structure L2{α:Type}(c:α->α->Int):Prop where
 anti:∀x y,c x y= -c y x
 trans:∀x y z,c x y<=0->c y z<=0->c x z<=0
theorem L2.zero{α:Type}{c:α->α->Int}(h:L2 c){x y z:α}(h1:c x y<=0)(h2:c y z<=0)(h3:c x z=0):c x y=0/\c y z=0:=by
 have a1:=h.anti x z;have a2:=h.anti x y;have a3:=h.anti y z;have t1:=h.trans z x y aC h1;have t2:=h.trans y z x h2 aC;omega
theorem MF{c d:Int}(h:(if c≠0 then c else d)<=0):c<=0:=by
 split at h
 .exact h
 .omega
theorem L2.lex{α:Type}{c d:α->α->Int}(h:L2 c)(k:L2 d):L2 (λx y=>if c x y≠0 then c x y else d x y):=by
 refine⟨λx y=>?_,λx y z h1 h2=>?_⟩
 .have a:=h.anti x y;have b:=k.anti x y;show(if c x y≠0 then c x y else d x y)= -(if c y x≠0 then c y x else d y x)
  by_cases e:c x y=0
  .rw[if_neg (by simpa using e),if_neg (by have:c y x=0:=by omega
                                           simpa using this)];exact b
  .rw[if_pos e,if_pos aC];exact a
 .have l1:c x y<=0:=MF h1;have l2:c y z<=0:=MF h2;have l3:=h.trans x y z l1 l2;show(if c x z≠0 then c x z else d x z)<=0;by_cases e:c x z=0
  .obtain⟨z1,z2⟩:=h.zero l1 l2 e;have h1:(if c x y≠0 then c x y else d x y)<=0:=h1;have h2:(if c y z≠0 then c y z else d y z)<=0:=h2;rw[if_neg (by simpa using z1)]at h1;rw[if_neg (by simpa using z2)]at h2;rw[if_neg (by simpa using e)];exact k.trans x y z h1 h2
  .rw[if_pos e];exact l3
theorem L2.of{α β:Type}{c:α->α->Int}(h:L2 c)(f:β->α):L2 (λx y=>c (f x) (f y)):=⟨λx y=>h.anti _ _,λx y z=>h.trans _ _ _⟩
theorem PD:L2 xG:=by
 refine⟨λx y=>?_,λx y z=>?_⟩
 .unfold xG;split<;>split<;>(first|omega|(split<;>omega))
 .unfold xG;intro h1 h2;split at h1<;>split at h2<;>(repeat' split at*)<;>omega
theorem LP:∀a b:List UInt8,Lib.compareBytes a b= -Lib.compareBytes b a
 |[],[]=>rfl
 |[],_::_=>rfl
 |_::_,[]=>rfl
 |a::l,b::k=>by
  simp only[Lib.compareBytes];by_cases h1:a<b
  .have h2:¬b<a:=λh=>absurd (UInt8.lt_trans h1 h) (UInt8.lt_irrefl _);simp[h1,h2]
  .by_cases h2:b<a
   .simp[h1,h2]
   .simp only[h1,h2,if_false];exact LP l k
theorem JT:∀a b c:List UInt8,Lib.compareBytes a b<=0->Lib.compareBytes b c<=0->Lib.compareBytes a c<=0
 |[],_,[],_,_=>by simp[Lib.compareBytes]
 |[],_,_::_,_,_=>by simp[Lib.compareBytes]
 |_::_,[],_,h1,_=>by simp[Lib.compareBytes]at h1
 |_::_,_::_,[],_,h2=>by simp[Lib.compareBytes]at h2
 |a::l,b::k,c::q,h1,h2=>by
  simp only[Lib.compareBytes]at h1 h2⊢
  by_cases ac:a<c
  .simp[ac]
  .by_cases ab:a<b
   .have bc:¬b<c:=λh=>ac (UInt8.lt_trans ab h);have cb:c<b:=UInt8.lt_of_le_of_lt (UInt8.not_lt.1 ac) ab;simp[bc,cb]at h2
   .by_cases ba:b<a
    .simp[ab,ba]at h1
    .have e:a=b:=UInt8.le_antisymm (UInt8.not_lt.1 ba) (UInt8.not_lt.1 ab);subst e;simp only[ab,ac,if_false]at h1 h2⊢
     by_cases ca:c<a
     .simp[ca]at h2
     .simp only[ca,if_false]at h2⊢
      exact JT l k q h1 h2
theorem Fu:L2 j8:=by
 have hT:L2 Kp:=⟨λx y=>LP _ _,λx y z=>JT _ _ _⟩
 exact(PD.of VV.kind).lex ((PD.of VV.int).lex (hT.of VV.text))
theorem kU:∀a b,dT a b= -dT b a
 |[],[]=>rfl
 |[],_::_=>rfl
 |_::_,[]=>rfl
 |x::l,y::k=>by
  have a:=Fu.anti x y;simp only[dT];by_cases e:j8 x y=0
  .rw[if_neg (by simpa using e),if_neg (by have:j8 y x=0:=by omega
                                           simpa using this)];exact kU l k
  .rw[if_pos e,if_pos aC];exact a
theorem xB:∀a b c,dT a b<=0->dT b c<=0->dT a c<=0
 |[],_,[],_,_=>by simp[dT]
 |[],_,_::_,_,_=>by simp[dT]
 |_::_,[],_,h1,_=>by simp[dT]at h1
 |_::_,_::_,[],_,h2=>by simp[dT]at h2
 |x::l,y::k,z::q,h1,h2=>by
  simp only[dT]at h1 h2⊢
  have l1:j8 x y<=0:=MF h1;have l2:j8 y z<=0:=MF h2;have l3:=Fu.trans x y z l1 l2;by_cases e:j8 x z=0
  .obtain⟨z1,z2⟩:=Fu.zero l1 l2 e;rw[if_neg (by simpa using z1)]at h1;rw[if_neg (by simpa using z2)]at h2;rw[if_neg (by simpa using e)];exact xB l k q h1 h2
  .rw[if_pos e];exact l3
theorem Ce:L2 dT:=⟨kU,xB⟩
theorem L2.swo{R:List VV->Prop}{cf:List VV->List VV->Int}(c:L2 cf):Sort.SWO (Go.Proofs.ltOf (fun(x y:BA h R)=>cf x.l y.l)):=by
 refine⟨λx=>?_,λx y z h1 h2=>?_,λx y z h1 h2=>?_⟩
 .have:=c.anti x.l x.l;unfold Go.Proofs.ltOf;simp;omega
 .unfold Go.Proofs.ltOf at*
  simp only[decide_eq_true_eq]at*
  have t:=c.trans x.l y.l z.l aC aC;by_cases e:cf x.l z.l=0
  .have:=c.zero (x:=x.l) (y:=y.l) (z:=z.l) aC aC e;omega
  .omega
 .unfold Go.Proofs.ltOf at*
  simp only[decide_eq_false_iff_not]at*
  have a1:=c.anti x.l y.l;have a2:=c.anti y.l z.l;have a3:=c.anti x.l z.l;have t:=c.trans z.l y.l x.l aC aC;omega
def F8(x:List VV):List (List VV)->List (List VV)
 |[]=>[x]
 |y::l=>if dT x y<0 then x::y::l else if dT x y=0 then y::l else y::F8 x l
def wN(l:List (List VV)):List (List VV):=l.foldr F8 []
abbrev nJ(l:List (List VV)):Prop:=l.Pairwise λx y=>dT x y<0
theorem Jl{x z:List VV}:∀{l:List (List VV)},z∈F8 x l↔z=x\/z∈l
 |[]=>by simp[F8]
 |y::l=>by
  simp only[F8];split
  .simp
  .split
   .rename_i _ e;have:=jB.1 e;subst this;simp
   .simp only[List.mem_cons,Jl (l:=l)];exact⟨λh=>by rcases h with h|h|h<;>simp[h],λh=>by rcases h with h|h|h<;>simp[h]⟩
theorem Hc{x:List VV}:∀{l:List (List VV)},nJ l->nJ (F8 x l)
 |[],_=>by simp[F8]
 |y::l,h=>by
  obtain⟨h1,h2⟩:=List.pairwise_cons.1 h;simp only[F8];split
  .rename_i hlt;refine List.pairwise_cons.2 ⟨λz hz=>?_,h⟩;rcases List.mem_cons.1 hz with rfl|hz
   .exact hlt
   .have t:=xB x y z aC (by have:=h1 z hz;omega);by_cases e:dT x z=0
    .have:=Ce.zero (x:=x) (y:=y) (z:=z) aC (by have:=h1 z hz;omega) e;omega
    .omega
  .split
   .exact h
   .rename_i n1 n2;refine List.pairwise_cons.2 ⟨λz hz=>?_,Hc h2⟩;rcases Jl.1 hz with rfl|hz
    .have:=kU z y;omega
    .exact h1 z hz
theorem uF{x:List VV}:∀{l:List (List VV)},x∈wN l↔x∈l
 |[]=>by simp[wN]
 |y::l=>by
  show x∈F8 y (wN l)↔_;rw[Jl,uF,List.mem_cons]
theorem BH:∀(l:List (List VV)),nJ (wN l)
 |[]=>.nil
 |_::l=>Hc (BH l)
theorem IA:∀{a b:List (List VV)},nJ a->nJ b->(∀x,x∈a↔x∈b)->a=b
 |[],[],_,_,_=>rfl
 |[],y::_,_,_,h=>by have:=(h y).2 (by simp);simp at this
 |x::_,[],_,_,h=>by have:=(h x).1 (by simp);simp at this
 |x::a,y::b,ha,hb,h=>by
  obtain⟨a1,a2⟩:=List.pairwise_cons.1 ha;obtain⟨b1,b2⟩:=List.pairwise_cons.1 hb;have irr:∀z,¬dT z z<0:=λz=>by have:=kU z z;omega
  have e:x=y:=by
   rcases List.mem_cons.1 ((h x).1 (by simp))with e|h1
   .exact e
   .rcases List.mem_cons.1 ((h y).2 (by simp))with e|h2
    .exact e.symm
    .have l1:=a1 y h2;have l2:=b1 x h1;have:=kU x y;omega
  subst e;congr 1;refine IA a2 b2 (λz=>⟨λhz=>?_,λhz=>?_⟩)
  .rcases List.mem_cons.1 ((h z).1 (List.mem_cons_of_mem _ hz))with rfl|h1
   .exact absurd (a1 z hz) (irr z)
   .exact h1
  .rcases List.mem_cons.1 ((h z).2 (List.mem_cons_of_mem _ hz))with rfl|h1
   .exact absurd (b1 z hz) (irr z)
   .exact h1
theorem Mi{l r:List (List VV)}(h1:nJ r)(h2:∀x,x∈r↔x∈l):r=wN l:=IA h1 (BH l) λx=>by rw[h2,uF]
theorem Tx{l:List (List VV)}(h:nJ l):wN l=l:=(Mi h λ_=>Iff.rfl).symm
def Tn:Vc.Spec:=λcvs m h K=>∃(s:Sl)(us:List Sl),cvs=[cS s]/\oJ m h s 1 (us.map eS)/\us.length<=502633886983/\∀s' m',dH m' s' 74 1 (us.map eS)->(∀b o,m b=some o->m' b=some o)->(∀b i,s'.a=some ⟨b,i,none⟩->m b=none)->K (cS s') m' h
def Wp:Vc.Spec:=λcvs m h K=>∃(s:Sl)(ps:List (Sl×List VV)),cvs=[cS s,.val (.func (.func 71) #[] #[])]/\dH m s 74 1 (ps.map λp=>eS p.1)/\(∀p∈ps,cC h p.1 p.2)/\ps.length<=140737488355328/\
 ∀(ps':List (Sl×List VV))(m':MH),ps'.Perm ps->ps'.Pairwise (λp q=>¬dT q.2 p.2<0)->dH m' s 74 1 (ps'.map λp=>eS p.1)->(∀b,(∀i,s.a≠some ⟨b,i,none⟩)->m' b=m b)->K (.tup []) m' h
structure eK(h:PH)(us:List Sl)(rs:List (List VV)):Prop where
 len:us.length=rs.length
 at_:∀(j:Nat) x,rs[j]? =some x->∃u,us[j]? =some u/\cC h u x
def Ws:Vc.Spec:=λcvs m h K=>∃s us l,cvs=[cS s]/\oJ m h s 1 (us.map eS)/\eK h us l/\l.length<=502633886983/\∀s' h',PH.le h h'->Rows h' s' (wN l)->K (cS s') m h'
noncomputable def Xo:Ctx:=
 dL [(106,Tn),(107,Wp),(71,FD)] [(5,{A:=Nat×List Sl×Sl×MH×PH,st:=λ⟨i,us,s,m,h⟩=>cD 38 39 [(3,sv s),(4,.at (.lst 35)),(11,sv s),(12,iv s.len),(13,iv i)] [(35,.lst 74 1 (us.map eS))] m h})] [] [] false
def JL(n c:Nat)(m:MH)(h:PH)(K:CV->MH->PH->Prop):Prop:=
  K Dm m h
theorem V6(n c:Nat)(m:MH)(h:PH)(K:CV->MH->PH->Prop):JL n c m h K=(Ab (uM [] [] [] [] [53,1053] [] false) Tryz.f106 (dO Tryz.f106) (entry Tryz.f106.ntmps [.val (.slice none n c)] m h) K):=by kernel_rfl
abbrev iA(a:Sl->MH->Prop):Prop:=∀(x:Sl)(x1:MH),a x x1
abbrev AI(a:Prop)(b:(List (List Value))->Prop):Prop:=a/\∃(x:List (List Value)),b x
attribute [push_cast] iA AI
def JK(a:Addr)(n c:Nat)(m:MH)(h:PH)(K:CV->MH->PH->Prop):Prop:=
  iA (λs m1=>mU m m1 h s 74 1 []->∃(x:List (List Value)),AI (dH m1 (cV s) 74 1 x) (λy=>aA (eG 1 y) (oJ m1 h (Sl.mk (Option.some a) n c) 1 y) (aA (pX x y 24) (eO (pY x y)) (iA (λs1 m2=>eM m1 m2 (cV s) s1 74 1 (x++y)->K (lY s1) m2 h)))))
theorem V5(a:Addr)(n c:Nat)(m:MH)(h:PH)(K:CV->MH->PH->Prop):JK a n c m h K=(Ab (uM [] [] [] [] [53,1053] [] false) Tryz.f106 (dO Tryz.f106) (entry Tryz.f106.ntmps [.val (.slice (some a) n c)] m h) K):=by kernel_rfl
abbrev EB(a:Sl)(b:Nat)(c:List Sl)(d:MH->Nat->Obj->Prop)(e:Nat->Prop)(g:MH->Prop):Prop:=∀(x:MH),aR (dH x a 74 b (eU c)) (∀(x1:Nat)(x2:Obj),d x x1 x2) ((∀(x1 x2:Nat),bE a.a x1 x2->e x1)->g x)
abbrev A5(a:MH)(b:Nat):Prop:=a b=Option.none
abbrev EC(a:MH)(b:Sl)(c:Nat)(d:List (Sl×List VV)):Prop:=dH a b 74 c (List.map (fun(x:Sl×List VV)=>aK x.1) d)
abbrev HT(a:(Nat×List Sl×Sl×MH×PH->Prop)->(Nat×List Sl×Sl×MH×PH)->Prop)(b:(Nat×List Sl×Sl×MH×PH->Prop)->(Nat×List Sl×Sl×MH×PH->Nat)->(Nat×List Sl×Sl×MH×PH)->Prop):Prop:=∃(x:Nat×List Sl×Sl×MH×PH->Prop)(x1:Nat×List Sl×Sl×MH×PH->Nat),(∃(x2:Nat×List Sl×Sl×MH×PH),a x x2)/\∀(x2:Nat×List Sl×Sl×MH×PH),b x x1 x2
noncomputable abbrev eF(a:Nat×List Sl×Sl×MH×PH):Sl:=a.2.2.1
noncomputable abbrev iZ(a:List Sl):Option Go.Vc.Own:=cM 74 1 (List.map eS a)
noncomputable abbrev jG(a:Nat×List Sl×Sl×MH×PH):Nat->Nat->Option Value:=a.2.2.2.2
noncomputable abbrev jH(a:Sl×MH×PH):Nat->Option Obj:=a.2.1
noncomputable abbrev pS(a:Nat×List Sl×Sl×MH×PH):Nat->Option Obj:=jH a.2.2
noncomputable abbrev AN(a:List (List Value)):Nat:=0+a.length
abbrev Jb(a b:Prop)(c:(Nat×List Sl×Sl×MH×PH)->Prop):Prop:=aA a b (∃(x:Nat×List Sl×Sl×MH×PH),c x)
noncomputable abbrev oL(a:Nat×List Sl×Sl×MH×PH):List (List Value):=eU a.2.1
attribute [push_cast] EB A5 EC HT eF iZ jG jH pS AN Jb oL
def Jv(s:Sl)(m:MH)(h:PH)(K:CV->MH->PH->Prop):Prop:=
  ∃(s1:Sl)(u:List Sl),aH (tY s s1) (oJ m h s1 1 (eU u)) (u.length<=502633886983) (∀(s2:Sl),EB s2 1 u (λm1 b o=>m b=Option.some o->m1 b=Option.some o) (λb=>A5 m b) (λm1=>∃(s3:Sl)(p:List (Sl×List VV)),aA (gL s2 (CV.val (jA 71))=gL s3 (CV.val (jA 71))) (EC m1 s3 1 p) (aA (∀(p1:Sl×List VV),List.Mem p1 p->cC h p1.1 p1.2) (eO p.length) (∀(p1:List (Sl×List VV))(m2:MH),aR (List.Perm p1 p) (List.Pairwise (fun(p2:Sl×List VV)=>fun(q:Sl×List VV)=>¬(dT q.2 p2.2<0)) p1) (aR (EC m2 s3 1 p1) (∀(b:Nat),(∀(i:Nat),jO (bE s3.a b i))->m2 b=m1 b) (HT (λI x=>aA (I x) (bI s2 (eF x)) (aA (eL 35) (bI s2 (eF x)) (aA (bP s2 (eF x)) (aZ x.1) (aA (mM 74 1 (iZ x.2.1)) (bG m2 x.2.2.2) (bN h (jG
 x)))))) (λI m3 x=>I x->aW (↑x.1:Int) (aG (eF x)) (cZ (eF x).a (↑x.1:Int) (eF x) (λb o y=>aL (pS x) (jG x) b (bF o x.1 1) (aK y)/\dR (↑x.1:Int) 0 (∃(y1:List (List Value)),aA (eG 3 y1) (cR (jG x) (cV y) 3 y1) (aA (eO (AN y1*32)) (eO (AN y1)) (bV (jG x) 3 ([]++y1) (λs4 h1=>Jb (iG (oL x)) (dN (oL x)) (λx1=>aA (I x1) (m3 x1<m3 x) (aA (bI (eF x) (eF x1)) (eL 35) (aA (bI (eF x) (eF x1)) (bP (eF x) (eF x1)) (aA (fV (bB x.1 1)=bM x1.1) (cM 74 1 (eT (oL x) (aK s4))=iZ x1.2.1) (bT (bG (pS x) x1.2.2.2) h1 (jG x1)))))))))) (cZ (eF x).a (iN ((↑x.1:Int)-1)) (eF x) (λb1 o1 y1=>aL (pS x) (jG x) b1 (fJ o1 (iN ((↑x.1:Int)-1)) 1) (aK
 y1)/\xT y1 y (jG x) (λa b2=>eR (dT a b2) 0 (∃(y2:List (List Value)),aA (eG 3 y2) (cR (jG x) (cV y) 3 y2) (aA (eO (AN y2*32)) (eO (AN y2)) (bV (jG x) 3 ([]++y2) (λs4 h1=>Jb (iG (oL x)) (dN (oL x)) (λx1=>aA (I x1) (m3 x1<m3 x) (aA (bI (eF x) (eF x1)) (eL 35) (aA (bI (eF x) (eF x1)) (bP (eF x) (eF x1)) (aA (fV (bB x.1 1)=bM x1.1) (cM 74 1 (eT (oL x) (aK s4))=iZ x1.2.1) (bT (bG (pS x) x1.2.2.2) h1 (jG x1)))))))))) (∃(x1:Nat×List Sl×Sl×MH×PH),aA (I x1) (m3 x1<m3 x) (aA (bI (eF x) (eF x1)) (eL 35) (aA (bI (eF x) (eF x1)) (bP (eF x) (eF x1)) (aA (fV (bB x.1 1)=bM x1.1) (iZ x.2.1=iZ x1.2.1) (bT (bG (pS x) x1.2.2.2) (jG
 x) (jG x1))))))))))) (bV (jG x) 1 (oL x) (λs4 h1=>K (lY s4) (pS x) h1)))))))))
theorem zW(l:List Sl):eG 1 (l.map eS):=by
 constructor
 .intro e he;obtain⟨x,_,rfl⟩:=List.mem_map.1 he;rfl
 .intro e he u hu;obtain⟨x,_,rfl⟩:=List.mem_map.1 he;have:u= .slice x.a x.len x.cap:=by simpa[eS]using hu
  rw[this];rfl
theorem IF(l:List VV):eG 3 (l.map VV.enc):=by
 constructor
 .intro e he;obtain⟨x,_,rfl⟩:=List.mem_map.1 he;rfl
 .intro e he u hu;obtain⟨x,_,rfl⟩:=List.mem_map.1 he;simp only[VV.enc,List.mem_cons,List.not_mem_nil,or_false]at hu;rcases hu with rfl|rfl|rfl<;>rfl
theorem RE:Sound Tryz.prog 106 Tn:=by
 refine eJ (fn:=Tryz.f106) (c:=dO Tryz.f106) Tryz.func106 rfl (by decide) ?_;rintro cvs m h K ⟨s,us,rfl,hr,hl,hK⟩;obtain⟨a,n,c⟩:=s;refine⟨uM [] [] [] [] [53,1053] [] false,rfl,aF,?_⟩;cases a with
 |none=>
  show Ab _ Tryz.f106 (dO Tryz.f106) (entry Tryz.f106.ntmps [.val (.slice none n c)] m h) K;rw[<-V6 n c m h K];dsimp only[JL,push_cast]
  have e:us.map eS=[]:=by
   rcases hr with hr|⟨b,o,cs,E,fz,e,_⟩
   .rcases hr.row with e|⟨b,o,e,_⟩
    .exact e
    .cases e
   .cases e
  rw[e]at hK;exact hK ⟨none,0,0⟩ m ⟨⟨(λe he=>by cases he),(λe he=>by cases he)⟩,.inl ⟨rfl,rfl⟩⟩ (λb o e=>e) (λb i e=>by cases e)
 |some a=>
  show Ab _ Tryz.f106 (dO Tryz.f106) (entry Tryz.f106.ntmps [.val (.slice (some a) n c)] m h) K;rw[<-V5 a n c m h K];dsimp only[JK,push_cast];intro s m' hnew
  have sub:∀b o,m b=some o->m' b=some o:=λb o hb=>by
   rw[hnew.other b (λi e=>by rw[(hnew.fresh b i e).m_]at hb;cases hb)];exact hb
  refine⟨[],hnew.row,us.map eS,zW us,hr.sub sub,by simp;omega,by simp;omega,λs' m2 hg=>hK s' m2 (by simpa using hg.row) (λb o hb=>?_) (λb i e=>?_)⟩
  .exact hg.other b o (sub b o hb) (λi e=>by have e:s.a=some ⟨b,i,none⟩:=e;rw[(hnew.fresh b i e).m_]at hb;cases hb)
  .rcases hg.fresh b i e with h1|⟨j,h1⟩
   .cases e2:m b with
    |none=>rfl
    |some o=>rw[sub b o e2]at h1;cases h1
   .exact(hnew.fresh b j h1).m_
theorem Pv:Sound Tryz.prog 107 Wp:=by
 refine⟨⟨Tryz.f107,Tryz.func107,rfl,by decide⟩,?_⟩;rintro cvs vs m h w K ⟨s,ps,rfl,hr,hv,hl,hK⟩ hp
 obtain⟨v,v2,rfl⟩:∃v v2,vs=[v,v2]:=by
  have:=(mQ hp.args).1
  match vs,this with
  |[v,v2],_=>exact⟨v,v2,rfl⟩
 have h1:v=s.val:=hp.args.1;have h2:v2= .func (.func 71) #[] #[]:=hp.args.2.1;subst h1 h2;refine Kw (R:=λ_=>True) (g:=71) (cb:=[]) (m2:=λ_=>none) (cf:=dT) rfl hp ⟨Tryz.f71,Tryz.func71,rfl,by decide⟩ hr hv (λ_ _=>trivial) hl Ce.swo ⟨FD,C3,λx y=>⟨x.s,y.s,x.l,y.l,rfl,x.ok,y.ok,rfl,rfl,rfl⟩⟩ (λb o hb=>by cases hb) hK
theorem eK.mono{us:List Sl}{rs:List (List VV)}(x:eK h us rs)(le:PH.le h h'):eK h' us rs:=⟨x.len,λj r hr=>(x.at_ j r hr).imp λ_ hu=>⟨hu.1,cC.mono hu.2 le⟩⟩
theorem eK.nil(h:PH):eK h [] []:=⟨rfl,λj x hx=>by simp at hx⟩
theorem eK.snoc{us:List Sl}{rs:List (List VV)}(x:eK h us rs){u:Sl}{r:List VV}(hv:cC h u r):eK h (us++[u]) (rs++[r]):=by
 refine⟨by simp[x.len],λj y hy=>?_⟩;by_cases hj:j<rs.length
 .rw[List.getElem?_append_left hj]at hy;obtain⟨v,h1,h2⟩:=x.at_ j y hy;exact⟨v,by rw[List.getElem?_append_left (by rw[x.len];exact hj)];exact h1,h2⟩
 .rw[List.getElem?_append_right aC]at hy;have:=(List.getElem?_eq_some_iff.1 hy).1;simp at this;have e:j=rs.length:=by omega
  subst e;simp at hy;subst hy;exact⟨u,by rw[List.getElem?_append_right (by rw[x.len];exact Nat.le_refl _),x.len];simp,hv⟩
theorem eK.rows{h:PH}{us:List Sl}{rs:List (List VV)}{s:Sl}(x:eK h us rs)(hr:cR h s 1 (us.map eS))(hl:rs.length<=502633886983):Rows h s rs:=⟨⟨us,hr,x.len.symm,x.at_⟩,hl⟩
structure RY(ps':List (Sl×List VV))(s1:Sl)(m2:MH)(h:PH)(i:Nat)(us2:List Sl)(s2:Sl)(mx:MH)(hx:PH):Prop where
 s_:s2=s1
 m_:mx=m2
 le:PH.le h hx
 hi:i<=ps'.length
 hu:us2.length<=i
 ex:∃rs,eK hx us2 rs/\nJ rs/\∀x,x∈rs↔x∈(ps'.take i).map Prod.snd
theorem Hn{hx:PH}{u:Sl}{r:List VV}{us:List Sl}{Q:Sl->PH->Prop}(hpv:cC hx u r)(hl:us.length<=502633886983)(hQ:∀s h',hx.le h'->cC h' s r->Q s h'):
 ∃ys:List (List Value),eG 3 ys/\cR hx (Sl.mk u.a u.len u.cap) 3 ys/\(0+ys.length)*32<=140737488355328/\0+ys.length<=140737488355328/\∀(s:Sl)(h':PH),hx.le h'->cR h' s 3 ([]++ys)->
  ((List.map eS us).length+1)*24<=140737488355328/\(List.map eS us).length<140737488355328/\Q s h':=by
 obtain⟨vs,h1,h2,h3⟩:=hpv.ex;have hn:=hpv.len;refine⟨vs.map VV.enc,IF vs,h1,by rw[List.length_map];omega,by rw[List.length_map];omega,λs h' le hr=>⟨by rw[List.length_map];omega,by rw[List.length_map];omega,hQ s h' le ⟨⟨vs,hr,h2,h3⟩,hn⟩⟩⟩
theorem Y4{s:Sl}{us:List Sl}{l:List (List VV)}(hr:oJ m h s 1 (us.map eS))(hru0:eK h us l)(hll:l.length<=502633886983)(hK:∀s' h',PH.le h h'->Rows h' s' (wN l)->K (cS s') m h'):Jv s m h (kG h K):=by
 dsimp only[Jv,push_cast];have hul:=hru0.len.symm;have hat:=hru0.at_;refine⟨s,us,rfl,hr,aC,λs1 m1 hrow1 hsub1 hfr1=>⟨s1,us.zip l,rfl,?_,λp hp=>?_,by simp;omega,λps' m2 hperm hpw hrow2 hoth2=>?_⟩⟩
 .have:(us.zip l).map (λp=>[eC p.1])=us.map eS:=by
   rw[show(λp:Sl×List VV=>[eC p.1])=eS∘Prod.fst from rfl, <-List.map_map,List.map_fst_zip aC]
  rw[this];exact hrow1
 .obtain⟨j,hj⟩:=List.getElem?_of_mem hp;rw[List.getElem?_zip_eq_some]at hj;obtain⟨u,h1,h2⟩:=hat j p.2 hj.2;rw[hj.1]at h1;cases h1;exact h2
 .have hpl:ps'.length=us.length:=by rw[hperm.length_eq];simp;omega
  have hs1l:=dH.slen hrow2;simp only[List.length_map]at hs1l
  have hvs:∀{i:Nat}{p:Sl×List VV},ps'[i]? =some p->cC h p.1 p.2:=fun{i p} hp=>by
   have:=hperm.mem_iff.1 (List.mem_of_getElem? hp);obtain⟨j,hj⟩:=List.getElem?_of_mem this;rw[List.getElem?_zip_eq_some]at hj;obtain⟨u,h1,h2⟩:=hat j p.2 hj.2;rw[hj.1]at h1;cases h1;exact h2
  have hmem:∀x,x∈ps'.map Prod.snd↔x∈l:=λx=>by
   rw[(hperm.map Prod.snd).mem_iff,List.map_snd_zip aC]
  have hsubm:∀b o,m b=some o->m2 b=some o:=λb o hb=>by
   rw[hoth2 b (λi e2=>by rw[hfr1 b i e2]at hb;cases hb)];exact hsub1 b o hb
  refine⟨λx=>RY ps' s1 m2 h x.1 x.2.1 x.2.2.1 x.2.2.2.1 x.2.2.2.2,λx=>ps'.length-x.1,⟨(0,[],s1,m2,h),⟨rfl,rfl,.refl _,by simp,by simp,[],.nil h,.nil,by simp⟩,MT⟩,?_⟩;rintro⟨i,us2,s2,mx,hx⟩ ⟨e1,e2,le,hi,hu2,rs,hru,hso,hme⟩;dsimp only at e1 e2 le hi hu2 hru;subst e1 e2;refine aE (λhlt=>?_) (λhge=>?_)
  .dsimp only at hlt;have hlt2:i<ps'.length:=by omega
   obtain⟨p,hp⟩:∃p,ps'[i]? =some p:=⟨_,List.getElem?_eq_getElem hlt2⟩
   obtain⟨b,e1,r1⟩:=hrow2.rd (h:=hx) (i:=i) (e:=eS p.1) (by simp[hp];rfl);have hpv:=cC.mono (hvs hp) le
   have htake:∀x,x∈(ps'.take (i+1)).map Prod.snd↔x∈(ps'.take i).map Prod.snd\/x=p.2:=λx=>by
    rw[List.take_add_one,hp];simp
   have add:(∀y∈rs,dT y p.2<0)->∀(s:Sl)(h':PH),hx.le h'->cC h' s p.2->RY ps' s2 mx h (i+1) (us2++[s]) s2 mx h':=λhc s h' le' hv'=>by
    refine⟨rfl,rfl,le.trans le',aC,by simp;omega,rs++[p.2],(hru.mono le').snoc hv',List.pairwise_append.2 ⟨hso,by simp,λy hy z hz=>?_⟩,λx=>?_⟩
    .simp at hz;subst hz;exact hc y hy
    .rw[htake,List.mem_append,hme];simp
   have keep:p.2∈rs->RY ps' s2 mx h (i+1) us2 s2 mx hx:=λhc=>
    ⟨rfl,rfl,le,aC,aC,rs,hru,hso,λx=>by rw[htake,hme];exact⟨.inl,λh=>h.elim id λe=>by rw[e, <-hme];exact hc⟩⟩
   refine⟨b,0,e1,by show(0:Int)<=(i:Int);omega,hlt,p.1,by simpa[eS]using r1,aB (λh0=>?_) (λh0=>?_)⟩
   .have h0:i=0:=by simpa using h0
    subst h0
    have hrs:rs=[]:=by
     cases rs with
     |nil=>rfl
     |cons y _=>have:=(hme y).1 (by simp);simp at this
    exact Hn hpv (by dsimp only;omega) (λs h' le' hv'=>⟨(0+1,us2++[s],s2,mx,h'),add (by rw[hrs];simp) s h' le' hv',(by dsimp only;omega),rfl,rfl,rfl,rfl,rfl,by simp[eS],rfl,rfl,trivial⟩)
   .have h0:i≠0:=by simpa using h0
    have hw:IntKind.i64.wrap ((i:Int)-1)=((i-1:Nat):Int):=by rw[eB aC aC];omega
    obtain⟨q,hq⟩:∃q,ps'[i-1]? =some q:=⟨_,List.getElem?_eq_getElem aC⟩
    obtain⟨b',e1',r1'⟩:=hrow2.rd (h:=hx) (i:=i-1) (e:=eS q.1) (by simp[hq];rfl);have hqv:=cC.mono (hvs hq) le
    have hqrs:q.2∈rs:=by
     rw[hme];refine List.mem_map.2 ⟨q,?_,rfl⟩;exact List.mem_of_getElem? (i:=i-1) (by rw[List.getElem?_take,if_pos aC];exact hq)
    have hprev:∀y∈rs,dT y q.2<=0:=λy hy=>by
     rw[hme]at hy;obtain⟨z,hz,rfl⟩:=List.mem_map.1 hy;obtain⟨j,hj⟩:=List.getElem?_of_mem hz;have hjl:=(List.getElem?_eq_some_iff.1 hj).1;simp only[List.length_take]at hjl;rw[List.getElem?_take,if_pos aC]at hj;by_cases e:j=i-1
     .subst e;rw[hq]at hj;cases hj;have:=kU q.2 q.2;omega
     .have h1:=List.pairwise_iff_getElem.1 hpw j (i-1) aC aC aC;rw[(List.getElem?_eq_some_iff.1 hj).2,(List.getElem?_eq_some_iff.1 hq).2]at h1;have:=kU z.2 q.2;omega
    have hqp:dT q.2 p.2<=0:=by
     have h1:=List.pairwise_iff_getElem.1 hpw (i-1) i aC aC aC;rw[(List.getElem?_eq_some_iff.1 hp).2,(List.getElem?_eq_some_iff.1 hq).2]at h1;have:=kU q.2 p.2;omega
    dsimp only;rw[hw];refine⟨b',0,e1',aC,aC,q.1,by simpa[eS]using r1',q.1,p.1,q.2,p.2,rfl,hqv,hpv,aB (λhne=>?_) (λheq=>?_)⟩
    .have hne:dT q.2 p.2≠0:=by simpa using hne
     refine Hn hpv aC (λs h' le' hv'=>⟨(i+1,us2++[s],s2,mx,h'),add (λy hy=>?_) s h' le' hv',(by dsimp only;omega),rfl,rfl,rfl,rfl,by rw[iM aC],by simp[eS],rfl,rfl,trivial⟩);have t:=xB y q.2 p.2 (hprev y hy) hqp;by_cases e:dT y p.2=0
     .have:=Ce.zero (hprev y hy) hqp e;omega
     .omega
    .have heq:dT q.2 p.2=0:=by simpa using heq
     exact⟨(i+1,us2,s2,mx,hx),keep (by rw[<-jB.1 heq];exact hqrs),(by dsimp only;omega),rfl,rfl,rfl,rfl,by rw[iM aC],rfl,rfl,rfl,trivial⟩
  .intro s3 h3 le3 hr3;dsimp only at hge hr3 le3;have hi2:i=ps'.length:=by omega
   subst hi2;rw[List.take_length]at hme;have e:rs=wN l:=Mi hso (λx=>by rw[hme,hmem]);subst e;have hl:=hru.len;exact⟨m,h3,hsubm,le.trans le3,.refl _,hK s3 h3 (le.trans le3) ((hru.mono le3).rows hr3 aC)⟩
theorem C2:Sound Tryz.prog 74 Ws:=by
 refine Fa Tryz.func74 ?_;rintro cvs m h K ⟨s,us,l,rfl,hr,hu,hl,hK⟩;refine⟨Xo,rfl,aD RE (aD Pv (aD C3 aF)),Jv s m h (kG h K),by kernel_rfl,?_⟩;exact Y4 hr hu hl hK
end Go.Ps
namespace Go.Vc
open Go
section
variable{B:oH}{C:Ctx}{ι:Nat->Value}{σ:St}{a:Act}{w:World}{o:Oper}{K:St->Prop}
def J6(ι:Nat->Value)(σ:St)(b:Nat):Prop:=σ.m b≠none\/∃k o,nth σ.own k=some (some o)/\blk (ι k)=some b
def YU(ι:Nat->Value)(σ:St)(ds:List Deferred)(w:World):oH:=⟨w,J6 ι σ,σ.h,ds⟩
theorem aI.rebase(hM:aI B ι σ a w):aI (YU ι σ a.defers w) ι σ a w:=by
 have hw:=hM.wrel;refine⟨hM.slots,rfl,hM.own,hM.dist,λk o b hk hb=>?_,?_,hM.one⟩
 .obtain⟨_,f2,f3⟩:=hM.fresh k o b hk hb;exact⟨.inr (.inr ⟨k,o,hk,hb⟩),f2,f3⟩
 .exact⟨rfl,rfl,rfl,Nat.le_refl _,Nat.le_refl _,λ_ _ _=>rfl,hw.hsat,hw.msat,hw.disj,λ_ _ _ e=>e,λ_ _ _=>rfl,
   λb o hb=>.inr (.inl (by rw[hb];simp))⟩
theorem aI.mine(hM:aI B ι σ a w){b:Nat}(h:J6 ι σ b):(B.w0.heap.size<=b\/B.E b)/\b<w.heap.size/\∀i,σ.h b i=none:=by
 rcases h with h|⟨k,o,hk,hb⟩
 .cases e:σ.m b with
  |none=>exact(h e).elim
  |some ob=>exact⟨hM.wrel.mfr b ob e,(Array.getElem?_eq_some_iff.1 (hM.wrel.msat b ob e)).1,hM.wrel.disj b ob e⟩
 .obtain⟨f1,_,f3⟩:=hM.fresh k o b hk hb;exact⟨f1,nD (hM.own k o hk) hb,f3⟩
theorem aI.unbase(hM:aI B ι σ a w){ds:List Deferred}{ι':Nat->Value}{τ:St}{a':Act}{w':World}(h:aI (YU ι σ ds w) ι' τ a' w'):aI {B with dfs:=ds} ι' τ a' w':=by
 have hw:=hM.wrel;have hw':=h.wrel
 have old:∀b,(w.heap.size<=b\/J6 ι σ b)->B.w0.heap.size<=b\/B.E b:=λb hb=>by
  rcases hb with h1|h1
  .exact .inl (Nat.le_trans hw.size h1)
  .exact(hM.mine h1).1
 refine⟨h.slots,h.defers,h.own,h.dist,λk o b hk hb=>?_,?_,h.one⟩
 .obtain⟨f1,f2,f3⟩:=h.fresh k o b hk hb;exact⟨old b f1,f2,f3⟩
 .have s':w.heap.size<=w'.heap.size:=hw'.size;refine⟨hw'.tape.trans hw.tape,hw'.os.trans hw.os,hw'.output.trans hw.output,Nat.le_trans hw.drawn hw'.drawn,Nat.le_trans hw.size s',?_,hw'.hsat,hw'.msat,hw'.disj,λb i v e=>hw'.hle b i v (hw.hle b i v e),?_,λb o hb=>old b (hw'.mfr b o hb)⟩
  .intro b hb hnE
   have hn:¬J6 ι σ b:=λhm=>by
    rcases(hM.mine hm).1 with h1|h1
    .exact absurd hb (Nat.not_lt.2 h1)
    .exact hnE h1
   have:=hw'.frame b (Nat.lt_of_lt_of_le hb hw.size) hn;rw[this];exact hw.frame b hb hnE
  .intro b hb hnE
   have hn:¬J6 ι σ b:=λhm=>by
    rcases(hM.mine hm).1 with h1|h1
    .exact absurd hb (Nat.not_lt.2 h1)
    .exact hnE h1
   have:τ.h b=σ.h b:=hw'.hold b (Nat.lt_of_lt_of_le hb hw.size) hn;rw[this];exact hw.hold b hb hnE
theorem aI.grown(hM:aI B ι σ a w){w':World}{row:Option Nat}(hg:w.grownBy w' row)(hdr:w.drawn<=w'.drawn)(hrow:∀r,row=some r->B.w0.heap.size<=r/\¬J6 ι σ r/\∃ob:Obj,w.heap[r]? =some ob/\ob.isCells=false):aI B ι σ a w':=by
 have hw:=hM.wrel;have same:∀b,b<w.heap.size->(∀r,row=some r->b≠r)->w'.heap[b]? =w.heap[b]? :=λb hb hne=>hg.block b hb (λe=>hne b e.symm rfl);have mine:∀b,J6 ι σ b->w'.heap[b]? =w.heap[b]? :=λb hb=>same b (hM.mine hb).2.1 (λr e h=>(hrow r e).2.1 (h▸hb));refine⟨hM.slots,hM.defers,λk o hk=>(hM.own k o hk).world (λb hb=>mine b (.inr ⟨k,o,hk,hb⟩)),hM.dist,hM.fresh,?_,hM.one⟩;refine⟨hg.tape.trans hw.tape,hg.os.trans hw.os,hg.output.trans hw.output,Nat.le_trans hw.drawn hdr,Nat.le_trans hw.size hg.size,?_,?_,?_,hw.disj,hw.hle,hw.hold,hw.mfr⟩
 .intro b hb hnE;rw[same b (Nat.lt_of_lt_of_le hb hw.size) (λr e h=>by have:=(hrow r e).1;omega)];exact hw.frame b hb hnE
 .intro b i v hv;have h1:=hw.hsat b i v hv;have hlt:b<w.heap.size:=World.block_lt_of_cell? w ⟨b,i,none⟩ h1
  have hne:∀r,row=some r->b≠r:=λr e h=>by
   obtain⟨_,_,ob,hob,hnc⟩:=hrow r e;unfold World.cell? at h1;rw[h]at h1;dsimp only at h1;rw[hob]at h1;cases ob<;>simp[Obj.isCells]at hnc h1
  rw[World.cell?_of_block (w:=w) (w':=w') (a:=⟨b,i,none⟩) (same b hlt hne)];exact h1
 .intro b o hb;rw[mine b (.inl (by rw[hb];simp))];exact hw.msat b o hb
def oA:Code->Bool
 |.skip=>true
 |.ret=>true
 |.exit _=>true
 |.region _ ops _=>ops.toList.all λo=>match o.op with|.defer _=>false|_=>true
 |.seq x y=>oA x&&oA y
 |.cond _ x y=>oA x&&oA y
 |.block _ x=>oA x
 |.loop x=>oA x
 |_=>false
def Plain(ops:Array Oper):Prop:=∀(i:Nat)(o:Oper),ops[i]? =some o->∀c,o.op≠ .defer c
theorem N2{ops:Array Oper}(h:(ops.toList.all λo=>match o.op with|.defer _=>false|_=>true)=true):Plain ops:=by
 intro i o ho c e;rw[List.all_eq_true]at h;have:=h o (List.mem_of_getElem? (by rw[Array.getElem?_toList];exact ho));rw[e]at this;cases this
theorem sW(l:Nat){P:Program}{ops:Array Oper}(hd:Plain ops){Q:Exit->Act->World->Prop}:∀(L:List Nat)(a:Act)(w:World),wpOpsIn Fence.wide 0 P ops Q L a w->wpOpsIn (Fence.wide.inRound l) 0 P ops Q L a w
 |[],_,_,h=>h
 |i::L,a,w,h=>by
  unfold wpOpsIn at h⊢
  cases ho:ops[i]? with
  |none=>rw[ho]at h;exact sW l hd L a w h
  |some o=>
   rw[ho]at h;dsimp only at h⊢
   split
   .rename_i hw;rw[if_pos hw]at h;exact It l (hd i o ho) (Oper.wpIn_mono (λa w=>sW l hd L a w) h)
   .rename_i hw;rw[if_neg hw]at h;exact⟨λ_ _=>trivial,sW l hd L _ _ h.2⟩
theorem xH(l:Nat){P:Program}{md:Region.Mode}{ops:Array Oper}(hd:Plain ops){Q:Exit->Act->World->Prop}(hQ:¬LetsOut Q):∀(n:Nat)(L:Array Bool)(a:Act)(w:World),wpAny P md ops Q n L a w->wpAnyIn (Fence.wide.inRound l) 0 P md ops Q n L a w
 |0,_,_,_,h=>h
 |n+1,L,a,w,h=>by
  refine⟨h.1,λi hi=>?_⟩;have:=h.2 i hi;unfold wpOp at this;unfold wpOpIn;cases ho:ops[i]? with
  |none=>rw[ho]at this;exact xH l hd hQ n _ _ _ this
  |some o=>
   rw[ho]at this;dsimp only at this⊢
   split
   .rename_i hw;rw[if_pos hw]at this;rcases this with h1|h1
    .exact It l (hd i o ho) (Oper.wpIn_mono (λa w=>xH l hd hQ n _ a w) (Iu h1))
    .exact(hQ h1.2).elim
   .rename_i hw;rw[if_neg hw]at this;exact⟨λ_ _=>trivial,xH l hd hQ n _ _ _ this⟩
theorem Bn{F:Fence}{n:Nat}{P:Program}{Q:Exit->Act->World->Prop}{a:Act}{w:World}{c:Code}(I:Nat->Act->World->Prop)(n₀:Nat)(h₀:I n₀ a w)
 (round:∀k a w,I k a w->c.wpIn F n P (Exit.then (λa' w'=>∃k',k'<k/\I k' a' w') Q) a w):(Code.loop c).wpIn F n P Q a w:=by
 refine wpIn_loop (λa w=>∃k,I k a w) (λa w=>leastOf (λk=>I k a w)) ⟨n₀,h₀⟩ ?_;intro a w hI;refine wpIn_mono (round _ a w (leastOf_spec hI).1) ?_;intro e a' w' hq;cases e with
 |normal=>
  obtain⟨k',hlt,hI'⟩:=hq;exact⟨⟨k',hI'⟩,Nat.lt_of_le_of_lt ((leastOf_spec ⟨k',hI'⟩).2 k' hI') hlt⟩
 |exit id=>exact hq
 |ret=>exact hq
 |goto l=>exact hq
 |panic ch=>exact hq
 |outgrown=>exact hq
theorem Kv(l:Nat)(hspecs:∀g S,assoc C.specs g=some S->Sound C.P g S):∀(c:Code),oA c=true->∀(σ:St)(Q:Bv->St->Prop)(ι:Nat->Value)(a:Act)(w:World),aI B ι σ a w->VC C c σ Q->c.wpIn (Fence.wide.inRound l) 0 C.P (QD B Q) a w:=by
 intro c
 induction c with
 |skip=>intro hs σ Q ι a w hM h;exact wpIn_skip ⟨ι,σ,hM,h⟩
 |label l=>intro hs;cases hs
 |exit id=>intro hs σ Q ι a w hM h;exact wpIn_exit ⟨ι,σ,hM,h⟩
 |ret=>intro hs σ Q ι a w hM h;exact wpIn_ret ⟨ι,σ,hM,h⟩
 |goto l=>intro hs;cases hs
 |refuse why=>intro hs;cases hs
 |scope body ih=>intro hs;cases hs
 |rangeFunc f ps x y ihx ihy=>intro hs;cases hs
 |region id ops draw=>
  intro hs σ Q ι a w hM h;cases draw with
  |false=>
   refine wpIn_region (sW l (N2 hs) _ _ _ ?_);have:=FK hspecs (ops:=ops) (Q:=Q) (P5 C id) ops.toList 0 ι σ a w (λj=>by simp) hM h;rw[List.range_eq_range'];simpa using this
  |true=>
   simp only[VC]at h;split at h
   .rename_i h1 h2 h3;have hsa:=U3 h1 h2;refine wpIn_region_any h3 (xH l (N2 hs) (λ⟨_,_,e⟩=>e) _ _ _ _ ?_);refine LR hspecs hsa (Q:=QD B Q) (R:=Q .normal) (λι σ a w hM h=>⟨ι,σ,hM,h⟩) (λc a w h=>h) ops.size ops.size _ ι σ a _ (hM.drew (w.drawn+1) (Nat.le_succ _)) h _ a ?_ ?_
    .have hno:∀i,(Array.replicate ops.size false).getD i false=true->False:=by
      intro i hi;by_cases hlt:i<ops.size
      .simp[Array.getD,hlt]at hi
      .simp[Array.getD,hlt]at hi
     exact⟨by simp,by simp,λi hi=>hi,λi o _ hi=>(hno i hi).elim,λi o _ hi=>(hno i hi).elim,λi o _ hi=>(hno i hi).elim,rfl,rfl,λt _=>rfl,λi o _ hi=>(hno i hi).elim⟩
    .unfold oZ;rw[List.filter_eq_self.2]
     .simp
     .intro i hi;by_cases hlt:i<ops.size<;>simp[Array.getD,hlt]
   .exact h.elim
 |seq x y ihx ihy=>
  intro hs σ Q ι a w hM h;obtain⟨hs1,hs2⟩:=Bool.and_eq_true_iff.1 hs;simp only[VC]at h;split at h
  .obtain⟨h,hall⟩:=h;refine wpIn_seq (wpIn_mono (ihx hs1 σ _ ι a w hM h) ?_);intro e a' w' hq;cases e with
   |normal=>
    obtain⟨ι',σ',hM',x,hx,hm⟩:=hq;show y.wpIn (Fence.wide.inRound l) 0 C.P (QD B Q) a' w';obtain⟨ι2,hM2,_⟩:=kY hM' hm;exact ihy hs2 _ Q ι2 a' w' hM2 (hall x hx)
   |exit id=>exact hq
   |ret=>exact hq
   |goto l=>exact hq
   |panic ch=>exact hq
   |outgrown=>exact hq
  .split at h
   .obtain⟨I,h,hall⟩:=h;refine wpIn_seq (wpIn_mono (ihx hs1 σ _ ι a w hM h) ?_);intro e a' w' hq;cases e with
    |normal=>
     obtain⟨ι',σ',hM',hm⟩:=hq;show y.wpIn (Fence.wide.inRound l) 0 C.P (QD B Q) a' w';obtain⟨x,ι2,hx,hM2⟩:=uH hM' hm;exact ihy hs2 _ Q ι2 a' w' hM2 (hall x hx)
    |exit id=>exact hq
    |ret=>exact hq
    |goto l=>exact hq
    |panic ch=>exact hq
    |outgrown=>exact hq
   .refine wpIn_seq (wpIn_mono (ihx hs1 σ _ ι a w hM h) ?_);intro e a' w' hq;cases e with
    |normal=>
     obtain⟨ι',σ',hM',h'⟩:=hq;show y.wpIn (Fence.wide.inRound l) 0 C.P (QD B Q) a' w';exact ihy hs2 σ' Q ι' a' w' hM' h'
    |exit id=>exact hq
    |ret=>exact hq
    |goto l=>exact hq
    |panic ch=>exact hq
    |outgrown=>exact hq
 |cond c x y ihx ihy=>
  intro hs σ Q ι a w hM h;obtain⟨hs1,hs2⟩:=Bool.and_eq_true_iff.1 hs;simp only[VC]at h;split at h
  .rename_i t hc;have hev:=hM.ev c;rw[hc]at hev;have hev:a.eval c= .bool t:=hev;rcases qG h with⟨rfl,h⟩|⟨rfl,h⟩
   .exact wpIn_cond_true hev (ihx hs1 _ Q ι a w (hM.setTmp hc) h)
   .exact wpIn_cond_false hev (ihy hs2 _ Q ι a w (hM.setTmp hc) h)
  .exact h.elim
 |block id c ih=>
  intro hs σ Q ι a w hM h;refine wpIn_block (wpIn_mono (ih hs σ _ ι a w hM h) ?_);intro e a' w' hq;cases e with
  |normal=>exact hq
  |exit i=>
   obtain⟨ι',σ',hM',h'⟩:=hq;show if i=id then _ else _
   simp only at h';split at h'
   .rename_i hb;rw[if_pos (Nat.eq_of_beq_eq_true hb)];exact⟨ι',σ',hM',h'⟩
   .rename_i hb;rw[if_neg (λe=>by subst e;simp at hb)];exact⟨ι',σ',hM',h'⟩
  |ret=>exact hq
  |goto l=>exact hq
  |panic ch=>exact hq
  |outgrown=>exact hq
 |loop c ih=>
  intro hs σ Q ι a w hM h;simp only[VC]at h;split at h
  .rename_i ln hl;obtain⟨⟨x,hx,hm⟩,hall⟩:=h;obtain⟨ι2,hM2,_⟩:=kY hM hm;refine Bn (λn a w=>∃x ι,ln.inv x/\ln.mu x=n/\aI B ι (ln.st x) a w) (ln.mu x) ⟨x,ι2,hx,rfl,hM2⟩ ?_;rintro n a' w' ⟨x',ι',hx',rfl,hM'⟩;refine wpIn_mono (ih hs _ _ ι' a' w' hM' (hall x' hx')) ?_;intro e a'' w'' hq;cases e with
   |normal=>
    obtain⟨ι3,σ3,hM3,y,hy,hlt,hmy⟩:=hq;obtain⟨ι4,hM4,_⟩:=kY hM3 hmy;exact⟨ln.mu y,hlt,y,ι4,hy,rfl,hM4⟩
   |exit id=>exact hq
   |ret=>exact hq
   |goto l=>exact hq
   |panic ch=>exact hq
   |outgrown=>exact hq
  .split at h
   .rename_i ln hl;obtain⟨I,mu,hm,hall⟩:=h;obtain⟨x,ι2,hx,hM2⟩:=uH hM hm;refine Bn (λn a w=>∃x ι,I x/\mu x=n/\aI B ι (ln.st x) a w) (mu x) ⟨x,ι2,hx,rfl,hM2⟩ ?_;rintro n a' w' ⟨x',ι',hx',rfl,hM'⟩;refine wpIn_mono (ih hs _ _ ι' a' w' hM' (hall x' hx')) ?_;intro e a'' w'' hq;cases e with
    |normal=>
     obtain⟨ι3,σ3,hM3,hmy⟩:=hq;obtain⟨y,ι4,hy,hlt,hM4⟩:=Hp hM3 hmy;exact⟨mu y,hlt,y,ι4,hy,rfl,hM4⟩
    |exit id=>exact hq
    |ret=>exact hq
    |goto l=>exact hq
    |panic ch=>exact hq
    |outgrown=>exact hq
   .exact h.elim
end
end Go.Vc
namespace Go.Vc
open Go
def mS:Code->Bool
 |.seq x y=>mS x||mS y
 |.cond _ x y=>mS x||mS y
 |.block _ x=>mS x
 |.loop x=>mS x
 |.scope x=>mS x
 |.rangeFunc .. =>true
 |_=>false
structure Za(P:Program)(l:Nat)(vs:List Value)(m:MH)(h:PH)(R:Bool->MH->PH->Prop):Prop where
 go:∀w,Th w m h->∃fn tmps assign body,(Instr.yield l vs.toArray).run P w= .ok (.round l fn tmps assign body) w/\
  RoundIn Fence.wide 0 P l fn tmps assign body w λe w'=>∃u m' h',e= .returned (.bool u)/\R u m' h'/\R2 w m h m' h' w'
def Wj(P:Program):Spec:=λcvs m h K=>∃(l:Nat)(vs:List Value)(R:Bool->MH->PH->Prop),cvs= .val (.func (.yield l) #[] #[])::vs.map .val/\Za P l vs m h R/\∀u m' h',R u m' h'->K (.val (.bool u)) m' h'
theorem G7:∀{l l':List Value},l.map CV.val=l'.map CV.val->l=l'
 |[],[],_=>rfl
 |a::l,b::l',h=>by
  simp only[List.map_cons,List.cons.injEq,CV.val.injEq]at h;rw[h.1,G7 h.2]
 |[],_::_,h=>by simp at h
 |_::_,[],h=>by simp at h
theorem Is(P:Program):M8 P (Wj P):=⟨λl vs m h w K⟨l',vs',R,he,hS,hR⟩ hH=>by
 simp only[List.cons.injEq,CV.val.injEq,Value.func.injEq,Fn.yield.injEq,and_true]at he;obtain⟨rfl,he⟩:=he;rw[G7 he];obtain⟨fn,tmps,as_,bd,h1,h2⟩:=hS.go w hH;exact⟨fn,tmps,as_,bd,h1,h2.mono λe w'⟨u,m',h',e1,e2,e3⟩=>⟨_,m',h',e1,hR u m' h' e2,e3⟩⟩⟩
def WH(P:Program)(Src:PH->List Value->List (List Value)->Prop):Spec:=λcvs m h K=>∃(l:Nat)(caps:List Value)(xs:List (List Value))(J:Nat->MH->PH->Prop),
 cvs= .val (.func (.yield l) #[] #[])::caps.map .val/\Src h caps xs/\J 0 m h/\
 (∀k e m' h',xs[k]? =some e->PH.le h h'->J k m' h'->Za P l e m' h' (λr m2 h2=>r=true/\PH.le h' h2/\J (k+1) m2 h2))/\
 ∀r m' h',PH.le h h'->J xs.length m' h'->K r m' h'
structure Cn(P:Program)(g:FuncId)(Src:PH->List Value->List (List Value)->Prop):Prop where
 sound:Sound P g (WH P Src)
def valOf(P:Program)(T:TypeId)(cs:List Value):Value:=
 match w9 P T with
 |true=>.agg cs.toArray
 |false=>match cs with|[x]=>x|_=>undef
def KJ:SV->SV
 |.at (.val v)=>.at (.val v)
 |.agg cs=>match oY cs with|some _=>.agg cs|none=>.at .junk
 |_=>.at .junk
def N8:Option Own->Option Own:=λ_=>none
def blank(σ:St)(m:MH)(h:PH):St:={sl:=σ.sl.map KJ,own:=σ.own.map N8,m:=m,h:=h}
def Mj(l:List SV):List (Nat×SV)->List SV
 |[]=>l
 |(p,x)::r=>Mj (l.set p x) r
def Sf(σ:St)(es:List (Nat×SV))(m:MH)(h:PH):St:={sl:=Mj (σ.sl.map KJ) es,own:=σ.own.map N8,m:=m,h:=h}
def HC(C:Ctx)(x y:Code)(σ:St)(es:List (Nat×SV))(m:MH)(h:PH)(R:MH->PH->Prop):Prop:=
 VC C x (Sf σ es m h) (λex τ=>match ex with
  |.normal=>VC C y τ (λex υ=>match ex with
   |.normal=>R υ.m υ.h
   |_=>False)
  |_=>False)
def Qm(C:Ctx)(f:Operand)(ps:Array Tmp)(x y:Code)(σ:St)(K:St->Prop):Prop:=
 match σ.ev f,oA x&&oA y with
 |.at (.val (.func (.func g) fs cs)),true=>match fs.toList with
  |[]=>match ps.toList,C.elemT with
   |[p],[T]=>∃(Src:PH->List Value->List (List Value)->Prop)(xs:List (C.dec T).X)(I:Nat->MH->PH->Prop),Cn C.P g Src/\Src σ.h cs.toList (xs.map λx=>[valOf C.P T ((C.dec T).enc x)])/\I 0 σ.m σ.h/\
    (∀(k:Nat)(e:(C.dec T).X)(m:MH)(h:PH),xs[k]? =some e->PH.le σ.h h->I k m h->HC C x y σ [(p,mk C.P T (((C.dec T).enc e).map .val))] m h (I (k+1)))/\
    ∀(m:MH)(h:PH),PH.le σ.h h->I xs.length m h->K (blank σ m h)
   |[p,q],[T,U]=>∃(Src:PH->List Value->List (List Value)->Prop)(xs:List ((C.dec T).X×(C.dec U).X))(I:Nat->MH->PH->Prop),Cn C.P g Src/\Src σ.h cs.toList (xs.map λx=>[valOf C.P T ((C.dec T).enc x.1),valOf C.P U ((C.dec U).enc x.2)])/\I 0 σ.m σ.h/\
    (∀(k:Nat)(e:(C.dec T).X)(e':(C.dec U).X)(m:MH)(h:PH),xs[k]? =some (e,e')->PH.le σ.h h->I k m h->HC C x y σ [(p,mk C.P T (((C.dec T).enc e).map .val)),(q,mk C.P U (((C.dec U).enc e').map .val))] m h (I (k+1)))/\
    ∀(m:MH)(h:PH),PH.le σ.h h->I xs.length m h->K (blank σ m h)
   |_,_=>False
  |_=>False
 |_,_=>False
def UW(C:Ctx):Code->St->(Bv->St->Prop)->Prop
 |.rangeFunc f ps x y,σ,Q=>Qm C f ps x y σ (Q .normal)
 |.seq a b,σ,Q=>match mS a||mS b with
  |false=>VC C (.seq a b) σ Q
  |true=>match Wc C b with
   |some c=>∃I:c.A->Prop,UW C a σ (λe τ=>match e with
    |.normal=>Ek c I τ
    |e=>Q e τ)/\∀x,I x->UW C b (c.st x) Q
   |none=>UW C a σ (λe τ=>match e with
    |.normal=>UW C b τ Q
    |e=>Q e τ)
 |.block id c,σ,Q=>match mS c with
  |false=>VC C (.block id c) σ Q
  |true=>UW C c σ (λe τ=>match e with
   |.exit i=>match Nat.beq i id with|true=>Q .normal τ|false=>Q (.exit i) τ
   |e=>Q e τ)
 |.cond c x y,σ,Q=>match mS x||mS y with
  |false=>VC C (.cond c x y) σ Q
  |true=>match σ.ev c with
   |.at (.val (.bool t))=>branch t (UW C x (setTmp σ c true) Q) (UW C y (setTmp σ c false) Q)
   |_=>False
 |c,σ,Q=>VC C c σ Q
def WU(C:Ctx)(σ:St):List ResultVar->(List Value->Prop)->Prop
 |[],K=>K []
 |.cell t T::r,K=>match nth σ.sl t,gW C.P T with
  |some (.at (.val (.pointer (some ⟨b,off,none⟩)))),true=>Wb C T (aL σ.m σ.h b off) λl=>match(mk C.P T (l.map .val)).val? with
   |some v=>WU C σ r (λrs=>K (v::rs))
   |none=>False
  |_,_=>False
 |_::_,_=>False
def FO(C:Ctx)(fn:Func)(K:CV->MH->PH->Prop)(σ:St):Prop:=
 match DI C σ fn.results.toList with
 |some _=>KB C fn K σ
 |none=>WU C σ fn.results.toList λrs=>match rs with
  |[r]=>K (.val r) σ.m σ.h
  |rs=>K (.tup (rs.map .val)) σ.m σ.h
def Sw(C:Ctx)(fn:Func)(c:Code)(σ:St)(K:CV->MH->PH->Prop):Prop:=
 UW C c σ (λe τ=>match e with
  |.normal=>FO C fn K τ
  |.ret=>FO C fn K τ
  |_=>False)
section
variable{B:oH}{C:Ctx}{ι:Nat->Value}{σ:St}{a:Act}{w:World}{K:St->Prop}
theorem TH{ι ι':Nat->Value}{x:SV}{v:Value}(h:Den ι x v):Den ι' (KJ x) v:=by
 cases x with
 |«at» y=>cases y<;>first|exact h|trivial
 |agg cs=>
  simp only[KJ];split
  .rename_i l hl;obtain⟨us,rfl,hd⟩:=h;rw[zS hl]at hd⊢
   exact⟨us,rfl,by rw[gO.vals]at hd⊢;exact hd⟩
  .trivial
 |tup xs=>trivial
theorem BZ{ι ι':Nat->Value}:∀{xs:List SV}{vs:List Value},DenS ι xs vs->DenS ι' (xs.map KJ) vs
 |[],[],_=>trivial
 |_::_,_::_,h=>⟨TH h.1,BZ h.2⟩
 |[],_::_,h=>h.elim
 |_::_,[],h=>h.elim
theorem Cv(l:List (Option Own))(k:Nat)(o:Own):nth (l.map N8) k=some (some o)->False:=by
 rw[vI];cases nth l k<;>simp[N8]
theorem aI.blank'{B:oH}{sl:List SV}{l:List (Option Own)}{m:MH}{h:PH}{a:Act}{w:World}(hs:DenS (λ_=>.slice none 0 0) sl a.tmps.toList)(hd:a.defers=B.dfs)(hw:zN B m h w):
 aI B (λ_=>.slice none 0 0) {sl:=sl,own:=l.map N8,m:=m,h:=h} a w:=
 ⟨hs,hd,λk o hk=>(Cv l k o hk).elim,λk _ o _ _ hk=>(Cv l k o hk).elim,λk o _ hk=>(Cv l k o hk).elim,hw,λ_=>rfl⟩
def wZ(D:Nat):Deferred:={target:=.collected D,args:= #[]}
structure MM(B:oH)(ds:List Nat)(ι:Nat->Value)(σ:St)(a:Act)(w:World):Prop where
 mod:aI {B with dfs:=ds.map wZ} ι σ a w
 size:∀D∈ds,B.w0.heap.size<=D
 mine:∀D∈ds,¬J6 ι σ D
 mark:∀D∈ds,w.heap[D]? =some (.deferred (some []))
 nodup:ds.Nodup
def QM(B:oH)(Q:Bv->St->Prop):Exit->Act->World->Prop
 |.normal,a,w=>∃ds ι σ,MM B ds ι σ a w/\Q .normal σ
 |.exit id,a,w=>∃ds ι σ,MM B ds ι σ a w/\Q (.exit id) σ
 |.ret,a,w=>∃ds ι σ,MM B ds ι σ a w/\Q .ret σ
 |_,_,_=>False
theorem MM.step{ds:List Nat}(hM:MM B ds ι σ a w){ι':Nat->Value}{τ:St}{a':Act}{w':World}(h:aI (YU ι σ (ds.map wZ) w) ι' τ a' w'):MM B ds ι' τ a' w':=by
 have lt:∀D∈ds,D<w.heap.size:=λD hD=>(Array.getElem?_eq_some_iff.1 (hM.mark D hD)).1;refine⟨?_,hM.size,λD hD hm=>?_,λD hD=>?_,hM.nodup⟩
 .exact hM.mod.unbase (ds:=ds.map wZ) h
 .rcases(h.mine hm).1 with h1|h1
  .have h1:w.heap.size<=D:=h1;have:=lt D hD;omega
  .exact hM.mine D hD h1
 .rw[h.wrel.frame D (lt D hD) (hM.mine D hD)];exact hM.mark D hD
theorem MM.here{ds:List Nat}(hM:MM B ds ι σ a w):aI (YU ι σ (ds.map wZ) w) ι σ a w:=by
 have:=hM.mod.rebase;rw[hM.mod.defers]at this;exact this
theorem MM.of_QD{ds:List Nat}(hM:MM B ds ι σ a w){Q:Bv->St->Prop}{e:Exit}{a':Act}{w':World}(h:QD (YU ι σ (ds.map wZ) w) Q e a' w'):QM B Q e a' w':=by
 cases e with
 |normal=>obtain⟨ι',τ,h1,h2⟩:=h;exact⟨ds,ι',τ,hM.step h1,h2⟩
 |exit id=>obtain⟨ι',τ,h1,h2⟩:=h;exact⟨ds,ι',τ,hM.step h1,h2⟩
 |ret=>obtain⟨ι',τ,h1,h2⟩:=h;exact⟨ds,ι',τ,hM.step h1,h2⟩
 |goto l=>exact h.elim
 |panic ch=>exact h.elim
 |outgrown=>exact h.elim
theorem MM.retag{ds:List Nat}(hM:MM B ds ι σ a w){ι':Nat->Value}{τ:St}(h:aI (YU ι σ (ds.map wZ) w) ι' τ a w):MM B ds ι' τ a w:=hM.step h
theorem xL(hspecs:∀g S,assoc C.specs g=some S->Sound C.P g S){ds:List Nat}(hM:MM B ds ι σ a w){c:Code}{Q:Bv->St->Prop}(h:VC C c σ Q):c.wp C.P (QM B Q) a w:=
 wp_mono (Nz hspecs c σ Q ι a w hM.here h) (λ_ _ _ hq=>hM.of_QD hq)
theorem Qf{P:Program}{T:TypeId}{cs:List Value}{ι:Nat->Value}:Den ι (mk P T (cs.map .val)) (valOf P T cs):=by
 unfold mk valOf;cases w9 P T with
 |true=>exact⟨_,rfl,by simpa using(gO.vals (ι:=ι)).2 rfl⟩
 |false=>match cs with
  |[]=>exact trivial
  |[x]=>exact rfl
  |_::_::_=>exact trivial
theorem IC{ι:Nat->Value}:∀{es:List (Nat×SV)}{vs:List Value}{sl:List SV}{ts:Array Value},DenS ι (es.map (·.2)) vs->DenS ι sl ts.toList->
 DenS ι (Mj sl es) (((es.map (·.1)).zip vs).foldl (λts(p,v)=>ts.setIfInBounds p v) ts).toList
 |[],[],_,_,_,h=>h
 |(p,x)::es,v::vs,sl,ts,h,hs=>by
  refine IC (es:=es) (vs:=vs) h.2 ?_;rw[Array.toList_setIfInBounds];exact hs.set p h.1
 |[],_::_,_,_,h,_=>h.elim
 |_::_,[],_,_,h,_=>h.elim
def vH(fn:FuncId)(tmps:Array Value)(ps:Array Tmp)(x y:Code)(D:Nat)(st:LoopState):Loop:={state:=st,pending:=none,fn:=fn,tmps:=tmps,params:=ps,assign:=x,body:=y,defers:=D}
theorem IV{w:World}{l i:Nat}{r:Loop}(h:w.heap[l]? =some (.loop r)):w.cell? ⟨l,i,none⟩=none:=by
 unfold World.cell?;dsimp only;rw[h]
theorem NU(hspecs:∀g S,assoc C.specs g=some S->Sound C.P g S){tmps:Array Value}{x y:Code}(hx:oA x=true)(hy:oA y=true)(hsl:DenS ι σ.sl tmps.toList)
 {es:List (Nat×SV)}{vs:List Value}{ps:Array Tmp}(hps:ps.toList=es.map (·.1))(hes:DenS (λ_=>.slice none 0 0) (es.map (·.2)) vs)
 {fn:FuncId}{D l:Nat}{m0 mm:MH}{h0:PH}(hl0:m0 l=none)(hmm:∀b,b≠l->mm b=m0 b)(hml:mm l=some (.loop (vH fn tmps ps x y D .ready))){R:MH->PH->Prop}
 (hV:HC C x y σ es m0 h0 R)(w:World)(hH:Th w mm h0):
 ∃fn' tmps' assign body,(Instr.yield l vs.toArray).run C.P w= .ok (.round l fn' tmps' assign body) w/\
  RoundIn Fence.wide 0 C.P l fn' tmps' assign body w λex w'=>∃u m' h',ex= .returned (.bool u)/\(u=true/\PH.le h0 h'/\∃m2,m2 l=none/\(∀b,b≠l->m' b=m2 b)/\m' l=some (.loop (vH fn tmps ps x y D .ready))/\R m2 h')/\R2 w mm h0 m' h' w':=by
 have hl:=hH.msat l _ hml;have hlt:=(Array.getElem?_eq_some_iff.1 hl).1
 have hlen:vs.length=ps.size:=by
  have h1:=hes.length;rw[List.length_map]at h1;rw[<-Array.length_toList,hps,List.length_map,h1]
 refine⟨_,_,_,_,run_yield hl (by simpa[vH]using hlen),roundIn_of_wpIn trivial ?_⟩;obtain⟨ts,hts⟩:∃ts,((vH fn tmps ps x y D .ready).params.zip vs.toArray).foldl (λtmps(t,a)=>tmps.setIfInBounds t a) (vH fn tmps ps x y D .ready).tmps=ts:=⟨_,rfl⟩
 rw[hts]
 have hts2:ts=((es.map (·.1)).zip vs).foldl (λts(p,v)=>ts.setIfInBounds p v) tmps:=by
  rw[<-hts, <-hps, <-Array.foldl_toList,Array.toList_zip];rfl
 have m0some:∀b o,m0 b=some o->mm b=some o:=λb o hb=>by
  rw[hmm b (λe=>by rw[e,hl0]at hb;cases hb)];exact hb
 have hM:aI ⟨w,λb=>m0 b≠none,h0,[]⟩ (λ_=>.slice none 0 0) (Sf σ es m0 h0) {tmps:=ts,defers:=[]} w:=by
  refine aI.blank' ?_ rfl ?_
  .show DenS _ (Mj (σ.sl.map KJ) es) ts.toList;rw[hts2];exact IC hes (BZ hsl)
  .exact⟨rfl,rfl,rfl,Nat.le_refl _,Nat.le_refl _,λ_ _ _=>rfl,hH.hsat,λb o hb=>hH.msat b o (m0some b o hb),λb o hb=>hH.disj b o (m0some b o hb),λ_ _ _ e=>e,λ_ _ _=>rfl,λb o hb=>.inr (by show m0 b≠none;rw[show m0 b=some o from hb];simp)⟩
 refine wpIn_mono (Kv l hspecs x hx _ _ _ _ _ hM hV) ?_;intro ex a1 w1 hq;cases ex with
 |normal=>
  obtain⟨ι1,τ,hM1,hV1⟩:=hq;have hw1:=hM1.wrel;have hnE:¬(λb=>m0 b≠none) l:=λe=>e hl0;have hl1:w1.heap[l]? =some (.loop (vH fn tmps ps x y D .ready)):=by rw[hw1.frame l hlt hnE];exact hl
  have hlt1:=(Array.getElem?_eq_some_iff.1 hl1).1
  have hnM1:¬J6 ι1 τ l:=λhm=>by
   rcases(hM1.mine hm).1 with h1|h1
   .exact absurd hlt (Nat.not_lt.2 h1)
   .exact hnE h1
  refine⟨_,run_beginRound hl1 rfl,?_⟩;obtain⟨w2,hw2⟩:∃w2,w1.putObj l (.loop {vH fn tmps ps x y D .ready with state:=.busy})=w2:=⟨_,rfl⟩
  have hM2:=(hM1.rebase.putD (.loop {vH fn tmps ps x y D .ready with state:=.busy}) hl1 rfl hlt1 hnM1).rebase;rw[hw2]at hM2⊢
  have hd1:a1.defers=[]:=hM1.defers;have hM2:aI (YU ι1 τ [] w2) ι1 τ a1 w2:=by rw[hd1]at hM2;exact hM2
  have ne2:∀b,b≠l->w2.heap[b]? =w1.heap[b]? :=λb hb=>by rw[<-hw2];exact World.putObj_heap_other (λe=>hb e)
  have s2:w2.heap.size=w1.heap.size:=by rw[<-hw2];simp
  have hl2:w2.heap[l]? =some (.loop {vH fn tmps ps x y D .ready with state:=.busy}):=by rw[<-hw2];exact World.putObj_heap_same hlt1
  refine wpIn_mono (Kv l hspecs y hy _ _ _ _ _ hM2 hV1) ?_;intro ex a2 w3 hq;cases ex with
  |normal=>
   obtain⟨ι2,υ,hM3,hR⟩:=hq;have hw3:=hM3.wrel;have hl3:w3.heap[l]? =some (.loop {vH fn tmps ps x y D .ready with state:=.busy}):=by rw[hw3.frame l (by show l<w2.heap.size;omega) hnM1];exact hl2
   have hlt3:=(Array.getElem?_eq_some_iff.1 hl3).1
   have hmine:∀b,b<w.heap.size->mm b=none->¬J6 ι1 τ b:=λb hb hn hm=>by
    rcases(hM1.mine hm).1 with h1|h1
    .exact absurd hb (Nat.not_lt.2 h1)
    .refine h1 ?_;by_cases e:b=l
     .rw[e];exact hl0
     .rw[<-hmm b e];exact hn
   have hul:υ.m l=none:=by
    cases e:υ.m l with
    |none=>rfl
    |some o=>
     rcases hw3.mfr l o e with h1|h1
     .have h1:w2.heap.size<=l:=h1;omega
     .exact(hnM1 h1).elim
   obtain⟨w4,hw4⟩:∃w4,w3.putObj l (.loop (vH fn tmps ps x y D .ready))=w4:=⟨_,rfl⟩
   have ne4:∀b,b≠l->w4.heap[b]? =w3.heap[b]? :=λb hb=>by rw[<-hw4];exact World.putObj_heap_other (λe=>hb e)
   have hl4:w4.heap[l]? =some (.loop (vH fn tmps ps x y D .ready)):=by rw[<-hw4];exact World.putObj_heap_same hlt3
   have hend:=run_endRound (P:=C.P) none hl3;have hend:(Instr.endRound l none).run C.P w3= .ok (.bool true) w4:=by rw[hend, <-hw4];rfl
   have hle1:PH.le h0 τ.h:=⟨λb i v e=>hw1.hle b i v e⟩
   have hle2:PH.le τ.h υ.h:=⟨λb i v e=>hw3.hle b i v e⟩
   refine⟨_,_,hend,true,λb=>if b=l then some (.loop (vH fn tmps ps x y D .ready))else υ.m b,υ.h,rfl,⟨rfl,⟨λb i v e=>hle2.le _ _ _ (hle1.le _ _ _ e)⟩,υ.m,hul,λb hb=>by simp[hb],by simp,hR⟩,?_⟩;have t4:w4.tape=w3.tape/\w4.os=w3.os/\w4.output=w3.output/\w4.heap.size=w3.heap.size:=by rw[<-hw4];exact⟨rfl,rfl,rfl,by simp⟩
   have t2:w2.tape=w1.tape/\w2.os=w1.os/\w2.output=w1.output:=by rw[<-hw2];exact⟨rfl,rfl,rfl⟩
   have hsize1:w.heap.size<=w1.heap.size:=hw1.size;have hsize3:w2.heap.size<=w3.heap.size:=hw3.size;refine⟨?_,?_,?_,?_,?_,?_,⟨?_,?_,?_⟩,⟨λb i v e=>hle2.le _ _ _ (hle1.le _ _ _ e)⟩,?_,?_⟩
   .rw[t4.1,hw3.tape];show w2.tape=_;rw[t2.1];exact hw1.tape
   .rw[t4.2.1,hw3.os];show w2.os=_;rw[t2.2.1];exact hw1.os
   .rw[t4.2.2.1,hw3.output];show w2.output=_;rw[t2.2.2];exact hw1.output
   .have d4:w4.drawn=w3.drawn:=by rw[<-hw4];rfl
    have d3:w2.drawn<=w3.drawn:=hw3.drawn;have d2:w2.drawn=w1.drawn:=by rw[<-hw2];rfl
    have d1:w.drawn<=w1.drawn:=hw1.drawn;omega
   .omega
   .intro b hb hn;have hbl:b≠l:=λe=>by rw[e,hml]at hn;cases hn
    rw[ne4 b hbl,hw3.frame b (by show b<w2.heap.size;omega) (hmine b hb hn)];show w2.heap[b]? =_;rw[ne2 b hbl];exact hw1.frame b hb (λe=>e (by rw[<-hmm b hbl];exact hn))
   .intro b i v hv;have hv3:=hw3.hsat b i v hv;have hbl:b≠l:=λe=>by rw[e,IV hl3]at hv3;cases hv3
    rw[World.cell?_of_block (w:=w3) (w':=w4) (a:=⟨b,i,none⟩) (ne4 b hbl)];exact hv3
   .intro b o hb;have hb2:(if b=l then some (Obj.loop (vH fn tmps ps x y D .ready))else υ.m b)=some o:=hb;clear hb;split at hb2
    .rename_i e;subst e;cases hb2;exact hl4
    .rename_i e;rw[ne4 b e];exact hw3.msat b o hb2
   .intro b o hb i;have hb2:(if b=l then some (Obj.loop (vH fn tmps ps x y D .ready))else υ.m b)=some o:=hb;clear hb;split at hb2
    .rename_i e;subst e;cases e2:υ.h b i with
     |none=>rfl
     |some v=>have:=hw3.hsat b i v e2;rw[IV hl3]at this;cases this
    .exact hw3.disj b o hb2 i
   .intro b hb hn;have h1:υ.h b=τ.h b:=hw3.hold b (by show b<w2.heap.size;omega) (hmine b hb hn);rw[h1];have hbl:b≠l:=λe=>by rw[e,hml]at hn;cases hn
    exact hw1.hold b hb (λe=>e (by rw[<-hmm b hbl];exact hn))
   .intro b o hb;have hb2:(if b=l then some (Obj.loop (vH fn tmps ps x y D .ready))else υ.m b)=some o:=hb;clear hb;split at hb2
    .rename_i e;subst e;exact .inr (by rw[hml];simp)
    .rename_i e;rcases hw3.mfr b o hb2 with h1|h1
     .have h1:w2.heap.size<=b:=h1;exact .inl aC
     .rcases(hM1.mine h1).1 with h2|h2
      .exact .inl h2
      .exact .inr (by rw[hmm b e];exact h2)
  |ret=>obtain⟨_,_,_,h⟩:=hq;exact h.elim
  |exit id=>obtain⟨_,_,_,h⟩:=hq;exact h.elim
  |goto t=>exact hq.elim
  |panic ch=>exact hq.elim
  |outgrown=>exact hq.elim
 |ret=>obtain⟨_,_,_,h⟩:=hq;exact h.elim
 |exit id=>obtain⟨_,_,_,h⟩:=hq;exact h.elim
 |goto t=>exact hq.elim
 |panic ch=>exact hq.elim
 |outgrown=>exact hq.elim
theorem JV(w:World)(o:Obj){b:Nat}(h:b<w.heap.size):(w.alloc o).heap[b]? =w.heap[b]? :=by
 exact Go.RowKit.Below.heap_alloc _ _ _ h
theorem PM(w:World)(o:Obj):(w.alloc o).heap[w.heap.size]? =some o:=World.alloc_heap_new w o
theorem R8(w:World):∀l:List Value,zO w (l.map .val) l
 |[]=>trivial
 |_::l=>⟨rfl,R8 w l⟩
theorem Iv(l:List Value)(i:Nat)(c:CV)(u:Value)(b:Nat)(hi:(l.map CV.val)[i]? =some c)(hb:gH c u=some b):False:=by
 rw[List.getElem?_map]at hi;cases e:l[i]? with
 |none=>rw[e]at hi;cases hi
 |some v=>rw[e]at hi;simp at hi;subst hi;simp[gH]at hb
theorem KL(hspecs:∀g S,assoc C.specs g=some S->Sound C.P g S){ds:List Nat}(hM:MM B ds ι σ a w){f:Operand}{ps:Array Tmp}{x y:Code}{Q:Bv->St->Prop}{g:FuncId}{cs:Array Value}(hev:σ.ev f= .at (.val (.func (.func g) #[] cs)))(hx:oA x=true)(hy:oA y=true)
 {Src:PH->List Value->List (List Value)->Prop}(hok:Cn C.P g Src){xs:List (List Value)}(hsrc:Src σ.h cs.toList xs){I:Nat->MH->PH->Prop}(h0:I 0 σ.m σ.h)
 (hround:∀(k:Nat)(vs:List Value)(m:MH)(h:PH),xs[k]? =some vs->PH.le σ.h h->I k m h->∃es:List (Nat×SV),ps.toList=es.map (·.1)/\DenS (λ_=>.slice none 0 0) (es.map (·.2)) vs/\HC C x y σ es m h (I (k+1)))
 (hend:∀(m:MH)(h:PH),PH.le σ.h h->I xs.length m h->Q .normal (blank σ m h)):(Code.rangeFunc f ps x y).wp C.P (QM B Q) a w:=by
  obtain⟨hsnd⟩:=hok;have hw:=hM.mod.wrel
  have hev':a.eval f= .func (.func g) #[] cs:=by
   have:=hM.mod.ev f;rw[hev]at this;exact this
  refine(wpIn_wide (n:=0)).1 (wpIn_rangeFunc ?_);intro fn hfn;obtain⟨l,hl⟩:∃l,l=w.heap.size+1:=⟨_,rfl⟩
  obtain⟨D,hD⟩:∃D,D=w.heap.size:=⟨_,rfl⟩
  obtain⟨W1,hW1⟩:∃W1,(w.alloc (.deferred (some []))).alloc (.loop (vH fn a.tmps ps x y D .ready))=W1:=⟨_,rfl⟩
  have s1:W1.heap.size=w.heap.size+2:=by rw[<-hW1];simp
  have old:∀b,b<w.heap.size->W1.heap[b]? =w.heap[b]? :=λb hb=>by
   rw[<-hW1,JV _ _ (by simp;omega),JV _ _ hb]
  have newD:W1.heap[D]? =some (.deferred (some [])):=by
   rw[<-hW1,hD,JV _ _ (by simp)];exact PM w _
  have newl:W1.heap[l]? =some (.loop (vH fn a.tmps ps x y D .ready)):=by
   rw[<-hW1,hl];have:=PM (w.alloc (.deferred (some []))) (.loop (vH fn a.tmps ps x y D .ready))
   rwa [World.size_alloc]at this
  have mlt:∀b o,σ.m b=some o->b<w.heap.size:=λb o hb=>(Array.getElem?_eq_some_iff.1 (hw.msat b o hb)).1;have hlast:∀b i v,σ.h b i=some v->b<w.heap.size:=λb i v hv=>World.block_lt_of_cell? w ⟨b,i,none⟩ (hw.hsat b i v hv)
  let m1:MH:=λb=>if b=l then some (.loop (vH fn a.tmps ps x y D .ready))else σ.m b
  have m1l:m1 l=some (.loop (vH fn a.tmps ps x y D .ready)):=by simp[m1]
  have m1o:∀b,b≠l->m1 b=σ.m b:=λb hb=>if_neg hb
  have hσl:σ.m l=none:=by
   cases e:σ.m l with
   |none=>rfl
   |some o=>have:=mlt l o e;omega
  have hpre:wE W1 m1 σ.h (.val (.func (.yield l) #[] #[])::cs.toList.map .val) (.func (.yield l) #[] #[]::cs.toList):=by
   refine⟨⟨rfl,R8 _ _⟩,?_,?_,?_,λi j c d u v b hi _ _ _ hb _=>(Iv (.func (.yield l) #[] #[]::cs.toList) i c u b hi hb).elim,λi c u b hi _ hb=>(Iv (.func (.yield l) #[] #[]::cs.toList) i c u b hi hb).elim⟩
   .intro b i v hv;rw[World.cell?_of_block (w:=w) (w':=W1) (a:=⟨b,i,none⟩) (old b (hlast b i v hv))];exact hw.hsat b i v hv
   .intro b o hb;by_cases e:b=l
    .subst e;rw[m1l]at hb;cases hb;exact newl
    .rw[m1o b e]at hb;rw[old b (mlt b o hb)];exact hw.msat b o hb
   .intro b o hb i;by_cases e:b=l
    .subst e;cases e2:σ.h b i with
     |none=>rfl
     |some v=>have:=hlast _ _ _ e2;omega
    .rw[m1o b e]at hb;exact hw.disj b o hb i
  have notMoved:∀b,m1 b=none->¬rW m1 (.val (.func (.yield l) #[] #[])::cs.toList.map .val) (.func (.yield l) #[] #[]::cs.toList) b:=by
   rintro b hb (h1|⟨i,c,u,hi,hu,hc⟩)
   .exact h1 hb
   .exact Iv (.func (.yield l) #[] #[]::cs.toList) i c u b hi hc
  let J:Nat->MH->PH->Prop:=λk mm hh=>PH.le σ.h hh/\∃m2,m2 l=none/\(∀b,b≠l->mm b=m2 b)/\mm l=some (.loop (vH fn a.tmps ps x y D .ready))/\I k m2 hh
  have hcall:=hsnd.2 (.val (.func (.yield l) #[] #[])::cs.toList.map .val) (.func (.yield l) #[] #[]::cs.toList) m1 σ.h W1 (λ_ mm hh=>J xs.length mm hh)
   ⟨l,cs.toList,xs,J,rfl,hsrc,⟨⟨λ_ _ _ e=>e⟩,σ.m,hσl,m1o,m1l,h0⟩,?_,λ_ _ _ _ hJ=>hJ⟩ hpre
  .have hrunl:(Instr.enterLoop fn a.tmps ps x y Fence.wide.round).run C.P w= .ok (l,[wZ D]) W1:=by
    subst hD hl;rw[<-hW1];exact run_enterLoop_outer _ _ _ _ _
   refine⟨l,[wZ D],W1,{target:=.fn (.func g) cs,args:= #[.func (.yield l) #[] #[]]},W1,g,(.func (.yield l) #[] #[]::cs.toList).toArray,W1,hrunl,?_,λ_ _=>trivial,?_,λe=>by simp[Fence.wide]at e,callsIn_wide.2 ?_⟩
   .simp only[resolve,rangeCall,hev'];simp[go_sem]
   .obtain⟨gf,hf,hbn,hnm⟩:=hsnd.1;have hbn:¬gf.body=none:=by intro e;rw[e]at hbn;cases hbn
    have hnm:¬gf.name= "runtime.NumGoroutine" :=by simpa using hnm
    simp only[invoke,callFunc];simp[program,Sem.run,hf,hnm,hbn]
   refine hcall.mono ?_;rintro e w3 ⟨r,u,mm,hh,rfl,⟨hle,m2,hm2l,hm2,hml,hI⟩,hok,hw3,_⟩;have hl3:=hw3.msat l _ hml;refine⟨_,_,run_endLoop hl3 (by simp[vH]),?_⟩;obtain⟨w4,hw4⟩:∃w4,w3.putObj l (.loop {vH fn a.tmps ps x y D .ready with state:=.exhausted})=w4:=⟨_,rfl⟩
   rw[hw4];have ne4:∀b,b≠l->w4.heap[b]? =w3.heap[b]? :=λb hb=>by rw[<-hw4];exact World.putObj_heap_other (λe=>hb e)
   have t4:w4.tape=w3.tape/\w4.os=w3.os/\w4.output=w3.output/\w4.heap.size=w3.heap.size:=by rw[<-hw4];exact⟨rfl,rfl,rfl,by simp⟩
   have t1:W1.tape=w.tape/\W1.os=w.os/\W1.output=w.output:=by rw[<-hW1];exact⟨rfl,rfl,rfl⟩
   have h3size:W1.heap.size<=w3.heap.size:=hw3.size
   have same:∀b,b<w.heap.size->σ.m b=none->w4.heap[b]? =w.heap[b]? :=λb hb hn=>by
    have hbl:b≠l:=by omega
    rw[ne4 b hbl,hw3.frame b (by show b<W1.heap.size;omega) (notMoved b (by rw[m1o b hbl];exact hn)),old b hb]
   have m2some:∀b o,m2 b=some o->mm b=some o/\b≠l:=λb o hb=>by
    have hbl:b≠l:=λe=>by rw[e,hm2l]at hb;cases hb
    exact⟨by rw[hm2 b hbl];exact hb,hbl⟩
   have m2old:∀b o,m2 b=some o->W1.heap.size<=b\/∃o',σ.m b=some o':=λb o hb=>by
    obtain⟨h1,hbl⟩:=m2some b o hb;rcases hw3.mfr b o h1 with h2|h2
    .exact .inl h2
    .refine .inr ?_;cases e:σ.m b with
     |some o'=>exact⟨o',rfl⟩
     |none=>exact(notMoved b (by rw[m1o b hbl];exact e) h2).elim
   have hB:B.w0.heap.size<=w.heap.size:=hw.size
   have mB:∀b,b<B.w0.heap.size->¬B.E b->σ.m b=none:=λb hb hn=>by
    cases e:σ.m b with
    |none=>rfl
    |some o=>
     rcases hw.mfr b o e with h1|h1
     .exact absurd hb (Nat.not_lt.2 h1)
     .exact(hn h1).elim
   have keepMark:∀D',D'∈ds->D'<w.heap.size/\σ.m D'=none:=λD' hD'=>by
    refine⟨(Array.getElem?_eq_some_iff.1 (hM.mark D' hD')).1,?_⟩;cases e:σ.m D' with
    |none=>rfl
    |some o=>exact(hM.mine D' hD' (.inl (by rw[e];simp))).elim
   have notMine:∀b,¬(W1.heap.size<=b)->σ.m b=none->¬J6 (λ_=>.slice none 0 0) (blank σ m2 hh) b:=by
    rintro b h1 h2 (h3|⟨k,o,hk,_⟩)
    .cases e:m2 b with
     |none=>exact h3 e
     |some o=>
      rcases m2old b o e with h4|⟨o',h4⟩
      .exact h1 h4
      .rw[h2]at h4;cases h4
    .exact Cv _ _ _ hk
   have hσD:σ.m D=none:=by
    cases e:σ.m D with
    |none=>rfl
    |some o=>have:=mlt D o e;omega
   refine⟨D::ds,λ_=>.slice none 0 0,blank σ m2 hh,⟨?_,?_,?_,?_,?_⟩,hend m2 hh hle hI⟩
   .refine aI.blank' (BZ hM.mod.slots) ?_ ⟨?_,?_,?_,?_,?_,?_,?_,?_,?_,?_,?_,?_⟩
    .show[wZ D]++a.defers=_;rw[hM.mod.defers];rfl
    .rw[t4.1,hw3.tape];show W1.tape=_;rw[t1.1];exact hw.tape
    .rw[t4.2.1,hw3.os];show W1.os=_;rw[t1.2.1];exact hw.os
    .rw[t4.2.2.1,hw3.output];show W1.output=_;rw[t1.2.2];exact hw.output
    .have d4:w4.drawn=w3.drawn:=by rw[<-hw4];rfl
     have d3:W1.drawn<=w3.drawn:=hw3.drawn;have d2:W1.drawn=w.drawn:=by rw[<-hW1];rfl
     have d1:B.w0.drawn<=w.drawn:=hw.drawn;show B.w0.drawn<=w4.drawn;omega
    .show B.w0.heap.size<=_;omega
    .intro b hb hnE;have hb:b<B.w0.heap.size:=hb;rw[same b aC (mB b hb hnE)];exact hw.frame b hb hnE
    .intro b i v hv;have hv3:=hw3.hsat b i v hv;have hbl:b≠l:=λe=>by rw[e,IV hl3]at hv3;cases hv3
     rw[World.cell?_of_block (w:=w3) (w':=w4) (a:=⟨b,i,none⟩) (ne4 b hbl)];exact hv3
    .intro b o hb;obtain⟨h1,hbl⟩:=m2some b o hb;rw[ne4 b hbl];exact hw3.msat b o h1
    .intro b o hb i;exact hw3.disj b o (m2some b o hb).1 i
    .intro b i v hv;exact hle.le _ _ _ (hw.hle b i v hv)
    .intro b hb hnE;have hb:b<B.w0.heap.size:=hb;have h1:hh b=σ.h b:=hw3.hold b (by show b<W1.heap.size;omega) (notMoved b (by rw[m1o b aC];exact mB b hb hnE));rw[h1];exact hw.hold b hb hnE
    .intro b o hb;rcases m2old b o hb with h1|⟨o',h1⟩
     .exact .inl (by show B.w0.heap.size<=b;omega)
     .exact hw.mfr b o' h1
   .intro D' hD';rcases List.mem_cons.1 hD' with rfl|h1
    .omega
    .exact hM.size D' h1
   .intro D' hD';rcases List.mem_cons.1 hD' with rfl|h1
    .exact notMine D' aC hσD
    .obtain⟨h2,h3⟩:=keepMark D' h1;exact notMine D' aC h3
   .intro D' hD';rcases List.mem_cons.1 hD' with rfl|h1
    .rw[ne4 D' aC,hw3.frame D' (by show D'<W1.heap.size;omega) (notMoved D' (by rw[m1o D' aC];exact hσD))];exact newD
    .obtain⟨h2,h3⟩:=keepMark D' h1;rw[same D' h2 h3];exact hM.mark D' h1
   .refine List.nodup_cons.2 ⟨λh1=>?_,hM.nodup⟩;have:=(keepMark D h1).1;omega
  .rintro k e m' h' hk hle ⟨hle0,m2,hm2l,hm2,hml,hI⟩;refine⟨λw5 hH=>?_⟩;obtain⟨es,hps,hes,hV⟩:=hround k e m2 h' hk hle hI;obtain⟨fn',tmps',as',bd',hy1,hR⟩:=NU hspecs (σ:=σ) (ι:=ι) hx hy hM.mod.slots hps hes hm2l hm2 hml hV w5 hH;refine⟨fn',tmps',as',bd',hy1,hR.mono ?_⟩;rintro ex w6 ⟨u,m6,h6,rfl,⟨rfl,hle6,m7,q1,q2,q3,q4⟩,hfr⟩;exact⟨_,m6,h6,rfl,⟨rfl,hle6,⟨λ_ _ _ e=>hle6.le _ _ _ (hle0.le _ _ _ e)⟩,m7,q1,q2,q3,q4⟩,hfr⟩
theorem Ql(hspecs:∀g S,assoc C.specs g=some S->Sound C.P g S){ds:List Nat}(hM:MM B ds ι σ a w){f:Operand}{ps:Array Tmp}{x y:Code}{Q:Bv->St->Prop}(h:Qm C f ps x y σ (Q .normal)):(Code.rangeFunc f ps x y).wp C.P (QM B Q) a w:=by
 unfold Qm at h;split at h
 .rename_i g fs cs hev hnd;obtain⟨hx,hy⟩:=Bool.and_eq_true_iff.1 hnd;split at h
  .rename_i hfs;obtain rfl:fs= #[]:=Array.toList_inj.1 (by simpa using hfs);split at h
   .rename_i p T hps hT;obtain⟨Src,xs,I,hok,hsrc,h0,hround,hend⟩:=h;refine KL hspecs hM hev hx hy hok hsrc h0 (λk vs m h hk hle hI=>?_) (λm h hle hI=>hend m h hle (by simpa using hI));rw[List.getElem?_map]at hk;cases e:xs[k]? with
    |none=>rw[e]at hk;cases hk
    |some z=>
     rw[e]at hk;simp only[Option.map_some,Option.some.injEq]at hk;subst hk;exact⟨[(p,mk C.P T (((C.dec T).enc z).map .val))],by rw[hps];rfl,⟨Qf,trivial⟩,hround k z m h e hle hI⟩
   .rename_i p q T U hps hT;obtain⟨Src,xs,I,hok,hsrc,h0,hround,hend⟩:=h;refine KL hspecs hM hev hx hy hok hsrc h0 (λk vs m h hk hle hI=>?_) (λm h hle hI=>hend m h hle (by simpa using hI));rw[List.getElem?_map]at hk;cases e:xs[k]? with
    |none=>rw[e]at hk;cases hk
    |some z=>
     rw[e]at hk;simp only[Option.map_some,Option.some.injEq]at hk;subst hk;exact⟨[(p,mk C.P T (((C.dec T).enc z.1).map .val)),(q,mk C.P U (((C.dec U).enc z.2).map .val))],by rw[hps];rfl,⟨Qf,Qf,trivial⟩,hround k z.1 z.2 m h e hle hI⟩
   .exact h.elim
  .exact h.elim
 .exact h.elim
theorem Tt(hspecs:∀g S,assoc C.specs g=some S->Sound C.P g S):∀(c:Code)(σ:St)(Q:Bv->St->Prop)(ds:List Nat)(ι:Nat->Value)(a:Act)(w:World),MM B ds ι σ a w->UW C c σ Q->c.wp C.P (QM B Q) a w:=by
 intro c
 induction c with
 |rangeFunc f ps x y _ _=>intro σ Q ds ι a w hM h;exact Ql hspecs hM h
 |seq x y ihx ihy=>
  intro σ Q ds ι a w hM h;simp only[UW]at h;split at h
  .exact xL hspecs hM h
  .split at h
   .obtain⟨I,h,hall⟩:=h;refine wp_seq (wp_mono (ihx σ _ ds ι a w hM h) ?_);intro e a' w' hq;cases e with
    |normal=>
     obtain⟨ds',ι',σ',hM',hm⟩:=hq;obtain⟨x',ι2,hx',hM2⟩:=uH hM'.here hm;exact ihy _ Q ds' ι2 a' w' (hM'.retag hM2) (hall x' hx')
    |exit id=>exact hq
    |ret=>exact hq
    |goto l=>exact hq
    |panic ch=>exact hq
    |outgrown=>exact hq
   .refine wp_seq (wp_mono (ihx σ _ ds ι a w hM h) ?_);intro e a' w' hq;cases e with
    |normal=>
     obtain⟨ds',ι',σ',hM',h'⟩:=hq;exact ihy σ' Q ds' ι' a' w' hM' h'
    |exit id=>exact hq
    |ret=>exact hq
    |goto l=>exact hq
    |panic ch=>exact hq
    |outgrown=>exact hq
 |cond c x y ihx ihy=>
  intro σ Q ds ι a w hM h;simp only[UW]at h;split at h
  .exact xL hspecs hM h
  .split at h
   .rename_i t hc;have hev:=hM.mod.ev c;rw[hc]at hev;have hev:a.eval c= .bool t:=hev;rcases qG h with⟨rfl,h⟩|⟨rfl,h⟩
    .exact wp_cond_true hev (ihx _ Q ds ι a w (hM.retag (hM.here.setTmp hc)) h)
    .exact wp_cond_false hev (ihy _ Q ds ι a w (hM.retag (hM.here.setTmp hc)) h)
   .exact h.elim
 |block id c ih=>
  intro σ Q ds ι a w hM h;simp only[UW]at h;split at h
  .exact xL hspecs hM h
  .refine wp_block (wp_mono (ih σ _ ds ι a w hM h) ?_);intro e a' w' hq;cases e with
   |normal=>exact hq
   |exit i=>
    obtain⟨ds',ι',σ',hM',h'⟩:=hq;show if i=id then _ else _
    simp only at h';split at h'
    .rename_i hb;rw[if_pos (Nat.eq_of_beq_eq_true hb)];exact⟨ds',ι',σ',hM',h'⟩
    .rename_i hb;rw[if_neg (λe=>by subst e;simp at hb)];exact⟨ds',ι',σ',hM',h'⟩
   |ret=>exact hq
   |goto l=>exact hq
   |panic ch=>exact hq
   |outgrown=>exact hq
 |_=>intro σ Q ds ι a w hM h;exact xL hspecs hM h
theorem IH(hM:aI B ι σ a w):∀{l:List ResultVar}{K:List Value->Prop},WU C σ l K->∃vs,(l.mapM (F9 a.tmps)).run C.P w= .ok vs w/\K vs
 |[],K,h=>⟨[],by simp,h⟩
 |.tmp t::r,K,h=>h.elim
 |.cell t T::r,K,h=>by
  simp only[WU]at h;split at h
  .rename_i b off hs hT;obtain⟨y,hrd,h⟩:=h;split at h
   .rename_i hlen;have hlen:=Nat.eq_of_beq_eq_true hlen;split at h
    .rename_i v hv;obtain⟨vs,h1,h2⟩:=IH hM h;have hev:=hM.ev (.tmp t);have hx:σ.ev (.tmp t)= .at (.val (.pointer (some ⟨b,off,none⟩))):=by simp only[St.ev,hs]
     rw[hx]at hev;have hp':a.tmps.getD t undef= .pointer (some ⟨b,off,none⟩):=hev;have hl:=uG (w:=w) (b:=b) (off:=off) (cs:=(C.dec T).enc y) hT hlen (Av hM.wrel hrd);have hd:=D0 (P:=C.P) (T:=T) (ι:=ι) (ats:=((C.dec T).enc y).map .val) (cs:=(C.dec T).enc y) (by rw[gO.vals]);have hv2:=hd.val? hv;refine⟨v::vs,?_,h2⟩;simp only[List.mapM_cons,F9,hp',asAddr,Sem.run_bind,Sem.run_pure,Result.andThen_ok,hl,h1,hv2]
    .exact h.elim
   .exact h.elim
  .exact h.elim
theorem P6(hM:aI B ι σ a w){fn:Func}{K:CV->MH->PH->Prop}(h:FO C fn K σ):
 ∃u,(results fn a.tmps).run C.P w= .ok u w/\∃r m' h',K r m' h'/\Dr w r u/\zN B m' h' w/\∀b,gH r u=some b->(B.w0.heap.size<=b\/B.E b)/\m' b=none/\∀i,h' b i=none:=by
 unfold FO at h;split at h
 .exact KA hM h
 .obtain⟨vs,hvs,hK⟩:=IH hM h
  have hres:(results fn a.tmps).run C.P w= .ok (if h:vs.toArray.size=1 then vs.toArray[0]else .tuple vs.toArray) w:=by
   rw[IG,Array.mapM_eq_mapM_toList];simp[hvs]
  split at hK
  .rename_i v;exact⟨v,by simpa using hres,.val v,σ.m,σ.h,hK,rfl,hM.wrel,λb hb=>by simp[gH]at hb⟩
  .rename_i hne
   have hnl:vs.length≠1:=λe=>by
    match vs,e with
    |[v],_=>exact hne v rfl
   exact⟨.tuple vs.toArray,by rw[hres,dif_neg (by simpa using hnl)],.tup (vs.map .val),σ.m,σ.h,hK,⟨vs.toArray,rfl,by simp⟩,hM.wrel,λb hb=>by simp[gH]at hb⟩
theorem G9{F:Fence}{n:Nat}{R:Ending->World->Prop}{fn:Func}{Kc:CV->MH->PH->Prop}(hret:FO C fn Kc σ)
 (hR:∀u w',(∃r m' h',Kc r m' h'/\Dr w' r u/\zN B m' h' w'/\∀b,gH r u=some b->(B.w0.heap.size<=b\/B.E b)/\m' b=none/\∀i,h' b i=none)->R (.returned u) w'):
 ∀(ds:List Nat)(a:Act)(w:World),MM B ds ι σ a w->LeavesInM F n C.P fn a.tmps R (ds.map wZ) .returning w
 |[],a,w,hM=>by
  obtain⟨u,hu,r,m',h',hK,hok,hw,hb⟩:=P6 hM.mod hret;refine⟨u,hu,hR u w ⟨r,m',h',hK,hok,⟨hw.tape,hw.os,hw.output,hw.drawn,hw.size,hw.frame,hw.hsat,hw.msat,hw.disj,hw.hle,hw.hold,hw.mfr⟩,hb⟩⟩
 |D::ds,a,w,hM=>by
  have hD:=hM.mark D (List.mem_cons_self ..);refine⟨by simp,.inl ⟨D,_,rfl,run_takeDeferred hD,G9 hret hR ds {a with defers:=ds.map wZ} _ ?_⟩⟩;have hg:w.grownBy (w.putObj D (.deferred none)) (some D):=grownBy_putObj' w D _
  have hM2:=hM.mod.grown hg (Nat.le_refl _) (λr e=>by
   cases e;exact⟨hM.size D (List.mem_cons_self ..),hM.mine D (List.mem_cons_self ..),_,hD,rfl⟩)
  have hnd:=List.nodup_cons.1 hM.nodup;refine⟨⟨hM2.slots,?_,hM2.own,hM2.dist,hM2.fresh,⟨hM2.wrel.tape,hM2.wrel.os,hM2.wrel.output,hM2.wrel.drawn,hM2.wrel.size,hM2.wrel.frame,hM2.wrel.hsat,hM2.wrel.msat,hM2.wrel.disj,hM2.wrel.hle,hM2.wrel.hold,hM2.wrel.mfr⟩,hM2.one⟩,λD' h=>hM.size D' (List.mem_cons_of_mem _ h),λD' h=>hM.mine D' (List.mem_cons_of_mem _ h),λD' h=>?_,hnd.2⟩
  .rfl
  .rw[World.putObj_heap_other (fun(e:D'=D)=>hnd.1 (by rw[<-e];exact h))];exact hM.mark D' (List.mem_cons_of_mem _ h)
theorem KS{P:Program}{f:FuncId}{fn:Func}{c:Code}(hf:P.funcs[f]? =some fn)(hb:fn.body=some c)(hname:(fn.name== "runtime.NumGoroutine")=false){S:Spec}
 (hvc:∀cvs m h K,S cvs m h K->∃C:Ctx,C.P=P/\(∀g S,assoc C.specs g=some S->Sound P g S)/\Sw C fn c (entry fn.ntmps cvs m h) K):Sound P f S:=by
 refine⟨⟨fn,hf,by rw[hb];rfl,hname⟩,?_⟩;intro cvs vs m h w K hS hp;obtain⟨C,rfl,hspecs,hv⟩:=hvc cvs m h K hS;refine callsIn_wide.1 (callsIn_of_wp_marks (n:=0) hf hb trivial (wpIn_wide.2 ?_))
 have hM0:MM ⟨w,rW m cvs vs,h,[]⟩ [] (Hb fn.ntmps cvs vs) (entry fn.ntmps cvs m h) {tmps:=vs.toArray++Array.replicate (fn.ntmps-vs.toArray.size) undef,defers:=[]} w:=
  ⟨Fi fn.ntmps hp,λ_ hD=>(List.not_mem_nil hD).elim,λ_ hD=>(List.not_mem_nil hD).elim,λ_ hD=>(List.not_mem_nil hD).elim,List.nodup_nil⟩
 refine wp_mono (Tt hspecs c _ _ _ _ _ w hM0 hv) ?_;intro e a' w' hq
 have key:(∃ds ι σ,MM ⟨w,rW m cvs vs,h,[]⟩ ds ι σ a' w'/\FO C fn K σ)->LeavesInM Fence.wide 0 C.P fn a'.tmps (λe w'=>∃r u m' h',e= .returned u/\K r m' h'/\Dr w' r u/\zN ⟨w,rW m cvs vs,h,[]⟩ m' h' w'/\
  (∀b,gH r u=some b->(w.heap.size<=b\/rW m cvs vs b)/\m' b=none/\∀i,h' b i=none)) a'.defers .returning w':=by
  rintro⟨ds,ι,σ,hM,hr⟩;rw[hM.mod.defers];exact G9 hr (λu w''⟨r,m',h',h1,h2,h3,h4⟩=>⟨r,u,m',h',rfl,h1,h2,h3,h4⟩) ds a' w' hM
 cases e with
 |normal=>exact key hq
 |ret=>exact key hq
 |exit id=>obtain⟨_,_,_,_,h⟩:=hq;exact h.elim
 |goto l=>exact hq.elim
 |panic ch=>exact hq.elim
 |outgrown=>exact hq.elim
theorem Qo{P:Program}{f:FuncId}{fn:Func}{c:Code}(hf:P.funcs[f]? =some fn)(hb:fn.body=some c)(hname:(fn.name== "runtime.NumGoroutine")=false){S:Spec}
 (hvc:∀cvs m h K,S cvs m h K->∃C:Ctx,C.P=P/\(∀g S,assoc C.specs g=some S->Sound P g S)/\Sw C fn c (entry fn.ntmps cvs m h) (dJ h K)):Sound P f S:=
 .strong (KS hf hb hname (S:=λcvs m h K=>∃K',S cvs m h K'/\K=dJ h K') (by
  rintro cvs m h K ⟨K',hS,rfl⟩;exact hvc cvs m h K' hS))
end
end Go.Vc
namespace Go.Ps
open Go Go.Vc Go.Proofs
variable{K:CV->MH->PH->Prop}{m:MH}{h:PH}{s:nY}{ps:List Int}{cb:Nat}{sc:bR}{v:QV}{q:Query}{p:Pred}{l:List Int}{i:Nat}{N:Nat}{m':MH}{h':PH}{co:List Int}{gr:List Int}{od:List (Int×Bool)}{w:Pred}{ta:Int}{li:Int}{xs:List (List Value)}{sz:Nat}{k:Nat}{ks:List (List Int)}{rs:List Int}{r:Sl}{a:List Int}{b:Nat}
def Ki(b:Nat):Value:=.func (.func 147) #[] #[.pointer (some ⟨b,0,none⟩)]
structure DA(h:PH)(b:Nat)(us:List Sl):Prop where
 ex:∃s:Sl,aX h b 0 [s.val]/\cR h s 1 (us.map eS)/\us.length<=502633886983
theorem DA.mono{us:List Sl}(x:DA h b us)(le:PH.le h h'):DA h' b us:=by
 obtain⟨s,h1,h2,h3⟩:=x.ex;exact⟨s,h1.mono le,h2.mono le,h3⟩
def sT:PH->List Value->List (List Value)->Prop:=λh caps xs=>∃b us,caps=[.pointer (some ⟨b,0,none⟩)]/\DA h b us/\xs=us.map eS
noncomputable def MW(specs:List (Nat×Vc.Spec))(loops:List (Nat×oI))(cuts:List (Nat×oI))(heapT:List TypeId):Ctx:={uM specs loops cuts [] heapT [] false with elemT:=[74]}
def LU:Vc.Spec:=λcvs m h K=>∃s,cvs=[cS s]/\∀b h',PH.le h h'->aX h' b 0 [s.val]->K (.val (Ki b)) m h'
def Ns:Vc.Spec:=λcvs m h K=>∃s b us vs,cvs=[cS s,.val (Ki b)]/\dH m s 74 1 (us.map eS)/\DA h b vs/\us.length<=502633886983/\
 ∀s' m',dH m' s' 74 1 ((us++vs).map eS)->(∀x o,m x=some o->(∀i,s.a≠some ⟨x,i,none⟩)->m' x=some o)->(∀x i,s'.a=some ⟨x,i,none⟩->m x=none\/∃i,s.a=some ⟨x,i,none⟩)->K (cS s') m' h
def PY:Vc.Spec:=λcvs m h K=>∃b vs,cvs=[.val (Ki b)]/\DA h b vs/\
 ∀s' m',dH m' s' 74 1 (vs.map eS)->(∀x o,m x=some o->m' x=some o)->(∀x i,s'.a=some ⟨x,i,none⟩->m x=none)->K (cS s') m' h
noncomputable def VQ(b:Nat)(l:Nat)(s:Sl):Ctx:=
 {dL [] [(1,{A:=Nat×MH×PH,st:=λ⟨i,m,h⟩=>cD 16 18 [(0,vv (.func (.yield l) #[] #[])),(1,vv (.pointer (some ⟨b,0,none⟩))),(5,sv s),(6,iv s.len),(7,iv i)] [] m h})] [] [] false with yield:=some (Wj Tryz.prog)}
def GA(s:Sl)(m:MH)(h:PH)(K:CV->MH->PH->Prop):Prop:=
  ∀(b:Nat)(m1:MH),aR (cH m h b) (bC m m1 b (aK s) 53) (K (CV.val (wY 147 (Array.mk (iR (P1 b 0))))) m1 h)
abbrev EO(a:Nat):Prop:=eQ (SV.at (At.val (Value.func (Fn.yield a) Jc Jc)))
noncomputable abbrev cQ(a:Nat×MH×PH):Nat->Nat->Option Value:=a.2.2
noncomputable abbrev dM(a:Nat×MH×PH):Nat->Option Obj:=a.2.1
noncomputable abbrev vU(a:Nat):CV:=CV.val (Value.func (Fn.yield a) Jc Jc)
attribute [push_cast] EO cQ dM vU
def Lt(b l:Nat)(s:Sl)(m:MH)(h:PH)(K:CV->MH->PH->Prop):Prop:=
  iQ m h b 0 (λy=>∃(I:Nat×MH×PH->Prop)(m1:Nat×MH×PH->Nat),(∃(x:Nat×MH×PH),aA (I x) (EO l) (aA (dG b) (bI y s) (aA (bP y s) (aZ x.1) (aA (bG m x.2) (h=cQ x) True))))/\∀(x:Nat×MH×PH),I x->aW (↑x.1:Int) (aG s) (cZ s.a (↑x.1:Int) s (λb1 o y1=>aA (aL (dM x) (cQ x) b1 (bF o x.1 1) (aK y1)) (M8 Proofs.Tryz.prog (Wj Proofs.Tryz.prog)) (∃(l1:Nat)(v:List Value)(R:Bool->MH->PH->Prop),aA (bK (vU l) (lY y1)=vU l1::List.map CV.val v) (Za Proofs.Tryz.prog l1 v (dM x) (cQ x) R) (∀(u:Bool),fU (λm2 h1=>gP (R u m2 h1) (!u) (K (CV.tup []) m2 h1) (∃(x1:Nat×MH×PH),aA (I x1) (m1 x1<m1 x) (aA (EO l) (dG b) (aA (aJ s) (bJ s) (aA (fV (bB x.1 1)=bM x1.1) (bG m2 x1.2) (bN h1 (cQ
 x1))))))))))) (K (CV.tup []) (dM x) (cQ x)))
abbrev pI(a:PH->List Value->List (List Value)->Prop)(b:Nat->Nat->Option Value)(c:Nat)(d:MH)(e:(List Sl)->(Nat->MH->PH->Prop)->Nat->Sl->Prop)(g:MH->PH->Prop):Prop:=∃(x:List Sl)(x1:Nat->MH->PH->Prop),aA (Cn Proofs.Tryz.prog 147 a) (a b (iR (P1 c 0)) (List.map (fun(x2:Sl)=>aK x2) x)) (aA (x1 0 d b) (∀(x2:Nat)(x3:Sl),e x x1 x2 x3) (fU (λx2 x3=>dE b x3 (x1 x.length x2 x3) (g x2 x3))))
abbrev sJ(a:List Sl)(b:Nat)(c:Sl):Prop:=a[b]? =Option.some c
attribute [push_cast] pI sJ
def Lj(s:Sl)(b:Nat)(m:MH)(h:PH)(K:CV->MH->PH->Prop):Prop:=
  ∀(b1:Nat)(m1:MH),aR (cH m h b1) (bC m m1 b1 (aK s) 53) (∃(S:PH->List Value->List (List Value)->Prop),pI S h b m1 (λx I k e=>fU (λm2 h1=>aR (sJ x k e) (PH.le h h1) (I k m2 h1->∃(y:Sl),aL m2 h1 b1 0 (aK y)/\∃(x1:List (List Value)),aH (dH m2 (cV y) 74 1 x1) (iG x1) (dN x1) (iA (λs1 m3=>eM m2 m3 (cV y) s1 74 1 (eT x1 (aK e))->fD (λc E=>aA (pH m3 b1 (dY c E 0)) (dU 0 c) (∀(m4:MH),bC m3 m4 b1 (fF (eC s1) 1 c) E->I (k+1) m4 h1))))))) (λm2 h1=>iQ m2 h1 b1 0 (λy=>K (lY y) m2 h1)))
abbrev I7(a:Nat->(List Sl)->Prop):Prop:=∃(x:Nat)(x1:List Sl),a x x1
noncomputable abbrev oB(a:Nat):CV:=CV.val (wY 147 (Array.mk (iR (P1 a 0))))
attribute [push_cast] I7 oB
def Ut(b:Nat)(m:MH)(h:PH)(K:CV->MH->PH->Prop):Prop:=
  ∃(s:Sl),I7 (λb1 u=>∃(v:List Sl),aA (bK Dm (oB b)=gL s (oB b1)) (dH m s 74 1 (eU u)) (aA (DA h b1 v) (u.length<=502633886983) (∀(s1:Sl),EB s1 1 (u++v) (λm1 x o=>aR (m x=Option.some o) (∀(i:Nat),jO (bE s.a x i)) (m1 x=Option.some o)) (λx=>A5 m x\/∃(i:Nat),bE s.a x i) (λm1=>K (lY s1) m1 h))))
def lA(h:PH)(b:Nat)(l:List Value):PH:=λb' i=>if b'=b then l[i]? else h b' i
theorem yQ{l:List Value}(hb:∀i,h b i=none):PH.le h (lA h b l):=⟨λb' i v e=>by
 have:b'≠b:=λe2=>by rw[e2,hb]at e;cases e
 simp only[lA,if_neg this];exact e⟩
theorem Ss{l:List Value}:aX (lA h b l) b 0 l:=⟨λi v e=>by simp only[lA,if_true,Nat.zero_add];exact e⟩
theorem W6{f:FuncId}{fn:Func}(hf:Tryz.prog.funcs[f]? =some fn){S:Vc.Spec}(hvc:∀cvs m h K,S cvs m h K->∃C:Ctx,C.P=Tryz.prog/\(∀g S,assoc C.specs g=some S->Sound Tryz.prog g S)/\∃N:Prop,N=Ab C fn (dO fn) (entry fn.ntmps cvs m h) (dJ h K)/\N)(hb:fn.body=some (dO fn):=by rfl)(hname:(fn.name== "runtime.NumGoroutine")=false:=by decide):Sound Tryz.prog f S:=TL hf hb hname λcvs m h K hS=>let⟨C,hC,hs,N,e,hn⟩:=hvc cvs m h K hS;⟨C,hC,hs,e▸hn⟩
theorem Rx:Sound Tryz.prog 117 LU:=by
 refine W6 Tryz.func117 ?_;rintro cvs m h K ⟨s,rfl,hK⟩;refine⟨dL [] [] [] [] false,rfl,aF,GA s m h (dJ h K),by kernel_rfl,?_⟩;show GA s m h (dJ h K);dsimp only[GA,push_cast];intro b m' hun hu hd
 have sub:∀b' o,m b'=some o->m' b'=some o:=λb' o hb'=>by
  rw[hu.other b' (λe=>by rw[e,hun.m_]at hb';cases hb')];exact hb'
 refine⟨m,lA h b [s.val],sub,yQ hun.h_,λb' i v e=>?_,hK b _ (yQ hun.h_) Ss⟩;by_cases hb:b'=b
 .subst hb;simp only[lA,if_true]at e;exact .inr ⟨_,_,_,hu.at_,by simpa[Sl.val]using e,hun.m_⟩
 .simp only[lA,if_neg hb]at e;exact .inl e
theorem Ra:Sound Tryz.prog 147 (WH Tryz.prog sT):=by
 refine iB Tryz.func147 ?_;rintro cvs m h K ⟨l,caps,xs,J,rfl,⟨b,us,rfl,hseq,rfl⟩,h0,hround,hend⟩;obtain⟨s,hb,hr,hl⟩:=hseq.ex;refine⟨VQ b l s,rfl,aF,Lt b l s m h K,by kernel_rfl,?_⟩;dsimp only[Lt,push_cast];have hlen:=hr.len;simp only[List.length_map]at hlen;refine⟨s,.imm hb,λx=>x.1<=us.length/\PH.le h x.2.2/\J x.1 x.2.1 x.2.2,λx=>us.length-x.1,⟨(0,m,h),⟨by simp,.refl _,h0⟩,MT⟩,?_⟩;rintro⟨i,mx,hx⟩ ⟨hi,le,hJ⟩;dsimp only at hi le hJ⊢
 refine aE (λhlt=>?_) (λhge=>hend _ mx hx le (by have e:i=us.length:=aC;simp only[List.length_map];rw[<-e];exact hJ));obtain⟨u,hu⟩:∃u,us[i]? =some u:=⟨_,List.getElem?_eq_getElem aC⟩
 obtain⟨b1,o1,e1,r1⟩:=hr.get (i:=i) (e:=eS u) (by simp[hu]);refine⟨b1,o1,e1,aC,hlt,u,.imm (r1.mono le),Is _,l,_,_,rfl,hround i (eS u) mx hx (by simp[hu]) le hJ,?_⟩;rintro t m' h' ⟨rfl,le',hJ'⟩;exact⟨(i+1,m',h'),⟨by dsimp only;omega,le.trans le',hJ'⟩,(by dsimp only;omega),MT⟩
theorem rQ:Cn Tryz.prog 147 sT:=⟨Ra⟩
theorem ZB{f:FuncId}{fn:Func}(hf:Tryz.prog.funcs[f]? =some fn){S:Vc.Spec}(hvc:∀cvs m h K,S cvs m h K->∃C:Ctx,C.P=Tryz.prog/\(∀g S,assoc C.specs g=some S->Sound Tryz.prog g S)/\∃N:Prop,N=Sw C fn (dO fn) (entry fn.ntmps cvs m h) K/\N)(hb:fn.body=some (dO fn):=by rfl)(hname:(fn.name== "runtime.NumGoroutine")=false:=by decide):Sound Tryz.prog f S:=KS hf hb hname λcvs m h K hS=>let⟨C,hC,hs,N,e,hn⟩:=hvc cvs m h K hS;⟨C,hC,hs,e▸hn⟩
theorem JB:Sound Tryz.prog 188 Ns:=by
 refine ZB Tryz.func188 ?_;rintro cvs m h K ⟨s,b,us,vs,rfl,hr,hs,hl,hK⟩;refine⟨MW [] [] [] [200002,1053],rfl,aF,Lj s b m h K,by kernel_rfl,?_⟩;dsimp only[Lj,push_cast];intro b1 m1 hun hu;have hvl:vs.length<=502633886983:=by obtain⟨_,_,_,h3⟩:=hs.ex;exact h3
 have sub:∀x o,m x=some o->m1 x=some o/\x≠b1:=λx o hx=>by
  have:x≠b1:=λe=>by rw[e,hun.m_]at hx;cases hx
  exact⟨by rw[hu.other x this];exact hx,this⟩
 have hsb:∀i,s.a≠some ⟨b1,i,none⟩:=λi e=>by
  obtain⟨o,ho⟩:=dH.blk hr e;exact(sub b1 _ ho).2 rfl
 refine⟨sT,vs,λk mx hx=>hx=h/\∃s',mx b1=some (.cells #[.slice s'.a s'.len s'.cap] 53 (0,0))/\dH mx s' 74 1 ((us++vs.take k).map eS)/\(∀i,s'.a≠some ⟨b1,i,none⟩)/\(∀x o,m x=some o->(∀i,s.a≠some ⟨x,i,none⟩)->mx x=some o/\∀i,s'.a≠some ⟨x,i,none⟩)/\(∀x i,s'.a=some ⟨x,i,none⟩->m x=none\/∃i,s.a=some ⟨x,i,none⟩),
  rQ,⟨b,vs,rfl,hs,rfl⟩,⟨rfl,s,hu.at_,?_,hsb,λx o hx hn=>⟨(sub x o hx).1,hn⟩,λx i e=>.inr ⟨i,e⟩⟩,?_,?_⟩
 .rw[List.take_zero,List.append_nil]
  exact dH.keep hr (λx i e=>by
   obtain⟨o,ho⟩:=dH.blk hr e;rw[(sub x _ ho).1,ho])
 .rintro k e mx hx hk-⟨rfl,s',hb1,hrow,hnb,hoth,hfr⟩
  have hkl:=(List.getElem?_eq_some_iff.1 hk).1;refine⟨s',.of_m hb1 rfl,_,hrow,by simp;omega,by simp;omega,λs2 m2 hg=>⟨_,_,⟨hg.other b1 _ hb1 hnb⟩,by simp,λm3 hu3=>⟨rfl,s2,hu3.at_,?_,?_,?_,?_⟩⟩⟩
  .have e1:(us++vs.take (k+1)).map eS=(us++vs.take k).map eS++[eS e]:=by
    rw[List.take_add_one,hk];simp
   rw[e1];refine dH.keep hg.row (λx i e2=>hu3.other x (λe3=>?_));subst e3;rcases hg.fresh x i e2 with h1|⟨j,h1⟩
   .rw[hb1]at h1;cases h1
   .exact hnb j h1
  .intro i e2;rcases hg.fresh b1 i e2 with h1|⟨j,h1⟩
   .rw[hb1]at h1;cases h1
   .exact hnb j h1
  .intro x o hx hn;obtain⟨h1,h2⟩:=hoth x o hx hn;refine⟨by rw[hu3.other x (sub x o hx).2];exact hg.other x o h1 h2,λi e2=>?_⟩;rcases hg.fresh x i e2 with h3|⟨j,h3⟩
   .rw[h1]at h3;cases h3
   .exact h2 j h3
  .intro x i e2;rcases hg.fresh x i e2 with h3|⟨j,h3⟩
   .cases e4:m x with
    |none=>exact .inl rfl
    |some o=>
     refine .inr (Classical.byContradiction λhn=>?_);have:=(hoth x o e4 (λi e=>hn ⟨i,e⟩)).1;rw[h3]at this;cases this
   .exact hfr x j h3
 .rintro mx hx-⟨rfl,s',hb1,hrow,hnb,hoth,hfr⟩
  rw[List.take_length]at hrow;exact⟨s',.of_m hb1 rfl,hK s' mx hrow (λx o hx hn=>(hoth x o hx hn).1) hfr⟩
theorem QR:Sound Tryz.prog 189 PY:=by
 refine iB Tryz.func189 ?_;rintro cvs m h K ⟨b,vs,rfl,hs,hK⟩;refine⟨dL [(188,Ns)] [] [] [] false,rfl,aD JB aF,Ut b m h K,by kernel_rfl,?_⟩;exact⟨⟨none,0,0⟩,b,[],vs,rfl,⟨zW [],.inl ⟨rfl,rfl⟩⟩,hs,by simp,λs' m' hr ho hf=>hK s' m' hr (λx o hx=>ho x o hx (λi e=>by cases e)) (λx i e=>(hf x i e).elim id λ⟨j,e⟩=>by cases e)⟩
structure Yf(v:VV):Prop where
 kind:Nl v.kind
 int:Nl v.int
 text:v.text.size<=64
structure Nt(r:List VV):Prop where
 len:r.length<=12
 val:∀v∈r,Yf v
def Bu(v:VV):List UInt8:=kH v.kind++58::(kH v.int++58::(kH (v.text.size:Int)++58::v.text.data.toList))
def z7(r:List VV):List UInt8:=r.flatMap Bu
def cT(r:List VV):ByteArray:=⟨(z7 r).toArray⟩
def pick(r:List VV)(cols:List Int):List VV:=cols.map λc=>r.getD c.toNat zeroV
structure gX(n:Nat)(cols:List Int):Prop where
 at_:∀c∈cols,0<=c/\c<n
 len:cols.length<=100000
def WM:Vc.Spec:=λcvs m h K=>∃xs v,cvs=[.lst 5 1 xs,aV v]/\jD m/\v.text.size<=64/\xs.length+300<=140737488355328/\K (.lst 5 1 (xs++aY (Bu v))) m h
def WE:Vc.Spec:=λcvs m h K=>∃s t r cols,cvs=[cS s,cS t]/\cC h s r/\Ints h t cols/\Nt r/\gX r.length cols/\jD m/\K (M0 (cT (pick r cols))) m h
def Tg:Vc.Spec:=λcvs m h K=>∃s r,cvs=[cS s]/\cC h s r/\Nt r/\jD m/\K (M0 (cT r)) m h
def j4(on:List (Int×Int)):List Int:=on.map Prod.fst
def gA(on:List (Int×Int)):List Int:=on.map Prod.snd
def RX:Vc.Spec:=λcvs m h K=>∃s on,cvs=[cS s]/\lK h s on/\∀a b h',PH.le h h'->Ints h' a (j4 on)->Ints h' b (gA on)->K (.tup [cS a,cS b]) m h'
def P0:Vc.Spec:=λcvs m h K=>∃s t r cols,cvs=[cS s,cS t]/\cC h s r/\Ints h t cols/\gX r.length cols/\K (cB ((pick r cols).all lH)) m h
def WK:Vc.Spec:=λcvs m h K=>∃n:Nat,cvs=[.val (.slice none 0 0),cI n]/\n<=1000/\K (.lst 27 3 []) m h
def PX:Vc.Spec:=λcvs m h K=>∃ss rs,cvs=[cS ss]/\Rows h ss rs/\rs.length<=10/\(∀r∈rs,r.length<=12)/\∀sl h',PH.le h h'->cC h' sl rs.flatten->K (cS sl) m h'
noncomputable def Vz:Ctx:=uM [(223,Tq)] [] [] [] [] [(223,[0])] true
noncomputable def VE(s t:Sl)(m:MH)(h:PH):Ctx:=
 uM [(208,WM)] [(3,{A:=Nat×List UInt8,st:=λ⟨i,l⟩=>cD 23 25 [(0,sv s),(5,.at (.lst 19)),(8,sv t),(9,iv t.len),(10,iv i)] [(19,.lst 5 1 (aY l))] m h})] [] [] [] [(208,[0])] false
noncomputable def Vy(s:Sl)(m:MH)(h:PH):Ctx:=
 uM [(208,WM)] [(3,{A:=Nat×List UInt8,st:=λ⟨i,l⟩=>cD 18 19 [(3,.at (.lst 14)),(6,sv s),(7,iv s.len),(8,iv i)] [(14,.lst 5 1 (aY l))] m h})] [] [] [] [(208,[0])] false
noncomputable def VG(s:Sl)(m:MH)(h:PH):Ctx:=
 dL [] [(2,{A:=Nat×List Int×List Int,st:=λ⟨i,l,k⟩=>cD 25 26 [(2,.at (.lst 16)),(3,.at (.lst 21)),(6,sv s),(7,iv s.len),(8,iv i)] [(16,.lst 3 1 (l.map eI)),(21,.lst 3 1 (k.map eI))] m h})] [] [] false
noncomputable def VF(s t:Sl)(m:MH)(h:PH):Ctx:=
 dL [(203,LY)] [(2,{A:=Nat,st:=λi=>cD 20 22 [(0,sv s),(7,sv t),(8,iv t.len),(9,iv i)] [] m h})] [] [] false
noncomputable def VD(ss:Sl)(m:MH)(h:PH):Ctx:=
 dL [(209,WK)] [(3,{A:=Nat×Nat,st:=λ⟨i,n⟩=>cD 36 37 [(0,sv ss),(3,iv n),(9,sv ss),(10,iv ss.len),(11,iv i)] [] m h}),
  (11,{A:=Nat×List VV,st:=λ⟨i,l⟩=>cD 36 37 [(6,.at (.lst 24)),(25,sv ss),(26,iv ss.len),(27,iv i)] [(24,.lst 27 3 (l.map VV.enc))] m h})] [] [] false
noncomputable abbrev CE(a:List (List Value))(b:Int):List (List Value):=eT (a++aY (kH b)) (iR (Bp 58))
attribute [push_cast] CE
def Le(xs:List (List Value))(v:VV)(m:MH)(h:PH)(K:CV->MH->PH->Prop):Prop:=
  ∃(x:List (List Value))(i:Int),aA (vJ xs v.kind=vJ x i) (jD m) (aA (eO (lI x 40)) (eO (lI (x++aY (kH i)) 1*1)) (AI (dN (x++aY (kH i))) (λx1=>∃(i1:Int),aA (vJ (CE x i) v.int=vJ x1 i1) (jD m) (aA (eO (lI x1 40)) (eO (lI (x1++aY (kH i1)) 1*1)) (AI (dN (x1++aY (kH i1))) (λx2=>∃(i2:Int),aA (vJ (CE x1 i1) (↑v.text.size:Int)=vJ x2 i2) (jD m) (aA (eO (lI x2 40)) (eO (lI (x2++aY (kH i2)) 1*1)) (aH (dN (x2++aY (kH i2))) (pX (CE x2 i2) (iC v.text) 1) (eO (pY (CE x2 i2) (iC v.text))) (K (CV.lst 5 1 (CE x2 i2++iC v.text)) m h)))))))))
noncomputable abbrev vR(a:Nat×List UInt8):List (List Value):=aY a.2
attribute [push_cast] vR
def Ll(s t:Sl)(m:MH)(h:PH)(K:CV->MH->PH->Prop):Prop:=
  ∃(I:Nat×List UInt8->Prop)(m1:Nat×List UInt8->Nat),(∃(x:Nat×List UInt8),aA (I x) (aJ s) (aA (eL 19) (aJ t) (aA (bJ t) (aZ x.1) (aA (mM 5 1 (cM 5 1 (vR x))) (m=m) (bN h h)))))/\∀(x:Nat×List UInt8),I x->aW (↑x.1:Int) (aG t) (bD (λb o=>aH (bE t.a b o) (0<=(↑x.1:Int)) ((↑x.1:Int)<aG t) (∃(y:Int),aL m h b (bF o x.1 1) (bW y)/\bD (λb1 o1=>aH (bE s.a b1 o1) (0<=y) (y<aG s) (∃(y1:VV),aL m h b1 (fJ o1 y 3) y1.enc/\∃(x1:List (List Value))(v:VV),aA (bK (CV.lst 5 1 (vR x)) (fC y1)=bK (CV.lst 5 1 x1) (fC v)) (jD m) (aA (v.text.size<=64) (eO (lI x1 300)) (∃(x2:Nat×List UInt8),aA (I x2) (m1 x2<m1 x) (aA (aJ s) (eL 19) (aA (aJ t) (bJ t) (aA (fV (bB x.1 1)=bM x2.1) (cM 5 1 (x1++
 aY (Bu v))=cM 5 1 (vR x2)) (bT (m=m) h h))))))))))) (∃(b:List UInt8),vR x=aY b/\K (jI (ByteArray.mk (Array.mk b))) m h)
def Lb(s:Sl)(m:MH)(h:PH)(K:CV->MH->PH->Prop):Prop:=
  ∃(I:Nat×List UInt8->Prop)(m1:Nat×List UInt8->Nat),(∃(x:Nat×List UInt8),aA (I x) (eL 14) (aA (aJ s) (bJ s) (aA (aZ x.1) (mM 5 1 (cM 5 1 (vR x))) (aA (m=m) (h=h) True))))/\∀(x:Nat×List UInt8),I x->aW (↑x.1:Int) (aG s) (bD (λb o=>aH (bE s.a b o) (0<=(↑x.1:Int)) ((↑x.1:Int)<aG s) (∃(y:VV),aL m h b (bF o x.1 3) y.enc/\∃(x1:List (List Value))(v:VV),aA (bK (CV.lst 5 1 (vR x)) (fC y)=bK (CV.lst 5 1 x1) (fC v)) (jD m) (aA (v.text.size<=64) (eO (lI x1 300)) (∃(x2:Nat×List UInt8),aA (I x2) (m1 x2<m1 x) (aA (eL 14) (aJ s) (aA (bJ s) (fV (bB x.1 1)=bM x2.1) (aA (cM 5 1 (x1++aY (Bu v))=cM 5 1 (vR x2)) (m=m) (bN h h))))))))) (∃(b:List UInt8),vR x=aY b/\K (jI (ByteArray.mk
 (Array.mk b))) m h)
def Ln(s:Sl)(m:MH)(h:PH)(K:CV->MH->PH->Prop):Prop:=
  ∃(I:Nat×List Int×List Int->Prop)(m1:Nat×List Int×List Int->Nat),(∃(x:Nat×List Int×List Int),aA (I x) (eL 16) (aA (eL 21) (aJ s) (aA (bJ s) (aZ x.1) (aA (pJ x.2.1) (pJ x.2.2) (bT (m=m) h h)))))/\∀(x:Nat×List Int×List Int),I x->aW (↑x.1:Int) (aG s) (bD (λb o=>aH (bE s.a b o) (0<=(↑x.1:Int)) ((↑x.1:Int)<aG s) (∃(y:Int×Int),aA (aL m h b (bF o x.1 2) (tM y)) (cG 0) (aA ((0:Int)<2) (xP x.2.1) (aA (dN (gU x.2.1)) (cG 1) (aA ((1:Int)<2) (xP x.2.2) (dN (gU x.2.2)/\∃(x1:Nat×List Int×List Int),aA (I x1) (m1 x1<m1 x) (aA (eL 16) (eL 21) (aA (aJ s) (bJ s) (aA (fV (bB x.1 1)=bM x1.1) (rA x.2.1 y.1 x1.2.1) (aH (rA x.2.2 y.2 x1.2.2) (m=m) (h=h) True))))))))))) (bV h 1 (gU
 x.2.1) (λs1 h1=>bV h1 1 (gU x.2.2) (λs2 h2=>K (CV.tup (gJ s1 s2)) m h2)))
def Lm(s t:Sl)(m:MH)(h:PH)(K:CV->MH->PH->Prop):Prop:=
  lV (λI x=>aA (I x) (aJ s) (aA (aJ t) (bJ t) (aH (aZ x) (m=m) (h=h) True))) (λI m1 x=>I x->aW (↑x:Int) (aG t) (bD (λb o=>aH (bE t.a b o) (0<=(↑x:Int)) ((↑x:Int)<aG t) (∃(y:Int),aL m h b (bF o x 1) (bW y)/\bD (λb1 o1=>aH (bE s.a b1 o1) (0<=y) (y<aG s) (∃(y1:VV),aL m h b1 (fJ o1 y 3) y1.enc/\∃(v:VV),fT (fC y1) (fC v)/\gV (!(lH v)) (K aU m h) (λx1=>aA (I x1) (m1 x1<m1 x) (aA (aJ s) (aJ t) (aA (bJ t) (fV (bB x 1)=bM x1) (aA (m=m) (h=h) True))))))))) (K fK m h))
def Lc(n:Nat)(m:MH)(h:PH)(K:CV->MH->PH->Prop):Prop:=
  eX (iN ((↑n:Int)-iN ((0:Int)-0))) 0 (aA (cG 0) (cG 0) (aA (0<iN ((↑n:Int)-0)) (I0 (iN ((↑n:Int)-0)*32)) (aH (I0 (iN ((↑n:Int)-0))) ((0:Int)<=0) (cG (j9 (List.replicate (iN ((↑n:Int)-0)).toNat tN))) (K (CV.lst 27 3 []) m h)))) (K (CV.lst 27 3 []) m h)
noncomputable abbrev rB(a:List VV):List (List Value):=List.map VV.enc a
attribute [push_cast] rB
def Lk(ss:Sl)(m:MH)(h:PH)(K:CV->MH->PH->Prop):Prop:=
  HX (λI x=>aA (I x) (aJ ss) (aA (aZ x.2) (aJ ss) (aA (bJ ss) (aZ x.1) (aA (m=m) (h=h) True)))) (λI m1 x=>I x->aW (↑x.1:Int) (aG ss) (cZ ss.a (↑x.1:Int) ss (λb o y=>aL m h b (bF o x.1 1) (aK y)/\aW (bB x.2 (aG y)) 0 False (∃(x1:Nat×Nat),aA (I x1) (m1 x1<m1 x) (aA (aJ ss) (fV (bB x.2 (aG y))=bM x1.2) (aA (aJ ss) (bJ ss) (aA (fV (bB x.1 1)=bM x1.1) (m=m) (bN h h))))))) (∃(n:Nat),aA (cJ Dm (↑x.2:Int)=cJ Dm (↑n:Int)) (mO n) (∃(I1:Nat×List VV->Prop)(m2:Nat×List VV->Nat),(∃(x1:Nat×List VV),aA (I1 x1) (eL 24) (aA (aJ ss) (bJ ss) (aA (aZ x1.1) (mM 27 3 (cM 27 3 (rB x1.2))) (aA (m=m) (h=h) True))))/\∀(x1:Nat×List VV),I1 x1->aW (↑x1.1:Int) (aG ss) (cZ ss.a (↑x1.1:Int)
 ss (λb o y=>aL m h b (bF o x1.1 1) (aK y)/\∃(y1:List (List Value)),aA (eG 3 y1) (cR h (cV y) 3 y1) (aA (pX (rB x1.2) y1 32) (eO (pY (rB x1.2) y1)) (∃(x2:Nat×List VV),aA (I1 x2) (m2 x2<m2 x1) (aA (eL 24) (aJ ss) (aA (bJ ss) (fV (bB x1.1 1)=bM x2.1) (aA (cM 27 3 (rB x1.2++y1)=cM 27 3 (rB x2.2)) (m=m) (bN h h)))))))) (bV h 3 (rB x1.2) (λs h1=>K (lY s) m h1)))))
theorem Fx(a b:List UInt8):aY a++aY b=aY (a++b):=by simp[aY]
theorem UO{v:VV}(h:v.text.size<=64):(Bu v).length<=130:=by
 have h1:=wH v.kind;have h2:=wH v.int;have h3:=wH (v.text.size:Int);have h4:v.text.data.toList.length=v.text.size:=Array.length_toList;simp only[Bu,List.length_append,List.length_cons];omega
theorem Jy:Sound Tryz.prog 208 WM:=by
 refine iB Tryz.func208 ?_;rintro cvs m h K ⟨xs,v,rfl,ht,hv,hl,hK⟩;refine⟨Vz,rfl,aD Qv aF,Le xs v m h K,by kernel_rfl,?_⟩;dsimp only[Le,push_cast];have h1:=wH v.kind;have h2:=wH v.int;have h3:=wH (v.text.size:Int);have h4:v.text.data.toList.length=v.text.size:=Array.length_toList;have b1:∀l:List UInt8,(aY l).length=l.length:=λl=>by simp[aY]
 have b2:iC v.text=aY v.text.data.toList:=rfl;refine⟨_,_,rfl,ht,aC,?_,?_,_,_,rfl,ht,?_,?_,?_,_,_,rfl,ht,?_,?_,?_,?_,?_,?_⟩
 all_goals (try (simp only[List.length_append,b1,b2,List.length_cons,List.length_nil];omega))
 have e:xs++aY (Bu v)=xs++aY (kH v.kind)++[[Value.int IntKind.u8 58]]++aY (kH v.int)++[[Value.int IntKind.u8 58]]++aY (kH (v.text.size:Int))++[[Value.int IntKind.u8 58]]++iC v.text:=by
  rw[b2];simp only[Bu,aY,List.map_append,List.map_cons,List.append_assoc,List.cons_append,List.nil_append];rfl
 rw[e]at hK;exact hK
theorem Od{r:List VV}(h:∀v∈r,v.text.size<=64):(z7 r).length<=130*r.length:=by
 induction r with
 |nil=>simp[z7]
 |cons v l ih=>
  have h1:=UO (h v (List.mem_cons_self ..));have h2:=ih (λu hu=>h u (List.mem_cons_of_mem _ hu));simp only[z7,List.flatMap_cons,List.length_append,List.length_cons]at h2⊢
  omega
theorem KI{r:List VV}{v:VV}(hv:r[i]? =some v):z7 (r.take (i+1))=z7 (r.take i)++Bu v:=by
 rw[List.take_add_one,hv];simp[z7]
theorem N4{r:List VV}{cols:List Int}(hc:gX r.length cols){v:VV}(hv:v∈pick r cols):v∈r:=by
 obtain⟨c,hc1,rfl⟩:=List.mem_map.1 hv;have:=hc.at_ c hc1;rw[List.getD_eq_getElem?_getD,List.getElem?_eq_getElem aC];exact List.getElem_mem _
theorem Mq{r:List VV}{cols:List Int}{i:Nat}{c:Int}(hc:gX r.length cols)(hi:cols[i]? =some c):∃v,r[c.toNat]? =some v/\(pick r cols)[i]? =some v/\0<=c/\c<r.length:=by
 have:=hc.at_ c (List.mem_of_getElem? hi);refine⟨r[c.toNat]'(by omega),List.getElem?_eq_getElem _,?_,this⟩;unfold pick;rw[List.getElem?_map,hi];simp only[Option.map_some,List.getD_eq_getElem?_getD];rw[List.getElem?_eq_getElem aC];rfl
theorem Bh:Sound Tryz.prog 186 WE:=by
 refine iB Tryz.func186 ?_;rintro cvs m h K ⟨s,t,r,cols,rfl,hs,ht,hr,hc,hT,hK⟩;refine⟨VE s t m h,rfl,aD Jy aF,Ll s t m h K,by kernel_rfl,?_⟩;dsimp only[Ll,push_cast];have hsl:=bH.slen hs;have htl:=ht.slen;have hcl:=hc.len;have hpl:(pick r cols).length=cols.length:=by simp[pick]
 have htx:∀v∈pick r cols,v.text.size<=64:=λv hv=>(hr.val v (N4 hc hv)).text;refine⟨λx=>x.1<=cols.length/\x.2=z7 ((pick r cols).take x.1),λx=>cols.length-x.1,⟨(0,[]),⟨by simp,by simp[z7]⟩,MT⟩,?_⟩;rintro⟨i,l⟩ ⟨hi,hl⟩;dsimp only at hi hl;subst hl;refine aE (λhlt=>?_) (λhge=>?_)
 .dsimp only at hlt;obtain⟨c,hci⟩:=eY htl hlt;obtain⟨b,o,e,rd⟩:=ht.at hci;obtain⟨v,hv1,hv2,h0,h1⟩:=Mq hc hci;obtain⟨b2,o2,w,e2,rd2,rfl⟩:=bH.at hs hv1;have hk:=Od (r:=(pick r cols).take i) (λu hu=>htx u (List.mem_of_mem_take hu));refine⟨b,o,e,by dsimp only;omega,hlt,c,.imm (by simpa using rd),b2,o2,e2,h0,aC,v,.imm rd2,_,v,rfl,hT,htx v (List.mem_of_getElem? hv2),?_,(i+1,z7 ((pick r cols).take (i+1))),⟨by dsimp only;omega,rfl⟩,(by dsimp only;omega),?_⟩
  .have:(aY (z7 ((pick r cols).take i))).length=(z7 ((pick r cols).take i)).length:=by simp[aY]
   rw[List.length_take]at hk;dsimp only;omega
  .dsimp only;rw[KI hv2,Fx];exact MT
 .dsimp only at hge⊢
  rw[List.take_of_length_le aC];exact⟨_,rfl,hK⟩
theorem QI:Sound Tryz.prog 210 Tg:=by
 refine iB Tryz.func210 ?_;rintro cvs m h K ⟨s,r,rfl,hs,hr,hT,hK⟩;refine⟨Vy s m h,rfl,aD Jy aF,Lb s m h K,by kernel_rfl,?_⟩;dsimp only[Lb,push_cast];have hsl:=bH.slen hs;have hrl:=hr.len;refine⟨λx=>x.1<=r.length/\x.2=z7 (r.take x.1),λx=>r.length-x.1,⟨(0,[]),⟨by simp,by simp[z7]⟩,MT⟩,?_⟩;rintro⟨i,l⟩ ⟨hi,hl⟩;dsimp only at hi hl;subst hl;refine aE (λhlt=>?_) (λhge=>?_)
 .dsimp only at hlt;obtain⟨v,hv⟩:=eY hsl hlt;obtain⟨b2,o2,w,e2,rd2,rfl⟩:=bH.at hs hv;have hk:=Od (r:=r.take i) (λu hu=>(hr.val u (List.mem_of_mem_take hu)).text);refine⟨b2,o2,e2,by dsimp only;omega,hlt,v,.imm rd2,_,v,rfl,hT,(hr.val v (List.mem_of_getElem? hv)).text,?_,(i+1,z7 (r.take (i+1))),⟨by dsimp only;omega,rfl⟩,(by dsimp only;omega),?_⟩
  .have:(aY (z7 (r.take i))).length=(z7 (r.take i)).length:=by simp[aY]
   rw[List.length_take]at hk;dsimp only;omega
  .dsimp only;rw[KI hv,Fx];exact MT
 .dsimp only at hge⊢
  rw[List.take_of_length_le aC];exact⟨_,rfl,hK⟩
theorem JC:Sound Tryz.prog 184 RX:=by
 refine iB Tryz.func184 ?_;rintro cvs m h K ⟨s,on,rfl,hs,hK⟩;refine⟨VG s m h,rfl,aF,Ln s m h K,by kernel_rfl,?_⟩;dsimp only[Ln,push_cast];have hsl:=hs.slen;have hl:=hs.len;refine⟨λx=>x.1<=on.length/\x.2.1=(on.take x.1).map Prod.fst/\x.2.2=(on.take x.1).map Prod.snd,λx=>on.length-x.1,⟨(0,[],[]),⟨by simp,by simp,by simp⟩,MT⟩,?_⟩;rintro⟨i,l,k⟩ ⟨hi,e1,e2⟩;dsimp only at hi e1 e2;subst e1 e2;refine aE (λhlt=>?_) (λhge=>?_)
 .dsimp only at hlt;obtain⟨p,hp⟩:=eY hsl hlt;obtain⟨b,o,e,rd⟩:=lK.at hs hp;refine⟨b,o,e,by dsimp only;omega,hlt,p,.imm rd,aC,aC,?_,?_,aC,aC,?_,?_,(i+1,(on.take (i+1)).map Prod.fst,(on.take (i+1)).map Prod.snd),⟨by dsimp only;omega,rfl,rfl⟩,(by dsimp only;omega),?_⟩
  all_goals (try (simp only[List.length_map,List.length_take];omega))
  dsimp only;rw[List.take_add_one,hp,Option.toList_some,List.map_append,List.map_append,List.map_append,List.map_append];exact MT
 .dsimp only at hge⊢
  rw[List.take_of_length_le aC];intro a h1 le1 r1 b h2 le2 r2;exact hK a b h2 (le1.trans le2) ⟨r1.mono le2,by simp[j4];omega⟩ ⟨r2,by simp[gA];omega⟩
theorem QT:Sound Tryz.prog 185 P0:=by
 refine iB Tryz.func185 ?_;rintro cvs m h K ⟨s,t,r,cols,rfl,hs,ht,hc,hK⟩;refine⟨VF s t m h,rfl,aD DU aF,Lm s t m h K,by kernel_rfl,?_⟩;dsimp only[Lm,push_cast];have hsl:=bH.slen hs;have htl:=ht.slen;have hcl:=hc.len;have hpl:(pick r cols).length=cols.length:=by simp[pick]
 refine⟨λi=>i<=cols.length/\∀j:Nat,j<i->∀v,(pick r cols)[j]? =some v->lH v=true,λi=>cols.length-i,⟨0,⟨aC,λj hj=>by omega⟩,MT⟩,λi⟨hi,hall⟩=>aE (λhlt=>?_) (λhge=>?_)⟩
 .obtain⟨c,hci⟩:=eY htl hlt;obtain⟨b,o,e,rd⟩:=ht.at hci;obtain⟨v,hv1,hv2,h0,h1⟩:=Mq hc hci;obtain⟨b2,o2,w,e2,rd2,rfl⟩:=bH.at hs hv1;refine⟨b,o,e,aC,hlt,c,.imm (by simpa using rd),b2,o2,e2,h0,aC,v,.imm rd2,v,rfl,aB (λhne=>?_) (λhe=>⟨i+1,⟨aC,λj hj u hu=>?_⟩,(show cols.length-(i+1)<cols.length-i by omega),MT⟩)⟩
  .have:(pick r cols).all lH=false:=by
    cases e3:(pick r cols).all lH with
    |false=>rfl
    |true=>rw[List.all_eq_true]at e3;rw[e3 v (List.mem_of_getElem? hv2)]at hne;cases hne
   rw[this]at hK;exact hK
  .by_cases e4:j=i
   .subst e4;rw[hv2]at hu;cases hu;simpa using he
   .exact hall j aC u hu
 .have:(pick r cols).all lH=true:=by
   rw[List.all_eq_true];intro v hv;obtain⟨j,hj⟩:=List.getElem?_of_mem hv;exact hall j (by have:=(List.getElem?_eq_some_iff.1 hj).1;omega) v hj
  rw[this]at hK;exact hK
theorem QJ:Sound Tryz.prog 209 WK:=by
 refine iB Tryz.func209 ?_;rintro cvs m h K ⟨n,rfl,hn,hK⟩;refine⟨dL [] [] [] [] true,rfl,aF,Lc n m h K,by kernel_rfl,?_⟩;dsimp only[Lc,push_cast];have h0:IntKind.i64.wrap ((n:Int)-0)=n:=by rw[eB aC aC];omega
 have h1:IntKind.i64.wrap ((n:Int)-IntKind.i64.wrap (0-0))=n:=by rw[show IntKind.i64.wrap (0-0)=0 from by rw[eB aC aC];rfl,h0]
 exact aE (λhp=>⟨aC,aC,aC,aC,aC,aC,aC,hK⟩) (λ_=>hK)
theorem Ec{α:Type}{ks:List (List α)}{k:List α}(hk:ks[i]? =some k):((ks.take (i+1)).map List.length).sum=((ks.take i).map List.length).sum+k.length:=by
 rw[List.take_add_one,hk];simp
theorem DD{α:Type}{ks:List (List α)}(h:∀k∈ks,k.length<=12):∀i,((ks.take i).map List.length).sum<=12*i
 |0=>by simp
 |i+1=>by
  have ih:=DD h i;cases e:ks[i]? with
  |none=>rw[List.take_add_one,e];simp at ih⊢;omega
  |some k=>rw[Ec e];have:=h k (List.mem_of_getElem? e);omega
theorem QS:Sound Tryz.prog 187 PX:=by
 refine iB Tryz.func187 ?_;rintro cvs m h K ⟨ss,ks,rfl,hs,hl,h12,hK⟩;refine⟨VD ss m h,rfl,aD QJ aF,Lk ss m h K,by kernel_rfl,?_⟩;dsimp only[Lk,push_cast];have hsl:=bH.slen hs;refine⟨λ⟨i,n⟩=>i<=ks.length/\n=((ks.take i).map List.length).sum,λ⟨i,_⟩=>ks.length-i,⟨(0,0),⟨aC,by simp⟩,MT⟩,?_⟩;rintro⟨i,n⟩ ⟨hi,rfl⟩;dsimp only;have hb:=DD h12 i;refine aE (λhlt=>?_) (λhge=>?_)
 .obtain⟨k,hk⟩:=eY hsl hlt;obtain⟨b,o,sl,ea,r,hki⟩:=bH.at hs hk;have hkl:=bH.slen hki;have hk12:=h12 k (List.mem_of_getElem? hk)
  have hw:IntKind.i64.wrap (((((ks.take i).map List.length).sum:Nat):Int)+(sl.len:Int))=((((ks.take (i+1)).map List.length).sum:Nat):Int):=by
   rw[Ec hk,eB aC aC];omega
  refine⟨b,o,ea,aC,hlt,sl,.imm r,?_⟩;rw[hw];exact aE (λhneg=>by omega) (λ_=>⟨(i+1,((ks.take (i+1)).map List.length).sum),⟨aC,rfl⟩,by show ks.length-(i+1)<ks.length-i;omega,MT⟩)
 .refine⟨((ks.take i).map List.length).sum,rfl,aC,?_⟩;refine⟨λ⟨i,l⟩=>i<=ks.length/\l=(ks.take i).flatten,λ⟨i,_⟩=>ks.length-i,⟨(0,[]),⟨aC,by simp⟩,MT⟩,?_⟩;clear hb hge hi;rintro⟨i,l⟩ ⟨hi,rfl⟩;dsimp only;have hfl:(ks.take i).flatten.length<=12*i:=by have:=DD h12 i;simpa[List.length_flatten]using this
  refine aE (λhlt=>?_) (λhge sl h' hle hrow=>hK sl h' hle ⟨⟨ks.flatten,?_,rfl,λi x hx=>⟨x,hx,rfl⟩⟩,?_⟩)
  .obtain⟨k,hk⟩:=eY hsl hlt;obtain⟨b,o,sl,ea,r,hki⟩:=bH.at hs hk;have hk12:=h12 k (List.mem_of_getElem? hk);obtain⟨us,hu1,hu2,hu3⟩:=hki.ex
   have hus:us=k:=by
    apply List.ext_getElem?;intro j;by_cases hj:j<k.length
    .obtain⟨v,h1,h2⟩:=hu3 j _ (List.getElem?_eq_getElem hj);rw[h1,List.getElem?_eq_getElem hj,h2]
    .rw[List.getElem?_eq_none aC,List.getElem?_eq_none aC]
   subst hus;refine⟨b,o,ea,aC,hlt,sl,.imm r,us.map VV.enc,IF us,hu1,?_,?_,(i+1,(ks.take (i+1)).flatten),⟨aC,rfl⟩,by show ks.length-(i+1)<ks.length-i;omega,?_⟩
   .rw[List.length_map,List.length_map];omega
   .rw[List.length_map,List.length_map];omega
   .rw[List.take_add_one,hk,Option.toList_some,List.flatten_append,List.map_append,List.flatten_cons,List.flatten_nil,List.append_nil];exact MT
  .rw[List.take_of_length_le aC]at hrow;exact hrow
  .rw[List.take_of_length_le aC]at hfl;omega
theorem MV:∀(u:Nat)(b:UInt8),b∈Lib.decDigits u->48<=b.toNat/\b.toNat<=57:=by
 intro u
 induction u using Nat.strongRecOn with
 |_ u ih=>
  intro b hb;rw[Lib.decDigits]at hb
  have one:∀k,k<10->48<=(UInt8.ofNat (48+k)).toNat/\(UInt8.ofNat (48+k)).toNat<=57:=λk hk=>by
   rw[UInt8.toNat_ofNat'];omega
  split at hb
  .rename_i h;rw[List.mem_singleton]at hb;subst hb;exact one u h
  .rcases List.mem_append.1 hb with h1|h1
   .exact ih (u/10) aC b h1
   .rw[List.mem_singleton]at h1;subst h1;exact one (u%10) aC
theorem SR:∀(u v:Nat),Lib.decDigits u=Lib.decDigits v->u=v:=by
 intro u
 induction u using Nat.strongRecOn with
 |_ u ih=>
  intro v h;have hl:=congrArg List.length h;rw[Lib.decDigits_length,Lib.decDigits_length]at hl
  have one:∀a b,a<10->b<10->UInt8.ofNat (48+a)=UInt8.ofNat (48+b)->a=b:=λa b ha hb e=>by
   have:=congrArg UInt8.toNat e;rw[UInt8.toNat_ofNat',UInt8.toNat_ofNat']at this;omega
  by_cases hu:u<10
  .have hv:v<10:=by
    apply Classical.byContradiction;intro hv;rw[Lib.nDigits_small hu,Lib.nDigits_big hv]at hl;have:=Lib.nDigits_pos (v/10);omega
   rw[Lib.decDigits.eq_def u,Lib.decDigits.eq_def v,dif_pos hu,dif_pos hv]at h;simp only[List.cons.injEq,and_true]at h;exact one u v hu hv h
  .have hv:¬v<10:=λhv=>by
    rw[Lib.nDigits_small hv,Lib.nDigits_big hu]at hl;have:=Lib.nDigits_pos (u/10);omega
   rw[Lib.decDigits.eq_def u,Lib.decDigits.eq_def v,dif_neg hu,dif_neg hv]at h;have h2:=List.append_inj' h rfl;have h3:=ih (u/10) aC (v/10) h2.1;simp only[List.cons.injEq,and_true]at h2;have h4:=one (u%10) (v%10) aC aC h2.2;omega
theorem Tr{n:Int}(h0:0<=n)(h1:n<18446744073709551616):IntKind.u64.wrap n=n:=by
 rw[IntKind.wrap_u64];omega
theorem Ts{n:Int}(h0:n<0)(h1: -9223372036854775808<=n):IntKind.u64.wrap (0-IntKind.u64.wrap n)= -n:=by
 rw[IntKind.wrap_u64,IntKind.wrap_u64];omega
theorem z8{n:Int}(h:Nl n)(h0:0<=n):kH n=Lib.decDigits n.toNat:=by
 unfold kH;rw[if_neg aC,Tr h0 (by have:=h.2;omega)]
theorem Aa{n:Int}(h:Nl n)(h0:n<0):kH n=45::Lib.decDigits (-n).toNat:=by
 unfold kH;rw[if_pos h0,Ts h0 h.1]
theorem KK{n:Int}(h:Nl n){b:UInt8}(hb:b∈kH n):b≠58:=by
 intro e;subst e;by_cases h0:0<=n
 .rw[z8 h h0]at hb;have:=MV _ _ hb;simp at this
 .rw[Aa h aC]at hb;rcases List.mem_cons.1 hb with h1|h1
  .cases h1
  .have:=MV _ _ h1;simp at this
theorem TI{m n:Int}(hm:Nl m)(hn:Nl n)(h:kH m=kH n):m=n:=by
 have no45:∀u r,Lib.decDigits u=45::r->False:=λu r e=>by
  have:=MV u 45 (by rw[e];simp);simp at this
 by_cases h0:0<=m<;>by_cases h1:0<=n
 .rw[z8 hm h0,z8 hn h1]at h;have:=SR _ _ h;omega
 .rw[z8 hm h0,Aa hn aC]at h;exact(no45 _ _ h).elim
 .rw[Aa hm aC,z8 hn h1]at h;exact(no45 _ _ h.symm).elim
 .rw[Aa hm aC,Aa hn aC]at h;have:=SR _ _ (List.cons.inj h).2;omega
theorem NL{α:Type}{x:α}:∀{a b r r':List α},x∉a->x∉b->a++x::r=b++x::r'->a=b/\r=r'
 |[],[],r,r',_,_,h=>⟨rfl,(List.cons.inj h).2⟩
 |[],c::b,r,r',_,hb,h=>by
  have:=(List.cons.inj h).1;exact(hb (by rw[this];simp)).elim
 |c::a,[],r,r',ha,_,h=>by
  have:=(List.cons.inj h).1;exact(ha (by rw[<-this];simp)).elim
 |c::a,d::b,r,r',ha,hb,h=>by
  have h1:=List.cons.inj h;obtain⟨e1,e2⟩:=NL (λm=>ha (by simp[m])) (λm=>hb (by simp[m])) h1.2;exact⟨by rw[h1.1,e1],e2⟩
theorem BN{m n:Int}{r r':List UInt8}(hm:Nl m)(hn:Nl n)(h:kH m++58::r=kH n++58::r'):m=n/\r=r':=by
 obtain⟨h1,h2⟩:=NL (λhb=>KK hm hb rfl) (λhb=>KK hn hb rfl) h;exact⟨TI hm hn h1,h2⟩
theorem RO{u v:VV}{r r':List UInt8}(hu:Yf u)(hv:Yf v)(h:Bu u++r=Bu v++r'):u=v/\r=r':=by
 simp only[Bu,List.append_assoc,List.cons_append]at h;obtain⟨e1,h⟩:=BN hu.kind hv.kind h;obtain⟨e2,h⟩:=BN hu.int hv.int h;have sz:∀w:VV,Yf w->Nl (w.text.size:Int):=λw hw=>⟨aC,by have:=hw.text;omega⟩
 obtain⟨e3,h⟩:=BN (sz u hu) (sz v hv) h
 have e4:u.text.data.toList.length=v.text.data.toList.length:=by
  have:u.text.size=v.text.size:=by omega
  rw[Array.length_toList,Array.length_toList];exact this
 obtain⟨e5,e6⟩:=List.append_inj h e4;refine⟨?_,e6⟩;obtain⟨k,i,t⟩:=u;obtain⟨k',i',t'⟩:=v;simp only[VV.mk.injEq]at e1 e2⊢
 refine⟨e1,e2,?_⟩;cases t;cases t';simp only[ByteArray.mk.injEq];exact Array.toList_inj.1 e5
theorem Oe:∀{a b:List VV},a.length=b.length->(∀v∈a,Yf v)->(∀v∈b,Yf v)->z7 a=z7 b->a=b
 |[],[],_,_,_,_=>rfl
 |x::a,y::b,hl,ha,hb,h=>by
  simp only[z7,List.flatMap_cons]at h;obtain⟨e1,e2⟩:=RO (ha x (List.mem_cons_self ..)) (hb y (List.mem_cons_self ..)) h;rw[e1,Oe (by simpa using hl) (λv hv=>ha v (List.mem_cons_of_mem _ hv)) (λv hv=>hb v (List.mem_cons_of_mem _ hv)) e2]
 |[],_::_,hl,_,_,_=>by simp at hl
 |_::_,[],hl,_,_,_=>by simp at hl
theorem DS{a b:List VV}(hl:a.length=b.length)(ha:∀v∈a,Yf v)(hb:∀v∈b,Yf v):cT a=cT b↔a=b:=by
 constructor
 .intro h;simp only[cT,ByteArray.mk.injEq]at h;exact Oe hl ha hb (by simpa using congrArg Array.toList h)
 .intro h;rw[h]
def JQ(r:List VV)(o:OV):VV:=if o.kind=3 then o.value else if o.kind=1/\0<=o.index/\o.index<r.length then r.getD o.index.toNat zeroV else zeroV
def U1(cmp c:Int):Bool:=if cmp=1 then c==0 else if cmp=2 then c !=0 else if cmp=3 then decide (c<0)else if cmp=4 then decide (c<=0)else if cmp=5 then decide (c>0)else if cmp=6 then decide (c>=0)else false
def DT(cmp:Int)(a b:VV):Bool:=lH a&&lH b&&a.kind==b.kind&&U1 cmp (j8 a b)
mutual
def kQ(r:List VV):Pred->Bool
 |.mk op cmp a b args=>if op=1 then true else if op=3 then DT cmp (JQ r a) (JQ r b)else if op=4 then B4 r args else if op=5 then B3 r args else if op=6 then Ol r args else false
def B4(r:List VV):List Pred->Bool
 |[]=>true
 |p::ps=>kQ r p&&B4 r ps
def B3(r:List VV):List Pred->Bool
 |[]=>false
 |p::ps=>kQ r p||B3 r ps
def Ol(r:List VV):List Pred->Bool
 |[]=>false
 |p::_=> !kQ r p
end
theorem Hg(r:List VV):∀ps,B4 r ps=ps.all (kQ r)
 |[]=>by simp[B4]
 |p::ps=>by simp[B4,Hg r ps]
theorem Hf(r:List VV):∀ps,B3 r ps=ps.any (kQ r)
 |[]=>by simp[B3]
 |p::ps=>by simp[B3,Hf r ps]
def DenS:Vc.Spec:=λcvs m h K=>∃o s r,cvs=[aO o,cS s,Dm]/\cC h s r/\K (aV (JQ r o)) m h
def HA(p:Int->Bool):Vc.Spec:=λcvs m h K=>∃c,cvs=[cI c]/\K (cB (p c)) m h
def YJ:Vc.Spec:=λcvs m h K=>∃op,cvs=[cI op]/\
 branch (op==1) (K (fv 217) m h) (branch (op==2) (K (fv 218) m h) (branch (op==3) (K (fv 219) m h) (branch (op==4) (K (fv 220) m h) (branch (op==5) (K (fv 221) m h) (branch (op==6) (K (fv 222) m h) (K (.val .nilFunc) m h))))))
def WI(N:Nat):Vc.Spec:=λcvs m h K=>∃v s p r,cvs=[aP v,cS s,Dm]/\fA h p v/\cC h s r/\SizeOf.sizeOf p<N/\K (cB (kQ r p)) m h
def WJ:Vc.Spec:=λcvs m h K=>∃v s p r,cvs=[aP v,cS s,Dm]/\fA h p v/\cC h s r/\K (cB (kQ r p)) m h
noncomputable def VH(N:Nat)(v:PV)(s:Sl)(m:MH)(h:PH):Ctx:=
 dL [(206,DenS),(203,LY),(207,YJ),(70,L1),(183,WI N),(217,HA (λc=>c==0)),(218,HA (λc=>c !=0)),(219,HA (λc=>decide (c<0))),(220,HA (λc=>decide (c<=0))),(221,HA (λc=>decide (c>0))),(222,HA (λc=>decide (c>=0)))]
  [(12,{A:=Nat,st:=λi=>cD 102 105 [(1,sv s),(2,vv uE),(60,sv v.args),(61,iv v.args.len),(62,iv i)] [] m h}),
   (20,{A:=Nat,st:=λi=>cD 102 105 [(1,sv s),(2,vv uE),(75,sv v.args),(76,iv v.args.len),(77,iv i)] [] m h})]
  [(6,{A:=VV×VV,st:=λ⟨a,b⟩=>cD 102 105 [(3,.at (.ptr 3 0)),(7,.at (.ptr 7 0)),(8,.at (.ptr 8 0))] [(3,.cells 32 (v.enc.map .val)),(7,.cells 27 (a.enc.map .val)),(8,.cells 27 (b.enc.map .val))] m h})] [] false
def Lf(o:OV)(s:Sl)(m:MH)(h:PH)(K:CV->MH->PH->Prop):Prop:=
  dA (o.kind==3) (K (fC o.value) m h) (o.kind==2) (aW o.index 0 (K (jK tN) m h) (gK o.index 0 (K (jK tN) m h) (bD (λb o1=>aH (bE Option.none b o1) (0<=o.index) (o.index<0) (∃(y:VV),aL m h b (fJ o1 o.index 3) y.enc/\K (fC y) m h))))) (dR o.kind 1 (aW o.index 0 (K (jK tN) m h) (gK o.index (aG s) (K (jK tN) m h) (bD (λb o1=>aH (bE s.a b o1) (0<=o.index) (o.index<aG s) (∃(y:VV),aL m h b (fJ o1 o.index 3) y.enc/\K (fC y) m h))))) (K (jK tN) m h))
def Gl(op:Int)(m:MH)(h:PH)(K:CV->MH->PH->Prop):Prop:=
  ∀(b:Nat)(m1:MH),aR (cH m h b) (bC m m1 b (aT Value.nilFunc Value.nilFunc (aT Value.nilFunc Value.nilFunc (aT Value.nilFunc Value.nilFunc H6))) 241) (fD (λc E=>aA (pH m1 b (dY c E 0)) (7<=c.size) (∀(m2:MH),bC m1 m2 b (aT Value.nilFunc (jA 217) (aT (jA 218) (jA 219) (aT (jA 220) (jA 221) (fF (jA 222) 7 c)))) E->aW op 0 (K (CV.val Value.nilFunc) m2 h) (gK op 7 (K (CV.val Value.nilFunc) m2 h) (aA (cG op) (op<7) (∃(y:Option Nat),aL m2 h b (fJ 0 op 1) (iR (Wa y))/\K (CV.val (Wa y)) m2 h))))))
def Ur(c:Int)(m:MH)(h:PH)(K:CV->MH->PH->Prop):Prop:=
  K (zR (c==0)) m h
def Uq(c:Int)(m:MH)(h:PH)(K:CV->MH->PH->Prop):Prop:=
  K (zR (c !=0)) m h
def Up(c:Int)(m:MH)(h:PH)(K:CV->MH->PH->Prop):Prop:=
  K (zR (decide (c<0))) m h
def Uo(c:Int)(m:MH)(h:PH)(K:CV->MH->PH->Prop):Prop:=
  K (zR (decide (c<=0))) m h
def Un(c:Int)(m:MH)(h:PH)(K:CV->MH->PH->Prop):Prop:=
  K (zR (decide (c>0))) m h
def Um(c:Int)(m:MH)(h:PH)(K:CV->MH->PH->Prop):Prop:=
  K (zR (decide (c>=0))) m h
abbrev kP(a:Sl->(List VV)->Prop):Prop:=∃(x:Sl)(x1:List VV),a x x1
noncomputable abbrev p7(a:OV)(b:Sl):List CV:=cE a.enc (gL b Dm)
noncomputable abbrev zD(a:VV):Option Go.Vc.Own:=xN 27 a.enc
abbrev jN(a:List VV)(b:OV)(c:VV):Prop:=oQ 27 (eW (At.val (eN (JQ a b).kind)) (At.val (eN (JQ a b).int)) (jR (At.val (Value.string (JQ a b).text))))=zD c
abbrev qZ(a:PV)(b:Sl)(c:PH)(d:VV×VV->Prop)(e:(VV×VV)->Prop)(g:OV->(List VV)->(VV×VV)->Prop)(i:MH):Prop:=∃(x:OV),kP (λx1 x2=>aA (p7 a.right b=p7 x x1) (cC c x1 x2) (∃(x3:VV×VV),aA (d x3) (eP 3) (aA (eP 7) fQ (aA (jU a) (e x3) (aA (g x x2 x3) (i=i) (bN c c))))))
abbrev AS(a:VV×VV)(b:Int->Prop):Prop:=∃(x x1:VV),bK (fC a.1) (fC a.2)=bK (fC x) (fC x1)/\∃(x2:Int),nR (j8 x x1) x2/\b x2
abbrev EN(a:PV->Sl->Pred->(List VV)->Prop):Prop:=∃(x:PV)(x1:Sl)(x2:Pred)(x3:List VV),a x x1 x2 x3
noncomputable abbrev vS(a:PV)(b:Sl):List CV:=cE a.enc (gL b Dm)
attribute [push_cast] kP p7 zD jN qZ AS EN vS
def Lo(N:Nat)(v:PV)(s:Sl)(m:MH)(h:PH)(K:CV->MH->PH->Prop):Prop:=
  dA (v.op==1) (K fK m h) (v.op==3) (∃(I:VV×VV->Prop),aH (∃(o:OV),kP (λs1 r=>aA (p7 v.left s=p7 o s1) (cC h s1 r) (aA (∃(o1:OV),kP (λs2 r1=>aH (p7 v.right s=p7 o1 s2) (cC h s2 r1) (∃(x:VV×VV),aA (I x) (eP 3) (aA (eP 7) fQ (aA (jU v) (jN r o x.1) (aA (jN r1 o1 x.2) (m=m) (bN h h))))) (∃(x:VV×VV),aA (I x) (eP 3) (aA (eP 7) fQ (aA (jU v) (jN r o x.1) (aA (jN r1 o1 x.2) (m=m) (bN h h))))))) (qZ v s h I (λx=>jN r o x.1) (λo1 r1 x=>jN r1 o1 x.2) m/\qZ v s h I (λx=>jN r o x.1) (λo1 r1 x=>jN r1 o1 x.2) m) (qZ v s h I (λx=>jN r o x.1) (λo1 r1 x=>jN r1 o1 x.2) m/\qZ v s h I (λx=>jN r o x.1) (λo1 r1 x=>jN r1 o1 x.2) m)))) ((∃(o:OV),kP (λs1 r=>
 aH (p7 v.left s=p7 o s1) (cC h s1 r) (qZ v s h I (λx=>jN r o x.1) (λo1 r1 x=>jN r1 o1 x.2) m) (qZ v s h I (λx=>jN r o x.1) (λo1 r1 x=>jN r1 o1 x.2) m)))/\∃(o:OV),kP (λs1 r=>aA (p7 v.left s=p7 o s1) (cC h s1 r) (qZ v s h I (λx=>jN r o x.1) (λo1 r1 x=>jN r1 o1 x.2) m))) (∃(o:OV),kP (λs1 r=>aH (p7 v.left s=p7 o s1) (cC h s1 r) (qZ v s h I (λx=>jN r o x.1) (λo1 r1 x=>jN r1 o1 x.2) m) (qZ v s h I (λx=>jN r o x.1) (λo1 r1 x=>jN r1 o1 x.2) m))) (∃(o:OV),kP (λs1 r=>aA (p7 v.left s=p7 o s1) (cC h s1 r) (qZ v s h I (λx=>jN r o x.1) (λo1 r1 x=>jN r1 o1 x.2) m)))/\∀(x:VV×VV),I x->∃(v1:VV),hZ (fT (fC x.1) (fC v1)) (!(lH v1)) (K aU m
 h) (∃(v2:VV),fT (fC x.2) (fC v2)/\dA (!(lH v2)) (K aU m h) (x.1.kind !=x.2.kind) (K aU m h) (tE v.cmp (λo=>dA (o==1) (AS x (λc=>K (zR (c==0)) m h)) (o==2) (AS x (λc=>K (zR (c !=0)) m h)) (dA (o==3) (AS x (λc=>K (zR (decide (c<0))) m h)) (o==4) (AS x (λc=>K (zR (decide (c<=0))) m h)) (dA (o==5) (AS x (λc=>K (zR (decide (c>0))) m h)) (o==6) (AS x (λc=>K (zR (decide (c>=0))) m h)) (K aU m h))))))) (dA (v.op==4) (lV (λI x=>aA (I x) (aJ s) (aA (eQ Zc) (aJ v.args) (aA (bJ v.args) (aZ x) (aA (m=m) (h=h) True)))) (λI m1 x=>I x->aW (↑x:Int) (aG v.args) (bD (λb o=>aH (bE v.args.a b o) (0<=(↑x:Int)) ((↑x:Int)<aG v.args) (∃(y:PV),aL m h b (bF o x 13) y.enc/\EN (fun
 v1 s1 p r=>aA (vS y s=vS v1 s1) (fA h p v1) (aA (cC h s1 r) (nO p N) (gV (!(kQ r p)) (K aU m h) (λx1=>aA (I x1) (m1 x1<m1 x) (aA (aJ s) (eQ Zc) (aA (aJ v.args) (bJ v.args) (aA (fV (bB x 1)=bM x1) (m=m) (bN h h))))))))))) (K fK m h))) (v.op==5) (lV (λI x=>aA (I x) (aJ s) (aA (eQ Zc) (aJ v.args) (aA (bJ v.args) (aZ x) (aA (m=m) (h=h) True)))) (λI m1 x=>I x->aW (↑x:Int) (aG v.args) (bD (λb o=>aH (bE v.args.a b o) (0<=(↑x:Int)) ((↑x:Int)<aG v.args) (∃(y:PV),aL m h b (bF o x 13) y.enc/\EN (λv1 s1 p r=>aA (vS y s=vS v1 s1) (fA h p v1) (aA (cC h s1 r) (nO p N) (gV (kQ r p) (K fK m h) (λx1=>aA (I x1) (m1 x1<m1 x) (aA (aJ s) (eQ Zc) (aA (aJ v.args) (bJ v.args)
 (aA (fV (bB x 1)=bM x1) (m=m) (bN h h))))))))))) (K aU m h))) (dR v.op 6 (eX (aG v.args) 0 (bD (λb o=>aH (bE v.args.a b o) ((0:Int)<=0) (0<aG v.args) (∃(y:PV),aL m h b (dP o) y.enc/\EN (λv1 s1 p r=>aA (vS y s=vS v1 s1) (fA h p v1) (aA (cC h s1 r) (nO p N) (K (CV.val (Value.bool (!(kQ r p)))) m h)))))) (K aU m h)) (K aU m h)))
theorem QL:Sound Tryz.prog 206 DenS:=by
 refine iB Tryz.func206 ?_;rintro cvs m h K ⟨o,s,r,rfl,hs,hK⟩;refine⟨dL [] [] [] [] false,rfl,aF,Lf o s m h K,by kernel_rfl,?_⟩;dsimp only[Lf,push_cast];have hsl:=bH.slen hs;unfold JQ at hK;refine aB (λh1=>?_) (λh1=>aB (λh2=>?_) (λh2=>aB (λh3=>?_) (λh3=>?_)))
 .rw[if_pos (by simpa using h1)]at hK;exact hK
 .have h2:o.kind=2:=by simpa using h2
  rw[if_neg aC,if_neg aC]at hK;exact aE (λ_=>hK) (λn1=>aE (λ_=>hK) (λn2=>absurd (show o.index>=((0:Nat):Int)by omega) n2))
 .have h1:o.kind≠3:=by simpa using h1
  have h3:o.kind=1:=by simpa using h3
  rw[if_neg h1]at hK;refine aE (λn1=>?_) (λn1=>aE (λn2=>?_) (λn2=>?_))
  .rw[if_neg aC]at hK;exact hK
  .rw[if_neg aC]at hK;exact hK
  .rw[if_pos ⟨h3,aC,aC⟩]at hK
   have hx:r[o.index.toNat]? =some (r.getD o.index.toNat zeroV):=by
    rw[List.getD_eq_getElem?_getD,List.getElem?_eq_getElem aC];simp
   obtain⟨b,off,v,e,rd,rfl⟩:=bH.at hs hx;exact⟨b,off,e,aC,aC,_,.imm rd,hK⟩
 .have h1:o.kind≠3:=by simpa using h1
  have h3:o.kind≠1:=by simpa using h3
  rw[if_neg h1,if_neg (λe=>h3 e.1)]at hK;exact hK
theorem QK:Sound Tryz.prog 207 YJ:=by
 refine Fa Tryz.func207 ?_;rintro cvs m h K ⟨op,rfl,hK⟩;refine⟨uM [] [] [] [] [241] [] false,rfl,aF,Gl op m h (kG h K),by kernel_rfl,?_⟩;show Gl op m h (kG h K);dsimp only[Gl,push_cast];intro b m1 hb hm1;refine⟨_,_,⟨hm1.at_⟩,by decide,λm2 hm2=>?_⟩;have hsub:Sub m m2:=((Sub.refl m).upd hb.m_ hm1.other).upd hb.m_ hm2.other;have e:=hm2.at_
 have none_:∀k,¬(1<=op/\op<=6)->op=k->K (.val .nilFunc) m h:=λk hn _=>by
  have:(op==1)=false/\(op==2)=false/\(op==3)=false/\(op==4)=false/\(op==5)=false/\(op==6)=false:=by
   simp only[beq_eq_false_iff_ne];omega
  obtain⟨e1,e2,e3,e4,e5,e6⟩:=this;rw[e1,e2,e3,e4,e5,e6]at hK;exact hK
 refine aE (λh1=>.sub hsub (none_ _ aC rfl)) (λh1=>aE (λh2=>.sub hsub (none_ _ aC rfl)) (λh2=>⟨aC,aC,?_⟩));have:op=0\/op=1\/op=2\/op=3\/op=4\/op=5\/op=6:=by omega
 rcases this with rfl|rfl|rfl|rfl|rfl|rfl|rfl
 .exact⟨none,.lent _ _ _ e rfl,.sub hsub (none_ 0 aC rfl)⟩
 .exact⟨some 217,.lent _ _ _ e rfl,.sub hsub hK⟩
 .exact⟨some 218,.lent _ _ _ e rfl,.sub hsub hK⟩
 .exact⟨some 219,.lent _ _ _ e rfl,.sub hsub hK⟩
 .exact⟨some 220,.lent _ _ _ e rfl,.sub hsub hK⟩
 .exact⟨some 221,.lent _ _ _ e rfl,.sub hsub hK⟩
 .exact⟨some 222,.lent _ _ _ e rfl,.sub hsub hK⟩
theorem QC:Sound Tryz.prog 217 (HA (λc=>c==0)):=by
 refine iB Tryz.func217 ?_;rintro cvs m h K ⟨c,rfl,hK⟩;refine⟨dL [] [] [] [] false,rfl,aF,Ur c m h K,by kernel_rfl,?_⟩;exact hK
theorem QB:Sound Tryz.prog 218 (HA (λc=>c !=0)):=by
 refine iB Tryz.func218 ?_;rintro cvs m h K ⟨c,rfl,hK⟩;refine⟨dL [] [] [] [] false,rfl,aF,Uq c m h K,by kernel_rfl,?_⟩;exact hK
theorem Qz:Sound Tryz.prog 219 (HA (λc=>decide (c<0))):=by
 refine iB Tryz.func219 ?_;rintro cvs m h K ⟨c,rfl,hK⟩;refine⟨dL [] [] [] [] false,rfl,aF,Up c m h K,by kernel_rfl,?_⟩;exact hK
theorem Qy:Sound Tryz.prog 220 (HA (λc=>decide (c<=0))):=by
 refine iB Tryz.func220 ?_;rintro cvs m h K ⟨c,rfl,hK⟩;refine⟨dL [] [] [] [] false,rfl,aF,Uo c m h K,by kernel_rfl,?_⟩;exact hK
theorem Qx:Sound Tryz.prog 221 (HA (λc=>decide (c>0))):=by
 refine iB Tryz.func221 ?_;rintro cvs m h K ⟨c,rfl,hK⟩;refine⟨dL [] [] [] [] false,rfl,aF,Un c m h K,by kernel_rfl,?_⟩;exact hK
theorem Qw:Sound Tryz.prog 222 (HA (λc=>decide (c>=0))):=by
 refine iB Tryz.func222 ?_;rintro cvs m h K ⟨c,rfl,hK⟩;refine⟨dL [] [] [] [] false,rfl,aF,Um c m h K,by kernel_rfl,?_⟩;exact hK
theorem Pk:∀N,Sound Tryz.prog 183 (WI N)
 |0=>by
  refine eJ (fn:=Tryz.f183) (c:=dO Tryz.f183) Tryz.func183 rfl (by decide) ?_;rintro cvs m h K ⟨v,s,p,r,rfl,_,_,hN,_⟩;omega
 |N+1=>by
  refine iB Tryz.func183 ?_;rintro cvs m h K ⟨v,s,p,r,rfl,hp,hs,hN,hK⟩;refine⟨VH N v s m h,rfl,aD QL (aD DU (aD QK (aD Gd (aD (Pk N) (aD QC (aD QB (aD Qz (aD Qy (aD Qx (aD Qw aF)))))))))),Lo N v s m h K,by kernel_rfl,?_⟩;dsimp only[Lo,push_cast];have hlt:=@yU p;obtain⟨op,cmp,l,q,ps⟩:=p;obtain⟨rfl,rfl,rfl,rfl,ha⟩:=hp.parts;have hl:=ha.slen;have hlen:=ha.len;simp only[Pred.args]at hlt;simp only[kQ]at hK;refine aB (λh1=>?_) (λh1=>aB (λh3=>?_) (λh3=>aB (λh4=>?_) (λh4=>aB (λh5=>?_) (λh5=>aB (λh6=>?_) (λh6=>?_)))))
  .rw[if_pos (by simpa using h1)]at hK;exact hK
  all_goals have n1:v.op≠1:=by simpa using h1
  .rw[if_neg n1,if_pos (by simpa using h3)]at hK;refine⟨λx=>x=(JQ r v.left,JQ r v.right),?_,?_⟩
   .repeat' (first|exact⟨_,rfl,MT⟩|refine⟨v.left,s,r,rfl,hs,?_⟩|refine⟨v.right,s,r,rfl,hs,?_⟩|refine And.intro ?_ ?_)
   .rintro⟨a,b⟩ hab;simp only[Prod.mk.injEq]at hab;obtain⟨rfl,rfl⟩:=hab;generalize JQ r v.left=a at hK⊢
    generalize JQ r v.right=b at hK⊢
    have hf:DT v.cmp a b=false->K (cB false) m h:=λe=>by rw[e]at hK;exact hK
    refine⟨a,rfl,aB (λe1=>hf ?_) (λe1=>⟨b,rfl,aB (λe2=>hf ?_) (λe2=>aB (λe3=>hf ?_) (λe3=>⟨v.cmp,rfl,?_⟩))⟩)⟩
    .have e1:lH a=false:=by simpa using e1
     simp[DT,e1]
    .have e2:lH b=false:=by simpa using e2
     simp[DT,e2]
    .have e3:a.kind≠b.kind:=by simpa using e3
     simp[DT,e3]
    .have e1:lH a=true:=by simpa using e1
     have e2:lH b=true:=by simpa using e2
     have e3:a.kind=b.kind:=by simpa using e3
     have e4:DT v.cmp a b=U1 v.cmp (j8 a b):=by simp[DT,e1,e2,e3]
     rw[e4]at hK;unfold U1 at hK;refine aB (λc1=>?_) (λc1=>aB (λc2=>?_) (λc2=>aB (λc3=>?_) (λc3=>aB (λc4=>?_) (λc4=>aB (λc5=>?_) (λc5=>aB (λc6=>?_) (λc6=>?_))))))
     all_goals simp only[beq_iff_eq,beq_eq_false_iff_ne]at*
     .rw[if_pos c1]at hK;exact⟨a,b,rfl,_,rfl,hK⟩
     .rw[if_neg c1,if_pos c2]at hK;exact⟨a,b,rfl,_,rfl,hK⟩
     .rw[if_neg c1,if_neg c2,if_pos c3]at hK;exact⟨a,b,rfl,_,rfl,hK⟩
     .rw[if_neg c1,if_neg c2,if_neg c3,if_pos c4]at hK;exact⟨a,b,rfl,_,rfl,hK⟩
     .rw[if_neg c1,if_neg c2,if_neg c3,if_neg c4,if_pos c5]at hK;exact⟨a,b,rfl,_,rfl,hK⟩
     .rw[if_neg c1,if_neg c2,if_neg c3,if_neg c4,if_neg c5,if_pos c6]at hK;exact⟨a,b,rfl,_,rfl,hK⟩
     .rw[if_neg c1,if_neg c2,if_neg c3,if_neg c4,if_neg c5,if_neg c6]at hK;exact hK
  all_goals have n3:v.op≠3:=by simpa using h3
  all_goals rw[if_neg n1,if_neg n3]at hK
  .rw[if_pos (by simpa using h4),Hg]at hK;refine⟨λi=>i<=ps.length/\∀j:Nat,j<i->∀x,ps[j]? =some x->kQ r x=true,λi=>ps.length-i,⟨0,⟨aC,λj hj=>by omega⟩,MT⟩,λi⟨hi,hall⟩=>aE (λhlt2=>?_) (λhge=>?_)⟩
   .obtain⟨x,hx⟩:=eY hl hlt2;obtain⟨b1,o1,u,e1,r1,ru⟩:=ha.at hx;have:=hlt (List.mem_of_getElem? hx);refine⟨b1,o1,e1,aC,hlt2,u,.imm r1,u,s,x,r,rfl,ru,hs,aC,aB (λhne=>?_) (λhe=>⟨i+1,⟨aC,λj hj y hy=>?_⟩,(show ps.length-(i+1)<ps.length-i by omega),MT⟩)⟩
    .have:ps.all (kQ r)=false:=by
      cases e3:ps.all (kQ r)with
      |false=>rfl
      |true=>rw[List.all_eq_true]at e3;rw[e3 x (List.mem_of_getElem? hx)]at hne;cases hne
     rw[this]at hK;exact hK
    .by_cases e4:j=i
     .subst e4;rw[hx]at hy;cases hy;simpa using he
     .exact hall j aC y hy
   .have:ps.all (kQ r)=true:=by
     rw[List.all_eq_true];intro y hy;obtain⟨j,hj⟩:=List.getElem?_of_mem hy;exact hall j (by have:=(List.getElem?_eq_some_iff.1 hj).1;omega) y hj
    rw[this]at hK;exact hK
  all_goals have n4:v.op≠4:=by simpa using h4
  all_goals rw[if_neg n4]at hK
  .rw[if_pos (by simpa using h5),Hf]at hK;refine⟨λi=>i<=ps.length/\∀j:Nat,j<i->∀x,ps[j]? =some x->kQ r x=false,λi=>ps.length-i,⟨0,⟨aC,λj hj=>by omega⟩,MT⟩,λi⟨hi,hall⟩=>aE (λhlt2=>?_) (λhge=>?_)⟩
   .obtain⟨x,hx⟩:=eY hl hlt2;obtain⟨b1,o1,u,e1,r1,ru⟩:=ha.at hx;have:=hlt (List.mem_of_getElem? hx);refine⟨b1,o1,e1,aC,hlt2,u,.imm r1,u,s,x,r,rfl,ru,hs,aC,aB (λhe=>?_) (λhne=>⟨i+1,⟨aC,λj hj y hy=>?_⟩,(show ps.length-(i+1)<ps.length-i by omega),MT⟩)⟩
    .have:ps.any (kQ r)=true:=List.any_eq_true.2 ⟨x,List.mem_of_getElem? hx,he⟩;rw[this]at hK;exact hK
    .by_cases e4:j=i
     .subst e4;rw[hx]at hy;cases hy;exact hne
     .exact hall j aC y hy
   .have:ps.any (kQ r)=false:=by
     rw[List.any_eq_false];intro y hy;obtain⟨j,hj⟩:=List.getElem?_of_mem hy;rw[hall j (by have:=(List.getElem?_eq_some_iff.1 hj).1;omega) y hj];simp
    rw[this]at hK;exact hK
  all_goals have n5:v.op≠5:=by simpa using h5
  all_goals rw[if_neg n5]at hK
  .rw[if_pos (by simpa using h6)]at hK;refine aE (λh7=>?_) (λh7=>?_)
   .obtain⟨x,hx⟩:=eY (i:=0) hl aC;obtain⟨b1,o1,u,e1,r1,ru⟩:=ha.at hx;have:=hlt (List.mem_of_getElem? hx)
    have e7:Ol r ps= !kQ r x:=by
     cases ps with
     |nil=>simp at hx
     |cons y _=>simp at hx;subst hx;rfl
    rw[e7]at hK;exact⟨b1,o1,e1,aC,aC,u,.imm (by simpa using r1),u,s,x,r,rfl,ru,hs,aC,hK⟩
   .have:ps=[]:=List.length_eq_zero_iff.1 aC;subst this;exact hK
  .rw[if_neg (by simpa using h6)]at hK;exact hK
theorem QU:Sound Tryz.prog 183 WJ:=nZ Pk λ_ _ _ _⟨v,s,p,r,e,h1,h2,h3⟩=>⟨SizeOf.sizeOf p+1,v,s,p,r,e,h1,h2,aC,h3⟩
end Go.Ps
