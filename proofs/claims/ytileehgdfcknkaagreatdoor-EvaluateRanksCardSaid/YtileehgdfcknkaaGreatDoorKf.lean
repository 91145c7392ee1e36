/-
  Part 6 of a proof that a law of the given program returns true: a condition generator that is proved sound, and contracts of functions. No condition of its own. Own work, joined by a program (pack2.py); the shelf's contracts among it as the kit's tool wrote them.
-/
import Derived.Shelf.SlSorted.Search
import Derived.Shelf.SlSortCmp.NoneTotal
import Derived.Shelf.Small.Strs
import Derived.Shelf.Strconv.Itoa0
import Derived.Shelf.Strconv.Itoa1
import Derived.Shelf.LaysM
import Derived.Shelf.Strconv.Itoa2
import Derived.Shelf.Strconv.AppendUint10
import Derived.Shelf.Strconv.AppendInt10
import Derived.Shelf.Strconv.AppendIntPublic10
import Derived.Test.YtileehgdfcknkaaGreatDoorProg
import Derived.Lib.ItoaLen
import Derived.RangeFuncWrites
import Derived.OrdersIn
import Derived.Test.YtileehgdfcknkaaGreatDoorKe
set_option linter.unusedVariables false
set_option linter.unusedSimpArgs false
namespace Go.Proofs
open Go.Shelf
def Tryz.lays213_ren:Go.Shelf.Ren:=⟨λ |213=>132|265=>165|n=>n,λ |9=>9|3=>3|n=>n,λ |n=>n⟩
def Tryz.lays106_ren:Go.Shelf.Ren:=⟨λ |106=>102|213=>132|265=>165|n=>n,λ |9=>9|3=>3|n=>n,λ |n=>n⟩
theorem Tryz.lays106:Go.Proofs.Lays.n106 Tryz.prog Tryz.lays106_ren:={
 mixed:=by kernel_rfl
 f106:=Tryz.func102.trans (congrArg some (by kernel_rfl))
 f213:=Tryz.func132.trans (congrArg some (by kernel_rfl))
 f265:=Tryz.func165.trans (congrArg some (by kernel_rfl))
 t3:=Tryz.underlying3
 a3:=Tryz.isAgg3
 z3:=Tryz.sizeOf3
 v3:=Tryz.zeroValue3
 t9:=Tryz.underlying9
 a9:=Tryz.isAgg9
 z9:=Tryz.sizeOf9
 v9:=Tryz.zeroValue9}
open Go.RowKit in
theorem Tryz.strings_Compare(a b:ByteArray)(w:World):
 Calls Tryz.prog 102 #[.string a,.string b] w λe w'=>e= .returned (.int .i64 (Lib.compareBytes a.data.toList b.data.toList))/\w'=w:=Any.strings_Compare Tryz.lays106 a b w
def Tryz.lays283_ren:Go.Shelf.Ren:=⟨λ |283=>227|n=>n,λ |3=>3|9=>9|4=>4|n=>n,λ |n=>n⟩
theorem Tryz.lays283:Go.Proofs.Lays.n283 Tryz.prog Tryz.lays283_ren:={
 mixed:=by kernel_rfl
 f283:=Tryz.func227.trans (congrArg some (by kernel_rfl))
 t3:=Tryz.underlying3
 a3:=Tryz.isAgg3
 z3:=Tryz.sizeOf3
 v3:=Tryz.zeroValue3
 t4:=Tryz.underlying4
 a4:=Tryz.isAgg4
 z4:=Tryz.sizeOf4
 v4:=Tryz.zeroValue4
 t9:=Tryz.underlying9
 a9:=Tryz.isAgg9
 z9:=Tryz.sizeOf9
 v9:=Tryz.zeroValue9}
open Go.Lib in
theorem Tryz.internal_strconv_small(i:Nat)(h:i<100)(w:World):
 Calls Tryz.prog 227 #[.int .i64 i] w λe w'=>e= .returned (.string ⟨(Lib.decDigits i).toArray⟩)/\w'=w:=Any.internal_strconv_small Tryz.lays283 i h w
def Tryz.laysM284_ren:Go.Shelf.Ren:=⟨λ |284=>228|129=>175|317=>231|318=>232|n=>n,λ |53=>201|3=>3|212=>251|0=>0|4=>4|46=>176|5=>5|9=>9|n=>n,λ |17=>1|n=>n⟩
theorem Tryz.laysM284:Go.Proofs.LaysM.n284 Tryz.prog Tryz.laysM284_ren:={
 mixed:=by kernel_rfl
 f129:=Tryz.func175.trans (congrArg some (by kernel_rfl))
 f284:=Tryz.func228.trans (congrArg some (by kernel_rfl))
 f317:=Tryz.func231.trans (congrArg some (by kernel_rfl))
 f318:=Tryz.func232.trans (congrArg some (by kernel_rfl))
 t0:=Tryz.underlying0
 a0:=Tryz.isAgg0
 z0:=Tryz.sizeOf0
 v0:=Tryz.zeroValue0
 t3:=Tryz.underlying3
 a3:=Tryz.isAgg3
 z3:=Tryz.sizeOf3
 v3:=Tryz.zeroValue3
 t4:=Tryz.underlying4
 a4:=Tryz.isAgg4
 z4:=Tryz.sizeOf4
 v4:=Tryz.zeroValue4
 t5:=Tryz.underlying5
 a5:=Tryz.isAgg5
 z5:=Tryz.sizeOf5
 v5:=Tryz.zeroValue5
 t9:=Tryz.underlying9
 a9:=Tryz.isAgg9
 z9:=Tryz.sizeOf9
 v9:=Tryz.zeroValue9
 t46:=Tryz.underlying176
 a46:=Tryz.isAgg176
 z46:=Tryz.sizeOf176
 v46:=Tryz.zeroValue176
 t53:=Tryz.underlying201
 a53:=Tryz.isAgg201
 z53:=Tryz.sizeOf201
 v53:=Tryz.zeroValue201
 t212:=Tryz.underlying251
 a212:=Tryz.isAgg251
 z212:=Tryz.sizeOf251
 v212:=Tryz.zeroValue251
 g17:=by kernel_rfl
 i0:=by kernel_rfl
 i3:=by kernel_rfl
 i4:=by kernel_rfl
 i5:=by kernel_rfl
 i9:=by kernel_rfl
 i46:=by kernel_rfl
 i53:=by kernel_rfl
 i212:=by kernel_rfl
 m17:=by kernel_rfl}
open Go.Lib in
theorem Tryz.internal_strconv_numDigits(u:Nat)(h1:1<=u)(h2:u<18446744073709551616)(w:World)(htab:Lib.TabIs Tryz.prog w "internal/strconv.uint64pow10" .u64 Lib.pow10Tab):
 Calls Tryz.prog 228 #[.int .u64 u] w λe w'=>e= .returned (.int .i64 (Lib.nDigits u))/\w'=w:=Any.internal_strconv_numDigits Tryz.laysM284 u h1 h2 w htab
def Tryz.lays285_ren:Go.Shelf.Ren:=⟨λ |285=>229|n=>n,λ |37=>22|53=>201|3=>3|4=>4|51=>199|9=>9|5=>5|0=>0|n=>n,λ |n=>n⟩
theorem Tryz.lays285:Go.Proofs.Lays.n285 Tryz.prog Tryz.lays285_ren:={
 mixed:=by kernel_rfl
 f285:=Tryz.func229.trans (congrArg some (by kernel_rfl))
 t0:=Tryz.underlying0
 a0:=Tryz.isAgg0
 z0:=Tryz.sizeOf0
 v0:=Tryz.zeroValue0
 t3:=Tryz.underlying3
 a3:=Tryz.isAgg3
 z3:=Tryz.sizeOf3
 v3:=Tryz.zeroValue3
 t4:=Tryz.underlying4
 a4:=Tryz.isAgg4
 z4:=Tryz.sizeOf4
 v4:=Tryz.zeroValue4
 t5:=Tryz.underlying5
 a5:=Tryz.isAgg5
 z5:=Tryz.sizeOf5
 v5:=Tryz.zeroValue5
 t9:=Tryz.underlying9
 a9:=Tryz.isAgg9
 z9:=Tryz.sizeOf9
 v9:=Tryz.zeroValue9
 t37:=Tryz.underlying22
 a37:=Tryz.isAgg22
 z37:=Tryz.sizeOf22
 v37:=Tryz.zeroValue22
 t51:=Tryz.underlying199
 a51:=Tryz.isAgg199
 z51:=Tryz.sizeOf199
 v51:=Tryz.zeroValue199
 t53:=Tryz.underlying201
 a53:=Tryz.isAgg201
 z53:=Tryz.sizeOf201
 v53:=Tryz.zeroValue201}
open Go.RowKit Go.Sort Go.Lib in
theorem Tryz.internal_strconv_formatBase10(blk off cap:Nat)(u:Nat)(d:Array UInt8)(w:World)(hH:Holds (fun(b:UInt8)=>Value.int .u8 (b.toNat:Int)) w blk off d)(hu:u<10^d.size)(hu64:u<18446744073709551616)(hsz:d.size<4611686018427387904):
 Calls Tryz.prog 229 #[.slice (some ⟨blk,off,none⟩) d.size cap,.int .u64 u] w λe w'=>
  e= .returned (.tuple #[])/\∃(n v':Nat)(dk:Array UInt8),w'=(putRow (fun(b:UInt8)=>Value.int .u8 (b.toNat:Int)) w blk off dk).drewN n/\FmtInv d.size u 0 v' dk:=Any.internal_strconv_formatBase10 Tryz.lays285 blk off cap u d w hH hu hu64 hsz
def Tryz.sortF_ren:Go.Shelf.Ren:=⟨λ |6=>107|15=>134|14=>133|28=>174|29=>175|20=>166|21=>167|22=>168|23=>169|24=>170|25=>171|26=>172|27=>173|46=>198|47=>199|48=>200|49=>201|50=>202|57=>212|n=>n,λ |22=>53|24=>74|25=>107|3=>3|39=>176|0=>0|53=>199|55=>201|4=>4|46=>192|45=>191|50=>196|5=>5|9=>9|66=>220|70=>179|76=>235|77=>236|n=>n,λ |n=>n⟩
theorem Tryz.sortF:Go.Proofs.SlLaysF.n6 Tryz.prog Tryz.sortF_ren:={
 mixed:=by kernel_rfl
 f6:=⟨Tryz.f107.name,by decide,Tryz.func107.trans (congrArg some (by kernel_rfl))⟩
 f14:=⟨Tryz.f133.name,by decide,Tryz.func133.trans (congrArg some (by kernel_rfl))⟩
 f15:=Tryz.func134.trans (congrArg some (by kernel_rfl))
 f20:=⟨Tryz.f166.name,by decide,Tryz.func166.trans (congrArg some (by kernel_rfl))⟩
 f21:=⟨Tryz.f167.name,by decide,Tryz.func167.trans (congrArg some (by kernel_rfl))⟩
 f22:=⟨Tryz.f168.name,by decide,Tryz.func168.trans (congrArg some (by kernel_rfl))⟩
 f23:=⟨Tryz.f169.name,by decide,Tryz.func169.trans (congrArg some (by kernel_rfl))⟩
 f24:=⟨Tryz.f170.name,by decide,Tryz.func170.trans (congrArg some (by kernel_rfl))⟩
 f25:=⟨Tryz.f171.name,by decide,Tryz.func171.trans (congrArg some (by kernel_rfl))⟩
 f26:=⟨Tryz.f172.name,by decide,Tryz.func172.trans (congrArg some (by kernel_rfl))⟩
 f27:=⟨Tryz.f173.name,by decide,Tryz.func173.trans (congrArg some (by kernel_rfl))⟩
 f28:=Tryz.func174.trans (congrArg some (by kernel_rfl))
 f29:=Tryz.func175.trans (congrArg some (by kernel_rfl))
 f46:=⟨Tryz.f198.name,by decide,Tryz.func198.trans (congrArg some (by kernel_rfl))⟩
 f47:=Tryz.func199.trans (congrArg some (by kernel_rfl))
 f48:=Tryz.func200.trans (congrArg some (by kernel_rfl))
 f49:=⟨Tryz.f201.name,by decide,Tryz.func201.trans (congrArg some (by kernel_rfl))⟩
 f50:=⟨Tryz.f202.name,by decide,Tryz.func202.trans (congrArg some (by kernel_rfl))⟩
 f57:=⟨Tryz.f212.name,by decide,Tryz.func212.trans (congrArg some (by kernel_rfl))⟩
 t0:=Tryz.underlying0
 a0:=Tryz.isAgg0
 z0:=Tryz.sizeOf0
 v0:=Tryz.zeroValue0
 t3:=Tryz.underlying3
 a3:=Tryz.isAgg3
 z3:=Tryz.sizeOf3
 v3:=Tryz.zeroValue3
 t4:=Tryz.underlying4
 a4:=Tryz.isAgg4
 z4:=Tryz.sizeOf4
 v4:=Tryz.zeroValue4
 t5:=Tryz.underlying5
 a5:=Tryz.isAgg5
 z5:=Tryz.sizeOf5
 v5:=Tryz.zeroValue5
 t9:=Tryz.underlying9
 a9:=Tryz.isAgg9
 z9:=Tryz.sizeOf9
 v9:=Tryz.zeroValue9
 t22:=Tryz.underlying53
 a22:=Tryz.isAgg53
 z22:=Tryz.sizeOf53
 v22:=Tryz.zeroValue53
 a24:=Tryz.isAgg74
 z24:=Tryz.sizeOf74
 t25:=Tryz.underlying107
 a25:=Tryz.isAgg107
 z25:=Tryz.sizeOf107
 v25:=Tryz.zeroValue107
 t39:=Tryz.underlying176
 a39:=Tryz.isAgg176
 z39:=Tryz.sizeOf176
 v39:=Tryz.zeroValue176
 t45:=Tryz.underlying191
 a45:=Tryz.isAgg191
 z45:=Tryz.sizeOf191
 v45:=Tryz.zeroValue191
 t46:=Tryz.underlying192
 a46:=Tryz.isAgg192
 z46:=Tryz.sizeOf192
 v46:=Tryz.zeroValue192
 t50:=Tryz.underlying196
 a50:=Tryz.isAgg196
 z50:=Tryz.sizeOf196
 v50:=Tryz.zeroValue196
 t53:=Tryz.underlying199
 a53:=Tryz.isAgg199
 z53:=Tryz.sizeOf199
 v53:=Tryz.zeroValue199
 t55:=Tryz.underlying201
 a55:=Tryz.isAgg201
 z55:=Tryz.sizeOf201
 v55:=Tryz.zeroValue201
 t66:=Tryz.underlying220
 a66:=Tryz.isAgg220
 z66:=Tryz.sizeOf220
 v66:=Tryz.zeroValue220
 t70:=Tryz.underlying179
 a70:=Tryz.isAgg179
 z70:=Tryz.sizeOf179
 v70:=Tryz.zeroValue179
 t76:=Tryz.underlying235
 a76:=Tryz.isAgg235
 z76:=Tryz.sizeOf235
 v76:=Tryz.zeroValue235
 t77:=Tryz.underlying236
 a77:=Tryz.isAgg236
 z77:=Tryz.sizeOf236
 v77:=Tryz.zeroValue236}
def Tryz.sortN_ren:Go.Shelf.Ren:=⟨λ |6=>107|15=>134|14=>133|28=>174|29=>175|20=>166|21=>167|22=>168|23=>169|24=>170|25=>171|26=>172|27=>173|46=>198|47=>199|48=>200|49=>201|50=>202|57=>212|n=>n,λ |22=>53|24=>74|25=>107|3=>3|39=>176|0=>0|53=>199|55=>201|4=>4|46=>192|45=>191|50=>196|5=>5|9=>9|66=>220|70=>179|76=>235|77=>236|n=>n,λ |n=>n⟩
theorem Tryz.sortN:Go.Proofs.SlLaysF0.n6 Tryz.prog Tryz.sortN_ren:={
 mixed:=by kernel_rfl
 f6:=⟨Tryz.f107.name,by decide,Tryz.func107.trans (congrArg some (by kernel_rfl))⟩
 f14:=⟨Tryz.f133.name,by decide,Tryz.func133.trans (congrArg some (by kernel_rfl))⟩
 f15:=Tryz.func134.trans (congrArg some (by kernel_rfl))
 f20:=⟨Tryz.f166.name,by decide,Tryz.func166.trans (congrArg some (by kernel_rfl))⟩
 f21:=⟨Tryz.f167.name,by decide,Tryz.func167.trans (congrArg some (by kernel_rfl))⟩
 f22:=⟨Tryz.f168.name,by decide,Tryz.func168.trans (congrArg some (by kernel_rfl))⟩
 f23:=⟨Tryz.f169.name,by decide,Tryz.func169.trans (congrArg some (by kernel_rfl))⟩
 f24:=⟨Tryz.f170.name,by decide,Tryz.func170.trans (congrArg some (by kernel_rfl))⟩
 f25:=⟨Tryz.f171.name,by decide,Tryz.func171.trans (congrArg some (by kernel_rfl))⟩
 f26:=⟨Tryz.f172.name,by decide,Tryz.func172.trans (congrArg some (by kernel_rfl))⟩
 f27:=⟨Tryz.f173.name,by decide,Tryz.func173.trans (congrArg some (by kernel_rfl))⟩
 f28:=Tryz.func174.trans (congrArg some (by kernel_rfl))
 f29:=Tryz.func175.trans (congrArg some (by kernel_rfl))
 f46:=⟨Tryz.f198.name,by decide,Tryz.func198.trans (congrArg some (by kernel_rfl))⟩
 f47:=Tryz.func199.trans (congrArg some (by kernel_rfl))
 f48:=Tryz.func200.trans (congrArg some (by kernel_rfl))
 f49:=⟨Tryz.f201.name,by decide,Tryz.func201.trans (congrArg some (by kernel_rfl))⟩
 f50:=⟨Tryz.f202.name,by decide,Tryz.func202.trans (congrArg some (by kernel_rfl))⟩
 f57:=⟨Tryz.f212.name,by decide,Tryz.func212.trans (congrArg some (by kernel_rfl))⟩
 t0:=Tryz.underlying0
 a0:=Tryz.isAgg0
 z0:=Tryz.sizeOf0
 v0:=Tryz.zeroValue0
 t3:=Tryz.underlying3
 a3:=Tryz.isAgg3
 z3:=Tryz.sizeOf3
 v3:=Tryz.zeroValue3
 t4:=Tryz.underlying4
 a4:=Tryz.isAgg4
 z4:=Tryz.sizeOf4
 v4:=Tryz.zeroValue4
 t5:=Tryz.underlying5
 a5:=Tryz.isAgg5
 z5:=Tryz.sizeOf5
 v5:=Tryz.zeroValue5
 t9:=Tryz.underlying9
 a9:=Tryz.isAgg9
 z9:=Tryz.sizeOf9
 v9:=Tryz.zeroValue9
 t22:=Tryz.underlying53
 a22:=Tryz.isAgg53
 z22:=Tryz.sizeOf53
 v22:=Tryz.zeroValue53
 t25:=Tryz.underlying107
 a25:=Tryz.isAgg107
 z25:=Tryz.sizeOf107
 v25:=Tryz.zeroValue107
 t39:=Tryz.underlying176
 a39:=Tryz.isAgg176
 z39:=Tryz.sizeOf176
 v39:=Tryz.zeroValue176
 t45:=Tryz.underlying191
 a45:=Tryz.isAgg191
 z45:=Tryz.sizeOf191
 v45:=Tryz.zeroValue191
 t46:=Tryz.underlying192
 a46:=Tryz.isAgg192
 z46:=Tryz.sizeOf192
 v46:=Tryz.zeroValue192
 t50:=Tryz.underlying196
 a50:=Tryz.isAgg196
 z50:=Tryz.sizeOf196
 v50:=Tryz.zeroValue196
 t53:=Tryz.underlying199
 a53:=Tryz.isAgg199
 z53:=Tryz.sizeOf199
 v53:=Tryz.zeroValue199
 t55:=Tryz.underlying201
 a55:=Tryz.isAgg201
 z55:=Tryz.sizeOf201
 v55:=Tryz.zeroValue201
 t66:=Tryz.underlying220
 a66:=Tryz.isAgg220
 z66:=Tryz.sizeOf220
 v66:=Tryz.zeroValue220
 t70:=Tryz.underlying179
 a70:=Tryz.isAgg179
 z70:=Tryz.sizeOf179
 v70:=Tryz.zeroValue179
 t76:=Tryz.underlying235
 a76:=Tryz.isAgg235
 z76:=Tryz.sizeOf235
 v76:=Tryz.zeroValue235
 t77:=Tryz.underlying236
 a77:=Tryz.isAgg236
 z77:=Tryz.sizeOf236
 v77:=Tryz.zeroValue236}
def Tryz.searchO_ren:Go.Shelf.Ren:=⟨λ |16=>192|n=>n,λ |3=>3|35=>48|4=>4|38=>176|n=>n,λ |n=>n⟩
theorem Tryz.searchO:Go.Proofs.SlLaysO.n16 Tryz.prog Tryz.searchO_ren:={
 mixed:=by kernel_rfl
 f16:=Tryz.func192.trans (congrArg some (by kernel_rfl))
 t3:=Tryz.underlying3
 a3:=Tryz.isAgg3
 z3:=Tryz.sizeOf3
 v3:=Tryz.zeroValue3
 t4:=Tryz.underlying4
 a4:=Tryz.isAgg4
 z4:=Tryz.sizeOf4
 v4:=Tryz.zeroValue4
 t35:=Tryz.underlying48
 a35:=Tryz.isAgg48
 z35:=Tryz.sizeOf48
 v35:=Tryz.zeroValue48
 t38:=Tryz.underlying176
 a38:=Tryz.isAgg176
 z38:=Tryz.sizeOf176
 v38:=Tryz.zeroValue176}
end Go.Proofs
namespace Go.Ps
open Go Go.Vc Go.Proofs
variable{K:CV->MH->PH->Prop}{m:MH}{h:PH}{s:pV}{ps:List Int}{cb:Nat}{sc:bH}{v:QV}{q:Query}{p:Pred}{l:List Int}{i:Nat}{N:Nat}{m':MH}{h':PH}{co:List Int}{gr:List Int}{od:List (Int×Bool)}{w:Pred}{ta:Int}{li:Int}{xs:List (List Value)}{sz:Nat}{k:Nat}{ks:List (List Int)}{rs:List Int}{r:Sl}{a:List Int}{b:Nat}
def jN(m:MH):Prop:=∃T fz,m 1=some (.cells (Lib.pow10Tab.map λz=>Value.int .u64 z).toArray T fz)
def cU(u:Nat):CV:=.val (.int .u64 u)
def amZ:Vc.Spec:=λcvs m h K=>∃i:Nat,cvs=[cI i]/\i<100/\K (Ot ⟨(Lib.decDigits i).toArray⟩) m h
def UG:Vc.Spec:=λcvs m h K=>∃u:Nat,cvs=[cU u]/\1<=u/\u<18446744073709551616/\jN m/\K (cI (Lib.nDigits u)) m h
def alJ:Vc.Spec:=λcvs m h K=>∃b cap u:Nat,∃(cs:Array Value)(T:TypeId),cvs=[.val (.slice (some ⟨b,0,none⟩) (Lib.nDigits u) cap),cU u]/\u<18446744073709551616/\m b=some (.cells cs T (0,0))/\cs.toList=List.replicate 24 (.int .u8 0)/\
 ∀cs' m',cs'.size=cs.size->cs'.toList.take (Lib.nDigits u)=Lib.byteCells (Lib.decDigits u)->fV m m' b (.cells cs' T (0,0))->K (.tup []) m' h
def aaJ:Vc.Spec:=λcvs m h K=>∃xs,∃u:Nat,cvs=[.lst 5 1 xs,cU u,cI 10]/\u<18446744073709551616/\jN m/\xs.length+30<=140737488355328/\K (.lst 5 1 (xs++bM (Lib.decDigits u))) m h
def lF(i:Int):List UInt8:=if i<0 then 45::Lib.decDigits (IntKind.u64.wrap (0-IntKind.u64.wrap i)).toNat else Lib.decDigits (IntKind.u64.wrap i).toNat
def UU:Vc.Spec:=λcvs m h K=>∃xs i,cvs=[.lst 5 1 xs,cI i,cI 10]/\jN m/\xs.length+40<=140737488355328/\K (.lst 5 1 (xs++bM (lF i))) m h
noncomputable abbrev I8(a:Nat):List (List Value):=iK (ByteArray.mk (Array.mk (Lib.decDigits a)))
noncomputable abbrev BW(a:List Value):List Value:=aY (wU 0) (wU 0) (aY (wU 0) (wU 0) (aY (wU 0) (wU 0) (aY (wU 0) (wU 0) a)))
noncomputable abbrev xP(a:Int):CV:=CV.val (Value.int IntKind.u64 a)
abbrev Kk(a:Nat):Prop:=a<18446744073709551616
noncomputable abbrev kZ(a:Nat):Option Addr:=Option.some (Addr.mk a 0 Option.none)
attribute [push_cast] I8 BW xP Kk kZ
def Hq(xs:List (List Value))(u:Nat)(m:MH)(h:PH)(K:CV->MH->PH->Prop):Prop:=
  bD (↑u:Int) 100 (∃(i:Nat),aA (Kn (fK (eB (↑u:Int)))=Kn (fK (↑i:Int))) (i<100) (aA (sJ xs (I8 i) 1) (sK xs (I8 i)) (K (CV.lst 5 1 (xs++I8 i)) m h))) (∀(b:Nat)(m1:MH),bC (cM m h b) (bE m m1 b (BW (BW (BW []))) 246) (∃(u1:Nat),aA (Kn (xP (↑u:Int))=Kn (xP (↑u1:Int))) (1<=u1) (aA (Kk u1) (jN m1) (aA (cN (↑(Lib.nDigits u1):Int)) ((↑(Lib.nDigits u1):Int)<=24) (aT (λb1 c=>∃(u2:Nat),eX (λc1 T=>aA (bI (CV.val (Value.slice (kZ b) (qG (Lib.nDigits u1)) 24)) (xP (↑u:Int))=bI (CV.val (Value.slice (kZ b1) (Lib.nDigits u2) c)) (xP (↑u2:Int))) (Kk u2) (aA (m1 b1=Option.some (dV c1 T 0)) (c1.toList=BW (BW (BW []))) (∀(c2:Array Value)(m2:MH),bC (c2.size=c1.size) (List.take
 (Lib.nDigits u2) c2.toList=Lib.byteCells (Lib.decDigits u2)) (fV m1 m2 b1 (dV c2 T 0)->AJ (cN (↑(Lib.nDigits u1):Int)) ((↑(Lib.nDigits u1):Int)<=24) (λy=>aA (eV 1 y) (oW m2 h (Sl.mk (kZ b) (qG (Lib.nDigits u1)) 24) 1 y) (aA (sJ xs y 1) (sK xs y) (K (CV.lst 5 1 (xs++y)) m2 h)))))))))))))
noncomputable abbrev Jo(a:Int):Int:=IntKind.wrap IntKind.u64 a
noncomputable abbrev uL(a:List (List Value))(b:List UInt8):List (List Value):=a++bM b
attribute [push_cast] Jo uL
def Mr(xs:List (List Value))(i:Int)(m:MH)(h:PH)(K:CV->MH->PH->Prop):Prop:=
  bD i 0 (AJ (iB ((xs.length+1)*1)) (iX xs) (λx=>∃(u:Nat),aA (CV.lst 5 1 (xs++bL (j6 (wU 45)))::bU (xP (Jo (0-Jo i))) 10=CV.lst 5 1 x::bU (xP (↑u:Int)) 10) (Kk u) (aA (jN m) (zA x 30) (K (CV.lst 5 1 (uL x (Lib.decDigits u))) m h)))) (∃(x:List (List Value))(u:Nat),aA (CV.lst 5 1 xs::bU (xP (Jo i)) 10=CV.lst 5 1 x::bU (xP (↑u:Int)) 10) (Kk u) (aA (jN m) (zA x 30) (K (CV.lst 5 1 (uL x (Lib.decDigits u))) m h)))
noncomputable abbrev xH(a:List (List Value))(b:Int):List CV:=CV.lst 5 1 a::bU (fK b) 10
attribute [push_cast] xH
def VN(xs:List (List Value))(i:Int)(m:MH)(h:PH)(K:CV->MH->PH->Prop):Prop:=
  ∃(x:List (List Value))(i1:Int),aH (xH xs i=xH x i1) (jN m) (zA x 40) (K (CV.lst 5 1 (uL x (lF i1))) m h)
theorem jN.sub(h:jN m)(hs:Sub m m'):jN m':=by
 obtain⟨T,fz,e⟩:=h;exact⟨T,fz,hs 1 _ e⟩
theorem GL{w:World}{cvs:List CV}{vs:List Value}(hp:v8 w m h cvs vs):tR ⟨w,pT m cvs vs,h,[]⟩ m h w:=
 ⟨rfl,rfl,rfl,Nat.le_refl _,Nat.le_refl _,λ_ _ _=>rfl,hp.hsat,hp.msat,hp.disj,λ_ _ _ e=>e,λ_ _ _=>rfl,λb o hb=>.inr (.inl (by rw[show m b=some o from hb];simp))⟩
theorem RV:Sound Tryz.prog 227 amZ:=by
 refine⟨⟨Tryz.f227,Tryz.func227,rfl,by decide⟩,?_⟩;rintro cvs vs m h w K ⟨i,rfl,hi,hK⟩ hp
 obtain⟨v,rfl⟩:∃v,vs=[v]:=by
  have:=(nR hp.args).1
  match vs,this with
  |[v],_=>exact⟨v,rfl⟩
 have hv:v= .int .i64 i:=hp.args.1;subst hv;refine(Tryz.internal_strconv_small i hi w).mono ?_;rintro e w' ⟨rfl,rfl⟩;exact⟨_,_,m,h,rfl,hK,rfl,GL hp,λb hb=>by simp[Ot,fM]at hb⟩
theorem RU:Sound Tryz.prog 228 UG:=by
 refine⟨⟨Tryz.f228,Tryz.func228,rfl,by decide⟩,?_⟩;rintro cvs vs m h w K ⟨u,rfl,h1,h2,⟨T,fz,ht⟩,hK⟩ hp
 obtain⟨v,rfl⟩:∃v,vs=[v]:=by
  have:=(nR hp.args).1
  match vs,this with
  |[v],_=>exact⟨v,rfl⟩
 have hv:v= .int .u64 u:=hp.args.1;subst hv;have hg:=hp.msat 1 _ ht;refine(Tryz.internal_strconv_numDigits u h1 h2 w ?_).mono ?_
 .unfold Lib.TabIs World.var?;rw[show Tryz.prog.globalNamed _=some 1 by kernel_rfl];simp only[Option.bind_some,hg]
 .rintro e w' ⟨rfl,rfl⟩;exact⟨_,_,m,h,rfl,hK,rfl,GL hp,λb hb=>by simp[cI,fM]at hb⟩
theorem RT:Sound Tryz.prog 229 alJ:=by
 refine⟨⟨Tryz.f229,Tryz.func229,rfl,by decide⟩,?_⟩;rintro cvs vs m h w K ⟨b,cap,u,cs,T,rfl,hu,hb,hcs,hK⟩ hp
 obtain⟨v,v2,rfl⟩:∃v v2,vs=[v,v2]:=by
  have:=(nR hp.args).1
  match vs,this with
  |[v,v2],_=>exact⟨v,v2,rfl⟩
 have hv:v= .slice (some ⟨b,0,none⟩) (Lib.nDigits u) cap:=hp.args.1;have hv2:v2= .int .u64 u:=hp.args.2.1;subst hv hv2;have hg:=hp.msat b _ hb;have h20:=Lib.nDigits_le20 u hu;have hsz:cs.size=24:=by rw[<-Array.length_toList,hcs];simp
 have hH:Sort.Holds (fun(b:UInt8)=>Value.int .u8 (b.toNat:Int)) w b 0 (Array.replicate (Lib.nDigits u) (0:UInt8)):=by
  intro j hj;simp only[Array.size_replicate]at hj;refine⟨?_,?_⟩
  .rw[cell_of_heap hg,hcs,List.getElem?_replicate,if_pos aC];rw[getElem!_pos _ j (by simpa using hj)];simp
  .unfold World.frozen?;rw[hg];simp
 have hc:=Tryz.internal_strconv_formatBase10 b 0 cap u (Array.replicate (Lib.nDigits u) (0:UInt8)) w hH (by simpa using Lib.lt_pow_nDigits u) hu (by simp;omega);rw[Array.size_replicate]at hc;refine hc.mono ?_;rintro e w' ⟨rfl,n,v',dk,rfl,hf⟩;have hds:dk.size=Lib.nDigits u:=hf.size;obtain⟨m',hm'⟩:∃m',fV m m' b (.cells (Sort.putCells (fun(b:UInt8)=>Value.int .u8 (b.toNat:Int)) 0 dk cs) T (0,0)):=⟨λb'=>if b'=b then some (.cells (Sort.putCells (fun(b:UInt8)=>Value.int .u8 (b.toNat:Int)) 0 dk cs) T (0,0))else m b',by simp,λb' hb'=>by simp[hb']⟩
 have hnew:(Sort.putRow (fun(b:UInt8)=>Value.int .u8 (b.toNat:Int)) w b 0 dk).heap[b]? =some (.cells (Sort.putCells (fun(b:UInt8)=>Value.int .u8 (b.toNat:Int)) 0 dk cs) T (0,0)):=by
  unfold Sort.putRow Sort.mapBlock;simp only[Array.getElem?_modify,if_true,hg];rfl
 have hold:∀b',b'≠b->(Sort.putRow (fun(b:UInt8)=>Value.int .u8 (b.toNat:Int)) w b 0 dk).heap[b']? =w.heap[b']? :=λb' hb'=>by
  unfold Sort.putRow Sort.mapBlock;simp only[Array.getElem?_modify,if_neg (Ne.symm hb')]
 refine⟨.tup [],.tuple #[],m',h,rfl,hK _ m' ?_ ?_ hm',⟨#[],rfl,rfl⟩,?_,λb hb=>by simp[fM]at hb⟩
 .simp[Sort.putCells]
 .apply List.ext_getElem?;intro j;rw[List.getElem?_take];have hl:(Lib.byteCells (Lib.decDigits u)).length=Lib.nDigits u:=by rw[Lib.byteCells_length,Lib.decDigits_length]
  by_cases hj:j<Lib.nDigits u
  .rw[if_pos hj,Array.getElem?_toList];have hj2:j<(Lib.decDigits u).length:=by rw[Lib.decDigits_length];exact hj
   have hcsj:j<cs.size:=by omega
   simp only[Sort.putCells,Array.getElem?_mapIdx,Array.getElem?_eq_getElem hcsj,Option.map_some,Nat.zero_le,Nat.zero_add,Nat.sub_zero,true_and];rw[if_pos aC,Lib.byteCells,List.getElem?_map,List.getElem?_eq_getElem hj2,Lib.row_is_numeral hf j hj2];rfl
  .rw[if_neg hj,List.getElem?_eq_none aC]
 .have hmb:∀b' o,m' b'=some o->b'=b\/m b'=some o:=λb' o hb'=>by
   by_cases e:b'=b
   .exact .inl e
   .rw[hm'.other b' e]at hb';exact .inr hb'
  have hE:pT m [.val (.slice (some ⟨b,0,none⟩) (Lib.nDigits u) cap),cU u] [.slice (some ⟨b,0,none⟩) (Lib.nDigits u) cap,.int .u64 u] b:=.inl (by rw[hb];simp);refine⟨rfl,rfl,rfl,Nat.le_add_right _ _,by simp[Sort.putRow,Sort.mapBlock],?_,?_,?_,?_,λ_ _ _ e=>e,λ_ _ _=>rfl,?_⟩
  .intro b' _ hn;exact hold b' (λe=>hn (e▸hE))
  .intro b' o x hx;have hne:b'≠b:=λe=>by rw[e,hp.disj b _ hb o]at hx;cases hx
   show(Sort.putRow (fun(b:UInt8)=>Value.int .u8 (b.toNat:Int)) w b 0 dk).cell? ⟨b',o,none⟩=some x;rw[World.cell?_of_block (w:=w) (a:=⟨b',o,none⟩) (hold b' hne)];exact hp.hsat b' o x hx
  .intro b' o hb';by_cases e:b'=b
   .subst e;rw[hm'.at_]at hb';cases hb';exact hnew
   .rw[hm'.other b' e]at hb';rw[show((Sort.putRow (fun(b:UInt8)=>Value.int .u8 (b.toNat:Int)) w b 0 dk).drewN n).heap[b']? =_ from hold b' e];exact hp.msat b' o hb'
  .intro b' o hb' j;rcases hmb b' o hb' with rfl|h1
   .exact hp.disj b' _ hb j
   .exact hp.disj b' _ h1 j
  .intro b' o hb';rcases hmb b' o hb' with rfl|h1
   .exact .inr hE
   .exact .inr (.inl (by rw[h1];simp))
theorem Dd(l:List UInt8):iK ⟨l.toArray⟩=bM l:=by simp[iK,bM]
theorem HR(l:List UInt8):(bM l).flatten=Lib.byteCells l:=by
 unfold bM Lib.byteCells
 induction l with
 |nil=>rfl
 |cons b r ih=>simp[ih]
theorem nX(l:List UInt8):(bM l).length=l.length:=by simp[bM]
theorem RW:Sound Tryz.prog 226 aaJ:=by
 refine Gm Tryz.func226 ?_;rintro cvs m h K ⟨xs,u,rfl,hu,ht,hl,hK⟩;refine⟨wH [(227,amZ),(228,UG),(229,alJ)] [] [] [] [246] [] true,rfl,aD RV (aD RU (aD RT aF)),Hq xs u m h (lE h K),by kernel_rfl,?_⟩;show Hq xs u m h (lE h K);dsimp only[Hq,push_cast];have h20:=Lib.nDigits_le20 u hu;have hdl:=Lib.decDigits_length u;refine aE (λh1=>⟨u,?_,aC,?_,?_,?_⟩) (λh1 b m1 hb hm1=>?_)
 .rw[dX aC aC]
 .rw[Dd,nX];omega
 .rw[Dd,nX];omega
 .rw[Dd];exact .here hK
 .have hs1:Sub m m1:=(Sub.refl m).upd hb.m_ hm1.other;refine⟨u,rfl,aC,hu,ht.sub hs1,aC,aC,b,24,u,_,_,by rw[Int.toNat_natCast],hu,hm1.at_,rfl,λcs' m2 hsz htake hm2=>⟨aC,aC,bM (Lib.decDigits u),Fs _,?_,?_,?_,?_⟩⟩
  .refine .lent b 0 cs' 246 (0,0) rfl ?_ hm2.at_ ?_
   .rw[Int.toNat_natCast,nX,hdl]
   .rw[HR,Lib.byteCells_length,hdl,List.drop_zero];exact htake
  .rw[nX];omega
  .rw[nX];omega
  .exact .sub (hs1.upd hb.m_ hm2.other) hK
theorem Wr(i:Int):0<=IntKind.u64.wrap i/\IntKind.u64.wrap i<18446744073709551616:=by
 simp only[IntKind.wrap,IntKind.bits,IntKind.signed];simp;omega
theorem yO(i:Int):(lF i).length<=21:=by
 have key:∀n:Int,(Lib.decDigits (IntKind.u64.wrap n).toNat).length<=20:=λn=>by
  rw[Lib.decDigits_length];exact Lib.nDigits_le20 _ (by have:=Wr n;omega)
 unfold lF;split
 .have:=key (0-IntKind.u64.wrap i);simp only[List.length_cons];omega
 .have:=key i;omega
theorem RX:Sound Tryz.prog 225 UU:=by
 refine iJ Tryz.func225 ?_;rintro cvs m h K ⟨xs,i,rfl,ht,hl,hK⟩;refine⟨wH [(226,aaJ)] [] [] [] [] [(226,[0])] true,rfl,aD RW aF,Mr xs i m h K,by kernel_rfl,?_⟩;dsimp only[Mr,push_cast];have h1:=Wr i;have h2:=Wr (0-IntKind.u64.wrap i);refine aE (λhn=>⟨aC,aC,xs++[[.int .u8 45]],(IntKind.u64.wrap (0-IntKind.u64.wrap i)).toNat,?_,aC,ht,by simp;omega,?_⟩) (λhn=>⟨xs,(IntKind.u64.wrap i).toNat,?_,aC,ht,aC,?_⟩)
 .rw[show(((IntKind.u64.wrap (0-IntKind.u64.wrap i)).toNat:Nat):Int)=IntKind.u64.wrap (0-IntKind.u64.wrap i)by omega]
 .have:lF i=45::Lib.decDigits (IntKind.u64.wrap (0-IntKind.u64.wrap i)).toNat:=by unfold lF;rw[if_pos hn]
  rw[this]at hK;rw[List.append_assoc];exact hK
 .rw[show(((IntKind.u64.wrap i).toNat:Nat):Int)=IntKind.u64.wrap i by omega]
 .have:lF i=Lib.decDigits (IntKind.u64.wrap i).toNat:=by unfold lF;rw[if_neg hn]
  rw[this]at hK;exact hK
theorem RY:Sound Tryz.prog 223 UU:=by
 refine iJ Tryz.func223 ?_;rintro cvs m h K ⟨xs,i,rfl,ht,hl,hK⟩;refine⟨wH [(225,UU)] [] [] [] [] [(225,[0])] true,rfl,aD RX aF,VN xs i m h K,by kernel_rfl,?_⟩;exact⟨xs,i,rfl,ht,hl,hK⟩
def zO(a b:Int):Int:=if a<b then-1 else if b<a then 1 else 0
def LH(a b:ByteArray):Int:=Lib.compareBytes a.data.toList b.data.toList
def kT(a b:VV):Int:=if zO a.kind b.kind≠0 then zO a.kind b.kind else if zO a.int b.int≠0 then zO a.int b.int else LH a.text b.text
def eE:List VV->List VV->Int
 |[],[]=>0
 |[],_::_=> -1
 |_::_,[]=>1
 |x::xs,y::ys=>if kT x y≠0 then kT x y else eE xs ys
def ZG:Vc.Spec:=λcvs m h K=>∃n,cvs=[cI n]/\K (cB false) m h
def UQ:Vc.Spec:=λcvs m h K=>∃a b,cvs=[cI a,cI b]/\K (cI (zO a b)) m h
def Z9:Vc.Spec:=λcvs m h K=>∃a b,cvs=[Ot a,Ot b]/\K (cI (LH a b)) m h
def Nu:Vc.Spec:=λcvs m h K=>∃a b,cvs=[aV a,aV b]/\K (cI (kT a b)) m h
def GK:Vc.Spec:=λcvs m h K=>∃s t a b,cvs=[cS s,cS t]/\cR h s a/\cR h t b/\K (cI (eE a b)) m h
def aaX:Vc.Spec:=λcvs m h K=>∃s t a b,cvs=[cS s,cS t,.val (.func (.func 70) #[] #[])]/\cR h s a/\cR h t b/\K (cI (eE a b)) m h
def Rows(h:PH)(s:Sl)(l:List (List VV)):Prop:=bV h 1 eS (λr t=>cR h t r) s l
def ZU:Vc.Spec:=λcvs m h K=>∃s t a b,cvs=[cS s,cS t]/\Rows h s a/\Rows h t b/\∀r:Bool,(r=true↔a=b)->K (cB r) m h
noncomputable def XC(s t:Sl)(m:MH)(h:PH):Ctx:=
 dN [(70,Nu)] [(2,{A:=Nat,st:=λi=>cE 39 42 [(0,sv s),(1,sv t),(2,vv (.func (.func 70) #[] #[])),(11,sv s),(12,iv s.len),(13,iv i)] [] m h})] [] [] false
noncomputable def YZ(s t:Sl)(m:MH)(h:PH):Ctx:=
 dN [(90,Nu)] [(2,{A:=Nat,st:=λi=>cE 43 45 [(0,sv s),(1,sv t),(5,iv i)] [] m h})] [] [] false
noncomputable def Zc(s t:Sl)(m:MH)(h:PH):Ctx:=
 dN [(62,GK)] [(4,{A:=Nat,st:=λi=>cE 27 29 [(0,sv s),(1,sv t),(12,iv s.len),(13,iv i)] [] m h})] [] [] false
def V2(n:Int)(m:MH)(h:PH)(K:CV->MH->PH->Prop):Prop:=
  K (A7 (n !=n)) m h
def V1(n:Int)(m:MH)(h:PH)(K:CV->MH->PH->Prop):Prop:=
  K (A7 (n !=n)) m h
def HK(a b:Int)(m:MH)(h:PH)(K:CV->MH->PH->Prop):Prop:=
  ∃(n:Int),pH a n/\∃(n1:Int),pH b n1/\bD a b (K (fK (Int.negSucc 0)) m h) (fC a b (K (fK 1) m h) (K (fK 0) m h))
def V8(a b:Int)(m:MH)(h:PH)(K:CV->MH->PH->Prop):Prop:=
  ∃(n:Int),pH a n/\∃(n1:Int),pH b n1/\bD a b (K (fK (Int.negSucc 0)) m h) (fC a b (K (fK 1) m h) (K (fK 0) m h))
def Qc(a b:VV)(m:MH)(h:PH)(K:CV->MH->PH->Prop):Prop:=
  ∃(r:Bool),hP (lT 27 a.enc b.enc r) r (K (fK 0) m h) (∃(a1 b1:Int),hP (bU (fK a.kind) b.kind=bU (fK a1) b1) (zO a1 b1 !=0) (K (fK (zO a1 b1)) m h) (∃(a2 b2:Int),hP (bU (fK a.int) b.int=bU (fK a2) b2) (zO a2 b2 !=0) (K (fK (zO a2 b2)) m h) (∃(a3 b3:ByteArray),bI (CV.val (Value.string a.text)) (CV.val (Value.string b.text))=bI (jW a3) (jW b3)/\K (fK (LH a3 b3)) m h)))
def P2(a b:VV)(m:MH)(h:PH)(K:CV->MH->PH->Prop):Prop:=
  bD a.kind b.kind (K (fK (Int.negSucc 0)) m h) (fC a.kind b.kind (K (fK 1) m h) (bD a.int b.int (K (fK (Int.negSucc 0)) m h) (dH (decide (a.int>b.int)) (K (fK 1) m h) (Op.bytesLess (Am a) (Am b)) (K (fK (Int.negSucc 0)) m h) (branch (!(Bool.or (Op.bytesLess (Am a) (Am b)) (Am a==Am b))) (K (fK 1) m h) (K (fK 0) m h)))))
def M8(s t:Sl)(m:MH)(h:PH)(K:CV->MH->PH->Prop):Prop:=
  mT (λI x=>aA (I x) (aK s) (aA (aK t) (B5 70) (aA (aK s) (bK s) (aA (bG x) (m=m) (dC h h))))) (λI m1 x=>I x->bD (↑x:Int) (aG s) (aT (λb o=>aH (aU s.a b o) (0<=(↑x:Int)) ((↑x:Int)<aG s) (∃(y:VV),aM m h b (bB o x 3) y.enc/\gQ (↑x:Int) (aG t) (K (fK 1) m h) (aT (λb1 o1=>aH (aU t.a b1 o1) (0<=(↑x:Int)) ((↑x:Int)<aG t) (∃(y1:VV),aM m h b1 (bB o1 x 3) y1.enc/\∃(a b2:VV),bI (fR y) (fR y1)=bI (fR a) (fR b2)/\gX (kT a b2 !=0) (K (fK (kT a b2)) m h) (λx1=>aA (I x1) (m1 x1<m1 x) (aA (aK s) (aK t) (aA (B5 70) (aK s) (aA (bK s) (gS (aW x 1)=bX x1) (eH m m h h))))))))))) (bD (aG s) (aG t) (K (fK (Int.negSucc 0)) m h) (K (fK 0) m h)))
def WU(s t:Sl)(m:MH)(h:PH)(K:CV->MH->PH->Prop):Prop:=
  kV (λs1 t1=>∃(a b:List VV),aH (dP s (fW t (xQ 70))=dP s1 (fW t1 (xQ 70))) (cR h s1 a) (cR h t1 b) (K (fK (eE a b)) m h))
def Qj(s t:Sl)(m:MH)(h:PH)(K:CV->MH->PH->Prop):Prop:=
  mT (λI x=>aA (I x) (aK s) (aA (aK t) (bG x) (eH m m h h))) (λI m1 x=>I x->bD (↑x:Int) (aG s) (bD (↑x:Int) (aG t) (aT (λb o=>aH (aU s.a b o) (0<=(↑x:Int)) ((↑x:Int)<aG s) (∃(y:VV),aM m h b (bB o x 3) y.enc/\aT (λb1 o1=>aH (aU t.a b1 o1) (0<=(↑x:Int)) ((↑x:Int)<aG t) (∃(y1:VV),aM m h b1 (bB o1 x 3) y1.enc/\∃(a b2:VV),bI (fR y) (fR y1)=bI (fR a) (fR b2)/\gX (kT a b2 !=0) (K (fK (kT a b2)) m h) (λx1=>aA (I x1) (m1 x1<m1 x) (aA (aK s) (aK t) (dE (gS (aW x 1)=bX x1) m m h h)))))))) (bD (aG s) (aG t) (K (fK (Int.negSucc 0)) m h) (fC (aG s) (aG t) (K (fK 1) m h) (K (fK 0) m h)))) (bD (aG s) (aG t) (K (fK (Int.negSucc 0)) m h) (fC (aG s) (aG t) (K (fK 1) m h) (K
 (fK 0) m h))))
abbrev z8(a b:Sl)(c:PH)(d:(List VV)->(List VV)->Prop):Prop:=kV (λx x1=>∃(x2 x3:List VV),aH (gP a b=gP x x1) (cR c x x2) (cR c x1 x3) (d x2 x3))
attribute [push_cast] z8
def QB(s t:Sl)(m:MH)(h:PH)(K:CV->MH->PH->Prop):Prop:=
  fQ (aG s) (aG t) (K bA m h) (mT (λI x=>aA (I x) (aK s) (aA (aK t) (bK s) (dE (bG x) m m h h))) (λI m1 x=>I x->bD (↑x:Int) (aG s) (aT (λb o=>aH (aU s.a b o) (0<=(↑x:Int)) ((↑x:Int)<aG s) (∃(y:Sl),aM m h b (bB o x 1) (aR y)/\aT (λb1 o1=>aH (aU t.a b1 o1) (0<=(↑x:Int)) ((↑x:Int)<aG t) (∃(y1:Sl),aM m h b1 (bB o1 x 1) (aR y1)/\z8 y y1 h (λa b2=>gX (eE a b2 !=0) (K bA m h) (λx1=>aA (I x1) (m1 x1<m1 x) (aA (aK s) (aK t) (aA (bK s) (gS (aW x 1)=bX x1) (aA (m=m) (h=h) True)))))))))) (K gE m h)))
theorem Eh{a b:Int}:zO a b=0↔a=b:=by
 unfold zO;constructor
 .intro h;split at h
  .omega
  .split at h<;>omega
 .intro h;subst h;simp
theorem Ei:∀a b:List UInt8,Lib.compareBytes a b=0↔a=b
 |[],[]=>by simp[Lib.compareBytes]
 |[],_::_=>by simp[Lib.compareBytes]
 |_::_,[]=>by simp[Lib.compareBytes]
 |a::l,b::bs=>by
  simp only[Lib.compareBytes,List.cons.injEq];split
  .rename_i h;simp;intro e;subst e;exact absurd h (UInt8.lt_irrefl _)
  .split
   .rename_i h;simp;intro e;subst e;exact absurd h (UInt8.lt_irrefl _)
   .rename_i h1 h2;rw[Ei l bs];have:a=b:=UInt8.le_antisymm (UInt8.not_lt.1 h2) (UInt8.not_lt.1 h1);simp[this]
theorem We{a b:ByteArray}:LH a b=0↔a=b:=by
 unfold LH;rw[Ei];constructor
 .intro h;cases a;cases b;simp only[ByteArray.mk.injEq];exact Array.toList_inj.1 h
 .intro h;rw[h]
theorem HQ{a b:VV}:kT a b=0↔a=b:=by
 obtain⟨k,i,t⟩:=a;obtain⟨k',i',t'⟩:=b;simp only[kT,VV.mk.injEq];split
 .rename_i h;exact⟨λe=>absurd e h,λe=>absurd (Eh.2 e.1) h⟩
 .rename_i h;have h:=Classical.not_not.1 h;split
  .rename_i h2;exact⟨λe=>absurd e h2,λe=>absurd (Eh.2 e.2.1) h2⟩
  .rename_i h2;have h2:=Classical.not_not.1 h2;rw[We];simp[Eh.1 h,Eh.1 h2]
theorem jQ:∀{a b:List VV},eE a b=0↔a=b
 |[],[]=>by simp[eE]
 |[],_::_=>by simp[eE]
 |_::_,[]=>by simp[eE]
 |x::xs,y::ys=>by
  simp only[eE,List.cons.injEq];split
  .rename_i h;exact⟨λe=>absurd e h,λe=>absurd (HQ.2 e.1) h⟩
  .rename_i h;rw[jQ (a:=xs),HQ.1 (Classical.not_not.1 h)];simp
theorem Kr:∀a b:List UInt8,(Op.bytesLess a b=true↔Lib.compareBytes a b= -1)/\(Lib.compareBytes a b= -1\/Lib.compareBytes a b=0\/Lib.compareBytes a b=1)
 |[],[]=>by simp[Lib.compareBytes,Op.bytesLess]
 |[],_::_=>by simp[Lib.compareBytes,Op.bytesLess]
 |_::_,[]=>by simp[Lib.compareBytes,Op.bytesLess]
 |a::l,b::bs=>by
  obtain⟨h1,h2⟩:=Kr l bs;simp only[Lib.compareBytes,Op.bytesLess];by_cases hab:a<b
  .simp[hab]
  .by_cases hba:b<a
   .have:¬a=b:=λe=>by subst e;exact UInt8.lt_irrefl _ hba
    simp[hab,hba,this]
   .have:a=b:=UInt8.le_antisymm (UInt8.not_lt.1 hba) (UInt8.not_lt.1 hab);subst this;simp only[hab,if_false];exact⟨by simpa using h1,h2⟩
theorem Un{a b:Int}(hK:K (cI (zO a b)) m h):HK a b m h K:=by
 dsimp only[HK,push_cast];refine⟨a,rfl,b,rfl,aE (λh1=>?_) (λh1=>aE (λh2=>?_) (λh2=>?_))⟩
 .rw[zO,if_pos h1]at hK;exact hK
 .rw[zO,if_neg h1,if_pos h2]at hK;exact hK
 .rw[zO,if_neg h1,if_neg h2]at hK;exact hK
theorem SP:Sound Tryz.prog 130 ZG:=by
 refine iJ Tryz.func130 ?_;rintro cvs m h K ⟨n,rfl,hK⟩;refine⟨dN [] [] [] [] false,rfl,aF,V2 n m h K,by kernel_rfl,?_⟩;exact(by show K (cB (n !=n)) m h;rw[bne_self_eq_false];exact hK)
theorem SO:Sound Tryz.prog 131 ZG:=by
 refine iJ Tryz.func131 ?_;rintro cvs m h K ⟨n,rfl,hK⟩;refine⟨dN [] [] [] [] false,rfl,aF,V1 n m h K,by kernel_rfl,?_⟩;exact(by show K (cB (n !=n)) m h;rw[bne_self_eq_false];exact hK)
theorem Ti:Sound Tryz.prog 100 UQ:=by
 refine iJ Tryz.func100 ?_;rintro cvs m h K ⟨a,b,rfl,hK⟩;refine⟨dN [(130,ZG)] [] [] [] false,rfl,aD SP aF,HK a b m h K,by kernel_rfl,?_⟩;exact Un hK
theorem Th:Sound Tryz.prog 101 UQ:=by
 refine iJ Tryz.func101 ?_;rintro cvs m h K ⟨a,b,rfl,hK⟩;refine⟨dN [(131,ZG)] [] [] [] false,rfl,aD SO aF,V8 a b m h K,by kernel_rfl,?_⟩;exact Un hK
theorem Tg:Sound Tryz.prog 102 Z9:=by
 refine⟨⟨Tryz.f102,Tryz.func102,rfl,by decide⟩,?_⟩;rintro cvs vs m h w K ⟨a,b,rfl,hK⟩ hp
 obtain⟨v,v2,rfl⟩:∃v v2,vs=[v,v2]:=by
  have:=(nR hp.args).1
  match vs,this with
  |[v,v2],_=>exact⟨v,v2,rfl⟩
 have hv:v= .string a:=hp.args.1;have hv2:v2= .string b:=hp.args.2.1;subst hv hv2;refine(Tryz.strings_Compare a b w).mono ?_;rintro e w' ⟨rfl,rfl⟩;exact⟨_,_,m,h,rfl,hK,rfl,GL hp,λb hb=>by simp[cI,fM]at hb⟩
theorem Hl:Sound Tryz.prog 70 Nu:=by
 refine iJ Tryz.func70 ?_;rintro cvs m h K ⟨a,b,rfl,hK⟩;refine⟨dN [(100,UQ),(101,UQ),(102,Z9)] [] [] [] false,rfl,aD Ti (aD Th (aD Tg aF)),Qc a b m h K,by kernel_rfl,?_⟩;dsimp only[Qc,push_cast];refine⟨_,Ee a b,aB (λh1=>?_) (λh1=>⟨_,_,rfl,aB (λh2=>?_) (λh2=>⟨_,_,rfl,aB (λh3=>?_) (λh3=>⟨_,_,rfl,?_⟩)⟩)⟩)⟩
 .rw[HQ.2 (JD.1 h1)]at hK;exact hK
 .rw[kT,if_pos (by simpa using h2)]at hK;exact hK
 .rw[kT,if_neg (by simpa using h2),if_pos (by simpa using h3)]at hK;exact hK
 .rw[kT,if_neg (by simpa using h2),if_neg (by simpa using h3)]at hK;exact hK
theorem Vo:Sound Tryz.prog 90 Nu:=by
 refine iJ Tryz.func90 ?_;rintro cvs m h K ⟨a,b,rfl,hK⟩;refine⟨dN [] [] [] [] false,rfl,aF,P2 a b m h K,by kernel_rfl,?_⟩;dsimp only[P2,push_cast];unfold kT zO LH at hK;obtain⟨hl1,hl2⟩:=Kr a.text.data.toList b.text.data.toList;refine aE (λh1=>?_) (λh1=>aE (λh2=>?_) (λh2=>aE (λh3=>?_) (λh3=>aE (λh4=>?_) (λh4=>aB (λh5=>?_) (λh5=>aB (λh6=>?_) (λh6=>?_))))))
 .rw[if_pos h1]at hK;exact hK
 .rw[if_neg h1,if_pos h2]at hK;exact hK
 .rw[if_neg h1,if_neg h2,if_pos h3]at hK;exact hK
 .rw[if_neg h1,if_neg h2,if_neg h3,if_pos h4]at hK;exact hK
 all_goals rw[if_neg h1,if_neg h2,if_neg h3,if_neg h4]at hK
 all_goals rw[ByteArray.toList_eq,ByteArray.toList_eq]at h5
 .rw[if_neg (by simp),if_neg (by simp),hl1.1 h5]at hK;exact hK
 .have e1:Lib.compareBytes a.text.data.toList b.text.data.toList=1:=by
   rcases hl2 with e|e|e
   .rw[hl1.2 e]at h5;cases h5
   .rw[Ei]at e;rw[ByteArray.toList_eq,ByteArray.toList_eq,e]at h6;simp at h6
   .exact e
  rw[if_neg (by simp),if_neg (by simp),e1]at hK;exact hK
 .have e1:Lib.compareBytes a.text.data.toList b.text.data.toList=0:=by
   rw[ByteArray.toList_eq,ByteArray.toList_eq,h5]at h6;rw[Ei];simpa using h6
  rw[if_neg (by simp),if_neg (by simp),e1]at hK;exact hK
theorem Nd{a b:List VV}{x y:VV}(hx:a[i]? =some x)(hy:b[i]? =some y):eE (a.drop i) (b.drop i)=if kT x y≠0 then kT x y else eE (a.drop (i+1)) (b.drop (i+1)):=by
 rw[drop_cons hx,drop_cons hy,eE]
theorem Tf:Sound Tryz.prog 103 aaX:=by
 refine iJ Tryz.func103 ?_;rintro cvs m h K ⟨s,t,a,b,rfl,ha,hb,hK⟩;refine⟨XC s t m h,rfl,aD Hl aF,M8 s t m h K,by kernel_rfl,?_⟩;dsimp only[M8,push_cast];have hsa:=bV.slen ha;have hsb:=bV.slen hb;have hla:=ha.len;refine⟨λi=>i<=a.length/\i<=b.length/\eE a b=eE (a.drop i) (b.drop i),λi=>a.length-i,⟨0,⟨aC,aC,by simp⟩,MT⟩,λi⟨hi,hj,he⟩=>aE (λhlt=>?_) (λhge=>?_)⟩
 .obtain⟨x,hx⟩:=fI hsa hlt;obtain⟨b1,o1,u,e1,r1,rfl⟩:=bV.at ha hx;refine⟨b1,o1,e1,aC,hlt,x,.imm r1,aE (λhge=>?_) (λhlt2=>?_)⟩
  .rw[he,drop_cons hx,List.drop_eq_nil_of_le (show b.length<=i by omega),eE]at hK;exact hK
  .have hlt2:(i:Int)<(t.len:Int):=by omega
   obtain⟨y,hy⟩:=fI hsb hlt2;obtain⟨b2,o2,u,e2,r2,rfl⟩:=bV.at hb hy;rw[Nd hx hy]at he;refine⟨b2,o2,e2,aC,hlt2,y,.imm r2,x,y,rfl,aB (λhne=>?_) (λheq=>⟨i+1,⟨aC,aC,?_⟩,(show a.length-(i+1)<a.length-i by omega),MT⟩)⟩
   .rw[he,if_pos (by simpa using hne)]at hK;exact hK
   .rw[he,if_neg (by simpa using heq)]
 .have:a.drop i=[]:=List.drop_eq_nil_of_le aC;rw[this]at he;refine aE (λh1=>?_) (λh1=>?_)
  .obtain⟨y,hy⟩:=fI (l:=b) (i:=i) (n:=t.len) hsb aC;rw[he,drop_cons hy,eE]at hK;exact hK
  .rw[he,List.drop_eq_nil_of_le aC,eE]at hK;exact hK
theorem DZ:Sound Tryz.prog 71 GK:=by
 refine iJ Tryz.func71 ?_;rintro cvs m h K ⟨s,t,a,b,rfl,ha,hb,hK⟩;refine⟨dN [(103,aaX)] [] [] [] false,rfl,aD Tf aF,WU s t m h K,by kernel_rfl,?_⟩;exact⟨s,t,a,b,rfl,ha,hb,hK⟩
theorem Hn:Sound Tryz.prog 62 GK:=by
 refine iJ Tryz.func62 ?_;rintro cvs m h K ⟨s,t,a,b,rfl,ha,hb,hK⟩;refine⟨YZ s t m h,rfl,aD Vo aF,Qj s t m h K,by kernel_rfl,?_⟩;dsimp only[Qj,push_cast];have hsa:=bV.slen ha;have hsb:=bV.slen hb;have hla:=ha.len;refine⟨λi=>i<=a.length/\i<=b.length/\eE a b=eE (a.drop i) (b.drop i),λi=>a.length-i,⟨0,⟨aC,aC,by simp⟩,MT⟩,λi⟨hi,hj,he⟩=>aE (λhlt=>aE (λhlt2=>?_) (λhge=>?_)) (λhge=>?_)⟩
 .obtain⟨x,hx⟩:=fI hsa hlt;obtain⟨y,hy⟩:=fI hsb hlt2;obtain⟨b1,o1,u,e1,r1,rfl⟩:=bV.at ha hx;obtain⟨b2,o2,u,e2,r2,rfl⟩:=bV.at hb hy;rw[Nd hx hy]at he;refine⟨b1,o1,e1,aC,hlt,x,.imm r1,b2,o2,e2,aC,hlt2,y,.imm r2,x,y,rfl,aB (λhne=>?_) (λheq=>⟨i+1,⟨aC,aC,?_⟩,(show a.length-(i+1)<a.length-i by omega),MT⟩)⟩
  .rw[he,if_pos (by simpa using hne)]at hK;exact hK
  .rw[he,if_neg (by simpa using heq)]
 .obtain⟨x,hx⟩:=fI hsa hlt;rw[he,drop_cons hx,List.drop_eq_nil_of_le (show b.length<=i by omega),eE]at hK;exact aE (λh1=>aC) (λh1=>aE (λh2=>hK) (λh2=>aC))
 .rw[he,List.drop_eq_nil_of_le (show a.length<=i by omega)]at hK;refine aE (λh1=>?_) (λh1=>aE (λh2=>aC) (λh2=>?_))
  .obtain⟨y,hy⟩:=fI (l:=b) (i:=i) (n:=t.len) hsb aC;rw[drop_cons hy,eE]at hK;exact hK
  .rw[List.drop_eq_nil_of_le aC,eE]at hK;exact hK
theorem VL:Sound Tryz.prog 24 ZU:=by
 refine iJ Tryz.func24 ?_;rintro cvs m h K ⟨s,t,a,b,rfl,ha,hb,hK⟩;refine⟨Zc s t m h,rfl,aD Hn aF,QB s t m h K,by kernel_rfl,?_⟩;dsimp only[QB,push_cast];have hsa:=bV.slen ha;have hsb:=bV.slen hb;have hla:=ha.len;have hf:a≠b->K (cB false) m h:=λh=>hK false ⟨λe=>(by cases e),λe=>(h e).elim⟩;refine aB (λh1=>hf (λe=>G9 hsa hsb h1 (by rw[e]))) (λh1=>?_);have hl:=Ha hsa hsb h1;refine⟨λi=>i<=a.length/\∀j:Nat,j<i->a[j]? =b[j]?,λi=>a.length-i,⟨0,⟨aC,λj hj=>by omega⟩,MT⟩,λi hi=>aE (λhlt=>?_) (λhge=>?_)⟩
 .obtain⟨x,hx⟩:=fI hsa hlt;obtain⟨y,hy⟩:∃y,b[i]? =some y:=fI (n:=s.len) aC hlt;obtain⟨b1,o1,u,e1,r1,ru⟩:=bV.at ha hx;obtain⟨b2,o2,v,e2,r2,rv⟩:=bV.at hb hy;refine⟨b1,o1,e1,aC,hlt,u,.imm r1,b2,o2,e2,aC,aC,v,.imm r2,u,v,x,y,rfl,ru,rv,aB (λhne=>hf (L3 hx hy (λe=>?_))) (λhe=>?_)⟩
  .rw[jQ.2 e]at hne;cases hne
  .exact⟨i+1,⟨aC,uT hx hy (jQ.1 (by simpa using he)) hi.2⟩,(show a.length-(i+1)<a.length-i by omega),MT⟩
 .exact hK true ⟨λ_=>yS hl aC hi.2,λ_=>rfl⟩
structure Cx(h:PH)(P:List VV->Prop) where
 s:Sl
 l:List VV
 ok:cR h s l
 pr_:P l
def Cx.pr{h:PH}{P:List VV->Prop}(x:Cx h P):Sl×List VV:=(x.s,x.l)
def wG(h:PH){R:List VV->Prop}(x:Cx h R):Value:=.slice x.s.a x.s.len x.s.cap
theorem H0{w w':World}(h1:w'.tape=w.tape)(h2:w'.os=w.os)(h3:w'.output=w.output)(h4:w.drawn<=w'.drawn)(h5:w.heap.size<=w'.heap.size)(h6:∀b,b<w.heap.size->w'.heap[b]? =w.heap[b]?):
 ∃q os,w'=Sort.grow (w.drewN q) os:=by
 refine⟨w'.drawn-w.drawn,w'.heap.extract w.heap.size w'.heap.size,?_⟩;obtain⟨hp,tp,dr,oo,ou⟩:=w';obtain⟨hp0,tp0,dr0,oo0,ou0⟩:=w;dsimp only at h1 h2 h3 h4 h5 h6;subst h1 h2 h3;unfold Sort.grow World.drewN;dsimp only;congr 1
 .apply Array.ext_getElem?;intro k;rw[Array.getElem?_append];by_cases hk:k<hp0.size
  .rw[if_pos hk];exact h6 k hk
  .rw[if_neg hk,Array.getElem?_extract];by_cases hk2:k<hp.size
   .rw[if_pos aC];congr 1;omega
   .rw[if_neg aC,Array.getElem?_eq_none aC]
 .omega
structure aaQ(P:Program)(R:List VV->Prop)(g:Nat)(cb:List Value)(m2:MH)(h:PH)(cf:List VV->List VV->Int):Prop where
 ex:∃S,Sound P g S/\∀x y:Cx h R,S ([cS x.s,cS y.s]++cb.map .val) m2 h (λr m' h'=>r=cI (cf x.l y.l)/\m'=m2/\h'=h)
theorem XH{P:Program}{R:List VV->Prop}{g:Nat}{cb:List Value}{m2:MH}{h:PH}[Inhabited (Cx h R)]{cf:List VV->List VV->Int}(hc:aaQ P R g cb m2 h cf){w:World}{blk off size:Nat}
 (hh:∀b o v,h b o=some v->w.cell? ⟨b,o,none⟩=some v/\b≠blk)(hm:∀b o,m2 b=some o->w.heap[b]? =some o/\b≠blk)(hd:∀b o,m2 b=some o->∀i,h b i=none):
 CmpLays1 P g cb.toArray (wG h (R:=R)) (λx y=>cf x.l y.l) blk off size w:=by
 obtain⟨S,hs,hS⟩:=hc.ex;intro mm os dk hsz x y;obtain⟨W,hW⟩:∃W,Go.Proofs.sortWorld (wG h (R:=R)) w blk off mm dk os=W:=⟨_,rfl⟩
 rw[hW]
 have old:∀b,b<w.heap.size->b≠blk->W.heap[b]? =w.heap[b]? :=λb hb hne=>by
  rw[<-hW];show((Sort.putRow (wG h) (Sort.ahead w mm) blk off dk).heap++os)[b]? =_;have hs:(Sort.putRow (wG h) (Sort.ahead w mm) blk off dk).heap.size=w.heap.size:=by unfold Sort.putRow Sort.mapBlock;simp[Sort.ahead]
  rw[Array.getElem?_append_left aC];unfold Sort.putRow Sort.mapBlock;simp only[Array.getElem?_modify,if_neg (Ne.symm hne)];rfl
 have hvals:∀(l:List Value)(w:World),AR w (l.map .val) l:=λl w=>by
  induction l with
  |nil=>trivial
  |cons a l ih=>exact⟨rfl,ih⟩
 have nov:∀(l:List Value)(i:Nat)(c:CV)(u:Value)(b:Nat),(l.map CV.val)[i]? =some c->fM c u=some b->False:=λl i c u b hi hb=>by
  rw[List.getElem?_map]at hi;cases e:l[i]? with
  |none=>rw[e]at hi;cases hi
  |some v=>rw[e]at hi;simp at hi;subst hi;simp[fM]at hb
 have e1:[cS x.s,cS y.s]++cb.map .val=([wG h x,wG h y]++cb).map .val:=by simp[cS,wG]
 have hpre:v8 W m2 h ([cS x.s,cS y.s]++cb.map .val) ([wG h x,wG h y]++cb):=by
  rw[e1];refine⟨hvals _ _,?_,?_,hd,λi j c d u v b hi _ _ _ hb _=>(nov _ i c u b hi hb).elim,λi c u b hi _ hb=>(nov _ i c u b hi hb).elim⟩
  .intro b o v hv;obtain⟨h1,h2⟩:=hh b o v hv;rw[World.cell?_of_block (w:=w) (w':=W) (a:=⟨b,o,none⟩) (old b (World.block_lt_of_cell? w ⟨b,o,none⟩ h1) h2)];exact h1
  .intro b o hb;obtain⟨h1,h2⟩:=hm b o hb;rw[old b (Array.getElem?_eq_some_iff.1 h1).1 h2];exact h1
 have:=hs.2 _ _ m2 h W _ (hS x y) hpre;have e2:(([wG h x,wG h y]++cb).toArray:Array Value)= #[wG h x,wG h y]++cb.toArray:=by simp
 rw[e2]at this;refine this.mono ?_;rintro e w' ⟨r,u,m',h',rfl,⟨rfl,rfl,rfl⟩,hok,hw,_⟩;have hu:u= .int .i64 (cf x.l y.l):=hok;subst hu;refine⟨rfl,H0 hw.tape hw.os hw.output hw.drawn hw.size (λb hb=>?_)⟩;cases e3:m' b with
 |none=>
  refine hw.frame b hb ?_;rintro(h1|⟨i,c,u,hi,_,hc⟩)
  .exact h1 e3
  .rw[e1]at hi;exact nov _ i c u b hi hc
 |some o=>rw[hw.msat b o e3];exact(hpre.msat b o e3).symm
theorem J7{α:Type}[Inhabited α]{d d':Array α}(h:Sort.PermIn 0 d.size d d'):d'.toList.Perm d.toList:=by
 obtain⟨h1,_,h3⟩:=h;have e1:d.extract 0 d.size=d:=by simp
 have e2:d'.extract 0 d.size=d':=by rw[<-h1];simp
 rw[e1,e2]at h3;exact h3
theorem L5{h:PH}{R:List VV->Prop}:∀(ps:List (Sl×List VV)),(∀p∈ps,cR h p.1 p.2)->(∀p∈ps,R p.2)->∃ds:List (Cx h R),ds.map Cx.pr=ps
 |[],_,_=>⟨[],rfl⟩
 |p::ps,hv,hR=>by
  obtain⟨ds,hds⟩:=L5 (R:=R) ps (λq hq=>hv q (List.mem_cons_of_mem _ hq)) (λq hq=>hR q (List.mem_cons_of_mem _ hq));exact⟨⟨p.1,p.2,hv p (List.mem_cons_self ..),hR p (List.mem_cons_self ..)⟩::ds,by rw[List.map_cons,hds];rfl⟩
theorem LQ{R:List VV->Prop}{w:World}{m:MH}{h:PH}{s:Sl}{g:Nat}{cb:List Value}{ps:List (Sl×List VV)}{cf:List VV->List VV->Int}{m2:MH}{fnv:Value}(hfv:fnv= .func (.func g) #[] cb.toArray)
 (hp:v8 w m h [cS s,.val fnv] [s.val,fnv])(hg:∃gf,Tryz.prog.funcs[g]? =some gf/\gf.body.isSome=true/\(gf.name== "runtime.NumGoroutine")=false)(hr:dW m s 74 1 (ps.map λp=>eS p.1))(hv:∀p∈ps,cR h p.1 p.2)(hR:∀p∈ps,R p.2)(hlen:ps.length<=140737488355328)
 (hO:Sort.SWO (Go.Proofs.ltOf (fun(x y:Cx h R)=>cf x.l y.l)))(hc:aaQ Tryz.prog R g cb m2 h cf)(hm2:∀b o,m2 b=some o->m b=some o/\∀i,s.a≠some ⟨b,i,none⟩)
 {K:CV->MH->PH->Prop}(hK:∀(ps':List (Sl×List VV))(m':MH),ps'.Perm ps->ps'.Pairwise (λp q=>¬cf q.2 p.2<0)->dW m' s 74 1 (ps'.map λp=>eS p.1)->(∀b,(∀i,s.a≠some ⟨b,i,none⟩)->m' b=m b)->K (.tup []) m' h):
 Calls Tryz.prog 107 #[s.val,fnv] w λe w'=>∃r u m' h',e= .returned u/\K r m' h'/\Be w' r u/\tR ⟨w,pT m [cS s,.val fnv] [s.val,fnv],h,[]⟩ m' h' w'/\(∀b,fM r u=some b->(w.heap.size<=b\/pT m [cS s,.val fnv] [s.val,fnv] b)/\m' b=none/\∀i,h' b i=none):=by
 subst hfv;by_cases hps0:ps=[]
 .subst hps0;have hl0:s.len=0:=by have:=dW.slen hr;simpa using this
  have:=AnyF.slices_SortFunc_none Tryz.sortN s.a s.cap (.func (.func g) #[] cb.toArray) w;rw[show s.val= .slice s.a 0 s.cap by rw[<-hl0];rfl];refine Calls.mono (show Calls Tryz.prog 107 #[.slice s.a 0 s.cap,.func (.func g) #[] cb.toArray] w _ from this) ?_;rintro e w' ⟨rfl,rfl⟩;exact⟨.tup [],.tuple #[],m,h,rfl,hK [] m (.refl _) .nil hr (λ_ _=>rfl),⟨#[],rfl,rfl⟩,⟨rfl,rfl,rfl,Nat.le_refl _,Nat.le_refl _,λ_ _ _=>rfl,hp.hsat,hp.msat,hp.disj,λ_ _ _ e=>e,λ_ _ _=>rfl,λb o hb=>.inr (.inl (by rw[show m b=some o from hb];simp))⟩,λb hb=>by simp[fM]at hb⟩
 obtain⟨p0,hp0⟩:=List.exists_mem_of_ne_nil _ hps0
 haveI:Inhabited (Cx h R):=⟨⟨p0.1,p0.2,hv p0 hp0,hR p0 hp0⟩⟩
 rcases hr.ex with⟨rfl,hx⟩|⟨b,cap,cur,rfl,hm,h0,h1,h2,h3⟩
 .exact(hps0 (by simpa using hx)).elim
 .simp only[List.length_map]at h0 h3;have hgb:=hp.msat b _ hm;have hblt:=(Array.getElem?_eq_some_iff.1 hgb).1;obtain⟨ds,hds⟩:∃ds:List (Cx h R),ds.map Cx.pr=ps:=L5 ps hv hR;have hdl:ds.length=ps.length:=by rw[<-hds];simp
  have hcur:∀j,(hj:j<ds.length)->cur[j]? =some (wG h ds[j]):=λj hj=>by
   have:(cur.toList.take (ps.length*1))[j]? =((ps.map λp=>eS p.1).flatten)[j]? :=by rw[h3]
   rw[List.getElem?_take,if_pos aC,Array.getElem?_toList]at this;rw[this, <-hds]
   have hf:((ds.map Cx.pr).map λp:Sl×List VV=>eS p.1).flatten=ds.map (wG h):=by
    clear hds hdl hj this
    induction ds with
    |nil=>rfl
    |cons a l ih=>simp only[List.map_cons,List.flatten_cons,ih];rfl
   rw[hf];simp[hj]
  have hsz:cur.size=cap:=by simpa using h2
  have hH:Sort.Holds (wG h) w b 0 ds.toArray:=by
   intro j hj;have hj:j<ds.length:=by simpa using hj
   refine⟨?_,?_⟩
   .rw[cell_of_heap hgb,Array.getElem?_toList,Nat.zero_add,hcur j hj,getElem!_pos _ j (by simpa using hj)];simp
   .unfold World.frozen?;rw[hgb];simp
  obtain⟨gf,hgf,hgb2,hgn⟩:=hg
  have eg:∀args w,(callFunc g args).run Tryz.prog w= .ok (.enter g args) w:=λargs w=>by
   have hbn:¬gf.body=none:=by intro e;rw[e]at hgb2;cases hgb2
   have hnm:¬gf.name= "runtime.NumGoroutine" :=by simpa using hgn
   simp[callFunc,program,Sem.run,hgf,hnm,hbn]
  have hlay:=XH (blk:=b) (off:=0) (size:=ds.toArray.size) hc (w:=w) (λb' o v hv'=>⟨hp.hsat b' o v hv',λe=>by rw[e,hp.disj b _ hm o]at hv';cases hv'⟩) (λb' o hb'=>⟨hp.msat b' o (hm2 b' o hb').1,λe=>(hm2 b' o hb').2 0 (by rw[e])⟩) (λb' o hb'=>hp.disj b' o (hm2 b' o hb').1);have hcall:=Any.slices_SortFunc Tryz.sortF (wG h) (λ_=>rfl) (λx y=>cf x.l y.l) hO g cb.toArray b 0 cap ds.toArray w eg hlay hH hblt (by simp;omega);have e3:(Sl.val ⟨some ⟨b,0,none⟩,(ps.map λp=>eS p.1).length,cap⟩)= .slice (some ⟨b,0,none⟩) ds.toArray.size cap:=by simp[Sl.val,hdl]
  rw[e3];refine Calls.mono hcall ?_;rintro e w' ⟨rfl,d',n,os,hpm,hst,rfl⟩;have hd'sz:d'.size=ds.length:=by have:=hpm.1;simpa using this
  have hperm:=J7 hpm;obtain⟨m',hm'⟩:∃m',fV m m' b (.cells (Sort.putCells (wG h) 0 d' cur) 74 (0,0)):=⟨λb'=>if b'=b then some (.cells (Sort.putCells (wG h) 0 d' cur) 74 (0,0))else m b',by simp,λb' hb'=>by simp[hb']⟩
  have hs0:(Sort.putRow (wG h) (Sort.ahead w n) b 0 d').heap.size=w.heap.size:=by unfold Sort.putRow Sort.mapBlock;simp[Sort.ahead]
  have hnew:(Go.Proofs.sortWorld (wG h) w b 0 n d' os).heap[b]? =some (.cells (Sort.putCells (wG h) 0 d' cur) 74 (0,0)):=by
   show((Sort.putRow (wG h) (Sort.ahead w n) b 0 d').heap++os)[b]? =_;rw[Array.getElem?_append_left aC];unfold Sort.putRow Sort.mapBlock;simp only[Array.getElem?_modify,if_true];show Option.map _ w.heap[b]? =_;rw[hgb];rfl
  have hold:∀b',b'<w.heap.size->b'≠b->(Go.Proofs.sortWorld (wG h) w b 0 n d' os).heap[b']? =w.heap[b']? :=λb' hb' hne=>by
   show((Sort.putRow (wG h) (Sort.ahead w n) b 0 d').heap++os)[b']? =_;rw[Array.getElem?_append_left aC];unfold Sort.putRow Sort.mapBlock;simp only[Array.getElem?_modify,if_neg (Ne.symm hne)];rfl
  have hE:pT m [cS ⟨some ⟨b,0,none⟩,(ps.map λp=>eS p.1).length,cap⟩,.val (.func (.func g) #[] cb.toArray)] [.slice (some ⟨b,0,none⟩) ds.toArray.size cap,.func (.func g) #[] cb.toArray] b:=.inl (by rw[hm];simp);refine⟨.tup [],.tuple #[],m',h,rfl,hK (d'.toList.map Cx.pr) m' ?_ ?_ ?_ (λb' hb'=>hm'.other b' (λe=>hb' 0 (by rw[e]))),⟨#[],rfl,rfl⟩,⟨rfl,rfl,rfl,Nat.le_add_right _ _,?_,?_,?_,?_,?_,λ_ _ _ e=>e,λ_ _ _=>rfl,?_⟩,λb hb=>by simp[fM]at hb⟩
  .have:=hperm.map (λx:Cx h R=>x.pr);rw[<-hds];exact this
  .rw[List.pairwise_map,List.pairwise_iff_getElem];intro i j hi hj hij hlt;have hi:i<d'.size:=by simpa using hi
   have hj:j<d'.size:=by simpa using hj
   have:=hst i j (Nat.zero_le _) hij (by simp;omega);rw[getElem!_pos d' i hi,getElem!_pos d' j hj]at this;unfold Go.Proofs.ltOf at this;simp only[decide_eq_false_iff_not]at this;simp only[Array.getElem_toList]at hlt;exact this hlt
  .refine⟨⟨λe he=>?_,λe he u hu=>?_⟩,.inr ⟨b,cap,_,?_,hm'.at_,by simp;omega,h1,?_,?_⟩⟩
   .obtain⟨x,_,rfl⟩:=List.mem_map.1 he;rfl
   .obtain⟨x,_,rfl⟩:=List.mem_map.1 he;have:u= .slice x.1.a x.1.len x.1.cap:=by simpa[eS]using hu
    rw[this];rfl
   .simp[hd'sz,hdl]
   .simp[Sort.putCells,hsz]
   .apply List.ext_getElem?;intro j
    have hf:((d'.toList.map Cx.pr).map λp:Sl×List VV=>eS p.1).flatten=d'.toList.map (wG h):=by
     generalize d'.toList=l
     induction l with
     |nil=>rfl
     |cons a l ih=>simp only[List.map_cons,List.flatten_cons,ih];rfl
    rw[hf,List.getElem?_take];simp only[List.length_map,Array.length_toList,Nat.mul_one];by_cases hj:j<d'.size
    .rw[if_pos hj,Array.getElem?_toList,List.getElem?_map,Array.getElem?_toList,Array.getElem?_eq_getElem hj];have hjc:j<cur.size:=by omega
     simp only[Sort.putCells,Array.getElem?_mapIdx,Array.getElem?_eq_getElem hjc,Option.map_some,Nat.zero_le,Nat.zero_add,Nat.sub_zero,true_and];rw[if_pos hj,getElem!_pos d' j hj]
    .rw[if_neg hj,List.getElem?_eq_none (by simp;omega)]
  .show w.heap.size<=(Sort.grow _ os).heap.size;rw[Sort.size_grow,hs0];omega
  .intro b' hb' hn;exact hold b' hb' (λe=>hn (e▸hE))
  .intro b' o v hv';have hne:b'≠b:=λe=>by rw[e,hp.disj b _ hm o]at hv';cases hv'
   have h5:=hp.hsat b' o v hv';rw[World.cell?_of_block (w:=w) (a:=⟨b',o,none⟩) (hold b' (World.block_lt_of_cell? w ⟨b',o,none⟩ h5) hne)];exact h5
  .intro b' o hb';by_cases e:b'=b
   .subst e;rw[hm'.at_]at hb';cases hb';exact hnew
   .rw[hm'.other b' e]at hb';have h5:=hp.msat b' o hb';rw[hold b' (Array.getElem?_eq_some_iff.1 h5).1 e];exact h5
  .intro b' o hb' i;by_cases e:b'=b
   .subst e;exact hp.disj b' _ hm i
   .rw[hm'.other b' e]at hb';exact hp.disj b' o hb' i
  .intro b' o hb';by_cases e:b'=b
   .subst e;exact .inr hE
   .rw[hm'.other b' e]at hb';exact .inr (.inl (by rw[hb'];simp))
end Go.Ps
namespace Go.Vc
open Go
theorem dW.rd{m:MH}{h:PH}{s:Sl}{E sz:Nat}{xs:List (List Value)}(r:dW m s E sz xs){i:Nat}{e:List Value}(hi:xs[i]? =some e):∃b,s.a=some ⟨b,0,none⟩/\aM m h b (i*sz) e:=by
 rcases r.ex with⟨_,rfl⟩|⟨b,cap,cur,rfl,hm,h1,h2,h3,h4⟩
 .simp at hi
 .refine⟨b,rfl,.lent cur E (0,0) hm ?_⟩;have hlt:=(List.getElem?_eq_some_iff.1 hi).1;have hel:=r.rows.len e (List.mem_of_getElem? hi)
  have hfl:∀(l:List (List Value))(k:Nat),(∀x∈l,x.length=sz)->l[k]? =some e->(l.flatten.drop (k*sz)).take sz=e:=by
   intro l
   induction l with
   |nil=>intro k _ hk;simp at hk
   |cons a l ih=>
    intro k hl hk;have ha:=hl a (List.mem_cons_self ..);cases k with
    |zero=>
     simp at hk;subst hk;rw[List.flatten_cons,Nat.zero_mul,List.drop_zero, <-ha,List.take_left]
    |succ k=>
     rw[List.flatten_cons,Nat.succ_mul,Nat.add_comm, <-List.drop_drop, <-ha,List.drop_left,ha];exact ih k (λx hx=>hl x (List.mem_cons_of_mem _ hx)) (by simpa using hk)
  have h5:=hfl xs i r.rows.len hi;rw[hel];rw[<-h4]at h5;rw[List.drop_take,List.take_take]at h5
  have:min sz (xs.length*sz-i*sz)=sz:=by
   rw[<-Nat.sub_mul];have:1*sz<=(xs.length-i)*sz:=Nat.mul_le_mul_right _ aC;omega
  rw[this]at h5;exact h5
theorem oW.sub{m m':MH}{h:PH}{s:Sl}{sz:Nat}{ys:List (List Value)}(r:oW m h s sz ys)(hs:∀b o,m b=some o->m' b=some o):oW m' h s sz ys:=by
 rcases r with r|⟨b,o,cs,E,fz,h1,h2,h3,h4⟩
 .exact .imm r
 .exact .lent b o cs E fz h1 h2 (hs _ _ h3) h4
theorem dW.src{m:MH}{h:PH}{s:Sl}{E sz:Nat}{xs:List (List Value)}(r:dW m s E sz xs):oW m h s sz xs:=by
 rcases r.ex with⟨rfl,rfl⟩|⟨b,cap,cur,rfl,hm,h1,h2,h3,h4⟩
 .exact .imm (cW.nil h sz)
 .refine .lent b 0 cur E (0,0) rfl rfl hm ?_;have:xs.flatten.length=xs.length*sz:=cD r.rows.len;rw[List.drop_zero,this];exact h4
end Go.Vc
namespace Go.Ps
open Go Go.Vc Go.Proofs
variable{K:CV->MH->PH->Prop}{m:MH}{h:PH}{s:pV}{ps:List Int}{cb:Nat}{sc:bH}{v:QV}{q:Query}{p:Pred}{l:List Int}{i:Nat}{N:Nat}{m':MH}{h':PH}{co:List Int}{gr:List Int}{od:List (Int×Bool)}{w:Pred}{ta:Int}{li:Int}{xs:List (List Value)}{sz:Nat}{k:Nat}{ks:List (List Int)}{rs:List Int}{r:Sl}{a:List Int}{b:Nat}
structure Nv{α:Type}(c:α->α->Int):Prop where
 anti:∀x y,c x y= -c y x
 trans:∀x y z,c x y<=0->c y z<=0->c x z<=0
theorem Nv.zero{α:Type}{c:α->α->Int}(h:Nv c){x y z:α}(h1:c x y<=0)(h2:c y z<=0)(h3:c x z=0):c x y=0/\c y z=0:=by
 have a1:=h.anti x z;have a2:=h.anti x y;have a3:=h.anti y z;have t1:=h.trans z x y aC h1;have t2:=h.trans y z x h2 aC;omega
theorem N8{c d:Int}(h:(if c≠0 then c else d)<=0):c<=0:=by
 split at h
 .exact h
 .omega
theorem Nv.lex{α:Type}{c d:α->α->Int}(h:Nv c)(k:Nv d):Nv (λx y=>if c x y≠0 then c x y else d x y):=by
 refine⟨λx y=>?_,λx y z h1 h2=>?_⟩
 .have a:=h.anti x y;have b:=k.anti x y;show(if c x y≠0 then c x y else d x y)= -(if c y x≠0 then c y x else d y x)
  by_cases e:c x y=0
  .rw[if_neg (by simpa using e),if_neg (by have:c y x=0:=by omega
                                           simpa using this)];exact b
  .rw[if_pos e,if_pos aC];exact a
 .have l1:c x y<=0:=N8 h1;have l2:c y z<=0:=N8 h2;have l3:=h.trans x y z l1 l2;show(if c x z≠0 then c x z else d x z)<=0;by_cases e:c x z=0
  .obtain⟨z1,z2⟩:=h.zero l1 l2 e;have h1:(if c x y≠0 then c x y else d x y)<=0:=h1;have h2:(if c y z≠0 then c y z else d y z)<=0:=h2;rw[if_neg (by simpa using z1)]at h1;rw[if_neg (by simpa using z2)]at h2;rw[if_neg (by simpa using e)];exact k.trans x y z h1 h2
  .rw[if_pos e];exact l3
theorem Nv.of{α β:Type}{c:α->α->Int}(h:Nv c)(f:β->α):Nv (λx y=>c (f x) (f y)):=⟨λx y=>h.anti _ _,λx y z=>h.trans _ _ _⟩
theorem Q4:Nv zO:=by
 refine⟨λx y=>?_,λx y z=>?_⟩
 .unfold zO;split<;>split<;>(first|omega|(split<;>omega))
 .unfold zO;intro h1 h2;split at h1<;>split at h2<;>(repeat' split at*)<;>omega
theorem Ng:∀a b:List UInt8,Lib.compareBytes a b= -Lib.compareBytes b a
 |[],[]=>rfl
 |[],_::_=>rfl
 |_::_,[]=>rfl
 |a::l,b::k=>by
  simp only[Lib.compareBytes];by_cases h1:a<b
  .have h2:¬b<a:=λh=>absurd (UInt8.lt_trans h1 h) (UInt8.lt_irrefl _);simp[h1,h2]
  .by_cases h2:b<a
   .simp[h1,h2]
   .simp only[h1,h2,if_false];exact Ng l k
theorem K9:∀a b c:List UInt8,Lib.compareBytes a b<=0->Lib.compareBytes b c<=0->Lib.compareBytes a c<=0
 |[],_,[],_,_=>by simp[Lib.compareBytes]
 |[],_,_::_,_,_=>by simp[Lib.compareBytes]
 |_::_,[],_,h1,_=>by simp[Lib.compareBytes]at h1
 |_::_,_::_,[],_,h2=>by simp[Lib.compareBytes]at h2
 |a::l,b::k,c::q,h1,h2=>by
  simp only[Lib.compareBytes]at h1 h2⊢
  by_cases ac:a<c
  .simp[ac]
  .by_cases ab:a<b
   .have bc:¬b<c:=λh=>ac (UInt8.lt_trans ab h);have cb:c<b:=UInt8.lt_of_le_of_lt (UInt8.not_lt.1 ac) ab;simp[bc,cb]at h2
   .by_cases ba:b<a
    .simp[ab,ba]at h1
    .have e:a=b:=UInt8.le_antisymm (UInt8.not_lt.1 ba) (UInt8.not_lt.1 ab);subst e;simp only[ab,ac,if_false]at h1 h2⊢
     by_cases ca:c<a
     .simp[ca]at h2
     .simp only[ca,if_false]at h2⊢
      exact K9 l k q h1 h2
theorem GD:Nv kT:=by
 have hT:Nv LH:=⟨λx y=>Ng _ _,λx y z=>K9 _ _ _⟩
 exact(Q4.of VV.kind).lex ((Q4.of VV.int).lex (hT.of VV.text))
theorem lP:∀a b,eE a b= -eE b a
 |[],[]=>rfl
 |[],_::_=>rfl
 |_::_,[]=>rfl
 |x::l,y::k=>by
  have a:=GD.anti x y;simp only[eE];by_cases e:kT x y=0
  .rw[if_neg (by simpa using e),if_neg (by have:kT y x=0:=by omega
                                           simpa using this)];exact lP l k
  .rw[if_pos e,if_pos aC];exact a
theorem zL:∀a b c,eE a b<=0->eE b c<=0->eE a c<=0
 |[],_,[],_,_=>by simp[eE]
 |[],_,_::_,_,_=>by simp[eE]
 |_::_,[],_,h1,_=>by simp[eE]at h1
 |_::_,_::_,[],_,h2=>by simp[eE]at h2
 |x::l,y::k,z::q,h1,h2=>by
  simp only[eE]at h1 h2⊢
  have l1:kT x y<=0:=N8 h1;have l2:kT y z<=0:=N8 h2;have l3:=GD.trans x y z l1 l2;by_cases e:kT x z=0
  .obtain⟨z1,z2⟩:=GD.zero l1 l2 e;rw[if_neg (by simpa using z1)]at h1;rw[if_neg (by simpa using z2)]at h2;rw[if_neg (by simpa using e)];exact zL l k q h1 h2
  .rw[if_pos e];exact l3
theorem C9:Nv eE:=⟨lP,zL⟩
theorem Nv.swo{R:List VV->Prop}{cf:List VV->List VV->Int}(c:Nv cf):Sort.SWO (Go.Proofs.ltOf (fun(x y:Cx h R)=>cf x.l y.l)):=by
 refine⟨λx=>?_,λx y z h1 h2=>?_,λx y z h1 h2=>?_⟩
 .have:=c.anti x.l x.l;unfold Go.Proofs.ltOf;simp;omega
 .unfold Go.Proofs.ltOf at*
  simp only[decide_eq_true_eq]at*
  have t:=c.trans x.l y.l z.l aC aC;by_cases e:cf x.l z.l=0
  .have:=c.zero (x:=x.l) (y:=y.l) (z:=z.l) aC aC e;omega
  .omega
 .unfold Go.Proofs.ltOf at*
  simp only[decide_eq_false_iff_not]at*
  have a1:=c.anti x.l y.l;have a2:=c.anti y.l z.l;have a3:=c.anti x.l z.l;have t:=c.trans z.l y.l x.l aC aC;omega
def Hf(x:List VV):List (List VV)->List (List VV)
 |[]=>[x]
 |y::l=>if eE x y<0 then x::y::l else if eE x y=0 then y::l else y::Hf x l
def Bk(l:List (List VV)):List (List VV):=l.foldr Hf []
abbrev tS(l:List (List VV)):Prop:=l.Pairwise λx y=>eE x y<0
theorem Kw{x z:List VV}:∀{l:List (List VV)},z∈Hf x l↔z=x\/z∈l
 |[]=>by simp[Hf]
 |y::l=>by
  simp only[Hf];split
  .simp
  .split
   .rename_i _ e;have:=jQ.1 e;subst this;simp
   .simp only[List.mem_cons,Kw (l:=l)];exact⟨λh=>by rcases h with h|h|h<;>simp[h],λh=>by rcases h with h|h|h<;>simp[h]⟩
theorem Ip{x:List VV}:∀{l:List (List VV)},tS l->tS (Hf x l)
 |[],_=>by simp[Hf]
 |y::l,h=>by
  obtain⟨h1,h2⟩:=List.pairwise_cons.1 h;simp only[Hf];split
  .rename_i hlt;refine List.pairwise_cons.2 ⟨λz hz=>?_,h⟩;rcases List.mem_cons.1 hz with rfl|hz
   .exact hlt
   .have t:=zL x y z aC (by have:=h1 z hz;omega);by_cases e:eE x z=0
    .have:=C9.zero (x:=x) (y:=y) (z:=z) aC (by have:=h1 z hz;omega) e;omega
    .omega
  .split
   .exact h
   .rename_i n1 n2;refine List.pairwise_cons.2 ⟨λz hz=>?_,Ip h2⟩;rcases Kw.1 hz with rfl|hz
    .have:=lP z y;omega
    .exact h1 z hz
theorem Fo{x:List VV}:∀{l:List (List VV)},x∈Bk l↔x∈l
 |[]=>by simp[Bk]
 |y::l=>by
  show x∈Hf y (Bk l)↔_;rw[Kw,Fo,List.mem_cons]
theorem CF:∀(l:List (List VV)),tS (Bk l)
 |[]=>.nil
 |_::l=>Ip (CF l)
theorem JS:∀{a b:List (List VV)},tS a->tS b->(∀x,x∈a↔x∈b)->a=b
 |[],[],_,_,_=>rfl
 |[],y::_,_,_,h=>by have:=(h y).2 (by simp);simp at this
 |x::_,[],_,_,h=>by have:=(h x).1 (by simp);simp at this
 |x::a,y::b,ha,hb,h=>by
  obtain⟨a1,a2⟩:=List.pairwise_cons.1 ha;obtain⟨b1,b2⟩:=List.pairwise_cons.1 hb;have irr:∀z,¬eE z z<0:=λz=>by have:=lP z z;omega
  have e:x=y:=by
   rcases List.mem_cons.1 ((h x).1 (by simp))with e|h1
   .exact e
   .rcases List.mem_cons.1 ((h y).2 (by simp))with e|h2
    .exact e.symm
    .have l1:=a1 y h2;have l2:=b1 x h1;have:=lP x y;omega
  subst e;congr 1;refine JS a2 b2 (λz=>⟨λhz=>?_,λhz=>?_⟩)
  .rcases List.mem_cons.1 ((h z).1 (List.mem_cons_of_mem _ hz))with rfl|h1
   .exact absurd (a1 z hz) (irr z)
   .exact h1
  .rcases List.mem_cons.1 ((h z).2 (List.mem_cons_of_mem _ hz))with rfl|h1
   .exact absurd (b1 z hz) (irr z)
   .exact h1
theorem TP{l r:List (List VV)}(h1:tS r)(h2:∀x,x∈r↔x∈l):r=Bk l:=JS h1 (CF l) λx=>by rw[h2,Fo]
def US:Vc.Spec:=λcvs m h K=>∃(s:Sl)(us:List Sl),cvs=[cS s]/\oW m h s 1 (us.map eS)/\us.length<=502633886983/\∀s' m',dW m' s' 74 1 (us.map eS)->(∀b o,m b=some o->m' b=some o)->(∀b i,s'.a=some ⟨b,i,none⟩->m b=none)->K (cS s') m' h
def XS:Vc.Spec:=λcvs m h K=>∃(s:Sl)(ps:List (Sl×List VV)),cvs=[cS s,.val (.func (.func 71) #[] #[])]/\dW m s 74 1 (ps.map λp=>eS p.1)/\(∀p∈ps,cR h p.1 p.2)/\ps.length<=140737488355328/\
 ∀(ps':List (Sl×List VV))(m':MH),ps'.Perm ps->ps'.Pairwise (λp q=>¬eE q.2 p.2<0)->dW m' s 74 1 (ps'.map λp=>eS p.1)->(∀b,(∀i,s.a≠some ⟨b,i,none⟩)->m' b=m b)->K (.tup []) m' h
structure fD(h:PH)(us:List Sl)(rs:List (List VV)):Prop where
 len:us.length=rs.length
 at_:∀(j:Nat) x,rs[j]? =some x->∃u,us[j]? =some u/\cR h u x
def ZF:Vc.Spec:=λcvs m h K=>∃s us l,cvs=[cS s]/\oW m h s 1 (us.map eS)/\fD h us l/\l.length<=502633886983/\∀s' h',PH.le h h'->Rows h' s' (Bk l)->K (cS s') m h'
noncomputable def YP:Ctx:=
 dN [(106,US),(107,XS),(71,GK)] [(5,{A:=Nat×List Sl×Sl×MH×PH,st:=λ⟨i,us,s,m,h⟩=>cE 38 39 [(3,sv s),(4,.at (.lst 35)),(11,sv s),(12,iv s.len),(13,iv i)] [(35,.lst 74 1 (us.map eS))] m h})] [] [] false
def KZ(n c:Nat)(m:MH)(h:PH)(K:CV->MH->PH->Prop):Prop:=
  K Dc m h
theorem XB(n c:Nat)(m:MH)(h:PH)(K:CV->MH->PH->Prop):KZ n c m h K=(zJ (wH [] [] [] [] [53,1053] [] false) Tryz.f106 (cQ Tryz.f106) (entry Tryz.f106.ntmps [.val (.slice none n c)] m h) K):=by kernel_rfl
abbrev iH(a:Sl->MH->Prop):Prop:=∀(x:Sl)(x1:MH),a x x1
abbrev BE(a:Prop)(b:(List (List Value))->Prop):Prop:=a/\∃(x:List (List Value)),b x
attribute [push_cast] iH BE
def KY(a:Addr)(n c:Nat)(m:MH)(h:PH)(K:CV->MH->PH->Prop):Prop:=
  iH (λs m1=>nY m m1 h s 74 1 []->∃(x:List (List Value)),BE (dW m1 (dR s) 74 1 x) (λy=>aA (eV 1 y) (oW m1 h (Sl.mk (Option.some a) n c) 1 y) (aA (sJ x y 24) (sK x y) (iH (λs1 m2=>eZ m1 m2 (dR s) s1 74 1 (x++y)->K (kU s1) m2 h)))))
theorem XA(a:Addr)(n c:Nat)(m:MH)(h:PH)(K:CV->MH->PH->Prop):KY a n c m h K=(zJ (wH [] [] [] [] [53,1053] [] false) Tryz.f106 (cQ Tryz.f106) (entry Tryz.f106.ntmps [.val (.slice (some a) n c)] m h) K):=by kernel_rfl
abbrev EL(a:Nat):Prop:=a<=502633886983
abbrev FM(a:Sl)(b:Nat)(c:List Sl)(d:MH->Nat->Obj->Prop)(e:Nat->Prop)(g:MH->Prop):Prop:=∀(x:MH),bC (dW x a 74 b (rL c)) (∀(x1:Nat)(x2:Obj),d x x1 x2) ((∀(x1 x2:Nat),aU a.a x1 x2->e x1)->g x)
abbrev B0(a:MH)(b:Nat):Prop:=a b=Option.none
abbrev FN(a:MH)(b:Sl)(c:Nat)(d:List (Sl×List VV)):Prop:=dW a b 74 c (List.map (fun(x:Sl×List VV)=>aR x.1) d)
abbrev F4(a:(Nat×List Sl×Sl×MH×PH->Prop)->(Nat×List Sl×Sl×MH×PH)->Prop)(b:(Nat×List Sl×Sl×MH×PH->Prop)->(Nat×List Sl×Sl×MH×PH->Nat)->(Nat×List Sl×Sl×MH×PH)->Prop):Prop:=∃(x:Nat×List Sl×Sl×MH×PH->Prop)(x1:Nat×List Sl×Sl×MH×PH->Nat),(∃(x2:Nat×List Sl×Sl×MH×PH),a x x2)/\∀(x2:Nat×List Sl×Sl×MH×PH),b x x1 x2
noncomputable abbrev dL(a:Nat×List Sl×Sl×MH×PH):Sl:=a.2.2.1
noncomputable abbrev iF(a:Nat×List Sl×Sl×MH×PH):List (List Value):=rL a.2.1
noncomputable abbrev fE(a:Nat×List Sl×Sl×MH×PH):MH×PH:=a.2.2.2
noncomputable abbrev lH(a:Nat×List Sl×Sl×MH×PH):Nat->Nat->Option Value:=(fE a).2
noncomputable abbrev BJ(a:List (List Value)):Nat:=0+a.length
abbrev G7(a b:Prop)(c:(Nat×List Sl×Sl×MH×PH)->Prop):Prop:=aA a b (∃(x:Nat×List Sl×Sl×MH×PH),c x)
abbrev sQ(a b:List (List Value)):Prop:=dJ 74 1 a=dJ 74 1 b
attribute [push_cast] EL FM B0 FN F4 dL iF fE lH BJ G7 sQ
def KG(s:Sl)(m:MH)(h:PH)(K:CV->MH->PH->Prop):Prop:=
  ∃(s1:Sl)(u:List Sl),aH (vT s s1) (oW m h s1 1 (rL u)) (EL u.length) (∀(s2:Sl),FM s2 1 u (λm1 b o=>m b=Option.some o->m1 b=Option.some o) (λb=>B0 m b) (λm1=>∃(s3:Sl)(p:List (Sl×List VV)),aA (fW s2 (xQ 71)=fW s3 (xQ 71)) (FN m1 s3 1 p) (aA (∀(p1:Sl×List VV),List.Mem p1 p->cR h p1.1 p1.2) (iB p.length) (∀(p1:List (Sl×List VV))(m2:MH),bC (List.Perm p1 p) (List.Pairwise (fun(p2:Sl×List VV)=>fun(q:Sl×List VV)=>¬(eE q.2 p2.2<0)) p1) (bC (FN m2 s3 1 p1) (∀(b:Nat),(∀(i:Nat),jU (aU s3.a b i))->m2 b=m1 b) (F4 (λI x=>aA (I x) (aZ s2 (dL x)) (aA (eL 35) (aZ s2 (dL x)) (aA (cH s2 (dL x)) (bG x.1) (aA (uJ 74 1 (iF x)) (cO m2 (fE x)) (kI h (fE x)))))) (λI m3 x=>I x->
 bD (↑x.1:Int) (aG (dL x)) (aT (λb o=>aH (aU (dL x).a b o) (0<=(↑x.1:Int)) ((↑x.1:Int)<aG (dL x)) (∃(y:Sl),aM (fE x).1 (lH x) b (bB o x.1 1) (aR y)/\eJ (↑x.1:Int) 0 (∃(y1:List (List Value)),aA (eV 3 y1) (cW (lH x) (dR y) 3 y1) (aA (iB (BJ y1*32)) (iB (BJ y1)) (aX (lH x) 3 ([]++y1) (λs4 h1=>G7 (iB (((iF x).length+1)*24)) (iX (iF x)) (λx1=>aA (I x1) (m3 x1<m3 x) (aA (aZ (dL x) (dL x1)) (eL 35) (aA (aZ (dL x) (dL x1)) (cH (dL x) (dL x1)) (aA (gS (aW x.1 1)=bX x1.1) (sQ (kB (iF x) s4) (iF x1)) (aA (cO (fE x).1 (fE x1)) (dO h1 (fE x1)) True))))))))) (aT (λb1 o1=>aH (aU (dL x).a b1 o1) (0<=eB ((↑x.1:Int)-1)) (eB ((↑x.1
 :Int)-1)<aG (dL x)) (∃(y1:Sl),aM (fE x).1 (lH x) b1 (fL o1 (eB ((↑x.1:Int)-1)) 1) (aR y1)/\z8 y1 y (lH x) (λa b2=>fQ (eE a b2) 0 (∃(y2:List (List Value)),aA (eV 3 y2) (cW (lH x) (dR y) 3 y2) (aA (iB (BJ y2*32)) (iB (BJ y2)) (aX (lH x) 3 ([]++y2) (λs4 h1=>G7 (iB (((iF x).length+1)*24)) (iX (iF x)) (λx1=>aA (I x1) (m3 x1<m3 x) (aA (aZ (dL x) (dL x1)) (eL 35) (aA (aZ (dL x) (dL x1)) (cH (dL x) (dL x1)) (aA (gS (aW x.1 1)=bX x1.1) (sQ (kB (iF x) s4) (iF x1)) (aA (cO (fE x).1 (fE x1)) (dO h1 (fE x1)) True))))))))) (∃(x1:Nat×List Sl×Sl×MH×PH),aA (I x1) (m3 x1<m3 x) (aA (aZ (dL x) (dL x1)) (eL 35) (aA (aZ (dL x) (dL
 x1)) (cH (dL x) (dL x1)) (aA (gS (aW x.1 1)=bX x1.1) (sQ (iF x) (iF x1)) (aA (cO (fE x).1 (fE x1)) (dO (lH x) (fE x1)) True)))))))))))) (aX (lH x) 1 (iF x) (λs4 h1=>K (kU s4) (fE x).1 h1)))))))))
theorem AU(l:List Sl):eV 1 (l.map eS):=by
 constructor
 .intro e he;obtain⟨x,_,rfl⟩:=List.mem_map.1 he;rfl
 .intro e he u hu;obtain⟨x,_,rfl⟩:=List.mem_map.1 he;have:u= .slice x.a x.len x.cap:=by simpa[eS]using hu
  rw[this];rfl
theorem J1(l:List VV):eV 3 (l.map VV.enc):=by
 constructor
 .intro e he;obtain⟨x,_,rfl⟩:=List.mem_map.1 he;rfl
 .intro e he u hu;obtain⟨x,_,rfl⟩:=List.mem_map.1 he;simp only[VV.enc,List.mem_cons,List.not_mem_nil,or_false]at hu;rcases hu with rfl|rfl|rfl<;>rfl
theorem Te:Sound Tryz.prog 106 US:=by
 refine fA (fn:=Tryz.f106) (c:=cQ Tryz.f106) Tryz.func106 rfl (by decide) ?_;rintro cvs m h K ⟨s,us,rfl,hr,hl,hK⟩;obtain⟨a,n,c⟩:=s;refine⟨wH [] [] [] [] [53,1053] [] false,rfl,aF,?_⟩;cases a with
 |none=>
  show zJ _ Tryz.f106 (cQ Tryz.f106) (entry Tryz.f106.ntmps [.val (.slice none n c)] m h) K;rw[<-XB n c m h K];dsimp only[KZ,push_cast]
  have e:us.map eS=[]:=by
   rcases hr with hr|⟨b,o,cs,E,fz,e,_⟩
   .rcases hr.row with e|⟨b,o,e,_⟩
    .exact e
    .cases e
   .cases e
  rw[e]at hK;exact hK ⟨none,0,0⟩ m ⟨⟨(λe he=>by cases he),(λe he=>by cases he)⟩,.inl ⟨rfl,rfl⟩⟩ (λb o e=>e) (λb i e=>by cases e)
 |some a=>
  show zJ _ Tryz.f106 (cQ Tryz.f106) (entry Tryz.f106.ntmps [.val (.slice (some a) n c)] m h) K;rw[<-XA a n c m h K];dsimp only[KY,push_cast];intro s m' hnew
  have sub:∀b o,m b=some o->m' b=some o:=λb o hb=>by
   rw[hnew.other b (λi e=>by rw[(hnew.fresh b i e).m_]at hb;cases hb)];exact hb
  refine⟨[],hnew.row,us.map eS,AU us,hr.sub sub,by simp;omega,by simp;omega,λs' m2 hg=>hK s' m2 (by simpa using hg.row) (λb o hb=>?_) (λb i e=>?_)⟩
  .exact hg.other b o (sub b o hb) (λi e=>by have e:s.a=some ⟨b,i,none⟩:=e;rw[(hnew.fresh b i e).m_]at hb;cases hb)
  .rcases hg.fresh b i e with h1|⟨j,h1⟩
   .cases e2:m b with
    |none=>rfl
    |some o=>rw[sub b o e2]at h1;cases h1
   .exact(hnew.fresh b j h1).m_
theorem QS:Sound Tryz.prog 107 XS:=by
 refine⟨⟨Tryz.f107,Tryz.func107,rfl,by decide⟩,?_⟩;rintro cvs vs m h w K ⟨s,ps,rfl,hr,hv,hl,hK⟩ hp
 obtain⟨v,v2,rfl⟩:∃v v2,vs=[v,v2]:=by
  have:=(nR hp.args).1
  match vs,this with
  |[v,v2],_=>exact⟨v,v2,rfl⟩
 have h1:v=s.val:=hp.args.1;have h2:v2= .func (.func 71) #[] #[]:=hp.args.2.1;subst h1 h2;refine LQ (R:=λ_=>True) (g:=71) (cb:=[]) (m2:=λ_=>none) (cf:=eE) rfl hp ⟨Tryz.f71,Tryz.func71,rfl,by decide⟩ hr hv (λ_ _=>trivial) hl C9.swo ⟨GK,DZ,λx y=>⟨x.s,y.s,x.l,y.l,rfl,x.ok,y.ok,rfl,rfl,rfl⟩⟩ (λb o hb=>by cases hb) hK
theorem fD.mono{us:List Sl}{rs:List (List VV)}(x:fD h us rs)(le:PH.le h h'):fD h' us rs:=⟨x.len,λj r hr=>(x.at_ j r hr).imp λ_ hu=>⟨hu.1,cR.mono hu.2 le⟩⟩
theorem fD.nil(h:PH):fD h [] []:=⟨rfl,λj x hx=>by simp at hx⟩
theorem fD.snoc{us:List Sl}{rs:List (List VV)}(x:fD h us rs){u:Sl}{r:List VV}(hv:cR h u r):fD h (us++[u]) (rs++[r]):=by
 refine⟨by simp[x.len],λj y hy=>?_⟩;by_cases hj:j<rs.length
 .rw[List.getElem?_append_left hj]at hy;obtain⟨v,h1,h2⟩:=x.at_ j y hy;exact⟨v,by rw[List.getElem?_append_left (by rw[x.len];exact hj)];exact h1,h2⟩
 .rw[List.getElem?_append_right aC]at hy;have:=(List.getElem?_eq_some_iff.1 hy).1;simp at this;have e:j=rs.length:=by omega
  subst e;simp at hy;subst hy;exact⟨u,by rw[List.getElem?_append_right (by rw[x.len];exact Nat.le_refl _),x.len];simp,hv⟩
theorem fD.rows{h:PH}{us:List Sl}{rs:List (List VV)}{s:Sl}(x:fD h us rs)(hr:cW h s 1 (us.map eS))(hl:rs.length<=502633886983):Rows h s rs:=⟨⟨us,hr,x.len.symm,x.at_⟩,hl⟩
structure TA(ps':List (Sl×List VV))(s1:Sl)(m2:MH)(h:PH)(i:Nat)(us2:List Sl)(s2:Sl)(mx:MH)(hx:PH):Prop where
 s_:s2=s1
 m_:mx=m2
 le:PH.le h hx
 hi:i<=ps'.length
 hu:us2.length<=i
 ex:∃rs,fD hx us2 rs/\tS rs/\∀x,x∈rs↔x∈(ps'.take i).map Prod.snd
theorem IC{hx:PH}{u:Sl}{r:List VV}{us:List Sl}{Q:Sl->PH->Prop}(hpv:cR hx u r)(hl:us.length<=502633886983)(hQ:∀s h',hx.le h'->cR h' s r->Q s h'):
 ∃ys:List (List Value),eV 3 ys/\cW hx (Sl.mk u.a u.len u.cap) 3 ys/\(0+ys.length)*32<=140737488355328/\0+ys.length<=140737488355328/\∀(s:Sl)(h':PH),hx.le h'->cW h' s 3 ([]++ys)->
  ((List.map eS us).length+1)*24<=140737488355328/\(List.map eS us).length<140737488355328/\Q s h':=by
 obtain⟨vs,h1,h2,h3⟩:=hpv.ex;have hn:=hpv.len;refine⟨vs.map VV.enc,J1 vs,h1,by rw[List.length_map];omega,by rw[List.length_map];omega,λs h' le hr=>⟨by rw[List.length_map];omega,by rw[List.length_map];omega,hQ s h' le ⟨⟨vs,hr,h2,h3⟩,hn⟩⟩⟩
theorem aeJ{s:Sl}{us:List Sl}{l:List (List VV)}(hr:oW m h s 1 (us.map eS))(hru0:fD h us l)(hll:l.length<=502633886983)(hK:∀s' h',PH.le h h'->Rows h' s' (Bk l)->K (cS s') m h'):KG s m h (lE h K):=by
 dsimp only[KG,push_cast];have hul:=hru0.len.symm;have hat:=hru0.at_;refine⟨s,us,rfl,hr,aC,λs1 m1 hrow1 hsub1 hfr1=>⟨s1,us.zip l,rfl,?_,λp hp=>?_,by simp;omega,λps' m2 hperm hpw hrow2 hoth2=>?_⟩⟩
 .have:(us.zip l).map (λp=>[eR p.1])=us.map eS:=by
   rw[show(λp:Sl×List VV=>[eR p.1])=eS∘Prod.fst from rfl, <-List.map_map,List.map_fst_zip aC]
  rw[this];exact hrow1
 .obtain⟨j,hj⟩:=List.getElem?_of_mem hp;rw[List.getElem?_zip_eq_some]at hj;obtain⟨u,h1,h2⟩:=hat j p.2 hj.2;rw[hj.1]at h1;cases h1;exact h2
 .have hpl:ps'.length=us.length:=by rw[hperm.length_eq];simp;omega
  have hs1l:=dW.slen hrow2;simp only[List.length_map]at hs1l
  have hvs:∀{i:Nat}{p:Sl×List VV},ps'[i]? =some p->cR h p.1 p.2:=fun{i p} hp=>by
   have:=hperm.mem_iff.1 (List.mem_of_getElem? hp);obtain⟨j,hj⟩:=List.getElem?_of_mem this;rw[List.getElem?_zip_eq_some]at hj;obtain⟨u,h1,h2⟩:=hat j p.2 hj.2;rw[hj.1]at h1;cases h1;exact h2
  have hmem:∀x,x∈ps'.map Prod.snd↔x∈l:=λx=>by
   rw[(hperm.map Prod.snd).mem_iff,List.map_snd_zip aC]
  have hsubm:∀b o,m b=some o->m2 b=some o:=λb o hb=>by
   rw[hoth2 b (λi e2=>by rw[hfr1 b i e2]at hb;cases hb)];exact hsub1 b o hb
  refine⟨λx=>TA ps' s1 m2 h x.1 x.2.1 x.2.2.1 x.2.2.2.1 x.2.2.2.2,λx=>ps'.length-x.1,⟨(0,[],s1,m2,h),⟨rfl,rfl,.refl _,by simp,by simp,[],.nil h,.nil,by simp⟩,MT⟩,?_⟩;rintro⟨i,us2,s2,mx,hx⟩ ⟨e1,e2,le,hi,hu2,rs,hru,hso,hme⟩;dsimp only at e1 e2 le hi hu2 hru;subst e1 e2;refine aE (λhlt=>?_) (λhge=>?_)
  .dsimp only at hlt;have hlt2:i<ps'.length:=by omega
   obtain⟨p,hp⟩:∃p,ps'[i]? =some p:=⟨_,List.getElem?_eq_getElem hlt2⟩
   obtain⟨b,e1,r1⟩:=hrow2.rd (h:=hx) (i:=i) (e:=eS p.1) (by simp[hp];rfl);have hpv:=cR.mono (hvs hp) le
   have htake:∀x,x∈(ps'.take (i+1)).map Prod.snd↔x∈(ps'.take i).map Prod.snd\/x=p.2:=λx=>by
    rw[List.take_add_one,hp];simp
   have add:(∀y∈rs,eE y p.2<0)->∀(s:Sl)(h':PH),hx.le h'->cR h' s p.2->TA ps' s2 mx h (i+1) (us2++[s]) s2 mx h':=λhc s h' le' hv'=>by
    refine⟨rfl,rfl,le.trans le',aC,by simp;omega,rs++[p.2],(hru.mono le').snoc hv',List.pairwise_append.2 ⟨hso,by simp,λy hy z hz=>?_⟩,λx=>?_⟩
    .simp at hz;subst hz;exact hc y hy
    .rw[htake,List.mem_append,hme];simp
   have keep:p.2∈rs->TA ps' s2 mx h (i+1) us2 s2 mx hx:=λhc=>
    ⟨rfl,rfl,le,aC,aC,rs,hru,hso,λx=>by rw[htake,hme];exact⟨.inl,λh=>h.elim id λe=>by rw[e, <-hme];exact hc⟩⟩
   refine⟨b,0,e1,by show(0:Int)<=(i:Int);omega,hlt,p.1,by simpa[eS]using r1,aB (λh0=>?_) (λh0=>?_)⟩
   .have h0:i=0:=by simpa using h0
    subst h0
    have hrs:rs=[]:=by
     cases rs with
     |nil=>rfl
     |cons y _=>have:=(hme y).1 (by simp);simp at this
    exact IC hpv (by dsimp only;omega) (λs h' le' hv'=>⟨(0+1,us2++[s],s2,mx,h'),add (by rw[hrs];simp) s h' le' hv',(by dsimp only;omega),rfl,rfl,rfl,rfl,rfl,by simp[eS],rfl,rfl,trivial⟩)
   .have h0:i≠0:=by simpa using h0
    have hw:IntKind.i64.wrap ((i:Int)-1)=((i-1:Nat):Int):=by rw[dX aC aC];omega
    obtain⟨q,hq⟩:∃q,ps'[i-1]? =some q:=⟨_,List.getElem?_eq_getElem aC⟩
    obtain⟨b',e1',r1'⟩:=hrow2.rd (h:=hx) (i:=i-1) (e:=eS q.1) (by simp[hq];rfl);have hqv:=cR.mono (hvs hq) le
    have hqrs:q.2∈rs:=by
     rw[hme];refine List.mem_map.2 ⟨q,?_,rfl⟩;exact List.mem_of_getElem? (i:=i-1) (by rw[List.getElem?_take,if_pos aC];exact hq)
    have hprev:∀y∈rs,eE y q.2<=0:=λy hy=>by
     rw[hme]at hy;obtain⟨z,hz,rfl⟩:=List.mem_map.1 hy;obtain⟨j,hj⟩:=List.getElem?_of_mem hz;have hjl:=(List.getElem?_eq_some_iff.1 hj).1;simp only[List.length_take]at hjl;rw[List.getElem?_take,if_pos aC]at hj;by_cases e:j=i-1
     .subst e;rw[hq]at hj;cases hj;have:=lP q.2 q.2;omega
     .have h1:=List.pairwise_iff_getElem.1 hpw j (i-1) aC aC aC;rw[(List.getElem?_eq_some_iff.1 hj).2,(List.getElem?_eq_some_iff.1 hq).2]at h1;have:=lP z.2 q.2;omega
    have hqp:eE q.2 p.2<=0:=by
     have h1:=List.pairwise_iff_getElem.1 hpw (i-1) i aC aC aC;rw[(List.getElem?_eq_some_iff.1 hp).2,(List.getElem?_eq_some_iff.1 hq).2]at h1;have:=lP q.2 p.2;omega
    dsimp only;rw[hw];refine⟨b',0,e1',aC,aC,q.1,by simpa[eS]using r1',q.1,p.1,q.2,p.2,rfl,hqv,hpv,aB (λhne=>?_) (λheq=>?_)⟩
    .have hne:eE q.2 p.2≠0:=by simpa using hne
     refine IC hpv aC (λs h' le' hv'=>⟨(i+1,us2++[s],s2,mx,h'),add (λy hy=>?_) s h' le' hv',(by dsimp only;omega),rfl,rfl,rfl,rfl,by rw[jA aC],by simp[eS],rfl,rfl,trivial⟩);have t:=zL y q.2 p.2 (hprev y hy) hqp;by_cases e:eE y p.2=0
     .have:=C9.zero (hprev y hy) hqp e;omega
     .omega
    .have heq:eE q.2 p.2=0:=by simpa using heq
     exact⟨(i+1,us2,s2,mx,hx),keep (by rw[<-jQ.1 heq];exact hqrs),(by dsimp only;omega),rfl,rfl,rfl,rfl,by rw[jA aC],rfl,rfl,rfl,trivial⟩
  .intro s3 h3 le3 hr3;dsimp only at hge hr3 le3;have hi2:i=ps'.length:=by omega
   subst hi2;rw[List.take_length]at hme;have e:rs=Bk l:=TP hso (λx=>by rw[hme,hmem]);subst e;have hl:=hru.len;exact⟨m,h3,hsubm,le.trans le3,.refl _,hK s3 h3 (le.trans le3) ((hru.mono le3).rows hr3 aC)⟩
theorem Hk:Sound Tryz.prog 74 ZF:=by
 refine Gm Tryz.func74 ?_;rintro cvs m h K ⟨s,us,l,rfl,hr,hu,hl,hK⟩;refine⟨YP,rfl,aD Te (aD QS (aD DZ aF)),KG s m h (lE h K),by kernel_rfl,?_⟩;exact aeJ hr hu hl hK
end Go.Ps
namespace Go.Vc
open Go
section
variable{B:nS}{C:Ctx}{ι:Nat->Value}{σ:St}{a:Act}{w:World}{o:Oper}{K:St->Prop}
def Ln(ι:Nat->Value)(σ:St)(b:Nat):Prop:=σ.m b≠none\/∃k o,nth σ.own k=some (some o)/\blk (ι k)=some b
def reB(ι:Nat->Value)(σ:St)(ds:List Deferred)(w:World):nS:=⟨w,Ln ι σ,σ.h,ds⟩
theorem aI.rebase(hM:aI B ι σ a w):aI (reB ι σ a.defers w) ι σ a w:=by
 have hw:=hM.wrel;refine⟨hM.slots,rfl,hM.own,hM.dist,λk o b hk hb=>?_,?_,hM.one⟩
 .obtain⟨_,f2,f3⟩:=hM.fresh k o b hk hb;exact⟨.inr (.inr ⟨k,o,hk,hb⟩),f2,f3⟩
 .exact⟨rfl,rfl,rfl,Nat.le_refl _,Nat.le_refl _,λ_ _ _=>rfl,hw.hsat,hw.msat,hw.disj,λ_ _ _ e=>e,λ_ _ _=>rfl,
   λb o hb=>.inr (.inl (by rw[hb];simp))⟩
theorem aI.mine(hM:aI B ι σ a w){b:Nat}(h:Ln ι σ b):(B.w0.heap.size<=b\/B.E b)/\b<w.heap.size/\∀i,σ.h b i=none:=by
 rcases h with h|⟨k,o,hk,hb⟩
 .cases e:σ.m b with
  |none=>exact(h e).elim
  |some ob=>exact⟨hM.wrel.mfr b ob e,(Array.getElem?_eq_some_iff.1 (hM.wrel.msat b ob e)).1,hM.wrel.disj b ob e⟩
 .obtain⟨f1,_,f3⟩:=hM.fresh k o b hk hb;exact⟨f1,nQ (hM.own k o hk) hb,f3⟩
theorem aI.unbase(hM:aI B ι σ a w){ds:List Deferred}{ι':Nat->Value}{τ:St}{a':Act}{w':World}(h:aI (reB ι σ ds w) ι' τ a' w'):aI {B with dfs:=ds} ι' τ a' w':=by
 have hw:=hM.wrel;have hw':=h.wrel
 have old:∀b,(w.heap.size<=b\/Ln ι σ b)->B.w0.heap.size<=b\/B.E b:=λb hb=>by
  rcases hb with h1|h1
  .exact .inl (Nat.le_trans hw.size h1)
  .exact(hM.mine h1).1
 refine⟨h.slots,h.defers,h.own,h.dist,λk o b hk hb=>?_,?_,h.one⟩
 .obtain⟨f1,f2,f3⟩:=h.fresh k o b hk hb;exact⟨old b f1,f2,f3⟩
 .have s':w.heap.size<=w'.heap.size:=hw'.size;refine⟨hw'.tape.trans hw.tape,hw'.os.trans hw.os,hw'.output.trans hw.output,Nat.le_trans hw.drawn hw'.drawn,Nat.le_trans hw.size s',?_,hw'.hsat,hw'.msat,hw'.disj,λb i v e=>hw'.hle b i v (hw.hle b i v e),?_,λb o hb=>old b (hw'.mfr b o hb)⟩
  .intro b hb hnE
   have hn:¬Ln ι σ b:=λhm=>by
    rcases(hM.mine hm).1 with h1|h1
    .exact absurd hb (Nat.not_lt.2 h1)
    .exact hnE h1
   have:=hw'.frame b (Nat.lt_of_lt_of_le hb hw.size) hn;rw[this];exact hw.frame b hb hnE
  .intro b hb hnE
   have hn:¬Ln ι σ b:=λhm=>by
    rcases(hM.mine hm).1 with h1|h1
    .exact absurd hb (Nat.not_lt.2 h1)
    .exact hnE h1
   have:τ.h b=σ.h b:=hw'.hold b (Nat.lt_of_lt_of_le hb hw.size) hn;rw[this];exact hw.hold b hb hnE
theorem aI.grown(hM:aI B ι σ a w){w':World}{row:Option Nat}(hg:w.grownBy w' row)(hdr:w.drawn<=w'.drawn)(hrow:∀r,row=some r->B.w0.heap.size<=r/\¬Ln ι σ r/\∃ob:Obj,w.heap[r]? =some ob/\ob.isCells=false):aI B ι σ a w':=by
 have hw:=hM.wrel;have same:∀b,b<w.heap.size->(∀r,row=some r->b≠r)->w'.heap[b]? =w.heap[b]? :=λb hb hne=>hg.block b hb (λe=>hne b e.symm rfl);have mine:∀b,Ln ι σ b->w'.heap[b]? =w.heap[b]? :=λb hb=>same b (hM.mine hb).2.1 (λr e h=>(hrow r e).2.1 (h▸hb));refine⟨hM.slots,hM.defers,λk o hk=>(hM.own k o hk).world (λb hb=>mine b (.inr ⟨k,o,hk,hb⟩)),hM.dist,hM.fresh,?_,hM.one⟩;refine⟨hg.tape.trans hw.tape,hg.os.trans hw.os,hg.output.trans hw.output,Nat.le_trans hw.drawn hdr,Nat.le_trans hw.size hg.size,?_,?_,?_,hw.disj,hw.hle,hw.hold,hw.mfr⟩
 .intro b hb hnE;rw[same b (Nat.lt_of_lt_of_le hb hw.size) (λr e h=>by have:=(hrow r e).1;omega)];exact hw.frame b hb hnE
 .intro b i v hv;have h1:=hw.hsat b i v hv;have hlt:b<w.heap.size:=World.block_lt_of_cell? w ⟨b,i,none⟩ h1
  have hne:∀r,row=some r->b≠r:=λr e h=>by
   obtain⟨_,_,ob,hob,hnc⟩:=hrow r e;unfold World.cell? at h1;rw[h]at h1;dsimp only at h1;rw[hob]at h1;cases ob<;>simp[Obj.isCells]at hnc h1
  rw[World.cell?_of_block (w:=w) (w':=w') (a:=⟨b,i,none⟩) (same b hlt hne)];exact h1
 .intro b o hb;rw[mine b (.inl (by rw[hb];simp))];exact hw.msat b o hb
def pW:Code->Bool
 |.skip=>true
 |.ret=>true
 |.exit _=>true
 |.region _ ops _=>ops.toList.all λo=>match o.op with|.defer _=>false|_=>true
 |.seq x y=>pW x&&pW y
 |.cond _ x y=>pW x&&pW y
 |.block _ x=>pW x
 |.loop x=>pW x
 |_=>false
def Plain(ops:Array Oper):Prop:=∀(i:Nat)(o:Oper),ops[i]? =some o->∀c,o.op≠ .defer c
theorem Pp{ops:Array Oper}(h:(ops.toList.all λo=>match o.op with|.defer _=>false|_=>true)=true):Plain ops:=by
 intro i o ho c e;rw[List.all_eq_true]at h;have:=h o (List.mem_of_getElem? (by rw[Array.getElem?_toList];exact ho));rw[e]at this;cases this
theorem uY(l:Nat){P:Program}{ops:Array Oper}(hd:Plain ops){Q:Exit->Act->World->Prop}:∀(L:List Nat)(a:Act)(w:World),wpOpsIn Fence.wide 0 P ops Q L a w->wpOpsIn (Fence.wide.inRound l) 0 P ops Q L a w
 |[],_,_,h=>h
 |i::L,a,w,h=>by
  unfold wpOpsIn at h⊢
  cases ho:ops[i]? with
  |none=>rw[ho]at h;exact uY l hd L a w h
  |some o=>
   rw[ho]at h;dsimp only at h⊢
   split
   .rename_i hw;rw[if_pos hw]at h;exact Ey l (hd i o ho) (Oper.wpIn_mono (λa w=>uY l hd L a w) h)
   .rename_i hw;rw[if_neg hw]at h;exact⟨λ_ _=>trivial,uY l hd L _ _ h.2⟩
theorem zR(l:Nat){P:Program}{md:Region.Mode}{ops:Array Oper}(hd:Plain ops){Q:Exit->Act->World->Prop}(hQ:¬LetsOut Q):∀(n:Nat)(L:Array Bool)(a:Act)(w:World),wpAny P md ops Q n L a w->wpAnyIn (Fence.wide.inRound l) 0 P md ops Q n L a w
 |0,_,_,_,h=>h
 |n+1,L,a,w,h=>by
  refine⟨h.1,λi hi=>?_⟩;have:=h.2 i hi;unfold wpOp at this;unfold wpOpIn;cases ho:ops[i]? with
  |none=>rw[ho]at this;exact zR l hd hQ n _ _ _ this
  |some o=>
   rw[ho]at this;dsimp only at this⊢
   split
   .rename_i hw;rw[if_pos hw]at this;rcases this with h1|h1
    .exact Ey l (hd i o ho) (Oper.wpIn_mono (λa w=>zR l hd hQ n _ a w) (JL h1))
    .exact(hQ h1.2).elim
   .rename_i hw;rw[if_neg hw]at this;exact⟨λ_ _=>trivial,zR l hd hQ n _ _ _ this⟩
theorem Ck{F:Fence}{n:Nat}{P:Program}{Q:Exit->Act->World->Prop}{a:Act}{w:World}{c:Code}(I:Nat->Act->World->Prop)(n₀:Nat)(h₀:I n₀ a w)
 (round:∀k a w,I k a w->c.wpIn F n P (Exit.then (λa' w'=>∃k',k'<k/\I k' a' w') Q) a w):(Code.loop c).wpIn F n P Q a w:=by
 refine wpIn_loop (λa w=>∃k,I k a w) (λa w=>leastOf (λk=>I k a w)) ⟨n₀,h₀⟩ ?_;intro a w hI;refine wpIn_mono (round _ a w (leastOf_spec hI).1) ?_;intro e a' w' hq;cases e with
 |normal=>
  obtain⟨k',hlt,hI'⟩:=hq;exact⟨⟨k',hI'⟩,Nat.lt_of_le_of_lt ((leastOf_spec ⟨k',hI'⟩).2 k' hI') hlt⟩
 |exit id=>exact hq
 |ret=>exact hq
 |goto l=>exact hq
 |panic ch=>exact hq
 |outgrown=>exact hq
theorem LP(l:Nat)(hspecs:∀g S,assoc C.specs g=some S->Sound C.P g S):∀(c:Code),pW c=true->∀(σ:St)(Q:wK->St->Prop)(ι:Nat->Value)(a:Act)(w:World),aI B ι σ a w->VC C c σ Q->c.wpIn (Fence.wide.inRound l) 0 C.P (QD B Q) a w:=by
 intro c
 induction c with
 |skip=>intro hs σ Q ι a w hM h;exact wpIn_skip ⟨ι,σ,hM,h⟩
 |label l=>intro hs;cases hs
 |exit id=>intro hs σ Q ι a w hM h;exact wpIn_exit ⟨ι,σ,hM,h⟩
 |ret=>intro hs σ Q ι a w hM h;exact wpIn_ret ⟨ι,σ,hM,h⟩
 |goto l=>intro hs;cases hs
 |refuse why=>intro hs;cases hs
 |scope body ih=>intro hs;cases hs
 |rangeFunc f ps x y ihx ihy=>intro hs;cases hs
 |region id ops draw=>
  intro hs σ Q ι a w hM h;cases draw with
  |false=>
   refine wpIn_region (uY l (Pp hs) _ _ _ ?_);have:=GS hspecs (ops:=ops) (Q:=Q) (GR C id) ops.toList 0 ι σ a w (λj=>by simp) hM h;rw[List.range_eq_range'];simpa using this
  |true=>
   simp only[VC]at h;split at h
   .rename_i h1 h2 h3;have hsa:=Ww h1 h2;refine wpIn_region_any h3 (zR l (Pp hs) (λ⟨_,_,e⟩=>e) _ _ _ _ ?_);refine Ni hspecs hsa (Q:=QD B Q) (R:=Q .normal) (λι σ a w hM h=>⟨ι,σ,hM,h⟩) (λc a w h=>h) ops.size ops.size _ ι σ a _ (hM.drew (w.drawn+1) (Nat.le_succ _)) h _ a ?_ ?_
    .have hno:∀i,(Array.replicate ops.size false).getD i false=true->False:=by
      intro i hi;by_cases hlt:i<ops.size
      .simp[Array.getD,hlt]at hi
      .simp[Array.getD,hlt]at hi
     exact⟨by simp,by simp,λi hi=>hi,λi o _ hi=>(hno i hi).elim,λi o _ hi=>(hno i hi).elim,λi o _ hi=>(hno i hi).elim,rfl,rfl,λt _=>rfl,λi o _ hi=>(hno i hi).elim⟩
    .unfold qN;rw[List.filter_eq_self.2]
     .simp
     .intro i hi;by_cases hlt:i<ops.size<;>simp[Array.getD,hlt]
   .exact h.elim
 |seq x y ihx ihy=>
  intro hs σ Q ι a w hM h;obtain⟨hs1,hs2⟩:=Bool.and_eq_true_iff.1 hs;simp only[VC]at h;split at h
  .obtain⟨h,hall⟩:=h;refine wpIn_seq (wpIn_mono (ihx hs1 σ _ ι a w hM h) ?_);intro e a' w' hq;cases e with
   |normal=>
    obtain⟨ι',σ',hM',x,hx,hm⟩:=hq;show y.wpIn (Fence.wide.inRound l) 0 C.P (QD B Q) a' w';obtain⟨ι2,hM2,_⟩:=jY hM' hm;exact ihy hs2 _ Q ι2 a' w' hM2 (hall x hx)
   |exit id=>exact hq
   |ret=>exact hq
   |goto l=>exact hq
   |panic ch=>exact hq
   |outgrown=>exact hq
  .split at h
   .obtain⟨I,h,hall⟩:=h;refine wpIn_seq (wpIn_mono (ihx hs1 σ _ ι a w hM h) ?_);intro e a' w' hq;cases e with
    |normal=>
     obtain⟨ι',σ',hM',hm⟩:=hq;show y.wpIn (Fence.wide.inRound l) 0 C.P (QD B Q) a' w';obtain⟨x,ι2,hx,hM2⟩:=wB hM' hm;exact ihy hs2 _ Q ι2 a' w' hM2 (hall x hx)
    |exit id=>exact hq
    |ret=>exact hq
    |goto l=>exact hq
    |panic ch=>exact hq
    |outgrown=>exact hq
   .refine wpIn_seq (wpIn_mono (ihx hs1 σ _ ι a w hM h) ?_);intro e a' w' hq;cases e with
    |normal=>
     obtain⟨ι',σ',hM',h'⟩:=hq;show y.wpIn (Fence.wide.inRound l) 0 C.P (QD B Q) a' w';exact ihy hs2 σ' Q ι' a' w' hM' h'
    |exit id=>exact hq
    |ret=>exact hq
    |goto l=>exact hq
    |panic ch=>exact hq
    |outgrown=>exact hq
 |cond c x y ihx ihy=>
  intro hs σ Q ι a w hM h;obtain⟨hs1,hs2⟩:=Bool.and_eq_true_iff.1 hs;simp only[VC]at h;split at h
  .rename_i t hc;have hev:=hM.ev c;rw[hc]at hev;have hev:a.eval c= .bool t:=hev;rcases pN h with⟨rfl,h⟩|⟨rfl,h⟩
   .exact wpIn_cond_true hev (ihx hs1 _ Q ι a w (hM.setTmp hc) h)
   .exact wpIn_cond_false hev (ihy hs2 _ Q ι a w (hM.setTmp hc) h)
  .exact h.elim
 |block id c ih=>
  intro hs σ Q ι a w hM h;refine wpIn_block (wpIn_mono (ih hs σ _ ι a w hM h) ?_);intro e a' w' hq;cases e with
  |normal=>exact hq
  |exit i=>
   obtain⟨ι',σ',hM',h'⟩:=hq;show if i=id then _ else _
   simp only at h';split at h'
   .rename_i hb;rw[if_pos (Nat.eq_of_beq_eq_true hb)];exact⟨ι',σ',hM',h'⟩
   .rename_i hb;rw[if_neg (λe=>by subst e;simp at hb)];exact⟨ι',σ',hM',h'⟩
  |ret=>exact hq
  |goto l=>exact hq
  |panic ch=>exact hq
  |outgrown=>exact hq
 |loop c ih=>
  intro hs σ Q ι a w hM h;simp only[VC]at h;split at h
  .rename_i ln hl;obtain⟨⟨x,hx,hm⟩,hall⟩:=h;obtain⟨ι2,hM2,_⟩:=jY hM hm;refine Ck (λn a w=>∃x ι,ln.inv x/\ln.mu x=n/\aI B ι (ln.st x) a w) (ln.mu x) ⟨x,ι2,hx,rfl,hM2⟩ ?_;rintro n a' w' ⟨x',ι',hx',rfl,hM'⟩;refine wpIn_mono (ih hs _ _ ι' a' w' hM' (hall x' hx')) ?_;intro e a'' w'' hq;cases e with
   |normal=>
    obtain⟨ι3,σ3,hM3,y,hy,hlt,hmy⟩:=hq;obtain⟨ι4,hM4,_⟩:=jY hM3 hmy;exact⟨ln.mu y,hlt,y,ι4,hy,rfl,hM4⟩
   |exit id=>exact hq
   |ret=>exact hq
   |goto l=>exact hq
   |panic ch=>exact hq
   |outgrown=>exact hq
  .split at h
   .rename_i ln hl;obtain⟨I,mu,hm,hall⟩:=h;obtain⟨x,ι2,hx,hM2⟩:=wB hM hm;refine Ck (λn a w=>∃x ι,I x/\mu x=n/\aI B ι (ln.st x) a w) (mu x) ⟨x,ι2,hx,rfl,hM2⟩ ?_;rintro n a' w' ⟨x',ι',hx',rfl,hM'⟩;refine wpIn_mono (ih hs _ _ ι' a' w' hM' (hall x' hx')) ?_;intro e a'' w'' hq;cases e with
    |normal=>
     obtain⟨ι3,σ3,hM3,hmy⟩:=hq;obtain⟨y,ι4,hy,hlt,hM4⟩:=IE hM3 hmy;exact⟨mu y,hlt,y,ι4,hy,rfl,hM4⟩
    |exit id=>exact hq
    |ret=>exact hq
    |goto l=>exact hq
    |panic ch=>exact hq
    |outgrown=>exact hq
   .exact h.elim
end
end Go.Vc
namespace Go.Vc
open Go
def nU:Code->Bool
 |.seq x y=>nU x||nU y
 |.cond _ x y=>nU x||nU y
 |.block _ x=>nU x
 |.loop x=>nU x
 |.scope x=>nU x
 |.rangeFunc .. =>true
 |_=>false
structure YDo(P:Program)(l:Nat)(vs:List Value)(m:MH)(h:PH)(R:Bool->MH->PH->Prop):Prop where
 go:∀w,UM w m h->∃fn tmps assign body,(Instr.yield l vs.toArray).run P w= .ok (.round l fn tmps assign body) w/\
  RoundIn Fence.wide 0 P l fn tmps assign body w λe w'=>∃u m' h',e= .returned (.bool u)/\R u m' h'/\OL w m h m' h' w'
def XN(P:Program):Spec:=λcvs m h K=>∃(l:Nat)(vs:List Value)(R:Bool->MH->PH->Prop),cvs= .val (.func (.yield l) #[] #[])::vs.map .val/\YDo P l vs m h R/\∀u m' h',R u m' h'->K (.val (.bool u)) m' h'
theorem Ij:∀{l l':List Value},l.map CV.val=l'.map CV.val->l=l'
 |[],[],_=>rfl
 |a::l,b::l',h=>by
  simp only[List.map_cons,List.cons.injEq,CV.val.injEq]at h;rw[h.1,Ij h.2]
 |[],_::_,h=>by simp at h
 |_::_,[],h=>by simp at h
theorem JK(P:Program):HU P (XN P):=⟨λl vs m h w K⟨l',vs',R,he,hS,hR⟩ hH=>by
 simp only[List.cons.injEq,CV.val.injEq,Value.func.injEq,Fn.yield.injEq,and_true]at he;obtain⟨rfl,he⟩:=he;rw[Ij he];obtain⟨fn,tmps,as_,bd,h1,h2⟩:=hS.go w hH;exact⟨fn,tmps,as_,bd,h1,h2.mono λe w'⟨u,m',h',e1,e2,e3⟩=>⟨_,m',h',e1,hR u m' h' e2,e3⟩⟩⟩
def X8(P:Program)(Src:PH->List Value->List (List Value)->Prop):Spec:=λcvs m h K=>∃(l:Nat)(caps:List Value)(xs:List (List Value))(J:Nat->MH->PH->Prop),
 cvs= .val (.func (.yield l) #[] #[])::caps.map .val/\Src h caps xs/\J 0 m h/\
 (∀k e m' h',xs[k]? =some e->PH.le h h'->J k m' h'->YDo P l e m' h' (λr m2 h2=>r=true/\PH.le h' h2/\J (k+1) m2 h2))/\
 ∀r m' h',PH.le h h'->J xs.length m' h'->K r m' h'
structure Di(P:Program)(g:FuncId)(Src:PH->List Value->List (List Value)->Prop):Prop where
 sound:Sound P g (X8 P Src)
def valOf(P:Program)(T:TypeId)(cs:List Value):Value:=
 match zI P T with
 |true=>.agg cs.toArray
 |false=>match cs with|[x]=>x|_=>undef
def Ma:SV->SV
 |.at (.val v)=>.at (.val v)
 |.agg cs=>match qM cs with|some _=>.agg cs|none=>.at .junk
 |_=>.at .junk
def Pz:Option Own->Option Own:=λ_=>none
def blank(σ:St)(m:MH)(h:PH):St:={sl:=σ.sl.map Ma,own:=σ.own.map Pz,m:=m,h:=h}
def NO(l:List SV):List (Nat×SV)->List SV
 |[]=>l
 |(p,x)::r=>NO (l.set p x) r
def TS(σ:St)(es:List (Nat×SV))(m:MH)(h:PH):St:={sl:=NO (σ.sl.map Ma) es,own:=σ.own.map Pz,m:=m,h:=h}
def IP(C:Ctx)(x y:Code)(σ:St)(es:List (Nat×SV))(m:MH)(h:PH)(R:MH->PH->Prop):Prop:=
 VC C x (TS σ es m h) (λex τ=>match ex with
  |.normal=>VC C y τ (λex υ=>match ex with
   |.normal=>R υ.m υ.h
   |_=>False)
  |_=>False)
def RO(C:Ctx)(f:Operand)(ps:Array Tmp)(x y:Code)(σ:St)(K:St->Prop):Prop:=
 match σ.ev f,pW x&&pW y with
 |.at (.val (.func (.func g) fs cs)),true=>match fs.toList with
  |[]=>match ps.toList,C.elemT with
   |[p],[T]=>∃(Src:PH->List Value->List (List Value)->Prop)(xs:List (C.dec T).X)(I:Nat->MH->PH->Prop),Di C.P g Src/\Src σ.h cs.toList (xs.map λx=>[valOf C.P T ((C.dec T).enc x)])/\I 0 σ.m σ.h/\
    (∀(k:Nat)(e:(C.dec T).X)(m:MH)(h:PH),xs[k]? =some e->PH.le σ.h h->I k m h->IP C x y σ [(p,mk C.P T (((C.dec T).enc e).map .val))] m h (I (k+1)))/\
    ∀(m:MH)(h:PH),PH.le σ.h h->I xs.length m h->K (blank σ m h)
   |[p,q],[T,U]=>∃(Src:PH->List Value->List (List Value)->Prop)(xs:List ((C.dec T).X×(C.dec U).X))(I:Nat->MH->PH->Prop),Di C.P g Src/\Src σ.h cs.toList (xs.map λx=>[valOf C.P T ((C.dec T).enc x.1),valOf C.P U ((C.dec U).enc x.2)])/\I 0 σ.m σ.h/\
    (∀(k:Nat)(e:(C.dec T).X)(e':(C.dec U).X)(m:MH)(h:PH),xs[k]? =some (e,e')->PH.le σ.h h->I k m h->IP C x y σ [(p,mk C.P T (((C.dec T).enc e).map .val)),(q,mk C.P U (((C.dec U).enc e').map .val))] m h (I (k+1)))/\
    ∀(m:MH)(h:PH),PH.le σ.h h->I xs.length m h->K (blank σ m h)
   |_,_=>False
  |_=>False
 |_,_=>False
def Wo(C:Ctx):Code->St->(wK->St->Prop)->Prop
 |.rangeFunc f ps x y,σ,Q=>RO C f ps x y σ (Q .normal)
 |.seq a b,σ,Q=>match nU a||nU b with
  |false=>VC C (.seq a b) σ Q
  |true=>match K7 C b with
   |some c=>∃I:c.A->Prop,Wo C a σ (λe τ=>match e with
    |.normal=>Fv c I τ
    |e=>Q e τ)/\∀x,I x->Wo C b (c.st x) Q
   |none=>Wo C a σ (λe τ=>match e with
    |.normal=>Wo C b τ Q
    |e=>Q e τ)
 |.block id c,σ,Q=>match nU c with
  |false=>VC C (.block id c) σ Q
  |true=>Wo C c σ (λe τ=>match e with
   |.exit i=>match Nat.beq i id with|true=>Q .normal τ|false=>Q (.exit i) τ
   |e=>Q e τ)
 |.cond c x y,σ,Q=>match nU x||nU y with
  |false=>VC C (.cond c x y) σ Q
  |true=>match σ.ev c with
   |.at (.val (.bool t))=>branch t (Wo C x (setTmp σ c true) Q) (Wo C y (setTmp σ c false) Q)
   |_=>False
 |c,σ,Q=>VC C c σ Q
def Ym(C:Ctx)(σ:St):List ResultVar->(List Value->Prop)->Prop
 |[],K=>K []
 |.cell t T::r,K=>match nth σ.sl t,hU C.P T with
  |some (.at (.val (.pointer (some ⟨b,off,none⟩)))),true=>XG C T (aM σ.m σ.h b off) λl=>match(mk C.P T (l.map .val)).val? with
   |some v=>Ym C σ r (λrs=>K (v::rs))
   |none=>False
  |_,_=>False
 |_::_,_=>False
def GY(C:Ctx)(fn:Func)(K:CV->MH->PH->Prop)(σ:St):Prop:=
 match EF C σ fn.results.toList with
 |some _=>AV C fn K σ
 |none=>Ym C σ fn.results.toList λrs=>match rs with
  |[r]=>K (.val r) σ.m σ.h
  |rs=>K (.tup (rs.map .val)) σ.m σ.h
def T5(C:Ctx)(fn:Func)(c:Code)(σ:St)(K:CV->MH->PH->Prop):Prop:=
 Wo C c σ (λe τ=>match e with
  |.normal=>GY C fn K τ
  |.ret=>GY C fn K τ
  |_=>False)
section
variable{B:nS}{C:Ctx}{ι:Nat->Value}{σ:St}{a:Act}{w:World}{K:St->Prop}
theorem Vb{ι ι':Nat->Value}{x:SV}{v:Value}(h:Den ι x v):Den ι' (Ma x) v:=by
 cases x with
 |«at» y=>cases y<;>first|exact h|trivial
 |agg cs=>
  simp only[Ma];split
  .rename_i l hl;obtain⟨us,rfl,hd⟩:=h;rw[AS hl]at hd⊢
   exact⟨us,rfl,by rw[gJ.vals]at hd⊢;exact hd⟩
  .trivial
 |tup xs=>trivial
theorem CW{ι ι':Nat->Value}:∀{xs:List SV}{vs:List Value},DenS ι xs vs->DenS ι' (xs.map Ma) vs
 |[],[],_=>trivial
 |_::_,_::_,h=>⟨Vb h.1,CW h.2⟩
 |[],_::_,h=>h.elim
 |_::_,[],h=>h.elim
theorem Dq(l:List (Option Own))(k:Nat)(o:Own):nth (l.map Pz) k=some (some o)->False:=by
 rw[xG];cases nth l k<;>simp[Pz]
theorem aI.blank'{B:nS}{sl:List SV}{l:List (Option Own)}{m:MH}{h:PH}{a:Act}{w:World}(hs:DenS (λ_=>.slice none 0 0) sl a.tmps.toList)(hd:a.defers=B.dfs)(hw:tR B m h w):
 aI B (λ_=>.slice none 0 0) {sl:=sl,own:=l.map Pz,m:=m,h:=h} a w:=
 ⟨hs,hd,λk o hk=>(Dq l k o hk).elim,λk _ o _ _ hk=>(Dq l k o hk).elim,λk o _ hk=>(Dq l k o hk).elim,hw,λ_=>rfl⟩
def zF(D:Nat):Deferred:={target:=.collected D,args:= #[]}
structure MM(B:nS)(ds:List Nat)(ι:Nat->Value)(σ:St)(a:Act)(w:World):Prop where
 mod:aI {B with dfs:=ds.map zF} ι σ a w
 size:∀D∈ds,B.w0.heap.size<=D
 mine:∀D∈ds,¬Ln ι σ D
 mark:∀D∈ds,w.heap[D]? =some (.deferred (some []))
 nodup:ds.Nodup
def QM(B:nS)(Q:wK->St->Prop):Exit->Act->World->Prop
 |.normal,a,w=>∃ds ι σ,MM B ds ι σ a w/\Q .normal σ
 |.exit id,a,w=>∃ds ι σ,MM B ds ι σ a w/\Q (.exit id) σ
 |.ret,a,w=>∃ds ι σ,MM B ds ι σ a w/\Q .ret σ
 |_,_,_=>False
theorem MM.step{ds:List Nat}(hM:MM B ds ι σ a w){ι':Nat->Value}{τ:St}{a':Act}{w':World}(h:aI (reB ι σ (ds.map zF) w) ι' τ a' w'):MM B ds ι' τ a' w':=by
 have lt:∀D∈ds,D<w.heap.size:=λD hD=>(Array.getElem?_eq_some_iff.1 (hM.mark D hD)).1;refine⟨?_,hM.size,λD hD hm=>?_,λD hD=>?_,hM.nodup⟩
 .exact hM.mod.unbase (ds:=ds.map zF) h
 .rcases(h.mine hm).1 with h1|h1
  .have h1:w.heap.size<=D:=h1;have:=lt D hD;omega
  .exact hM.mine D hD h1
 .rw[h.wrel.frame D (lt D hD) (hM.mine D hD)];exact hM.mark D hD
theorem MM.here{ds:List Nat}(hM:MM B ds ι σ a w):aI (reB ι σ (ds.map zF) w) ι σ a w:=by
 have:=hM.mod.rebase;rw[hM.mod.defers]at this;exact this
theorem MM.of_QD{ds:List Nat}(hM:MM B ds ι σ a w){Q:wK->St->Prop}{e:Exit}{a':Act}{w':World}(h:QD (reB ι σ (ds.map zF) w) Q e a' w'):QM B Q e a' w':=by
 cases e with
 |normal=>obtain⟨ι',τ,h1,h2⟩:=h;exact⟨ds,ι',τ,hM.step h1,h2⟩
 |exit id=>obtain⟨ι',τ,h1,h2⟩:=h;exact⟨ds,ι',τ,hM.step h1,h2⟩
 |ret=>obtain⟨ι',τ,h1,h2⟩:=h;exact⟨ds,ι',τ,hM.step h1,h2⟩
 |goto l=>exact h.elim
 |panic ch=>exact h.elim
 |outgrown=>exact h.elim
theorem MM.retag{ds:List Nat}(hM:MM B ds ι σ a w){ι':Nat->Value}{τ:St}(h:aI (reB ι σ (ds.map zF) w) ι' τ a w):MM B ds ι' τ a w:=hM.step h
theorem zW(hspecs:∀g S,assoc C.specs g=some S->Sound C.P g S){ds:List Nat}(hM:MM B ds ι σ a w){c:Code}{Q:wK->St->Prop}(h:VC C c σ Q):c.wp C.P (QM B Q) a w:=
 wp_mono (Fc hspecs c σ Q ι a w hM.here h) (λ_ _ _ hq=>hM.of_QD hq)
theorem RG{P:Program}{T:TypeId}{cs:List Value}{ι:Nat->Value}:Den ι (mk P T (cs.map .val)) (valOf P T cs):=by
 unfold mk valOf;cases zI P T with
 |true=>exact⟨_,rfl,by simpa using(gJ.vals (ι:=ι)).2 rfl⟩
 |false=>match cs with
  |[]=>exact trivial
  |[x]=>exact rfl
  |_::_::_=>exact trivial
theorem JW{ι:Nat->Value}:∀{es:List (Nat×SV)}{vs:List Value}{sl:List SV}{ts:Array Value},DenS ι (es.map (·.2)) vs->DenS ι sl ts.toList->
 DenS ι (NO sl es) (((es.map (·.1)).zip vs).foldl (λts(p,v)=>ts.setIfInBounds p v) ts).toList
 |[],[],_,_,_,h=>h
 |(p,x)::es,v::vs,sl,ts,h,hs=>by
  refine JW (es:=es) (vs:=vs) h.2 ?_;rw[Array.toList_setIfInBounds];exact hs.set p h.1
 |[],_::_,_,_,h,_=>h.elim
 |_::_,[],_,_,h,_=>h.elim
def xF(fn:FuncId)(tmps:Array Value)(ps:Array Tmp)(x y:Code)(D:Nat)(st:LoopState):Loop:={state:=st,pending:=none,fn:=fn,tmps:=tmps,params:=ps,assign:=x,body:=y,defers:=D}
theorem Kf{w:World}{l i:Nat}{r:Loop}(h:w.heap[l]? =some (.loop r)):w.cell? ⟨l,i,none⟩=none:=by
 unfold World.cell?;dsimp only;rw[h]
theorem Pj(hspecs:∀g S,assoc C.specs g=some S->Sound C.P g S){tmps:Array Value}{x y:Code}(hx:pW x=true)(hy:pW y=true)(hsl:DenS ι σ.sl tmps.toList)
 {es:List (Nat×SV)}{vs:List Value}{ps:Array Tmp}(hps:ps.toList=es.map (·.1))(hes:DenS (λ_=>.slice none 0 0) (es.map (·.2)) vs)
 {fn:FuncId}{D l:Nat}{m0 mm:MH}{h0:PH}(hl0:m0 l=none)(hmm:∀b,b≠l->mm b=m0 b)(hml:mm l=some (.loop (xF fn tmps ps x y D .ready))){R:MH->PH->Prop}
 (hV:IP C x y σ es m0 h0 R)(w:World)(hH:UM w mm h0):
 ∃fn' tmps' assign body,(Instr.yield l vs.toArray).run C.P w= .ok (.round l fn' tmps' assign body) w/\
  RoundIn Fence.wide 0 C.P l fn' tmps' assign body w λex w'=>∃u m' h',ex= .returned (.bool u)/\(u=true/\PH.le h0 h'/\∃m2,m2 l=none/\(∀b,b≠l->m' b=m2 b)/\m' l=some (.loop (xF fn tmps ps x y D .ready))/\R m2 h')/\OL w mm h0 m' h' w':=by
 have hl:=hH.msat l _ hml;have hlt:=(Array.getElem?_eq_some_iff.1 hl).1
 have hlen:vs.length=ps.size:=by
  have h1:=hes.length;rw[List.length_map]at h1;rw[<-Array.length_toList,hps,List.length_map,h1]
 refine⟨_,_,_,_,run_yield hl (by simpa[xF]using hlen),roundIn_of_wpIn trivial ?_⟩;obtain⟨ts,hts⟩:∃ts,((xF fn tmps ps x y D .ready).params.zip vs.toArray).foldl (λtmps(t,a)=>tmps.setIfInBounds t a) (xF fn tmps ps x y D .ready).tmps=ts:=⟨_,rfl⟩
 rw[hts]
 have hts2:ts=((es.map (·.1)).zip vs).foldl (λts(p,v)=>ts.setIfInBounds p v) tmps:=by
  rw[<-hts, <-hps, <-Array.foldl_toList,Array.toList_zip];rfl
 have m0some:∀b o,m0 b=some o->mm b=some o:=λb o hb=>by
  rw[hmm b (λe=>by rw[e,hl0]at hb;cases hb)];exact hb
 have hM:aI ⟨w,λb=>m0 b≠none,h0,[]⟩ (λ_=>.slice none 0 0) (TS σ es m0 h0) {tmps:=ts,defers:=[]} w:=by
  refine aI.blank' ?_ rfl ?_
  .show DenS _ (NO (σ.sl.map Ma) es) ts.toList;rw[hts2];exact JW hes (CW hsl)
  .exact⟨rfl,rfl,rfl,Nat.le_refl _,Nat.le_refl _,λ_ _ _=>rfl,hH.hsat,λb o hb=>hH.msat b o (m0some b o hb),λb o hb=>hH.disj b o (m0some b o hb),λ_ _ _ e=>e,λ_ _ _=>rfl,λb o hb=>.inr (by show m0 b≠none;rw[show m0 b=some o from hb];simp)⟩
 refine wpIn_mono (LP l hspecs x hx _ _ _ _ _ hM hV) ?_;intro ex a1 w1 hq;cases ex with
 |normal=>
  obtain⟨ι1,τ,hM1,hV1⟩:=hq;have hw1:=hM1.wrel;have hnE:¬(λb=>m0 b≠none) l:=λe=>e hl0;have hl1:w1.heap[l]? =some (.loop (xF fn tmps ps x y D .ready)):=by rw[hw1.frame l hlt hnE];exact hl
  have hlt1:=(Array.getElem?_eq_some_iff.1 hl1).1
  have hnM1:¬Ln ι1 τ l:=λhm=>by
   rcases(hM1.mine hm).1 with h1|h1
   .exact absurd hlt (Nat.not_lt.2 h1)
   .exact hnE h1
  refine⟨_,run_beginRound hl1 rfl,?_⟩;obtain⟨w2,hw2⟩:∃w2,w1.putObj l (.loop {xF fn tmps ps x y D .ready with state:=.busy})=w2:=⟨_,rfl⟩
  have hM2:=(hM1.rebase.putD (.loop {xF fn tmps ps x y D .ready with state:=.busy}) hl1 rfl hlt1 hnM1).rebase;rw[hw2]at hM2⊢
  have hd1:a1.defers=[]:=hM1.defers;have hM2:aI (reB ι1 τ [] w2) ι1 τ a1 w2:=by rw[hd1]at hM2;exact hM2
  have ne2:∀b,b≠l->w2.heap[b]? =w1.heap[b]? :=λb hb=>by rw[<-hw2];exact World.putObj_heap_other (λe=>hb e)
  have s2:w2.heap.size=w1.heap.size:=by rw[<-hw2];simp
  have hl2:w2.heap[l]? =some (.loop {xF fn tmps ps x y D .ready with state:=.busy}):=by rw[<-hw2];exact World.putObj_heap_same hlt1
  refine wpIn_mono (LP l hspecs y hy _ _ _ _ _ hM2 hV1) ?_;intro ex a2 w3 hq;cases ex with
  |normal=>
   obtain⟨ι2,υ,hM3,hR⟩:=hq;have hw3:=hM3.wrel;have hl3:w3.heap[l]? =some (.loop {xF fn tmps ps x y D .ready with state:=.busy}):=by rw[hw3.frame l (by show l<w2.heap.size;omega) hnM1];exact hl2
   have hlt3:=(Array.getElem?_eq_some_iff.1 hl3).1
   have hmine:∀b,b<w.heap.size->mm b=none->¬Ln ι1 τ b:=λb hb hn hm=>by
    rcases(hM1.mine hm).1 with h1|h1
    .exact absurd hb (Nat.not_lt.2 h1)
    .refine h1 ?_;by_cases e:b=l
     .rw[e];exact hl0
     .rw[<-hmm b e];exact hn
   have hul:υ.m l=none:=by
    cases e:υ.m l with
    |none=>rfl
    |some o=>
     rcases hw3.mfr l o e with h1|h1
     .have h1:w2.heap.size<=l:=h1;omega
     .exact(hnM1 h1).elim
   obtain⟨w4,hw4⟩:∃w4,w3.putObj l (.loop (xF fn tmps ps x y D .ready))=w4:=⟨_,rfl⟩
   have ne4:∀b,b≠l->w4.heap[b]? =w3.heap[b]? :=λb hb=>by rw[<-hw4];exact World.putObj_heap_other (λe=>hb e)
   have hl4:w4.heap[l]? =some (.loop (xF fn tmps ps x y D .ready)):=by rw[<-hw4];exact World.putObj_heap_same hlt3
   have hend:=run_endRound (P:=C.P) none hl3;have hend:(Instr.endRound l none).run C.P w3= .ok (.bool true) w4:=by rw[hend, <-hw4];rfl
   have hle1:PH.le h0 τ.h:=⟨λb i v e=>hw1.hle b i v e⟩
   have hle2:PH.le τ.h υ.h:=⟨λb i v e=>hw3.hle b i v e⟩
   refine⟨_,_,hend,true,λb=>if b=l then some (.loop (xF fn tmps ps x y D .ready))else υ.m b,υ.h,rfl,⟨rfl,⟨λb i v e=>hle2.le _ _ _ (hle1.le _ _ _ e)⟩,υ.m,hul,λb hb=>by simp[hb],by simp,hR⟩,?_⟩;have t4:w4.tape=w3.tape/\w4.os=w3.os/\w4.output=w3.output/\w4.heap.size=w3.heap.size:=by rw[<-hw4];exact⟨rfl,rfl,rfl,by simp⟩
   have t2:w2.tape=w1.tape/\w2.os=w1.os/\w2.output=w1.output:=by rw[<-hw2];exact⟨rfl,rfl,rfl⟩
   have hsize1:w.heap.size<=w1.heap.size:=hw1.size;have hsize3:w2.heap.size<=w3.heap.size:=hw3.size;refine⟨?_,?_,?_,?_,?_,?_,⟨?_,?_,?_⟩,⟨λb i v e=>hle2.le _ _ _ (hle1.le _ _ _ e)⟩,?_,?_⟩
   .rw[t4.1,hw3.tape];show w2.tape=_;rw[t2.1];exact hw1.tape
   .rw[t4.2.1,hw3.os];show w2.os=_;rw[t2.2.1];exact hw1.os
   .rw[t4.2.2.1,hw3.output];show w2.output=_;rw[t2.2.2];exact hw1.output
   .have d4:w4.drawn=w3.drawn:=by rw[<-hw4];rfl
    have d3:w2.drawn<=w3.drawn:=hw3.drawn;have d2:w2.drawn=w1.drawn:=by rw[<-hw2];rfl
    have d1:w.drawn<=w1.drawn:=hw1.drawn;omega
   .omega
   .intro b hb hn;have hbl:b≠l:=λe=>by rw[e,hml]at hn;cases hn
    rw[ne4 b hbl,hw3.frame b (by show b<w2.heap.size;omega) (hmine b hb hn)];show w2.heap[b]? =_;rw[ne2 b hbl];exact hw1.frame b hb (λe=>e (by rw[<-hmm b hbl];exact hn))
   .intro b i v hv;have hv3:=hw3.hsat b i v hv;have hbl:b≠l:=λe=>by rw[e,Kf hl3]at hv3;cases hv3
    rw[World.cell?_of_block (w:=w3) (w':=w4) (a:=⟨b,i,none⟩) (ne4 b hbl)];exact hv3
   .intro b o hb;have hb2:(if b=l then some (Obj.loop (xF fn tmps ps x y D .ready))else υ.m b)=some o:=hb;clear hb;split at hb2
    .rename_i e;subst e;cases hb2;exact hl4
    .rename_i e;rw[ne4 b e];exact hw3.msat b o hb2
   .intro b o hb i;have hb2:(if b=l then some (Obj.loop (xF fn tmps ps x y D .ready))else υ.m b)=some o:=hb;clear hb;split at hb2
    .rename_i e;subst e;cases e2:υ.h b i with
     |none=>rfl
     |some v=>have:=hw3.hsat b i v e2;rw[Kf hl3]at this;cases this
    .exact hw3.disj b o hb2 i
   .intro b hb hn;have h1:υ.h b=τ.h b:=hw3.hold b (by show b<w2.heap.size;omega) (hmine b hb hn);rw[h1];have hbl:b≠l:=λe=>by rw[e,hml]at hn;cases hn
    exact hw1.hold b hb (λe=>e (by rw[<-hmm b hbl];exact hn))
   .intro b o hb;have hb2:(if b=l then some (Obj.loop (xF fn tmps ps x y D .ready))else υ.m b)=some o:=hb;clear hb;split at hb2
    .rename_i e;subst e;exact .inr (by rw[hml];simp)
    .rename_i e;rcases hw3.mfr b o hb2 with h1|h1
     .have h1:w2.heap.size<=b:=h1;exact .inl aC
     .rcases(hM1.mine h1).1 with h2|h2
      .exact .inl h2
      .exact .inr (by rw[hmm b e];exact h2)
  |ret=>obtain⟨_,_,_,h⟩:=hq;exact h.elim
  |exit id=>obtain⟨_,_,_,h⟩:=hq;exact h.elim
  |goto t=>exact hq.elim
  |panic ch=>exact hq.elim
  |outgrown=>exact hq.elim
 |ret=>obtain⟨_,_,_,h⟩:=hq;exact h.elim
 |exit id=>obtain⟨_,_,_,h⟩:=hq;exact h.elim
 |goto t=>exact hq.elim
 |panic ch=>exact hq.elim
 |outgrown=>exact hq.elim
theorem Lb(w:World)(o:Obj){b:Nat}(h:b<w.heap.size):(w.alloc o).heap[b]? =w.heap[b]? :=by
 exact Go.RowKit.Below.heap_alloc _ _ _ h
theorem Rb(w:World)(o:Obj):(w.alloc o).heap[w.heap.size]? =some o:=World.alloc_heap_new w o
theorem TK(w:World):∀l:List Value,AR w (l.map .val) l
 |[]=>trivial
 |_::l=>⟨rfl,TK w l⟩
theorem JM(l:List Value)(i:Nat)(c:CV)(u:Value)(b:Nat)(hi:(l.map CV.val)[i]? =some c)(hb:fM c u=some b):False:=by
 rw[List.getElem?_map]at hi;cases e:l[i]? with
 |none=>rw[e]at hi;cases hi
 |some v=>rw[e]at hi;simp at hi;subst hi;simp[fM]at hb
theorem Mc(hspecs:∀g S,assoc C.specs g=some S->Sound C.P g S){ds:List Nat}(hM:MM B ds ι σ a w){f:Operand}{ps:Array Tmp}{x y:Code}{Q:wK->St->Prop}{g:FuncId}{cs:Array Value}(hev:σ.ev f= .at (.val (.func (.func g) #[] cs)))(hx:pW x=true)(hy:pW y=true)
 {Src:PH->List Value->List (List Value)->Prop}(hok:Di C.P g Src){xs:List (List Value)}(hsrc:Src σ.h cs.toList xs){I:Nat->MH->PH->Prop}(h0:I 0 σ.m σ.h)
 (hround:∀(k:Nat)(vs:List Value)(m:MH)(h:PH),xs[k]? =some vs->PH.le σ.h h->I k m h->∃es:List (Nat×SV),ps.toList=es.map (·.1)/\DenS (λ_=>.slice none 0 0) (es.map (·.2)) vs/\IP C x y σ es m h (I (k+1)))
 (hend:∀(m:MH)(h:PH),PH.le σ.h h->I xs.length m h->Q .normal (blank σ m h)):(Code.rangeFunc f ps x y).wp C.P (QM B Q) a w:=by
  obtain⟨hsnd⟩:=hok;have hw:=hM.mod.wrel
  have hev':a.eval f= .func (.func g) #[] cs:=by
   have:=hM.mod.ev f;rw[hev]at this;exact this
  refine(wpIn_wide (n:=0)).1 (wpIn_rangeFunc ?_);intro fn hfn;obtain⟨l,hl⟩:∃l,l=w.heap.size+1:=⟨_,rfl⟩
  obtain⟨D,hD⟩:∃D,D=w.heap.size:=⟨_,rfl⟩
  obtain⟨W1,hW1⟩:∃W1,(w.alloc (.deferred (some []))).alloc (.loop (xF fn a.tmps ps x y D .ready))=W1:=⟨_,rfl⟩
  have s1:W1.heap.size=w.heap.size+2:=by rw[<-hW1];simp
  have old:∀b,b<w.heap.size->W1.heap[b]? =w.heap[b]? :=λb hb=>by
   rw[<-hW1,Lb _ _ (by simp;omega),Lb _ _ hb]
  have newD:W1.heap[D]? =some (.deferred (some [])):=by
   rw[<-hW1,hD,Lb _ _ (by simp)];exact Rb w _
  have newl:W1.heap[l]? =some (.loop (xF fn a.tmps ps x y D .ready)):=by
   rw[<-hW1,hl];have:=Rb (w.alloc (.deferred (some []))) (.loop (xF fn a.tmps ps x y D .ready))
   rwa [World.size_alloc]at this
  have mlt:∀b o,σ.m b=some o->b<w.heap.size:=λb o hb=>(Array.getElem?_eq_some_iff.1 (hw.msat b o hb)).1;have hlast:∀b i v,σ.h b i=some v->b<w.heap.size:=λb i v hv=>World.block_lt_of_cell? w ⟨b,i,none⟩ (hw.hsat b i v hv)
  let m1:MH:=λb=>if b=l then some (.loop (xF fn a.tmps ps x y D .ready))else σ.m b
  have m1l:m1 l=some (.loop (xF fn a.tmps ps x y D .ready)):=by simp[m1]
  have m1o:∀b,b≠l->m1 b=σ.m b:=λb hb=>if_neg hb
  have hσl:σ.m l=none:=by
   cases e:σ.m l with
   |none=>rfl
   |some o=>have:=mlt l o e;omega
  have hpre:v8 W1 m1 σ.h (.val (.func (.yield l) #[] #[])::cs.toList.map .val) (.func (.yield l) #[] #[]::cs.toList):=by
   refine⟨⟨rfl,TK _ _⟩,?_,?_,?_,λi j c d u v b hi _ _ _ hb _=>(JM (.func (.yield l) #[] #[]::cs.toList) i c u b hi hb).elim,λi c u b hi _ hb=>(JM (.func (.yield l) #[] #[]::cs.toList) i c u b hi hb).elim⟩
   .intro b i v hv;rw[World.cell?_of_block (w:=w) (w':=W1) (a:=⟨b,i,none⟩) (old b (hlast b i v hv))];exact hw.hsat b i v hv
   .intro b o hb;by_cases e:b=l
    .subst e;rw[m1l]at hb;cases hb;exact newl
    .rw[m1o b e]at hb;rw[old b (mlt b o hb)];exact hw.msat b o hb
   .intro b o hb i;by_cases e:b=l
    .subst e;cases e2:σ.h b i with
     |none=>rfl
     |some v=>have:=hlast _ _ _ e2;omega
    .rw[m1o b e]at hb;exact hw.disj b o hb i
  have notMoved:∀b,m1 b=none->¬pT m1 (.val (.func (.yield l) #[] #[])::cs.toList.map .val) (.func (.yield l) #[] #[]::cs.toList) b:=by
   rintro b hb (h1|⟨i,c,u,hi,hu,hc⟩)
   .exact h1 hb
   .exact JM (.func (.yield l) #[] #[]::cs.toList) i c u b hi hc
  let J:Nat->MH->PH->Prop:=λk mm hh=>PH.le σ.h hh/\∃m2,m2 l=none/\(∀b,b≠l->mm b=m2 b)/\mm l=some (.loop (xF fn a.tmps ps x y D .ready))/\I k m2 hh
  have hcall:=hsnd.2 (.val (.func (.yield l) #[] #[])::cs.toList.map .val) (.func (.yield l) #[] #[]::cs.toList) m1 σ.h W1 (λ_ mm hh=>J xs.length mm hh)
   ⟨l,cs.toList,xs,J,rfl,hsrc,⟨⟨λ_ _ _ e=>e⟩,σ.m,hσl,m1o,m1l,h0⟩,?_,λ_ _ _ _ hJ=>hJ⟩ hpre
  .have hrunl:(Instr.enterLoop fn a.tmps ps x y Fence.wide.round).run C.P w= .ok (l,[zF D]) W1:=by
    subst hD hl;rw[<-hW1];exact run_enterLoop_outer _ _ _ _ _
   refine⟨l,[zF D],W1,{target:=.fn (.func g) cs,args:= #[.func (.yield l) #[] #[]]},W1,g,(.func (.yield l) #[] #[]::cs.toList).toArray,W1,hrunl,?_,λ_ _=>trivial,?_,λe=>by simp[Fence.wide]at e,callsIn_wide.2 ?_⟩
   .simp only[resolve,rangeCall,hev'];simp[go_sem]
   .obtain⟨gf,hf,hbn,hnm⟩:=hsnd.1;have hbn:¬gf.body=none:=by intro e;rw[e]at hbn;cases hbn
    have hnm:¬gf.name= "runtime.NumGoroutine" :=by simpa using hnm
    simp only[invoke,callFunc];simp[program,Sem.run,hf,hnm,hbn]
   refine hcall.mono ?_;rintro e w3 ⟨r,u,mm,hh,rfl,⟨hle,m2,hm2l,hm2,hml,hI⟩,hok,hw3,_⟩;have hl3:=hw3.msat l _ hml;refine⟨_,_,run_endLoop hl3 (by simp[xF]),?_⟩;obtain⟨w4,hw4⟩:∃w4,w3.putObj l (.loop {xF fn a.tmps ps x y D .ready with state:=.exhausted})=w4:=⟨_,rfl⟩
   rw[hw4];have ne4:∀b,b≠l->w4.heap[b]? =w3.heap[b]? :=λb hb=>by rw[<-hw4];exact World.putObj_heap_other (λe=>hb e)
   have t4:w4.tape=w3.tape/\w4.os=w3.os/\w4.output=w3.output/\w4.heap.size=w3.heap.size:=by rw[<-hw4];exact⟨rfl,rfl,rfl,by simp⟩
   have t1:W1.tape=w.tape/\W1.os=w.os/\W1.output=w.output:=by rw[<-hW1];exact⟨rfl,rfl,rfl⟩
   have h3size:W1.heap.size<=w3.heap.size:=hw3.size
   have same:∀b,b<w.heap.size->σ.m b=none->w4.heap[b]? =w.heap[b]? :=λb hb hn=>by
    have hbl:b≠l:=by omega
    rw[ne4 b hbl,hw3.frame b (by show b<W1.heap.size;omega) (notMoved b (by rw[m1o b hbl];exact hn)),old b hb]
   have m2some:∀b o,m2 b=some o->mm b=some o/\b≠l:=λb o hb=>by
    have hbl:b≠l:=λe=>by rw[e,hm2l]at hb;cases hb
    exact⟨by rw[hm2 b hbl];exact hb,hbl⟩
   have m2old:∀b o,m2 b=some o->W1.heap.size<=b\/∃o',σ.m b=some o':=λb o hb=>by
    obtain⟨h1,hbl⟩:=m2some b o hb;rcases hw3.mfr b o h1 with h2|h2
    .exact .inl h2
    .refine .inr ?_;cases e:σ.m b with
     |some o'=>exact⟨o',rfl⟩
     |none=>exact(notMoved b (by rw[m1o b hbl];exact e) h2).elim
   have hB:B.w0.heap.size<=w.heap.size:=hw.size
   have mB:∀b,b<B.w0.heap.size->¬B.E b->σ.m b=none:=λb hb hn=>by
    cases e:σ.m b with
    |none=>rfl
    |some o=>
     rcases hw.mfr b o e with h1|h1
     .exact absurd hb (Nat.not_lt.2 h1)
     .exact(hn h1).elim
   have keepMark:∀D',D'∈ds->D'<w.heap.size/\σ.m D'=none:=λD' hD'=>by
    refine⟨(Array.getElem?_eq_some_iff.1 (hM.mark D' hD')).1,?_⟩;cases e:σ.m D' with
    |none=>rfl
    |some o=>exact(hM.mine D' hD' (.inl (by rw[e];simp))).elim
   have notMine:∀b,¬(W1.heap.size<=b)->σ.m b=none->¬Ln (λ_=>.slice none 0 0) (blank σ m2 hh) b:=by
    rintro b h1 h2 (h3|⟨k,o,hk,_⟩)
    .cases e:m2 b with
     |none=>exact h3 e
     |some o=>
      rcases m2old b o e with h4|⟨o',h4⟩
      .exact h1 h4
      .rw[h2]at h4;cases h4
    .exact Dq _ _ _ hk
   have hσD:σ.m D=none:=by
    cases e:σ.m D with
    |none=>rfl
    |some o=>have:=mlt D o e;omega
   refine⟨D::ds,λ_=>.slice none 0 0,blank σ m2 hh,⟨?_,?_,?_,?_,?_⟩,hend m2 hh hle hI⟩
   .refine aI.blank' (CW hM.mod.slots) ?_ ⟨?_,?_,?_,?_,?_,?_,?_,?_,?_,?_,?_,?_⟩
    .show[zF D]++a.defers=_;rw[hM.mod.defers];rfl
    .rw[t4.1,hw3.tape];show W1.tape=_;rw[t1.1];exact hw.tape
    .rw[t4.2.1,hw3.os];show W1.os=_;rw[t1.2.1];exact hw.os
    .rw[t4.2.2.1,hw3.output];show W1.output=_;rw[t1.2.2];exact hw.output
    .have d4:w4.drawn=w3.drawn:=by rw[<-hw4];rfl
     have d3:W1.drawn<=w3.drawn:=hw3.drawn;have d2:W1.drawn=w.drawn:=by rw[<-hW1];rfl
     have d1:B.w0.drawn<=w.drawn:=hw.drawn;show B.w0.drawn<=w4.drawn;omega
    .show B.w0.heap.size<=_;omega
    .intro b hb hnE;have hb:b<B.w0.heap.size:=hb;rw[same b aC (mB b hb hnE)];exact hw.frame b hb hnE
    .intro b i v hv;have hv3:=hw3.hsat b i v hv;have hbl:b≠l:=λe=>by rw[e,Kf hl3]at hv3;cases hv3
     rw[World.cell?_of_block (w:=w3) (w':=w4) (a:=⟨b,i,none⟩) (ne4 b hbl)];exact hv3
    .intro b o hb;obtain⟨h1,hbl⟩:=m2some b o hb;rw[ne4 b hbl];exact hw3.msat b o h1
    .intro b o hb i;exact hw3.disj b o (m2some b o hb).1 i
    .intro b i v hv;exact hle.le _ _ _ (hw.hle b i v hv)
    .intro b hb hnE;have hb:b<B.w0.heap.size:=hb;have h1:hh b=σ.h b:=hw3.hold b (by show b<W1.heap.size;omega) (notMoved b (by rw[m1o b aC];exact mB b hb hnE));rw[h1];exact hw.hold b hb hnE
    .intro b o hb;rcases m2old b o hb with h1|⟨o',h1⟩
     .exact .inl (by show B.w0.heap.size<=b;omega)
     .exact hw.mfr b o' h1
   .intro D' hD';rcases List.mem_cons.1 hD' with rfl|h1
    .omega
    .exact hM.size D' h1
   .intro D' hD';rcases List.mem_cons.1 hD' with rfl|h1
    .exact notMine D' aC hσD
    .obtain⟨h2,h3⟩:=keepMark D' h1;exact notMine D' aC h3
   .intro D' hD';rcases List.mem_cons.1 hD' with rfl|h1
    .rw[ne4 D' aC,hw3.frame D' (by show D'<W1.heap.size;omega) (notMoved D' (by rw[m1o D' aC];exact hσD))];exact newD
    .obtain⟨h2,h3⟩:=keepMark D' h1;rw[same D' h2 h3];exact hM.mark D' h1
   .refine List.nodup_cons.2 ⟨λh1=>?_,hM.nodup⟩;have:=(keepMark D h1).1;omega
  .rintro k e m' h' hk hle ⟨hle0,m2,hm2l,hm2,hml,hI⟩;refine⟨λw5 hH=>?_⟩;obtain⟨es,hps,hes,hV⟩:=hround k e m2 h' hk hle hI;obtain⟨fn',tmps',as',bd',hy1,hR⟩:=Pj hspecs (σ:=σ) (ι:=ι) hx hy hM.mod.slots hps hes hm2l hm2 hml hV w5 hH;refine⟨fn',tmps',as',bd',hy1,hR.mono ?_⟩;rintro ex w6 ⟨u,m6,h6,rfl,⟨rfl,hle6,m7,q1,q2,q3,q4⟩,hfr⟩;exact⟨_,m6,h6,rfl,⟨rfl,hle6,⟨λ_ _ _ e=>hle6.le _ _ _ (hle0.le _ _ _ e)⟩,m7,q1,q2,q3,q4⟩,hfr⟩
theorem RN(hspecs:∀g S,assoc C.specs g=some S->Sound C.P g S){ds:List Nat}(hM:MM B ds ι σ a w){f:Operand}{ps:Array Tmp}{x y:Code}{Q:wK->St->Prop}(h:RO C f ps x y σ (Q .normal)):(Code.rangeFunc f ps x y).wp C.P (QM B Q) a w:=by
 unfold RO at h;split at h
 .rename_i g fs cs hev hnd;obtain⟨hx,hy⟩:=Bool.and_eq_true_iff.1 hnd;split at h
  .rename_i hfs;obtain rfl:fs= #[]:=Array.toList_inj.1 (by simpa using hfs);split at h
   .rename_i p T hps hT;obtain⟨Src,xs,I,hok,hsrc,h0,hround,hend⟩:=h;refine Mc hspecs hM hev hx hy hok hsrc h0 (λk vs m h hk hle hI=>?_) (λm h hle hI=>hend m h hle (by simpa using hI));rw[List.getElem?_map]at hk;cases e:xs[k]? with
    |none=>rw[e]at hk;cases hk
    |some z=>
     rw[e]at hk;simp only[Option.map_some,Option.some.injEq]at hk;subst hk;exact⟨[(p,mk C.P T (((C.dec T).enc z).map .val))],by rw[hps];rfl,⟨RG,trivial⟩,hround k z m h e hle hI⟩
   .rename_i p q T U hps hT;obtain⟨Src,xs,I,hok,hsrc,h0,hround,hend⟩:=h;refine Mc hspecs hM hev hx hy hok hsrc h0 (λk vs m h hk hle hI=>?_) (λm h hle hI=>hend m h hle (by simpa using hI));rw[List.getElem?_map]at hk;cases e:xs[k]? with
    |none=>rw[e]at hk;cases hk
    |some z=>
     rw[e]at hk;simp only[Option.map_some,Option.some.injEq]at hk;subst hk;exact⟨[(p,mk C.P T (((C.dec T).enc z.1).map .val)),(q,mk C.P U (((C.dec U).enc z.2).map .val))],by rw[hps];rfl,⟨RG,RG,trivial⟩,hround k z.1 z.2 m h e hle hI⟩
   .exact h.elim
  .exact h.elim
 .exact h.elim
theorem UY(hspecs:∀g S,assoc C.specs g=some S->Sound C.P g S):∀(c:Code)(σ:St)(Q:wK->St->Prop)(ds:List Nat)(ι:Nat->Value)(a:Act)(w:World),MM B ds ι σ a w->Wo C c σ Q->c.wp C.P (QM B Q) a w:=by
 intro c
 induction c with
 |rangeFunc f ps x y _ _=>intro σ Q ds ι a w hM h;exact RN hspecs hM h
 |seq x y ihx ihy=>
  intro σ Q ds ι a w hM h;simp only[Wo]at h;split at h
  .exact zW hspecs hM h
  .split at h
   .obtain⟨I,h,hall⟩:=h;refine wp_seq (wp_mono (ihx σ _ ds ι a w hM h) ?_);intro e a' w' hq;cases e with
    |normal=>
     obtain⟨ds',ι',σ',hM',hm⟩:=hq;obtain⟨x',ι2,hx',hM2⟩:=wB hM'.here hm;exact ihy _ Q ds' ι2 a' w' (hM'.retag hM2) (hall x' hx')
    |exit id=>exact hq
    |ret=>exact hq
    |goto l=>exact hq
    |panic ch=>exact hq
    |outgrown=>exact hq
   .refine wp_seq (wp_mono (ihx σ _ ds ι a w hM h) ?_);intro e a' w' hq;cases e with
    |normal=>
     obtain⟨ds',ι',σ',hM',h'⟩:=hq;exact ihy σ' Q ds' ι' a' w' hM' h'
    |exit id=>exact hq
    |ret=>exact hq
    |goto l=>exact hq
    |panic ch=>exact hq
    |outgrown=>exact hq
 |cond c x y ihx ihy=>
  intro σ Q ds ι a w hM h;simp only[Wo]at h;split at h
  .exact zW hspecs hM h
  .split at h
   .rename_i t hc;have hev:=hM.mod.ev c;rw[hc]at hev;have hev:a.eval c= .bool t:=hev;rcases pN h with⟨rfl,h⟩|⟨rfl,h⟩
    .exact wp_cond_true hev (ihx _ Q ds ι a w (hM.retag (hM.here.setTmp hc)) h)
    .exact wp_cond_false hev (ihy _ Q ds ι a w (hM.retag (hM.here.setTmp hc)) h)
   .exact h.elim
 |block id c ih=>
  intro σ Q ds ι a w hM h;simp only[Wo]at h;split at h
  .exact zW hspecs hM h
  .refine wp_block (wp_mono (ih σ _ ds ι a w hM h) ?_);intro e a' w' hq;cases e with
   |normal=>exact hq
   |exit i=>
    obtain⟨ds',ι',σ',hM',h'⟩:=hq;show if i=id then _ else _
    simp only at h';split at h'
    .rename_i hb;rw[if_pos (Nat.eq_of_beq_eq_true hb)];exact⟨ds',ι',σ',hM',h'⟩
    .rename_i hb;rw[if_neg (λe=>by subst e;simp at hb)];exact⟨ds',ι',σ',hM',h'⟩
   |ret=>exact hq
   |goto l=>exact hq
   |panic ch=>exact hq
   |outgrown=>exact hq
 |_=>intro σ Q ds ι a w hM h;exact zW hspecs hM h
theorem J3(hM:aI B ι σ a w):∀{l:List ResultVar}{K:List Value->Prop},Ym C σ l K->∃vs,(l.mapM (Hg a.tmps)).run C.P w= .ok vs w/\K vs
 |[],K,h=>⟨[],by simp,h⟩
 |.tmp t::r,K,h=>h.elim
 |.cell t T::r,K,h=>by
  simp only[Ym]at h;split at h
  .rename_i b off hs hT;obtain⟨y,hrd,h⟩:=h;split at h
   .rename_i hlen;have hlen:=Nat.eq_of_beq_eq_true hlen;split at h
    .rename_i v hv;obtain⟨vs,h1,h2⟩:=J3 hM h;have hev:=hM.ev (.tmp t);have hx:σ.ev (.tmp t)= .at (.val (.pointer (some ⟨b,off,none⟩))):=by simp only[St.ev,hs]
     rw[hx]at hev;have hp':a.tmps.getD t undef= .pointer (some ⟨b,off,none⟩):=hev;have hl:=wA (w:=w) (b:=b) (off:=off) (cs:=(C.dec T).enc y) hT hlen (Bo hM.wrel hrd);have hd:=E0 (P:=C.P) (T:=T) (ι:=ι) (ats:=((C.dec T).enc y).map .val) (cs:=(C.dec T).enc y) (by rw[gJ.vals]);have hv2:=hd.val? hv;refine⟨v::vs,?_,h2⟩;simp only[List.mapM_cons,Hg,hp',asAddr,Sem.run_bind,Sem.run_pure,Result.andThen_ok,hl,h1,hv2]
    .exact h.elim
   .exact h.elim
  .exact h.elim
theorem Rv(hM:aI B ι σ a w){fn:Func}{K:CV->MH->PH->Prop}(h:GY C fn K σ):
 ∃u,(results fn a.tmps).run C.P w= .ok u w/\∃r m' h',K r m' h'/\Be w r u/\tR B m' h' w/\∀b,fM r u=some b->(B.w0.heap.size<=b\/B.E b)/\m' b=none/\∀i,h' b i=none:=by
 unfold GY at h;split at h
 .exact Dn hM h
 .obtain⟨vs,hvs,hK⟩:=J3 hM h
  have hres:(results fn a.tmps).run C.P w= .ok (if h:vs.toArray.size=1 then vs.toArray[0]else .tuple vs.toArray) w:=by
   rw[J2,Array.mapM_eq_mapM_toList];simp[hvs]
  split at hK
  .rename_i v;exact⟨v,by simpa using hres,.val v,σ.m,σ.h,hK,rfl,hM.wrel,λb hb=>by simp[fM]at hb⟩
  .rename_i hne
   have hnl:vs.length≠1:=λe=>by
    match vs,e with
    |[v],_=>exact hne v rfl
   exact⟨.tuple vs.toArray,by rw[hres,dif_neg (by simpa using hnl)],.tup (vs.map .val),σ.m,σ.h,hK,⟨vs.toArray,rfl,by simp⟩,hM.wrel,λb hb=>by simp[fM]at hb⟩
theorem Il{F:Fence}{n:Nat}{R:Ending->World->Prop}{fn:Func}{Kc:CV->MH->PH->Prop}(hret:GY C fn Kc σ)
 (hR:∀u w',(∃r m' h',Kc r m' h'/\Be w' r u/\tR B m' h' w'/\∀b,fM r u=some b->(B.w0.heap.size<=b\/B.E b)/\m' b=none/\∀i,h' b i=none)->R (.returned u) w'):
 ∀(ds:List Nat)(a:Act)(w:World),MM B ds ι σ a w->LeavesInM F n C.P fn a.tmps R (ds.map zF) .returning w
 |[],a,w,hM=>by
  obtain⟨u,hu,r,m',h',hK,hok,hw,hb⟩:=Rv hM.mod hret;refine⟨u,hu,hR u w ⟨r,m',h',hK,hok,⟨hw.tape,hw.os,hw.output,hw.drawn,hw.size,hw.frame,hw.hsat,hw.msat,hw.disj,hw.hle,hw.hold,hw.mfr⟩,hb⟩⟩
 |D::ds,a,w,hM=>by
  have hD:=hM.mark D (List.mem_cons_self ..);refine⟨by simp,.inl ⟨D,_,rfl,run_takeDeferred hD,Il hret hR ds {a with defers:=ds.map zF} _ ?_⟩⟩;have hg:w.grownBy (w.putObj D (.deferred none)) (some D):=grownBy_putObj' w D _
  have hM2:=hM.mod.grown hg (Nat.le_refl _) (λr e=>by
   cases e;exact⟨hM.size D (List.mem_cons_self ..),hM.mine D (List.mem_cons_self ..),_,hD,rfl⟩)
  have hnd:=List.nodup_cons.1 hM.nodup;refine⟨⟨hM2.slots,?_,hM2.own,hM2.dist,hM2.fresh,⟨hM2.wrel.tape,hM2.wrel.os,hM2.wrel.output,hM2.wrel.drawn,hM2.wrel.size,hM2.wrel.frame,hM2.wrel.hsat,hM2.wrel.msat,hM2.wrel.disj,hM2.wrel.hle,hM2.wrel.hold,hM2.wrel.mfr⟩,hM2.one⟩,λD' h=>hM.size D' (List.mem_cons_of_mem _ h),λD' h=>hM.mine D' (List.mem_cons_of_mem _ h),λD' h=>?_,hnd.2⟩
  .rfl
  .rw[World.putObj_heap_other (fun(e:D'=D)=>hnd.1 (by rw[<-e];exact h))];exact hM.mark D' (List.mem_cons_of_mem _ h)
theorem Mg{P:Program}{f:FuncId}{fn:Func}{c:Code}(hf:P.funcs[f]? =some fn)(hb:fn.body=some c)(hname:(fn.name== "runtime.NumGoroutine")=false){S:Spec}
 (hvc:∀cvs m h K,S cvs m h K->∃C:Ctx,C.P=P/\(∀g S,assoc C.specs g=some S->Sound P g S)/\T5 C fn c (entry fn.ntmps cvs m h) K):Sound P f S:=by
 refine⟨⟨fn,hf,by rw[hb];rfl,hname⟩,?_⟩;intro cvs vs m h w K hS hp;obtain⟨C,rfl,hspecs,hv⟩:=hvc cvs m h K hS;refine callsIn_wide.1 (callsIn_of_wp_marks (n:=0) hf hb trivial (wpIn_wide.2 ?_))
 have hM0:MM ⟨w,pT m cvs vs,h,[]⟩ [] (Io fn.ntmps cvs vs) (entry fn.ntmps cvs m h) {tmps:=vs.toArray++Array.replicate (fn.ntmps-vs.toArray.size) undef,defers:=[]} w:=
  ⟨Cg fn.ntmps hp,λ_ hD=>(List.not_mem_nil hD).elim,λ_ hD=>(List.not_mem_nil hD).elim,λ_ hD=>(List.not_mem_nil hD).elim,List.nodup_nil⟩
 refine wp_mono (UY hspecs c _ _ _ _ _ w hM0 hv) ?_;intro e a' w' hq
 have key:(∃ds ι σ,MM ⟨w,pT m cvs vs,h,[]⟩ ds ι σ a' w'/\GY C fn K σ)->LeavesInM Fence.wide 0 C.P fn a'.tmps (λe w'=>∃r u m' h',e= .returned u/\K r m' h'/\Be w' r u/\tR ⟨w,pT m cvs vs,h,[]⟩ m' h' w'/\
  (∀b,fM r u=some b->(w.heap.size<=b\/pT m cvs vs b)/\m' b=none/\∀i,h' b i=none)) a'.defers .returning w':=by
  rintro⟨ds,ι,σ,hM,hr⟩;rw[hM.mod.defers];exact Il hr (λu w''⟨r,m',h',h1,h2,h3,h4⟩=>⟨r,u,m',h',rfl,h1,h2,h3,h4⟩) ds a' w' hM
 cases e with
 |normal=>exact key hq
 |ret=>exact key hq
 |exit id=>obtain⟨_,_,_,_,h⟩:=hq;exact h.elim
 |goto l=>exact hq.elim
 |panic ch=>exact hq.elim
 |outgrown=>exact hq.elim
theorem RQ{P:Program}{f:FuncId}{fn:Func}{c:Code}(hf:P.funcs[f]? =some fn)(hb:fn.body=some c)(hname:(fn.name== "runtime.NumGoroutine")=false){S:Spec}
 (hvc:∀cvs m h K,S cvs m h K->∃C:Ctx,C.P=P/\(∀g S,assoc C.specs g=some S->Sound P g S)/\T5 C fn c (entry fn.ntmps cvs m h) (dQ h K)):Sound P f S:=
 .strong (Mg hf hb hname (S:=λcvs m h K=>∃K',S cvs m h K'/\K=dQ h K') (by
  rintro cvs m h K ⟨K',hS,rfl⟩;exact hvc cvs m h K' hS))
end
end Go.Vc
namespace Go.Ps
open Go Go.Vc Go.Proofs
variable{K:CV->MH->PH->Prop}{m:MH}{h:PH}{s:pV}{ps:List Int}{cb:Nat}{sc:bH}{v:QV}{q:Query}{p:Pred}{l:List Int}{i:Nat}{N:Nat}{m':MH}{h':PH}{co:List Int}{gr:List Int}{od:List (Int×Bool)}{w:Pred}{ta:Int}{li:Int}{xs:List (List Value)}{sz:Nat}{k:Nat}{ks:List (List Int)}{rs:List Int}{r:Sl}{a:List Int}{b:Nat}
def Lz(b:Nat):Value:=.func (.func 147) #[] #[.pointer (some ⟨b,0,none⟩)]
structure Ex(h:PH)(b:Nat)(us:List Sl):Prop where
 ex:∃s:Sl,bF h b 0 [s.val]/\cW h s 1 (us.map eS)/\us.length<=502633886983
theorem Ex.mono{us:List Sl}(x:Ex h b us)(le:PH.le h h'):Ex h' b us:=by
 obtain⟨s,h1,h2,h3⟩:=x.ex;exact⟨s,h1.mono le,h2.mono le,h3⟩
def uU:PH->List Value->List (List Value)->Prop:=λh caps xs=>∃b us,caps=[.pointer (some ⟨b,0,none⟩)]/\Ex h b us/\xs=us.map eS
noncomputable def On(specs:List (Nat×Vc.Spec))(loops:List (Nat×qF))(cuts:List (Nat×qF))(heapT:List TypeId):Ctx:={wH specs loops cuts [] heapT [] false with elemT:=[74]}
def Nk:Vc.Spec:=λcvs m h K=>∃s,cvs=[cS s]/\∀b h',PH.le h h'->bF h' b 0 [s.val]->K (.val (Lz b)) m h'
def OQ:Vc.Spec:=λcvs m h K=>∃s b us vs,cvs=[cS s,.val (Lz b)]/\dW m s 74 1 (us.map eS)/\Ex h b vs/\us.length<=502633886983/\
 ∀s' m',dW m' s' 74 1 ((us++vs).map eS)->(∀x o,m x=some o->(∀i,s.a≠some ⟨x,i,none⟩)->m' x=some o)->(∀x i,s'.a=some ⟨x,i,none⟩->m x=none\/∃i,s.a=some ⟨x,i,none⟩)->K (cS s') m' h
def Rm:Vc.Spec:=λcvs m h K=>∃b vs,cvs=[.val (Lz b)]/\Ex h b vs/\
 ∀s' m',dW m' s' 74 1 (vs.map eS)->(∀x o,m x=some o->m' x=some o)->(∀x i,s'.a=some ⟨x,i,none⟩->m x=none)->K (cS s') m' h
noncomputable def Xl(b:Nat)(l:Nat)(s:Sl):Ctx:=
 {dN [] [(1,{A:=Nat×MH×PH,st:=λ⟨i,m,h⟩=>cE 16 18 [(0,vv (.func (.yield l) #[] #[])),(1,vv (.pointer (some ⟨b,0,none⟩))),(5,sv s),(6,iv s.len),(7,iv i)] [] m h})] [] [] false with yield:=some (XN Tryz.prog)}
noncomputable abbrev oS(a:Nat):CV:=CV.val (Value.func (Fn.func 147) rW (Bz a))
attribute [push_cast] oS
def HG(s:Sl)(m:MH)(h:PH)(K:CV->MH->PH->Prop):Prop:=
  ∀(b:Nat)(m1:MH),bC (cM m h b) (bE m m1 b (aR s) 53) (K (oS b) m1 h)
noncomputable abbrev eY(a:Nat×MH×PH):Nat->Option Obj:=a.2.1
noncomputable abbrev eD(a:Nat×MH×PH):Nat->Nat->Option Value:=a.2.2
attribute [push_cast] eY eD
def MQ(b l:Nat)(s:Sl)(m:MH)(h:PH)(K:CV->MH->PH->Prop):Prop:=
  ∃(y:Sl),aM m h b 0 (aR y)/\∃(I:Nat×MH×PH->Prop)(m1:Nat×MH×PH->Nat),(∃(x:Nat×MH×PH),aA (I x) (B7 l) (aA (cV b) (aZ y s) (aA (cH y s) (bG x.1) (aA (cO m x.2) (dO h x.2) True))))/\∀(x:Nat×MH×PH),I x->bD (↑x.1:Int) (aG s) (aT (λb1 o=>aH (aU s.a b1 o) (0<=(↑x.1:Int)) ((↑x.1:Int)<aG s) (∃(y1:Sl),aA (aM (eY x) (eD x) b1 (bB o x.1 1) (aR y1)) (Jq (XN Proofs.Tryz.prog)) (∃(l1:Nat)(v:List Value)(R:Bool->MH->PH->Prop),aA (bI (An l) (kU y1)=An l1::List.map CV.val v) (YDo Proofs.Tryz.prog l1 v (eY x) (eD x) R) (∀(u:Bool),eA (λm2 h1=>gU (R u m2 h1) (!u) (K (CV.tup []) m2 h1) (∃(x1:Nat×MH×PH),aA (I x1) (m1 x1<m1 x) (aA (B7 l) (cV b) (aA (aK s) (bK s) (aA (gS (aW
 x.1 1)=bX x1.1) (cO m2 x1.2) (kI h1 x1.2))))))))))) (K (CV.tup []) (eY x) (eD x))
abbrev qX(a:PH->List Value->List (List Value)->Prop)(b:Nat->Nat->Option Value)(c:Nat)(d:MH)(e:(List Sl)->(Nat->MH->PH->Prop)->Nat->Sl->Prop)(g:MH->PH->Prop):Prop:=∃(x:List Sl)(x1:Nat->MH->PH->Prop),aA (Di Proofs.Tryz.prog 147 a) (a b (j6 (Yg c 0)) (List.map (fun(x2:Sl)=>aR x2) x)) (aA (x1 0 d b) (∀(x2:Nat)(x3:Sl),e x x1 x2 x3) (eA (λx2 x3=>dZ b x3 (x1 x.length x2 x3) (g x2 x3))))
abbrev qA(a:List Sl)(b:Nat)(c:Sl):Prop:=a[b]? =Option.some c
abbrev Dt(a:MH)(b:PH)(c:Nat)(d:Sl->(List (List Value))->Prop):Prop:=∃(x:Sl),aM a b c 0 (aR x)/\∃(x1:List (List Value)),aH (dW a (dR x) 74 1 x1) (iB ((x1.length+1)*24)) (iX x1) (d x x1)
attribute [push_cast] qX qA Dt
def ME(s:Sl)(b:Nat)(m:MH)(h:PH)(K:CV->MH->PH->Prop):Prop:=
  ∀(b1:Nat)(m1:MH),bC (cM m h b1) (bE m m1 b1 (aR s) 53) (∃(S:PH->List Value->List (List Value)->Prop),qX S h b m1 (λx I k e=>eA (λm2 h1=>bC (qA x k e) (PH.le h h1) (I k m2 h1->Dt m2 h1 b1 (λy x1=>iH (λs1 m3=>eZ m2 m3 (dR y) s1 74 1 (kB x1 e)->eX (λc E=>aA (oX m3 b1 (dV c E 0)) (0<c.size) (∀(m4:MH),bE m3 m4 b1 (eU (eR s1) 1 c) E->I (k+1) m4 h1))))))) (λm2 h1=>∃(y:Sl),aM m2 h1 b1 0 (aR y)/\K (kU y) m2 h1))
abbrev Gc(a:Nat->(List Sl)->Prop):Prop:=∃(x:Nat)(x1:List Sl),a x x1
attribute [push_cast] Gc
def VX(b:Nat)(m:MH)(h:PH)(K:CV->MH->PH->Prop):Prop:=
  ∃(s:Sl),Gc (λb1 u=>∃(v:List Sl),aA (bI Dc (oS b)=fW s (oS b1)) (dW m s 74 1 (rL u)) (aA (Ex h b1 v) (EL u.length) (∀(s1:Sl),FM s1 1 (u++v) (λm1 x o=>bC (m x=Option.some o) (∀(i:Nat),jU (aU s.a x i)) (m1 x=Option.some o)) (λx=>B0 m x\/∃(i:Nat),aU s.a x i) (λm1=>K (kU s1) m1 h))))
def lU(h:PH)(b:Nat)(l:List Value):PH:=λb' i=>if b'=b then l[i]? else h b' i
theorem As{l:List Value}(hb:∀i,h b i=none):PH.le h (lU h b l):=⟨λb' i v e=>by
 have:b'≠b:=λe2=>by rw[e2,hb]at e;cases e
 simp only[lU,if_neg this];exact e⟩
theorem T2{l:List Value}:bF (lU h b l) b 0 l:=⟨λi v e=>by simp only[lU,if_true,Nat.zero_add];exact e⟩
theorem Yx{f:FuncId}{fn:Func}(hf:Tryz.prog.funcs[f]? =some fn){S:Vc.Spec}(hvc:∀cvs m h K,S cvs m h K->∃C:Ctx,C.P=Tryz.prog/\(∀g S,assoc C.specs g=some S->Sound Tryz.prog g S)/\∃N:Prop,N=zJ C fn (cQ fn) (entry fn.ntmps cvs m h) (dQ h K)/\N)(hb:fn.body=some (cQ fn):=by rfl)(hname:(fn.name== "runtime.NumGoroutine")=false:=by decide):Sound Tryz.prog f S:=Vg hf hb hname λcvs m h K hS=>let⟨C,hC,hs,N,e,hn⟩:=hvc cvs m h K hS;⟨C,hC,hs,e▸hn⟩
theorem S6:Sound Tryz.prog 117 Nk:=by
 refine Yx Tryz.func117 ?_;rintro cvs m h K ⟨s,rfl,hK⟩;refine⟨dN [] [] [] [] false,rfl,aF,HG s m h (dQ h K),by kernel_rfl,?_⟩;show HG s m h (dQ h K);dsimp only[HG,push_cast];intro b m' hun hu hd
 have sub:∀b' o,m b'=some o->m' b'=some o:=λb' o hb'=>by
  rw[hu.other b' (λe=>by rw[e,hun.m_]at hb';cases hb')];exact hb'
 refine⟨m,lU h b [s.val],sub,As hun.h_,λb' i v e=>?_,hK b _ (As hun.h_) T2⟩;by_cases hb:b'=b
 .subst hb;simp only[lU,if_true]at e;exact .inr ⟨_,_,_,hu.at_,by simpa[Sl.val]using e,hun.m_⟩
 .simp only[lU,if_neg hb]at e;exact .inl e
theorem SD:Sound Tryz.prog 147 (X8 Tryz.prog uU):=by
 refine iJ Tryz.func147 ?_;rintro cvs m h K ⟨l,caps,xs,J,rfl,⟨b,us,rfl,hseq,rfl⟩,h0,hround,hend⟩;obtain⟨s,hb,hr,hl⟩:=hseq.ex;refine⟨Xl b l s,rfl,aF,MQ b l s m h K,by kernel_rfl,?_⟩;dsimp only[MQ,push_cast];have hlen:=hr.len;simp only[List.length_map]at hlen;refine⟨s,.imm hb,λx=>x.1<=us.length/\PH.le h x.2.2/\J x.1 x.2.1 x.2.2,λx=>us.length-x.1,⟨(0,m,h),⟨by simp,.refl _,h0⟩,MT⟩,?_⟩;rintro⟨i,mx,hx⟩ ⟨hi,le,hJ⟩;dsimp only at hi le hJ⊢
 refine aE (λhlt=>?_) (λhge=>hend _ mx hx le (by have e:i=us.length:=aC;simp only[List.length_map];rw[<-e];exact hJ));obtain⟨u,hu⟩:∃u,us[i]? =some u:=⟨_,List.getElem?_eq_getElem aC⟩
 obtain⟨b1,o1,e1,r1⟩:=hr.get (i:=i) (e:=eS u) (by simp[hu]);refine⟨b1,o1,e1,aC,hlt,u,.imm (r1.mono le),JK _,l,_,_,rfl,hround i (eS u) mx hx (by simp[hu]) le hJ,?_⟩;rintro t m' h' ⟨rfl,le',hJ'⟩;exact⟨(i+1,m',h'),⟨by dsimp only;omega,le.trans le',hJ'⟩,(by dsimp only;omega),MT⟩
theorem tL:Di Tryz.prog 147 uU:=⟨SD⟩
theorem amJ{f:FuncId}{fn:Func}(hf:Tryz.prog.funcs[f]? =some fn){S:Vc.Spec}(hvc:∀cvs m h K,S cvs m h K->∃C:Ctx,C.P=Tryz.prog/\(∀g S,assoc C.specs g=some S->Sound Tryz.prog g S)/\∃N:Prop,N=T5 C fn (cQ fn) (entry fn.ntmps cvs m h) K/\N)(hb:fn.body=some (cQ fn):=by rfl)(hname:(fn.name== "runtime.NumGoroutine")=false:=by decide):Sound Tryz.prog f S:=Mg hf hb hname λcvs m h K hS=>let⟨C,hC,hs,N,e,hn⟩:=hvc cvs m h K hS;⟨C,hC,hs,e▸hn⟩
theorem KM:Sound Tryz.prog 188 OQ:=by
 refine amJ Tryz.func188 ?_;rintro cvs m h K ⟨s,b,us,vs,rfl,hr,hs,hl,hK⟩;refine⟨On [] [] [] [200002,1053],rfl,aF,ME s b m h K,by kernel_rfl,?_⟩;dsimp only[ME,push_cast];intro b1 m1 hun hu;have hvl:vs.length<=502633886983:=by obtain⟨_,_,_,h3⟩:=hs.ex;exact h3
 have sub:∀x o,m x=some o->m1 x=some o/\x≠b1:=λx o hx=>by
  have:x≠b1:=λe=>by rw[e,hun.m_]at hx;cases hx
  exact⟨by rw[hu.other x this];exact hx,this⟩
 have hsb:∀i,s.a≠some ⟨b1,i,none⟩:=λi e=>by
  obtain⟨o,ho⟩:=dW.blk hr e;exact(sub b1 _ ho).2 rfl
 refine⟨uU,vs,λk mx hx=>hx=h/\∃s',mx b1=some (.cells #[.slice s'.a s'.len s'.cap] 53 (0,0))/\dW mx s' 74 1 ((us++vs.take k).map eS)/\(∀i,s'.a≠some ⟨b1,i,none⟩)/\(∀x o,m x=some o->(∀i,s.a≠some ⟨x,i,none⟩)->mx x=some o/\∀i,s'.a≠some ⟨x,i,none⟩)/\(∀x i,s'.a=some ⟨x,i,none⟩->m x=none\/∃i,s.a=some ⟨x,i,none⟩),
  tL,⟨b,vs,rfl,hs,rfl⟩,⟨rfl,s,hu.at_,?_,hsb,λx o hx hn=>⟨(sub x o hx).1,hn⟩,λx i e=>.inr ⟨i,e⟩⟩,?_,?_⟩
 .rw[List.take_zero,List.append_nil]
  exact dW.keep hr (λx i e=>by
   obtain⟨o,ho⟩:=dW.blk hr e;rw[(sub x _ ho).1,ho])
 .rintro k e mx hx hk-⟨rfl,s',hb1,hrow,hnb,hoth,hfr⟩
  have hkl:=(List.getElem?_eq_some_iff.1 hk).1;refine⟨s',.of_m hb1 rfl,_,hrow,by simp;omega,by simp;omega,λs2 m2 hg=>⟨_,_,⟨hg.other b1 _ hb1 hnb⟩,by simp,λm3 hu3=>⟨rfl,s2,hu3.at_,?_,?_,?_,?_⟩⟩⟩
  .have e1:(us++vs.take (k+1)).map eS=(us++vs.take k).map eS++[eS e]:=by
    rw[List.take_add_one,hk];simp
   rw[e1];refine dW.keep hg.row (λx i e2=>hu3.other x (λe3=>?_));subst e3;rcases hg.fresh x i e2 with h1|⟨j,h1⟩
   .rw[hb1]at h1;cases h1
   .exact hnb j h1
  .intro i e2;rcases hg.fresh b1 i e2 with h1|⟨j,h1⟩
   .rw[hb1]at h1;cases h1
   .exact hnb j h1
  .intro x o hx hn;obtain⟨h1,h2⟩:=hoth x o hx hn;refine⟨by rw[hu3.other x (sub x o hx).2];exact hg.other x o h1 h2,λi e2=>?_⟩;rcases hg.fresh x i e2 with h3|⟨j,h3⟩
   .rw[h1]at h3;cases h3
   .exact h2 j h3
  .intro x i e2;rcases hg.fresh x i e2 with h3|⟨j,h3⟩
   .cases e4:m x with
    |none=>exact .inl rfl
    |some o=>
     refine .inr (Classical.byContradiction λhn=>?_);have:=(hoth x o e4 (λi e=>hn ⟨i,e⟩)).1;rw[h3]at this;cases this
   .exact hfr x j h3
 .rintro mx hx-⟨rfl,s',hb1,hrow,hnb,hoth,hfr⟩
  rw[List.take_length]at hrow;exact⟨s',.of_m hb1 rfl,hK s' mx hrow (λx o hx hn=>(hoth x o hx hn).1) hfr⟩
theorem Sj:Sound Tryz.prog 189 Rm:=by
 refine iJ Tryz.func189 ?_;rintro cvs m h K ⟨b,vs,rfl,hs,hK⟩;refine⟨dN [(188,OQ)] [] [] [] false,rfl,aD KM aF,VX b m h K,by kernel_rfl,?_⟩;exact⟨⟨none,0,0⟩,b,[],vs,rfl,⟨AU [],.inl ⟨rfl,rfl⟩⟩,hs,by simp,λs' m' hr ho hf=>hK s' m' hr (λx o hx=>ho x o hx (λi e=>by cases e)) (λx i e=>(hf x i e).elim id λ⟨j,e⟩=>by cases e)⟩
structure ZD(v:VV):Prop where
 kind:OJ v.kind
 int:OJ v.int
 text:v.text.size<=64
structure OR(r:List VV):Prop where
 len:r.length<=12
 val:∀v∈r,ZD v
def Cr(v:VV):List UInt8:=lF v.kind++58::(lF v.int++58::(lF (v.text.size:Int)++58::v.text.data.toList))
def A1(r:List VV):List UInt8:=r.flatMap Cr
def dD(r:List VV):ByteArray:=⟨(A1 r).toArray⟩
def pick(r:List VV)(cols:List Int):List VV:=cols.map λc=>r.getD c.toNat zeroV
structure iR(n:Nat)(cols:List Int):Prop where
 at_:∀c∈cols,0<=c/\c<n
 len:cols.length<=100000
def Ye:Vc.Spec:=λcvs m h K=>∃xs v,cvs=[.lst 5 1 xs,aV v]/\jN m/\v.text.size<=64/\xs.length+300<=140737488355328/\K (.lst 5 1 (xs++bM (Cr v))) m h
def X6:Vc.Spec:=λcvs m h K=>∃s t r cols,cvs=[cS s,cS t]/\cR h s r/\Ints h t cols/\OR r/\iR r.length cols/\jN m/\K (Ot (dD (pick r cols))) m h
def UL:Vc.Spec:=λcvs m h K=>∃s r,cvs=[cS s]/\cR h s r/\OR r/\jN m/\K (Ot (dD r)) m h
def kQ(on:List (Int×Int)):List Int:=on.map Prod.fst
def gK(on:List (Int×Int)):List Int:=on.map Prod.snd
def Tz:Vc.Spec:=λcvs m h K=>∃s on,cvs=[cS s]/\mG h s on/\∀a b h',PH.le h h'->Ints h' a (kQ on)->Ints h' b (gK on)->K (.tup [cS a,cS b]) m h'
def Rp:Vc.Spec:=λcvs m h K=>∃s t r cols,cvs=[cS s,cS t]/\cR h s r/\Ints h t cols/\iR r.length cols/\K (cB ((pick r cols).all mE)) m h
def Yb:Vc.Spec:=λcvs m h K=>∃n:Nat,cvs=[.val (.slice none 0 0),cI n]/\n<=1000/\K (.lst 27 3 []) m h
def Rk:Vc.Spec:=λcvs m h K=>∃ss rs,cvs=[cS ss]/\Rows h ss rs/\rs.length<=10/\(∀r∈rs,r.length<=12)/\∀sl h',PH.le h h'->cR h' sl rs.flatten->K (cS sl) m h'
noncomputable def W5:Ctx:=wH [(223,UU)] [] [] [] [] [(223,[0])] true
noncomputable def W9(s t:Sl)(m:MH)(h:PH):Ctx:=
 wH [(208,Ye)] [(3,{A:=Nat×List UInt8,st:=λ⟨i,l⟩=>cE 23 25 [(0,sv s),(5,.at (.lst 19)),(8,sv t),(9,iv t.len),(10,iv i)] [(19,.lst 5 1 (bM l))] m h})] [] [] [] [(208,[0])] false
noncomputable def W4(s:Sl)(m:MH)(h:PH):Ctx:=
 wH [(208,Ye)] [(3,{A:=Nat×List UInt8,st:=λ⟨i,l⟩=>cE 18 19 [(3,.at (.lst 14)),(6,sv s),(7,iv s.len),(8,iv i)] [(14,.lst 5 1 (bM l))] m h})] [] [] [] [(208,[0])] false
noncomputable def Xb(s:Sl)(m:MH)(h:PH):Ctx:=
 dN [] [(2,{A:=Nat×List Int×List Int,st:=λ⟨i,l,k⟩=>cE 25 26 [(2,.at (.lst 16)),(3,.at (.lst 21)),(6,sv s),(7,iv s.len),(8,iv i)] [(16,.lst 3 1 (l.map eI)),(21,.lst 3 1 (k.map eI))] m h})] [] [] false
noncomputable def Xa(s t:Sl)(m:MH)(h:PH):Ctx:=
 dN [(203,Np)] [(2,{A:=Nat,st:=λi=>cE 20 22 [(0,sv s),(7,sv t),(8,iv t.len),(9,iv i)] [] m h})] [] [] false
noncomputable def W8(ss:Sl)(m:MH)(h:PH):Ctx:=
 dN [(209,Yb)] [(3,{A:=Nat×Nat,st:=λ⟨i,n⟩=>cE 36 37 [(0,sv ss),(3,iv n),(9,sv ss),(10,iv ss.len),(11,iv i)] [] m h}),
  (11,{A:=Nat×List VV,st:=λ⟨i,l⟩=>cE 36 37 [(6,.at (.lst 24)),(25,sv ss),(26,iv ss.len),(27,iv i)] [(24,.lst 27 3 (l.map VV.enc))] m h})] [] [] false
noncomputable abbrev DE(a:List (List Value))(b:Int):List (List Value):=uL a (lF b)++bL (j6 (wU 58))
attribute [push_cast] DE
def Mz(xs:List (List Value))(v:VV)(m:MH)(h:PH)(K:CV->MH->PH->Prop):Prop:=
  ∃(x:List (List Value))(i:Int),aA (xH xs v.kind=xH x i) (jN m) (aA (zA x 40) (iB (((uL x (lF i)).length+1)*1)) (BE (iX (uL x (lF i))) (λx1=>∃(i1:Int),aA (xH (DE x i) v.int=xH x1 i1) (jN m) (aA (zA x1 40) (iB (((uL x1 (lF i1)).length+1)*1)) (BE (iX (uL x1 (lF i1))) (λx2=>∃(i2:Int),aA (xH (DE x1 i1) (↑v.text.size:Int)=xH x2 i2) (jN m) (aA (zA x2 40) (iB (((uL x2 (lF i2)).length+1)*1)) (aH (iX (uL x2 (lF i2))) (sJ (DE x2 i2) (iK v.text) 1) (sK (DE x2 i2) (iK v.text)) (K (CV.lst 5 1 (DE x2 i2++iK v.text)) m h)))))))))
noncomputable abbrev xR(a:Nat×List UInt8):List (List Value):=bM a.2
attribute [push_cast] xR
def MG(s t:Sl)(m:MH)(h:PH)(K:CV->MH->PH->Prop):Prop:=
  ∃(I:Nat×List UInt8->Prop)(m1:Nat×List UInt8->Nat),(∃(x:Nat×List UInt8),aA (I x) (aK s) (aA (eL 19) (aK t) (aA (bK t) (bG x.1) (aA (uJ 5 1 (xR x)) (m=m) (dC h h)))))/\∀(x:Nat×List UInt8),I x->bD (↑x.1:Int) (aG t) (aT (λb o=>aH (aU t.a b o) (0<=(↑x.1:Int)) ((↑x.1:Int)<aG t) (∃(y:Int),aM m h b (bB o x.1 1) (cK y)/\aT (λb1 o1=>aH (aU s.a b1 o1) (0<=y) (y<aG s) (∃(y1:VV),aM m h b1 (fL o1 y 3) y1.enc/\∃(x1:List (List Value))(v:VV),aA (bI (CV.lst 5 1 (xR x)) (fR y1)=bI (CV.lst 5 1 x1) (fR v)) (jN m) (aA (v.text.size<=64) (zA x1 300) (∃(x2:Nat×List UInt8),aA (I x2) (m1 x2<m1 x) (aA (aK s) (eL 19) (aA (aK t) (bK t) (aA (gS (aW x.1 1)=bX x2.1) (dJ 5 1 (uL x1 (Cr v))=
 dJ 5 1 (xR x2)) (eH m m h h))))))))))) (∃(b:List UInt8),xR x=bM b/\K (jW (ByteArray.mk (Array.mk b))) m h)
def Mx(s:Sl)(m:MH)(h:PH)(K:CV->MH->PH->Prop):Prop:=
  ∃(I:Nat×List UInt8->Prop)(m1:Nat×List UInt8->Nat),(∃(x:Nat×List UInt8),aA (I x) (eL 14) (aA (aK s) (bK s) (aA (bG x.1) (uJ 5 1 (xR x)) (aA (m=m) (h=h) True))))/\∀(x:Nat×List UInt8),I x->bD (↑x.1:Int) (aG s) (aT (λb o=>aH (aU s.a b o) (0<=(↑x.1:Int)) ((↑x.1:Int)<aG s) (∃(y:VV),aM m h b (bB o x.1 3) y.enc/\∃(x1:List (List Value))(v:VV),aA (bI (CV.lst 5 1 (xR x)) (fR y)=bI (CV.lst 5 1 x1) (fR v)) (jN m) (aA (v.text.size<=64) (zA x1 300) (∃(x2:Nat×List UInt8),aA (I x2) (m1 x2<m1 x) (aA (eL 14) (aK s) (aA (bK s) (gS (aW x.1 1)=bX x2.1) (aA (dJ 5 1 (uL x1 (Cr v))=dJ 5 1 (xR x2)) (m=m) (dC h h))))))))) (∃(b:List UInt8),xR x=bM b/\K (jW (ByteArray.mk (Array.mk b))) m h)
def MJ(s:Sl)(m:MH)(h:PH)(K:CV->MH->PH->Prop):Prop:=
  ∃(I:Nat×List Int×List Int->Prop)(m1:Nat×List Int×List Int->Nat),(∃(x:Nat×List Int×List Int),aA (I x) (eL 16) (aA (eL 21) (aK s) (aA (bK s) (bG x.1) (aA (qY x.2.1) (qY x.2.2) (eH m m h h)))))/\∀(x:Nat×List Int×List Int),I x->bD (↑x.1:Int) (aG s) (aT (λb o=>aH (aU s.a b o) (0<=(↑x.1:Int)) ((↑x.1:Int)<aG s) (∃(y:Int×Int),aA (aM m h b (bB o x.1 2) (vJ y)) (cN 0) (aA ((0:Int)<2) (DG x.2.1) (aA (iX (gZ x.2.1)) (cN 1) (aA ((1:Int)<2) (DG x.2.2) (iX (gZ x.2.2)/\∃(x1:Nat×List Int×List Int),aA (I x1) (m1 x1<m1 x) (aA (eL 16) (eL 21) (aA (aK s) (bK s) (aA (gS (aW x.1 1)=bX x1.1) (qZ x.2.1 y.1 x1.2.1) (dE (qZ x.2.2 y.2 x1.2.2) m m h h))))))))))) (aX h 1 (gZ x.2.1) (λs1 h1
 =>aX h1 1 (gZ x.2.2) (λs2 h2=>K (CV.tup (gP s1 s2)) m h2)))
def MI(s t:Sl)(m:MH)(h:PH)(K:CV->MH->PH->Prop):Prop:=
  mT (λI x=>aA (I x) (aK s) (aA (aK t) (bK t) (dE (bG x) m m h h))) (λI m1 x=>I x->bD (↑x:Int) (aG t) (aT (λb o=>aH (aU t.a b o) (0<=(↑x:Int)) ((↑x:Int)<aG t) (∃(y:Int),aM m h b (bB o x 1) (cK y)/\aT (λb1 o1=>aH (aU s.a b1 o1) (0<=y) (y<aG s) (∃(y1:VV),aM m h b1 (fL o1 y 3) y1.enc/\∃(v:VV),fH (fR y1) (fR v)/\gX (!(mE v)) (K bA m h) (λx1=>aA (I x1) (m1 x1<m1 x) (aA (aK s) (aK t) (aA (bK t) (gS (aW x 1)=bX x1) (aA (m=m) (h=h) True))))))))) (K gE m h))
def My(n:Nat)(m:MH)(h:PH)(K:CV->MH->PH->Prop):Prop:=
  fC (eB ((↑n:Int)-eB ((0:Int)-0))) 0 (aA (cN 0) (cN 0) (aA (0<eB ((↑n:Int)-0)) (Ga (eB ((↑n:Int)-0)*32)) (aH (Ga (eB ((↑n:Int)-0))) ((0:Int)<=0) (cN (kJ (List.replicate (eB ((↑n:Int)-0)).toNat vK))) (K (CV.lst 27 3 []) m h)))) (K (CV.lst 27 3 []) m h)
noncomputable abbrev sO(a:List VV):List (List Value):=List.map VV.enc a
attribute [push_cast] sO
def MF(ss:Sl)(m:MH)(h:PH)(K:CV->MH->PH->Prop):Prop:=
  Jj (λI x=>aA (I x) (aK ss) (aA (bG x.2) (aK ss) (aA (bK ss) (bG x.1) (aA (m=m) (h=h) True)))) (λI m1 x=>I x->bD (↑x.1:Int) (aG ss) (aT (λb o=>aH (aU ss.a b o) (0<=(↑x.1:Int)) ((↑x.1:Int)<aG ss) (∃(y:Sl),aM m h b (bB o x.1 1) (aR y)/\bD (aW x.2 (aG y)) 0 False (∃(x1:Nat×Nat),aA (I x1) (m1 x1<m1 x) (aA (aK ss) (gS (aW x.2 (aG y))=bX x1.2) (aA (aK ss) (bK ss) (aA (gS (aW x.1 1)=bX x1.1) (m=m) (dC h h)))))))) (∃(n:Nat),aA (bU Dc (↑x.2:Int)=bU Dc (↑n:Int)) (mX n) (∃(I1:Nat×List VV->Prop)(m2:Nat×List VV->Nat),(∃(x1:Nat×List VV),aA (I1 x1) (eL 24) (aA (aK ss) (bK ss) (aA (bG x1.1) (uJ 27 3 (sO x1.2)) (aA (m=m) (h=h) True))))/\∀(x1:Nat×List VV),I1 x1->bD
 (↑x1.1:Int) (aG ss) (aT (λb o=>aH (aU ss.a b o) (0<=(↑x1.1:Int)) ((↑x1.1:Int)<aG ss) (∃(y:Sl),aM m h b (bB o x1.1 1) (aR y)/\∃(y1:List (List Value)),aA (eV 3 y1) (cW h (dR y) 3 y1) (aA (sJ (sO x1.2) y1 32) (sK (sO x1.2) y1) (∃(x2:Nat×List VV),aA (I1 x2) (m2 x2<m2 x1) (aA (eL 24) (aK ss) (aA (bK ss) (gS (aW x1.1 1)=bX x2.1) (aA (dJ 27 3 (sO x1.2++y1)=dJ 27 3 (sO x2.2)) (m=m) (dC h h))))))))) (aX h 3 (sO x1.2) (λs h1=>K (kU s) m h1)))))
theorem GH(a b:List UInt8):bM a++bM b=bM (a++b):=by simp[bM]
theorem Wg{v:VV}(h:v.text.size<=64):(Cr v).length<=130:=by
 have h1:=yO v.kind;have h2:=yO v.int;have h3:=yO (v.text.size:Int);have h4:v.text.data.toList.length=v.text.size:=Array.length_toList;simp only[Cr,List.length_append,List.length_cons];omega
theorem KJ:Sound Tryz.prog 208 Ye:=by
 refine iJ Tryz.func208 ?_;rintro cvs m h K ⟨xs,v,rfl,ht,hv,hl,hK⟩;refine⟨W5,rfl,aD RY aF,Mz xs v m h K,by kernel_rfl,?_⟩;dsimp only[Mz,push_cast];have h1:=yO v.kind;have h2:=yO v.int;have h3:=yO (v.text.size:Int);have h4:v.text.data.toList.length=v.text.size:=Array.length_toList;have b1:∀l:List UInt8,(bM l).length=l.length:=λl=>by simp[bM]
 have b2:iK v.text=bM v.text.data.toList:=rfl;refine⟨_,_,rfl,ht,aC,?_,?_,_,_,rfl,ht,?_,?_,?_,_,_,rfl,ht,?_,?_,?_,?_,?_,?_⟩
 all_goals (try (simp only[List.length_append,b1,b2,List.length_cons,List.length_nil];omega))
 have e:xs++bM (Cr v)=xs++bM (lF v.kind)++[[Value.int IntKind.u8 58]]++bM (lF v.int)++[[Value.int IntKind.u8 58]]++bM (lF (v.text.size:Int))++[[Value.int IntKind.u8 58]]++iK v.text:=by
  rw[b2];simp only[Cr,bM,List.map_append,List.map_cons,List.append_assoc,List.cons_append,List.nil_append];rfl
 rw[e]at hK;exact hK
theorem PD{r:List VV}(h:∀v∈r,v.text.size<=64):(A1 r).length<=130*r.length:=by
 induction r with
 |nil=>simp[A1]
 |cons v l ih=>
  have h1:=Wg (h v (List.mem_cons_self ..));have h2:=ih (λu hu=>h u (List.mem_cons_of_mem _ hu));simp only[A1,List.flatMap_cons,List.length_append,List.length_cons]at h2⊢
  omega
theorem L8{r:List VV}{v:VV}(hv:r[i]? =some v):A1 (r.take (i+1))=A1 (r.take i)++Cr v:=by
 rw[List.take_add_one,hv];simp[A1]
theorem Pt{r:List VV}{cols:List Int}(hc:iR r.length cols){v:VV}(hv:v∈pick r cols):v∈r:=by
 obtain⟨c,hc1,rfl⟩:=List.mem_map.1 hv;have:=hc.at_ c hc1;rw[List.getD_eq_getElem?_getD,List.getElem?_eq_getElem aC];exact List.getElem_mem _
theorem NW{r:List VV}{cols:List Int}{i:Nat}{c:Int}(hc:iR r.length cols)(hi:cols[i]? =some c):∃v,r[c.toNat]? =some v/\(pick r cols)[i]? =some v/\0<=c/\c<r.length:=by
 have:=hc.at_ c (List.mem_of_getElem? hi);refine⟨r[c.toNat]'(by omega),List.getElem?_eq_getElem _,?_,this⟩;unfold pick;rw[List.getElem?_map,hi];simp only[Option.map_some,List.getD_eq_getElem?_getD];rw[List.getElem?_eq_getElem aC];rfl
theorem Ce:Sound Tryz.prog 186 X6:=by
 refine iJ Tryz.func186 ?_;rintro cvs m h K ⟨s,t,r,cols,rfl,hs,ht,hr,hc,hT,hK⟩;refine⟨W9 s t m h,rfl,aD KJ aF,MG s t m h K,by kernel_rfl,?_⟩;dsimp only[MG,push_cast];have hsl:=bV.slen hs;have htl:=ht.slen;have hcl:=hc.len;have hpl:(pick r cols).length=cols.length:=by simp[pick]
 have htx:∀v∈pick r cols,v.text.size<=64:=λv hv=>(hr.val v (Pt hc hv)).text;refine⟨λx=>x.1<=cols.length/\x.2=A1 ((pick r cols).take x.1),λx=>cols.length-x.1,⟨(0,[]),⟨by simp,by simp[A1]⟩,MT⟩,?_⟩;rintro⟨i,l⟩ ⟨hi,hl⟩;dsimp only at hi hl;subst hl;refine aE (λhlt=>?_) (λhge=>?_)
 .dsimp only at hlt;obtain⟨c,hci⟩:=fI htl hlt;obtain⟨b,o,e,rd⟩:=ht.at hci;obtain⟨v,hv1,hv2,h0,h1⟩:=NW hc hci;obtain⟨b2,o2,w,e2,rd2,rfl⟩:=bV.at hs hv1;have hk:=PD (r:=(pick r cols).take i) (λu hu=>htx u (List.mem_of_mem_take hu));refine⟨b,o,e,by dsimp only;omega,hlt,c,.imm (by simpa using rd),b2,o2,e2,h0,aC,v,.imm rd2,_,v,rfl,hT,htx v (List.mem_of_getElem? hv2),?_,(i+1,A1 ((pick r cols).take (i+1))),⟨by dsimp only;omega,rfl⟩,(by dsimp only;omega),?_⟩
  .have:(bM (A1 ((pick r cols).take i))).length=(A1 ((pick r cols).take i)).length:=by simp[bM]
   rw[List.length_take]at hk;dsimp only;omega
  .dsimp only;rw[L8 hv2,GH];exact MT
 .dsimp only at hge⊢
  rw[List.take_of_length_le aC];exact⟨_,rfl,hK⟩
theorem Sb:Sound Tryz.prog 210 UL:=by
 refine iJ Tryz.func210 ?_;rintro cvs m h K ⟨s,r,rfl,hs,hr,hT,hK⟩;refine⟨W4 s m h,rfl,aD KJ aF,Mx s m h K,by kernel_rfl,?_⟩;dsimp only[Mx,push_cast];have hsl:=bV.slen hs;have hrl:=hr.len;refine⟨λx=>x.1<=r.length/\x.2=A1 (r.take x.1),λx=>r.length-x.1,⟨(0,[]),⟨by simp,by simp[A1]⟩,MT⟩,?_⟩;rintro⟨i,l⟩ ⟨hi,hl⟩;dsimp only at hi hl;subst hl;refine aE (λhlt=>?_) (λhge=>?_)
 .dsimp only at hlt;obtain⟨v,hv⟩:=fI hsl hlt;obtain⟨b2,o2,w,e2,rd2,rfl⟩:=bV.at hs hv;have hk:=PD (r:=r.take i) (λu hu=>(hr.val u (List.mem_of_mem_take hu)).text);refine⟨b2,o2,e2,by dsimp only;omega,hlt,v,.imm rd2,_,v,rfl,hT,(hr.val v (List.mem_of_getElem? hv)).text,?_,(i+1,A1 (r.take (i+1))),⟨by dsimp only;omega,rfl⟩,(by dsimp only;omega),?_⟩
  .have:(bM (A1 (r.take i))).length=(A1 (r.take i)).length:=by simp[bM]
   rw[List.length_take]at hk;dsimp only;omega
  .dsimp only;rw[L8 hv,GH];exact MT
 .dsimp only at hge⊢
  rw[List.take_of_length_le aC];exact⟨_,rfl,hK⟩
theorem KN:Sound Tryz.prog 184 Tz:=by
 refine iJ Tryz.func184 ?_;rintro cvs m h K ⟨s,on,rfl,hs,hK⟩;refine⟨Xb s m h,rfl,aF,MJ s m h K,by kernel_rfl,?_⟩;dsimp only[MJ,push_cast];have hsl:=hs.slen;have hl:=hs.len;refine⟨λx=>x.1<=on.length/\x.2.1=(on.take x.1).map Prod.fst/\x.2.2=(on.take x.1).map Prod.snd,λx=>on.length-x.1,⟨(0,[],[]),⟨by simp,by simp,by simp⟩,MT⟩,?_⟩;rintro⟨i,l,k⟩ ⟨hi,e1,e2⟩;dsimp only at hi e1 e2;subst e1 e2;refine aE (λhlt=>?_) (λhge=>?_)
 .dsimp only at hlt;obtain⟨p,hp⟩:=fI hsl hlt;obtain⟨b,o,e,rd⟩:=mG.at hs hp;refine⟨b,o,e,by dsimp only;omega,hlt,p,.imm rd,aC,aC,?_,?_,aC,aC,?_,?_,(i+1,(on.take (i+1)).map Prod.fst,(on.take (i+1)).map Prod.snd),⟨by dsimp only;omega,rfl,rfl⟩,(by dsimp only;omega),?_⟩
  all_goals (try (simp only[List.length_map,List.length_take];omega))
  dsimp only;rw[List.take_add_one,hp,Option.toList_some,List.map_append,List.map_append,List.map_append,List.map_append];exact MT
 .dsimp only at hge⊢
  rw[List.take_of_length_le aC];intro a h1 le1 r1 b h2 le2 r2;exact hK a b h2 (le1.trans le2) ⟨r1.mono le2,by simp[kQ];omega⟩ ⟨r2,by simp[gK];omega⟩
theorem Sm:Sound Tryz.prog 185 Rp:=by
 refine iJ Tryz.func185 ?_;rintro cvs m h K ⟨s,t,r,cols,rfl,hs,ht,hc,hK⟩;refine⟨Xa s t m h,rfl,aD EV aF,MI s t m h K,by kernel_rfl,?_⟩;dsimp only[MI,push_cast];have hsl:=bV.slen hs;have htl:=ht.slen;have hcl:=hc.len;have hpl:(pick r cols).length=cols.length:=by simp[pick]
 refine⟨λi=>i<=cols.length/\∀j:Nat,j<i->∀v,(pick r cols)[j]? =some v->mE v=true,λi=>cols.length-i,⟨0,⟨aC,λj hj=>by omega⟩,MT⟩,λi⟨hi,hall⟩=>aE (λhlt=>?_) (λhge=>?_)⟩
 .obtain⟨c,hci⟩:=fI htl hlt;obtain⟨b,o,e,rd⟩:=ht.at hci;obtain⟨v,hv1,hv2,h0,h1⟩:=NW hc hci;obtain⟨b2,o2,w,e2,rd2,rfl⟩:=bV.at hs hv1;refine⟨b,o,e,aC,hlt,c,.imm (by simpa using rd),b2,o2,e2,h0,aC,v,.imm rd2,v,rfl,aB (λhne=>?_) (λhe=>⟨i+1,⟨aC,λj hj u hu=>?_⟩,(show cols.length-(i+1)<cols.length-i by omega),MT⟩)⟩
  .have:(pick r cols).all mE=false:=by
    cases e3:(pick r cols).all mE with
    |false=>rfl
    |true=>rw[List.all_eq_true]at e3;rw[e3 v (List.mem_of_getElem? hv2)]at hne;cases hne
   rw[this]at hK;exact hK
  .by_cases e4:j=i
   .subst e4;rw[hv2]at hu;cases hu;simpa using he
   .exact hall j aC u hu
 .have:(pick r cols).all mE=true:=by
   rw[List.all_eq_true];intro v hv;obtain⟨j,hj⟩:=List.getElem?_of_mem hv;exact hall j (by have:=(List.getElem?_eq_some_iff.1 hj).1;omega) v hj
  rw[this]at hK;exact hK
theorem Sc:Sound Tryz.prog 209 Yb:=by
 refine iJ Tryz.func209 ?_;rintro cvs m h K ⟨n,rfl,hn,hK⟩;refine⟨dN [] [] [] [] true,rfl,aF,My n m h K,by kernel_rfl,?_⟩;dsimp only[My,push_cast];have h0:IntKind.i64.wrap ((n:Int)-0)=n:=by rw[dX aC aC];omega
 have h1:IntKind.i64.wrap ((n:Int)-IntKind.i64.wrap (0-0))=n:=by rw[show IntKind.i64.wrap (0-0)=0 from by rw[dX aC aC];rfl,h0]
 exact aE (λhp=>⟨aC,aC,aC,aC,aC,aC,aC,hK⟩) (λ_=>hK)
theorem Fk{α:Type}{ks:List (List α)}{k:List α}(hk:ks[i]? =some k):((ks.take (i+1)).map List.length).sum=((ks.take i).map List.length).sum+k.length:=by
 rw[List.take_add_one,hk];simp
theorem EB{α:Type}{ks:List (List α)}(h:∀k∈ks,k.length<=12):∀i,((ks.take i).map List.length).sum<=12*i
 |0=>by simp
 |i+1=>by
  have ih:=EB h i;cases e:ks[i]? with
  |none=>rw[List.take_add_one,e];simp at ih⊢;omega
  |some k=>rw[Fk e];have:=h k (List.mem_of_getElem? e);omega
theorem Sk:Sound Tryz.prog 187 Rk:=by
 refine iJ Tryz.func187 ?_;rintro cvs m h K ⟨ss,ks,rfl,hs,hl,h12,hK⟩;refine⟨W8 ss m h,rfl,aD Sc aF,MF ss m h K,by kernel_rfl,?_⟩;dsimp only[MF,push_cast];have hsl:=bV.slen hs;refine⟨λ⟨i,n⟩=>i<=ks.length/\n=((ks.take i).map List.length).sum,λ⟨i,_⟩=>ks.length-i,⟨(0,0),⟨aC,by simp⟩,MT⟩,?_⟩;rintro⟨i,n⟩ ⟨hi,rfl⟩;dsimp only;have hb:=EB h12 i;refine aE (λhlt=>?_) (λhge=>?_)
 .obtain⟨k,hk⟩:=fI hsl hlt;obtain⟨b,o,sl,ea,r,hki⟩:=bV.at hs hk;have hkl:=bV.slen hki;have hk12:=h12 k (List.mem_of_getElem? hk)
  have hw:IntKind.i64.wrap (((((ks.take i).map List.length).sum:Nat):Int)+(sl.len:Int))=((((ks.take (i+1)).map List.length).sum:Nat):Int):=by
   rw[Fk hk,dX aC aC];omega
  refine⟨b,o,ea,aC,hlt,sl,.imm r,?_⟩;rw[hw];exact aE (λhneg=>by omega) (λ_=>⟨(i+1,((ks.take (i+1)).map List.length).sum),⟨aC,rfl⟩,by show ks.length-(i+1)<ks.length-i;omega,MT⟩)
 .refine⟨((ks.take i).map List.length).sum,rfl,aC,?_⟩;refine⟨λ⟨i,l⟩=>i<=ks.length/\l=(ks.take i).flatten,λ⟨i,_⟩=>ks.length-i,⟨(0,[]),⟨aC,by simp⟩,MT⟩,?_⟩;clear hb hge hi;rintro⟨i,l⟩ ⟨hi,rfl⟩;dsimp only;have hfl:(ks.take i).flatten.length<=12*i:=by have:=EB h12 i;simpa[List.length_flatten]using this
  refine aE (λhlt=>?_) (λhge sl h' hle hrow=>hK sl h' hle ⟨⟨ks.flatten,?_,rfl,λi x hx=>⟨x,hx,rfl⟩⟩,?_⟩)
  .obtain⟨k,hk⟩:=fI hsl hlt;obtain⟨b,o,sl,ea,r,hki⟩:=bV.at hs hk;have hk12:=h12 k (List.mem_of_getElem? hk);obtain⟨us,hu1,hu2,hu3⟩:=hki.ex
   have hus:us=k:=by
    apply List.ext_getElem?;intro j;by_cases hj:j<k.length
    .obtain⟨v,h1,h2⟩:=hu3 j _ (List.getElem?_eq_getElem hj);rw[h1,List.getElem?_eq_getElem hj,h2]
    .rw[List.getElem?_eq_none aC,List.getElem?_eq_none aC]
   subst hus;refine⟨b,o,ea,aC,hlt,sl,.imm r,us.map VV.enc,J1 us,hu1,?_,?_,(i+1,(ks.take (i+1)).flatten),⟨aC,rfl⟩,by show ks.length-(i+1)<ks.length-i;omega,?_⟩
   .rw[List.length_map,List.length_map];omega
   .rw[List.length_map,List.length_map];omega
   .rw[List.take_add_one,hk,Option.toList_some,List.flatten_append,List.map_append,List.flatten_cons,List.flatten_nil,List.append_nil];exact MT
  .rw[List.take_of_length_le aC]at hrow;exact hrow
  .rw[List.take_of_length_le aC]at hfl;omega
theorem Om:∀(u:Nat)(b:UInt8),b∈Lib.decDigits u->48<=b.toNat/\b.toNat<=57:=by
 intro u
 induction u using Nat.strongRecOn with
 |_ u ih=>
  intro b hb;rw[Lib.decDigits]at hb
  have one:∀k,k<10->48<=(UInt8.ofNat (48+k)).toNat/\(UInt8.ofNat (48+k)).toNat<=57:=λk hk=>by
   rw[UInt8.toNat_ofNat'];omega
  split at hb
  .rename_i h;rw[List.mem_singleton]at hb;subst hb;exact one u h
  .rcases List.mem_append.1 hb with h1|h1
   .exact ih (u/10) aC b h1
   .rw[List.mem_singleton]at h1;subst h1;exact one (u%10) aC
theorem Ur:∀(u v:Nat),Lib.decDigits u=Lib.decDigits v->u=v:=by
 intro u
 induction u using Nat.strongRecOn with
 |_ u ih=>
  intro v h;have hl:=congrArg List.length h;rw[Lib.decDigits_length,Lib.decDigits_length]at hl
  have one:∀a b,a<10->b<10->UInt8.ofNat (48+a)=UInt8.ofNat (48+b)->a=b:=λa b ha hb e=>by
   have:=congrArg UInt8.toNat e;rw[UInt8.toNat_ofNat',UInt8.toNat_ofNat']at this;omega
  by_cases hu:u<10
  .have hv:v<10:=by
    apply Classical.byContradiction;intro hv;rw[Lib.nDigits_small hu,Lib.nDigits_big hv]at hl;have:=Lib.nDigits_pos (v/10);omega
   rw[Lib.decDigits.eq_def u,Lib.decDigits.eq_def v,dif_pos hu,dif_pos hv]at h;simp only[List.cons.injEq,and_true]at h;exact one u v hu hv h
  .have hv:¬v<10:=λhv=>by
    rw[Lib.nDigits_small hv,Lib.nDigits_big hu]at hl;have:=Lib.nDigits_pos (u/10);omega
   rw[Lib.decDigits.eq_def u,Lib.decDigits.eq_def v,dif_neg hu,dif_neg hv]at h;have h2:=List.append_inj' h rfl;have h3:=ih (u/10) aC (v/10) h2.1;simp only[List.cons.injEq,and_true]at h2;have h4:=one (u%10) (v%10) aC aC h2.2;omega
theorem UW{n:Int}(h0:0<=n)(h1:n<18446744073709551616):IntKind.u64.wrap n=n:=by
 rw[IntKind.wrap_u64];omega
theorem UX{n:Int}(h0:n<0)(h1: -9223372036854775808<=n):IntKind.u64.wrap (0-IntKind.u64.wrap n)= -n:=by
 rw[IntKind.wrap_u64,IntKind.wrap_u64];omega
theorem A2{n:Int}(h:OJ n)(h0:0<=n):lF n=Lib.decDigits n.toNat:=by
 unfold lF;rw[if_neg aC,UW h0 (by have:=h.2;omega)]
theorem A3{n:Int}(h:OJ n)(h0:n<0):lF n=45::Lib.decDigits (-n).toNat:=by
 unfold lF;rw[if_pos h0,UX h0 h.1]
theorem Mb{n:Int}(h:OJ n){b:UInt8}(hb:b∈lF n):b≠58:=by
 intro e;subst e;by_cases h0:0<=n
 .rw[A2 h h0]at hb;have:=Om _ _ hb;simp at this
 .rw[A3 h aC]at hb;rcases List.mem_cons.1 hb with h1|h1
  .cases h1
  .have:=Om _ _ h1;simp at this
theorem Vd{m n:Int}(hm:OJ m)(hn:OJ n)(h:lF m=lF n):m=n:=by
 have no45:∀u r,Lib.decDigits u=45::r->False:=λu r e=>by
  have:=Om u 45 (by rw[e];simp);simp at this
 by_cases h0:0<=m<;>by_cases h1:0<=n
 .rw[A2 hm h0,A2 hn h1]at h;have:=Ur _ _ h;omega
 .rw[A2 hm h0,A3 hn aC]at h;exact(no45 _ _ h).elim
 .rw[A3 hm aC,A2 hn h1]at h;exact(no45 _ _ h.symm).elim
 .rw[A3 hm aC,A3 hn aC]at h;have:=Ur _ _ (List.cons.inj h).2;omega
theorem O9{α:Type}{x:α}:∀{a b r r':List α},x∉a->x∉b->a++x::r=b++x::r'->a=b/\r=r'
 |[],[],r,r',_,_,h=>⟨rfl,(List.cons.inj h).2⟩
 |[],c::b,r,r',_,hb,h=>by
  have:=(List.cons.inj h).1;exact(hb (by rw[this];simp)).elim
 |c::a,[],r,r',ha,_,h=>by
  have:=(List.cons.inj h).1;exact(ha (by rw[<-this];simp)).elim
 |c::a,d::b,r,r',ha,hb,h=>by
  have h1:=List.cons.inj h;obtain⟨e1,e2⟩:=O9 (λm=>ha (by simp[m])) (λm=>hb (by simp[m])) h1.2;exact⟨by rw[h1.1,e1],e2⟩
theorem CL{m n:Int}{r r':List UInt8}(hm:OJ m)(hn:OJ n)(h:lF m++58::r=lF n++58::r'):m=n/\r=r':=by
 obtain⟨h1,h2⟩:=O9 (λhb=>Mb hm hb rfl) (λhb=>Mb hn hb rfl) h;exact⟨Vd hm hn h1,h2⟩
theorem To{u v:VV}{r r':List UInt8}(hu:ZD u)(hv:ZD v)(h:Cr u++r=Cr v++r'):u=v/\r=r':=by
 simp only[Cr,List.append_assoc,List.cons_append]at h;obtain⟨e1,h⟩:=CL hu.kind hv.kind h;obtain⟨e2,h⟩:=CL hu.int hv.int h;have sz:∀w:VV,ZD w->OJ (w.text.size:Int):=λw hw=>⟨aC,by have:=hw.text;omega⟩
 obtain⟨e3,h⟩:=CL (sz u hu) (sz v hv) h
 have e4:u.text.data.toList.length=v.text.data.toList.length:=by
  have:u.text.size=v.text.size:=by omega
  rw[Array.length_toList,Array.length_toList];exact this
 obtain⟨e5,e6⟩:=List.append_inj h e4;refine⟨?_,e6⟩;obtain⟨k,i,t⟩:=u;obtain⟨k',i',t'⟩:=v;simp only[VV.mk.injEq]at e1 e2⊢
 refine⟨e1,e2,?_⟩;cases t;cases t';simp only[ByteArray.mk.injEq];exact Array.toList_inj.1 e5
theorem PE:∀{a b:List VV},a.length=b.length->(∀v∈a,ZD v)->(∀v∈b,ZD v)->A1 a=A1 b->a=b
 |[],[],_,_,_,_=>rfl
 |x::a,y::b,hl,ha,hb,h=>by
  simp only[A1,List.flatMap_cons]at h;obtain⟨e1,e2⟩:=To (ha x (List.mem_cons_self ..)) (hb y (List.mem_cons_self ..)) h;rw[e1,PE (by simpa using hl) (λv hv=>ha v (List.mem_cons_of_mem _ hv)) (λv hv=>hb v (List.mem_cons_of_mem _ hv)) e2]
 |[],_::_,hl,_,_,_=>by simp at hl
 |_::_,[],hl,_,_,_=>by simp at hl
theorem ER{a b:List VV}(hl:a.length=b.length)(ha:∀v∈a,ZD v)(hb:∀v∈b,ZD v):dD a=dD b↔a=b:=by
 constructor
 .intro h;simp only[dD,ByteArray.mk.injEq]at h;exact PE hl ha hb (by simpa using congrArg Array.toList h)
 .intro h;rw[h]
def K5(r:List VV)(o:OV):VV:=if o.kind=3 then o.value else if o.kind=1/\0<=o.index/\o.index<r.length then r.getD o.index.toNat zeroV else zeroV
def Wu(cmp c:Int):Bool:=if cmp=1 then c==0 else if cmp=2 then c !=0 else if cmp=3 then decide (c<0)else if cmp=4 then decide (c<=0)else if cmp=5 then decide (c>0)else if cmp=6 then decide (c>=0)else false
def ET(cmp:Int)(a b:VV):Bool:=mE a&&mE b&&a.kind==b.kind&&Wu cmp (kT a b)
mutual
def lM(r:List VV):Pred->Bool
 |.mk op cmp a b args=>if op=1 then true else if op=3 then ET cmp (K5 r a) (K5 r b)else if op=4 then CZ r args else if op=5 then CY r args else if op=6 then PK r args else false
def CZ(r:List VV):List Pred->Bool
 |[]=>true
 |p::ps=>lM r p&&CZ r ps
def CY(r:List VV):List Pred->Bool
 |[]=>false
 |p::ps=>lM r p||CY r ps
def PK(r:List VV):List Pred->Bool
 |[]=>false
 |p::_=> !lM r p
end
theorem It(r:List VV):∀ps,CZ r ps=ps.all (lM r)
 |[]=>by simp[CZ]
 |p::ps=>by simp[CZ,It r ps]
theorem Is(r:List VV):∀ps,CY r ps=ps.any (lM r)
 |[]=>by simp[CY]
 |p::ps=>by simp[CY,Is r ps]
def DenS:Vc.Spec:=λcvs m h K=>∃o s r,cvs=[aO o,cS s,Dc]/\cR h s r/\K (aV (K5 r o)) m h
def IN(p:Int->Bool):Vc.Spec:=λcvs m h K=>∃c,cvs=[cI c]/\K (cB (p c)) m h
def Z8:Vc.Spec:=λcvs m h K=>∃op,cvs=[cI op]/\
 branch (op==1) (K (fv 217) m h) (branch (op==2) (K (fv 218) m h) (branch (op==3) (K (fv 219) m h) (branch (op==4) (K (fv 220) m h) (branch (op==5) (K (fv 221) m h) (branch (op==6) (K (fv 222) m h) (K (.val .nilFunc) m h))))))
def X9(N:Nat):Vc.Spec:=λcvs m h K=>∃v s p r,cvs=[aP v,cS s,Dc]/\fF h p v/\cR h s r/\SizeOf.sizeOf p<N/\K (cB (lM r p)) m h
def Ya:Vc.Spec:=λcvs m h K=>∃v s p r,cvs=[aP v,cS s,Dc]/\fF h p v/\cR h s r/\K (cB (lM r p)) m h
noncomputable def Xc(N:Nat)(v:PV)(s:Sl)(m:MH)(h:PH):Ctx:=
 dN [(206,DenS),(203,Np),(207,Z8),(70,Nu),(183,X9 N),(217,IN (λc=>c==0)),(218,IN (λc=>c !=0)),(219,IN (λc=>decide (c<0))),(220,IN (λc=>decide (c<=0))),(221,IN (λc=>decide (c>0))),(222,IN (λc=>decide (c>=0)))]
  [(12,{A:=Nat,st:=λi=>cE 102 105 [(1,sv s),(2,vv tT),(60,sv v.args),(61,iv v.args.len),(62,iv i)] [] m h}),
   (20,{A:=Nat,st:=λi=>cE 102 105 [(1,sv s),(2,vv tT),(75,sv v.args),(76,iv v.args.len),(77,iv i)] [] m h})]
  [(6,{A:=VV×VV,st:=λ⟨a,b⟩=>cE 102 105 [(3,.at (.ptr 3 0)),(7,.at (.ptr 7 0)),(8,.at (.ptr 8 0))] [(3,.cells 32 (v.enc.map .val)),(7,.cells 27 (a.enc.map .val)),(8,.cells 27 (b.enc.map .val))] m h})] [] false
def MA(o:OV)(s:Sl)(m:MH)(h:PH)(K:CV->MH->PH->Prop):Prop:=
  dH (o.kind==3) (K (fR o.value) m h) (o.kind==2) (bD o.index 0 (K (jM vK) m h) (gQ o.index 0 (K (jM vK) m h) (aT (λb o1=>aH (aU Option.none b o1) (0<=o.index) (o.index<0) (∃(y:VV),aM m h b (fL o1 o.index 3) y.enc/\K (fR y) m h))))) (eJ o.kind 1 (bD o.index 0 (K (jM vK) m h) (gQ o.index (aG s) (K (jM vK) m h) (aT (λb o1=>aH (aU s.a b o1) (0<=o.index) (o.index<aG s) (∃(y:VV),aM m h b (fL o1 o.index 3) y.enc/\K (fR y) m h))))) (K (jM vK) m h))
def Hs(op:Int)(m:MH)(h:PH)(K:CV->MH->PH->Prop):Prop:=
  ∀(b:Nat)(m1:MH),bC (cM m h b) (bE m m1 b (aY Value.nilFunc Value.nilFunc (aY Value.nilFunc Value.nilFunc (aY Value.nilFunc Value.nilFunc Jp))) 241) (eX (λc E=>aA (oX m1 b (dV c E 0)) (7<=c.size) (∀(m2:MH),bE m1 m2 b (aY Value.nilFunc (lQ 217) (aY (lQ 218) (lQ 219) (aY (lQ 220) (lQ 221) (eU (lQ 222) 7 c)))) E->bD op 0 (K (CV.val Value.nilFunc) m2 h) (gQ op 7 (K (CV.val Value.nilFunc) m2 h) (aA (cN op) (op<7) (∃(y:Option Nat),aM m2 h b (fL 0 op 1) (j6 (XF y))/\K (CV.val (XF y)) m2 h))))))
def VU(c:Int)(m:MH)(h:PH)(K:CV->MH->PH->Prop):Prop:=
  K (A7 (c==0)) m h
def VT(c:Int)(m:MH)(h:PH)(K:CV->MH->PH->Prop):Prop:=
  K (A7 (c !=0)) m h
def VS(c:Int)(m:MH)(h:PH)(K:CV->MH->PH->Prop):Prop:=
  K (A7 (decide (c<0))) m h
def VQ(c:Int)(m:MH)(h:PH)(K:CV->MH->PH->Prop):Prop:=
  K (A7 (decide (c<=0))) m h
def VP(c:Int)(m:MH)(h:PH)(K:CV->MH->PH->Prop):Prop:=
  K (A7 (decide (c>0))) m h
def VO(c:Int)(m:MH)(h:PH)(K:CV->MH->PH->Prop):Prop:=
  K (A7 (decide (c>=0))) m h
abbrev mD(a:Sl->(List VV)->Prop):Prop:=∃(x:Sl)(x1:List VV),a x x1
noncomputable abbrev rJ(a:OV)(b:Sl):List CV:=bT a.enc (fW b Dc)
abbrev sF(a:List VV)(b:OV)(c:VV):Prop:=oQ 27 (gR (At.val (eW (K5 a b).kind)) (At.val (eW (K5 a b).int)) (mF (At.val (Value.string (K5 a b).text))))=tB 27 c.enc
abbrev p6(a:Prop)(b:PV)(c:List VV)(d:OV)(e:VV×VV)(g:Prop)(i:MH)(j:PH):Prop:=aA a iE (aA (eP 7) gW (aA (lI b) (sF c d e.1) (aA g (i=i) (dC j j))))
abbrev sS(a:PV)(b:Sl)(c:PH)(d:OV->(List VV)->(VV×VV)->Prop):Prop:=∃(x:OV),mD (λx1 x2=>aA (rJ a.right b=rJ x x1) (cR c x1 x2) (∃(x3:VV×VV),d x x2 x3))
abbrev BN(a:VV×VV)(b:Int->Prop):Prop:=∃(x x1:VV),bI (fR a.1) (fR a.2)=bI (fR x) (fR x1)/\∃(x2:Int),pH (kT x x1) x2/\b x2
abbrev F0(a:PV->Sl->Pred->(List VV)->Prop):Prop:=∃(x:PV)(x1:Sl)(x2:Pred)(x3:List VV),a x x1 x2 x3
noncomputable abbrev xS(a:PV)(b:Sl):List CV:=bT a.enc (fW b Dc)
attribute [push_cast] mD rJ sF p6 sS BN F0 xS
def MK(N:Nat)(v:PV)(s:Sl)(m:MH)(h:PH)(K:CV->MH->PH->Prop):Prop:=
  dH (v.op==1) (K gE m h) (v.op==3) (∃(I:VV×VV->Prop),aH (∃(o:OV),mD (λs1 r=>aA (rJ v.left s=rJ o s1) (cR h s1 r) (aA (∃(o1:OV),mD (λs2 r1=>aH (rJ v.right s=rJ o1 s2) (cR h s2 r1) (∃(x:VV×VV),p6 (I x) v r o x (sF r1 o1 x.2) m h) (∃(x:VV×VV),p6 (I x) v r o x (sF r1 o1 x.2) m h))) (sS v s h (λo1 r1 x=>p6 (I x) v r o x (sF r1 o1 x.2) m h)/\sS v s h (λo1 r1 x=>p6 (I x) v r o x (sF r1 o1 x.2) m h)) (sS v s h (λo1 r1 x=>p6 (I x) v r o x (sF r1 o1 x.2) m h)/\sS v s h (λo1 r1 x=>p6 (I x) v r o x (sF r1 o1 x.2) m h))))) ((∃(o:OV),mD (λs1 r=>aH (rJ v.left s=rJ o s1) (cR h s1 r) (sS v s h (λo1 r1 x=>p6 (I x) v r o x (sF r1 o1 x.2) m h)) (sS v s h (λo1 r1 x=>
 p6 (I x) v r o x (sF r1 o1 x.2) m h))))/\∃(o:OV),mD (λs1 r=>aA (rJ v.left s=rJ o s1) (cR h s1 r) (sS v s h (λo1 r1 x=>p6 (I x) v r o x (sF r1 o1 x.2) m h)))) (∃(o:OV),mD (λs1 r=>aH (rJ v.left s=rJ o s1) (cR h s1 r) (sS v s h (λo1 r1 x=>p6 (I x) v r o x (sF r1 o1 x.2) m h)) (sS v s h (λo1 r1 x=>p6 (I x) v r o x (sF r1 o1 x.2) m h)))) (∃(o:OV),mD (λs1 r=>aA (rJ v.left s=rJ o s1) (cR h s1 r) (sS v s h (λo1 r1 x=>p6 (I x) v r o x (sF r1 o1 x.2) m h))))/\∀(x:VV×VV),I x->∃(v1:VV),hP (fH (fR x.1) (fR v1)) (!(mE v1)) (K bA m h) (∃(v2:VV),fH (fR x.2) (fR v2)/\dH (!(mE v2)) (K bA m h) (x.1.kind !=x.2.kind) (K bA m h) (vB v.cmp (λo=>dH (o==1) (BN
 x (λc=>K (A7 (c==0)) m h)) (o==2) (BN x (λc=>K (A7 (c !=0)) m h)) (dH (o==3) (BN x (λc=>K (A7 (decide (c<0))) m h)) (o==4) (BN x (λc=>K (A7 (decide (c<=0))) m h)) (dH (o==5) (BN x (λc=>K (A7 (decide (c>0))) m h)) (o==6) (BN x (λc=>K (A7 (decide (c>=0))) m h)) (K bA m h))))))) (dH (v.op==4) (mT (λI x=>aA (I x) (aK s) (aA (eQ sQn) (aK v.args) (aA (bK v.args) (bG x) (aA (m=m) (h=h) True)))) (λI m1 x=>I x->bD (↑x:Int) (aG v.args) (aT (λb o=>aH (aU v.args.a b o) (0<=(↑x:Int)) ((↑x:Int)<aG v.args) (∃(y:PV),aM m h b (bB o x 13) y.enc/\F0 (λv1 s1 p r=>aA (xS y s=xS v1 s1) (fF h p v1) (aA (cR h s1 r) (pF p N) (gX (!(lM r p)) (K bA m h) (λx1=>aA (I x1) (m1 x1<m1 x)
 (aA (aK s) (eQ sQn) (aA (aK v.args) (bK v.args) (aA (gS (aW x 1)=bX x1) (m=m) (dC h h))))))))))) (K gE m h))) (v.op==5) (mT (λI x=>aA (I x) (aK s) (aA (eQ sQn) (aK v.args) (aA (bK v.args) (bG x) (aA (m=m) (h=h) True)))) (λI m1 x=>I x->bD (↑x:Int) (aG v.args) (aT (λb o=>aH (aU v.args.a b o) (0<=(↑x:Int)) ((↑x:Int)<aG v.args) (∃(y:PV),aM m h b (bB o x 13) y.enc/\F0 (λv1 s1 p r=>aA (xS y s=xS v1 s1) (fF h p v1) (aA (cR h s1 r) (pF p N) (gX (lM r p) (K gE m h) (λx1=>aA (I x1) (m1 x1<m1 x) (aA (aK s) (eQ sQn) (aA (aK v.args) (bK v.args) (aA (gS (aW x 1)=bX x1) (m=m) (dC h h))))))))))) (K bA m h))) (eJ v.op 6 (fC (rD v) 0 (aT (λb o=>aH (aU v.args.a b o) ((0:
 Int)<=0) (0<aG v.args) (∃(y:PV),aM m h b (eC o) y.enc/\F0 (λv1 s1 p r=>aA (xS y s=xS v1 s1) (fF h p v1) (aA (cR h s1 r) (pF p N) (K (CV.val (Value.bool (!(lM r p)))) m h)))))) (K bA m h)) (K bA m h)))
theorem Se:Sound Tryz.prog 206 DenS:=by
 refine iJ Tryz.func206 ?_;rintro cvs m h K ⟨o,s,r,rfl,hs,hK⟩;refine⟨dN [] [] [] [] false,rfl,aF,MA o s m h K,by kernel_rfl,?_⟩;dsimp only[MA,push_cast];have hsl:=bV.slen hs;unfold K5 at hK;refine aB (λh1=>?_) (λh1=>aB (λh2=>?_) (λh2=>aB (λh3=>?_) (λh3=>?_)))
 .rw[if_pos (by simpa using h1)]at hK;exact hK
 .have h2:o.kind=2:=by simpa using h2
  rw[if_neg aC,if_neg aC]at hK;exact aE (λ_=>hK) (λn1=>aE (λ_=>hK) (λn2=>absurd (show o.index>=((0:Nat):Int)by omega) n2))
 .have h1:o.kind≠3:=by simpa using h1
  have h3:o.kind=1:=by simpa using h3
  rw[if_neg h1]at hK;refine aE (λn1=>?_) (λn1=>aE (λn2=>?_) (λn2=>?_))
  .rw[if_neg aC]at hK;exact hK
  .rw[if_neg aC]at hK;exact hK
  .rw[if_pos ⟨h3,aC,aC⟩]at hK
   have hx:r[o.index.toNat]? =some (r.getD o.index.toNat zeroV):=by
    rw[List.getD_eq_getElem?_getD,List.getElem?_eq_getElem aC];simp
   obtain⟨b,off,v,e,rd,rfl⟩:=bV.at hs hx;exact⟨b,off,e,aC,aC,_,.imm rd,hK⟩
 .have h1:o.kind≠3:=by simpa using h1
  have h3:o.kind≠1:=by simpa using h3
  rw[if_neg h1,if_neg (λe=>h3 e.1)]at hK;exact hK
theorem Sd:Sound Tryz.prog 207 Z8:=by
 refine Gm Tryz.func207 ?_;rintro cvs m h K ⟨op,rfl,hK⟩;refine⟨wH [] [] [] [] [241] [] false,rfl,aF,Hs op m h (lE h K),by kernel_rfl,?_⟩;show Hs op m h (lE h K);dsimp only[Hs,push_cast];intro b m1 hb hm1;refine⟨_,_,⟨hm1.at_⟩,by decide,λm2 hm2=>?_⟩;have hsub:Sub m m2:=((Sub.refl m).upd hb.m_ hm1.other).upd hb.m_ hm2.other;have e:=hm2.at_
 have none_:∀k,¬(1<=op/\op<=6)->op=k->K (.val .nilFunc) m h:=λk hn _=>by
  have:(op==1)=false/\(op==2)=false/\(op==3)=false/\(op==4)=false/\(op==5)=false/\(op==6)=false:=by
   simp only[beq_eq_false_iff_ne];omega
  obtain⟨e1,e2,e3,e4,e5,e6⟩:=this;rw[e1,e2,e3,e4,e5,e6]at hK;exact hK
 refine aE (λh1=>.sub hsub (none_ _ aC rfl)) (λh1=>aE (λh2=>.sub hsub (none_ _ aC rfl)) (λh2=>⟨aC,aC,?_⟩));have:op=0\/op=1\/op=2\/op=3\/op=4\/op=5\/op=6:=by omega
 rcases this with rfl|rfl|rfl|rfl|rfl|rfl|rfl
 .exact⟨none,.lent _ _ _ e rfl,.sub hsub (none_ 0 aC rfl)⟩
 .exact⟨some 217,.lent _ _ _ e rfl,.sub hsub hK⟩
 .exact⟨some 218,.lent _ _ _ e rfl,.sub hsub hK⟩
 .exact⟨some 219,.lent _ _ _ e rfl,.sub hsub hK⟩
 .exact⟨some 220,.lent _ _ _ e rfl,.sub hsub hK⟩
 .exact⟨some 221,.lent _ _ _ e rfl,.sub hsub hK⟩
 .exact⟨some 222,.lent _ _ _ e rfl,.sub hsub hK⟩
theorem R6:Sound Tryz.prog 217 (IN (λc=>c==0)):=by
 refine iJ Tryz.func217 ?_;rintro cvs m h K ⟨c,rfl,hK⟩;refine⟨dN [] [] [] [] false,rfl,aF,VU c m h K,by kernel_rfl,?_⟩;exact hK
theorem R5:Sound Tryz.prog 218 (IN (λc=>c !=0)):=by
 refine iJ Tryz.func218 ?_;rintro cvs m h K ⟨c,rfl,hK⟩;refine⟨dN [] [] [] [] false,rfl,aF,VT c m h K,by kernel_rfl,?_⟩;exact hK
theorem R4:Sound Tryz.prog 219 (IN (λc=>decide (c<0))):=by
 refine iJ Tryz.func219 ?_;rintro cvs m h K ⟨c,rfl,hK⟩;refine⟨dN [] [] [] [] false,rfl,aF,VS c m h K,by kernel_rfl,?_⟩;exact hK
theorem R2:Sound Tryz.prog 220 (IN (λc=>decide (c<=0))):=by
 refine iJ Tryz.func220 ?_;rintro cvs m h K ⟨c,rfl,hK⟩;refine⟨dN [] [] [] [] false,rfl,aF,VQ c m h K,by kernel_rfl,?_⟩;exact hK
theorem R0:Sound Tryz.prog 221 (IN (λc=>decide (c>0))):=by
 refine iJ Tryz.func221 ?_;rintro cvs m h K ⟨c,rfl,hK⟩;refine⟨dN [] [] [] [] false,rfl,aF,VP c m h K,by kernel_rfl,?_⟩;exact hK
theorem RZ:Sound Tryz.prog 222 (IN (λc=>decide (c>=0))):=by
 refine iJ Tryz.func222 ?_;rintro cvs m h K ⟨c,rfl,hK⟩;refine⟨dN [] [] [] [] false,rfl,aF,VO c m h K,by kernel_rfl,?_⟩;exact hK
theorem QH:∀N,Sound Tryz.prog 183 (X9 N)
 |0=>by
  refine fA (fn:=Tryz.f183) (c:=cQ Tryz.f183) Tryz.func183 rfl (by decide) ?_;rintro cvs m h K ⟨v,s,p,r,rfl,_,_,hN,_⟩;omega
 |N+1=>by
  refine iJ Tryz.func183 ?_;rintro cvs m h K ⟨v,s,p,r,rfl,hp,hs,hN,hK⟩;refine⟨Xc N v s m h,rfl,aD Se (aD EV (aD Sd (aD Hl (aD (QH N) (aD R6 (aD R5 (aD R4 (aD R2 (aD R0 (aD RZ aF)))))))))),MK N v s m h K,by kernel_rfl,?_⟩;dsimp only[MK,push_cast];have hlt:=@Ax p;obtain⟨op,cmp,l,q,ps⟩:=p;obtain⟨rfl,rfl,rfl,rfl,ha⟩:=hp.parts;have hl:=ha.slen;have hlen:=ha.len;simp only[Pred.args]at hlt;simp only[lM]at hK;refine aB (λh1=>?_) (λh1=>aB (λh3=>?_) (λh3=>aB (λh4=>?_) (λh4=>aB (λh5=>?_) (λh5=>aB (λh6=>?_) (λh6=>?_)))))
  .rw[if_pos (by simpa using h1)]at hK;exact hK
  all_goals have n1:v.op≠1:=by simpa using h1
  .rw[if_neg n1,if_pos (by simpa using h3)]at hK;refine⟨λx=>x=(K5 r v.left,K5 r v.right),?_,?_⟩
   .repeat' (first|exact⟨_,rfl,MT⟩|refine⟨v.left,s,r,rfl,hs,?_⟩|refine⟨v.right,s,r,rfl,hs,?_⟩|refine And.intro ?_ ?_)
   .rintro⟨a,b⟩ hab;simp only[Prod.mk.injEq]at hab;obtain⟨rfl,rfl⟩:=hab;generalize K5 r v.left=a at hK⊢
    generalize K5 r v.right=b at hK⊢
    have hf:ET v.cmp a b=false->K (cB false) m h:=λe=>by rw[e]at hK;exact hK
    refine⟨a,rfl,aB (λe1=>hf ?_) (λe1=>⟨b,rfl,aB (λe2=>hf ?_) (λe2=>aB (λe3=>hf ?_) (λe3=>⟨v.cmp,rfl,?_⟩))⟩)⟩
    .have e1:mE a=false:=by simpa using e1
     simp[ET,e1]
    .have e2:mE b=false:=by simpa using e2
     simp[ET,e2]
    .have e3:a.kind≠b.kind:=by simpa using e3
     simp[ET,e3]
    .have e1:mE a=true:=by simpa using e1
     have e2:mE b=true:=by simpa using e2
     have e3:a.kind=b.kind:=by simpa using e3
     have e4:ET v.cmp a b=Wu v.cmp (kT a b):=by simp[ET,e1,e2,e3]
     rw[e4]at hK;unfold Wu at hK;refine aB (λc1=>?_) (λc1=>aB (λc2=>?_) (λc2=>aB (λc3=>?_) (λc3=>aB (λc4=>?_) (λc4=>aB (λc5=>?_) (λc5=>aB (λc6=>?_) (λc6=>?_))))))
     all_goals simp only[beq_iff_eq,beq_eq_false_iff_ne]at*
     .rw[if_pos c1]at hK;exact⟨a,b,rfl,_,rfl,hK⟩
     .rw[if_neg c1,if_pos c2]at hK;exact⟨a,b,rfl,_,rfl,hK⟩
     .rw[if_neg c1,if_neg c2,if_pos c3]at hK;exact⟨a,b,rfl,_,rfl,hK⟩
     .rw[if_neg c1,if_neg c2,if_neg c3,if_pos c4]at hK;exact⟨a,b,rfl,_,rfl,hK⟩
     .rw[if_neg c1,if_neg c2,if_neg c3,if_neg c4,if_pos c5]at hK;exact⟨a,b,rfl,_,rfl,hK⟩
     .rw[if_neg c1,if_neg c2,if_neg c3,if_neg c4,if_neg c5,if_pos c6]at hK;exact⟨a,b,rfl,_,rfl,hK⟩
     .rw[if_neg c1,if_neg c2,if_neg c3,if_neg c4,if_neg c5,if_neg c6]at hK;exact hK
  all_goals have n3:v.op≠3:=by simpa using h3
  all_goals rw[if_neg n1,if_neg n3]at hK
  .rw[if_pos (by simpa using h4),It]at hK;refine⟨λi=>i<=ps.length/\∀j:Nat,j<i->∀x,ps[j]? =some x->lM r x=true,λi=>ps.length-i,⟨0,⟨aC,λj hj=>by omega⟩,MT⟩,λi⟨hi,hall⟩=>aE (λhlt2=>?_) (λhge=>?_)⟩
   .obtain⟨x,hx⟩:=fI hl hlt2;obtain⟨b1,o1,u,e1,r1,ru⟩:=ha.at hx;have:=hlt (List.mem_of_getElem? hx);refine⟨b1,o1,e1,aC,hlt2,u,.imm r1,u,s,x,r,rfl,ru,hs,aC,aB (λhne=>?_) (λhe=>⟨i+1,⟨aC,λj hj y hy=>?_⟩,(show ps.length-(i+1)<ps.length-i by omega),MT⟩)⟩
    .have:ps.all (lM r)=false:=by
      cases e3:ps.all (lM r)with
      |false=>rfl
      |true=>rw[List.all_eq_true]at e3;rw[e3 x (List.mem_of_getElem? hx)]at hne;cases hne
     rw[this]at hK;exact hK
    .by_cases e4:j=i
     .subst e4;rw[hx]at hy;cases hy;simpa using he
     .exact hall j aC y hy
   .have:ps.all (lM r)=true:=by
     rw[List.all_eq_true];intro y hy;obtain⟨j,hj⟩:=List.getElem?_of_mem hy;exact hall j (by have:=(List.getElem?_eq_some_iff.1 hj).1;omega) y hj
    rw[this]at hK;exact hK
  all_goals have n4:v.op≠4:=by simpa using h4
  all_goals rw[if_neg n4]at hK
  .rw[if_pos (by simpa using h5),Is]at hK;refine⟨λi=>i<=ps.length/\∀j:Nat,j<i->∀x,ps[j]? =some x->lM r x=false,λi=>ps.length-i,⟨0,⟨aC,λj hj=>by omega⟩,MT⟩,λi⟨hi,hall⟩=>aE (λhlt2=>?_) (λhge=>?_)⟩
   .obtain⟨x,hx⟩:=fI hl hlt2;obtain⟨b1,o1,u,e1,r1,ru⟩:=ha.at hx;have:=hlt (List.mem_of_getElem? hx);refine⟨b1,o1,e1,aC,hlt2,u,.imm r1,u,s,x,r,rfl,ru,hs,aC,aB (λhe=>?_) (λhne=>⟨i+1,⟨aC,λj hj y hy=>?_⟩,(show ps.length-(i+1)<ps.length-i by omega),MT⟩)⟩
    .have:ps.any (lM r)=true:=List.any_eq_true.2 ⟨x,List.mem_of_getElem? hx,he⟩;rw[this]at hK;exact hK
    .by_cases e4:j=i
     .subst e4;rw[hx]at hy;cases hy;exact hne
     .exact hall j aC y hy
   .have:ps.any (lM r)=false:=by
     rw[List.any_eq_false];intro y hy;obtain⟨j,hj⟩:=List.getElem?_of_mem hy;rw[hall j (by have:=(List.getElem?_eq_some_iff.1 hj).1;omega) y hj];simp
    rw[this]at hK;exact hK
  all_goals have n5:v.op≠5:=by simpa using h5
  all_goals rw[if_neg n5]at hK
  .rw[if_pos (by simpa using h6)]at hK;refine aE (λh7=>?_) (λh7=>?_)
   .obtain⟨x,hx⟩:=fI (i:=0) hl aC;obtain⟨b1,o1,u,e1,r1,ru⟩:=ha.at hx;have:=hlt (List.mem_of_getElem? hx)
    have e7:PK r ps= !lM r x:=by
     cases ps with
     |nil=>simp at hx
     |cons y _=>simp at hx;subst hx;rfl
    rw[e7]at hK;exact⟨b1,o1,e1,aC,aC,u,.imm (by simpa using r1),u,s,x,r,rfl,ru,hs,aC,hK⟩
   .have:ps=[]:=List.length_eq_zero_iff.1 aC;subst this;exact hK
  .rw[if_neg (by simpa using h6)]at hK;exact hK
theorem Sn:Sound Tryz.prog 183 Ya:=xD QH λ_ _ _ _⟨v,s,p,r,e,h1,h2,h3⟩=>⟨SizeOf.sizeOf p+1,v,s,p,r,e,h1,h2,aC,h3⟩
end Go.Ps
