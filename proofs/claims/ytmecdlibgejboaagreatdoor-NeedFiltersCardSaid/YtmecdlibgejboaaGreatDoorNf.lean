/-
  Part 6 of a proof that a law of the given program returns true: a condition generator that is proved sound, and contracts of functions. No condition of its own. Own work, joined by a program (pack2.py); the shelf's contracts among it as the kit's tool wrote them.
-/
import Derived.Shelf.SlSorted.Search
import Derived.Shelf.SlSortCmp.NoneTotal
import Derived.Shelf.Small.Strs
import Derived.Shelf.Strconv.Itoa0
import Derived.Shelf.Strconv.Itoa1
import Derived.Shelf.LaysM
import Derived.Shelf.Strconv.Itoa2
import Derived.Shelf.Strconv.AppendUint10
import Derived.Shelf.Strconv.AppendInt10
import Derived.Shelf.Strconv.AppendIntPublic10
import Derived.Test.YtmecdlibgejboaaGreatDoorProg
import Derived.Lib.ItoaLen
import Derived.RangeFuncWrites
import Derived.OrdersIn
import Derived.Test.YtmecdlibgejboaaGreatDoorNe
set_option linter.unusedVariables false
set_option linter.unusedSimpArgs false
namespace Go.Proofs
open Go.Shelf List
def Tryz.lays213_ren:Go.Shelf.Ren:=⟨λ |213=>223|265=>244|n=>n,λ |9=>9|3=>3|n=>n,λ |n=>n⟩
def Tryz.lays106_ren:Go.Shelf.Ren:=⟨λ |106=>195|213=>223|265=>244|n=>n,λ |9=>9|3=>3|n=>n,λ |n=>n⟩
theorem Tryz.lays106:Go.Proofs.Lays.n106 Tryz.prog Tryz.lays106_ren:={
 mixed:=bi
 f106:=func195.trans (congrArg some bi)
 f213:=func223.trans (congrArg some bi)
 f265:=func244.trans (congrArg some bi)
 t3:=Tryz.underlying3
 a3:=Tryz.isAgg3
 z3:=Tryz.sizeOf3
 v3:=Tryz.zeroValue3
 t9:=Tryz.underlying9
 a9:=Tryz.isAgg9
 z9:=Tryz.sizeOf9
 v9:=Tryz.zeroValue9}
open Go.RowKit in
theorem Tryz.strings_Compare(a b:ByteArray)(w:World):
 Calls Tryz.prog 195 #[.string a,.string b] w λe w'=>e= .returned (.int .i64 (Lib.compareBytes a.data.toList b.data.toList))/\w'=w:=Any.strings_Compare Tryz.lays106 a b w
def Tryz.lays283_ren:Go.Shelf.Ren:=⟨λ |283=>257|n=>n,λ |3=>3|9=>9|4=>4|n=>n,λ |n=>n⟩
theorem Tryz.lays283:Go.Proofs.Lays.n283 Tryz.prog Tryz.lays283_ren:={
 mixed:=bi
 f283:=func257.trans (congrArg some bi)
 t3:=Tryz.underlying3
 a3:=Tryz.isAgg3
 z3:=Tryz.sizeOf3
 v3:=Tryz.zeroValue3
 t4:=Tryz.underlying4
 a4:=Tryz.isAgg4
 z4:=Tryz.sizeOf4
 v4:=Tryz.zeroValue4
 t9:=Tryz.underlying9
 a9:=Tryz.isAgg9
 z9:=Tryz.sizeOf9
 v9:=Tryz.zeroValue9}
open Go.Lib in
theorem Tryz.internal_strconv_small(i:Nat)(h:i<100)(w:World):
 Calls Tryz.prog 257 #[.int .i64 i] w λe w'=>e= .returned (.string ⟨(Lib.decDigits i).toArray⟩)/\w'=w:=Any.internal_strconv_small Tryz.lays283 i h w
def Tryz.laysM284_ren:Go.Shelf.Ren:=⟨λ |284=>258|129=>233|317=>263|318=>264|n=>n,λ |53=>263|3=>3|212=>289|0=>0|4=>4|46=>230|5=>5|9=>9|n=>n,λ |17=>1|n=>n⟩
theorem Tryz.laysM284:Go.Proofs.LaysM.n284 Tryz.prog Tryz.laysM284_ren:={
 mixed:=bi
 f129:=func233.trans (congrArg some bi)
 f284:=func258.trans (congrArg some bi)
 f317:=func263.trans (congrArg some bi)
 f318:=func264.trans (congrArg some bi)
 t0:=Tryz.underlying0
 a0:=Tryz.isAgg0
 z0:=Tryz.sizeOf0
 v0:=Tryz.zeroValue0
 t3:=Tryz.underlying3
 a3:=Tryz.isAgg3
 z3:=Tryz.sizeOf3
 v3:=Tryz.zeroValue3
 t4:=Tryz.underlying4
 a4:=Tryz.isAgg4
 z4:=Tryz.sizeOf4
 v4:=Tryz.zeroValue4
 t5:=Tryz.underlying5
 a5:=Tryz.isAgg5
 z5:=Tryz.sizeOf5
 v5:=Tryz.zeroValue5
 t9:=Tryz.underlying9
 a9:=Tryz.isAgg9
 z9:=Tryz.sizeOf9
 v9:=Tryz.zeroValue9
 t46:=Tryz.underlying230
 a46:=Tryz.isAgg230
 z46:=Tryz.sizeOf230
 v46:=Tryz.zeroValue230
 t53:=Tryz.underlying263
 a53:=Tryz.isAgg263
 z53:=Tryz.sizeOf263
 v53:=Tryz.zeroValue263
 t212:=Tryz.underlying289
 a212:=Tryz.isAgg289
 z212:=Tryz.sizeOf289
 v212:=Tryz.zeroValue289
 g17:=bi
 i0:=bi
 i3:=bi
 i4:=bi
 i5:=bi
 i9:=bi
 i46:=bi
 i53:=bi
 i212:=bi
 m17:=by kernel_rfl}
open Go.Lib in
theorem Tryz.internal_strconv_numDigits(u:Nat)(b:1<=u)(c:u<18446744073709551616)(w:World)(a:Lib.TabIs Tryz.prog w "internal/strconv.uint64pow10" .u64 Lib.pow10Tab):
 Calls Tryz.prog 258 #[.int .u64 u] w λe w'=>e= .returned (.int .i64 (Lib.nDigits u))/\w'=w:=Any.internal_strconv_numDigits Tryz.laysM284 u b c w a
def Tryz.lays285_ren:Go.Shelf.Ren:=⟨λ |285=>259|n=>n,λ |37=>22|53=>263|3=>3|4=>4|51=>261|9=>9|5=>5|0=>0|n=>n,λ |n=>n⟩
theorem Tryz.lays285:Go.Proofs.Lays.n285 Tryz.prog Tryz.lays285_ren:={
 mixed:=bi
 f285:=func259.trans (congrArg some bi)
 t0:=Tryz.underlying0
 a0:=Tryz.isAgg0
 z0:=Tryz.sizeOf0
 v0:=Tryz.zeroValue0
 t3:=Tryz.underlying3
 a3:=Tryz.isAgg3
 z3:=Tryz.sizeOf3
 v3:=Tryz.zeroValue3
 t4:=Tryz.underlying4
 a4:=Tryz.isAgg4
 z4:=Tryz.sizeOf4
 v4:=Tryz.zeroValue4
 t5:=Tryz.underlying5
 a5:=Tryz.isAgg5
 z5:=Tryz.sizeOf5
 v5:=Tryz.zeroValue5
 t9:=Tryz.underlying9
 a9:=Tryz.isAgg9
 z9:=Tryz.sizeOf9
 v9:=Tryz.zeroValue9
 t37:=Tryz.underlying22
 a37:=Tryz.isAgg22
 z37:=Tryz.sizeOf22
 v37:=Tryz.zeroValue22
 t51:=Tryz.underlying261
 a51:=Tryz.isAgg261
 z51:=Tryz.sizeOf261
 v51:=Tryz.zeroValue261
 t53:=Tryz.underlying263
 a53:=Tryz.isAgg263
 z53:=Tryz.sizeOf263
 v53:=Tryz.zeroValue263}
open Go.RowKit Go.Sort Go.Lib in
theorem Tryz.internal_strconv_formatBase10(blk off a:Nat)(u:Nat)(d:Array UInt8)(w:World)(h:Holds (fun(b:UInt8)=>Value.int .u8 (b.toNat:Int)) w blk off d)(i:u<10^d.size)(c:u<18446744073709551616)(f:d.size<4611686018427387904):
 Calls Tryz.prog 259 #[.slice (some ⟨blk,off,none⟩) d.size a,.int .u64 u] w λe w'=>
  e= .returned (.tuple #[])/\∃(n j:Nat)(g:Array UInt8),w'=(putRow (fun(b:UInt8)=>Value.int .u8 (b.toNat:Int)) w blk off g).drewN n/\FmtInv d.size u 0 j g:=Any.internal_strconv_formatBase10 Tryz.lays285 blk off a u d w h i c f
def Tryz.sortF_ren:Go.Shelf.Ren:=⟨λ |6=>171|15=>203|14=>202|28=>232|29=>233|20=>224|21=>225|22=>226|23=>227|24=>228|25=>229|26=>230|27=>231|46=>245|47=>246|48=>247|49=>248|50=>249|57=>261|n=>n,λ |22=>68|24=>100|25=>135|3=>3|39=>230|0=>0|53=>261|55=>263|4=>4|46=>255|45=>254|50=>148|5=>5|9=>9|66=>270|70=>208|76=>284|77=>285|n=>n,λ |n=>n⟩
theorem Tryz.sortF:Go.Proofs.SlLaysF.n6 Tryz.prog Tryz.sortF_ren:={
 mixed:=bi
 f6:=⟨Tryz.f171.name,bk,func171.trans (congrArg some bi)⟩
 f14:=⟨Tryz.f202.name,bk,func202.trans (congrArg some bi)⟩
 f15:=func203.trans (congrArg some bi)
 f20:=⟨Tryz.f224.name,bk,func224.trans (congrArg some bi)⟩
 f21:=⟨Tryz.f225.name,bk,func225.trans (congrArg some bi)⟩
 f22:=⟨Tryz.f226.name,bk,func226.trans (congrArg some bi)⟩
 f23:=⟨Tryz.f227.name,bk,func227.trans (congrArg some bi)⟩
 f24:=⟨Tryz.f228.name,bk,func228.trans (congrArg some bi)⟩
 f25:=⟨Tryz.f229.name,bk,func229.trans (congrArg some bi)⟩
 f26:=⟨Tryz.f230.name,bk,func230.trans (congrArg some bi)⟩
 f27:=⟨Tryz.f231.name,bk,func231.trans (congrArg some bi)⟩
 f28:=func232.trans (congrArg some bi)
 f29:=func233.trans (congrArg some bi)
 f46:=⟨Tryz.f245.name,bk,func245.trans (congrArg some bi)⟩
 f47:=func246.trans (congrArg some bi)
 f48:=func247.trans (congrArg some bi)
 f49:=⟨Tryz.f248.name,bk,func248.trans (congrArg some bi)⟩
 f50:=⟨Tryz.f249.name,bk,func249.trans (congrArg some bi)⟩
 f57:=⟨Tryz.f261.name,bk,func261.trans (congrArg some bi)⟩
 t0:=Tryz.underlying0
 a0:=Tryz.isAgg0
 z0:=Tryz.sizeOf0
 v0:=Tryz.zeroValue0
 t3:=Tryz.underlying3
 a3:=Tryz.isAgg3
 z3:=Tryz.sizeOf3
 v3:=Tryz.zeroValue3
 t4:=Tryz.underlying4
 a4:=Tryz.isAgg4
 z4:=Tryz.sizeOf4
 v4:=Tryz.zeroValue4
 t5:=Tryz.underlying5
 a5:=Tryz.isAgg5
 z5:=Tryz.sizeOf5
 v5:=Tryz.zeroValue5
 t9:=Tryz.underlying9
 a9:=Tryz.isAgg9
 z9:=Tryz.sizeOf9
 v9:=Tryz.zeroValue9
 t22:=Tryz.underlying68
 a22:=Tryz.isAgg68
 z22:=Tryz.sizeOf68
 v22:=Tryz.zeroValue68
 a24:=Tryz.isAgg100
 z24:=Tryz.sizeOf100
 t25:=Tryz.underlying135
 a25:=Tryz.isAgg135
 z25:=Tryz.sizeOf135
 v25:=Tryz.zeroValue135
 t39:=Tryz.underlying230
 a39:=Tryz.isAgg230
 z39:=Tryz.sizeOf230
 v39:=Tryz.zeroValue230
 t45:=Tryz.underlying254
 a45:=Tryz.isAgg254
 z45:=Tryz.sizeOf254
 v45:=Tryz.zeroValue254
 t46:=Tryz.underlying255
 a46:=Tryz.isAgg255
 z46:=Tryz.sizeOf255
 v46:=Tryz.zeroValue255
 t50:=Tryz.underlying148
 a50:=Tryz.isAgg148
 z50:=Tryz.sizeOf148
 v50:=Tryz.zeroValue148
 t53:=Tryz.underlying261
 a53:=Tryz.isAgg261
 z53:=Tryz.sizeOf261
 v53:=Tryz.zeroValue261
 t55:=Tryz.underlying263
 a55:=Tryz.isAgg263
 z55:=Tryz.sizeOf263
 v55:=Tryz.zeroValue263
 t66:=Tryz.underlying270
 a66:=Tryz.isAgg270
 z66:=Tryz.sizeOf270
 v66:=Tryz.zeroValue270
 t70:=Tryz.underlying208
 a70:=Tryz.isAgg208
 z70:=Tryz.sizeOf208
 v70:=Tryz.zeroValue208
 t76:=Tryz.underlying284
 a76:=Tryz.isAgg284
 z76:=Tryz.sizeOf284
 v76:=Tryz.zeroValue284
 t77:=Tryz.underlying285
 a77:=Tryz.isAgg285
 z77:=Tryz.sizeOf285
 v77:=Tryz.zeroValue285}
def Tryz.sortN_ren:Go.Shelf.Ren:=⟨λ |6=>171|15=>203|14=>202|28=>232|29=>233|20=>224|21=>225|22=>226|23=>227|24=>228|25=>229|26=>230|27=>231|46=>245|47=>246|48=>247|49=>248|50=>249|57=>261|n=>n,λ |22=>68|24=>100|25=>135|3=>3|39=>230|0=>0|53=>261|55=>263|4=>4|46=>255|45=>254|50=>148|5=>5|9=>9|66=>270|70=>208|76=>284|77=>285|n=>n,λ |n=>n⟩
theorem Tryz.sortN:Go.Proofs.SlLaysF0.n6 Tryz.prog Tryz.sortN_ren:={
 mixed:=bi
 f6:=⟨Tryz.f171.name,bk,func171.trans (congrArg some bi)⟩
 f14:=⟨Tryz.f202.name,bk,func202.trans (congrArg some bi)⟩
 f15:=func203.trans (congrArg some bi)
 f20:=⟨Tryz.f224.name,bk,func224.trans (congrArg some bi)⟩
 f21:=⟨Tryz.f225.name,bk,func225.trans (congrArg some bi)⟩
 f22:=⟨Tryz.f226.name,bk,func226.trans (congrArg some bi)⟩
 f23:=⟨Tryz.f227.name,bk,func227.trans (congrArg some bi)⟩
 f24:=⟨Tryz.f228.name,bk,func228.trans (congrArg some bi)⟩
 f25:=⟨Tryz.f229.name,bk,func229.trans (congrArg some bi)⟩
 f26:=⟨Tryz.f230.name,bk,func230.trans (congrArg some bi)⟩
 f27:=⟨Tryz.f231.name,bk,func231.trans (congrArg some bi)⟩
 f28:=func232.trans (congrArg some bi)
 f29:=func233.trans (congrArg some bi)
 f46:=⟨Tryz.f245.name,bk,func245.trans (congrArg some bi)⟩
 f47:=func246.trans (congrArg some bi)
 f48:=func247.trans (congrArg some bi)
 f49:=⟨Tryz.f248.name,bk,func248.trans (congrArg some bi)⟩
 f50:=⟨Tryz.f249.name,bk,func249.trans (congrArg some bi)⟩
 f57:=⟨Tryz.f261.name,bk,func261.trans (congrArg some bi)⟩
 t0:=Tryz.underlying0
 a0:=Tryz.isAgg0
 z0:=Tryz.sizeOf0
 v0:=Tryz.zeroValue0
 t3:=Tryz.underlying3
 a3:=Tryz.isAgg3
 z3:=Tryz.sizeOf3
 v3:=Tryz.zeroValue3
 t4:=Tryz.underlying4
 a4:=Tryz.isAgg4
 z4:=Tryz.sizeOf4
 v4:=Tryz.zeroValue4
 t5:=Tryz.underlying5
 a5:=Tryz.isAgg5
 z5:=Tryz.sizeOf5
 v5:=Tryz.zeroValue5
 t9:=Tryz.underlying9
 a9:=Tryz.isAgg9
 z9:=Tryz.sizeOf9
 v9:=Tryz.zeroValue9
 t22:=Tryz.underlying68
 a22:=Tryz.isAgg68
 z22:=Tryz.sizeOf68
 v22:=Tryz.zeroValue68
 t25:=Tryz.underlying135
 a25:=Tryz.isAgg135
 z25:=Tryz.sizeOf135
 v25:=Tryz.zeroValue135
 t39:=Tryz.underlying230
 a39:=Tryz.isAgg230
 z39:=Tryz.sizeOf230
 v39:=Tryz.zeroValue230
 t45:=Tryz.underlying254
 a45:=Tryz.isAgg254
 z45:=Tryz.sizeOf254
 v45:=Tryz.zeroValue254
 t46:=Tryz.underlying255
 a46:=Tryz.isAgg255
 z46:=Tryz.sizeOf255
 v46:=Tryz.zeroValue255
 t50:=Tryz.underlying148
 a50:=Tryz.isAgg148
 z50:=Tryz.sizeOf148
 v50:=Tryz.zeroValue148
 t53:=Tryz.underlying261
 a53:=Tryz.isAgg261
 z53:=Tryz.sizeOf261
 v53:=Tryz.zeroValue261
 t55:=Tryz.underlying263
 a55:=Tryz.isAgg263
 z55:=Tryz.sizeOf263
 v55:=Tryz.zeroValue263
 t66:=Tryz.underlying270
 a66:=Tryz.isAgg270
 z66:=Tryz.sizeOf270
 v66:=Tryz.zeroValue270
 t70:=Tryz.underlying208
 a70:=Tryz.isAgg208
 z70:=Tryz.sizeOf208
 v70:=Tryz.zeroValue208
 t76:=Tryz.underlying284
 a76:=Tryz.isAgg284
 z76:=Tryz.sizeOf284
 v76:=Tryz.zeroValue284
 t77:=Tryz.underlying285
 a77:=Tryz.isAgg285
 z77:=Tryz.sizeOf285
 v77:=Tryz.zeroValue285}
def Tryz.searchO_ren:Go.Shelf.Ren:=⟨λ |16=>134|n=>n,λ |3=>3|35=>88|4=>4|38=>230|n=>n,λ |n=>n⟩
theorem Tryz.searchO:Go.Proofs.SlLaysO.n16 Tryz.prog Tryz.searchO_ren:={
 mixed:=bi
 f16:=func134.trans (congrArg some bi)
 t3:=Tryz.underlying3
 a3:=Tryz.isAgg3
 z3:=Tryz.sizeOf3
 v3:=Tryz.zeroValue3
 t4:=Tryz.underlying4
 a4:=Tryz.isAgg4
 z4:=Tryz.sizeOf4
 v4:=Tryz.zeroValue4
 t35:=Tryz.underlying88
 a35:=Tryz.isAgg88
 z35:=Tryz.sizeOf88
 v35:=Tryz.zeroValue88
 t38:=Tryz.underlying230
 a38:=Tryz.isAgg230
 z38:=Tryz.sizeOf230
 v38:=Tryz.zeroValue230}
end Go.Proofs
namespace Go.Ps
open Go Go.Vc Go.Proofs List Tryz
variable{K:bu}{m:MH}{h:PH}{s:iJ}{ps:bt}{cb:Nat}{sc:cN}{v:QV}{p:Pred}{l:bt}{i:Nat}{N:Nat}{m':MH}{h':PH}{co:bt}{gr:bt}{od:ca}{ta:Int}{li:Int}{xs:List bw}{sz:Nat}{ks:List bt}{rs:bt}{r:Sl}{a:bt}{b:Nat}
def fM(m:MH):Prop:=∃T c,m 1=some (.cells (Lib.pow10Tab.map λz=>Value.int .u64 z).toArray T c)
def cU(u:Nat):CV:=.val (.int .u64 u)
def bSX:Vc.Spec:=λc m h K=>∃i:Nat,c=[cI i]/\i<100/\K (U7 ⟨(Lib.decDigits i).toArray⟩) m h
def YO:Vc.Spec:=λc m h K=>∃u:Nat,c=[cU u]/\1<=u/\u<18446744073709551616/\fM m/\K (cI (Lib.nDigits u)) m h
def bRQ:Vc.Spec:=λd m h K=>∃b e u:Nat,∃(f:Array Value)(T:TypeId),d=[.val (.slice (some ⟨b,0,none⟩) (Lib.nDigits u) e),cU u]/\u<18446744073709551616/\m b=some (.cells f T (0,0))/\f.toList=replicate 24 (.int .u8 0)/\
 ∀c m',c.size=f.size->c.toList.take (Lib.nDigits u)=Lib.byteCells (Lib.decDigits u)->iV m m' b (.cells c T (0,0))->K (.tup []) m' h
def byX:Vc.Spec:=λc m h K=>∃xs,∃u:Nat,c=[.lst 5 1 xs,cU u,cI 10]/\u<18446744073709551616/\fM m/\xs.length+30<=140737488355328/\K (.lst 5 1 (xs++bE (Lib.decDigits u))) m h
def jQ(i:Int):cn:=if i<0 then 45::Lib.decDigits (IntKind.u64.wrap (0-IntKind.u64.wrap i)).toNat else Lib.decDigits (IntKind.u64.wrap i).toNat
def OU:Vc.Spec:=λc m h K=>∃xs i,c=[.lst 5 1 xs,cI i,cI 10]/\fM m/\xs.length+40<=140737488355328/\K (.lst 5 1 (xs++bE (jQ i))) m h
abbrev uL(a:bu)(b:List bw)(c:MH)(d:Nat->Nat->Option Value):Prop:=a (CV.lst 5 1 b) c d
noncomputable abbrev D3(a:bw):bw:=aR (vH 0) (vH 0) (aR (vH 0) (vH 0) (aR (vH 0) (vH 0) (aR (vH 0) (vH 0) a)))
noncomputable abbrev AO(a:Int):CV:=CV.val (Value.int IntKind.u64 a)
abbrev Nx(a:Nat):Prop:=a<18446744073709551616
noncomputable abbrev Es(a:Nat):Int:=(↑(Lib.nDigits a):Int)
noncomputable abbrev mG(a:Nat):Option Addr:=Option.some (Addr.mk a 0 Option.none)
attribute [push_cast] uL D3 AO Nx Es mG
def Kw(xs:List bw)(u:Nat)(m:MH)(h:PH)(K:bu):Prop:=
  bA (↑u:Int) 100 (∃(i:Nat),aA (oF (eG (iE (↑u:Int)))=oF (eG (↑i:Int))) (i<100) (aA (tS xs (fL (ByteArray.mk (Array.mk (Lib.decDigits i)))) 1) (oS xs (fL (ByteArray.mk (Array.mk (Lib.decDigits i))))) (uL K (xs++fL (ByteArray.mk (Array.mk (Lib.decDigits i)))) m h))) (∀(b:Nat)(f:MH),fC m h b->gO m f b (D3 (D3 (D3 []))) 280->∃(d:Nat),aA (oF (AO (↑u:Int))=oF (AO (↑d:Int))) (1<=d) (aA (Nx d) (fM f) (aA (bZ (Es d)) (Es d<=24) (aW (λg c=>∃(e:Nat),Kf (λj T=>aA (bK (CV.val (Value.slice (mG b) (Es d).toNat 24)) (AO (↑u:Int))=bK (CV.val (Value.slice (mG g) (Lib.nDigits e) c)) (AO (↑e:Int))) (Nx e) (aA (f g=Option.some (B5 j T 0)) (j.toList=D3
 (D3 (D3 []))) (∀(n:Array Value)(o:MH),n.size=j.size->List.take (Lib.nDigits e) n.toList=Lib.byteCells (Lib.decDigits e)->iV f o g (B5 n T 0)->aA (bZ (Es d)) (Es d<=24) (∃(y:List bw),aA (eW 1 y) (sM o h (Sl.mk (mG b) (Es d).toNat 24) 1 y) (aA (tS xs y 1) (oS xs y) (uL K (xs++y) o h)))))))))))
noncomputable abbrev Ny(a:Int):Int:=IntKind.wrap IntKind.u64 a
noncomputable abbrev gZ(a:List bw)(b:cn):List bw:=a++bE b
attribute [push_cast] Ny gZ
def P7(xs:List bw)(i:Int)(m:MH)(h:PH)(K:bu):Prop:=
  bA i 0 (jZ xs 1 (∃(x:List bw)(u:Nat),aA (CV.lst 5 1 (fK xs (kL (vH 45)))::bT (AO (Ny (0-Ny i))) 10=CV.lst 5 1 x::bT (AO (↑u:Int)) 10) (Nx u) (aA (fM m) (oL (jJ x 30)) (uL K (gZ x (Lib.decDigits u)) m h)))) (∃(x:List bw)(u:Nat),aA (CV.lst 5 1 xs::bT (AO (Ny i)) 10=CV.lst 5 1 x::bT (AO (↑u:Int)) 10) (Nx u) (aA (fM m) (oL (jJ x 30)) (uL K (gZ x (Lib.decDigits u)) m h)))
abbrev MD(a:(List bw)->Int->Prop):Prop:=∃(x:List bw)(c:Int),a x c
noncomputable abbrev wI(a:List bw)(b:Int):ct:=CV.lst 5 1 a::bT (eG b) 10
attribute [push_cast] MD wI
def aeZ(xs:List bw)(i:Int)(m:MH)(h:PH)(K:bu):Prop:=
  MD (λx c=>aI (wI xs i=wI x c) (fM m) (oL (jJ x 40)) (uL K (gZ x (jQ c)) m h))
theorem fM.sub(h:fM m)(c:Sub m m'):fM m':=by
 obtain⟨T,d,e⟩:=h;exact⟨T,d,c 1 _ e⟩
theorem JP{w:World}{c:ct}{vs:bw}(d:Bd w m h c vs):Ai ⟨w,xG m c vs,h,[]⟩ m h w:=
 ⟨rfl,rfl,rfl,Nat.le_refl _,Nat.le_refl _,λ_ _ _=>rfl,d.hsat,d.msat,d.disj,λ_ _ _ e=>e,λ_ _ _=>rfl,λb o f=>.inr (.inl (by rw[show m b=some o from f];simp))⟩
theorem V5:br 257 bSX:=by
 refine⟨⟨Tryz.f257,func257,rfl,bk⟩,?_⟩;rintro f d m h w K ⟨i,rfl,g,j⟩ c
 obtain⟨v,rfl⟩:∃v,d=[v]:=by
  have:=(qS c.args).1
  match d,this with
  |[v],_=>exact⟨v,rfl⟩
 have n:v= .int .i64 i:=c.args.1;subst n;refine(Tryz.internal_strconv_small i g w).mono ?_;rintro e t ⟨rfl,rfl⟩;exact⟨_,_,m,h,rfl,j,rfl,JP c,λb o=>by simp[U7,iC]at o⟩
theorem V4:br 258 YO:=by
 refine⟨⟨Tryz.f258,func258,rfl,bk⟩,?_⟩;rintro f d m h w K ⟨u,rfl,g,j,⟨T,z,n⟩,o⟩ c
 obtain⟨v,rfl⟩:∃v,d=[v]:=by
  have:=(qS c.args).1
  match d,this with
  |[v],_=>exact⟨v,rfl⟩
 have t:v= .int .u64 u:=c.args.1;subst t;have x:=c.msat 1 _ n;refine(Tryz.internal_strconv_numDigits u g j w ?_).mono ?_
 .unfold Lib.TabIs World.var?;rw[show Tryz.prog.globalNamed _=some 1 by kernel_rfl];simp only[Option.bind_some,x]
 .rintro e A ⟨rfl,rfl⟩;exact⟨_,_,m,h,rfl,o,rfl,JP c,λb y=>by simp[cI,iC]at y⟩
theorem V3:br 259 bRQ:=by
 refine⟨⟨Tryz.f259,func259,rfl,bk⟩,?_⟩;rintro W Q m h w K ⟨b,g,u,C,T,rfl,R,A,D,X⟩ t
 obtain⟨v,E,rfl⟩:∃v E,Q=[v,E]:=by
  have:=(qS t.args).1
  match Q,this with
  |[v,E],_=>exact⟨v,E,rfl⟩
 have Y:v= .slice (some ⟨b,0,none⟩) (Lib.nDigits u) g:=t.args.1;have J:E= .int .u64 u:=t.args.2.1;subst Y J;have L:=t.msat b _ A;have Z:=Lib.nDigits_le20 u R;have a':C.size=24:=by rw[<-Array.length_toList,D];simp
 have hH:Sort.Holds (fun(b:UInt8)=>Value.int .u8 (b.toNat:Int)) w b 0 (Array.replicate (Lib.nDigits u) (0:UInt8)):=by
  intro j B;simp only[Array.size_replicate]at B;refine⟨?_,?_⟩
  .rw[cell_of_heap L,D,getElem?_replicate,if_pos aD];rw[getElem!_pos _ j (bo B)];simp
  .unfold World.frozen?;rw[L];simp
 have S:=Tryz.internal_strconv_formatBase10 b 0 g u (Array.replicate (Lib.nDigits u) (0:UInt8)) w hH (bo (Lib.lt_pow_nDigits u)) R (by simp;omega);rw[Array.size_replicate]at S;refine S.mono ?_;rintro e w' ⟨rfl,n,v',z,rfl,U⟩;have a0:z.size=Lib.nDigits u:=U.size;obtain⟨m',y⟩:∃m',iV m m' b (.cells (Sort.putCells (fun(b:UInt8)=>Value.int .u8 (b.toNat:Int)) 0 z C) T (0,0)):=⟨λc=>if c=b then some (.cells (Sort.putCells (fun(b:UInt8)=>Value.int .u8 (b.toNat:Int)) 0 z C) T (0,0))else m c,bj,λc d=>by simp[d]⟩
 have F:(Sort.putRow (fun(b:UInt8)=>Value.int .u8 (b.toNat:Int)) w b 0 z).heap[b]? =some (.cells (Sort.putCells (fun(b:UInt8)=>Value.int .u8 (b.toNat:Int)) 0 z C) T (0,0)):=by
  unfold Sort.putRow Sort.mapBlock;simp only[Array.getElem?_modify,if_true,L];rfl
 have f:∀c,c≠b->(Sort.putRow (fun(b:UInt8)=>Value.int .u8 (b.toNat:Int)) w b 0 z).heap[c]? =w.heap[c]? :=λc d=>by
  unfold Sort.putRow Sort.mapBlock;simp only[Array.getElem?_modify,if_neg (Ne.symm d)]
 refine⟨.tup [],.tuple #[],m',h,rfl,X _ m' ?_ ?_ y,⟨#[],rfl,rfl⟩,?_,λb A=>by simp[iC]at A⟩
 .simp[Sort.putCells]
 .apply ext_getElem?;intro j;rw[getElem?_take];have hl:(Lib.byteCells (Lib.decDigits u)).length=Lib.nDigits u:=by rw[Lib.byteCells_length,Lib.decDigits_length]
  by_cases B:j<Lib.nDigits u
  .rw[if_pos B,Array.getElem?_toList];have G:j<(Lib.decDigits u).length:=by rw[Lib.decDigits_length];exact B
   have H:j<C.size:=by omega
   simp only[Sort.putCells,Array.getElem?_mapIdx,Array.getElem?_eq_getElem H,Option.map_some,Nat.zero_le,Nat.zero_add,Nat.sub_zero,true_and];rw[if_pos aD,Lib.byteCells,getElem?_map,getElem?_eq_getElem G,Lib.row_is_numeral U j G];rfl
  .rw[if_neg B,getElem?_eq_none aD]
 .have I:∀c o,m' c=some o->c=b\/m c=some o:=λc o d=>by
   by_cases e:c=b
   .exact .inl e
   .rw[y.other c e]at d;exact .inr d
  have V:xG m [.val (.slice (some ⟨b,0,none⟩) (Lib.nDigits u) g),cU u] [.slice (some ⟨b,0,none⟩) (Lib.nDigits u) g,.int .u64 u] b:=.inl (by rw[A];simp);refine⟨rfl,rfl,rfl,Nat.le_add_right _ _,by simp[Sort.putRow,Sort.mapBlock],?_,?_,?_,?_,λ_ _ _ e=>e,λ_ _ _=>rfl,?_⟩
  .intro c _ hn;exact f c (λe=>hn (e▸V))
  .intro c o x M;have O:c≠b:=λe=>by rw[e,t.disj b _ A o]at M;cases M
   show(Sort.putRow (fun(b:UInt8)=>Value.int .u8 (b.toNat:Int)) w b 0 z).cell? ⟨c,o,none⟩=some x;rw[World.cell?_of_block (w:=w) (a:=⟨c,o,none⟩) (f c O)];exact t.hsat c o x M
  .intro c o d;by_cases e:c=b
   .subst e;rw[y.at_]at d;cases d;exact F
   .rw[y.other c e]at d;rw[show((Sort.putRow (fun(b:UInt8)=>Value.int .u8 (b.toNat:Int)) w b 0 z).drewN n).heap[c]? =_ from f c e];exact t.msat c o d
  .intro c o d j;rcases I c o d with rfl|P
   .exact t.disj c _ A j
   .exact t.disj c _ P j
  .intro c o d;rcases I c o d with rfl|P
   .exact .inr V
   .exact .inr (.inl (by rw[P];simp))
theorem FL(l:cn):fL ⟨l.toArray⟩=bE l:=by simp[fL,bE]
theorem K3(l:cn):(bE l).flatten=Lib.byteCells l:=by
 unfold bE Lib.byteCells
 induction l with
 |nil=>rfl
 |cons b r c=>simp[c]
theorem aZ(l:cn):(bE l).length=l.length:=by simp[bE]
theorem V9:br 243 byX:=by
 refine EU func243 ?_;rintro x m h K ⟨xs,u,rfl,j,y,D,o⟩;refine⟨uC [(257,bSX),(258,YO),(259,bRQ)] [] [] [] [280] [] true,rfl,aE V5 (aE V4 (aE V3 aH)),Kw xs u m h (kE h K),bi,?_⟩;show Kw xs u m h (kE h K);dsimp only[Kw,push_cast];have z:=Lib.nDigits_le20 u j;have d:=Lib.decDigits_length u;refine aF (λA=>⟨u,?_,aD,?_,?_,?_⟩) (λA b B t e=>?_)
 .rw[dT aD aD]
 .rw[FL,aZ];omega
 .rw[FL,aZ];omega
 .rw[FL];exact .here o
 .have f:Sub m B:=(Sub.refl m).upd t.m_ e.other;refine⟨u,rfl,aD,j,y.sub f,aD,aD,b,24,u,_,_,by rw[Int.toNat_natCast],j,e.at_,rfl,λn E C c g=>⟨aD,aD,bE (Lib.decDigits u),H8 _,?_,?_,?_,?_⟩⟩
  .refine .lent b 0 n 280 (0,0) rfl ?_ g.at_ ?_
   .rw[Int.toNat_natCast,aZ,d]
   .rw[K3,Lib.byteCells_length,d,drop_zero];exact c
  .rw[aZ];omega
  .rw[aZ];omega
  .exact .sub (f.upd t.m_ g.other) o
theorem anX(i:Int):0<=IntKind.u64.wrap i/\IntKind.u64.wrap i<18446744073709551616:=by
 simp only[IntKind.wrap,IntKind.bits,IntKind.signed];simp;omega
theorem xV(i:Int):(jQ i).length<=21:=by
 have key:∀n:Int,(Lib.decDigits (IntKind.u64.wrap n).toNat).length<=20:=λn=>by
  rw[Lib.decDigits_length];exact Lib.nDigits_le20 _ (by have:=anX n;omega)
 unfold jQ;split
 .have:=key (0-IntKind.u64.wrap i);simp only[length_cons];omega
 .have:=key i;omega
theorem We:br 219 OU:=by
 refine hJ func219 ?_;rintro f m h K ⟨xs,i,rfl,e,g,c⟩;refine⟨uC [(243,byX)] [] [] [] [] [(243,[0])] true,rfl,aE V9 aH,P7 xs i m h K,bi,?_⟩;dsimp only[P7,push_cast];have j:=anX i;have n:=anX (0-IntKind.u64.wrap i);refine aF (λd=>⟨aD,aD,xs++[[.int .u8 45]],(IntKind.u64.wrap (0-IntKind.u64.wrap i)).toNat,?_,aD,e,by simp;omega,?_⟩) (λd=>⟨xs,(IntKind.u64.wrap i).toNat,?_,aD,e,aD,?_⟩)
 .rw[show(((IntKind.u64.wrap (0-IntKind.u64.wrap i)).toNat:Nat):Int)=IntKind.u64.wrap (0-IntKind.u64.wrap i)by omega]
 .have:jQ i=45::Lib.decDigits (IntKind.u64.wrap (0-IntKind.u64.wrap i)).toNat:=by unfold jQ;rw[if_pos d]
  rw[this]at c;rw[append_assoc];exact c
 .rw[show(((IntKind.u64.wrap i).toNat:Nat):Int)=IntKind.u64.wrap i by omega]
 .have:jQ i=Lib.decDigits (IntKind.u64.wrap i).toNat:=by unfold jQ;rw[if_neg d]
  rw[this]at c;exact c
theorem ED:br 188 OU:=by
 refine hJ func188 ?_;rintro c m h K ⟨xs,i,rfl,d,e,f⟩;refine⟨uC [(219,OU)] [] [] [] [] [(219,[0])] true,rfl,aE We aH,aeZ xs i m h K,by kernel_rfl,?_⟩;exact⟨xs,i,rfl,d,e,f⟩
def BN(a b:Int):Int:=if a<b then-1 else if b<a then 1 else 0
def O8(a b:ByteArray):Int:=Lib.compareBytes a.data.toList b.data.toList
def lW(a b:VV):Int:=if BN a.kind b.kind≠0 then BN a.kind b.kind else if BN a.int b.int≠0 then BN a.int b.int else O8 a.text b.text
def dP:cd->cd->Int
 |[],[]=>0
 |[],_::_=> -1
 |_::_,[]=>1
 |x::xs,y::ys=>if lW x y≠0 then lW x y else dP xs ys
def bpQ:Vc.Spec:=λc m h K=>∃n,c=[cI n]/\K (cB false) m h
def Y0:Vc.Spec:=λc m h K=>∃a b,c=[cI a,cI b]/\K (cI (BN a b)) m h
def bxZ:Vc.Spec:=λc m h K=>∃a b,c=[U7 a,U7 b]/\K (cI (O8 a b)) m h
def Rq:Vc.Spec:=λc m h K=>∃a b,c=[aV a,aV b]/\K (cI (lW a b)) m h
def Hh:Vc.Spec:=λc m h K=>∃s t a b,c=[cS s,cS t]/\cA h s a/\cA h t b/\K (cI (dP a b)) m h
def byQ:Vc.Spec:=λc m h K=>∃s t a b,c=[cS s,cS t,.val (.func (.func 166) #[] #[])]/\cA h s a/\cA h t b/\K (cI (dP a b)) m h
def Rows(h:PH)(s:Sl)(l:bx):Prop:=bV h 1 eS (λr t=>cA h t r) s l
def btZ:Vc.Spec:=λc m h K=>∃s t a b,c=[cS s,cS t]/\Rows h s a/\Rows h t b/\∀r:Bool,(r=true↔a=b)->K (cB r) m h
noncomputable def aFJ(s t:Sl)(m:MH)(h:PH):Ctx:=
 cW [(166,Rq)] [(2,{A:=Nat,st:=λi=>bY 39 42 [(0,sv s),(1,sv t),(2,vv (.func (.func 166) #[] #[])),(11,sv s),(12,iv s.len),(13,iv i)] [] m h})] [] [] false
noncomputable def bcZ(s t:Sl)(m:MH)(h:PH):Ctx:=
 cW [(138,Rq)] [(2,{A:=Nat,st:=λi=>bY 43 45 [(0,sv s),(1,sv t),(5,iv i)] [] m h})] [] [] false
noncomputable def bhJ(s t:Sl)(m:MH)(h:PH):Ctx:=
 cW [(72,Hh)] [(4,{A:=Nat,st:=λi=>bY 27 29 [(0,sv s),(1,sv t),(12,iv s.len),(13,iv i)] [] m h})] [] [] false
def acX(n:Int)(m:MH)(h:PH)(K:bu):Prop:=
  K (xZ (n !=n)) m h
def acQ(n:Int)(m:MH)(h:PH)(K:bu):Prop:=
  K (xZ (n !=n)) m h
def KB(a b:Int)(m:MH)(h:PH)(K:bu):Prop:=
  ∃(n:Int),kH a n/\∃(c:Int),kH b c/\bA a b (K (eG (Int.negSucc 0)) m h) (gM a b (K (eG 1) m h) (K (eG 0) m h))
def aeX(a b:Int)(m:MH)(h:PH)(K:bu):Prop:=
  ∃(n:Int),kH a n/\∃(c:Int),kH b c/\bA a b (K (eG (Int.negSucc 0)) m h) (gM a b (K (eG 1) m h) (K (eG 0) m h))
def Qi(a b:VV)(m:MH)(h:PH)(K:bu):Prop:=
  ∃(r:Bool),fB (wZ 24 a.enc b.enc r) r (K (eG 0) m h) (Fp (λc d=>fB (bT (eG a.kind) b.kind=bT (eG c) d) (j8 (BN c d)) (K (eG (BN c d)) m h) (Fp (λe f=>fB (bT (eG a.int) b.int=bT (eG e) f) (j8 (BN e f)) (K (eG (BN e f)) m h) (∃(g j:ByteArray),bK (jU a.text) (jU b.text)=bK (jU g) (jU j)/\K (eG (O8 g j)) m h)))))
def QC(a b:VV)(m:MH)(h:PH)(K:bu):Prop:=
  bA a.kind b.kind (K (eG (Int.negSucc 0)) m h) (gM a.kind b.kind (K (eG 1) m h) (bA a.int b.int (K (eG (Int.negSucc 0)) m h) (dJ (decide (a.int>b.int)) (K (eG 1) m h) (Op.bytesLess (Cq a) (Cq b)) (K (eG (Int.negSucc 0)) m h) (qB (Bool.or (Op.bytesLess (Cq a) (Cq b)) (Cq a==Cq b)) (K (eG 1) m h) (K (eG 0) m h)))))
def Qj(s t:Sl)(m:MH)(h:PH)(K:bu):Prop:=
  mP (λI x=>aA (I x) (aJ s) (aA (aJ t) (yS 166) (aA (aJ s) (bI s) (aA (bF x) (m=m) (bD h h))))) (λI e x=>I x->bA (↑x:Int) (aG s) (aW (λb o=>aI (aX s.a b o) (0<=(↑x:Int)) ((↑x:Int)<aG s) (∃(y:VV),aU m h b (bN o x 3) y.enc/\fQ (↑x:Int) (aG t) (K (eG 1) m h) (aW (λf g=>aI (aX t.a f g) (0<=(↑x:Int)) ((↑x:Int)<aG t) (∃(j:VV),aU m h f (bN g x 3) j.enc/\∃(a c:VV),fB (bK (hX y) (hX j)=bK (hX a) (hX c)) (j8 (lW a c)) (K (eG (lW a c)) m h) (∃(d:Nat),aA (I d) (e d<e x) (aA (aJ s) (aJ t) (aA (yS 166) (aJ s) (aA (bI s) (fU (bG x 1)=bP d) (bS (m=m) h h))))))))))) (bA (aG s) (aG t) (K (eG (Int.negSucc 0)) m h) (K (eG 0) m h)))
abbrev oK(a:Sl->cd->Prop):Prop:=∃(x:Sl)(c:cd),a x c
attribute [push_cast] oK
def ahZ(s t:Sl)(m:MH)(h:PH)(K:bu):Prop:=
  ∃(c:Sl),oK (λd a=>∃(b:cd),aI (AU s t 166=AU c d 166) (cA h c a) (cA h d b) (K (eG (dP a b)) m h))
def Uh(s t:Sl)(m:MH)(h:PH)(K:bu):Prop:=
  mP (λI x=>aA (I x) (aJ s) (aA (aJ t) (bF x) (bS (m=m) h h))) (λI e x=>I x->bA (↑x:Int) (aG s) (bA (↑x:Int) (aG t) (aW (λb o=>aI (aX s.a b o) (0<=(↑x:Int)) ((↑x:Int)<aG s) (∃(y:VV),aU m h b (bN o x 3) y.enc/\aW (λf g=>aI (aX t.a f g) (0<=(↑x:Int)) ((↑x:Int)<aG t) (∃(j:VV),aU m h f (bN g x 3) j.enc/\∃(a c:VV),fB (bK (hX y) (hX j)=bK (hX a) (hX c)) (j8 (lW a c)) (K (eG (lW a c)) m h) (∃(d:Nat),aA (I d) (e d<e x) (aA (aJ s) (aJ t) (aI (fU (bG x 1)=bP d) (m=m) (h=h) True)))))))) (bA (aG s) (aG t) (K (eG (Int.negSucc 0)) m h) (gM (aG s) (aG t) (K (eG 1) m h) (K (eG 0) m h)))) (bA (aG s) (aG t) (K (eG (Int.negSucc 0)) m h) (gM (aG s) (aG t) (K
 (eG 1) m h) (K (eG 0) m h))))
def UB(s t:Sl)(m:MH)(h:PH)(K:bu):Prop:=
  dC (aG s) (aG t) (K bB m h) (mP (λI x=>aA (I x) (aJ s) (aA (aJ t) (bI s) (aI (bF x) (m=m) (h=h) True))) (λI d x=>I x->bA (↑x:Int) (aG s) (aW (λb o=>aI (aX s.a b o) (0<=(↑x:Int)) ((↑x:Int)<aG s) (∃(y:Sl),aU m h b (bN o x 1) (aY y)/\aW (λe f=>aI (aX t.a e f) (0<=(↑x:Int)) ((↑x:Int)<aG t) (∃(g:Sl),aU m h e (bN f x 1) (aY g)/\∃(j:Sl),oK (λn a=>∃(u:cd),aI (dX y g=dX j n) (cA h j a) (cA h n u) (dC (dP a u) 0 (K bB m h) (∃(c:Nat),aA (I c) (d c<d x) (aA (aJ s) (aJ t) (aA (bI s) (fU (bG x 1)=bP c) (aA (m=m) (h=h) True))))))))))) (fJ K m h)))
theorem G2{a b:Int}:BN a b=0↔a=b:=by
 unfold BN;constructor
 .intro h;split at h
  .omega
  .split at h<;>omega
 .intro h;subst h;simp
theorem G3:∀a b:cn,Lib.compareBytes a b=0↔a=b
 |[],[]=>by simp[Lib.compareBytes]
 |[],_::_=>by simp[Lib.compareBytes]
 |_::_,[]=>by simp[Lib.compareBytes]
 |a::l,b::bs=>by
  simp only[Lib.compareBytes,List.cons.injEq];split
  .rename_i h;simp;intro e;subst e;exact absurd h (UInt8.lt_irrefl _)
  .split
   .rename_i h;simp;intro e;subst e;exact absurd h (UInt8.lt_irrefl _)
   .rename_i c d;rw[G3 l bs];have:a=b:=UInt8.le_antisymm (UInt8.not_lt.1 d) (UInt8.not_lt.1 c);simp[this]
theorem ajZ{a b:ByteArray}:O8 a b=0↔a=b:=by
 unfold O8;rw[G3];constructor
 .intro h;cases a;cases b;simp only[ByteArray.mk.injEq];exact Array.toList_inj.1 h
 .intro h;rw[h]
theorem KZ{a b:VV}:lW a b=0↔a=b:=by
 obtain⟨k,i,t⟩:=a;obtain⟨d,f,g⟩:=b;simp only[lW,VV.mk.injEq];split
 .rename_i h;exact⟨λe=>absurd e h,λe=>absurd (G2.2 e.1) h⟩
 .rename_i h;have h:=Classical.not_not.1 h;split
  .rename_i c;exact⟨λe=>absurd e c,λe=>absurd (G2.2 e.2.1) c⟩
  .rename_i c;have c:=Classical.not_not.1 c;rw[ajZ];simp[G2.1 h,G2.1 c]
theorem jM:∀{a b:cd},dP a b=0↔a=b
 |[],[]=>by simp[dP]
 |[],_::_=>by simp[dP]
 |_::_,[]=>by simp[dP]
 |x::xs,y::ys=>by
  simp only[dP,List.cons.injEq];split
  .rename_i h;exact⟨λe=>absurd e h,λe=>absurd (KZ.2 e.1) h⟩
  .rename_i h;rw[jM (a:=xs),KZ.1 (Classical.not_not.1 h)];simp
theorem NI:∀a b:cn,(Op.bytesLess a b=true↔Lib.compareBytes a b= -1)/\(Lib.compareBytes a b= -1\/Lib.compareBytes a b=0\/Lib.compareBytes a b=1)
 |[],[]=>by simp[Lib.compareBytes,Op.bytesLess]
 |[],_::_=>by simp[Lib.compareBytes,Op.bytesLess]
 |_::_,[]=>by simp[Lib.compareBytes,Op.bytesLess]
 |a::l,b::bs=>by
  obtain⟨f,g⟩:=NI l bs;simp only[Lib.compareBytes,Op.bytesLess];by_cases c:a<b
  .simp[c]
  .by_cases d:b<a
   .have:¬a=b:=λe=>by subst e;exact UInt8.lt_irrefl _ d
    simp[c,d,this]
   .have:a=b:=UInt8.le_antisymm (UInt8.not_lt.1 d) (UInt8.not_lt.1 c);subst this;simp only[c,if_false];exact⟨bo f,g⟩
theorem Yv{a b:Int}(c:K (cI (BN a b)) m h):KB a b m h K:=by
 dsimp only[KB,push_cast];refine⟨a,rfl,b,rfl,aF (λd=>?_) (λd=>aF (λe=>?_) (λe=>?_))⟩
 .rw[BN,if_pos d]at c;exact c
 .rw[BN,if_neg d,if_pos e]at c;exact c
 .rw[BN,if_neg d,if_neg e]at c;exact c
theorem Wc:br 221 bpQ:=by
 refine hJ func221 ?_;rintro c m h K ⟨n,rfl,d⟩;refine⟨cW [] [] [] [] false,rfl,aH,acX n m h K,bi,?_⟩;exact(by show K (cB (n !=n)) m h;rw[bne_self_eq_false];exact d)
theorem Wb:br 222 bpQ:=by
 refine hJ func222 ?_;rintro c m h K ⟨n,rfl,d⟩;refine⟨cW [] [] [] [] false,rfl,aH,acQ n m h K,bi,?_⟩;exact(by show K (cB (n !=n)) m h;rw[bne_self_eq_false];exact d)
theorem Wp:br 193 Y0:=by
 refine hJ func193 ?_;rintro c m h K ⟨a,b,rfl,d⟩;refine⟨cW [(221,bpQ)] [] [] [] false,rfl,aE Wc aH,KB a b m h K,bi,?_⟩;exact Yv d
theorem Wo:br 194 Y0:=by
 refine hJ func194 ?_;rintro c m h K ⟨a,b,rfl,d⟩;refine⟨cW [(222,bpQ)] [] [] [] false,rfl,aE Wb aH,aeX a b m h K,bi,?_⟩;exact Yv d
theorem Wn:br 195 bxZ:=by
 refine⟨⟨Tryz.f195,func195,rfl,bk⟩,?_⟩;rintro j g m h w K ⟨a,b,rfl,n⟩ d
 obtain⟨v,c,rfl⟩:∃v c,g=[v,c]:=by
  have:=(qS d.args).1
  match g,this with
  |[v,c],_=>exact⟨v,c,rfl⟩
 have o:v= .string a:=d.args.1;have f:c= .string b:=d.args.2.1;subst o f;refine(Tryz.strings_Compare a b w).mono ?_;rintro e u ⟨rfl,rfl⟩;exact⟨_,_,m,h,rfl,n,rfl,JP d,λb t=>by simp[cI,iC]at t⟩
theorem HG:br 166 Rq:=by
 refine hJ func166 ?_;rintro g m h K ⟨a,b,rfl,c⟩;refine⟨cW [(193,Y0),(194,Y0),(195,bxZ)] [] [] [] false,rfl,aE Wp (aE Wo (aE Wn aH)),Qi a b m h K,bi,?_⟩;dsimp only[Qi,push_cast];refine⟨_,Sh a b,aC (λf=>?_) (λf=>⟨_,_,rfl,aC (λd=>?_) (λd=>⟨_,_,rfl,aC (λe=>?_) (λe=>⟨_,_,rfl,?_⟩)⟩)⟩)⟩
 .rw[KZ.2 (Si.1 f)]at c;exact c
 .rw[lW,if_pos (bo d)]at c;exact c
 .rw[lW,if_neg (bo d),if_pos (bo e)]at c;exact c
 .rw[lW,if_neg (bo d),if_neg (bo e)]at c;exact c
theorem W6:br 138 Rq:=by
 refine hJ func138 ?_;rintro y m h K ⟨a,b,rfl,c⟩;refine⟨cW [] [] [] [] false,rfl,aH,QC a b m h K,bi,?_⟩;dsimp only[QC,push_cast];unfold lW BN O8 at c;obtain⟨g,t⟩:=NI a.text.data.toList b.text.data.toList;refine aF (λd=>?_) (λd=>aF (λj=>?_) (λj=>aF (λo=>?_) (λo=>aF (λu=>?_) (λu=>aC (λf=>?_) (λf=>aC (λn=>?_) (λn=>?_))))))
 .rw[if_pos d]at c;exact c
 .rw[if_neg d,if_pos j]at c;exact c
 .rw[if_neg d,if_neg j,if_pos o]at c;exact c
 .rw[if_neg d,if_neg j,if_neg o,if_pos u]at c;exact c
 all_goals rw[if_neg d,if_neg j,if_neg o,if_neg u]at c
 all_goals rw[ByteArray.toList_eq,ByteArray.toList_eq]at f
 .rw[if_neg bj,if_neg bj,g.1 f]at c;exact c
 .have x:Lib.compareBytes a.text.data.toList b.text.data.toList=1:=by
   rcases t with e|e|e
   .rw[g.2 e]at f;cases f
   .rw[G3]at e;rw[ByteArray.toList_eq,ByteArray.toList_eq,e]at n;simp at n
   .exact e
  rw[if_neg bj,if_neg bj,x]at c;exact c
 .have x:Lib.compareBytes a.text.data.toList b.text.data.toList=0:=by
   rw[ByteArray.toList_eq,ByteArray.toList_eq,f]at n;rw[G3];simpa using n
  rw[if_neg bj,if_neg bj,x]at c;exact c
theorem Ra{a b:cd}{x y:VV}(c:a[i]? =some x)(d:b[i]? =some y):dP (a.drop i) (b.drop i)=if lW x y≠0 then lW x y else dP (a.drop (i+1)) (b.drop (i+1)):=by
 rw[drop_cons c,drop_cons d,dP]
theorem WL:br 165 byQ:=by
 refine hJ func165 ?_;rintro F m h K ⟨s,t,a,b,rfl,o,E,d⟩;refine⟨aFJ s t m h,rfl,aE HG aH,Qj s t m h K,bi,?_⟩;dsimp only[Qj,push_cast];have z:=bV.slen o;have f:=bV.slen E;have G:=o.len;refine⟨λi=>i<=a.length/\i<=b.length/\dP a b=dP (a.drop i) (b.drop i),λi=>a.length-i,⟨0,⟨aD,aD,bj⟩,MT⟩,λi⟨S,T,e⟩=>aF (λg=>?_) (λA=>?_)⟩
 .obtain⟨x,B⟩:=eF z g;obtain⟨H,I,u,J,L,rfl⟩:=bV.at o B;refine⟨H,I,J,aD,g,x,.imm L,aF (λA=>?_) (λc=>?_)⟩
  .rw[e,drop_cons B,drop_eq_nil_of_le (show b.length<=i by omega),dP]at d;exact d
  .have c:(i:Int)<(t.len:Int):=by omega
   obtain⟨y,j⟩:=eF f c;obtain⟨M,O,u,P,Q,rfl⟩:=bV.at E j;rw[Ra B j]at e;refine⟨M,O,P,aD,c,y,.imm Q,x,y,rfl,aC (λC=>?_) (λD=>⟨i+1,⟨aD,aD,?_⟩,(show a.length-(i+1)<a.length-i by omega),MT⟩)⟩
   .rw[e,if_pos (bo C)]at d;exact d
   .rw[e,if_neg (bo D)]
 .have:a.drop i=[]:=drop_eq_nil_of_le aD;rw[this]at e;refine aF (λR=>?_) (λR=>?_)
  .obtain⟨y,j⟩:=eF (l:=b) (i:=i) (n:=t.len) f aD;rw[e,drop_cons j,dP]at d;exact d
  .rw[e,drop_eq_nil_of_le aD,dP]at d;exact d
theorem BC:br 118 Hh:=by
 refine hJ func118 ?_;rintro c m h K ⟨s,t,a,b,rfl,d,e,f⟩;refine⟨cW [(165,byQ)] [] [] [] false,rfl,aE WL aH,ahZ s t m h K,bi,?_⟩;exact⟨s,t,a,b,rfl,d,e,f⟩
theorem Kt:br 72 Hh:=by
 refine hJ func72 ?_;rintro H m h K ⟨s,t,a,b,rfl,A,G,c⟩;refine⟨bcZ s t m h,rfl,aE W6 aH,Uh s t m h K,bi,?_⟩;dsimp only[Uh,push_cast];have f:=bV.slen A;have g:=bV.slen G;have I:=A.len;refine⟨λi=>i<=a.length/\i<=b.length/\dP a b=dP (a.drop i) (b.drop i),λi=>a.length-i,⟨0,⟨aD,aD,bj⟩,MT⟩,λi⟨T,U,j⟩=>aF (λe=>aF (λd=>?_) (λB=>?_)) (λB=>?_)⟩
 .obtain⟨x,o⟩:=eF f e;obtain⟨y,z⟩:=eF g d;obtain⟨J,L,u,M,O,rfl⟩:=bV.at A o;obtain⟨P,Q,u,R,S,rfl⟩:=bV.at G z;rw[Ra o z]at j;refine⟨J,L,M,aD,e,x,.imm O,P,Q,R,aD,d,y,.imm S,x,y,rfl,aC (λC=>?_) (λD=>⟨i+1,⟨aD,aD,?_⟩,(show a.length-(i+1)<a.length-i by omega),MT⟩)⟩
  .rw[j,if_pos (bo C)]at c;exact c
  .rw[j,if_neg (bo D)]
 .obtain⟨x,o⟩:=eF f e;rw[j,drop_cons o,drop_eq_nil_of_le (show b.length<=i by omega),dP]at c;exact aF (λE=>aD) (λE=>aF (λF=>c) (λF=>aD))
 .rw[j,drop_eq_nil_of_le (show a.length<=i by omega)]at c;refine aF (λE=>?_) (λE=>aF (λF=>aD) (λF=>?_))
  .obtain⟨y,z⟩:=eF (l:=b) (i:=i) (n:=t.len) g aD;rw[drop_cons z,dP]at c;exact c
  .rw[drop_eq_nil_of_le aD,dP]at c;exact c
theorem abX:br 27 btZ:=by
 refine hJ func27 ?_;rintro G m h K ⟨s,t,a,b,rfl,o,C,D⟩;refine⟨bhJ s t m h,rfl,aE Kt aH,UB s t m h K,bi,?_⟩;dsimp only[UB,push_cast];have c:=bV.slen o;have f:=bV.slen C;have H:=o.len;have E:a≠b->K (cB false) m h:=λh=>D false ⟨λe=>(by cases e),λe=>(h e).elim⟩;refine aC (λz=>E (λe=>Kh c f z (by rw[e]))) (λz=>?_);have I:=Ki c f z;refine⟨λi=>i<=a.length/\∀j:Nat,j<i->a[j]? =b[j]?,λi=>a.length-i,⟨0,⟨aD,λj X=>by omega⟩,MT⟩,λi F=>aF (λd=>?_) (λJ=>?_)⟩
 .obtain⟨x,A⟩:=eF c d;obtain⟨y,B⟩:∃y,b[i]? =some y:=eF (n:=s.len) aD d;obtain⟨L,M,u,O,P,Q⟩:=bV.at o A;obtain⟨R,S,v,T,U,V⟩:=bV.at C B;refine⟨L,M,O,aD,d,u,.imm P,R,S,T,aD,aD,v,.imm U,u,v,x,y,rfl,Q,V,aC (λg=>E (Pw A B (λe=>?_))) (λW=>?_)⟩
  .rw[jM.2 e]at g;cases g
  .exact⟨i+1,⟨aD,yA A B (jM.1 (bo W)) F.2⟩,(show a.length-(i+1)<a.length-i by omega),MT⟩
 .exact D true ⟨λ_=>Bj I aD F.2,λ_=>rfl⟩
structure EY(h:PH)(P:cd->Prop) where
 s:Sl
 l:cd
 ok:cA h s l
 pr_:P l
def EY.pr{h:PH}{P:cd->Prop}(x:EY h P):Sl×cd:=(x.s,x.l)
def Ad(h:PH){R:cd->Prop}(x:EY h R):Value:=.slice x.s.a x.s.len x.s.cap
theorem Le{w w':World}(e:w'.tape=w.tape)(f:w'.os=w.os)(g:w'.output=w.output)(n:w.drawn<=w'.drawn)(o:w.heap.size<=w'.heap.size)(j:∀b,b<w.heap.size->w'.heap[b]? =w.heap[b]?):
 ∃q t,w'=Sort.grow (w.drewN q) t:=by
 refine⟨w'.drawn-w.drawn,w'.heap.extract w.heap.size w'.heap.size,?_⟩;obtain⟨u,C,D,E,F⟩:=w';obtain⟨c,x,y,z,A⟩:=w;dsimp only at e f g n o j;subst e f g;unfold Sort.grow World.drewN;dsimp only;congr 1
 .apply Array.ext_getElem?;intro k;rw[Array.getElem?_append];by_cases d:k<c.size
  .rw[if_pos d];exact j k d
  .rw[if_neg d,Array.getElem?_extract];by_cases B:k<u.size
   .rw[if_pos aD];congr 1;omega
   .rw[if_neg aD,Array.getElem?_eq_none aD]
 .omega
structure bxJ(P:Program)(R:cd->Prop)(g:Nat)(cb:bw)(m2:MH)(h:PH)(cf:cd->cd->Int):Prop where
 ex:∃S,Sound P g S/\∀x y:EY h R,S ([cS x.s,cS y.s]++cb.map .val) m2 h (λr m' h'=>r=cI (cf x.l y.l)/\m'=m2/\h'=h)
theorem aPJ{P:Program}{R:cd->Prop}{g:Nat}{cb:bw}{m2:MH}{h:PH}[Inhabited (EY h R)]{cf:cd->cd->Int}(E:bxJ P R g cb m2 h cf){w:World}{blk off size:Nat}
 (U:∀b o v,h b o=some v->w.cell? ⟨b,o,none⟩=some v/\b≠blk)(V:∀b o,m2 b=some o->w.heap[b]? =some o/\b≠blk)(X:∀b o,m2 b=some o->∀i,h b i=none):
 CmpLays1 P g cb.toArray (Ad h (R:=R)) (λx y=>cf x.l y.l) blk off size w:=by
 obtain⟨S,M,Y⟩:=E.ex;intro F O G Z x y;obtain⟨W,Q⟩:∃W,Go.Proofs.sortWorld (Ad h (R:=R)) w blk off F G O=W:=⟨_,rfl⟩
 rw[Q]
 have D:∀b,b<w.heap.size->b≠blk->W.heap[b]? =w.heap[b]? :=λb n H=>by
  rw[<-Q];show((Sort.putRow (Ad h) (Sort.ahead w F) blk off G).heap++O)[b]? =_;have M:(Sort.putRow (Ad h) (Sort.ahead w F) blk off G).heap.size=w.heap.size:=by unfold Sort.putRow Sort.mapBlock;simp[Sort.ahead]
  rw[Array.getElem?_append_left aD];unfold Sort.putRow Sort.mapBlock;simp only[Array.getElem?_modify,if_neg (Ne.symm H)];rfl
 have z:∀(l:bw)(w:World),CY w (l.map .val) l:=λl w=>by
  induction l with
  |nil=>trivial
  |cons a l ih=>exact⟨rfl,ih⟩
 have A:∀(l:bw)(i:Nat)(c:CV)(u:Value)(b:Nat),(l.map CV.val)[i]? =some c->iC c u=some b->False:=λl i c u b f n=>by
  rw[getElem?_map]at f;cases e:l[i]? with
  |none=>rw[e]at f;cases f
  |some v=>rw[e]at f;simp at f;subst f;simp[iC]at n
 have T:[cS x.s,cS y.s]++cb.map .val=([Ad h x,Ad h y]++cb).map .val:=by simp[cS,Ad]
 have t:Bd W m2 h ([cS x.s,cS y.s]++cb.map .val) ([Ad h x,Ad h y]++cb):=by
  rw[T];refine⟨z _ _,?_,?_,X,λi j c d u v b f _ _ _ n _=>(A _ i c u b f n).elim,λi c u b f _ n=>(A _ i c u b f n).elim⟩
  .intro b o v hv;obtain⟨B,I⟩:=U b o v hv;rw[World.cell?_of_block (w:=w) (w':=W) (a:=⟨b,o,none⟩) (D b (World.block_lt_of_cell? w ⟨b,o,none⟩ B) I)];exact B
  .intro b o n;obtain⟨B,I⟩:=V b o n;rw[D b (Array.getElem?_eq_some_iff.1 B).1 I];exact B
 have:=M.2 _ _ m2 h W _ (Y x y) t;have e2:(([Ad h x,Ad h y]++cb).toArray:Array Value)= #[Ad h x,Ad h y]++cb.toArray:=bj
 rw[e2]at this;refine this.mono ?_;rintro e w' ⟨r,u,m',h',rfl,⟨rfl,rfl,rfl⟩,J,C,_⟩;have hu:u= .int .i64 (cf x.l y.l):=J;subst hu;refine⟨rfl,Le C.tape C.os C.output C.drawn C.size (λb n=>?_)⟩;cases L:m' b with
 |none=>
  refine C.frame b n ?_;rintro(B|⟨i,c,u,f,_,E⟩)
  .exact B L
  .rw[T]at f;exact A _ i c u b f E
 |some o=>rw[C.msat b o L];exact(t.msat b o L).symm
theorem No{α:Type}[Inhabited α]{d c:Array α}(h:Sort.PermIn 0 d.size d c):c.toList.Perm d.toList:=by
 obtain⟨f,_,e⟩:=h;have g:d.extract 0 d.size=d:=bj
 have j:c.extract 0 d.size=c:=by rw[<-f];simp
 rw[g,j]at e;exact e
theorem Py{h:PH}{R:cd->Prop}:∀(ps:cz),(∀p∈ps,cA h p.1 p.2)->(∀p∈ps,R p.2)->∃c:List (EY h R),c.map EY.pr=ps
 |[],_,_=>⟨[],rfl⟩
 |p::ps,f,g=>by
  obtain⟨c,d⟩:=Py (R:=R) ps (λq e=>f q (mem_cons_of_mem _ e)) (λq e=>g q (mem_cons_of_mem _ e));exact⟨⟨p.1,p.2,f p (mem_cons_self ..),g p (mem_cons_self ..)⟩::c,by rw[map_cons,d];rfl⟩
theorem Ph{R:cd->Prop}{w:World}{m:MH}{h:PH}{s:Sl}{g:Nat}{cb:bw}{ps:cz}{cf:cd->cd->Int}{m2:MH}{z:Value}(a4:z= .func (.func g) #[] cb.toArray)
 (E:Bd w m h [cS s,.val z] [s.val,z])(hg:∃V,Tryz.prog.funcs[g]? =some V/\V.body.isSome=true/\(V.name== "runtime.NumGoroutine")=false)(hr:eC m s 100 1 (ps.map λp=>eS p.1))(hv:∀p∈ps,cA h p.1 p.2)(hR:∀p∈ps,R p.2)(b5:ps.length<=140737488355328)
 (hO:Sort.SWO (Go.Proofs.ltOf (fun(x y:EY h R)=>cf x.l y.l)))(hc:bxJ Tryz.prog R g cb m2 h cf)(M:∀b o,m2 b=some o->m b=some o/\∀i,s.a≠some ⟨b,i,none⟩)
 {K:bu}(hK:∀(O:cz)(m':MH),O.Perm ps->O.Pairwise (λp q=>¬cf q.2 p.2<0)->eC m' s 100 1 (O.map λp=>eS p.1)->(∀b,(∀i,s.a≠some ⟨b,i,none⟩)->m' b=m b)->K (.tup []) m' h):
 Calls Tryz.prog 171 #[s.val,z] w λe w'=>∃r u m' h',e= .returned u/\K r m' h'/\FW w' r u/\Ai ⟨w,xG m [cS s,.val z] [s.val,z],h,[]⟩ m' h' w'/\(∀b,iC r u=some b->(w.heap.size<=b\/xG m [cS s,.val z] [s.val,z] b)/\m' b=none/\∀i,h' b i=none):=by
 subst a4;by_cases G:ps=[]
 .subst G;have a5:s.len=0:=by have:=eC.slen hr;simpa using this
  have:=AnyF.slices_SortFunc_none Tryz.sortN s.a s.cap (.func (.func g) #[] cb.toArray) w;rw[show s.val= .slice s.a 0 s.cap by rw[<-a5];rfl];refine Calls.mono (show Calls Tryz.prog 171 #[.slice s.a 0 s.cap,.func (.func g) #[] cb.toArray] w _ from this) ?_;rintro e w' ⟨rfl,rfl⟩;exact⟨.tup [],.tuple #[],m,h,rfl,hK [] m (.refl _) .nil hr (λ_ _=>rfl),⟨#[],rfl,rfl⟩,⟨rfl,rfl,rfl,Nat.le_refl _,Nat.le_refl _,λ_ _ _=>rfl,E.hsat,E.msat,E.disj,λ_ _ _ e=>e,λ_ _ _=>rfl,λb o W=>.inr (.inl (by rw[show m b=some o from W];simp))⟩,λb W=>by simp[iC]at W⟩
 obtain⟨p0,X⟩:=exists_mem_of_ne_nil _ G
 haveI:Inhabited (EY h R):=⟨⟨p0.1,p0.2,hv p0 X,hR p0 X⟩⟩
 rcases hr.ex with⟨rfl,hx⟩|⟨b,A,B,rfl,Y,h0,h1,h2,h3⟩
 .exact(G (bo hx)).elim
 .simp only[length_map]at h0 h3;have I:=E.msat b _ Y;have Z:=(Array.getElem?_eq_some_iff.1 I).1;obtain⟨C,J⟩:∃C:List (EY h R),C.map EY.pr=ps:=Py ps hv hR;have P:C.length=ps.length:=by rw[<-J];simp
  have a':∀j,(t:j<C.length)->B[j]? =some (Ad h C[j]):=λj t=>by
   have:(B.toList.take (ps.length*1))[j]? =((ps.map λp=>eS p.1).flatten)[j]? :=by rw[h3]
   rw[getElem?_take,if_pos aD,Array.getElem?_toList]at this;rw[this, <-J]
   have hf:((C.map EY.pr).map λp:Sl×cd=>eS p.1).flatten=C.map (Ad h):=by
    clear J P t this
    induction C with
    |nil=>rfl
    |cons a l ih=>simp only[map_cons,flatten_cons,ih];rfl
   rw[hf];simp[t]
  have a6:B.size=A:=bo h2
  have hH:Sort.Holds (Ad h) w b 0 C.toArray:=by
   intro j t;have t:j<C.length:=bo t
   refine⟨?_,?_⟩
   .rw[cell_of_heap I,Array.getElem?_toList,Nat.zero_add,a' j t,getElem!_pos _ j (bo t)];simp
   .unfold World.frozen?;rw[I];simp
  obtain⟨V,a7,L,a8⟩:=hg
  have eg:∀args w,(callFunc g args).run Tryz.prog w= .ok (.enter g args) w:=λargs w=>by
   have a9:¬V.body=none:=by intro e;rw[e]at L;cases L
   have b0:¬V.name= "runtime.NumGoroutine" :=bo a8
   simp[callFunc,program,Sem.run,a7,b0,a9]
  have a0:=aPJ (blk:=b) (off:=0) (size:=C.toArray.size) hc (w:=w) (λd o v D=>⟨E.hsat d o v D,λe=>by rw[e,E.disj b _ Y o]at D;cases D⟩) (λd o c=>⟨E.msat d o (M d o c).1,λe=>(M d o c).2 0 (by rw[e])⟩) (λd o c=>E.disj d o (M d o c).1);have Q:=Any.slices_SortFunc Tryz.sortF (Ad h) (λ_=>rfl) (λx y=>cf x.l y.l) hO g cb.toArray b 0 A C.toArray w eg a0 hH Z (by simp;omega);have e3:(Sl.val ⟨some ⟨b,0,none⟩,(ps.map λp=>eS p.1).length,A⟩)= .slice (some ⟨b,0,none⟩) C.toArray.size A:=by simp[Sl.val,P]
  rw[e3];refine Calls.mono Q ?_;rintro e w' ⟨rfl,f,n,os,a1,b1,rfl⟩;have S:f.size=C.length:=by have:=a1.1;simpa using this
  have T:=No a1;obtain⟨m',F⟩:∃m',iV m m' b (.cells (Sort.putCells (Ad h) 0 f B) 100 (0,0)):=⟨λd=>if d=b then some (.cells (Sort.putCells (Ad h) 0 f B) 100 (0,0))else m d,bj,λd c=>by simp[c]⟩
  have b2:(Sort.putRow (Ad h) (Sort.ahead w n) b 0 f).heap.size=w.heap.size:=by unfold Sort.putRow Sort.mapBlock;simp[Sort.ahead]
  have a2:(Go.Proofs.sortWorld (Ad h) w b 0 n f os).heap[b]? =some (.cells (Sort.putCells (Ad h) 0 f B) 100 (0,0)):=by
   show((Sort.putRow (Ad h) (Sort.ahead w n) b 0 f).heap++os)[b]? =_;rw[Array.getElem?_append_left aD];unfold Sort.putRow Sort.mapBlock;simp only[Array.getElem?_modify,if_true];show Option.map _ w.heap[b]? =_;rw[I];rfl
  have H:∀d,d<w.heap.size->d≠b->(Go.Proofs.sortWorld (Ad h) w b 0 n f os).heap[d]? =w.heap[d]? :=λd c U=>by
   show((Sort.putRow (Ad h) (Sort.ahead w n) b 0 f).heap++os)[d]? =_;rw[Array.getElem?_append_left aD];unfold Sort.putRow Sort.mapBlock;simp only[Array.getElem?_modify,if_neg (Ne.symm U)];rfl
  have hE:xG m [cS ⟨some ⟨b,0,none⟩,(ps.map λp=>eS p.1).length,A⟩,.val (.func (.func g) #[] cb.toArray)] [.slice (some ⟨b,0,none⟩) C.toArray.size A,.func (.func g) #[] cb.toArray] b:=.inl (by rw[Y];simp);refine⟨.tup [],.tuple #[],m',h,rfl,hK (f.toList.map EY.pr) m' ?_ ?_ ?_ (λd c=>F.other d (λe=>c 0 (by rw[e]))),⟨#[],rfl,rfl⟩,⟨rfl,rfl,rfl,Nat.le_add_right _ _,?_,?_,?_,?_,?_,λ_ _ _ e=>e,λ_ _ _=>rfl,?_⟩,λb W=>by simp[iC]at W⟩
  .have:=T.map (λx:EY h R=>x.pr);rw[<-J];exact this
  .rw[pairwise_map,pairwise_iff_getElem];intro i j hi t b3 a3;have hi:i<f.size:=bo hi
   have t:j<f.size:=bo t
   have:=b1 i j (Nat.zero_le _) b3 (by simp;omega);rw[getElem!_pos f i hi,getElem!_pos f j t]at this;unfold Go.Proofs.ltOf at this;simp only[decide_eq_false_iff_not]at this;simp only[Array.getElem_toList]at a3;exact this a3
  .refine⟨⟨λe he=>?_,λe he u hu=>?_⟩,.inr ⟨b,A,_,?_,F.at_,by simp;omega,h1,?_,?_⟩⟩
   .obtain⟨x,_,rfl⟩:=mem_map.1 he;rfl
   .obtain⟨x,_,rfl⟩:=mem_map.1 he;have:u= .slice x.1.a x.1.len x.1.cap:=by simpa[eS]using hu
    rw[this];rfl
   .simp[S,P]
   .simp[Sort.putCells,a6]
   .apply ext_getElem?;intro j
    have hf:((f.toList.map EY.pr).map λp:Sl×cd=>eS p.1).flatten=f.toList.map (Ad h):=by
     generalize f.toList=l
     induction l with
     |nil=>rfl
     |cons a l ih=>simp only[map_cons,flatten_cons,ih];rfl
    rw[hf,getElem?_take];simp only[length_map,Array.length_toList,Nat.mul_one];by_cases t:j<f.size
    .rw[if_pos t,Array.getElem?_toList,getElem?_map,Array.getElem?_toList,Array.getElem?_eq_getElem t];have b4:j<B.size:=by omega
     simp only[Sort.putCells,Array.getElem?_mapIdx,Array.getElem?_eq_getElem b4,Option.map_some,Nat.zero_le,Nat.zero_add,Nat.sub_zero,true_and];rw[if_pos t,getElem!_pos f j t]
    .rw[if_neg t,getElem?_eq_none (by simp;omega)]
  .show w.heap.size<=(Sort.grow _ os).heap.size;rw[Sort.size_grow,b2];omega
  .intro d c hn;exact H d c (λe=>hn (e▸hE))
  .intro d o v D;have U:d≠b:=λe=>by rw[e,E.disj b _ Y o]at D;cases D
   have h5:=E.hsat d o v D;rw[World.cell?_of_block (w:=w) (a:=⟨d,o,none⟩) (H d (World.block_lt_of_cell? w ⟨d,o,none⟩ h5) U)];exact h5
  .intro d o c;by_cases e:d=b
   .subst e;rw[F.at_]at c;cases c;exact a2
   .rw[F.other d e]at c;have h5:=E.msat d o c;rw[H d (Array.getElem?_eq_some_iff.1 h5).1 e];exact h5
  .intro d o c i;by_cases e:d=b
   .subst e;exact E.disj d _ Y i
   .rw[F.other d e]at c;exact E.disj d o c i
  .intro d o c;by_cases e:d=b
   .subst e;exact .inr hE
   .rw[F.other d e]at c;exact .inr (.inl (by rw[c];simp))
end Go.Ps
namespace Go.Vc
open Go List
theorem eC.rd{m:MH}{h:PH}{s:Sl}{E sz:Nat}{xs:List bw}(r:eC m s E sz xs){i:Nat}{e:bw}(d:xs[i]? =some e):∃b,s.a=some ⟨b,0,none⟩/\aU m h b (i*sz) e:=by
 rcases r.ex with⟨_,rfl⟩|⟨b,u,g,rfl,y,D,F,G,z⟩
 .simp at d
 .refine⟨b,rfl,.lent g E (0,0) y ?_⟩;have A:=(List.getElem?_eq_some_iff.1 d).1;have j:=r.rows.len e (mem_of_getElem? d)
  have n:∀(l:List bw)(k:Nat),(∀x∈l,x.length=sz)->l[k]? =some e->(l.flatten.drop (k*sz)).take sz=e:=by
   intro l
   induction l with
   |nil=>intro k _ c;simp at c
   |cons a l B=>
    intro k t c;have o:=t a (mem_cons_self ..);cases k with
    |zero=>
     simp at c;subst c;rw[flatten_cons,Nat.zero_mul,drop_zero, <-o,take_left]
    |succ k=>
     rw[flatten_cons,Nat.succ_mul,Nat.add_comm, <-drop_drop, <-o,drop_left,o];exact B k (λx C=>t x (mem_cons_of_mem _ C)) (bo c)
  have f:=n xs i r.rows.len d;rw[j];rw[<-z]at f;rw[drop_take,take_take]at f
  have:min sz (xs.length*sz-i*sz)=sz:=by
   rw[<-Nat.sub_mul];have:1*sz<=(xs.length-i)*sz:=Nat.mul_le_mul_right _ aD;omega
  rw[this]at f;exact f
theorem sM.sub{m m':MH}{h:PH}{s:Sl}{sz:Nat}{c:List bw}(r:sM m h s sz c)(d:∀b o,m b=some o->m' b=some o):sM m' h s sz c:=by
 rcases r with r|⟨b,o,e,E,f,g,j,n,t⟩
 .exact .imm r
 .exact .lent b o e E f g j (d _ _ n) t
end Go.Vc
namespace Go.Ps
open Go Go.Vc Go.Proofs List Tryz
variable{K:bu}{m:MH}{h:PH}{s:iJ}{ps:bt}{cb:Nat}{sc:cN}{v:QV}{p:Pred}{l:bt}{i:Nat}{N:Nat}{m':MH}{h':PH}{co:bt}{gr:bt}{od:ca}{ta:Int}{li:Int}{xs:List bw}{sz:Nat}{ks:List bt}{rs:bt}{r:Sl}{a:bt}{b:Nat}
structure Rr{α:Type}(c:α->α->Int):Prop where
 anti:∀x y,c x y= -c y x
 trans:∀x y z,c x y<=0->c y z<=0->c x z<=0
theorem Rr.zero{α:Type}{c:α->α->Int}(h:Rr c){x y z:α}(d:c x y<=0)(e:c y z<=0)(f:c x z=0):c x y=0/\c y z=0:=by
 have g:=h.anti x z;have j:=h.anti x y;have n:=h.anti y z;have o:=h.trans z x y aD d;have t:=h.trans y z x e aD;omega
theorem R3{c d:Int}(h:(if c≠0 then c else d)<=0):c<=0:=by
 split at h
 .exact h
 .omega
theorem Rr.lex{α:Type}{c d:α->α->Int}(h:Rr c)(k:Rr d):Rr (λx y=>if c x y≠0 then c x y else d x y):=by
 refine⟨λx y=>?_,λx y z f g=>?_⟩
 .have a:=h.anti x y;have b:=k.anti x y;show(if c x y≠0 then c x y else d x y)= -(if c y x≠0 then c y x else d y x)
  by_cases e:c x y=0
  .rw[if_neg (bo e),if_neg (by have:c y x=0:=by omega
                               simpa using this)];exact b
  .rw[if_pos e,if_pos aD];exact a
 .have j:c x y<=0:=R3 f;have n:c y z<=0:=R3 g;have o:=h.trans x y z j n;show(if c x z≠0 then c x z else d x z)<=0;by_cases e:c x z=0
  .obtain⟨t,u⟩:=h.zero j n e;have f:(if c x y≠0 then c x y else d x y)<=0:=f;have g:(if c y z≠0 then c y z else d y z)<=0:=g;rw[if_neg (bo t)]at f;rw[if_neg (bo u)]at g;rw[if_neg (bo e)];exact k.trans x y z f g
  .rw[if_pos e];exact o
theorem Rr.of{α β:Type}{c:α->α->Int}(h:Rr c)(f:β->α):Rr (λx y=>c (f x) (f y)):=⟨λx y=>h.anti _ _,λx y z=>h.trans _ _ _⟩
theorem U4:Rr BN:=by
 refine⟨λx y=>?_,λx y z=>?_⟩
 .unfold BN;split<;>split<;>(first|omega|(split<;>omega))
 .unfold BN;intro c d;split at c<;>split at d<;>(repeat' split at*)<;>omega
theorem Rb:∀a b:cn,Lib.compareBytes a b= -Lib.compareBytes b a
 |[],[]=>rfl
 |[],_::_=>rfl
 |_::_,[]=>rfl
 |a::l,b::k=>by
  simp only[Lib.compareBytes];by_cases c:a<b
  .have d:¬b<a:=λh=>absurd (UInt8.lt_trans c h) (UInt8.lt_irrefl _);simp[c,d]
  .by_cases d:b<a
   .simp[c,d]
   .simp only[c,d,if_false];exact Rb l k
theorem Ov:∀a b c:cn,Lib.compareBytes a b<=0->Lib.compareBytes b c<=0->Lib.compareBytes a c<=0
 |[],_,[],_,_=>by simp[Lib.compareBytes]
 |[],_,_::_,_,_=>by simp[Lib.compareBytes]
 |_::_,[],_,f,_=>by simp[Lib.compareBytes]at f
 |_::_,_::_,[],_,d=>by simp[Lib.compareBytes]at d
 |a::l,b::k,c::q,f,d=>by
  simp only[Lib.compareBytes]at f d⊢
  by_cases j:a<c
  .simp[j]
  .by_cases g:a<b
   .have t:¬b<c:=λh=>j (UInt8.lt_trans g h);have cb:c<b:=UInt8.lt_of_le_of_lt (UInt8.not_lt.1 j) g;simp[t,cb]at d
   .by_cases n:b<a
    .simp[g,n]at f
    .have e:a=b:=UInt8.le_antisymm (UInt8.not_lt.1 n) (UInt8.not_lt.1 g);subst e;simp only[g,j,if_false]at f d⊢
     by_cases o:c<a
     .simp[o]at d
     .simp only[o,if_false]at d⊢
      exact Ov l k q f d
theorem JC:Rr lW:=by
 have c:Rr O8:=⟨λx y=>Rb _ _,λx y z=>Ov _ _ _⟩
 exact(U4.of VV.kind).lex ((U4.of VV.int).lex (c.of VV.text))
theorem mX:∀a b,dP a b= -dP b a
 |[],[]=>rfl
 |[],_::_=>rfl
 |_::_,[]=>rfl
 |x::l,y::k=>by
  have a:=JC.anti x y;simp only[dP];by_cases e:lW x y=0
  .rw[if_neg (bo e),if_neg (by have:lW y x=0:=by omega
                               simpa using this)];exact mX l k
  .rw[if_pos e,if_pos aD];exact a
theorem BD:∀a b c,dP a b<=0->dP b c<=0->dP a c<=0
 |[],_,[],_,_=>by simp[dP]
 |[],_,_::_,_,_=>by simp[dP]
 |_::_,[],_,d,_=>by simp[dP]at d
 |_::_,_::_,[],_,f=>by simp[dP]at f
 |x::l,y::k,z::q,d,f=>by
  simp only[dP]at d f⊢
  have g:lW x y<=0:=R3 d;have j:lW y z<=0:=R3 f;have n:=JC.trans x y z g j;by_cases e:lW x z=0
  .obtain⟨o,t⟩:=JC.zero g j e;rw[if_neg (bo o)]at d;rw[if_neg (bo t)]at f;rw[if_neg (bo e)];exact BD l k q d f
  .rw[if_pos e];exact n
theorem FJ:Rr dP:=⟨mX,BD⟩
theorem Rr.swo{R:cd->Prop}{cf:cd->cd->Int}(c:Rr cf):Sort.SWO (Go.Proofs.ltOf (fun(x y:EY h R)=>cf x.l y.l)):=by
 refine⟨λx=>?_,λx y z d f=>?_,λx y z d f=>?_⟩
 .have:=c.anti x.l x.l;unfold Go.Proofs.ltOf;simp;omega
 .unfold Go.Proofs.ltOf at*
  simp only[decide_eq_true_eq]at*
  have t:=c.trans x.l y.l z.l aD aD;by_cases e:cf x.l z.l=0
  .have:=c.zero (x:=x.l) (y:=y.l) (z:=z.l) aD aD e;omega
  .omega
 .unfold Go.Proofs.ltOf at*
  simp only[decide_eq_false_iff_not]at*
  have g:=c.anti x.l y.l;have j:=c.anti y.l z.l;have n:=c.anti x.l z.l;have t:=c.trans z.l y.l x.l aD aD;omega
def Kp(x:cd):bx->bx
 |[]=>[x]
 |y::l=>if dP x y<0 then x::y::l else if dP x y=0 then y::l else y::Kp x l
def Dq(l:bx):bx:=l.foldr Kp []
abbrev j9(l:bx):Prop:=l.Pairwise λx y=>dP x y<0
theorem NO{x z:cd}:∀{l:bx},z∈Kp x l↔z=x\/z∈l
 |[]=>by simp[Kp]
 |y::l=>by
  simp only[Kp];split
  .simp
  .split
   .rename_i _ e;have:=jM.1 e;subst this;simp
   .simp only[mem_cons,NO (l:=l)];exact⟨λh=>by rcases h with h|h|h<;>simp[h],λh=>by rcases h with h|h|h<;>simp[h]⟩
theorem LI{x:cd}:∀{l:bx},j9 l->j9 (Kp x l)
 |[],_=>by simp[Kp]
 |y::l,h=>by
  obtain⟨d,g⟩:=pairwise_cons.1 h;simp only[Kp];split
  .rename_i f;refine pairwise_cons.2 ⟨λz c=>?_,h⟩;rcases mem_cons.1 c with rfl|c
   .exact f
   .have t:=BD x y z aD (by have:=d z c;omega);by_cases e:dP x z=0
    .have:=FJ.zero (x:=x) (y:=y) (z:=z) aD (by have:=d z c;omega) e;omega
    .omega
  .split
   .exact h
   .rename_i j n;refine pairwise_cons.2 ⟨λz c=>?_,LI g⟩;rcases NO.1 c with rfl|c
    .have:=mX z y;omega
    .exact d z c
theorem Ff{x:cd}:∀{l:bx},x∈Dq l↔x∈l
 |[]=>by simp[Dq]
 |y::l=>by
  show x∈Kp y (Dq l)↔_;rw[NO,Ff,mem_cons]
theorem Fe:∀(l:bx),j9 (Dq l)
 |[]=>.nil
 |_::l=>LI (Fe l)
theorem M5:∀{a b:bx},j9 a->j9 b->(∀x,x∈a↔x∈b)->a=b
 |[],[],_,_,_=>rfl
 |[],y::_,_,_,h=>by have:=(h y).2 bj;simp at this
 |x::_,[],_,_,h=>by have:=(h x).1 bj;simp at this
 |x::a,y::b,n,o,h=>by
  obtain⟨g,t⟩:=pairwise_cons.1 n;obtain⟨j,u⟩:=pairwise_cons.1 o;have c:∀z,¬dP z z<0:=λz=>by have:=mX z z;omega
  have e:x=y:=by
   rcases mem_cons.1 ((h x).1 bj)with e|d
   .exact e
   .rcases mem_cons.1 ((h y).2 bj)with e|A
    .exact e.symm
    .have B:=g y A;have C:=j x d;have:=mX x y;omega
  subst e;congr 1;refine M5 t u (λz=>⟨λf=>?_,λf=>?_⟩)
  .rcases mem_cons.1 ((h z).1 (mem_cons_of_mem _ f))with rfl|d
   .exact absurd (g z f) (c z)
   .exact d
  .rcases mem_cons.1 ((h z).2 (mem_cons_of_mem _ f))with rfl|d
   .exact absurd (j z f) (c z)
   .exact d
theorem X4{l r:bx}(c:j9 r)(d:∀x,x∈r↔x∈l):r=Dq l:=M5 c (Fe l) λx=>by rw[d,Ff]
def Y2:Vc.Spec:=λc m h K=>∃(s:Sl)(d:ce),c=[cS s]/\sM m h s 1 (d.map eS)/\d.length<=502633886983/\∀e m',eC m' e 100 1 (d.map eS)->(∀b o,m b=some o->m' b=some o)->(∀b i,e.a=some ⟨b,i,none⟩->m b=none)->K (cS e) m' h
def aTQ:Vc.Spec:=λd m h K=>∃(s:Sl)(ps:cz),d=[cS s,.val (.func (.func 118) #[] #[])]/\eC m s 100 1 (ps.map λp=>eS p.1)/\(∀p∈ps,cA h p.1 p.2)/\ps.length<=140737488355328/\
 ∀(c:cz)(m':MH),c.Perm ps->c.Pairwise (λp q=>¬dP q.2 p.2<0)->eC m' s 100 1 (c.map λp=>eS p.1)->(∀b,(∀i,s.a≠some ⟨b,i,none⟩)->m' b=m b)->K (.tup []) m' h
structure gS(h:PH)(us:ce)(rs:bx):Prop where
 len:us.length=rs.length
 at_:∀(j:Nat) x,rs[j]? =some x->∃u,us[j]? =some u/\cA h u x
def bPZ:Vc.Spec:=λc m h K=>∃s d l,c=[cS s]/\sM m h s 1 (d.map eS)/\gS h d l/\l.length<=502633886983/\∀e h',PH.le h h'->Rows h' e (Dq l)->K (cS e) m h'
noncomputable def aLQ:Ctx:=
 cW [(170,Y2),(171,aTQ),(118,Hh)] [(5,{A:=Nat×ce×Sl×MH×PH,st:=λ⟨i,c,s,m,h⟩=>bY 38 39 [(3,sv s),(4,.at (.lst 35)),(11,sv s),(12,iv s.len),(13,iv i)] [(35,.lst 100 1 (c.map eS))] m h})] [] [] false
def Oe(n c:Nat)(m:MH)(h:PH)(K:bu):Prop:=
  K CZ m h
theorem aFZ(n c:Nat)(m:MH)(h:PH)(K:bu):Oe n c m h K=(sI (uC [] [] [] [] [68,1068] [] false) Tryz.f170 (cL Tryz.f170) (entry Tryz.f170.ntmps [.val (.slice none n c)] m h) K):=bi
abbrev oD(a:Sl->MH->Prop):Prop:=∀(x:Sl)(c:MH),a x c
abbrev DE(a:Prop)(b:(List bw)->Prop):Prop:=a->∃(x:List bw),b x
attribute [push_cast] oD DE
def Od(a:Addr)(n c:Nat)(m:MH)(h:PH)(K:bu):Prop:=
  oD (λs d=>DE (pM m d h s 100 1 []) (λx=>eC d (Sl.mk s.a s.len s.cap) 100 1 x/\∃(y:List bw),aA (eW 1 y) (sM d h (Sl.mk (Option.some a) n c) 1 y) (aA (tS x y 24) (oS x y) (oD (λe f=>jP d f (Sl.mk s.a s.len s.cap) e 100 1 (x++y)->K (dN e) f h)))))
theorem aFX(a:Addr)(n c:Nat)(m:MH)(h:PH)(K:bu):Od a n c m h K=(sI (uC [] [] [] [] [68,1068] [] false) Tryz.f170 (cL Tryz.f170) (entry Tryz.f170.ntmps [.val (.slice (some a) n c)] m h) K):=bi
abbrev Iy(a:MH)(b:Sl)(c:Nat)(d:cz):Prop:=eC a b 100 c (List.map (fun(x:Sl×cd)=>aY x.1) d)
noncomputable abbrev kF(a:Nat×ce×Sl×MH×PH):Sl:=a.2.2.1
noncomputable abbrev NC(a:ce):Option Go.Vc.Own:=cH 100 1 (List.map eS a)
abbrev AH(a:ce):Prop:=cH 100 1 []=NC a
noncomputable abbrev qH(a:Nat×ce×Sl×MH×PH):Nat->Nat->Option Value:=a.2.2.2.2
noncomputable abbrev Eu(a:List bw):List bw:=[]++a
noncomputable abbrev GB(a:Nat×ce×Sl×MH×PH):List bw:=fP a.2.1
abbrev qL(a:Nat)(b:List bw)(c:ce):Prop:=cH 100 a b=NC c
abbrev fO(a b:MH×PH):Prop:=cV a.1 b
abbrev qM(a b:ce):Prop:=NC a=NC b
attribute [push_cast] Iy kF NC AH qH Eu GB qL fO qM
def KO(s:Sl)(m:MH)(h:PH)(K:bu):Prop:=
  ∃(D:Sl)(u:ce),aI (iN s=iN D) (sM m h D 1 (fP u)) (u.length<=502633886983) (∀(f:Sl)(n:MH),eC n f 100 1 (fP u)->(∀(b:Nat)(o:Obj),m b=Option.some o->n b=Option.some o)->(∀(b i:Nat),aX f.a b i->m b=Option.none)->∃(z:Sl)(p:cz),aA (bK (dN f) (Bu 118 xL)=bK (dN z) (Bu 118 xL)) (Iy n z 1 p) (aA (∀(e:Sl×cd),List.Mem e p->cA h e.1 e.2) (oL p.length) (∀(e:cz)(B:MH),List.Perm e p->List.Pairwise (fun(H:Sl×cd)=>fun(q:Sl×cd)=>¬(dP q.2 H.2<0)) e->Iy B z 1 e->(∀(b:Nat),(∀(i:Nat),zK (aX z.a b i))->B b=n b)->∃(I:Nat×ce×Sl×MH×PH->Prop)(g:Nat×ce×Sl×MH×PH->Nat),(∃(x:Nat×ce×Sl×MH×PH),aA (I x)
 (bH f (kF x)) (aA (eL 35) (bH f (kF x)) (aA (cF f (kF x)) (bF x.1) (aA (AH x.2.1) (cV B x.2.2.2) (bD h (qH x))))))/\∀(x:Nat×ce×Sl×MH×PH),I x->bA (↑x.1:Int) (aG (kF x)) (aW (λb o=>aI (aX (kF x).a b o) (0<=(↑x.1:Int)) ((↑x.1:Int)<aG (kF x)) (∃(y:Sl),aU x.2.2.2.1 (qH x) b (bN o x.1 1) (aY y)/\dZ (↑x.1:Int) 0 (∃(d:List bw),aA (eW 3 d) (dK (qH x) (Sl.mk y.a y.len y.cap) 3 d) (aA (iF (0+d.length) 32) (oL (0+d.length)) (cG (qH x) 3 (Eu d) (λA C=>jZ (GB x) 24 (∃(c:Nat×ce×Sl×MH×PH),aA (I c) (g c<g x) (aA (bH (kF x) (kF c)) (eL 35) (aA (bH (kF x) (kF c)) (cF (kF x) (kF c)) (aA (fU (bG x.1 1)=bP c.1)
 (qL 1 (fK (GB x) (aY A)) c.2.1) (bS (fO x.2.2.2 c.2.2.2) C (qH c)))))))))) (aW (λE F=>aI (aX (kF x).a E F) (0<=iE ((↑x.1:Int)-1)) (iE ((↑x.1:Int)-1)<aG (kF x)) (∃(d:Sl),aU x.2.2.2.1 (qH x) E (gC F (iE ((↑x.1:Int)-1)) 1) (aY d)/\∃(A:Sl),oK (λt a=>∃(G:cd),aI (dX d y=dX A t) (cA (qH x) A a) (cA (qH x) t G) (dC (dP a G) 0 (∃(j:List bw),aA (eW 3 j) (dK (qH x) (Sl.mk y.a y.len y.cap) 3 j) (aA (iF (0+j.length) 32) (oL (0+j.length)) (cG (qH x) 3 (Eu j) (λJ C=>jZ (GB x) 24 (∃(c:Nat×ce×Sl×MH×PH),aA (I c) (g c<g x) (aA (bH (kF x) (kF c)) (eL 35) (aA (bH (kF x) (kF c)) (cF (kF x) (kF c))
 (aA (fU (bG x.1 1)=bP c.1) (qL 1 (fK (GB x) (aY J)) c.2.1) (bS (fO x.2.2.2 c.2.2.2) C (qH c)))))))))) (∃(c:Nat×ce×Sl×MH×PH),aA (I c) (g c<g x) (aA (bH (kF x) (kF c)) (eL 35) (aA (bH (kF x) (kF c)) (cF (kF x) (kF c)) (aA (fU (bG x.1 1)=bP c.1) (qM x.2.1 c.2.1) (bS (fO x.2.2.2 c.2.2.2) (qH x) (qH c)))))))))))))) (sW (qH x) (GB x) K x.2.2.2.1))))
theorem H7(l:ce):eW 1 (l.map eS):=by
 constructor
 .intro e c;obtain⟨x,_,rfl⟩:=mem_map.1 c;rfl
 .intro e c u d;obtain⟨x,_,rfl⟩:=mem_map.1 c;have:u= .slice x.a x.len x.cap:=by simpa[eS]using d
  rw[this];rfl
theorem Nc(l:cd):eW 3 (l.map VV.enc):=by
 constructor
 .intro e c;obtain⟨x,_,rfl⟩:=mem_map.1 c;rfl
 .intro e c u d;obtain⟨x,_,rfl⟩:=mem_map.1 c;simp only[VV.enc,mem_cons,not_mem_nil,or_false]at d;rcases d with rfl|rfl|rfl<;>rfl
theorem WI:br 170 Y2:=by
 refine eV (fn:=Tryz.f170) (c:=cL Tryz.f170) func170 rfl bk ?_;rintro A m h K ⟨s,u,rfl,g,F,x⟩;obtain⟨a,n,c⟩:=s;refine⟨uC [] [] [] [] [68,1068] [] false,rfl,aH,?_⟩;cases a with
 |none=>
  show sI _ Tryz.f170 (cL Tryz.f170) (entry Tryz.f170.ntmps [.val (.slice none n c)] m h) K;rw[<-aFZ n c m h K];dsimp only[Oe,push_cast]
  have e:u.map eS=[]:=by
   rcases g with g|⟨b,o,G,E,H,e,_⟩
   .rcases g.row with e|⟨b,o,e,_⟩
    .exact e
    .cases e
   .cases e
  rw[e]at x;exact x ⟨none,0,0⟩ m ⟨⟨(λe y=>by cases y),(λe y=>by cases y)⟩,.inl ⟨rfl,rfl⟩⟩ (λb o e=>e) (λb i e=>by cases e)
 |some a=>
  show sI _ Tryz.f170 (cL Tryz.f170) (entry Tryz.f170.ntmps [.val (.slice (some a) n c)] m h) K;rw[<-aFX a n c m h K];dsimp only[Od,push_cast];intro s m' d
  have sub:∀b o,m b=some o->m' b=some o:=λb o f=>by
   rw[d.other b (λi e=>by rw[(d.fresh b i e).m_]at f;cases f)];exact f
  refine⟨[],d.row,u.map eS,H7 u,g.sub sub,by simp;omega,by simp;omega,λB C z=>x B C (bo z.row) (λb o f=>?_) (λb i e=>?_)⟩
  .exact z.other b o (sub b o f) (λi e=>by have e:s.a=some ⟨b,i,none⟩:=e;rw[(d.fresh b i e).m_]at f;cases f)
  .rcases z.fresh b i e with t|⟨j,t⟩
   .cases D:m b with
    |none=>rfl
    |some o=>rw[sub b o D]at t;cases t
   .exact(d.fresh b j t).m_
theorem UJ:br 171 aTQ:=by
 refine⟨⟨Tryz.f171,func171,rfl,bk⟩,?_⟩;rintro f e m h w K ⟨s,ps,rfl,j,n,t,u⟩ d
 obtain⟨v,c,rfl⟩:∃v c,e=[v,c]:=by
  have:=(qS d.args).1
  match e,this with
  |[v,c],_=>exact⟨v,c,rfl⟩
 have z:v=s.val:=d.args.1;have A:c= .func (.func 118) #[] #[]:=d.args.2.1;subst z A;refine Ph (R:=λ_=>True) (g:=118) (cb:=[]) (m2:=λ_=>none) (cf:=dP) rfl d ⟨Tryz.f118,func118,rfl,bk⟩ j n (λ_ _=>trivial) t FJ.swo ⟨Hh,BC,λx y=>⟨x.s,y.s,x.l,y.l,rfl,x.ok,y.ok,rfl,rfl,rfl⟩⟩ (λb o B=>by cases B) u
theorem gS.mono{us:ce}{rs:bx}(x:gS h us rs)(le:PH.le h h'):gS h' us rs:=⟨x.len,λj r d=>(x.at_ j r d).imp λ_ c=>⟨c.1,cA.mono c.2 le⟩⟩
theorem gS.nil(h:PH):gS h [] []:=⟨rfl,λj x c=>by simp at c⟩
theorem gS.snoc{us:ce}{rs:bx}(x:gS h us rs){u:Sl}{r:cd}(f:cA h u r):gS h (us++[u]) (rs++[r]):=by
 refine⟨by simp[x.len],λj y c=>?_⟩;by_cases d:j<rs.length
 .rw[getElem?_append_left d]at c;obtain⟨v,g,n⟩:=x.at_ j y c;exact⟨v,by rw[getElem?_append_left (by rw[x.len];exact d)];exact g,n⟩
 .rw[getElem?_append_right aD]at c;have:=(List.getElem?_eq_some_iff.1 c).1;simp at this;have e:j=rs.length:=by omega
  subst e;simp at c;subst c;exact⟨u,by rw[getElem?_append_right (by rw[x.len];exact Nat.le_refl _),x.len];simp,f⟩
theorem gS.rows{h:PH}{us:ce}{rs:bx}{s:Sl}(x:gS h us rs)(c:dK h s 1 (us.map eS))(d:rs.length<=502633886983):Rows h s rs:=⟨⟨us,c,x.len.symm,x.at_⟩,d⟩
structure XL(ps':cz)(s1:Sl)(m2:MH)(h:PH)(i:Nat)(us2:ce)(s2:Sl)(mx:MH)(hx:PH):Prop where
 s_:s2=s1
 m_:mx=m2
 le:PH.le h hx
 hi:i<=ps'.length
 hu:us2.length<=i
 ex:∃rs,gS hx us2 rs/\j9 rs/\∀x,x∈rs↔x∈(ps'.take i).map Prod.snd
theorem LV{e:PH}{u:Sl}{r:cd}{us:ce}{Q:Sl->PH->Prop}(c:cA e u r)(y:us.length<=502633886983)(g:∀s h',e.le h'->cA h' s r->Q s h'):
 ∃d:List bw,eW 3 d/\dK e (Sl.mk u.a u.len u.cap) 3 d/\(0+d.length)*32<=140737488355328/\0+d.length<=140737488355328/\∀(s:Sl)(h':PH),e.le h'->dK h' s 3 ([]++d)->
  ((List.map eS us).length+1)*24<=140737488355328/\(List.map eS us).length<140737488355328/\Q s h':=by
 obtain⟨f,j,n,o⟩:=c.ex;have t:=c.len;refine⟨f.map VV.enc,Nc f,j,by rw[length_map];omega,by rw[length_map];omega,λs h' le x=>⟨by rw[length_map];omega,by rw[length_map];omega,g s h' le ⟨⟨f,x,n,o⟩,t⟩⟩⟩
theorem bnX{s:Sl}{us:ce}{l:bx}(hr:sM m h s 1 (us.map eS))(I:gS h us l)(b8:l.length<=502633886983)(hK:∀s' h',PH.le h h'->Rows h' s' (Dq l)->K (cS s') m h'):KO s m h (kE h K):=by
 dsimp only[KO,push_cast];have b9:=I.len.symm;have Y:=I.at_;refine⟨s,us,rfl,hr,aD,λs1 m1 L M Z=>⟨s1,us.zip l,rfl,?_,λp J=>?_,by simp;omega,λc m2 f a' g O=>?_⟩⟩
 .have:(us.zip l).map (λp=>[gU p.1])=us.map eS:=by
   rw[show(λp:Sl×cd=>[gU p.1])=eS∘Prod.fst from rfl, <-map_map,map_fst_zip aD]
  rw[this];exact L
 .obtain⟨j,n⟩:=getElem?_of_mem J;rw[getElem?_zip_eq_some]at n;obtain⟨u,G,h2⟩:=Y j p.2 n.2;rw[n.1]at G;cases G;exact h2
 .have c':c.length=us.length:=by rw[f.length_eq];simp;omega
  have a0:=eC.slen g;simp only[length_map]at a0
  have a1:∀{i:Nat}{p:Sl×cd},c[i]? =some p->cA h p.1 p.2:=fun{i p} J=>by
   have:=f.mem_iff.1 (mem_of_getElem? J);obtain⟨j,n⟩:=getElem?_of_mem this;rw[getElem?_zip_eq_some]at n;obtain⟨u,G,h2⟩:=Y j p.2 n.2;rw[n.1]at G;cases G;exact h2
  have a2:∀x,x∈c.map Prod.snd↔x∈l:=λx=>by
   rw[(f.map Prod.snd).mem_iff,map_snd_zip aD]
  have P:∀b o,m b=some o->m2 b=some o:=λb o hb=>by
   rw[O b (λi e2=>by rw[Z b i e2]at hb;cases hb)];exact M b o hb
  refine⟨λx=>XL c s1 m2 h x.1 x.2.1 x.2.2.1 x.2.2.2.1 x.2.2.2.2,λx=>c.length-x.1,⟨(0,[],s1,m2,h),⟨rfl,rfl,.refl _,bj,bj,[],.nil h,.nil,bj⟩,MT⟩,?_⟩;rintro⟨i,B,Q,R,hx⟩ ⟨e1,e2,le,hi,b0,rs,C,S,d⟩;dsimp only at e1 e2 le hi b0 C;subst e1 e2;refine aF (λa3=>?_) (λb1=>?_)
  .dsimp only at a3;have a4:i<c.length:=by omega
   obtain⟨p,J⟩:∃p,c[i]? =some p:=⟨_,getElem?_eq_getElem a4⟩
   obtain⟨b,e1,r1⟩:=g.rd (h:=hx) (i:=i) (e:=eS p.1) (by simp[J];rfl);have T:=cA.mono (a1 J) le
   have D:∀x,x∈(c.take (i+1)).map Prod.snd↔x∈(c.take i).map Prod.snd\/x=p.2:=λx=>by
    rw[take_add_one,J];simp
   have a5:(∀y∈rs,dP y p.2<0)->∀(s:Sl)(h':PH),hx.le h'->cA h' s p.2->XL c Q R h (i+1) (B++[s]) Q R h':=λhc s h' A E=>by
    refine⟨rfl,rfl,le.trans A,aD,by simp;omega,rs++[p.2],(C.mono A).snoc E,pairwise_append.2 ⟨S,bj,λy U z hz=>?_⟩,λx=>?_⟩
    .simp at hz;subst hz;exact hc y U
    .rw[D,mem_append,d];simp
   have keep:p.2∈rs->XL c Q R h (i+1) B Q R hx:=λhc=>
    ⟨rfl,rfl,le,aD,aD,rs,C,S,λx=>by rw[D,d];exact⟨.inl,λh=>h.elim id λe=>by rw[e, <-d];exact hc⟩⟩
   refine⟨b,0,e1,by show(0:Int)<=(i:Int);omega,a3,p.1,by simpa[eS]using r1,aC (λW=>?_) (λW=>?_)⟩
   .have W:i=0:=bo W
    subst W
    have b2:rs=[]:=by
     cases rs with
     |nil=>rfl
     |cons y _=>have:=(d y).1 bj;simp at this
    exact LV T (by dsimp only;omega) (λs h' A E=>⟨(0+1,B++[s],Q,R,h'),a5 (by rw[b2];simp) s h' A E,(by dsimp only;omega),rfl,rfl,rfl,rfl,rfl,by simp[eS],rfl,rfl,trivial⟩)
   .have W:i≠0:=bo W
    have hw:IntKind.i64.wrap ((i:Int)-1)=((i-1:Nat):Int):=by rw[dT aD aD];omega
    obtain⟨q,X⟩:∃q,c[i-1]? =some q:=⟨_,getElem?_eq_getElem aD⟩
    obtain⟨b',b3,b4⟩:=g.rd (h:=hx) (i:=i-1) (e:=eS q.1) (by simp[X];rfl);have b5:=cA.mono (a1 X) le
    have a6:q.2∈rs:=by
     rw[d];refine mem_map.2 ⟨q,?_,rfl⟩;exact mem_of_getElem? (i:=i-1) (by rw[getElem?_take,if_pos aD];exact X)
    have F:∀y∈rs,dP y q.2<=0:=λy U=>by
     rw[d]at U;obtain⟨z,hz,rfl⟩:=mem_map.1 U;obtain⟨j,n⟩:=getElem?_of_mem hz;have b6:=(List.getElem?_eq_some_iff.1 n).1;simp only[length_take]at b6;rw[getElem?_take,if_pos aD]at n;by_cases e:j=i-1
     .subst e;rw[X]at n;cases n;have:=mX q.2 q.2;omega
     .have G:=pairwise_iff_getElem.1 a' j (i-1) aD aD aD;rw[(List.getElem?_eq_some_iff.1 n).2,(List.getElem?_eq_some_iff.1 X).2]at G;have:=mX z.2 q.2;omega
    have a7:dP q.2 p.2<=0:=by
     have G:=pairwise_iff_getElem.1 a' (i-1) i aD aD aD;rw[(List.getElem?_eq_some_iff.1 J).2,(List.getElem?_eq_some_iff.1 X).2]at G;have:=mX q.2 p.2;omega
    dsimp only;rw[hw];refine⟨b',0,b3,aD,aD,q.1,by simpa[eS]using b4,q.1,p.1,q.2,p.2,rfl,b5,T,aC (λa8=>?_) (λV=>?_)⟩
    .have a8:dP q.2 p.2≠0:=bo a8
     refine LV T aD (λs h' A E=>⟨(i+1,B++[s],Q,R,h'),a5 (λy U=>?_) s h' A E,(by dsimp only;omega),rfl,rfl,rfl,rfl,by rw[kA aD],by simp[eS],rfl,rfl,trivial⟩);have t:=BD y q.2 p.2 (F y U) a7;by_cases e:dP y p.2=0
     .have:=FJ.zero (F y U) a7 e;omega
     .omega
    .have V:dP q.2 p.2=0:=bo V
     exact⟨(i+1,B,Q,R,hx),keep (by rw[<-jM.1 V];exact a6),(by dsimp only;omega),rfl,rfl,rfl,rfl,by rw[kA aD],rfl,rfl,rfl,trivial⟩
  .intro s3 h3 H a9;dsimp only at b1 a9 H;have b7:i=c.length:=by omega
   subst b7;rw[take_length]at d;have e:rs=Dq l:=X4 S (λx=>by rw[d,a2]);subst e;have hl:=C.len;exact⟨m,h3,P,le.trans H,.refl _,hK s3 h3 (le.trans H) ((C.mono H).rows a9 aD)⟩
theorem Xf:br 123 bPZ:=by
 refine EU func123 ?_;rintro c m h K ⟨s,j,l,rfl,d,e,f,g⟩;refine⟨aLQ,rfl,aE WI (aE UJ (aE BC aH)),KO s m h (kE h K),bi,?_⟩;exact bnX d e f g
end Go.Ps
namespace Go.Vc
open Go List
section
variable{B:sP}{C:Ctx}{ι:cj}{σ:St}{a:Act}{w:World}{o:Oper}{K:St->Prop}
end
end Go.Vc
namespace Go.Vc
open Go List
section
variable{B:sP}{C:Ctx}{ι:cj}{σ:St}{a:Act}{w:World}{K:St->Prop}
end
end Go.Vc
namespace Go.Ps
open Go Go.Vc Go.Proofs List Tryz
variable{K:bu}{m:MH}{h:PH}{s:iJ}{ps:bt}{cb:Nat}{sc:cN}{v:QV}{p:Pred}{l:bt}{i:Nat}{N:Nat}{m':MH}{h':PH}{co:bt}{gr:bt}{od:ca}{ta:Int}{li:Int}{xs:List bw}{sz:Nat}{ks:List bt}{rs:bt}{r:Sl}{a:bt}{b:Nat}
structure VOk(v:VV):Prop where
 kind:tN v.kind
 int:tN v.int
 text:v.text.size<=64
structure SD(r:cd):Prop where
 len:r.length<=12
 val:∀v∈r,VOk v
def pick(r:cd)(cols:bt):cd:=cols.map λc=>r.getD c.toNat zeroV
structure jC(n:Nat)(cols:bt):Prop where
 at_:∀c∈cols,0<=c/\c<n
 len:cols.length<=100000
def nI(on:bz):bt:=on.map Prod.fst
def iQ(on:bz):bt:=on.map Prod.snd
def XK:Vc.Spec:=λc m h K=>∃s on,c=[cS s]/\iD h s on/\∀a b h',PH.le h h'->Ints h' a (nI on)->Ints h' b (iQ on)->K (.tup [cS a,cS b]) m h'
def Vu:Vc.Spec:=λd m h K=>∃s t r c,d=[cS s,cS t]/\cA h s r/\Ints h t c/\jC r.length c/\K (cB ((pick r c).all lY)) m h
def aZZ:Vc.Spec:=λc m h K=>∃n:Nat,c=[.val (.slice none 0 0),cI n]/\n<=1000/\K (.lst 24 3 []) m h
def Vs:Vc.Spec:=λc m h K=>∃d rs,c=[cS d]/\Rows h d rs/\rs.length<=10/\(∀r∈rs,r.length<=12)/\∀e h',PH.le h h'->cA h' e rs.flatten->K (cS e) m h'
noncomputable def aDZ(s:Sl)(m:MH)(h:PH):Ctx:=
 cW [] [(2,{A:=Nat×bt×bt,st:=λ⟨i,l,k⟩=>bY 25 26 [(2,.at (.lst 16)),(3,.at (.lst 21)),(6,sv s),(7,iv s.len),(8,iv i)] [(16,.lst 3 1 (l.map eI)),(21,.lst 3 1 (k.map eI))] m h})] [] [] false
noncomputable def aDX(s t:Sl)(m:MH)(h:PH):Ctx:=
 cW [(168,Ri)] [(2,{A:=Nat,st:=λi=>bY 20 22 [(0,sv s),(7,sv t),(8,iv t.len),(9,iv i)] [] m h})] [] [] false
noncomputable def aFQ(c:Sl)(m:MH)(h:PH):Ctx:=
 cW [(204,aZZ)] [(3,{A:=Nat×Nat,st:=λ⟨i,n⟩=>bY 36 37 [(0,sv c),(3,iv n),(9,sv c),(10,iv c.len),(11,iv i)] [] m h}),
  (11,{A:=Nat×cd,st:=λ⟨i,l⟩=>bY 36 37 [(6,.at (.lst 24)),(25,sv c),(26,iv c.len),(27,iv i)] [(24,.lst 24 3 (l.map VV.enc))] m h})] [] [] false
def Kz(s:Sl)(m:MH)(h:PH)(K:bu):Prop:=
  ∃(I:Nat×bt×bt->Prop)(d:Nat×bt×bt->Nat),(∃(x:Nat×bt×bt),aA (I x) (eL 16) (aA (eL 21) (aJ s) (aA (bI s) (bF x.1) (aA (rJ (oE x.2.1)) (rJ (oE x.2.2)) (bS (m=m) h h)))))/\∀(x:Nat×bt×bt),I x->bA (↑x.1:Int) (aG s) (aW (λb o=>aI (aX s.a b o) (0<=(↑x.1:Int)) ((↑x.1:Int)<aG s) (∃(y:Int×Int),aA (aU m h b (bN o x.1 2) (tC y)) (bZ 0) (aA AE (iF (jJ (oE x.2.1) 1) 8) (aA (lO (oE x.2.1)) (bZ 1) (aA AF (iF (jJ (oE x.2.2) 1) 8) (lO (oE x.2.2)/\∃(c:Nat×bt×bt),aA (I c) (d c<d x) (aA (eL 16) (eL 21) (aA (aJ s) (bI s) (aA (fU (bG x.1 1)=bP c.1) (rK (oE x.2.1) y.1 (oE c.2.1)) (aI (rK (oE x.2.2)
 y.2 (oE c.2.2)) (m=m) (h=h) True))))))))))) (cG h 1 (oE x.2.1) (λe f=>cG f 1 (oE x.2.2) (λg j=>K (CV.tup (dX e g)) m j)))
def Ky(s t:Sl)(m:MH)(h:PH)(K:bu):Prop:=
  mP (λI x=>aA (I x) (aJ s) (aA (aJ t) (bI t) (aI (bF x) (m=m) (h=h) True))) (λI d x=>I x->bA (↑x:Int) (aG t) (aW (λb o=>aI (aX t.a b o) (0<=(↑x:Int)) ((↑x:Int)<aG t) (∃(y:Int),aU m h b (bN o x 1) (bJ y)/\aW (λe f=>aI (aX s.a e f) (0<=y) (y<aG s) (∃(g:VV),aU m h e (gC f y 3) g.enc/\∃(v:VV),fB (nE (hX g) (hX v)) (!(lY v)) (K bB m h) (∃(c:Nat),aA (I c) (d c<d x) (aA (aJ s) (aJ t) (aA (bI t) (fU (bG x 1)=bP c) (aA (m=m) (h=h) True))))))))) (fJ K m h))
def Qa(n:Nat)(m:MH)(h:PH)(K:bu):Prop:=
  gM (iE ((↑n:Int)-iE ((0:Int)-0))) 0 (aA (bZ 0) (bZ 0) (aA (0<iE ((↑n:Int)-0)) (Hz (iE ((↑n:Int)-0)*32)) (aI (Hz (iE ((↑n:Int)-0))) ((0:Int)<=0) (bZ (qF (wC (iE ((↑n:Int)-0)) yU))) (K (CV.lst 24 3 []) m h)))) (K (CV.lst 24 3 []) m h)
noncomputable abbrev DO(a:cd):List bw:=List.map VV.enc a
attribute [push_cast] DO
def Qe(d:Sl)(m:MH)(h:PH)(K:bu):Prop:=
  Gx (λI x=>aA (I x) (aJ d) (aA (bF x.2) (aJ d) (aA (bI d) (bF x.1) (aA (m=m) (h=h) True)))) (λI g x=>I x->bA (↑x.1:Int) (aG d) (aW (λb o=>aI (aX d.a b o) (0<=(↑x.1:Int)) ((↑x.1:Int)<aG d) (∃(y:Sl),aU m h b (bN o x.1 1) (aY y)/\bA (bG x.2 (aG y)) 0 False (∃(c:Nat×Nat),aA (I c) (g c<g x) (aA (aJ d) (fU (bG x.2 (aG y))=bP c.2) (aA (aJ d) (bI d) (aA (fU (bG x.1 1)=bP c.1) (m=m) (bD h h)))))))) (∃(n:Nat),aA (Eb x.2=Eb n) (lR n) (∃(I1:Nat×cd->Prop)(j:Nat×cd->Nat),(∃(c:Nat×cd),aA (I1 c) (eL 24) (aA (aJ d) (bI d) (aA (bF c.1) (tY 24 3 (DO c.2)) (aA (m=m) (h=h) True))))/\∀(c:Nat×cd),I1 c->bA (↑c.1:Int) (aG d)
 (aW (λb o=>aI (aX d.a b o) (0<=(↑c.1:Int)) ((↑c.1:Int)<aG d) (∃(y:Sl),aU m h b (bN o c.1 1) (aY y)/\∃(e:List bw),aA (eW 3 e) (dK h (Sl.mk y.a y.len y.cap) 3 e) (aA (tS (DO c.2) e 32) (oS (DO c.2) e) (∃(f:Nat×cd),aA (I1 f) (j f<j c) (aA (eL 24) (aJ d) (aA (bI d) (fU (bG c.1 1)=bP f.1) (aA (cH 24 3 (DO c.2++e)=cH 24 3 (DO f.2)) (m=m) (bD h h))))))))) (cG h 3 (DO c.2) (λs t=>K (dN s) m t)))))
theorem Tx{r:cd}{cols:bt}(e:jC r.length cols){v:VV}(f:v∈pick r cols):v∈r:=by
 obtain⟨c,d,rfl⟩:=mem_map.1 f;have:=e.at_ c d;rw[getD_eq_getElem?_getD,getElem?_eq_getElem aD];exact getElem_mem _
theorem RS{r:cd}{cols:bt}{i:Nat}{c:Int}(e:jC r.length cols)(d:cols[i]? =some c):∃v,r[c.toNat]? =some v/\(pick r cols)[i]? =some v/\0<=c/\c<r.length:=by
 have:=e.at_ c (mem_of_getElem? d);refine⟨r[c.toNat]'(by omega),getElem?_eq_getElem _,?_,this⟩;unfold pick;rw[getElem?_map,d];simp only[Option.map_some,getD_eq_getElem?_getD];rw[getElem?_eq_getElem aD];rfl
theorem bjQ{s:Sl}{on:bz}(f:iD h s on)(z:∀a b h',PH.le h h'->Ints h' a (nI on)->Ints h' b (iQ on)->K (.tup [cS a,cS b]) m h'):Kz s m h K:=by
 dsimp only[Kz,push_cast];have g:=f.slen;have G:=f.len;refine⟨λx=>x.1<=on.length/\x.2.1=(on.take x.1).map Prod.fst/\x.2.2=(on.take x.1).map Prod.snd,λx=>on.length-x.1,⟨(0,[],[]),⟨bj,bj,bj⟩,MT⟩,?_⟩;rintro⟨i,l,k⟩ ⟨A,t,u⟩;dsimp only at A t u;subst t u;refine aF (λc=>?_) (λj=>?_)
 .dsimp only at c;obtain⟨p,y⟩:=eF g c;obtain⟨b,o,e,rd⟩:=iD.at f y;refine⟨b,o,e,by dsimp only;omega,c,p,.imm rd,aD,aD,?_,?_,aD,aD,?_,?_,(i+1,(on.take (i+1)).map Prod.fst,(on.take (i+1)).map Prod.snd),⟨by dsimp only;omega,rfl,rfl⟩,(by dsimp only;omega),?_⟩
  all_goals (try (simp only[length_map,length_take];omega))
  dsimp only;rw[take_add_one,y,Option.toList_some,map_append,map_append,map_append,map_append];exact MT
 .dsimp only at j⊢
  rw[take_of_length_le aD];intro a H n D b E d F;exact z a b E (n.trans d) ⟨D.mono d,by simp[nI];omega⟩ ⟨F,by simp[iQ];omega⟩
theorem biJ{s t:Sl}{r:cd}{cols:bt}(G:cA h s r)(H:Ints h t cols)(I:jC r.length cols)(y:K (cB ((pick r cols).all lY)) m h):Ky s t m h K:=by
 dsimp only[Ky,push_cast];have L:=bV.slen G;have A:=H.slen;have M:=I.len;have O:(pick r cols).length=cols.length:=by simp[pick]
 refine⟨λi=>i<=cols.length/\∀j:Nat,j<i->∀v,(pick r cols)[j]? =some v->lY v=true,λi=>cols.length-i,⟨0,⟨aD,λj z=>by omega⟩,MT⟩,λi⟨X,d⟩=>aF (λf=>?_) (λP=>?_)⟩
 .obtain⟨c,g⟩:=eF A f;obtain⟨b,o,e,rd⟩:=H.at g;obtain⟨v,D,n,Q,Y⟩:=RS I g;obtain⟨R,S,w,T,E,rfl⟩:=bV.at G D;refine⟨b,o,e,aD,f,c,.imm (bo rd),R,S,T,Q,aD,v,.imm E,v,rfl,aC (λx=>?_) (λU=>⟨i+1,⟨aD,λj z u F=>?_⟩,(show cols.length-(i+1)<cols.length-i by omega),MT⟩)⟩
  .have:(pick r cols).all lY=false:=by
    cases J:(pick r cols).all lY with
    |false=>rfl
    |true=>rw[all_eq_true]at J;rw[J v (mem_of_getElem? n)]at x;cases x
   rw[this]at y;exact y
  .by_cases V:j=i
   .subst V;rw[n]at F;cases F;simpa using U
   .exact d j aD u F
 .have:(pick r cols).all lY=true:=by
   rw[all_eq_true];intro v W;obtain⟨j,z⟩:=getElem?_of_mem W;exact d j (by have:=(List.getElem?_eq_some_iff.1 z).1;omega) v z
  rw[this]at y;exact y
theorem Wf:br 204 aZZ:=by
 refine hJ func204 ?_;rintro d m h K ⟨n,rfl,f,c⟩;refine⟨cW [] [] [] [] true,rfl,aH,Qa n m h K,bi,?_⟩;dsimp only[Qa,push_cast];have e:IntKind.i64.wrap ((n:Int)-0)=n:=by rw[dT aD aD];omega
 have g:IntKind.i64.wrap ((n:Int)-IntKind.i64.wrap (0-0))=n:=by rw[show IntKind.i64.wrap (0-0)=0 from by rw[dT aD aD];rfl,e]
 exact aF (λj=>⟨aD,aD,aD,aD,aD,aD,aD,c⟩) (λ_=>c)
theorem AB{α:Type}{ks:List (List α)}{k:List α}(c:ks[i]? =some k):((ks.take (i+1)).map List.length).sum=((ks.take i).map List.length).sum+k.length:=by
 rw[take_add_one,c];simp
theorem Hk{α:Type}{ks:List (List α)}(h:∀k∈ks,k.length<=12):∀i,((ks.take i).map List.length).sum<=12*i
 |0=>bj
 |i+1=>by
  have c:=Hk h i;cases e:ks[i]? with
  |none=>rw[take_add_one,e];simp at c⊢;omega
  |some k=>rw[AB e];have:=h k (mem_of_getElem? e);omega
theorem WG:br 173 Vs:=by
 refine hJ func173 ?_;rintro Q m h K ⟨L,ks,rfl,A,Z,d,R⟩;refine⟨aFQ L m h,rfl,aE Wf aH,Qe L m h K,bi,?_⟩;dsimp only[Qe,push_cast];have u:=bV.slen A;refine⟨λ⟨i,n⟩=>i<=ks.length/\n=((ks.take i).map List.length).sum,λ⟨i,_⟩=>ks.length-i,⟨(0,0),⟨aD,bj⟩,MT⟩,?_⟩;rintro⟨i,n⟩ ⟨M,rfl⟩;dsimp only;have S:=Hk d i;refine aF (λc=>?_) (λy=>?_)
 .obtain⟨k,f⟩:=eF u c;obtain⟨b,o,t,D,r,g⟩:=bV.at A f;have T:=bV.slen g;have z:=d k (mem_of_getElem? f)
  have U:IntKind.i64.wrap (((((ks.take i).map List.length).sum:Nat):Int)+(t.len:Int))=((((ks.take (i+1)).map List.length).sum:Nat):Int):=by
   rw[AB f,dT aD aD];omega
  refine⟨b,o,D,aD,c,t,.imm r,?_⟩;rw[U];exact aF (λO=>by omega) (λ_=>⟨(i+1,((ks.take (i+1)).map List.length).sum),⟨aD,rfl⟩,by show ks.length-(i+1)<ks.length-i;omega,MT⟩)
 .refine⟨((ks.take i).map List.length).sum,rfl,aD,?_⟩;refine⟨λ⟨i,l⟩=>i<=ks.length/\l=(ks.take i).flatten,λ⟨i,_⟩=>ks.length-i,⟨(0,[]),⟨aD,bj⟩,MT⟩,?_⟩;clear S y M;rintro⟨i,l⟩ ⟨M,rfl⟩;dsimp only;have E:(ks.take i).flatten.length<=12*i:=by have:=Hk d i;simpa[length_flatten]using this
  refine aF (λc=>?_) (λy t h' F e=>R t h' F ⟨⟨ks.flatten,?_,rfl,λi x V=>⟨x,V,rfl⟩⟩,?_⟩)
  .obtain⟨k,f⟩:=eF u c;obtain⟨b,o,t,D,r,g⟩:=bV.at A f;have z:=d k (mem_of_getElem? f);obtain⟨G,H,W,I⟩:=g.ex
   have J:G=k:=by
    apply ext_getElem?;intro j;by_cases P:j<k.length
    .obtain⟨v,X,Y⟩:=I j _ (getElem?_eq_getElem P);rw[X,getElem?_eq_getElem P,Y]
    .rw[getElem?_eq_none aD,getElem?_eq_none aD]
   subst J;refine⟨b,o,D,aD,c,t,.imm r,G.map VV.enc,Nc G,H,?_,?_,(i+1,(ks.take (i+1)).flatten),⟨aD,rfl⟩,by show ks.length-(i+1)<ks.length-i;omega,?_⟩
   .rw[length_map,length_map];omega
   .rw[length_map,length_map];omega
   .rw[take_add_one,f,Option.toList_some,flatten_append,map_append,flatten_cons,flatten_nil,append_nil];exact MT
  .rw[take_of_length_le aD]at e;exact e
  .rw[take_of_length_le aD]at E;omega
theorem Sk:∀(u:Nat)(b:UInt8),b∈Lib.decDigits u->48<=b.toNat/\b.toNat<=57:=by
 intro u
 induction u using Nat.strongRecOn with
 |_ u e=>
  intro b c;rw[Lib.decDigits]at c
  have one:∀k,k<10->48<=(UInt8.ofNat (48+k)).toNat/\(UInt8.ofNat (48+k)).toNat<=57:=λk f=>by
   rw[UInt8.toNat_ofNat'];omega
  split at c
  .rename_i h;rw[mem_singleton]at c;subst c;exact one u h
  .rcases mem_append.1 c with d|d
   .exact e (u/10) aD b d
   .rw[mem_singleton]at d;subst d;exact one (u%10) aD
theorem YA:∀(u v:Nat),Lib.decDigits u=Lib.decDigits v->u=v:=by
 intro u
 induction u using Nat.strongRecOn with
 |_ u j=>
  intro v h;have f:=congrArg List.length h;rw[Lib.decDigits_length,Lib.decDigits_length]at f
  have one:∀a b,a<10->b<10->UInt8.ofNat (48+a)=UInt8.ofNat (48+b)->a=b:=λa b n t e=>by
   have:=congrArg UInt8.toNat e;rw[UInt8.toNat_ofNat',UInt8.toNat_ofNat']at this;omega
  by_cases d:u<10
  .have c:v<10:=by
    apply Classical.byContradiction;intro c;rw[Lib.nDigits_small d,Lib.nDigits_big c]at f;have:=Lib.nDigits_pos (v/10);omega
   rw[Lib.decDigits.eq_def u,Lib.decDigits.eq_def v,dif_pos d,dif_pos c]at h;simp only[List.cons.injEq,and_true]at h;exact one u v d c h
  .have c:¬v<10:=λc=>by
    rw[Lib.nDigits_small c,Lib.nDigits_big d]at f;have:=Lib.nDigits_pos (u/10);omega
   rw[Lib.decDigits.eq_def u,Lib.decDigits.eq_def v,dif_neg d,dif_neg c]at h;have g:=append_inj' h rfl;have x:=j (u/10) aD (v/10) g.1;simp only[List.cons.injEq,and_true]at g;have y:=one (u%10) (v%10) aD aD g.2;omega
theorem Pb{n:Int}(c:0<=n)(d:n<18446744073709551616):IntKind.u64.wrap n=n:=by
 rw[IntKind.wrap_u64];omega
theorem Y4{n:Int}(c:n<0)(d: -9223372036854775808<=n):IntKind.u64.wrap (0-IntKind.u64.wrap n)= -n:=by
 rw[IntKind.wrap_u64,IntKind.wrap_u64];omega
theorem C7{n:Int}(h:tN n)(c:0<=n):jQ n=Lib.decDigits n.toNat:=by
 unfold jQ;rw[if_neg aD,Pb c (by have:=h.2;omega)]
theorem C8{n:Int}(h:tN n)(c:n<0):jQ n=45::Lib.decDigits (-n).toNat:=by
 unfold jQ;rw[if_pos c,Y4 c h.1]
theorem Zw{m n:Int}(d:tN m)(f:tN n)(h:jQ m=jQ n):m=n:=by
 have c:∀u r,Lib.decDigits u=45::r->False:=λu r e=>by
  have:=Sk u 45 (by rw[e];simp);simp at this
 by_cases g:0<=m<;>by_cases j:0<=n
 .rw[C7 d g,C7 f j]at h;have:=YA _ _ h;omega
 .rw[C7 d g,C8 f aD]at h;exact(c _ _ h).elim
 .rw[C8 d aD,C7 f j]at h;exact(c _ _ h.symm).elim
 .rw[C8 d aD,C8 f aD]at h;have:=YA _ _ (List.cons.inj h).2;omega
theorem Td{α:Type}{x:α}:∀{a b r r':List α},x∉a->x∉b->a++x::r=b++x::r'->a=b/\r=r'
 |[],[],r,r',_,_,h=>⟨rfl,(List.cons.inj h).2⟩
 |[],c::b,r,r',_,e,h=>by
  have:=(List.cons.inj h).1;exact(e (by rw[this];simp)).elim
 |c::a,[],r,r',f,_,h=>by
  have:=(List.cons.inj h).1;exact(f (by rw[<-this];simp)).elim
 |c::a,d::b,r,r',f,e,h=>by
  have g:=List.cons.inj h;obtain⟨j,n⟩:=Td (λm=>f (by simp[m])) (λm=>e (by simp[m])) g.2;exact⟨by rw[g.1,j],n⟩
structure amZ(κ:cd->ByteArray):Prop where
 inj:∀{a b:cd},a.length=b.length->(∀v∈a,VOk v)->(∀v∈b,VOk v)->(κ a=κ b↔a=b)
structure Step where
 op:Int
 table:Int
 wher:Pred
 columns:bt
 on:bz
 group:bt
 order:ca
 limit:Int
 left:Int
 right:Int
abbrev ck:=List Step
variable{ts:ck}{t:Step}
def Step.query(t:Step):Query:=.mk t.op t.table t.wher t.columns t.on t.group t.order t.limit []
structure sA(h:PH)(t:Step)(v:uD):Prop where
 op_:v.op=t.op
 table_:v.table=t.table
 where_:eH h t.wher v.where_
 columns_:Ints h v.columns t.columns
 on_:iD h v.on t.on
 group_:Ints h v.group t.group
 order_:jD h v.order t.order
 limit_:v.limit=t.limit
 left_:v.left=t.left
 right_:v.right=t.right
theorem sA.mono{v:uD}(x:sA h t v)(le:PH.le h h'):sA h' t v:=⟨x.op_,x.table_,x.where_.mono le,x.columns_.mono le,x.on_.mono le,x.group_.mono le,x.order_.mono le,x.limit_,x.left_,x.right_⟩
def aT(v:uD):CV:=.val (.agg ⟨v.enc⟩)
def gV(l:bt):cn:=l.flatMap λn=>jQ n++[32]
def xD(v:VV):cn:=gV [v.kind]++(jQ v.int++[32])++gV [(v.text.size:Int)]++v.text.data.toList
def BL(o:OV):cn:=gV [o.kind,o.index]++xD o.value
mutual
def pS:Pred->cn
 |.mk op c l r args=>gV [op,c]++BL l++BL r++gV [(args.length:Int)]++mO args
def mO:cq->cn
 |[]=>[]
 |p::ps=>pS p++mO ps
end
theorem fS:∀l:bt,(gV l).length<=22*l.length
 |[]=>by simp[gV]
 |n::l=>by
  have:=fS l;have c:=xV n;unfold gV at this⊢
  simp only[flatMap_cons,length_append,length_cons,length_nil];omega
def Rt:Vc.Spec:=λc m h K=>∃xs s l,c=[.lst 5 1 xs,cS s]/\Ints h s l/\fM m/\xs.length+22*l.length+100<=140737488355328/\K (.lst 5 1 (xs++bE (gV l))) m h
def bzZ:Vc.Spec:=λc m h K=>∃xs v,c=[.lst 5 1 xs,aV v]/\fM m/\xs.length+v.text.size+500<=140737488355328/\K (.lst 5 1 (xs++bE (xD v))) m h
def bzX:Vc.Spec:=λc m h K=>∃xs o,c=[.lst 5 1 xs,aO o]/\fM m/\xs.length+o.value.text.size+1000<=140737488355328/\K (.lst 5 1 (xs++bE (BL o))) m h
def byJ(N:Nat):Vc.Spec:=λc m h K=>∃xs v p,c=[.lst 5 1 xs,aP v]/\eH h p v/\SizeOf.sizeOf p<N/\fM m/\xs.length+(pS p).length+5000<=140737488355328/\K (.lst 5 1 (xs++bE (pS p))) m h
def bzQ:Vc.Spec:=λc m h K=>∃xs v p,c=[.lst 5 1 xs,aP v]/\eH h p v/\fM m/\xs.length+(pS p).length+5000<=140737488355328/\K (.lst 5 1 (xs++bE (pS p))) m h
noncomputable def aGQ(s:Sl)(m:MH)(h:PH):Ctx:=
 cW [(188,OU)] [(2,{A:=Nat×List bw,st:=λ⟨i,xs⟩=>bY 21 23 [(0,.at (.lst 21)),(7,sv s),(8,iv s.len),(9,iv i)] [(21,.lst 5 1 xs)] m h})] [] [(188,[0])] true
def Qk(xs:List bw)(s:Sl)(m:MH)(h:PH)(K:bu):Prop:=
  ∃(I:Nat×List bw->Prop)(e:Nat×List bw->Nat),(∃(x:Nat×List bw),aA (I x) (eL 21) (aA (aJ s) (bI s) (aA (bF x.1) (cH 5 1 xs=cH 5 1 x.2) (aA (m=m) (h=h) True))))/\∀(x:Nat×List bw),I x->bA (↑x.1:Int) (aG s) (aW (λb o=>aI (aX s.a b o) (0<=(↑x.1:Int)) ((↑x.1:Int)<aG s) (∃(y:Int),aU m h b (bN o x.1 1) (bJ y)/\MD (λc i=>aA (wI x.2 y=wI c i) (fM m) (aA (oL (jJ c 40)) (iF (jJ (gZ c (jQ i)) 1) 1) (lO (gZ c (jQ i))/\∃(d:Nat×List bw),aA (I d) (e d<e x) (aA (eL 21) (aJ s) (aA (bI s) (fU (bG x.1 1)=bP d.1) (aA (cH 5 1 (fK (gZ c (jQ i)) (kL (vH 32)))=cH 5 1 d.2) (m=m) (bD h h)))))))))) (uL K x.2 m h)
abbrev qI(a:PH)(b:Nat)(c:List bw)(d:Sl->PH->(List bw)->Sl->bt->Prop):Prop:=cG a b c (λx e=>∃(f:List bw),Bx (λg j=>d x e f g j))
noncomputable abbrev nU(a:List bw)(b:Sl):ct:=bK (CV.lst 5 1 a) (dN b)
abbrev zI(a:List bw)(b:bt):Prop:=oL (jJ a (22*b.length)+100)
abbrev D4(a:List bw)(b:Sl)(c:List bw)(d:Sl)(e:PH)(g:bt)(i:MH)(j:(List bw)->Prop):Prop:=aA (nU a b=nU c d) (Ints e d g) (aA (fM i) (zI c g) (∃(x:List bw),j x))
attribute [push_cast] qI nU zI D4
def KE(xs:List bw)(v:VV)(m:MH)(h:PH)(K:bu):Prop:=
  qI h 1 (iZ (bJ v.kind)) (λs f x n l=>D4 xs s x n f l m (λc=>∃(i:Int),aA (wI (gZ x (gV l)) v.int=wI c i) (fM m) (aA (oL (jJ c 40)) (iF (jJ (gZ c (jQ i)) 1) 1) (lO (gZ c (jQ i))/\qI f 1 (iZ (bJ (↑v.text.size:Int))) (λu g d j e=>aA (nU (fK (gZ c (jQ i)) (kL (vH 32))) u=nU d j) (Ints g j e) (aA (fM m) (zI d e) (aA (tS (gZ d (gV e)) (fL v.text) 1) (oS (gZ d (gV e)) (fL v.text)) (uL K (gZ d (gV e)++fL v.text) m g))))))))
theorem dD(a b:cn):bE (a++b)=bE a++bE b:=by simp[bE]
theorem Ints.ofRow{s:Sl}(r:dK h s 1 (l.map eI))(c:l.length<=17592186044416):Ints h s l:=⟨r,c⟩
theorem Pu{x:Int}(c:l[i]? =some x):gV (l.take (i+1))=gV (l.take i)++jQ x++[32]:=by
 rw[take_add_one,c];simp[gV]
theorem WM:br 162 Rt:=by
 refine hJ func162 ?_;rintro n m h K ⟨xs,s,l,rfl,f,u,A,y⟩;refine⟨aGQ s m h,rfl,aE ED aH,Qk xs s m h K,bi,?_⟩;dsimp only[Qk,push_cast];have d:=f.slen;refine⟨λ⟨i,g⟩=>i<=l.length/\g=xs++bE (gV (l.take i)),λ⟨i,_⟩=>l.length-i,⟨(0,xs),⟨aD,by simp[gV,bE]⟩,MT⟩,?_⟩;rintro⟨i,g⟩ ⟨D,rfl⟩;dsimp only;refine aF (λc=>?_) (λz=>?_)
 .obtain⟨x,j⟩:=eF d c;obtain⟨b,o,e,r⟩:=f.at' j;have E:=fS (l.take i);have F:=xV x;have G:(l.take i).length=i:=by simp;omega
  refine⟨b,o,e,aD,c,x,.imm r,_,x,rfl,u,?_,?_,?_,(i+1,xs++bE (gV (l.take (i+1)))),⟨aD,rfl⟩,by show l.length-(i+1)<l.length-i;omega,?_⟩
  .rw[length_append,aZ];omega
  .rw[length_append,length_append,aZ,aZ];omega
  .rw[length_append,length_append,aZ,aZ];omega
  .rw[Pu j,dD,dD, <-append_assoc, <-append_assoc];exact MT
 .rw[take_of_length_le aD];exact y
theorem WE:br 174 bzZ:=by
 refine EU func174 ?_;rintro g m h K ⟨xs,v,rfl,c,A,d⟩;refine⟨cW [(162,Rt),(188,OU)] [] [] [(162,[0]),(188,[0])] true,rfl,aE WM (aE ED aH),KE xs v m h (kE h K),bi,?_⟩;show KE xs v m h (kE h K);dsimp only[KE,push_cast];intro j D e n;have u:=fS [v.kind];have E:=xV v.int;have x:=fS [(v.text.size:Int)];have F:(fL v.text).length=v.text.size:=by simp[fL]
 simp only[length_cons,length_nil]at u x;refine⟨_,j,[v.kind],rfl,.ofRow n bj,c,by simp;omega,_,v.int,rfl,c,?_,?_,?_,λy G f z=>⟨_,y,[(v.text.size:Int)],rfl,.ofRow z bj,c,?_,?_,?_,?_⟩⟩
 .rw[length_append,aZ];omega
 .simp only[length_append,aZ];omega
 .simp only[length_append,aZ];omega
 .simp only[length_append,aZ,length_cons,length_nil];omega
 .simp only[length_append,aZ,length_cons,length_nil];omega
 .simp only[length_append,aZ,length_cons,length_nil];omega
 .refine .out (Sub.refl m) (e.trans f) ?_;rw[xD,dD,dD,dD,dD]at d;simp only[append_assoc]at d⊢
  exact d
theorem akZ(v:VV):v.text.size<=(xD v).length:=by
 have:v.text.data.toList.length=v.text.size:=bj
 simp only[xD,length_append];omega
theorem TB(o:OV):o.value.text.size<=(BL o).length:=by
 have:=akZ o.value;simp only[BL,length_append];omega
theorem Lx{l:cq}{x:Pred}(c:l[i]? =some x):mO (l.take (i+1))=mO (l.take i)++pS x:=by
 have key:∀(a:cq),mO (a++[x])=mO a++pS x:=by
  intro a
  induction a with
  |nil=>simp[mO]
  |cons y a d=>simp[mO,d]
 rw[take_add_one,c];exact key _
theorem Ts{l:cq}:∀(i:Nat),(mO (l.take i)).length<=(mO l).length:=by
 induction l with
 |nil=>intro i;simp
 |cons y a c=>
  intro i;cases i with
  |zero=>simp[mO]
  |succ i=>have:=c i;simp only[take_succ_cons,mO,length_append];omega
def tQ(l:bz):cn:=l.flatMap λp=>gV [p.1,p.2]
def tP(l:ca):cn:=l.flatMap λp=>gV [p.1,if p.2 then 1 else 0]
structure LY(t:Step):Prop where
 wher:(pS t.wher).length<=1000000000
 columns:t.columns.length<=1000000000
 on:t.on.length<=1000000000
 group:t.group.length<=1000000000
 order:t.order.length<=1000000000
theorem Ty{l:bz}{x:Int×Int}(c:l[i]? =some x):tQ (l.take (i+1))=tQ (l.take i)++gV [x.1,x.2]:=by
 rw[take_add_one,c];simp[tQ]
theorem Lr{l:ca}{x:Int×Bool}(c:l[i]? =some x):tP (l.take (i+1))=tP (l.take i)++gV [x.1,if x.2 then 1 else 0]:=by
 rw[take_add_one,c];simp[tP]
theorem Hr:∀l:bz,(tQ l).length<=44*l.length
 |[]=>by simp[tQ]
 |n::l=>by
  have:=Hr l;have c:=fS [n.1,n.2];unfold tQ at this⊢
  simp only[flatMap_cons,length_append,length_cons,length_nil]at*
  omega
theorem M4:∀l:ca,(tP l).length<=44*l.length
 |[]=>by simp[tP]
 |n::l=>by
  have:=M4 l;have c:=fS [n.1,if n.2 then 1 else 0];unfold tP at this⊢
  simp only[flatMap_cons,length_append,length_cons,length_nil]at*
  omega
def a0X(N:Nat):Vc.Spec:=λc m h K=>∃v p,c=[aP v]/\eH h p v/\SizeOf.sizeOf p<N/\∀d h',PH.le h h'->eH h' p d->K (aP d) m h'
def XW:Vc.Spec:=λc m h K=>∃v p,c=[aP v]/\eH h p v/\∀d h',PH.le h h'->eH h' p d->K (aP d) m h'
def MU:Vc.Spec:=λc m h K=>∃s l,c=[cS s]/\Ints h s l/\∀d h',PH.le h h'->Ints h' d l->K (cS d) m h'
def SJ:Vc.Spec:=λc m h K=>∃s l,c=[cS s]/\iD h s l/\∀d h',PH.le h h'->iD h' d l->K (cS d) m h'
def Y1:Vc.Spec:=λc m h K=>∃s l,c=[cS s]/\jD h s l/\∀d h',PH.le h h'->jD h' d l->K (cS d) m h'
def ZW(n c:Nat)(m:MH)(h:PH)(K:bu):Prop:=
  K CZ m h
theorem bbJ(n c:Nat)(m:MH)(h:PH)(K:bu):ZW n c m h K=(sI (cW [] [] [] [] false) Tryz.f79 (cL Tryz.f79) (entry Tryz.f79.ntmps [.val (.slice none n c)] m h) K):=bi
def ZV(a:Addr)(n c:Nat)(m:MH)(h:PH)(K:bu):Prop:=
  ∃(y:List bw),aA (eW 1 y) (dK h (Sl.mk (Option.some a) n c) 1 y) (aA (iF (0+y.length) 8) (oL (0+y.length)) (sW h (Eu y) K m))
theorem bbZ(a:Addr)(n c:Nat)(m:MH)(h:PH)(K:bu):ZV a n c m h K=(sI (cW [] [] [] [] false) Tryz.f79 (cL Tryz.f79) (entry Tryz.f79.ntmps [.val (.slice (some a) n c)] m h) K):=bi
def ZU(n c:Nat)(m:MH)(h:PH)(K:bu):Prop:=
  K CZ m h
theorem bbX(n c:Nat)(m:MH)(h:PH)(K:bu):ZU n c m h K=(sI (cW [] [] [] [] false) Tryz.f80 (cL Tryz.f80) (entry Tryz.f80.ntmps [.val (.slice none n c)] m h) K):=bi
def ZT(a:Addr)(n c:Nat)(m:MH)(h:PH)(K:bu):Prop:=
  ∃(y:List bw),aA (eW 2 y) (dK h (Sl.mk (Option.some a) n c) 2 y) (aA (iF (0+y.length) 16) (oL (0+y.length)) (cG h 2 (Eu y) (λs d=>K (dN s) m d)))
theorem bbQ(a:Addr)(n c:Nat)(m:MH)(h:PH)(K:bu):ZT a n c m h K=(sI (cW [] [] [] [] false) Tryz.f80 (cL Tryz.f80) (entry Tryz.f80.ntmps [.val (.slice (some a) n c)] m h) K):=bi
def ZQ(n c:Nat)(m:MH)(h:PH)(K:bu):Prop:=
  K CZ m h
theorem baX(n c:Nat)(m:MH)(h:PH)(K:bu):ZQ n c m h K=(sI (cW [] [] [] [] false) Tryz.f83 (cL Tryz.f83) (entry Tryz.f83.ntmps [.val (.slice none n c)] m h) K):=bi
def ZP(a:Addr)(n c:Nat)(m:MH)(h:PH)(K:bu):Prop:=
  ∃(y:List bw),aA (eW 2 y) (dK h (Sl.mk (Option.some a) n c) 2 y) (aA (iF (0+y.length) 16) (oL (0+y.length)) (cG h 2 (Eu y) (λs d=>K (dN s) m d)))
theorem baQ(a:Addr)(n c:Nat)(m:MH)(h:PH)(K:bu):ZP a n c m h K=(sI (cW [] [] [] [] false) Tryz.f83 (cL Tryz.f83) (entry Tryz.f83.ntmps [.val (.slice (some a) n c)] m h) K):=bi
theorem Ks:br 79 MU:=by
 refine eV (fn:=Tryz.f79) (c:=cL Tryz.f79) func79 rfl bk ?_;rintro x m h K ⟨⟨a,n,c⟩,l,rfl,g,u⟩;refine⟨cW [] [] [] [] false,rfl,aH,?_⟩;have d:=g.len;cases a with
 |none=>
  have e:=Nd g.row;subst e;show sI _ _ _ (entry Tryz.f79.ntmps [.val (.slice none n c)] m h) K;rw[<-bbJ n c m h K];exact u ⟨none,0,0⟩ h (.refl _) ⟨.nil _ _,bj⟩
 |some a=>
  show sI _ _ _ (entry Tryz.f79.ntmps [.val (.slice (some a) n c)] m h) K;rw[<-bbZ a n c m h K];exact⟨_,BX l,g.row,by simp;omega,by simp;omega,λy h' j f=>u y h' j ⟨f,d⟩⟩
theorem PK:br 80 SJ:=by
 refine eV (fn:=Tryz.f80) (c:=cL Tryz.f80) func80 rfl bk ?_;rintro x m h K ⟨⟨a,n,c⟩,l,rfl,g,u⟩;refine⟨cW [] [] [] [] false,rfl,aH,?_⟩;have d:=g.len;cases a with
 |none=>
  have e:=Nd g.row;subst e;show sI _ _ _ (entry Tryz.f80.ntmps [.val (.slice none n c)] m h) K;rw[<-bbX n c m h K];exact u ⟨none,0,0⟩ h (.refl _) ⟨.nil _ _,bj⟩
 |some a=>
  show sI _ _ _ (entry Tryz.f80.ntmps [.val (.slice (some a) n c)] m h) K;rw[<-bbQ a n c m h K];exact⟨_,RP l,g.row,by simp;omega,by simp;omega,λy h' j f=>u y h' j ⟨f,d⟩⟩
theorem ZR:br 83 Y1:=by
 refine eV (fn:=Tryz.f83) (c:=cL Tryz.f83) func83 rfl bk ?_;rintro x m h K ⟨⟨a,n,c⟩,l,rfl,g,u⟩;refine⟨cW [] [] [] [] false,rfl,aH,?_⟩;have d:=g.len;cases a with
 |none=>
  have e:=Nd g.row;subst e;show sI _ _ _ (entry Tryz.f83.ntmps [.val (.slice none n c)] m h) K;rw[<-baX n c m h K];exact u ⟨none,0,0⟩ h (.refl _) ⟨.nil _ _,bj⟩
 |some a=>
  show sI _ _ _ (entry Tryz.f83.ntmps [.val (.slice (some a) n c)] m h) K;rw[<-baQ a n c m h K];exact⟨_,RO l,g.row,by simp;omega,by simp;omega,λy h' j f=>u y h' j ⟨f,d⟩⟩
def stepB(t:Step):cn:=gV [t.op,t.table,t.limit,t.left,t.right]++pS t.wher++gV [(t.columns.length:Int)]++gV t.columns++gV [(t.on.length:Int)]++tQ t.on++gV [(t.group.length:Int)]++gV t.group++gV [(t.order.length:Int)]++tP t.order
def byZ:Vc.Spec:=λc m h K=>∃xs v t,c=[.lst 5 1 xs,aT v]/\sA h t v/\LY t/\fM m/\xs.length<=1000/\K (.lst 5 1 (xs++bE (stepB t))) m h
noncomputable def aJQ(s:Sl)(m:MH)(h:PH):Ctx:=
 cW [(188,OU)] [(2,{A:=Nat×List bw,st:=λ⟨i,xs⟩=>bY 21 23 [(0,.at (.lst 21)),(7,sv s),(8,iv s.len),(9,iv i)] [(21,.lst 5 1 xs)] m h})] [] [(188,[0])] true
noncomputable def aIJ(N:Nat)(v:PV)(m:MH):Ctx:=
 cW [(144,Rt),(189,bzX),(145,byJ N)] [(6,{A:=Nat×List bw×PH,st:=λ⟨i,xs,h⟩=>bY 40 42 [(0,.at (.lst 40)),(29,sv v.args),(30,iv v.args.len),(31,iv i)] [(40,.lst 5 1 xs)] m h})] [] [(144,[0]),(189,[0]),(145,[0])] true
noncomputable def bcQ(N:Nat)(v:PV)(m:MH):Ctx:=
 cW [(78,a0X N)] [(4,{A:=Nat×dg×PH,st:=λ⟨i,c,h⟩=>bY 24 25 [(1,.at (.ptr 1 0)),(2,.at (.ptr 2 0)),(9,sv v.args),(10,iv v.args.len),(11,iv i)] [(1,.cells 29 ((v.enc.take 12).map .val++[.lst 20])),(2,.cells 29 (gT.enc.map .val)),(20,.lst 29 13 (c.map PV.enc))] m h})] [] [] false
noncomputable def baZ(v:uD)(m:MH):Ctx:=
 cW [(144,Rt),(145,bzQ)] [(7,{A:=Nat×List bw×PH,st:=λ⟨i,xs,h⟩=>bY 91 93 [(0,.at (.lst 91)),(3,.at (.ptr 3 0)),(44,sv v.on),(45,iv v.on.len),(46,iv i)] [(3,.cells 111 (v.enc.map .val)),(91,.lst 5 1 xs)] m h}),
  (15,{A:=Nat×List bw×PH,st:=λ⟨i,xs,h⟩=>bY 91 93 [(0,.at (.lst 91)),(75,sv v.order),(76,iv v.order.len),(77,iv i)] [(91,.lst 5 1 xs)] m h})] [] [(144,[0]),(145,[0])] true
def Qy(xs:List bw)(s:Sl)(m:MH)(h:PH)(K:bu):Prop:=
  ∃(I:Nat×List bw->Prop)(e:Nat×List bw->Nat),(∃(x:Nat×List bw),aA (I x) (eL 21) (aA (aJ s) (bI s) (aA (bF x.1) (cH 5 1 xs=cH 5 1 x.2) (aA (m=m) (h=h) True))))/\∀(x:Nat×List bw),I x->bA (↑x.1:Int) (aG s) (aW (λb o=>aI (aX s.a b o) (0<=(↑x.1:Int)) ((↑x.1:Int)<aG s) (∃(y:Int),aU m h b (bN o x.1 1) (bJ y)/\MD (λc i=>aA (wI x.2 y=wI c i) (fM m) (aA (oL (jJ c 40)) (iF (jJ (gZ c (jQ i)) 1) 1) (lO (gZ c (jQ i))/\∃(d:Nat×List bw),aA (I d) (e d<e x) (aA (eL 21) (aJ s) (aA (bI s) (fU (bG x.1 1)=bP d.1) (aA (cH 5 1 (fK (gZ c (jQ i)) (kL (vH 32)))=cH 5 1 d.2) (m=m) (bD h h)))))))))) (uL K x.2 m h)
noncomputable abbrev sU(a:List bw)(b:CV):ct:=bK (CV.lst 5 1 a) b
abbrev Mo(a:ct)(b:List bw)(c:Sl)(d:PH)(e:bt)(g:MH)(i:(Nat×List bw×PH->Prop)->(Nat×List bw×PH)->Prop)(j:(Nat×List bw×PH->Prop)->(Nat×List bw×PH->Nat)->(Nat×List bw×PH)->Prop):Prop:=aA (a=nU b c) (Ints d c e) (aA (fM g) (zI b e) (∃(x:Nat×List bw×PH->Prop)(n:Nat×List bw×PH->Nat),(∃(f:Nat×List bw×PH),i x f)/\∀(f:Nat×List bw×PH),j x n f))
abbrev DH(a:List bw)(b:bt)(c:Nat×List bw×PH):Prop:=cH 5 1 (gZ a (gV b))=cH 5 1 c.2.1
noncomputable abbrev pZ(a:Nat×List bw×PH):Nat->Nat->Option Value:=a.2.2
attribute [push_cast] sU Mo DH pZ
def KI(N:Nat)(xs:List bw)(v:PV)(m:MH)(h:PH)(K:bu):Prop:=
  qI h 1 (oC (bJ v.op) (bJ v.cmp)) (λs n x G l=>D4 xs s x G n l m (λe=>∃(o:OV),aI (sU (gZ x (gV l)) (vD v.left)=sU e (vD o)) (fM m) (oL (jJ e (z7 o).size+1000)) (∃(f:List bw)(g:OV),aI (sU (gZ e (BL o)) (vD v.right)=sU f (vD g)) (fM m) (oL (jJ f (z7 g).size+1000)) (qI n 1 (iZ (bJ (rX v))) (λH u z J A=>Mo (nU (gZ f (BL g)) H) z J u A m (λI c=>aA (I c) (eL 40) (aA (aJ v.args) (rW v) (aA (bF c.1) (DH z A c) (aA (m=m) (u=pZ c) True)))) (λI D c=>I c->bA (↑c.1:Int) (aG v.args) (aW (λb E=>aI (aX v.args.a b E) (0<=(↑c.1:Int)) ((↑c.1:Int)<aG v.args) (∃(y:PV),aU m (pZ c) b (bN E c.1 13) y.enc
 /\∃(j:List bw),qG (λF p=>aA (sU c.2.1 (cZ y)=sU j (cZ F)) (eH (pZ c) p F) (aA (qD p N) (fM m) (oL (jJ j (pS p).length+5000)/\∃(d:Nat×List bw×PH),aA (I d) (D d<D c) (aA (eL 40) (aJ v.args) (aA (rW v) (fU (bG c.1 1)=bP d.1) (aA (cH 5 1 (gZ j (pS p))=cH 5 1 d.2.1) (m=m) (bD (pZ c) (pZ d))))))))))) (uL K c.2.1 m (pZ c))))))))
noncomputable abbrev Gz(a:Nat×dg×PH):List bw:=List.map PV.enc a.2.1
abbrev IF(a:PH)(b:Pred)(c:PV->PH->Prop):Prop:=∀(x:PV)(d:PH),cD a d (eH d b x) (c x d)
attribute [push_cast] Gz IF
def Uf(N:Nat)(v:PV)(m:MH)(h:PH)(K:bu):Prop:=
  ∃(I:Nat×dg×PH->Prop)(e:Nat×dg×PH->Nat),(∃(x:Nat×dg×PH),aA (I x) eM (aA fG (aJ v.args) (aA (rW v) (bF x.1) (aA (eQ (oQ 29 (fF (iI v.op) (iI v.cmp) (fF (iI v.left.kind) (zJ v.left) (fF (iI (jK v.left)) (iI (EM v.left)) (fF (K6 (z7 v.left)) (iI v.right.kind) (fF (zJ v.right) (iI (jK v.right)) (fF (iI (EM v.right)) (K6 (z7 v.right)) (rI (At.lst 20)))))))))) sX (aI (tY 29 13 (Gz x)) (m=m) (h=x.2.2) True)))))/\∀(x:Nat×dg×PH),I x->bA (↑x.1:Int) (aG v.args) (aW (λb o=>aI (aX v.args.a b o) (0<=(↑x.1:Int)) ((↑x.1:Int)<aG v.args) (∃(y:PV),aU m x.2.2 b (bN o x.1 13) y.enc/\qG (λf p=>aI (oF (cZ y)=oF (cZ f)) (eH x.2.2 p f) (qD p N) (IF x.2.2 p (λg d=>
 jZ (Gz x) 136 (∃(c:Nat×dg×PH),aA (I c) (e c<e x) (aA eM fG (aA (aJ v.args) (bI v.args) (aA (fU (bG x.1 1)=bP c.1) (eQ (oQ 29 (fF (iI v.op) (iI v.cmp) (fF (iI v.left.kind) (zJ v.left) (fF (iI (jK v.left)) (iI (EM v.left)) (fF (K6 (z7 v.left)) (iI v.right.kind) (fF (zJ v.right) (iI (jK v.right)) (fF (iI (EM v.right)) (K6 (z7 v.right)) (rI (At.lst 20)))))))))) (mA sX (cH 29 13 (fK (Gz x) g.enc)=cH 29 13 (Gz c)) (m=m) d c.2.2))))))))))) (cG x.2.2 13 (Gz x) (λs d=>K (lG (aR (dY v.op) (dY v.cmp) (aR (kC v.left) (kD v.left) (aR (dY (jK v.left)) (kJ v.left) (aR (jW v.left) (kC v.right) (aR (kD v.right) (dY (jK v.right)) (aR (kJ v.right) (jW v.right) (aY s)))))))) m d))
def KC(xs:List bw)(o:OV)(m:MH)(h:PH)(K:bu):Prop:=
  qI h 1 (kL (kC o)::oC (kL (kD o)) (bJ (jK o))) (λs f x n l=>D4 xs s x n f l m (λc=>∃(i:Int),aA (wI (gZ x (gV l)) (EM o)=wI c i) (fM m) (aA (oL (jJ c 40)) (iF (jJ (gZ c (jQ i)) 1) 1) (lO (gZ c (jQ i))/\qI f 1 (iZ (bJ (↑(z7 o).size:Int))) (λu g d j e=>aA (nU (fK (gZ c (jQ i)) (kL (vH 32))) u=nU d j) (Ints g j e) (aA (fM m) (zI d e) (aA (tS (gZ d (gV e)) (fL (z7 o)) 1) (oS (gZ d (gV e)) (fL (z7 o))) (uL K (gZ d (gV e)++fL (z7 o)) m g))))))))
abbrev lB(a:uD):Prop:=eQ (mZ 111 a.enc)
attribute [push_cast] lB
def N1(xs:List bw)(v:uD)(m:MH)(h:PH)(K:bu):Prop:=
  qI h 1 (bJ v.op::bJ v.table::bJ v.limit::oC (bJ v.left) (bJ v.right)) (λs G x s1 l=>D4 xs s x s1 G l m (λH=>qG (λR p=>aA (sU (gZ x (gV l)) (cZ v.where_)=sU H (cZ R)) (eH G p R) (aA (fM m) (oL (jJ H (pS p).length+5000)) (qI G 1 (iZ (bJ (aG v.columns))) (λs2 J S s3 T=>D4 (gZ H (pS p)) s2 S s3 J T m (λL=>Bx (λU M=>aA (nU (gZ S (gV T)) v.columns=nU L U) (Ints J U M) (aA (fM m) (zI L M) (qI J 1 (iZ (bJ (aG v.on))) (λs5 V W s6 X=>Mo (nU (gZ L (gV M)) s5) W s6 V X m (λI d=>aA (I d) (eL 91) (aA dR (aJ v.on) (aA (bI v.on) (bF d.1) (aA (lB v) (DH W X d) (bS (m=m) V (pZ d)))))) (λI Y d=>I d
 ->bA (↑d.1:Int) (aG v.on) (aW (λb o=>aI (aX v.on.a b o) (0<=(↑d.1:Int)) ((↑d.1:Int)<aG v.on) (∃(y:Int×Int),aA (aU m (pZ d) b (bN o d.1 2) (tC y)) (bZ 0) (aA AE (bZ 1) (AF/\qI (pZ d) 1 (oC (bJ y.1) (bJ y.2)) (λO n u E z=>aA (nU d.2.1 O=nU u E) (Ints n E z) (aA (fM m) (zI u z) (∃(f:Nat×List bw×PH),aA (I f) (Y f<Y d) (aA (eL 91) dR (aA (aJ v.on) (bI v.on) (aA (fU (bG d.1 1)=bP f.1) (lB v) (aI (DH u z f) (m=m) (n=pZ f) True)))))))))))) (qI (pZ d) 1 (iZ (bJ (aG v.group))) (λO n u E z=>D4 d.2.1 O u E n z m (λf=>Bx (λZ P=>aA (nU (gZ u (gV z)) v.group=nU f Z) (Ints n Z P) (aA (fM m) (zI
 f P) (qI n 1 (iZ (bJ (aG v.order))) (λa h5 x8 a1 l6=>Mo (nU (gZ f (gV P)) a) x8 a1 h5 l6 m (λI1 c=>aA (I1 c) (eL 91) (aA (aJ v.order) (bI v.order) (aA (bF c.1) (DH x8 l6 c) (aA (m=m) (h5=pZ c) True)))) (λI1 F c=>I1 c->bA (↑c.1:Int) (aG v.order) (aW (λb o=>aI (aX v.order.a b o) (0<=(↑c.1:Int)) ((↑c.1:Int)<aG v.order) (∃(y:Int×Bool),aU m (pZ c) b (bN o c.1 2) (yR y)/\branch y.2 (qI (pZ c) 1 (oC (bJ y.1) (bJ 1)) (λQ A g D j=>aA (nU c.2.1 Q=nU g D) (Ints A D j) (aA (fM m) (zI g j) (∃(e:Nat×List bw×PH),aA (I1 e) (F e<F c) (aA (eL 91) (aJ v.order) (aA (bI v.order) (fU (bG c.1 1)=bP e.1) (aA (DH g j e) (m=m) (bD A (pZ
 e))))))))) (qI (pZ c) 1 (oC (bJ y.1) (kL bL)) (λQ A g D j=>aA (nU c.2.1 Q=nU g D) (Ints A D j) (aA (fM m) (zI g j) (∃(e:Nat×List bw×PH),aA (I1 e) (F e<F c) (aA (eL 91) (aJ v.order) (aA (bI v.order) (fU (bG c.1 1)=bP e.1) (aA (DH g j e) (m=m) (bD A (pZ e)))))))))))) (uL K c.2.1 m (pZ c))))))))))))))))))))))
theorem HI:br 144 Rt:=by
 refine hJ func144 ?_;rintro n m h K ⟨xs,s,l,rfl,f,u,A,y⟩;refine⟨aJQ s m h,rfl,aE ED aH,Qy xs s m h K,bi,?_⟩;dsimp only[Qy,push_cast];have d:=f.slen;refine⟨λ⟨i,g⟩=>i<=l.length/\g=xs++bE (gV (l.take i)),λ⟨i,_⟩=>l.length-i,⟨(0,xs),⟨aD,by simp[gV,bE]⟩,MT⟩,?_⟩;rintro⟨i,g⟩ ⟨D,rfl⟩;dsimp only;refine aF (λc=>?_) (λz=>?_)
 .obtain⟨x,j⟩:=eF d c;obtain⟨b,o,e,r⟩:=f.at' j;have E:=fS (l.take i);have F:=xV x;have G:(l.take i).length=i:=by simp;omega
  refine⟨b,o,e,aD,c,x,.imm r,_,x,rfl,u,?_,?_,?_,(i+1,xs++bE (gV (l.take (i+1)))),⟨aD,rfl⟩,by show l.length-(i+1)<l.length-i;omega,?_⟩
  .rw[length_append,aZ];omega
  .rw[length_append,length_append,aZ,aZ];omega
  .rw[length_append,length_append,aZ,aZ];omega
  .rw[Pu j,dD,dD, <-append_assoc, <-append_assoc];exact MT
 .rw[take_of_length_le aD];exact y
theorem Zj(o:OV):BL o=gV [o.kind,o.index,o.value.kind]++(jQ o.value.int++[32])++gV [(o.value.text.size:Int)]++o.value.text.data.toList:=by
 simp[BL,xD,gV]
theorem Ws:br 189 bzX:=by
 refine EU func189 ?_;rintro g m h K ⟨xs,o,rfl,c,A,d⟩;refine⟨cW [(144,Rt),(188,OU)] [] [] [(144,[0]),(188,[0])] true,rfl,aE HI (aE ED aH),KC xs o m h (kE h K),bi,?_⟩;show KC xs o m h (kE h K);dsimp only[KC,push_cast];intro j D e n;have u:=fS [o.kind,o.index,o.value.kind];have E:=xV o.value.int;have x:=fS [(o.value.text.size:Int)];have F:(fL o.value.text).length=o.value.text.size:=by simp[fL]
 simp only[length_cons,length_nil]at u x;refine⟨_,j,[o.kind,o.index,o.value.kind],rfl,.ofRow n bj,c,by simp;omega,_,o.value.int,rfl,c,?_,?_,?_,λy G f z=>⟨_,y,[(o.value.text.size:Int)],rfl,.ofRow z bj,c,?_,?_,?_,?_⟩⟩
 .rw[length_append,aZ];omega
 .simp only[length_append,aZ];omega
 .simp only[length_append,aZ];omega
 .simp only[length_append,aZ,length_cons,length_nil];omega
 .simp only[length_append,aZ,length_cons,length_nil];omega
 .simp only[length_append,aZ,length_cons,length_nil];omega
 .refine .out (Sub.refl m) (e.trans f) ?_;rw[Zj,dD,dD,dD,dD]at d;simp only[append_assoc]at d⊢
  exact d
theorem UN:∀N,br 145 (byJ N)
 |0=>by
  refine PE (fn:=Tryz.f145) (c:=cL Tryz.f145) func145 rfl bk ?_;rintro x m h K ⟨xs,v,p,rfl,_,L,_,_,_⟩;omega
 |N+1=>by
  refine EU func145 ?_;rintro x m h K ⟨xs,v,p,rfl,M,L,j,O,I⟩;refine⟨aIJ N v m,rfl,aE HI (aE Ws (aE (UN N) aH)),KI N xs v m h (kE h K),bi,?_⟩;show KI N xs v m h (kE h K);dsimp only[KI,push_cast];have d:=@zW p;obtain⟨op,P,l,r,f⟩:=p;obtain⟨rfl,rfl,rfl,rfl,y⟩:=M.parts;have z:=y.slen;have A:=y.len;simp only[Pred.args]at d;have b1:=TB v.left;have b2:=TB v.right;have Q:=fS [v.op,v.cmp];have R:=fS [(f.length:Int)];simp only[length_cons,length_nil]at Q R;simp only[pS,length_append]at O;intro S h1 D T;refine⟨_,S,[v.op,v.cmp],rfl,.ofRow T bj,j,by simp;omega,_,v.left,rfl,j,?_,_,v.right,rfl,j,?_,λU V E W=>⟨_,U,[(v.args.len:Int)],rfl,.ofRow W bj,j,?_,?_⟩⟩
  .simp only[length_append,aZ];omega
  .simp only[length_append,aZ];omega
  .simp only[length_append,aZ,length_cons,length_nil];omega
  rw[z];refine⟨λ⟨i,J,F⟩=>i<=f.length/\PH.le h F/\J=xs++bE (gV [v.op,v.cmp])++bE (BL v.left)++bE (BL v.right)++bE (gV [(f.length:Int)])++bE (mO (f.take i)),λ⟨i,_,_⟩=>f.length-i,⟨(0,_,V),⟨aD,D.trans E,rfl⟩,?_⟩,?_⟩
  .simp only[take_zero,mO,bE,map_nil,append_nil];exact MT
  rintro⟨i,J,F⟩ ⟨hi,g,rfl⟩;dsimp only;refine aF (λG=>?_) (λX=>?_)
  .obtain⟨q,n⟩:=eF rfl G;obtain⟨Y,o,u,e,Z,H⟩:=(y.mono g).at n;have b3:=Ts (l:=f) (i+1);rw[Lx n,length_append]at b3;refine⟨Y,o,e,aD,aD,u,.imm Z,_,u,q,rfl,H,?_,j,?_,(i+1,xs++bE (gV [v.op,v.cmp])++bE (BL v.left)++bE (BL v.right)++bE (gV [(f.length:Int)])++bE (mO (f.take (i+1))),F),⟨aD,g,rfl⟩,by show f.length-(i+1)<f.length-i;omega,?_⟩
   .have:=d (mem_of_getElem? n);omega
   .simp only[length_append,aZ];omega
   .rw[Lx n,dD, <-append_assoc];exact MT
  .rw[take_of_length_le aD];refine .out (Sub.refl m) g ?_;simp only[pS,dD, <-append_assoc]at I;exact I
theorem W3:br 145 bzQ:=lI UN λ_ _ _ _⟨xs,v,p,e,c,d,f,g⟩=>⟨SizeOf.sizeOf p+1,xs,v,p,e,c,aD,d,f,g⟩
theorem Yn:∀N,br 78 (a0X N)
 |0=>by
  refine eV (fn:=Tryz.f78) (c:=cL Tryz.f78) func78 rfl bk ?_;rintro F m h K ⟨v,p,rfl,_,R,_⟩;omega
 |N+1=>by
  refine hJ func78 ?_;rintro F m h K ⟨v,p,rfl,S,R,T⟩;refine⟨bcQ N v m,rfl,aE (Yn N) aH,Uf N v m h K,bi,?_⟩;dsimp only[Uf,push_cast];have f:=@zW p;obtain⟨op,U,l,r,ps⟩:=p;obtain⟨rfl,rfl,rfl,rfl,G⟩:=S.parts;have V:=G.slen;have y:=G.len;simp only[Pred.args]at f;refine⟨λ⟨i,z,e⟩=>i<=ps.length/\PH.le h e/\z.length=i/\∀(j:Nat) x,(ps.take i)[j]? =some x->∃u,z[j]? =some u/\eH e x u,λ⟨i,_,_⟩=>ps.length-i,⟨(0,[],h),⟨aD,.refl _,rfl,λj x e=>by simp at e⟩,MT⟩,?_⟩;rintro⟨i,z,e⟩ ⟨W,g,A,n⟩;dsimp only;refine aF (λD=>?_) (λX P h' d E=>T ⟨v.op,v.cmp,v.left,v.right,P⟩ h' (g.trans d) (eH.mk (v:=⟨v.op,v.cmp,v.left,v.right,P⟩) ⟨⟨z,E,aD,λj x e=>?_⟩,y⟩))
  .obtain⟨q,H⟩:=eF V D;obtain⟨Y,Z,u,e1,r1,I⟩:=(G.mono g).at H;refine⟨Y,Z,e1,aD,D,u,.imm r1,u,q,rfl,I,?_,λQ h' d J=>⟨by simp;omega,by simp;omega,(i+1,z++[Q],h'),⟨aD,g.trans d,by simp[A],λj x e=>?_⟩,by show ps.length-(i+1)<ps.length-i;omega,?_⟩⟩
   .have:=f (mem_of_getElem? H);omega
   .rw[take_add_one,H]at e;by_cases hj:j<i
    .rw[getElem?_append_left (by simp;omega)]at e;obtain⟨u',L,M⟩:=n j x e;exact⟨u',by rw[getElem?_append_left aD];exact L,M.mono d⟩
    .rw[getElem?_append_right (by simp;omega)]at e;have O:=(List.getElem?_eq_some_iff.1 e).1;simp at O;have:j=i:=by omega
     subst this;simp only[length_take,Nat.min_eq_left W,Nat.sub_self]at e;simp at e;subst e;exact⟨Q,by rw[getElem?_append_right aD,A];simp,J⟩
   .rw[map_append];exact MT
  .rw[take_of_length_le aD]at n;obtain⟨u,L,M⟩:=n j x e;exact⟨u,L,M.mono d⟩
theorem PL:br 78 XW:=lI Yn λ_ _ _ _⟨v,p,e,c,d⟩=>⟨SizeOf.sizeOf p+1,v,p,e,c,aD,d⟩
theorem ZS:br 82 byZ:=by
 refine EU func82 ?_;rintro a' m h K ⟨xs,v,t,rfl,f,E,j,y,F⟩;refine⟨baZ v m,rfl,aE HI (aE W3 aH),N1 xs v m h (kE h K),bi,?_⟩;show N1 xs v m h (kE h K);dsimp only[N1,push_cast];have G:=f.on_.slen;have H:=f.order_.slen;have S:=f.columns_.slen;have T:=f.group_.slen;have k1:=E.wher;have k2:=E.columns;have k3:=E.on;have k4:=E.group;have k5:=E.order;have W:=fS [v.op,v.table,v.limit,v.left,v.right];have X:=fS [(v.columns.len:Int)];have n3:=fS t.columns;have Y:=fS [(v.on.len:Int)];have Z:=fS [(v.group.len:Int)];have n6:=fS t.group;have n7:=fS [(v.order.len:Int)];have n8:=Hr t.on;simp only[length_cons,length_nil]at W X Y Z n7;simp only[stepB,dD, <-append_assoc]at F;rw[<-f.op_, <-f.table_, <-f.limit_, <-f.left_, <-f.right_, <-S, <-G, <-T, <-H]at F;intro z D d u;refine⟨_,z,[v.op,v.table,v.limit,v.left,v.right],rfl,.ofRow u bj,j,by simp only[length_cons,length_nil];omega,_,v.where_,t.wher,rfl,f.where_.mono d,j,by simp only[length_append,aZ];omega,λs2 h2 I r2=>⟨_,s2,[(v.columns.len:Int)],rfl,.ofRow r2 bj,j,by simp only[length_append,aZ,length_cons,length_nil];omega,_,v.columns,t.columns,rfl,f.columns_.mono (d.trans I),j,by simp only[length_append,aZ];omega,λs3 h3 U r3=>⟨_,s3,[(v.on.len:Int)],rfl,.ofRow r3 bj,j,by simp only[length_append,aZ,length_cons,length_nil];omega,?_⟩⟩⟩;generalize hP:xs++bE (gV [v.op,v.table,v.limit,v.left,v.right])++bE (pS t.wher)++bE (gV [(v.columns.len:Int)])++bE (gV t.columns)++bE (gV [(v.on.len:Int)])=P at F⊢
 have lP:P.length<=30000000000:=by rw[<-hP];simp only[length_append,aZ];omega
 have J:=(d.trans I).trans U;clear hP u r2 r3 W X n3 Y;refine⟨λ⟨i,L,y⟩=>i<=t.on.length/\PH.le h y/\L=P++bE (tQ (t.on.take i)),λ⟨i,_,_⟩=>t.on.length-i,⟨(0,P,h3),⟨aD,J,by simp[tQ,bE]⟩,MT⟩,?_⟩;rintro⟨i,L,y⟩ ⟨hi,c,rfl⟩;dsimp only;refine aF (λn=>?_) (λM=>?_)
 .obtain⟨x,g⟩:=eF G n;obtain⟨b,o,e,r⟩:=(f.on_.mono c).at g;have q1:=Hr (t.on.take i);have q2:(t.on.take i).length=i:=by simp;omega
  refine⟨b,o,e,aD,n,x,.imm r,aD,aD,aD,aD,λz D d u=>⟨_,z,[x.1,x.2],rfl,.ofRow u bj,j,?_,(i+1,P++bE (tQ (t.on.take (i+1))),D),⟨aD,c.trans d,rfl⟩,by show t.on.length-(i+1)<t.on.length-i;omega,?_⟩⟩
  .simp only[length_append,aZ,length_cons,length_nil];omega
  .rw[Ty g,dD, <-append_assoc];exact MT
 rw[take_of_length_le aD];intro s4 h4 A r4;refine⟨_,s4,[(v.group.len:Int)],rfl,.ofRow r4 bj,j,by simp only[length_append,aZ,length_cons,length_nil];omega,_,v.group,t.group,rfl,f.group_.mono (c.trans A),j,by simp only[length_append,aZ];omega,λs5 h5 O r5=>⟨_,s5,[(v.order.len:Int)],rfl,.ofRow r5 bj,j,by simp only[length_append,aZ,length_cons,length_nil];omega,?_⟩⟩;generalize hQ:P++bE (tQ t.on)++bE (gV [(v.group.len:Int)])++bE (gV t.group)++bE (gV [(v.order.len:Int)])=Q at F⊢
 have lQ:Q.length<=200000000000:=by rw[<-hQ];simp only[length_append,aZ];omega
 have R:=(c.trans A).trans O;clear hQ r4 r5 Z n6 n7 n8 c M hi A O;clear i y;refine⟨λ⟨i,L,y⟩=>i<=t.order.length/\PH.le h y/\L=Q++bE (tP (t.order.take i)),λ⟨i,_,_⟩=>t.order.length-i,⟨(0,Q,h5),⟨aD,R,by simp[tP,bE]⟩,MT⟩,?_⟩;rintro⟨i,L,y⟩ ⟨hi,c,rfl⟩;dsimp only;refine aF (λn=>?_) (λM=>?_)
 .obtain⟨x,g⟩:=eF H n;obtain⟨b,o,e,r⟩:=(f.order_.mono c).at g;have q1:=M4 (t.order.take i);have q2:(t.order.take i).length=i:=by simp;omega
  refine⟨b,o,e,aD,n,x,.imm r,aC (λV z D d u=>⟨_,z,[x.1,1],rfl,.ofRow u bj,j,?_,(i+1,Q++bE (tP (t.order.take (i+1))),D),⟨aD,c.trans d,rfl⟩,by show t.order.length-(i+1)<t.order.length-i;omega,?_⟩) (λV z D d u=>⟨_,z,[x.1,0],rfl,.ofRow u bj,j,?_,(i+1,Q++bE (tP (t.order.take (i+1))),D),⟨aD,c.trans d,rfl⟩,by show t.order.length-(i+1)<t.order.length-i;omega,?_⟩)⟩
  .simp only[length_append,aZ,length_cons,length_nil];omega
  .rw[Lr g,dD,V, <-append_assoc];exact MT
  .simp only[length_append,aZ,length_cons,length_nil];omega
  .rw[Lr g,dD,V, <-append_assoc];exact MT
 rw[take_of_length_le aD];exact .out (Sub.refl m) c F
def BI(q:Query):Prop:=
 match q with
 |.mk op ta w co on gr od li args=>LY ⟨op,ta,w,co,on,gr,od,li,0,0⟩/\∀a∈args,BI a
 termination_by SizeOf.sizeOf q
def Steps(h:PH)(vs:List uD)(ts:ck):Prop:=vs.length=ts.length/\∀(i:Nat) t,ts[i]? =some t->∃v,vs[i]? =some v/\sA h t v
theorem Tq{op:Int}{w:Pred}{on:bz}{args:cg}:
 BI (.mk op ta w co on gr od li args)↔LY ⟨op,ta,w,co,on,gr,od,li,0,0⟩/\∀a∈args,BI a:=by rw[BI.eq_def]
theorem eC.blk{s:Sl}{E:Nat}(h:eC m s E sz xs)(e:s.a=some ⟨b,i,none⟩):∃c,m b=some (.cells c E (0,0)):=by
 rcases h.ex with⟨rfl,_⟩|⟨g,d,c,rfl,f,_⟩
 .cases e
 .simp only[Option.some.injEq,Addr.mk.injEq]at e;rw[<-e.1];exact⟨c,f⟩
theorem eC.slen{s:Sl}{E:Nat}(h:eC m s E sz xs):s.len=xs.length:=by
 rcases h.ex with⟨rfl,rfl⟩|⟨e,c,d,rfl,f,_⟩<;>rfl
theorem eC.keep{s:Sl}{E:Nat}(h:eC m s E sz xs)(e:∀b i,s.a=some ⟨b,i,none⟩->m' b=m b):eC m' s E sz xs:=by
 refine⟨h.rows,?_⟩;rcases h.ex with f|⟨b,c,d,rfl,g,j⟩
 .exact .inl f
 .exact .inr ⟨b,c,d,rfl,by rw[e b 0 rfl];exact g,j⟩
def Bo(t:Step):ByteArray:=⟨(stepB t).toArray⟩
def bR(t:Step)(ts:ck):ck×Nat:=match ts.findIdx? (λx=>stepB x==stepB t)with
 |some k=>(ts,k)
 |none=>(ts++[t],ts.length)
structure fH(m0 m:MH)(h:PH)(cb mb:Nat)(ts:ck)(rs:bt):Prop where
 sub:Sub m0 m
 cb0:m0 cb=none
 mb0:m0 mb=none
 map_:vR m mb (ts.mapIdx λi t=>(.string (Bo t),.int .i64 i))
 nodup:(ts.map stepB).Nodup
 ex:∃s r,m cb=some (.cells #[.slice s.a s.len s.cap,.slice r.a r.len r.cap,.map (some mb)] 103 (0,0))/\(∃vs,eC m s 111 22 (vs.map uD.enc)/\Steps h vs ts)/\eC m r 3 1 (rs.map eI)/\
  (∀b i,s.a=some ⟨b,i,none⟩->m0 b=none)/\(∀b i,r.a=some ⟨b,i,none⟩->m0 b=none)
def Rv:Vc.Spec:=λc m h K=>∃v t d cb e ts rs,c=[cP cb,aT v]/\sA h t v/\LY t/\fH d m h cb e ts rs/\fM d/\ts.length<=100000/\
 ∀m' h',PH.le h h'->fH d m' h' cb e (bR t ts).1 rs->K (cI (bR t ts).2) m' h'
noncomputable def beJ:Ctx:=uC [(82,byZ),(78,XW),(79,MU),(80,SJ),(83,Y1)] [] [] [] [1050] [(82,[0])] false
abbrev NB(a:uD->Step->Prop):Prop:=∃(x:uD)(c:Step),a x c
noncomputable abbrev mQ(a:uD):CV:=lG a.enc
noncomputable abbrev mK(a:Nat):bw:=kL (Value.map (Option.some a))
noncomputable abbrev D5(a:cn):Value:=Value.string (ByteArray.mk (Array.mk a))
abbrev I0(a:Sl)(b:PH)(c:bz->Prop):Prop:=Ke (λx d=>aA (iN a=iN x) (iD b x d) (c d))
abbrev RW(a:Sl->ca->Prop):Prop:=∃(x:Sl)(c:ca),a x c
noncomputable abbrev Ms(a:Int)(b:Value)(c:Int)(d:PV)(e:bw):bw:=aR (dY a) b (aR (dY c) (dY d.cmp) (aR (kC d.left) (kD d.left) (aR (dY (jK d.left)) (kJ d.left) e)))
attribute [push_cast] NB mQ mK D5 I0 RW Ms
def Us(cb:Nat)(v:uD)(m:MH)(h:PH)(K:bu):Prop:=
  ∃(x:List bw),NB (λG t=>aA (sU [] (mQ v)=sU x (mQ G)) (sA h t G) (aA (LY t) (fM m) (lR x.length/\∃(b:cn),gZ x (stepB t)=bE b/\∃(y:Nat),aU m h cb 2 (mK y)/\∃(k:List (Value×Int))(O:Value->Prop),aA (vR m y (List.map (fun(p:Value×Int)=>(p.1,dY p.2)) k)) (Et O) (aA (O (D5 b)) (∀(e:Value×Int),List.Mem e k->O e.1) (((∀(e:Value×Int),List.Mem e k->e.1=D5 b->False)->qG (λH p=>oB (cZ v.where_) (cZ H) (eH h p H) (IF h p (λc I=>uO v.columns I (λl=>∀(s:Sl)(j:PH),cD I j (Ints j s l) (I0 v.on j (λT=>∀(J:Sl)(n:PH),cD j n (iD n J T) (uO v.group n (λU=>∀(L:Sl)(u:PH),cD n u (Ints u L U) (RW (λM P=>aA (iN
 v.order=iN M) (jD u M P) (∀(Q:Sl)(f:PH),cD u f (jD f Q P) (∃(g:Sl),aU m f cb 0 (aY g)/\∃(d:Sl),aA (aU m f cb 0 (aY d)) (aU m f cb 0 (aY d)) (∃(z:List bw),aI (eC m (Sl.mk d.a d.len d.cap) 111 22 z) (iF (jJ z 1) 272) (lO z) (oD (λR S=>jP m S (Sl.mk d.a d.len d.cap) R 111 22 (fK z (Ms v.op (dY v.table) c.op c (aR (jW c.left) (kC c.right) (aR (kD c.right) (dY (jK c.right)) (aR (kJ c.right) (jW c.right) (aR (gU c.args) (gU s) (aR (gU J) (gU L) (aR (gU Q) (dY v.limit) (CG v.left v.right)))))))))->uM S cb (gU R) (λD=>∃(A:Nat),aU D f cb 2 (mK A)/\IZ D A (λO1=>O1 (D5 b)) (λE=>E) (λe=>e) (D5 b) (λE=>∀(F:MH),pX D F A->vR F
 A (E++CL (D5 b) (dY (aG g)))->K (eG (aG g)) F f))))))))))))))))))/\∀(g:Int),List.Mem (D5 b,g) k->K (eG g) m h)))))
theorem Vj(h:∀x∈ts,stepB x≠stepB t):bR t ts=(ts++[t],ts.length):=by
 unfold bR;rw[findIdx?_eq_none_iff.2 λx c=>bo (h x c)]
theorem Vi{x:Step}(g:(ts.map stepB).Nodup)(n:ts[i]? =some x)(e:stepB x=stepB t):bR t ts=(ts,i):=by
 unfold bR;obtain⟨d,f⟩:=List.getElem?_eq_some_iff.1 n
 have:ts.findIdx? (λx=>stepB x==stepB t)=some i:=by
  rw[findIdx?_eq_some_iff_getElem];refine⟨d,by simpa[f]using e,λj u=>?_⟩;intro c;have c:stepB ts[j]=stepB t:=bo c
  have:=(getElem_inj (h₀:=by simp;omega) (h₁:=bo d) g (i:=j) (j:=i)).1 (by simp[c,f,e]);omega
 rw[this]
theorem dH(t:Step)(ts:ck):(bR t ts).1.length<=ts.length+1:=by
 unfold bR;split<;>simp
theorem fH.mono{m0:MH}{f:Nat}(c:fH m0 m h cb f ts rs)(le:PH.le h h'):fH m0 m h' cb f ts rs:=by
 obtain⟨s,r,d,⟨g,j,n,u⟩,x⟩:=c.ex;exact⟨c.sub,c.cb0,c.mb0,c.map_,c.nodup,s,r,d,⟨g,j,n,λi t e=>let⟨v,d,e2⟩:=u i t e;⟨v,d,e2.mono le⟩⟩,x⟩
theorem TJ{ts:ck}{k:Value}{y:Int}(h:(k,y)∈ts.mapIdx λi t=>(Value.string (Bo t),(i:Int))):∃(i:Nat)(t:Step),ts[i]? =some t/\k= .string (Bo t)/\y=i:=by
 obtain⟨i,c,e⟩:=mem_mapIdx.1 h;simp only[Prod.mk.injEq]at e;exact⟨i,ts[i],getElem?_eq_getElem c,e.1.symm,e.2.symm⟩
theorem JS{a b:Step}:Value.string (Bo a)=Value.string (Bo b)↔stepB a=stepB b:=by
 constructor
 .intro h;have:=congrArg (λv=>match v with|Value.string s=>s.data.toList|_=>[]) h;simpa[Bo]using this
 .intro h;unfold Bo;rw[h]
theorem Db:br 47 Rv:=by
 refine hJ func47 ?_;rintro b3 m h K ⟨v,t,m0,cb,g,ts,rs,rfl,n,hk,c,ht,hl,hK⟩;refine⟨beJ,rfl,aE ZS (aE PL (aE Ks (aE PK (aE ZR aH)))),Us cb v m h K,bi,?_⟩;dsimp only[Us,push_cast];obtain⟨s,r,f,⟨vs,hr,U,a7⟩,a',a0,a8⟩:=c.ex;have Q:=eC.slen hr;rw[length_map,U]at Q
 have a1:(ts.mapIdx λi t=>(Value.string (Bo t),(i:Int))).map (λp=>(p.1,dY p.2))=ts.mapIdx λi t=>(.string (Bo t),.int .i64 i):=by
  apply ext_getElem?;intro i;simp only[getElem?_map,getElem?_mapIdx,Option.map_map];rfl
 have a9:∀b i,s.a=some ⟨b,i,none⟩->b≠cb:=λb i e J=>by
  obtain⟨O,d⟩:=eC.blk hr e;rw[J,f]at d;cases d
 have R:cb≠g:=λe=>by
  obtain⟨es,cl,d,_⟩:=c.map_.ex;rw[<-e,f]at d;cases d
 refine⟨[],v,t,rfl,n,hk,ht.sub c.sub,bj,stepB t,rfl,g,.of_m f rfl,ts.mapIdx λi t=>(.string (Bo t),(i:Int)),_,by rw[a1];exact c.map_,Bm,⟨_,rfl⟩,λe he=>?_,λb'=>⟨v.where_,t.wher,rfl,n.where_,λv1 h1 z r1=>⟨v.columns,t.columns,rfl,n.columns_.mono z,λs2 h2 A r2=>⟨v.on,t.on,rfl,n.on_.mono (z.trans A),λs3 d D r3=>⟨v.group,t.group,rfl,n.group_.mono ((z.trans A).trans D),λs4 h4 E r4=>⟨v.order,t.order,rfl,n.order_.mono (((z.trans A).trans D).trans E),λs5 h5 F r5=>?_⟩⟩⟩⟩⟩,λy hy=>?_⟩
 .obtain⟨i,t',_,G,_⟩:=TJ (k:=e.1) (y:=e.2) he;exact⟨Bo t',G⟩
 .have H:∀x∈ts,stepB x≠stepB t:=by
   intro x L e;obtain⟨i,M⟩:=mem_iff_getElem?.1 L;have P:=(List.getElem?_eq_some_iff.1 M).1;refine b' (.string (Bo x),(i:Int)) ?_ (JS.2 e);refine mem_mapIdx.2 ⟨i,P,?_⟩;rw[getElem?_eq_getElem P]at M;cases M;rfl
  rw[Vj H]at hK;have le:PH.le h h5:=(((z.trans A).trans D).trans E).trans F;have b0:sA h5 t ⟨v.op,v.table,v1,s2,s3,s4,s5,v.limit,v.left,v.right⟩:=⟨n.op_,n.table_,r1.mono (((A.trans D).trans E).trans F),r2.mono ((D.trans E).trans F),r3.mono (E.trans F),r4.mono F,r5,n.limit_,n.left_,n.right_⟩
  have V:aU m h5 cb 0 [.slice s.a s.len s.cap]:=.of_m f rfl;refine⟨s,V,s,V,V,vs.map uD.enc,hr,by rw[length_map];omega,by rw[length_map];omega,λs' m1 W=>?_⟩;have S:m1 cb=some (.cells #[.slice s.a s.len s.cap,.slice r.a r.len r.cap,.map (some g)] 103 (0,0)):=W.other cb _ f (λi e=>a9 cb i e rfl);refine⟨_,_,⟨S⟩,bj,λm2 X=>?_⟩;have X:iV m1 m2 cb (.cells #[.slice s'.a s'.len s'.cap,.slice r.a r.len r.cap,.map (some g)] 103 (0,0)):=X;obtain⟨es,cl,Y,b1⟩:=c.map_.ex
  have T:m1 g=some (.map es cl):=W.other g _ Y (λi e=>by
   obtain⟨O,d⟩:=eC.blk hr e;rw[Y]at d;cases d)
  have a2:m2 g=some (.map es cl):=by rw[X.other g (Ne.symm R)];exact T
  refine⟨g,.of_m X.at_ rfl,ts.mapIdx λi t=>(.string (Bo t),.int .i64 i),_,⟨es,cl,a2,b1⟩,Bm,⟨_,rfl⟩,λe he=>?_,λe he J=>?_,λm3 Z a3=>?_⟩
  .obtain⟨i,M,G⟩:=mem_mapIdx.1 he;exact⟨Bo ts[i],by rw[<-G]⟩
  .obtain⟨i,M,G⟩:=mem_mapIdx.1 he;rw[<-G]at J;exact H ts[i] (getElem_mem M) (JS.1 J)
  .rw[Q]at a3⊢
   have a4:∀b i,s'.a=some ⟨b,i,none⟩->b≠cb:=λb i e J=>by
    obtain⟨O,d⟩:=eC.blk W.row e;rw[J,S]at d;cases d
   have a5:∀b i,s'.a=some ⟨b,i,none⟩->b≠g:=λb i e J=>by
    obtain⟨O,d⟩:=eC.blk W.row e;rw[J,T]at d;cases d
   have a6:∀b o,m b=some o->b≠cb->b≠g->(∀i,s.a≠some ⟨b,i,none⟩)->m3 b=some o:=λb o e n1 n2 n3=>by
    rw[Z.other b n2,X.other b n1];exact W.other b o e n3
   refine hK m3 h5 le ⟨λb o e=>a6 b o (c.sub b o e) (λI=>by rw[I,c.cb0]at e;cases e) (λI=>by rw[I,c.mb0]at e;cases e) (λi I=>by rw[a0 b i I]at e;cases e),c.cb0,c.mb0,?_,?_,s',r,?_,⟨vs++[⟨v.op,v.table,v1,s2,s3,s4,s5,v.limit,v.left,v.right⟩],?_,?_,?_⟩,?_,?_,a8⟩
   .rw[mapIdx_append];simpa[Bo]using a3
   .rw[map_append,nodup_append];refine⟨c.nodup,bj,λa ha b hb=>?_⟩;obtain⟨x,L,rfl⟩:=mem_map.1 ha;simp at hb;rw[hb];exact H x L
   .rw[Z.other cb R];exact X.at_
   .rw[map_append];refine eC.keep W.row (λb i e=>?_);rw[Z.other b (a5 b i e),X.other b (a4 b i e)]
   .simp[U]
   .intro i x L;by_cases M:i<ts.length
    .rw[getElem?_append_left M]at L;obtain⟨u,G,J⟩:=a7 i x L;exact⟨u,by rw[getElem?_append_left aD];exact G,J.mono le⟩
    .rw[getElem?_append_right aD]at L;have P:=(List.getElem?_eq_some_iff.1 L).1;simp at P;have:i=ts.length:=by omega
     subst this;simp at L;subst L;exact⟨_,by rw[getElem?_append_right aD,U];simp,b0⟩
   .refine eC.keep a' (λb i e=>?_);obtain⟨O,d⟩:=eC.blk a' e;rw[d];refine a6 b _ d (λI=>?_) (λI=>?_) (λj I=>?_)
    .rw[I,f]at d;cases d
    .rw[I,Y]at d;cases d
    .obtain⟨b2,h4⟩:=eC.blk hr I;rw[h4]at d;cases d
   .intro b i e;rcases W.fresh b i e with h1|⟨j,h1⟩
    .cases e0:m0 b with
     |none=>rfl
     |some o=>rw[c.sub b o e0]at h1;cases h1
    .exact a0 b j h1
 .obtain⟨i,t',M,G,rfl⟩:=TJ hy;have G:stepB t=stepB t':=JS.1 G;rw[Vi c.nodup M G.symm]at hK;exact hK m h (.refl _) c
inductive PN where
 |mk (q:Query) (args:List PN) (rows env:Nat) (width:Int)
abbrev dn:=List PN
def PN.q:PN->Query
 |.mk q _ _ _ _=>q
def PN.args:PN->dn
 |.mk _ a _ _ _=>a
def PN.rows:PN->Nat
 |.mk _ _ r _ _=>r
def PN.env:PN->Nat
 |.mk _ _ _ e _=>e
def PN.width:PN->Int
 |.mk _ _ _ _ w=>w
mutual
def mF(h:PH):PN->fT->Prop
 |.mk q args r e w,v=>eO h q v.query/\v.rows=(r:Int)/\v.env=(e:Int)/\v.width=w/\args.length<=1000/\∃c:List fT,dK h v.args 25 (c.map fT.enc)/\j7 h args c
def j7(h:PH):dn->List fT->Prop
 |[],d=>d=[]
 |p::ps,d=>∃v c,d=v::c/\mF h p v/\j7 h ps c
end
mutual
theorem mF.mono{h h':PH}(le:PH.le h h'):∀{p:PN}{v:fT},mF h p v->mF h' p v
 |.mk ..,_,⟨c,d,e,f,g,j,n,u⟩=>⟨c.mono le,d,e,f,g,j,n.mono le,j7.mono le u⟩
theorem j7.mono{h h':PH}(le:PH.le h h'):∀{ps:dn}{vs:List fT},j7 h ps vs->j7 h' ps vs
 |[],_,h=>h
 |_::_,_,⟨v,c,d,e,f⟩=>⟨v,c,d,mF.mono le e,j7.mono le f⟩
end
theorem j7.length{h:PH}:∀{ps:dn}{vs:List fT},j7 h ps vs->vs.length=ps.length
 |[],_,h=>by rw[show _=[]from h];rfl
 |_::_,_,⟨_,_,c,_,d⟩=>by rw[c];simp[j7.length d]
theorem j7.get{h:PH}:∀{ps:dn}{vs:List fT},j7 h ps vs->∀{i:Nat}{p:PN},ps[i]? =some p->∃v,vs[i]? =some v/\mF h p v
 |[],_,_,i,p,e=>by simp at e
 |p0::ps,_,⟨v,c,rfl,d,f⟩,0,p,e=>by simp at e;subst e;exact⟨v,rfl,d⟩
 |p0::ps,_,⟨v,c,rfl,d,f⟩,i+1,p,e=>by simp at e;simpa using j7.get f e
theorem j7.snoc{h:PH}{p:PN}{v:fT}(x:mF h p v):∀{ps:dn}{vs:List fT},j7 h ps vs->j7 h (ps++[p]) (vs++[v])
 |[],_,h=>by rw[show _=[]from h];exact⟨v,[],rfl,x,rfl⟩
 |_::_,_,⟨u,c,d,e,f⟩=>⟨u,c++[v],by rw[d];rfl,e,j7.snoc x f⟩
def Fh(op:Int):Bool:=op==7||op==9||op==10
def Dk(s:iJ)(op ta:Int)(co:bt)(ps:dn):Int:=
 if op=1 then((iA s ta).length:Int)else if op=3 then(co.length:Int)else
 if op=4 then(ps.map PN.width).getD 0 0+(ps.map PN.width).getD 1 0 else(ps.map PN.width).getD 0 0
def xJ(op ta:Int)(w:Pred)(co:bt)(on:bz)(gr:bt)(od:ca)(li:Int)(ks:cu):Step:=
 ⟨op,ta,w,co,on,gr,od,li,((ks.getD 0 0:Nat):Int),((ks.getD 1 0:Nat):Int)⟩
def Xv(s:iJ)(op ta:Int)(w:Pred)(co:bt)(on:bz)(gr:bt)(od:ca)(li:Int)(args:cg)(ps:dn)(ts:ck):PN×ck:=
 let a:=bR (xJ op ta w co on gr od li (ps.map PN.rows)) ts
 if Fh op=true then(.mk (.mk op ta w co on gr od li args) ps a.2 ((ps.map PN.env).getD 0 0) (Dk s op ta co ps),a.1)
 else
  let b:=bR (xJ op ta w co on gr od li (ps.map PN.env)) a.1
  (.mk (.mk op ta w co on gr od li args) ps a.2 b.2 (Dk s op ta co ps),b.1)
mutual
def eK(s:iJ):Query->ck->PN×ck
 |.mk op ta w co on gr od li args,ts=>Xv s op ta w co on gr od li args (dM s args ts).1 (dM s args ts).2
def dM(s:iJ):cg->ck->dn×ck
 |[],ts=>([],ts)
 |q::qs,ts=>((eK s q ts).1::(dM s qs (eK s q ts).2).1,(dM s qs (eK s q ts).2).2)
end
def dE(l r:Int)(on:bz):Step:=⟨5,0,eJ,[],on,[],[],0,l,r⟩
def cK(l r:Int):Step:=⟨8,0,eJ,[],[],[],[],0,l,r⟩
def lZ(l:Int)(co:bt):Step:=⟨3,0,eJ,co,[],[],[],0,l,0⟩
def Nk(l r:Int)(gr:bt)(od:ca)(li:Int):Step:=⟨10,0,eJ,[],[],gr,od,li,l,r⟩
def gH(a n:Int):bt:=(List.range n.toNat).map fun(i:Nat)=>a+(i:Int)
def mU(co:bt):bz:=((List.range co.length).filter λi=>decide (co.idxOf (co.getD i 0)=i)).map λi=>(co.getD i 0,(i:Int))
def oJ(on:bz):bz:=on.map λp=>(p.2,p.1)
def rG(gr:bt):bz:=gr.map λc=>(c,c)
def z6(a:PN)(d:Int)(gr:bt)(od:ca)(li:Int)(ts:ck):ck×Nat:=
 let x:=bR (dE a.env d (rG gr)) ts
 bR (Nk x.2 a.rows gr od li) x.1
def Am(a n:Int):bz:=(List.range n.toNat).map fun(i:Nat)=>(a+(i:Int),(i:Int))
def eZ(p:PN)(d:Int)(ts:ck)(rs:bt):ck×bt:=
 match p with
 |.mk (.mk op _ _ co on gr od li _) args _ _ _=>
  match args with
  |[]=>if op=1 then(ts,rs++[d])else(ts,rs)
  |[a]=>
   if op=2 then eZ a d ts rs
   else if op=3 then(let x:=bR (dE a.env d (mU co)) ts;eZ a x.2 x.1 rs)
   else if op=9 then(let x:=z6 a d gr od li ts;eZ a x.2 x.1 rs)
   else(ts,rs)
  |a::b::_=>
   if op=4 then
    let x:=bR (dE d b.rows (Am a.width b.width)) ts
    let y:=bR (lZ x.2 (gH 0 a.width)) x.1
    let z:=eZ a y.2 y.1 rs
    let u:=bR (lZ d (gH a.width b.width)) z.1
    eZ b u.2 u.1 z.2
   else if op=5 then
    let x:=bR (dE d b.rows on) ts
    let z:=eZ a x.2 x.1 rs
    let y:=bR (dE b.env d (oJ on)) z.1
    eZ b y.2 y.1 z.2
   else if op=6 then
    let x:=bR (cK a.env d) ts
    let z:=eZ a x.2 x.1 rs
    let y:=bR (cK b.env d) z.1
    eZ b y.2 y.1 z.2
   else if op=7\/op=8 then
    let z:=eZ a d ts rs
    let x:=bR (cK b.env d) z.1
    let y:=bR (cK x.2 a.rows) x.1
    eZ b y.2 y.1 z.2
   else if op=10 then
    let z:=eZ a d ts rs
    let x:=z6 b d gr od li z.1
    eZ b x.2 x.1 z.2
   else(ts,rs)
 termination_by SizeOf.sizeOf p
def XM:Vc.Spec:=λc m h K=>∃l r:Int,∃o on d cb e ts rs,c=[cP cb,cI l,cI r,cS o]/\iD h o on/\on.length<=1000/\fH d m h cb e ts rs/\fM d/\ts.length<=100000/\
 ∀m' h',PH.le h h'->fH d m' h' cb e (bR (dE l r on) ts).1 rs->K (cI (bR (dE l r on) ts).2) m' h'
def YV:Vc.Spec:=λc m h K=>∃l r:Int,∃d cb e ts rs,c=[cP cb,cI l,cI r]/\fH d m h cb e ts rs/\fM d/\ts.length<=100000/\
 ∀m' h',PH.le h h'->fH d m' h' cb e (bR (cK l r) ts).1 rs->K (cI (bR (cK l r) ts).2) m' h'
def aVQ:Vc.Spec:=λd m h K=>∃l:Int,∃c co e cb f ts rs,d=[cP cb,cI l,cS c]/\Ints h c co/\co.length<=1000/\fH e m h cb f ts rs/\fM e/\ts.length<=100000/\
 ∀m' h',PH.le h h'->fH e m' h' cb f (bR (lZ l co) ts).1 rs->K (cI (bR (lZ l co) ts).2) m' h'
def btX:Vc.Spec:=λc m h K=>∃a n:Int,c=[cI a,cI n]/\0<=a/\0<=n/\a<=1000/\n<=1000/\∀s h',PH.le h h'->Ints h' s (gH a n)->K (cS s) m h'
def bsZ:Vc.Spec:=λc m h K=>∃s on,c=[cS s]/\iD h s on/\on.length<=1000/\∀s h',PH.le h h'->iD h' s (oJ on)->K (cS s) m h'
def aYX:Vc.Spec:=λc m h K=>∃s l x,∃i:Nat,c=[cS s,cI x]/\Ints h s l/\l[i]? =some x/\K (cI (l.idxOf x:Nat)) m h
def a0Q:Vc.Spec:=λc m h K=>∃s co,c=[cS s]/\Ints h s co/\co.length<=1000/\∀s h',PH.le h h'->iD h' s (mU co)->K (cS s) m h'
def aPN(v:fT):CV:=.val (.agg ⟨v.enc⟩)
def aVX:Vc.Spec:=λc m h K=>∃v p d f op ta w co on gr od li args e cb g ts rs,c=[cP cb,aPN v,cI d,aQ f]/\mF h p v/\eO h (.mk op ta w co on gr od li args) f/\gr.length<=1000/\od.length<=1000/\fH e m h cb g ts rs/\fM e/\ts.length<=99999/\
 ∀m' h',PH.le h h'->fH e m' h' cb g (z6 p d gr od li ts).1 rs->K (cI (z6 p d gr od li ts).2) m' h'
noncomputable def a9Z(a n:Int)(m:MH)(h:PH):Ctx:=
 cW [] [(3,{A:=Nat×bt,st:=λ⟨i,l⟩=>bY 19 21 [(0,iv a),(5,.at (.lst 16)),(7,iv n),(8,iv i)] [(16,.lst 3 1 (l.map eI))] m h})] [] [] false
noncomputable def a9X(s:Sl)(m:MH)(h:PH):Ctx:=
 cW [] [(3,{A:=Nat×bz,st:=λ⟨i,l⟩=>bY 22 23 [(3,.at (.lst 19)),(6,sv s),(7,iv s.len),(8,iv i)] [(19,.lst 91 2 (l.map pY))] m h})] [] [] false
noncomputable def aIZ(s:Sl)(x:Int)(m:MH)(h:PH):Ctx:=
 cW [] [(2,{A:=Nat,st:=λi=>bY 19 21 [(0,sv s),(1,iv x),(7,iv s.len),(8,iv i)] [] m h})] [] [] false
noncomputable def a9J(s:Sl)(m:MH)(h:PH):Ctx:=
 cW [(146,aYX)] [(3,{A:=Nat×bz,st:=λ⟨i,l⟩=>bY 26 27 [(0,sv s),(3,.at (.lst 23)),(6,sv s),(7,iv s.len),(8,iv i)] [(23,.lst 91 2 (l.map pY))] m h})] [] [] false
noncomputable def a9Q(v:fT)(c:QV)(cb:Nat)(d:Int)(m:MH)(h:PH):Ctx:=
 cW [(84,XM),(47,Rv)] [(3,{A:=Nat×bz,st:=λ⟨i,l⟩=>bY 43 47 [(0,pv cb),(2,iv d),(5,.at (.ptr 5 0)),(7,.at (.ptr 7 0)),(9,.at (.lst 24)),(13,sv c.group),(14,iv c.group.len),(15,iv i)] [(5,.cells 107 (v.enc.map .val)),(7,.cells 35 (c.enc.map .val)),(24,.lst 91 2 (l.map pY))] m h})] [] [] false
abbrev Nw(a:Nat->Nat->ck->bt->Prop):Prop:=aW (λx c=>∃(d:ck)(e:bt),a x c d e)
abbrev I9(a:ct)(b:Nat->ct)(c d:Prop)(e:Nat->Option Obj)(g:PH)(i:MH->Nat->Nat->ck->bt->Prop):Prop:=∃(x:MH),Nw (λf n j u=>aA (a=b f) c (aA d (fH x e g f n j u) (aA (fM x) (j.length<=100000) (i x f n j u))))
abbrev DR(a:ct)(b:PH)(c:Nat->Option Obj)(d:Step->ck->MH->PH->Prop):Prop:=NB (λx e=>I9 a (λf=>bK (cT f) (mQ x)) (sA b e x) (LY e) c b (λf u y j z=>eX (λn g=>cD b g (fH f n g u y (bR e j).1 z) (d e j n g))))
noncomputable abbrev uS(a:Int)(b:bw):bw:=DD (dY a) bL b
attribute [push_cast] Nw I9 DR uS
def Ud(cb:Nat)(l r:Int)(o:Sl)(m:MH)(h:PH)(K:bu):Prop:=
  DR (bK (cT cb) (lG (uS 5 (aR E8 bL (aR bL bL (aR bL E8 (aR pO pO (aR (gU o) pO (aR pO bL (CG l r)))))))))) h m (λt c d e=>K (eG (↑(bR t c).2:Int)) d e)
def T9(cb:Nat)(l r:Int)(m:MH)(h:PH)(K:bu):Prop:=
  DR (bK (cT cb) (lG (uS 8 (Ja (CG l r))))) h m (λt c d e=>K (eG (↑(bR t c).2:Int)) d e)
def Ub(cb:Nat)(l:Int)(c:Sl)(m:MH)(h:PH)(K:bu):Prop:=
  DR (bK (cT cb) (lG (uS 3 (Gr (gU c) (nA (dY l) bL))))) h m (λt d e f=>K (eG (↑(bR t d).2:Int)) e f)
def N0(a n:Int)(m:MH)(h:PH)(K:bu):Prop:=
  IT (λI x=>aA (I x) (dO a) (aA (eL 16) (dO n) (aA (bF x.1) (rJ (lM x)) (aA (m=m) (h=h) True)))) (λI d x=>I x->bA (↑x.1:Int) n (jZ (lM x) 8 (∃(c:Nat×bt),aA (I c) (d c<d x) (aA (dO a) (eL 16) (aA (dO n) (fU (bG x.1 1)=bP c.1) (aA (rK (lM x) (iE (a+(↑x.1:Int))) (lM c)) (m=m) (bD h h)))))) (sW h (lM x) K m))
abbrev Mp(a:(Nat×bz->Prop)->(Nat×bz)->Prop)(b:(Nat×bz->Prop)->(Nat×bz->Nat)->(Nat×bz)->Prop):Prop:=∃(x:Nat×bz->Prop)(d:Nat×bz->Nat),(∃(c:Nat×bz),a x c)/\∀(c:Nat×bz),b x d c
noncomputable abbrev pF(a:Nat×bz):List bw:=Er a.2
attribute [push_cast] Mp pF
def Ua(s:Sl)(m:MH)(h:PH)(K:bu):Prop:=
  Mp (λI x=>aA (I x) (eL 19) (aA (aJ s) (bI s) (aA (bF x.1) (tY 91 2 (pF x)) (aA (m=m) (h=h) True)))) (λI d x=>I x->bA (↑x.1:Int) (aG s) (aW (λb o=>aI (aX s.a b o) (0<=(↑x.1:Int)) ((↑x.1:Int)<aG s) (∃(y:Int×Int),aA (aU m h b (bN o x.1 2) (tC y)) (bZ 1) (aA AF (bZ 0) (aI AE (iF (jJ (pF x) 1) 16) (lO (pF x)) (∃(c:Nat×bz),aA (I c) (d c<d x) (aA (eL 19) (aJ s) (aA (bI s) (fU (bG x.1 1)=bP c.1) (aA (cH 91 2 (fK (pF x) (CG y.2 y.1))=cH 91 2 (pF c)) (m=m) (bD h h)))))))))) (cG h 2 (pF x) (λe f=>K (dN e) m f)))
def KH(s:Sl)(x:Int)(m:MH)(h:PH)(K:bu):Prop:=
  mP (λI c=>aA (I c) (aJ s) (aA (dO x) (bI s) (aI (bF c) (m=m) (h=h) True))) (λI e c=>I c->bA (↑c:Int) (aG s) (aW (λb o=>aI (aX s.a b o) (0<=(↑c:Int)) ((↑c:Int)<aG s) (∃(y:Int),aU m h b (bN o c 1) (bJ y)/\dZ x y (K (eG (↑c:Int)) m h) (∃(d:Nat),aA (I d) (e d<e c) (aA (aJ s) (dO x) (aA (bI s) (fU (bG c 1)=bP d) (aA (m=m) (h=h) True))))))) (K (eG (Int.negSucc 0)) m h))
def Uc(s:Sl)(m:MH)(h:PH)(K:bu):Prop:=
  Mp (λI x=>aA (I x) (aJ s) (aA (eL 23) (aJ s) (aA (bI s) (bF x.1) (aA (tY 91 2 (pF x)) (m=m) (bD h h))))) (λI d x=>I x->bA (↑x.1:Int) (aG s) (aW (λb o=>aI (aX s.a b o) (0<=(↑x.1:Int)) ((↑x.1:Int)<aG s) (∃(y:Int),aU m h b (bN o x.1 1) (bJ y)/\Bx (λe l=>∃(f:Int)(i:Nat),aI (bT (dN s) y=bT (dN e) f) (Ints h e l) (l[i]? =Option.some f) (dZ (↑(idxOf f l):Int) (↑x.1:Int) (jZ (pF x) 16 (∃(c:Nat×bz),aA (I c) (d c<d x) (aA (aJ s) (eL 23) (aA (aJ s) (bI s) (aA (fU (bG x.1 1)=bP c.1) (cH 91 2 (fK (pF x) (CG y (↑x.1:Int)))=cH 91 2 (pF c)) (bS (m=m) h h)))))) (∃(c:Nat×bz),aA (I c) (d c<d x) (aA (aJ s) (eL 23) (aA (aJ s)
 (bI s) (aA (fU (bG x.1 1)=bP c.1) (cH 91 2 (pF x)=cH 91 2 (pF c)) (bS (m=m) h h)))))))))) (cG h 2 (pF x) (λe g=>K (dN e) m g)))
abbrev Ge(a:Nat)(b c:Int)(d:Sl)(e:PH)(g:Nat->Option Obj)(i:Int->Int->bz->MH->Nat->Nat->ck->bt->Prop):Prop:=Fp (λx n=>Ke (λu f=>I9 (gP a (eG b::bK (eG c) (dN d))) (λj=>gP j (eG x::bK (eG n) (dN u))) (iD e u f) (lR f.length) g e (λj y z A D=>i x n f j y z A D)))
noncomputable abbrev VR:OV:=OV.mk 0 0 (VV.mk 0 0 (ByteArray.mk (Array.mk [])))
noncomputable abbrev Jb:Pred:=Pred.mk 0 0 VR VR []
noncomputable abbrev wJ(a:bz)(b c:Int):Step:=Step.mk 5 0 Jb [] a [] [] 0 b c
attribute [push_cast] Ge VR Jb wJ
def T8(cb:Nat)(v:fT)(d:Int)(e:QV)(m:MH)(h:PH)(K:bu):Prop:=
  Mp (λI x=>aA (I x) (cQ cb) (aA (dO d) dL (aA iR (eL 24) (aA (aJ e.group) (bI e.group) (aA (bF x.1) (eQ (mZ 107 v.enc)) (aA (fA e) (tY 91 2 (pF x)) (bS (m=m) h h))))))) (λI j x=>I x->bA (↑x.1:Int) (aG e.group) (aW (λb o=>aI (aX e.group.a b o) (0<=(↑x.1:Int)) ((↑x.1:Int)<aG e.group) (∃(y:Int),aI (aU m h b (bN o x.1 1) (bJ y)) (iF (jJ (pF x) 1) 16) (lO (pF x)) (∃(f:Nat×bz),aA (I f) (j f<j x) (aA (cQ cb) (dO d) (aA dL iR (aA (eL 24) (aJ e.group) (aA (bI e.group) (fU (bG x.1 1)=bP f.1) (aA (eQ (mZ 107 v.enc)) (fA e) (aI (cH 91 2 (fK (pF x) (CG y y))=cH 91 2 (pF f)) (m=m) (h=h) True)))))))))) (cG h 2 (pF x) (λs n=>
 Ge cb v.env d s n m (λl r o z c A t D=>eX (λu g=>cD n g (fH z u g c A (bR (wJ o l r) t).1 D) (DR (bK (cT cb) (CV.val (Value.agg (Array.mk (uS 10 (IN e (nA (dY (↑(bR (wJ o l r) t).2:Int)) (dY v.rows)))))))) g u (λE F G H=>K (eG (↑(bR E F).2:Int)) G H)))))))
theorem a2Q(h:PH):eH h eJ gT:=⟨rfl,rfl,rfl,rfl,bj,[],dK.nil _ _,rfl⟩
theorem TP(h:PH):Ints h bW []:=⟨dK.nil _ _,bj⟩
theorem bCJ(h:PH):iD h bW []:=⟨dK.nil _ _,bj⟩
theorem bBZ(h:PH):jD h bW []:=⟨dK.nil _ _,bj⟩
theorem a2X:(pS eJ).length<=1000000000:=by
 have c:=fS [0,0];have d:=fS [0];have g:=xV 0;have f:BL ⟨0,0,⟨0,0,⟨#[]⟩⟩⟩=gV [0,0]++(gV [0]++(jQ 0++[32])++gV [0]++[]):=rfl;have e:pS eJ=gV [0,0]++BL ⟨0,0,⟨0,0,⟨#[]⟩⟩⟩++BL ⟨0,0,⟨0,0,⟨#[]⟩⟩⟩++gV [0]++[]:=rfl;rw[e,f];simp only[length_append,length_cons,length_nil]at*
 omega
theorem bHZ{d:Nat}{l r:Int}{o:Sl}{on:bz}{m0:MH}(e:iD h o on)(n:on.length<=1000)(c:fH m0 m h cb d ts rs)(f:fM m0)(g:ts.length<=100000)
 (j:∀m' h',PH.le h h'->fH m0 m' h' cb d (bR (dE l r on) ts).1 rs->K (cI (bR (dE l r on) ts).2) m' h'):Ud cb l r o m h K:=
 ⟨⟨5,0,gT,bW,o,bW,bW,0,l,r⟩,dE l r on,m0,cb,d,ts,rs,rfl,⟨rfl,rfl,a2Q h,TP h,e,TP h,bBZ h,rfl,rfl,rfl⟩,⟨a2X,by simp[dE],by simp[dE];omega,by simp[dE],by simp[dE]⟩,c,f,g,j⟩
theorem bGJ{d:Nat}{l r:Int}{m0:MH}(c:fH m0 m h cb d ts rs)(e:fM m0)(f:ts.length<=100000)
 (g:∀m' h',PH.le h h'->fH m0 m' h' cb d (bR (cK l r) ts).1 rs->K (cI (bR (cK l r) ts).2) m' h'):T9 cb l r m h K:=
 ⟨⟨8,0,gT,bW,bW,bW,bW,0,l,r⟩,cK l r,m0,cb,d,ts,rs,rfl,⟨rfl,rfl,a2Q h,TP h,bCJ h,TP h,bBZ h,rfl,rfl,rfl⟩,⟨a2X,by simp[cK],by simp[cK],by simp[cK],by simp[cK]⟩,c,e,f,g⟩
theorem bHX{d:Nat}{l:Int}{s:Sl}{m0:MH}(e:Ints h s co)(n:co.length<=1000)(c:fH m0 m h cb d ts rs)(f:fM m0)(g:ts.length<=100000)
 (j:∀m' h',PH.le h h'->fH m0 m' h' cb d (bR (lZ l co) ts).1 rs->K (cI (bR (lZ l co) ts).2) m' h'):Ub cb l s m h K:=
 ⟨⟨3,0,gT,s,bW,bW,bW,0,l,0⟩,lZ l co,m0,cb,d,ts,rs,rfl,⟨rfl,rfl,a2Q h,e,bCJ h,TP h,bBZ h,rfl,rfl,rfl⟩,⟨a2X,by simp[lZ];omega,by simp[lZ],by simp[lZ],by simp[lZ]⟩,c,f,g,j⟩
theorem PJ:br 84 XM:=by
 refine hJ func84 ?_;rintro d m h K ⟨l,r,o,on,u,cb,x,ts,rs,rfl,e,f,c,g,j,n⟩;refine⟨cW [(47,Rv)] [] [] [] false,rfl,aE Db aH,Ud cb l r o m h K,bi,?_⟩;exact bHZ e f c g j n
theorem ZK:br 89 YV:=by
 refine hJ func89 ?_;rintro d m h K ⟨l,r,j,cb,n,ts,rs,rfl,c,e,f,g⟩;refine⟨cW [(47,Rv)] [] [] [] false,rfl,aE Db aH,T9 cb l r m h K,bi,?_⟩;exact bGJ c e f g
theorem ZN:br 86 aVQ:=by
 refine hJ func86 ?_;rintro d m h K ⟨l,s,co,u,cb,x,ts,rs,rfl,e,f,c,g,j,n⟩;refine⟨cW [(47,Rv)] [] [] [] false,rfl,aE Db aH,Ub cb l s m h K,bi,?_⟩;exact bHX e f c g j n
theorem bHQ{a n:Int}(y:0<=a)(z:0<=n)(d:a<=1000)(f:n<=1000)(g:∀s h',PH.le h h'->Ints h' s (gH a n)->K (cS s) m h'):N0 a n m h K:=by
 dsimp only[N0,push_cast];obtain⟨k,rfl⟩:∃k:Nat,n=k:=⟨n.toNat,aD⟩
 refine⟨λ⟨i,l⟩=>i<=k/\l=gH a (i:Nat),λ⟨i,_⟩=>k-i,⟨(0,[]),⟨aD,rfl⟩,MT⟩,?_⟩;rintro⟨i,l⟩ ⟨A,rfl⟩;dsimp only;have c:(gH a (i:Nat)).length=i:=by simp[gH]
 refine aF (λj=>?_) (λu s h' le x=>?_)
 .refine⟨by rw[length_map];omega,by rw[length_map];omega,(i+1,gH a ((i+1:Nat):Int)),⟨aD,rfl⟩,by show k-(i+1)<k-i;omega,?_⟩
  have e:gH a ((i+1:Nat):Int)=gH a (i:Nat)++[IntKind.i64.wrap (a+(i:Int))]:=by
   rw[dT aD aD];simp[gH,range_succ]
  rw[e,map_append];exact MT
 .have:i=k:=by omega
  subst this;exact g s h' le ⟨x,by rw[c];omega⟩
theorem ZM:br 87 btX:=by
 refine hJ func87 ?_;rintro c m h K ⟨a,n,rfl,d,e,f,g,j⟩;refine⟨a9Z a n m h,rfl,aH,N0 a n m h K,bi,?_⟩;exact bHQ d e f g j
theorem ZL:br 88 bsZ:=by
 refine hJ func88 ?_;rintro u m h K ⟨s,on,rfl,f,A,y⟩;refine⟨a9X s m h,rfl,aH,Ua s m h K,bi,?_⟩;dsimp only[Ua,push_cast];have d:=f.slen;refine⟨λ⟨i,l⟩=>i<=on.length/\l=oJ (on.take i),λ⟨i,_⟩=>on.length-i,⟨(0,[]),⟨aD,rfl⟩,MT⟩,?_⟩;rintro⟨i,l⟩ ⟨D,rfl⟩;dsimp only;have g:(oJ (on.take i)).length=i:=by simp[oJ];omega
 refine aF (λc=>?_) (λz s h' le j=>?_)
 .obtain⟨x,n⟩:=eF d c;obtain⟨b,o,e,r⟩:=f.at n;refine⟨b,o,e,aD,c,x,.imm r,aD,aD,aD,aD,by rw[length_map];omega,by rw[length_map];omega,(i+1,oJ (on.take (i+1))),⟨aD,rfl⟩,by show on.length-(i+1)<on.length-i;omega,?_⟩;have e:oJ (on.take (i+1))=oJ (on.take i)++[(x.2,x.1)]:=by rw[take_add_one,n];simp[oJ]
  rw[e,map_append];exact MT
 .rw[take_of_length_le aD]at j;exact y s h' le ⟨j,by simp[oJ];omega⟩
theorem axJ{x:Int}(d:l[i]? =some x)(c:∀j y,j<i->l[j]? =some y->x≠y):l.idxOf x=i:=by
 induction l generalizing i with
 |nil=>simp at d
 |cons a l e=>
  cases i with
  |zero=>simp at d;subst d;simp
  |succ i=>
   have f:=c 0 a aD rfl;have g:=e (by simpa using d) (λj y u n=>c (j+1) y aD (by simpa using n));rw[idxOf_cons,show(a==x)=false by simpa using Ne.symm f,g];rfl
theorem bnQ{s:Sl}{x:Int}{d:Nat}(u:Ints h s l)(F:l[d]? =some x)(G:K (cI (l.idxOf x:Nat)) m h):KH s x m h K:=by
 dsimp only[KH,push_cast];have A:=u.slen;have H:=u.len;have L:=(List.getElem?_eq_some_iff.1 F).1;refine⟨λi=>i<=d/\∀j y,j<i->l[j]? =some y->x≠y,λi=>d-i,⟨0,⟨aD,λj y I=>by omega⟩,MT⟩,?_⟩;rintro i ⟨M,f⟩;refine aF (λg=>?_) (λJ=>by omega);obtain⟨y,n⟩:=eF A g;obtain⟨b,o,e,r⟩:=u.at' n;refine⟨b,o,e,aD,g,y,.imm r,aC (λc=>?_) (λc=>?_)⟩
 .have c:x=y:=bo c
  subst c;rw[axJ n f]at G;exact G
 .have c:x≠y:=bo c
  have:i≠d:=λe=>by subst e;rw[F]at n;cases n;exact c rfl
  refine⟨i+1,⟨aD,λj z I D=>?_⟩,by show d-(i+1)<d-i;omega,MT⟩;by_cases E:j=i
  .subst E;rw[n]at D;cases D;exact c
  .exact f j z aD D
theorem W2:br 146 aYX:=by
 refine hJ func146 ?_;rintro c m h K ⟨s,l,x,i,rfl,d,e,f⟩;refine⟨aIZ s x m h,rfl,aH,KH s x m h K,bi,?_⟩;exact bnQ d e f
def EB(co:bt)(i:Nat):bz:=((List.range i).filter λi=>decide (co.idxOf (co.getD i 0)=i)).map λi=>(co.getD i 0,(i:Int))
theorem NU(co:bt)(i:Nat):(EB co i).length<=i:=by
 have:=length_filter_le (λi=>decide (co.idxOf (co.getD i 0)=i)) (List.range i);simp[EB]at this⊢;omega
theorem ZO:br 85 a0Q:=by
 refine hJ func85 ?_;rintro u m h K ⟨s,co,rfl,g,D,y⟩;refine⟨a9J s m h,rfl,aE W2 aH,Uc s m h K,bi,?_⟩;dsimp only[Uc,push_cast];have j:=g.slen;refine⟨λ⟨i,l⟩=>i<=co.length/\l=EB co i,λ⟨i,_⟩=>co.length-i,⟨(0,[]),⟨aD,rfl⟩,MT⟩,?_⟩;rintro⟨i,l⟩ ⟨E,rfl⟩;dsimp only;have n:=NU co i;refine aF (λd=>?_) (λz s h' le A=>?_)
 .obtain⟨x,f⟩:=eF j d;obtain⟨b,o,e,r⟩:=g.at' f;have F:co.getD i 0=x:=by simp[f]
  have step:EB co (i+1)=EB co i++(if co.idxOf x=i then[(x,(i:Int))]else[]):=by
   simp only[EB,range_succ,filter_append,map_append];congr 1;by_cases e:co.idxOf x=i
   .simp[filter_cons,f,e]
   .simp[filter_cons,f,e]
  refine⟨b,o,e,aD,d,x,.imm r,s,co,x,i,rfl,g,f,aC (λc=>⟨by rw[length_map];omega,by rw[length_map];omega,(i+1,EB co (i+1)),⟨aD,rfl⟩,by show co.length-(i+1)<co.length-i;omega,?_⟩) (λc=>⟨(i+1,EB co (i+1)),⟨aD,rfl⟩,by show co.length-(i+1)<co.length-i;omega,?_⟩)⟩
  .have c:co.idxOf x=i:=by have:=eq_of_beq c;omega
   rw[step,if_pos c,map_append];exact MT
  .have c:co.idxOf x≠i:=λe=>by rw[e]at c;simp at c
   rw[step,if_neg c,append_nil];exact MT
 .have:i=co.length:=by omega
  subst this;exact y s h' le ⟨A,by show(EB co co.length).length<=_;omega⟩
theorem ZJ:br 90 aVX:=by
 refine hJ func90 ?_;rintro P m h K ⟨v,p,d,g,op,ta,w,co,on,gr,od,li,args,H,cb,I,ts,rs,rfl,Q,R,Y,S,c,J,Z,T⟩;refine⟨a9Q v g cb d m h,rfl,aE PJ (aE Db aH),T8 cb v d g m h K,bi,?_⟩;dsimp only[T8,push_cast];have x:=R.parts;have A:=x.group_.slen;refine⟨λ⟨i,l⟩=>i<=gr.length/\l=rG (gr.take i),λ⟨i,_⟩=>gr.length-i,⟨(0,[]),⟨aD,rfl⟩,MT⟩,?_⟩;rintro⟨i,l⟩ ⟨hi,rfl⟩;dsimp only;have L:(rG (gr.take i)).length=i:=by simp[rG];omega
 refine aF (λj=>?_) (λU s h1 n M=>?_)
 .obtain⟨y,O⟩:=eF A j;obtain⟨b,o,e,r⟩:=x.group_.at' O;refine⟨b,o,e,aD,j,y,.imm r,by rw[length_map];omega,by rw[length_map];omega,(i+1,rG (gr.take (i+1))),⟨aD,rfl⟩,by show gr.length-(i+1)<gr.length-i;omega,?_⟩;have e:rG (gr.take (i+1))=rG (gr.take i)++[(y,y)]:=by rw[take_add_one,O];simp[rG]
  rw[e,map_append];exact MT
 .rw[take_of_length_le aD]at M;obtain⟨q,pa,D,z,wd⟩:=p;obtain⟨_,f,u,_⟩:=Q;rw[u,f];have V:(rG gr).length<=1000:=by simp[rG];omega
  have hx:=dH (dE (z:Int) d (rG gr)) ts;refine⟨(z:Int),d,s,rG gr,H,cb,I,ts,rs,rfl,⟨M,aD⟩,V,c.mono n,J,aD,λm1 E F W=>?_⟩;have le:=n.trans F;exact⟨⟨10,0,gT,bW,bW,g.group,g.order,g.limit,_,_⟩,Nk (bR (dE (z:Int) d (rG gr)) ts).2 D gr od li,H,cb,I,_,rs,rfl,⟨rfl,rfl,a2Q E,TP E,bCJ E,x.group_.mono le,x.order_.mono le,x.limit_,rfl,rfl⟩,⟨a2X,by simp[Nk],by simp[Nk],by simp[Nk];omega,by simp[Nk];omega⟩,W,J,by show(bR (dE (z:Int) d (rG gr)) ts).1.length<=100000;omega,λm' h' G X=>T m' h' (le.trans G) X⟩
def aUX:Vc.Spec:=λc m h K=>∃op,c=[cI op]/\K (cB (Fh op)) m h
def YP:Vc.Spec:=λc m h K=>∃v s op ta w co on gr od li args,∃ks:cu,c=[aQ v,cS s]/\eO h (.mk op ta w co on gr od li args) v/\Ints h s (ks.map fun(k:Nat)=>(k:Int))/\∀d,sA h (xJ op ta w co on gr od li ks) d->K (aT d) m h
def aRX:Vc.Spec:=λc m h K=>∃sc v s op ta w co on gr od li args ps d,c=[aS sc,aPN v]/\gA h s sc/\lK s/\eO h (.mk op ta w co on gr od li args) v.query/\dK h v.args 25 (d.map fT.enc)/\j7 h ps d/\((ps.length:Int)=arity op)/\0<=arity op/\(∀p∈ps,0<=p.width/\p.width<=1000)/\K (cI (Dk s op ta co ps)) m h
def Uq(op:Int)(m:MH)(h:PH)(K:bu):Prop:=
  dJ (op==7) (fJ K m h) (op==9) (fJ K m h) (K (xZ (op==10)) m h)
def Ur(v:QV)(s:Sl)(m:MH)(h:PH)(K:bu):Prop:=
  mS (decide (aG s>0)) (aW (λb o=>aI (aX s.a b o) ((0:Int)<=0) (0<aG s) (∃(y:Int),aU m h b (o+0) (bJ y)/\gM (aG s) 1 (aW (λc d=>aI (aX s.a c d) ((0:Int)<=1) (1<aG s) (∃(e:Int),aU m h c (d+1) (bJ e)/\K (uN v v (Gl v (CG y e))) m h))) (K (uN v v (Gl v (nA (dY y) bL))) m h)))) (aG s) 1 (aW (λb o=>aI (aX s.a b o) ((0:Int)<=1) (1<aG s) (∃(y:Int),aU m h b (o+1) (bJ y)/\K (uN v v (Gl v (nA bL (dY y)))) m h))) (K (uN v v (Gl v (nA bL bL))) m h)
noncomputable abbrev wB(a:fT):Int:=a.query.op
attribute [push_cast] wB
def N3(sc:cN)(v:fT)(m:MH)(h:PH)(K:bu):Prop:=
  dJ (wB v==1) (AK (bT (bQ sc) v.query.table) h (λs f=>K (eG (aG s)) m f)) (wB v==3) (K (eG (Cp v.query)) m h) (dZ (wB v) 4 (aW (λb o=>aI (aX v.args.a b o) ((0:Int)<=0) (0<aG v.args) (∃(y:Int),aU m h b (o+0+24) (bJ y)/\aW (λc d=>aI (aX v.args.a c d) ((0:Int)<=1) (1<aG v.args) (∃(e:Int),aU m h c (d+25+24) (bJ e)/\K (eG (iE (y+e))) m h))))) (aW (λb o=>aI (aX v.args.a b o) ((0:Int)<=0) (0<aG v.args) (∃(y:Int),aU m h b (o+0+24) (bJ y)/\K (eG y) m h))))
theorem PR:br 49 aUX:=by
 refine hJ func49 ?_;rintro f m h K ⟨op,rfl,c⟩;refine⟨cW [] [] [] [] false,rfl,aH,Uq op m h K,bi,?_⟩;dsimp only[Uq,push_cast];unfold Fh at c;refine aC (λd=>?_) (λd=>aC (λe=>?_) (λe=>?_))
 .rw[d]at c;exact c
 .rw[d,e]at c;exact c
 .rw[d,e]at c;exact c
theorem Z5:br 48 YP:=by
 refine hJ func48 ?_;rintro g m h K ⟨v,s,op,ta,w,co,on,gr,od,li,args,ks,rfl,j,c,n⟩;refine⟨cW [] [] [] [] false,rfl,aH,Ur v s m h K,bi,?_⟩;dsimp only[Ur,push_cast];have x:=j.parts;have d:=c.slen;rw[length_map]at d;have key:∀l r:Int,l=((ks.getD 0 0:Nat):Int)->r=((ks.getD 1 0:Nat):Int)->K (aT ⟨v.op,v.table,v.where_,v.columns,v.on,v.group,v.order,v.limit,l,r⟩) m h:=λl r u y=>n _ ⟨x.op_,x.table_,x.where_,x.columns_,x.on_,x.group_,x.order_,x.limit_,u,y⟩;have get:∀i,i<ks.length->(ks.map fun(k:Nat)=>(k:Int))[i]? =some ((ks.getD i 0:Nat):Int):=λi z=>by simp[z]
 refine aF (λA=>?_) (λA=>aF (λf=>by omega) (λf=>?_))
 .obtain⟨b,o,e,r⟩:=c.at (get 0 aD);refine⟨b,o,e,aD,aD,_,.imm r,aF (λf=>?_) (λf=>?_)⟩
  .obtain⟨b,o,e,r⟩:=c.at (get 1 aD);exact⟨b,o,e,aD,aD,_,.imm r,key _ _ rfl rfl⟩
  .exact key _ 0 rfl (by rw[getD_eq_getElem?_getD,getElem?_eq_none aD];rfl)
 .exact key 0 0 (by rw[getD_eq_getElem?_getD,getElem?_eq_none aD];rfl) (by rw[getD_eq_getElem?_getD,getElem?_eq_none aD];rfl)
theorem brQ{s:Sl}{vs:List fT}{ps:dn}(d:dK h s 25 (vs.map fT.enc))(f:j7 h ps vs){p:PN}(g:ps[i]? =some p):∃b o v,s.a=some ⟨b,o,none⟩/\bO h b (o+i*25) (fT.enc v)/\mF h p v:=by
 obtain⟨v,j,c⟩:=f.get g;obtain⟨b,o,e,k⟩:=d.get (i:=i) (e:=fT.enc v) (by simp[j]);exact⟨b,o,v,e,k,c⟩
theorem Me{o:Nat}{v:fT}(r:bO h b o (fT.enc v)):bO h b (o+21) [.slice v.args.a v.args.len v.args.cap]/\bO h b (o+22) [dY v.rows]/\bO h b (o+23) [dY v.env]/\bO h b (o+24) [dY v.width]:=by
 refine⟨⟨λj x e=>?_⟩,⟨λj x e=>?_⟩,⟨λj x e=>?_⟩,⟨λj x e=>?_⟩⟩<;>
  (have c:j=0:=(by have:=(List.getElem?_eq_some_iff.1 e).1;simpa using this);subst c;simp at e;subst e)
 .exact r.rd 21 _ rfl
 .exact r.rd 22 _ rfl
 .exact r.rd 23 _ rfl
 .exact r.rd 24 _ rfl
theorem mF.width_{p:PN}{v:fT}(x:mF h p v):v.width=p.width:=by
 cases p;exact x.2.2.2.1
theorem mF.rows_{p:PN}{v:fT}(x:mF h p v):v.rows=p.rows:=by
 cases p;exact x.2.1
theorem mF.env_{p:PN}{v:fT}(x:mF h p v):v.env=p.env:=by
 cases p;exact x.2.2.1
theorem Z6:br 46 aRX:=by
 refine EU func46 ?_;rintro J m h K ⟨sc,v,s,op,ta,w,co,on,gr,od,li,args,ps,W,rfl,L,M,O,D,E,n,f,F,g⟩;refine⟨cW [(81,uK)] [] [] [] false,rfl,aE GL aH,N3 sc v m h (kE h K),bi,?_⟩;show N3 sc v m h (kE h K);dsimp only[N3,push_cast];have x:=O.parts;have P:=x.op_;have Q:v.args.len=ps.length:=by have:=D.len;rw[length_map,E.length]at this;exact this
 have one:op≠1->1<=ps.length:=λc=>by
  unfold arity at n f;simp only[beq_iff_eq,Bool.or_eq_true]at n f;rw[if_neg c]at n f;split at n
  .omega
  .split at n
   .omega
   .rename_i a b;rw[if_neg a,if_neg b]at f;omega
 unfold Dk at g;show branch (v.query.op==1) _ _;rw[P,x.table_]
 have get:∀(i:Nat)(y:i<ps.length),∃b o,v.args.a=some ⟨b,o,none⟩/\bO h b (o+i*25+24) [dY ((ps.map PN.width).getD i 0)]:=λi y=>by
  obtain⟨b,o,u,e,r,R⟩:=brQ D E (getElem?_eq_getElem y);have G:=(Me r).2.2.2;rw[R.width_]at G;exact⟨b,o,e,by simpa[y]using G⟩
 refine aC (λc=>?_) (λc=>aC (λd=>?_) (λd=>aC (λj=>?_) (λj=>?_)))
 .have c:op=1:=bo c
  rw[if_pos c]at g;exact⟨sc,s,ta,rfl,L,M,λX h' le y=>.out (Sub.refl m) le (by rw[y.slen];exact g)⟩
 .have c:op≠1:=bo c
  have d:op=3:=bo d
  rw[if_neg c,if_pos d]at g;exact .here (by rw[x.columns_.slen];exact g)
 .have c:op≠1:=bo c
  have d:op≠3:=bo d
  have j:op=4:=bo j
  rw[if_neg c,if_neg d,if_pos j]at g;have n:(ps.length:Int)=2:=by rw[n,j];rfl
  have z:0<ps.length:=by omega
  have A:1<ps.length:=by omega
  obtain⟨b,o,e,r⟩:=get 0 z;obtain⟨S,T,U,V⟩:=get 1 A;have Y:=F ps[0] (getElem_mem z);have Z:=F ps[1] (getElem_mem A);have H:(ps.map PN.width).getD 0 0=ps[0].width:=by simp[z]
  have I:(ps.map PN.width).getD 1 0=ps[1].width:=by simp[A]
  refine⟨b,o,e,aD,aD,(ps.map PN.width).getD 0 0,.imm (bo r),S,T,U,aD,aD,(ps.map PN.width).getD 1 0,.imm (bo V),.here ?_⟩;rw[dT (by rw[H,I];omega) (by rw[H,I];omega)];exact g
 .have c:op≠1:=bo c
  have d:op≠3:=bo d
  have j:op≠4:=bo j
  rw[if_neg c,if_neg d,if_neg j]at g;have:=one c;obtain⟨b,o,e,r⟩:=get 0 aD;exact⟨b,o,e,aD,aD,_,.imm (bo r),.here g⟩
end Go.Ps
