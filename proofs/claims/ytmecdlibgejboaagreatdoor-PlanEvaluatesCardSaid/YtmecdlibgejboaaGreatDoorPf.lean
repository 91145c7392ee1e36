/-
  Part 6 of a proof that a law of the given program returns true: a condition generator that is proved sound, and contracts of functions. No condition of its own. Own work, joined by a program (pack2.py); the shelf's contracts among it as the kit's tool wrote them.
-/
import Derived.Shelf.SlSorted.Search
import Derived.Shelf.SlSortCmp.NoneTotal
import Derived.Shelf.Small.Strs
import Derived.Shelf.Strconv.Itoa0
import Derived.Shelf.Strconv.Itoa1
import Derived.Shelf.LaysM
import Derived.Shelf.Strconv.Itoa2
import Derived.Shelf.Strconv.AppendUint10
import Derived.Shelf.Strconv.AppendInt10
import Derived.Shelf.Strconv.AppendIntPublic10
import Derived.Test.YtmecdlibgejboaaGreatDoorProg
import Derived.Lib.ItoaLen
import Derived.RangeFuncWrites
import Derived.OrdersIn
import Derived.Test.YtmecdlibgejboaaGreatDoorPe
set_option linter.unusedVariables false
set_option linter.unusedSimpArgs false
namespace Go.Proofs
open Go.Shelf List
def Tryz.lays213_ren:Go.Shelf.Ren:=⟨λ |213=>223|265=>244|n=>n,λ |9=>9|3=>3|n=>n,λ |n=>n⟩
def Tryz.lays106_ren:Go.Shelf.Ren:=⟨λ |106=>195|213=>223|265=>244|n=>n,λ |9=>9|3=>3|n=>n,λ |n=>n⟩
theorem Tryz.lays106:Go.Proofs.Lays.n106 Tryz.prog Tryz.lays106_ren:={
 mixed:=bf
 f106:=func195.trans (congrArg some bf)
 f213:=func223.trans (congrArg some bf)
 f265:=func244.trans (congrArg some bf)
 t3:=Tryz.underlying3
 a3:=Tryz.isAgg3
 z3:=Tryz.sizeOf3
 v3:=Tryz.zeroValue3
 t9:=Tryz.underlying9
 a9:=Tryz.isAgg9
 z9:=Tryz.sizeOf9
 v9:=Tryz.zeroValue9}
open Go.RowKit in
theorem Tryz.strings_Compare(a b:ByteArray)(w:World):
 Calls Tryz.prog 195 #[.string a,.string b] w λe w'=>e= .returned (.int .i64 (Lib.compareBytes a.data.toList b.data.toList))/\w'=w:=Any.strings_Compare Tryz.lays106 a b w
def Tryz.lays283_ren:Go.Shelf.Ren:=⟨λ |283=>257|n=>n,λ |3=>3|9=>9|4=>4|n=>n,λ |n=>n⟩
theorem Tryz.lays283:Go.Proofs.Lays.n283 Tryz.prog Tryz.lays283_ren:={
 mixed:=bf
 f283:=func257.trans (congrArg some bf)
 t3:=Tryz.underlying3
 a3:=Tryz.isAgg3
 z3:=Tryz.sizeOf3
 v3:=Tryz.zeroValue3
 t4:=Tryz.underlying4
 a4:=Tryz.isAgg4
 z4:=Tryz.sizeOf4
 v4:=Tryz.zeroValue4
 t9:=Tryz.underlying9
 a9:=Tryz.isAgg9
 z9:=Tryz.sizeOf9
 v9:=Tryz.zeroValue9}
open Go.Lib in
theorem Tryz.internal_strconv_small(i:Nat)(h:i<100)(w:World):
 Calls Tryz.prog 257 #[.int .i64 i] w λe w'=>e= .returned (.string ⟨(Lib.decDigits i).toArray⟩)/\w'=w:=Any.internal_strconv_small Tryz.lays283 i h w
def Tryz.laysM284_ren:Go.Shelf.Ren:=⟨λ |284=>258|129=>233|317=>263|318=>264|n=>n,λ |53=>263|3=>3|212=>289|0=>0|4=>4|46=>230|5=>5|9=>9|n=>n,λ |17=>1|n=>n⟩
theorem Tryz.laysM284:Go.Proofs.LaysM.n284 Tryz.prog Tryz.laysM284_ren:={
 mixed:=bf
 f129:=func233.trans (congrArg some bf)
 f284:=func258.trans (congrArg some bf)
 f317:=func263.trans (congrArg some bf)
 f318:=func264.trans (congrArg some bf)
 t0:=Tryz.underlying0
 a0:=Tryz.isAgg0
 z0:=Tryz.sizeOf0
 v0:=Tryz.zeroValue0
 t3:=Tryz.underlying3
 a3:=Tryz.isAgg3
 z3:=Tryz.sizeOf3
 v3:=Tryz.zeroValue3
 t4:=Tryz.underlying4
 a4:=Tryz.isAgg4
 z4:=Tryz.sizeOf4
 v4:=Tryz.zeroValue4
 t5:=Tryz.underlying5
 a5:=Tryz.isAgg5
 z5:=Tryz.sizeOf5
 v5:=Tryz.zeroValue5
 t9:=Tryz.underlying9
 a9:=Tryz.isAgg9
 z9:=Tryz.sizeOf9
 v9:=Tryz.zeroValue9
 t46:=Tryz.underlying230
 a46:=Tryz.isAgg230
 z46:=Tryz.sizeOf230
 v46:=Tryz.zeroValue230
 t53:=Tryz.underlying263
 a53:=Tryz.isAgg263
 z53:=Tryz.sizeOf263
 v53:=Tryz.zeroValue263
 t212:=Tryz.underlying289
 a212:=Tryz.isAgg289
 z212:=Tryz.sizeOf289
 v212:=Tryz.zeroValue289
 g17:=bf
 i0:=bf
 i3:=bf
 i4:=bf
 i5:=bf
 i9:=bf
 i46:=bf
 i53:=bf
 i212:=bf
 m17:=by kernel_rfl}
open Go.Lib in
theorem Tryz.internal_strconv_numDigits(u:Nat)(b:1<=u)(c:u<18446744073709551616)(w:World)(a:Lib.TabIs Tryz.prog w "internal/strconv.uint64pow10" .u64 Lib.pow10Tab):
 Calls Tryz.prog 258 #[.int .u64 u] w λe w'=>e= .returned (.int .i64 (Lib.nDigits u))/\w'=w:=Any.internal_strconv_numDigits Tryz.laysM284 u b c w a
def Tryz.lays285_ren:Go.Shelf.Ren:=⟨λ |285=>259|n=>n,λ |37=>22|53=>263|3=>3|4=>4|51=>261|9=>9|5=>5|0=>0|n=>n,λ |n=>n⟩
theorem Tryz.lays285:Go.Proofs.Lays.n285 Tryz.prog Tryz.lays285_ren:={
 mixed:=bf
 f285:=func259.trans (congrArg some bf)
 t0:=Tryz.underlying0
 a0:=Tryz.isAgg0
 z0:=Tryz.sizeOf0
 v0:=Tryz.zeroValue0
 t3:=Tryz.underlying3
 a3:=Tryz.isAgg3
 z3:=Tryz.sizeOf3
 v3:=Tryz.zeroValue3
 t4:=Tryz.underlying4
 a4:=Tryz.isAgg4
 z4:=Tryz.sizeOf4
 v4:=Tryz.zeroValue4
 t5:=Tryz.underlying5
 a5:=Tryz.isAgg5
 z5:=Tryz.sizeOf5
 v5:=Tryz.zeroValue5
 t9:=Tryz.underlying9
 a9:=Tryz.isAgg9
 z9:=Tryz.sizeOf9
 v9:=Tryz.zeroValue9
 t37:=Tryz.underlying22
 a37:=Tryz.isAgg22
 z37:=Tryz.sizeOf22
 v37:=Tryz.zeroValue22
 t51:=Tryz.underlying261
 a51:=Tryz.isAgg261
 z51:=Tryz.sizeOf261
 v51:=Tryz.zeroValue261
 t53:=Tryz.underlying263
 a53:=Tryz.isAgg263
 z53:=Tryz.sizeOf263
 v53:=Tryz.zeroValue263}
open Go.RowKit Go.Sort Go.Lib in
theorem Tryz.internal_strconv_formatBase10(blk off a:Nat)(u:Nat)(d:Array UInt8)(w:World)(h:Holds (fun(b:UInt8)=>Value.int .u8 (b.toNat:Int)) w blk off d)(i:u<10^d.size)(c:u<18446744073709551616)(f:d.size<4611686018427387904):
 Calls Tryz.prog 259 #[.slice (some ⟨blk,off,none⟩) d.size a,.int .u64 u] w λe w'=>
  e= .returned (.tuple #[])/\∃(n j:Nat)(g:Array UInt8),w'=(putRow (fun(b:UInt8)=>Value.int .u8 (b.toNat:Int)) w blk off g).drewN n/\FmtInv d.size u 0 j g:=Any.internal_strconv_formatBase10 Tryz.lays285 blk off a u d w h i c f
def Tryz.sortF_ren:Go.Shelf.Ren:=⟨λ |6=>171|15=>203|14=>202|28=>232|29=>233|20=>224|21=>225|22=>226|23=>227|24=>228|25=>229|26=>230|27=>231|46=>245|47=>246|48=>247|49=>248|50=>249|57=>261|n=>n,λ |22=>68|24=>100|25=>135|3=>3|39=>230|0=>0|53=>261|55=>263|4=>4|46=>255|45=>254|50=>148|5=>5|9=>9|66=>270|70=>208|76=>284|77=>285|n=>n,λ |n=>n⟩
theorem Tryz.sortF:Go.Proofs.SlLaysF.n6 Tryz.prog Tryz.sortF_ren:={
 mixed:=bf
 f6:=⟨Tryz.f171.name,bh,func171.trans (congrArg some bf)⟩
 f14:=⟨Tryz.f202.name,bh,func202.trans (congrArg some bf)⟩
 f15:=func203.trans (congrArg some bf)
 f20:=⟨Tryz.f224.name,bh,func224.trans (congrArg some bf)⟩
 f21:=⟨Tryz.f225.name,bh,func225.trans (congrArg some bf)⟩
 f22:=⟨Tryz.f226.name,bh,func226.trans (congrArg some bf)⟩
 f23:=⟨Tryz.f227.name,bh,func227.trans (congrArg some bf)⟩
 f24:=⟨Tryz.f228.name,bh,func228.trans (congrArg some bf)⟩
 f25:=⟨Tryz.f229.name,bh,func229.trans (congrArg some bf)⟩
 f26:=⟨Tryz.f230.name,bh,func230.trans (congrArg some bf)⟩
 f27:=⟨Tryz.f231.name,bh,func231.trans (congrArg some bf)⟩
 f28:=func232.trans (congrArg some bf)
 f29:=func233.trans (congrArg some bf)
 f46:=⟨Tryz.f245.name,bh,func245.trans (congrArg some bf)⟩
 f47:=func246.trans (congrArg some bf)
 f48:=func247.trans (congrArg some bf)
 f49:=⟨Tryz.f248.name,bh,func248.trans (congrArg some bf)⟩
 f50:=⟨Tryz.f249.name,bh,func249.trans (congrArg some bf)⟩
 f57:=⟨Tryz.f261.name,bh,func261.trans (congrArg some bf)⟩
 t0:=Tryz.underlying0
 a0:=Tryz.isAgg0
 z0:=Tryz.sizeOf0
 v0:=Tryz.zeroValue0
 t3:=Tryz.underlying3
 a3:=Tryz.isAgg3
 z3:=Tryz.sizeOf3
 v3:=Tryz.zeroValue3
 t4:=Tryz.underlying4
 a4:=Tryz.isAgg4
 z4:=Tryz.sizeOf4
 v4:=Tryz.zeroValue4
 t5:=Tryz.underlying5
 a5:=Tryz.isAgg5
 z5:=Tryz.sizeOf5
 v5:=Tryz.zeroValue5
 t9:=Tryz.underlying9
 a9:=Tryz.isAgg9
 z9:=Tryz.sizeOf9
 v9:=Tryz.zeroValue9
 t22:=Tryz.underlying68
 a22:=Tryz.isAgg68
 z22:=Tryz.sizeOf68
 v22:=Tryz.zeroValue68
 a24:=Tryz.isAgg100
 z24:=Tryz.sizeOf100
 t25:=Tryz.underlying135
 a25:=Tryz.isAgg135
 z25:=Tryz.sizeOf135
 v25:=Tryz.zeroValue135
 t39:=Tryz.underlying230
 a39:=Tryz.isAgg230
 z39:=Tryz.sizeOf230
 v39:=Tryz.zeroValue230
 t45:=Tryz.underlying254
 a45:=Tryz.isAgg254
 z45:=Tryz.sizeOf254
 v45:=Tryz.zeroValue254
 t46:=Tryz.underlying255
 a46:=Tryz.isAgg255
 z46:=Tryz.sizeOf255
 v46:=Tryz.zeroValue255
 t50:=Tryz.underlying148
 a50:=Tryz.isAgg148
 z50:=Tryz.sizeOf148
 v50:=Tryz.zeroValue148
 t53:=Tryz.underlying261
 a53:=Tryz.isAgg261
 z53:=Tryz.sizeOf261
 v53:=Tryz.zeroValue261
 t55:=Tryz.underlying263
 a55:=Tryz.isAgg263
 z55:=Tryz.sizeOf263
 v55:=Tryz.zeroValue263
 t66:=Tryz.underlying270
 a66:=Tryz.isAgg270
 z66:=Tryz.sizeOf270
 v66:=Tryz.zeroValue270
 t70:=Tryz.underlying208
 a70:=Tryz.isAgg208
 z70:=Tryz.sizeOf208
 v70:=Tryz.zeroValue208
 t76:=Tryz.underlying284
 a76:=Tryz.isAgg284
 z76:=Tryz.sizeOf284
 v76:=Tryz.zeroValue284
 t77:=Tryz.underlying285
 a77:=Tryz.isAgg285
 z77:=Tryz.sizeOf285
 v77:=Tryz.zeroValue285}
def Tryz.sortN_ren:Go.Shelf.Ren:=⟨λ |6=>171|15=>203|14=>202|28=>232|29=>233|20=>224|21=>225|22=>226|23=>227|24=>228|25=>229|26=>230|27=>231|46=>245|47=>246|48=>247|49=>248|50=>249|57=>261|n=>n,λ |22=>68|24=>100|25=>135|3=>3|39=>230|0=>0|53=>261|55=>263|4=>4|46=>255|45=>254|50=>148|5=>5|9=>9|66=>270|70=>208|76=>284|77=>285|n=>n,λ |n=>n⟩
theorem Tryz.sortN:Go.Proofs.SlLaysF0.n6 Tryz.prog Tryz.sortN_ren:={
 mixed:=bf
 f6:=⟨Tryz.f171.name,bh,func171.trans (congrArg some bf)⟩
 f14:=⟨Tryz.f202.name,bh,func202.trans (congrArg some bf)⟩
 f15:=func203.trans (congrArg some bf)
 f20:=⟨Tryz.f224.name,bh,func224.trans (congrArg some bf)⟩
 f21:=⟨Tryz.f225.name,bh,func225.trans (congrArg some bf)⟩
 f22:=⟨Tryz.f226.name,bh,func226.trans (congrArg some bf)⟩
 f23:=⟨Tryz.f227.name,bh,func227.trans (congrArg some bf)⟩
 f24:=⟨Tryz.f228.name,bh,func228.trans (congrArg some bf)⟩
 f25:=⟨Tryz.f229.name,bh,func229.trans (congrArg some bf)⟩
 f26:=⟨Tryz.f230.name,bh,func230.trans (congrArg some bf)⟩
 f27:=⟨Tryz.f231.name,bh,func231.trans (congrArg some bf)⟩
 f28:=func232.trans (congrArg some bf)
 f29:=func233.trans (congrArg some bf)
 f46:=⟨Tryz.f245.name,bh,func245.trans (congrArg some bf)⟩
 f47:=func246.trans (congrArg some bf)
 f48:=func247.trans (congrArg some bf)
 f49:=⟨Tryz.f248.name,bh,func248.trans (congrArg some bf)⟩
 f50:=⟨Tryz.f249.name,bh,func249.trans (congrArg some bf)⟩
 f57:=⟨Tryz.f261.name,bh,func261.trans (congrArg some bf)⟩
 t0:=Tryz.underlying0
 a0:=Tryz.isAgg0
 z0:=Tryz.sizeOf0
 v0:=Tryz.zeroValue0
 t3:=Tryz.underlying3
 a3:=Tryz.isAgg3
 z3:=Tryz.sizeOf3
 v3:=Tryz.zeroValue3
 t4:=Tryz.underlying4
 a4:=Tryz.isAgg4
 z4:=Tryz.sizeOf4
 v4:=Tryz.zeroValue4
 t5:=Tryz.underlying5
 a5:=Tryz.isAgg5
 z5:=Tryz.sizeOf5
 v5:=Tryz.zeroValue5
 t9:=Tryz.underlying9
 a9:=Tryz.isAgg9
 z9:=Tryz.sizeOf9
 v9:=Tryz.zeroValue9
 t22:=Tryz.underlying68
 a22:=Tryz.isAgg68
 z22:=Tryz.sizeOf68
 v22:=Tryz.zeroValue68
 t25:=Tryz.underlying135
 a25:=Tryz.isAgg135
 z25:=Tryz.sizeOf135
 v25:=Tryz.zeroValue135
 t39:=Tryz.underlying230
 a39:=Tryz.isAgg230
 z39:=Tryz.sizeOf230
 v39:=Tryz.zeroValue230
 t45:=Tryz.underlying254
 a45:=Tryz.isAgg254
 z45:=Tryz.sizeOf254
 v45:=Tryz.zeroValue254
 t46:=Tryz.underlying255
 a46:=Tryz.isAgg255
 z46:=Tryz.sizeOf255
 v46:=Tryz.zeroValue255
 t50:=Tryz.underlying148
 a50:=Tryz.isAgg148
 z50:=Tryz.sizeOf148
 v50:=Tryz.zeroValue148
 t53:=Tryz.underlying261
 a53:=Tryz.isAgg261
 z53:=Tryz.sizeOf261
 v53:=Tryz.zeroValue261
 t55:=Tryz.underlying263
 a55:=Tryz.isAgg263
 z55:=Tryz.sizeOf263
 v55:=Tryz.zeroValue263
 t66:=Tryz.underlying270
 a66:=Tryz.isAgg270
 z66:=Tryz.sizeOf270
 v66:=Tryz.zeroValue270
 t70:=Tryz.underlying208
 a70:=Tryz.isAgg208
 z70:=Tryz.sizeOf208
 v70:=Tryz.zeroValue208
 t76:=Tryz.underlying284
 a76:=Tryz.isAgg284
 z76:=Tryz.sizeOf284
 v76:=Tryz.zeroValue284
 t77:=Tryz.underlying285
 a77:=Tryz.isAgg285
 z77:=Tryz.sizeOf285
 v77:=Tryz.zeroValue285}
def Tryz.searchO_ren:Go.Shelf.Ren:=⟨λ |16=>134|n=>n,λ |3=>3|35=>88|4=>4|38=>230|n=>n,λ |n=>n⟩
theorem Tryz.searchO:Go.Proofs.SlLaysO.n16 Tryz.prog Tryz.searchO_ren:={
 mixed:=bf
 f16:=func134.trans (congrArg some bf)
 t3:=Tryz.underlying3
 a3:=Tryz.isAgg3
 z3:=Tryz.sizeOf3
 v3:=Tryz.zeroValue3
 t4:=Tryz.underlying4
 a4:=Tryz.isAgg4
 z4:=Tryz.sizeOf4
 v4:=Tryz.zeroValue4
 t35:=Tryz.underlying88
 a35:=Tryz.isAgg88
 z35:=Tryz.sizeOf88
 v35:=Tryz.zeroValue88
 t38:=Tryz.underlying230
 a38:=Tryz.isAgg230
 z38:=Tryz.sizeOf230
 v38:=Tryz.zeroValue230}
end Go.Proofs
namespace Go.Ps
open Go Go.Vc Go.Proofs List Tryz
variable{K:bo}{m:MH}{h:PH}{s:mI}{ps:br}{cb:Nat}{sc:bY}{v:QV}{q:Query}{p:Pred}{l:br}{i:Nat}{N:Nat}{m':MH}{h':PH}{co:br}{gr:br}{od:bz}{w:Pred}{ta:Int}{li:Int}{xs:List bm}{sz:Nat}{k:Nat}{ks:List br}{rs:br}{r:Sl}{a:br}{b:Nat}
def dU(m:MH):Prop:=∃T c,m 1=some (.cells (Lib.pow10Tab.map λz=>Value.int .u64 z).toArray T c)
def cU(u:Nat):CV:=.val (.int .u64 u)
def bZZ:Vc.Spec:=λc m h K=>∃i:Nat,c=[cI i]/\i<100/\K (P3 ⟨(Lib.decDigits i).toArray⟩) m h
def aaZ:Vc.Spec:=λc m h K=>∃u:Nat,c=[cU u]/\1<=u/\u<18446744073709551616/\dU m/\K (cI (Lib.nDigits u)) m h
def bYJ:Vc.Spec:=λd m h K=>∃b e u:Nat,∃(f:Array Value)(T:TypeId),d=[.val (.slice (some ⟨b,0,none⟩) (Lib.nDigits u) e),cU u]/\u<18446744073709551616/\m b=some (.cells f T (0,0))/\f.toList=replicate 24 (.int .u8 0)/\
 ∀c m',c.size=f.size->c.toList.take (Lib.nDigits u)=Lib.byteCells (Lib.decDigits u)->gG m m' b (.cells c T (0,0))->K (.tup []) m' h
def bKZ:Vc.Spec:=λc m h K=>∃xs,∃u:Nat,c=[.lst 5 1 xs,cU u,cI 10]/\u<18446744073709551616/\dU m/\xs.length+30<=140737488355328/\K (.lst 5 1 (xs++aU (Lib.decDigits u))) m h
def kJ(i:Int):ci:=if i<0 then 45::Lib.decDigits (IntKind.u64.wrap (0-IntKind.u64.wrap i)).toNat else Lib.decDigits (IntKind.u64.wrap i).toNat
def Sy:Vc.Spec:=λc m h K=>∃xs i,c=[.lst 5 1 xs,cI i,cI 10]/\dU m/\xs.length+40<=140737488355328/\K (.lst 5 1 (xs++aU (kJ i))) m h
noncomputable abbrev DN:Value:=Value.int IntKind.u8 0
noncomputable abbrev Ed(a:bm):bm:=bA DN DN (bA DN DN (bA DN DN (bA DN DN a)))
noncomputable abbrev A1(a:Int):CV:=CV.val (Value.int IntKind.u64 a)
abbrev N8(a:Nat):Prop:=a<18446744073709551616
noncomputable abbrev mC(a:Nat):Option Addr:=Option.some (Addr.mk a 0 Option.none)
attribute [push_cast] DN Ed A1 N8 mC
def KE(xs:List bm)(u:Nat)(m:MH)(h:PH)(K:bo):Prop:=
  aZ (↑u:Int) 100 (∃(i:Nat),aA (nT (eT (↑u:Int))=nT (↑i:Int)) (i<100) (aA (rY xs (fB (ByteArray.mk (Array.mk (Lib.decDigits i)))) 1) (rZ xs (fB (ByteArray.mk (Array.mk (Lib.decDigits i))))) (K (CV.lst 5 1 (xs++fB (ByteArray.mk (Array.mk (Lib.decDigits i))))) m h))) (fR (λb f=>aY (bW m h b) (cM m f b (Ed (Ed (Ed []))) 280) (∃(d:Nat),aA (tT (A1 (↑u:Int))=tT (A1 (↑d:Int))) (1<=d) (aA (N8 d) (dU f) (aA (cF (↑(Lib.nDigits d):Int)) ((↑(Lib.nDigits d):Int)<=24) (aK (λg c=>∃(e:Nat),Fp (λj T=>aA (gJ (CV.val (Value.slice (mC b) (lK (Lib.nDigits d)) 24)) (A1 (↑u:Int))=gJ (CV.val (Value.slice (mC g) (Lib.nDigits e) c)) (A1 (↑e:Int))) (N8 e) (aA (f g=Option.some (qL j T
 0)) (j.toList=Ed (Ed (Ed []))) (∀(n:Array Value)(o:MH),aY (n.size=j.size) (List.take (Lib.nDigits e) n.toList=Lib.byteCells (Lib.decDigits e)) (gG f o g (qL n T 0)->BG (cF (↑(Lib.nDigits d):Int)) ((↑(Lib.nDigits d):Int)<=24) (λy=>aA (eR 1 y) (sI o h (Sl.mk (mC b) (lK (Lib.nDigits d)) 24) 1 y) (aA (rY xs y 1) (rZ xs y) (K (CV.lst 5 1 (xs++y)) o h))))))))))))))
noncomputable abbrev Oa(a:Int):Int:=IntKind.wrap IntKind.u64 a
noncomputable abbrev kI(a:List bm)(b:ci):List bm:=a++aU b
attribute [push_cast] Oa kI
def Rb(xs:List bm)(i:Int)(m:MH)(h:PH)(K:bo):Prop:=
  aZ i 0 (BG (iY (jA xs 1) 1) (dO xs) (λx=>∃(u:Nat),aA (CV.lst 5 1 (jW xs (zH 45))::aW (A1 (Oa (0-Oa i))) 10=CV.lst 5 1 x::aW (A1 (↑u:Int)) 10) (N8 u) (aA (dU m) (lN (jA x 30)) (K (CV.lst 5 1 (kI x (Lib.decDigits u))) m h)))) (∃(x:List bm)(u:Nat),aA (CV.lst 5 1 xs::aW (A1 (Oa i)) 10=CV.lst 5 1 x::aW (A1 (↑u:Int)) 10) (N8 u) (aA (dU m) (lN (jA x 30)) (K (CV.lst 5 1 (kI x (Lib.decDigits u))) m h)))
noncomputable abbrev sN(a:List bm)(b:Int):cq:=CV.lst 5 1 a::aW (fQ b) 10
noncomputable abbrev pT(a:List bm)(b:Int):List bm:=kI a (kJ b)
attribute [push_cast] sN pT
def axQ(xs:List bm)(i:Int)(m:MH)(h:PH)(K:bo):Prop:=
  ∃(x:List bm)(c:Int),aA (sN xs i=sN x c) (dU m) (lN (jA x 40)/\K (CV.lst 5 1 (pT x c)) m h)
theorem dU.sub(h:dU m)(c:Sub m m'):dU m':=by
 obtain⟨T,d,e⟩:=h;exact⟨T,d,c 1 _ e⟩
theorem JW{w:World}{c:cq}{vs:bm}(d:Al w m h c vs):vR ⟨w,rU m c vs,h,[]⟩ m h w:=
 ⟨rfl,rfl,rfl,Nat.le_refl _,Nat.le_refl _,λ_ _ _=>rfl,d.hsat,d.msat,d.disj,λ_ _ _ e=>e,λ_ _ _=>rfl,λb o f=>.inr (.inl (by rw[show m b=some o from f];simp))⟩
theorem Xa:bk 257 bZZ:=by
 refine⟨⟨Tryz.f257,func257,rfl,bh⟩,?_⟩;rintro f d m h w K ⟨i,rfl,g,j⟩ c
 obtain⟨v,rfl⟩:∃v,d=[v]:=by
  have:=(nY c.args).1
  match d,this with
  |[v],_=>exact⟨v,rfl⟩
 have n:v= .int .i64 i:=c.args.1;subst n;refine(Tryz.internal_strconv_small i g w).mono ?_;rintro e t ⟨rfl,rfl⟩;exact⟨_,_,m,h,rfl,j,rfl,JW c,λb o=>by simp[P3,gE]at o⟩
theorem W9:bk 258 aaZ:=by
 refine⟨⟨Tryz.f258,func258,rfl,bh⟩,?_⟩;rintro f d m h w K ⟨u,rfl,g,j,⟨T,A,n⟩,o⟩ c
 obtain⟨v,rfl⟩:∃v,d=[v]:=by
  have:=(nY c.args).1
  match d,this with
  |[v],_=>exact⟨v,rfl⟩
 have t:v= .int .u64 u:=c.args.1;subst t;have y:=c.msat 1 _ n;refine(Tryz.internal_strconv_numDigits u g j w ?_).mono ?_
 .unfold Lib.TabIs World.var?;rw[show Tryz.prog.globalNamed _=some 1 by kernel_rfl];simp only[Option.bind_some,y]
 .rintro e B ⟨rfl,rfl⟩;exact⟨_,_,m,h,rfl,o,rfl,JW c,λb z=>by simp[cI,gE]at z⟩
theorem W8:bk 259 bYJ:=by
 refine⟨⟨Tryz.f259,func259,rfl,bh⟩,?_⟩;rintro W Q m h w K ⟨b,g,u,C,T,rfl,R,A,D,X⟩ t
 obtain⟨v,E,rfl⟩:∃v E,Q=[v,E]:=by
  have:=(nY t.args).1
  match Q,this with
  |[v,E],_=>exact⟨v,E,rfl⟩
 have Y:v= .slice (some ⟨b,0,none⟩) (Lib.nDigits u) g:=t.args.1;have J:E= .int .u64 u:=t.args.2.1;subst Y J;have L:=t.msat b _ A;have Z:=Lib.nDigits_le20 u R;have a':C.size=24:=by rw[<-Array.length_toList,D];simp
 have hH:Sort.Holds (fun(b:UInt8)=>Value.int .u8 (b.toNat:Int)) w b 0 (Array.replicate (Lib.nDigits u) (0:UInt8)):=by
  intro j B;simp only[Array.size_replicate]at B;refine⟨?_,?_⟩
  .rw[cell_of_heap L,D,getElem?_replicate,if_pos aC];rw[getElem!_pos _ j (bj B)];simp
  .unfold World.frozen?;rw[L];simp
 have S:=Tryz.internal_strconv_formatBase10 b 0 g u (Array.replicate (Lib.nDigits u) (0:UInt8)) w hH (bj (Lib.lt_pow_nDigits u)) R (by simp;omega);rw[Array.size_replicate]at S;refine S.mono ?_;rintro e w' ⟨rfl,n,v',z,rfl,U⟩;have a0:z.size=Lib.nDigits u:=U.size;obtain⟨m',y⟩:∃m',gG m m' b (.cells (Sort.putCells (fun(b:UInt8)=>Value.int .u8 (b.toNat:Int)) 0 z C) T (0,0)):=⟨λc=>if c=b then some (.cells (Sort.putCells (fun(b:UInt8)=>Value.int .u8 (b.toNat:Int)) 0 z C) T (0,0))else m c,bg,λc d=>by simp[d]⟩
 have F:(Sort.putRow (fun(b:UInt8)=>Value.int .u8 (b.toNat:Int)) w b 0 z).heap[b]? =some (.cells (Sort.putCells (fun(b:UInt8)=>Value.int .u8 (b.toNat:Int)) 0 z C) T (0,0)):=by
  unfold Sort.putRow Sort.mapBlock;simp only[Array.getElem?_modify,if_true,L];rfl
 have f:∀c,c≠b->(Sort.putRow (fun(b:UInt8)=>Value.int .u8 (b.toNat:Int)) w b 0 z).heap[c]? =w.heap[c]? :=λc d=>by
  unfold Sort.putRow Sort.mapBlock;simp only[Array.getElem?_modify,if_neg (Ne.symm d)]
 refine⟨.tup [],.tuple #[],m',h,rfl,X _ m' ?_ ?_ y,⟨#[],rfl,rfl⟩,?_,λb A=>by simp[gE]at A⟩
 .simp[Sort.putCells]
 .apply ext_getElem?;intro j;rw[getElem?_take];have hl:(Lib.byteCells (Lib.decDigits u)).length=Lib.nDigits u:=by rw[Lib.byteCells_length,Lib.decDigits_length]
  by_cases B:j<Lib.nDigits u
  .rw[if_pos B,Array.getElem?_toList];have G:j<(Lib.decDigits u).length:=by rw[Lib.decDigits_length];exact B
   have H:j<C.size:=by omega
   simp only[Sort.putCells,Array.getElem?_mapIdx,Array.getElem?_eq_getElem H,Option.map_some,Nat.zero_le,Nat.zero_add,Nat.sub_zero,true_and];rw[if_pos aC,Lib.byteCells,getElem?_map,getElem?_eq_getElem G,Lib.row_is_numeral U j G];rfl
  .rw[if_neg B,getElem?_eq_none aC]
 .have I:∀c o,m' c=some o->c=b\/m c=some o:=λc o d=>by
   by_cases e:c=b
   .exact .inl e
   .rw[y.other c e]at d;exact .inr d
  have V:rU m [.val (.slice (some ⟨b,0,none⟩) (Lib.nDigits u) g),cU u] [.slice (some ⟨b,0,none⟩) (Lib.nDigits u) g,.int .u64 u] b:=.inl (by rw[A];simp);refine⟨rfl,rfl,rfl,Nat.le_add_right _ _,by simp[Sort.putRow,Sort.mapBlock],?_,?_,?_,?_,λ_ _ _ e=>e,λ_ _ _=>rfl,?_⟩
  .intro c _ hn;exact f c (λe=>hn (e▸V))
  .intro c o x M;have O:c≠b:=λe=>by rw[e,t.disj b _ A o]at M;cases M
   show(Sort.putRow (fun(b:UInt8)=>Value.int .u8 (b.toNat:Int)) w b 0 z).cell? ⟨c,o,none⟩=some x;rw[World.cell?_of_block (w:=w) (a:=⟨c,o,none⟩) (f c O)];exact t.hsat c o x M
  .intro c o d;by_cases e:c=b
   .subst e;rw[y.at_]at d;cases d;exact F
   .rw[y.other c e]at d;rw[show((Sort.putRow (fun(b:UInt8)=>Value.int .u8 (b.toNat:Int)) w b 0 z).drewN n).heap[c]? =_ from f c e];exact t.msat c o d
  .intro c o d j;rcases I c o d with rfl|P
   .exact t.disj c _ A j
   .exact t.disj c _ P j
  .intro c o d;rcases I c o d with rfl|P
   .exact .inr V
   .exact .inr (.inl (by rw[P];simp))
theorem j6(l:ci):fB ⟨l.toArray⟩=aU l:=by simp[fB,aU]
theorem Lf(l:ci):(aU l).flatten=Lib.byteCells l:=by
 unfold aU Lib.byteCells
 induction l with
 |nil=>rfl
 |cons b r c=>simp[c]
theorem bV(l:ci):(aU l).length=l.length:=by simp[aU]
theorem Xg:bk 243 bKZ:=by
 refine ED func243 ?_;rintro y m h K ⟨xs,u,rfl,j,z,E,o⟩;refine⟨pF [(257,bZZ),(258,aaZ),(259,bYJ)] [] [] [] [280] [] true,rfl,aD Xa (aD W9 (aD W8 aF)),KE xs u m h (kA h K),bf,?_⟩;show KE xs u m h (kA h K);dsimp only[KE,push_cast];have A:=Lib.nDigits_le20 u j;have d:=Lib.decDigits_length u;refine aE (λB=>⟨u,?_,aC,?_,?_,?_⟩) (λB b C t e=>?_)
 .rw[eG aC aC]
 .rw[j6,bV];omega
 .rw[j6,bV];omega
 .rw[j6];exact .here o
 .have f:Sub m C:=(Sub.refl m).upd t.m_ e.other;refine⟨u,rfl,aC,j,z.sub f,aC,aC,b,24,u,_,_,by rw[Int.toNat_natCast],j,e.at_,rfl,λn F D c g=>⟨aC,aC,aU (Lib.decDigits u),H9 _,?_,?_,?_,?_⟩⟩
  .refine .lent b 0 n 280 (0,0) rfl ?_ g.at_ ?_
   .rw[Int.toNat_natCast,bV,d]
   .rw[Lf,Lib.byteCells_length,d,drop_zero];exact c
  .rw[bV];omega
  .rw[bV];omega
  .exact .sub (f.upd t.m_ g.other) o
theorem aEJ(i:Int):0<=IntKind.u64.wrap i/\IntKind.u64.wrap i<18446744073709551616:=by
 simp only[IntKind.wrap,IntKind.bits,IntKind.signed];simp;omega
theorem qP(i:Int):(kJ i).length<=21:=by
 have key:∀n:Int,(Lib.decDigits (IntKind.u64.wrap n).toNat).length<=20:=λn=>by
  rw[Lib.decDigits_length];exact Lib.nDigits_le20 _ (by have:=aEJ n;omega)
 unfold kJ;split
 .have:=key (0-IntKind.u64.wrap i);simp only[length_cons];omega
 .have:=key i;omega
theorem Xo:bk 219 Sy:=by
 refine iB func219 ?_;rintro f m h K ⟨xs,i,rfl,e,g,c⟩;refine⟨pF [(243,bKZ)] [] [] [] [] [(243,[0])] true,rfl,aD Xg aF,Rb xs i m h K,bf,?_⟩;dsimp only[Rb,push_cast];have j:=aEJ i;have n:=aEJ (0-IntKind.u64.wrap i);refine aE (λd=>⟨aC,aC,xs++[[.int .u8 45]],(IntKind.u64.wrap (0-IntKind.u64.wrap i)).toNat,?_,aC,e,by simp;omega,?_⟩) (λd=>⟨xs,(IntKind.u64.wrap i).toNat,?_,aC,e,aC,?_⟩)
 .rw[show(((IntKind.u64.wrap (0-IntKind.u64.wrap i)).toNat:Nat):Int)=IntKind.u64.wrap (0-IntKind.u64.wrap i)by omega]
 .have:kJ i=45::Lib.decDigits (IntKind.u64.wrap (0-IntKind.u64.wrap i)).toNat:=by unfold kJ;rw[if_pos d]
  rw[this]at c;rw[append_assoc];exact c
 .rw[show(((IntKind.u64.wrap i).toNat:Nat):Int)=IntKind.u64.wrap i by omega]
 .have:kJ i=Lib.decDigits (IntKind.u64.wrap i).toNat:=by unfold kJ;rw[if_neg d]
  rw[this]at c;exact c
theorem HF:bk 188 Sy:=by
 refine iB func188 ?_;rintro c m h K ⟨xs,i,rfl,d,e,f⟩;refine⟨pF [(219,Sy)] [] [] [] [] [(219,[0])] true,rfl,aD Xo aF,axQ xs i m h K,bf,?_⟩;exact⟨xs,i,rfl,d,e,f⟩
def BY(a b:Int):Int:=if a<b then-1 else if b<a then 1 else 0
def P2(a b:ByteArray):Int:=Lib.compareBytes a.data.toList b.data.toList
def lZ(a b:VV):Int:=if BY a.kind b.kind≠0 then BY a.kind b.kind else if BY a.int b.int≠0 then BY a.int b.int else P2 a.text b.text
def eC:bu->bu->Int
 |[],[]=>0
 |[],_::_=> -1
 |_::_,[]=>1
 |x::xs,y::ys=>if lZ x y≠0 then lZ x y else eC xs ys
def bCJ:Vc.Spec:=λc m h K=>∃n,c=[cI n]/\K (cB false) m h
def acJ:Vc.Spec:=λc m h K=>∃a b,c=[cI a,cI b]/\K (cI (BY a b)) m h
def bJJ:Vc.Spec:=λc m h K=>∃a b,c=[P3 a,P3 b]/\K (cI (P2 a b)) m h
def Sw:Vc.Spec:=λc m h K=>∃a b,c=[aV a,aV b]/\K (cI (lZ a b)) m h
def JU:Vc.Spec:=λc m h K=>∃s t a b,c=[cS s,cS t]/\bP h s a/\bP h t b/\K (cI (eC a b)) m h
def bKX:Vc.Spec:=λc m h K=>∃s t a b,c=[cS s,cS t,.val (.func (.func 166) #[] #[])]/\bP h s a/\bP h t b/\K (cI (eC a b)) m h
def Rows(h:PH)(s:Sl)(l:bt):Prop:=bN h 1 eS (λr t=>bP h t r) s l
def bFJ:Vc.Spec:=λc m h K=>∃s t a b,c=[cS s,cS t]/\Rows h s a/\Rows h t b/\∀r:Bool,(r=true↔a=b)->K (cB r) m h
noncomputable def aVZ(s t:Sl)(m:MH)(h:PH):Ctx:=
 dG [(166,Sw)] [(2,{A:=Nat,st:=λi=>bO 39 42 [(0,sv s),(1,sv t),(2,vv (.func (.func 166) #[] #[])),(11,sv s),(12,iv s.len),(13,iv i)] [] m h})] [] [] false
noncomputable def bqJ(s t:Sl)(m:MH)(h:PH):Ctx:=
 dG [(138,Sw)] [(2,{A:=Nat,st:=λi=>bO 43 45 [(0,sv s),(1,sv t),(5,iv i)] [] m h})] [] [] false
noncomputable def bvZ(s t:Sl)(m:MH)(h:PH):Ctx:=
 dG [(72,JU)] [(4,{A:=Nat,st:=λi=>bO 27 29 [(0,sv s),(1,sv t),(12,iv s.len),(13,iv i)] [] m h})] [] [] false
def auQ(n:Int)(m:MH)(h:PH)(K:bo):Prop:=
  K (Ah (n !=n)) m h
def atJ(n:Int)(m:MH)(h:PH)(K:bo):Prop:=
  K (Ah (n !=n)) m h
def KS(a b:Int)(m:MH)(h:PH)(K:bo):Prop:=
  ∃(n:Int),nT a=nT n/\∃(c:Int),nT b=nT c/\aZ a b (K (fQ (Int.negSucc 0)) m h) (dZ a b (K (fQ 1) m h) (K (fQ 0) m h))
def awJ(a b:Int)(m:MH)(h:PH)(K:bo):Prop:=
  ∃(n:Int),nT a=nT n/\∃(c:Int),nT b=nT c/\aZ a b (K (fQ (Int.negSucc 0)) m h) (dZ a b (K (fQ 1) m h) (K (fQ 0) m h))
def Ro(a b:VV)(m:MH)(h:PH)(K:bo):Prop:=
  ∃(r:Bool),gK (w9 24 a.enc b.enc r) r (K (fQ 0) m h) (GC (λc d=>aW (fQ a.kind) b.kind=aW (fQ c) d/\cO (BY c d) 0 (K (fQ (BY c d)) m h) (GC (λe f=>aW (fQ a.int) b.int=aW (fQ e) f/\cO (BY e f) 0 (K (fQ (BY e f)) m h) (∃(g j:ByteArray),gJ (oX a.text) (oX b.text)=gJ (oX g) (oX j)/\K (fQ (P2 g j)) m h)))))
def RH(a b:VV)(m:MH)(h:PH)(K:bo):Prop:=
  aZ a.kind b.kind (K (fQ (Int.negSucc 0)) m h) (dZ a.kind b.kind (K (fQ 1) m h) (aZ a.int b.int (K (fQ (Int.negSucc 0)) m h) (dN (decide (a.int>b.int)) (K (fQ 1) m h) (Op.bytesLess (CF a) (CF b)) (K (fQ (Int.negSucc 0)) m h) (mA (Bool.or (Op.bytesLess (CF a) (CF b)) (CF a==CF b)) (K (fQ 1) m h) (K (fQ 0) m h)))))
def Rp(s t:Sl)(m:MH)(h:PH)(K:bo):Prop:=
  nR (λI x=>aA (I x) (aH s) (aA (aH t) (zY 166) (aA (aH s) (bG s) (aA (bC x) (m=m) (bX h h))))) (λI e x=>I x->aZ (↑x:Int) (aG s) (aK (λb o=>aA (aL s.a b o) (0<=(↑x:Int)) ((↑x:Int)<aG s/\∃(y:VV),aJ m h b (bK o x 3) y.enc/\fO (↑x:Int) (aG t) (K (fQ 1) m h) (aK (λf g=>aA (aL t.a f g) (0<=(↑x:Int)) ((↑x:Int)<aG t/\∃(j:VV),aJ m h f (bK g x 3) j.enc/\∃(a c:VV),jT y.enc j.enc=jT a.enc c.enc/\cO (lZ a c) 0 (K (fQ (lZ a c)) m h) (∃(d:Nat),aA (I d) (e d<e x) (aA (aH s) (aH t) (aA (zY 166) (aH s) (aA (bG s) (bD (fP (bE x 1)) d) (dW m m h h))))))))))) (aZ (aG s) (aG t) (K (fQ (Int.negSucc 0)) m h) (K (fQ 0) m h)))
abbrev oA(a:Sl->bu->Prop):Prop:=∃(x:Sl)(c:bu),a x c
attribute [push_cast] oA
def azJ(s t:Sl)(m:MH)(h:PH)(K:bo):Prop:=
  ∃(c:Sl),oA (λd a=>∃(b:bu),aA (cN s (eJ t (wO 166))=cN c (eJ d (wO 166))) (bP h c a) (bP h d b/\K (fQ (eC a b)) m h))
def Vf(s t:Sl)(m:MH)(h:PH)(K:bo):Prop:=
  nR (λI x=>aA (I x) (aH s) (aA (aH t) (bC x) (dW m m h h))) (λI e x=>I x->aZ (↑x:Int) (aG s) (aZ (↑x:Int) (aG t) (aK (λb o=>aA (aL s.a b o) (0<=(↑x:Int)) ((↑x:Int)<aG s/\∃(y:VV),aJ m h b (bK o x 3) y.enc/\aK (λf g=>aA (aL t.a f g) (0<=(↑x:Int)) ((↑x:Int)<aG t/\∃(j:VV),aJ m h f (bK g x 3) j.enc/\∃(a c:VV),jT y.enc j.enc=jT a.enc c.enc/\cO (lZ a c) 0 (K (fQ (lZ a c)) m h) (∃(d:Nat),aA (I d) (e d<e x) (aA (aH s) (aH t) (dK (bD (fP (bE x 1)) d) m m h h)))))))) (aZ (aG s) (aG t) (K (fQ (Int.negSucc 0)) m h) (dZ (aG s) (aG t) (K (fQ 1) m h) (K (fQ 0) m h)))) (aZ (aG s) (aG t) (K (fQ (Int.negSucc 0)) m h) (dZ (aG s) (aG t) (K (fQ 1) m h) (K (fQ 0) m h))))
abbrev rI(a:MH)(b:PH)(c d:Nat)(e:Sl->Sl->Prop):Prop:=∃(x:Sl),aJ a b c d (aM x)/\∃(f:Sl),e x f
attribute [push_cast] rI
def Vw(s t:Sl)(m:MH)(h:PH)(K:bo):Prop:=
  cO (aG s) (aG t) (K aX m h) (nR (λI x=>aA (I x) (aH s) (aA (aH t) (bG s) (dK (bC x) m m h h))) (λI d x=>I x->aZ (↑x:Int) (aG s) (aK (λb o=>aA (aL s.a b o) (0<=(↑x:Int)) ((↑x:Int)<aG s/\∃(y:Sl),aJ m h b (bK o x 1) (aM y)/\aK (λe f=>aA (aL t.a e f) (0<=(↑x:Int)) ((↑x:Int)<aG t/\rI m h e (bK f x 1) (λu g=>oA (λj a=>∃(n:bu),aA (cA y u=cA g j) (bP h g a) (bP h j n/\cO (eC a n) 0 (K aX m h) (∃(c:Nat),aA (I c) (d c<d x) (aA (aH s) (aH t) (aA (bG s) (bD (fP (bE x 1)) c) (aA (m=m) (h=h) True)))))))))))) (K gL m h)))
theorem G3{a b:Int}:BY a b=0↔a=b:=by
 unfold BY;constructor
 .intro h;split at h
  .omega
  .split at h<;>omega
 .intro h;subst h;simp
theorem G4:∀a b:ci,Lib.compareBytes a b=0↔a=b
 |[],[]=>by simp[Lib.compareBytes]
 |[],_::_=>by simp[Lib.compareBytes]
 |_::_,[]=>by simp[Lib.compareBytes]
 |a::l,b::bs=>by
  simp only[Lib.compareBytes,List.cons.injEq];split
  .rename_i h;simp;intro e;subst e;exact absurd h (UInt8.lt_irrefl _)
  .split
   .rename_i h;simp;intro e;subst e;exact absurd h (UInt8.lt_irrefl _)
   .rename_i c d;rw[G4 l bs];have:a=b:=UInt8.le_antisymm (UInt8.not_lt.1 d) (UInt8.not_lt.1 c);simp[this]
theorem aBZ{a b:ByteArray}:P2 a b=0↔a=b:=by
 unfold P2;rw[G4];constructor
 .intro h;cases a;cases b;simp only[ByteArray.mk.injEq];exact Array.toList_inj.1 h
 .intro h;rw[h]
theorem Le{a b:VV}:lZ a b=0↔a=b:=by
 obtain⟨k,i,t⟩:=a;obtain⟨d,f,g⟩:=b;simp only[lZ,VV.mk.injEq];split
 .rename_i h;exact⟨λe=>absurd e h,λe=>absurd (G3.2 e.1) h⟩
 .rename_i h;have h:=Classical.not_not.1 h;split
  .rename_i c;exact⟨λe=>absurd e c,λe=>absurd (G3.2 e.2.1) c⟩
  .rename_i c;have c:=Classical.not_not.1 c;rw[aBZ];simp[G3.1 h,G3.1 c]
theorem lC:∀{a b:bu},eC a b=0↔a=b
 |[],[]=>by simp[eC]
 |[],_::_=>by simp[eC]
 |_::_,[]=>by simp[eC]
 |x::xs,y::ys=>by
  simp only[eC,List.cons.injEq];split
  .rename_i h;exact⟨λe=>absurd e h,λe=>absurd (Le.2 e.1) h⟩
  .rename_i h;rw[lC (a:=xs),Le.1 (Classical.not_not.1 h)];simp
theorem Oh:∀a b:ci,(Op.bytesLess a b=true↔Lib.compareBytes a b= -1)/\(Lib.compareBytes a b= -1\/Lib.compareBytes a b=0\/Lib.compareBytes a b=1)
 |[],[]=>by simp[Lib.compareBytes,Op.bytesLess]
 |[],_::_=>by simp[Lib.compareBytes,Op.bytesLess]
 |_::_,[]=>by simp[Lib.compareBytes,Op.bytesLess]
 |a::l,b::bs=>by
  obtain⟨f,g⟩:=Oh l bs;simp only[Lib.compareBytes,Op.bytesLess];by_cases c:a<b
  .simp[c]
  .by_cases d:b<a
   .have:¬a=b:=λe=>by subst e;exact UInt8.lt_irrefl _ d
    simp[c,d,this]
   .have:a=b:=UInt8.le_antisymm (UInt8.not_lt.1 d) (UInt8.not_lt.1 c);subst this;simp only[c,if_false];exact⟨bj f,g⟩
theorem ZO{a b:Int}(c:K (cI (BY a b)) m h):KS a b m h K:=by
 dsimp only[KS,push_cast];refine⟨a,rfl,b,rfl,aE (λd=>?_) (λd=>aE (λe=>?_) (λe=>?_))⟩
 .rw[BY,if_pos d]at c;exact c
 .rw[BY,if_neg d,if_pos e]at c;exact c
 .rw[BY,if_neg d,if_neg e]at c;exact c
theorem Xm:bk 221 bCJ:=by
 refine iB func221 ?_;rintro c m h K ⟨n,rfl,d⟩;refine⟨dG [] [] [] [] false,rfl,aF,auQ n m h K,bf,?_⟩;exact(by show K (cB (n !=n)) m h;rw[bne_self_eq_false];exact d)
theorem Xl:bk 222 bCJ:=by
 refine iB func222 ?_;rintro c m h K ⟨n,rfl,d⟩;refine⟨dG [] [] [] [] false,rfl,aF,atJ n m h K,bf,?_⟩;exact(by show K (cB (n !=n)) m h;rw[bne_self_eq_false];exact d)
theorem XI:bk 193 acJ:=by
 refine iB func193 ?_;rintro c m h K ⟨a,b,rfl,d⟩;refine⟨dG [(221,bCJ)] [] [] [] false,rfl,aD Xm aF,KS a b m h K,bf,?_⟩;exact ZO d
theorem XH:bk 194 acJ:=by
 refine iB func194 ?_;rintro c m h K ⟨a,b,rfl,d⟩;refine⟨dG [(222,bCJ)] [] [] [] false,rfl,aD Xl aF,awJ a b m h K,bf,?_⟩;exact ZO d
theorem XG:bk 195 bJJ:=by
 refine⟨⟨Tryz.f195,func195,rfl,bh⟩,?_⟩;rintro j g m h w K ⟨a,b,rfl,n⟩ d
 obtain⟨v,c,rfl⟩:∃v c,g=[v,c]:=by
  have:=(nY d.args).1
  match g,this with
  |[v,c],_=>exact⟨v,c,rfl⟩
 have o:v= .string a:=d.args.1;have f:c= .string b:=d.args.2.1;subst o f;refine(Tryz.strings_Compare a b w).mono ?_;rintro e u ⟨rfl,rfl⟩;exact⟨_,_,m,h,rfl,n,rfl,JW d,λb t=>by simp[cI,gE]at t⟩
theorem HG:bk 166 Sw:=by
 refine iB func166 ?_;rintro g m h K ⟨a,b,rfl,c⟩;refine⟨dG [(193,acJ),(194,acJ),(195,bJJ)] [] [] [] false,rfl,aD XI (aD XH (aD XG aF)),Ro a b m h K,bf,?_⟩;dsimp only[Ro,push_cast];refine⟨_,Ts a b,aB (λf=>?_) (λf=>⟨_,_,rfl,aB (λd=>?_) (λd=>⟨_,_,rfl,aB (λe=>?_) (λe=>⟨_,_,rfl,?_⟩)⟩)⟩)⟩
 .rw[Le.2 (Tt.1 f)]at c;exact c
 .rw[lZ,if_pos (bj d)]at c;exact c
 .rw[lZ,if_neg (bj d),if_pos (bj e)]at c;exact c
 .rw[lZ,if_neg (bj d),if_neg (bj e)]at c;exact c
theorem Yl:bk 138 Sw:=by
 refine iB func138 ?_;rintro z m h K ⟨a,b,rfl,c⟩;refine⟨dG [] [] [] [] false,rfl,aF,RH a b m h K,bf,?_⟩;dsimp only[RH,push_cast];unfold lZ BY P2 at c;obtain⟨g,t⟩:=Oh a.text.data.toList b.text.data.toList;refine aE (λd=>?_) (λd=>aE (λj=>?_) (λj=>aE (λo=>?_) (λo=>aE (λu=>?_) (λu=>aB (λf=>?_) (λf=>aB (λn=>?_) (λn=>?_))))))
 .rw[if_pos d]at c;exact c
 .rw[if_neg d,if_pos j]at c;exact c
 .rw[if_neg d,if_neg j,if_pos o]at c;exact c
 .rw[if_neg d,if_neg j,if_neg o,if_pos u]at c;exact c
 all_goals rw[if_neg d,if_neg j,if_neg o,if_neg u]at c
 all_goals rw[ByteArray.toList_eq,ByteArray.toList_eq]at f
 .rw[if_neg bg,if_neg bg,g.1 f]at c;exact c
 .have y:Lib.compareBytes a.text.data.toList b.text.data.toList=1:=by
   rcases t with e|e|e
   .rw[g.2 e]at f;cases f
   .rw[G4]at e;rw[ByteArray.toList_eq,ByteArray.toList_eq,e]at n;simp at n
   .exact e
  rw[if_neg bg,if_neg bg,y]at c;exact c
 .have y:Lib.compareBytes a.text.data.toList b.text.data.toList=0:=by
   rw[ByteArray.toList_eq,ByteArray.toList_eq,f]at n;rw[G4];simpa using n
  rw[if_neg bg,if_neg bg,y]at c;exact c
theorem Sc{a b:bu}{x y:VV}(hx:a[i]? =some x)(c:b[i]? =some y):eC (a.drop i) (b.drop i)=if lZ x y≠0 then lZ x y else eC (a.drop (i+1)) (b.drop (i+1)):=by
 rw[drop_cons hx,drop_cons c,eC]
theorem X3:bk 165 bKX:=by
 refine iB func165 ?_;rintro F m h K ⟨s,t,a,b,rfl,o,E,d⟩;refine⟨aVZ s t m h,rfl,aD HG aF,Rp s t m h K,bf,?_⟩;dsimp only[Rp,push_cast];have z:=bN.slen o;have f:=bN.slen E;have G:=o.len;refine⟨λi=>i<=a.length/\i<=b.length/\eC a b=eC (a.drop i) (b.drop i),λi=>a.length-i,⟨0,⟨aC,aC,bg⟩,MT⟩,λi⟨S,T,e⟩=>aE (λg=>?_) (λA=>?_)⟩
 .obtain⟨x,B⟩:=eN z g;obtain⟨H,I,u,J,L,rfl⟩:=bN.at o B;refine⟨H,I,J,aC,g,x,.imm L,aE (λA=>?_) (λc=>?_)⟩
  .rw[e,drop_cons B,drop_eq_nil_of_le (show b.length<=i by omega),eC]at d;exact d
  .have c:(i:Int)<(t.len:Int):=by omega
   obtain⟨y,j⟩:=eN f c;obtain⟨M,O,u,P,Q,rfl⟩:=bN.at E j;rw[Sc B j]at e;refine⟨M,O,P,aC,c,y,.imm Q,x,y,rfl,aB (λC=>?_) (λD=>⟨i+1,⟨aC,aC,?_⟩,(show a.length-(i+1)<a.length-i by omega),MT⟩)⟩
   .rw[e,if_pos (bj C)]at d;exact d
   .rw[e,if_neg (bj D)]
 .have:a.drop i=[]:=drop_eq_nil_of_le aC;rw[this]at e;refine aE (λR=>?_) (λR=>?_)
  .obtain⟨y,j⟩:=eN (l:=b) (i:=i) (n:=t.len) f aC;rw[e,drop_cons j,eC]at d;exact d
  .rw[e,drop_eq_nil_of_le aC,eC]at d;exact d
theorem BL:bk 118 JU:=by
 refine iB func118 ?_;rintro c m h K ⟨s,t,a,b,rfl,d,e,f⟩;refine⟨dG [(165,bKX)] [] [] [] false,rfl,aD X3 aF,azJ s t m h K,bf,?_⟩;exact⟨s,t,a,b,rfl,d,e,f⟩
theorem QP:bk 72 JU:=by
 refine iB func72 ?_;rintro H m h K ⟨s,t,a,b,rfl,A,G,c⟩;refine⟨bqJ s t m h,rfl,aD Yl aF,Vf s t m h K,bf,?_⟩;dsimp only[Vf,push_cast];have f:=bN.slen A;have g:=bN.slen G;have I:=A.len;refine⟨λi=>i<=a.length/\i<=b.length/\eC a b=eC (a.drop i) (b.drop i),λi=>a.length-i,⟨0,⟨aC,aC,bg⟩,MT⟩,λi⟨T,U,j⟩=>aE (λe=>aE (λd=>?_) (λB=>?_)) (λB=>?_)⟩
 .obtain⟨x,o⟩:=eN f e;obtain⟨y,z⟩:=eN g d;obtain⟨J,L,u,M,O,rfl⟩:=bN.at A o;obtain⟨P,Q,u,R,S,rfl⟩:=bN.at G z;rw[Sc o z]at j;refine⟨J,L,M,aC,e,x,.imm O,P,Q,R,aC,d,y,.imm S,x,y,rfl,aB (λC=>?_) (λD=>⟨i+1,⟨aC,aC,?_⟩,(show a.length-(i+1)<a.length-i by omega),MT⟩)⟩
  .rw[j,if_pos (bj C)]at c;exact c
  .rw[j,if_neg (bj D)]
 .obtain⟨x,o⟩:=eN f e;rw[j,drop_cons o,drop_eq_nil_of_le (show b.length<=i by omega),eC]at c;exact aE (λE=>aC) (λE=>aE (λF=>c) (λF=>aC))
 .rw[j,drop_eq_nil_of_le (show a.length<=i by omega)]at c;refine aE (λE=>?_) (λE=>aE (λF=>aC) (λF=>?_))
  .obtain⟨y,z⟩:=eN (l:=b) (i:=i) (n:=t.len) g aC;rw[drop_cons z,eC]at c;exact c
  .rw[drop_eq_nil_of_le aC,eC]at c;exact c
theorem asX:bk 27 bFJ:=by
 refine iB func27 ?_;rintro G m h K ⟨s,t,a,b,rfl,o,C,D⟩;refine⟨bvZ s t m h,rfl,aD QP aF,Vw s t m h K,bf,?_⟩;dsimp only[Vw,push_cast];have c:=bN.slen o;have f:=bN.slen C;have H:=o.len;have E:a≠b->K (cB false) m h:=λh=>D false ⟨λe=>(by cases e),λe=>(h e).elim⟩;refine aB (λz=>E (λe=>Kq c f z (by rw[e]))) (λz=>?_);have I:=Kr c f z;refine⟨λi=>i<=a.length/\∀j:Nat,j<i->a[j]? =b[j]?,λi=>a.length-i,⟨0,⟨aC,λj X=>by omega⟩,MT⟩,λi F=>aE (λd=>?_) (λJ=>?_)⟩
 .obtain⟨x,A⟩:=eN c d;obtain⟨y,B⟩:∃y,b[i]? =some y:=eN (n:=s.len) aC d;obtain⟨L,M,u,O,P,Q⟩:=bN.at o A;obtain⟨R,S,v,T,U,V⟩:=bN.at C B;refine⟨L,M,O,aC,d,u,.imm P,R,S,T,aC,aC,v,.imm U,u,v,x,y,rfl,Q,V,aB (λg=>E (Qr A B (λe=>?_))) (λW=>?_)⟩
  .rw[lC.2 e]at g;cases g
  .exact⟨i+1,⟨aC,yO A B (lC.1 (bj W)) F.2⟩,(show a.length-(i+1)<a.length-i by omega),MT⟩
 .exact D true ⟨λ_=>Bt I aC F.2,λ_=>rfl⟩
structure E4(h:PH)(P:bu->Prop) where
 s:Sl
 l:bu
 ok:bP h s l
 pr_:P l
def E4.pr{h:PH}{P:bu->Prop}(x:E4 h P):Sl×bu:=(x.s,x.l)
def Aw(h:PH){R:bu->Prop}(x:E4 h R):Value:=.slice x.s.a x.s.len x.s.cap
theorem Lq{w w':World}(e:w'.tape=w.tape)(f:w'.os=w.os)(g:w'.output=w.output)(n:w.drawn<=w'.drawn)(o:w.heap.size<=w'.heap.size)(j:∀b,b<w.heap.size->w'.heap[b]? =w.heap[b]?):
 ∃q t,w'=Sort.grow (w.drewN q) t:=by
 refine⟨w'.drawn-w.drawn,w'.heap.extract w.heap.size w'.heap.size,?_⟩;obtain⟨u,D,E,F,G⟩:=w';obtain⟨c,y,z,A,B⟩:=w;dsimp only at e f g n o j;subst e f g;unfold Sort.grow World.drewN;dsimp only;congr 1
 .apply Array.ext_getElem?;intro k;rw[Array.getElem?_append];by_cases d:k<c.size
  .rw[if_pos d];exact j k d
  .rw[if_neg d,Array.getElem?_extract];by_cases C:k<u.size
   .rw[if_pos aC];congr 1;omega
   .rw[if_neg aC,Array.getElem?_eq_none aC]
 .omega
structure bKQ(P:Program)(R:bu->Prop)(g:Nat)(cb:bm)(m2:MH)(h:PH)(cf:bu->bu->Int):Prop where
 ex:∃S,Sound P g S/\∀x y:E4 h R,S ([cS x.s,cS y.s]++cb.map .val) m2 h (λr m' h'=>r=cI (cf x.l y.l)/\m'=m2/\h'=h)
theorem a6X{P:Program}{R:bu->Prop}{g:Nat}{cb:bm}{m2:MH}{h:PH}[Inhabited (E4 h R)]{cf:bu->bu->Int}(E:bKQ P R g cb m2 h cf){w:World}{blk off size:Nat}
 (U:∀b o v,h b o=some v->w.cell? ⟨b,o,none⟩=some v/\b≠blk)(V:∀b o,m2 b=some o->w.heap[b]? =some o/\b≠blk)(X:∀b o,m2 b=some o->∀i,h b i=none):
 CmpLays1 P g cb.toArray (Aw h (R:=R)) (λx y=>cf x.l y.l) blk off size w:=by
 obtain⟨S,M,Y⟩:=E.ex;intro F O G Z x y;obtain⟨W,Q⟩:∃W,Go.Proofs.sortWorld (Aw h (R:=R)) w blk off F G O=W:=⟨_,rfl⟩
 rw[Q]
 have D:∀b,b<w.heap.size->b≠blk->W.heap[b]? =w.heap[b]? :=λb n H=>by
  rw[<-Q];show((Sort.putRow (Aw h) (Sort.ahead w F) blk off G).heap++O)[b]? =_;have M:(Sort.putRow (Aw h) (Sort.ahead w F) blk off G).heap.size=w.heap.size:=by unfold Sort.putRow Sort.mapBlock;simp[Sort.ahead]
  rw[Array.getElem?_append_left aC];unfold Sort.putRow Sort.mapBlock;simp only[Array.getElem?_modify,if_neg (Ne.symm H)];rfl
 have z:∀(l:bm)(w:World),BV w (l.map .val) l:=λl w=>by
  induction l with
  |nil=>trivial
  |cons a l ih=>exact⟨rfl,ih⟩
 have A:∀(l:bm)(i:Nat)(c:CV)(u:Value)(b:Nat),(l.map CV.val)[i]? =some c->gE c u=some b->False:=λl i c u b f n=>by
  rw[getElem?_map]at f;cases e:l[i]? with
  |none=>rw[e]at f;cases f
  |some v=>rw[e]at f;simp at f;subst f;simp[gE]at n
 have T:[cS x.s,cS y.s]++cb.map .val=([Aw h x,Aw h y]++cb).map .val:=by simp[cS,Aw]
 have t:Al W m2 h ([cS x.s,cS y.s]++cb.map .val) ([Aw h x,Aw h y]++cb):=by
  rw[T];refine⟨z _ _,?_,?_,X,λi j c d u v b f _ _ _ n _=>(A _ i c u b f n).elim,λi c u b f _ n=>(A _ i c u b f n).elim⟩
  .intro b o v hv;obtain⟨B,I⟩:=U b o v hv;rw[World.cell?_of_block (w:=w) (w':=W) (a:=⟨b,o,none⟩) (D b (World.block_lt_of_cell? w ⟨b,o,none⟩ B) I)];exact B
  .intro b o n;obtain⟨B,I⟩:=V b o n;rw[D b (Array.getElem?_eq_some_iff.1 B).1 I];exact B
 have:=M.2 _ _ m2 h W _ (Y x y) t;have e2:(([Aw h x,Aw h y]++cb).toArray:Array Value)= #[Aw h x,Aw h y]++cb.toArray:=bg
 rw[e2]at this;refine this.mono ?_;rintro e w' ⟨r,u,m',h',rfl,⟨rfl,rfl,rfl⟩,J,C,_⟩;have hu:u= .int .i64 (cf x.l y.l):=J;subst hu;refine⟨rfl,Lq C.tape C.os C.output C.drawn C.size (λb n=>?_)⟩;cases L:m' b with
 |none=>
  refine C.frame b n ?_;rintro(B|⟨i,c,u,f,_,E⟩)
  .exact B L
  .rw[T]at f;exact A _ i c u b f E
 |some o=>rw[C.msat b o L];exact(t.msat b o L).symm
theorem NU{α:Type}[Inhabited α]{d c:Array α}(h:Sort.PermIn 0 d.size d c):c.toList.Perm d.toList:=by
 obtain⟨f,_,e⟩:=h;have g:d.extract 0 d.size=d:=bg
 have j:c.extract 0 d.size=c:=by rw[<-f];simp
 rw[g,j]at e;exact e
theorem Qs{h:PH}{R:bu->Prop}:∀(ps:cv),(∀p∈ps,bP h p.1 p.2)->(∀p∈ps,R p.2)->∃ds:List (E4 h R),ds.map E4.pr=ps
 |[],_,_=>⟨[],rfl⟩
 |p::ps,e,f=>by
  obtain⟨ds,c⟩:=Qs (R:=R) ps (λq d=>e q (mem_cons_of_mem _ d)) (λq d=>f q (mem_cons_of_mem _ d));exact⟨⟨p.1,p.2,e p (mem_cons_self ..),f p (mem_cons_self ..)⟩::ds,by rw[map_cons,c];rfl⟩
theorem J1{R:bu->Prop}{w:World}{m:MH}{h:PH}{s:Sl}{g:Nat}{cb:bm}{ps:cv}{cf:bu->bu->Int}{m2:MH}{z:Value}(a4:z= .func (.func g) #[] cb.toArray)
 (E:Al w m h [cS s,.val z] [s.val,z])(hg:∃V,Tryz.prog.funcs[g]? =some V/\V.body.isSome=true/\(V.name== "runtime.NumGoroutine")=false)(hr:cR m s 100 1 (ps.map λp=>eS p.1))(hv:∀p∈ps,bP h p.1 p.2)(hR:∀p∈ps,R p.2)(b5:ps.length<=140737488355328)
 (hO:Sort.SWO (Go.Proofs.ltOf (fun(x y:E4 h R)=>cf x.l y.l)))(hc:bKQ Tryz.prog R g cb m2 h cf)(M:∀b o,m2 b=some o->m b=some o/\∀i,s.a≠some ⟨b,i,none⟩)
 {K:bo}(hK:∀(O:cv)(m':MH),O.Perm ps->O.Pairwise (λp q=>¬cf q.2 p.2<0)->cR m' s 100 1 (O.map λp=>eS p.1)->(∀b,(∀i,s.a≠some ⟨b,i,none⟩)->m' b=m b)->K (.tup []) m' h):
 Calls Tryz.prog 171 #[s.val,z] w λe w'=>∃r u m' h',e= .returned u/\K r m' h'/\Du w' r u/\vR ⟨w,rU m [cS s,.val z] [s.val,z],h,[]⟩ m' h' w'/\(∀b,gE r u=some b->(w.heap.size<=b\/rU m [cS s,.val z] [s.val,z] b)/\m' b=none/\∀i,h' b i=none):=by
 subst a4;by_cases G:ps=[]
 .subst G;have a5:s.len=0:=by have:=cR.slen hr;simpa using this
  have:=AnyF.slices_SortFunc_none Tryz.sortN s.a s.cap (.func (.func g) #[] cb.toArray) w;rw[show s.val= .slice s.a 0 s.cap by rw[<-a5];rfl];refine Calls.mono (show Calls Tryz.prog 171 #[.slice s.a 0 s.cap,.func (.func g) #[] cb.toArray] w _ from this) ?_;rintro e w' ⟨rfl,rfl⟩;exact⟨.tup [],.tuple #[],m,h,rfl,hK [] m (.refl _) .nil hr (λ_ _=>rfl),⟨#[],rfl,rfl⟩,⟨rfl,rfl,rfl,Nat.le_refl _,Nat.le_refl _,λ_ _ _=>rfl,E.hsat,E.msat,E.disj,λ_ _ _ e=>e,λ_ _ _=>rfl,λb o W=>.inr (.inl (by rw[show m b=some o from W];simp))⟩,λb W=>by simp[gE]at W⟩
 obtain⟨p0,X⟩:=exists_mem_of_ne_nil _ G
 haveI:Inhabited (E4 h R):=⟨⟨p0.1,p0.2,hv p0 X,hR p0 X⟩⟩
 rcases hr.ex with⟨rfl,hx⟩|⟨b,A,B,rfl,Y,h0,h1,h2,h3⟩
 .exact(G (bj hx)).elim
 .simp only[length_map]at h0 h3;have I:=E.msat b _ Y;have Z:=(Array.getElem?_eq_some_iff.1 I).1;obtain⟨C,J⟩:∃C:List (E4 h R),C.map E4.pr=ps:=Qs ps hv hR;have P:C.length=ps.length:=by rw[<-J];simp
  have a':∀j,(t:j<C.length)->B[j]? =some (Aw h C[j]):=λj t=>by
   have:(B.toList.take (ps.length*1))[j]? =((ps.map λp=>eS p.1).flatten)[j]? :=by rw[h3]
   rw[getElem?_take,if_pos aC,Array.getElem?_toList]at this;rw[this, <-J]
   have hf:((C.map E4.pr).map λp:Sl×bu=>eS p.1).flatten=C.map (Aw h):=by
    clear J P t this
    induction C with
    |nil=>rfl
    |cons a l ih=>simp only[map_cons,flatten_cons,ih];rfl
   rw[hf];simp[t]
  have a6:B.size=A:=bj h2
  have hH:Sort.Holds (Aw h) w b 0 C.toArray:=by
   intro j t;have t:j<C.length:=bj t
   refine⟨?_,?_⟩
   .rw[cell_of_heap I,Array.getElem?_toList,Nat.zero_add,a' j t,getElem!_pos _ j (bj t)];simp
   .unfold World.frozen?;rw[I];simp
  obtain⟨V,a7,L,a8⟩:=hg
  have eg:∀args w,(callFunc g args).run Tryz.prog w= .ok (.enter g args) w:=λargs w=>by
   have a9:¬V.body=none:=by intro e;rw[e]at L;cases L
   have b0:¬V.name= "runtime.NumGoroutine" :=bj a8
   simp[callFunc,program,Sem.run,a7,b0,a9]
  have a0:=a6X (blk:=b) (off:=0) (size:=C.toArray.size) hc (w:=w) (λd o v D=>⟨E.hsat d o v D,λe=>by rw[e,E.disj b _ Y o]at D;cases D⟩) (λd o c=>⟨E.msat d o (M d o c).1,λe=>(M d o c).2 0 (by rw[e])⟩) (λd o c=>E.disj d o (M d o c).1);have Q:=Any.slices_SortFunc Tryz.sortF (Aw h) (λ_=>rfl) (λx y=>cf x.l y.l) hO g cb.toArray b 0 A C.toArray w eg a0 hH Z (by simp;omega);have e3:(Sl.val ⟨some ⟨b,0,none⟩,(ps.map λp=>eS p.1).length,A⟩)= .slice (some ⟨b,0,none⟩) C.toArray.size A:=by simp[Sl.val,P]
  rw[e3];refine Calls.mono Q ?_;rintro e w' ⟨rfl,f,n,os,a1,b1,rfl⟩;have S:f.size=C.length:=by have:=a1.1;simpa using this
  have T:=NU a1;obtain⟨m',F⟩:∃m',gG m m' b (.cells (Sort.putCells (Aw h) 0 f B) 100 (0,0)):=⟨λd=>if d=b then some (.cells (Sort.putCells (Aw h) 0 f B) 100 (0,0))else m d,bg,λd c=>by simp[c]⟩
  have b2:(Sort.putRow (Aw h) (Sort.ahead w n) b 0 f).heap.size=w.heap.size:=by unfold Sort.putRow Sort.mapBlock;simp[Sort.ahead]
  have a2:(Go.Proofs.sortWorld (Aw h) w b 0 n f os).heap[b]? =some (.cells (Sort.putCells (Aw h) 0 f B) 100 (0,0)):=by
   show((Sort.putRow (Aw h) (Sort.ahead w n) b 0 f).heap++os)[b]? =_;rw[Array.getElem?_append_left aC];unfold Sort.putRow Sort.mapBlock;simp only[Array.getElem?_modify,if_true];show Option.map _ w.heap[b]? =_;rw[I];rfl
  have H:∀d,d<w.heap.size->d≠b->(Go.Proofs.sortWorld (Aw h) w b 0 n f os).heap[d]? =w.heap[d]? :=λd c U=>by
   show((Sort.putRow (Aw h) (Sort.ahead w n) b 0 f).heap++os)[d]? =_;rw[Array.getElem?_append_left aC];unfold Sort.putRow Sort.mapBlock;simp only[Array.getElem?_modify,if_neg (Ne.symm U)];rfl
  have hE:rU m [cS ⟨some ⟨b,0,none⟩,(ps.map λp=>eS p.1).length,A⟩,.val (.func (.func g) #[] cb.toArray)] [.slice (some ⟨b,0,none⟩) C.toArray.size A,.func (.func g) #[] cb.toArray] b:=.inl (by rw[Y];simp);refine⟨.tup [],.tuple #[],m',h,rfl,hK (f.toList.map E4.pr) m' ?_ ?_ ?_ (λd c=>F.other d (λe=>c 0 (by rw[e]))),⟨#[],rfl,rfl⟩,⟨rfl,rfl,rfl,Nat.le_add_right _ _,?_,?_,?_,?_,?_,λ_ _ _ e=>e,λ_ _ _=>rfl,?_⟩,λb W=>by simp[gE]at W⟩
  .have:=T.map (λx:E4 h R=>x.pr);rw[<-J];exact this
  .rw[pairwise_map,pairwise_iff_getElem];intro i j hi t b3 a3;have hi:i<f.size:=bj hi
   have t:j<f.size:=bj t
   have:=b1 i j (Nat.zero_le _) b3 (by simp;omega);rw[getElem!_pos f i hi,getElem!_pos f j t]at this;unfold Go.Proofs.ltOf at this;simp only[decide_eq_false_iff_not]at this;simp only[Array.getElem_toList]at a3;exact this a3
  .refine⟨⟨λe he=>?_,λe he u hu=>?_⟩,.inr ⟨b,A,_,?_,F.at_,by simp;omega,h1,?_,?_⟩⟩
   .obtain⟨x,_,rfl⟩:=mem_map.1 he;rfl
   .obtain⟨x,_,rfl⟩:=mem_map.1 he;have:u= .slice x.1.a x.1.len x.1.cap:=by simpa[eS]using hu
    rw[this];rfl
   .simp[S,P]
   .simp[Sort.putCells,a6]
   .apply ext_getElem?;intro j
    have hf:((f.toList.map E4.pr).map λp:Sl×bu=>eS p.1).flatten=f.toList.map (Aw h):=by
     generalize f.toList=l
     induction l with
     |nil=>rfl
     |cons a l ih=>simp only[map_cons,flatten_cons,ih];rfl
    rw[hf,getElem?_take];simp only[length_map,Array.length_toList,Nat.mul_one];by_cases t:j<f.size
    .rw[if_pos t,Array.getElem?_toList,getElem?_map,Array.getElem?_toList,Array.getElem?_eq_getElem t];have b4:j<B.size:=by omega
     simp only[Sort.putCells,Array.getElem?_mapIdx,Array.getElem?_eq_getElem b4,Option.map_some,Nat.zero_le,Nat.zero_add,Nat.sub_zero,true_and];rw[if_pos t,getElem!_pos f j t]
    .rw[if_neg t,getElem?_eq_none (by simp;omega)]
  .show w.heap.size<=(Sort.grow _ os).heap.size;rw[Sort.size_grow,b2];omega
  .intro d c hn;exact H d c (λe=>hn (e▸hE))
  .intro d o v D;have U:d≠b:=λe=>by rw[e,E.disj b _ Y o]at D;cases D
   have h5:=E.hsat d o v D;rw[World.cell?_of_block (w:=w) (a:=⟨d,o,none⟩) (H d (World.block_lt_of_cell? w ⟨d,o,none⟩ h5) U)];exact h5
  .intro d o c;by_cases e:d=b
   .subst e;rw[F.at_]at c;cases c;exact a2
   .rw[F.other d e]at c;have h5:=E.msat d o c;rw[H d (Array.getElem?_eq_some_iff.1 h5).1 e];exact h5
  .intro d o c i;by_cases e:d=b
   .subst e;exact E.disj d _ Y i
   .rw[F.other d e]at c;exact E.disj d o c i
  .intro d o c;by_cases e:d=b
   .subst e;exact .inr hE
   .rw[F.other d e]at c;exact .inr (.inl (by rw[c];simp))
end Go.Ps
namespace Go.Vc
open Go List
theorem cR.rd{m:MH}{h:PH}{s:Sl}{E sz:Nat}{xs:List bm}(r:cR m s E sz xs){i:Nat}{e:bm}(d:xs[i]? =some e):∃b,s.a=some ⟨b,0,none⟩/\aJ m h b (i*sz) e:=by
 rcases r.ex with⟨_,rfl⟩|⟨b,u,g,rfl,y,D,F,G,z⟩
 .simp at d
 .refine⟨b,rfl,.lent g E (0,0) y ?_⟩;have A:=(List.getElem?_eq_some_iff.1 d).1;have j:=r.rows.len e (mem_of_getElem? d)
  have n:∀(l:List bm)(k:Nat),(∀x∈l,x.length=sz)->l[k]? =some e->(l.flatten.drop (k*sz)).take sz=e:=by
   intro l
   induction l with
   |nil=>intro k _ c;simp at c
   |cons a l B=>
    intro k t c;have o:=t a (mem_cons_self ..);cases k with
    |zero=>
     simp at c;subst c;rw[flatten_cons,Nat.zero_mul,drop_zero, <-o,take_left]
    |succ k=>
     rw[flatten_cons,Nat.succ_mul,Nat.add_comm, <-drop_drop, <-o,drop_left,o];exact B k (λx C=>t x (mem_cons_of_mem _ C)) (bj c)
  have f:=n xs i r.rows.len d;rw[j];rw[<-z]at f;rw[drop_take,take_take]at f
  have:min sz (xs.length*sz-i*sz)=sz:=by
   rw[<-Nat.sub_mul];have:1*sz<=(xs.length-i)*sz:=Nat.mul_le_mul_right _ aC;omega
  rw[this]at f;exact f
theorem sI.sub{m m':MH}{h:PH}{s:Sl}{sz:Nat}{c:List bm}(r:sI m h s sz c)(d:∀b o,m b=some o->m' b=some o):sI m' h s sz c:=by
 rcases r with r|⟨b,o,e,E,f,g,j,n,t⟩
 .exact .imm r
 .exact .lent b o e E f g j (d _ _ n) t
theorem cR.src{m:MH}{h:PH}{s:Sl}{E sz:Nat}{xs:List bm}(r:cR m s E sz xs):sI m h s sz xs:=by
 rcases r.ex with⟨rfl,rfl⟩|⟨b,d,c,rfl,e,g,j,n,f⟩
 .exact .imm (cZ.nil h sz)
 .refine .lent b 0 c E (0,0) rfl rfl e ?_;have:xs.flatten.length=xs.length*sz:=cL r.rows.len;rw[drop_zero,this];exact f
end Go.Vc
namespace Go.Ps
open Go Go.Vc Go.Proofs List Tryz
variable{K:bo}{m:MH}{h:PH}{s:mI}{ps:br}{cb:Nat}{sc:bY}{v:QV}{q:Query}{p:Pred}{l:br}{i:Nat}{N:Nat}{m':MH}{h':PH}{co:br}{gr:br}{od:bz}{w:Pred}{ta:Int}{li:Int}{xs:List bm}{sz:Nat}{k:Nat}{ks:List br}{rs:br}{r:Sl}{a:br}{b:Nat}
structure Sx{α:Type}(c:α->α->Int):Prop where
 anti:∀x y,c x y= -c y x
 trans:∀x y z,c x y<=0->c y z<=0->c x z<=0
theorem Sx.zero{α:Type}{c:α->α->Int}(h:Sx c){x y z:α}(d:c x y<=0)(e:c y z<=0)(f:c x z=0):c x y=0/\c y z=0:=by
 have g:=h.anti x z;have j:=h.anti x y;have n:=h.anti y z;have o:=h.trans z x y aC d;have t:=h.trans y z x e aC;omega
theorem Tc{c d:Int}(h:(if c≠0 then c else d)<=0):c<=0:=by
 split at h
 .exact h
 .omega
theorem Sx.lex{α:Type}{c d:α->α->Int}(h:Sx c)(k:Sx d):Sx (λx y=>if c x y≠0 then c x y else d x y):=by
 refine⟨λx y=>?_,λx y z f g=>?_⟩
 .have a:=h.anti x y;have b:=k.anti x y;show(if c x y≠0 then c x y else d x y)= -(if c y x≠0 then c y x else d y x)
  by_cases e:c x y=0
  .rw[if_neg (bj e),if_neg (by have:c y x=0:=by omega
                               simpa using this)];exact b
  .rw[if_pos e,if_pos aC];exact a
 .have j:c x y<=0:=Tc f;have n:c y z<=0:=Tc g;have o:=h.trans x y z j n;show(if c x z≠0 then c x z else d x z)<=0;by_cases e:c x z=0
  .obtain⟨t,u⟩:=h.zero j n e;have f:(if c x y≠0 then c x y else d x y)<=0:=f;have g:(if c y z≠0 then c y z else d y z)<=0:=g;rw[if_neg (bj t)]at f;rw[if_neg (bj u)]at g;rw[if_neg (bj e)];exact k.trans x y z f g
  .rw[if_pos e];exact o
theorem Sx.of{α β:Type}{c:α->α->Int}(h:Sx c)(f:β->α):Sx (λx y=>c (f x) (f y)):=⟨λx y=>h.anti _ _,λx y z=>h.trans _ _ _⟩
theorem V8:Sx BY:=by
 refine⟨λx y=>?_,λx y z=>?_⟩
 .unfold BY;split<;>split<;>(first|omega|(split<;>omega))
 .unfold BY;intro c d;split at c<;>split at d<;>(repeat' split at*)<;>omega
theorem Sd:∀a b:ci,Lib.compareBytes a b= -Lib.compareBytes b a
 |[],[]=>rfl
 |[],_::_=>rfl
 |_::_,[]=>rfl
 |a::l,b::k=>by
  simp only[Lib.compareBytes];by_cases c:a<b
  .have d:¬b<a:=λh=>absurd (UInt8.lt_trans c h) (UInt8.lt_irrefl _);simp[c,d]
  .by_cases d:b<a
   .simp[c,d]
   .simp only[c,d,if_false];exact Sd l k
theorem Pe:∀a b c:ci,Lib.compareBytes a b<=0->Lib.compareBytes b c<=0->Lib.compareBytes a c<=0
 |[],_,[],_,_=>by simp[Lib.compareBytes]
 |[],_,_::_,_,_=>by simp[Lib.compareBytes]
 |_::_,[],_,f,_=>by simp[Lib.compareBytes]at f
 |_::_,_::_,[],_,d=>by simp[Lib.compareBytes]at d
 |a::l,b::k,c::q,f,d=>by
  simp only[Lib.compareBytes]at f d⊢
  by_cases j:a<c
  .simp[j]
  .by_cases g:a<b
   .have t:¬b<c:=λh=>j (UInt8.lt_trans g h);have cb:c<b:=UInt8.lt_of_le_of_lt (UInt8.not_lt.1 j) g;simp[t,cb]at d
   .by_cases n:b<a
    .simp[g,n]at f
    .have e:a=b:=UInt8.le_antisymm (UInt8.not_lt.1 n) (UInt8.not_lt.1 g);subst e;simp only[g,j,if_false]at f d⊢
     by_cases o:c<a
     .simp[o]at d
     .simp only[o,if_false]at d⊢
      exact Pe l k q f d
theorem JI:Sx lZ:=by
 have c:Sx P2:=⟨λx y=>Sd _ _,λx y z=>Pe _ _ _⟩
 exact(V8.of VV.kind).lex ((V8.of VV.int).lex (c.of VV.text))
theorem mX:∀a b,eC a b= -eC b a
 |[],[]=>rfl
 |[],_::_=>rfl
 |_::_,[]=>rfl
 |x::l,y::k=>by
  have a:=JI.anti x y;simp only[eC];by_cases e:lZ x y=0
  .rw[if_neg (bj e),if_neg (by have:lZ y x=0:=by omega
                               simpa using this)];exact mX l k
  .rw[if_pos e,if_pos aC];exact a
theorem BM:∀a b c,eC a b<=0->eC b c<=0->eC a c<=0
 |[],_,[],_,_=>by simp[eC]
 |[],_,_::_,_,_=>by simp[eC]
 |_::_,[],_,d,_=>by simp[eC]at d
 |_::_,_::_,[],_,f=>by simp[eC]at f
 |x::l,y::k,z::q,d,f=>by
  simp only[eC]at d f⊢
  have g:lZ x y<=0:=Tc d;have j:lZ y z<=0:=Tc f;have n:=JI.trans x y z g j;by_cases e:lZ x z=0
  .obtain⟨o,t⟩:=JI.zero g j e;rw[if_neg (bj o)]at d;rw[if_neg (bj t)]at f;rw[if_neg (bj e)];exact BM l k q d f
  .rw[if_pos e];exact n
theorem FL:Sx eC:=⟨mX,BM⟩
theorem Sx.swo{R:bu->Prop}{cf:bu->bu->Int}(c:Sx cf):Sort.SWO (Go.Proofs.ltOf (fun(x y:E4 h R)=>cf x.l y.l)):=by
 refine⟨λx=>?_,λx y z d f=>?_,λx y z d f=>?_⟩
 .have:=c.anti x.l x.l;unfold Go.Proofs.ltOf;simp;omega
 .unfold Go.Proofs.ltOf at*
  simp only[decide_eq_true_eq]at*
  have t:=c.trans x.l y.l z.l aC aC;by_cases e:cf x.l z.l=0
  .have:=c.zero (x:=x.l) (y:=y.l) (z:=z.l) aC aC e;omega
  .omega
 .unfold Go.Proofs.ltOf at*
  simp only[decide_eq_false_iff_not]at*
  have g:=c.anti x.l y.l;have j:=c.anti y.l z.l;have n:=c.anti x.l z.l;have t:=c.trans z.l y.l x.l aC aC;omega
def Kw(x:bu):bt->bt
 |[]=>[x]
 |y::l=>if eC x y<0 then x::y::l else if eC x y=0 then y::l else y::Kw x l
def Fe(l:bt):bt:=l.foldr Kw []
abbrev nJ(l:bt):Prop:=l.Pairwise λx y=>eC x y<0
theorem On{x z:bu}:∀{l:bt},z∈Kw x l↔z=x\/z∈l
 |[]=>by simp[Kw]
 |y::l=>by
  simp only[Kw];split
  .simp
  .split
   .rename_i _ e;have:=lC.1 e;subst this;simp
   .simp only[mem_cons,On (l:=l)];exact⟨λh=>by rcases h with h|h|h<;>simp[h],λh=>by rcases h with h|h|h<;>simp[h]⟩
theorem LV{x:bu}:∀{l:bt},nJ l->nJ (Kw x l)
 |[],_=>by simp[Kw]
 |y::l,h=>by
  obtain⟨d,g⟩:=pairwise_cons.1 h;simp only[Kw];split
  .rename_i f;refine pairwise_cons.2 ⟨λz c=>?_,h⟩;rcases mem_cons.1 c with rfl|c
   .exact f
   .have t:=BM x y z aC (by have:=d z c;omega);by_cases e:eC x z=0
    .have:=FL.zero (x:=x) (y:=y) (z:=z) aC (by have:=d z c;omega) e;omega
    .omega
  .split
   .exact h
   .rename_i j n;refine pairwise_cons.2 ⟨λz c=>?_,LV g⟩;rcases On.1 c with rfl|c
    .have:=mX z y;omega
    .exact d z c
theorem H5{x:bu}:∀{l:bt},x∈Fe l↔x∈l
 |[]=>by simp[Fe]
 |y::l=>by
  show x∈Kw y (Fe l)↔_;rw[On,H5,mem_cons]
theorem Fc:∀(l:bt),nJ (Fe l)
 |[]=>.nil
 |_::l=>LV (Fc l)
theorem NB:∀{a b:bt},nJ a->nJ b->(∀x,x∈a↔x∈b)->a=b
 |[],[],_,_,_=>rfl
 |[],y::_,_,_,h=>by have:=(h y).2 bg;simp at this
 |x::_,[],_,_,h=>by have:=(h x).1 bg;simp at this
 |x::a,y::b,n,o,h=>by
  obtain⟨g,t⟩:=pairwise_cons.1 n;obtain⟨j,u⟩:=pairwise_cons.1 o;have c:∀z,¬eC z z<0:=λz=>by have:=mX z z;omega
  have e:x=y:=by
   rcases mem_cons.1 ((h x).1 bg)with e|d
   .exact e
   .rcases mem_cons.1 ((h y).2 bg)with e|A
    .exact e.symm
    .have B:=g y A;have C:=j x d;have:=mX x y;omega
  subst e;congr 1;refine NB t u (λz=>⟨λf=>?_,λf=>?_⟩)
  .rcases mem_cons.1 ((h z).1 (mem_cons_of_mem _ f))with rfl|d
   .exact absurd (g z f) (c z)
   .exact d
  .rcases mem_cons.1 ((h z).2 (mem_cons_of_mem _ f))with rfl|d
   .exact absurd (j z f) (c z)
   .exact d
theorem Zg{l r:bt}(c:nJ r)(d:∀x,x∈r↔x∈l):r=Fe l:=NB c (Fc l) λx=>by rw[d,H5]
def adZ:Vc.Spec:=λc m h K=>∃(s:Sl)(d:ca),c=[cS s]/\sI m h s 1 (d.map eS)/\d.length<=502633886983/\∀e m',cR m' e 100 1 (d.map eS)->(∀b o,m b=some o->m' b=some o)->(∀b i,e.a=some ⟨b,i,none⟩->m b=none)->K (cS e) m' h
def baQ:Vc.Spec:=λd m h K=>∃(s:Sl)(ps:cv),d=[cS s,.val (.func (.func 118) #[] #[])]/\cR m s 100 1 (ps.map λp=>eS p.1)/\(∀p∈ps,bP h p.1 p.2)/\ps.length<=140737488355328/\
 ∀(c:cv)(m':MH),c.Perm ps->c.Pairwise (λp q=>¬eC q.2 p.2<0)->cR m' s 100 1 (c.map λp=>eS p.1)->(∀b,(∀i,s.a≠some ⟨b,i,none⟩)->m' b=m b)->K (.tup []) m' h
structure eE(h:PH)(us:ca)(rs:bt):Prop where
 len:us.length=rs.length
 at_:∀(j:Nat) x,rs[j]? =some x->∃u,us[j]? =some u/\bP h u x
def baJ:Vc.Spec:=λc m h K=>∃s d l,c=[cS s]/\sI m h s 1 (d.map eS)/\eE h d l/\l.length<=502633886983/\∀e h',PH.le h h'->Rows h' e (Fe l)->K (cS e) m h'
noncomputable def a0Z:Ctx:=
 dG [(170,adZ),(171,baQ),(118,JU)] [(5,{A:=Nat×ca×Sl×MH×PH,st:=λ⟨i,c,s,m,h⟩=>bO 38 39 [(3,sv s),(4,.at (.lst 35)),(11,sv s),(12,iv s.len),(13,iv i)] [(35,.lst 100 1 (c.map eS))] m h})] [] [] false
def OU(n c:Nat)(m:MH)(h:PH)(K:bo):Prop:=
  K jG m h
theorem aVX(n c:Nat)(m:MH)(h:PH)(K:bo):OU n c m h K=(sC (pF [] [] [] [] [68,1068] [] false) Tryz.f170 (cC Tryz.f170) (entry Tryz.f170.ntmps [.val (.slice none n c)] m h) K):=bf
abbrev iF(a:Sl->MH->Prop):Prop:=∀(x:Sl)(c:MH),a x c
abbrev Ix(a:MH)(b:PH)(c d:Nat)(e:List bm)(g:Sl->MH->(List bm)->Prop):Prop:=iF (λx f=>rE a f b x c d e->∃(j:List bm),g x f j)
abbrev C2(a:Prop)(b:(List bm)->Prop):Prop:=a/\∃(x:List bm),b x
attribute [push_cast] iF Ix C2
def OT(a:Addr)(n c:Nat)(m:MH)(h:PH)(K:bo):Prop:=
  Ix m h 100 1 [] (λs d x=>C2 (cR d (dJ s) 100 1 x) (λy=>aA (eR 1 y) (sI d h (Sl.mk (Option.some a) n c) 1 y) (aA (rY x y 24) (rZ x y) (iF (λe f=>eK d f (dJ s) e 100 1 (x++y)->K (rC e) f h)))))
theorem aVQ(a:Addr)(n c:Nat)(m:MH)(h:PH)(K:bo):OT a n c m h K=(sC (pF [] [] [] [] [68,1068] [] false) Tryz.f170 (cC Tryz.f170) (entry Tryz.f170.ntmps [.val (.slice (some a) n c)] m h) K):=bf
abbrev Iw(a:Nat)(b:ca)(c:MH->Nat->Obj->Prop)(d:Sl->MH->Prop):Prop:=∀(x:Sl)(e:MH),aY (cR e x 100 a (kS b)) (∀(f:Nat)(g:Obj),c e f g) (d x e)
abbrev Et(a:MH)(b:Nat):Prop:=a b=Option.none
abbrev DU(a:MH)(b:Sl)(c:cv):Prop:=cR a b 100 1 (List.map (fun(x:Sl×bu)=>aM x.1) c)
abbrev MY(a:(Nat×ca×Sl×MH×PH->Prop)->(Nat×ca×Sl×MH×PH)->Prop)(b:(Nat×ca×Sl×MH×PH->Prop)->(Nat×ca×Sl×MH×PH->Nat)->(Nat×ca×Sl×MH×PH)->Prop):Prop:=∃(x:Nat×ca×Sl×MH×PH->Prop)(d:Nat×ca×Sl×MH×PH->Nat),(∃(c:Nat×ca×Sl×MH×PH),a x c)/\∀(c:Nat×ca×Sl×MH×PH),b x d c
noncomputable abbrev fJ(a:Nat×ca×Sl×MH×PH):Sl:=a.2.2.1
abbrev Cy(a:List bm):Prop:=rB 100 1 a
noncomputable abbrev lI(a:Nat×ca×Sl×MH×PH):List bm:=kS a.2.1
noncomputable abbrev iO(a:Nat×ca×Sl×MH×PH):MH×PH:=a.2.2.2
noncomputable abbrev oG(a:Nat×ca×Sl×MH×PH):Nat->Nat->Option Value:=(iO a).2
noncomputable abbrev Ew(a:List bm):List bm:=[]++a
abbrev Od(a b:Prop)(c:(Nat×ca×Sl×MH×PH)->Prop):Prop:=aA a b (∃(x:Nat×ca×Sl×MH×PH),c x)
abbrev lJ(a b:List bm):Prop:=Option.some (Own.lst 100 1 a)=Option.some (Own.lst 100 1 b)
abbrev eU(a b:MH×PH):Prop:=cT a.1 b
abbrev cW(a b:MH×PH):Prop:=eA a.2 b
attribute [push_cast] Iw Et DU MY fJ Cy lI iO oG Ew Od lJ eU cW
def K6(s:Sl)(m:MH)(h:PH)(K:bo):Prop:=
  ∃(D:Sl)(u:ca),aA (gW s=gW D) (sI m h D 1 (kS u)) (u.length<=502633886983/\Iw 1 u (λn b o=>m b=Option.some o->n b=Option.some o) (λg n=>(∀(b i:Nat),aL g.a b i->Et m b)->∃(z:Sl)(p:cv),aA (eJ g (wO 118)=eJ z (wO 118)) (DU n z p) (aA (∀(e:Sl×bu),List.Mem e p->bP h e.1 e.2) (lN p.length) (∀(e:cv)(B:MH),aY (List.Perm e p) (List.Pairwise (fun(H:Sl×bu)=>fun(q:Sl×bu)=>¬(eC q.2 H.2<0)) e) (aY (DU B z e) (∀(b:Nat),(∀(i:Nat),jU (aL z.a b i))->B b=n b) (MY (λI x=>aA (I x) (bB g (fJ x)) (aA (eL 35) (bB g (fJ x)) (aA (bQ g (fJ x)) (bC x.1) (aA (Cy (lI x)) (cT B (iO x)) (j4 (eA h
 (iO x))))))) (λI f x=>I x->aZ (↑x.1:Int) (aG (fJ x)) (aK (λb o=>aA (aL (fJ x).a b o) (0<=(↑x.1:Int)) ((↑x.1:Int)<aG (fJ x)/\∃(y:Sl),aJ (iO x).1 (oG x) b (bK o x.1 1) (aM y)/\eD (↑x.1:Int) 0 (∃(d:List bm),aA (eR 3 d) (cZ (oG x) (dJ y) 3 d) (aA (iY (0+d.length) 32) (lN (0+d.length)) (bZ (oG x) 3 (Ew d) (λA C=>Od (iL (lI x)) (dO (lI x)) (λc=>aA (I c) (f c<f x) (aA (bB (fJ x) (fJ c)) (eL 35) (aA (bB (fJ x) (fJ c)) (bQ (fJ x) (fJ c)) (aA (bD (fP (bE x.1 1)) c.1) (lJ (iN (lI x) A) (lI c)) (gX (eU (iO x) (iO c)) (eA C (iO c))))))))))) (aK (λE F=>aA (aL (fJ x).a E F) (0<=eT ((↑x.1:Int)
 -1)) (eT ((↑x.1:Int)-1)<aG (fJ x)/\∃(d:Sl),aJ (iO x).1 (oG x) E (fX F (eT ((↑x.1:Int)-1)) 1) (aM d)/\∃(A:Sl),oA (λt a=>∃(G:bu),aA (cA d y=cA A t) (bP (oG x) A a) (bP (oG x) t G/\cO (eC a G) 0 (∃(j:List bm),aA (eR 3 j) (cZ (oG x) (dJ y) 3 j) (aA (iY (0+j.length) 32) (lN (0+j.length)) (bZ (oG x) 3 (Ew j) (λJ C=>Od (iL (lI x)) (dO (lI x)) (λc=>aA (I c) (f c<f x) (aA (bB (fJ x) (fJ c)) (eL 35) (aA (bB (fJ x) (fJ c)) (bQ (fJ x) (fJ c)) (aA (bD (fP (bE x.1 1)) c.1) (lJ (iN (lI x) J) (lI c)) (gX (eU (iO x) (iO c)) (eA C (iO c))))))))))) (∃(c:Nat×ca×Sl×MH×PH),aA (I
 c) (f c<f x) (aA (bB (fJ x) (fJ c)) (eL 35) (aA (bB (fJ x) (fJ c)) (bQ (fJ x) (fJ c)) (aA (bD (fP (bE x.1 1)) c.1) (lJ (lI x) (lI c)) (gX (eU (iO x) (iO c)) (cW (iO x) (iO c))))))))))))))) (uM (oG x) (lI x) K (iO x).1))))))))
theorem Ao(l:ca):eR 1 (l.map eS):=by
 constructor
 .intro e c;obtain⟨x,_,rfl⟩:=mem_map.1 c;rfl
 .intro e c u d;obtain⟨x,_,rfl⟩:=mem_map.1 c;have:u= .slice x.a x.len x.cap:=by simpa[eS]using d
  rw[this];rfl
theorem NK(l:bu):eR 3 (l.map VV.enc):=by
 constructor
 .intro e c;obtain⟨x,_,rfl⟩:=mem_map.1 c;rfl
 .intro e c u d;obtain⟨x,_,rfl⟩:=mem_map.1 c;simp only[VV.enc,mem_cons,not_mem_nil,or_false]at d;rcases d with rfl|rfl|rfl<;>rfl
theorem X0:bk 170 adZ:=by
 refine eV (fn:=Tryz.f170) (c:=cC Tryz.f170) func170 rfl bh ?_;rintro B m h K ⟨s,u,rfl,g,G,y⟩;obtain⟨a,n,c⟩:=s;refine⟨pF [] [] [] [] [68,1068] [] false,rfl,aF,?_⟩;cases a with
 |none=>
  show sC _ Tryz.f170 (cC Tryz.f170) (entry Tryz.f170.ntmps [.val (.slice none n c)] m h) K;rw[<-aVX n c m h K];dsimp only[OU,push_cast]
  have e:u.map eS=[]:=by
   rcases g with g|⟨b,o,H,E,I,e,_⟩
   .rcases g.row with e|⟨b,o,e,_⟩
    .exact e
    .cases e
   .cases e
  rw[e]at y;exact y ⟨none,0,0⟩ m ⟨⟨(λe z=>by cases z),(λe z=>by cases z)⟩,.inl ⟨rfl,rfl⟩⟩ (λb o e=>e) (λb i e=>by cases e)
 |some a=>
  show sC _ Tryz.f170 (cC Tryz.f170) (entry Tryz.f170.ntmps [.val (.slice (some a) n c)] m h) K;rw[<-aVQ a n c m h K];dsimp only[OT,push_cast];intro s m' d
  have sub:∀b o,m b=some o->m' b=some o:=λb o f=>by
   rw[d.other b (λi e=>by rw[(d.fresh b i e).m_]at f;cases f)];exact f
  refine⟨[],d.row,u.map eS,Ao u,g.sub sub,by simp;omega,by simp;omega,λC D A=>y C D (bj A.row) (λb o f=>?_) (λb i e=>?_)⟩
  .exact A.other b o (sub b o f) (λi e=>by have e:s.a=some ⟨b,i,none⟩:=e;rw[(d.fresh b i e).m_]at f;cases f)
  .rcases A.fresh b i e with t|⟨j,t⟩
   .cases F:m b with
    |none=>rfl
    |some o=>rw[sub b o F]at t;cases t
   .exact(d.fresh b j t).m_
theorem VI:bk 171 baQ:=by
 refine⟨⟨Tryz.f171,func171,rfl,bh⟩,?_⟩;rintro f e m h w K ⟨s,ps,rfl,j,n,t,u⟩ d
 obtain⟨v,c,rfl⟩:∃v c,e=[v,c]:=by
  have:=(nY d.args).1
  match e,this with
  |[v,c],_=>exact⟨v,c,rfl⟩
 have z:v=s.val:=d.args.1;have A:c= .func (.func 118) #[] #[]:=d.args.2.1;subst z A;refine J1 (R:=λ_=>True) (g:=118) (cb:=[]) (m2:=λ_=>none) (cf:=eC) rfl d ⟨Tryz.f118,func118,rfl,bh⟩ j n (λ_ _=>trivial) t FL.swo ⟨JU,BL,λx y=>⟨x.s,y.s,x.l,y.l,rfl,x.ok,y.ok,rfl,rfl,rfl⟩⟩ (λb o B=>by cases B) u
theorem eE.mono{us:ca}{rs:bt}(x:eE h us rs)(le:PH.le h h'):eE h' us rs:=⟨x.len,λj r d=>(x.at_ j r d).imp λ_ c=>⟨c.1,bP.mono c.2 le⟩⟩
theorem eE.nil(h:PH):eE h [] []:=⟨rfl,λj x c=>by simp at c⟩
theorem eE.snoc{us:ca}{rs:bt}(x:eE h us rs){u:Sl}{r:bu}(f:bP h u r):eE h (us++[u]) (rs++[r]):=by
 refine⟨by simp[x.len],λj y c=>?_⟩;by_cases d:j<rs.length
 .rw[getElem?_append_left d]at c;obtain⟨v,g,n⟩:=x.at_ j y c;exact⟨v,by rw[getElem?_append_left (by rw[x.len];exact d)];exact g,n⟩
 .rw[getElem?_append_right aC]at c;have:=(List.getElem?_eq_some_iff.1 c).1;simp at this;have e:j=rs.length:=by omega
  subst e;simp at c;subst c;exact⟨u,by rw[getElem?_append_right (by rw[x.len];exact Nat.le_refl _),x.len];simp,f⟩
theorem eE.rows{h:PH}{us:ca}{rs:bt}{s:Sl}(x:eE h us rs)(c:cZ h s 1 (us.map eS))(d:rs.length<=502633886983):Rows h s rs:=⟨⟨us,c,x.len.symm,x.at_⟩,d⟩
structure Y0(ps':cv)(s1:Sl)(m2:MH)(h:PH)(i:Nat)(us2:ca)(s2:Sl)(mx:MH)(hx:PH):Prop where
 s_:s2=s1
 m_:mx=m2
 le:PH.le h hx
 hi:i<=ps'.length
 hu:us2.length<=i
 ex:∃rs,eE hx us2 rs/\nJ rs/\∀x,x∈rs↔x∈(ps'.take i).map Prod.snd
theorem Mc{hx:PH}{u:Sl}{r:bu}{us:ca}{Q:Sl->PH->Prop}(c:bP hx u r)(y:us.length<=502633886983)(f:∀s h',hx.le h'->bP h' s r->Q s h'):
 ∃d:List bm,eR 3 d/\cZ hx (Sl.mk u.a u.len u.cap) 3 d/\(0+d.length)*32<=140737488355328/\0+d.length<=140737488355328/\∀(s:Sl)(h':PH),hx.le h'->cZ h' s 3 ([]++d)->
  ((List.map eS us).length+1)*24<=140737488355328/\(List.map eS us).length<140737488355328/\Q s h':=by
 obtain⟨e,g,j,n⟩:=c.ex;have o:=c.len;refine⟨e.map VV.enc,NK e,g,by rw[length_map];omega,by rw[length_map];omega,λs h' le t=>⟨by rw[length_map];omega,by rw[length_map];omega,f s h' le ⟨⟨e,t,j,n⟩,o⟩⟩⟩
theorem bAZ{s:Sl}{us:ca}{l:bt}(hr:sI m h s 1 (us.map eS))(I:eE h us l)(b8:l.length<=502633886983)(hK:∀s' h',PH.le h h'->Rows h' s' (Fe l)->K (cS s') m h'):K6 s m h (kA h K):=by
 dsimp only[K6,push_cast];have b9:=I.len.symm;have Y:=I.at_;refine⟨s,us,rfl,hr,aC,λs1 m1 L M Z=>⟨s1,us.zip l,rfl,?_,λp J=>?_,by simp;omega,λc m2 f a' g O=>?_⟩⟩
 .have:(us.zip l).map (λp=>[dT p.1])=us.map eS:=by
   rw[show(λp:Sl×bu=>[dT p.1])=eS∘Prod.fst from rfl, <-map_map,map_fst_zip aC]
  rw[this];exact L
 .obtain⟨j,n⟩:=getElem?_of_mem J;rw[getElem?_zip_eq_some]at n;obtain⟨u,G,h2⟩:=Y j p.2 n.2;rw[n.1]at G;cases G;exact h2
 .have c':c.length=us.length:=by rw[f.length_eq];simp;omega
  have a0:=cR.slen g;simp only[length_map]at a0
  have a1:∀{i:Nat}{p:Sl×bu},c[i]? =some p->bP h p.1 p.2:=fun{i p} J=>by
   have:=f.mem_iff.1 (mem_of_getElem? J);obtain⟨j,n⟩:=getElem?_of_mem this;rw[getElem?_zip_eq_some]at n;obtain⟨u,G,h2⟩:=Y j p.2 n.2;rw[n.1]at G;cases G;exact h2
  have a2:∀x,x∈c.map Prod.snd↔x∈l:=λx=>by
   rw[(f.map Prod.snd).mem_iff,map_snd_zip aC]
  have P:∀b o,m b=some o->m2 b=some o:=λb o hb=>by
   rw[O b (λi e2=>by rw[Z b i e2]at hb;cases hb)];exact M b o hb
  refine⟨λx=>Y0 c s1 m2 h x.1 x.2.1 x.2.2.1 x.2.2.2.1 x.2.2.2.2,λx=>c.length-x.1,⟨(0,[],s1,m2,h),⟨rfl,rfl,.refl _,bg,bg,[],.nil h,.nil,bg⟩,MT⟩,?_⟩;rintro⟨i,B,Q,R,hx⟩ ⟨e1,e2,le,hi,b0,rs,C,S,d⟩;dsimp only at e1 e2 le hi b0 C;subst e1 e2;refine aE (λa3=>?_) (λb1=>?_)
  .dsimp only at a3;have a4:i<c.length:=by omega
   obtain⟨p,J⟩:∃p,c[i]? =some p:=⟨_,getElem?_eq_getElem a4⟩
   obtain⟨b,e1,r1⟩:=g.rd (h:=hx) (i:=i) (e:=eS p.1) (by simp[J];rfl);have T:=bP.mono (a1 J) le
   have D:∀x,x∈(c.take (i+1)).map Prod.snd↔x∈(c.take i).map Prod.snd\/x=p.2:=λx=>by
    rw[take_add_one,J];simp
   have a5:(∀y∈rs,eC y p.2<0)->∀(s:Sl)(h':PH),hx.le h'->bP h' s p.2->Y0 c Q R h (i+1) (B++[s]) Q R h':=λhc s h' A E=>by
    refine⟨rfl,rfl,le.trans A,aC,by simp;omega,rs++[p.2],(C.mono A).snoc E,pairwise_append.2 ⟨S,bg,λy U z hz=>?_⟩,λx=>?_⟩
    .simp at hz;subst hz;exact hc y U
    .rw[D,mem_append,d];simp
   have keep:p.2∈rs->Y0 c Q R h (i+1) B Q R hx:=λhc=>
    ⟨rfl,rfl,le,aC,aC,rs,C,S,λx=>by rw[D,d];exact⟨.inl,λh=>h.elim id λe=>by rw[e, <-d];exact hc⟩⟩
   refine⟨b,0,e1,by show(0:Int)<=(i:Int);omega,a3,p.1,by simpa[eS]using r1,aB (λW=>?_) (λW=>?_)⟩
   .have W:i=0:=bj W
    subst W
    have b2:rs=[]:=by
     cases rs with
     |nil=>rfl
     |cons y _=>have:=(d y).1 bg;simp at this
    exact Mc T (by dsimp only;omega) (λs h' A E=>⟨(0+1,B++[s],Q,R,h'),a5 (by rw[b2];simp) s h' A E,(by dsimp only;omega),rfl,rfl,rfl,rfl,rfl,by simp[eS],rfl,rfl,trivial⟩)
   .have W:i≠0:=bj W
    have hw:IntKind.i64.wrap ((i:Int)-1)=((i-1:Nat):Int):=by rw[eG aC aC];omega
    obtain⟨q,X⟩:∃q,c[i-1]? =some q:=⟨_,getElem?_eq_getElem aC⟩
    obtain⟨b',b3,b4⟩:=g.rd (h:=hx) (i:=i-1) (e:=eS q.1) (by simp[X];rfl);have b5:=bP.mono (a1 X) le
    have a6:q.2∈rs:=by
     rw[d];refine mem_map.2 ⟨q,?_,rfl⟩;exact mem_of_getElem? (i:=i-1) (by rw[getElem?_take,if_pos aC];exact X)
    have F:∀y∈rs,eC y q.2<=0:=λy U=>by
     rw[d]at U;obtain⟨z,hz,rfl⟩:=mem_map.1 U;obtain⟨j,n⟩:=getElem?_of_mem hz;have b6:=(List.getElem?_eq_some_iff.1 n).1;simp only[length_take]at b6;rw[getElem?_take,if_pos aC]at n;by_cases e:j=i-1
     .subst e;rw[X]at n;cases n;have:=mX q.2 q.2;omega
     .have G:=pairwise_iff_getElem.1 a' j (i-1) aC aC aC;rw[(List.getElem?_eq_some_iff.1 n).2,(List.getElem?_eq_some_iff.1 X).2]at G;have:=mX z.2 q.2;omega
    have a7:eC q.2 p.2<=0:=by
     have G:=pairwise_iff_getElem.1 a' (i-1) i aC aC aC;rw[(List.getElem?_eq_some_iff.1 J).2,(List.getElem?_eq_some_iff.1 X).2]at G;have:=mX q.2 p.2;omega
    dsimp only;rw[hw];refine⟨b',0,b3,aC,aC,q.1,by simpa[eS]using b4,q.1,p.1,q.2,p.2,rfl,b5,T,aB (λa8=>?_) (λV=>?_)⟩
    .have a8:eC q.2 p.2≠0:=bj a8
     refine Mc T aC (λs h' A E=>⟨(i+1,B++[s],Q,R,h'),a5 (λy U=>?_) s h' A E,(by dsimp only;omega),rfl,rfl,rfl,rfl,by rw[iJ aC],by simp[eS],rfl,rfl,trivial⟩);have t:=BM y q.2 p.2 (F y U) a7;by_cases e:eC y p.2=0
     .have:=FL.zero (F y U) a7 e;omega
     .omega
    .have V:eC q.2 p.2=0:=bj V
     exact⟨(i+1,B,Q,R,hx),keep (by rw[<-lC.1 V];exact a6),(by dsimp only;omega),rfl,rfl,rfl,rfl,by rw[iJ aC],rfl,rfl,rfl,trivial⟩
  .intro s3 h3 H a9;dsimp only at b1 a9 H;have b7:i=c.length:=by omega
   subst b7;rw[take_length]at d;have e:rs=Fe l:=Zg S (λx=>by rw[d,a2]);subst e;have hl:=C.len;exact⟨m,h3,P,le.trans H,.refl _,hK s3 h3 (le.trans H) ((C.mono H).rows a9 aC)⟩
theorem EK:bk 123 baJ:=by
 refine ED func123 ?_;rintro c m h K ⟨s,j,l,rfl,d,e,f,g⟩;refine⟨a0Z,rfl,aD X0 (aD VI (aD BL aF)),K6 s m h (kA h K),bf,?_⟩;exact bAZ d e f g
end Go.Ps
namespace Go.Vc
open Go List
section
variable{B:qJ}{C:Ctx}{ι:cg}{σ:St}{a:Act}{w:World}{o:Oper}{K:St->Prop}
def Py(ι:cg)(σ:St)(b:Nat):Prop:=σ.m b≠none\/∃k o,nth σ.own k=some (some o)/\blk (ι k)=some b
def reB(ι:cg)(σ:St)(ds:List Deferred)(w:World):qJ:=⟨w,Py ι σ,σ.h,ds⟩
theorem aI.rebase(c:aI B ι σ a w):aI (reB ι σ a.defers w) ι σ a w:=by
 have f:=c.wrel;refine⟨c.slots,rfl,c.own,c.dist,λk o b g d=>?_,?_,c.one⟩
 .obtain⟨_,j,n⟩:=c.fresh k o b g d;exact⟨.inr (.inr ⟨k,o,g,d⟩),j,n⟩
 .exact⟨rfl,rfl,rfl,Nat.le_refl _,Nat.le_refl _,λ_ _ _=>rfl,f.hsat,f.msat,f.disj,λ_ _ _ e=>e,λ_ _ _=>rfl,
   λb o d=>.inr (.inl (by rw[d];simp))⟩
theorem aI.mine(c:aI B ι σ a w){b:Nat}(h:Py ι σ b):(B.w0.heap.size<=b\/B.E b)/\b<w.heap.size/\∀i,σ.h b i=none:=by
 rcases h with h|⟨k,o,f,g⟩
 .cases e:σ.m b with
  |none=>exact(h e).elim
  |some d=>exact⟨c.wrel.mfr b d e,(Array.getElem?_eq_some_iff.1 (c.wrel.msat b d e)).1,c.wrel.disj b d e⟩
 .obtain⟨j,_,n⟩:=c.fresh k o b f g;exact⟨j,pA (c.own k o f) g,n⟩
theorem aI.unbase(t:aI B ι σ a w){ds:List Deferred}{z:cg}{τ:St}{A:Act}{w':World}(h:aI (reB ι σ ds w) z τ A w'):aI {B with dfs:=ds} z τ A w':=by
 have f:=t.wrel;have c:=h.wrel
 have n:∀b,(w.heap.size<=b\/Py ι σ b)->B.w0.heap.size<=b\/B.E b:=λb d=>by
  rcases d with g|g
  .exact .inl (Nat.le_trans f.size g)
  .exact(t.mine g).1
 refine⟨h.slots,h.defers,h.own,h.dist,λk o b D d=>?_,?_,h.one⟩
 .obtain⟨F,G,H⟩:=h.fresh k o b D d;exact⟨n b F,G,H⟩
 .have I:w.heap.size<=w'.heap.size:=c.size;refine⟨c.tape.trans f.tape,c.os.trans f.os,c.output.trans f.output,Nat.le_trans f.drawn c.drawn,Nat.le_trans f.size I,?_,c.hsat,c.msat,c.disj,λb i v e=>c.hle b i v (f.hle b i v e),?_,λb o d=>n b (c.mfr b o d)⟩
  .intro b d j
   have u:¬Py ι σ b:=λy=>by
    rcases(t.mine y).1 with g|g
    .exact absurd d (Nat.not_lt.2 g)
    .exact j g
   have:=c.frame b (Nat.lt_of_lt_of_le d f.size) u;rw[this];exact f.frame b d j
  .intro b d j
   have u:¬Py ι σ b:=λy=>by
    rcases(t.mine y).1 with g|g
    .exact absurd d (Nat.not_lt.2 g)
    .exact j g
   have:τ.h b=σ.h b:=c.hold b (Nat.lt_of_lt_of_le d f.size) u;rw[this];exact f.hold b d j
theorem aI.grown(j:aI B ι σ a w){w':World}{row:Option Nat}(u:w.grownBy w' row)(y:w.drawn<=w'.drawn)(f:∀r,row=some r->B.w0.heap.size<=r/\¬Py ι σ r/\∃ob:Obj,w.heap[r]? =some ob/\ob.isCells=false):aI B ι σ a w':=by
 have c:=j.wrel;have g:∀b,b<w.heap.size->(∀r,row=some r->b≠r)->w'.heap[b]? =w.heap[b]? :=λb d n=>u.block b d (λe=>n b e.symm rfl);have mine:∀b,Py ι σ b->w'.heap[b]? =w.heap[b]? :=λb d=>g b (j.mine d).2.1 (λr e h=>(f r e).2.1 (h▸d));refine⟨j.slots,j.defers,λk o F=>(j.own k o F).world (λb d=>mine b (.inr ⟨k,o,F,d⟩)),j.dist,j.fresh,?_,j.one⟩;refine⟨u.tape.trans c.tape,u.os.trans c.os,u.output.trans c.output,Nat.le_trans c.drawn y,Nat.le_trans c.size u.size,?_,?_,?_,c.disj,c.hle,c.hold,c.mfr⟩
 .intro b d z;rw[g b (Nat.lt_of_lt_of_le d c.size) (λr e h=>by have:=(f r e).1;omega)];exact c.frame b d z
 .intro b i v G;have t:=c.hsat b i v G;have A:b<w.heap.size:=World.block_lt_of_cell? w ⟨b,i,none⟩ t
  have n:∀r,row=some r->b≠r:=λr e h=>by
   obtain⟨_,_,ob,D,E⟩:=f r e;unfold World.cell? at t;rw[h]at t;dsimp only at t;rw[D]at t;cases ob<;>simp[Obj.isCells]at E t
  rw[World.cell?_of_block (w:=w) (w':=w') (a:=⟨b,i,none⟩) (g b A n)];exact t
 .intro b o d;rw[mine b (.inl (by rw[d];simp))];exact c.msat b o d
def sL:Code->Bool
 |.skip=>true
 |.ret=>true
 |.exit _=>true
 |.region _ c _=>c.toList.all λo=>match o.op with|.defer _=>false|_=>true
 |.seq x y=>sL x&&sL y
 |.cond _ x y=>sL x&&sL y
 |.block _ x=>sL x
 |.loop x=>sL x
 |_=>false
def Plain(ops:Array Oper):Prop:=∀(i:Nat)(o:Oper),ops[i]? =some o->∀c,o.op≠ .defer c
theorem Uz{ops:Array Oper}(h:(ops.toList.all λo=>match o.op with|.defer _=>false|_=>true)=true):Plain ops:=by
 intro i o d c e;rw[all_eq_true]at h;have:=h o (mem_of_getElem? (by rw[Array.getElem?_toList];exact d));rw[e]at this;cases this
theorem yS(l:Nat){P:Program}{ops:Array Oper}(c:Plain ops){Q:Exit->Act->World->Prop}:∀(L:ck)(a:Act)(w:World),wpOpsIn Fence.wide 0 P ops Q L a w->wpOpsIn (Fence.wide.inRound l) 0 P ops Q L a w
 |[],_,_,h=>h
 |i::L,a,w,h=>by
  unfold wpOpsIn at h⊢
  cases d:ops[i]? with
  |none=>rw[d]at h;exact yS l c L a w h
  |some o=>
   rw[d]at h;dsimp only at h⊢
   split
   .rename_i e;rw[if_pos e]at h;exact Hk l (c i o d) (Oper.wpIn_mono (λa w=>yS l c L a w) h)
   .rename_i e;rw[if_neg e]at h;exact⟨λ_ _=>trivial,yS l c L _ _ h.2⟩
theorem B0(l:Nat){P:Program}{j:Region.Mode}{ops:Array Oper}(c:Plain ops){Q:Exit->Act->World->Prop}(d:¬LetsOut Q):∀(n:Nat)(L:Array Bool)(a:Act)(w:World),wpAny P j ops Q n L a w->wpAnyIn (Fence.wide.inRound l) 0 P j ops Q n L a w
 |0,_,_,_,h=>h
 |n+1,L,a,w,h=>by
  refine⟨h.1,λi t=>?_⟩;have:=h.2 i t;unfold wpOp at this;unfold wpOpIn;cases e:ops[i]? with
  |none=>rw[e]at this;exact B0 l c d n _ _ _ this
  |some o=>
   rw[e]at this;dsimp only at this⊢
   split
   .rename_i f;rw[if_pos f]at this;rcases this with g|g
    .exact Hk l (c i o e) (Oper.wpIn_mono (λa w=>B0 l c d n _ a w) (Nq g))
    .exact(d g.2).elim
   .rename_i f;rw[if_neg f]at this;exact⟨λ_ _=>trivial,B0 l c d n _ _ _ this⟩
theorem EP{F:Fence}{n:Nat}{P:Program}{Q:Exit->Act->World->Prop}{a:Act}{w:World}{c:Code}(I:Nat->Act->World->Prop)(u:Nat)(z:I u a w)
 (d:∀k a w,I k a w->c.wpIn F n P (Exit.then (λy w'=>∃g,g<k/\I g y w') Q) a w):(Code.loop c).wpIn F n P Q a w:=by
 refine wpIn_loop (λa w=>∃k,I k a w) (λa w=>leastOf (λk=>I k a w)) ⟨u,z⟩ ?_;intro a w A;refine wpIn_mono (d _ a w (leastOf_spec A).1) ?_;intro e y w' j;cases e with
 |normal=>
  obtain⟨g,t,f⟩:=j;exact⟨⟨g,f⟩,Nat.lt_of_le_of_lt ((leastOf_spec ⟨g,f⟩).2 g f) t⟩
 |exit id=>exact j
 |ret=>exact j
 |goto l=>exact j
 |panic D=>exact j
 |outgrown=>exact j
theorem Qb(l:Nat)(G:∀g S,assoc C.specs g=some S->Sound C.P g S):∀(c:Code),sL c=true->∀(σ:St)(Q:Az->St->Prop)(ι:cg)(a:Act)(w:World),aI B ι σ a w->VC C c σ Q->c.wpIn (Fence.wide.inRound l) 0 C.P (QD B Q) a w:=by
 intro c
 induction c with
 |skip=>intro z σ Q ι a w A h;exact wpIn_skip ⟨ι,σ,A,h⟩
 |label l=>intro z;cases z
 |exit id=>intro z σ Q ι a w A h;exact wpIn_exit ⟨ι,σ,A,h⟩
 |ret=>intro z σ Q ι a w A h;exact wpIn_ret ⟨ι,σ,A,h⟩
 |goto l=>intro z;cases z
 |refuse a9=>intro z;cases z
 |scope a8 ih=>intro z;cases z
 |rangeFunc f ps x y H J=>intro z;cases z
 |region id ops a4=>
  intro z σ Q ι a w A h;cases a4 with
  |false=>
   refine wpIn_region (yS l (Uz z) _ _ _ ?_);have:=J6 G (ops:=ops) (Q:=Q) (J5 C id) ops.toList 0 ι σ a w (λj=>bg) A h;rw[range_eq_range'];simpa using this
  |true=>
   simp only[VC]at h;split at h
   .rename_i h1 h2 h3;have a5:=aGZ h1 h2;refine wpIn_region_any h3 (B0 l (Uz z) (λ⟨_,_,e⟩=>e) _ _ _ _ ?_);refine Sf G a5 (Q:=QD B Q) (R:=Q .normal) (λι σ a w A h=>⟨ι,σ,A,h⟩) (λc a w h=>h) ops.size ops.size _ ι σ a _ (A.drew (w.drawn+1) (Nat.le_succ _)) h _ a ?_ ?_
    .have X:∀i,(Array.replicate ops.size false).getD i false=true->False:=by
      intro i L;by_cases E:i<ops.size
      .simp[Array.getD,E]at L
      .simp[Array.getD,E]at L
     exact⟨bg,bg,λi L=>L,λi o _ L=>(X i L).elim,λi o _ L=>(X i L).elim,λi o _ L=>(X i L).elim,rfl,rfl,λt _=>rfl,λi o _ L=>(X i L).elim⟩
    .unfold tY;rw[filter_eq_self.2]
     .simp
     .intro i L;by_cases E:i<ops.size<;>simp[Array.getD,E]
   .exact h.elim
 |seq x y H J=>
  intro z σ Q ι a w A h;obtain⟨T,U⟩:=Bool.and_eq_true_iff.1 z;simp only[VC]at h;split at h
  .obtain⟨h,D⟩:=h;refine wpIn_seq (wpIn_mono (H T σ _ ι a w A h) ?_);intro e M O d;cases e with
   |normal=>
    obtain⟨W,σ',u,x,Y,Z⟩:=d;show y.wpIn (Fence.wide.inRound l) 0 C.P (QD B Q) M O;obtain⟨ι2,F,_⟩:=kT u Z;exact J U _ Q ι2 M O F (D x Y)
   |exit id=>exact d
   |ret=>exact d
   |goto l=>exact d
   |panic ch=>exact d
   |outgrown=>exact d
  .split at h
   .obtain⟨I,h,D⟩:=h;refine wpIn_seq (wpIn_mono (H T σ _ ι a w A h) ?_);intro e M O d;cases e with
    |normal=>
     obtain⟨W,σ',u,Z⟩:=d;show y.wpIn (Fence.wide.inRound l) 0 C.P (QD B Q) M O;obtain⟨x,ι2,Y,F⟩:=Aq u Z;exact J U _ Q ι2 M O F (D x Y)
    |exit id=>exact d
    |ret=>exact d
    |goto l=>exact d
    |panic ch=>exact d
    |outgrown=>exact d
   .refine wpIn_seq (wpIn_mono (H T σ _ ι a w A h) ?_);intro e M O d;cases e with
    |normal=>
     obtain⟨W,σ',u,h'⟩:=d;show y.wpIn (Fence.wide.inRound l) 0 C.P (QD B Q) M O;exact J U σ' Q W M O u h'
    |exit id=>exact d
    |ret=>exact d
    |goto l=>exact d
    |panic ch=>exact d
    |outgrown=>exact d
 |cond c x y H J=>
  intro z σ Q ι a w A h;obtain⟨T,U⟩:=Bool.and_eq_true_iff.1 z;simp only[VC]at h;split at h
  .rename_i t hc;have V:=A.ev c;rw[hc]at V;have V:a.eval c= .bool t:=V;rcases sG h with⟨rfl,h⟩|⟨rfl,h⟩
   .exact wpIn_cond_true V (H T _ Q ι a w (A.setTmp hc) h)
   .exact wpIn_cond_false V (J U _ Q ι a w (A.setTmp hc) h)
  .exact h.elim
 |block id c ih=>
  intro z σ Q ι a w A h;refine wpIn_block (wpIn_mono (ih z σ _ ι a w A h) ?_);intro e M O d;cases e with
  |normal=>exact d
  |exit i=>
   obtain⟨W,σ',u,h'⟩:=d;show if i=id then _ else _
   simp only at h';split at h'
   .rename_i hb;rw[if_pos (Nat.eq_of_beq_eq_true hb)];exact⟨W,σ',u,h'⟩
   .rename_i hb;rw[if_neg (λe=>by subst e;simp at hb)];exact⟨W,σ',u,h'⟩
  |ret=>exact d
  |goto l=>exact d
  |panic ch=>exact d
  |outgrown=>exact d
 |loop c ih=>
  intro z σ Q ι a w A h;simp only[VC]at h;split at h
  .rename_i ln hl;obtain⟨⟨x,Y,Z⟩,D⟩:=h;obtain⟨ι2,F,_⟩:=kT A Z;refine EP (λn a w=>∃x ι,ln.inv x/\ln.mu x=n/\aI B ι (ln.st x) a w) (ln.mu x) ⟨x,ι2,Y,rfl,F⟩ ?_;rintro n M O ⟨x',W,a0,rfl,u⟩;refine wpIn_mono (ih z _ _ W M O u (D x' a0)) ?_;intro e a6 a7 d;cases e with
   |normal=>
    obtain⟨ι3,σ3,a1,y,hy,E,a2⟩:=d;obtain⟨ι4,a3,_⟩:=kT a1 a2;exact⟨ln.mu y,E,y,ι4,hy,rfl,a3⟩
   |exit id=>exact d
   |ret=>exact d
   |goto l=>exact d
   |panic ch=>exact d
   |outgrown=>exact d
  .split at h
   .rename_i ln hl;obtain⟨I,mu,Z,D⟩:=h;obtain⟨x,ι2,Y,F⟩:=Aq A Z;refine EP (λn a w=>∃x ι,I x/\mu x=n/\aI B ι (ln.st x) a w) (mu x) ⟨x,ι2,Y,rfl,F⟩ ?_;rintro n M O ⟨x',W,a0,rfl,u⟩;refine wpIn_mono (ih z _ _ W M O u (D x' a0)) ?_;intro e a6 a7 d;cases e with
    |normal=>
     obtain⟨ι3,σ3,a1,a2⟩:=d;obtain⟨y,ι4,hy,E,a3⟩:=Me a1 a2;exact⟨mu y,E,y,ι4,hy,rfl,a3⟩
    |exit id=>exact d
    |ret=>exact d
    |goto l=>exact d
    |panic ch=>exact d
    |outgrown=>exact d
   .exact h.elim
end
end Go.Vc
namespace Go.Vc
open Go List
def qM:Code->Bool
 |.seq x y=>qM x||qM y
 |.cond _ x y=>qM x||qM y
 |.block _ x=>qM x
 |.loop x=>qM x
 |.scope x=>qM x
 |.rangeFunc .. =>true
 |_=>false
structure YDo(P:Program)(l:Nat)(vs:bm)(m:MH)(h:PH)(R:Bool->MH->PH->Prop):Prop where
 go:∀w,Ws w m h->∃fn tmps assign body,(Instr.yield l vs.toArray).run P w= .ok (.round l fn tmps assign body) w/\
  RoundIn Fence.wide 0 P l fn tmps assign body w λe w'=>∃u m' h',e= .returned (.bool u)/\R u m' h'/\PD w m h m' h' w'
def a8X(P:Program):Spec:=λc m h K=>∃(l:Nat)(d:bm)(R:Bool->MH->PH->Prop),c= .val (.func (.yield l) #[] #[])::d.map .val/\YDo P l d m h R/\∀u m' h',R u m' h'->K (.val (.bool u)) m' h'
theorem LN:∀{l c:bm},l.map CV.val=c.map CV.val->l=c
 |[],[],_=>rfl
 |a::l,b::c,h=>by
  simp only[map_cons,List.cons.injEq,CV.val.injEq]at h;rw[h.1,LN h.2]
 |[],_::_,h=>by simp at h
 |_::_,[],h=>by simp at h
theorem Np(P:Program):Li P (a8X P):=⟨λl H m h w K⟨I,g,R,d,j,n⟩ t=>by
 simp only[List.cons.injEq,CV.val.injEq,Value.func.injEq,Fn.yield.injEq,and_true]at d;obtain⟨rfl,d⟩:=d;rw[LN d];obtain⟨y,c,f,z,A,D⟩:=j.go w t;exact⟨y,c,f,z,A,D.mono λe J⟨u,m',h',E,F,G⟩=>⟨_,m',h',E,n u m' h' F,G⟩⟩⟩
def bfQ(P:Program)(Src:PH->bm->List bm->Prop):Spec:=λd m h K=>∃(l:Nat)(c:bm)(xs:List bm)(J:Nat->MH->PH->Prop),
 d= .val (.func (.yield l) #[] #[])::c.map .val/\Src h c xs/\J 0 m h/\
 (∀k e m' h',xs[k]? =some e->PH.le h h'->J k m' h'->YDo P l e m' h' (λr g f=>r=true/\PH.le h' f/\J (k+1) g f))/\
 ∀r m' h',PH.le h h'->J xs.length m' h'->K r m' h'
structure FR(P:Program)(g:FuncId)(Src:PH->bm->List bm->Prop):Prop where
 sound:Sound P g (bfQ P Src)
def Qy:SV->SV
 |.at (.val v)=>.at (.val v)
 |.agg c=>match tX c with|some _=>.agg c|none=>.at .junk
 |_=>.at .junk
def UK:Option Own->Option Own:=λ_=>none
def blank(σ:St)(m:MH)(h:PH):St:={sl:=σ.sl.map Qy,own:=σ.own.map UK,m:=m,h:=h}
def SN(l:dd):dk->dd
 |[]=>l
 |(p,x)::r=>SN (l.set p x) r
def Zj(σ:St)(es:dk)(m:MH)(h:PH):St:={sl:=SN (σ.sl.map Qy) es,own:=σ.own.map UK,m:=m,h:=h}
def Mv(C:Ctx)(x y:Code)(σ:St)(es:dk)(m:MH)(h:PH)(R:MH->PH->Prop):Prop:=
 VC C x (Zj σ es m h) (λc τ=>match c with
  |.normal=>VC C y τ (λc υ=>match c with
   |.normal=>R υ.m υ.h
   |_=>False)
  |_=>False)
def W4(C:Ctx)(f:Operand)(ps:Array Tmp)(x y:Code)(σ:St)(K:St->Prop):Prop:=
 match σ.ev f,sL x&&sL y with
 |.at (.val (.func (.func g) j c)),true=>match j.toList with
  |[]=>match ps.toList,C.elemT with
   |[p],[T]=>∃(Src:PH->bm->List bm->Prop)(xs:List (C.dec T).X)(I:Nat->MH->PH->Prop),FR C.P g Src/\Src σ.h c.toList (xs.map λx=>[valOf C.P T ((C.dec T).enc x)])/\I 0 σ.m σ.h/\
    (∀(k:Nat)(e:(C.dec T).X)(m:MH)(h:PH),xs[k]? =some e->PH.le σ.h h->I k m h->Mv C x y σ [(p,mk C.P T (((C.dec T).enc e).map .val))] m h (I (k+1)))/\
    ∀(m:MH)(h:PH),PH.le σ.h h->I xs.length m h->K (blank σ m h)
   |[p,q],[T,U]=>∃(Src:PH->bm->List bm->Prop)(xs:List ((C.dec T).X×(C.dec U).X))(I:Nat->MH->PH->Prop),FR C.P g Src/\Src σ.h c.toList (xs.map λx=>[valOf C.P T ((C.dec T).enc x.1),valOf C.P U ((C.dec U).enc x.2)])/\I 0 σ.m σ.h/\
    (∀(k:Nat)(e:(C.dec T).X)(d:(C.dec U).X)(m:MH)(h:PH),xs[k]? =some (e,d)->PH.le σ.h h->I k m h->Mv C x y σ [(p,mk C.P T (((C.dec T).enc e).map .val)),(q,mk C.P U (((C.dec U).enc d).map .val))] m h (I (k+1)))/\
    ∀(m:MH)(h:PH),PH.le σ.h h->I xs.length m h->K (blank σ m h)
   |_,_=>False
  |_=>False
 |_,_=>False
def VCF(C:Ctx):Code->St->(Az->St->Prop)->Prop
 |.rangeFunc f ps x y,σ,Q=>W4 C f ps x y σ (Q .normal)
 |.seq a b,σ,Q=>match qM a||qM b with
  |false=>VC C (.seq a b) σ Q
  |true=>match Pc C b with
   |some c=>∃I:c.A->Prop,VCF C a σ (λe τ=>match e with
    |.normal=>Ic c I τ
    |e=>Q e τ)/\∀x,I x->VCF C b (c.st x) Q
   |none=>VCF C a σ (λe τ=>match e with
    |.normal=>VCF C b τ Q
    |e=>Q e τ)
 |.block id c,σ,Q=>match qM c with
  |false=>VC C (.block id c) σ Q
  |true=>VCF C c σ (λe τ=>match e with
   |.exit i=>match Nat.beq i id with|true=>Q .normal τ|false=>Q (.exit i) τ
   |e=>Q e τ)
 |.cond c x y,σ,Q=>match qM x||qM y with
  |false=>VC C (.cond c x y) σ Q
  |true=>match σ.ev c with
   |.at (.val (.bool t))=>branch t (VCF C x (setTmp σ c true) Q) (VCF C y (setTmp σ c false) Q)
   |_=>False
 |c,σ,Q=>VC C c σ Q
def bkQ(C:Ctx)(σ:St):List ResultVar->(bm->Prop)->Prop
 |[],K=>K []
 |.cell t T::r,K=>match nth σ.sl t,iR C.P T with
  |some (.at (.val (.pointer (some ⟨b,c,none⟩)))),true=>a6Q C T (aJ σ.m σ.h b c) λl=>match(mk C.P T (l.map .val)).val? with
   |some v=>bkQ C σ r (λrs=>K (v::rs))
   |none=>False
  |_,_=>False
 |_::_,_=>False
def Ka(C:Ctx)(fn:Func)(K:bo)(σ:St):Prop:=
 match Hr C σ fn.results.toList with
 |some _=>Df C fn K σ
 |none=>bkQ C σ fn.results.toList λrs=>match rs with
  |[r]=>K (.val r) σ.m σ.h
  |rs=>K (.tup (rs.map .val)) σ.m σ.h
def Zz(C:Ctx)(fn:Func)(c:Code)(σ:St)(K:bo):Prop:=
 VCF C c σ (λe τ=>match e with
  |.normal=>Ka C fn K τ
  |.ret=>Ka C fn K τ
  |_=>False)
section
variable{B:qJ}{C:Ctx}{ι:cg}{σ:St}{a:Act}{w:World}{K:St->Prop}
theorem ajQ{ι d:cg}{x:SV}{v:Value}(h:Den ι x v):Den d (Qy x) v:=by
 cases x with
 |«at» y=>cases y<;>first|exact h|trivial
 |agg g=>
  simp only[Qy];split
  .rename_i l e;obtain⟨f,rfl,c⟩:=h;rw[Dc e]at c⊢
   exact⟨f,rfl,by rw[iC.vals]at c⊢;exact c⟩
  .trivial
 |tup xs=>trivial
theorem Fy{ι c:cg}:∀{xs:dd}{vs:bm},DenS ι xs vs->DenS c (xs.map Qy) vs
 |[],[],_=>trivial
 |_::_,_::_,h=>⟨ajQ h.1,Fy h.2⟩
 |[],_::_,h=>h.elim
 |_::_,[],h=>h.elim
theorem F2(l:db)(k:Nat)(o:Own):nth (l.map UK) k=some (some o)->False:=by
 rw[AW];cases nth l k<;>simp[UK]
theorem aI.blank'{B:qJ}{sl:dd}{l:db}{m:MH}{h:PH}{a:Act}{w:World}(d:DenS (λ_=>.slice none 0 0) sl a.tmps.toList)(e:a.defers=B.dfs)(f:vR B m h w):
 aI B (λ_=>.slice none 0 0) {sl:=sl,own:=l.map UK,m:=m,h:=h} a w:=
 ⟨d,e,λk o c=>(F2 l k o c).elim,λk _ o _ _ c=>(F2 l k o c).elim,λk o _ c=>(F2 l k o c).elim,f,λ_=>rfl⟩
def BH(D:Nat):Deferred:={target:=.collected D,args:= #[]}
structure MM(B:qJ)(ds:ck)(ι:cg)(σ:St)(a:Act)(w:World):Prop where
 mod:aI {B with dfs:=ds.map BH} ι σ a w
 size:∀D∈ds,B.w0.heap.size<=D
 mine:∀D∈ds,¬Py ι σ D
 mark:∀D∈ds,w.heap[D]? =some (.deferred (some []))
 nodup:ds.Nodup
def QM(B:qJ)(Q:Az->St->Prop):Exit->Act->World->Prop
 |.normal,a,w=>∃c ι σ,MM B c ι σ a w/\Q .normal σ
 |.exit id,a,w=>∃c ι σ,MM B c ι σ a w/\Q (.exit id) σ
 |.ret,a,w=>∃c ι σ,MM B c ι σ a w/\Q .ret σ
 |_,_,_=>False
theorem MM.step{ds:ck}(d:MM B ds ι σ a w){f:cg}{τ:St}{g:Act}{w':World}(h:aI (reB ι σ (ds.map BH) w) f τ g w'):MM B ds f τ g w':=by
 have j:∀D∈ds,D<w.heap.size:=λD c=>(Array.getElem?_eq_some_iff.1 (d.mark D c)).1;refine⟨?_,d.size,λD c n=>?_,λD c=>?_,d.nodup⟩
 .exact d.mod.unbase (ds:=ds.map BH) h
 .rcases(h.mine n).1 with e|e
  .have e:w.heap.size<=D:=e;have:=j D c;omega
  .exact d.mine D c e
 .rw[h.wrel.frame D (j D c) (d.mine D c)];exact d.mark D c
theorem MM.here{ds:ck}(c:MM B ds ι σ a w):aI (reB ι σ (ds.map BH) w) ι σ a w:=by
 have:=c.mod.rebase;rw[c.mod.defers]at this;exact this
theorem MM.of_QD{ds:ck}(g:MM B ds ι σ a w){Q:Az->St->Prop}{e:Exit}{j:Act}{w':World}(h:QD (reB ι σ (ds.map BH) w) Q e j w'):QM B Q e j w':=by
 cases e with
 |normal=>obtain⟨c,τ,d,f⟩:=h;exact⟨ds,c,τ,g.step d,f⟩
 |exit id=>obtain⟨c,τ,d,f⟩:=h;exact⟨ds,c,τ,g.step d,f⟩
 |ret=>obtain⟨c,τ,d,f⟩:=h;exact⟨ds,c,τ,g.step d,f⟩
 |goto l=>exact h.elim
 |panic n=>exact h.elim
 |outgrown=>exact h.elim
theorem MM.retag{ds:ck}(d:MM B ds ι σ a w){c:cg}{τ:St}(h:aI (reB ι σ (ds.map BH) w) c τ a w):MM B ds c τ a w:=d.step h
theorem Ca(d:∀g S,assoc C.specs g=some S->Sound C.P g S){ds:ck}(e:MM B ds ι σ a w){c:Code}{Q:Az->St->Prop}(h:VC C c σ Q):c.wp C.P (QM B Q) a w:=
 wp_mono (HW d c σ Q ι a w e.here h) (λ_ _ _ f=>e.of_QD f)
theorem NF{ι:cg}:∀{es:dk}{vs:bm}{sl:dd}{ts:Array Value},DenS ι (es.map (·.2)) vs->DenS ι sl ts.toList->
 DenS ι (SN sl es) (((es.map (·.1)).zip vs).foldl (λts(p,v)=>ts.setIfInBounds p v) ts).toList
 |[],[],_,_,_,h=>h
 |(p,x)::es,v::vs,sl,ts,h,c=>by
  refine NF (es:=es) (vs:=vs) h.2 ?_;rw[Array.toList_setIfInBounds];exact c.set p h.1
 |[],_::_,_,_,h,_=>h.elim
 |_::_,[],_,_,h,_=>h.elim
def AV(fn:FuncId)(tmps:Array Value)(ps:Array Tmp)(x y:Code)(D:Nat)(st:LoopState):Loop:={state:=st,pending:=none,fn:=fn,tmps:=tmps,params:=ps,assign:=x,body:=y,defers:=D}
theorem N2{w:World}{l i:Nat}{r:Loop}(h:w.heap[l]? =some (.loop r)):w.cell? ⟨l,i,none⟩=none:=by
 unfold World.cell?;dsimp only;rw[h]
theorem Up(E:∀g S,assoc C.specs g=some S->Sound C.P g S){tmps:Array Value}{x y:Code}(hx:sL x=true)(hy:sL y=true)(b9:DenS ι σ.sl tmps.toList)
 {es:dk}{vs:bm}{ps:Array Tmp}(a9:ps.toList=es.map (·.1))(b':DenS (λ_=>.slice none 0 0) (es.map (·.2)) vs)
 {fn:FuncId}{D l:Nat}{m0 mm:MH}{h0:PH}(a5:m0 l=none)(L:∀b,b≠l->mm b=m0 b)(Z:mm l=some (.loop (AV fn tmps ps x y D .ready))){R:MH->PH->Prop}
 (hV:Mv C x y σ es m0 h0 R)(w:World)(hH:Ws w mm h0):
 ∃b0 M assign body,(Instr.yield l vs.toArray).run C.P w= .ok (.round l b0 M assign body) w/\
  RoundIn Fence.wide 0 C.P l b0 M assign body w λex w'=>∃u m' h',ex= .returned (.bool u)/\(u=true/\PH.le h0 h'/\∃m2,m2 l=none/\(∀b,b≠l->m' b=m2 b)/\m' l=some (.loop (AV fn tmps ps x y D .ready))/\R m2 h')/\PD w mm h0 m' h' w':=by
 have hl:=hH.msat l _ Z;have b1:=(Array.getElem?_eq_some_iff.1 hl).1
 have b2:vs.length=ps.size:=by
  have f:=b'.length;rw[length_map]at f;rw[<-Array.length_toList,a9,length_map,f]
 refine⟨_,_,_,_,run_yield hl (by simpa[AV]using b2),roundIn_of_wpIn trivial ?_⟩;obtain⟨ts,b3⟩:∃ts,((AV fn tmps ps x y D .ready).params.zip vs.toArray).foldl (λtmps(t,a)=>tmps.setIfInBounds t a) (AV fn tmps ps x y D .ready).tmps=ts:=⟨_,rfl⟩
 rw[b3]
 have b4:ts=((es.map (·.1)).zip vs).foldl (λts(p,v)=>ts.setIfInBounds p v) tmps:=by
  rw[<-b3, <-a9, <-Array.foldl_toList,Array.toList_zip];rfl
 have F:∀b o,m0 b=some o->mm b=some o:=λb o c=>by
  rw[L b (λe=>by rw[e,a5]at c;cases c)];exact c
 have hM:aI ⟨w,λb=>m0 b≠none,h0,[]⟩ (λ_=>.slice none 0 0) (Zj σ es m0 h0) {tmps:=ts,defers:=[]} w:=by
  refine aI.blank' ?_ rfl ?_
  .show DenS _ (SN (σ.sl.map Qy) es) ts.toList;rw[b4];exact NF b' (Fy b9)
  .exact⟨rfl,rfl,rfl,Nat.le_refl _,Nat.le_refl _,λ_ _ _=>rfl,hH.hsat,λb o c=>hH.msat b o (F b o c),λb o c=>hH.disj b o (F b o c),λ_ _ _ e=>e,λ_ _ _=>rfl,λb o c=>.inr (by show m0 b≠none;rw[show m0 b=some o from c];simp)⟩
 refine wpIn_mono (Qb l E x hx _ _ _ _ _ hM hV) ?_;intro ex a1 Y G;cases ex with
 |normal=>
  obtain⟨ι1,τ,H,c'⟩:=G;have n:=H.wrel;have b5:¬(λb=>m0 b≠none) l:=λe=>e a5;have a6:Y.heap[l]? =some (.loop (AV fn tmps ps x y D .ready)):=by rw[n.frame l b1 b5];exact hl
  have a0:=(Array.getElem?_eq_some_iff.1 a6).1
  have O:¬Py ι1 τ l:=λhm=>by
   rcases(H.mine hm).1 with f|f
   .exact absurd b1 (Nat.not_lt.2 f)
   .exact b5 f
  refine⟨_,run_beginRound a6 rfl,?_⟩;obtain⟨j,I⟩:∃j,Y.putObj l (.loop {AV fn tmps ps x y D .ready with state:=.busy})=j:=⟨_,rfl⟩
  have Q:=(H.rebase.putD (.loop {AV fn tmps ps x y D .ready with state:=.busy}) a6 rfl a0 O).rebase;rw[I]at Q⊢
  have c0:a1.defers=[]:=H.defers;have Q:aI (reB ι1 τ [] j) ι1 τ a1 j:=by rw[c0]at Q;exact Q
  have c1:∀b,b≠l->j.heap[b]? =Y.heap[b]? :=λb c=>by rw[<-I];exact World.putObj_heap_other (λe=>c e)
  have s2:j.heap.size=Y.heap.size:=by rw[<-I];simp
  have c2:j.heap[l]? =some (.loop {AV fn tmps ps x y D .ready with state:=.busy}):=by rw[<-I];exact World.putObj_heap_same a0
  refine wpIn_mono (Qb l E y hy _ _ _ _ _ Q c') ?_;intro ex a2 J G;cases ex with
  |normal=>
   obtain⟨ι2,υ,c3,hR⟩:=G;have d:=c3.wrel;have a':J.heap[l]? =some (.loop {AV fn tmps ps x y D .ready with state:=.busy}):=by rw[d.frame l (by show l<j.heap.size;omega) O];exact c2
   have b6:=(Array.getElem?_eq_some_iff.1 a').1
   have T:∀b,b<w.heap.size->mm b=none->¬Py ι1 τ b:=λb c U hm=>by
    rcases(H.mine hm).1 with f|f
    .exact absurd c (Nat.not_lt.2 f)
    .refine f ?_;by_cases e:b=l
     .rw[e];exact a5
     .rw[<-L b e];exact U
   have c4:υ.m l=none:=by
    cases e:υ.m l with
    |none=>rfl
    |some o=>
     rcases d.mfr l o e with f|f
     .have f:j.heap.size<=l:=f;omega
     .exact(O f).elim
   obtain⟨V,W⟩:∃V,J.putObj l (.loop (AV fn tmps ps x y D .ready))=V:=⟨_,rfl⟩
   have a7:∀b,b≠l->V.heap[b]? =J.heap[b]? :=λb c=>by rw[<-W];exact World.putObj_heap_other (λe=>c e)
   have c5:V.heap[l]? =some (.loop (AV fn tmps ps x y D .ready)):=by rw[<-W];exact World.putObj_heap_same b6
   have X:=run_endRound (P:=C.P) none a';have X:(Instr.endRound l none).run C.P J= .ok (.bool true) V:=by rw[X, <-W];rfl
   have a3:PH.le h0 τ.h:=⟨λb i v e=>n.hle b i v e⟩
   have a4:PH.le τ.h υ.h:=⟨λb i v e=>d.hle b i v e⟩
   refine⟨_,_,X,true,λb=>if b=l then some (.loop (AV fn tmps ps x y D .ready))else υ.m b,υ.h,rfl,⟨rfl,⟨λb i v e=>a4.le _ _ _ (a3.le _ _ _ e)⟩,υ.m,c4,λb c=>by simp[c],bg,hR⟩,?_⟩;have t4:V.tape=J.tape/\V.os=J.os/\V.output=J.output/\V.heap.size=J.heap.size:=by rw[<-W];exact⟨rfl,rfl,rfl,bg⟩
   have t2:j.tape=Y.tape/\j.os=Y.os/\j.output=Y.output:=by rw[<-I];exact⟨rfl,rfl,rfl⟩
   have b7:w.heap.size<=Y.heap.size:=n.size;have b8:j.heap.size<=J.heap.size:=d.size;refine⟨?_,?_,?_,?_,?_,?_,⟨?_,?_,?_⟩,⟨λb i v e=>a4.le _ _ _ (a3.le _ _ _ e)⟩,?_,?_⟩
   .rw[t4.1,d.tape];show j.tape=_;rw[t2.1];exact n.tape
   .rw[t4.2.1,d.os];show j.os=_;rw[t2.2.1];exact n.os
   .rw[t4.2.2.1,d.output];show j.output=_;rw[t2.2.2];exact n.output
   .have d4:V.drawn=J.drawn:=by rw[<-W];rfl
    have d3:j.drawn<=J.drawn:=d.drawn;have d2:j.drawn=Y.drawn:=by rw[<-I];rfl
    have d1:w.drawn<=Y.drawn:=n.drawn;omega
   .omega
   .intro b c U;have A:b≠l:=λe=>by rw[e,Z]at U;cases U
    rw[a7 b A,d.frame b (by show b<j.heap.size;omega) (T b c U)];show j.heap[b]? =_;rw[c1 b A];exact n.frame b c (λe=>e (by rw[<-L b A];exact U))
   .intro b i v hv;have a8:=d.hsat b i v hv;have A:b≠l:=λe=>by rw[e,N2 a']at a8;cases a8
    rw[World.cell?_of_block (w:=J) (w':=V) (a:=⟨b,i,none⟩) (a7 b A)];exact a8
   .intro b o c;have z:(if b=l then some (Obj.loop (AV fn tmps ps x y D .ready))else υ.m b)=some o:=c;clear c;split at z
    .rename_i e;subst e;cases z;exact c5
    .rename_i e;rw[a7 b e];exact d.msat b o z
   .intro b o c i;have z:(if b=l then some (Obj.loop (AV fn tmps ps x y D .ready))else υ.m b)=some o:=c;clear c;split at z
    .rename_i e;subst e;cases e2:υ.h b i with
     |none=>rfl
     |some v=>have:=d.hsat b i v e2;rw[N2 a']at this;cases this
    .exact d.disj b o z i
   .intro b c U;have f:υ.h b=τ.h b:=d.hold b (by show b<j.heap.size;omega) (T b c U);rw[f];have A:b≠l:=λe=>by rw[e,Z]at U;cases U
    exact n.hold b c (λe=>e (by rw[<-L b A];exact U))
   .intro b o c;have z:(if b=l then some (Obj.loop (AV fn tmps ps x y D .ready))else υ.m b)=some o:=c;clear c;split at z
    .rename_i e;subst e;exact .inr (by rw[Z];simp)
    .rename_i e;rcases d.mfr b o z with f|f
     .have f:j.heap.size<=b:=f;exact .inl aC
     .rcases(H.mine f).1 with h2|h2
      .exact .inl h2
      .exact .inr (by rw[L b e];exact h2)
  |ret=>obtain⟨_,_,_,h⟩:=G;exact h.elim
  |exit id=>obtain⟨_,_,_,h⟩:=G;exact h.elim
  |goto t=>exact G.elim
  |panic ch=>exact G.elim
  |outgrown=>exact G.elim
 |ret=>obtain⟨_,_,_,h⟩:=G;exact h.elim
 |exit id=>obtain⟨_,_,_,h⟩:=G;exact h.elim
 |goto t=>exact G.elim
 |panic ch=>exact G.elim
 |outgrown=>exact G.elim
theorem Pk(w:World)(o:Obj){b:Nat}(h:b<w.heap.size):(w.alloc o).heap[b]? =w.heap[b]? :=by
 exact Go.RowKit.Below.heap_alloc _ _ _ h
theorem Wi(w:World)(o:Obj):(w.alloc o).heap[w.heap.size]? =some o:=World.alloc_heap_new w o
theorem Zc(w:World):∀l:bm,BV w (l.map .val) l
 |[]=>trivial
 |_::l=>⟨rfl,Zc w l⟩
theorem Nr(l:bm)(i:Nat)(c:CV)(u:Value)(b:Nat)(d:(l.map CV.val)[i]? =some c)(f:gE c u=some b):False:=by
 rw[getElem?_map]at d;cases e:l[i]? with
 |none=>rw[e]at d;cases d
 |some v=>rw[e]at d;simp at d;subst d;simp[gE]at f
theorem QC(a0:∀g S,assoc C.specs g=some S->Sound C.P g S){ds:ck}(hM:MM B ds ι σ a w){f:Operand}{ps:Array Tmp}{x y:Code}{Q:Az->St->Prop}{g:FuncId}{cs:Array Value}(c8:σ.ev f= .at (.val (.func (.func g) #[] cs)))(hx:sL x=true)(hy:sL y=true)
 {Src:PH->bm->List bm->Prop}(b7:FR C.P g Src){xs:List bm}(b8:Src σ.h cs.toList xs){I:Nat->MH->PH->Prop}(h0:I 0 σ.m σ.h)
 (a1:∀(k:Nat)(vs:bm)(m:MH)(h:PH),xs[k]? =some vs->PH.le σ.h h->I k m h->∃es:dk,ps.toList=es.map (·.1)/\DenS (λ_=>.slice none 0 0) (es.map (·.2)) vs/\Mv C x y σ es m h (I (k+1)))
 (b9:∀(m:MH)(h:PH),PH.le σ.h h->I xs.length m h->Q .normal (blank σ m h)):(Code.rangeFunc f ps x y).wp C.P (QM B Q) a w:=by
  obtain⟨a6⟩:=b7;have R:=hM.mod.wrel
  have c':a.eval f= .func (.func g) #[] cs:=by
   have:=hM.mod.ev f;rw[c8]at this;exact this
  refine(wpIn_wide (n:=0)).1 (wpIn_rangeFunc ?_);intro fn e';obtain⟨l,hl⟩:∃l,l=w.heap.size+1:=⟨_,rfl⟩
  obtain⟨D,hD⟩:∃D,D=w.heap.size:=⟨_,rfl⟩
  obtain⟨W1,T⟩:∃W1,(w.alloc (.deferred (some []))).alloc (.loop (AV fn a.tmps ps x y D .ready))=W1:=⟨_,rfl⟩
  have s1:W1.heap.size=w.heap.size+2:=by rw[<-T];simp
  have a9:∀b,b<w.heap.size->W1.heap[b]? =w.heap[b]? :=λb t=>by
   rw[<-T,Pk _ _ (by simp;omega),Pk _ _ t]
  have c0:W1.heap[D]? =some (.deferred (some [])):=by
   rw[<-T,hD,Pk _ _ bg];exact Wi w _
  have c1:W1.heap[l]? =some (.loop (AV fn a.tmps ps x y D .ready)):=by
   rw[<-T,hl];have:=Wi (w.alloc (.deferred (some []))) (.loop (AV fn a.tmps ps x y D .ready))
   rwa [World.size_alloc]at this
  have b':∀b o,σ.m b=some o->b<w.heap.size:=λb o t=>(Array.getElem?_eq_some_iff.1 (R.msat b o t)).1;have W:∀b i v,σ.h b i=some v->b<w.heap.size:=λb i v hv=>World.block_lt_of_cell? w ⟨b,i,none⟩ (R.hsat b i v hv)
  let m1:MH:=λb=>if b=l then some (.loop (AV fn a.tmps ps x y D .ready))else σ.m b
  have c2:m1 l=some (.loop (AV fn a.tmps ps x y D .ready)):=by simp[m1]
  have U:∀b,b≠l->m1 b=σ.m b:=λb t=>if_neg t
  have c9:σ.m l=none:=by
   cases e:σ.m l with
   |none=>rfl
   |some o=>have:=b' l o e;omega
  have c3:Al W1 m1 σ.h (.val (.func (.yield l) #[] #[])::cs.toList.map .val) (.func (.yield l) #[] #[]::cs.toList):=by
   refine⟨⟨rfl,Zc _ _⟩,?_,?_,?_,λi j c d u v b hi _ _ _ t _=>(Nr (.func (.yield l) #[] #[]::cs.toList) i c u b hi t).elim,λi c u b hi _ t=>(Nr (.func (.yield l) #[] #[]::cs.toList) i c u b hi t).elim⟩
   .intro b i v hv;rw[World.cell?_of_block (w:=w) (w':=W1) (a:=⟨b,i,none⟩) (a9 b (W b i v hv))];exact R.hsat b i v hv
   .intro b o t;by_cases e:b=l
    .subst e;rw[c2]at t;cases t;exact c1
    .rw[U b e]at t;rw[a9 b (b' b o t)];exact R.msat b o t
   .intro b o t i;by_cases e:b=l
    .subst e;cases e2:σ.h b i with
     |none=>rfl
     |some v=>have:=W _ _ _ e2;omega
    .rw[U b e]at t;exact R.disj b o t i
  have z:∀b,m1 b=none->¬rU m1 (.val (.func (.yield l) #[] #[])::cs.toList.map .val) (.func (.yield l) #[] #[]::cs.toList) b:=by
   rintro b t (G|⟨i,c,u,hi,hu,hc⟩)
   .exact G t
   .exact Nr (.func (.yield l) #[] #[]::cs.toList) i c u b hi hc
  let J:Nat->MH->PH->Prop:=λk mm hh=>PH.le σ.h hh/\∃V,V l=none/\(∀b,b≠l->mm b=V b)/\mm l=some (.loop (AV fn a.tmps ps x y D .ready))/\I k V hh
  have b0:=a6.2 (.val (.func (.yield l) #[] #[])::cs.toList.map .val) (.func (.yield l) #[] #[]::cs.toList) m1 σ.h W1 (λ_ mm hh=>J xs.length mm hh)
   ⟨l,cs.toList,xs,J,rfl,b8,⟨⟨λ_ _ _ e=>e⟩,σ.m,c9,U,c2,h0⟩,?_,λ_ _ _ _ hJ=>hJ⟩ c3
  .have b1:(Instr.enterLoop fn a.tmps ps x y Fence.wide.round).run C.P w= .ok (l,[BH D]) W1:=by
    subst hD hl;rw[<-T];exact run_enterLoop_outer _ _ _ _ _
   refine⟨l,[BH D],W1,{target:=.fn (.func g) cs,args:= #[.func (.yield l) #[] #[]]},W1,g,(.func (.yield l) #[] #[]::cs.toList).toArray,W1,b1,?_,λ_ _=>trivial,?_,λe=>by simp[Fence.wide]at e,callsIn_wide.2 ?_⟩
   .simp only[resolve,rangeCall,c'];simp[go_sem]
   .obtain⟨gf,hf,a2,b2⟩:=a6.1;have a2:¬gf.body=none:=by intro e;rw[e]at a2;cases a2
    have b2:¬gf.name= "runtime.NumGoroutine" :=bj b2
    simp only[invoke,callFunc];simp[program,Sem.run,hf,b2,a2]
   refine b0.mono ?_;rintro e w3 ⟨r,u,mm,hh,rfl,⟨a3,V,X,b3,b4,hI⟩,b7,A,_⟩;have c4:=A.msat l _ b4;refine⟨_,_,run_endLoop c4 (by simp[AV]),?_⟩;obtain⟨Y,a4⟩:∃Y,w3.putObj l (.loop {AV fn a.tmps ps x y D .ready with state:=.exhausted})=Y:=⟨_,rfl⟩
   rw[a4];have a5:∀b,b≠l->Y.heap[b]? =w3.heap[b]? :=λb t=>by rw[<-a4];exact World.putObj_heap_other (λe=>t e)
   have t4:Y.tape=w3.tape/\Y.os=w3.os/\Y.output=w3.output/\Y.heap.size=w3.heap.size:=by rw[<-a4];exact⟨rfl,rfl,rfl,bg⟩
   have t1:W1.tape=w.tape/\W1.os=w.os/\W1.output=w.output:=by rw[<-T];exact⟨rfl,rfl,rfl⟩
   have c7:W1.heap.size<=w3.heap.size:=A.size
   have a7:∀b,b<w.heap.size->σ.m b=none->Y.heap[b]? =w.heap[b]? :=λb t hn=>by
    have H:b≠l:=by omega
    rw[a5 b H,A.frame b (by show b<W1.heap.size;omega) (z b (by rw[U b H];exact hn)),a9 b t]
   have L:∀b o,V b=some o->mm b=some o/\b≠l:=λb o t=>by
    have H:b≠l:=λe=>by rw[e,X]at t;cases t
    exact⟨by rw[b3 b H];exact t,H⟩
   have Z:∀b o,V b=some o->W1.heap.size<=b\/∃o',σ.m b=some o':=λb o t=>by
    obtain⟨G,H⟩:=L b o t;rcases A.mfr b o G with h2|h2
    .exact .inl h2
    .refine .inr ?_;cases e:σ.m b with
     |some o'=>exact⟨o',rfl⟩
     |none=>exact(z b (by rw[U b H];exact e) h2).elim
   have hB:B.w0.heap.size<=w.heap.size:=R.size
   have mB:∀b,b<B.w0.heap.size->¬B.E b->σ.m b=none:=λb t hn=>by
    cases e:σ.m b with
    |none=>rfl
    |some o=>
     rcases R.mfr b o e with G|G
     .exact absurd t (Nat.not_lt.2 G)
     .exact(hn G).elim
   have F:∀D',D'∈ds->D'<w.heap.size/\σ.m D'=none:=λD' M=>by
    refine⟨(Array.getElem?_eq_some_iff.1 (hM.mark D' M)).1,?_⟩;cases e:σ.m D' with
    |none=>rfl
    |some o=>exact(hM.mine D' M (.inl (by rw[e];simp))).elim
   have O:∀b,¬(W1.heap.size<=b)->σ.m b=none->¬Py (λ_=>.slice none 0 0) (blank σ V hh) b:=by
    rintro b G h2 (h3|⟨k,o,hk,_⟩)
    .cases e:V b with
     |none=>exact h3 e
     |some o=>
      rcases Z b o e with h4|⟨o',h4⟩
      .exact G h4
      .rw[h2]at h4;cases h4
    .exact F2 _ _ _ hk
   have c5:σ.m D=none:=by
    cases e:σ.m D with
    |none=>rfl
    |some o=>have:=b' D o e;omega
   refine⟨D::ds,λ_=>.slice none 0 0,blank σ V hh,⟨?_,?_,?_,?_,?_⟩,b9 V hh a3 hI⟩
   .refine aI.blank' (Fy hM.mod.slots) ?_ ⟨?_,?_,?_,?_,?_,?_,?_,?_,?_,?_,?_,?_⟩
    .show[BH D]++a.defers=_;rw[hM.mod.defers];rfl
    .rw[t4.1,A.tape];show W1.tape=_;rw[t1.1];exact R.tape
    .rw[t4.2.1,A.os];show W1.os=_;rw[t1.2.1];exact R.os
    .rw[t4.2.2.1,A.output];show W1.output=_;rw[t1.2.2];exact R.output
    .have d4:Y.drawn=w3.drawn:=by rw[<-a4];rfl
     have d3:W1.drawn<=w3.drawn:=A.drawn;have d2:W1.drawn=w.drawn:=by rw[<-T];rfl
     have d1:B.w0.drawn<=w.drawn:=R.drawn;show B.w0.drawn<=Y.drawn;omega
    .show B.w0.heap.size<=_;omega
    .intro b t a';have t:b<B.w0.heap.size:=t;rw[a7 b aC (mB b t a')];exact R.frame b t a'
    .intro b i v hv;have b5:=A.hsat b i v hv;have H:b≠l:=λe=>by rw[e,N2 c4]at b5;cases b5
     rw[World.cell?_of_block (w:=w3) (w':=Y) (a:=⟨b,i,none⟩) (a5 b H)];exact b5
    .intro b o t;obtain⟨G,H⟩:=L b o t;rw[a5 b H];exact A.msat b o G
    .intro b o t i;exact A.disj b o (L b o t).1 i
    .intro b i v hv;exact a3.le _ _ _ (R.hle b i v hv)
    .intro b t a';have t:b<B.w0.heap.size:=t;have G:hh b=σ.h b:=A.hold b (by show b<W1.heap.size;omega) (z b (by rw[U b aC];exact mB b t a'));rw[G];exact R.hold b t a'
    .intro b o t;rcases Z b o t with G|⟨o',G⟩
     .exact .inl (by show B.w0.heap.size<=b;omega)
     .exact R.mfr b o' G
   .intro D' M;rcases mem_cons.1 M with rfl|G
    .omega
    .exact hM.size D' G
   .intro D' M;rcases mem_cons.1 M with rfl|G
    .exact O D' aC c5
    .obtain⟨h2,h3⟩:=F D' G;exact O D' aC h3
   .intro D' M;rcases mem_cons.1 M with rfl|G
    .rw[a5 D' aC,A.frame D' (by show D'<W1.heap.size;omega) (z D' (by rw[U D' aC];exact c5))];exact c0
    .obtain⟨h2,h3⟩:=F D' G;rw[a7 D' h2 h3];exact hM.mark D' G
   .refine nodup_cons.2 ⟨λG=>?_,hM.nodup⟩;have:=(F D G).1;omega
  .rintro k e m' h' hk a3 ⟨c6,V,X,b3,b4,hI⟩;refine⟨λw5 hH=>?_⟩;obtain⟨es,d',d0,hV⟩:=a1 k e V h' hk a3 hI;obtain⟨d5,b6,d6,d7,d8,hR⟩:=Up a0 (σ:=σ) (ι:=ι) hx hy hM.mod.slots d' d0 X b3 b4 hV w5 hH;refine⟨d5,b6,d6,d7,d8,hR.mono ?_⟩;rintro ex w6 ⟨u,m6,h6,rfl,⟨rfl,a8,m7,q1,q2,q3,q4⟩,d9⟩;exact⟨_,m6,h6,rfl,⟨rfl,a8,⟨λ_ _ _ e=>a8.le _ _ _ (c6.le _ _ _ e)⟩,m7,q1,q2,q3,q4⟩,d9⟩
theorem W3(j:∀g S,assoc C.specs g=some S->Sound C.P g S){ds:ck}(L:MM B ds ι σ a w){f:Operand}{ps:Array Tmp}{x y:Code}{Q:Az->St->Prop}(h:W4 C f ps x y σ (Q .normal)):(Code.rangeFunc f ps x y).wp C.P (QM B Q) a w:=by
 unfold W4 at h;split at h
 .rename_i g R X F G;obtain⟨M,O⟩:=Bool.and_eq_true_iff.1 G;split at h
  .rename_i H;obtain rfl:R= #[]:=Array.toList_inj.1 (bj H);split at h
   .rename_i p T A V;obtain⟨Src,xs,I,D,t,J,c,u⟩:=h;refine QC j L F M O D t J (λk W m h n d E=>?_) (λm h d E=>u m h d (bj E));rw[getElem?_map]at n;cases e:xs[k]? with
    |none=>rw[e]at n;cases n
    |some z=>
     rw[e]at n;simp only[Option.map_some,Option.some.injEq]at n;subst n;exact⟨[(p,mk C.P T (((C.dec T).enc z).map .val))],by rw[A];rfl,⟨S6,trivial⟩,c k z m h e d E⟩
   .rename_i p q T U A V;obtain⟨Src,xs,I,D,t,J,c,u⟩:=h;refine QC j L F M O D t J (λk W m h n d E=>?_) (λm h d E=>u m h d (bj E));rw[getElem?_map]at n;cases e:xs[k]? with
    |none=>rw[e]at n;cases n
    |some z=>
     rw[e]at n;simp only[Option.map_some,Option.some.injEq]at n;subst n;exact⟨[(p,mk C.P T (((C.dec T).enc z.1).map .val)),(q,mk C.P U (((C.dec U).enc z.2).map .val))],by rw[A];rfl,⟨S6,S6,trivial⟩,c k z.1 z.2 m h e d E⟩
   .exact h.elim
  .exact h.elim
 .exact h.elim
theorem aeQ(d:∀g S,assoc C.specs g=some S->Sound C.P g S):∀(c:Code)(σ:St)(Q:Az->St->Prop)(ds:ck)(ι:cg)(a:Act)(w:World),MM B ds ι σ a w->VCF C c σ Q->c.wp C.P (QM B Q) a w:=by
 intro c
 induction c with
 |rangeFunc f ps x y _ _=>intro σ Q ds ι a w n h;exact W3 d n h
 |seq x y D E=>
  intro σ Q ds ι a w n h;simp only[VCF]at h;split at h
  .exact Ca d n h
  .split at h
   .obtain⟨I,h,F⟩:=h;refine wp_seq (wp_mono (D σ _ ds ι a w n h) ?_);intro e J L j;cases e with
    |normal=>
     obtain⟨z,G,H,u,V⟩:=j;obtain⟨W,X,M,O⟩:=Aq u.here V;exact E _ Q z X J L (u.retag O) (F W M)
    |exit id=>exact j
    |ret=>exact j
    |goto l=>exact j
    |panic U=>exact j
    |outgrown=>exact j
   .refine wp_seq (wp_mono (D σ _ ds ι a w n h) ?_);intro e J L j;cases e with
    |normal=>
     obtain⟨z,G,H,u,h'⟩:=j;exact E H Q z G J L u h'
    |exit id=>exact j
    |ret=>exact j
    |goto l=>exact j
    |panic U=>exact j
    |outgrown=>exact j
 |cond c x y D E=>
  intro σ Q ds ι a w n h;simp only[VCF]at h;split at h
  .exact Ca d n h
  .split at h
   .rename_i t R;have A:=n.mod.ev c;rw[R]at A;have A:a.eval c= .bool t:=A;rcases sG h with⟨rfl,h⟩|⟨rfl,h⟩
    .exact wp_cond_true A (D _ Q ds ι a w (n.retag (n.here.setTmp R)) h)
    .exact wp_cond_false A (E _ Q ds ι a w (n.retag (n.here.setTmp R)) h)
   .exact h.elim
 |block id c Y=>
  intro σ Q ds ι a w n h;simp only[VCF]at h;split at h
  .exact Ca d n h
  .refine wp_block (wp_mono (Y σ _ ds ι a w n h) ?_);intro e J L j;cases e with
   |normal=>exact j
   |exit i=>
    obtain⟨z,G,H,u,h'⟩:=j;show if i=id then _ else _
    simp only at h';split at h'
    .rename_i T;rw[if_pos (Nat.eq_of_beq_eq_true T)];exact⟨z,G,H,u,h'⟩
    .rename_i T;rw[if_neg (λe=>by subst e;simp at T)];exact⟨z,G,H,u,h'⟩
   |ret=>exact j
   |goto l=>exact j
   |panic U=>exact j
   |outgrown=>exact j
 |_=>intro σ Q ds ι a w n h;exact Ca d n h
theorem NN(e:aI B ι σ a w):∀{l:List ResultVar}{K:bm->Prop},bkQ C σ l K->∃vs,(l.mapM (Kx a.tmps)).run C.P w= .ok vs w/\K vs
 |[],K,h=>⟨[],bg,h⟩
 |.tmp t::r,K,h=>h.elim
 |.cell t T::r,K,h=>by
  simp only[bkQ]at h;split at h
  .rename_i b off n u;obtain⟨y,f,h⟩:=h;split at h
   .rename_i c;have c:=Nat.eq_of_beq_eq_true c;split at h
    .rename_i v z;obtain⟨vs,A,D⟩:=NN e h;have d:=e.ev (.tmp t);have E:σ.ev (.tmp t)= .at (.val (.pointer (some ⟨b,off,none⟩))):=by simp only[St.ev,n]
     rw[E]at d;have g:a.tmps.getD t undef= .pointer (some ⟨b,off,none⟩):=d;have F:=An (w:=w) (b:=b) (off:=off) (cs:=(C.dec T).enc y) u c (DA e.wrel f);have G:=HM (P:=C.P) (T:=T) (ι:=ι) (ats:=((C.dec T).enc y).map .val) (cs:=(C.dec T).enc y) (by rw[iC.vals]);have j:=G.val? z;refine⟨v::vs,?_,D⟩;simp only[mapM_cons,Kx,g,asAddr,Sem.run_bind,Sem.run_pure,Result.andThen_ok,F,A,j]
    .exact h.elim
   .exact h.elim
  .exact h.elim
theorem WJ(f:aI B ι σ a w){fn:Func}{K:bo}(h:Ka C fn K σ):
 ∃u,(results fn a.tmps).run C.P w= .ok u w/\∃r m' h',K r m' h'/\Du w r u/\vR B m' h' w/\∀b,gE r u=some b->(B.w0.heap.size<=b\/B.E b)/\m' b=none/\∀i,h' b i=none:=by
 unfold Ka at h;split at h
 .exact F0 f h
 .obtain⟨c,g,j⟩:=NN f h
  have d:(results fn a.tmps).run C.P w= .ok (if h:c.toArray.size=1 then c.toArray[0]else .tuple c.toArray) w:=by
   rw[NM,Array.mapM_eq_mapM_toList];simp[g]
  split at j
  .rename_i v;exact⟨v,bj d,.val v,σ.m,σ.h,j,rfl,f.wrel,λb n=>by simp[gE]at n⟩
  .rename_i t
   have y:c.length≠1:=λe=>by
    match c,e with
    |[v],_=>exact t v rfl
   exact⟨.tuple c.toArray,by rw[d,dif_neg (bj y)],.tup (c.map .val),σ.m,σ.h,j,⟨c.toArray,rfl,bg⟩,f.wrel,λb n=>by simp[gE]at n⟩
theorem LP{F:Fence}{n:Nat}{R:Ending->World->Prop}{fn:Func}{Kc:bo}(g:Ka C fn Kc σ)
 (y:∀u w',(∃r m' h',Kc r m' h'/\Du w' r u/\vR B m' h' w'/\∀b,gE r u=some b->(B.w0.heap.size<=b\/B.E b)/\m' b=none/\∀i,h' b i=none)->R (.returned u) w'):
 ∀(ds:ck)(a:Act)(w:World),MM B ds ι σ a w->LeavesInM F n C.P fn a.tmps R (ds.map BH) .returning w
 |[],a,w,f=>by
  obtain⟨u,A,r,m',h',G,t,d,H⟩:=WJ f.mod g;refine⟨u,A,y u w ⟨r,m',h',G,t,⟨d.tape,d.os,d.output,d.drawn,d.size,d.frame,d.hsat,d.msat,d.disj,d.hle,d.hold,d.mfr⟩,H⟩⟩
 |D::ds,a,w,f=>by
  have z:=f.mark D (mem_cons_self ..);refine⟨bg,.inl ⟨D,_,rfl,run_takeDeferred z,LP g y ds {a with defers:=ds.map BH} _ ?_⟩⟩;have I:w.grownBy (w.putObj D (.deferred none)) (some D):=grownBy_putObj' w D _
  have c:=f.mod.grown I (Nat.le_refl _) (λr e=>by
   cases e;exact⟨f.size D (mem_cons_self ..),f.mine D (mem_cons_self ..),_,z,rfl⟩)
  have j:=nodup_cons.1 f.nodup;refine⟨⟨c.slots,?_,c.own,c.dist,c.fresh,⟨c.wrel.tape,c.wrel.os,c.wrel.output,c.wrel.drawn,c.wrel.size,c.wrel.frame,c.wrel.hsat,c.wrel.msat,c.wrel.disj,c.wrel.hle,c.wrel.hold,c.wrel.mfr⟩,c.one⟩,λD' h=>f.size D' (mem_cons_of_mem _ h),λD' h=>f.mine D' (mem_cons_of_mem _ h),λD' h=>?_,j.2⟩
  .rfl
  .rw[World.putObj_heap_other (fun(e:D'=D)=>j.1 (by rw[<-e];exact h))];exact f.mark D' (mem_cons_of_mem _ h)
theorem QG{P:Program}{f:FuncId}{fn:Func}{c:Code}(I:P.funcs[f]? =some fn)(J:fn.body=some c)(t:(fn.name== "runtime.NumGoroutine")=false){S:Spec}
 (F:∀d m h K,S d m h K->∃C:Ctx,C.P=P/\(∀g S,assoc C.specs g=some S->Sound P g S)/\Zz C fn c (entry fn.ntmps d m h) K):Sound P f S:=by
 refine⟨⟨fn,I,by rw[J];rfl,t⟩,?_⟩;intro d y m h w K M O;obtain⟨C,rfl,j,Q⟩:=F d m h K M;refine callsIn_wide.1 (callsIn_of_wp_marks (n:=0) I J trivial (wpIn_wide.2 ?_))
 have G:MM ⟨w,rU m d y,h,[]⟩ [] (LU fn.ntmps d y) (entry fn.ntmps d m h) {tmps:=y.toArray++Array.replicate (fn.ntmps-y.toArray.size) undef,defers:=[]} w:=
  ⟨EM fn.ntmps O,λ_ D=>(not_mem_nil D).elim,λ_ D=>(not_mem_nil D).elim,λ_ D=>(not_mem_nil D).elim,nodup_nil⟩
 refine wp_mono (aeQ j c _ _ _ _ _ w G Q) ?_;intro e E z A
 have key:(∃H ι σ,MM ⟨w,rU m d y,h,[]⟩ H ι σ E z/\Ka C fn K σ)->LeavesInM Fence.wide 0 C.P fn E.tmps (λe z=>∃r u m' h',e= .returned u/\K r m' h'/\Du z r u/\vR ⟨w,rU m d y,h,[]⟩ m' h' z/\
  (∀b,gE r u=some b->(w.heap.size<=b\/rU m d y b)/\m' b=none/\∀i,h' b i=none)) E.defers .returning z:=by
  rintro⟨H,ι,σ,L,R⟩;rw[L.mod.defers];exact LP R (λu T⟨r,m',h',U,V,W,X⟩=>⟨r,u,m',h',rfl,U,V,W,X⟩) H E z L
 cases e with
 |normal=>exact key A
 |ret=>exact key A
 |exit id=>obtain⟨_,_,_,_,h⟩:=A;exact h.elim
 |goto l=>exact A.elim
 |panic Y=>exact A.elim
 |outgrown=>exact A.elim
theorem W6{P:Program}{f:FuncId}{fn:Func}{c:Code}(n:P.funcs[f]? =some fn)(t:fn.body=some c)(e:(fn.name== "runtime.NumGoroutine")=false){S:Spec}
 (j:∀d m h K,S d m h K->∃C:Ctx,C.P=P/\(∀g S,assoc C.specs g=some S->Sound P g S)/\Zz C fn c (entry fn.ntmps d m h) (cE h K)):Sound P f S:=
 .strong (QG n t e (S:=λd m h K=>∃K',S d m h K'/\K=cE h K') (by
  rintro d m h K ⟨K',u,rfl⟩;exact j d m h K' u))
end
end Go.Vc
namespace Go.Ps
open Go Go.Vc Go.Proofs List Tryz
variable{K:bo}{m:MH}{h:PH}{s:mI}{ps:br}{cb:Nat}{sc:bY}{v:QV}{q:Query}{p:Pred}{l:br}{i:Nat}{N:Nat}{m':MH}{h':PH}{co:br}{gr:br}{od:bz}{w:Pred}{ta:Int}{li:Int}{xs:List bm}{sz:Nat}{k:Nat}{ks:List br}{rs:br}{r:Sl}{a:br}{b:Nat}
def PS(b:Nat):Value:=.func (.func 205) #[] #[.pointer (some ⟨b,0,none⟩)]
structure Hj(h:PH)(b:Nat)(us:ca):Prop where
 ex:∃s:Sl,bT h b 0 [s.val]/\cZ h s 1 (us.map eS)/\us.length<=502633886983
theorem Hj.mono{us:ca}(x:Hj h b us)(le:PH.le h h'):Hj h' b us:=by
 obtain⟨s,c,d,e⟩:=x.ex;exact⟨s,c.mono le,d.mono le,e⟩
def yP:PH->bm->List bm->Prop:=λh c xs=>∃b d,c=[.pointer (some ⟨b,0,none⟩)]/\Hj h b d/\xs=d.map eS
noncomputable def Tv(specs:List (Nat×Vc.Spec))(loops:da)(cuts:da)(heapT:dg):Ctx:={pF specs loops cuts [] heapT [] false with elemT:=[100]}
def Sh:Vc.Spec:=λc m h K=>∃s,c=[cS s]/\∀b h',PH.le h h'->bT h' b 0 [s.val]->K (.val (PS b)) m h'
def TV:Vc.Spec:=λc m h K=>∃s b d f,c=[cS s,.val (PS b)]/\cR m s 100 1 (d.map eS)/\Hj h b f/\d.length<=502633886983/\
 ∀e m',cR m' e 100 1 ((d++f).map eS)->(∀x o,m x=some o->(∀i,s.a≠some ⟨x,i,none⟩)->m' x=some o)->(∀x i,e.a=some ⟨x,i,none⟩->m x=none\/∃i,s.a=some ⟨x,i,none⟩)->K (cS e) m' h
def Ww:Vc.Spec:=λc m h K=>∃b e,c=[.val (PS b)]/\Hj h b e/\
 ∀d m',cR m' d 100 1 (e.map eS)->(∀x o,m x=some o->m' x=some o)->(∀x i,d.a=some ⟨x,i,none⟩->m x=none)->K (cS d) m' h
noncomputable def aUQ(b:Nat)(l:Nat)(s:Sl):Ctx:=
 {dG [] [(1,{A:=Nat×MH×PH,st:=λ⟨i,m,h⟩=>bO 16 18 [(0,vv (.func (.yield l) #[] #[])),(1,vv (.pointer (some ⟨b,0,none⟩))),(5,sv s),(6,iv s.len),(7,iv i)] [] m h})] [] [] false with yield:=some (a8X Tryz.prog)}
def KW(s:Sl)(m:MH)(h:PH)(K:bo):Prop:=
  fR (λb c=>aY (bW m h b) (cM m c b (aM s) 68) (K (mM 205 b) c h))
noncomputable abbrev mO(a:Nat×MH×PH):Nat->Option Obj:=a.2.1
noncomputable abbrev jO(a:Nat×MH×PH):Nat->Nat->Option Value:=a.2.2
abbrev Oc(a:Nat->bm->Prop):Prop:=∃(x:Nat)(c:bm),a x c
attribute [push_cast] mO jO Oc
def Rf(b l:Nat)(s:Sl)(m:MH)(h:PH)(K:bo):Prop:=
  ∃(y:Sl),aJ m h b 0 (aM y)/\∃(I:Nat×MH×PH->Prop)(f:Nat×MH×PH->Nat),(∃(x:Nat×MH×PH),aA (I x) (Eu l) (aA (dD b) (bB y s) (aA (bQ y s) (bC x.1) (aA (cT m x.2) (eA h x.2) True))))/\∀(x:Nat×MH×PH),I x->aZ (↑x.1:Int) (aG s) (aK (λg o=>aA (aL s.a g o) (0<=(↑x.1:Int)) ((↑x.1:Int)<aG s/\∃(j:Sl),aA (aJ (mO x) (jO x) g (bK o x.1 1) (aM j)) (M6 (a8X Proofs.Tryz.prog)) (Oc (λn v=>∃(R:Bool->MH->PH->Prop),aA (gJ (CG l) (rC j)=CG n::List.map CV.val v) (YDo Proofs.Tryz.prog n v (mO x) (jO x) R) (∀(u:Bool),jQ (λd e=>fA (R u d e) (!u) (K (CV.tup []) d e) (∃(c:Nat×MH×PH),aA (I c) (f c<f x) (aA (Eu l) (dD b) (aA (aH s) (bG s) (aA (bD (fP (bE x.1 1))
 c.1) (cT d c.2) (j4 (eA e c.2))))))))))))) (K (CV.tup []) (mO x) (jO x))
abbrev uK(a:PH->bm->List bm->Prop)(b:Nat->Nat->Option Value)(c:Nat)(d:MH)(e:(Nat->MH->PH->Prop)->Nat->Sl->MH->PH->Prop)(g:ca->(Nat->MH->PH->Prop)->Prop):Prop:=∃(x:ca)(j:Nat->MH->PH->Prop),aA (FR Proofs.Tryz.prog 205 a) (a b (jD (WE c 0)) (List.map (fun(f:Sl)=>aM f) x)) (aA (j 0 d b) (∀(f:Nat)(n:Sl),jQ (λu t=>aY (x[f]? =Option.some n) (PH.le b t) (e j f n u t))) (g x j))
abbrev Hz(a:Nat->Option Obj)(b:Nat->Nat->Option Value)(c d:Nat)(e:Sl)(g:(List bm)->Prop):Prop:=aJ a b c d (aM e)/\∃(x:List bm),g x
abbrev D3(a:Nat->Nat->Option Value)(b:Nat->MH->PH->Prop)(c:ca)(d:Nat)(e:bo):Prop:=jQ (λx f=>dA a f (b c.length x f) (∃(g:Sl),aJ x f d 0 (aM g)/\e (rC g) x f))
attribute [push_cast] uK Hz D3
def Q9(s:Sl)(b:Nat)(m:MH)(h:PH)(K:bo):Prop:=
  fR (λc g=>aY (bW m h c) (cM m g c (aM s) 68) (∃(S:PH->bm->List bm->Prop),uK S h b g (λI k e d f=>I k d f->∃(y:Sl),Hz d f c 0 y (λx=>aA (cR d (dJ y) 100 1 x) (iL x) (dO x/\iF (λj n=>eK d n (dJ y) j 100 1 (iN x e)->fN n c (dT j) (λt=>I (k+1) t f))))) (λx I=>D3 h I x c K)))
abbrev Je(a:Nat->ca->Prop):Prop:=∃(x:Nat)(c:ca),a x c
attribute [push_cast] Je
def atZ(b:Nat)(m:MH)(h:PH)(K:bo):Prop:=
  ∃(s:Sl),Je (λd u=>∃(v:ca),aA (gJ jG (mM 205 b)=eJ s (mM 205 d)) (cR m s 100 1 (kS u)) (aA (Hj h d v) (u.length<=502633886983) (Iw 1 (u++v) (λc x o=>aY (m x=Option.some o) (∀(i:Nat),jU (aL s.a x i)) (c x=Option.some o)) (λe c=>(∀(x i:Nat),aL e.a x i->Et m x\/∃(f:Nat),aL s.a x f)->K (rC e) c h))))
def nG(h:PH)(b:Nat)(l:bm):PH:=λc i=>if c=b then l[i]? else h c i
theorem CK{l:bm}(c:∀i,h b i=none):PH.le h (nG h b l):=⟨λd i v e=>by
 have:d≠b:=λf=>by rw[f,c]at e;cases e
 simp only[nG,if_neg this];exact e⟩
theorem Zw{l:bm}:bT (nG h b l) b 0 l:=⟨λi v e=>by simp only[nG,if_true,Nat.zero_add];exact e⟩
theorem Tm{f:FuncId}{fn:Func}(n:Tryz.prog.funcs[f]? =some fn){S:Vc.Spec}(j:∀c m h K,S c m h K->∃C:Ctx,C.P=Tryz.prog/\(∀g S,assoc C.specs g=some S->bk g S)/\∃N:Prop,N=sC C fn (cC fn) (entry fn.ntmps c m h) (cE h K)/\N)(t:fn.body=some (cC fn):=by rfl)(d:(fn.name== "runtime.NumGoroutine")=false:=by decide):bk f S:=ajJ n t d λc m h K u=>let⟨C,hC,hs,N,e,hn⟩:=j c m h K u;⟨C,hC,hs,e▸hn⟩
theorem XV:bk 178 Sh:=by
 refine Tm func178 ?_;rintro n m h K ⟨s,rfl,t⟩;refine⟨dG [] [] [] [] false,rfl,aF,KW s m h (cE h K),bf,?_⟩;show KW s m h (cE h K);dsimp only[KW,push_cast];intro b m' c g u
 have sub:∀f o,m f=some o->m' f=some o:=λf o d=>by
  rw[g.other f (λe=>by rw[e,c.m_]at d;cases d)];exact d
 refine⟨m,nG h b [s.val],sub,CK c.h_,λf i v e=>?_,t b _ (CK c.h_) Zw⟩;by_cases j:f=b
 .subst j;simp only[nG,if_true]at e;exact .inr ⟨_,_,_,g.at_,by simpa[Sl.val]using e,c.m_⟩
 .simp only[nG,if_neg j]at e;exact .inl e
theorem Xy:bk 205 (bfQ Tryz.prog yP):=by
 refine iB func205 ?_;rintro I m h K ⟨l,D,xs,J,rfl,⟨b,j,rfl,d,rfl⟩,L,c,f⟩;obtain⟨s,M,E,U⟩:=d.ex;refine⟨aUQ b l s,rfl,aF,Rf b l s m h K,bf,?_⟩;dsimp only[Rf,push_cast];have g:=E.len;simp only[length_map]at g;refine⟨s,.imm M,λx=>x.1<=j.length/\PH.le h x.2.2/\J x.1 x.2.1 x.2.2,λx=>j.length-x.1,⟨(0,m,h),⟨bg,.refl _,L⟩,MT⟩,?_⟩;rintro⟨i,F,G⟩ ⟨O,le,n⟩;dsimp only at O le n⊢
 refine aE (λy=>?_) (λP=>f _ F G le (by have e:i=j.length:=aC;simp only[length_map];rw[<-e];exact n));obtain⟨u,H⟩:∃u,j[i]? =some u:=⟨_,getElem?_eq_getElem aC⟩
 obtain⟨Q,R,S,T⟩:=E.get (i:=i) (e:=eS u) (by simp[H]);refine⟨Q,R,S,aC,y,u,.imm (T.mono le),Np _,l,_,_,rfl,c i (eS u) F G (by simp[H]) le n,?_⟩;rintro t m' h' ⟨rfl,z,A⟩;exact⟨(i+1,m',h'),⟨by dsimp only;omega,le.trans z,A⟩,(by dsimp only;omega),MT⟩
theorem xF:FR Tryz.prog 205 yP:=⟨Xy⟩
theorem b0Z{f:FuncId}{fn:Func}(n:Tryz.prog.funcs[f]? =some fn){S:Vc.Spec}(j:∀c m h K,S c m h K->∃C:Ctx,C.P=Tryz.prog/\(∀g S,assoc C.specs g=some S->bk g S)/\∃N:Prop,N=Zz C fn (cC fn) (entry fn.ntmps c m h) K/\N)(t:fn.body=some (cC fn):=by rfl)(d:(fn.name== "runtime.NumGoroutine")=false:=by decide):bk f S:=QG n t d λc m h K u=>let⟨C,hC,hs,N,e,hn⟩:=j c m h K u;⟨C,hC,hs,e▸hn⟩
theorem OK:bk 237 TV:=by
 refine b0Z func237 ?_;rintro U m h K ⟨s,b,L,H,rfl,M,Q,hl,V⟩;refine⟨Tv [] [] [] [200002,1068],rfl,aF,Q9 s b m h K,bf,?_⟩;dsimp only[Q9,push_cast];intro z W O R;have X:H.length<=502633886983:=by obtain⟨_,_,_,u⟩:=Q.ex;exact u
 have sub:∀x o,m x=some o->W x=some o/\x≠z:=λx o c=>by
  have:x≠z:=λe=>by rw[e,O.m_]at c;cases c
  exact⟨by rw[R.other x this];exact c,this⟩
 have P:∀i,s.a≠some ⟨z,i,none⟩:=λi e=>by
  obtain⟨o,J⟩:=cR.blk M e;exact(sub z _ J).2 rfl
 refine⟨yP,H,λk I c=>c=h/\∃n,I z=some (.cells #[.slice n.a n.len n.cap] 68 (0,0))/\cR I n 100 1 ((L++H.take k).map eS)/\(∀i,n.a≠some ⟨z,i,none⟩)/\(∀x o,m x=some o->(∀i,s.a≠some ⟨x,i,none⟩)->I x=some o/\∀i,n.a≠some ⟨x,i,none⟩)/\(∀x i,n.a=some ⟨x,i,none⟩->m x=none\/∃i,s.a=some ⟨x,i,none⟩),
  xF,⟨b,H,rfl,Q,rfl⟩,⟨rfl,s,R.at_,?_,P,λx o c A=>⟨(sub x o c).1,A⟩,λx i e=>.inr ⟨i,e⟩⟩,?_,?_⟩
 .rw[take_zero,append_nil]
  exact cR.keep M (λx i e=>by
   obtain⟨o,J⟩:=cR.blk M e;rw[(sub x _ J).1,J])
 .rintro k e I c S-⟨rfl,n,g,d,y,f,D⟩
  have Y:=(List.getElem?_eq_some_iff.1 S).1;refine⟨n,.of_m g rfl,_,d,by simp;omega,by simp;omega,λZ m2 E=>⟨_,_,⟨E.other z _ g y⟩,bg,λm3 F=>⟨rfl,Z,F.at_,?_,?_,?_,?_⟩⟩⟩
  .have e1:(L++H.take (k+1)).map eS=(L++H.take k).map eS++[eS e]:=by
    rw[take_add_one,S];simp
   rw[e1];refine cR.keep E.row (λx i G=>F.other x (λe3=>?_));subst e3;rcases E.fresh x i G with t|⟨j,t⟩
   .rw[g]at t;cases t
   .exact y j t
  .intro i G;rcases E.fresh z i G with t|⟨j,t⟩
   .rw[g]at t;cases t
   .exact y j t
  .intro x o c A;obtain⟨t,T⟩:=f x o c A;refine⟨by rw[F.other x (sub x o c).2];exact E.other x o t T,λi G=>?_⟩;rcases E.fresh x i G with u|⟨j,u⟩
   .rw[t]at u;cases u
   .exact T j u
  .intro x i G;rcases E.fresh x i G with u|⟨j,u⟩
   .cases e4:m x with
    |none=>exact .inl rfl
    |some o=>
     refine .inr (Classical.byContradiction λA=>?_);have:=(f x o e4 (λi e=>A ⟨i,e⟩)).1;rw[u]at this;cases this
   .exact D x j u
 .rintro I c-⟨rfl,n,g,d,y,f,D⟩
  rw[take_length]at d;exact⟨n,.of_m g rfl,V n I d (λx o c A=>(f x o c A).1) D⟩
theorem Xj:bk 238 Ww:=by
 refine iB func238 ?_;rintro c m h K ⟨b,d,rfl,f,g⟩;refine⟨dG [(237,TV)] [] [] [] false,rfl,aD OK aF,atZ b m h K,bf,?_⟩;exact⟨⟨none,0,0⟩,b,[],d,rfl,⟨Ao [],.inl ⟨rfl,rfl⟩⟩,f,bg,λn m' t u y=>g n m' t (λx o z=>u x o z (λi e=>by cases e)) (λx i e=>(y x i e).elim id λ⟨j,e⟩=>by cases e)⟩
structure WB(v:VV):Prop where
 kind:vP v.kind
 int:vP v.int
 text:v.text.size<=64
structure Mq(r:bu):Prop where
 len:r.length<=12
 val:∀v∈r,WB v
def EX(v:VV):ci:=kJ v.kind++58::(kJ v.int++58::(kJ (v.text.size:Int)++58::v.text.data.toList))
def Dk(r:bu):ci:=r.flatMap EX
def dP(r:bu):ByteArray:=⟨(Dk r).toArray⟩
def pick(r:bu)(cols:br):bu:=cols.map λc=>r.getD c.toNat zeroV
structure hZ(n:Nat)(cols:br):Prop where
 at_:∀c∈cols,0<=c/\c<n
 len:cols.length<=100000
def bhZ:Vc.Spec:=λc m h K=>∃xs v,c=[.lst 5 1 xs,aV v]/\dU m/\v.text.size<=64/\xs.length+300<=140737488355328/\K (.lst 5 1 (xs++aU (EX v))) m h
def beX:Vc.Spec:=λd m h K=>∃s t r c,d=[cS s,cS t]/\bP h s r/\Ints h t c/\Mq r/\hZ r.length c/\dU m/\K (P3 (dP (pick r c))) m h
def abJ:Vc.Spec:=λc m h K=>∃s r,c=[cS s]/\bP h s r/\Mq r/\dU m/\K (P3 (dP r)) m h
def iD(on:bx):br:=on.map Prod.fst
def dV(on:bx):br:=on.map Prod.snd
def Lk:Vc.Spec:=λc m h K=>∃s on,c=[cS s]/\jK h s on/\∀a b h',PH.le h h'->Ints h' a (iD on)->Ints h' b (dV on)->K (.tup [cS a,cS b]) m h'
def JV:Vc.Spec:=λd m h K=>∃s t r c,d=[cS s,cS t]/\bP h s r/\Ints h t c/\hZ r.length c/\K (cB ((pick r c).all l9)) m h
def bgQ:Vc.Spec:=λc m h K=>∃n:Nat,c=[.val (.slice none 0 0),cI n]/\n<=1000/\K (.lst 24 3 []) m h
def PG:Vc.Spec:=λc m h K=>∃d rs,c=[cS d]/\Rows h d rs/\rs.length<=10/\(∀r∈rs,r.length<=12)/\∀e h',PH.le h h'->bP h' e rs.flatten->K (cS e) m h'
noncomputable def aRZ:Ctx:=pF [(188,Sy)] [] [] [] [] [(188,[0])] true
noncomputable def aSX(s t:Sl)(m:MH)(h:PH):Ctx:=
 pF [(250,bhZ)] [(3,{A:=Nat×ci,st:=λ⟨i,l⟩=>bO 23 25 [(0,sv s),(5,.at (.lst 19)),(8,sv t),(9,iv t.len),(10,iv i)] [(19,.lst 5 1 (aU l))] m h})] [] [] [] [(250,[0])] false
noncomputable def aRX(s:Sl)(m:MH)(h:PH):Ctx:=
 pF [(250,bhZ)] [(3,{A:=Nat×ci,st:=λ⟨i,l⟩=>bO 18 19 [(3,.at (.lst 14)),(6,sv s),(7,iv s.len),(8,iv i)] [(14,.lst 5 1 (aU l))] m h})] [] [] [] [(250,[0])] false
noncomputable def VE(s:Sl)(m:MH)(h:PH):Ctx:=
 dG [] [(2,{A:=Nat×br×br,st:=λ⟨i,l,k⟩=>bO 25 26 [(2,.at (.lst 16)),(3,.at (.lst 21)),(6,sv s),(7,iv s.len),(8,iv i)] [(16,.lst 3 1 (l.map eI)),(21,.lst 3 1 (k.map eI))] m h})] [] [] false
noncomputable def VD(s t:Sl)(m:MH)(h:PH):Ctx:=
 dG [(168,Sm)] [(2,{A:=Nat,st:=λi=>bO 20 22 [(0,sv s),(7,sv t),(8,iv t.len),(9,iv i)] [] m h})] [] [] false
noncomputable def aUJ(c:Sl)(m:MH)(h:PH):Ctx:=
 dG [(204,bgQ)] [(3,{A:=Nat×Nat,st:=λ⟨i,n⟩=>bO 36 37 [(0,sv c),(3,iv n),(9,sv c),(10,iv c.len),(11,iv i)] [] m h}),
  (11,{A:=Nat×bu,st:=λ⟨i,l⟩=>bO 36 37 [(6,.at (.lst 24)),(25,sv c),(26,iv c.len),(27,iv i)] [(24,.lst 24 3 (l.map VV.enc))] m h})] [] [] false
def Q6(xs:List bm)(v:VV)(m:MH)(h:PH)(K:bo):Prop:=
  ∃(x:List bm)(i:Int),aA (sN xs v.kind=sN x i) (dU m) (aA (lN (jA x 40)) (iY (jA (pT x i) 1) 1) (C2 (dO (pT x i)) (λe=>∃(f:Int),aA (sN (jW (pT x i) (zH 58)) v.int=sN e f) (dU m) (aA (lN (jA e 40)) (iY (jA (pT e f) 1) 1) (C2 (dO (pT e f)) (λc=>∃(d:Int),aA (sN (jW (pT e f) (zH 58)) (↑v.text.size:Int)=sN c d) (dU m) (aA (lN (jA c 40)) (iY (jA (pT c d) 1) 1) (aA (dO (pT c d)) (rY (jW (pT c d) (zH 58)) (fB v.text) 1) (rZ (jW (pT c d) (zH 58)) (fB v.text)/\K (CV.lst 5 1 (jW (pT c d) (zH 58)++fB v.text)) m h)))))))))
abbrev MS(a:(Nat×ci->Prop)->(Nat×ci)->Prop)(b:(Nat×ci->Prop)->(Nat×ci->Nat)->(Nat×ci)->Prop):Prop:=∃(x:Nat×ci->Prop)(d:Nat×ci->Nat),(∃(c:Nat×ci),a x c)/\∀(c:Nat×ci),b x d c
noncomputable abbrev sY(a:Nat×ci):List bm:=aU a.2
noncomputable abbrev mY(a:List bm)(b:bm):cq:=gJ (CV.lst 5 1 a) (jR b)
abbrev rH(a b:List bm):Prop:=Option.some (Own.lst 5 1 a)=Option.some (Own.lst 5 1 b)
abbrev Gg(a:List bm)(b:ci->Prop):Prop:=∃(x:ci),a=aU x/\b x
attribute [push_cast] MS sY mY rH Gg
def Ra(s t:Sl)(m:MH)(h:PH)(K:bo):Prop:=
  MS (λI x=>aA (I x) (aH s) (aA (eL 19) (aH t) (aA (bG t) (bC x.1) (aA (rB 5 1 (sY x)) (m=m) (bX h h))))) (λI e x=>I x->aZ (↑x.1:Int) (aG t) (aK (λb o=>aA (aL t.a b o) (0<=(↑x.1:Int)) ((↑x.1:Int)<aG t/\∃(y:Int),aJ m h b (bK o x.1 1) (bL y)/\aK (λf g=>aA (aL s.a f g) (0<=y) (y<aG s/\∃(j:VV),aJ m h f (fX g y 3) j.enc/\∃(d:List bm)(v:VV),aA (mY (sY x) j.enc=mY d v.enc) (dU m) (aA (v.text.size<=64) (lN (jA d 300)) (∃(c:Nat×ci),aA (I c) (e c<e x) (aA (aH s) (eL 19) (aA (aH t) (bG t) (aA (bD (fP (bE x.1 1)) c.1) (rH (kI d (EX v)) (sY c)) (dW m m h h))))))))))) (Gg (sY x) (λb=>K (yF b) m h)))
def Q5(s:Sl)(m:MH)(h:PH)(K:bo):Prop:=
  MS (λI x=>aA (I x) (eL 14) (aA (aH s) (bG s) (aA (bC x.1) (rB 5 1 (sY x)) (aA (m=m) (h=h) True)))) (λI e x=>I x->aZ (↑x.1:Int) (aG s) (aK (λb o=>aA (aL s.a b o) (0<=(↑x.1:Int)) ((↑x.1:Int)<aG s/\∃(y:VV),HA m h b o x.1 3 y.enc (λd=>∃(v:VV),aA (mY (sY x) y.enc=mY d v.enc) (dU m) (aA (v.text.size<=64) (lN (jA d 300)) (∃(c:Nat×ci),aA (I c) (e c<e x) (aA (eL 14) (aH s) (aA (bG s) (bD (fP (bE x.1 1)) c.1) (aA (rH (kI d (EX v)) (sY c)) (m=m) (bX h h)))))))))) (Gg (sY x) (λb=>K (yF b) m h)))
def GN(s:Sl)(m:MH)(h:PH)(K:bo):Prop:=
  ∃(I:Nat×br×br->Prop)(d:Nat×br×br->Nat),(∃(x:Nat×br×br),aA (I x) (eL 16) (aA (eL 21) (aH s) (aA (bG s) (bC x.1) (aA (wE (oW x.2.1)) (wE (oW x.2.2)) (dW m m h h)))))/\∀(x:Nat×br×br),I x->aZ (↑x.1:Int) (aG s) (aK (λb o=>aA (aL s.a b o) (0<=(↑x.1:Int)) ((↑x.1:Int)<aG s/\∃(y:Int×Int),aA (aJ m h b (bK o x.1 2) (uS y)) (cF 0) (aA ((0:Int)<2) (Cf (oW x.2.1)) (aA (dO (oW x.2.1)) (cF 1) (aA ((1:Int)<2) (Cf (oW x.2.2)) (dO (oW x.2.2)/\∃(c:Nat×br×br),aA (I c) (d c<d x) (aA (eL 16) (eL 21) (aA (aH s) (bG s) (aA (bD (fP (bE x.1 1)) c.1) (wF (oW x.2.1) y.1 (oW c.2.1)) (dK (wF (oW x.2.2) y.2
 (oW c.2.2)) m m h h))))))))))) (bZ h 1 (oW x.2.1) (λe f=>bZ f 1 (oW x.2.2) (λg j=>K (CV.tup (cA e g)) m j)))
def GM(s t:Sl)(m:MH)(h:PH)(K:bo):Prop:=
  nR (λI x=>aA (I x) (aH s) (aA (aH t) (bG t) (dK (bC x) m m h h))) (λI d x=>I x->aZ (↑x:Int) (aG t) (aK (λb o=>aA (aL t.a b o) (0<=(↑x:Int)) ((↑x:Int)<aG t/\∃(y:Int),aJ m h b (bK o x 1) (bL y)/\aK (λe f=>aA (aL s.a e f) (0<=y) (y<aG s/\∃(g:VV),aJ m h e (fX f y 3) g.enc/\∃(v:VV),gK (qD g=qD v) (!(l9 v)) (K aX m h) (∃(c:Nat),aA (I c) (d c<d x) (aA (aH s) (aH t) (aA (bG t) (bD (fP (bE x 1)) c) (aA (m=m) (h=h) True))))))))) (K gL m h))
def Rg(n:Nat)(m:MH)(h:PH)(K:bo):Prop:=
  dZ (eT ((↑n:Int)-eT ((0:Int)-0))) 0 (aA (cF 0) (cF 0) (aA (0<eT ((↑n:Int)-0)) (Hy (eT ((↑n:Int)-0)*32)) (aA (Hy (eT ((↑n:Int)-0))) ((0:Int)<=0) (cF (MU n wQ)/\K (CV.lst 24 3 []) m h)))) (K (CV.lst 24 3 []) m h)
noncomputable abbrev C4(a:bu):List bm:=List.map VV.enc a
abbrev F8(a b:List bm):Prop:=Option.some (Own.lst 24 3 a)=Option.some (Own.lst 24 3 b)
attribute [push_cast] C4 F8
def Rk(d:Sl)(m:MH)(h:PH)(K:bo):Prop:=
  IW (λI x=>aA (I x) (aH d) (aA (bC x.2) (aH d) (aA (bG d) (bC x.1) (aA (m=m) (h=h) True)))) (λI g x=>I x->aZ (↑x.1:Int) (aG d) (aK (λb o=>aA (aL d.a b o) (0<=(↑x.1:Int)) ((↑x.1:Int)<aG d/\∃(y:Sl),aJ m h b (bK o x.1 1) (aM y)/\aZ (bE x.2 (aG y)) 0 False (∃(c:Nat×Nat),aA (I c) (g c<g x) (aA (aH d) (bD (fP (bE x.2 (aG y))) c.2) (aA (aH d) (bG d) (aA (bD (fP (bE x.1 1)) c.1) (m=m) (bX h h)))))))) (∃(n:Nat),aA (Ej x.2=Ej n) (mT n) (∃(I1:Nat×bu->Prop)(j:Nat×bu->Nat),(∃(c:Nat×bu),aA (I1 c) (eL 24) (aA (aH d) (bG d) (aA (bC c.1) (rB 24 3 (C4 c.2)) (aA (m=m) (h=h) True))))/\∀(c:Nat×bu),I1 c->aZ (↑c.1:Int) (aG d)
 (aK (λb o=>aA (aL d.a b o) (0<=(↑c.1:Int)) ((↑c.1:Int)<aG d/\∃(y:Sl),HA m h b o c.1 1 (aM y) (λe=>aA (eR 3 e) (cZ h (dJ y) 3 e) (aA (rY (C4 c.2) e 32) (rZ (C4 c.2) e) (∃(f:Nat×bu),aA (I1 f) (j f<j c) (aA (eL 24) (aH d) (aA (bG d) (bD (fP (bE c.1 1)) f.1) (aA (F8 (C4 c.2++e) (C4 f.2)) (m=m) (bX h h)))))))))) (bZ h 3 (C4 c.2) (λs t=>K (rC s) m t)))))
theorem JM(a b:ci):aU a++aU b=aU (a++b):=by simp[aU]
theorem aCJ{v:VV}(h:v.text.size<=64):(EX v).length<=130:=by
 have c:=qP v.kind;have d:=qP v.int;have e:=qP (v.text.size:Int);have f:v.text.data.toList.length=v.text.size:=Array.length_toList;simp only[EX,length_append,length_cons];omega
theorem OG:bk 250 bhZ:=by
 refine iB func250 ?_;rintro g m h K ⟨xs,v,rfl,c,n,t,d⟩;refine⟨aRZ,rfl,aD HF aF,Q6 xs v m h K,bf,?_⟩;dsimp only[Q6,push_cast];have u:=qP v.kind;have y:=qP v.int;have z:=qP (v.text.size:Int);have A:v.text.data.toList.length=v.text.size:=Array.length_toList;have j:∀l:ci,(aU l).length=l.length:=λl=>by simp[aU]
 have f:fB v.text=aU v.text.data.toList:=rfl;refine⟨_,_,rfl,c,aC,?_,?_,_,_,rfl,c,?_,?_,?_,_,_,rfl,c,?_,?_,?_,?_,?_,?_⟩
 all_goals (try (simp only[length_append,j,f,length_cons,length_nil];omega))
 have e:xs++aU (EX v)=xs++aU (kJ v.kind)++[[Value.int IntKind.u8 58]]++aU (kJ v.int)++[[Value.int IntKind.u8 58]]++aU (kJ (v.text.size:Int))++[[Value.int IntKind.u8 58]]++fB v.text:=by
  rw[f];simp only[EX,aU,map_append,map_cons,append_assoc,cons_append,nil_append];rfl
 rw[e]at d;exact d
theorem UR{r:bu}(h:∀v∈r,v.text.size<=64):(Dk r).length<=130*r.length:=by
 induction r with
 |nil=>simp[Dk]
 |cons v l c=>
  have f:=aCJ (h v (mem_cons_self ..));have d:=c (λu e=>h u (mem_cons_of_mem _ e));simp only[Dk,flatMap_cons,length_append,length_cons]at d⊢
  omega
theorem Qx{r:bu}{v:VV}(c:r[i]? =some v):Dk (r.take (i+1))=Dk (r.take i)++EX v:=by
 rw[take_add_one,c];simp[Dk]
theorem NT{r:bu}{cols:br}(e:hZ r.length cols){v:VV}(f:v∈pick r cols):v∈r:=by
 obtain⟨c,d,rfl⟩:=mem_map.1 f;have:=e.at_ c d;rw[getD_eq_getElem?_getD,getElem?_eq_getElem aC];exact getElem_mem _
theorem Ik{r:bu}{cols:br}{i:Nat}{c:Int}(e:hZ r.length cols)(d:cols[i]? =some c):∃v,r[c.toNat]? =some v/\(pick r cols)[i]? =some v/\0<=c/\c<r.length:=by
 have:=e.at_ c (mem_of_getElem? d);refine⟨r[c.toNat]'(by omega),getElem?_eq_getElem _,?_,this⟩;unfold pick;rw[getElem?_map,d];simp only[Option.map_some,getD_eq_getElem?_getD];rw[getElem?_eq_getElem aC];rfl
theorem EG:bk 236 beX:=by
 refine iB func236 ?_;rintro I m h K ⟨s,t,r,d,rfl,F,G,J,y,L,M⟩;refine⟨aSX s t m h,rfl,aD OG aF,Ra s t m h K,bf,?_⟩;dsimp only[Ra,push_cast];have O:=bN.slen F;have z:=G.slen;have P:=y.len;have Q:(pick r d).length=d.length:=by simp[pick]
 have g:∀v∈pick r d,v.text.size<=64:=λv R=>(J.val v (NT y R)).text;refine⟨λx=>x.1<=d.length/\x.2=Dk ((pick r d).take x.1),λx=>d.length-x.1,⟨(0,[]),⟨bg,by simp[Dk]⟩,MT⟩,?_⟩;rintro⟨i,l⟩ ⟨S,H⟩;dsimp only at S H;subst H;refine aE (λf=>?_) (λA=>?_)
 .dsimp only at f;obtain⟨c,j⟩:=eN z f;obtain⟨b,o,e,rd⟩:=G.at j;obtain⟨v,D,n,T,Z⟩:=Ik y j;obtain⟨U,V,w,W,E,rfl⟩:=bN.at F D;have X:=UR (r:=(pick r d).take i) (λu Y=>g u (mem_of_mem_take Y));refine⟨b,o,e,by dsimp only;omega,f,c,.imm (bj rd),U,V,W,T,aC,v,.imm E,_,v,rfl,L,g v (mem_of_getElem? n),?_,(i+1,Dk ((pick r d).take (i+1))),⟨by dsimp only;omega,rfl⟩,(by dsimp only;omega),?_⟩
  .have:(aU (Dk ((pick r d).take i))).length=(Dk ((pick r d).take i)).length:=by simp[aU]
   rw[length_take]at X;dsimp only;omega
  .dsimp only;rw[Qx n,JM];exact MT
 .dsimp only at A⊢
  rw[take_of_length_le aC];exact⟨_,rfl,M⟩
theorem Xf:bk 251 abJ:=by
 refine iB func251 ?_;rintro y m h K ⟨s,r,rfl,n,d,z,A⟩;refine⟨aRX s m h,rfl,aD OG aF,Q5 s m h K,bf,?_⟩;dsimp only[Q5,push_cast];have e:=bN.slen n;have D:=d.len;refine⟨λx=>x.1<=r.length/\x.2=Dk (r.take x.1),λx=>r.length-x.1,⟨(0,[]),⟨bg,by simp[Dk]⟩,MT⟩,?_⟩;rintro⟨i,l⟩ ⟨E,t⟩;dsimp only at E t;subst t;refine aE (λc=>?_) (λf=>?_)
 .dsimp only at c;obtain⟨v,g⟩:=eN e c;obtain⟨F,G,w,H,j,rfl⟩:=bN.at n g;have I:=UR (r:=r.take i) (λu J=>(d.val u (mem_of_mem_take J)).text);refine⟨F,G,H,by dsimp only;omega,c,v,.imm j,_,v,rfl,z,(d.val v (mem_of_getElem? g)).text,?_,(i+1,Dk (r.take (i+1))),⟨by dsimp only;omega,rfl⟩,(by dsimp only;omega),?_⟩
  .have:(aU (Dk (r.take i))).length=(Dk (r.take i)).length:=by simp[aU]
   rw[length_take]at I;dsimp only;omega
  .dsimp only;rw[Qx g,JM];exact MT
 .dsimp only at f⊢
  rw[take_of_length_le aC];exact⟨_,rfl,A⟩
theorem ZM{s:Sl}{on:bx}(f:jK h s on)(z:∀a b h',PH.le h h'->Ints h' a (iD on)->Ints h' b (dV on)->K (.tup [cS a,cS b]) m h'):GN s m h K:=by
 dsimp only[GN,push_cast];have g:=f.slen;have G:=f.len;refine⟨λx=>x.1<=on.length/\x.2.1=(on.take x.1).map Prod.fst/\x.2.2=(on.take x.1).map Prod.snd,λx=>on.length-x.1,⟨(0,[],[]),⟨bg,bg,bg⟩,MT⟩,?_⟩;rintro⟨i,l,k⟩ ⟨A,t,u⟩;dsimp only at A t u;subst t u;refine aE (λc=>?_) (λj=>?_)
 .dsimp only at c;obtain⟨p,y⟩:=eN g c;obtain⟨b,o,e,rd⟩:=jK.at f y;refine⟨b,o,e,by dsimp only;omega,c,p,.imm rd,aC,aC,?_,?_,aC,aC,?_,?_,(i+1,(on.take (i+1)).map Prod.fst,(on.take (i+1)).map Prod.snd),⟨by dsimp only;omega,rfl,rfl⟩,(by dsimp only;omega),?_⟩
  all_goals (try (simp only[length_map,length_take];omega))
  dsimp only;rw[take_add_one,y,Option.toList_some,map_append,map_append,map_append,map_append];exact MT
 .dsimp only at j⊢
  rw[take_of_length_le aC];intro a H n D b E d F;exact z a b E (n.trans d) ⟨D.mono d,by simp[iD];omega⟩ ⟨F,by simp[dV];omega⟩
theorem OL:bk 234 Lk:=by
 refine iB func234 ?_;rintro c m h K ⟨s,on,rfl,d,e⟩;refine⟨VE s m h,rfl,aF,GN s m h K,bf,?_⟩;exact ZM d e
theorem ZL{s t:Sl}{r:bu}{cols:br}(H:bP h s r)(I:Ints h t cols)(J:hZ r.length cols)(z:K (cB ((pick r cols).all l9)) m h):GM s t m h K:=by
 dsimp only[GM,push_cast];have M:=bN.slen H;have D:=I.slen;have O:=J.len;have P:(pick r cols).length=cols.length:=by simp[pick]
 refine⟨λi=>i<=cols.length/\∀j:Nat,j<i->∀v,(pick r cols)[j]? =some v->l9 v=true,λi=>cols.length-i,⟨0,⟨aC,λj A=>by omega⟩,MT⟩,λi⟨Y,d⟩=>aE (λf=>?_) (λQ=>?_)⟩
 .obtain⟨c,g⟩:=eN D f;obtain⟨b,o,e,rd⟩:=I.at g;obtain⟨v,E,n,R,Z⟩:=Ik J g;obtain⟨S,T,w,U,F,rfl⟩:=bN.at H E;refine⟨b,o,e,aC,f,c,.imm (bj rd),S,T,U,R,aC,v,.imm F,v,rfl,aB (λy=>?_) (λV=>⟨i+1,⟨aC,λj A u G=>?_⟩,(show cols.length-(i+1)<cols.length-i by omega),MT⟩)⟩
  .have:(pick r cols).all l9=false:=by
    cases L:(pick r cols).all l9 with
    |false=>rfl
    |true=>rw[all_eq_true]at L;rw[L v (mem_of_getElem? n)]at y;cases y
   rw[this]at z;exact z
  .by_cases W:j=i
   .subst W;rw[n]at G;cases G;simpa using V
   .exact d j aC u G
 .have:(pick r cols).all l9=true:=by
   rw[all_eq_true];intro v X;obtain⟨j,A⟩:=getElem?_of_mem X;exact d j (by have:=(List.getElem?_eq_some_iff.1 A).1;omega) v A
  rw[this]at z;exact z
theorem Xk:bk 235 JV:=by
 refine iB func235 ?_;rintro d m h K ⟨s,t,r,c,rfl,e,f,g,j⟩;refine⟨VD s t m h,rfl,aD EH aF,GM s t m h K,bf,?_⟩;exact ZL e f g j
theorem Xz:bk 204 bgQ:=by
 refine iB func204 ?_;rintro d m h K ⟨n,rfl,f,c⟩;refine⟨dG [] [] [] [] true,rfl,aF,Rg n m h K,bf,?_⟩;dsimp only[Rg,push_cast];have e:IntKind.i64.wrap ((n:Int)-0)=n:=by rw[eG aC aC];omega
 have g:IntKind.i64.wrap ((n:Int)-IntKind.i64.wrap (0-0))=n:=by rw[show IntKind.i64.wrap (0-0)=0 from by rw[eG aC aC];rfl,e]
 exact aE (λj=>⟨aC,aC,aC,aC,aC,aC,aC,c⟩) (λ_=>c)
theorem AU{α:Type}{ks:List (List α)}{k:List α}(c:ks[i]? =some k):((ks.take (i+1)).map List.length).sum=((ks.take i).map List.length).sum+k.length:=by
 rw[take_add_one,c];simp
theorem Hm{α:Type}{ks:List (List α)}(h:∀k∈ks,k.length<=12):∀i,((ks.take i).map List.length).sum<=12*i
 |0=>bg
 |i+1=>by
  have c:=Hm h i;cases e:ks[i]? with
  |none=>rw[take_add_one,e];simp at c⊢;omega
  |some k=>rw[AU e];have:=h k (mem_of_getElem? e);omega
theorem OS:bk 173 PG:=by
 refine iB func173 ?_;rintro Q m h K ⟨L,ks,rfl,A,Z,d,R⟩;refine⟨aUJ L m h,rfl,aD Xz aF,Rk L m h K,bf,?_⟩;dsimp only[Rk,push_cast];have u:=bN.slen A;refine⟨λ⟨i,n⟩=>i<=ks.length/\n=((ks.take i).map List.length).sum,λ⟨i,_⟩=>ks.length-i,⟨(0,0),⟨aC,bg⟩,MT⟩,?_⟩;rintro⟨i,n⟩ ⟨M,rfl⟩;dsimp only;have S:=Hm d i;refine aE (λc=>?_) (λy=>?_)
 .obtain⟨k,f⟩:=eN u c;obtain⟨b,o,t,D,r,g⟩:=bN.at A f;have T:=bN.slen g;have z:=d k (mem_of_getElem? f)
  have U:IntKind.i64.wrap (((((ks.take i).map List.length).sum:Nat):Int)+(t.len:Int))=((((ks.take (i+1)).map List.length).sum:Nat):Int):=by
   rw[AU f,eG aC aC];omega
  refine⟨b,o,D,aC,c,t,.imm r,?_⟩;rw[U];exact aE (λO=>by omega) (λ_=>⟨(i+1,((ks.take (i+1)).map List.length).sum),⟨aC,rfl⟩,by show ks.length-(i+1)<ks.length-i;omega,MT⟩)
 .refine⟨((ks.take i).map List.length).sum,rfl,aC,?_⟩;refine⟨λ⟨i,l⟩=>i<=ks.length/\l=(ks.take i).flatten,λ⟨i,_⟩=>ks.length-i,⟨(0,[]),⟨aC,bg⟩,MT⟩,?_⟩;clear S y M;rintro⟨i,l⟩ ⟨M,rfl⟩;dsimp only;have E:(ks.take i).flatten.length<=12*i:=by have:=Hm d i;simpa[length_flatten]using this
  refine aE (λc=>?_) (λy t h' F e=>R t h' F ⟨⟨ks.flatten,?_,rfl,λi x V=>⟨x,V,rfl⟩⟩,?_⟩)
  .obtain⟨k,f⟩:=eN u c;obtain⟨b,o,t,D,r,g⟩:=bN.at A f;have z:=d k (mem_of_getElem? f);obtain⟨G,H,W,I⟩:=g.ex
   have J:G=k:=by
    apply ext_getElem?;intro j;by_cases P:j<k.length
    .obtain⟨v,X,Y⟩:=I j _ (getElem?_eq_getElem P);rw[X,getElem?_eq_getElem P,Y]
    .rw[getElem?_eq_none aC,getElem?_eq_none aC]
   subst J;refine⟨b,o,D,aC,c,t,.imm r,G.map VV.enc,NK G,H,?_,?_,(i+1,(ks.take (i+1)).flatten),⟨aC,rfl⟩,by show ks.length-(i+1)<ks.length-i;omega,?_⟩
   .rw[length_map,length_map];omega
   .rw[length_map,length_map];omega
   .rw[take_add_one,f,Option.toList_some,flatten_append,map_append,flatten_cons,flatten_nil,append_nil];exact MT
  .rw[take_of_length_le aC]at e;exact e
  .rw[take_of_length_le aC]at E;omega
theorem JD:∀(u:Nat)(b:UInt8),b∈Lib.decDigits u->48<=b.toNat/\b.toNat<=57:=by
 intro u
 induction u using Nat.strongRecOn with
 |_ u e=>
  intro b c;rw[Lib.decDigits]at c
  have one:∀k,k<10->48<=(UInt8.ofNat (48+k)).toNat/\(UInt8.ofNat (48+k)).toNat<=57:=λk f=>by
   rw[UInt8.toNat_ofNat'];omega
  split at c
  .rename_i h;rw[mem_singleton]at c;subst c;exact one u h
  .rcases mem_append.1 c with d|d
   .exact e (u/10) aC b d
   .rw[mem_singleton]at d;subst d;exact one (u%10) aC
theorem ZT:∀(u v:Nat),Lib.decDigits u=Lib.decDigits v->u=v:=by
 intro u
 induction u using Nat.strongRecOn with
 |_ u j=>
  intro v h;have f:=congrArg List.length h;rw[Lib.decDigits_length,Lib.decDigits_length]at f
  have one:∀a b,a<10->b<10->UInt8.ofNat (48+a)=UInt8.ofNat (48+b)->a=b:=λa b n t e=>by
   have:=congrArg UInt8.toNat e;rw[UInt8.toNat_ofNat',UInt8.toNat_ofNat']at this;omega
  by_cases d:u<10
  .have c:v<10:=by
    apply Classical.byContradiction;intro c;rw[Lib.nDigits_small d,Lib.nDigits_big c]at f;have:=Lib.nDigits_pos (v/10);omega
   rw[Lib.decDigits.eq_def u,Lib.decDigits.eq_def v,dif_pos d,dif_pos c]at h;simp only[List.cons.injEq,and_true]at h;exact one u v d c h
  .have c:¬v<10:=λc=>by
    rw[Lib.nDigits_small c,Lib.nDigits_big d]at f;have:=Lib.nDigits_pos (u/10);omega
   rw[Lib.decDigits.eq_def u,Lib.decDigits.eq_def v,dif_neg d,dif_neg c]at h;have g:=append_inj' h rfl;have y:=j (u/10) aC (v/10) g.1;simp only[List.cons.injEq,and_true]at g;have z:=one (u%10) (v%10) aC aC g.2;omega
theorem P8{n:Int}(c:0<=n)(d:n<18446744073709551616):IntKind.u64.wrap n=n:=by
 rw[IntKind.wrap_u64];omega
theorem adJ{n:Int}(c:n<0)(d: -9223372036854775808<=n):IntKind.u64.wrap (0-IntKind.u64.wrap n)= -n:=by
 rw[IntKind.wrap_u64,IntKind.wrap_u64];omega
theorem Bp{n:Int}(h:vP n)(c:0<=n):kJ n=Lib.decDigits n.toNat:=by
 unfold kJ;rw[if_neg aC,P8 c (by have:=h.2;omega)]
theorem Bq{n:Int}(h:vP n)(c:n<0):kJ n=45::Lib.decDigits (-n).toNat:=by
 unfold kJ;rw[if_pos c,adJ c h.1]
theorem Qz{n:Int}(h:vP n){b:UInt8}(c:b∈kJ n):b≠58:=by
 intro e;subst e;by_cases f:0<=n
 .rw[Bp h f]at c;have:=JD _ _ c;simp at this
 .rw[Bq h aC]at c;rcases mem_cons.1 c with d|d
  .cases d
  .have:=JD _ _ d;simp at this
theorem QB{m n:Int}(d:vP m)(f:vP n)(h:kJ m=kJ n):m=n:=by
 have c:∀u r,Lib.decDigits u=45::r->False:=λu r e=>by
  have:=JD u 45 (by rw[e];simp);simp at this
 by_cases g:0<=m<;>by_cases j:0<=n
 .rw[Bp d g,Bp f j]at h;have:=ZT _ _ h;omega
 .rw[Bp d g,Bq f aC]at h;exact(c _ _ h).elim
 .rw[Bq d aC,Bp f j]at h;exact(c _ _ h.symm).elim
 .rw[Bq d aC,Bq f aC]at h;have:=ZT _ _ (List.cons.inj h).2;omega
theorem Ny{α:Type}{x:α}:∀{a b r r':List α},x∉a->x∉b->a++x::r=b++x::r'->a=b/\r=r'
 |[],[],r,r',_,_,h=>⟨rfl,(List.cons.inj h).2⟩
 |[],c::b,r,r',_,e,h=>by
  have:=(List.cons.inj h).1;exact(e (by rw[this];simp)).elim
 |c::a,[],r,r',f,_,h=>by
  have:=(List.cons.inj h).1;exact(f (by rw[<-this];simp)).elim
 |c::a,d::b,r,r',f,e,h=>by
  have g:=List.cons.inj h;obtain⟨j,n⟩:=Ny (λm=>f (by simp[m])) (λm=>e (by simp[m])) g.2;exact⟨by rw[g.1,j],n⟩
theorem Fi{m n:Int}{r r':ci}(d:vP m)(e:vP n)(h:kJ m++58::r=kJ n++58::r'):m=n/\r=r':=by
 obtain⟨f,g⟩:=Ny (λc=>Qz d c rfl) (λc=>Qz e c rfl) h;exact⟨QB d e f,g⟩
theorem YO{u v:VV}{r r':ci}(c:WB u)(d:WB v)(h:EX u++r=EX v++r'):u=v/\r=r':=by
 simp only[EX,append_assoc,cons_append]at h;obtain⟨e,h⟩:=Fi c.kind d.kind h;obtain⟨f,h⟩:=Fi c.int d.int h;have sz:∀w:VV,WB w->vP (w.text.size:Int):=λw g=>⟨aC,by have:=g.text;omega⟩
 obtain⟨A,h⟩:=Fi (sz u c) (sz v d) h
 have j:u.text.data.toList.length=v.text.data.toList.length:=by
  have:u.text.size=v.text.size:=by omega
  rw[Array.length_toList,Array.length_toList];exact this
 obtain⟨n,y⟩:=append_inj h j;refine⟨?_,y⟩;obtain⟨k,i,t⟩:=u;obtain⟨D,E,z⟩:=v;simp only[VV.mk.injEq]at e f⊢
 refine⟨e,f,?_⟩;cases t;cases z;simp only[ByteArray.mk.injEq];exact Array.toList_inj.1 n
theorem US:∀{a b:bu},a.length=b.length->(∀v∈a,WB v)->(∀v∈b,WB v)->Dk a=Dk b->a=b
 |[],[],_,_,_,_=>rfl
 |x::a,y::b,c,e,f,h=>by
  simp only[Dk,flatMap_cons]at h;obtain⟨g,j⟩:=YO (e x (mem_cons_self ..)) (f y (mem_cons_self ..)) h;rw[g,US (bj c) (λv d=>e v (mem_cons_of_mem _ d)) (λv d=>f v (mem_cons_of_mem _ d)) j]
 |[],_::_,c,_,_,_=>by simp at c
 |_::_,[],c,_,_,_=>by simp at c
theorem Oj{a b:bu}(c:a.length=b.length)(d:∀v∈a,WB v)(e:∀v∈b,WB v):dP a=dP b↔a=b:=by
 constructor
 .intro h;simp only[dP,ByteArray.mk.injEq]at h;exact US c d e (bj (congrArg Array.toList h))
 .intro h;rw[h]
structure Y4(κ:bu->ByteArray):Prop where
 inj:∀{a b:bu},a.length=b.length->(∀v∈a,WB v)->(∀v∈b,WB v)->(κ a=κ b↔a=b)
theorem Ol:Y4 dP:=⟨Oj⟩
def O9(r:bu)(o:OV):VV:=if o.kind=3 then o.value else if o.kind=1/\0<=o.index/\o.index<r.length then r.getD o.index.toNat zeroV else zeroV
def aFX(d c:Int):Bool:=if d=1 then c==0 else if d=2 then c !=0 else if d=3 then decide (c<0)else if d=4 then decide (c<=0)else if d=5 then decide (c>0)else if d=6 then decide (c>=0)else false
def HE(c:Int)(a b:VV):Bool:=l9 a&&l9 b&&a.kind==b.kind&&aFX c (lZ a b)
mutual
def lM(r:bu):Pred->Bool
 |.mk op c a b args=>if op=1 then true else if op=3 then HE c (O9 r a) (O9 r b)else if op=4 then FD r args else if op=5 then FC r args else if op=6 then UZ r args else false
def FD(r:bu):cm->Bool
 |[]=>true
 |p::ps=>lM r p&&FD r ps
def FC(r:bu):cm->Bool
 |[]=>false
 |p::ps=>lM r p||FC r ps
def UZ(r:bu):cm->Bool
 |[]=>false
 |p::_=> !lM r p
end
theorem L0(r:bu):∀ps,FD r ps=ps.all (lM r)
 |[]=>by simp[FD]
 |p::ps=>by simp[FD,L0 r ps]
theorem LZ(r:bu):∀ps,FC r ps=ps.any (lM r)
 |[]=>by simp[FC]
 |p::ps=>by simp[FC,LZ r ps]
def DenS:Vc.Spec:=λc m h K=>∃o s r,c=[aO o,cS s,jG]/\bP h s r/\K (aV (O9 r o)) m h
def Mr(p:Int->Bool):Vc.Spec:=λd m h K=>∃c,d=[cI c]/\K (cB (p c)) m h
def bJZ:Vc.Spec:=λc m h K=>∃op,c=[cI op]/\
 branch (op==1) (K (fv 196) m h) (branch (op==2) (K (fv 197) m h) (branch (op==3) (K (fv 198) m h) (branch (op==4) (K (fv 199) m h) (branch (op==5) (K (fv 200) m h) (branch (op==6) (K (fv 201) m h) (K (.val .nilFunc) m h))))))
def bfZ(N:Nat):Vc.Spec:=λc m h K=>∃v s p r,c=[aP v,cS s,jG]/\eW h p v/\bP h s r/\SizeOf.sizeOf p<N/\K (cB (lM r p)) m h
def Y5:Vc.Spec:=λc m h K=>∃v s p r,c=[aP v,cS s,jG]/\eW h p v/\bP h s r/\K (cB (lM r p)) m h
noncomputable def a0J(N:Nat)(v:PV)(s:Sl)(m:MH)(h:PH):Ctx:=
 dG [(167,DenS),(168,Sm),(169,bJZ),(166,Sw),(122,bfZ N),(196,Mr (λc=>c==0)),(197,Mr (λc=>c !=0)),(198,Mr (λc=>decide (c<0))),(199,Mr (λc=>decide (c<=0))),(200,Mr (λc=>decide (c>0))),(201,Mr (λc=>decide (c>=0)))] [(12,{A:=Nat,st:=λi=>bO 102 105 [(1,sv s),(2,vv rV),(60,sv v.args),(61,iv v.args.len),(62,iv i)] [] m h}),
  (20,{A:=Nat,st:=λi=>bO 102 105 [(1,sv s),(2,vv rV),(75,sv v.args),(76,iv v.args.len),(77,iv i)] [] m h})] [(6,{A:=VV×VV,st:=λ⟨a,b⟩=>bO 102 105 [(3,.at (.ptr 3 0)),(7,.at (.ptr 7 0)),(8,.at (.ptr 8 0))] [(3,.cells 29 (v.enc.map .val)),(7,.cells 24 (a.enc.map .val)),(8,.cells 24 (b.enc.map .val))] m h})] [] false
def Rn(o:OV)(s:Sl)(m:MH)(h:PH)(K:bo):Prop:=
  dN (o.kind==3) (K (jR o.value.enc) m h) (o.kind==2) (aZ o.index 0 (K (jR wQ) m h) (fO o.index 0 (K (jR wQ) m h) (aK (λb c=>aA (aL Option.none b c) (0<=o.index) (o.index<0/\∃(y:VV),aJ m h b (fX c o.index 3) y.enc/\K (jR y.enc) m h))))) (eD o.kind 1 (aZ o.index 0 (K (jR wQ) m h) (fO o.index (aG s) (K (jR wQ) m h) (aK (λb c=>aA (aL s.a b c) (0<=o.index) (o.index<aG s/\∃(y:VV),aJ m h b (fX c o.index 3) y.enc/\K (jR y.enc) m h))))) (K (jR wQ) m h))
def KY(op:Int)(m:MH)(h:PH)(K:bo):Prop:=
  fR (λb e=>aY (bW m h b) (cM m e b (bA Value.nilFunc Value.nilFunc (bA Value.nilFunc Value.nilFunc (bA Value.nilFunc Value.nilFunc M5))) 247) (Fp (λc E=>aA (Lo e b (qL c E 0)) (7<=c.size) (∀(d:MH),cM e d b (bA Value.nilFunc (nA 196) (bA (nA 197) (nA 198) (bA (nA 199) (nA 200) (xS (nA 201) 7 c.toList)))) E->aZ op 0 (K (CV.val Value.nilFunc) d h) (fO op 7 (K (CV.val Value.nilFunc) d h) (aA (cF op) (op<7) (∃(y:Option Nat),aJ d h b (fX 0 op 1) (jD (a5Z y))/\K (CV.val (a5Z y)) d h)))))))
def awZ(c:Int)(m:MH)(h:PH)(K:bo):Prop:=
  K (Ah (c==0)) m h
def awX(c:Int)(m:MH)(h:PH)(K:bo):Prop:=
  K (Ah (c !=0)) m h
def awQ(c:Int)(m:MH)(h:PH)(K:bo):Prop:=
  K (Ah (decide (c<0))) m h
def avJ(c:Int)(m:MH)(h:PH)(K:bo):Prop:=
  K (Ah (decide (c<=0))) m h
def avX(c:Int)(m:MH)(h:PH)(K:bo):Prop:=
  K (Ah (decide (c>0))) m h
def avQ(c:Int)(m:MH)(h:PH)(K:bo):Prop:=
  K (Ah (decide (c>=0))) m h
noncomputable abbrev vC(a:OV)(b:Sl):cq:=cJ a.enc (eJ b jG)
abbrev lF(a:bu)(b:OV)(c:VV):Prop:=oQ 24 (eZ (At.val (fD (O9 a b).kind)) (At.val (fD (O9 a b).int)) (rG (At.val (Value.string (O9 a b).text))))=uB 24 c.enc
abbrev wD(a:PV)(b:Sl)(c:PH)(d:VV×VV->Prop)(e:(VV×VV)->Prop)(g:OV->bu->(VV×VV)->Prop)(i:MH):Prop:=∃(x:OV),oA (λj n=>aA (vC a.right b=vC x j) (bP c j n) (∃(f:VV×VV),aA (d f) iM (aA (eP 7) hU (aA (lS a) (e f) (aA (g x n f) (i=i) (bX c c))))))
abbrev D1(a:VV×VV)(b:Int->Prop):Prop:=∃(x c:VV),jT a.1.enc a.2.enc=jT x.enc c.enc/\∃(d:Int),nT (lZ x c)=nT d/\b d
abbrev Gt(a:PV->Sl->Pred->bu->Prop):Prop:=∃(x:PV)(c:Sl)(d:Pred)(e:bu),a x c d e
noncomputable abbrev wP(a:PV)(b:Sl):cq:=cJ a.enc (eJ b jG)
attribute [push_cast] vC lF wD D1 Gt wP
def RO(N:Nat)(v:PV)(s:Sl)(m:MH)(h:PH)(K:bo):Prop:=
  dN (v.op==1) (K gL m h) (v.op==3) (∃(I:VV×VV->Prop),aA (∃(o:OV),oA (λd r=>aA (vC v.left s=vC o d) (bP h d r) (aA (∃(e:OV),oA (λt f=>aA (vC v.right s=vC e t) (bP h t f) ((∃(x:VV×VV),aA (I x) iM (aA (eP 7) hU (aA (lS v) (lF r o x.1) (aA (lF f e x.2) (m=m) (bX h h)))))/\∃(x:VV×VV),aA (I x) iM (aA (eP 7) hU (aA (lS v) (lF r o x.1) (aA (lF f e x.2) (m=m) (bX h h))))))) (wD v s h I (λx=>lF r o x.1) (λe f x=>lF f e x.2) m/\wD v s h I (λx=>lF r o x.1) (λe f x=>lF f e x.2) m) (wD v s h I (λx=>lF r o x.1) (λe f x=>lF f e x.2) m/\wD v s h I (λx=>lF r o x.1) (λe f x=>lF f e x.2) m)))) ((∃(o:OV),oA (λd r=>aA
 (vC v.left s=vC o d) (bP h d r) (wD v s h I (λx=>lF r o x.1) (λe f x=>lF f e x.2) m/\wD v s h I (λx=>lF r o x.1) (λe f x=>lF f e x.2) m)))/\∃(o:OV),oA (λd r=>aA (vC v.left s=vC o d) (bP h d r) (wD v s h I (λx=>lF r o x.1) (λe f x=>lF f e x.2) m))) ((∃(o:OV),oA (λd r=>aA (vC v.left s=vC o d) (bP h d r) (wD v s h I (λx=>lF r o x.1) (λe f x=>lF f e x.2) m/\wD v s h I (λx=>lF r o x.1) (λe f x=>lF f e x.2) m)))/\∃(o:OV),oA (λd r=>aA (vC v.left s=vC o d) (bP h d r) (wD v s h I (λx=>lF r o x.1) (λe f x=>lF f e x.2) m)))/\∀(x:VV×VV),I x->∃(g:VV),gK (qD x.1=qD g) (!(l9 g)) (K aX m h) (∃(u:
 VV),qD x.2=qD u/\dN (!(l9 u)) (K aX m h) (x.1.kind !=x.2.kind) (K aX m h) (yX v.cmp (λo=>dN (o==1) (D1 x (λc=>K (Ah (c==0)) m h)) (o==2) (D1 x (λc=>K (Ah (c !=0)) m h)) (dN (o==3) (D1 x (λc=>K (Ah (decide (c<0))) m h)) (o==4) (D1 x (λc=>K (Ah (decide (c<=0))) m h)) (dN (o==5) (D1 x (λc=>K (Ah (decide (c>0))) m h)) (o==6) (D1 x (λc=>K (Ah (decide (c>=0))) m h)) (K aX m h))))))) (dN (v.op==4) (nR (λI x=>aA (I x) (aH s) (aA (eQ sQn) (aH v.args) (aA (rP v) (bC x) (aA (m=m) (h=h) True)))) (λI n x=>I x->aZ (↑x:Int) (aG v.args) (aK (λb o=>aA (aL v.args.a b o) (0<=(↑x:Int)) ((↑x:Int)<aG v.args/\∃(y:PV),aJ m h b (bK o x 13) y.enc/\Gt (λg d p r=>aA
 (wP y s=wP g d) (eW h p g) (aA (bP h d r) (pU p N) (mA (lM r p) (K aX m h) (∃(j:Nat),aA (I j) (n j<n x) (aA (aH s) (eQ sQn) (aA (aH v.args) (bG v.args) (aA (bD (fP (bE x 1)) j) (m=m) (bX h h))))))))))) (K gL m h))) (v.op==5) (nR (λI x=>aA (I x) (aH s) (aA (eQ sQn) (aH v.args) (aA (rP v) (bC x) (aA (m=m) (h=h) True)))) (λI n x=>I x->aZ (↑x:Int) (aG v.args) (aK (λb o=>aA (aL v.args.a b o) (0<=(↑x:Int)) ((↑x:Int)<aG v.args/\∃(y:PV),aJ m h b (bK o x 13) y.enc/\Gt (λg d p r=>aA (wP y s=wP g d) (eW h p g) (aA (bP h d r) (pU p N) (branch (lM r p) (K gL m h) (∃(j:Nat),aA (I j) (n j<n x) (aA (aH s) (eQ sQn) (aA (aH v.args) (bG v.args) (aA (bD (fP
 (bE x 1)) j) (m=m) (bX h h))))))))))) (K aX m h))) (eD v.op 6 (dZ (aG v.args) 0 (aK (λb o=>aA (aL v.args.a b o) ((0:Int)<=0) (0<aG v.args/\∃(y:PV),aJ m h b (o+0) y.enc/\Gt (λg d p r=>aA (wP y s=wP g d) (eW h p g) (aA (bP h d r) (pU p N) (K (CV.val (Value.bool (!(lM r p)))) m h)))))) (K aX m h)) (K aX m h)))
theorem X2:bk 167 DenS:=by
 refine iB func167 ?_;rintro y m h K ⟨o,s,r,rfl,t,c⟩;refine⟨dG [] [] [] [] false,rfl,aF,Rn o s m h K,bf,?_⟩;dsimp only[Rn,push_cast];have z:=bN.slen t;unfold O9 at c;refine aB (λd=>?_) (λd=>aB (λg=>?_) (λg=>aB (λf=>?_) (λf=>?_)))
 .rw[if_pos (bj d)]at c;exact c
 .have g:o.kind=2:=bj g
  rw[if_neg aC,if_neg aC]at c;exact aE (λ_=>c) (λu=>aE (λ_=>c) (λj=>absurd (show o.index>=((0:Nat):Int)by omega) j))
 .have d:o.kind≠3:=bj d
  have f:o.kind=1:=bj f
  rw[if_neg d]at c;refine aE (λu=>?_) (λu=>aE (λj=>?_) (λj=>?_))
  .rw[if_neg aC]at c;exact c
  .rw[if_neg aC]at c;exact c
  .rw[if_pos ⟨f,aC,aC⟩]at c
   have A:r[o.index.toNat]? =some (r.getD o.index.toNat zeroV):=by
    rw[getD_eq_getElem?_getD,getElem?_eq_getElem aC];simp
   obtain⟨b,n,v,e,rd,rfl⟩:=bN.at t A;exact⟨b,n,e,aC,aC,_,.imm rd,c⟩
 .have d:o.kind≠3:=bj d
  have f:o.kind≠1:=bj f
  rw[if_neg d,if_neg (λe=>f e.1)]at c;exact c
theorem X1:bk 169 bJZ:=by
 refine ED func169 ?_;rintro t m h K ⟨op,rfl,f⟩;refine⟨pF [] [] [] [] [247] [] false,rfl,aF,KY op m h (kA h K),bf,?_⟩;show KY op m h (kA h K);dsimp only[KY,push_cast];intro b I n g;refine⟨_,_,⟨g.at_⟩,bh,λu j=>?_⟩;have c:Sub m u:=((Sub.refl m).upd n.m_ g.other).upd n.m_ j.other;have e:=j.at_
 have d:∀k,¬(1<=op/\op<=6)->op=k->K (.val .nilFunc) m h:=λk J _=>by
  have:(op==1)=false/\(op==2)=false/\(op==3)=false/\(op==4)=false/\(op==5)=false/\(op==6)=false:=by
   simp only[beq_eq_false_iff_ne];omega
  obtain⟨y,z,A,D,E,F⟩:=this;rw[y,z,A,D,E,F]at f;exact f
 refine aE (λG=>.sub c (d _ aC rfl)) (λG=>aE (λH=>.sub c (d _ aC rfl)) (λH=>⟨aC,aC,?_⟩));have:op=0\/op=1\/op=2\/op=3\/op=4\/op=5\/op=6:=by omega
 rcases this with rfl|rfl|rfl|rfl|rfl|rfl|rfl
 .exact⟨none,.lent _ _ _ e rfl,.sub c (d 0 aC rfl)⟩
 .exact⟨some 196,.lent _ _ _ e rfl,.sub c f⟩
 .exact⟨some 197,.lent _ _ _ e rfl,.sub c f⟩
 .exact⟨some 198,.lent _ _ _ e rfl,.sub c f⟩
 .exact⟨some 199,.lent _ _ _ e rfl,.sub c f⟩
 .exact⟨some 200,.lent _ _ _ e rfl,.sub c f⟩
 .exact⟨some 201,.lent _ _ _ e rfl,.sub c f⟩
theorem XF:bk 196 (Mr (λc=>c==0)):=by
 refine iB func196 ?_;rintro d m h K ⟨c,rfl,e⟩;refine⟨dG [] [] [] [] false,rfl,aF,awZ c m h K,bf,?_⟩;exact e
theorem XE:bk 197 (Mr (λc=>c !=0)):=by
 refine iB func197 ?_;rintro d m h K ⟨c,rfl,e⟩;refine⟨dG [] [] [] [] false,rfl,aF,awX c m h K,bf,?_⟩;exact e
theorem XD:bk 198 (Mr (λc=>decide (c<0))):=by
 refine iB func198 ?_;rintro d m h K ⟨c,rfl,e⟩;refine⟨dG [] [] [] [] false,rfl,aF,awQ c m h K,bf,?_⟩;exact e
theorem XC:bk 199 (Mr (λc=>decide (c<=0))):=by
 refine iB func199 ?_;rintro d m h K ⟨c,rfl,e⟩;refine⟨dG [] [] [] [] false,rfl,aF,avJ c m h K,bf,?_⟩;exact e
theorem XB:bk 200 (Mr (λc=>decide (c>0))):=by
 refine iB func200 ?_;rintro d m h K ⟨c,rfl,e⟩;refine⟨dG [] [] [] [] false,rfl,aF,avX c m h K,bf,?_⟩;exact e
theorem XA:bk 201 (Mr (λc=>decide (c>=0))):=by
 refine iB func201 ?_;rintro d m h K ⟨c,rfl,e⟩;refine⟨dG [] [] [] [] false,rfl,aF,avQ c m h K,bf,?_⟩;exact e
theorem VS:∀N,bk 122 (bfZ N)
 |0=>by
  refine eV (fn:=Tryz.f122) (c:=cC Tryz.f122) func122 rfl bh ?_;rintro W m h K ⟨v,s,p,r,rfl,_,_,hN,_⟩;omega
 |N+1=>by
  refine iB func122 ?_;rintro W m h K ⟨v,s,p,r,rfl,hp,L,hN,d⟩;refine⟨a0J N v s m h,rfl,aD X2 (aD EH (aD X1 (aD HG (aD (VS N) (aD XF (aD XE (aD XD (aD XC (aD XB (aD XA aF)))))))))),RO N v s m h K,bf,?_⟩;dsimp only[RO,push_cast];have D:=@Ai p;obtain⟨op,a1,l,q,ps⟩:=p;obtain⟨rfl,rfl,rfl,rfl,M⟩:=hp.parts;have X:=M.slen;have a0:=M.len;simp only[Pred.args]at D;simp only[lM]at d;refine aB (λY=>?_) (λY=>aB (λZ=>?_) (λZ=>aB (λh4=>?_) (λh4=>aB (λh5=>?_) (λh5=>aB (λh6=>?_) (λh6=>?_)))))
  .rw[if_pos (bj Y)]at d;exact d
  all_goals have n1:v.op≠1:=bj Y
  .rw[if_neg n1,if_pos (bj Z)]at d;refine⟨λx=>x=(O9 r v.left,O9 r v.right),?_,?_⟩
   .repeat' (first|exact⟨_,rfl,MT⟩|refine⟨v.left,s,r,rfl,L,?_⟩|refine⟨v.right,s,r,rfl,L,?_⟩|refine And.intro ?_ ?_)
   .rintro⟨a,b⟩ O;simp only[Prod.mk.injEq]at O;obtain⟨rfl,rfl⟩:=O;generalize O9 r v.left=a at d⊢
    generalize O9 r v.right=b at d⊢
    have hf:HE v.cmp a b=false->K (cB false) m h:=λe=>by rw[e]at d;exact d
    refine⟨a,rfl,aB (λt=>hf ?_) (λt=>⟨b,rfl,aB (λH=>hf ?_) (λH=>aB (λA=>hf ?_) (λA=>⟨v.cmp,rfl,?_⟩))⟩)⟩
    .have t:l9 a=false:=bj t
     simp[HE,t]
    .have H:l9 b=false:=bj H
     simp[HE,H]
    .have A:a.kind≠b.kind:=bj A
     simp[HE,A]
    .have t:l9 a=true:=bj t
     have H:l9 b=true:=bj H
     have A:a.kind=b.kind:=bj A
     have P:HE v.cmp a b=aFX v.cmp (lZ a b):=by simp[HE,t,H,A]
     rw[P]at d;unfold aFX at d;refine aB (λG=>?_) (λG=>aB (λI=>?_) (λI=>aB (λJ=>?_) (λJ=>aB (λQ=>?_) (λQ=>aB (λV=>?_) (λV=>aB (λc6=>?_) (λc6=>?_))))))
     all_goals simp only[beq_iff_eq,beq_eq_false_iff_ne]at*
     .rw[if_pos G]at d;exact⟨a,b,rfl,_,rfl,d⟩
     .rw[if_neg G,if_pos I]at d;exact⟨a,b,rfl,_,rfl,d⟩
     .rw[if_neg G,if_neg I,if_pos J]at d;exact⟨a,b,rfl,_,rfl,d⟩
     .rw[if_neg G,if_neg I,if_neg J,if_pos Q]at d;exact⟨a,b,rfl,_,rfl,d⟩
     .rw[if_neg G,if_neg I,if_neg J,if_neg Q,if_pos V]at d;exact⟨a,b,rfl,_,rfl,d⟩
     .rw[if_neg G,if_neg I,if_neg J,if_neg Q,if_neg V,if_pos c6]at d;exact⟨a,b,rfl,_,rfl,d⟩
     .rw[if_neg G,if_neg I,if_neg J,if_neg Q,if_neg V,if_neg c6]at d;exact d
  all_goals have n3:v.op≠3:=bj Z
  all_goals rw[if_neg n1,if_neg n3]at d
  .rw[if_pos (bj h4),L0]at d;refine⟨λi=>i<=ps.length/\∀j:Nat,j<i->∀x,ps[j]? =some x->lM r x=true,λi=>ps.length-i,⟨0,⟨aC,λj E=>by omega⟩,MT⟩,λi⟨hi,f⟩=>aE (λg=>?_) (λa'=>?_)⟩
   .obtain⟨x,n⟩:=eN X g;obtain⟨R,S,u,t,T,U⟩:=M.at n;have:=D (mem_of_getElem? n);refine⟨R,S,t,aC,g,u,.imm T,u,s,x,r,rfl,U,L,aC,aB (λF=>?_) (λhe=>⟨i+1,⟨aC,λj E y z=>?_⟩,(show ps.length-(i+1)<ps.length-i by omega),MT⟩)⟩
    .have:ps.all (lM r)=false:=by
      cases A:ps.all (lM r)with
      |false=>rfl
      |true=>rw[all_eq_true]at A;rw[A x (mem_of_getElem? n)]at F;cases F
     rw[this]at d;exact d
    .by_cases P:j=i
     .subst P;rw[n]at z;cases z;simpa using he
     .exact f j aC y z
   .have:ps.all (lM r)=true:=by
     rw[all_eq_true];intro y z;obtain⟨j,E⟩:=getElem?_of_mem z;exact f j (by have:=(List.getElem?_eq_some_iff.1 E).1;omega) y E
    rw[this]at d;exact d
  all_goals have n4:v.op≠4:=bj h4
  all_goals rw[if_neg n4]at d
  .rw[if_pos (bj h5),LZ]at d;refine⟨λi=>i<=ps.length/\∀j:Nat,j<i->∀x,ps[j]? =some x->lM r x=false,λi=>ps.length-i,⟨0,⟨aC,λj E=>by omega⟩,MT⟩,λi⟨hi,f⟩=>aE (λg=>?_) (λa'=>?_)⟩
   .obtain⟨x,n⟩:=eN X g;obtain⟨R,S,u,t,T,U⟩:=M.at n;have:=D (mem_of_getElem? n);refine⟨R,S,t,aC,g,u,.imm T,u,s,x,r,rfl,U,L,aC,aB (λhe=>?_) (λF=>⟨i+1,⟨aC,λj E y z=>?_⟩,(show ps.length-(i+1)<ps.length-i by omega),MT⟩)⟩
    .have:ps.any (lM r)=true:=any_eq_true.2 ⟨x,mem_of_getElem? n,he⟩;rw[this]at d;exact d
    .by_cases P:j=i
     .subst P;rw[n]at z;cases z;exact F
     .exact f j aC y z
   .have:ps.any (lM r)=false:=by
     rw[any_eq_false];intro y z;obtain⟨j,E⟩:=getElem?_of_mem z;rw[f j (by have:=(List.getElem?_eq_some_iff.1 E).1;omega) y E];simp
    rw[this]at d;exact d
  all_goals have n5:v.op≠5:=bj h5
  all_goals rw[if_neg n5]at d
  .rw[if_pos (bj h6)]at d;refine aE (λh7=>?_) (λh7=>?_)
   .obtain⟨x,n⟩:=eN (i:=0) X aC;obtain⟨R,S,u,t,T,U⟩:=M.at n;have:=D (mem_of_getElem? n)
    have e7:UZ r ps= !lM r x:=by
     cases ps with
     |nil=>simp at n
     |cons y _=>simp at n;subst n;rfl
    rw[e7]at d;exact⟨R,S,t,aC,aC,u,.imm (bj T),u,s,x,r,rfl,U,L,aC,d⟩
   .have:ps=[]:=length_eq_zero_iff.1 aC;subst this;exact d
  .rw[if_neg (bj h6)]at d;exact d
theorem O3:bk 122 Y5:=pJ VS λ_ _ _ _⟨v,s,p,r,e,c,d,f⟩=>⟨SizeOf.sizeOf p+1,v,s,p,r,e,c,d,aC,f⟩
end Go.Ps
